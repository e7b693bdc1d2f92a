/-
  The law RectAreas: the walk.
-/
import Derived.Test.YtphleapmgkcpoaaRectAreas
namespace Go.Proofs.Ytphleapmgkcpoaa
open Go.RowKit
set_option linter.unusedVariables false

theorem grown_below {B g : Nat} {a b c : World} (h : Below B a b) (k : b.grownBy c (some g)) (hB : B ≤ b.heap.size) (hg : B ≤ g) : Below B a c :=
  h.grown k hB (fun x e => by injection e with e; omega)

set_option maxRecDepth 100000 in
set_option maxHeartbeats 4000000 in
theorem areas_walk (At : Option Addr) (nt ct : Nat) (ts : List Int) (w : World) (hts : IntsAt w w.heap.size At nt ts) (hnt : nt ≤ 9223372036854775807) :
    Calls Try.prog 3 #[.slice At nt ct] w fun e w' => e = .returned (.bool true) ∧ Below w.heap.size w w' := by
  have HN := hid (new_any At nt ct w)
  have ht0 : TapeAt w.heap.size w.heap.size (w.alloc (.cells #[.slice At nt ct, .int .i64 0] 46)) :=
    ⟨Nat.le_refl _, At, nt, ct, ts, 0, Blk.new w _ _, by omega, hnt, hts.below ((Below.refl _ _).alloc (Nat.le_refl _) _) (Nat.le_refl _)⟩
  have HT0 := hid ht0
  have HB0 : Hid (Below w.heap.size w (w.alloc (.cells #[.slice At nt ct, .int .i64 0] 46))) := (Below.refl _ _).alloc (Nat.le_refl _) _
  clear hts ht0
  go_enter Try.func3, Try.ntmps3
  go_wp2_with fail
  refine HN.out.mono ?_; rintro e w' ⟨rfl, rfl⟩
  go_wp2_with fail
  generalize w.alloc (.cells #[.slice At nt ct, .int .i64 0] 46) = W1 at *
  have hs0 := HB0.out.size
  refine (rect_any _ _ _ HT0.out).mono ?_
  rintro e w1 ⟨a, b, c, d, hna, rfl, ht, hg⟩
  have HB1 := hid (grown_below HB0.out hg hs0 (Nat.le_refl _))
  have HT1 := hid ht
  have HNA := hid hna
  have hs1 := HB1.out.size
  clear ht hg HT0 HB0 HN hna
  go_wp2_with fail
  refine (rect_any _ _ _ HT1.out).mono ?_
  rintro e w2 ⟨a2, b2, c2, d2, hnb, rfl, ht, hg⟩
  have HB2 := hid (grown_below HB1.out hg hs1 (Nat.le_refl _))
  have HNB := hid hnb
  have hs2 := HB2.out.size
  clear ht hg HT1 HB1 hnb hs0 hs1
  have HAW := hid ((Blk.new w2 26 #[.int .i64 a, .int .i64 b, .int .i64 c, .int .i64 d]).alloc (.cells #[.int .i64 a2, .int .i64 b2, .int .i64 c2, .int .i64 d2] 26))
  have HBW : Hid (Blk ((w2.alloc (.cells #[.int .i64 a, .int .i64 b, .int .i64 c, .int .i64 d] 26)).alloc (.cells #[.int .i64 a2, .int .i64 b2, .int .i64 c2, .int .i64 d2] 26)) (w2.heap.size + 1) 26 #[.int .i64 a2, .int .i64 b2, .int .i64 c2, .int .i64 d2]) := blk1 w2 _ _
  have HWW := hid ((HB2.out.alloc hs2 (.cells #[.int .i64 a, .int .i64 b, .int .i64 c, .int .i64 d] 26)).alloc (by simp <;> omega) (.cells #[.int .i64 a2, .int .i64 b2, .int .i64 c2, .int .i64 d2] 26))
  go_wp2_with fail
  generalize (w2.alloc (.cells #[.int .i64 a, .int .i64 b, .int .i64 c, .int .i64 d] 26)).alloc (.cells #[.int .i64 a2, .int .i64 b2, .int .i64 c2, .int .i64 d2] 26) = W at *
  generalize w2.heap.size = gA at *
  obtain ⟨ka0, ka1, ka2, ka3, _, _, _, _⟩ := HAW.out.cells4
  obtain ⟨kb0, kb1, kb2, kb3, _, _, _, _⟩ := HBW.out.cells4
  by_cases hv : ValidP ⟨a, b, c, d⟩
  · have C1 := fun w => rvalid_any a b c d w
    rw [validB_t hv] at C1
    have HC1 := hid C1
    clear C1
    by_cases hv2 : ValidP ⟨a2, b2, c2, d2⟩
    · have C2 := fun w => rvalid_any a2 b2 c2 d2 w
      rw [validB_t hv2] at C2
      have HC2 := hid C2
      have L1 := hid (areas_law a b c d a2 b2 c2 d2 hv hv2)
      have L2 := hid (inside_law a b c d a2 b2 c2 d2 hv hv2)
      clear C2 hv hv2
      refine (HC1.out _).mono ?_
      rintro e v1 ⟨rfl, hb⟩
      clear ka0 ka1 ka2 ka3 kb0 kb1 kb2 kb3
      have HAv1 := hid (HAW.out.after hb)
      have HBv1 := hid (HBW.out.after hb)
      have HWv1 := hid (HWW.out.trans (hb.mono HWW.out.size))
      obtain ⟨ka0, ka1, ka2, ka3, _, _, _, _⟩ := HAv1.out.cells4
      obtain ⟨kb0, kb1, kb2, kb3, _, _, _, _⟩ := HBv1.out.cells4
      clear hb HAW HBW HWW
      go_wp2_with fail
      refine (HC2.out _).mono ?_
      rintro e v2 ⟨rfl, hb⟩
      clear ka0 ka1 ka2 ka3 kb0 kb1 kb2 kb3
      have HAv2 := hid (HAv1.out.after hb)
      have HBv2 := hid (HBv1.out.after hb)
      have HWv2 := hid (HWv1.out.trans (hb.mono HWv1.out.size))
      obtain ⟨ka0, ka1, ka2, ka3, _, _, _, _⟩ := HAv2.out.cells4
      obtain ⟨kb0, kb1, kb2, kb3, _, _, _, _⟩ := HBv2.out.cells4
      clear hb HAv1 HBv1 HWv1
      go_wp2_with fail
      refine (sub_any a b c d a2 b2 c2 d2 _).mono ?_
      rintro e v3 ⟨A, n, cp, rfl, hn4, hr, hb⟩
      clear ka0 ka1 ka2 ka3 kb0 kb1 kb2 kb3
      have HAv3 := hid (HAv2.out.after hb)
      have HBv3 := hid (HBv2.out.after hb)
      have HWv3 := hid (HWv2.out.trans (hb.mono HWv2.out.size))
      have HR := hid hr
      clear hr
      obtain ⟨ka0, ka1, ka2, ka3, _, _, _, _⟩ := HAv3.out.cells4
      obtain ⟨kb0, kb1, kb2, kb3, _, _, _, _⟩ := HBv3.out.cells4
      clear hb HAv2 HBv2 HWv2
      generalize hI : interS ⟨a, b, c, d⟩ ⟨a2, b2, c2, d2⟩ = I at *
      generalize hrs : subS ⟨a, b, c, d⟩ ⟨a2, b2, c2, d2⟩ = rs at *
      obtain ⟨e0, e1, e2, e3⟩ := I
      have CI := fun w => inter_any a b c d a2 b2 c2 d2 w
      rw [hI] at CI
      have HI := hid CI
      clear CI hI hrs
      go_wp2_with fail
      refine (HI.out _).mono ?_
      rintro e v4 ⟨rfl, hb⟩
      clear ka0 ka1 ka2 ka3 kb0 kb1 kb2 kb3
      have HAv4 := hid (HAv3.out.after hb)
      have HBv4 := hid (HBv3.out.after hb)
      have HWv4 := hid (HWv3.out.trans (hb.mono HWv3.out.size))
      have HR4 := hid (HR.out.below hb (Nat.le_refl _))
      obtain ⟨ka0, ka1, ka2, ka3, _, _, _, _⟩ := HAv4.out.cells4
      obtain ⟨kb0, kb1, kb2, kb3, _, _, _, _⟩ := HBv4.out.cells4
      have hz34 := hb.size
      clear hb HR HAv3 HBv3 HWv3
      go_wp2_with fail
      refine (area_any e0 e1 e2 e3 _).mono ?_
      rintro e v5 ⟨rfl, hb⟩
      clear ka0 ka1 ka2 ka3 kb0 kb1 kb2 kb3
      have HAv5 := hid (HAv4.out.after hb)
      have HBv5 := hid (HBv4.out.after hb)
      have HWv5 := hid (HWv4.out.trans (hb.mono HWv4.out.size))
      have HR5 := hid (HR4.out.below hb hz34)
      obtain ⟨ka0, ka1, ka2, ka3, _, _, _, _⟩ := HAv5.out.cells4
      obtain ⟨kb0, kb1, kb2, kb3, _, _, _, _⟩ := HBv5.out.cells4
      have hz45 := hb.size
      clear hb HR4 HAv4 HBv4 HWv4
      have i1 := areaS_nonneg ⟨e0, e1, e2, e3⟩
      have i2 := areaS_le ⟨e0, e1, e2, e3⟩
      generalize areaS ⟨e0, e1, e2, e3⟩ = ar at *
      have HLEN := hid HR5.out.1
      have hs35 : v3.heap.size ≤ v5.heap.size := by omega
      have ht4 := areaS_le ⟨a, b, c, d⟩
      go_wp2
      go_loopw [7, 8] (fun s i wr => ∃ (k : Nat) (m : Int), k ≤ n ∧ i = .int .i64 k ∧ s = .int .i64 m ∧ 0 ≤ m ∧ m + sumA (rs.drop k) = areaS ⟨a, b, c, d⟩ ∧ Below v5.heap.size v5 wr) (fun _ i _ => n - (intOf i).toNat)
      case atStart => exact ⟨0, ar, by omega, rfl, rfl, i1, L1.out, Below.refl _ _⟩
      case round =>
        obtain ⟨k, m, hk, rfl, rfl, hm0, hms, hb⟩ := hrel
        have HMS := hid hms
        have HBL := hid hb
        have HRW := hid (HR5.out.below hb hs35)
        have HAwr := hid (HAv5.out.after hb)
        have HBwr := hid (HBv5.out.after hb)
        have HWwr := hid (HWv5.out.trans (hb.mono HWv5.out.size))
        have hsum := sumA_nonneg (rs.drop k)
        have hm1 : m ≤ 4398046511104 := by omega
        clear hms hb ka0 ka1 ka2 ka3 kb0 kb1 kb2 kb3 hsum
        obtain ⟨ka0, ka1, ka2, ka3, _, _, _, _⟩ := HAwr.out.cells4
        obtain ⟨kb0, kb1, kb2, kb3, _, _, _, _⟩ := HBwr.out.cells4
        by_cases hlt : k < n
        · obtain ⟨gR, hA, hgR, hcc⟩ := HRW.out.2 (by omega)
          have hg1 : rs[k]? = some (rs[k]'(by have := HLEN.out; omega)) := List.getElem?_eq_getElem _
          obtain ⟨q0, q1, q2, q3⟩ := hcc k _ hg1
          have hd := drop_cons_of hg1
          generalize rs[k]'(by have := HLEN.out; omega) = r at *
          subst hA
          have HD := hid hd
          have ha0 := areaS_nonneg r
          have ha1 := areaS_le r
          have CR := fun w => area_any r.x0 r.y0 r.x1 r.y1 w
          have er : (⟨r.x0, r.y0, r.x1, r.y1⟩ : Rc) = r := rfl
          rw [er] at CR
          have HCR := hid CR
          clear hcc hg1 hd CR er
          go_wp2_with fail
          refine (HCR.out _).mono ?_
          rintro e x1 ⟨rfl, hb⟩
          have HX := hid (HBL.out.trans (hb.mono HBL.out.size))
          clear hb
          go_wp2
          go_roundw
          case rel => exact ⟨k + 1, m + areaS r, by omega, by go_num, rfl, by omega, by rw [← HMS.out, HD.out]; simp only [sumA]; omega, HX.out⟩
          case measure => simp [intOf] <;> omega
        · have e : k = n := by omega
          subst e
          have hd : rs.drop k = [] := by rw [List.drop_eq_nil_iff]; have := HLEN.out; omega
          have e1 := HMS.out
          rw [hd] at e1
          simp only [sumA, Int.add_zero] at e1
          have CA := fun w => area_any a b c d w
          rw [← e1] at CA
          have HCA := hid CA
          have CN := fun w => inside_any a b c d a2 b2 c2 d2 w
          rw [L2.out, HLEN.out] at CN
          clear CA e1 hd
          by_cases hk0 : k = 0
          · have b1 : ((k : Int) == 0) = true := by simp [hk0]
            rw [decide_eq_true hk0] at CN
            have HCN := hid CN
            clear CN hk0
            go_wp2_with fail
            refine (HCA.out _).mono ?_
            rintro e x1 ⟨rfl, hb⟩
            clear ka0 ka1 ka2 ka3 kb0 kb1 kb2 kb3
            have HAx1 := hid (HAwr.out.after hb)
            have HBx1 := hid (HBwr.out.after hb)
            have HWx1 := hid (HWwr.out.trans (hb.mono HWwr.out.size))
            obtain ⟨ka0, ka1, ka2, ka3, _, _, _, _⟩ := HAx1.out.cells4
            obtain ⟨kb0, kb1, kb2, kb3, _, _, _, _⟩ := HBx1.out.cells4
            clear hb HAwr HBwr HWwr
            go_wp2_with fail
            refine (HCN.out _).mono ?_
            rintro e x2 ⟨rfl, hb⟩
            clear ka0 ka1 ka2 ka3 kb0 kb1 kb2 kb3
            have HAx2 := hid (HAx1.out.after hb)
            have HBx2 := hid (HBx1.out.after hb)
            have HWx2 := hid (HWx1.out.trans (hb.mono HWx1.out.size))
            obtain ⟨ka0, ka1, ka2, ka3, _, _, _, _⟩ := HAx2.out.cells4
            obtain ⟨kb0, kb1, kb2, kb3, _, _, _, _⟩ := HBx2.out.cells4
            clear hb HAx1 HBx1 HWx1
            go_wp2_with (go_at_call 10; refine (sane_any _).mono ?_; rintro e w' ⟨rfl, hg⟩)
            go_ret
            exact ⟨rfl, HWx2.out.trans (hg.mono HWx2.out.size)⟩
          · have b1 : ((k : Int) == 0) = false := by simp [hk0]
            rw [decide_eq_false hk0] at CN
            have HCN := hid CN
            clear CN hk0
            go_wp2_with fail
            refine (HCA.out _).mono ?_
            rintro e x1 ⟨rfl, hb⟩
            clear ka0 ka1 ka2 ka3 kb0 kb1 kb2 kb3
            have HAx1 := hid (HAwr.out.after hb)
            have HBx1 := hid (HBwr.out.after hb)
            have HWx1 := hid (HWwr.out.trans (hb.mono HWwr.out.size))
            obtain ⟨ka0, ka1, ka2, ka3, _, _, _, _⟩ := HAx1.out.cells4
            obtain ⟨kb0, kb1, kb2, kb3, _, _, _, _⟩ := HBx1.out.cells4
            clear hb HAwr HBwr HWwr
            go_wp2_with fail
            refine (HCN.out _).mono ?_
            rintro e x2 ⟨rfl, hb⟩
            clear ka0 ka1 ka2 ka3 kb0 kb1 kb2 kb3
            have HAx2 := hid (HAx1.out.after hb)
            have HBx2 := hid (HBx1.out.after hb)
            have HWx2 := hid (HWx1.out.trans (hb.mono HWx1.out.size))
            obtain ⟨ka0, ka1, ka2, ka3, _, _, _, _⟩ := HAx2.out.cells4
            obtain ⟨kb0, kb1, kb2, kb3, _, _, _, _⟩ := HBx2.out.cells4
            clear hb HAx1 HBx1 HWx1
            go_wp2_with (go_at_call 10; refine (sane_any _).mono ?_; rintro e w' ⟨rfl, hg⟩)
            go_ret
            exact ⟨rfl, HWx2.out.trans (hg.mono HWx2.out.size)⟩
    · have C2 := fun w => rvalid_any a2 b2 c2 d2 w
      rw [validB_f hv2] at C2
      have HC2 := hid C2
      clear C2 hv hv2
      refine (HC1.out _).mono ?_
      rintro e v1 ⟨rfl, hb⟩
      clear ka0 ka1 ka2 ka3 kb0 kb1 kb2 kb3
      have HAv1 := hid (HAW.out.after hb)
      have HBv1 := hid (HBW.out.after hb)
      have HWv1 := hid (HWW.out.trans (hb.mono HWW.out.size))
      obtain ⟨ka0, ka1, ka2, ka3, _, _, _, _⟩ := HAv1.out.cells4
      obtain ⟨kb0, kb1, kb2, kb3, _, _, _, _⟩ := HBv1.out.cells4
      clear hb HAW HBW HWW
      go_wp2_with fail
      refine (HC2.out _).mono ?_
      rintro e v2 ⟨rfl, hb⟩
      clear ka0 ka1 ka2 ka3 kb0 kb1 kb2 kb3
      have HAv2 := hid (HAv1.out.after hb)
      have HBv2 := hid (HBv1.out.after hb)
      have HWv2 := hid (HWv1.out.trans (hb.mono HWv1.out.size))
      obtain ⟨ka0, ka1, ka2, ka3, _, _, _, _⟩ := HAv2.out.cells4
      obtain ⟨kb0, kb1, kb2, kb3, _, _, _, _⟩ := HBv2.out.cells4
      clear hb HAv1 HBv1 HWv1
      go_wp2_with (go_at_call 10; refine (sane_any _).mono ?_; rintro e w' ⟨rfl, hg⟩)
      go_ret
      exact ⟨rfl, HWv2.out.trans (hg.mono HWv2.out.size)⟩
  · have C1 := fun w => rvalid_any a b c d w
    rw [validB_f hv] at C1
    have HC1 := hid C1
    clear C1 hv
    refine (HC1.out _).mono ?_
    rintro e v1 ⟨rfl, hb⟩
    clear ka0 ka1 ka2 ka3 kb0 kb1 kb2 kb3
    have HAv1 := hid (HAW.out.after hb)
    have HBv1 := hid (HBW.out.after hb)
    have HWv1 := hid (HWW.out.trans (hb.mono HWW.out.size))
    obtain ⟨ka0, ka1, ka2, ka3, _, _, _, _⟩ := HAv1.out.cells4
    obtain ⟨kb0, kb1, kb2, kb3, _, _, _, _⟩ := HBv1.out.cells4
    clear hb HAW HBW HWW
    go_wp2_with (go_at_call 10; refine (sane_any _).mono ?_; rintro e w' ⟨rfl, hg⟩)
    go_ret
    exact ⟨rfl, HWv1.out.trans (hg.mono HWv1.out.size)⟩
end Go.Proofs.Ytphleapmgkcpoaa
