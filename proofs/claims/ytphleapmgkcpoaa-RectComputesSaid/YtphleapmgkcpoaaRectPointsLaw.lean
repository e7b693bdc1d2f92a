/-
  The law RectPoints: the walk.
-/
import Derived.Test.YtphleapmgkcpoaaRectAreasLaw
import Derived.Test.YtphleapmgkcpoaaRectPlain2
namespace Go.Proofs.Ytphleapmgkcpoaa
open Go.RowKit
set_option linter.unusedVariables false

set_option maxRecDepth 100000 in
set_option maxHeartbeats 4000000 in
theorem points_walk (At : Option Addr) (nt ct : Nat) (ts : List Int) (w : World) (hts : IntsAt w w.heap.size At nt ts) (hnt : nt ≤ 9223372036854775807) (x : Int) (hx1 : -9223372036854775808 ≤ x) (hx2 : x ≤ 9223372036854775807) (y : Int) (hy1 : -9223372036854775808 ≤ y) (hy2 : y ≤ 9223372036854775807) :
    Calls Try.prog 4 #[.slice At nt ct, .int .i64 x, .int .i64 y] w fun e w' => e = .returned (.bool true) ∧ Below w.heap.size w w' := by
  have cx := fun w => mod_any x 14 w hx1 hx2 (by omega) (by omega)
  have cy := fun w => mod_any y 14 w hy1 hy2 (by omega) (by omega)
  have hxm1 : 0 ≤ x % 14 := by omega
  have hxm2 : x % 14 < 14 := by omega
  have hym1 : 0 ≤ y % 14 := by omega
  have hym2 : y % 14 < 14 := by omega
  generalize x % 14 = xm at *
  generalize y % 14 = ym at *
  have CX := hid cx
  have CY := hid cy
  clear cx cy
  have HN := hid (new_any At nt ct w)
  have ht0 : TapeAt w.heap.size w.heap.size (w.alloc (.cells #[.slice At nt ct, .int .i64 0] 46)) :=
    ⟨Nat.le_refl _, At, nt, ct, ts, 0, Blk.new w _ _, by omega, hnt, hts.below ((Below.refl _ _).alloc (Nat.le_refl _) _) (Nat.le_refl _)⟩
  have HT0 := hid ht0
  have HB0 : Hid (Below w.heap.size w (w.alloc (.cells #[.slice At nt ct, .int .i64 0] 46))) := (Below.refl _ _).alloc (Nat.le_refl _) _
  clear hts ht0
  go_enter Try.func4, Try.ntmps4
  go_wp2_with fail
  refine HN.out.mono ?_; rintro e w' ⟨rfl, rfl⟩
  go_wp2_with fail
  generalize w.alloc (.cells #[.slice At nt ct, .int .i64 0] 46) = W1 at *
  have hs0 := HB0.out.size
  refine (rect_any _ _ _ HT0.out).mono ?_
  rintro e w1 ⟨a, b, c, d, hna, rfl, ht, hg⟩
  have HB1 := hid (grown_below HB0.out hg hs0 (Nat.le_refl _))
  have HT1 := hid ht
  have HNA := hid hna
  have hs1 := HB1.out.size
  clear ht hg HT0 HB0 HN hna
  go_wp2_with fail
  refine (rect_any _ _ _ HT1.out).mono ?_
  rintro e w2 ⟨a2, b2, c2, d2, hnb, rfl, ht, hg⟩
  have HB2 := hid (grown_below HB1.out hg hs1 (Nat.le_refl _))
  have HNB := hid hnb
  have hs2 := HB2.out.size
  clear ht hg HT1 HB1 hnb hs0 hs1
  have HAW := hid ((Blk.new w2 26 #[.int .i64 a, .int .i64 b, .int .i64 c, .int .i64 d]).alloc (.cells #[.int .i64 a2, .int .i64 b2, .int .i64 c2, .int .i64 d2] 26))
  have HBW : Hid (Blk ((w2.alloc (.cells #[.int .i64 a, .int .i64 b, .int .i64 c, .int .i64 d] 26)).alloc (.cells #[.int .i64 a2, .int .i64 b2, .int .i64 c2, .int .i64 d2] 26)) (w2.heap.size + 1) 26 #[.int .i64 a2, .int .i64 b2, .int .i64 c2, .int .i64 d2]) := blk1 w2 _ _
  have HWW := hid ((HB2.out.alloc hs2 (.cells #[.int .i64 a, .int .i64 b, .int .i64 c, .int .i64 d] 26)).alloc (by simp <;> omega) (.cells #[.int .i64 a2, .int .i64 b2, .int .i64 c2, .int .i64 d2] 26))
  go_wp2_with fail
  generalize (w2.alloc (.cells #[.int .i64 a, .int .i64 b, .int .i64 c, .int .i64 d] 26)).alloc (.cells #[.int .i64 a2, .int .i64 b2, .int .i64 c2, .int .i64 d2] 26) = W at *
  generalize w2.heap.size = gA at *
  obtain ⟨ka0, ka1, ka2, ka3, _, _, _, _⟩ := HAW.out.cells4
  obtain ⟨kb0, kb1, kb2, kb3, _, _, _, _⟩ := HBW.out.cells4
  by_cases hv : ValidP ⟨a, b, c, d⟩
  · have C1 := fun w => rvalid_any a b c d w
    rw [validB_t hv] at C1
    have HC1 := hid C1
    clear C1
    by_cases hv2 : ValidP ⟨a2, b2, c2, d2⟩
    · have C2 := fun w => rvalid_any a2 b2 c2 d2 w
      rw [validB_t hv2] at C2
      have HC2 := hid C2
      have L1 := hid (inter_points a b c d a2 b2 c2 d2 (xm - 4) (ym - 4) hv hv2)
      have L2 := hid (hull_points a b c d a2 b2 c2 d2 (xm - 4) (ym - 4) hv hv2)
      have L3 := hid (sub_points a b c d a2 b2 c2 d2 (xm - 4) (ym - 4) hv hv2)
      clear C2 hv hv2
      refine (HC1.out _).mono ?_
      rintro e v1 ⟨rfl, hb⟩
      clear ka0 ka1 ka2 ka3 kb0 kb1 kb2 kb3
      have HAv1 := hid (HAW.out.after hb)
      have HBv1 := hid (HBW.out.after hb)
      have HWv1 := hid (HWW.out.trans (hb.mono HWW.out.size))
      obtain ⟨ka0, ka1, ka2, ka3, _, _, _, _⟩ := HAv1.out.cells4
      obtain ⟨kb0, kb1, kb2, kb3, _, _, _, _⟩ := HBv1.out.cells4
      clear hb HAW HBW HWW
      go_wp2_with fail
      refine (HC2.out _).mono ?_
      rintro e v2 ⟨rfl, hb⟩
      clear ka0 ka1 ka2 ka3 kb0 kb1 kb2 kb3
      have HAv2 := hid (HAv1.out.after hb)
      have HBv2 := hid (HBv1.out.after hb)
      have HWv2 := hid (HWv1.out.trans (hb.mono HWv1.out.size))
      obtain ⟨ka0, ka1, ka2, ka3, _, _, _, _⟩ := HAv2.out.cells4
      obtain ⟨kb0, kb1, kb2, kb3, _, _, _, _⟩ := HBv2.out.cells4
      clear hb HAv1 HBv1 HWv1
      go_wp2_with fail
      refine (CX.out _).mono ?_; rintro e w' ⟨rfl, rfl⟩
      go_wp2_with fail
      refine (CY.out _).mono ?_; rintro e w' ⟨rfl, rfl⟩
      go_upto_region 6 with fail
      generalize xm - 4 = u at *
      generalize ym - 4 = v at *
      have hstep : ∀ V, Blk V gA 26 #[.int .i64 a, .int .i64 b, .int .i64 c, .int .i64 d] → Blk V (gA + 1) 26 #[.int .i64 a2, .int .i64 b2, .int .i64 c2, .int .i64 d2] → Below w.heap.size w V → ∀ p0 p1 p2 p3 : Int, Calls Try.prog 16 #[.agg #[.int .i64 p0, .int .i64 p1, .int .i64 p2, .int .i64 p3], .int .i64 u, .int .i64 v] V fun e V' => e = .returned (.bool (containsB ⟨p0, p1, p2, p3⟩ u v)) ∧
          Hid (Blk V' gA 26 #[.int .i64 a, .int .i64 b, .int .i64 c, .int .i64 d] ∧ Blk V' (gA + 1) 26 #[.int .i64 a2, .int .i64 b2, .int .i64 c2, .int .i64 d2] ∧ Below w.heap.size w V') ∧
          V'.cell? ⟨gA, 0, none⟩ = some (.int .i64 a) ∧ V'.cell? ⟨gA, 1, none⟩ = some (.int .i64 b) ∧ V'.cell? ⟨gA, 2, none⟩ = some (.int .i64 c) ∧ V'.cell? ⟨gA, 3, none⟩ = some (.int .i64 d) ∧
          V'.cell? ⟨gA + 1, 0, none⟩ = some (.int .i64 a2) ∧ V'.cell? ⟨gA + 1, 1, none⟩ = some (.int .i64 b2) ∧ V'.cell? ⟨gA + 1, 2, none⟩ = some (.int .i64 c2) ∧ V'.cell? ⟨gA + 1, 3, none⟩ = some (.int .i64 d2) := by
        intro V t1 t2 t3 p0 p1 p2 p3
        refine (contains_any p0 p1 p2 p3 u v V).mono ?_
        rintro e V' ⟨rfl, hb⟩
        have s1 := t1.after hb
        have s2 := t2.after hb
        obtain ⟨m0, m1, m2, m3, _, _, _, _⟩ := s1.cells4
        obtain ⟨n0, n1, n2, n3, _, _, _, _⟩ := s2.cells4
        exact ⟨rfl, ⟨s1, s2, t3.trans (hb.mono t3.size)⟩, m0, m1, m2, m3, n0, n1, n2, n3⟩
      have HS := hid hstep
      have H0 : Hid (Blk v2.drew gA 26 #[.int .i64 a, .int .i64 b, .int .i64 c, .int .i64 d] ∧ Blk v2.drew (gA + 1) 26 #[.int .i64 a2, .int .i64 b2, .int .i64 c2, .int .i64 d2] ∧ Below w.heap.size w v2.drew) := ⟨HAv2.out, HBv2.out, HWv2.out.drew⟩
      clear hstep HAv2 HBv2 HWv2
      go_cut [12, 13] (fun s12 s13 wx => s12 = .bool (containsB ⟨a, b, c, d⟩ u v) ∧ s13 = .bool (containsB ⟨a2, b2, c2, d2⟩ u v) ∧ Blk wx gA 26 #[.int .i64 a, .int .i64 b, .int .i64 c, .int .i64 d] ∧ Blk wx (gA + 1) 26 #[.int .i64 a2, .int .i64 b2, .int .i64 c2, .int .i64 d2] ∧ Below w.heap.size w wx)
      case first =>
        go_region_held3 (fun w' => w'.cell? ⟨gA, 0, none⟩ = some (.int .i64 a) ∧ w'.cell? ⟨gA, 1, none⟩ = some (.int .i64 b) ∧ w'.cell? ⟨gA, 2, none⟩ = some (.int .i64 c) ∧ w'.cell? ⟨gA, 3, none⟩ = some (.int .i64 d) ∧ w'.cell? ⟨gA + 1, 0, none⟩ = some (.int .i64 a2) ∧ w'.cell? ⟨gA + 1, 1, none⟩ = some (.int .i64 b2) ∧ w'.cell? ⟨gA + 1, 2, none⟩ = some (.int .i64 c2) ∧ w'.cell? ⟨gA + 1, 3, none⟩ = some (.int .i64 d2)) (first | exact ⟨ka0, ka1, ka2, ka3, kb0, kb1, kb2, kb3⟩ | exact ⟨m0, m1, m2, m3, m4, m5, m6, m7⟩ | exact ⟨n0, n1, n2, n3, n4, n5, n6, n7⟩) ((go_at_call 16; first | (refine (HS.out _ H2.out.1 H2.out.2.1 H2.out.2.2 a2 b2 c2 d2).mono ?_; rintro e wm ⟨rfl, H3, n0, n1, n2, n3, n4, n5, n6, n7⟩) | (refine (HS.out _ H0.out.1 H0.out.2.1 H0.out.2.2 a b c d).mono ?_; rintro e wn ⟨rfl, H2, m0, m1, m2, m3, m4, m5, m6, m7⟩)))
        all_goals (go_wp2; go_meet; exact ⟨rfl, rfl, H3.out.1, H3.out.2.1, H3.out.2.2⟩)
      case rest =>
        obtain ⟨rfl, rfl, h1, h2, h3⟩ := hcut
        clear ka0 ka1 ka2 ka3 kb0 kb1 kb2 kb3 HS H0
        have HAwc := hid h1
        have HBwc := hid h2
        have HWwc := hid h3
        clear h1 h2 h3
        obtain ⟨ka0, ka1, ka2, ka3, _, _, _, _⟩ := HAwc.out.cells4
        obtain ⟨kb0, kb1, kb2, kb3, _, _, _, _⟩ := HBwc.out.cells4
        generalize hp : containsB ⟨a, b, c, d⟩ u v = p at *
        generalize hq : containsB ⟨a2, b2, c2, d2⟩ u v = q at *
        clear hp hq
        go_wp2_with fail
        refine (sub_any a b c d a2 b2 c2 d2 _).mono ?_
        rintro e v3 ⟨A, n, cp, rfl, hn4, hr, hb⟩
        clear ka0 ka1 ka2 ka3 kb0 kb1 kb2 kb3
        have HAv3 := hid (HAwc.out.after hb)
        have HBv3 := hid (HBwc.out.after hb)
        have HWv3 := hid (HWwc.out.trans (hb.mono HWwc.out.size))
        have HR := hid hr
        clear hr
        obtain ⟨ka0, ka1, ka2, ka3, _, _, _, _⟩ := HAv3.out.cells4
        obtain ⟨kb0, kb1, kb2, kb3, _, _, _, _⟩ := HBv3.out.cells4
        clear hb HAwc HBwc HWwc
        generalize hrs : subS ⟨a, b, c, d⟩ ⟨a2, b2, c2, d2⟩ = rs at *
        generalize hI : interS ⟨a, b, c, d⟩ ⟨a2, b2, c2, d2⟩ = I at *
        generalize hH : hullS ⟨a, b, c, d⟩ ⟨a2, b2, c2, d2⟩ = H at *
        obtain ⟨e0, e1, e2, e3⟩ := I
        obtain ⟨f0, f1, f2, f3⟩ := H
        have CI := fun w => inter_any a b c d a2 b2 c2 d2 w
        rw [hI] at CI
        have HI := hid CI
        have CH := fun w => hull_any a b c d a2 b2 c2 d2 w
        rw [hH] at CH
        have HH := hid CH
        have CIC := fun w => contains_any e0 e1 e2 e3 u v w
        rw [L1.out] at CIC
        have CHC := fun w => contains_any f0 f1 f2 f3 u v w
        have HLEN := hid HR.out.1
        clear CI CH hI hH hrs L1
        go_wp2
        go_loopw [15, 16] (fun s i wr => ∃ (k : Nat) (m : Int), k ≤ n ∧ i = .int .i64 k ∧ s = .int .i64 m ∧ 0 ≤ m ∧ m ≤ k ∧ m + cnt u v (rs.drop k) = cnt u v rs ∧ Below v3.heap.size v3 wr) (fun _ i _ => n - (intOf i).toNat)
        case atStart => exact ⟨0, 0, by omega, rfl, rfl, by omega, by omega, by simp, Below.refl _ _⟩
        case round =>
          obtain ⟨k, m, hk, rfl, rfl, hm0, hm1, hms, hb⟩ := hrel
          have HMS := hid hms
          have HBL := hid hb
          have HRW := hid (HR.out.below hb (Nat.le_refl _))
          have HAwr := hid (HAv3.out.after hb)
          have HBwr := hid (HBv3.out.after hb)
          have HWwr := hid (HWv3.out.trans (hb.mono HWv3.out.size))
          clear hms hb ka0 ka1 ka2 ka3 kb0 kb1 kb2 kb3
          obtain ⟨ka0, ka1, ka2, ka3, _, _, _, _⟩ := HAwr.out.cells4
          obtain ⟨kb0, kb1, kb2, kb3, _, _, _, _⟩ := HBwr.out.cells4
          by_cases hlt : k < n
          · obtain ⟨gR, hA, hgR, hcc⟩ := HRW.out.2 (by omega)
            have hg1 : rs[k]? = some (rs[k]'(by have := HLEN.out; omega)) := List.getElem?_eq_getElem _
            obtain ⟨q0, q1, q2, q3⟩ := hcc k _ hg1
            have hd := drop_cons_of hg1
            generalize rs[k]'(by have := HLEN.out; omega) = r at *
            subst hA
            have HD := hid hd
            have CR := fun w => contains_any r.x0 r.y0 r.x1 r.y1 u v w
            have er : (⟨r.x0, r.y0, r.x1, r.y1⟩ : Rc) = r := rfl
            rw [er] at CR
            clear hcc hg1 hd er CIC CHC
            by_cases hin : containsB r u v = true
            · rw [hin] at CR
              have HIN := hid hin
              have HCR := hid CR
              clear CR hin
              go_wp2_with fail
              refine (HCR.out _).mono ?_
              rintro e x1 ⟨rfl, hb⟩
              have HX := hid (HBL.out.trans (hb.mono HBL.out.size))
              clear hb
              go_wp2
              go_roundw
              case rel => exact ⟨k + 1, m + 1, by omega, by go_num, rfl, by omega, by omega, by rw [← HMS.out, HD.out]; simp only [cnt]; rw [if_pos HIN.out]; omega, HX.out⟩
              case measure => simp [intOf] <;> omega
            · have hin2 : containsB r u v = false := by simpa using hin
              rw [hin2] at CR
              have HIN := hid hin
              have HCR := hid CR
              clear CR hin hin2
              go_wp2_with fail
              refine (HCR.out _).mono ?_
              rintro e x1 ⟨rfl, hb⟩
              have HX := hid (HBL.out.trans (hb.mono HBL.out.size))
              clear hb
              go_wp2
              go_roundw
              case rel => exact ⟨k + 1, m, by omega, by go_num, rfl, by omega, by omega, by rw [← HMS.out, HD.out]; simp only [cnt]; rw [if_neg HIN.out]; omega, HX.out⟩
              case measure => simp [intOf] <;> omega
          · have e : k = n := by omega
            subst e
            have hd : rs.drop k = [] := by rw [List.drop_eq_nil_iff]; have := HLEN.out; omega
            have e1' := HMS.out
            rw [hd, L3.out] at e1'
            simp only [cnt, Int.add_zero] at e1'
            clear hd HMS HBL HRW
            cases p <;> cases q
            · have em : m = 0 := by simpa using e1'
              clear e1'
              subst em
              have HCIC := hid CIC
              clear CIC CHC
              go_wp2_with fail
              refine (HI.out _).mono ?_
              rintro e x1 ⟨rfl, hb⟩
              clear ka0 ka1 ka2 ka3 kb0 kb1 kb2 kb3
              have HAx1 := hid (HAwr.out.after hb)
              have HBx1 := hid (HBwr.out.after hb)
              have HWx1 := hid (HWwr.out.trans (hb.mono HWwr.out.size))
              obtain ⟨ka0, ka1, ka2, ka3, _, _, _, _⟩ := HAx1.out.cells4
              obtain ⟨kb0, kb1, kb2, kb3, _, _, _, _⟩ := HBx1.out.cells4
              clear hb HAwr HBwr HWwr
              go_wp2_with fail
              refine (HCIC.out _).mono ?_
              rintro e x2 ⟨rfl, hb⟩
              clear ka0 ka1 ka2 ka3 kb0 kb1 kb2 kb3
              have HAx2 := hid (HAx1.out.after hb)
              have HBx2 := hid (HBx1.out.after hb)
              have HWx2 := hid (HWx1.out.trans (hb.mono HWx1.out.size))
              obtain ⟨ka0, ka1, ka2, ka3, _, _, _, _⟩ := HAx2.out.cells4
              obtain ⟨kb0, kb1, kb2, kb3, _, _, _, _⟩ := HBx2.out.cells4
              clear hb HAx1 HBx1 HWx1
              go_wp2_with (go_at_call 10; refine (sane_any _).mono ?_; rintro e w' ⟨rfl, hg⟩)
              go_ret
              exact ⟨rfl, HWx2.out.trans (hg.mono HWx2.out.size)⟩
            · have em : m = 0 := by simpa using e1'
              clear e1'
              subst em
              have HCIC := hid CIC
              rw [L2.out (by simp)] at CHC
              have HCHC := hid CHC
              clear CIC CHC
              go_wp2_with fail
              refine (HI.out _).mono ?_
              rintro e x1 ⟨rfl, hb⟩
              clear ka0 ka1 ka2 ka3 kb0 kb1 kb2 kb3
              have HAx1 := hid (HAwr.out.after hb)
              have HBx1 := hid (HBwr.out.after hb)
              have HWx1 := hid (HWwr.out.trans (hb.mono HWwr.out.size))
              obtain ⟨ka0, ka1, ka2, ka3, _, _, _, _⟩ := HAx1.out.cells4
              obtain ⟨kb0, kb1, kb2, kb3, _, _, _, _⟩ := HBx1.out.cells4
              clear hb HAwr HBwr HWwr
              go_wp2_with fail
              refine (HCIC.out _).mono ?_
              rintro e x2 ⟨rfl, hb⟩
              clear ka0 ka1 ka2 ka3 kb0 kb1 kb2 kb3
              have HAx2 := hid (HAx1.out.after hb)
              have HBx2 := hid (HBx1.out.after hb)
              have HWx2 := hid (HWx1.out.trans (hb.mono HWx1.out.size))
              obtain ⟨ka0, ka1, ka2, ka3, _, _, _, _⟩ := HAx2.out.cells4
              obtain ⟨kb0, kb1, kb2, kb3, _, _, _, _⟩ := HBx2.out.cells4
              clear hb HAx1 HBx1 HWx1
              go_wp2_with fail
              refine (HH.out _).mono ?_
              rintro e x3 ⟨rfl, hb⟩
              clear ka0 ka1 ka2 ka3 kb0 kb1 kb2 kb3
              have HAx3 := hid (HAx2.out.after hb)
              have HBx3 := hid (HBx2.out.after hb)
              have HWx3 := hid (HWx2.out.trans (hb.mono HWx2.out.size))
              obtain ⟨ka0, ka1, ka2, ka3, _, _, _, _⟩ := HAx3.out.cells4
              obtain ⟨kb0, kb1, kb2, kb3, _, _, _, _⟩ := HBx3.out.cells4
              clear hb HAx2 HBx2 HWx2
              go_wp2_with fail
              refine (HCHC.out _).mono ?_
              rintro e x4 ⟨rfl, hb⟩
              clear ka0 ka1 ka2 ka3 kb0 kb1 kb2 kb3
              have HAx4 := hid (HAx3.out.after hb)
              have HBx4 := hid (HBx3.out.after hb)
              have HWx4 := hid (HWx3.out.trans (hb.mono HWx3.out.size))
              obtain ⟨ka0, ka1, ka2, ka3, _, _, _, _⟩ := HAx4.out.cells4
              obtain ⟨kb0, kb1, kb2, kb3, _, _, _, _⟩ := HBx4.out.cells4
              clear hb HAx3 HBx3 HWx3
              go_wp2_with (go_at_call 10; refine (sane_any _).mono ?_; rintro e w' ⟨rfl, hg⟩)
              go_ret
              exact ⟨rfl, HWx4.out.trans (hg.mono HWx4.out.size)⟩
            · have em : m = 1 := by simpa using e1'
              clear e1'
              subst em
              have HCIC := hid CIC
              rw [L2.out (by simp)] at CHC
              have HCHC := hid CHC
              clear CIC CHC
              go_wp2_with fail
              refine (HI.out _).mono ?_
              rintro e x1 ⟨rfl, hb⟩
              clear ka0 ka1 ka2 ka3 kb0 kb1 kb2 kb3
              have HAx1 := hid (HAwr.out.after hb)
              have HBx1 := hid (HBwr.out.after hb)
              have HWx1 := hid (HWwr.out.trans (hb.mono HWwr.out.size))
              obtain ⟨ka0, ka1, ka2, ka3, _, _, _, _⟩ := HAx1.out.cells4
              obtain ⟨kb0, kb1, kb2, kb3, _, _, _, _⟩ := HBx1.out.cells4
              clear hb HAwr HBwr HWwr
              go_wp2_with fail
              refine (HCIC.out _).mono ?_
              rintro e x2 ⟨rfl, hb⟩
              clear ka0 ka1 ka2 ka3 kb0 kb1 kb2 kb3
              have HAx2 := hid (HAx1.out.after hb)
              have HBx2 := hid (HBx1.out.after hb)
              have HWx2 := hid (HWx1.out.trans (hb.mono HWx1.out.size))
              obtain ⟨ka0, ka1, ka2, ka3, _, _, _, _⟩ := HAx2.out.cells4
              obtain ⟨kb0, kb1, kb2, kb3, _, _, _, _⟩ := HBx2.out.cells4
              clear hb HAx1 HBx1 HWx1
              go_wp2_with fail
              refine (HH.out _).mono ?_
              rintro e x3 ⟨rfl, hb⟩
              clear ka0 ka1 ka2 ka3 kb0 kb1 kb2 kb3
              have HAx3 := hid (HAx2.out.after hb)
              have HBx3 := hid (HBx2.out.after hb)
              have HWx3 := hid (HWx2.out.trans (hb.mono HWx2.out.size))
              obtain ⟨ka0, ka1, ka2, ka3, _, _, _, _⟩ := HAx3.out.cells4
              obtain ⟨kb0, kb1, kb2, kb3, _, _, _, _⟩ := HBx3.out.cells4
              clear hb HAx2 HBx2 HWx2
              go_wp2_with fail
              refine (HCHC.out _).mono ?_
              rintro e x4 ⟨rfl, hb⟩
              clear ka0 ka1 ka2 ka3 kb0 kb1 kb2 kb3
              have HAx4 := hid (HAx3.out.after hb)
              have HBx4 := hid (HBx3.out.after hb)
              have HWx4 := hid (HWx3.out.trans (hb.mono HWx3.out.size))
              obtain ⟨ka0, ka1, ka2, ka3, _, _, _, _⟩ := HAx4.out.cells4
              obtain ⟨kb0, kb1, kb2, kb3, _, _, _, _⟩ := HBx4.out.cells4
              clear hb HAx3 HBx3 HWx3
              go_wp2_with (go_at_call 10; refine (sane_any _).mono ?_; rintro e w' ⟨rfl, hg⟩)
              go_ret
              exact ⟨rfl, HWx4.out.trans (hg.mono HWx4.out.size)⟩
            · have em : m = 0 := by simpa using e1'
              clear e1'
              subst em
              have HCIC := hid CIC
              rw [L2.out (by simp)] at CHC
              have HCHC := hid CHC
              clear CIC CHC
              go_wp2_with fail
              refine (HI.out _).mono ?_
              rintro e x1 ⟨rfl, hb⟩
              clear ka0 ka1 ka2 ka3 kb0 kb1 kb2 kb3
              have HAx1 := hid (HAwr.out.after hb)
              have HBx1 := hid (HBwr.out.after hb)
              have HWx1 := hid (HWwr.out.trans (hb.mono HWwr.out.size))
              obtain ⟨ka0, ka1, ka2, ka3, _, _, _, _⟩ := HAx1.out.cells4
              obtain ⟨kb0, kb1, kb2, kb3, _, _, _, _⟩ := HBx1.out.cells4
              clear hb HAwr HBwr HWwr
              go_wp2_with fail
              refine (HCIC.out _).mono ?_
              rintro e x2 ⟨rfl, hb⟩
              clear ka0 ka1 ka2 ka3 kb0 kb1 kb2 kb3
              have HAx2 := hid (HAx1.out.after hb)
              have HBx2 := hid (HBx1.out.after hb)
              have HWx2 := hid (HWx1.out.trans (hb.mono HWx1.out.size))
              obtain ⟨ka0, ka1, ka2, ka3, _, _, _, _⟩ := HAx2.out.cells4
              obtain ⟨kb0, kb1, kb2, kb3, _, _, _, _⟩ := HBx2.out.cells4
              clear hb HAx1 HBx1 HWx1
              go_wp2_with fail
              refine (HH.out _).mono ?_
              rintro e x3 ⟨rfl, hb⟩
              clear ka0 ka1 ka2 ka3 kb0 kb1 kb2 kb3
              have HAx3 := hid (HAx2.out.after hb)
              have HBx3 := hid (HBx2.out.after hb)
              have HWx3 := hid (HWx2.out.trans (hb.mono HWx2.out.size))
              obtain ⟨ka0, ka1, ka2, ka3, _, _, _, _⟩ := HAx3.out.cells4
              obtain ⟨kb0, kb1, kb2, kb3, _, _, _, _⟩ := HBx3.out.cells4
              clear hb HAx2 HBx2 HWx2
              go_wp2_with fail
              refine (HCHC.out _).mono ?_
              rintro e x4 ⟨rfl, hb⟩
              clear ka0 ka1 ka2 ka3 kb0 kb1 kb2 kb3
              have HAx4 := hid (HAx3.out.after hb)
              have HBx4 := hid (HBx3.out.after hb)
              have HWx4 := hid (HWx3.out.trans (hb.mono HWx3.out.size))
              obtain ⟨ka0, ka1, ka2, ka3, _, _, _, _⟩ := HAx4.out.cells4
              obtain ⟨kb0, kb1, kb2, kb3, _, _, _, _⟩ := HBx4.out.cells4
              clear hb HAx3 HBx3 HWx3
              go_wp2_with (go_at_call 10; refine (sane_any _).mono ?_; rintro e w' ⟨rfl, hg⟩)
              go_ret
              exact ⟨rfl, HWx4.out.trans (hg.mono HWx4.out.size)⟩
    · have C2 := fun w => rvalid_any a2 b2 c2 d2 w
      rw [validB_f hv2] at C2
      have HC2 := hid C2
      clear C2 hv hv2
      refine (HC1.out _).mono ?_
      rintro e v1 ⟨rfl, hb⟩
      clear ka0 ka1 ka2 ka3 kb0 kb1 kb2 kb3
      have HAv1 := hid (HAW.out.after hb)
      have HBv1 := hid (HBW.out.after hb)
      have HWv1 := hid (HWW.out.trans (hb.mono HWW.out.size))
      obtain ⟨ka0, ka1, ka2, ka3, _, _, _, _⟩ := HAv1.out.cells4
      obtain ⟨kb0, kb1, kb2, kb3, _, _, _, _⟩ := HBv1.out.cells4
      clear hb HAW HBW HWW
      go_wp2_with fail
      refine (HC2.out _).mono ?_
      rintro e v2 ⟨rfl, hb⟩
      clear ka0 ka1 ka2 ka3 kb0 kb1 kb2 kb3
      have HAv2 := hid (HAv1.out.after hb)
      have HBv2 := hid (HBv1.out.after hb)
      have HWv2 := hid (HWv1.out.trans (hb.mono HWv1.out.size))
      obtain ⟨ka0, ka1, ka2, ka3, _, _, _, _⟩ := HAv2.out.cells4
      obtain ⟨kb0, kb1, kb2, kb3, _, _, _, _⟩ := HBv2.out.cells4
      clear hb HAv1 HBv1 HWv1
      go_wp2_with (go_at_call 10; refine (sane_any _).mono ?_; rintro e w' ⟨rfl, hg⟩)
      go_ret
      exact ⟨rfl, HWv2.out.trans (hg.mono HWv2.out.size)⟩
  · have C1 := fun w => rvalid_any a b c d w
    rw [validB_f hv] at C1
    have HC1 := hid C1
    clear C1 hv
    refine (HC1.out _).mono ?_
    rintro e v1 ⟨rfl, hb⟩
    clear ka0 ka1 ka2 ka3 kb0 kb1 kb2 kb3
    have HAv1 := hid (HAW.out.after hb)
    have HBv1 := hid (HBW.out.after hb)
    have HWv1 := hid (HWW.out.trans (hb.mono HWW.out.size))
    obtain ⟨ka0, ka1, ka2, ka3, _, _, _, _⟩ := HAv1.out.cells4
    obtain ⟨kb0, kb1, kb2, kb3, _, _, _, _⟩ := HBv1.out.cells4
    clear hb HAW HBW HWW
    go_wp2_with (go_at_call 10; refine (sane_any _).mono ?_; rintro e w' ⟨rfl, hg⟩)
    go_ret
    exact ⟨rfl, HWv1.out.trans (hg.mono HWv1.out.size)⟩
end Go.Proofs.Ytphleapmgkcpoaa
