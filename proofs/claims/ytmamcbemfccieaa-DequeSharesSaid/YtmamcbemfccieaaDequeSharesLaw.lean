/-
  The law DequeShares: plain law and walk.
-/
import Derived.Test.YtmamcbemfccieaaDeqSane
import Derived.Deep.DeepCutAuto
namespace Go.Proofs.Ytmamcbemfccieaa
open Go.RowKit
set_option linter.unusedVariables false

theorem shares_push {l : List Rf} (x : Rf) (h : l.length < 20) : pushO (some ⟨20, l⟩) x = (0, some ⟨20, l ++ [x]⟩) := by
  unfold pushO pushS
  simp only
  rw [if_neg (by omega)]
theorem shares_remove (l : List Rf) (j : Int) : removeO (some ⟨20, l⟩) j = ((l.length : Int) - ((without l j).length : Int), some ⟨20, without l j⟩) := rfl
/-- A row of the law's own that is kept beside the deque. -/
def Kept (B : Nat) (w : World) (v : Value) (n : Nat) (l : List Rf) (X : Nat → Prop) : Prop := w.ownsRow B 32 2 v n (rflat l) ∧ ∀ x, v.ownBlock = some x → X x
theorem Kept.but {B : Nat} {w w' : World} {v : Value} {n : Nat} {l : List Rf} {X : Nat → Prop} (h : Kept B w v n l X) (hb : But X w w') : Kept B w' v n l X := ⟨hb.row h.1 h.2, h.2⟩
theorem Kept.foot {B : Nat} {w w' : World} {v : Value} {n : Nat} {l : List Rf} {X S : Nat → Prop} (h : Kept B w v n l X) (hf : Foot S w w') (hs : ∀ x, v.ownBlock = some x → ¬ S x) : Kept B w' v n l X := ⟨hf.row h.1 hs, h.2⟩
theorem Kept.quiet {B : Nat} {w w' : World} {v : Value} {n : Nat} {l : List Rf} {X : Nat → Prop} (h : Kept B w v n l X) (hf : Foot (fun _ => False) w w') : Kept B w' v n l X := h.foot hf (fun _ _ e => e)
theorem Kept.up {B : Nat} {w : World} {v : Value} {n : Nat} {l : List Rf} {X X' : Nat → Prop} (h : Kept B w v n l X) (hx : ∀ i, X i → X' i) : Kept B w v n l X' := ⟨h.1, fun x e => hx x (h.2 x e)⟩

theorem own_blk {w : World} {B b n c : Nat} {e : TypeId} {xs : List Value} (ho : w.ownsRow B e 2 (.slice (some ⟨b, 0, none⟩) n c) n xs) : ∃ cur, Blk w b e cur ∧ cur.size = c * 2 ∧ n ≤ c ∧ B ≤ b := by
  rcases ho.2 with ⟨h, _⟩ | ⟨g', cap, cur, h, hb, hg, h3, h4, h5, _⟩
  · simp at h
  · injection h with h _ h6
    injection h with h
    injection h with h
    subst h h6
    exact ⟨cur, hg, h5, h3, hb⟩
set_option maxRecDepth 100000 in
set_option maxHeartbeats 4000000 in
theorem shares_walk (At : Option Addr) (nt ct : Nat) (ts : List Int) {w : World} (hts : IntsAt w w.heap.size At nt ts) (hnt : nt ≤ 9223372036854775807) (a : Int) (a1 : -9223372036854775808 ≤ a) (a2 : a ≤ 9223372036854775807) :
    Calls Try.prog 5 #[.slice At nt ct, .int .i64 a] w fun e w' => e = .returned (.bool true) ∧ Below w.heap.size w w' := by
  obtain ⟨i0, hi, hz0, hz1, hz2⟩ := info_parts ref_info
  have HN := hid (new_any At nt ct w)
  have ht0 : TapeAt w.heap.size w.heap.size (w.alloc (.cells #[.slice At nt ct, .int .i64 0] 48)) :=
    ⟨Nat.le_refl _, At, nt, ct, ts, 0, Blk.new w _ _, by omega, hnt, hts.below ((Below.refl _ _).alloc (Nat.le_refl _) _) (Nat.le_refl _)⟩
  have H0 : Hid (Tw w.heap.size (some w.heap.size) w (w.alloc (.cells #[.slice At nt ct, .int .i64 0] 48)) (.pointer none) (.pointer none) none none (fun _ => False)) := Tw.nil (fun g hg => by injection hg with hg; subst hg; exact ht0) ((Below.refl _ _).alloc (Nat.le_refl _) _) (Nat.le_refl _)
  have HM := hid (fun w => mod_any a 3 w a1 a2 (by omega) (by omega))
  have HN2 := hid (fun w => new_yes 20 w (by omega) (by omega))
  rw [show ((20 : Nat) : Int) = 20 from rfl] at HN2
  clear hts ht0
  go_enter Try.func5, Try.ntmps5
  go_wp2_with fail
  refine HN.out.mono ?_; rintro e w' ⟨rfl, rfl⟩
  go_wp2_with fail
  generalize w.alloc (.cells #[.slice At nt ct, .int .i64 0] 48) = W1 at *
  refine (HN2.out _).mono ?_
  intro e w2 hn
  obtain ⟨g, rfl, h1⟩ := newA_ok H0.out (by omega) (by omega) hn
  have H1 := hid h1
  clear hn h1 H0 HN HN2
  go_wp2_with fail
  refine (HM.out _).mono ?_; rintro e w' ⟨rfl, rfl⟩
  clear HM a1 a2
  generalize a % 3 = jb
  go_wp2_with fail
  refine (next_t H1.out 20 (by omega) (by omega)).mono ?_
  rintro e w3 ⟨c, c0, c1, rfl, h2, _⟩
  have H2 := hid h2
  clear h2 H1
  obtain ⟨c, rfl⟩ := Int.eq_ofNat_of_zero_le c0
  have hw : IntKind.i64.wrap (1 + (c : Int)) = 1 + (c : Int) := IntWalk.i64_in _ (by omega)
  have c2 : c ≤ 19 := by omega
  clear c1 c0
  go_wp2_with fail
  go_loopw [8, 11] (fun wv i wr => ∃ (k : Nat) (l : List Rf) (X : Nat → Prop), k ≤ c + 1 ∧ l.length = k ∧ i = .int .i64 (k : Int) ∧ Tw w.heap.size (some w.heap.size) w wr (.pointer (some ⟨g, 0, none⟩)) (.pointer none) (some ⟨20, l⟩) none X ∧ Kept w.heap.size wr wv (without l jb).length (without l jb) X) (fun _ i _ => c + 1 - (intOf i).toNat)
  case atStart => exact ⟨0, [], _, by omega, rfl, rfl, H2.out, World.ownsRow_nil _ _ _ _, fun x e => by cases e⟩
  case round =>
    obtain ⟨k, l, X, hk, hl, rfl, ht, hkp⟩ := hrel
    have H := hid ht
    have HK := hid hkp
    have HL := hid hl
    clear ht hkp H2
    by_cases hlt : k < c + 1
    · have e1 : (k : Int) < 1 + (c : Int) := by omega
      go_wp2_with fail
      refine (next_t H.out 3 (by omega) (by omega)).mono ?_
      rintro e w4 ⟨rj, rj0, rj1, rfl, h3, hbut⟩
      have H3 := hid h3
      have HK3 := hid (HK.out.but hbut)
      clear h3 hbut H HK rj1 rj0
      go_upto_region 12 with fail
      obtain ⟨X2, hXX, hX2, hT2⟩ := H3.out.more (.cells #[.int .i64 rj, .int .i64 (k : Int)] 32)
      have HC := hid (Blk.new w4 32 #[.int .i64 rj, .int .i64 (k : Int)])
      have H4 := hid hT2
      have HX2 := hid hX2
      have HK4 := hid ((HK3.out.quiet ((Foot.refl _ _).alloc (.cells #[.int .i64 rj, .int .i64 (k : Int)] 32))).up hXX)
      clear hT2 hX2 H3 hXX HK3
      generalize w4.heap.size = nr at *
      generalize w4.alloc (.cells #[.int .i64 rj, .int .i64 (k : Int)] 32) = W4 at *
      have p0 := HC.out.cell 0
      have p1 := HC.out.cell 1
      have A1 := apush_t H4.out ⟨rj, (k : Int)⟩
      rw [shares_push _ (by rw [HL.out]; omega)] at A1
      go_wp2_with fail
      refine A1.mono ?_
      rintro e w5 ⟨rfl, h5, hbut⟩
      have H5 := hid h5
      have HC5 := hid (hbut.blk HC.out HX2.out)
      have HK5 := hid (HK4.out.but hbut)
      have hln : (without l jb).length ≤ 20 := by have h1 := without_le l jb; have h2 := HL.out; omega
      clear h5 hbut A1 H4 HK4 HC p0 p1
      have p0 := HC5.out.cell 0
      have p1 := HC5.out.cell 1
      by_cases hj : rj = jb
      · have HW : Hid (without (l ++ [⟨rj, (k : Int)⟩]) jb = without l jb) := hid (by rw [without_snoc, if_pos hj])
        go_wp2
        go_roundw
        case rel => exact ⟨k + 1, l ++ [⟨rj, (k : Int)⟩], X2, by omega, by rw [List.length_append, HL.out]; rfl, by go_num, H5.out, by rw [HW.out]; exact HK5.out⟩
        case measure => simp [intOf]; omega
      · have HW : Hid (without (l ++ [⟨rj, (k : Int)⟩]) jb = without l jb ++ [⟨rj, (k : Int)⟩]) := hid (by rw [without_snoc, if_neg hj])
        have HV := hid (HK5.out.1.alloc (.cells #[.int .i64 rj, .int .i64 (k : Int)] 32))
        go_wp2_with (at_builtin; refine wpList_append_own_at _ rfl _ _ 43 rfl w.heap.size 32 i0 (.agg #[.int .i64 0, .int .i64 0]) 2 16 Try.underlying43 hi hz0 hz1 hz2 rfl (by decide) _ _ _ rfl HV.out ⟨w5.heap.size, 0, none⟩ 1 1 [.int .i64 rj, .int .i64 (k : Int)] rfl ?c1 ?c2 ?c3 ?c4 ?c5 ?c6 ?_)
        case c1 => rfl
        case c2 => exact ref_news w5 rj k _ 0
        case c3 => exact ref_one rj k
        case c4 => unfold maxLen; omega
        case c5 => omega
        case c6 => have := H5.out.bel.size; simp; omega
        intro v' w6 ho hg hn2 hat
        clear hn2
        have hf : Foot (fun i => some i = u8.ownBlock) w5 w6 := ((Foot.refl _ _).alloc _).grown hg (fun i e => .inl e.symm)
        obtain ⟨X6, hX6, hX7, hT6⟩ := H5.out.row hf (fun i e => ⟨HK5.out.2 i e.symm, (HK5.out.1.lt i e.symm).1⟩)
        have HK6 : Hid (Kept w.heap.size w6 v' (without (l ++ [⟨rj, (k : Int)⟩]) jb).length (without (l ++ [⟨rj, (k : Int)⟩]) jb) X6) := by
          refine ⟨?_, fun x hx => ?_⟩
          · rw [HW.out, rflat_append, rflat_one, List.length_append]
            exact ho
          · rcases hat with hat | hat
            · exact hX6 x (HK5.out.2 x (by rw [← hat]; exact hx))
            · rw [hat] at hx
              injection hx with hx
              refine hX7 x ?_ ?_
              · rw [← hx]; simp
              · exact (ho.lt x (by rw [hat, hx])).2
        have H6 := hid hT6
        clear hX6 hX7 hT6 hf ho hg hat H5 HK5
        go_wp2
        go_roundw
        case rel => exact ⟨k + 1, l ++ [⟨rj, (k : Int)⟩], X6, by omega, by rw [List.length_append, HL.out]; rfl, by go_num, H6.out, HK6.out⟩
        case measure => simp [intOf]; omega
    · have hkc : k = c + 1 := by omega
      subst hkc
      have e1 : ¬ ((c : Int) + 1 < 1 + (c : Int)) := by omega
      have hsz := H.out.bel.size
      go_wp2_with fail
      refine (alist_t H.out).mono ?_
      rintro e w4 ⟨v, n, rfl, X3, hX3, hv, hn, ho, hT, hbut⟩
      have hln : l.length = n := own_len ho
      have hnc : n = c + 1 := by rw [← hln]; exact HL.out
      subst hnc
      obtain ⟨A, cp, rfl⟩ := own_form ho
      obtain ⟨a, rfl⟩ : ∃ a, A = some a := by
        cases A with
        | none => exact absurd (own_nil ho).1 (by omega)
        | some a => exact ⟨a, rfl⟩
      obtain ⟨b, rfl, _⟩ := own_off ho
      obtain ⟨cur, hbl, hcs, hcp, hbw⟩ := own_blk ho
      have H4 := hid hT
      have HK4 := hid ((HK.out.but hbut).up hX3)
      have HKb : Hid (∀ x, u8.ownBlock = some x → x ≠ b) := hid (fun x hx => by have := (HK.out.1.lt x hx).2; omega)
      have HBL := hid hbl
      have HXb : Hid (X3 b) := hid (hv b rfl)
      have hBb : w.heap.size ≤ b := by omega
      clear hT hbut hbl hv hX3 ho H HK hn
      go_wp2_with fail
      go_loopw [14] (fun i wr => ∃ (k : Nat) (X : Nat → Prop) (cur : Array Value), k ≤ c + 1 ∧ i = .int .i64 (k : Int) ∧ Tw w.heap.size (some w.heap.size) w wr (.pointer (some ⟨g, 0, none⟩)) (.pointer none) (some ⟨20, l⟩) none X ∧ Kept w.heap.size wr u8 (without l jb).length (without l jb) X ∧ Blk wr b 32 cur ∧ cur.size = cp * 2 ∧ X b) (fun i _ => c + 1 - (intOf i).toNat)
      case atStart => exact ⟨0, X3, cur, by omega, rfl, H4.out, HK4.out, HBL.out, hcs, HXb.out⟩
      case round =>
        obtain ⟨k, X, cur, hk, rfl, ht, hkp, hbl, hcs, hxb⟩ := hrel
        have H := hid ht
        have HK := hid hkp
        have HB := hid hbl
        have HXb := hid hxb
        clear ht hkp hbl hxb H4 HK4 HBL
        by_cases hlt2 : k < c + 1
        · have e2 : (k : Int) < (c : Int) + 1 := by omega
          have e3 : (0 : Int) ≤ (k : Int) := by omega
          obtain ⟨y0, y1, c0, c1, z0, z1⟩ := ring_cell HB.out hcs (q := k) (by omega)
          have hf0 : Foot (fun i => i = b) wr wr := Foot.refl _ _
          have HF := hid ((hf0.set_ ⟨b, k * 2, none⟩ (.inl rfl) (.int .i64 99)).set_ ⟨b, k * 2 + 1, none⟩ (.inl rfl) (.int .i64 0))
          clear hf0
          go_wp2
          go_roundw
          case rel =>
            obtain ⟨X', hX1, _, hT⟩ := H.out.row HF.out (fun i e => by subst e; exact ⟨HXb.out, hBb⟩)
            exact ⟨k + 1, X', _, by omega, by go_num, hT, (HK.out.foot HF.out (fun x hx e => HKb.out x hx e)).up hX1, (HB.out.set_ (k * 2) (.int .i64 99)).set_ (k * 2 + 1) (.int .i64 0), by simp [hcs], hX1 _ HXb.out⟩
          case measure => simp [intOf]; omega
        · have hkc : k = c + 1 := by omega
          subst hkc
          clear HB HXb HKb hcs
          have hwl := without_le l jb
          rw [HL.out] at hwl
          have A1 := aremove_t H.out jb
          rw [shares_remove, HL.out] at A1
          have HKn := hid (own_form HK.out.1)
          generalize hwn : (without l jb).length = wn at *
          obtain ⟨A2, c2', rfl⟩ := HKn.out
          go_wp2_with fail
          refine A1.mono ?_
          rintro e w5 ⟨rfl, h5, hbut⟩
          have H5 := hid h5
          have HK5 := hid (HK.out.but hbut)
          clear h5 hbut A1 H HK
          go_upto_region 24 with fail
          obtain ⟨X7, hX7, hZ7, hT7⟩ := H5.out.more (.cells #[.slice none 0 0, .int .i64 0, .int .i64 0] 46)
          have H7 := hid hT7
          have HZ := hid (Blk.new w5 46 #[.slice none 0 0, .int .i64 0, .int .i64 0])
          have HK7 := hid ((HK5.out.quiet ((Foot.refl _ _).alloc (.cells #[.slice none 0 0, .int .i64 0, .int .i64 0] 46))).up hX7)
          have HXZ := hid hZ7
          have hgz : w.heap.size ≤ w5.heap.size := H5.out.bel.size
          clear hT7 hX7 hZ7 H5 HK5
          generalize w5.heap.size = gz at *
          generalize w5.alloc (.cells #[.slice none 0 0, .int .i64 0, .int .i64 0] 46) = W7 at *
          go_wp2_with fail
          refine (pop_nil _).mono ?_
          rintro e w8 ⟨rfl, hf⟩
          have hf2 := hf.alloc (.cells #[.int .i64 0, .int .i64 0] 32)
          have H8 := hid (H7.out.quiet hf2)
          have HK8 := hid (HK7.out.quiet hf2)
          have HZ8 := hid (hf2.blk HZ.out (fun e => e))
          clear hf hf2 H7 HK7 HZ
          go_upto_region 25 with fail
          generalize w8.heap.size = n8 at *
          generalize w8.alloc (.cells #[.int .i64 0, .int .i64 0] 32) = W8 at *
          go_wp2_with fail
          refine (steal_empty gz _ _ _ HZ8.out).mono ?_
          rintro e w9 ⟨rfl, hf⟩
          have hf2 := hf.alloc (.cells #[.int .i64 0, .int .i64 0] 32)
          have H9 := hid (H8.out.quiet hf2)
          have HK9 := hid (HK8.out.quiet hf2)
          have HZ9 := hid (hf2.blk HZ8.out (fun e => e))
          clear hf hf2 H8 HK8 HZ8
          go_upto_region 26 with fail
          generalize w9.heap.size = n9 at *
          generalize w9.alloc (.cells #[.int .i64 0, .int .i64 0] 32) = W9 at *
          go_wp2_with fail
          refine (push_nil 0 0 _).mono ?_
          rintro e wa ⟨rfl, hf⟩
          have Ha := hid (H9.out.quiet hf)
          have HKa := hid (HK9.out.quiet hf)
          have HZa := hid (hf.blk HZ9.out (fun e => e))
          clear hf H9 HK9 HZ9
          go_wp2_with fail
          refine (push_zero gz none 0 _ _ 0 0 _ HZa.out).mono ?_
          rintro e wb ⟨rfl, hf⟩
          have Hb := hid (Ha.out.quiet hf)
          have HKb := hid (HKa.out.quiet hf)
          have HZb := hid (hf.blk HZa.out (fun e => e))
          clear hf Ha HKa HZa
          go_wp2_with fail
          refine (alist_t Hb.out).mono ?_
          rintro e wc ⟨v, n, rfl, Xc, hXc, _, hn, ho, hT, hbut⟩
          have Hc := hid hT
          have HKc := hid ((HKb.out.but hbut).up hXc)
          have HZc := hid (hbut.blk HZb.out HXZ.out)
          have HXZc : Hid (Xc gz) := hid (hXc _ HXZ.out)
          have HO := hid ho
          have hwn2 : wn ≤ 256 := by omega
          clear hT hbut hXc ho Hb HKb HZb HXZ
          go_wp2_with fail
          refine (same_v (own_low HO.out (Nat.zero_le _)) hn (own_low HKc.out.1 (Nat.zero_le _)) hwn2).mono ?_
          rintro e wd ⟨rfl, jd, rfl⟩
          rw [show decide (listO (some ⟨20, without l jb⟩) = without l jb) = true from decide_eq_true rfl]
          have Hd := hid (Hc.out.drewN jd)
          have HZd := hid (HZc.out.drewN jd)
          clear Hc HKc HZc HO
          generalize wc.drewN jd = Wd at *
          go_wp2_with fail
          refine (len_nil _).mono ?_
          rintro e we ⟨rfl, rfl⟩
          go_wp2_with fail
          refine (remove_nil 0 _).mono ?_
          rintro e we ⟨rfl, rfl⟩
          go_wp2_with fail
          refine (drain_zero gz _ _ _ HZd.out).mono ?_
          rintro e wf ⟨rfl, hf⟩
          obtain ⟨Xf, _, _, hT⟩ := Hd.out.row hf (fun i e => by subst e; exact ⟨HXZc.out, hgz⟩)
          have Hf := hid hT
          clear hT hf Hd HZd
          go_wp2_with fail
          refine (list_nil _).mono ?_
          rintro e wg ⟨rfl, rfl⟩
          go_wp2_with fail
          refine (sane_any _).mono ?_
          rintro e wh ⟨rfl, hh⟩
          have Hh := hid (Hf.out.quiet (Foot.after hh))
          clear hh
          go_wp2
          go_ret
          exact ⟨rfl, Hh.out.bel⟩
end Go.Proofs.Ytmamcbemfccieaa
