/-
  Layer 2: Hull and its reference, Full: contracts.
-/
import Derived.Test.YtphleapmgkcpoaaRectWalks2
namespace Go.Proofs.Ytphleapmgkcpoaa
open Go.RowKit
set_option linter.unusedVariables false

theorem hullS_z {a b : Rc} (h : ¬ ValidP a ∨ ¬ ValidP b) : hullS a b = Rc.zero := by unfold hullS; rw [if_pos h]
theorem hullS_a {a b : Rc} (h : ValidP a) (h2 : ValidP b) (h3 : EmptyP a) : hullS a b = b := by
  unfold hullS
  rw [if_neg (fun h' => h'.elim (fun x => x h) (fun x => x h2)), if_pos h3]
theorem hullS_b {a b : Rc} (h : ValidP a) (h2 : ValidP b) (h3 : ¬ EmptyP a) (h4 : EmptyP b) : hullS a b = a := by
  unfold hullS
  rw [if_neg (fun h' => h'.elim (fun x => x h) (fun x => x h2)), if_neg h3, if_pos h4]
theorem hullS_n {a b c d a2 b2 c2 d2 : Int} (h : ValidP ⟨a, b, c, d⟩) (h2 : ValidP ⟨a2, b2, c2, d2⟩) (h3 : ¬ EmptyP ⟨a, b, c, d⟩) (h4 : ¬ EmptyP ⟨a2, b2, c2, d2⟩) :
    hullS ⟨a, b, c, d⟩ ⟨a2, b2, c2, d2⟩ = ⟨mn a a2, mn b b2, mx c c2, mx d d2⟩ := by
  unfold hullS
  rw [if_neg (fun h' => h'.elim (fun x => x h) (fun x => x h2)), if_neg h3, if_neg h4]
  rfl
theorem full_iff (r : Rc) : FullP r ↔ ValidP r ∧ ¬ EmptyP r := by
  constructor
  · intro h
    refine ⟨.inr h, fun he => ?_⟩
    unfold FullP at h
    unfold EmptyP at he
    omega
  · rintro ⟨h | h, he⟩
    · exact absurd h he
    · exact h
def fullB (r : Rc) : Bool := decide (FullP r)
theorem rfull_any (a b c d : Int) (w : World) :
    Calls Try.prog 35 #[.agg #[.int .i64 a, .int .i64 b, .int .i64 c, .int .i64 d]] w fun e w' => e = .returned (.bool (fullB ⟨a, b, c, d⟩)) ∧ Below w.heap.size w w' := by
  have C := fun w => rvalid_any a b c d w
  have CE := fun w => rempty_any a b c d w
  by_cases hv : ValidP ⟨a, b, c, d⟩
  · rw [validB_t hv] at C
    have HC := hid C
    by_cases he : EmptyP ⟨a, b, c, d⟩
    · rw [emptyB_t he] at CE
      have HE := hid CE
      have HV : Hid (fullB ⟨a, b, c, d⟩ = false) := decide_eq_false (fun h => ((full_iff _).1 h).2 he)
      clear C CE hv he
      go_enter Try.func35, Try.ntmps35
      go_wp2_with fail
      refine (HC.out _).mono ?_
      rintro e w1 ⟨rfl, hb⟩
      obtain ⟨hcw1, hfw1⟩ := bcell hb
      have hzw1 : w.heap.size + 1 ≤ w1.heap.size := by have := hb.size; first | omega | (simp at this; omega)
      have hzw10 : w.heap.size < w1.heap.size := by omega
      have HBw1 := hid (((Below.refl _ _).alloc (by first | (exact Nat.le_refl _) | omega | (simp <;> omega)) _).trans (hb.mono (by first | omega | (simp <;> omega))))
      clear hb
      go_wp2_with fail
      refine (HE.out _).mono ?_
      rintro e w2 ⟨rfl, hb⟩
      obtain ⟨hcw2, hfw2⟩ := bcell hb
      have hzw2 : w.heap.size + 1 ≤ w2.heap.size := by have := hb.size; first | omega | (simp at this; omega)
      have hzw20 : w.heap.size < w2.heap.size := by omega
      have HBw2 := hid (HBw1.out.trans (hb.mono (by first | omega | (simp <;> omega))))
      clear hb
      go_wp2
      go_ret
      exact ⟨ret_bool HV.out.symm, HBw2.out⟩
    · rw [emptyB_f he] at CE
      have HE := hid CE
      have HV : Hid (fullB ⟨a, b, c, d⟩ = true) := decide_eq_true ((full_iff _).2 ⟨hv, he⟩)
      clear C CE hv he
      go_enter Try.func35, Try.ntmps35
      go_wp2_with fail
      refine (HC.out _).mono ?_
      rintro e w1 ⟨rfl, hb⟩
      obtain ⟨hcw1, hfw1⟩ := bcell hb
      have hzw1 : w.heap.size + 1 ≤ w1.heap.size := by have := hb.size; first | omega | (simp at this; omega)
      have hzw10 : w.heap.size < w1.heap.size := by omega
      have HBw1 := hid (((Below.refl _ _).alloc (by first | (exact Nat.le_refl _) | omega | (simp <;> omega)) _).trans (hb.mono (by first | omega | (simp <;> omega))))
      clear hb
      go_wp2_with fail
      refine (HE.out _).mono ?_
      rintro e w2 ⟨rfl, hb⟩
      obtain ⟨hcw2, hfw2⟩ := bcell hb
      have hzw2 : w.heap.size + 1 ≤ w2.heap.size := by have := hb.size; first | omega | (simp at this; omega)
      have hzw20 : w.heap.size < w2.heap.size := by omega
      have HBw2 := hid (HBw1.out.trans (hb.mono (by first | omega | (simp <;> omega))))
      clear hb
      go_wp2
      go_ret
      exact ⟨ret_bool HV.out.symm, HBw2.out⟩
  · rw [validB_f hv] at C
    have HC := hid C
    have HV : Hid (fullB ⟨a, b, c, d⟩ = false) := decide_eq_false (fun h => hv ((full_iff _).1 h).1)
    clear C CE hv
    go_enter Try.func35, Try.ntmps35
    go_wp2_with fail
    refine (HC.out _).mono ?_
    rintro e w1 ⟨rfl, hb⟩
    obtain ⟨hcw1, hfw1⟩ := bcell hb
    have hzw1 : w.heap.size + 1 ≤ w1.heap.size := by have := hb.size; first | omega | (simp at this; omega)
    have hzw10 : w.heap.size < w1.heap.size := by omega
    have HBw1 := hid (((Below.refl _ _).alloc (by first | (exact Nat.le_refl _) | omega | (simp <;> omega)) _).trans (hb.mono (by first | omega | (simp <;> omega))))
    clear hb
    go_wp2
    go_ret
    exact ⟨ret_bool HV.out.symm, HBw1.out⟩

set_option maxHeartbeats 1000000 in
theorem hull_any (a b c d a2 b2 c2 d2 : Int) (w : World) :
    Calls Try.prog 17 #[.agg #[.int .i64 a, .int .i64 b, .int .i64 c, .int .i64 d], .agg #[.int .i64 a2, .int .i64 b2, .int .i64 c2, .int .i64 d2]] w fun e w' => e = .returned (.agg #[.int .i64 (hullS ⟨a, b, c, d⟩ ⟨a2, b2, c2, d2⟩).x0, .int .i64 (hullS ⟨a, b, c, d⟩ ⟨a2, b2, c2, d2⟩).y0, .int .i64 (hullS ⟨a, b, c, d⟩ ⟨a2, b2, c2, d2⟩).x1, .int .i64 (hullS ⟨a, b, c, d⟩ ⟨a2, b2, c2, d2⟩).y1]) ∧ Below w.heap.size w w' := by
  have C := fun w => valid_any a b c d w
  have C2 := fun w => valid_any a2 b2 c2 d2 w
  have CE := fun w => empty_any a b c d w
  have CE2 := fun w => empty_any a2 b2 c2 d2 w
  have hmx := fun x y w => run_mx x y w
  have hmn := fun x y w => run_mn x y w
  by_cases hv : ValidP ⟨a, b, c, d⟩
  · rw [validB_t hv] at C
    have HC := hid C
    by_cases hv2 : ValidP ⟨a2, b2, c2, d2⟩
    · rw [validB_t hv2] at C2
      have HC2 := hid C2
      by_cases he : EmptyP ⟨a, b, c, d⟩
      · rw [emptyB_t he] at CE
        have HE := hid CE
        have HV := hid (hullS_a hv hv2 he)
        clear C C2 CE CE2 hv hv2 he
        go_enter Try.func17, Try.ntmps17
        go_wp2_with fail
        refine (HC.out _).mono ?_
        rintro e w1 ⟨rfl, hb⟩
        obtain ⟨hcw1, hfw1⟩ := bcell hb
        have hzw1 : w.heap.size + 3 ≤ w1.heap.size := by have := hb.size; first | omega | (simp at this; omega)
        have hzw10 : w.heap.size < w1.heap.size := by omega
        have hzw11 : w.heap.size + 1 < w1.heap.size := by omega
        have hzw12 : w.heap.size + 1 + 1 < w1.heap.size := by omega
        have HBw1 := hid (((((((Below.refl _ _).alloc (by first | (exact Nat.le_refl _) | omega | (simp <;> omega)) _)).alloc (by first | (exact Nat.le_refl _) | omega | (simp <;> omega)) _)).alloc (by first | (exact Nat.le_refl _) | omega | (simp <;> omega)) _).trans (hb.mono (by first | omega | (simp <;> omega))))
        have HRw1 : Hid (Blk w1 (w.heap.size + 1 + 1) 26 #[.int .i64 0, .int .i64 0, .int .i64 0, .int .i64 0]) := hid ((hb.block _ (by simp <;> omega)).trans (blk2 w _ _ _))
        clear hb
        go_wp2_with fail
        refine (HC2.out _).mono ?_
        rintro e w2 ⟨rfl, hb⟩
        obtain ⟨hcw2, hfw2⟩ := bcell hb
        have hzw2 : w.heap.size + 3 ≤ w2.heap.size := by have := hb.size; first | omega | (simp at this; omega)
        have hzw20 : w.heap.size < w2.heap.size := by omega
        have hzw21 : w.heap.size + 1 < w2.heap.size := by omega
        have hzw22 : w.heap.size + 1 + 1 < w2.heap.size := by omega
        have HBw2 := hid (HBw1.out.trans (hb.mono (by first | omega | (simp <;> omega))))
        have HRw2 := hid (HRw1.out.after hb)
        clear hb
        go_wp2_with fail
        refine (HE.out _).mono ?_
        rintro e w3 ⟨rfl, hb⟩
        obtain ⟨hcw3, hfw3⟩ := bcell hb
        have hzw3 : w.heap.size + 3 ≤ w3.heap.size := by have := hb.size; first | omega | (simp at this; omega)
        have hzw30 : w.heap.size < w3.heap.size := by omega
        have hzw31 : w.heap.size + 1 < w3.heap.size := by omega
        have hzw32 : w.heap.size + 1 + 1 < w3.heap.size := by omega
        have HBw3 := hid (HBw2.out.trans (hb.mono (by first | omega | (simp <;> omega))))
        have HRw3 := hid (HRw2.out.after hb)
        clear hb
        go_wp2
        refine bodyPost_ret (res_rect (g := w.heap.size + 1 + 1) (v0 := a2) (v1 := b2) (v2 := c2) (v3 := d2) rfl rfl (by first | (with_reducible exact HRw3.out.set4 _ _ _ _) | (with_reducible exact (HRw3.out.set4 _ _ _ _).alloc _) | (with_reducible exact (HRw3.out.alloc _).set4 _ _ _ _))) rfl ⟨by rw [HV.out] <;> rfl, ?_⟩
        have hb := HBw3.out
        go_grown
      · rw [emptyB_f he] at CE
        have HE := hid CE
        by_cases he2 : EmptyP ⟨a2, b2, c2, d2⟩
        · rw [emptyB_t he2] at CE2
          have HE2 := hid CE2
          have HV := hid (hullS_b hv hv2 he he2)
          clear C C2 CE CE2 hv hv2 he he2
          go_enter Try.func17, Try.ntmps17
          go_wp2_with fail
          refine (HC.out _).mono ?_
          rintro e w1 ⟨rfl, hb⟩
          obtain ⟨hcw1, hfw1⟩ := bcell hb
          have hzw1 : w.heap.size + 3 ≤ w1.heap.size := by have := hb.size; first | omega | (simp at this; omega)
          have hzw10 : w.heap.size < w1.heap.size := by omega
          have hzw11 : w.heap.size + 1 < w1.heap.size := by omega
          have hzw12 : w.heap.size + 1 + 1 < w1.heap.size := by omega
          have HBw1 := hid (((((((Below.refl _ _).alloc (by first | (exact Nat.le_refl _) | omega | (simp <;> omega)) _)).alloc (by first | (exact Nat.le_refl _) | omega | (simp <;> omega)) _)).alloc (by first | (exact Nat.le_refl _) | omega | (simp <;> omega)) _).trans (hb.mono (by first | omega | (simp <;> omega))))
          have HRw1 : Hid (Blk w1 (w.heap.size + 1 + 1) 26 #[.int .i64 0, .int .i64 0, .int .i64 0, .int .i64 0]) := hid ((hb.block _ (by simp <;> omega)).trans (blk2 w _ _ _))
          clear hb
          go_wp2_with fail
          refine (HC2.out _).mono ?_
          rintro e w2 ⟨rfl, hb⟩
          obtain ⟨hcw2, hfw2⟩ := bcell hb
          have hzw2 : w.heap.size + 3 ≤ w2.heap.size := by have := hb.size; first | omega | (simp at this; omega)
          have hzw20 : w.heap.size < w2.heap.size := by omega
          have hzw21 : w.heap.size + 1 < w2.heap.size := by omega
          have hzw22 : w.heap.size + 1 + 1 < w2.heap.size := by omega
          have HBw2 := hid (HBw1.out.trans (hb.mono (by first | omega | (simp <;> omega))))
          have HRw2 := hid (HRw1.out.after hb)
          clear hb
          go_wp2_with fail
          refine (HE.out _).mono ?_
          rintro e w3 ⟨rfl, hb⟩
          obtain ⟨hcw3, hfw3⟩ := bcell hb
          have hzw3 : w.heap.size + 3 ≤ w3.heap.size := by have := hb.size; first | omega | (simp at this; omega)
          have hzw30 : w.heap.size < w3.heap.size := by omega
          have hzw31 : w.heap.size + 1 < w3.heap.size := by omega
          have hzw32 : w.heap.size + 1 + 1 < w3.heap.size := by omega
          have HBw3 := hid (HBw2.out.trans (hb.mono (by first | omega | (simp <;> omega))))
          have HRw3 := hid (HRw2.out.after hb)
          clear hb
          go_wp2_with fail
          refine (HE2.out _).mono ?_
          rintro e w4 ⟨rfl, hb⟩
          obtain ⟨hcw4, hfw4⟩ := bcell hb
          have hzw4 : w.heap.size + 3 ≤ w4.heap.size := by have := hb.size; first | omega | (simp at this; omega)
          have hzw40 : w.heap.size < w4.heap.size := by omega
          have hzw41 : w.heap.size + 1 < w4.heap.size := by omega
          have hzw42 : w.heap.size + 1 + 1 < w4.heap.size := by omega
          have HBw4 := hid (HBw3.out.trans (hb.mono (by first | omega | (simp <;> omega))))
          have HRw4 := hid (HRw3.out.after hb)
          clear hb
          go_wp2
          refine bodyPost_ret (res_rect (g := w.heap.size + 1 + 1) (v0 := a) (v1 := b) (v2 := c) (v3 := d) rfl rfl (by first | (with_reducible exact HRw4.out.set4 _ _ _ _) | (with_reducible exact (HRw4.out.set4 _ _ _ _).alloc _) | (with_reducible exact (HRw4.out.alloc _).set4 _ _ _ _))) rfl ⟨by rw [HV.out] <;> rfl, ?_⟩
          have hb := HBw4.out
          go_grown
        · rw [emptyB_f he2] at CE2
          have HE2 := hid CE2
          have HV := hid (hullS_n hv hv2 he he2)
          clear C C2 CE CE2 hv hv2 he he2
          go_enter Try.func17, Try.ntmps17
          go_wp2_with fail
          refine (HC.out _).mono ?_
          rintro e w1 ⟨rfl, hb⟩
          obtain ⟨hcw1, hfw1⟩ := bcell hb
          have hzw1 : w.heap.size + 3 ≤ w1.heap.size := by have := hb.size; first | omega | (simp at this; omega)
          have hzw10 : w.heap.size < w1.heap.size := by omega
          have hzw11 : w.heap.size + 1 < w1.heap.size := by omega
          have hzw12 : w.heap.size + 1 + 1 < w1.heap.size := by omega
          have HBw1 := hid (((((((Below.refl _ _).alloc (by first | (exact Nat.le_refl _) | omega | (simp <;> omega)) _)).alloc (by first | (exact Nat.le_refl _) | omega | (simp <;> omega)) _)).alloc (by first | (exact Nat.le_refl _) | omega | (simp <;> omega)) _).trans (hb.mono (by first | omega | (simp <;> omega))))
          have HRw1 : Hid (Blk w1 (w.heap.size + 1 + 1) 26 #[.int .i64 0, .int .i64 0, .int .i64 0, .int .i64 0]) := hid ((hb.block _ (by simp <;> omega)).trans (blk2 w _ _ _))
          clear hb
          go_wp2_with fail
          refine (HC2.out _).mono ?_
          rintro e w2 ⟨rfl, hb⟩
          obtain ⟨hcw2, hfw2⟩ := bcell hb
          have hzw2 : w.heap.size + 3 ≤ w2.heap.size := by have := hb.size; first | omega | (simp at this; omega)
          have hzw20 : w.heap.size < w2.heap.size := by omega
          have hzw21 : w.heap.size + 1 < w2.heap.size := by omega
          have hzw22 : w.heap.size + 1 + 1 < w2.heap.size := by omega
          have HBw2 := hid (HBw1.out.trans (hb.mono (by first | omega | (simp <;> omega))))
          have HRw2 := hid (HRw1.out.after hb)
          clear hb
          go_wp2_with fail
          refine (HE.out _).mono ?_
          rintro e w3 ⟨rfl, hb⟩
          obtain ⟨hcw3, hfw3⟩ := bcell hb
          have hzw3 : w.heap.size + 3 ≤ w3.heap.size := by have := hb.size; first | omega | (simp at this; omega)
          have hzw30 : w.heap.size < w3.heap.size := by omega
          have hzw31 : w.heap.size + 1 < w3.heap.size := by omega
          have hzw32 : w.heap.size + 1 + 1 < w3.heap.size := by omega
          have HBw3 := hid (HBw2.out.trans (hb.mono (by first | omega | (simp <;> omega))))
          have HRw3 := hid (HRw2.out.after hb)
          clear hb
          go_wp2_with fail
          refine (HE2.out _).mono ?_
          rintro e w4 ⟨rfl, hb⟩
          obtain ⟨hcw4, hfw4⟩ := bcell hb
          have hzw4 : w.heap.size + 3 ≤ w4.heap.size := by have := hb.size; first | omega | (simp at this; omega)
          have hzw40 : w.heap.size < w4.heap.size := by omega
          have hzw41 : w.heap.size + 1 < w4.heap.size := by omega
          have hzw42 : w.heap.size + 1 + 1 < w4.heap.size := by omega
          have HBw4 := hid (HBw3.out.trans (hb.mono (by first | omega | (simp <;> omega))))
          have HRw4 := hid (HRw3.out.after hb)
          clear hb
          go_wp2
          refine bodyPost_ret (res_rect (g := w.heap.size + 1 + 1) (v0 := (mn a a2)) (v1 := (mn b b2)) (v2 := (mx c c2)) (v3 := (mx d d2)) rfl rfl (by first | (with_reducible exact HRw4.out.set4 _ _ _ _) | (with_reducible exact (HRw4.out.set4 _ _ _ _).alloc _) | (with_reducible exact (HRw4.out.alloc _).set4 _ _ _ _))) rfl ⟨by rw [HV.out] <;> rfl, ?_⟩
          have hb := HBw4.out
          go_grown
    · rw [validB_f hv2] at C2
      have HC2 := hid C2
      have HV := hid (hullS_z (a := ⟨a, b, c, d⟩) (b := ⟨a2, b2, c2, d2⟩) (.inr hv2))
      clear C C2 CE CE2 hv hv2
      go_enter Try.func17, Try.ntmps17
      go_wp2_with fail
      refine (HC.out _).mono ?_
      rintro e w1 ⟨rfl, hb⟩
      obtain ⟨hcw1, hfw1⟩ := bcell hb
      have hzw1 : w.heap.size + 3 ≤ w1.heap.size := by have := hb.size; first | omega | (simp at this; omega)
      have hzw10 : w.heap.size < w1.heap.size := by omega
      have hzw11 : w.heap.size + 1 < w1.heap.size := by omega
      have hzw12 : w.heap.size + 1 + 1 < w1.heap.size := by omega
      have HBw1 := hid (((((((Below.refl _ _).alloc (by first | (exact Nat.le_refl _) | omega | (simp <;> omega)) _)).alloc (by first | (exact Nat.le_refl _) | omega | (simp <;> omega)) _)).alloc (by first | (exact Nat.le_refl _) | omega | (simp <;> omega)) _).trans (hb.mono (by first | omega | (simp <;> omega))))
      have HRw1 : Hid (Blk w1 (w.heap.size + 1 + 1) 26 #[.int .i64 0, .int .i64 0, .int .i64 0, .int .i64 0]) := hid ((hb.block _ (by simp <;> omega)).trans (blk2 w _ _ _))
      clear hb
      go_wp2_with fail
      refine (HC2.out _).mono ?_
      rintro e w2 ⟨rfl, hb⟩
      obtain ⟨hcw2, hfw2⟩ := bcell hb
      have hzw2 : w.heap.size + 3 ≤ w2.heap.size := by have := hb.size; first | omega | (simp at this; omega)
      have hzw20 : w.heap.size < w2.heap.size := by omega
      have hzw21 : w.heap.size + 1 < w2.heap.size := by omega
      have hzw22 : w.heap.size + 1 + 1 < w2.heap.size := by omega
      have HBw2 := hid (HBw1.out.trans (hb.mono (by first | omega | (simp <;> omega))))
      have HRw2 := hid (HRw1.out.after hb)
      clear hb
      go_wp2
      refine bodyPost_ret (res_rect (g := w.heap.size + 1 + 1) (v0 := 0) (v1 := 0) (v2 := 0) (v3 := 0) rfl rfl (by first | (with_reducible exact HRw2.out.set4 _ _ _ _) | (with_reducible exact (HRw2.out.set4 _ _ _ _).alloc _) | (with_reducible exact (HRw2.out.alloc _).set4 _ _ _ _))) rfl ⟨by rw [HV.out] <;> rfl, ?_⟩
      have hb := HBw2.out
      go_grown
  · rw [validB_f hv] at C
    have HC := hid C
    have HV := hid (hullS_z (a := ⟨a, b, c, d⟩) (b := ⟨a2, b2, c2, d2⟩) (.inl hv))
    clear C C2 CE CE2 hv
    go_enter Try.func17, Try.ntmps17
    go_wp2_with fail
    refine (HC.out _).mono ?_
    rintro e w1 ⟨rfl, hb⟩
    obtain ⟨hcw1, hfw1⟩ := bcell hb
    have hzw1 : w.heap.size + 3 ≤ w1.heap.size := by have := hb.size; first | omega | (simp at this; omega)
    have hzw10 : w.heap.size < w1.heap.size := by omega
    have hzw11 : w.heap.size + 1 < w1.heap.size := by omega
    have hzw12 : w.heap.size + 1 + 1 < w1.heap.size := by omega
    have HBw1 := hid (((((((Below.refl _ _).alloc (by first | (exact Nat.le_refl _) | omega | (simp <;> omega)) _)).alloc (by first | (exact Nat.le_refl _) | omega | (simp <;> omega)) _)).alloc (by first | (exact Nat.le_refl _) | omega | (simp <;> omega)) _).trans (hb.mono (by first | omega | (simp <;> omega))))
    have HRw1 : Hid (Blk w1 (w.heap.size + 1 + 1) 26 #[.int .i64 0, .int .i64 0, .int .i64 0, .int .i64 0]) := hid ((hb.block _ (by simp <;> omega)).trans (blk2 w _ _ _))
    clear hb
    go_wp2
    refine bodyPost_ret (res_rect (g := w.heap.size + 1 + 1) (v0 := 0) (v1 := 0) (v2 := 0) (v3 := 0) rfl rfl (by first | (with_reducible exact HRw1.out.set4 _ _ _ _) | (with_reducible exact (HRw1.out.set4 _ _ _ _).alloc _) | (with_reducible exact (HRw1.out.alloc _).set4 _ _ _ _))) rfl ⟨by rw [HV.out] <;> rfl, ?_⟩
    have hb := HBw1.out
    go_grown

set_option maxHeartbeats 1000000 in
theorem rhull_any (a b c d a2 b2 c2 d2 : Int) (w : World) :
    Calls Try.prog 32 #[.agg #[.int .i64 a, .int .i64 b, .int .i64 c, .int .i64 d], .agg #[.int .i64 a2, .int .i64 b2, .int .i64 c2, .int .i64 d2]] w fun e w' => e = .returned (.agg #[.int .i64 (hullS ⟨a, b, c, d⟩ ⟨a2, b2, c2, d2⟩).x0, .int .i64 (hullS ⟨a, b, c, d⟩ ⟨a2, b2, c2, d2⟩).y0, .int .i64 (hullS ⟨a, b, c, d⟩ ⟨a2, b2, c2, d2⟩).x1, .int .i64 (hullS ⟨a, b, c, d⟩ ⟨a2, b2, c2, d2⟩).y1]) ∧ Below w.heap.size w w' := by
  have C := fun w => rvalid_any a b c d w
  have C2 := fun w => rvalid_any a2 b2 c2 d2 w
  have CE := fun w => rempty_any a b c d w
  have CE2 := fun w => rempty_any a2 b2 c2 d2 w
  have hmx := fun x y w => run_mx x y w
  have hmn := fun x y w => run_mn x y w
  by_cases hv : ValidP ⟨a, b, c, d⟩
  · rw [validB_t hv] at C
    have HC := hid C
    by_cases hv2 : ValidP ⟨a2, b2, c2, d2⟩
    · rw [validB_t hv2] at C2
      have HC2 := hid C2
      by_cases he : EmptyP ⟨a, b, c, d⟩
      · rw [emptyB_t he] at CE
        have HE := hid CE
        have HV := hid (hullS_a hv hv2 he)
        clear C C2 CE CE2 hv hv2 he
        go_enter Try.func32, Try.ntmps32
        go_wp2_with fail
        refine (HC.out _).mono ?_
        rintro e w1 ⟨rfl, hb⟩
        obtain ⟨hcw1, hfw1⟩ := bcell hb
        have hzw1 : w.heap.size + 3 ≤ w1.heap.size := by have := hb.size; first | omega | (simp at this; omega)
        have hzw10 : w.heap.size < w1.heap.size := by omega
        have hzw11 : w.heap.size + 1 < w1.heap.size := by omega
        have hzw12 : w.heap.size + 1 + 1 < w1.heap.size := by omega
        have HBw1 := hid (((((((Below.refl _ _).alloc (by first | (exact Nat.le_refl _) | omega | (simp <;> omega)) _)).alloc (by first | (exact Nat.le_refl _) | omega | (simp <;> omega)) _)).alloc (by first | (exact Nat.le_refl _) | omega | (simp <;> omega)) _).trans (hb.mono (by first | omega | (simp <;> omega))))
        have HRw1 : Hid (Blk w1 (w.heap.size + 1 + 1) 26 #[.int .i64 0, .int .i64 0, .int .i64 0, .int .i64 0]) := hid ((hb.block _ (by simp <;> omega)).trans (blk2 w _ _ _))
        clear hb
        go_wp2_with fail
        refine (HC2.out _).mono ?_
        rintro e w2 ⟨rfl, hb⟩
        obtain ⟨hcw2, hfw2⟩ := bcell hb
        have hzw2 : w.heap.size + 3 ≤ w2.heap.size := by have := hb.size; first | omega | (simp at this; omega)
        have hzw20 : w.heap.size < w2.heap.size := by omega
        have hzw21 : w.heap.size + 1 < w2.heap.size := by omega
        have hzw22 : w.heap.size + 1 + 1 < w2.heap.size := by omega
        have HBw2 := hid (HBw1.out.trans (hb.mono (by first | omega | (simp <;> omega))))
        have HRw2 := hid (HRw1.out.after hb)
        clear hb
        go_wp2_with fail
        refine (HE.out _).mono ?_
        rintro e w3 ⟨rfl, hb⟩
        obtain ⟨hcw3, hfw3⟩ := bcell hb
        have hzw3 : w.heap.size + 3 ≤ w3.heap.size := by have := hb.size; first | omega | (simp at this; omega)
        have hzw30 : w.heap.size < w3.heap.size := by omega
        have hzw31 : w.heap.size + 1 < w3.heap.size := by omega
        have hzw32 : w.heap.size + 1 + 1 < w3.heap.size := by omega
        have HBw3 := hid (HBw2.out.trans (hb.mono (by first | omega | (simp <;> omega))))
        have HRw3 := hid (HRw2.out.after hb)
        clear hb
        go_wp2
        refine bodyPost_ret (res_rect (g := w.heap.size + 1 + 1) (v0 := a2) (v1 := b2) (v2 := c2) (v3 := d2) rfl rfl (by first | (with_reducible exact HRw3.out.set4 _ _ _ _) | (with_reducible exact (HRw3.out.set4 _ _ _ _).alloc _) | (with_reducible exact (HRw3.out.alloc _).set4 _ _ _ _))) rfl ⟨by rw [HV.out] <;> rfl, ?_⟩
        have hb := HBw3.out
        go_grown
      · rw [emptyB_f he] at CE
        have HE := hid CE
        by_cases he2 : EmptyP ⟨a2, b2, c2, d2⟩
        · rw [emptyB_t he2] at CE2
          have HE2 := hid CE2
          have HV := hid (hullS_b hv hv2 he he2)
          clear C C2 CE CE2 hv hv2 he he2
          go_enter Try.func32, Try.ntmps32
          go_wp2_with fail
          refine (HC.out _).mono ?_
          rintro e w1 ⟨rfl, hb⟩
          obtain ⟨hcw1, hfw1⟩ := bcell hb
          have hzw1 : w.heap.size + 3 ≤ w1.heap.size := by have := hb.size; first | omega | (simp at this; omega)
          have hzw10 : w.heap.size < w1.heap.size := by omega
          have hzw11 : w.heap.size + 1 < w1.heap.size := by omega
          have hzw12 : w.heap.size + 1 + 1 < w1.heap.size := by omega
          have HBw1 := hid (((((((Below.refl _ _).alloc (by first | (exact Nat.le_refl _) | omega | (simp <;> omega)) _)).alloc (by first | (exact Nat.le_refl _) | omega | (simp <;> omega)) _)).alloc (by first | (exact Nat.le_refl _) | omega | (simp <;> omega)) _).trans (hb.mono (by first | omega | (simp <;> omega))))
          have HRw1 : Hid (Blk w1 (w.heap.size + 1 + 1) 26 #[.int .i64 0, .int .i64 0, .int .i64 0, .int .i64 0]) := hid ((hb.block _ (by simp <;> omega)).trans (blk2 w _ _ _))
          clear hb
          go_wp2_with fail
          refine (HC2.out _).mono ?_
          rintro e w2 ⟨rfl, hb⟩
          obtain ⟨hcw2, hfw2⟩ := bcell hb
          have hzw2 : w.heap.size + 3 ≤ w2.heap.size := by have := hb.size; first | omega | (simp at this; omega)
          have hzw20 : w.heap.size < w2.heap.size := by omega
          have hzw21 : w.heap.size + 1 < w2.heap.size := by omega
          have hzw22 : w.heap.size + 1 + 1 < w2.heap.size := by omega
          have HBw2 := hid (HBw1.out.trans (hb.mono (by first | omega | (simp <;> omega))))
          have HRw2 := hid (HRw1.out.after hb)
          clear hb
          go_wp2_with fail
          refine (HE.out _).mono ?_
          rintro e w3 ⟨rfl, hb⟩
          obtain ⟨hcw3, hfw3⟩ := bcell hb
          have hzw3 : w.heap.size + 3 ≤ w3.heap.size := by have := hb.size; first | omega | (simp at this; omega)
          have hzw30 : w.heap.size < w3.heap.size := by omega
          have hzw31 : w.heap.size + 1 < w3.heap.size := by omega
          have hzw32 : w.heap.size + 1 + 1 < w3.heap.size := by omega
          have HBw3 := hid (HBw2.out.trans (hb.mono (by first | omega | (simp <;> omega))))
          have HRw3 := hid (HRw2.out.after hb)
          clear hb
          go_wp2_with fail
          refine (HE2.out _).mono ?_
          rintro e w4 ⟨rfl, hb⟩
          obtain ⟨hcw4, hfw4⟩ := bcell hb
          have hzw4 : w.heap.size + 3 ≤ w4.heap.size := by have := hb.size; first | omega | (simp at this; omega)
          have hzw40 : w.heap.size < w4.heap.size := by omega
          have hzw41 : w.heap.size + 1 < w4.heap.size := by omega
          have hzw42 : w.heap.size + 1 + 1 < w4.heap.size := by omega
          have HBw4 := hid (HBw3.out.trans (hb.mono (by first | omega | (simp <;> omega))))
          have HRw4 := hid (HRw3.out.after hb)
          clear hb
          go_wp2
          refine bodyPost_ret (res_rect (g := w.heap.size + 1 + 1) (v0 := a) (v1 := b) (v2 := c) (v3 := d) rfl rfl (by first | (with_reducible exact HRw4.out.set4 _ _ _ _) | (with_reducible exact (HRw4.out.set4 _ _ _ _).alloc _) | (with_reducible exact (HRw4.out.alloc _).set4 _ _ _ _))) rfl ⟨by rw [HV.out] <;> rfl, ?_⟩
          have hb := HBw4.out
          go_grown
        · rw [emptyB_f he2] at CE2
          have HE2 := hid CE2
          have HV := hid (hullS_n hv hv2 he he2)
          clear C C2 CE CE2 hv hv2 he he2
          go_enter Try.func32, Try.ntmps32
          go_wp2_with fail
          refine (HC.out _).mono ?_
          rintro e w1 ⟨rfl, hb⟩
          obtain ⟨hcw1, hfw1⟩ := bcell hb
          have hzw1 : w.heap.size + 3 ≤ w1.heap.size := by have := hb.size; first | omega | (simp at this; omega)
          have hzw10 : w.heap.size < w1.heap.size := by omega
          have hzw11 : w.heap.size + 1 < w1.heap.size := by omega
          have hzw12 : w.heap.size + 1 + 1 < w1.heap.size := by omega
          have HBw1 := hid (((((((Below.refl _ _).alloc (by first | (exact Nat.le_refl _) | omega | (simp <;> omega)) _)).alloc (by first | (exact Nat.le_refl _) | omega | (simp <;> omega)) _)).alloc (by first | (exact Nat.le_refl _) | omega | (simp <;> omega)) _).trans (hb.mono (by first | omega | (simp <;> omega))))
          have HRw1 : Hid (Blk w1 (w.heap.size + 1 + 1) 26 #[.int .i64 0, .int .i64 0, .int .i64 0, .int .i64 0]) := hid ((hb.block _ (by simp <;> omega)).trans (blk2 w _ _ _))
          clear hb
          go_wp2_with fail
          refine (HC2.out _).mono ?_
          rintro e w2 ⟨rfl, hb⟩
          obtain ⟨hcw2, hfw2⟩ := bcell hb
          have hzw2 : w.heap.size + 3 ≤ w2.heap.size := by have := hb.size; first | omega | (simp at this; omega)
          have hzw20 : w.heap.size < w2.heap.size := by omega
          have hzw21 : w.heap.size + 1 < w2.heap.size := by omega
          have hzw22 : w.heap.size + 1 + 1 < w2.heap.size := by omega
          have HBw2 := hid (HBw1.out.trans (hb.mono (by first | omega | (simp <;> omega))))
          have HRw2 := hid (HRw1.out.after hb)
          clear hb
          go_wp2_with fail
          refine (HE.out _).mono ?_
          rintro e w3 ⟨rfl, hb⟩
          obtain ⟨hcw3, hfw3⟩ := bcell hb
          have hzw3 : w.heap.size + 3 ≤ w3.heap.size := by have := hb.size; first | omega | (simp at this; omega)
          have hzw30 : w.heap.size < w3.heap.size := by omega
          have hzw31 : w.heap.size + 1 < w3.heap.size := by omega
          have hzw32 : w.heap.size + 1 + 1 < w3.heap.size := by omega
          have HBw3 := hid (HBw2.out.trans (hb.mono (by first | omega | (simp <;> omega))))
          have HRw3 := hid (HRw2.out.after hb)
          clear hb
          go_wp2_with fail
          refine (HE2.out _).mono ?_
          rintro e w4 ⟨rfl, hb⟩
          obtain ⟨hcw4, hfw4⟩ := bcell hb
          have hzw4 : w.heap.size + 3 ≤ w4.heap.size := by have := hb.size; first | omega | (simp at this; omega)
          have hzw40 : w.heap.size < w4.heap.size := by omega
          have hzw41 : w.heap.size + 1 < w4.heap.size := by omega
          have hzw42 : w.heap.size + 1 + 1 < w4.heap.size := by omega
          have HBw4 := hid (HBw3.out.trans (hb.mono (by first | omega | (simp <;> omega))))
          have HRw4 := hid (HRw3.out.after hb)
          clear hb
          go_wp2
          refine bodyPost_ret (res_rect (g := w.heap.size + 1 + 1) (v0 := (mn a a2)) (v1 := (mn b b2)) (v2 := (mx c c2)) (v3 := (mx d d2)) rfl rfl (by first | (with_reducible exact HRw4.out.set4 _ _ _ _) | (with_reducible exact (HRw4.out.set4 _ _ _ _).alloc _) | (with_reducible exact (HRw4.out.alloc _).set4 _ _ _ _))) rfl ⟨by rw [HV.out] <;> rfl, ?_⟩
          have hb := HBw4.out
          go_grown
    · rw [validB_f hv2] at C2
      have HC2 := hid C2
      have HV := hid (hullS_z (a := ⟨a, b, c, d⟩) (b := ⟨a2, b2, c2, d2⟩) (.inr hv2))
      clear C C2 CE CE2 hv hv2
      go_enter Try.func32, Try.ntmps32
      go_wp2_with fail
      refine (HC.out _).mono ?_
      rintro e w1 ⟨rfl, hb⟩
      obtain ⟨hcw1, hfw1⟩ := bcell hb
      have hzw1 : w.heap.size + 3 ≤ w1.heap.size := by have := hb.size; first | omega | (simp at this; omega)
      have hzw10 : w.heap.size < w1.heap.size := by omega
      have hzw11 : w.heap.size + 1 < w1.heap.size := by omega
      have hzw12 : w.heap.size + 1 + 1 < w1.heap.size := by omega
      have HBw1 := hid (((((((Below.refl _ _).alloc (by first | (exact Nat.le_refl _) | omega | (simp <;> omega)) _)).alloc (by first | (exact Nat.le_refl _) | omega | (simp <;> omega)) _)).alloc (by first | (exact Nat.le_refl _) | omega | (simp <;> omega)) _).trans (hb.mono (by first | omega | (simp <;> omega))))
      have HRw1 : Hid (Blk w1 (w.heap.size + 1 + 1) 26 #[.int .i64 0, .int .i64 0, .int .i64 0, .int .i64 0]) := hid ((hb.block _ (by simp <;> omega)).trans (blk2 w _ _ _))
      clear hb
      go_wp2_with fail
      refine (HC2.out _).mono ?_
      rintro e w2 ⟨rfl, hb⟩
      obtain ⟨hcw2, hfw2⟩ := bcell hb
      have hzw2 : w.heap.size + 3 ≤ w2.heap.size := by have := hb.size; first | omega | (simp at this; omega)
      have hzw20 : w.heap.size < w2.heap.size := by omega
      have hzw21 : w.heap.size + 1 < w2.heap.size := by omega
      have hzw22 : w.heap.size + 1 + 1 < w2.heap.size := by omega
      have HBw2 := hid (HBw1.out.trans (hb.mono (by first | omega | (simp <;> omega))))
      have HRw2 := hid (HRw1.out.after hb)
      clear hb
      go_wp2
      refine bodyPost_ret (res_rect (g := w.heap.size + 1 + 1) (v0 := 0) (v1 := 0) (v2 := 0) (v3 := 0) rfl rfl (by first | (with_reducible exact HRw2.out.set4 _ _ _ _) | (with_reducible exact (HRw2.out.set4 _ _ _ _).alloc _) | (with_reducible exact (HRw2.out.alloc _).set4 _ _ _ _))) rfl ⟨by rw [HV.out] <;> rfl, ?_⟩
      have hb := HBw2.out
      go_grown
  · rw [validB_f hv] at C
    have HC := hid C
    have HV := hid (hullS_z (a := ⟨a, b, c, d⟩) (b := ⟨a2, b2, c2, d2⟩) (.inl hv))
    clear C C2 CE CE2 hv
    go_enter Try.func32, Try.ntmps32
    go_wp2_with fail
    refine (HC.out _).mono ?_
    rintro e w1 ⟨rfl, hb⟩
    obtain ⟨hcw1, hfw1⟩ := bcell hb
    have hzw1 : w.heap.size + 3 ≤ w1.heap.size := by have := hb.size; first | omega | (simp at this; omega)
    have hzw10 : w.heap.size < w1.heap.size := by omega
    have hzw11 : w.heap.size + 1 < w1.heap.size := by omega
    have hzw12 : w.heap.size + 1 + 1 < w1.heap.size := by omega
    have HBw1 := hid (((((((Below.refl _ _).alloc (by first | (exact Nat.le_refl _) | omega | (simp <;> omega)) _)).alloc (by first | (exact Nat.le_refl _) | omega | (simp <;> omega)) _)).alloc (by first | (exact Nat.le_refl _) | omega | (simp <;> omega)) _).trans (hb.mono (by first | omega | (simp <;> omega))))
    have HRw1 : Hid (Blk w1 (w.heap.size + 1 + 1) 26 #[.int .i64 0, .int .i64 0, .int .i64 0, .int .i64 0]) := hid ((hb.block _ (by simp <;> omega)).trans (blk2 w _ _ _))
    clear hb
    go_wp2
    refine bodyPost_ret (res_rect (g := w.heap.size + 1 + 1) (v0 := 0) (v1 := 0) (v2 := 0) (v3 := 0) rfl rfl (by first | (with_reducible exact HRw1.out.set4 _ _ _ _) | (with_reducible exact (HRw1.out.set4 _ _ _ _).alloc _) | (with_reducible exact (HRw1.out.alloc _).set4 _ _ _ _))) rfl ⟨by rw [HV.out] <;> rfl, ?_⟩
    have hb := HBw1.out
    go_grown

end Go.Proofs.Ytphleapmgkcpoaa
