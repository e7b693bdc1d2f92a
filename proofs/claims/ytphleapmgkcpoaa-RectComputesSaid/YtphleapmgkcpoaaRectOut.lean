/-
  Layer 2: Outset: contract.
-/
import Derived.Test.YtphleapmgkcpoaaRectWalks3
namespace Go.Proofs.Ytphleapmgkcpoaa
open Go.RowKit
set_option linter.unusedVariables false

theorem outsetS_no {r : Rc} {l t q u : Int} (h : ¬ (FullP r ∧ stepP l ∧ stepP t ∧ stepP q ∧ stepP u ∧ ValidP (outS r l t q u))) : outsetS r l t q u = Rc.zero := by unfold outsetS; exact if_neg h
theorem outsetS_yes {r : Rc} {l t q u : Int} (h : FullP r ∧ stepP l ∧ stepP t ∧ stepP q ∧ stepP u ∧ ValidP (outS r l t q u)) : outsetS r l t q u = outS r l t q u := by unfold outsetS; exact if_pos h
set_option maxHeartbeats 2000000 in
theorem outset_any (a b c d l t q u : Int) (w : World) :
    Calls Try.prog 20 #[.agg #[.int .i64 a, .int .i64 b, .int .i64 c, .int .i64 d], .int .i64 l, .int .i64 t, .int .i64 q, .int .i64 u] w fun e w' => e = .returned (.agg #[.int .i64 (outsetS ⟨a, b, c, d⟩ l t q u).x0, .int .i64 (outsetS ⟨a, b, c, d⟩ l t q u).y0, .int .i64 (outsetS ⟨a, b, c, d⟩ l t q u).x1, .int .i64 (outsetS ⟨a, b, c, d⟩ l t q u).y1]) ∧ Below w.heap.size w w' := by
  have CE := fun w => empty_any a b c d w
  have C := fun w => valid_any a b c d w
  have C3 := fun w => valid_any (a - l) (b - t) (c + q) (d + u) w
  have i0 : ∀ w, (Instr.index 49 (.agg #[.int .i64 l, .int .i64 t, .int .i64 q, .int .i64 u]) (.int .i64 0)).run Try.prog w = .ok (.int .i64 l) w := fun _ => by kernel_rfl
  have i1 : ∀ w, (Instr.index 49 (.agg #[.int .i64 l, .int .i64 t, .int .i64 q, .int .i64 u]) (.int .i64 1)).run Try.prog w = .ok (.int .i64 t) w := fun _ => by kernel_rfl
  have i2 : ∀ w, (Instr.index 49 (.agg #[.int .i64 l, .int .i64 t, .int .i64 q, .int .i64 u]) (.int .i64 2)).run Try.prog w = .ok (.int .i64 q) w := fun _ => by kernel_rfl
  have i3 : ∀ w, (Instr.index 49 (.agg #[.int .i64 l, .int .i64 t, .int .i64 q, .int .i64 u]) (.int .i64 3)).run Try.prog w = .ok (.int .i64 u) w := fun _ => by kernel_rfl
  by_cases he : EmptyP ⟨a, b, c, d⟩
  · rw [emptyB_t he] at CE
    have HE := hid CE
    have HV := hid (outsetS_no (l := l) (t := t) (q := q) (u := u) (r := ⟨a, b, c, d⟩) (fun h => ((full_iff _).1 h.1).2 he))
    clear CE C C3 he
    go_enter Try.func20, Try.ntmps20
    go_wp2_with fail
    refine (HE.out _).mono ?_
    rintro e w1 ⟨rfl, hb⟩
    obtain ⟨hcw1, hfw1⟩ := bcell hb
    have hzw1 : w.heap.size + 2 ≤ w1.heap.size := by have := hb.size; first | omega | (simp at this; omega)
    have hzw10 : w.heap.size < w1.heap.size := by omega
    have hzw11 : w.heap.size + 1 < w1.heap.size := by omega
    have HBw1 := hid (((((Below.refl _ _).alloc (by first | (exact Nat.le_refl _) | omega | (simp <;> omega)) _)).alloc (by first | (exact Nat.le_refl _) | omega | (simp <;> omega)) _).trans (hb.mono (by first | omega | (simp <;> omega))))
    have HRw1 : Hid (Blk w1 (w.heap.size + 1) 26 #[.int .i64 0, .int .i64 0, .int .i64 0, .int .i64 0]) := hid ((hb.block _ (by simp <;> omega)).trans (blk1 w _ _))
    clear hb
    go_wp2
    refine bodyPost_ret (res_rect (g := w.heap.size + 1) (v0 := 0) (v1 := 0) (v2 := 0) (v3 := 0) rfl rfl (by first | (with_reducible exact HRw1.out.set4 _ _ _ _) | (with_reducible exact (HRw1.out.set4 _ _ _ _).alloc _) | (with_reducible exact (HRw1.out.alloc _).set4 _ _ _ _))) rfl ⟨by rw [HV.out] <;> rfl, ?_⟩
    have hb := HBw1.out
    go_grown
  rw [emptyB_f he] at CE
  have HE := hid CE
  by_cases hv : ValidP ⟨a, b, c, d⟩
  · rw [validB_t hv] at C
    have HC := hid C
    have hd := valid_bd hv
    obtain ⟨⟨x1, x2⟩, ⟨x3, x4⟩, ⟨x5, x6⟩, ⟨x7, x8⟩, _, _⟩ := hd
    by_cases hl : stepP l
    rotate_left
    · have HV := hid (outsetS_no (l := l) (t := t) (q := q) (u := u) (r := ⟨a, b, c, d⟩) (fun h => hl h.2.1))
      unfold stepP at *
      clear CE C C3 he hv
      by_cases hneg : l < 0
      · go_enter Try.func20, Try.ntmps20
        go_wp2_with fail
        refine (HE.out _).mono ?_
        rintro e w1 ⟨rfl, hb⟩
        obtain ⟨hcw1, hfw1⟩ := bcell hb
        have hzw1 : w.heap.size + 2 ≤ w1.heap.size := by have := hb.size; first | omega | (simp at this; omega)
        have hzw10 : w.heap.size < w1.heap.size := by omega
        have hzw11 : w.heap.size + 1 < w1.heap.size := by omega
        have HBw1 := hid (((((Below.refl _ _).alloc (by first | (exact Nat.le_refl _) | omega | (simp <;> omega)) _)).alloc (by first | (exact Nat.le_refl _) | omega | (simp <;> omega)) _).trans (hb.mono (by first | omega | (simp <;> omega))))
        have HRw1 : Hid (Blk w1 (w.heap.size + 1) 26 #[.int .i64 0, .int .i64 0, .int .i64 0, .int .i64 0]) := hid ((hb.block _ (by simp <;> omega)).trans (blk1 w _ _))
        clear hb
        go_wp2_with fail
        refine (HC.out _).mono ?_
        rintro e w2 ⟨rfl, hb⟩
        obtain ⟨hcw2, hfw2⟩ := bcell hb
        have hzw2 : w.heap.size + 2 ≤ w2.heap.size := by have := hb.size; first | omega | (simp at this; omega)
        have hzw20 : w.heap.size < w2.heap.size := by omega
        have hzw21 : w.heap.size + 1 < w2.heap.size := by omega
        have HBw2 := hid (HBw1.out.trans (hb.mono (by first | omega | (simp <;> omega))))
        have HRw2 := hid ((HRw1.out).after hb)
        clear hb
        go_wp2_with fail
        refine wp_loop_rounds 5 ?_
        rw [rounds_succ]
        go_wp2_with fail
        refine bodyPost_ret (res_rect (g := w.heap.size + 1) (v0 := 0) (v1 := 0) (v2 := 0) (v3 := 0) rfl rfl (by first | (with_reducible exact HRw2.out.set4 _ _ _ _) | (with_reducible exact (HRw2.out.set4 _ _ _ _).alloc _) | (with_reducible exact (HRw2.out.alloc _).set4 _ _ _ _))) rfl ⟨by rw [HV.out] <;> rfl, ?_⟩
        have hb := HBw2.out
        go_grown
      · go_enter Try.func20, Try.ntmps20
        go_wp2_with fail
        refine (HE.out _).mono ?_
        rintro e w1 ⟨rfl, hb⟩
        obtain ⟨hcw1, hfw1⟩ := bcell hb
        have hzw1 : w.heap.size + 2 ≤ w1.heap.size := by have := hb.size; first | omega | (simp at this; omega)
        have hzw10 : w.heap.size < w1.heap.size := by omega
        have hzw11 : w.heap.size + 1 < w1.heap.size := by omega
        have HBw1 := hid (((((Below.refl _ _).alloc (by first | (exact Nat.le_refl _) | omega | (simp <;> omega)) _)).alloc (by first | (exact Nat.le_refl _) | omega | (simp <;> omega)) _).trans (hb.mono (by first | omega | (simp <;> omega))))
        have HRw1 : Hid (Blk w1 (w.heap.size + 1) 26 #[.int .i64 0, .int .i64 0, .int .i64 0, .int .i64 0]) := hid ((hb.block _ (by simp <;> omega)).trans (blk1 w _ _))
        clear hb
        go_wp2_with fail
        refine (HC.out _).mono ?_
        rintro e w2 ⟨rfl, hb⟩
        obtain ⟨hcw2, hfw2⟩ := bcell hb
        have hzw2 : w.heap.size + 2 ≤ w2.heap.size := by have := hb.size; first | omega | (simp at this; omega)
        have hzw20 : w.heap.size < w2.heap.size := by omega
        have hzw21 : w.heap.size + 1 < w2.heap.size := by omega
        have HBw2 := hid (HBw1.out.trans (hb.mono (by first | omega | (simp <;> omega))))
        have HRw2 := hid ((HRw1.out).after hb)
        clear hb
        go_wp2_with fail
        refine wp_loop_rounds 5 ?_
        rw [rounds_succ]
        go_wp2_with fail
        refine bodyPost_ret (res_rect (g := w.heap.size + 1) (v0 := 0) (v1 := 0) (v2 := 0) (v3 := 0) rfl rfl (by first | (with_reducible exact HRw2.out.set4 _ _ _ _) | (with_reducible exact (HRw2.out.set4 _ _ _ _).alloc _) | (with_reducible exact (HRw2.out.alloc _).set4 _ _ _ _))) rfl ⟨by rw [HV.out] <;> rfl, ?_⟩
        have hb := HBw2.out
        go_grown
    by_cases ht : stepP t
    rotate_left
    · have HV := hid (outsetS_no (l := l) (t := t) (q := q) (u := u) (r := ⟨a, b, c, d⟩) (fun h => ht h.2.2.1))
      unfold stepP at *
      clear CE C C3 he hv
      by_cases hneg : t < 0
      · go_enter Try.func20, Try.ntmps20
        go_wp2_with fail
        refine (HE.out _).mono ?_
        rintro e w1 ⟨rfl, hb⟩
        obtain ⟨hcw1, hfw1⟩ := bcell hb
        have hzw1 : w.heap.size + 2 ≤ w1.heap.size := by have := hb.size; first | omega | (simp at this; omega)
        have hzw10 : w.heap.size < w1.heap.size := by omega
        have hzw11 : w.heap.size + 1 < w1.heap.size := by omega
        have HBw1 := hid (((((Below.refl _ _).alloc (by first | (exact Nat.le_refl _) | omega | (simp <;> omega)) _)).alloc (by first | (exact Nat.le_refl _) | omega | (simp <;> omega)) _).trans (hb.mono (by first | omega | (simp <;> omega))))
        have HRw1 : Hid (Blk w1 (w.heap.size + 1) 26 #[.int .i64 0, .int .i64 0, .int .i64 0, .int .i64 0]) := hid ((hb.block _ (by simp <;> omega)).trans (blk1 w _ _))
        clear hb
        go_wp2_with fail
        refine (HC.out _).mono ?_
        rintro e w2 ⟨rfl, hb⟩
        obtain ⟨hcw2, hfw2⟩ := bcell hb
        have hzw2 : w.heap.size + 2 ≤ w2.heap.size := by have := hb.size; first | omega | (simp at this; omega)
        have hzw20 : w.heap.size < w2.heap.size := by omega
        have hzw21 : w.heap.size + 1 < w2.heap.size := by omega
        have HBw2 := hid (HBw1.out.trans (hb.mono (by first | omega | (simp <;> omega))))
        have HRw2 := hid ((HRw1.out).after hb)
        clear hb
        go_wp2_with fail
        refine wp_loop_rounds 5 ?_
        rw [rounds_succ]
        go_wp2_with fail
        rw [rounds_succ]
        go_wp2_with fail
        refine bodyPost_ret (res_rect (g := w.heap.size + 1) (v0 := 0) (v1 := 0) (v2 := 0) (v3 := 0) rfl rfl (by first | (with_reducible exact HRw2.out.set4 _ _ _ _) | (with_reducible exact (HRw2.out.set4 _ _ _ _).alloc _) | (with_reducible exact (HRw2.out.alloc _).set4 _ _ _ _))) rfl ⟨by rw [HV.out] <;> rfl, ?_⟩
        have hb := HBw2.out
        go_grown
      · go_enter Try.func20, Try.ntmps20
        go_wp2_with fail
        refine (HE.out _).mono ?_
        rintro e w1 ⟨rfl, hb⟩
        obtain ⟨hcw1, hfw1⟩ := bcell hb
        have hzw1 : w.heap.size + 2 ≤ w1.heap.size := by have := hb.size; first | omega | (simp at this; omega)
        have hzw10 : w.heap.size < w1.heap.size := by omega
        have hzw11 : w.heap.size + 1 < w1.heap.size := by omega
        have HBw1 := hid (((((Below.refl _ _).alloc (by first | (exact Nat.le_refl _) | omega | (simp <;> omega)) _)).alloc (by first | (exact Nat.le_refl _) | omega | (simp <;> omega)) _).trans (hb.mono (by first | omega | (simp <;> omega))))
        have HRw1 : Hid (Blk w1 (w.heap.size + 1) 26 #[.int .i64 0, .int .i64 0, .int .i64 0, .int .i64 0]) := hid ((hb.block _ (by simp <;> omega)).trans (blk1 w _ _))
        clear hb
        go_wp2_with fail
        refine (HC.out _).mono ?_
        rintro e w2 ⟨rfl, hb⟩
        obtain ⟨hcw2, hfw2⟩ := bcell hb
        have hzw2 : w.heap.size + 2 ≤ w2.heap.size := by have := hb.size; first | omega | (simp at this; omega)
        have hzw20 : w.heap.size < w2.heap.size := by omega
        have hzw21 : w.heap.size + 1 < w2.heap.size := by omega
        have HBw2 := hid (HBw1.out.trans (hb.mono (by first | omega | (simp <;> omega))))
        have HRw2 := hid ((HRw1.out).after hb)
        clear hb
        go_wp2_with fail
        refine wp_loop_rounds 5 ?_
        rw [rounds_succ]
        go_wp2_with fail
        rw [rounds_succ]
        go_wp2_with fail
        refine bodyPost_ret (res_rect (g := w.heap.size + 1) (v0 := 0) (v1 := 0) (v2 := 0) (v3 := 0) rfl rfl (by first | (with_reducible exact HRw2.out.set4 _ _ _ _) | (with_reducible exact (HRw2.out.set4 _ _ _ _).alloc _) | (with_reducible exact (HRw2.out.alloc _).set4 _ _ _ _))) rfl ⟨by rw [HV.out] <;> rfl, ?_⟩
        have hb := HBw2.out
        go_grown
    by_cases hq : stepP q
    rotate_left
    · have HV := hid (outsetS_no (l := l) (t := t) (q := q) (u := u) (r := ⟨a, b, c, d⟩) (fun h => hq h.2.2.2.1))
      unfold stepP at *
      clear CE C C3 he hv
      by_cases hneg : q < 0
      · go_enter Try.func20, Try.ntmps20
        go_wp2_with fail
        refine (HE.out _).mono ?_
        rintro e w1 ⟨rfl, hb⟩
        obtain ⟨hcw1, hfw1⟩ := bcell hb
        have hzw1 : w.heap.size + 2 ≤ w1.heap.size := by have := hb.size; first | omega | (simp at this; omega)
        have hzw10 : w.heap.size < w1.heap.size := by omega
        have hzw11 : w.heap.size + 1 < w1.heap.size := by omega
        have HBw1 := hid (((((Below.refl _ _).alloc (by first | (exact Nat.le_refl _) | omega | (simp <;> omega)) _)).alloc (by first | (exact Nat.le_refl _) | omega | (simp <;> omega)) _).trans (hb.mono (by first | omega | (simp <;> omega))))
        have HRw1 : Hid (Blk w1 (w.heap.size + 1) 26 #[.int .i64 0, .int .i64 0, .int .i64 0, .int .i64 0]) := hid ((hb.block _ (by simp <;> omega)).trans (blk1 w _ _))
        clear hb
        go_wp2_with fail
        refine (HC.out _).mono ?_
        rintro e w2 ⟨rfl, hb⟩
        obtain ⟨hcw2, hfw2⟩ := bcell hb
        have hzw2 : w.heap.size + 2 ≤ w2.heap.size := by have := hb.size; first | omega | (simp at this; omega)
        have hzw20 : w.heap.size < w2.heap.size := by omega
        have hzw21 : w.heap.size + 1 < w2.heap.size := by omega
        have HBw2 := hid (HBw1.out.trans (hb.mono (by first | omega | (simp <;> omega))))
        have HRw2 := hid ((HRw1.out).after hb)
        clear hb
        go_wp2_with fail
        refine wp_loop_rounds 5 ?_
        rw [rounds_succ]
        go_wp2_with fail
        rw [rounds_succ]
        go_wp2_with fail
        rw [rounds_succ]
        go_wp2_with fail
        refine bodyPost_ret (res_rect (g := w.heap.size + 1) (v0 := 0) (v1 := 0) (v2 := 0) (v3 := 0) rfl rfl (by first | (with_reducible exact HRw2.out.set4 _ _ _ _) | (with_reducible exact (HRw2.out.set4 _ _ _ _).alloc _) | (with_reducible exact (HRw2.out.alloc _).set4 _ _ _ _))) rfl ⟨by rw [HV.out] <;> rfl, ?_⟩
        have hb := HBw2.out
        go_grown
      · go_enter Try.func20, Try.ntmps20
        go_wp2_with fail
        refine (HE.out _).mono ?_
        rintro e w1 ⟨rfl, hb⟩
        obtain ⟨hcw1, hfw1⟩ := bcell hb
        have hzw1 : w.heap.size + 2 ≤ w1.heap.size := by have := hb.size; first | omega | (simp at this; omega)
        have hzw10 : w.heap.size < w1.heap.size := by omega
        have hzw11 : w.heap.size + 1 < w1.heap.size := by omega
        have HBw1 := hid (((((Below.refl _ _).alloc (by first | (exact Nat.le_refl _) | omega | (simp <;> omega)) _)).alloc (by first | (exact Nat.le_refl _) | omega | (simp <;> omega)) _).trans (hb.mono (by first | omega | (simp <;> omega))))
        have HRw1 : Hid (Blk w1 (w.heap.size + 1) 26 #[.int .i64 0, .int .i64 0, .int .i64 0, .int .i64 0]) := hid ((hb.block _ (by simp <;> omega)).trans (blk1 w _ _))
        clear hb
        go_wp2_with fail
        refine (HC.out _).mono ?_
        rintro e w2 ⟨rfl, hb⟩
        obtain ⟨hcw2, hfw2⟩ := bcell hb
        have hzw2 : w.heap.size + 2 ≤ w2.heap.size := by have := hb.size; first | omega | (simp at this; omega)
        have hzw20 : w.heap.size < w2.heap.size := by omega
        have hzw21 : w.heap.size + 1 < w2.heap.size := by omega
        have HBw2 := hid (HBw1.out.trans (hb.mono (by first | omega | (simp <;> omega))))
        have HRw2 := hid ((HRw1.out).after hb)
        clear hb
        go_wp2_with fail
        refine wp_loop_rounds 5 ?_
        rw [rounds_succ]
        go_wp2_with fail
        rw [rounds_succ]
        go_wp2_with fail
        rw [rounds_succ]
        go_wp2_with fail
        refine bodyPost_ret (res_rect (g := w.heap.size + 1) (v0 := 0) (v1 := 0) (v2 := 0) (v3 := 0) rfl rfl (by first | (with_reducible exact HRw2.out.set4 _ _ _ _) | (with_reducible exact (HRw2.out.set4 _ _ _ _).alloc _) | (with_reducible exact (HRw2.out.alloc _).set4 _ _ _ _))) rfl ⟨by rw [HV.out] <;> rfl, ?_⟩
        have hb := HBw2.out
        go_grown
    by_cases hu : stepP u
    rotate_left
    · have HV := hid (outsetS_no (l := l) (t := t) (q := q) (u := u) (r := ⟨a, b, c, d⟩) (fun h => hu h.2.2.2.2.1))
      unfold stepP at *
      clear CE C C3 he hv
      by_cases hneg : u < 0
      · go_enter Try.func20, Try.ntmps20
        go_wp2_with fail
        refine (HE.out _).mono ?_
        rintro e w1 ⟨rfl, hb⟩
        obtain ⟨hcw1, hfw1⟩ := bcell hb
        have hzw1 : w.heap.size + 2 ≤ w1.heap.size := by have := hb.size; first | omega | (simp at this; omega)
        have hzw10 : w.heap.size < w1.heap.size := by omega
        have hzw11 : w.heap.size + 1 < w1.heap.size := by omega
        have HBw1 := hid (((((Below.refl _ _).alloc (by first | (exact Nat.le_refl _) | omega | (simp <;> omega)) _)).alloc (by first | (exact Nat.le_refl _) | omega | (simp <;> omega)) _).trans (hb.mono (by first | omega | (simp <;> omega))))
        have HRw1 : Hid (Blk w1 (w.heap.size + 1) 26 #[.int .i64 0, .int .i64 0, .int .i64 0, .int .i64 0]) := hid ((hb.block _ (by simp <;> omega)).trans (blk1 w _ _))
        clear hb
        go_wp2_with fail
        refine (HC.out _).mono ?_
        rintro e w2 ⟨rfl, hb⟩
        obtain ⟨hcw2, hfw2⟩ := bcell hb
        have hzw2 : w.heap.size + 2 ≤ w2.heap.size := by have := hb.size; first | omega | (simp at this; omega)
        have hzw20 : w.heap.size < w2.heap.size := by omega
        have hzw21 : w.heap.size + 1 < w2.heap.size := by omega
        have HBw2 := hid (HBw1.out.trans (hb.mono (by first | omega | (simp <;> omega))))
        have HRw2 := hid ((HRw1.out).after hb)
        clear hb
        go_wp2_with fail
        refine wp_loop_rounds 5 ?_
        rw [rounds_succ]
        go_wp2_with fail
        rw [rounds_succ]
        go_wp2_with fail
        rw [rounds_succ]
        go_wp2_with fail
        rw [rounds_succ]
        go_wp2_with fail
        refine bodyPost_ret (res_rect (g := w.heap.size + 1) (v0 := 0) (v1 := 0) (v2 := 0) (v3 := 0) rfl rfl (by first | (with_reducible exact HRw2.out.set4 _ _ _ _) | (with_reducible exact (HRw2.out.set4 _ _ _ _).alloc _) | (with_reducible exact (HRw2.out.alloc _).set4 _ _ _ _))) rfl ⟨by rw [HV.out] <;> rfl, ?_⟩
        have hb := HBw2.out
        go_grown
      · go_enter Try.func20, Try.ntmps20
        go_wp2_with fail
        refine (HE.out _).mono ?_
        rintro e w1 ⟨rfl, hb⟩
        obtain ⟨hcw1, hfw1⟩ := bcell hb
        have hzw1 : w.heap.size + 2 ≤ w1.heap.size := by have := hb.size; first | omega | (simp at this; omega)
        have hzw10 : w.heap.size < w1.heap.size := by omega
        have hzw11 : w.heap.size + 1 < w1.heap.size := by omega
        have HBw1 := hid (((((Below.refl _ _).alloc (by first | (exact Nat.le_refl _) | omega | (simp <;> omega)) _)).alloc (by first | (exact Nat.le_refl _) | omega | (simp <;> omega)) _).trans (hb.mono (by first | omega | (simp <;> omega))))
        have HRw1 : Hid (Blk w1 (w.heap.size + 1) 26 #[.int .i64 0, .int .i64 0, .int .i64 0, .int .i64 0]) := hid ((hb.block _ (by simp <;> omega)).trans (blk1 w _ _))
        clear hb
        go_wp2_with fail
        refine (HC.out _).mono ?_
        rintro e w2 ⟨rfl, hb⟩
        obtain ⟨hcw2, hfw2⟩ := bcell hb
        have hzw2 : w.heap.size + 2 ≤ w2.heap.size := by have := hb.size; first | omega | (simp at this; omega)
        have hzw20 : w.heap.size < w2.heap.size := by omega
        have hzw21 : w.heap.size + 1 < w2.heap.size := by omega
        have HBw2 := hid (HBw1.out.trans (hb.mono (by first | omega | (simp <;> omega))))
        have HRw2 := hid ((HRw1.out).after hb)
        clear hb
        go_wp2_with fail
        refine wp_loop_rounds 5 ?_
        rw [rounds_succ]
        go_wp2_with fail
        rw [rounds_succ]
        go_wp2_with fail
        rw [rounds_succ]
        go_wp2_with fail
        rw [rounds_succ]
        go_wp2_with fail
        refine bodyPost_ret (res_rect (g := w.heap.size + 1) (v0 := 0) (v1 := 0) (v2 := 0) (v3 := 0) rfl rfl (by first | (with_reducible exact HRw2.out.set4 _ _ _ _) | (with_reducible exact (HRw2.out.set4 _ _ _ _).alloc _) | (with_reducible exact (HRw2.out.alloc _).set4 _ _ _ _))) rfl ⟨by rw [HV.out] <;> rfl, ?_⟩
        have hb := HBw2.out
        go_grown
    by_cases ho : ValidP (outS ⟨a, b, c, d⟩ l t q u)
    · have HV := hid (outsetS_yes (r := ⟨a, b, c, d⟩) ⟨(full_iff _).2 ⟨hv, he⟩, hl, ht, hq, hu, ho⟩)
      have ho2 : validB ⟨a - l, b - t, c + q, d + u⟩ = true := validB_t ho
      rw [ho2] at C3
      have H3 := hid C3
      unfold stepP at *
      clear CE C C3 he hv ho ho2
      go_enter Try.func20, Try.ntmps20
      go_wp2_with fail
      refine (HE.out _).mono ?_
      rintro e w1 ⟨rfl, hb⟩
      obtain ⟨hcw1, hfw1⟩ := bcell hb
      have hzw1 : w.heap.size + 2 ≤ w1.heap.size := by have := hb.size; first | omega | (simp at this; omega)
      have hzw10 : w.heap.size < w1.heap.size := by omega
      have hzw11 : w.heap.size + 1 < w1.heap.size := by omega
      have HBw1 := hid (((((Below.refl _ _).alloc (by first | (exact Nat.le_refl _) | omega | (simp <;> omega)) _)).alloc (by first | (exact Nat.le_refl _) | omega | (simp <;> omega)) _).trans (hb.mono (by first | omega | (simp <;> omega))))
      have HRw1 : Hid (Blk w1 (w.heap.size + 1) 26 #[.int .i64 0, .int .i64 0, .int .i64 0, .int .i64 0]) := hid ((hb.block _ (by simp <;> omega)).trans (blk1 w _ _))
      clear hb
      go_wp2_with fail
      refine (HC.out _).mono ?_
      rintro e w2 ⟨rfl, hb⟩
      obtain ⟨hcw2, hfw2⟩ := bcell hb
      have hzw2 : w.heap.size + 2 ≤ w2.heap.size := by have := hb.size; first | omega | (simp at this; omega)
      have hzw20 : w.heap.size < w2.heap.size := by omega
      have hzw21 : w.heap.size + 1 < w2.heap.size := by omega
      have HBw2 := hid (HBw1.out.trans (hb.mono (by first | omega | (simp <;> omega))))
      have HRw2 := hid ((HRw1.out).after hb)
      clear hb
      go_wp2_with fail
      refine wp_loop_rounds 5 ?_
      rw [rounds_succ]
      go_wp2_with fail
      rw [rounds_succ]
      go_wp2_with fail
      rw [rounds_succ]
      go_wp2_with fail
      rw [rounds_succ]
      go_wp2_with fail
      rw [rounds_succ]
      go_wp2_with fail
      refine (H3.out _).mono ?_
      rintro e w3 ⟨rfl, hb⟩
      obtain ⟨hcw3, hfw3⟩ := bcell hb
      have hzw3 : w.heap.size + 2 ≤ w3.heap.size := by have := hb.size; first | omega | (simp at this; omega)
      have hzw30 : w.heap.size < w3.heap.size := by omega
      have hzw31 : w.heap.size + 1 < w3.heap.size := by omega
      have HBw3 := hid (((HBw2.out).alloc (by first | (exact Nat.le_refl _) | omega | (simp <;> omega)) _).trans (hb.mono (by first | omega | (simp <;> omega))))
      have HRw3 := hid ((HRw2.out.alloc _).after hb)
      clear hb
      go_wp2
      refine bodyPost_ret (res_rect (g := w.heap.size + 1) (v0 := (a - l)) (v1 := (b - t)) (v2 := (c + q)) (v3 := (d + u)) rfl rfl (by first | (with_reducible exact HRw3.out.set4 _ _ _ _) | (with_reducible exact (HRw3.out.set4 _ _ _ _).alloc _) | (with_reducible exact (HRw3.out.alloc _).set4 _ _ _ _))) rfl ⟨by rw [HV.out] <;> rfl, ?_⟩
      have hb := HBw3.out
      go_grown
    · have HV := hid (outsetS_no (l := l) (t := t) (q := q) (u := u) (r := ⟨a, b, c, d⟩) (fun h => ho h.2.2.2.2.2))
      have ho2 : validB ⟨a - l, b - t, c + q, d + u⟩ = false := validB_f ho
      rw [ho2] at C3
      have H3 := hid C3
      unfold stepP at *
      clear CE C C3 he hv ho ho2
      go_enter Try.func20, Try.ntmps20
      go_wp2_with fail
      refine (HE.out _).mono ?_
      rintro e w1 ⟨rfl, hb⟩
      obtain ⟨hcw1, hfw1⟩ := bcell hb
      have hzw1 : w.heap.size + 2 ≤ w1.heap.size := by have := hb.size; first | omega | (simp at this; omega)
      have hzw10 : w.heap.size < w1.heap.size := by omega
      have hzw11 : w.heap.size + 1 < w1.heap.size := by omega
      have HBw1 := hid (((((Below.refl _ _).alloc (by first | (exact Nat.le_refl _) | omega | (simp <;> omega)) _)).alloc (by first | (exact Nat.le_refl _) | omega | (simp <;> omega)) _).trans (hb.mono (by first | omega | (simp <;> omega))))
      have HRw1 : Hid (Blk w1 (w.heap.size + 1) 26 #[.int .i64 0, .int .i64 0, .int .i64 0, .int .i64 0]) := hid ((hb.block _ (by simp <;> omega)).trans (blk1 w _ _))
      clear hb
      go_wp2_with fail
      refine (HC.out _).mono ?_
      rintro e w2 ⟨rfl, hb⟩
      obtain ⟨hcw2, hfw2⟩ := bcell hb
      have hzw2 : w.heap.size + 2 ≤ w2.heap.size := by have := hb.size; first | omega | (simp at this; omega)
      have hzw20 : w.heap.size < w2.heap.size := by omega
      have hzw21 : w.heap.size + 1 < w2.heap.size := by omega
      have HBw2 := hid (HBw1.out.trans (hb.mono (by first | omega | (simp <;> omega))))
      have HRw2 := hid ((HRw1.out).after hb)
      clear hb
      go_wp2_with fail
      refine wp_loop_rounds 5 ?_
      rw [rounds_succ]
      go_wp2_with fail
      rw [rounds_succ]
      go_wp2_with fail
      rw [rounds_succ]
      go_wp2_with fail
      rw [rounds_succ]
      go_wp2_with fail
      rw [rounds_succ]
      go_wp2_with fail
      refine (H3.out _).mono ?_
      rintro e w3 ⟨rfl, hb⟩
      obtain ⟨hcw3, hfw3⟩ := bcell hb
      have hzw3 : w.heap.size + 2 ≤ w3.heap.size := by have := hb.size; first | omega | (simp at this; omega)
      have hzw30 : w.heap.size < w3.heap.size := by omega
      have hzw31 : w.heap.size + 1 < w3.heap.size := by omega
      have HBw3 := hid (((HBw2.out).alloc (by first | (exact Nat.le_refl _) | omega | (simp <;> omega)) _).trans (hb.mono (by first | omega | (simp <;> omega))))
      have HRw3 := hid ((HRw2.out.alloc _).after hb)
      clear hb
      go_wp2
      refine bodyPost_ret (res_rect (g := w.heap.size + 1) (v0 := 0) (v1 := 0) (v2 := 0) (v3 := 0) rfl rfl (by first | (with_reducible exact HRw3.out.set4 _ _ _ _) | (with_reducible exact (HRw3.out.set4 _ _ _ _).alloc _) | (with_reducible exact (HRw3.out.alloc _).set4 _ _ _ _))) rfl ⟨by rw [HV.out] <;> rfl, ?_⟩
      have hb := HBw3.out
      go_grown
  · rw [validB_f hv] at C
    have HC := hid C
    have HV := hid (outsetS_no (l := l) (t := t) (q := q) (u := u) (r := ⟨a, b, c, d⟩) (fun h => hv ((full_iff _).1 h.1).1))
    clear CE C C3 he hv
    go_enter Try.func20, Try.ntmps20
    go_wp2_with fail
    refine (HE.out _).mono ?_
    rintro e w1 ⟨rfl, hb⟩
    obtain ⟨hcw1, hfw1⟩ := bcell hb
    have hzw1 : w.heap.size + 2 ≤ w1.heap.size := by have := hb.size; first | omega | (simp at this; omega)
    have hzw10 : w.heap.size < w1.heap.size := by omega
    have hzw11 : w.heap.size + 1 < w1.heap.size := by omega
    have HBw1 := hid (((((Below.refl _ _).alloc (by first | (exact Nat.le_refl _) | omega | (simp <;> omega)) _)).alloc (by first | (exact Nat.le_refl _) | omega | (simp <;> omega)) _).trans (hb.mono (by first | omega | (simp <;> omega))))
    have HRw1 : Hid (Blk w1 (w.heap.size + 1) 26 #[.int .i64 0, .int .i64 0, .int .i64 0, .int .i64 0]) := hid ((hb.block _ (by simp <;> omega)).trans (blk1 w _ _))
    clear hb
    go_wp2_with fail
    refine (HC.out _).mono ?_
    rintro e w2 ⟨rfl, hb⟩
    obtain ⟨hcw2, hfw2⟩ := bcell hb
    have hzw2 : w.heap.size + 2 ≤ w2.heap.size := by have := hb.size; first | omega | (simp at this; omega)
    have hzw20 : w.heap.size < w2.heap.size := by omega
    have hzw21 : w.heap.size + 1 < w2.heap.size := by omega
    have HBw2 := hid (HBw1.out.trans (hb.mono (by first | omega | (simp <;> omega))))
    have HRw2 := hid ((HRw1.out).after hb)
    clear hb
    go_wp2
    refine bodyPost_ret (res_rect (g := w.heap.size + 1) (v0 := 0) (v1 := 0) (v2 := 0) (v3 := 0) rfl rfl (by first | (with_reducible exact HRw2.out.set4 _ _ _ _) | (with_reducible exact (HRw2.out.set4 _ _ _ _).alloc _) | (with_reducible exact (HRw2.out.alloc _).set4 _ _ _ _))) rfl ⟨by rw [HV.out] <;> rfl, ?_⟩
    have hb := HBw2.out
    go_grown

end Go.Proofs.Ytphleapmgkcpoaa
