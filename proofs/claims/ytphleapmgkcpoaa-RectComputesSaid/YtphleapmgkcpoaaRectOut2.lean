/-
  Layer 2: the reference of Outset: contract.
-/
import Derived.Test.YtphleapmgkcpoaaRectOut
namespace Go.Proofs.Ytphleapmgkcpoaa
open Go.RowKit
set_option linter.unusedVariables false

theorem wrap64_at {x : Int} (h1 : -9223372036854775808 ≤ x) (h2 : x ≤ 9223372036854775807) : wrap64 x = x := IntWalk.wrap64_in x ⟨by omega, by omega⟩
set_option maxHeartbeats 2000000 in
theorem routset_any (a b c d l t q u : Int) (w : World) (x1 : -9223372036854775808 ≤ a) (x2 : a ≤ 9223372036854775807) (x3 : -9223372036854775808 ≤ b) (x4 : b ≤ 9223372036854775807) (x5 : -9223372036854775808 ≤ c) (x6 : c ≤ 9223372036854775807) (x7 : -9223372036854775808 ≤ d) (x8 : d ≤ 9223372036854775807) :
    Calls Try.prog 33 #[.agg #[.int .i64 a, .int .i64 b, .int .i64 c, .int .i64 d], .int .i64 l, .int .i64 t, .int .i64 q, .int .i64 u] w fun e w' => e = .returned (.agg #[.int .i64 (outsetS ⟨a, b, c, d⟩ l t q u).x0, .int .i64 (outsetS ⟨a, b, c, d⟩ l t q u).y0, .int .i64 (outsetS ⟨a, b, c, d⟩ l t q u).x1, .int .i64 (outsetS ⟨a, b, c, d⟩ l t q u).y1]) ∧ Below w.heap.size w w' := by
  have CF := fun w => rfull_any a b c d w
  by_cases hl : stepP l
  rotate_left
  · have HV := hid (outsetS_no (l := l) (t := t) (q := q) (u := u) (r := ⟨a, b, c, d⟩) (fun h => hl h.2.1))
    unfold stepP at *
    clear CF
    by_cases hneg : l < 0
    · go_enter Try.func33, Try.ntmps33
      go_wp2_with fail
      refine wp_loop_rounds 5 ?_
      rw [rounds_succ]
      go_wp2_with fail
      refine bodyPost_ret (res_rect (g := w.heap.size + 1) (v0 := 0) (v1 := 0) (v2 := 0) (v3 := 0) rfl rfl (by first | (with_reducible exact (Below.heap_alloc _ _ _ (by simp <;> omega)).trans (blk1 w _ _)) | (exact (Below.heap_alloc _ _ _ (by simp <;> omega)).trans (blk1 w _ _)))) rfl ⟨by rw [HV.out] <;> rfl, ?_⟩
      go_grown
    · go_enter Try.func33, Try.ntmps33
      go_wp2_with fail
      refine wp_loop_rounds 5 ?_
      rw [rounds_succ]
      go_wp2_with fail
      refine bodyPost_ret (res_rect (g := w.heap.size + 1) (v0 := 0) (v1 := 0) (v2 := 0) (v3 := 0) rfl rfl (by first | (with_reducible exact (Below.heap_alloc _ _ _ (by simp <;> omega)).trans (blk1 w _ _)) | (exact (Below.heap_alloc _ _ _ (by simp <;> omega)).trans (blk1 w _ _)))) rfl ⟨by rw [HV.out] <;> rfl, ?_⟩
      go_grown
  by_cases ht : stepP t
  rotate_left
  · have HV := hid (outsetS_no (l := l) (t := t) (q := q) (u := u) (r := ⟨a, b, c, d⟩) (fun h => ht h.2.2.1))
    unfold stepP at *
    clear CF
    by_cases hneg : t < 0
    · go_enter Try.func33, Try.ntmps33
      go_wp2_with fail
      refine wp_loop_rounds 5 ?_
      rw [rounds_succ]
      go_wp2_with fail
      rw [rounds_succ]
      go_wp2_with fail
      refine bodyPost_ret (res_rect (g := w.heap.size + 1) (v0 := 0) (v1 := 0) (v2 := 0) (v3 := 0) rfl rfl (by first | (with_reducible exact (Below.heap_alloc _ _ _ (by simp <;> omega)).trans (blk1 w _ _)) | (exact (Below.heap_alloc _ _ _ (by simp <;> omega)).trans (blk1 w _ _)))) rfl ⟨by rw [HV.out] <;> rfl, ?_⟩
      go_grown
    · go_enter Try.func33, Try.ntmps33
      go_wp2_with fail
      refine wp_loop_rounds 5 ?_
      rw [rounds_succ]
      go_wp2_with fail
      rw [rounds_succ]
      go_wp2_with fail
      refine bodyPost_ret (res_rect (g := w.heap.size + 1) (v0 := 0) (v1 := 0) (v2 := 0) (v3 := 0) rfl rfl (by first | (with_reducible exact (Below.heap_alloc _ _ _ (by simp <;> omega)).trans (blk1 w _ _)) | (exact (Below.heap_alloc _ _ _ (by simp <;> omega)).trans (blk1 w _ _)))) rfl ⟨by rw [HV.out] <;> rfl, ?_⟩
      go_grown
  by_cases hq : stepP q
  rotate_left
  · have HV := hid (outsetS_no (l := l) (t := t) (q := q) (u := u) (r := ⟨a, b, c, d⟩) (fun h => hq h.2.2.2.1))
    unfold stepP at *
    clear CF
    by_cases hneg : q < 0
    · go_enter Try.func33, Try.ntmps33
      go_wp2_with fail
      refine wp_loop_rounds 5 ?_
      rw [rounds_succ]
      go_wp2_with fail
      rw [rounds_succ]
      go_wp2_with fail
      rw [rounds_succ]
      go_wp2_with fail
      refine bodyPost_ret (res_rect (g := w.heap.size + 1) (v0 := 0) (v1 := 0) (v2 := 0) (v3 := 0) rfl rfl (by first | (with_reducible exact (Below.heap_alloc _ _ _ (by simp <;> omega)).trans (blk1 w _ _)) | (exact (Below.heap_alloc _ _ _ (by simp <;> omega)).trans (blk1 w _ _)))) rfl ⟨by rw [HV.out] <;> rfl, ?_⟩
      go_grown
    · go_enter Try.func33, Try.ntmps33
      go_wp2_with fail
      refine wp_loop_rounds 5 ?_
      rw [rounds_succ]
      go_wp2_with fail
      rw [rounds_succ]
      go_wp2_with fail
      rw [rounds_succ]
      go_wp2_with fail
      refine bodyPost_ret (res_rect (g := w.heap.size + 1) (v0 := 0) (v1 := 0) (v2 := 0) (v3 := 0) rfl rfl (by first | (with_reducible exact (Below.heap_alloc _ _ _ (by simp <;> omega)).trans (blk1 w _ _)) | (exact (Below.heap_alloc _ _ _ (by simp <;> omega)).trans (blk1 w _ _)))) rfl ⟨by rw [HV.out] <;> rfl, ?_⟩
      go_grown
  by_cases hu : stepP u
  rotate_left
  · have HV := hid (outsetS_no (l := l) (t := t) (q := q) (u := u) (r := ⟨a, b, c, d⟩) (fun h => hu h.2.2.2.2.1))
    unfold stepP at *
    clear CF
    by_cases hneg : u < 0
    · go_enter Try.func33, Try.ntmps33
      go_wp2_with fail
      refine wp_loop_rounds 5 ?_
      rw [rounds_succ]
      go_wp2_with fail
      rw [rounds_succ]
      go_wp2_with fail
      rw [rounds_succ]
      go_wp2_with fail
      rw [rounds_succ]
      go_wp2_with fail
      refine bodyPost_ret (res_rect (g := w.heap.size + 1) (v0 := 0) (v1 := 0) (v2 := 0) (v3 := 0) rfl rfl (by first | (with_reducible exact (Below.heap_alloc _ _ _ (by simp <;> omega)).trans (blk1 w _ _)) | (exact (Below.heap_alloc _ _ _ (by simp <;> omega)).trans (blk1 w _ _)))) rfl ⟨by rw [HV.out] <;> rfl, ?_⟩
      go_grown
    · go_enter Try.func33, Try.ntmps33
      go_wp2_with fail
      refine wp_loop_rounds 5 ?_
      rw [rounds_succ]
      go_wp2_with fail
      rw [rounds_succ]
      go_wp2_with fail
      rw [rounds_succ]
      go_wp2_with fail
      rw [rounds_succ]
      go_wp2_with fail
      refine bodyPost_ret (res_rect (g := w.heap.size + 1) (v0 := 0) (v1 := 0) (v2 := 0) (v3 := 0) rfl rfl (by first | (with_reducible exact (Below.heap_alloc _ _ _ (by simp <;> omega)).trans (blk1 w _ _)) | (exact (Below.heap_alloc _ _ _ (by simp <;> omega)).trans (blk1 w _ _)))) rfl ⟨by rw [HV.out] <;> rfl, ?_⟩
      go_grown
  have C3 := fun w => rvalid_any (wrap64 (a - l)) (wrap64 (b - t)) (wrap64 (c + q)) (wrap64 (d + u)) w
  by_cases hv : FullP ⟨a, b, c, d⟩
  · have hb1 : fullB ⟨a, b, c, d⟩ = true := decide_eq_true hv
    rw [hb1] at CF
    have HF := hid CF
    have hd := valid_bd (.inr hv)
    obtain ⟨⟨y1, y2⟩, ⟨y3, y4⟩, ⟨y5, y6⟩, ⟨y7, y8⟩, _, _⟩ := hd
    rw [wrap64_at (x := a - l) (by unfold stepP at *; omega) (by unfold stepP at *; omega), wrap64_at (x := b - t) (by unfold stepP at *; omega) (by unfold stepP at *; omega), wrap64_at (x := c + q) (by unfold stepP at *; omega) (by unfold stepP at *; omega), wrap64_at (x := d + u) (by unfold stepP at *; omega) (by unfold stepP at *; omega)] at C3
    by_cases ho : ValidP (outS ⟨a, b, c, d⟩ l t q u)
    · have HV := hid (outsetS_yes (r := ⟨a, b, c, d⟩) ⟨hv, hl, ht, hq, hu, ho⟩)
      have ho2 : validB ⟨a - l, b - t, c + q, d + u⟩ = true := validB_t ho
      rw [ho2] at C3
      have H3 := hid C3
      unfold stepP at *
      clear CF C3 hv ho ho2 hb1
      go_enter Try.func33, Try.ntmps33
      go_wp2_with fail
      refine wp_loop_rounds 5 ?_
      rw [rounds_succ]
      go_wp2_with fail
      rw [rounds_succ]
      go_wp2_with fail
      rw [rounds_succ]
      go_wp2_with fail
      rw [rounds_succ]
      go_wp2_with fail
      rw [rounds_succ]
      go_wp2_with fail
      refine (HF.out _).mono ?_
      rintro e w1 ⟨rfl, hb⟩
      obtain ⟨hcw1, hfw1⟩ := bcell hb
      have hzw1 : w.heap.size + 4 ≤ w1.heap.size := by have := hb.size; first | omega | (simp at this; omega)
      have hzw10 : w.heap.size < w1.heap.size := by omega
      have hzw11 : w.heap.size + 1 < w1.heap.size := by omega
      have hzw12 : w.heap.size + 1 + 1 < w1.heap.size := by omega
      have hzw13 : w.heap.size + 1 + 1 + 1 < w1.heap.size := by omega
      have HBw1 := hid (((((((((Below.refl _ _).alloc (by first | (exact Nat.le_refl _) | omega | (simp <;> omega)) _)).alloc (by first | (exact Nat.le_refl _) | omega | (simp <;> omega)) _)).alloc (by first | (exact Nat.le_refl _) | omega | (simp <;> omega)) _)).alloc (by first | (exact Nat.le_refl _) | omega | (simp <;> omega)) _).trans (hb.mono (by first | omega | (simp <;> omega))))
      have HRw1 : Hid (Blk w1 (w.heap.size + 1) 26 #[.int .i64 0, .int .i64 0, .int .i64 0, .int .i64 0]) := hid ((hb.block _ (by simp <;> omega)).trans ((Below.heap_alloc _ _ _ (by simp <;> omega)).trans ((Below.heap_alloc _ _ _ (by simp <;> omega)).trans (blk1 w _ _))))
      clear hb
      go_wp2_with fail
      refine (H3.out _).mono ?_
      rintro e w2 ⟨rfl, hb⟩
      obtain ⟨hcw2, hfw2⟩ := bcell hb
      have hzw2 : w.heap.size + 4 ≤ w2.heap.size := by have := hb.size; first | omega | (simp at this; omega)
      have hzw20 : w.heap.size < w2.heap.size := by omega
      have hzw21 : w.heap.size + 1 < w2.heap.size := by omega
      have hzw22 : w.heap.size + 1 + 1 < w2.heap.size := by omega
      have hzw23 : w.heap.size + 1 + 1 + 1 < w2.heap.size := by omega
      have HBw2 := hid (HBw1.out.trans (hb.mono (by first | omega | (simp <;> omega))))
      have HRw2 := hid ((HRw1.out).after hb)
      clear hb
      go_wp2
      refine bodyPost_ret (res_rect (g := w.heap.size + 1) (v0 := (a - l)) (v1 := (b - t)) (v2 := (c + q)) (v3 := (d + u)) rfl rfl (by first | (with_reducible exact HRw2.out.set4 _ _ _ _) | (with_reducible exact (HRw2.out.set4 _ _ _ _).alloc _) | (with_reducible exact (HRw2.out.alloc _).set4 _ _ _ _))) rfl ⟨by rw [HV.out] <;> rfl, ?_⟩
      have hb := HBw2.out
      go_grown
    · have HV := hid (outsetS_no (l := l) (t := t) (q := q) (u := u) (r := ⟨a, b, c, d⟩) (fun h => ho h.2.2.2.2.2))
      have ho2 : validB ⟨a - l, b - t, c + q, d + u⟩ = false := validB_f ho
      rw [ho2] at C3
      have H3 := hid C3
      unfold stepP at *
      clear CF C3 hv ho ho2 hb1
      go_enter Try.func33, Try.ntmps33
      go_wp2_with fail
      refine wp_loop_rounds 5 ?_
      rw [rounds_succ]
      go_wp2_with fail
      rw [rounds_succ]
      go_wp2_with fail
      rw [rounds_succ]
      go_wp2_with fail
      rw [rounds_succ]
      go_wp2_with fail
      rw [rounds_succ]
      go_wp2_with fail
      refine (HF.out _).mono ?_
      rintro e w1 ⟨rfl, hb⟩
      obtain ⟨hcw1, hfw1⟩ := bcell hb
      have hzw1 : w.heap.size + 4 ≤ w1.heap.size := by have := hb.size; first | omega | (simp at this; omega)
      have hzw10 : w.heap.size < w1.heap.size := by omega
      have hzw11 : w.heap.size + 1 < w1.heap.size := by omega
      have hzw12 : w.heap.size + 1 + 1 < w1.heap.size := by omega
      have hzw13 : w.heap.size + 1 + 1 + 1 < w1.heap.size := by omega
      have HBw1 := hid (((((((((Below.refl _ _).alloc (by first | (exact Nat.le_refl _) | omega | (simp <;> omega)) _)).alloc (by first | (exact Nat.le_refl _) | omega | (simp <;> omega)) _)).alloc (by first | (exact Nat.le_refl _) | omega | (simp <;> omega)) _)).alloc (by first | (exact Nat.le_refl _) | omega | (simp <;> omega)) _).trans (hb.mono (by first | omega | (simp <;> omega))))
      have HRw1 : Hid (Blk w1 (w.heap.size + 1) 26 #[.int .i64 0, .int .i64 0, .int .i64 0, .int .i64 0]) := hid ((hb.block _ (by simp <;> omega)).trans ((Below.heap_alloc _ _ _ (by simp <;> omega)).trans ((Below.heap_alloc _ _ _ (by simp <;> omega)).trans (blk1 w _ _))))
      clear hb
      go_wp2_with fail
      refine (H3.out _).mono ?_
      rintro e w2 ⟨rfl, hb⟩
      obtain ⟨hcw2, hfw2⟩ := bcell hb
      have hzw2 : w.heap.size + 4 ≤ w2.heap.size := by have := hb.size; first | omega | (simp at this; omega)
      have hzw20 : w.heap.size < w2.heap.size := by omega
      have hzw21 : w.heap.size + 1 < w2.heap.size := by omega
      have hzw22 : w.heap.size + 1 + 1 < w2.heap.size := by omega
      have hzw23 : w.heap.size + 1 + 1 + 1 < w2.heap.size := by omega
      have HBw2 := hid (HBw1.out.trans (hb.mono (by first | omega | (simp <;> omega))))
      have HRw2 := hid ((HRw1.out).after hb)
      clear hb
      go_wp2
      refine bodyPost_ret (res_rect (g := w.heap.size + 1) (v0 := 0) (v1 := 0) (v2 := 0) (v3 := 0) rfl rfl (by first | (with_reducible exact HRw2.out.set4 _ _ _ _) | (with_reducible exact (HRw2.out.set4 _ _ _ _).alloc _) | (with_reducible exact (HRw2.out.alloc _).set4 _ _ _ _))) rfl ⟨by rw [HV.out] <;> rfl, ?_⟩
      have hb := HBw2.out
      go_grown
  · have hb1 : fullB ⟨a, b, c, d⟩ = false := decide_eq_false hv
    rw [hb1] at CF
    have HF := hid CF
    have HV := hid (outsetS_no (l := l) (t := t) (q := q) (u := u) (r := ⟨a, b, c, d⟩) (fun h => hv h.1))
    unfold stepP at *
    clear CF C3 hv hb1
    go_enter Try.func33, Try.ntmps33
    go_wp2_with fail
    refine wp_loop_rounds 5 ?_
    rw [rounds_succ]
    go_wp2_with fail
    rw [rounds_succ]
    go_wp2_with fail
    rw [rounds_succ]
    go_wp2_with fail
    rw [rounds_succ]
    go_wp2_with fail
    rw [rounds_succ]
    go_wp2_with fail
    refine (HF.out _).mono ?_
    rintro e w1 ⟨rfl, hb⟩
    obtain ⟨hcw1, hfw1⟩ := bcell hb
    have hzw1 : w.heap.size + 4 ≤ w1.heap.size := by have := hb.size; first | omega | (simp at this; omega)
    have hzw10 : w.heap.size < w1.heap.size := by omega
    have hzw11 : w.heap.size + 1 < w1.heap.size := by omega
    have hzw12 : w.heap.size + 1 + 1 < w1.heap.size := by omega
    have hzw13 : w.heap.size + 1 + 1 + 1 < w1.heap.size := by omega
    have HBw1 := hid (((((((((Below.refl _ _).alloc (by first | (exact Nat.le_refl _) | omega | (simp <;> omega)) _)).alloc (by first | (exact Nat.le_refl _) | omega | (simp <;> omega)) _)).alloc (by first | (exact Nat.le_refl _) | omega | (simp <;> omega)) _)).alloc (by first | (exact Nat.le_refl _) | omega | (simp <;> omega)) _).trans (hb.mono (by first | omega | (simp <;> omega))))
    have HRw1 : Hid (Blk w1 (w.heap.size + 1) 26 #[.int .i64 0, .int .i64 0, .int .i64 0, .int .i64 0]) := hid ((hb.block _ (by simp <;> omega)).trans ((Below.heap_alloc _ _ _ (by simp <;> omega)).trans ((Below.heap_alloc _ _ _ (by simp <;> omega)).trans (blk1 w _ _))))
    clear hb
    go_wp2
    refine bodyPost_ret (res_rect (g := w.heap.size + 1) (v0 := 0) (v1 := 0) (v2 := 0) (v3 := 0) rfl rfl (by first | (with_reducible exact HRw1.out.set4 _ _ _ _) | (with_reducible exact (HRw1.out.set4 _ _ _ _).alloc _) | (with_reducible exact (HRw1.out.alloc _).set4 _ _ _ _))) rfl ⟨by rw [HV.out] <;> rfl, ?_⟩
    have hb := HBw1.out
    go_grown
end Go.Proofs.Ytphleapmgkcpoaa
