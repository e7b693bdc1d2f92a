/-
  Layer 2: Intersect, Hull, Full, Outset and their references: contracts.
-/
import Derived.Test.YtphleapmgkcpoaaRectWalks
namespace Go.Proofs.Ytphleapmgkcpoaa
open Go.RowKit
set_option linter.unusedVariables false

def mx (x y : Int) : Int := max x y
def mn (x y : Int) : Int := min x y
theorem run_mx (x y : Int) (w : World) : (Builtin.max_ #[3, 3] 3 #[.int .i64 x, .int .i64 y]).run Try.prog w = .ok (.int .i64 (mx x y)) w := by
  rw [run_max_int2]
  congr 2
  unfold mx
  split <;> omega
theorem run_mn (x y : Int) (w : World) : (Builtin.min_ #[3, 3] 3 #[.int .i64 x, .int .i64 y]).run Try.prog w = .ok (.int .i64 (mn x y)) w := by
  rw [run_min_int2]
  congr 2
  unfold mn
  split <;> omega
theorem blk1 (w : World) (o1 o2 : Obj) : ((w.alloc o1).alloc o2).heap[w.heap.size + 1]? = some o2 := by
  have := heap_alloc_new (w.alloc o1) o2
  simpa using this
theorem blk2 (w : World) (o1 o2 o3 : Obj) : (((w.alloc o1).alloc o2).alloc o3).heap[w.heap.size + 1 + 1]? = some o3 := by
  have := heap_alloc_new ((w.alloc o1).alloc o2) o3
  simpa using this
/-- A result that is a rectangle in a block of the call's own. -/
theorem res_rect {fn : Func} {n : Nat} (hr : fn.results = #[.cell n 26]) {tmps : Array Value} {g : Nat} (ht : tmps.getD n undef = .pointer (some ⟨g, 0, none⟩)) {v0 v1 v2 v3 : Int} {W : World} {t : TypeId}
    (h : Blk W g t #[.int .i64 v0, .int .i64 v1, .int .i64 v2, .int .i64 v3]) : (results fn tmps).run Try.prog W = .ok (.agg #[.int .i64 v0, .int .i64 v1, .int .i64 v2, .int .i64 v3]) W := by
  have h0 : W.cell? ⟨g, 0, none⟩ = some (.int .i64 v0) := h.cell 0
  have h1 : W.cell? ⟨g, 1, none⟩ = some (.int .i64 v1) := h.cell 1
  have h2 : W.cell? ⟨g, 2, none⟩ = some (.int .i64 v2) := h.cell 2
  have h3 : W.cell? ⟨g, 3, none⟩ = some (.int .i64 v3) := h.cell 3
  have ht' := ht
  rw [Array.getD_eq_getD_getElem?] at ht'
  simp [results, hr, ht', go_sem, h0, h1, h2, h3]
theorem Blk.set4 {w : World} {g : Nat} {t : TypeId} {a b c d : Value} (h : Blk w g t #[a, b, c, d]) (v0 v1 v2 v3 : Value) :
    Blk ((((w.setCell ⟨g, 0, none⟩ v0).setCell ⟨g, 1, none⟩ v1).setCell ⟨g, 2, none⟩ v2).setCell ⟨g, 3, none⟩ v3) g t #[v0, v1, v2, v3] :=
  (((h.set_ 0 v0).set_ 1 v1).set_ 2 v2).set_ 3 v3
theorem interS_yes {a b c d a2 b2 c2 d2 : Int} (h : ValidP ⟨a, b, c, d⟩) (h2 : ValidP ⟨a2, b2, c2, d2⟩) (hx : mx a a2 < mn c c2) (hy : mx b b2 < mn d d2) :
    interS ⟨a, b, c, d⟩ ⟨a2, b2, c2, d2⟩ = ⟨mx a a2, mx b b2, mn c c2, mn d d2⟩ := by
  unfold interS
  rw [if_pos ⟨h, h2, hx, hy⟩]
  rfl
theorem interS_no {a b c d a2 b2 c2 d2 : Int} (h : ¬ (ValidP ⟨a, b, c, d⟩ ∧ ValidP ⟨a2, b2, c2, d2⟩ ∧ mx a a2 < mn c c2 ∧ mx b b2 < mn d d2)) :
    interS ⟨a, b, c, d⟩ ⟨a2, b2, c2, d2⟩ = Rc.zero := by
  unfold interS
  exact if_neg h

set_option maxHeartbeats 1000000 in
theorem inter_any (a b c d a2 b2 c2 d2 : Int) (w : World) :
    Calls Try.prog 13 #[.agg #[.int .i64 a, .int .i64 b, .int .i64 c, .int .i64 d], .agg #[.int .i64 a2, .int .i64 b2, .int .i64 c2, .int .i64 d2]] w fun e w' => e = .returned (.agg #[.int .i64 (interS ⟨a, b, c, d⟩ ⟨a2, b2, c2, d2⟩).x0, .int .i64 (interS ⟨a, b, c, d⟩ ⟨a2, b2, c2, d2⟩).y0, .int .i64 (interS ⟨a, b, c, d⟩ ⟨a2, b2, c2, d2⟩).x1, .int .i64 (interS ⟨a, b, c, d⟩ ⟨a2, b2, c2, d2⟩).y1]) ∧ Below w.heap.size w w' := by
  have C := fun w => valid_any a b c d w
  have C2 := fun w => valid_any a2 b2 c2 d2 w
  have hmx := fun x y w => run_mx x y w
  have hmn := fun x y w => run_mn x y w
  by_cases hv : ValidP ⟨a, b, c, d⟩
  · rw [validB_t hv] at C
    have HC := hid C
    by_cases hv2 : ValidP ⟨a2, b2, c2, d2⟩
    · rw [validB_t hv2] at C2
      have HC2 := hid C2
      by_cases hx : mx a a2 < mn c c2
      · by_cases hy : mx b b2 < mn d d2
        · have HV := hid (interS_yes hv hv2 hx hy)
          clear C C2 hv hv2
          go_enter Try.func13, Try.ntmps13
          go_wp2_with fail
          refine (HC.out _).mono ?_
          rintro e w1 ⟨rfl, hb⟩
          obtain ⟨hcw1, hfw1⟩ := bcell hb
          have hzw1 : w.heap.size + 3 ≤ w1.heap.size := by have := hb.size; first | omega | (simp at this; omega)
          have hzw10 : w.heap.size < w1.heap.size := by omega
          have hzw11 : w.heap.size + 1 < w1.heap.size := by omega
          have hzw12 : w.heap.size + 1 + 1 < w1.heap.size := by omega
          have HBw1 := hid (((((((Below.refl _ _).alloc (by first | (exact Nat.le_refl _) | omega | (simp <;> omega)) _)).alloc (by first | (exact Nat.le_refl _) | omega | (simp <;> omega)) _)).alloc (by first | (exact Nat.le_refl _) | omega | (simp <;> omega)) _).trans (hb.mono (by first | omega | (simp <;> omega))))
          have HRw1 : Hid (Blk w1 (w.heap.size + 1 + 1) 26 #[.int .i64 0, .int .i64 0, .int .i64 0, .int .i64 0]) := hid ((hb.block _ (by simp <;> omega)).trans (blk2 w _ _ _))
          clear hb
          go_wp2_with fail
          refine (HC2.out _).mono ?_
          rintro e w2 ⟨rfl, hb⟩
          obtain ⟨hcw2, hfw2⟩ := bcell hb
          have hzw2 : w.heap.size + 3 ≤ w2.heap.size := by have := hb.size; first | omega | (simp at this; omega)
          have hzw20 : w.heap.size < w2.heap.size := by omega
          have hzw21 : w.heap.size + 1 < w2.heap.size := by omega
          have hzw22 : w.heap.size + 1 + 1 < w2.heap.size := by omega
          have HBw2 := hid (HBw1.out.trans (hb.mono (by first | omega | (simp <;> omega))))
          have HRw2 := hid (HRw1.out.after hb)
          clear hb
          go_wp2
          refine bodyPost_ret (res_rect (g := w.heap.size + 1 + 1) (v0 := (mx a a2)) (v1 := (mx b b2)) (v2 := (mn c c2)) (v3 := (mn d d2)) rfl rfl (by first | (with_reducible exact HRw2.out.set4 _ _ _ _) | (with_reducible exact (HRw2.out.set4 _ _ _ _).alloc _) | (with_reducible exact (HRw2.out.alloc _).set4 _ _ _ _))) rfl ⟨by rw [HV.out] <;> rfl, ?_⟩
          have hb := HBw2.out
          go_grown
        · have HV := hid (interS_no (a := a) (b := b) (c := c) (d := d) (a2 := a2) (b2 := b2) (c2 := c2) (d2 := d2) (fun h => hy h.2.2.2))
          clear C C2 hv hv2
          go_enter Try.func13, Try.ntmps13
          go_wp2_with fail
          refine (HC.out _).mono ?_
          rintro e w1 ⟨rfl, hb⟩
          obtain ⟨hcw1, hfw1⟩ := bcell hb
          have hzw1 : w.heap.size + 3 ≤ w1.heap.size := by have := hb.size; first | omega | (simp at this; omega)
          have hzw10 : w.heap.size < w1.heap.size := by omega
          have hzw11 : w.heap.size + 1 < w1.heap.size := by omega
          have hzw12 : w.heap.size + 1 + 1 < w1.heap.size := by omega
          have HBw1 := hid (((((((Below.refl _ _).alloc (by first | (exact Nat.le_refl _) | omega | (simp <;> omega)) _)).alloc (by first | (exact Nat.le_refl _) | omega | (simp <;> omega)) _)).alloc (by first | (exact Nat.le_refl _) | omega | (simp <;> omega)) _).trans (hb.mono (by first | omega | (simp <;> omega))))
          have HRw1 : Hid (Blk w1 (w.heap.size + 1 + 1) 26 #[.int .i64 0, .int .i64 0, .int .i64 0, .int .i64 0]) := hid ((hb.block _ (by simp <;> omega)).trans (blk2 w _ _ _))
          clear hb
          go_wp2_with fail
          refine (HC2.out _).mono ?_
          rintro e w2 ⟨rfl, hb⟩
          obtain ⟨hcw2, hfw2⟩ := bcell hb
          have hzw2 : w.heap.size + 3 ≤ w2.heap.size := by have := hb.size; first | omega | (simp at this; omega)
          have hzw20 : w.heap.size < w2.heap.size := by omega
          have hzw21 : w.heap.size + 1 < w2.heap.size := by omega
          have hzw22 : w.heap.size + 1 + 1 < w2.heap.size := by omega
          have HBw2 := hid (HBw1.out.trans (hb.mono (by first | omega | (simp <;> omega))))
          have HRw2 := hid (HRw1.out.after hb)
          clear hb
          go_wp2
          refine bodyPost_ret (res_rect (g := w.heap.size + 1 + 1) (v0 := 0) (v1 := 0) (v2 := 0) (v3 := 0) rfl rfl (by first | (with_reducible exact HRw2.out.set4 _ _ _ _) | (with_reducible exact (HRw2.out.set4 _ _ _ _).alloc _) | (with_reducible exact (HRw2.out.alloc _).set4 _ _ _ _))) rfl ⟨by rw [HV.out] <;> rfl, ?_⟩
          have hb := HBw2.out
          go_grown
      · have HV := hid (interS_no (a := a) (b := b) (c := c) (d := d) (a2 := a2) (b2 := b2) (c2 := c2) (d2 := d2) (fun h => hx h.2.2.1))
        clear C C2 hv hv2
        go_enter Try.func13, Try.ntmps13
        go_wp2_with fail
        refine (HC.out _).mono ?_
        rintro e w1 ⟨rfl, hb⟩
        obtain ⟨hcw1, hfw1⟩ := bcell hb
        have hzw1 : w.heap.size + 3 ≤ w1.heap.size := by have := hb.size; first | omega | (simp at this; omega)
        have hzw10 : w.heap.size < w1.heap.size := by omega
        have hzw11 : w.heap.size + 1 < w1.heap.size := by omega
        have hzw12 : w.heap.size + 1 + 1 < w1.heap.size := by omega
        have HBw1 := hid (((((((Below.refl _ _).alloc (by first | (exact Nat.le_refl _) | omega | (simp <;> omega)) _)).alloc (by first | (exact Nat.le_refl _) | omega | (simp <;> omega)) _)).alloc (by first | (exact Nat.le_refl _) | omega | (simp <;> omega)) _).trans (hb.mono (by first | omega | (simp <;> omega))))
        have HRw1 : Hid (Blk w1 (w.heap.size + 1 + 1) 26 #[.int .i64 0, .int .i64 0, .int .i64 0, .int .i64 0]) := hid ((hb.block _ (by simp <;> omega)).trans (blk2 w _ _ _))
        clear hb
        go_wp2_with fail
        refine (HC2.out _).mono ?_
        rintro e w2 ⟨rfl, hb⟩
        obtain ⟨hcw2, hfw2⟩ := bcell hb
        have hzw2 : w.heap.size + 3 ≤ w2.heap.size := by have := hb.size; first | omega | (simp at this; omega)
        have hzw20 : w.heap.size < w2.heap.size := by omega
        have hzw21 : w.heap.size + 1 < w2.heap.size := by omega
        have hzw22 : w.heap.size + 1 + 1 < w2.heap.size := by omega
        have HBw2 := hid (HBw1.out.trans (hb.mono (by first | omega | (simp <;> omega))))
        have HRw2 := hid (HRw1.out.after hb)
        clear hb
        go_wp2
        refine bodyPost_ret (res_rect (g := w.heap.size + 1 + 1) (v0 := 0) (v1 := 0) (v2 := 0) (v3 := 0) rfl rfl (by first | (with_reducible exact HRw2.out.set4 _ _ _ _) | (with_reducible exact (HRw2.out.set4 _ _ _ _).alloc _) | (with_reducible exact (HRw2.out.alloc _).set4 _ _ _ _))) rfl ⟨by rw [HV.out] <;> rfl, ?_⟩
        have hb := HBw2.out
        go_grown
    · rw [validB_f hv2] at C2
      have HC2 := hid C2
      have HV := hid (interS_no (a := a) (b := b) (c := c) (d := d) (a2 := a2) (b2 := b2) (c2 := c2) (d2 := d2) (fun h => hv2 h.2.1))
      clear C C2 hv hv2
      go_enter Try.func13, Try.ntmps13
      go_wp2_with fail
      refine (HC.out _).mono ?_
      rintro e w1 ⟨rfl, hb⟩
      obtain ⟨hcw1, hfw1⟩ := bcell hb
      have hzw1 : w.heap.size + 3 ≤ w1.heap.size := by have := hb.size; first | omega | (simp at this; omega)
      have hzw10 : w.heap.size < w1.heap.size := by omega
      have hzw11 : w.heap.size + 1 < w1.heap.size := by omega
      have hzw12 : w.heap.size + 1 + 1 < w1.heap.size := by omega
      have HBw1 := hid (((((((Below.refl _ _).alloc (by first | (exact Nat.le_refl _) | omega | (simp <;> omega)) _)).alloc (by first | (exact Nat.le_refl _) | omega | (simp <;> omega)) _)).alloc (by first | (exact Nat.le_refl _) | omega | (simp <;> omega)) _).trans (hb.mono (by first | omega | (simp <;> omega))))
      have HRw1 : Hid (Blk w1 (w.heap.size + 1 + 1) 26 #[.int .i64 0, .int .i64 0, .int .i64 0, .int .i64 0]) := hid ((hb.block _ (by simp <;> omega)).trans (blk2 w _ _ _))
      clear hb
      go_wp2_with fail
      refine (HC2.out _).mono ?_
      rintro e w2 ⟨rfl, hb⟩
      obtain ⟨hcw2, hfw2⟩ := bcell hb
      have hzw2 : w.heap.size + 3 ≤ w2.heap.size := by have := hb.size; first | omega | (simp at this; omega)
      have hzw20 : w.heap.size < w2.heap.size := by omega
      have hzw21 : w.heap.size + 1 < w2.heap.size := by omega
      have hzw22 : w.heap.size + 1 + 1 < w2.heap.size := by omega
      have HBw2 := hid (HBw1.out.trans (hb.mono (by first | omega | (simp <;> omega))))
      have HRw2 := hid (HRw1.out.after hb)
      clear hb
      go_wp2
      refine bodyPost_ret (res_rect (g := w.heap.size + 1 + 1) (v0 := 0) (v1 := 0) (v2 := 0) (v3 := 0) rfl rfl (by first | (with_reducible exact HRw2.out.set4 _ _ _ _) | (with_reducible exact (HRw2.out.set4 _ _ _ _).alloc _) | (with_reducible exact (HRw2.out.alloc _).set4 _ _ _ _))) rfl ⟨by rw [HV.out] <;> rfl, ?_⟩
      have hb := HBw2.out
      go_grown
  · rw [validB_f hv] at C
    have HC := hid C
    have HV := hid (interS_no (a := a) (b := b) (c := c) (d := d) (a2 := a2) (b2 := b2) (c2 := c2) (d2 := d2) (fun h => hv h.1))
    clear C C2 hv
    go_enter Try.func13, Try.ntmps13
    go_wp2_with fail
    refine (HC.out _).mono ?_
    rintro e w1 ⟨rfl, hb⟩
    obtain ⟨hcw1, hfw1⟩ := bcell hb
    have hzw1 : w.heap.size + 3 ≤ w1.heap.size := by have := hb.size; first | omega | (simp at this; omega)
    have hzw10 : w.heap.size < w1.heap.size := by omega
    have hzw11 : w.heap.size + 1 < w1.heap.size := by omega
    have hzw12 : w.heap.size + 1 + 1 < w1.heap.size := by omega
    have HBw1 := hid (((((((Below.refl _ _).alloc (by first | (exact Nat.le_refl _) | omega | (simp <;> omega)) _)).alloc (by first | (exact Nat.le_refl _) | omega | (simp <;> omega)) _)).alloc (by first | (exact Nat.le_refl _) | omega | (simp <;> omega)) _).trans (hb.mono (by first | omega | (simp <;> omega))))
    have HRw1 : Hid (Blk w1 (w.heap.size + 1 + 1) 26 #[.int .i64 0, .int .i64 0, .int .i64 0, .int .i64 0]) := hid ((hb.block _ (by simp <;> omega)).trans (blk2 w _ _ _))
    clear hb
    go_wp2
    refine bodyPost_ret (res_rect (g := w.heap.size + 1 + 1) (v0 := 0) (v1 := 0) (v2 := 0) (v3 := 0) rfl rfl (by first | (with_reducible exact HRw1.out.set4 _ _ _ _) | (with_reducible exact (HRw1.out.set4 _ _ _ _).alloc _) | (with_reducible exact (HRw1.out.alloc _).set4 _ _ _ _))) rfl ⟨by rw [HV.out] <;> rfl, ?_⟩
    have hb := HBw1.out
    go_grown

set_option maxHeartbeats 1000000 in
theorem rinter_any (a b c d a2 b2 c2 d2 : Int) (w : World) :
    Calls Try.prog 31 #[.agg #[.int .i64 a, .int .i64 b, .int .i64 c, .int .i64 d], .agg #[.int .i64 a2, .int .i64 b2, .int .i64 c2, .int .i64 d2]] w fun e w' => e = .returned (.agg #[.int .i64 (interS ⟨a, b, c, d⟩ ⟨a2, b2, c2, d2⟩).x0, .int .i64 (interS ⟨a, b, c, d⟩ ⟨a2, b2, c2, d2⟩).y0, .int .i64 (interS ⟨a, b, c, d⟩ ⟨a2, b2, c2, d2⟩).x1, .int .i64 (interS ⟨a, b, c, d⟩ ⟨a2, b2, c2, d2⟩).y1]) ∧ Below w.heap.size w w' := by
  have C := fun w => rvalid_any a b c d w
  have C2 := fun w => rvalid_any a2 b2 c2 d2 w
  have hmx := fun x y w => run_mx x y w
  have hmn := fun x y w => run_mn x y w
  by_cases hv : ValidP ⟨a, b, c, d⟩
  · rw [validB_t hv] at C
    have HC := hid C
    by_cases hv2 : ValidP ⟨a2, b2, c2, d2⟩
    · rw [validB_t hv2] at C2
      have HC2 := hid C2
      by_cases hx : mx a a2 < mn c c2
      · by_cases hy : mx b b2 < mn d d2
        · have HV := hid (interS_yes hv hv2 hx hy)
          clear C C2 hv hv2
          go_enter Try.func31, Try.ntmps31
          go_wp2_with fail
          refine (HC.out _).mono ?_
          rintro e w1 ⟨rfl, hb⟩
          obtain ⟨hcw1, hfw1⟩ := bcell hb
          have hzw1 : w.heap.size + 4 ≤ w1.heap.size := by have := hb.size; first | omega | (simp at this; omega)
          have hzw10 : w.heap.size < w1.heap.size := by omega
          have hzw11 : w.heap.size + 1 < w1.heap.size := by omega
          have hzw12 : w.heap.size + 1 + 1 < w1.heap.size := by omega
          have hzw13 : w.heap.size + 1 + 1 + 1 < w1.heap.size := by omega
          have HBw1 := hid (((((((((Below.refl _ _).alloc (by first | (exact Nat.le_refl _) | omega | (simp <;> omega)) _)).alloc (by first | (exact Nat.le_refl _) | omega | (simp <;> omega)) _)).alloc (by first | (exact Nat.le_refl _) | omega | (simp <;> omega)) _)).alloc (by first | (exact Nat.le_refl _) | omega | (simp <;> omega)) _).trans (hb.mono (by first | omega | (simp <;> omega))))
          have HRw1 : Hid (Blk w1 (w.heap.size + 1 + 1) 26 #[.int .i64 0, .int .i64 0, .int .i64 0, .int .i64 0]) := hid ((hb.block _ (by simp <;> omega)).trans ((Below.heap_alloc _ _ _ (by simp <;> omega)).trans (blk2 w _ _ _)))
          clear hb
          go_wp2_with fail
          refine (HC2.out _).mono ?_
          rintro e w2 ⟨rfl, hb⟩
          obtain ⟨hcw2, hfw2⟩ := bcell hb
          have hzw2 : w.heap.size + 4 ≤ w2.heap.size := by have := hb.size; first | omega | (simp at this; omega)
          have hzw20 : w.heap.size < w2.heap.size := by omega
          have hzw21 : w.heap.size + 1 < w2.heap.size := by omega
          have hzw22 : w.heap.size + 1 + 1 < w2.heap.size := by omega
          have hzw23 : w.heap.size + 1 + 1 + 1 < w2.heap.size := by omega
          have HBw2 := hid (HBw1.out.trans (hb.mono (by first | omega | (simp <;> omega))))
          have HRw2 := hid (HRw1.out.after hb)
          clear hb
          go_wp2
          refine bodyPost_ret (res_rect (g := w.heap.size + 1 + 1) (v0 := (mx a a2)) (v1 := (mx b b2)) (v2 := (mn c c2)) (v3 := (mn d d2)) rfl rfl (by first | (with_reducible exact HRw2.out.set4 _ _ _ _) | (with_reducible exact (HRw2.out.set4 _ _ _ _).alloc _) | (with_reducible exact (HRw2.out.alloc _).set4 _ _ _ _))) rfl ⟨by rw [HV.out] <;> rfl, ?_⟩
          have hb := HBw2.out
          go_grown
        · have HV := hid (interS_no (a := a) (b := b) (c := c) (d := d) (a2 := a2) (b2 := b2) (c2 := c2) (d2 := d2) (fun h => hy h.2.2.2))
          clear C C2 hv hv2
          go_enter Try.func31, Try.ntmps31
          go_wp2_with fail
          refine (HC.out _).mono ?_
          rintro e w1 ⟨rfl, hb⟩
          obtain ⟨hcw1, hfw1⟩ := bcell hb
          have hzw1 : w.heap.size + 4 ≤ w1.heap.size := by have := hb.size; first | omega | (simp at this; omega)
          have hzw10 : w.heap.size < w1.heap.size := by omega
          have hzw11 : w.heap.size + 1 < w1.heap.size := by omega
          have hzw12 : w.heap.size + 1 + 1 < w1.heap.size := by omega
          have hzw13 : w.heap.size + 1 + 1 + 1 < w1.heap.size := by omega
          have HBw1 := hid (((((((((Below.refl _ _).alloc (by first | (exact Nat.le_refl _) | omega | (simp <;> omega)) _)).alloc (by first | (exact Nat.le_refl _) | omega | (simp <;> omega)) _)).alloc (by first | (exact Nat.le_refl _) | omega | (simp <;> omega)) _)).alloc (by first | (exact Nat.le_refl _) | omega | (simp <;> omega)) _).trans (hb.mono (by first | omega | (simp <;> omega))))
          have HRw1 : Hid (Blk w1 (w.heap.size + 1 + 1) 26 #[.int .i64 0, .int .i64 0, .int .i64 0, .int .i64 0]) := hid ((hb.block _ (by simp <;> omega)).trans ((Below.heap_alloc _ _ _ (by simp <;> omega)).trans (blk2 w _ _ _)))
          clear hb
          go_wp2_with fail
          refine (HC2.out _).mono ?_
          rintro e w2 ⟨rfl, hb⟩
          obtain ⟨hcw2, hfw2⟩ := bcell hb
          have hzw2 : w.heap.size + 4 ≤ w2.heap.size := by have := hb.size; first | omega | (simp at this; omega)
          have hzw20 : w.heap.size < w2.heap.size := by omega
          have hzw21 : w.heap.size + 1 < w2.heap.size := by omega
          have hzw22 : w.heap.size + 1 + 1 < w2.heap.size := by omega
          have hzw23 : w.heap.size + 1 + 1 + 1 < w2.heap.size := by omega
          have HBw2 := hid (HBw1.out.trans (hb.mono (by first | omega | (simp <;> omega))))
          have HRw2 := hid (HRw1.out.after hb)
          clear hb
          go_wp2
          refine bodyPost_ret (res_rect (g := w.heap.size + 1 + 1) (v0 := 0) (v1 := 0) (v2 := 0) (v3 := 0) rfl rfl (by first | (with_reducible exact HRw2.out.set4 _ _ _ _) | (with_reducible exact (HRw2.out.set4 _ _ _ _).alloc _) | (with_reducible exact (HRw2.out.alloc _).set4 _ _ _ _))) rfl ⟨by rw [HV.out] <;> rfl, ?_⟩
          have hb := HBw2.out
          go_grown
      · have HV := hid (interS_no (a := a) (b := b) (c := c) (d := d) (a2 := a2) (b2 := b2) (c2 := c2) (d2 := d2) (fun h => hx h.2.2.1))
        clear C C2 hv hv2
        go_enter Try.func31, Try.ntmps31
        go_wp2_with fail
        refine (HC.out _).mono ?_
        rintro e w1 ⟨rfl, hb⟩
        obtain ⟨hcw1, hfw1⟩ := bcell hb
        have hzw1 : w.heap.size + 4 ≤ w1.heap.size := by have := hb.size; first | omega | (simp at this; omega)
        have hzw10 : w.heap.size < w1.heap.size := by omega
        have hzw11 : w.heap.size + 1 < w1.heap.size := by omega
        have hzw12 : w.heap.size + 1 + 1 < w1.heap.size := by omega
        have hzw13 : w.heap.size + 1 + 1 + 1 < w1.heap.size := by omega
        have HBw1 := hid (((((((((Below.refl _ _).alloc (by first | (exact Nat.le_refl _) | omega | (simp <;> omega)) _)).alloc (by first | (exact Nat.le_refl _) | omega | (simp <;> omega)) _)).alloc (by first | (exact Nat.le_refl _) | omega | (simp <;> omega)) _)).alloc (by first | (exact Nat.le_refl _) | omega | (simp <;> omega)) _).trans (hb.mono (by first | omega | (simp <;> omega))))
        have HRw1 : Hid (Blk w1 (w.heap.size + 1 + 1) 26 #[.int .i64 0, .int .i64 0, .int .i64 0, .int .i64 0]) := hid ((hb.block _ (by simp <;> omega)).trans ((Below.heap_alloc _ _ _ (by simp <;> omega)).trans (blk2 w _ _ _)))
        clear hb
        go_wp2_with fail
        refine (HC2.out _).mono ?_
        rintro e w2 ⟨rfl, hb⟩
        obtain ⟨hcw2, hfw2⟩ := bcell hb
        have hzw2 : w.heap.size + 4 ≤ w2.heap.size := by have := hb.size; first | omega | (simp at this; omega)
        have hzw20 : w.heap.size < w2.heap.size := by omega
        have hzw21 : w.heap.size + 1 < w2.heap.size := by omega
        have hzw22 : w.heap.size + 1 + 1 < w2.heap.size := by omega
        have hzw23 : w.heap.size + 1 + 1 + 1 < w2.heap.size := by omega
        have HBw2 := hid (HBw1.out.trans (hb.mono (by first | omega | (simp <;> omega))))
        have HRw2 := hid (HRw1.out.after hb)
        clear hb
        go_wp2
        refine bodyPost_ret (res_rect (g := w.heap.size + 1 + 1) (v0 := 0) (v1 := 0) (v2 := 0) (v3 := 0) rfl rfl (by first | (with_reducible exact HRw2.out.set4 _ _ _ _) | (with_reducible exact (HRw2.out.set4 _ _ _ _).alloc _) | (with_reducible exact (HRw2.out.alloc _).set4 _ _ _ _))) rfl ⟨by rw [HV.out] <;> rfl, ?_⟩
        have hb := HBw2.out
        go_grown
    · rw [validB_f hv2] at C2
      have HC2 := hid C2
      have HV := hid (interS_no (a := a) (b := b) (c := c) (d := d) (a2 := a2) (b2 := b2) (c2 := c2) (d2 := d2) (fun h => hv2 h.2.1))
      clear C C2 hv hv2
      go_enter Try.func31, Try.ntmps31
      go_wp2_with fail
      refine (HC.out _).mono ?_
      rintro e w1 ⟨rfl, hb⟩
      obtain ⟨hcw1, hfw1⟩ := bcell hb
      have hzw1 : w.heap.size + 4 ≤ w1.heap.size := by have := hb.size; first | omega | (simp at this; omega)
      have hzw10 : w.heap.size < w1.heap.size := by omega
      have hzw11 : w.heap.size + 1 < w1.heap.size := by omega
      have hzw12 : w.heap.size + 1 + 1 < w1.heap.size := by omega
      have hzw13 : w.heap.size + 1 + 1 + 1 < w1.heap.size := by omega
      have HBw1 := hid (((((((((Below.refl _ _).alloc (by first | (exact Nat.le_refl _) | omega | (simp <;> omega)) _)).alloc (by first | (exact Nat.le_refl _) | omega | (simp <;> omega)) _)).alloc (by first | (exact Nat.le_refl _) | omega | (simp <;> omega)) _)).alloc (by first | (exact Nat.le_refl _) | omega | (simp <;> omega)) _).trans (hb.mono (by first | omega | (simp <;> omega))))
      have HRw1 : Hid (Blk w1 (w.heap.size + 1 + 1) 26 #[.int .i64 0, .int .i64 0, .int .i64 0, .int .i64 0]) := hid ((hb.block _ (by simp <;> omega)).trans ((Below.heap_alloc _ _ _ (by simp <;> omega)).trans (blk2 w _ _ _)))
      clear hb
      go_wp2_with fail
      refine (HC2.out _).mono ?_
      rintro e w2 ⟨rfl, hb⟩
      obtain ⟨hcw2, hfw2⟩ := bcell hb
      have hzw2 : w.heap.size + 4 ≤ w2.heap.size := by have := hb.size; first | omega | (simp at this; omega)
      have hzw20 : w.heap.size < w2.heap.size := by omega
      have hzw21 : w.heap.size + 1 < w2.heap.size := by omega
      have hzw22 : w.heap.size + 1 + 1 < w2.heap.size := by omega
      have hzw23 : w.heap.size + 1 + 1 + 1 < w2.heap.size := by omega
      have HBw2 := hid (HBw1.out.trans (hb.mono (by first | omega | (simp <;> omega))))
      have HRw2 := hid (HRw1.out.after hb)
      clear hb
      go_wp2
      refine bodyPost_ret (res_rect (g := w.heap.size + 1 + 1) (v0 := 0) (v1 := 0) (v2 := 0) (v3 := 0) rfl rfl (by first | (with_reducible exact HRw2.out.set4 _ _ _ _) | (with_reducible exact (HRw2.out.set4 _ _ _ _).alloc _) | (with_reducible exact (HRw2.out.alloc _).set4 _ _ _ _))) rfl ⟨by rw [HV.out] <;> rfl, ?_⟩
      have hb := HBw2.out
      go_grown
  · rw [validB_f hv] at C
    have HC := hid C
    have HV := hid (interS_no (a := a) (b := b) (c := c) (d := d) (a2 := a2) (b2 := b2) (c2 := c2) (d2 := d2) (fun h => hv h.1))
    clear C C2 hv
    go_enter Try.func31, Try.ntmps31
    go_wp2_with fail
    refine (HC.out _).mono ?_
    rintro e w1 ⟨rfl, hb⟩
    obtain ⟨hcw1, hfw1⟩ := bcell hb
    have hzw1 : w.heap.size + 4 ≤ w1.heap.size := by have := hb.size; first | omega | (simp at this; omega)
    have hzw10 : w.heap.size < w1.heap.size := by omega
    have hzw11 : w.heap.size + 1 < w1.heap.size := by omega
    have hzw12 : w.heap.size + 1 + 1 < w1.heap.size := by omega
    have hzw13 : w.heap.size + 1 + 1 + 1 < w1.heap.size := by omega
    have HBw1 := hid (((((((((Below.refl _ _).alloc (by first | (exact Nat.le_refl _) | omega | (simp <;> omega)) _)).alloc (by first | (exact Nat.le_refl _) | omega | (simp <;> omega)) _)).alloc (by first | (exact Nat.le_refl _) | omega | (simp <;> omega)) _)).alloc (by first | (exact Nat.le_refl _) | omega | (simp <;> omega)) _).trans (hb.mono (by first | omega | (simp <;> omega))))
    have HRw1 : Hid (Blk w1 (w.heap.size + 1 + 1) 26 #[.int .i64 0, .int .i64 0, .int .i64 0, .int .i64 0]) := hid ((hb.block _ (by simp <;> omega)).trans ((Below.heap_alloc _ _ _ (by simp <;> omega)).trans (blk2 w _ _ _)))
    clear hb
    go_wp2
    refine bodyPost_ret (res_rect (g := w.heap.size + 1 + 1) (v0 := 0) (v1 := 0) (v2 := 0) (v3 := 0) rfl rfl (by first | (with_reducible exact HRw1.out.set4 _ _ _ _) | (with_reducible exact (HRw1.out.set4 _ _ _ _).alloc _) | (with_reducible exact (HRw1.out.alloc _).set4 _ _ _ _))) rfl ⟨by rw [HV.out] <;> rfl, ?_⟩
    have hb := HBw1.out
    go_grown

end Go.Proofs.Ytphleapmgkcpoaa
