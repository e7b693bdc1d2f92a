/-
  Plain law of rectangles: points.
-/
import Derived.Test.YtphleapmgkcpoaaRectPlain
namespace Go.Proofs.Ytphleapmgkcpoaa
set_option linter.unusedVariables false

def cnt (u v : Int) : List Rc → Int
  | [] => 0
  | r :: t => (if containsB r u v = true then 1 else 0) + cnt u v t
theorem cnt_nonneg (u v : Int) : ∀ l, 0 ≤ cnt u v l
  | [] => by simp [cnt]
  | r :: t => by have := cnt_nonneg u v t; simp only [cnt]; split <;> omega
/-- Whether a part, real or not, has a point. -/
def ind1 (u v : Int) (p : Rc) : Int := if p.x0 ≤ u ∧ u < p.x1 ∧ p.y0 ≤ v ∧ v < p.y1 then 1 else 0
theorem cnt_filter (u v : Int) : ∀ (l : List Rc), (∀ p ∈ l, realB p = true → ValidP p) → cnt u v (l.filter realB) = (l.map (ind1 u v)).sum
  | [], _ => by simp [cnt]
  | p :: t, h => by
    have ih := cnt_filter u v t (fun q hq => h q (List.mem_cons_of_mem _ hq))
    have hp := h p (List.mem_cons_self ..)
    rw [List.filter_cons]
    cases hr : realB p with
    | true =>
      simp only [if_true, cnt, List.map_cons, List.sum_cons]
      rw [ih]
      have hv := hp hr
      obtain ⟨a, b, c, d⟩ := p
      have hc := containsB_v (x := u) (y := v) hv
      have e : (if containsB ⟨a, b, c, d⟩ u v = true then (1 : Int) else 0) = ind1 u v ⟨a, b, c, d⟩ := by
        unfold ind1
        rw [hc]
        simp
      rw [e]
    | false =>
      simp only [List.map_cons, List.sum_cons]
      have hn := of_decide_eq_false hr
      have e : ind1 u v p = 0 := by
        unfold ind1
        rw [if_neg]
        omega
      rw [e]
      simpa using ih
theorem contains_zero (u v : Int) : containsB Rc.zero u v = false :=
  decide_eq_false (by
    rintro ⟨_, h1, h2, _⟩
    simp only [Rc.zero] at h1 h2
    omega)
theorem contains_iff {a b c d : Int} (u v : Int) (h : ValidP ⟨a, b, c, d⟩) : (containsB ⟨a, b, c, d⟩ u v = true) ↔ (a ≤ u ∧ u < c ∧ b ≤ v ∧ v < d) := by
  rw [containsB_v h]; simp
theorem inter_points (a b c d a2 b2 c2 d2 u v : Int) (h : ValidP ⟨a, b, c, d⟩) (h2 : ValidP ⟨a2, b2, c2, d2⟩) :
    containsB (interS ⟨a, b, c, d⟩ ⟨a2, b2, c2, d2⟩) u v = (containsB ⟨a, b, c, d⟩ u v && containsB ⟨a2, b2, c2, d2⟩ u v) := by
  rw [Bool.eq_iff_iff, Bool.and_eq_true, contains_iff u v h, contains_iff u v h2]
  by_cases hi : EmptyP (interS ⟨a, b, c, d⟩ ⟨a2, b2, c2, d2⟩)
  · rw [empty_eq hi, contains_zero]
    simp only [Bool.false_eq_true, false_iff]
    rintro ⟨h3, h4⟩
    unfold interS at hi
    rw [if_pos ⟨h, h2, by simp only; omega, by simp only; omega⟩] at hi
    unfold EmptyP at hi
    have hv := valid_bd h
    have hv2 := valid_bd h2
    simp only at hi
    omega
  · have he : ¬ EmptyP ⟨a, b, c, d⟩ := by
      intro he
      rw [inter_empty_of he] at hi
      exact hi (by unfold EmptyP Rc.zero; simp)
    obtain ⟨e0, e1, e2, e3, hI, g0, g1, g2, g3, g4, g5⟩ := inter_sub h h2 hi
    have hf := full_bd h he
    rw [hI, contains_iff u v (inter_valid (a2 := a2) (b2 := b2) (c2 := c2) (d2 := d2) hf (by omega) (by omega) (by omega) (by omega) g4 g5)]
    omega
theorem hull_points (a b c d a2 b2 c2 d2 u v : Int) (h : ValidP ⟨a, b, c, d⟩) (h2 : ValidP ⟨a2, b2, c2, d2⟩) (hp : containsB ⟨a, b, c, d⟩ u v = true ∨ containsB ⟨a2, b2, c2, d2⟩ u v = true) :
    containsB (hullS ⟨a, b, c, d⟩ ⟨a2, b2, c2, d2⟩) u v = true := by
  unfold hullS
  rw [if_neg (by simp [h, h2])]
  by_cases he : EmptyP ⟨a, b, c, d⟩
  · rw [if_pos he]
    rcases hp with hp | hp
    · rw [empty_eq he, contains_zero] at hp; cases hp
    · exact hp
  · rw [if_neg he]
    by_cases he2 : EmptyP ⟨a2, b2, c2, d2⟩
    · rw [if_pos he2]
      rcases hp with hp | hp
      · exact hp
      · rw [empty_eq he2, contains_zero] at hp; cases hp
    · rw [if_neg he2]
      have hf := full_bd h he
      have hf2 := full_bd h2 he2
      have hv : ValidP ⟨min a a2, min b b2, max c c2, max d d2⟩ := by
        unfold inC at hf hf2
        refine .inr ?_
        unfold FullP inC
        simp only
        omega
      rw [contains_iff u v h, contains_iff u v h2] at hp
      refine (contains_iff u v hv).2 ?_
      omega
theorem sub_points (a b c d a2 b2 c2 d2 u v : Int) (h : ValidP ⟨a, b, c, d⟩) (h2 : ValidP ⟨a2, b2, c2, d2⟩) :
    cnt u v (subS ⟨a, b, c, d⟩ ⟨a2, b2, c2, d2⟩) = if (containsB ⟨a, b, c, d⟩ u v && !containsB ⟨a2, b2, c2, d2⟩ u v) = true then 1 else 0 := by
  by_cases he : EmptyP ⟨a, b, c, d⟩
  · rw [empty_eq he, contains_zero]
    unfold subS
    rw [if_pos (.inl (by unfold EmptyP Rc.zero; simp))]
    simp [cnt]
  · by_cases hi : EmptyP (interS ⟨a, b, c, d⟩ ⟨a2, b2, c2, d2⟩)
    · have hip := inter_points a b c d a2 b2 c2 d2 u v h h2
      rw [empty_eq hi, contains_zero] at hip
      unfold subS
      rw [if_neg (by simp [he, h, h2]), if_pos hi]
      simp only [cnt, Int.add_zero]
      cases hp : containsB ⟨a, b, c, d⟩ u v <;> cases hq : containsB ⟨a2, b2, c2, d2⟩ u v <;> rw [hp, hq] at hip <;> simp at hip ⊢
    · obtain ⟨e0, e1, e2, e3, hI, g0, g1, g2, g3, g4, g5⟩ := inter_sub h h2 hi
      have hf := full_bd h he
      unfold subS
      rw [if_neg (by simp [he, h, h2]), if_neg hi, hI, cnt_filter u v _ (fun p hp => (parts_ok hf (by omega) (by omega) (by omega) (by omega) g4 g5 p hp).1)]
      have e : ((containsB ⟨a, b, c, d⟩ u v && !containsB ⟨a2, b2, c2, d2⟩ u v) = true) ↔ ((a ≤ u ∧ u < c ∧ b ≤ v ∧ v < d) ∧ ¬ (a2 ≤ u ∧ u < c2 ∧ b2 ≤ v ∧ v < d2)) := by
        rw [Bool.and_eq_true, Bool.not_eq_true', contains_iff u v h, ← contains_iff u v h2]
        simp
      simp only [partsOf, List.map_cons, List.map_nil, List.sum_cons, List.sum_nil, ind1]
      simp only [e]
      split <;> split <;> split <;> split <;> split <;> omega
end Go.Proofs.Ytphleapmgkcpoaa
