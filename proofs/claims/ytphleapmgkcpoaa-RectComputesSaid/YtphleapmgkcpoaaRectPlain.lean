/-
  Plain law of rectangles: areas, points, hulls.
-/
import Derived.Test.YtphleapmgkcpoaaRectNum
namespace Go.Proofs.Ytphleapmgkcpoaa
set_option linter.unusedVariables false

theorem areaS_nonneg (r : Rc) : 0 ≤ areaS r := by
  obtain ⟨a, b, c, d⟩ := r
  by_cases h : ValidP ⟨a, b, c, d⟩
  · rw [areaS_v h]; exact (area_bd h).1
  · rw [areaS_n h]; omega
theorem areaS_le (r : Rc) : areaS r ≤ 4398046511104 := by
  obtain ⟨a, b, c, d⟩ := r
  by_cases h : ValidP ⟨a, b, c, d⟩
  · rw [areaS_v h]; exact (area_bd h).2
  · rw [areaS_n h]; omega
def sumA : List Rc → Int
  | [] => 0
  | r :: t => areaS r + sumA t
theorem sumA_nonneg : ∀ l, 0 ≤ sumA l
  | [] => by simp [sumA]
  | r :: t => by have := sumA_nonneg t; have := areaS_nonneg r; simp only [sumA]; omega
theorem areaS_zero : areaS Rc.zero = 0 := by
  unfold areaS Rc.zero; simp
theorem inter_sub {a b c d a2 b2 c2 d2 : Int} (h : ValidP ⟨a, b, c, d⟩) (h2 : ValidP ⟨a2, b2, c2, d2⟩) (hn : ¬ EmptyP (interS ⟨a, b, c, d⟩ ⟨a2, b2, c2, d2⟩)) :
    ∃ e0 e1 e2 e3, interS ⟨a, b, c, d⟩ ⟨a2, b2, c2, d2⟩ = ⟨e0, e1, e2, e3⟩ ∧ e0 = max a a2 ∧ e1 = max b b2 ∧ e2 = min c c2 ∧ e3 = min d d2 ∧ e0 < e2 ∧ e1 < e3 := by
  unfold interS at hn ⊢
  split at hn
  · rename_i hc
    rw [if_pos hc]
    exact ⟨_, _, _, _, rfl, rfl, rfl, rfl, rfl, hc.2.2.1, hc.2.2.2⟩
  · exact absurd (by unfold EmptyP Rc.zero; simp) hn
/-- The area of a part, real or not. -/
def partA (p : Rc) : Int := (p.x1 - p.x0) * (p.y1 - p.y0)
theorem sumA_filter : ∀ (l : List Rc), (∀ p ∈ l, (realB p = true → ValidP p) ∧ (realB p = false → partA p = 0)) → sumA (l.filter realB) = (l.map partA).sum
  | [], _ => by simp [sumA]
  | p :: t, h => by
    have ih := sumA_filter t (fun q hq => h q (List.mem_cons_of_mem _ hq))
    have hp := h p (List.mem_cons_self ..)
    rw [List.filter_cons]
    cases hr : realB p with
    | true =>
      simp only [if_true, sumA, List.map_cons, List.sum_cons]
      rw [ih]
      have := hp.1 hr
      obtain ⟨a, b, c, d⟩ := p
      rw [areaS_v this]
      rfl
    | false =>
      simp only [List.map_cons, List.sum_cons]
      rw [hp.2 hr]
      simpa using ih
theorem zero_part {x y : Int} (h0 : 0 ≤ x) (h1 : 0 ≤ y) (h : ¬ (0 < x ∧ 0 < y)) : x * y = 0 := by
  rcases Int.lt_or_le 0 x with hx | hx
  · have : y = 0 := by omega
    subst this; simp
  · have : x = 0 := by omega
    subst this; simp
theorem part_ok {p : Rc} (h0 : p.x0 ≤ p.x1) (h1 : p.y0 ≤ p.y1) (hc : inC p.x0 ∧ inC p.y0 ∧ inC p.x1 ∧ inC p.y1) : (realB p = true → ValidP p) ∧ (realB p = false → partA p = 0) := by
  constructor
  · intro h
    have h := of_decide_eq_true h
    exact .inr ⟨hc.1, hc.2.1, hc.2.2.1, hc.2.2.2, h.1, h.2⟩
  · intro h
    have h := of_decide_eq_false h
    exact zero_part (by omega) (by omega) (by omega)
theorem full_bd {a b c d : Int} (h : ValidP ⟨a, b, c, d⟩) (hn : ¬ EmptyP ⟨a, b, c, d⟩) : inC a ∧ inC b ∧ inC c ∧ inC d ∧ a < c ∧ b < d := by
  rcases h with h | h
  · exact absurd h hn
  · exact h
theorem parts_ok {a b c d e0 e1 e2 e3 : Int} (hf : inC a ∧ inC b ∧ inC c ∧ inC d ∧ a < c ∧ b < d) (h0 : a ≤ e0) (h1 : b ≤ e1) (h2 : e2 ≤ c) (h3 : e3 ≤ d) (h4 : e0 < e2) (h5 : e1 < e3) :
    ∀ p ∈ partsOf ⟨a, b, c, d⟩ ⟨e0, e1, e2, e3⟩, (realB p = true → ValidP p) ∧ (realB p = false → partA p = 0) := by
  intro p hp
  unfold inC at hf
  simp only [partsOf, List.mem_cons, List.not_mem_nil, or_false] at hp
  rcases hp with rfl | rfl | rfl | rfl <;> (refine part_ok (by simp only; omega) (by simp only; omega) ?_; unfold inC; simp only; omega)
theorem areas_id (a b c d e0 e1 e2 e3 : Int) : (e2 - e0) * (e3 - e1) + ((c - a) * (e1 - b) + ((e0 - a) * (e3 - e1) + ((c - e2) * (e3 - e1) + ((c - a) * (d - e3) + 0)))) = (c - a) * (d - b) := by
  simp only [Int.sub_mul, Int.mul_sub]
  omega
theorem inter_valid {a b c d a2 b2 c2 d2 e0 e1 e2 e3 : Int} (hf : inC a ∧ inC b ∧ inC c ∧ inC d ∧ a < c ∧ b < d) (h0 : a ≤ e0) (h1 : b ≤ e1) (h2 : e2 ≤ c) (h3 : e3 ≤ d) (h4 : e0 < e2) (h5 : e1 < e3) : ValidP ⟨e0, e1, e2, e3⟩ := by
  unfold inC at hf
  refine .inr ?_
  unfold FullP inC
  simp only
  omega

theorem inter_empty_of {a b : Rc} (h : EmptyP a) : interS a b = Rc.zero := by
  unfold interS
  unfold EmptyP at h
  rw [if_neg]
  rintro ⟨_, _, hx, _⟩
  omega
theorem empty_eq {r : Rc} (h : EmptyP r) : r = Rc.zero := by
  obtain ⟨a, b, c, d⟩ := r
  obtain ⟨h1, h2, h3, h4⟩ := h
  simp only at h1 h2 h3 h4
  subst h1; subst h2; subst h3; subst h4
  rfl

theorem areas_law (a b c d a2 b2 c2 d2 : Int) (h : ValidP ⟨a, b, c, d⟩) (h2 : ValidP ⟨a2, b2, c2, d2⟩) :
    areaS (interS ⟨a, b, c, d⟩ ⟨a2, b2, c2, d2⟩) + sumA (subS ⟨a, b, c, d⟩ ⟨a2, b2, c2, d2⟩) = areaS ⟨a, b, c, d⟩ := by
  by_cases he : EmptyP ⟨a, b, c, d⟩
  · rw [inter_empty_of he, areaS_zero]
    unfold subS
    rw [if_pos (.inl he), empty_eq he, areaS_zero]
    rfl
  · by_cases hi : EmptyP (interS ⟨a, b, c, d⟩ ⟨a2, b2, c2, d2⟩)
    · unfold subS
      rw [if_neg (by simp [he, h, h2]), if_pos hi, empty_eq hi, areaS_zero]
      simp [sumA]
    · obtain ⟨e0, e1, e2, e3, hI, g0, g1, g2, g3, g4, g5⟩ := inter_sub h h2 hi
      have hf := full_bd h he
      unfold subS
      rw [if_neg (by simp [he, h, h2]), if_neg hi, hI, sumA_filter _ (parts_ok hf (by omega) (by omega) (by omega) (by omega) g4 g5), areaS_v (inter_valid (a2 := a2) (b2 := b2) (c2 := c2) (d2 := d2) hf (by omega) (by omega) (by omega) (by omega) g4 g5), areaS_v h]
      exact areas_id a b c d e0 e1 e2 e3

theorem inside_law (a b c d a2 b2 c2 d2 : Int) (h : ValidP ⟨a, b, c, d⟩) (h2 : ValidP ⟨a2, b2, c2, d2⟩) :
    insideB ⟨a, b, c, d⟩ ⟨a2, b2, c2, d2⟩ = decide ((subS ⟨a, b, c, d⟩ ⟨a2, b2, c2, d2⟩).length = 0) := by
  by_cases he : EmptyP ⟨a, b, c, d⟩
  · rw [insideB_e h h2 he]
    unfold subS
    rw [if_pos (.inl he)]
    rfl
  · rw [insideB_v h h2 he]
    have hf := full_bd h he
    have hv2 := valid_bd h2
    by_cases hi : EmptyP (interS ⟨a, b, c, d⟩ ⟨a2, b2, c2, d2⟩)
    · unfold subS
      rw [if_neg (by simp [he, h, h2]), if_pos hi]
      rw [decide_eq_decide]
      constructor
      · intro hin
        exfalso
        unfold interS at hi
        rw [if_pos ⟨h, h2, by simp only; omega, by simp only; omega⟩] at hi
        unfold EmptyP at hi
        simp only at hi
        omega
      · intro hl
        simp at hl
    · obtain ⟨e0, e1, e2, e3, hI, g0, g1, g2, g3, g4, g5⟩ := inter_sub h h2 hi
      unfold subS
      rw [if_neg (by simp [he, h, h2]), if_neg hi, hI, decide_eq_decide]
      rw [List.length_eq_zero_iff, List.filter_eq_nil_iff]
      constructor
      · intro hin p hp
        simp only [partsOf, List.mem_cons, List.not_mem_nil, or_false] at hp
        unfold realB
        rcases hp with rfl | rfl | rfl | rfl <;> (simp only [decide_eq_true_eq]; omega)
      · intro hall
        have p0 := hall ⟨a, b, c, e1⟩ (by simp [partsOf])
        have p1 := hall ⟨a, e1, e0, e3⟩ (by simp [partsOf])
        have p2 := hall ⟨e2, e1, c, e3⟩ (by simp [partsOf])
        have p3 := hall ⟨a, e3, c, d⟩ (by simp [partsOf])
        unfold realB at p0 p1 p2 p3
        simp only [decide_eq_true_eq] at p0 p1 p2 p3
        omega
end Go.Proofs.Ytphleapmgkcpoaa
