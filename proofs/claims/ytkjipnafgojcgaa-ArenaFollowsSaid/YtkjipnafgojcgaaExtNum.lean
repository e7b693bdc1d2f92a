/-
  Plain law of layer 1: what the program and the reference compute.
-/
import Derived.Test.YtkjipnafgojcgaaNum
namespace Go.Proofs.Ytkjipnafgojcgaa
set_option linter.unusedVariables false

def mulS (a b l : Int) : Int × Bool := if a < 0 ∨ b < 0 ∨ l < 0 then (0, false) else if 0 < b ∧ l / b < a then (0, false) else (a * b, true)
def ceilS (a b : Int) : Int := if a < 0 ∨ b < 1 then 0 else if a % b = 0 then a / b else a / b + 1
def alignS (n k l : Int) : Int × Bool := if n < 0 ∨ k < 1 then (0, false) else mulS (ceilS n k) k l

theorem mulS_neg {a b l : Int} (h : a < 0 ∨ b < 0 ∨ l < 0) : mulS a b l = (0, false) := by unfold mulS; rw [if_pos h]
theorem mulS_big {a b l : Int} (h : 0 < b) (h2 : l / b < a) : mulS a b l = (0, false) := by
  unfold mulS; split
  · rfl
  · rw [if_pos ⟨h, h2⟩]
theorem mulS_ok {a b l : Int} (ha : 0 ≤ a) (hb : 0 ≤ b) (hl : 0 ≤ l) (h : ¬ (0 < b ∧ l / b < a)) : mulS a b l = (a * b, true) := by
  unfold mulS; rw [if_neg (by omega), if_neg h]
theorem mul_le_of {a b l : Int} (ha : 0 ≤ a) (hb : 0 ≤ b) (hl : 0 ≤ l) (h : ¬ (0 < b ∧ l / b < a)) : 0 ≤ a * b ∧ a * b ≤ l := by
  refine ⟨Int.mul_nonneg ha hb, ?_⟩
  rcases Int.lt_or_le 0 b with hb0 | hb0
  · have h1 : a ≤ l / b := by omega
    exact (Int.le_ediv_iff_mul_le hb0).1 h1
  · have : b = 0 := by omega
    subst this
    omega
theorem ceilS_neg {a b : Int} (h : a < 0 ∨ b < 1) : ceilS a b = 0 := by unfold ceilS; rw [if_pos h]
theorem ceilS_zero {a b : Int} (ha : 0 ≤ a) (hb : 1 ≤ b) (h : a % b = 0) : ceilS a b = a / b := by unfold ceilS; rw [if_neg (by omega), if_pos h]
theorem ceilS_more {a b : Int} (ha : 0 ≤ a) (hb : 1 ≤ b) (h : a % b ≠ 0) : ceilS a b = a / b + 1 := by unfold ceilS; rw [if_neg (by omega), if_neg h]
theorem div_bd {a b : Int} (ha : 0 ≤ a) (hb : 1 ≤ b) : 0 ≤ a / b ∧ a / b ≤ a := ⟨Int.ediv_nonneg ha (by omega), by
  have := Int.ediv_le_self b ha
  exact this⟩
theorem div_succ_bd {a b : Int} (ha : 0 ≤ a) (hb : 1 ≤ b) (h : a % b ≠ 0) : a / b + 1 ≤ a := by
  have h1 : b ≠ 1 := by rintro rfl; exact h (Int.emod_one a)
  have h2 := Int.mul_ediv_add_emod a b
  have h3 := Int.emod_nonneg a (by omega : b ≠ 0)
  have h4 : 2 * (a / b) ≤ b * (a / b) := Int.mul_le_mul_of_nonneg_right (by omega) (Int.ediv_nonneg ha (by omega))
  omega
theorem ceilS_bd (a b : Int) (ha : -9223372036854775808 ≤ a) (h2 : a ≤ 9223372036854775807) : 0 ≤ ceilS a b ∧ ceilS a b ≤ 9223372036854775807 := by
  by_cases h : a < 0 ∨ b < 1
  · rw [ceilS_neg h]; omega
  · by_cases h3 : a % b = 0
    · rw [ceilS_zero (by omega) (by omega) h3]
      have := div_bd (a := a) (b := b) (by omega) (by omega); omega
    · rw [ceilS_more (by omega) (by omega) h3]
      have := div_succ_bd (a := a) (b := b) (by omega) (by omega) h3
      have := div_bd (a := a) (b := b) (by omega) (by omega); omega
end Go.Proofs.Ytkjipnafgojcgaa
