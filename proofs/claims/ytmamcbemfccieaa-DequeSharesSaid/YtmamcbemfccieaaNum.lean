/-
  Plain integer lemmas for the walks: no program in sight.
-/
import Derived.WalkKit
namespace Go.Proofs.Ytmamcbemfccieaa
open Go.RowKit
set_option linter.unusedVariables false

/-- The range of an int. -/
def I64 (x : Int) : Prop := -9223372036854775808 ≤ x ∧ x ≤ 9223372036854775807

theorem hid {p : Prop} (h : p) : Hid p := h
theorem i64_of_wf {x : Int} (h : (Lit.int .i64 x).wf = true) : -9223372036854775808 ≤ x ∧ x ≤ 9223372036854775807 := by
  have h1 : IntKind.i64.min = -9223372036854775808 := rfl
  have h2 : IntKind.i64.max = 9223372036854775807 := rfl
  simp only [Lit.wf, Bool.and_eq_true, decide_eq_true_eq] at h
  omega

theorem tmod_lo (v n : Int) (hn : 0 < n) : -n < v.tmod n := by
  rcases Int.lt_or_le v 0 with h | h
  · have h1 := Int.neg_tmod (a := -v) (b := n)
    rw [Int.neg_neg] at h1
    rw [h1, Int.tmod_eq_emod_of_nonneg (by omega)]
    have := Int.emod_lt_of_pos (-v) hn
    omega
  · rw [Int.tmod_eq_emod_of_nonneg h]
    have := Int.emod_nonneg v (by omega : n ≠ 0)
    omega
theorem tmod_neg_of (v n : Int) (hn : 0 < n) (hv : v < 0) : v.tmod n = -((-v) % n) := by
  have h1 := Int.neg_tmod (a := -v) (b := n)
  rw [Int.neg_neg] at h1
  rw [h1, Int.tmod_eq_emod_of_nonneg (by omega)]
theorem tmod_hi (v n : Int) (hn : 0 < n) (hv : v < 0) : v.tmod n ≤ 0 := by
  rw [tmod_neg_of v n hn hv]
  have := Int.emod_nonneg (-v) (by omega : n ≠ 0)
  omega
theorem emod_of_tmod_lt (v n : Int) (hn : 0 < n) (hv : v < 0) (h : v.tmod n < 0) : v.tmod n + n = v % n := by
  rw [tmod_neg_of v n hn hv] at h ⊢
  have h2 := Int.emod_lt_of_pos (-v) hn
  have h3 := Int.mul_ediv_add_emod (-v) n
  generalize (-v) % n = r at *
  generalize (-v) / n = q at *
  have h4 : v = (n - r) + n * (-q - 1) := by
    rw [Int.mul_sub, Int.mul_neg, Int.mul_one]; omega
  rw [h4, Int.add_mul_emod_self_left, Int.emod_eq_of_lt (by omega) (by omega)]
  omega
theorem emod_of_tmod_ge (v n : Int) (hn : 0 < n) (hv : v < 0) (h : ¬ v.tmod n < 0) : v.tmod n = v % n := by
  have h0 := tmod_hi v n hn hv
  rw [tmod_neg_of v n hn hv] at h h0 ⊢
  have h1 : (-v) % n = 0 := by omega
  have h2 : n ∣ v := by
    have := Int.dvd_of_emod_eq_zero h1
    exact (Int.dvd_neg.1 this)
  rw [Int.emod_eq_zero_of_dvd h2, h1]; rfl
theorem ret_int {k : IntKind} {a b : Int} (h : a = b) : Ending.returned (.int k a) = .returned (.int k b) := by rw [h]
theorem ret_bool {a b : Bool} (h : a = b) : Ending.returned (.bool a) = .returned (.bool b) := by rw [h]
theorem ret_ib {a b : Int} {p q : Bool} (h : a = b) (h' : p = q) : Ending.returned (.tuple #[.int .i64 a, .bool p]) = .returned (.tuple #[.int .i64 b, .bool q]) := by rw [h, h']
end Go.Proofs.Ytmamcbemfccieaa
