/-
  Layer 7: Clamp, Shift and their references.
-/
import Derived.Test.YtgfkmlppoldhgaaFixNum
import Derived.Test.YtgfkmlppoldhgaaProg
import Derived.Handy
import Derived.Outline
import Derived.WalkLawsBesides
namespace Go.Proofs.Ytgfkmlppoldhgaa
open Go.RowKit
set_option linter.unusedVariables false


theorem clamp_any (v m : Int) (w : World) : Calls Try.prog 17 #[.int .i64 v, .int .i64 m] w fun e w' => e = .returned (.int .i64 (clampS v m)) ∧ w = w' := by
  by_cases hm : m < 0
  · rw [clampS_zero (.inl hm)]
    go_enter Try.func17, Try.ntmps17
    go_wp2
    all_goals (go_ret; exact ⟨rfl, rfl⟩)
  by_cases hv : v < 0
  · rw [clampS_zero (.inr hv)]
    go_enter Try.func17, Try.ntmps17
    go_wp2
    go_ret
    exact ⟨rfl, rfl⟩
  by_cases h : m < v
  · rw [clampS_max (by omega) h]
    go_enter Try.func17, Try.ntmps17
    go_wp2
    go_ret
    exact ⟨rfl, rfl⟩
  · rw [clampS_self (by omega) (by omega)]
    go_enter Try.func17, Try.ntmps17
    go_wp2
    go_ret
    exact ⟨rfl, rfl⟩

theorem rclamp_any (v m : Int) (w : World) : Calls Try.prog 22 #[.int .i64 v, .int .i64 m] w fun e w' => e = .returned (.int .i64 (clampS v m)) ∧ w = w' := by
  by_cases hm : m < 0
  · rw [clampS_zero (.inl hm)]
    go_enter Try.func22, Try.ntmps22
    go_wp2
    all_goals (go_ret; exact ⟨rfl, rfl⟩)
  by_cases hv : v < 0
  · rw [clampS_zero (.inr hv)]
    go_enter Try.func22, Try.ntmps22
    go_wp2
    go_ret
    exact ⟨rfl, rfl⟩
  by_cases h : m < v
  · rw [clampS_max (by omega) h]
    go_enter Try.func22, Try.ntmps22
    go_wp2
    go_ret
    exact ⟨rfl, rfl⟩
  · rw [clampS_self (by omega) (by omega)]
    go_enter Try.func22, Try.ntmps22
    go_wp2
    go_ret
    exact ⟨rfl, rfl⟩

theorem shift_any (a s : Int) (w : World) (ha1 : -9223372036854775808 ≤ a) (ha2 : a ≤ 9223372036854775807) :
    Calls Try.prog 20 #[.int .i64 a, .int .i64 s] w fun e w' => e = .returned (.int .i64 (shiftS a s)) ∧ w = w' := by
  by_cases h1 : a < -17592186044416
  · rw [shiftS_bad (by unfold accS; omega)]
    go_enter Try.func20, Try.ntmps20
    go_wp2
    all_goals (go_ret; exact ⟨rfl, rfl⟩)
  by_cases h2 : 17592186044416 < a
  · rw [shiftS_bad (by unfold accS; omega)]
    go_enter Try.func20, Try.ntmps20
    go_wp2
    all_goals (go_ret; exact ⟨rfl, rfl⟩)
  have hacc : accS a := by unfold accS; omega
  have HA := hid hacc
  clear hacc
  by_cases h3 : s < 0
  · rw [shiftS_bad (by omega)]
    go_enter Try.func20, Try.ntmps20
    go_wp2
    all_goals (go_ret; exact ⟨rfl, rfl⟩)
  by_cases h4 : 24 < s
  · rw [shiftS_bad (by omega)]
    go_enter Try.func20, Try.ntmps20
    go_wp2
    all_goals (go_ret; exact ⟨rfl, rfl⟩)
  by_cases h5 : s = 0
  · subst h5
    rw [shiftS_zero HA.out]
    go_enter Try.func20, Try.ntmps20
    go_wp2
    all_goals (go_ret; exact ⟨rfl, rfl⟩)
  have hs1 : 1 ≤ s := by omega
  obtain ⟨p1, p2, d1, d2⟩ := pow_facts s (by omega) (by omega)
  rw [shiftS_pos HA.out (by omega) (by omega)]
  go_enter Try.func20, Try.ntmps20
  go_wp2
  go_ret
  exact ⟨rfl, rfl⟩
theorem rshift_any (a s : Int) (w : World) (ha1 : -9223372036854775808 ≤ a) (ha2 : a ≤ 9223372036854775807) :
    Calls Try.prog 21 #[.int .i64 a, .int .i64 s] w fun e w' => e = .returned (.int .i64 (shiftS a s)) ∧ w = w' := by
  by_cases h1 : a < -17592186044416
  · rw [shiftS_bad (by unfold accS; omega)]
    go_enter Try.func21, Try.ntmps21
    go_wp2
    all_goals (go_ret; exact ⟨rfl, rfl⟩)
  by_cases h2 : 17592186044416 < a
  · rw [shiftS_bad (by unfold accS; omega)]
    go_enter Try.func21, Try.ntmps21
    go_wp2
    all_goals (go_ret; exact ⟨rfl, rfl⟩)
  have hacc : accS a := by unfold accS; omega
  have HA := hid hacc
  clear hacc
  by_cases h3 : s < 0
  · rw [shiftS_bad (by omega)]
    go_enter Try.func21, Try.ntmps21
    go_wp2
    all_goals (go_ret; exact ⟨rfl, rfl⟩)
  by_cases h4 : 24 < s
  · have h4' : decide (s ≤ 24) = false := by simp; omega
    rw [shiftS_bad (by omega)]
    go_enter Try.func21, Try.ntmps21
    go_wp2
    all_goals (go_ret; exact ⟨rfl, rfl⟩)
  by_cases h5 : s = 0
  · subst h5
    rw [shiftS_zero HA.out]
    go_enter Try.func21, Try.ntmps21
    go_wp2
    all_goals (go_ret; exact ⟨rfl, rfl⟩)
  have hs1 : 1 ≤ s := by omega
  have hd : decide (s ≤ 24) = true := by simp; omega
  obtain ⟨p1, p2, d1, d2⟩ := pow_facts s (by omega) (by omega)
  rw [shiftS_pos HA.out (by omega) (by omega)]
  by_cases h6 : a + 2 ^ (s.toNat - 1) < 0
  · obtain ⟨q1, q2, q3, q4, q5, q6⟩ := quo_neg _ _ h6 d1
    have Q5 := hid q5
    have Q6 := hid q6
    clear q5 q6
    by_cases h7 : a + 2 ^ (s.toNat - 1) < (a + 2 ^ (s.toNat - 1)).tdiv (2 ^ s.toNat) * 2 ^ s.toNat
    · go_enter Try.func21, Try.ntmps21
      go_wp2
      go_ret
      exact ⟨ret_int (Q5.out h7), rfl⟩
    · go_enter Try.func21, Try.ntmps21
      go_wp2
      go_ret
      exact ⟨ret_int (Q6.out h7), rfl⟩
  · obtain ⟨q1, q2, q3, q4⟩ := quo_pos (a + 2 ^ (s.toNat - 1)) (2 ^ s.toNat) (by omega) d1
    have h6' : 0 ≤ a + 2 ^ (s.toNat - 1) := by omega
    go_enter Try.func21, Try.ntmps21
    go_wp2
    go_ret
    exact ⟨rfl, rfl⟩
end Go.Proofs.Ytgfkmlppoldhgaa
