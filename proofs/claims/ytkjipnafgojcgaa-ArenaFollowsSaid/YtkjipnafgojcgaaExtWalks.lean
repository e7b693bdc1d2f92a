/-
  Layer 1: extent.Mul, Ceil, Align and their references compute mulS, ceilS, alignS.
-/
import Derived.Test.YtkjipnafgojcgaaExtNum
import Derived.Test.YtkjipnafgojcgaaProg
import Derived.Handy
namespace Go.Proofs.Ytkjipnafgojcgaa
open Go.RowKit
set_option linter.unusedVariables false

theorem mul_any (a b l : Int) (w : World) (ha1 : -9223372036854775808 ≤ a) (ha2 : a ≤ 9223372036854775807) (hb1 : -9223372036854775808 ≤ b) (hb2 : b ≤ 9223372036854775807) (hl1 : -9223372036854775808 ≤ l) (hl2 : l ≤ 9223372036854775807) :
    Calls Try.prog 30 #[.int .i64 a, .int .i64 b, .int .i64 l] w fun e w' => e = .returned (.tuple #[.int .i64 (mulS a b l).1, .bool (mulS a b l).2]) ∧ w = w' := by
  by_cases ha : a < 0
  · rw [mulS_neg (by omega)]
    go_enter Try.func30, Try.ntmps30
    go_wp2
    go_ret2
    exact ⟨rfl, rfl⟩
  by_cases hb : b < 0
  · rw [mulS_neg (by omega)]
    go_enter Try.func30, Try.ntmps30
    go_wp2
    go_ret2
    exact ⟨rfl, rfl⟩
  by_cases hl : l < 0
  · rw [mulS_neg (by omega)]
    go_enter Try.func30, Try.ntmps30
    go_wp2
    go_ret2
    exact ⟨rfl, rfl⟩
  by_cases hb0 : 0 < b
  · have hd := (div_bd (a := l) (b := b) (by omega) (by omega)).1
    by_cases hq : l / b < a
    · rw [mulS_big hb0 hq]
      go_enter Try.func30, Try.ntmps30
      go_wp2
      go_ret2
      exact ⟨rfl, rfl⟩
    · have hm := mul_le_of (a := a) (b := b) (l := l) (by omega) (by omega) (by omega) (by omega)
      obtain ⟨hm1, hm2⟩ := hm
      rw [mulS_ok (by omega) (by omega) (by omega) (by omega)]
      go_enter Try.func30, Try.ntmps30
      go_wp2
      go_ret2
      exact ⟨rfl, rfl⟩
  · have hm := mul_le_of (a := a) (b := b) (l := l) (by omega) (by omega) (by omega) (by omega)
    obtain ⟨hm1, hm2⟩ := hm
    rw [mulS_ok (by omega) (by omega) (by omega) (by omega)]
    go_enter Try.func30, Try.ntmps30
    go_wp2
    go_ret2
    exact ⟨rfl, rfl⟩

theorem rmul_any (a b l : Int) (w : World) (ha1 : -9223372036854775808 ≤ a) (ha2 : a ≤ 9223372036854775807) (hb1 : -9223372036854775808 ≤ b) (hb2 : b ≤ 9223372036854775807) (hl1 : -9223372036854775808 ≤ l) (hl2 : l ≤ 9223372036854775807) :
    Calls Try.prog 32 #[.int .i64 a, .int .i64 b, .int .i64 l] w fun e w' => e = .returned (.tuple #[.int .i64 (mulS a b l).1, .bool (mulS a b l).2]) ∧ w = w' := by
  by_cases ha : a < 0
  · rw [mulS_neg (by omega)]
    go_enter Try.func32, Try.ntmps32
    go_wp2
    go_ret2
    exact ⟨rfl, rfl⟩
  by_cases hb : b < 0
  · rw [mulS_neg (by omega)]
    go_enter Try.func32, Try.ntmps32
    go_wp2
    go_ret2
    exact ⟨rfl, rfl⟩
  by_cases hl : l < 0
  · rw [mulS_neg (by omega)]
    go_enter Try.func32, Try.ntmps32
    go_wp2
    go_ret2
    exact ⟨rfl, rfl⟩
  by_cases hb0 : 0 < b
  · have hd := (div_bd (a := l) (b := b) (by omega) (by omega)).1
    by_cases hq : l / b < a
    · rw [mulS_big hb0 hq]
      go_enter Try.func32, Try.ntmps32
      go_wp2
      go_ret2
      exact ⟨rfl, rfl⟩
    · have hm := mul_le_of (a := a) (b := b) (l := l) (by omega) (by omega) (by omega) (by omega)
      obtain ⟨hm1, hm2⟩ := hm
      rw [mulS_ok (by omega) (by omega) (by omega) (by omega)]
      go_enter Try.func32, Try.ntmps32
      go_wp2
      go_ret2
      exact ⟨rfl, rfl⟩
  · have hm := mul_le_of (a := a) (b := b) (l := l) (by omega) (by omega) (by omega) (by omega)
    obtain ⟨hm1, hm2⟩ := hm
    rw [mulS_ok (by omega) (by omega) (by omega) (by omega)]
    go_enter Try.func32, Try.ntmps32
    go_wp2
    go_ret2
    exact ⟨rfl, rfl⟩

theorem ceil_any (a b : Int) (w : World) (ha1 : -9223372036854775808 ≤ a) (ha2 : a ≤ 9223372036854775807) (hb1 : -9223372036854775808 ≤ b) (hb2 : b ≤ 9223372036854775807) :
    Calls Try.prog 31 #[.int .i64 a, .int .i64 b] w fun e w' => e = .returned (.int .i64 (ceilS a b)) ∧ w = w' := by
  by_cases ha : a < 0
  · rw [ceilS_neg (by omega)]
    go_enter Try.func31, Try.ntmps31
    go_wp2
    go_ret
    exact ⟨rfl, rfl⟩
  by_cases hb : b < 1
  · rw [ceilS_neg (by omega)]
    go_enter Try.func31, Try.ntmps31
    go_wp2
    go_ret
    exact ⟨rfl, rfl⟩
  have hd := div_bd (a := a) (b := b) (by omega) (by omega)
  obtain ⟨hd1, hd2⟩ := hd
  have hr := Int.emod_nonneg a (by omega : b ≠ 0)
  by_cases h : a % b = 0
  · rw [ceilS_zero (by omega) (by omega) h]
    have hn : (a % b != 0) = false := by simp [h]
    have hg : ¬ 0 < a % b := by omega
    clear h
    go_enter Try.func31, Try.ntmps31
    go_wp2
    go_ret
    exact ⟨rfl, rfl⟩
  · have hs := div_succ_bd (a := a) (b := b) (by omega) (by omega) h
    rw [ceilS_more (by omega) (by omega) h]
    have hn : (a % b != 0) = true := by simp [h]
    have hg : 0 < a % b := by omega
    go_enter Try.func31, Try.ntmps31
    go_wp2
    go_ret
    exact ⟨rfl, rfl⟩

theorem rceil_any (a b : Int) (w : World) (ha1 : -9223372036854775808 ≤ a) (ha2 : a ≤ 9223372036854775807) (hb1 : -9223372036854775808 ≤ b) (hb2 : b ≤ 9223372036854775807) :
    Calls Try.prog 33 #[.int .i64 a, .int .i64 b] w fun e w' => e = .returned (.int .i64 (ceilS a b)) ∧ w = w' := by
  by_cases ha : a < 0
  · rw [ceilS_neg (by omega)]
    go_enter Try.func33, Try.ntmps33
    go_wp2
    go_ret
    exact ⟨rfl, rfl⟩
  by_cases hb : b < 1
  · rw [ceilS_neg (by omega)]
    go_enter Try.func33, Try.ntmps33
    go_wp2
    go_ret
    exact ⟨rfl, rfl⟩
  have hd := div_bd (a := a) (b := b) (by omega) (by omega)
  obtain ⟨hd1, hd2⟩ := hd
  have hr := Int.emod_nonneg a (by omega : b ≠ 0)
  by_cases h : a % b = 0
  · rw [ceilS_zero (by omega) (by omega) h]
    have hn : (a % b != 0) = false := by simp [h]
    have hg : ¬ 0 < a % b := by omega
    clear h
    go_enter Try.func33, Try.ntmps33
    go_wp2
    go_ret
    exact ⟨rfl, rfl⟩
  · have hs := div_succ_bd (a := a) (b := b) (by omega) (by omega) h
    rw [ceilS_more (by omega) (by omega) h]
    have hn : (a % b != 0) = true := by simp [h]
    have hg : 0 < a % b := by omega
    go_enter Try.func33, Try.ntmps33
    go_wp2
    go_ret
    exact ⟨rfl, rfl⟩

theorem align_any (a b l : Int) (w : World) (ha1 : -9223372036854775808 ≤ a) (ha2 : a ≤ 9223372036854775807) (hb1 : -9223372036854775808 ≤ b) (hb2 : b ≤ 9223372036854775807) (hl1 : -9223372036854775808 ≤ l) (hl2 : l ≤ 9223372036854775807) :
    Calls Try.prog 28 #[.int .i64 a, .int .i64 b, .int .i64 l] w fun e w' => e = .returned (.tuple #[.int .i64 (alignS a b l).1, .bool (alignS a b l).2]) ∧ w = w' := by
  unfold alignS
  by_cases ha : a < 0
  · rw [if_pos (by omega)]
    go_enter Try.func28, Try.ntmps28
    go_wp2
    go_ret2
    exact ⟨rfl, rfl⟩
  by_cases hb : b < 1
  · rw [if_pos (by omega)]
    go_enter Try.func28, Try.ntmps28
    go_wp2
    go_ret2
    exact ⟨rfl, rfl⟩
  rw [if_neg (by omega)]
  obtain ⟨hc1, hc2⟩ := ceilS_bd a b ha1 ha2
  go_enter Try.func28, Try.ntmps28
  go_wp2_with (first | (go_at_call 31; refine (ceil_any _ _ _ ha1 ha2 hb1 hb2).mono ?_; rintro e w' ⟨rfl, rfl⟩) | (go_at_call 30; refine (mul_any _ _ _ _ (by omega) (by omega) (by omega) (by omega) (by omega) (by omega)).mono ?_; rintro e w' ⟨rfl, rfl⟩))
  go_ret2
  exact ⟨rfl, rfl⟩

theorem ralign_any (a b l : Int) (w : World) (ha1 : -9223372036854775808 ≤ a) (ha2 : a ≤ 9223372036854775807) (hb1 : -9223372036854775808 ≤ b) (hb2 : b ≤ 9223372036854775807) (hl1 : -9223372036854775808 ≤ l) (hl2 : l ≤ 9223372036854775807) :
    Calls Try.prog 29 #[.int .i64 a, .int .i64 b, .int .i64 l] w fun e w' => e = .returned (.tuple #[.int .i64 (alignS a b l).1, .bool (alignS a b l).2]) ∧ w = w' := by
  unfold alignS
  by_cases ha : a < 0
  · rw [if_pos (by omega)]
    go_enter Try.func29, Try.ntmps29
    go_wp2
    go_ret2
    exact ⟨rfl, rfl⟩
  by_cases hb : b < 1
  · rw [if_pos (by omega)]
    go_enter Try.func29, Try.ntmps29
    go_wp2
    go_ret2
    exact ⟨rfl, rfl⟩
  rw [if_neg (by omega)]
  obtain ⟨hc1, hc2⟩ := ceilS_bd a b ha1 ha2
  go_enter Try.func29, Try.ntmps29
  go_wp2_with (first | (go_at_call 33; refine (rceil_any _ _ _ ha1 ha2 hb1 hb2).mono ?_; rintro e w' ⟨rfl, rfl⟩) | (go_at_call 32; refine (rmul_any _ _ _ _ (by omega) (by omega) (by omega) (by omega) (by omega) (by omega)).mono ?_; rintro e w' ⟨rfl, rfl⟩))
  go_ret2
  exact ⟨rfl, rfl⟩
end Go.Proofs.Ytkjipnafgojcgaa
