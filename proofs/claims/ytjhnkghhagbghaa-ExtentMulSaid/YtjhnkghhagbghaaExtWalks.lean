/-
  Layer 1: extent.Mul, Ceil, Align and their references compute mulS, ceilS, alignS.
-/
import Derived.Test.YtjhnkghhagbghaaExtNum
import Derived.Test.YtjhnkghhagbghaaProg
import Derived.Handy
namespace Go.Proofs.Ytjhnkghhagbghaa
open Go.RowKit
set_option linter.unusedVariables false

theorem mul_any (a b l : Int) (w : World) (ha1 : -9223372036854775808 ≤ a) (ha2 : a ≤ 9223372036854775807) (hb1 : -9223372036854775808 ≤ b) (hb2 : b ≤ 9223372036854775807) (hl1 : -9223372036854775808 ≤ l) (hl2 : l ≤ 9223372036854775807) :
    Calls Try.prog 9 #[.int .i64 a, .int .i64 b, .int .i64 l] w fun e w' => e = .returned (.tuple #[.int .i64 (mulS a b l).1, .bool (mulS a b l).2]) ∧ w = w' := by
  by_cases ha : a < 0
  · rw [mulS_neg (by omega)]
    go_enter Try.func9, Try.ntmps9
    go_wp2
    go_ret2
    exact ⟨rfl, rfl⟩
  by_cases hb : b < 0
  · rw [mulS_neg (by omega)]
    go_enter Try.func9, Try.ntmps9
    go_wp2
    go_ret2
    exact ⟨rfl, rfl⟩
  by_cases hl : l < 0
  · rw [mulS_neg (by omega)]
    go_enter Try.func9, Try.ntmps9
    go_wp2
    go_ret2
    exact ⟨rfl, rfl⟩
  by_cases hb0 : 0 < b
  · have hd := (div_bd (a := l) (b := b) (by omega) (by omega)).1
    by_cases hq : l / b < a
    · rw [mulS_big hb0 hq]
      go_enter Try.func9, Try.ntmps9
      go_wp2
      go_ret2
      exact ⟨rfl, rfl⟩
    · have hm := mul_le_of (a := a) (b := b) (l := l) (by omega) (by omega) (by omega) (by omega)
      obtain ⟨hm1, hm2⟩ := hm
      rw [mulS_ok (by omega) (by omega) (by omega) (by omega)]
      go_enter Try.func9, Try.ntmps9
      go_wp2
      go_ret2
      exact ⟨rfl, rfl⟩
  · have hm := mul_le_of (a := a) (b := b) (l := l) (by omega) (by omega) (by omega) (by omega)
    obtain ⟨hm1, hm2⟩ := hm
    rw [mulS_ok (by omega) (by omega) (by omega) (by omega)]
    go_enter Try.func9, Try.ntmps9
    go_wp2
    go_ret2
    exact ⟨rfl, rfl⟩

theorem rmul_any (a b l : Int) (w : World) (ha1 : -9223372036854775808 ≤ a) (ha2 : a ≤ 9223372036854775807) (hb1 : -9223372036854775808 ≤ b) (hb2 : b ≤ 9223372036854775807) (hl1 : -9223372036854775808 ≤ l) (hl2 : l ≤ 9223372036854775807) :
    Calls Try.prog 10 #[.int .i64 a, .int .i64 b, .int .i64 l] w fun e w' => e = .returned (.tuple #[.int .i64 (mulS a b l).1, .bool (mulS a b l).2]) ∧ w = w' := by
  by_cases ha : a < 0
  · rw [mulS_neg (by omega)]
    go_enter Try.func10, Try.ntmps10
    go_wp2
    go_ret2
    exact ⟨rfl, rfl⟩
  by_cases hb : b < 0
  · rw [mulS_neg (by omega)]
    go_enter Try.func10, Try.ntmps10
    go_wp2
    go_ret2
    exact ⟨rfl, rfl⟩
  by_cases hl : l < 0
  · rw [mulS_neg (by omega)]
    go_enter Try.func10, Try.ntmps10
    go_wp2
    go_ret2
    exact ⟨rfl, rfl⟩
  by_cases hb0 : 0 < b
  · have hd := (div_bd (a := l) (b := b) (by omega) (by omega)).1
    by_cases hq : l / b < a
    · rw [mulS_big hb0 hq]
      go_enter Try.func10, Try.ntmps10
      go_wp2
      go_ret2
      exact ⟨rfl, rfl⟩
    · have hm := mul_le_of (a := a) (b := b) (l := l) (by omega) (by omega) (by omega) (by omega)
      obtain ⟨hm1, hm2⟩ := hm
      rw [mulS_ok (by omega) (by omega) (by omega) (by omega)]
      go_enter Try.func10, Try.ntmps10
      go_wp2
      go_ret2
      exact ⟨rfl, rfl⟩
  · have hm := mul_le_of (a := a) (b := b) (l := l) (by omega) (by omega) (by omega) (by omega)
    obtain ⟨hm1, hm2⟩ := hm
    rw [mulS_ok (by omega) (by omega) (by omega) (by omega)]
    go_enter Try.func10, Try.ntmps10
    go_wp2
    go_ret2
    exact ⟨rfl, rfl⟩

theorem ceil_any (a b : Int) (w : World) (ha1 : -9223372036854775808 ≤ a) (ha2 : a ≤ 9223372036854775807) (hb1 : -9223372036854775808 ≤ b) (hb2 : b ≤ 9223372036854775807) :
    Calls Try.prog 17 #[.int .i64 a, .int .i64 b] w fun e w' => e = .returned (.int .i64 (ceilS a b)) ∧ w = w' := by
  by_cases ha : a < 0
  · rw [ceilS_neg (by omega)]
    go_enter Try.func17, Try.ntmps17
    go_wp2
    go_ret
    exact ⟨rfl, rfl⟩
  by_cases hb : b < 1
  · rw [ceilS_neg (by omega)]
    go_enter Try.func17, Try.ntmps17
    go_wp2
    go_ret
    exact ⟨rfl, rfl⟩
  have hd := div_bd (a := a) (b := b) (by omega) (by omega)
  obtain ⟨hd1, hd2⟩ := hd
  have hr := Int.emod_nonneg a (by omega : b ≠ 0)
  by_cases h : a % b = 0
  · rw [ceilS_zero (by omega) (by omega) h]
    have hn : (a % b != 0) = false := by simp [h]
    have hg : ¬ 0 < a % b := by omega
    clear h
    go_enter Try.func17, Try.ntmps17
    go_wp2
    go_ret
    exact ⟨rfl, rfl⟩
  · have hs := div_succ_bd (a := a) (b := b) (by omega) (by omega) h
    rw [ceilS_more (by omega) (by omega) h]
    have hn : (a % b != 0) = true := by simp [h]
    have hg : 0 < a % b := by omega
    go_enter Try.func17, Try.ntmps17
    go_wp2
    go_ret
    exact ⟨rfl, rfl⟩

theorem rceil_any (a b : Int) (w : World) (ha1 : -9223372036854775808 ≤ a) (ha2 : a ≤ 9223372036854775807) (hb1 : -9223372036854775808 ≤ b) (hb2 : b ≤ 9223372036854775807) :
    Calls Try.prog 18 #[.int .i64 a, .int .i64 b] w fun e w' => e = .returned (.int .i64 (ceilS a b)) ∧ w = w' := by
  by_cases ha : a < 0
  · rw [ceilS_neg (by omega)]
    go_enter Try.func18, Try.ntmps18
    go_wp2
    go_ret
    exact ⟨rfl, rfl⟩
  by_cases hb : b < 1
  · rw [ceilS_neg (by omega)]
    go_enter Try.func18, Try.ntmps18
    go_wp2
    go_ret
    exact ⟨rfl, rfl⟩
  have hd := div_bd (a := a) (b := b) (by omega) (by omega)
  obtain ⟨hd1, hd2⟩ := hd
  have hr := Int.emod_nonneg a (by omega : b ≠ 0)
  by_cases h : a % b = 0
  · rw [ceilS_zero (by omega) (by omega) h]
    have hn : (a % b != 0) = false := by simp [h]
    have hg : ¬ 0 < a % b := by omega
    clear h
    go_enter Try.func18, Try.ntmps18
    go_wp2
    go_ret
    exact ⟨rfl, rfl⟩
  · have hs := div_succ_bd (a := a) (b := b) (by omega) (by omega) h
    rw [ceilS_more (by omega) (by omega) h]
    have hn : (a % b != 0) = true := by simp [h]
    have hg : 0 < a % b := by omega
    go_enter Try.func18, Try.ntmps18
    go_wp2
    go_ret
    exact ⟨rfl, rfl⟩

theorem align_any (a b l : Int) (w : World) (ha1 : -9223372036854775808 ≤ a) (ha2 : a ≤ 9223372036854775807) (hb1 : -9223372036854775808 ≤ b) (hb2 : b ≤ 9223372036854775807) (hl1 : -9223372036854775808 ≤ l) (hl2 : l ≤ 9223372036854775807) :
    Calls Try.prog 15 #[.int .i64 a, .int .i64 b, .int .i64 l] w fun e w' => e = .returned (.tuple #[.int .i64 (alignS a b l).1, .bool (alignS a b l).2]) ∧ w = w' := by
  unfold alignS
  by_cases ha : a < 0
  · rw [if_pos (by omega)]
    go_enter Try.func15, Try.ntmps15
    go_wp2
    go_ret2
    exact ⟨rfl, rfl⟩
  by_cases hb : b < 1
  · rw [if_pos (by omega)]
    go_enter Try.func15, Try.ntmps15
    go_wp2
    go_ret2
    exact ⟨rfl, rfl⟩
  rw [if_neg (by omega)]
  obtain ⟨hc1, hc2⟩ := ceilS_bd a b ha1 ha2
  go_enter Try.func15, Try.ntmps15
  go_wp2_with (first | (go_at_call 17; refine (ceil_any _ _ _ ha1 ha2 hb1 hb2).mono ?_; rintro e w' ⟨rfl, rfl⟩) | (go_at_call 9; refine (mul_any _ _ _ _ (by omega) (by omega) (by omega) (by omega) (by omega) (by omega)).mono ?_; rintro e w' ⟨rfl, rfl⟩))
  go_ret2
  exact ⟨rfl, rfl⟩

theorem ralign_any (a b l : Int) (w : World) (ha1 : -9223372036854775808 ≤ a) (ha2 : a ≤ 9223372036854775807) (hb1 : -9223372036854775808 ≤ b) (hb2 : b ≤ 9223372036854775807) (hl1 : -9223372036854775808 ≤ l) (hl2 : l ≤ 9223372036854775807) :
    Calls Try.prog 16 #[.int .i64 a, .int .i64 b, .int .i64 l] w fun e w' => e = .returned (.tuple #[.int .i64 (alignS a b l).1, .bool (alignS a b l).2]) ∧ w = w' := by
  unfold alignS
  by_cases ha : a < 0
  · rw [if_pos (by omega)]
    go_enter Try.func16, Try.ntmps16
    go_wp2
    go_ret2
    exact ⟨rfl, rfl⟩
  by_cases hb : b < 1
  · rw [if_pos (by omega)]
    go_enter Try.func16, Try.ntmps16
    go_wp2
    go_ret2
    exact ⟨rfl, rfl⟩
  rw [if_neg (by omega)]
  obtain ⟨hc1, hc2⟩ := ceilS_bd a b ha1 ha2
  go_enter Try.func16, Try.ntmps16
  go_wp2_with (first | (go_at_call 18; refine (rceil_any _ _ _ ha1 ha2 hb1 hb2).mono ?_; rintro e w' ⟨rfl, rfl⟩) | (go_at_call 10; refine (rmul_any _ _ _ _ (by omega) (by omega) (by omega) (by omega) (by omega) (by omega)).mono ?_; rintro e w' ⟨rfl, rfl⟩))
  go_ret2
  exact ⟨rfl, rfl⟩
end Go.Proofs.Ytjhnkghhagbghaa
