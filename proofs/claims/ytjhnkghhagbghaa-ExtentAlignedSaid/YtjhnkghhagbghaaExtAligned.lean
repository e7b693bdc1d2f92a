/-
  The law ExtentAligned: the walk.
-/
import Derived.Test.YtjhnkghhagbghaaExtSum
import Derived.Test.YtjhnkghhagbghaaQuiet
import Derived.Outline
namespace Go.Proofs.Ytjhnkghhagbghaa
open Go.RowKit
set_option linter.unusedVariables false

theorem aligned_facts (x y : Int) (hx0 : 0 ≤ x) (hx1 : x < 1099511627776) (hy0 : 1 ≤ y) (hy1 : y ≤ 5000) :
    alignS x y 1125899906842624 = (ceilS x y * y, true) ∧ (ceilS x y * y) % y = 0 ∧ x ≤ ceilS x y * y ∧ ceilS x y * y - x < y ∧ 0 ≤ ceilS x y ∧ ceilS x y ≤ x := by
  have h2 := Int.mul_ediv_add_emod x y
  have h3 := Int.emod_nonneg x (by omega : y ≠ 0)
  have h4 := Int.emod_lt_of_pos x (by omega : 0 < y)
  have key : x ≤ ceilS x y * y ∧ ceilS x y * y - x < y ∧ 0 ≤ ceilS x y ∧ ceilS x y ≤ x := by
    have hd := div_bd (a := x) (b := y) hx0 hy0
    by_cases hr : x % y = 0
    · rw [ceilS_zero hx0 hy0 hr, Int.mul_comm]
      omega
    · have hs := div_succ_bd (a := x) (b := y) hx0 hy0 hr
      rw [ceilS_more hx0 hy0 hr, Int.add_mul, Int.one_mul, Int.mul_comm (x / y) y]
      omega
  refine ⟨?_, Int.mul_emod_left _ _, key.1, key.2.1, key.2.2.1, key.2.2.2⟩
  unfold alignS
  rw [if_neg (by omega), mulS_ok key.2.2.1 (by omega) (by omega)]
  have h5 : ceilS x y ≤ 1125899906842624 / y := (Int.le_ediv_iff_mul_le (by omega)).2 (by omega)
  omega

theorem aligned_law (n : Int) (hn1 : -9223372036854775808 ≤ n) (hn2 : n ≤ 9223372036854775807) (k : Int) (hk1 : -9223372036854775808 ≤ k) (hk2 : k ≤ 9223372036854775807) (w : World) :
    Calls Try.prog 7 #[.int .i64 n, .int .i64 k] w fun e w' => e = .returned (.bool true) ∧ Below w.heap.size w w' := by
  have cx := fun w => mod_any n 1099511627776 w hn1 hn2 (by omega) (by omega)
  have cy := fun w => mod_any k 5000 w hk1 hk2 (by omega) (by omega)
  have hx0 : 0 ≤ n % 1099511627776 := by omega
  have hx1 : n % 1099511627776 < 1099511627776 := by omega
  have hy0 : 0 ≤ k % 5000 := by omega
  have hy1 : k % 5000 < 5000 := by omega
  generalize n % 1099511627776 = x at *
  generalize k % 5000 = y at *
  obtain ⟨f1, f2, f3, f4, f5, f6⟩ := aligned_facts x (1 + y) hx0 hx1 (by omega) (by omega)
  have ca := fun w => align_any x (1 + y) 1125899906842624 w (by omega) (by omega) (by omega) (by omega) (by omega) (by omega)
  have cc := fun w => ceil_any x (1 + y) w (by omega) (by omega) (by omega) (by omega)
  rw [f1] at ca
  generalize ceilS x (1 + y) = c at *
  generalize hm : c * (1 + y) = m at *
  have CX := hid cx
  have CY := hid cy
  have CA := hid ca
  have CC := hid cc
  have t1 : (m % (1 + y) == 0) = true := by rw [f2]; rfl
  have t2 : (c * (1 + y) == m) = true := by rw [hm]; simp
  have b1 : 0 ≤ c * (1 + y) := by omega
  have b2 : c * (1 + y) ≤ 1099511632776 := by omega
  clear cx cy ca cc f1 f2 hm
  go_enter Try.func7, Try.ntmps7
  go_wp2_with fail
  refine (CX.out _).mono ?_; rintro e w' ⟨rfl, rfl⟩
  go_wp2_with fail
  refine (CY.out _).mono ?_; rintro e w' ⟨rfl, rfl⟩
  go_wp2_with fail
  refine (CA.out _).mono ?_; rintro e w' ⟨rfl, rfl⟩
  go_wp2_with fail
  refine (CC.out _).mono ?_; rintro e w' ⟨rfl, rfl⟩
  go_wp2_with (go_at_call 11; refine (sane_any _).mono ?_; rintro e w' ⟨rfl, hg⟩)
  go_ret
  exact ⟨rfl, hg⟩
end Go.Proofs.Ytjhnkghhagbghaa
