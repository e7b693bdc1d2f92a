/-
  The law ExtentExact: the walk.
-/
import Derived.Test.YtjhnkghhagbghaaExtSum
import Derived.Test.YtjhnkghhagbghaaQuiet
import Derived.Laws.Rows
namespace Go.Proofs.Ytjhnkghhagbghaa
open Go.RowKit
set_option linter.unusedVariables false

theorem ints_new2 (w : World) (a b : Int) (t : TypeId) (ha1 : -9223372036854775808 ≤ a) (ha2 : a ≤ 9223372036854775807) (hb1 : -9223372036854775808 ≤ b) (hb2 : b ≤ 9223372036854775807) :
    IntsAt (w.alloc (.cells #[.int .i64 a, .int .i64 b] t)) (w.heap.size + 1) (some ⟨w.heap.size, 0, none⟩) 2 [a, b] := by
  refine ⟨rfl, fun x hx => ?_, fun _ => ⟨_, _, rfl, by omega, fun j v hv => ?_⟩⟩
  · simp at hx; rcases hx with rfl | rfl <;> omega
  · have hc := cell_of_row (w.alloc (.cells #[.int .i64 a, .int .i64 b] t)) w.heap.size j _ t (0, 0) (heap_alloc_new w _)
    match j, hv with
    | 0, hv => simp at hv; subst hv; exact hc
    | 1, hv => simp at hv; subst hv; exact hc

theorem sum2_ok (n y : Int) (hn0 : 0 ≤ n) (hy0 : 0 ≤ y) (h : n + y ≤ 4611686018427387904) : sumS [n, y] 4611686018427387904 = (n + y, true) := by
  unfold sumS
  rw [if_neg (by omega), sumGo_ok (by omega), sumGo_ok (by omega), Int.zero_add]
  rfl
theorem sum2_no (n y : Int) (hn0 : 0 ≤ n) (hn1 : n ≤ 4611686018427387904) (hy0 : 0 ≤ y) (h : ¬ n + y ≤ 4611686018427387904) : sumS [n, y] 4611686018427387904 = (0, false) := by
  unfold sumS
  rw [if_neg (by omega), sumGo_ok (by omega), sumGo_bad (by omega)]

/-- Behind the three products: an accepted one. -/
theorem exact_yes (x y z q : Int) (hx0 : 0 ≤ x) (hx1 : x < 1099511627776) (hy0 : 0 ≤ y) (hy1 : y < 1073741824) (hz0 : 0 ≤ z) (hq0 : 0 ≤ q) (h : ¬ (0 < y ∧ z / y < x)) :
    mulS x y z = (x * y, true) ∧ mulS y x z = (x * y, true) ∧ mulS x y (z + q) = (x * y, true) ∧ 0 ≤ x * y ∧ x * y ≤ z ∧ (0 < y → (x * y) / y = x) ∧ (0 < y → (x * y) % y = 0) := by
  obtain ⟨m0, m1⟩ := mul_le_of hx0 hy0 hz0 h
  refine ⟨mulS_ok hx0 hy0 hz0 h, ?_, ?_, m0, m1, fun hy => Int.mul_ediv_cancel _ (by omega), fun hy => Int.mul_emod_left _ _⟩
  · rw [mulS_ok hy0 hx0 hz0, Int.mul_comm]
    rintro ⟨h1, h2⟩
    have : y ≤ z / x := (Int.le_ediv_iff_mul_le h1).2 (by rw [Int.mul_comm]; exact m1)
    omega
  · rw [mulS_ok hx0 hy0 (by omega)]
    rintro ⟨h1, h2⟩
    have : x ≤ (z + q) / y := (Int.le_ediv_iff_mul_le h1).2 (by omega)
    omega
theorem exact_no (x y z : Int) (hx0 : 0 ≤ x) (hy0 : 0 ≤ y) (hz0 : 0 ≤ z) (h : 0 < y ∧ z / y < x) : mulS x y z = (0, false) ∧ mulS y x z = (0, false) := by
  refine ⟨mulS_big h.1 h.2, ?_⟩
  have h2 : z < x * y := (Int.ediv_lt_iff_lt_mul h.1).1 h.2
  have hx : 0 < x := by
    rcases Int.lt_or_le 0 x with h3 | h3
    · exact h3
    · have : x = 0 := by omega
      subst this
      omega
  exact mulS_big hx ((Int.ediv_lt_iff_lt_mul hx).2 (by rw [Int.mul_comm]; exact h2))

set_option maxHeartbeats 800000 in
theorem exact_law (a : Int) (ha1 : -9223372036854775808 ≤ a) (ha2 : a ≤ 9223372036854775807) (b : Int) (hb1 : -9223372036854775808 ≤ b) (hb2 : b ≤ 9223372036854775807) (l : Int) (hl1 : -9223372036854775808 ≤ l) (hl2 : l ≤ 9223372036854775807) (r : Int) (hr1 : -9223372036854775808 ≤ r) (hr2 : r ≤ 9223372036854775807) (w : World) :
    Calls Try.prog 6 #[.int .i64 a, .int .i64 b, .int .i64 l, .int .i64 r] w fun e w' => e = .returned (.bool true) ∧ Below w.heap.size w w' := by
  have cx := fun w => mod_any a 1099511627776 w ha1 ha2 (by omega) (by omega)
  have cy := fun w => mod_any b 1073741824 w hb1 hb2 (by omega) (by omega)
  have cz := fun w => mod_any l 4611686018427387904 w hl1 hl2 (by omega) (by omega)
  have cq := fun w => mod_any r 2305843009213693952 w hr1 hr2 (by omega) (by omega)
  have hx0 : 0 ≤ a % 1099511627776 := by omega
  have hx1 : a % 1099511627776 < 1099511627776 := by omega
  have hy0 : 0 ≤ b % 1073741824 := by omega
  have hy1 : b % 1073741824 < 1073741824 := by omega
  have hz0 : 0 ≤ l % 4611686018427387904 := by omega
  have hz1 : l % 4611686018427387904 < 4611686018427387904 := by omega
  have hq0 : 0 ≤ r % 2305843009213693952 := by omega
  have hq1 : r % 2305843009213693952 < 2305843009213693952 := by omega
  generalize a % 1099511627776 = x at *
  generalize b % 1073741824 = y at *
  generalize l % 4611686018427387904 = z at *
  generalize r % 2305843009213693952 = q at *
  have c1 := fun w => mul_any x y z w (by omega) (by omega) (by omega) (by omega) (by omega) (by omega)
  have c2 := fun w => mul_any y x z w (by omega) (by omega) (by omega) (by omega) (by omega) (by omega)
  have c3 := fun w => mul_any x y (z + q) w (by omega) (by omega) (by omega) (by omega) (by omega) (by omega)
  have CX := hid cx
  have CY := hid cy
  have CZ := hid cz
  have CQ := hid cq
  clear cx cy cz cq
  by_cases h : 0 < y ∧ z / y < x
  · obtain ⟨e1, e2⟩ := exact_no x y z hx0 hy0 hz0 h
    rw [e1] at c1
    rw [e2] at c2
    have C1 := hid c1
    have C2 := hid c2
    have C3 := hid c3
    have c4 := fun w => sum_any _ 2 2 _ 4611686018427387904 _ _ (ints_new2 w 0 y 3 (by omega) (by omega) (by omega) (by omega)) (by omega) (by omega) (by omega)
    rw [sum2_ok 0 y (by omega) hy0 (by omega)] at c4
    have C4 := hid c4
    clear c1 c2 c3 c4 e1 e2 h
    generalize mulS x y (z + q) = P at *
    go_enter Try.func6, Try.ntmps6
    go_wp2_with fail
    refine (CX.out _).mono ?_; rintro e w' ⟨rfl, rfl⟩
    go_wp2_with fail
    refine (CY.out _).mono ?_; rintro e w' ⟨rfl, rfl⟩
    go_wp2_with fail
    refine (CZ.out _).mono ?_; rintro e w' ⟨rfl, rfl⟩
    go_wp2_with fail
    refine (C1.out _).mono ?_; rintro e w' ⟨rfl, rfl⟩
    go_wp2_with fail
    refine (C2.out _).mono ?_; rintro e w' ⟨rfl, rfl⟩
    go_wp2_with fail
    refine (CQ.out _).mono ?_; rintro e w' ⟨rfl, rfl⟩
    go_wp2_with fail
    refine (C3.out _).mono ?_; rintro e w' ⟨rfl, rfl⟩
    go_wp2_with fail
    refine (C4.out _).mono ?_; rintro e w' ⟨rfl, rfl⟩
    go_wp2_with (go_at_call 11; refine (sane_any _).mono ?_; rintro e w' ⟨rfl, hg⟩)
    go_ret
    exact ⟨rfl, below_join ((Below.refl _ _).alloc (Nat.le_refl _) _) hg⟩
  · obtain ⟨e1, e2, e3, m0, m1, t1, t2⟩ := exact_yes x y z q hx0 hx1 hy0 hy1 hz0 hq0 h
    rw [e1] at c1
    rw [e2] at c2
    rw [e3] at c3
    have C1 := hid c1
    have C2 := hid c2
    have C3 := hid c3
    clear c1 c2 c3 e1 e2 e3 h
    generalize x * y = n at *
    have c4 := fun w => sum_any _ 2 2 _ 4611686018427387904 _ _ (ints_new2 w n y 3 (by omega) (by omega) (by omega) (by omega)) (by omega) (by omega) (by omega)
    by_cases hy : 0 < y
    · have d1 : (n / y != x) = false := by rw [t1 hy]; simp
      have d2 : (n % y != 0) = false := by rw [t2 hy]; rfl
      clear t1 t2
      by_cases hs : n + y ≤ 4611686018427387904
      · rw [sum2_ok n y m0 hy0 hs] at c4
        have C4 := hid c4
        clear c4
        have d3 : (n + y - y == n) = true := by simp
        go_enter Try.func6, Try.ntmps6
        go_wp2_with fail
        refine (CX.out _).mono ?_; rintro e w' ⟨rfl, rfl⟩
        go_wp2_with fail
        refine (CY.out _).mono ?_; rintro e w' ⟨rfl, rfl⟩
        go_wp2_with fail
        refine (CZ.out _).mono ?_; rintro e w' ⟨rfl, rfl⟩
        go_wp2_with fail
        refine (C1.out _).mono ?_; rintro e w' ⟨rfl, rfl⟩
        go_wp2_with fail
        refine (C2.out _).mono ?_; rintro e w' ⟨rfl, rfl⟩
        go_wp2_with fail
        refine (CQ.out _).mono ?_; rintro e w' ⟨rfl, rfl⟩
        go_wp2_with fail
        refine (C3.out _).mono ?_; rintro e w' ⟨rfl, rfl⟩
        go_wp2_with fail
        refine (C4.out _).mono ?_; rintro e w' ⟨rfl, rfl⟩
        go_wp2_with (go_at_call 11; refine (sane_any _).mono ?_; rintro e w' ⟨rfl, hg⟩)
        go_ret
        exact ⟨rfl, below_join ((Below.refl _ _).alloc (Nat.le_refl _) _) hg⟩
      · rw [sum2_no n y m0 (by omega) hy0 hs] at c4
        have C4 := hid c4
        clear c4
        go_enter Try.func6, Try.ntmps6
        go_wp2_with fail
        refine (CX.out _).mono ?_; rintro e w' ⟨rfl, rfl⟩
        go_wp2_with fail
        refine (CY.out _).mono ?_; rintro e w' ⟨rfl, rfl⟩
        go_wp2_with fail
        refine (CZ.out _).mono ?_; rintro e w' ⟨rfl, rfl⟩
        go_wp2_with fail
        refine (C1.out _).mono ?_; rintro e w' ⟨rfl, rfl⟩
        go_wp2_with fail
        refine (C2.out _).mono ?_; rintro e w' ⟨rfl, rfl⟩
        go_wp2_with fail
        refine (CQ.out _).mono ?_; rintro e w' ⟨rfl, rfl⟩
        go_wp2_with fail
        refine (C3.out _).mono ?_; rintro e w' ⟨rfl, rfl⟩
        go_wp2_with fail
        refine (C4.out _).mono ?_; rintro e w' ⟨rfl, rfl⟩
        go_wp2_with (go_at_call 11; refine (sane_any _).mono ?_; rintro e w' ⟨rfl, hg⟩)
        go_ret
        exact ⟨rfl, below_join ((Below.refl _ _).alloc (Nat.le_refl _) _) hg⟩
    · rw [sum2_ok n y m0 hy0 (by omega)] at c4
      have C4 := hid c4
      clear c4 t1 t2
      have d3 : (n + y - y == n) = true := by simp
      go_enter Try.func6, Try.ntmps6
      go_wp2_with fail
      refine (CX.out _).mono ?_; rintro e w' ⟨rfl, rfl⟩
      go_wp2_with fail
      refine (CY.out _).mono ?_; rintro e w' ⟨rfl, rfl⟩
      go_wp2_with fail
      refine (CZ.out _).mono ?_; rintro e w' ⟨rfl, rfl⟩
      go_wp2_with fail
      refine (C1.out _).mono ?_; rintro e w' ⟨rfl, rfl⟩
      go_wp2_with fail
      refine (C2.out _).mono ?_; rintro e w' ⟨rfl, rfl⟩
      go_wp2_with fail
      refine (CQ.out _).mono ?_; rintro e w' ⟨rfl, rfl⟩
      go_wp2_with fail
      refine (C3.out _).mono ?_; rintro e w' ⟨rfl, rfl⟩
      go_wp2_with fail
      refine (C4.out _).mono ?_; rintro e w' ⟨rfl, rfl⟩
      go_wp2_with (go_at_call 11; refine (sane_any _).mono ?_; rintro e w' ⟨rfl, hg⟩)
      go_ret
      exact ⟨rfl, below_join ((Below.refl _ _).alloc (Nat.le_refl _) _) hg⟩
end Go.Proofs.Ytjhnkghhagbghaa
