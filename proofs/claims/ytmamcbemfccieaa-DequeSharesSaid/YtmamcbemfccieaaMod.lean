/-
  tilefarmgen.Mod: the remainder from 0 to n - 1.
-/
import Derived.Test.YtmamcbemfccieaaNum
import Derived.Test.YtmamcbemfccieaaProg
import Derived.Handy
namespace Go.Proofs.Ytmamcbemfccieaa
open Go.RowKit
set_option linter.unusedVariables false

theorem mod_pos (v n : Int) (w : World) (hv : 0 ≤ v) (hv2 : v ≤ 9223372036854775807) (hn : 0 < n) (hn2 : n ≤ 9223372036854775807) :
    Calls Try.prog 7 #[.int .i64 v, .int .i64 n] w fun e w' => e = .returned (.int .i64 (v % n)) ∧ w = w' := by
  have h0 := Int.emod_nonneg v (by omega : n ≠ 0)
  go_enter Try.func7, Try.ntmps7
  go_wp2
  go_ret
  exact ⟨rfl, rfl⟩
theorem mod_neg (v n : Int) (w : World) (hv : v < 0) (hv2 : -9223372036854775808 ≤ v) (hn : 0 < n) (hn2 : n ≤ 9223372036854775807) :
    Calls Try.prog 7 #[.int .i64 v, .int .i64 n] w fun e w' => e = .returned (.int .i64 (v % n)) ∧ w = w' := by
  have h1 := tmod_lo v n hn
  have h2 := tmod_hi v n hn hv
  have h3 := emod_of_tmod_lt v n hn hv
  have h4 := emod_of_tmod_ge v n hn hv
  have H3 := hid h3
  have H4 := hid h4
  clear h3 h4
  by_cases h : v.tmod n < 0
  · go_enter Try.func7, Try.ntmps7
    go_wp2
    go_ret
    exact ⟨ret_int (H3.out h), rfl⟩
  · go_enter Try.func7, Try.ntmps7
    go_wp2
    go_ret
    exact ⟨ret_int (H4.out h), rfl⟩
theorem mod_any (v n : Int) (w : World) (hv1 : -9223372036854775808 ≤ v) (hv2 : v ≤ 9223372036854775807) (hn : 0 < n) (hn2 : n ≤ 9223372036854775807) :
    Calls Try.prog 7 #[.int .i64 v, .int .i64 n] w fun e w' => e = .returned (.int .i64 (v % n)) ∧ w = w' := by
  rcases Int.lt_or_le v 0 with h | h
  · exact mod_neg v n w h hv1 hn hn2
  · exact mod_pos v n w h hv2 hn hn2
end Go.Proofs.Ytmamcbemfccieaa
