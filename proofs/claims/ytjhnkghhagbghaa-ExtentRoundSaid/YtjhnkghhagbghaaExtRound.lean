/-
  The law ExtentRound: the walk.
-/
import Derived.Test.YtjhnkghhagbghaaExtMul
namespace Go.Proofs.Ytjhnkghhagbghaa
open Go.RowKit
set_option linter.unusedVariables false

set_option maxRecDepth 100000 in
theorem round_law (a : Int) (ha1 : -9223372036854775808 ≤ a) (ha2 : a ≤ 9223372036854775807) (b : Int) (hb1 : -9223372036854775808 ≤ b) (hb2 : b ≤ 9223372036854775807) (l : Int) (hl1 : -9223372036854775808 ≤ l) (hl2 : l ≤ 9223372036854775807) (w : World) :
    Calls Try.prog 5 #[.int .i64 a, .int .i64 b, .int .i64 l] w fun e w' => e = .returned (.bool true) ∧ Below w.heap.size w w' := by
  obtain ⟨HX, HY, HZ, HG⟩ := three w a b l ha1 ha2 hb1 hb2 hl1 hl2
  go_enter Try.func5, Try.ntmps5
  go_wp2_with (first | (go_at_call 8; refine (near_any _ _ (by omega) (by omega)).mono ?_; rintro e w' ⟨rfl, rfl⟩))
  generalize ((w.alloc (nearBlk a)).alloc (nearBlk b)).alloc (nearBlk l) = W3 at *
  go_loopw [10] (fun i wr => ∃ k m : Nat, k ≤ 4 ∧ i = .int .i64 k ∧ wr = W3.drewN m) (fun i _ => 4 - (intOf i).toNat)
  case atStart => exact ⟨0, 0, by omega, rfl, rfl⟩
  case round =>
    obtain ⟨i, m, hi, rfl, rfl⟩ := hrel
    by_cases hlt : i < 4
    · go_wp2
      go_loopw [11] (fun j wr => ∃ k m : Nat, k ≤ 4 ∧ j = .int .i64 k ∧ wr = W3.drewN m) (fun j _ => 4 - (intOf j).toNat)
      case atStart => exact ⟨0, m, by omega, rfl, rfl⟩
      case round =>
        obtain ⟨k, m, hk, rfl, rfl⟩ := hrel
        by_cases hlk : k < 4
        · obtain ⟨x, hx, hx1, hx2⟩ := HX.out i hlt
          obtain ⟨y, hy, hy1, hy2⟩ := HY.out k hlk
          obtain ⟨z, hz, hz1, hz2⟩ := HZ.out ((i + k) % 4) (by omega)
          go_wp2
          go_quiet ((go_at_call 15; exact quiet_add_left (align_any _ _ _ _ hx1 hx2 hy1 hy2 hz1 hz2)))
          go_wp2
          go_quiet ((go_at_call 16; exact quiet_add_left (ralign_any _ _ _ _ hx1 hx2 hy1 hy2 hz1 hz2)))
          go_wp2
          go_quiet (((first | (go_at_call 17; exact quiet_add_left (ceil_any _ _ _ hx1 hx2 hy1 hy2)) | (go_at_call 18; exact quiet_add_left (rceil_any _ _ _ hx1 hx2 hy1 hy2)))))
          go_wp2
          go_roundw
          case rel => exact ⟨k + 1, _, by omega, by go_num, rfl⟩
          case measure => simp [intOf]; omega
        · go_wp2
          go_roundw
          case rel => exact ⟨i + 1, _, by omega, by go_num, rfl⟩
          case measure => simp [intOf]; omega
    · go_wp2_with (go_at_call 11; refine (sane_any _).mono ?_; rintro e w' ⟨rfl, hg⟩)
      go_ret
      exact ⟨rfl, below_join (below_drewN' HG.out _) hg⟩
end Go.Proofs.Ytjhnkghhagbghaa
