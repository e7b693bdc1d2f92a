/-
  The law ExtentMul: the walk.
-/
import Derived.Test.YtjhnkghhagbghaaExtSum
import Derived.Test.YtjhnkghhagbghaaQuiet
import Derived.Outline
import Derived.Laws.Rows
namespace Go.Proofs.Ytjhnkghhagbghaa
open Go.RowKit
set_option linter.unusedVariables false

def FourAt (w : World) (g : Nat) : Prop := ∀ k, k < 4 → ∃ v, w.cell? ⟨g, k, none⟩ = some (.int .i64 v) ∧ -9223372036854775808 ≤ v ∧ v ≤ 9223372036854775807

theorem fourth (w : World) (v : Int) (h1 : -9223372036854775808 ≤ v) (h2 : v ≤ 9223372036854775807) : FourAt (w.alloc (nearBlk v)) w.heap.size := by
  intro k hk
  have hc := cell_of_row (w.alloc (nearBlk v)) w.heap.size k _ 3 (0, 0) (heap_alloc_new w (nearBlk v))
  have : k = 0 ∨ k = 1 ∨ k = 2 ∨ k = 3 := by omega
  rcases this with rfl | rfl | rfl | rfl
  · exact ⟨v, hc, by omega⟩
  · exact ⟨v % 100, hc, by omega⟩
  · exact ⟨v % 4294967296, hc, by omega⟩
  · exact ⟨-1, hc, by omega⟩
theorem FourAt.alloc {w : World} {g : Nat} (h : FourAt w g) (hg : g < w.heap.size) (o : Obj) : FourAt (w.alloc o) g := by
  intro k hk
  obtain ⟨v, hv, hr⟩ := h k hk
  exact ⟨v, by rw [World.cell?_alloc_lt _ _ _ hg]; exact hv, hr⟩

/-- Behind three calls of near: three lists of four. -/
theorem three (w : World) (a b l : Int) (ha1 : -9223372036854775808 ≤ a) (ha2 : a ≤ 9223372036854775807) (hb1 : -9223372036854775808 ≤ b) (hb2 : b ≤ 9223372036854775807) (hl1 : -9223372036854775808 ≤ l) (hl2 : l ≤ 9223372036854775807) :
    Hid (FourAt (((w.alloc (nearBlk a)).alloc (nearBlk b)).alloc (nearBlk l)) w.heap.size) ∧ Hid (FourAt (((w.alloc (nearBlk a)).alloc (nearBlk b)).alloc (nearBlk l)) (w.heap.size + 1)) ∧
    Hid (FourAt (((w.alloc (nearBlk a)).alloc (nearBlk b)).alloc (nearBlk l)) (w.heap.size + 1 + 1)) ∧ Hid (Below w.heap.size w (((w.alloc (nearBlk a)).alloc (nearBlk b)).alloc (nearBlk l))) := by
  have e1 : (w.alloc (nearBlk a)).heap.size = w.heap.size + 1 := by simp
  have e2 : ((w.alloc (nearBlk a)).alloc (nearBlk b)).heap.size = w.heap.size + 1 + 1 := by simp
  refine ⟨hid (((fourth w a ha1 ha2).alloc (by omega) _).alloc (by omega) _), hid ?_, hid ?_, hid ?_⟩
  · have h := (fourth (w.alloc (nearBlk a)) b hb1 hb2).alloc (by simp) (nearBlk l)
    rwa [e1] at h
  · have h := fourth ((w.alloc (nearBlk a)).alloc (nearBlk b)) l hl1 hl2
    rwa [e2] at h
  · exact (((Below.refl _ w).alloc (Nat.le_refl _) _).alloc (by omega) _).alloc (by omega) _

theorem mul_law (a : Int) (ha1 : -9223372036854775808 ≤ a) (ha2 : a ≤ 9223372036854775807) (b : Int) (hb1 : -9223372036854775808 ≤ b) (hb2 : b ≤ 9223372036854775807) (l : Int) (hl1 : -9223372036854775808 ≤ l) (hl2 : l ≤ 9223372036854775807) (w : World) :
    Calls Try.prog 3 #[.int .i64 a, .int .i64 b, .int .i64 l] w fun e w' => e = .returned (.bool true) ∧ Below w.heap.size w w' := by
  obtain ⟨HX, HY, HZ, HG⟩ := three w a b l ha1 ha2 hb1 hb2 hl1 hl2
  go_enter Try.func3, Try.ntmps3
  go_wp2_with (first | (go_at_call 8; refine (near_any _ _ (by omega) (by omega)).mono ?_; rintro e w' ⟨rfl, rfl⟩))
  generalize ((w.alloc (nearBlk a)).alloc (nearBlk b)).alloc (nearBlk l) = W3 at *
  go_loopw [10] (fun i wr => ∃ k m : Nat, k ≤ 4 ∧ i = .int .i64 k ∧ wr = W3.drewN m) (fun i _ => 4 - (intOf i).toNat)
  case atStart => exact ⟨0, 0, by omega, rfl, rfl⟩
  case round =>
    obtain ⟨i, m, hi, rfl, rfl⟩ := hrel
    by_cases hlt : i < 4
    · go_wp2
      go_loopw [11] (fun j wr => ∃ k m : Nat, k ≤ 4 ∧ j = .int .i64 k ∧ wr = W3.drewN m) (fun j _ => 4 - (intOf j).toNat)
      case atStart => exact ⟨0, m, by omega, rfl, rfl⟩
      case round =>
        obtain ⟨k, m, hk, rfl, rfl⟩ := hrel
        by_cases hlk : k < 4
        · obtain ⟨x, hx, hx1, hx2⟩ := HX.out i hlt
          obtain ⟨y, hy, hy1, hy2⟩ := HY.out k hlk
          obtain ⟨z, hz, hz1, hz2⟩ := HZ.out ((i + k) % 4) (by omega)
          go_wp2
          go_quiet ((go_at_call 9; exact quiet_add_left (mul_any _ _ _ _ hx1 hx2 hy1 hy2 hz1 hz2)))
          go_wp2
          go_quiet ((go_at_call 10; exact quiet_add_left (rmul_any _ _ _ _ hx1 hx2 hy1 hy2 hz1 hz2)))
          go_wp2
          go_roundw
          case rel => exact ⟨k + 1, _, by omega, by go_num, rfl⟩
          case measure => simp [intOf]; omega
        · go_wp2
          go_roundw
          case rel => exact ⟨i + 1, _, by omega, by go_num, rfl⟩
          case measure => simp [intOf]; omega
    · go_wp2_with (go_at_call 11; refine (sane_any _).mono ?_; rintro e w' ⟨rfl, hg⟩)
      go_ret
      exact ⟨rfl, below_join (below_drewN' HG.out _) hg⟩
end Go.Proofs.Ytjhnkghhagbghaa
