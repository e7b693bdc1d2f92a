/-
  Layer 1: extent.Sum and its reference compute sumS; what a list of four ints holds (near).
-/
import Derived.Test.YtjhnkghhagbghaaInts
import Derived.Test.YtjhnkghhagbghaaExtWalks
import Derived.Test.YtjhnkghhagbghaaMod
namespace Go.Proofs.Ytjhnkghhagbghaa
open Go.RowKit
set_option linter.unusedVariables false

def sumGo (l : Int) : Int → List Int → Int × Bool
  | s, [] => (s, true)
  | s, v :: r => if v < 0 ∨ l - s < v then (0, false) else sumGo l (s + v) r
def sumS (xs : List Int) (l : Int) : Int × Bool := if l < 0 then (0, false) else sumGo l 0 xs
theorem sumGo_bad {l s v : Int} {r : List Int} (h : v < 0 ∨ l - s < v) : sumGo l s (v :: r) = (0, false) := by rw [sumGo, if_pos h]
theorem sumGo_ok {l s v : Int} {r : List Int} (h : ¬ (v < 0 ∨ l - s < v)) : sumGo l s (v :: r) = sumGo l (s + v) r := by rw [sumGo, if_neg h]

theorem sum_any (A : Option Addr) (n c : Nat) (xs : List Int) (l : Int) (w : World) (B : Nat) (h : IntsAt w B A n xs) (hn : n ≤ 9223372036854775807) (hl1 : -9223372036854775808 ≤ l) (hl2 : l ≤ 9223372036854775807) :
    Calls Try.prog 13 #[.slice A n c, .int .i64 l] w fun e w' => e = .returned (.tuple #[.int .i64 (sumS xs l).1, .bool (sumS xs l).2]) ∧ w = w' := by
  unfold sumS
  by_cases hl0 : l < 0
  · rw [if_pos hl0]
    clear h
    go_enter Try.func13, Try.ntmps13
    go_wp2
    go_ret2
    exact ⟨rfl, rfl⟩
  rw [if_neg hl0]
  rcases Nat.eq_zero_or_pos n with hz | hpos
  · subst hz
    rw [h.nil_]
    clear h
    go_enter Try.func13, Try.ntmps13
    go_wp2
    go_rounds 1
    go_ret2
    exact ⟨rfl, rfl⟩
  obtain ⟨b, off, rfl, _, hc⟩ := h.open_ hpos
  have HL : Hid (xs.drop n = []) := by
    have := h.1
    show xs.drop n = []
    rw [List.drop_eq_nil_iff]; omega
  clear h
  have HC := hid hc
  clear hc
  go_enter Try.func13, Try.ntmps13
  go_wp2
  go_loop [6, 13] (fun s i => ∃ (k : Nat) (t : Int), k ≤ n ∧ i = .int .i64 k ∧ s = .int .i64 t ∧ 0 ≤ t ∧ t ≤ l ∧ sumGo l t (xs.drop k) = sumGo l 0 xs) (fun _ i => n - (intOf i).toNat)
  case atStart => exact ⟨0, 0, by omega, rfl, rfl, by omega, by omega, rfl⟩
  case round =>
    obtain ⟨k, t, hk, rfl, rfl, ht0, ht1, hs⟩ := hrel
    have HS := hid hs
    clear hs
    by_cases hlt : k < n
    · obtain ⟨v, hv, hd, hv1, hv2, hcell⟩ := HC.out k hlt
      have HD := hid hd
      clear hd hv
      by_cases hv0 : v < 0
      · go_wp2
        go_ret2
        rw [← HS.out, HD.out, sumGo_bad (by omega)]
        exact ⟨rfl, rfl⟩
      by_cases hvl : l - t < v
      · go_wp2
        go_ret2
        rw [← HS.out, HD.out, sumGo_bad (by omega)]
        exact ⟨rfl, rfl⟩
      · go_wp2
        go_round
        case rel => exact ⟨k + 1, t + v, by omega, by go_num, rfl, by omega, by omega, by rw [← HS.out, HD.out, sumGo_ok (by omega)]⟩
        case measure => simp [intOf]; omega
    · go_wp2
      go_ret2
      have : k = n := by omega
      subst this
      rw [← HS.out, HL.out]
      exact ⟨rfl, rfl⟩
theorem rsum_any (A : Option Addr) (n c : Nat) (xs : List Int) (l : Int) (w : World) (B : Nat) (h : IntsAt w B A n xs) (hn : n ≤ 9223372036854775807) (hl1 : -9223372036854775808 ≤ l) (hl2 : l ≤ 9223372036854775807) :
    Calls Try.prog 14 #[.slice A n c, .int .i64 l] w fun e w' => e = .returned (.tuple #[.int .i64 (sumS xs l).1, .bool (sumS xs l).2]) ∧ w = w' := by
  unfold sumS
  by_cases hl0 : l < 0
  · rw [if_pos hl0]
    clear h
    go_enter Try.func14, Try.ntmps14
    go_wp2
    go_ret2
    exact ⟨rfl, rfl⟩
  rw [if_neg hl0]
  rcases Nat.eq_zero_or_pos n with hz | hpos
  · subst hz
    rw [h.nil_]
    clear h
    go_enter Try.func14, Try.ntmps14
    go_wp2
    go_rounds 1
    go_ret2
    exact ⟨rfl, rfl⟩
  obtain ⟨b, off, rfl, _, hc⟩ := h.open_ hpos
  have HL : Hid (xs.drop n = []) := by
    have := h.1
    show xs.drop n = []
    rw [List.drop_eq_nil_iff]; omega
  clear h
  have HC := hid hc
  clear hc
  go_enter Try.func14, Try.ntmps14
  go_wp2
  go_loop [6, 7] (fun s i => ∃ (k : Nat) (t : Int), k ≤ n ∧ i = .int .i64 k ∧ s = .int .i64 t ∧ 0 ≤ t ∧ t ≤ l ∧ sumGo l t (xs.drop k) = sumGo l 0 xs) (fun _ i => n - (intOf i).toNat)
  case atStart => exact ⟨0, 0, by omega, rfl, rfl, by omega, by omega, rfl⟩
  case round =>
    obtain ⟨k, t, hk, rfl, rfl, ht0, ht1, hs⟩ := hrel
    have HS := hid hs
    clear hs
    by_cases hlt : k < n
    · obtain ⟨v, hv, hd, hv1, hv2, hcell⟩ := HC.out k hlt
      have HD := hid hd
      clear hd hv
      by_cases hv0 : v < 0
      · go_wp2
        go_ret2
        rw [← HS.out, HD.out, sumGo_bad (by omega)]
        exact ⟨rfl, rfl⟩
      by_cases hvl : l - t < v
      · go_wp2
        go_ret2
        rw [← HS.out, HD.out, sumGo_bad (by omega)]
        exact ⟨rfl, rfl⟩
      · go_wp2
        go_round
        case rel => exact ⟨k + 1, t + v, by omega, by go_num, rfl, by omega, by omega, by rw [← HS.out, HD.out, sumGo_ok (by omega)]⟩
        case measure => simp [intOf]; omega
    · go_wp2
      go_ret2
      have : k = n := by omega
      subst this
      rw [← HS.out, HL.out]
      exact ⟨rfl, rfl⟩

def nearBlk (v : Int) : Obj := .cells #[.int .i64 v, .int .i64 (v % 100), .int .i64 (v % 4294967296), .int .i64 (-1)] 3
theorem near_any (v : Int) (w : World) (hv1 : -9223372036854775808 ≤ v) (hv2 : v ≤ 9223372036854775807) :
    Calls Try.prog 8 #[.int .i64 v] w fun e w' => e = .returned (.slice (some ⟨w.heap.size, 0, none⟩) 4 4) ∧ w.alloc (nearBlk v) = w' := by
  go_enter Try.func8, Try.ntmps8
  go_wp2_with (go_at_call 12; refine (mod_any _ _ _ hv1 hv2 (by omega) (by omega)).mono ?_; rintro e w' ⟨rfl, rfl⟩)
  go_ret
  exact ⟨rfl, rfl⟩

theorem sane_any (w : World) : Calls Try.prog 11 #[] w fun e w' => e = .returned (.bool true) ∧ Below w.heap.size w w' := by
  go_enter Try.func11, Try.ntmps11
  go_wp2
  go_rounds 3
  go_ret
  exact ⟨rfl, by go_grown⟩
end Go.Proofs.Ytjhnkghhagbghaa
