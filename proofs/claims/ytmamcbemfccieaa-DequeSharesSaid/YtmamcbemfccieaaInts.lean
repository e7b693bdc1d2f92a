/-
  A slice of ints in memory reads as a list; what stays so.
-/
import Derived.Test.YtmamcbemfccieaaNum
import Derived.Handy
import Derived.BigQuiet
import Derived.Deep.QuietTactic
namespace Go.Proofs.Ytmamcbemfccieaa
open Go.RowKit
set_option linter.unusedVariables false

/-- The slice value 'slice A n _' reads as the list xs of ints, and lies below block B. -/
def IntsAt (w : World) (B : Nat) (A : Option Addr) (n : Nat) (xs : List Int) : Prop :=
  xs.length = n ∧ (∀ x ∈ xs, -9223372036854775808 ≤ x ∧ x ≤ 9223372036854775807) ∧
    (0 < n → ∃ b off, A = some ⟨b, off, none⟩ ∧ b < B ∧ ∀ j v, xs[j]? = some v → w.cell? ⟨b, off + j, none⟩ = some (.int .i64 v))

theorem drop_cons_of {α : Type} {xs : List α} {k : Nat} {v : α} (h : xs[k]? = some v) : xs.drop k = v :: xs.drop (k + 1) := by
  obtain ⟨hk, rfl⟩ := List.getElem?_eq_some_iff.1 h
  exact List.drop_eq_getElem_cons hk

theorem IntsAt.open_ {w : World} {B : Nat} {A : Option Addr} {n : Nat} {xs : List Int} (h : IntsAt w B A n xs) (hn : 0 < n) :
    ∃ b off, A = some ⟨b, off, none⟩ ∧ b < B ∧ ∀ k, k < n → ∃ v, xs[k]? = some v ∧ xs.drop k = v :: xs.drop (k + 1) ∧ -9223372036854775808 ≤ v ∧ v ≤ 9223372036854775807 ∧ w.cell? ⟨b, off + k, none⟩ = some (.int .i64 v) := by
  obtain ⟨hl, hr, hc⟩ := h
  obtain ⟨b, off, rfl, hb, hcell⟩ := hc hn
  refine ⟨b, off, rfl, hb, fun k hk => ?_⟩
  have hg : xs[k]? = some xs[k] := List.getElem?_eq_getElem (by omega)
  have hm := hr xs[k] (List.getElem_mem (by omega))
  exact ⟨_, hg, drop_cons_of hg, hm.1, hm.2, hcell k _ hg⟩

theorem IntsAt.nil_ {w : World} {B : Nat} {A : Option Addr} {xs : List Int} (h : IntsAt w B A 0 xs) : xs = [] := List.eq_nil_of_length_eq_zero h.1

theorem IntsAt.keep {w w' : World} {B : Nat} {A : Option Addr} {n : Nat} {xs : List Int} (h : IntsAt w B A n xs) (hk : ∀ b o, b < B → w'.cell? ⟨b, o, none⟩ = w.cell? ⟨b, o, none⟩) : IntsAt w' B A n xs := by
  refine ⟨h.1, h.2.1, fun hn => ?_⟩
  obtain ⟨b, off, rfl, hb, hcell⟩ := h.2.2 hn
  exact ⟨b, off, rfl, hb, fun j v hv => (hk b _ hb).trans (hcell j v hv)⟩
theorem IntsAt.below {w w' : World} {B B' : Nat} {A : Option Addr} {n : Nat} {xs : List Int} (h : IntsAt w B A n xs) (hb : Below B' w w') (hB : B ≤ B') : IntsAt w' B A n xs :=
  h.keep fun b o hlt => hb.cell (p := ⟨b, o, none⟩) (Nat.lt_of_lt_of_le hlt hB)
theorem IntsAt.drew {w : World} {B : Nat} {A : Option Addr} {n : Nat} {xs : List Int} (h : IntsAt w B A n xs) : IntsAt w.drew B A n xs := h
theorem IntsAt.drewN {w : World} {B : Nat} {A : Option Addr} {n : Nat} {xs : List Int} (h : IntsAt w B A n xs) (k : Nat) : IntsAt (w.drewN k) B A n xs := h
theorem IntsAt.more {w : World} {B B' : Nat} {A : Option Addr} {n : Nat} {xs : List Int} (h : IntsAt w B A n xs) (hB : B ≤ B') : IntsAt w B' A n xs := by
  refine ⟨h.1, h.2.1, fun hn => ?_⟩
  obtain ⟨b, off, rfl, hb, hcell⟩ := h.2.2 hn
  exact ⟨b, off, rfl, by omega, hcell⟩
theorem IntsAt.set {w : World} {B b off n : Nat} {xs : List Int} {k : Nat} {p : Int} (h : IntsAt w B (some ⟨b, off, none⟩) n xs) (hk : k < n) (hp : -9223372036854775808 ≤ p ∧ p ≤ 9223372036854775807) :
    IntsAt (w.setCell ⟨b, off + k, none⟩ (.int .i64 p)) B (some ⟨b, off, none⟩) n (xs.set k p) := by
  have hl := h.1
  refine ⟨by simpa using hl, fun x hx => ?_, fun hn => ?_⟩
  · rcases List.mem_or_eq_of_mem_set hx with h1 | h1
    · exact h.2.1 x h1
    · subst h1; exact hp
  · obtain ⟨b', off', e, hb, hc⟩ := h.2.2 hn
    injection e with e
    injection e with e1 e2
    subst e1; subst e2
    refine ⟨b, off, rfl, hb, fun j v hv => ?_⟩
    by_cases hj : j = k
    · subst hj
      rw [List.getElem?_set_self (by omega)] at hv
      injection hv with hv
      subst hv
      exact World.cell?_setCell_same w _ _ (hc j xs[j] (List.getElem?_eq_getElem (by omega)))
    · rw [List.getElem?_set_ne (by omega)] at hv
      rw [World.cell?_setCell_other w _ _ _ (fun e => by injection e with e1 e2; omega)]
      exact hc j v hv
end Go.Proofs.Ytmamcbemfccieaa
