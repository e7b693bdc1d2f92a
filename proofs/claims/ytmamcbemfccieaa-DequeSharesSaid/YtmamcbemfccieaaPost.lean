/-
  How the row's arguments are opened: a slice of ints that came in.
-/
import Derived.Test.YtmamcbemfccieaaInts
import Derived.ProofKit
import Derived.OpenShut
import Derived.Carry
namespace Go.Proofs.Ytmamcbemfccieaa
open Go.ChangeShapes Go.WideShapes Go.ChangeAt Go.RowKit
set_option linter.unusedVariables false

theorem ints_arg {H : Type} {enc : TypeId × Value → H} {P : Program} {W : World} {t e : TypeId} {a0 : Option Addr} {len cap : Nat} {d : DataW H} {p : List MemPlace}
    (ht : P.underlying t = some (.slice e)) (he : P.underlying e = some (.int .i64)) (hC : P.cellsOf e = 1) (h : DataW.Trod enc P W 0 (fun _ => true) true t (.slice a0 len cap) d p) (hlt : ∀ x ∈ p, x.block < W.heap.size) :
    ∃ xs, IntsAt W W.heap.size a0 len xs ∧ len ≤ 9223372036854775807 := by
  obtain ⟨fuel, hf⟩ := h
  rcases open_ints ht he hC hf with ⟨hcs, hx⟩ | ⟨a, len', cap', zs, hcs, _, hl, hm, hz, hx, hcell, hwz⟩
  · simp [Value.cells] at hcs
    obtain ⟨rfl, rfl, rfl⟩ := hcs
    exact ⟨[], ⟨rfl, by simp, by omega⟩, by omega⟩
  · simp [Value.cells] at hcs
    obtain ⟨rfl, rfl, rfl⟩ := hcs
    simp only [Prod.mk.injEq] at hx
    obtain ⟨rfl, rfl⟩ := hx
    simp only [if_true] at hz
    refine ⟨zs.take len, ⟨by simp; omega, fun x hx => i64_of_wf (hwz x (List.mem_of_mem_take hx)), fun hn => ?_⟩, by unfold maxLen at hm; omega⟩
    obtain ⟨b, off, spot⟩ := a
    have hspot : spot = none := by simpa [Addr.add] using World.cell?_spot (hcell 0 (by omega))
    subst hspot
    refine ⟨b, off, rfl, hlt (.cell b off) (MemPlace.mem_row.2 ⟨0, by omega, by simp⟩), fun j v hv => ?_⟩
    have hj : j < zs.length := by
      obtain ⟨h1, _⟩ := List.getElem?_eq_some_iff.1 hv
      simp at h1; omega
    have hjl : j < len := by
      obtain ⟨h1, _⟩ := List.getElem?_eq_some_iff.1 hv
      simp at h1; omega
    have hc := hcell j hj
    rw [add_plain] at hc
    rw [hc]
    have : zs.getD j 0 = v := by
      rw [List.getElem?_take_of_lt hjl] at hv
      simp [List.getD, hv]
    rw [this]
end Go.Proofs.Ytmamcbemfccieaa
