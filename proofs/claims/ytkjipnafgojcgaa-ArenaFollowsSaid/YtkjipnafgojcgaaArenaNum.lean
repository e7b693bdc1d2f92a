/-
  Layer 22, plain: what an arena's functions compute, and which part of memory they may turn.
-/
import Derived.Test.YtkjipnafgojcgaaExtNum
import Derived.Test.YtkjipnafgojcgaaTape
import Derived.OwnWalk
import Derived.Maps.AppendAt
namespace Go.Proofs.Ytkjipnafgojcgaa
open Go.RowKit
set_option linter.unusedVariables false

/-! ### The numbers -/
theorem ceil_mul {u m : Int} (hu : 0 ≤ u) (hm : 1 ≤ m) : 0 ≤ ceilS u m ∧ u ≤ ceilS u m * m ∧ ceilS u m * m - u < m ∧ (ceilS u m * m) % m = 0 := by
  have h1 := Int.mul_ediv_add_emod u m
  have h2 := Int.emod_nonneg u (by omega : m ≠ 0)
  have h3 := Int.emod_lt_of_pos u (by omega : 0 < m)
  have h4 : 0 ≤ u / m := Int.ediv_nonneg hu (by omega)
  have h5 : (ceilS u m * m) % m = 0 := Int.mul_emod_left _ _
  by_cases h : u % m = 0
  · rw [ceilS_zero hu hm h] at h5 ⊢
    have h6 : u / m * m = u := by rw [Int.mul_comm]; omega
    omega
  · rw [ceilS_more hu hm h] at h5 ⊢
    have h6 : (u / m + 1) * m = m * (u / m) + m := by rw [Int.add_mul, Int.mul_comm, Int.one_mul]
    omega
theorem align_ok {u m c q : Int} (hu : 0 ≤ u) (hm : 1 ≤ m) (hc : 0 ≤ c) (h : alignS u m c = (q, true)) : 0 ≤ q ∧ q ≤ c ∧ u ≤ q ∧ q % m = 0 ∧ q - u < m := by
  obtain ⟨h1, h2, h3, h4⟩ := ceil_mul hu hm
  unfold alignS at h
  rw [if_neg (by omega)] at h
  by_cases hb : 0 < m ∧ c / m < ceilS u m
  · rw [mulS_big hb.1 hb.2] at h
    simp at h
  · rw [mulS_ok h1 (by omega) hc hb] at h
    have h5 := mul_le_of h1 (by omega) hc hb
    have h6 : ceilS u m * m = q := by injection h
    rw [h6] at h2 h3 h4 h5
    omega

structure St where
  (c u h : Int) (ms : List Int)
def St.Ok (s : St) : Prop := 0 ≤ s.c ∧ s.c ≤ 1048576 ∧ 0 ≤ s.u ∧ s.u ≤ s.c ∧ 0 ≤ s.h ∧ s.h ≤ s.c ∧ (∀ x ∈ s.ms, 0 ≤ x ∧ x ≤ s.c) ∧ s.ms.length ≤ 1024
def allocS (s : St) (n m : Int) : Int × Int × St :=
  if n < 1 ∨ 1048576 < n ∨ m < 1 ∨ 4096 < m then (0, 2, s)
  else if (alignS s.u m s.c).2 = false ∨ s.c - (alignS s.u m s.c).1 < n then (0, 19, s)
  else ((alignS s.u m s.c).1, 0, ⟨s.c, (alignS s.u m s.c).1 + n, max s.h ((alignS s.u m s.c).1 + n), s.ms⟩)
theorem allocS_out {s : St} {n m : Int} (h : n < 1 ∨ 1048576 < n ∨ m < 1 ∨ 4096 < m) : allocS s n m = (0, 2, s) := by unfold allocS; rw [if_pos h]
theorem allocS_no {s : St} {n m q : Int} (h : ¬ (n < 1 ∨ 1048576 < n ∨ m < 1 ∨ 4096 < m)) (hq : alignS s.u m s.c = (q, false)) : allocS s n m = (0, 19, s) := by
  unfold allocS; rw [if_neg h, hq, if_pos (.inl rfl)]
theorem allocS_full {s : St} {n m q : Int} (h : ¬ (n < 1 ∨ 1048576 < n ∨ m < 1 ∨ 4096 < m)) (hq : alignS s.u m s.c = (q, true)) (hf : s.c - q < n) : allocS s n m = (0, 19, s) := by
  unfold allocS; rw [if_neg h, hq, if_pos (.inr hf)]
theorem allocS_yes {s : St} {n m q : Int} (h : ¬ (n < 1 ∨ 1048576 < n ∨ m < 1 ∨ 4096 < m)) (hq : alignS s.u m s.c = (q, true)) (hf : ¬ s.c - q < n) : allocS s n m = (q, 0, ⟨s.c, q + n, max s.h (q + n), s.ms⟩) := by
  unfold allocS; rw [if_neg h, hq, if_neg (fun e => e.elim (fun e => Bool.noConfusion e) hf)]
theorem allocS_ok {s : St} (hs : s.Ok) (n m : Int) : (allocS s n m).2.2.Ok := by
  by_cases h : n < 1 ∨ 1048576 < n ∨ m < 1 ∨ 4096 < m
  · rw [allocS_out h]; exact hs
  · obtain ⟨h1, h2, h3, h4, h5, h6, h7, h8⟩ := hs
    rcases hq : alignS s.u m s.c with ⟨q, ok⟩
    cases ok with
    | false => rw [allocS_no h hq]; exact ⟨h1, h2, h3, h4, h5, h6, h7, h8⟩
    | true =>
      by_cases hf : s.c - q < n
      · rw [allocS_full h hq hf]; exact ⟨h1, h2, h3, h4, h5, h6, h7, h8⟩
      · rw [allocS_yes h hq hf]
        obtain ⟨h9, h10, _⟩ := align_ok h3 (by omega) h1 hq
        exact ⟨h1, h2, by simp only; omega, by simp only; omega, by simp only; omega, by simp only; omega, h7, h8⟩
def markS (s : St) : Int × St := if 1024 ≤ s.ms.length then (19, s) else (0, ⟨s.c, s.u, s.h, s.ms ++ [s.u]⟩)
theorem markS_ok {s : St} (hs : s.Ok) : (markS s).2.Ok := by
  unfold markS
  split
  · exact hs
  · obtain ⟨h1, h2, h3, h4, h5, h6, h7, h8⟩ := hs
    refine ⟨h1, h2, h3, h4, h5, h6, ?_, ?_⟩
    · intro x hx
      rcases List.mem_append.1 hx with hx | hx
      · exact h7 x hx
      · rw [List.mem_singleton] at hx; subst hx; exact ⟨h3, h4⟩
    · simp only [List.length_append, List.length_singleton]; omega
def releaseS (s : St) : Int × St := if s.ms.length = 0 then (20, s) else (0, ⟨s.c, s.ms.getD (s.ms.length - 1) 0, s.h, s.ms.dropLast⟩)
theorem releaseS_ok {s : St} (hs : s.Ok) : (releaseS s).2.Ok := by
  unfold releaseS
  split
  · exact hs
  · rename_i hne
    obtain ⟨h1, h2, h3, h4, h5, h6, h7, h8⟩ := hs
    have hm : s.ms.getD (s.ms.length - 1) 0 ∈ s.ms := by
      rw [List.getD_eq_getElem?_getD, List.getElem?_eq_getElem (by omega)]
      exact List.getElem_mem _
    obtain ⟨h9, h10⟩ := h7 _ hm
    exact ⟨h1, h2, h9, h10, h5, h6, fun x hx => h7 x (List.dropLast_subset _ hx), by simp only [List.length_dropLast]; omega⟩
def resetS (s : St) : St := ⟨s.c, 0, s.h, []⟩
theorem resetS_ok {s : St} (hs : s.Ok) : (resetS s).Ok := by
  obtain ⟨h1, h2, h3, h4, h5, h6, h7, h8⟩ := hs
  exact ⟨h1, h2, Int.le_refl _, h1, h5, h6, fun x hx => by simp [resetS] at hx, by simp [resetS]⟩
def newS (c : Int) : Option St := if c < 0 ∨ 1048576 < c then none else some ⟨c, 0, 0, []⟩

/-! ### Footprints -/
structure Foot (S : Nat → Prop) (w w' : World) : Prop where
  os : w'.os = w.os
  tape : w'.tape = w.tape
  output : w'.output = w.output
  size : w.heap.size ≤ w'.heap.size
  block : ∀ k, k < w.heap.size → ¬ S k → w'.heap[k]? = w.heap[k]?
theorem Foot.refl (S : Nat → Prop) (w : World) : Foot S w w := ⟨rfl, rfl, rfl, Nat.le_refl _, fun _ _ _ => rfl⟩
theorem Foot.of {w w' : World} {row : Option Nat} (h : w.grownBy w' row) : Foot (fun i => some i = row) w w' := ⟨h.os, h.tape, h.output, h.size, h.block⟩
theorem Foot.mono {S S' : Nat → Prop} {w w' : World} (h : Foot S w w') (hs : ∀ i, i < w.heap.size → S i → S' i) : Foot S' w w' := ⟨h.os, h.tape, h.output, h.size, fun k hk hn => h.block k hk fun e => hn (hs k hk e)⟩
theorem Foot.after {S : Nat → Prop} {w w' : World} (h : Below w.heap.size w w') : Foot S w w' := ⟨h.os, h.tape, h.output, h.size, fun k hk _ => h.block k hk⟩
theorem Foot.below {S : Nat → Prop} {B : Nat} {a w w' : World} (h : Foot S w w') (hb : Below B a w) (hs : ∀ i, S i → B ≤ i) (hB : B ≤ a.heap.size) : Below B a w' :=
  ⟨h.os.trans hb.os, h.tape.trans hb.tape, h.output.trans hb.output, Nat.le_trans hb.size h.size, fun k hk => (h.block k (by have := hb.size; omega) fun e => by have := hs k e; omega).trans (hb.block k hk)⟩
theorem Foot.blk {S : Nat → Prop} {w w' : World} {g : Nat} {t : TypeId} {cs : Array Value} (h : Foot S w w') (hb : Blk w g t cs) (hg : ¬ S g) : Blk w' g t cs := (h.block g hb.lt hg).trans hb
theorem Foot.row {S : Nat → Prop} {w w' : World} {base : Nat} {e : TypeId} {size n : Nat} {v : Value} {xs : List Value} (h : Foot S w w') (ho : w.ownsRow base e size v n xs) (hg : ∀ g, v.ownBlock = some g → ¬ S g) : w'.ownsRow base e size v n xs := by
  refine ⟨ho.1, ?_⟩
  rcases ho.2 with h1 | ⟨g, cap, cur, rfl, hb, hgg, rest⟩
  · exact .inl h1
  · exact .inr ⟨g, cap, cur, rfl, hb, (h.blk (t := e) (cs := cur) hgg (hg g rfl) : _), rest⟩
theorem Foot.taped {S : Nat → Prop} {w w' : World} {B g : Nat} (h : Foot S w w') (ht : TapeAt B g w) (hg : ¬ S g) (hs : ∀ i, S i → B ≤ i) : TapeAt B g w' := by
  obtain ⟨hB, A, n, c, xs, k, hl, hk, hn, hi⟩ := ht
  refine ⟨hB, A, n, c, xs, k, h.blk hl hg, hk, hn, hi.keep fun b o hlt => ?_⟩
  exact World.cell?_of_block (h.block b (by have := hl.lt; omega) fun e => by have := hs b e; omega)
end Go.Proofs.Ytkjipnafgojcgaa
