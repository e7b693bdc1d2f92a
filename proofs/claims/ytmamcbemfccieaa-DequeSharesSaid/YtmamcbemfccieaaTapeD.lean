/-
  The tape: New, Next, Left.
-/
import Derived.Test.YtmamcbemfccieaaMod
import Derived.Test.YtmamcbemfccieaaInts
import Derived.Test.YtmamcbemfccieaaMem
import Derived.Outline
namespace Go.Proofs.Ytmamcbemfccieaa
open Go.RowKit
set_option linter.unusedVariables false

/-- Block g is a tape over ints that lie below block B, with 'at' of them read. -/
def TapeAt (B g : Nat) (w : World) : Prop :=
  B ≤ g ∧ ∃ (A : Option Addr) (n c : Nat) (xs : List Int) (k : Nat), Blk w g 48 #[.slice A n c, .int .i64 (k : Int)] ∧ k ≤ n ∧ n ≤ 9223372036854775807 ∧ IntsAt w B A n xs

theorem TapeAt.lt {B g : Nat} {w : World} (h : TapeAt B g w) : g < w.heap.size := by
  obtain ⟨_, A, n, c, xs, k, hb, _⟩ := h
  exact hb.lt
theorem TapeAt.drewN {B g : Nat} {w : World} (h : TapeAt B g w) (m : Nat) : TapeAt B g (w.drewN m) := h
theorem TapeAt.drew {B g : Nat} {w : World} (h : TapeAt B g w) : TapeAt B g w.drew := h
theorem TapeAt.kept {B g : Nat} {w w' : World} {row : Option Nat} (h : TapeAt B g w) (hg : w.grownBy w' row) (hr : ∀ x, row = some x → g < x) : TapeAt B g w' := by
  obtain ⟨hB, A, n, c, xs, k, hb, hk, hn, hi⟩ := h
  refine ⟨hB, A, n, c, xs, k, hb.grown hg (fun e => by have := hr g e.symm; omega), hk, hn, hi.keep fun b o hlt => ?_⟩
  exact World.cell?_of_block (hg.block b (by have := hb.lt; omega) (fun e => by have := hr b e.symm; omega))
theorem TapeAt.below {B g : Nat} {w w' : World} (h : TapeAt B g w) (hb : Below w.heap.size w w') : TapeAt B g w' := by
  obtain ⟨hB, A, n, c, xs, k, hl, hk, hn, hi⟩ := h
  exact ⟨hB, A, n, c, xs, k, hl.after hb, hk, hn, hi.below hb (by have := hl.lt; omega)⟩
theorem TapeAt.alloc {B g : Nat} {w : World} (h : TapeAt B g w) (o : Obj) : TapeAt B g (w.alloc o) := h.below ((Below.refl _ _).alloc (Nat.le_refl _) _)
theorem TapeAt.far {B g : Nat} {w : World} (h : TapeAt B g w) {p : Addr} (hp : g < p.block) (u : Value) : TapeAt B g (w.setCell p u) := by
  obtain ⟨hB, A, n, c, xs, k, hl, hk, hn, hi⟩ := h
  refine ⟨hB, A, n, c, xs, k, hl.far (by omega) u, hk, hn, hi.keep fun b o hlt => ?_⟩
  exact World.cell?_setCell_other w p ⟨b, o, none⟩ u (fun e => by subst e; simp at hp; omega)

/-- What a choice below n is: a number, the tape, nothing else turned. -/
def Chose (B g : Nat) (n : Int) (w : World) (e : Ending) (w' : World) : Prop :=
  ∃ r : Int, 0 ≤ r ∧ (r < n ∨ r = 0) ∧ e = .returned (.int .i64 r) ∧ TapeAt B g w' ∧ w.grownBy w' (some g)

theorem new_any (A : Option Addr) (n c : Nat) (w : World) :
    Calls Try.prog 6 #[.slice A n c] w fun e w' => e = .returned (.pointer (some ⟨w.heap.size, 0, none⟩)) ∧ w.alloc (.cells #[.slice A n c, .int .i64 0] 48) = w' := by
  go_enter Try.func6, Try.ntmps6
  go_wp2
  go_ret
  exact ⟨rfl, rfl⟩

theorem only_drewN {a w : World} {row : Option Nat} (h : a.grownBy w row) (n : Nat) : a.grownBy (w.drewN n) row := ⟨h.os, h.tape, h.output, h.size, h.block⟩
theorem only_setCell {a w : World} {g : Nat} (h : a.grownBy w (some g)) {p : Addr} (hp : p.block = g ∨ a.heap.size ≤ p.block) (u : Value) : a.grownBy (w.setCell p u) (some g) :=
  ⟨h.os, h.tape, h.output, by simpa [World.setCell] using h.size, fun i hi hne => (Below.heap_setCell w p u i (by
    rintro rfl
    rcases hp with hp | hp
    · exact hne (by rw [hp])
    · omega)).trans (h.block i hi hne)⟩
theorem only_below {a w : World} (h : Below a.heap.size a w) (row : Option Nat) : a.grownBy w row := ⟨h.os, h.tape, h.output, h.size, fun i hi _ => h.block i hi⟩

theorem next_low (B g : Nat) (n : Int) (w : World) (h : TapeAt B g w) (hn1 : -9223372036854775808 ≤ n) (hn2 : n < 1) :
    Calls Try.prog 10 #[.pointer (some ⟨g, 0, none⟩), .int .i64 n] w (Chose B g n w) := by
  have HT := hid h
  clear h
  go_enter Try.func10, Try.ntmps10
  go_wp2
  go_quiet (fail)
  go_wp2
  go_ret
  exact ⟨0, by omega, by omega, rfl, HT.out.drewN _, only_drewN (World.grownBy.refl w _) _⟩
theorem next_end (B g : Nat) (n : Int) (w : World) (h : TapeAt B g w) (hn1 : 1 ≤ n) (hn2 : n ≤ 9223372036854775807) :
    Calls Try.prog 10 #[.pointer (some ⟨g, 0, none⟩), .int .i64 n] w (Chose B g n w) := by
  have HT := hid h
  obtain ⟨hB, A, m, c, xs, k, hb, hk, hm, hi⟩ := h
  have c0 : w.cell? ⟨g, 0, none⟩ = some (.slice A m c) := hb.cell 0
  have c1 : w.cell? ⟨g, 1, none⟩ = some (.int .i64 (k : Int)) := hb.cell 1
  have f1 := hb.thawed 1
  have HI := hid hi
  have HBk := hid hb
  clear hi hb
  have e1 : IntKind.i64.wrap (k : Int) = (k : Int) := IntWalk.i64_in _ (by omega)
  have e2 : (0 : Int) ≤ (k : Int) := by omega
  by_cases hlt : k < m
  · obtain ⟨b, off, rfl, hbl, hc⟩ := HI.out.open_ (by omega)
    obtain ⟨v, _, _, hv1, hv2, hcell⟩ := hc k hlt
    clear hc
    have hne : b ≠ g := by omega
    have hcw : (w.setCell ⟨g, 1, none⟩ (.int .i64 (k + 1))).cell? ⟨b, off + k, none⟩ = some (.int .i64 v) := (World.cell?_setCell_other w _ _ _ (fun e => by injection e with e; exact hne e.symm)).trans hcell
    have e3 : (k : Int) < (m : Int) := by omega
    have HF : Hid (Blk (w.setCell ⟨g, 1, none⟩ (.int .i64 (k + 1))) g 48 #[.slice (some ⟨b, off, none⟩) m c, .int .i64 ((k + 1 : Nat) : Int)]) := HBk.out.set_ 1 _
    have HI2 : Hid (IntsAt (w.setCell ⟨g, 1, none⟩ (.int .i64 (k + 1))) B (some ⟨b, off, none⟩) m xs) := HI.out.keep fun b' o' hlt' => World.cell?_setCell_other w _ _ _ (fun e => by injection e with e; omega)
    go_enter Try.func10, Try.ntmps10
    go_wp2
    go_quiet (fail)
    go_wp2
    go_quiet ((go_at_call 7; exact quiet_left (mod_any _ _ _ hv1 hv2 (by omega) (by omega))))
    go_wp2
    go_ret
    have hk2 : k + 1 ≤ m := by omega
    exact ⟨v % n, Int.emod_nonneg v (by omega), .inl (Int.emod_lt_of_pos v (by omega)), rfl, ⟨hB, _, _, _, _, k + 1, HF.out, hk2, hm, HI2.out⟩, only_drewN (only_setCell (only_drewN (World.grownBy.refl w _) _) (.inl rfl) _) _⟩
  · clear e2
    have e4 : ¬ (k : Int) < (m : Int) := by omega
    go_enter Try.func10, Try.ntmps10
    go_wp2
    go_quiet (fail)
    go_wp2
    go_ret
    exact ⟨0, by omega, by omega, rfl, HT.out.drewN _, only_drewN (World.grownBy.refl w _) _⟩

theorem next_any (B g : Nat) (n : Int) (w : World) (h : TapeAt B g w) (hn1 : -9223372036854775808 ≤ n) (hn2 : n ≤ 9223372036854775807) :
    Calls Try.prog 10 #[.pointer (some ⟨g, 0, none⟩), .int .i64 n] w (Chose B g n w) := by
  rcases Int.lt_or_le n 1 with h1 | h1
  · exact next_low B g n w h hn1 h1
  · exact next_end B g n w h h1 hn2

/-- The cells of a list that was just written out. -/
theorem lit_cells (w : World) (xs : List Int) (cs : Array Value) (t : TypeId) (h : cs = (xs.map (Value.int .i64)).toArray) :
    ∀ k, k < xs.length → ∃ v, (w.alloc (.cells cs t)).cell? ⟨w.heap.size, k, none⟩ = some (.int .i64 v) ∧ v ∈ xs := by
  subst h
  intro k hk
  refine ⟨xs[k], ?_, List.getElem_mem hk⟩
  rw [cell_of_row _ w.heap.size k _ t (0, 0) (heap_alloc_new w _)]
  simp [hk]
end Go.Proofs.Ytmamcbemfccieaa
