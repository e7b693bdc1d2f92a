/-
  The tape's Weights: a slice of the call's own, of small weights.
-/
import Derived.Test.YtgfkmlppoldhgaaTape
import Derived.OwnWalk
import Derived.Maps.Range
import Derived.Maps.AppendAt
namespace Go.Proofs.Ytgfkmlppoldhgaa
open Go.RowKit
set_option linter.unusedVariables false

theorem w_info : (Try.prog.info? 3).map (fun i => (i.zero, i.size, i.bytes)) = some (some (.int .i64 0), 1, 8) := by kernel_rfl

/-- n small weights in a row of the call's own. -/
def Weighed (B g : Nat) (n : Nat) (w : World) (e : Ending) (w' : World) : Prop :=
  ∃ (v : Value) (ws : List Int), e = .returned v ∧ ws.length = n ∧ (∀ x ∈ ws, -20 ≤ x ∧ x ≤ 20) ∧ w'.ownsRow w.heap.size 3 1 v n (ws.map (Value.int .i64)) ∧ TapeAt B g w' ∧ w.grownBy w' (some g)

theorem own_ne {w : World} {base : Nat} {e : TypeId} {size n : Nat} {v : Value} {xs : List Value} (h : w.ownsRow base e size v n xs) {g : Nat} (hg : g < base) : v.ownBlock = none ∨ v.ownBlock ≠ some g := by
  right
  intro e
  have := (h.lt g e).1
  omega

set_option maxHeartbeats 800000 in
theorem tapeWeights (B g n : Nat) (w : World) (h : TapeAt B g w) (hn : n ≤ 1000) :
    Calls Try.prog 8 #[.pointer (some ⟨g, 0, none⟩), .int .i64 (n : Int)] w (Weighed B g n w) := by
  obtain ⟨i0, hi, hz0, hz1, hz2⟩ := info_parts w_info
  have hglt := h.lt
  have HT := hid h
  clear h
  go_enter Try.func8, Try.ntmps8
  go_wp2
  go_loopw [5, 6] (fun v i wr => ∃ (k : Nat) (ws : List Int), k ≤ n ∧ i = .int .i64 k ∧ ws.length = k ∧ (∀ x ∈ ws, -20 ≤ x ∧ x ≤ 20) ∧ wr.ownsRow w.heap.size 3 1 v k (ws.map (Value.int .i64)) ∧ TapeAt B g wr ∧ w.grownBy wr (some g)) (fun _ i _ => n - (intOf i).toNat)
  case atStart => exact ⟨0, [], by omega, rfl, rfl, by simp, World.ownsRow_nil _ _ _ _, HT.out, World.grownBy.refl _ _⟩
  case round =>
    obtain ⟨k, ws, hk, rfl, hlen, hws, hown, ht, hg⟩ := hrel
    have HLEN := hid hlen
    have HWS := hid hws
    have HOWN := hid hown
    have HT1 := hid ht
    have HG := hid hg
    clear hlen hws hown ht hg
    by_cases hlt : k < n
    · go_wp2_with fail
      refine (next_any B g 41 _ HT1.out (by omega) (by omega)).mono ?_
      rintro e w1 ⟨r, hr0, hr1, rfl, ht1, hg1⟩
      have hr : r ≤ 40 := by omega
      have hlt1 := ht1.lt
      have hp := pick_any B g w1.heap.size 6 (· ∈ [1, 2, -1, 0, r - 20, 5]) (w1.alloc (.cells #[.int .i64 1, .int .i64 2, .int .i64 (-1), .int .i64 0, .int .i64 (r - 20), .int .i64 5] 3)) (ht1.alloc _) (by omega) (by simp) (by omega) (by omega) (lit_cells w1 [1, 2, -1, 0, r - 20, 5] _ _ rfl)
      have HP := hid hp
      have hown1 := (HOWN.out.kept hg1 (own_ne HOWN.out hglt)).alloc (.cells #[.int .i64 1, .int .i64 2, .int .i64 (-1), .int .i64 0, .int .i64 (r - 20), .int .i64 5] 3)
      have HO1 := hid hown1
      have HG1 := hid ((HG.out.andThen hg1 (fun j e => .inr e)).andThen (World.grownBy_alloc w1 (.cells #[.int .i64 1, .int .i64 2, .int .i64 (-1), .int .i64 0, .int .i64 (r - 20), .int .i64 5] 3) none) (fun j e => by cases e))
      clear hp hown1 ht1 hg1 hr1 HOWN HG
      go_wp2_with fail
      refine HP.out.mono ?_
      rintro e w2 ⟨p, hp, rfl, ht2, hg2⟩
      have hp2 : -20 ≤ p ∧ p ≤ 20 := by simp at hp; omega
      obtain ⟨hp3, hp4⟩ := hp2
      have hown2 := HO1.out.kept hg2 (own_ne HO1.out hglt)
      have HG2 := hid (HG1.out.andThen hg2 (fun j e => .inr e))
      have HT2 := hid ht2
      have hbase := HG2.out.size
      clear hp hg2 ht2 HP HO1 HG1
      go_wp2_with (at_builtin; refine wpList_append_own _ rfl _ _ 22 rfl w.heap.size 3 i0 (.int .i64 0) 1 8 Try.underlying22 hi hz0 hz1 hz2 rfl (by decide) _ _ _ rfl (hown2.alloc _) ⟨w2.heap.size, 0, none⟩ 1 1 [.int .i64 p] rfl rfl ?c1 ?c2 ?c3 ?c4 ?c5 ?_)
      case c1 => exact cell_one_new _ _ _
      case c2 => intro u hu; simp at hu; subst hu; rfl
      case c3 => unfold maxLen; omega
      case c4 => omega
      case c5 => simp; omega
      intro v' w3 hown3 hg3 _
      have HO3 := hid hown3
      have HG3 := hid ((HG2.out.andThen (World.grownBy_alloc w2 (.cells #[.int .i64 p] 3) none) (fun j e => by cases e)).andThen hg3 (fun j e => by
        left
        exact (hown2.lt j e).1))
      have HT3 := hid ((HT2.out.alloc (.cells #[.int .i64 p] 3)).kept hg3 (fun x e => by
        have := (hown2.lt x e).1
        omega))
      clear hown3 hg3 hown2 HG2 HT2
      go_wp2
      go_roundw
      case rel => exact ⟨k + 1, ws ++ [p], by omega, by go_num, by simp [HLEN.out], fun x hx => by rcases List.mem_append.1 hx with h1 | h1; exact HWS.out x h1; simp at h1; omega, by simpa using HO3.out, HT3.out, HG3.out⟩
      case measure => simp [intOf]; omega
    · go_wp2
      go_ret
      have e : k = n := by omega
      subst e
      exact ⟨_, ws, rfl, HLEN.out, HWS.out, HOWN.out, HT1.out, HG.out⟩

/-- A row of the call's own, as a list of ints. -/
theorem own_ints {w : World} {base n : Nat} {v : Value} {ws : List Int} (h : w.ownsRow base 3 1 v n (ws.map (Value.int .i64))) (hr : ∀ x ∈ ws, -9223372036854775808 ≤ x ∧ x ≤ 9223372036854775807) :
    ∃ A c, v = .slice A n c ∧ IntsAt w w.heap.size A n ws := by
  have hl : ws.length = n := by have := h.1; simpa using this
  rcases h.2 with ⟨rfl, rfl⟩ | ⟨gv, cap, cur, rfl, _, hh, hnc, _, hs, ht⟩
  · have : ws = [] := List.eq_nil_of_length_eq_zero hl
    subst this
    exact ⟨none, 0, rfl, rfl, by simp, by omega⟩
  · refine ⟨_, cap, rfl, hl, hr, fun _ => ⟨gv, 0, rfl, ?_, fun j x hx => ?_⟩⟩
    · exact (h.lt gv rfl).2
    · have hj : j < n := by have := (List.getElem?_eq_some_iff.1 hx).1; omega
      rw [Nat.zero_add, h.cellAt j (by omega)]
      simp [hx]
theorem own_fresh {w : World} {base e n c : Nat} {A : Option Addr} {xs : List Value} (h : w.ownsRow base e 1 (.slice A n c) n xs) (hn : 0 < n) : ∃ gv, A = some ⟨gv, 0, none⟩ ∧ base ≤ gv ∧ gv < w.heap.size ∧ ∀ i, w.frozen? ⟨gv, i, none⟩ = false := by
  rcases h.2 with ⟨he, h0⟩ | ⟨gv, cap, cur, he, hb, hh, _⟩
  · omega
  · injection he with h1 h2 h3
    subst h1
    have hlt := h.lt gv rfl
    exact ⟨gv, rfl, hb, hlt.2, fun i => by simp [World.frozen?, hh]⟩

/-- A slice of ints in a block of the call's own, from block lo on. -/
def OwnInts (w : World) (lo : Nat) (A : Option Addr) (n : Nat) (ws : List Int) : Prop :=
  IntsAt w w.heap.size A n ws ∧ (0 < n → ∃ gv, A = some ⟨gv, 0, none⟩ ∧ lo ≤ gv ∧ gv < w.heap.size ∧ ∀ i, w.frozen? ⟨gv, i, none⟩ = false)
theorem OwnInts.keep {w w' : World} {lo : Nat} {A : Option Addr} {n : Nat} {ws : List Int} (h : OwnInts w lo A n ws) (hs : w.heap.size ≤ w'.heap.size) (hk : ∀ gv, lo ≤ gv → gv < w.heap.size → w'.heap[gv]? = w.heap[gv]?) : OwnInts w' lo A n ws := by
  obtain ⟨hi, ho⟩ := h
  refine ⟨⟨hi.1, hi.2.1, fun hn => ?_⟩, fun hn => ?_⟩
  · obtain ⟨gv, rfl, hlo, hlt, hf⟩ := ho hn
    obtain ⟨b, off, e, hb, hc⟩ := hi.2.2 hn
    injection e with e
    injection e with e1 e2
    subst e1; subst e2
    exact ⟨gv, 0, rfl, by omega, fun j v hv => (World.cell?_of_block (hk gv hlo hlt)).trans (hc j v hv)⟩
  · obtain ⟨gv, rfl, hlo, hlt, hf⟩ := ho hn
    exact ⟨gv, rfl, hlo, by omega, fun i => (World.frozen?_of_block (hk gv hlo hlt)).trans (hf i)⟩
theorem OwnInts.kept {w w' : World} {lo g : Nat} {A : Option Addr} {n : Nat} {ws : List Int} (h : OwnInts w lo A n ws) (hg : w.grownBy w' (some g)) (hlo : g < lo) : OwnInts w' lo A n ws :=
  h.keep hg.size fun gv h1 h2 => hg.block gv h2 (fun e => by injection e with e; omega)
theorem OwnInts.alloc {w : World} {lo : Nat} {A : Option Addr} {n : Nat} {ws : List Int} (h : OwnInts w lo A n ws) (o : Obj) : OwnInts (w.alloc o) lo A n ws :=
  h.keep (by simp) fun gv h1 h2 => Below.heap_alloc w o gv h2
theorem OwnInts.drewN {w : World} {lo : Nat} {A : Option Addr} {n : Nat} {ws : List Int} (h : OwnInts w lo A n ws) (m : Nat) : OwnInts (w.drewN m) lo A n ws := h

/-- n small weights, as a slice. -/
def Weighed2 (B g : Nat) (n : Nat) (w : World) (e : Ending) (w' : World) : Prop :=
  ∃ (A : Option Addr) (c : Nat) (ws : List Int), e = .returned (.slice A n c) ∧ (∀ x ∈ ws, -20 ≤ x ∧ x ≤ 20) ∧ OwnInts w' w.heap.size A n ws ∧ TapeAt B g w' ∧ w.grownBy w' (some g)
theorem weights2 (B g n : Nat) (w : World) (h : TapeAt B g w) (hn : n ≤ 1000) :
    Calls Try.prog 8 #[.pointer (some ⟨g, 0, none⟩), .int .i64 (n : Int)] w (Weighed2 B g n w) := by
  refine (tapeWeights B g n w h hn).mono ?_
  rintro e w' ⟨v, ws, rfl, hl, hr, hown, ht, hg⟩
  obtain ⟨A, c, rfl, hi⟩ := own_ints hown (fun x hx => by have := hr x hx; omega)
  exact ⟨A, c, ws, rfl, hr, ⟨hi, fun h0 => own_fresh hown h0⟩, ht, hg⟩
end Go.Proofs.Ytgfkmlppoldhgaa
