/-
  Layer 23: two deques beside a tape and beside blocks that the law holds; the chapter's example.
-/
import Derived.Test.YtmamcbemfccieaaDeqK
namespace Go.Proofs.Ytmamcbemfccieaa
open Go.RowKit
set_option linter.unusedVariables false

/-- Two deques and a tape; the blocks in X belong to none of them. -/
def Tw (B : Nat) (gt : Option Nat) (w0 w : World) (pa pb : Value) (sa sb : Option Dq) (X : Nat → Prop) : Prop :=
  ∃ ra rb, Dp B w pa sa ra ∧ Dr B w pb sb rb ∧ (∀ g, gt = some g → TapeAt B g w ∧ ¬ Owned pa ra g ∧ ¬ Owned pb rb g ∧ ¬ X g) ∧ (∀ i, Owned pa ra i → ¬ Owned pb rb i) ∧ Below B w0 w ∧ B ≤ w0.heap.size ∧
    (∀ i, X i → i < w.heap.size ∧ ¬ Owned pa ra i ∧ ¬ Owned pb rb i)
/-- All but X may have been turned. -/
def But (X : Nat → Prop) (w w' : World) : Prop := Foot (fun i => ¬ X i) w w'
theorem But.blk {X : Nat → Prop} {w w' : World} {g : Nat} {t : TypeId} {cs : Array Value} (h : But X w w') (hb : Blk w g t cs) (hg : X g) : Blk w' g t cs := Foot.blk h hb (fun e => e hg)
theorem But.row {X : Nat → Prop} {w w' : World} {base : Nat} {e : TypeId} {size n : Nat} {v : Value} {xs : List Value} (h : But X w w') (ho : w.ownsRow base e size v n xs) (hg : ∀ g, v.ownBlock = some g → X g) : w'.ownsRow base e size v n xs := Foot.row h ho fun g e h => h (hg g e)
theorem did_sub {w : World} {p : Value} {r r' : Option Nat} (hr : r' = r ∨ ∀ x, r' = some x → w.heap.size ≤ x) : ∀ i, Owned p r' i → Owned p r i ∨ w.heap.size ≤ i := by
  intro i hi
  rcases hi with hi | hi
  · exact .inl (.inl hi)
  · rcases hr with rfl | hr
    · exact .inl (.inr hi)
    · exact .inr (hr i hi.symm)
theorem Tw.didA {B : Nat} {gt : Option Nat} {w0 w : World} {pa pb : Value} {sa sb : Option Dq} {X : Nat → Prop} {w' : World} {sa' : Option Dq} {ra rb : Option Nat} (ha : Dp B w pa sa ra) (hb : Dr B w pb sb rb) (ht : ∀ g, gt = some g → TapeAt B g w ∧ ¬ Owned pa ra g ∧ ¬ Owned pb rb g ∧ ¬ X g) (hab : ∀ i, Owned pa ra i → ¬ Owned pb rb i) (hbl : Below B w0 w) (hB : B ≤ w0.heap.size) (hx : ∀ i, X i → i < w.heap.size ∧ ¬ Owned pa ra i ∧ ¬ Owned pb rb i)
    (hd : DidP B w pa sa' ra w') : Tw B gt w0 w' pa pb sa' sb X ∧ But X w w' := by
  obtain ⟨r', ha', hf, hr⟩ := hd
  have sub := did_sub (p := pa) hr
  refine ⟨⟨r', rb, ha', hb.kept hf (fun i hi hi2 => hab i hi2 hi), fun g hg => ?_, fun i hi => ?_, hf.below hbl (fun i hi => (ha.low i hi).1) hB, hB, fun i hi => ?_⟩, hf.mono fun i _ e hX => (hx i hX).2.1 e⟩
  · obtain ⟨h1, h2, h3, h4⟩ := ht g hg
    exact ⟨hf.taped h1 h2 (fun i hi => (ha.low i hi).1), fun e => (sub g e).elim h2 (fun l => by have := h1.lt; omega), h3, h4⟩
  · rcases sub i hi with h | h
    · exact hab i h
    · intro h2
      have := (hb.low i h2).2
      omega
  · obtain ⟨h1, h2, h3⟩ := hx i hi
    exact ⟨by have := hf.size; omega, fun e => (sub i e).elim h2 (fun l => by omega), h3⟩
theorem Tw.didB {B : Nat} {gt : Option Nat} {w0 w : World} {pa pb : Value} {sa sb : Option Dq} {X : Nat → Prop} {w' : World} {sb' : Option Dq} {ra rb : Option Nat} (ha : Dp B w pa sa ra) (hb : Dr B w pb sb rb) (ht : ∀ g, gt = some g → TapeAt B g w ∧ ¬ Owned pa ra g ∧ ¬ Owned pb rb g ∧ ¬ X g) (hab : ∀ i, Owned pa ra i → ¬ Owned pb rb i) (hbl : Below B w0 w) (hB : B ≤ w0.heap.size) (hx : ∀ i, X i → i < w.heap.size ∧ ¬ Owned pa ra i ∧ ¬ Owned pb rb i)
    (hd : DidR B w pb sb' rb w') : Tw B gt w0 w' pa pb sa sb' X ∧ But X w w' := by
  obtain ⟨r', hb', hf, hr⟩ := hd
  have sub := did_sub (p := pb) hr
  refine ⟨⟨ra, r', ha.kept hf (fun i hi hi2 => hab i hi hi2), hb', fun g hg => ?_, fun i hi h2 => ?_, hf.below hbl (fun i hi => (hb.low i hi).1) hB, hB, fun i hi => ?_⟩, hf.mono fun i _ e hX => (hx i hX).2.2 e⟩
  · obtain ⟨h1, h2, h3, h4⟩ := ht g hg
    exact ⟨hf.taped h1 h3 (fun i hi => (hb.low i hi).1), h2, fun e => (sub g e).elim h3 (fun l => by have := h1.lt; omega), h4⟩
  · rcases sub i h2 with h | h
    · exact hab i hi h
    · have := (ha.low i hi).2
      omega
  · obtain ⟨h1, h2, h3⟩ := hx i hi
    exact ⟨by have := hf.size; omega, h2, fun e => (sub i e).elim h3 (fun l => by omega)⟩
theorem Tw.tape {B g : Nat} {w0 w w' : World} {pa pb : Value} {sa sb : Option Dq} {X : Nat → Prop} (h : Tw B (some g) w0 w pa pb sa sb X) (ht' : TapeAt B g w') (hg : w.grownBy w' (some g)) : Tw B (some g) w0 w' pa pb sa sb X ∧ But X w w' := by
  obtain ⟨ra, rb, ha, hb, ht, hab, hbl, hB, hx⟩ := h
  obtain ⟨h1, h2, h3, h4⟩ := ht g rfl
  refine ⟨⟨ra, rb, ha.kept (Foot.of hg) (fun i hi e => h2 (by injection e with e; subst e; exact hi)), hb.kept (Foot.of hg) (fun i hi e => h3 (by injection e with e; subst e; exact hi)), ?_, hab, (Foot.of hg).below hbl (fun i e => by injection e with e; subst e; exact ht'.1) hB, hB, fun i hi => ⟨by have := (hx i hi).1; have := hg.size; omega, (hx i hi).2⟩⟩, (Foot.of hg).mono fun i _ e hX => h4 (by injection e with e; subst e; exact hX)⟩
  intro g' hg'
  injection hg' with hg'
  subst hg'
  exact ⟨ht', h2, h3, h4⟩
/-- A step that turns blocks of X alone: the blocks that it makes join X. -/
theorem Tw.row {B : Nat} {gt : Option Nat} {w0 w : World} {pa pb : Value} {sa sb : Option Dq} {X : Nat → Prop} (h : Tw B gt w0 w pa pb sa sb X) {w' : World} {S : Nat → Prop} (hf : Foot S w w') (hS : ∀ i, S i → X i ∧ B ≤ i) : ∃ X' : Nat → Prop, (∀ i, X i → X' i) ∧ (∀ i, w.heap.size ≤ i → i < w'.heap.size → X' i) ∧ Tw B gt w0 w' pa pb sa sb X' := by
  obtain ⟨ra, rb, ha, hb, ht, hab, hbl, hB, hx⟩ := h
  refine ⟨fun i => X i ∨ (w.heap.size ≤ i ∧ i < w'.heap.size), fun i hi => .inl hi, fun i h1 h2 => .inr ⟨h1, h2⟩, ra, rb, ha.kept hf (fun i hi hS' => (hx i (hS i hS').1).2.1 hi), hb.kept hf (fun i hi hS' => (hx i (hS i hS').1).2.2 hi), fun g hg => ?_, hab, hf.below hbl (fun i hi => (hS i hi).2) hB, hB, fun i hi => ?_⟩
  · obtain ⟨h1, h2, h3, h4⟩ := ht g hg
    exact ⟨hf.taped h1 (fun e => h4 (hS g e).1) (fun i hi => (hS i hi).2), h2, h3, fun e => e.elim h4 (fun e => by have := h1.lt; omega)⟩
  · have hs := hf.size
    rcases hi with hi | hi
    · exact ⟨by have := (hx i hi).1; omega, (hx i hi).2⟩
    · exact ⟨hi.2, fun e => by have := (ha.low i e).2; omega, fun e => by have := (hb.low i e).2; omega⟩
theorem Tw.more {B : Nat} {gt : Option Nat} {w0 w : World} {pa pb : Value} {sa sb : Option Dq} {X : Nat → Prop} (h : Tw B gt w0 w pa pb sa sb X) (o : Obj) : ∃ X' : Nat → Prop, (∀ i, X i → X' i) ∧ X' w.heap.size ∧ Tw B gt w0 (w.alloc o) pa pb sa sb X' := by
  obtain ⟨X', h1, h2, h3⟩ := h.row ((Foot.refl (fun _ => False) w).alloc o) (fun i e => e.elim)
  exact ⟨X', h1, h2 _ (Nat.le_refl _) (by simp), h3⟩
theorem Tw.quiet {B : Nat} {gt : Option Nat} {w0 w : World} {pa pb : Value} {sa sb : Option Dq} {X : Nat → Prop} (h : Tw B gt w0 w pa pb sa sb X) {w' : World} (hf : Foot (fun _ => False) w w') : Tw B gt w0 w' pa pb sa sb X := by
  obtain ⟨ra, rb, ha, hb, ht, hab, hbl, hB, hx⟩ := h
  exact ⟨ra, rb, ha.kept hf (fun _ _ e => e), hb.kept hf (fun _ _ e => e), fun g hg => ⟨hf.taped (ht g hg).1 (fun e => e) (fun i e => e.elim), (ht g hg).2⟩, hab, hf.below hbl (fun _ e => e.elim) hB, hB, fun i hi => ⟨by have := (hx i hi).1; have := hf.size; omega, (hx i hi).2⟩⟩
theorem Tw.drewN {B : Nat} {gt : Option Nat} {w0 w : World} {pa pb : Value} {sa sb : Option Dq} {X : Nat → Prop} (h : Tw B gt w0 w pa pb sa sb X) (k : Nat) : Tw B gt w0 (w.drewN k) pa pb sa sb X := h.quiet ((Foot.refl _ _).drewN k)
theorem Tw.alloc {B : Nat} {gt : Option Nat} {w0 w : World} {pa pb : Value} {sa sb : Option Dq} {X : Nat → Prop} (h : Tw B gt w0 w pa pb sa sb X) (o : Obj) : Tw B gt w0 (w.alloc o) pa pb sa sb X := h.quiet ((Foot.refl _ _).alloc o)
theorem Tw.nil {B : Nat} {gt : Option Nat} {w0 w : World} (ht : ∀ g, gt = some g → TapeAt B g w) (hbl : Below B w0 w) (hB : B ≤ w0.heap.size) : Tw B gt w0 w (.pointer none) (.pointer none) none none (fun _ => False) := by
  have no : ∀ i, ¬ Owned (.pointer none) none i := fun i e => by rcases e with e | e <;> cases e
  exact ⟨none, none, .inl ⟨rfl, rfl, rfl⟩, .inl ⟨rfl, rfl, rfl⟩, fun g hg => ⟨ht g hg, no g, no g, fun e => e⟩, fun i e => (no i e).elim, hbl, hB, fun i e => e.elim⟩
theorem Tw.bel {B : Nat} {gt : Option Nat} {w0 w : World} {pa pb : Value} {sa sb : Option Dq} {X : Nat → Prop} (h : Tw B gt w0 w pa pb sa sb X) : Below B w0 w := by
  obtain ⟨ra, rb, ha, hb, ht, hab, hbl, hB, hx⟩ := h
  exact hbl
theorem Tw.taped {B g : Nat} {w0 w : World} {pa pb : Value} {sa sb : Option Dq} {X : Nat → Prop} (h : Tw B (some g) w0 w pa pb sa sb X) : TapeAt B g w := by
  obtain ⟨ra, rb, ha, hb, ht, hab, hbl, hB, hx⟩ := h
  exact (ht g rfl).1
theorem Tw.okA {B : Nat} {gt : Option Nat} {w0 w : World} {pa pb : Value} {s : Dq} {sb : Option Dq} {X : Nat → Prop} (h : Tw B gt w0 w pa pb (some s) sb X) : s.Ok := by
  obtain ⟨ra, rb, ha, hb, ht, hab, hbl, hB, hx⟩ := h
  rcases ha with ⟨_, e, _⟩ | ⟨g, st, A, n, _, e, hok, _⟩
  · cases e
  · injection e with e; subst e; exact hok
theorem list_len {s : Option Dq} (h : ∀ t, s = some t → t.Ok) : (listO s).length ≤ 256 := by
  cases s with
  | none => simp [listO]
  | some t =>
    have hok := h t rfl
    have h1 : t.l.length ≤ t.cap := hok.1
    have h2 : t.cap ≤ 256 := hok.2.1
    show t.l.length ≤ 256
    omega
theorem Tw.lenA {B : Nat} {gt : Option Nat} {w0 w : World} {pa pb : Value} {sa sb : Option Dq} {X : Nat → Prop} (h : Tw B gt w0 w pa pb sa sb X) : (listO sa).length ≤ 256 := list_len fun t e => by subst e; exact h.okA
theorem Tw.lenB {B : Nat} {gt : Option Nat} {w0 w : World} {pa pb : Value} {sa sb : Option Dq} {X : Nat → Prop} (h : Tw B gt w0 w pa pb sa sb X) : (listO sb).length ≤ 256 := list_len fun t e => by
  subst e
  obtain ⟨ra, rb, ha, hb, ht, hab, hbl, hB, hx⟩ := h
  rcases hb with ⟨_, e, _⟩ | ⟨g, st, A, n, k, _, e, hok, _⟩
  · cases e
  · injection e with e; subst e; exact hok
theorem newA_ok {B : Nat} {gt : Option Nat} {w0 w w' : World} {pb : Value} {sb : Option Dq} {X : Nat → Prop} {n : Nat} {e : Ending} (h : Tw B gt w0 w (.pointer none) pb none sb X) (h1 : 1 ≤ n) (h2 : n ≤ 256) (hn : NewPost n w e w') :
    ∃ g, e = .returned (.tuple #[.pointer (some ⟨g, 0, none⟩), .int .i64 0]) ∧ Tw B gt w0 w' (.pointer (some ⟨g, 0, none⟩)) pb (some ⟨n, []⟩) sb X := by
  obtain ⟨ra, rb, ha, hb, ht, hab, hbl, hB, hx⟩ := h
  obtain ⟨g, r, cur, rfl, hg, hr, hc, hg1, hr1, hne, hf⟩ := hn
  have hs := hbl.size
  have own : ∀ i, Owned (.pointer (some ⟨g, 0, none⟩)) (some r) i → w.heap.size ≤ i := by
    intro i e
    rcases e with e | e
    · injection e with e; injection e with e; injection e with e; omega
    · injection e with e; omega
  refine ⟨g, rfl, some r, rb, .inr ⟨g, ⟨n, []⟩, _, 0, rfl, rfl, ⟨by simp, h2, h1⟩, by omega, hg, ⟨r, cur, rfl, rfl, by omega, hr, hc, h1, fun j x hx => by simp at hx⟩, fun e => hne (by injection e)⟩, hb.kept hf (fun _ _ e => e), fun g' hg' => ⟨hf.taped (ht g' hg').1 (fun e => e) (fun i e => e.elim), fun e => ?_, (ht g' hg').2.2⟩, fun i e e2 => ?_, hf.below hbl (fun _ e => e.elim) hB, hB, fun i hi => ⟨by have := (hx i hi).1; have := hf.size; omega, fun e => ?_, (hx i hi).2.2⟩⟩
  · have := (ht g' hg').1.lt
    have := own _ e
    omega
  · have := (hb.low i e2).2
    have := own _ e
    omega
  · have := (hx i hi).1
    have := own _ e
    omega
theorem newB_ok {B : Nat} {gt : Option Nat} {w0 w : World} {pa : Value} {sa : Option Dq} {X : Nat → Prop} {n : Nat} (h : Tw B gt w0 w pa (.pointer none) sa none X) (h1 : 1 ≤ n) (h2 : n ≤ 256) :
    Tw B gt w0 (w.alloc (.cells #[.int .i64 (n : Int), .slice none 0 0] 50)) pa (.pointer (some ⟨w.heap.size, 0, none⟩)) sa (some ⟨n, []⟩) X := by
  obtain ⟨ra, rb, ha, hb, ht, hab, hbl, hB, hx⟩ := h
  have hf : Foot (fun _ => False) w (w.alloc (.cells #[.int .i64 (n : Int), .slice none 0 0] 50)) := (Foot.refl _ _).alloc _
  have hs := hbl.size
  have own : ∀ i, Owned (.pointer (some ⟨w.heap.size, 0, none⟩)) none i → i = w.heap.size := by
    intro i e
    rcases e with e | e
    · injection e with e; injection e with e; injection e with e; exact e.symm
    · cases e
  refine ⟨ra, none, ha.kept hf (fun _ _ e => e), .inr ⟨w.heap.size, ⟨n, []⟩, none, 0, 0, rfl, rfl, ⟨by simp, h2, h1⟩, by omega, Blk.new w _ _, World.ownsRow_nil _ _ _ _, rfl⟩, fun g' hg' => ⟨hf.taped (ht g' hg').1 (fun e => e) (fun i e => e.elim), (ht g' hg').2.1, fun e => ?_, (ht g' hg').2.2.2⟩, fun i e e2 => ?_, hf.below hbl (fun _ e => e.elim) hB, hB, fun i hi => ⟨by have := (hx i hi).1; have := hf.size; omega, (hx i hi).2.1, fun e => ?_⟩⟩
  · have := (ht g' hg').1.lt
    have := own _ e
    omega
  · have := (ha.low i e).2
    have := own _ e2
    omega
  · have := (hx i hi).1
    have := own _ e
    omega
theorem apush_t {B : Nat} {gt : Option Nat} {w0 w : World} {pa pb : Value} {sa sb : Option Dq} {X : Nat → Prop} (h : Tw B gt w0 w pa pb sa sb X) (x : Rf) :
    Calls Try.prog 9 #[pa, rv x] w fun e w' => e = .returned (.int .i64 (pushO sa x).1) ∧ (Tw B gt w0 w' pa pb (pushO sa x).2 sb X ∧ But X w w') := by
  obtain ⟨ra, rb, ha, hb, ht, hab, hbl, hB, hx⟩ := h
  exact (push_v B w pa sa _ ha x).mono fun e w' hh => ⟨hh.1, Tw.didA ha hb ht hab hbl hB hx hh.2⟩
theorem apop_t {B : Nat} {gt : Option Nat} {w0 w : World} {pa pb : Value} {sa sb : Option Dq} {X : Nat → Prop} (h : Tw B gt w0 w pa pb sa sb X) :
    Calls Try.prog 11 #[pa] w fun e w' => e = .returned (.tuple #[rv (popO sa).1, .bool (popO sa).2.1]) ∧ (Tw B gt w0 w' pa pb (popO sa).2.2 sb X ∧ But X w w') := by
  obtain ⟨ra, rb, ha, hb, ht, hab, hbl, hB, hx⟩ := h
  exact (pop_v B w pa sa _ ha).mono fun e w' hh => ⟨hh.1, Tw.didA ha hb ht hab hbl hB hx hh.2⟩
theorem asteal_t {B : Nat} {gt : Option Nat} {w0 w : World} {pa pb : Value} {sa sb : Option Dq} {X : Nat → Prop} (h : Tw B gt w0 w pa pb sa sb X) :
    Calls Try.prog 12 #[pa] w fun e w' => e = .returned (.tuple #[rv (stealO sa).1, .bool (stealO sa).2.1]) ∧ (Tw B gt w0 w' pa pb (stealO sa).2.2 sb X ∧ But X w w') := by
  obtain ⟨ra, rb, ha, hb, ht, hab, hbl, hB, hx⟩ := h
  exact (steal_v B w pa sa _ ha).mono fun e w' hh => ⟨hh.1, Tw.didA ha hb ht hab hbl hB hx hh.2⟩
theorem aremove_t {B : Nat} {gt : Option Nat} {w0 w : World} {pa pb : Value} {sa sb : Option Dq} {X : Nat → Prop} (h : Tw B gt w0 w pa pb sa sb X) (j : Int) :
    Calls Try.prog 20 #[pa, .int .i64 j] w fun e w' => e = .returned (.int .i64 (removeO sa j).1) ∧ (Tw B gt w0 w' pa pb (removeO sa j).2 sb X ∧ But X w w') := by
  obtain ⟨ra, rb, ha, hb, ht, hab, hbl, hB, hx⟩ := h
  exact (remove_v B w pa sa _ ha j).mono fun e w' hh => ⟨hh.1, Tw.didA ha hb ht hab hbl hB hx hh.2⟩
theorem alen_t {B : Nat} {gt : Option Nat} {w0 w : World} {pa pb : Value} {sa sb : Option Dq} {X : Nat → Prop} (h : Tw B gt w0 w pa pb sa sb X) :
    Calls Try.prog 13 #[pa] w fun e w' => e = .returned (.int .i64 (lenO sa)) ∧ w = w' := by
  obtain ⟨ra, rb, ha, hb, ht, hab, hbl, hB, hx⟩ := h
  exact len_v B w pa sa _ ha
theorem rpush_t {B : Nat} {gt : Option Nat} {w0 w : World} {pa pb : Value} {sa sb : Option Dq} {X : Nat → Prop} (h : Tw B gt w0 w pa pb sa sb X) (x : Rf) :
    Calls Try.prog 17 #[pb, rv x] w fun e w' => e = .returned (.int .i64 (pushO sb x).1) ∧ (Tw B gt w0 w' pa pb sa (pushO sb x).2 X ∧ But X w w') := by
  obtain ⟨ra, rb, ha, hb, ht, hab, hbl, hB, hx⟩ := h
  exact (rpush_v B w pb sb _ hb (by have := hbl.size; omega) x).mono fun e w' hh => ⟨hh.1, Tw.didB ha hb ht hab hbl hB hx hh.2⟩
theorem rpop_t {B : Nat} {gt : Option Nat} {w0 w : World} {pa pb : Value} {sa sb : Option Dq} {X : Nat → Prop} (h : Tw B gt w0 w pa pb sa sb X) :
    Calls Try.prog 18 #[pb] w fun e w' => e = .returned (.tuple #[rv (popO sb).1, .bool (popO sb).2.1]) ∧ (Tw B gt w0 w' pa pb sa (popO sb).2.2 X ∧ But X w w') := by
  obtain ⟨ra, rb, ha, hb, ht, hab, hbl, hB, hx⟩ := h
  exact (rpop_v B w pb sb _ hb).mono fun e w' hh => ⟨hh.1, Tw.didB ha hb ht hab hbl hB hx hh.2⟩
theorem rsteal_t {B : Nat} {gt : Option Nat} {w0 w : World} {pa pb : Value} {sa sb : Option Dq} {X : Nat → Prop} (h : Tw B gt w0 w pa pb sa sb X) :
    Calls Try.prog 19 #[pb] w fun e w' => e = .returned (.tuple #[rv (stealO sb).1, .bool (stealO sb).2.1]) ∧ (Tw B gt w0 w' pa pb sa (stealO sb).2.2 X ∧ But X w w') := by
  obtain ⟨ra, rb, ha, hb, ht, hab, hbl, hB, hx⟩ := h
  exact (rsteal_v B w pb sb _ hb).mono fun e w' hh => ⟨hh.1, Tw.didB ha hb ht hab hbl hB hx hh.2⟩
theorem rremove_t {B : Nat} {gt : Option Nat} {w0 w : World} {pa pb : Value} {sa sb : Option Dq} {X : Nat → Prop} (h : Tw B gt w0 w pa pb sa sb X) (j : Int) :
    Calls Try.prog 21 #[pb, .int .i64 j] w fun e w' => e = .returned (.int .i64 (removeO sb j).1) ∧ (Tw B gt w0 w' pa pb sa (removeO sb j).2 X ∧ But X w w') := by
  obtain ⟨ra, rb, ha, hb, ht, hab, hbl, hB, hx⟩ := h
  exact (rremove_v B w pb sb _ hb j).mono fun e w' hh => ⟨hh.1, Tw.didB ha hb ht hab hbl hB hx hh.2⟩
theorem rlen_t {B : Nat} {gt : Option Nat} {w0 w : World} {pa pb : Value} {sa sb : Option Dq} {X : Nat → Prop} (h : Tw B gt w0 w pa pb sa sb X) :
    Calls Try.prog 25 #[pb] w fun e w' => e = .returned (.int .i64 (lenO sb)) ∧ w = w' := by
  obtain ⟨ra, rb, ha, hb, ht, hab, hbl, hB, hx⟩ := h
  exact rlen_v B w pb sb _ hb
theorem own_len' {w : World} {B n : Nat} {v : Value} {l : List Rf} (h : w.ownsRow B 32 2 v n (rflat l)) (hl : l.length ≤ 256) : n ≤ 256 := by have := own_len h; omega
/-- A list that was just made: its block has joined X. -/
def NewList (B : Nat) (gt : Option Nat) (w0 w : World) (pa pb : Value) (sa sb : Option Dq) (X : Nat → Prop) (l : List Rf) (e : Ending) (w' : World) : Prop :=
  ∃ v n, e = .returned v ∧ ∃ X' : Nat → Prop, (∀ i, X i → X' i) ∧ (∀ x, v.ownBlock = some x → X' x) ∧ n ≤ 256 ∧ w'.ownsRow w.heap.size 32 2 v n (rflat l) ∧ Tw B gt w0 w' pa pb sa sb X' ∧ But X w w'
theorem alist_t {B : Nat} {gt : Option Nat} {w0 w : World} {pa pb : Value} {sa sb : Option Dq} {X : Nat → Prop} (h : Tw B gt w0 w pa pb sa sb X) : Calls Try.prog 26 #[pa] w (NewList B gt w0 w pa pb sa sb X (listO sa)) := by
  have h0 := h
  obtain ⟨ra, rb, ha, hb, ht, hab, hbl, hB, hx⟩ := h
  refine (list_v B w pa sa _ ha).mono ?_
  rintro e w' ⟨v, n, rfl, ho, hf⟩
  obtain ⟨X', h1, h2, h3⟩ := h0.row hf (fun i e => e.elim)
  exact ⟨v, n, rfl, X', h1, fun x hx => h2 x (ho.lt x hx).1 (ho.lt x hx).2, own_len' ho h0.lenA, ho, h3, hf.mono fun i _ e => e.elim⟩
theorem adrain_t {B : Nat} {gt : Option Nat} {w0 w : World} {pa pb : Value} {sa sb : Option Dq} {X : Nat → Prop} (h : Tw B gt w0 w pa pb sa sb X) : Calls Try.prog 23 #[pa] w (NewList B gt w0 w pa pb (drainO sa) sb X (listO sa)) := by
  have h0 := h
  obtain ⟨ra, rb, ha, hb, ht, hab, hbl, hB, hx⟩ := h
  refine (drain_v B w pa sa _ ha).mono ?_
  rintro e w' ⟨v, n, rfl, ho, ha', hf⟩
  have hT := Tw.didA ha hb ht hab hbl hB hx ⟨_, ha', hf, .inl rfl⟩
  refine ⟨v, n, rfl, fun i => X i ∨ v.ownBlock = some i, fun i hi => .inl hi, fun x hx => .inr hx, own_len' ho h0.lenA, ho, ⟨ra, rb, ha', hb.kept hf (fun i hi hi2 => hab i hi2 hi), fun g hg => ?_, hab, hf.below hbl (fun i hi => (ha.low i hi).1) hB, hB, fun i hi => ?_⟩, hT.2⟩
  · obtain ⟨h1, h2, h3, h4⟩ := ht g hg
    exact ⟨hf.taped h1 h2 (fun i hi => (ha.low i hi).1), h2, h3, fun e => e.elim h4 (fun e => by have := (ho.lt g e).1; have := h1.lt; omega)⟩
  · have hs := hf.size
    rcases hi with hi | hi
    · exact ⟨by have := (hx i hi).1; omega, (hx i hi).2⟩
    · have h1 := ho.lt i hi
      exact ⟨h1.2, fun e => by have := (ha.low i e).2; omega, fun e => by have := (hb.low i e).2; omega⟩
/-- A list of the second deque. -/
def OldList (B : Nat) (gt : Option Nat) (w0 w : World) (pa pb : Value) (sa sb : Option Dq) (X : Nat → Prop) (l : List Rf) (e : Ending) (w' : World) : Prop :=
  ∃ v n, e = .returned v ∧ n ≤ 256 ∧ w'.ownsRow 0 32 2 v n (rflat l) ∧ Tw B gt w0 w' pa pb sa sb X ∧ But X w w'
theorem rlist_t {B : Nat} {gt : Option Nat} {w0 w : World} {pa pb : Value} {sa sb : Option Dq} {X : Nat → Prop} (h : Tw B gt w0 w pa pb sa sb X) : Calls Try.prog 27 #[pb] w (OldList B gt w0 w pa pb sa sb X (listO sb)) := by
  have h0 := h
  obtain ⟨ra, rb, ha, hb, ht, hab, hbl, hB, hx⟩ := h
  refine (rlist_v B w pb sb _ hb).mono ?_
  rintro e w' ⟨v, n, rfl, ho, hf⟩
  exact ⟨v, n, rfl, own_len' ho h0.lenB, own_low ho (Nat.zero_le _), h0.quiet hf, hf.mono fun i _ e => e.elim⟩
theorem rdrain_t {B : Nat} {gt : Option Nat} {w0 w : World} {pa pb : Value} {sa sb : Option Dq} {X : Nat → Prop} (h : Tw B gt w0 w pa pb sa sb X) : Calls Try.prog 24 #[pb] w (OldList B gt w0 w pa pb sa (drainO sb) X (listO sb)) := by
  have h0 := h
  obtain ⟨ra, rb, ha, hb, ht, hab, hbl, hB, hx⟩ := h
  refine (rdrain_v B w pb sb _ hb).mono ?_
  rintro e w' ⟨v, n, rfl, ho, hd, _⟩
  exact ⟨v, n, rfl, own_len' ho h0.lenB, ho, Tw.didB ha hb ht hab hbl hB hx hd⟩
theorem same_v {w : World} {v v2 : Value} {n m : Nat} {la lb : List Rf} (ha : w.ownsRow 0 32 2 v n (rflat la)) (hn : n ≤ 256) (hb : w.ownsRow 0 32 2 v2 m (rflat lb)) (hm : m ≤ 256) :
    Calls Try.prog 22 #[v, v2] w fun e w' => e = .returned (.bool (decide (la = lb))) ∧ ∃ k, w' = w.drewN k := by
  obtain ⟨A, c, rfl⟩ := own_form ha
  obtain ⟨A2, d, rfl⟩ := own_form hb
  exact same_on n m c d A A2 la lb w ha hb (by omega) (by omega)
theorem next_t {B g : Nat} {w0 w : World} {pa pb : Value} {sa sb : Option Dq} {X : Nat → Prop} (h : Tw B (some g) w0 w pa pb sa sb X) (n : Int) (hn1 : -9223372036854775808 ≤ n) (hn2 : n ≤ 9223372036854775807) :
    Calls Try.prog 10 #[.pointer (some ⟨g, 0, none⟩), .int .i64 n] w fun e w' => ∃ r : Int, 0 ≤ r ∧ (r < n ∨ r = 0) ∧ e = .returned (.int .i64 r) ∧ (Tw B (some g) w0 w' pa pb sa sb X ∧ But X w w') :=
  (next_any B g n w h.taped hn1 hn2).mono fun e w' ⟨r, h1, h2, h3, h4, h5⟩ => ⟨r, h1, h2, h3, h.tape h4 h5⟩
end Go.Proofs.Ytmamcbemfccieaa
