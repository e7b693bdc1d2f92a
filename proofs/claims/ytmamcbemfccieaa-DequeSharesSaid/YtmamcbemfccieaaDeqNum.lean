/-
  Layer 23, plain: which part of memory a function may turn; what a deque's functions compute.
-/
import Derived.Test.YtmamcbemfccieaaTapeD
import Derived.OwnWalk
import Derived.Maps.AppendAt
namespace Go.Proofs.Ytmamcbemfccieaa
open Go.RowKit
set_option linter.unusedVariables false

/-! ### Footprints -/
structure Foot (S : Nat → Prop) (w w' : World) : Prop where
  os : w'.os = w.os
  tape : w'.tape = w.tape
  output : w'.output = w.output
  size : w.heap.size ≤ w'.heap.size
  block : ∀ k, k < w.heap.size → ¬ S k → w'.heap[k]? = w.heap[k]?
theorem Foot.refl (S : Nat → Prop) (w : World) : Foot S w w := ⟨rfl, rfl, rfl, Nat.le_refl _, fun _ _ _ => rfl⟩
theorem Foot.of {w w' : World} {row : Option Nat} (h : w.grownBy w' row) : Foot (fun i => some i = row) w w' := ⟨h.os, h.tape, h.output, h.size, h.block⟩
theorem Foot.mono {S S' : Nat → Prop} {w w' : World} (h : Foot S w w') (hs : ∀ i, i < w.heap.size → S i → S' i) : Foot S' w w' := ⟨h.os, h.tape, h.output, h.size, fun k hk hn => h.block k hk fun e => hn (hs k hk e)⟩
theorem Foot.after {S : Nat → Prop} {w w' : World} (h : Below w.heap.size w w') : Foot S w w' := ⟨h.os, h.tape, h.output, h.size, fun k hk _ => h.block k hk⟩
theorem Foot.below {S : Nat → Prop} {B : Nat} {a w w' : World} (h : Foot S w w') (hb : Below B a w) (hs : ∀ i, S i → B ≤ i) (hB : B ≤ a.heap.size) : Below B a w' :=
  ⟨h.os.trans hb.os, h.tape.trans hb.tape, h.output.trans hb.output, Nat.le_trans hb.size h.size, fun k hk => (h.block k (by have := hb.size; omega) fun e => by have := hs k e; omega).trans (hb.block k hk)⟩
theorem Foot.blk {S : Nat → Prop} {w w' : World} {g : Nat} {t : TypeId} {cs : Array Value} (h : Foot S w w') (hb : Blk w g t cs) (hg : ¬ S g) : Blk w' g t cs := (h.block g hb.lt hg).trans hb
theorem Foot.row {S : Nat → Prop} {w w' : World} {base : Nat} {e : TypeId} {size n : Nat} {v : Value} {xs : List Value} (h : Foot S w w') (ho : w.ownsRow base e size v n xs) (hg : ∀ g, v.ownBlock = some g → ¬ S g) : w'.ownsRow base e size v n xs := by
  refine ⟨ho.1, ?_⟩
  rcases ho.2 with h1 | ⟨g, cap, cur, rfl, hb, hgg, rest⟩
  · exact .inl h1
  · exact .inr ⟨g, cap, cur, rfl, hb, (h.blk (t := e) (cs := cur) hgg (hg g rfl) : _), rest⟩
theorem Foot.taped {S : Nat → Prop} {w w' : World} {B g : Nat} (h : Foot S w w') (ht : TapeAt B g w) (hg : ¬ S g) (hs : ∀ i, S i → B ≤ i) : TapeAt B g w' := by
  obtain ⟨hB, A, n, c, xs, k, hl, hk, hn, hi⟩ := ht
  refine ⟨hB, A, n, c, xs, k, h.blk hl hg, hk, hn, hi.keep fun b o hlt => ?_⟩
  exact World.cell?_of_block (h.block b (by have := hl.lt; omega) fun e => by have := hs b e; omega)
theorem Foot.trans {S : Nat → Prop} {w w' w'' : World} (h : Foot S w w') (k : Foot S w' w'') : Foot S w w'' :=
  ⟨k.os.trans h.os, k.tape.trans h.tape, k.output.trans h.output, Nat.le_trans h.size k.size, fun i hi hn => (k.block i (Nat.lt_of_lt_of_le hi h.size) hn).trans (h.block i hi hn)⟩
theorem Foot.drewN {S : Nat → Prop} {w w' : World} (h : Foot S w w') (n : Nat) : Foot S w (w'.drewN n) := ⟨h.os, h.tape, h.output, h.size, h.block⟩
theorem Foot.alloc {S : Nat → Prop} {w w' : World} (h : Foot S w w') (o : Obj) : Foot S w (w'.alloc o) :=
  ⟨h.os, h.tape, h.output, by have := h.size; simp; omega, fun i hi hn => (Below.heap_alloc w' o i (Nat.lt_of_lt_of_le hi h.size)).trans (h.block i hi hn)⟩
theorem Foot.set_ {S : Nat → Prop} {w w' : World} (h : Foot S w w') (p : Addr) (hp : S p.block ∨ w.heap.size ≤ p.block) (u : Value) : Foot S w (w'.setCell p u) :=
  ⟨h.os, h.tape, h.output, by simpa [World.setCell] using h.size, fun i hi hn => (Below.heap_setCell w' p u i (by
    rintro rfl
    rcases hp with hp | hp
    · exact hn hp
    · omega)).trans (h.block i hi hn)⟩
theorem Foot.grown {S : Nat → Prop} {w w' w'' : World} {row : Option Nat} (h : Foot S w w') (k : w'.grownBy w'' row) (hr : ∀ i, row = some i → S i ∨ w.heap.size ≤ i) : Foot S w w'' :=
  ⟨k.os.trans h.os, k.tape.trans h.tape, k.output.trans h.output, Nat.le_trans h.size k.size, fun i hi hn => (k.block i (Nat.lt_of_lt_of_le hi h.size) (fun e => by
    rcases hr i e.symm with hr | hr
    · exact hn hr
    · omega)).trans (h.block i hi hn)⟩

/-! ### Tasks and deques -/
structure Rf where
  (job task : Int)
deriving DecidableEq
def rf1 (r : Rf) : List Value := [.int .i64 r.job, .int .i64 r.task]
def rflat (rs : List Rf) : List Value := rs.flatMap rf1
theorem rflat_append (a b : List Rf) : rflat (a ++ b) = rflat a ++ rflat b := by unfold rflat; rw [List.flatMap_append]
theorem rflat_one (r : Rf) : rflat [r] = rf1 r := by unfold rflat; simp
theorem rflat_cons (r : Rf) (t : List Rf) : rflat (r :: t) = rf1 r ++ rflat t := by unfold rflat; rw [List.flatMap_cons]
theorem rflat_len (rs : List Rf) : (rflat rs).length = rs.length * 2 := by
  unfold rflat
  induction rs with
  | nil => rfl
  | cons r t ih => rw [List.flatMap_cons, List.length_append, ih]; simp [rf1]; omega
theorem rflat_get : ∀ (rs : List Rf) (i : Nat) (r : Rf), rs[i]? = some r → ∀ j, j < 2 → (rflat rs)[i * 2 + j]? = (rf1 r)[j]?
  | [], i, r, h => by simp at h
  | r0 :: t, 0, r, h => fun j hj => by
    simp at h; subst h
    rw [rflat_cons, List.getElem?_append_left (by simp [rf1]; omega)]
    simp
  | r0 :: t, i + 1, r, h => fun j hj => by
    have h2 : t[i]? = some r := by simpa using h
    have ih := rflat_get t i r h2 j hj
    rw [rflat_cons, List.getElem?_append_right (by simp [rf1]; omega)]
    have e2 : (i + 1) * 2 + j - (rf1 r0).length = i * 2 + j := by simp [rf1]; omega
    rw [e2, ih]
theorem rflat_take (rs : List Rf) (k : Nat) : rflat (rs.take k) = (rflat rs).take (k * 2) := by
  induction rs generalizing k with
  | nil => simp [rflat]
  | cons r t ih =>
    cases k with
    | zero => simp [rflat]
    | succ k =>
      rw [List.take_succ_cons, rflat_cons, rflat_cons, ih, show (k + 1) * 2 = (rf1 r).length + k * 2 by simp [rf1]; omega, List.take_length_add_append]
theorem rflat_dropLast (rs : List Rf) : rflat rs.dropLast = (rflat rs).take ((rs.length - 1) * 2) := by rw [List.dropLast_eq_take, rflat_take]
theorem rflat_tail (r : Rf) (t : List Rf) : (rflat (r :: t)).drop 2 = rflat t := by rw [rflat_cons]; simp [rf1]
theorem rflat_one_cell (rs : List Rf) : ∀ u ∈ rflat rs, u.oneCell' = true := by
  intro u hu
  unfold rflat at hu
  obtain ⟨r, _, hr⟩ := List.mem_flatMap.1 hu
  simp [rf1] at hr
  rcases hr with rfl | rfl <;> rfl
structure Dq where
  (cap : Nat) (l : List Rf)
def Dq.Ok (s : Dq) : Prop := s.l.length ≤ s.cap ∧ s.cap ≤ 256 ∧ 1 ≤ s.cap
def pushS (s : Dq) (r : Rf) : Int × Dq := if s.l.length = s.cap then (19, s) else (0, ⟨s.cap, s.l ++ [r]⟩)
def popS (s : Dq) : Rf × Bool × Dq := match s.l.getLast? with | none => (⟨0, 0⟩, false, s) | some r => (r, true, ⟨s.cap, s.l.dropLast⟩)
def stealS (s : Dq) : Rf × Bool × Dq := match s.l with | [] => (⟨0, 0⟩, false, s) | r :: t => (r, true, ⟨s.cap, t⟩)
def without (l : List Rf) (j : Int) : List Rf := l.filter fun r => decide (r.job ≠ j)
def removeS (s : Dq) (j : Int) : Int × Dq := ((s.l.length : Int) - ((without s.l j).length : Int), ⟨s.cap, without s.l j⟩)
def drainS (s : Dq) : Dq := ⟨s.cap, []⟩
theorem pushS_ok {s : Dq} (h : s.Ok) (r : Rf) : (pushS s r).2.Ok := by
  obtain ⟨h1, h2⟩ := h
  unfold pushS
  split
  · exact ⟨h1, h2⟩
  · exact ⟨by simp only [List.length_append, List.length_singleton]; omega, h2⟩
theorem popS_ok {s : Dq} (h : s.Ok) : (popS s).2.2.Ok := by
  obtain ⟨h1, h2⟩ := h
  unfold popS
  split
  · exact ⟨h1, h2⟩
  · exact ⟨by simp only [List.length_dropLast]; omega, h2⟩
theorem stealS_ok {s : Dq} (h : s.Ok) : (stealS s).2.2.Ok := by
  obtain ⟨h1, h2⟩ := h
  unfold stealS
  split
  · exact ⟨h1, h2⟩
  · rename_i r t e
    rw [e] at h1
    exact ⟨by simp only [List.length_cons] at h1; simp only; omega, h2⟩
theorem without_le (l : List Rf) (j : Int) : (without l j).length ≤ l.length := List.length_filter_le _ _
theorem removeS_ok {s : Dq} (h : s.Ok) (j : Int) : (removeS s j).2.Ok := ⟨Nat.le_trans (without_le s.l j) h.1, h.2⟩
theorem drainS_ok {s : Dq} (h : s.Ok) : (drainS s).Ok := ⟨by simp [drainS], h.2⟩
theorem without_snoc (l : List Rf) (r : Rf) (j : Int) : without (l ++ [r]) j = if r.job = j then without l j else without l j ++ [r] := by
  unfold without
  rw [List.filter_append]
  by_cases h : r.job = j <;> simp [h]
theorem without_take (l : List Rf) (j : Int) (i : Nat) (r : Rf) (h : l[i]? = some r) : without (l.take (i + 1)) j = if r.job = j then without (l.take i) j else without (l.take i) j ++ [r] := by
  rw [List.take_add_one, h]
  exact without_snoc _ _ _

/-! ### The ring -/
/-- The slice value 'slice A n n' is a ring of n tasks that holds the list l from the place top on; its block is r. -/
def RingAt (w : World) (B : Nat) (A : Option Addr) (n top : Nat) (l : List Rf) (r : Option Nat) : Prop :=
  ∃ rb cur, A = some ⟨rb, 0, none⟩ ∧ r = some rb ∧ B ≤ rb ∧ Blk w rb 32 cur ∧ cur.size = n * 2 ∧ top < n ∧
    ∀ j x, l[j]? = some x → cur[(top + j) % n * 2]? = some (.int .i64 x.job) ∧ cur[(top + j) % n * 2 + 1]? = some (.int .i64 x.task)
theorem mod_inj {n top a b : Nat} (hn : top < n) (ha : a < n) (hb : b < n) (h : (top + a) % n = (top + b) % n) : a = b := by
  have f : ∀ x, x < n → (top + x) % n = if top + x < n then top + x else top + x - n := by
    intro x hx
    split
    · exact Nat.mod_eq_of_lt (by assumption)
    · rw [Nat.mod_eq_sub_mod (by omega), Nat.mod_eq_of_lt (by omega)]
  rw [f a ha, f b hb] at h
  split at h <;> split at h <;> omega
end Go.Proofs.Ytmamcbemfccieaa
