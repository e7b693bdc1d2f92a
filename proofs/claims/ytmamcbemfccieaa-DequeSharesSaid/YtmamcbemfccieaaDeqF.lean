/-
  Layer 23: the deque's New; its functions on values (nil or a block with a ring).
-/
import Derived.Test.YtmamcbemfccieaaDeqE
namespace Go.Proofs.Ytmamcbemfccieaa
open Go.RowKit
set_option linter.unusedVariables false

def NewPost (n : Nat) (w : World) (e : Ending) (w' : World) : Prop := ∃ g rb cur, e = .returned (.tuple #[.pointer (some ⟨g, 0, none⟩), .int .i64 0]) ∧
      Blk w' g 46 #[.slice (some ⟨rb, 0, none⟩) n n, .int .i64 0, .int .i64 0] ∧ Blk w' rb 32 cur ∧ cur.size = n * 2 ∧ w.heap.size ≤ g ∧ w.heap.size ≤ rb ∧ rb ≠ g ∧ Foot (fun _ => False) w w'
theorem new_yes (n : Nat) (w : World) (h1 : 1 ≤ n) (h2 : n ≤ 256) :
    Calls Try.prog 8 #[.int .i64 (n : Int)] w (NewPost n w) := by
  obtain ⟨i0, hi, hz0, hz1, hz2⟩ := info_parts ref_info
  have h63 : n ≤ maxLen := by unfold maxLen; omega
  have hby : i0.bytes * n ≤ 281474976710656 := by rw [hz2]; omega
  have t1 : ¬ (n : Int) < 1 := by omega
  have t2 : ¬ 256 < (n : Int) := by omega
  have H63 := hid h63
  have HBY := hid hby
  clear h63 hby
  go_enter Try.func8, Try.ntmps8
  go_wp2_with (at_make; refine wpList_make_full _ rfl _ _ 43 rfl w.heap.size 32 i0 (.agg #[.int .i64 0, .int .i64 0]) 2 Try.underlying43 hi hz0 hz1 .i64 .i64 _ _ n rfl rfl rfl rfl HBY.out H63.out (Nat.le_refl _) ?_; intro w1 hown hgrow; have HO := hid hown; have HG := hid hgrow; clear hown hgrow)
  go_ret2
  have hsz := HG.out.size
  rcases HO.out.2 with ⟨h, _⟩ | ⟨rb, cap, cur, hv, hB, hblk, hn, hc, hsize, htake⟩
  · simp at h
  · injection hv with e1 _ e2
    injection e1 with e1
    injection e1 with e1
    subst e1 e2
    have hlt : w.heap.size < w1.heap.size := Blk.lt (t := 32) (cs := cur) hblk
    exact ⟨w1.heap.size, w.heap.size, cur, rfl, Blk.new w1 _ _, Blk.alloc (t := 32) (cs := cur) hblk _, hsize, by omega, Nat.le_refl _, by omega, ((Foot.refl _ _).grown HG.out (fun i e => by cases e)).alloc _⟩

/-- p is nil, or a block that holds the deque s, its ring in block r. -/
def Dp (B : Nat) (w : World) (p : Value) (s : Option Dq) (r : Option Nat) : Prop :=
  (p = .pointer none ∧ s = none ∧ r = none) ∨ ∃ (g : Nat) (st : Dq) (A : Option Addr) (top : Nat), p = .pointer (some ⟨g, 0, none⟩) ∧ s = some st ∧ st.Ok ∧ B ≤ g ∧
    Blk w g 46 #[.slice A st.cap st.cap, .int .i64 (top : Int), .int .i64 (st.l.length : Int)] ∧ RingAt w B A st.cap top st.l r ∧ r ≠ some g
def Owned (p : Value) (r : Option Nat) (i : Nat) : Prop := p = .pointer (some ⟨i, 0, none⟩) ∨ some i = r
def DidP (B : Nat) (w : World) (p : Value) (s' : Option Dq) (r : Option Nat) (w' : World) : Prop :=
  ∃ r', Dp B w' p s' r' ∧ Foot (Owned p r) w w' ∧ (r' = r ∨ ∀ x, r' = some x → w.heap.size ≤ x)
theorem Dp.low {B : Nat} {w : World} {p : Value} {s : Option Dq} {r : Option Nat} (h : Dp B w p s r) : ∀ i, Owned p r i → B ≤ i ∧ i < w.heap.size := by
  intro i hi
  rcases h with ⟨rfl, rfl, rfl⟩ | ⟨g, st, A, top, rfl, rfl, hok, hB, hb, ⟨rb, cur, rfl, rfl, hB2, hr, _⟩, _⟩
  · rcases hi with hi | hi <;> cases hi
  · rcases hi with hi | hi
    · have : g = i := by injection hi with hi; injection hi with hi; injection hi
      subst this
      exact ⟨hB, hb.lt⟩
    · injection hi with hi
      subst hi
      exact ⟨hB2, hr.lt⟩
theorem Dp.kept {B : Nat} {w w' : World} {p : Value} {s : Option Dq} {r : Option Nat} {S : Nat → Prop} (h : Dp B w p s r) (hf : Foot S w w') (hs : ∀ i, Owned p r i → ¬ S i) : Dp B w' p s r := by
  rcases h with h | ⟨g, st, A, top, rfl, rfl, hok, hB, hb, ⟨rb, cur, rfl, rfl, hB2, hr, hc, ht, hx⟩, hne⟩
  · exact .inl h
  · exact .inr ⟨g, st, _, top, rfl, rfl, hok, hB, hf.blk hb (hs g (.inl rfl)), ⟨rb, cur, rfl, rfl, hB2, hf.blk hr (hs rb (.inr rfl)), hc, ht, hx⟩, hne⟩

def pushO (s : Option Dq) (x : Rf) : Int × Option Dq := match s with | none => (20, none) | some s => ((pushS s x).1, some (pushS s x).2)
def popO (s : Option Dq) : Rf × Bool × Option Dq := match s with | none => (⟨0, 0⟩, false, none) | some s => ((popS s).1, (popS s).2.1, some (popS s).2.2)
def stealO (s : Option Dq) : Rf × Bool × Option Dq := match s with | none => (⟨0, 0⟩, false, none) | some s => ((stealS s).1, (stealS s).2.1, some (stealS s).2.2)
def removeO (s : Option Dq) (j : Int) : Int × Option Dq := match s with | none => (0, none) | some s => ((removeS s j).1, some (removeS s j).2)
def drainO (s : Option Dq) : Option Dq := match s with | none => none | some s => some (drainS s)
def listO (s : Option Dq) : List Rf := match s with | none => [] | some s => s.l
def lenO (s : Option Dq) : Int := match s with | none => 0 | some s => s.l.length
def rv (x : Rf) : Value := .agg #[.int .i64 x.job, .int .i64 x.task]
theorem last_get {l : List Rf} {k : Nat} (h : l.length = k + 1) : ∃ x, l[k]? = some x ∧ l.getLast? = some x ∧ l.dropLast.length = k := by
  refine ⟨l[k]'(by omega), List.getElem?_eq_getElem _, ?_, by simp; omega⟩
  have hk : l.length - 1 = k := by omega
  rw [List.getLast?_eq_getElem?, hk]
  exact List.getElem?_eq_getElem _
theorem get_dropLast {l : List Rf} {i : Nat} {x : Rf} (h : l.dropLast[i]? = some x) : l[i]? = some x := by
  rw [List.dropLast_eq_take, List.getElem?_take] at h
  split at h
  · exact h
  · cases h

theorem push_v (B : Nat) (w : World) (p : Value) (s : Option Dq) (r : Option Nat) (h : Dp B w p s r) (x : Rf) :
    Calls Try.prog 9 #[p, rv x] w fun e w' => e = .returned (.int .i64 (pushO s x).1) ∧ DidP B w p (pushO s x).2 r w' := by
  rcases h with ⟨rfl, rfl, rfl⟩ | ⟨g, ⟨cap, l⟩, A, top, rfl, rfl, hok, hB, hb, ⟨rb, cur, rfl, rfl, hB2, hr, hc, ht, hx⟩, hne⟩
  · refine (push_nil x.job x.task w).mono ?_
    rintro e w' ⟨rfl, hf⟩
    exact ⟨rfl, ⟨none, .inl ⟨rfl, rfl, rfl⟩, hf.mono (fun i _ e => e.elim), .inl rfl⟩⟩
  · have hne' : rb ≠ g := fun e => hne (by rw [e])
    have ht' : top < cap := ht
    have hc' : cur.size = cap * 2 := hc
    obtain ⟨h1, h2, h3⟩ := hok
    by_cases hfu : l.length = cap
    · have hm : pushS ⟨cap, l⟩ x = (19, ⟨cap, l⟩) := by unfold pushS; rw [if_pos hfu]
      have hb2 := hb
      rw [show ((Dq.mk cap l).l.length : Int) = (cap : Int) by rw [show (Dq.mk cap l).l.length = cap from hfu]] at hb2
      refine (push_full g cap _ _ x.job x.task w hb2 h3).mono ?_
      rintro e w' ⟨rfl, hf⟩
      have hok : (Dq.mk cap l).Ok := ⟨h1, h2, h3⟩
      unfold pushO
      simp only [hm]
      exact ⟨trivial, ⟨_, .inr ⟨g, ⟨cap, l⟩, _, top, rfl, rfl, hok, hB, hf.blk hb (fun e => e), ⟨rb, cur, rfl, rfl, hB2, hf.blk hr (fun e => e), hc, ht, hx⟩, hne⟩, hf.mono (fun i _ e => e.elim), .inl rfl⟩⟩
    · have hm : pushS ⟨cap, l⟩ x = (0, ⟨cap, l ++ [x]⟩) := by unfold pushS; rw [if_neg hfu]
      have hl : l.length < cap := by have : l.length ≤ cap := h1; omega
      refine (push_on g rb cap top l.length _ cur x.job x.task w hb hr hc h3 h2 ht hl rfl hne').mono ?_
      rintro e w' ⟨rfl, hb', hr', hf⟩
      unfold pushO
      simp only [hm]
      have hqn : (top + l.length) % cap < cap := Nat.mod_lt _ (by omega)
      refine ⟨trivial, _, .inr ⟨g, ⟨cap, l ++ [x]⟩, _, top, rfl, rfl, ⟨by simp only [List.length_append, List.length_singleton]; omega, h2, h3⟩, hB, by simpa using hb', ⟨rb, _, rfl, rfl, hB2, hr', by simpa using hc, ht, ?_⟩, hne⟩, hf.mono (fun i _ e => e.imp (fun e => by rw [e]) (fun e => by rw [e])), .inl rfl⟩
      intro j y hy
      rcases Nat.lt_or_ge j l.length with hlt | hge
      · have hy' : l[j]? = some y := by rw [show (Dq.mk cap (l ++ [x])).l = l ++ [x] from rfl, List.getElem?_append_left hlt] at hy; exact hy
        have hd : (top + j) % cap ≠ (top + l.length) % cap := fun e => by
          have := mod_inj ht' (by omega) (by omega) e
          omega
        have sp := set_pair (cur := cur) (u := .int .i64 x.job) (v := .int .i64 x.task) hd
        rw [sp.1, sp.2]
        exact hx j y hy'
      · have hj : j = l.length := by
          have := (List.getElem?_eq_some_iff.1 hy).1
          simp at this
          omega
        subst hj
        rw [show (Dq.mk cap (l ++ [x])).l = l ++ [x] from rfl] at hy
        simp at hy
        subst hy
        exact get_pair (by omega)
theorem pop_v (B : Nat) (w : World) (p : Value) (s : Option Dq) (r : Option Nat) (h : Dp B w p s r) :
    Calls Try.prog 11 #[p] w fun e w' => e = .returned (.tuple #[rv (popO s).1, .bool (popO s).2.1]) ∧ DidP B w p (popO s).2.2 r w' := by
  rcases h with ⟨rfl, rfl, rfl⟩ | ⟨g, ⟨cap, l⟩, A, top, rfl, rfl, hok, hB, hb, ⟨rb, cur, rfl, rfl, hB2, hr, hc, ht, hx⟩, hne⟩
  · refine (pop_nil w).mono ?_
    rintro e w' ⟨rfl, hf⟩
    exact ⟨rfl, ⟨none, .inl ⟨rfl, rfl, rfl⟩, hf.mono (fun i _ e => e.elim), .inl rfl⟩⟩
  · have hne' : rb ≠ g := fun e => hne (by rw [e])
    have ht' : top < cap := ht
    have hc' : cur.size = cap * 2 := hc
    have hok' := popS_ok hok
    rcases hl : l.length with _ | k
    · have hl0 : l = [] := List.eq_nil_of_length_eq_zero hl
      subst hl0
      refine (pop_empty g _ _ w hb).mono ?_
      rintro e w' ⟨rfl, hf⟩
      exact ⟨rfl, ⟨_, .inr ⟨g, ⟨cap, []⟩, _, top, rfl, rfl, hok, hB, hf.blk hb (fun e => e), ⟨rb, cur, rfl, rfl, hB2, hf.blk hr (fun e => e), hc, ht, hx⟩, hne⟩, hf.mono (fun i _ e => e.elim), .inl rfl⟩⟩
    · obtain ⟨x, hx1, hx2, hx3⟩ := last_get hl
      have hm : popS ⟨cap, l⟩ = (x, true, ⟨cap, l.dropLast⟩) := by unfold popS; simp only [hx2]
      obtain ⟨h1, h2, h3⟩ := hok
      have h1' : l.length ≤ cap := h1
      have hb2 := hb
      rw [show (Dq.mk cap l).l.length = k + 1 from hl] at hb2
      have hcx := hx k x hx1
      refine (pop_on g rb cap top k _ cur x.job x.task w hb2 hr hcx.1 hcx.2 h3 h2 ht (by omega) rfl hne').mono ?_
      rintro e w' ⟨rfl, hb', hr', hf⟩
      rw [hm] at hok'
      unfold popO
      simp only [hm]
      refine ⟨rfl, _, .inr ⟨g, ⟨cap, l.dropLast⟩, _, top, rfl, rfl, hok', hB, ?_, ⟨rb, _, rfl, rfl, hB2, hr', hc, ht, ?_⟩, hne⟩, (hf.mono (fun i _ e => .inl (by rw [e]))), .inl rfl⟩
      · rw [show (Dq.mk cap l.dropLast).l.length = k from hx3]
        exact hb'
      · intro j y hy
        exact hx j y (get_dropLast hy)
theorem steal_v (B : Nat) (w : World) (p : Value) (s : Option Dq) (r : Option Nat) (h : Dp B w p s r) :
    Calls Try.prog 12 #[p] w fun e w' => e = .returned (.tuple #[rv (stealO s).1, .bool (stealO s).2.1]) ∧ DidP B w p (stealO s).2.2 r w' := by
  rcases h with ⟨rfl, rfl, rfl⟩ | ⟨g, ⟨cap, l⟩, A, top, rfl, rfl, hok, hB, hb, ⟨rb, cur, rfl, rfl, hB2, hr, hc, ht, hx⟩, hne⟩
  · refine (steal_nil w).mono ?_
    rintro e w' ⟨rfl, hf⟩
    exact ⟨rfl, ⟨none, .inl ⟨rfl, rfl, rfl⟩, hf.mono (fun i _ e => e.elim), .inl rfl⟩⟩
  · have hne' : rb ≠ g := fun e => hne (by rw [e])
    have ht' : top < cap := ht
    have hc' : cur.size = cap * 2 := hc
    have hok' := stealS_ok hok
    rcases l with _ | ⟨x, l⟩
    · refine (steal_empty g _ _ w hb).mono ?_
      rintro e w' ⟨rfl, hf⟩
      exact ⟨rfl, ⟨_, .inr ⟨g, ⟨cap, []⟩, _, top, rfl, rfl, hok, hB, hf.blk hb (fun e => e), ⟨rb, cur, rfl, rfl, hB2, hf.blk hr (fun e => e), hc, ht, hx⟩, hne⟩, hf.mono (fun i _ e => e.elim), .inl rfl⟩⟩
    · obtain ⟨h1, h2, h3⟩ := hok
      have h1' : l.length + 1 ≤ cap := by simpa using h1
      have hcx := hx 0 x rfl
      rw [Nat.add_zero, Nat.mod_eq_of_lt ht] at hcx
      refine (steal_on g rb cap top l.length _ cur x.job x.task w hb hr hcx.1 hcx.2 h3 h2 ht (by omega) rfl hne').mono ?_
      rintro e w' ⟨rfl, hb', hr', hf⟩
      refine ⟨rfl, _, .inr ⟨g, ⟨cap, l⟩, _, (top + 1) % cap, rfl, rfl, hok', hB, hb', ⟨rb, _, rfl, rfl, hB2, hr', hc, Nat.mod_lt _ (by omega), ?_⟩, hne⟩, (hf.mono (fun i _ e => .inl (by rw [e]))), .inl rfl⟩
      intro j y hy
      have := hx (j + 1) y hy
      rw [show ((top + 1) % cap + j) % cap = (top + (j + 1)) % cap by rw [Nat.mod_add_mod]; congr 1; omega]
      exact this
theorem remove_v (B : Nat) (w : World) (p : Value) (s : Option Dq) (r : Option Nat) (h : Dp B w p s r) (j : Int) :
    Calls Try.prog 20 #[p, .int .i64 j] w fun e w' => e = .returned (.int .i64 (removeO s j).1) ∧ DidP B w p (removeO s j).2 r w' := by
  rcases h with ⟨rfl, rfl, rfl⟩ | ⟨g, ⟨cap, l⟩, A, top, rfl, rfl, hok, hB, hb, ⟨rb, cur, rfl, rfl, hB2, hr, hc, ht, hx⟩, hne⟩
  · refine (remove_nil j w).mono ?_
    rintro e w' ⟨rfl, rfl⟩
    exact ⟨rfl, none, .inl ⟨rfl, rfl, rfl⟩, Foot.refl _ _, .inl rfl⟩
  · have hne' : rb ≠ g := fun e => hne (by rw [e])
    have ht' : top < cap := ht
    have hc' : cur.size = cap * 2 := hc
    have hok' := removeS_ok hok j
    obtain ⟨h1, h2, h3⟩ := hok
    refine (remove_on g rb cap top l.length cur l j w hb hr hc h3 h2 ht rfl h1 hne' hx).mono ?_
    rintro e w' ⟨cur', rfl, hb', hr', hc', hx', hf⟩
    exact ⟨rfl, _, .inr ⟨g, ⟨cap, without l j⟩, _, top, rfl, rfl, hok', hB, hb', ⟨rb, _, rfl, rfl, hB2, hr', hc', ht, hx'⟩, hne⟩, hf.mono (fun i _ e => e.imp (fun e => by rw [e]) (fun e => by rw [e])), .inl rfl⟩
theorem len_v (B : Nat) (w : World) (p : Value) (s : Option Dq) (r : Option Nat) (h : Dp B w p s r) :
    Calls Try.prog 13 #[p] w fun e w' => e = .returned (.int .i64 (lenO s)) ∧ w = w' := by
  rcases h with ⟨rfl, rfl, rfl⟩ | ⟨g, ⟨cap, l⟩, A, top, rfl, rfl, hok, hB, hb, ⟨rb, cur, rfl, rfl, hB2, hr, hc, ht, hx⟩, hne⟩
  · exact len_nil w
  · exact len_on g _ _ _ w hb
theorem list_v (B : Nat) (w : World) (p : Value) (s : Option Dq) (r : Option Nat) (h : Dp B w p s r) :
    Calls Try.prog 26 #[p] w fun e w' => ∃ v n, e = .returned v ∧ w'.ownsRow w.heap.size 32 2 v n (rflat (listO s)) ∧ Foot (fun _ => False) w w' := by
  rcases h with ⟨rfl, rfl, rfl⟩ | ⟨g, ⟨cap, l⟩, A, top, rfl, rfl, hok, hB, hb, ⟨rb, cur, rfl, rfl, hB2, hr, hc, ht, hx⟩, hne⟩
  · refine (list_nil w).mono ?_
    rintro e w' ⟨rfl, rfl⟩
    exact ⟨_, 0, rfl, World.ownsRow_nil _ _ _ _, Foot.refl _ _⟩
  · obtain ⟨h1, h2, h3⟩ := hok
    refine (list_on g rb cap top l.length cur l w hb hr hc h3 h2 ht rfl h1 hx).mono ?_
    rintro e w' ⟨v, rfl, ho, hf⟩
    exact ⟨v, _, rfl, ho, hf⟩
theorem drain_v (B : Nat) (w : World) (p : Value) (s : Option Dq) (r : Option Nat) (h : Dp B w p s r) :
    Calls Try.prog 23 #[p] w fun e w' => ∃ v n, e = .returned v ∧ w'.ownsRow w.heap.size 32 2 v n (rflat (listO s)) ∧ Dp B w' p (drainO s) r ∧ Foot (Owned p r) w w' := by
  rcases h with ⟨rfl, rfl, rfl⟩ | ⟨g, ⟨cap, l⟩, A, top, rfl, rfl, hok, hB, hb, ⟨rb, cur, rfl, rfl, hB2, hr, hc, ht, hx⟩, hne⟩
  · refine (drain_nil w).mono ?_
    rintro e w' ⟨rfl, rfl⟩
    exact ⟨_, 0, rfl, World.ownsRow_nil _ _ _ _, .inl ⟨rfl, rfl, rfl⟩, Foot.refl _ _⟩
  · have hne' : rb ≠ g := fun e => hne (by rw [e])
    have ht' : top < cap := ht
    have hc' : cur.size = cap * 2 := hc
    have hok' := drainS_ok hok
    obtain ⟨h1, h2, h3⟩ := hok
    refine (drain_on g rb cap top l.length cur l w hb hr hc h3 h2 ht rfl h1 hne' hx).mono ?_
    rintro e w' ⟨v, rfl, ho, hb', hr', hf⟩
    exact ⟨v, _, rfl, ho, .inr ⟨g, ⟨cap, []⟩, _, 0, rfl, rfl, hok', hB, hb', ⟨rb, _, rfl, rfl, hB2, hr', hc, (by show 0 < cap; omega), fun j x hx => by simp at hx⟩, hne⟩, (hf.mono (fun i _ e => .inl (by rw [e])))⟩
end Go.Proofs.Ytmamcbemfccieaa
