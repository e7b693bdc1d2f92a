/-
  Layer 23: the reference's functions on values (nil or a block with a row).
-/
import Derived.Test.YtmamcbemfccieaaDeqJ
namespace Go.Proofs.Ytmamcbemfccieaa
open Go.RowKit
set_option linter.unusedVariables false

/-- p is nil, or a block that holds the reference's deque s, its list in block r. -/
def Dr (B : Nat) (w : World) (p : Value) (s : Option Dq) (r : Option Nat) : Prop :=
  (p = .pointer none ∧ s = none ∧ r = none) ∨ ∃ (g : Nat) (st : Dq) (A : Option Addr) (n k : Nat), p = .pointer (some ⟨g, 0, none⟩) ∧ s = some st ∧ st.Ok ∧ B ≤ g ∧
    Blk w g 50 #[.int .i64 (st.cap : Int), .slice A n k] ∧ w.ownsRow B 32 2 (.slice A n k) n (rflat st.l) ∧ (Value.slice A n k).ownBlock = r
def DidR (B : Nat) (w : World) (p : Value) (s' : Option Dq) (r : Option Nat) (w' : World) : Prop :=
  ∃ r', Dr B w' p s' r' ∧ Foot (Owned p r) w w' ∧ (r' = r ∨ ∀ x, r' = some x → w.heap.size ≤ x)
theorem Dr.low {B : Nat} {w : World} {p : Value} {s : Option Dq} {r : Option Nat} (h : Dr B w p s r) : ∀ i, Owned p r i → B ≤ i ∧ i < w.heap.size := by
  intro i hi
  rcases h with ⟨rfl, rfl, rfl⟩ | ⟨g, st, A, n, k, rfl, rfl, hok, hB, hb, ho, rfl⟩
  · rcases hi with hi | hi <;> cases hi
  · rcases hi with hi | hi
    · have : g = i := by injection hi with hi; injection hi with hi; injection hi
      subst this
      exact ⟨hB, hb.lt⟩
    · exact ho.lt i hi.symm
theorem Dr.kept {B : Nat} {w w' : World} {p : Value} {s : Option Dq} {r : Option Nat} {S : Nat → Prop} (h : Dr B w p s r) (hf : Foot S w w') (hs : ∀ i, Owned p r i → ¬ S i) : Dr B w' p s r := by
  rcases h with h | ⟨g, st, A, n, k, rfl, rfl, hok, hB, hb, ho, rfl⟩
  · exact .inl h
  · exact .inr ⟨g, st, A, n, k, rfl, rfl, hok, hB, hf.blk hb (hs g (.inl rfl)), hf.row ho fun x hx => hs x (.inr hx.symm), rfl⟩

theorem rpush_v (B : Nat) (w : World) (p : Value) (s : Option Dq) (r : Option Nat) (h : Dr B w p s r) (hBw : B ≤ w.heap.size) (x : Rf) :
    Calls Try.prog 17 #[p, rv x] w fun e w' => e = .returned (.int .i64 (pushO s x).1) ∧ DidR B w p (pushO s x).2 r w' := by
  rcases h with ⟨rfl, rfl, rfl⟩ | ⟨g, ⟨cap, l⟩, A, n, k, rfl, rfl, hok, hB, hb, ho, rfl⟩
  · refine (rpush_nil x.job x.task w).mono ?_
    rintro e w' ⟨rfl, hf⟩
    exact ⟨rfl, ⟨none, .inl ⟨rfl, rfl, rfl⟩, hf.mono (fun i _ e => e.elim), .inl rfl⟩⟩
  · have hl : l.length = n := own_len ho
    have hne := row_ne hb (by decide) ho
    have hg := hb.lt
    have hok0 := hok
    obtain ⟨h1, h2, h3⟩ := hok0
    have h1' : l.length ≤ cap := h1
    have h2' : cap ≤ 256 := h2
    have h3' : 1 ≤ cap := h3
    by_cases hfu : l.length = cap
    · have hm : pushS ⟨cap, l⟩ x = (19, ⟨cap, l⟩) := by unfold pushS; rw [if_pos hfu]
      refine (rpush_full g n k cap A x.job x.task w hb h3' (by omega)).mono ?_
      rintro e w' ⟨rfl, hf⟩
      unfold pushO
      simp only [hm]
      exact ⟨trivial, ⟨_, .inr ⟨g, ⟨cap, l⟩, A, n, k, rfl, rfl, hok, hB, hf.blk hb (fun e => e), hf.row ho (fun _ _ e => e), rfl⟩, hf.mono (fun i _ e => e.elim), .inl rfl⟩⟩
    · have hm : pushS ⟨cap, l⟩ x = (0, ⟨cap, l ++ [x]⟩) := by unfold pushS; rw [if_neg hfu]
      refine (rpush_on B g n k cap A x.job x.task _ w hBw hb ho (by omega) h2').mono ?_
      rintro e w' ⟨rfl, b, k', hb', ho', hf, hat⟩
      unfold pushO
      simp only [hm]
      refine ⟨trivial, _, .inr ⟨g, ⟨cap, l ++ [x]⟩, some ⟨b, 0, none⟩, n + 1, k', rfl, rfl, ⟨by simp only [List.length_append, List.length_singleton]; omega, h2, h3⟩, hB, hb', ?_, rfl⟩, hf.mono (fun i _ e => e.imp (fun e => by rw [e]) id), ?_⟩
      · rw [rflat_append, rflat_one]
        exact ho'
      · rcases hat with hat | hat
        · exact .inl hat.symm
        · exact .inr fun y hy => by injection hy with hy; subst hy; exact hat
theorem rpop_v (B : Nat) (w : World) (p : Value) (s : Option Dq) (r : Option Nat) (h : Dr B w p s r) :
    Calls Try.prog 18 #[p] w fun e w' => e = .returned (.tuple #[rv (popO s).1, .bool (popO s).2.1]) ∧ DidR B w p (popO s).2.2 r w' := by
  rcases h with ⟨rfl, rfl, rfl⟩ | ⟨g, ⟨cap, l⟩, A, n, k, rfl, rfl, hok, hB, hb, ho, rfl⟩
  · refine (rpop_nil w).mono ?_
    rintro e w' ⟨rfl, hf⟩
    exact ⟨rfl, ⟨none, .inl ⟨rfl, rfl, rfl⟩, hf.mono (fun i _ e => e.elim), .inl rfl⟩⟩
  · have hl : l.length = n := own_len ho
    have hne := row_ne hb (by decide) ho
    have hg := hb.lt
    have hok' := popS_ok hok
    rcases n with _ | n
    · have hl0 : l = [] := List.eq_nil_of_length_eq_zero hl
      subst hl0
      refine (rpop_empty g k _ A w hb).mono ?_
      rintro e w' ⟨rfl, hf⟩
      exact ⟨rfl, ⟨_, .inr ⟨g, ⟨cap, []⟩, A, 0, k, rfl, rfl, hok, hB, hf.blk hb (fun e => e), hf.row ho (fun _ _ e => e), rfl⟩, hf.mono (fun i _ e => e.elim), .inl rfl⟩⟩
    · obtain ⟨x, hx1, hx2, hx3⟩ := last_get hl
      have hm : popS ⟨cap, l⟩ = (x, true, ⟨cap, l.dropLast⟩) := by unfold popS; simp only [hx2]
      have h1' : l.length ≤ cap := hok.1
      have h2' : cap ≤ 256 := hok.2.1
      obtain ⟨a, rfl⟩ : ∃ a, A = some a := by
        cases A with
        | none => exact absurd (own_nil ho).1 (by omega)
        | some a => exact ⟨a, rfl⟩
      obtain ⟨b, rfl, hk1, hk2, hbl⟩ := own_off ho
      have hp := own_pair ho hx1
      refine (rpop_on g b n k _ x.job x.task w hb hp.1 hp.2 hbl (fun e => hne (by rw [e]; rfl)) (by omega) hk1).mono ?_
      rintro e w' ⟨rfl, hb', hf⟩
      rw [hm] at hok'
      unfold popO
      simp only [hm]
      exact ⟨rfl, _, .inr ⟨g, ⟨cap, l.dropLast⟩, _, n, k, rfl, rfl, hok', hB, hb', hf.row (row_pop ho) (fun y hy e => hne (by rw [e] at hy; exact hy)), rfl⟩, (hf.mono (fun i _ e => .inl (by rw [e]))), .inl rfl⟩
theorem rsteal_v (B : Nat) (w : World) (p : Value) (s : Option Dq) (r : Option Nat) (h : Dr B w p s r) :
    Calls Try.prog 19 #[p] w fun e w' => e = .returned (.tuple #[rv (stealO s).1, .bool (stealO s).2.1]) ∧ DidR B w p (stealO s).2.2 r w' := by
  rcases h with ⟨rfl, rfl, rfl⟩ | ⟨g, ⟨cap, l⟩, A, n, k, rfl, rfl, hok, hB, hb, ho, rfl⟩
  · refine (rsteal_nil w).mono ?_
    rintro e w' ⟨rfl, hf⟩
    exact ⟨rfl, ⟨none, .inl ⟨rfl, rfl, rfl⟩, hf.mono (fun i _ e => e.elim), .inl rfl⟩⟩
  · have hl : l.length = n := own_len ho
    have hne := row_ne hb (by decide) ho
    have hg := hb.lt
    have hok' := stealS_ok hok
    have hBw : B ≤ w.heap.size := by omega
    rcases l with _ | ⟨x, l⟩
    · have hn0 : n = 0 := hl.symm
      subst hn0
      refine (rsteal_empty g k _ A w hb).mono ?_
      rintro e w' ⟨rfl, hf⟩
      exact ⟨rfl, ⟨_, .inr ⟨g, ⟨cap, []⟩, A, 0, k, rfl, rfl, hok, hB, hf.blk hb (fun e => e), hf.row ho (fun _ _ e => e), rfl⟩, hf.mono (fun i _ e => e.elim), .inl rfl⟩⟩
    · have h1' : l.length + 1 ≤ cap := by simpa using hok.1
      have h2' : cap ≤ 256 := hok.2.1
      obtain ⟨m, rfl⟩ : ∃ m, n = m + 1 := ⟨l.length, by rw [← hl]; rfl⟩
      have hlm : l.length = m := by simpa using hl
      obtain ⟨a, rfl⟩ : ∃ a, A = some a := by
        cases A with
        | none => exact absurd (own_nil ho).1 (by omega)
        | some a => exact ⟨a, rfl⟩
      obtain ⟨b, rfl, hk1, hk2, hbl⟩ := own_off ho
      refine (rsteal_on g b m k _ x l w hb (own_low ho (Nat.zero_le _)) (by omega)).mono ?_
      rintro e w' ⟨rfl, v', hb', ho', hf⟩
      obtain ⟨A', c', rfl⟩ := own_form ho'
      exact ⟨rfl, _, .inr ⟨g, ⟨cap, l⟩, A', m, c', rfl, rfl, hok', hB, hb', own_low ho' hBw, rfl⟩, (hf.mono (fun i _ e => .inl (by rw [e]))), .inr (fun y hy => (ho'.lt y hy).1)⟩
theorem rremove_v (B : Nat) (w : World) (p : Value) (s : Option Dq) (r : Option Nat) (h : Dr B w p s r) (j : Int) :
    Calls Try.prog 21 #[p, .int .i64 j] w fun e w' => e = .returned (.int .i64 (removeO s j).1) ∧ DidR B w p (removeO s j).2 r w' := by
  rcases h with ⟨rfl, rfl, rfl⟩ | ⟨g, ⟨cap, l⟩, A, n, k, rfl, rfl, hok, hB, hb, ho, rfl⟩
  · refine (rremove_nil j w).mono ?_
    rintro e w' ⟨rfl, rfl⟩
    exact ⟨rfl, none, .inl ⟨rfl, rfl, rfl⟩, Foot.refl _ _, .inl rfl⟩
  · have hl : l.length = n := own_len ho
    have hne := row_ne hb (by decide) ho
    have hg := hb.lt
    have hok' := removeS_ok hok j
    have h1' : l.length ≤ cap := hok.1
    have h2' : cap ≤ 256 := hok.2.1
    have hBw : B ≤ w.heap.size := by omega
    refine (rremove_on g n k _ A l j w hb (own_low ho (Nat.zero_le _)) (by omega)).mono ?_
    rintro e w' ⟨rfl, v', hb', ho', hf⟩
    obtain ⟨A', c', rfl⟩ := own_form ho'
    subst hl
    exact ⟨rfl, _, .inr ⟨g, ⟨cap, without l j⟩, A', _, c', rfl, rfl, hok', hB, hb', own_low ho' hBw, rfl⟩, (hf.mono (fun i _ e => .inl (by rw [e]))), .inr (fun y hy => (ho'.lt y hy).1)⟩
theorem rlen_v (B : Nat) (w : World) (p : Value) (s : Option Dq) (r : Option Nat) (h : Dr B w p s r) :
    Calls Try.prog 25 #[p] w fun e w' => e = .returned (.int .i64 (lenO s)) ∧ w = w' := by
  rcases h with ⟨rfl, rfl, rfl⟩ | ⟨g, ⟨cap, l⟩, A, n, k, rfl, rfl, hok, hB, hb, ho, rfl⟩
  · exact rlen_nil w
  · have hl : l.length = n := own_len ho
    subst hl
    exact rlen_on g _ k _ A w hb
theorem rlist_v (B : Nat) (w : World) (p : Value) (s : Option Dq) (r : Option Nat) (h : Dr B w p s r) :
    Calls Try.prog 27 #[p] w (ListPost (listO s) w) := by
  rcases h with ⟨rfl, rfl, rfl⟩ | ⟨g, ⟨cap, l⟩, A, n, k, rfl, rfl, hok, hB, hb, ho, rfl⟩
  · refine (rlist_nil w).mono ?_
    rintro e w' ⟨rfl, rfl⟩
    exact ⟨_, 0, rfl, World.ownsRow_nil _ _ _ _, Foot.refl _ _⟩
  · have hl : l.length = n := own_len ho
    have hne := row_ne hb (by decide) ho
    have hg := hb.lt
    have h1' : l.length ≤ cap := hok.1
    have h2' : cap ≤ 256 := hok.2.1
    exact rlist_on g n k _ A l w hb (own_low ho (Nat.zero_le _)) (by omega)
theorem rdrain_v (B : Nat) (w : World) (p : Value) (s : Option Dq) (r : Option Nat) (h : Dr B w p s r) :
    Calls Try.prog 24 #[p] w fun e w' => ∃ v n, e = .returned v ∧ w'.ownsRow 0 32 2 v n (rflat (listO s)) ∧ (DidR B w p (drainO s) r w' ∧ (v.ownBlock = none ∨ v.ownBlock = r)) := by
  rcases h with ⟨rfl, rfl, rfl⟩ | ⟨g, ⟨cap, l⟩, A, n, k, rfl, rfl, hok, hB, hb, ho, rfl⟩
  · refine (rdrain_nil w).mono ?_
    rintro e w' ⟨rfl, rfl⟩
    exact ⟨_, 0, rfl, World.ownsRow_nil _ _ _ _, ⟨none, .inl ⟨rfl, rfl, rfl⟩, Foot.refl _ _, .inl rfl⟩, .inl rfl⟩
  · have hl : l.length = n := own_len ho
    have hne := row_ne hb (by decide) ho
    have hg := hb.lt
    have hok' := drainS_ok hok
    refine (rdrain_on g n k _ A w hb).mono ?_
    rintro e w' ⟨rfl, hb', hg'⟩
    exact ⟨_, n, rfl, own_low (ho.kept hg' (.inr hne)) (Nat.zero_le _), ⟨none, .inr ⟨g, ⟨cap, []⟩, none, 0, 0, rfl, rfl, hok', hB, hb', World.ownsRow_nil _ _ _ _, rfl⟩, (Foot.of hg').mono (fun i _ e => .inl (by injection e with e; rw [e])), .inr (fun y hy => by cases hy)⟩, .inr rfl⟩
end Go.Proofs.Ytmamcbemfccieaa
