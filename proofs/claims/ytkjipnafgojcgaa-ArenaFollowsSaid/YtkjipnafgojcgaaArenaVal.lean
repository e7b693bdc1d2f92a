/-
  Layer 22: the arena's functions on values (nil or a block); two arenas beside a tape.
-/
import Derived.Test.YtkjipnafgojcgaaArenaWalks2
namespace Go.Proofs.Ytkjipnafgojcgaa
open Go.RowKit
set_option linter.unusedVariables false

theorem allocS_ms (s : St) (n m : Int) : (allocS s n m).2.2.ms = s.ms := by
  unfold allocS
  split
  · rfl
  · split <;> rfl

/-- p is nil, or a block that holds the arena s, its marks in the row r. -/
def Ar (B : Nat) (T : TypeId) (w : World) (p : Value) (s : Option St) (r : Option Nat) : Prop :=
  (p = .pointer none ∧ s = none ∧ r = none) ∨ ∃ (g : Nat) (st : St) (A : Option Addr) (n k : Nat), p = .pointer (some ⟨g, 0, none⟩) ∧ s = some st ∧ st.Ok ∧ B ≤ g ∧
    Blk w g T #[.int .i64 st.c, .int .i64 st.u, .int .i64 st.h, .slice A n k] ∧ w.ownsRow B 3 1 (.slice A n k) n (st.ms.map (Value.int .i64)) ∧ (Value.slice A n k).ownBlock = r
def Owned (p : Value) (r : Option Nat) (i : Nat) : Prop := p = .pointer (some ⟨i, 0, none⟩) ∨ some i = r
def Did (B : Nat) (T : TypeId) (w : World) (p : Value) (s' : Option St) (r : Option Nat) (w' : World) : Prop :=
  ∃ r', Ar B T w' p s' r' ∧ Foot (Owned p r) w w' ∧ (r' = r ∨ ∀ x, r' = some x → w.heap.size ≤ x)
theorem Ar.low {B : Nat} {T : TypeId} {w : World} {p : Value} {s : Option St} {r : Option Nat} (h : Ar B T w p s r) : ∀ i, Owned p r i → B ≤ i ∧ i < w.heap.size := by
  intro i hi
  rcases h with ⟨rfl, rfl, rfl⟩ | ⟨g, st, A, n, k, rfl, rfl, hok, hB, hb, ho, rfl⟩
  · rcases hi with hi | hi <;> cases hi
  · rcases hi with hi | hi
    · have : g = i := by injection hi with hi; injection hi with hi; injection hi
      subst this
      exact ⟨hB, hb.lt⟩
    · exact ho.lt i hi.symm
theorem Ar.kept {B : Nat} {T : TypeId} {w w' : World} {p : Value} {s : Option St} {r : Option Nat} {S : Nat → Prop} (h : Ar B T w p s r) (hf : Foot S w w') (hs : ∀ i, Owned p r i → ¬ S i) : Ar B T w' p s r := by
  rcases h with h | ⟨g, st, A, n, k, rfl, rfl, hok, hB, hb, ho, rfl⟩
  · exact .inl h
  · exact .inr ⟨g, st, A, n, k, rfl, rfl, hok, hB, hf.blk hb (hs g (.inl rfl)), hf.row ho fun x hx => hs x (.inr hx.symm), rfl⟩

def allocO (s : Option St) (n m : Int) : Int × Int × Option St := match s with | none => (0, 20, none) | some s => ((allocS s n m).1, (allocS s n m).2.1, some (allocS s n m).2.2)
def markO (s : Option St) : Int × Option St := match s with | none => (20, none) | some s => ((markS s).1, some (markS s).2)
def releaseO (s : Option St) : Int × Option St := match s with | none => (20, none) | some s => ((releaseS s).1, some (releaseS s).2)
def resetO (s : Option St) : Option St := match s with | none => none | some s => some (resetS s)
def usedO (s : Option St) : Int := match s with | none => 0 | some s => s.u
def highO (s : Option St) : Int := match s with | none => 0 | some s => s.h
def marksO (s : Option St) : Int := match s with | none => 0 | some s => s.ms.length

theorem aalloc_v (B : Nat) (w : World) (p : Value) (s : Option St) (r : Option Nat) (h : Ar B 46 w p s r) (n m : Int) (n1 : -9223372036854775808 ≤ n) (n2 : n ≤ 9223372036854775807) (m1 : -9223372036854775808 ≤ m) (m2 : m ≤ 9223372036854775807) :
    Calls Try.prog 9 #[p, .int .i64 n, .int .i64 m] w fun e w' => e = .returned (.tuple #[.int .i64 (allocO s n m).1, .int .i64 (allocO s n m).2.1]) ∧ Did B 46 w p (allocO s n m).2.2 r w' := by
  rcases h with ⟨rfl, rfl, rfl⟩ | ⟨g, ⟨c, u, hh, ms⟩, A, k, cp, rfl, rfl, hok, hB, hb, ho, rfl⟩
  · go_enter Try.func9, Try.ntmps9
    go_wp2
    go_ret2
    exact ⟨rfl, none, .inl ⟨rfl, rfl, rfl⟩, Foot.refl _ _, .inl rfl⟩
  · have hok' := allocS_ok hok n m
    obtain ⟨h1, h2, h3, h4, h5, h6, h7, h8⟩ := hok
    refine (aalloc_on g c u hh n m ms _ w hb h1 h2 h3 h4 h5 h6 n1 n2 m1 m2).mono ?_
    rintro e w' ⟨rfl, hb', hg⟩
    refine ⟨rfl, _, .inr ⟨g, _, A, k, cp, rfl, rfl, hok', hB, hb', ?_, rfl⟩, (Foot.of hg).mono (fun i _ e => .inl (by injection e with e; subst e; rfl)), .inl rfl⟩
    rw [allocS_ms]
    exact ho.kept hg (.inr (row_ne hb (by decide) ho))
theorem amark_v (B : Nat) (w : World) (p : Value) (s : Option St) (r : Option Nat) (h : Ar B 46 w p s r) (hBw : B ≤ w.heap.size) :
    Calls Try.prog 13 #[p] w fun e w' => e = .returned (.int .i64 (markO s).1) ∧ Did B 46 w p (markO s).2 r w' := by
  rcases h with ⟨rfl, rfl, rfl⟩ | ⟨g, ⟨c, u, hh, ms⟩, A, k, cp, rfl, rfl, hok, hB, hb, ho, rfl⟩
  · go_enter Try.func13, Try.ntmps13
    go_wp2
    go_ret
    exact ⟨rfl, none, .inl ⟨rfl, rfl, rfl⟩, Foot.refl _ _, .inl rfl⟩
  · have hok' := markS_ok hok
    have hl : ms.length = k := by have := ho.1; simp only [List.length_map] at this; omega
    by_cases hk : 1024 ≤ k
    · refine (amark_full g c u hh A k cp w hb hk).mono ?_
      rintro e w' ⟨rfl, rfl⟩
      have hm : markS ⟨c, u, hh, ms⟩ = (19, ⟨c, u, hh, ms⟩) := by unfold markS; rw [if_pos (by simp only; omega)]
      unfold markO
      simp only [hm]
      exact ⟨trivial, _, .inr ⟨g, _, A, k, cp, rfl, rfl, hok, hB, hb, ho, rfl⟩, Foot.refl _ _, .inl rfl⟩
    · refine (amark_on B g c u hh A k cp _ w hBw hb ho (by omega)).mono ?_
      rintro e w' ⟨rfl, b, k', hb', ho', hf, hat⟩
      have hm : markS ⟨c, u, hh, ms⟩ = (0, ⟨c, u, hh, ms ++ [u]⟩) := by unfold markS; rw [if_neg (by simp only; omega)]
      rw [hm] at hok'
      unfold markO
      simp only [hm]
      refine ⟨trivial, _, .inr ⟨g, _, some ⟨b, 0, none⟩, k + 1, k', rfl, rfl, hok', hB, hb', ?_, rfl⟩, hf.mono (fun i _ e => e.imp (fun e => by rw [e]) id), ?_⟩
      · simpa using ho'
      · rcases hat with hat | hat
        · exact .inl hat.symm
        · exact .inr fun x hx => by injection hx with hx; subst hx; exact hat
theorem arelease_v (B : Nat) (w : World) (p : Value) (s : Option St) (r : Option Nat) (h : Ar B 46 w p s r) :
    Calls Try.prog 16 #[p] w fun e w' => e = .returned (.int .i64 (releaseO s).1) ∧ Did B 46 w p (releaseO s).2 r w' := by
  rcases h with ⟨rfl, rfl, rfl⟩ | ⟨g, ⟨c, u, hh, ms⟩, A, k, cp, rfl, rfl, hok, hB, hb, ho, rfl⟩
  · go_enter Try.func16, Try.ntmps16
    go_wp2
    go_ret
    exact ⟨rfl, none, .inl ⟨rfl, rfl, rfl⟩, Foot.refl _ _, .inl rfl⟩
  · have hok' := releaseS_ok hok
    have hl : ms.length = k := by have := ho.1; simp only [List.length_map] at this; omega
    cases k with
    | zero =>
      refine (arelease_nil g c u hh A cp w hb).mono ?_
      rintro e w' ⟨rfl, rfl⟩
      have hm : releaseS ⟨c, u, hh, ms⟩ = (20, ⟨c, u, hh, ms⟩) := by unfold releaseS; rw [if_pos hl]
      unfold releaseO
      simp only [hm]
      exact ⟨trivial, _, .inr ⟨g, _, A, 0, cp, rfl, rfl, hok, hB, hb, ho, rfl⟩, Foot.refl _ _, .inl rfl⟩
    | succ k =>
      obtain ⟨b, cap, hv, hbB, hblt⟩ := ho.form (by omega)
      injection hv with hv1 _ hv2
      subst hv1
      subst hv2
      have hne := row_ne hb (by decide) ho
      have hcell : w.cell? ⟨b, k, none⟩ = some (.int .i64 (ms.getD k 0)) := by
        rw [ho.cellAt k (by omega), List.getElem?_map, List.getD_eq_getElem?_getD, List.getElem?_eq_getElem (show k < ms.length by omega)]
        rfl
      have hcp : k + 1 ≤ cp := by
        rcases ho.2 with ⟨h, _⟩ | ⟨g', cap', cur, h, _, _, h3, _⟩
        · simp at h
        · injection h with _ _ h
          omega
      have hk8 : ms.length ≤ 1024 := hok.2.2.2.2.2.2.2
      refine (arelease_on g c u hh (ms.getD k 0) b k cp w hb hcell (fun e => hne (by rw [e]; rfl)) (by omega) hcp).mono ?_
      rintro e w' ⟨rfl, hb', hg⟩
      have hm : releaseS ⟨c, u, hh, ms⟩ = (0, ⟨c, ms.getD k 0, hh, ms.dropLast⟩) := by unfold releaseS; rw [if_neg (fun e => by have e : ms.length = 0 := e; omega)]; simp only [hl, Nat.add_sub_cancel]
      rw [hm] at hok'
      unfold releaseO
      simp only [hm]
      refine ⟨trivial, _, .inr ⟨g, _, some ⟨b, 0, none⟩, k, cp, rfl, rfl, hok', hB, hb', ?_, rfl⟩, (Foot.of hg).mono (fun i _ e => .inl (by injection e with e; subst e; rfl)), .inl rfl⟩
      have := (row_pop ho).kept hg (.inr hne)
      simpa [List.map_dropLast] using this
theorem areset_v (B : Nat) (w : World) (p : Value) (s : Option St) (r : Option Nat) (h : Ar B 46 w p s r) :
    Calls Try.prog 23 #[p] w fun e w' => e = .returned (.tuple #[]) ∧ Did B 46 w p (resetO s) r w' := by
  rcases h with ⟨rfl, rfl, rfl⟩ | ⟨g, ⟨c, u, hh, ms⟩, A, k, cp, rfl, rfl, hok, hB, hb, ho, rfl⟩
  · go_enter Try.func23, Try.ntmps23
    go_wp2
    refine bodyPost_ret (results_none rfl _ _ _) rfl ?_
    exact ⟨rfl, none, .inl ⟨rfl, rfl, rfl⟩, Foot.refl _ _, .inl rfl⟩
  · refine (areset_on g c u hh _ w hb).mono ?_
    rintro e w' ⟨rfl, hb', hg⟩
    exact ⟨rfl, _, .inr ⟨g, _, none, 0, 0, rfl, rfl, resetS_ok hok, hB, hb', World.ownsRow_nil _ _ _ _, rfl⟩, (Foot.of hg).mono (fun i _ e => .inl (by injection e with e; subst e; rfl)), .inr fun x hx => by cases hx⟩
theorem aused_v (B : Nat) (w : World) (p : Value) (s : Option St) (r : Option Nat) (h : Ar B 46 w p s r) :
    Calls Try.prog 11 #[p] w fun e w' => e = .returned (.int .i64 (usedO s)) ∧ w = w' := by
  rcases h with ⟨rfl, rfl, rfl⟩ | ⟨g, ⟨c, u, hh, ms⟩, A, k, cp, rfl, rfl, hok, hB, hb, ho, rfl⟩
  · go_enter Try.func11, Try.ntmps11
    go_wp2
    go_ret
    exact ⟨rfl, rfl⟩
  · have hl : ms.length = k := by have := ho.1; simp only [List.length_map] at this; omega
    refine (aused_on g c u hh _ w hb).mono ?_
    rintro e w' ⟨rfl, rfl⟩
    exact ⟨rfl, rfl⟩
theorem ahigh_v (B : Nat) (w : World) (p : Value) (s : Option St) (r : Option Nat) (h : Ar B 46 w p s r) :
    Calls Try.prog 15 #[p] w fun e w' => e = .returned (.int .i64 (highO s)) ∧ w = w' := by
  rcases h with ⟨rfl, rfl, rfl⟩ | ⟨g, ⟨c, u, hh, ms⟩, A, k, cp, rfl, rfl, hok, hB, hb, ho, rfl⟩
  · go_enter Try.func15, Try.ntmps15
    go_wp2
    go_ret
    exact ⟨rfl, rfl⟩
  · have hl : ms.length = k := by have := ho.1; simp only [List.length_map] at this; omega
    refine (ahigh_on g c u hh _ w hb).mono ?_
    rintro e w' ⟨rfl, rfl⟩
    exact ⟨rfl, rfl⟩
theorem amarks_v (B : Nat) (w : World) (p : Value) (s : Option St) (r : Option Nat) (h : Ar B 46 w p s r) :
    Calls Try.prog 12 #[p] w fun e w' => e = .returned (.int .i64 (marksO s)) ∧ w = w' := by
  rcases h with ⟨rfl, rfl, rfl⟩ | ⟨g, ⟨c, u, hh, ms⟩, A, k, cp, rfl, rfl, hok, hB, hb, ho, rfl⟩
  · go_enter Try.func12, Try.ntmps12
    go_wp2
    go_ret
    exact ⟨rfl, rfl⟩
  · have hl : ms.length = k := by have := ho.1; simp only [List.length_map] at this; omega
    refine (amarks_on g c u hh A k cp w hb).mono ?_
    rintro e w' ⟨rfl, rfl⟩
    exact ⟨by rw [← hl]; rfl, rfl⟩
theorem anew_no (c : Int) (w : World) (hc : c < 0 ∨ 1048576 < c) :
    Calls Try.prog 8 #[.int .i64 c] w fun e w' => e = .returned (.tuple #[.pointer none, .int .i64 2]) ∧ w = w' := by
  by_cases h1 : c < 0
  · go_enter Try.func8, Try.ntmps8
    go_wp2
    go_ret2
    exact ⟨rfl, rfl⟩
  · have h2 : 1048576 < c := by omega
    clear hc
    go_enter Try.func8, Try.ntmps8
    go_wp2
    go_ret2
    exact ⟨rfl, rfl⟩
theorem anew_yes (c : Int) (w : World) (h1 : ¬ c < 0) (h2 : ¬ 1048576 < c) :
    Calls Try.prog 8 #[.int .i64 c] w fun e w' => e = .returned (.tuple #[.pointer (some ⟨w.heap.size, 0, none⟩), .int .i64 0]) ∧ w.alloc (.cells #[.int .i64 c, .int .i64 0, .int .i64 0, .slice none 0 0] 46) = w' := by
  go_enter Try.func8, Try.ntmps8
  go_wp2
  go_ret2
  exact ⟨rfl, rfl⟩

theorem ralloc_v (B : Nat) (w : World) (p : Value) (s : Option St) (r : Option Nat) (h : Ar B 50 w p s r) (n m : Int) (n1 : -9223372036854775808 ≤ n) (n2 : n ≤ 9223372036854775807) (m1 : -9223372036854775808 ≤ m) (m2 : m ≤ 9223372036854775807) :
    Calls Try.prog 20 #[p, .int .i64 n, .int .i64 m] w fun e w' => e = .returned (.tuple #[.int .i64 (allocO s n m).1, .int .i64 (allocO s n m).2.1]) ∧ Did B 50 w p (allocO s n m).2.2 r w' := by
  rcases h with ⟨rfl, rfl, rfl⟩ | ⟨g, ⟨c, u, hh, ms⟩, A, k, cp, rfl, rfl, hok, hB, hb, ho, rfl⟩
  · go_enter Try.func20, Try.ntmps20
    go_wp2
    go_ret2
    exact ⟨rfl, none, .inl ⟨rfl, rfl, rfl⟩, Foot.refl _ _, .inl rfl⟩
  · have hok' := allocS_ok hok n m
    obtain ⟨h1, h2, h3, h4, h5, h6, h7, h8⟩ := hok
    refine (ralloc_on g c u hh n m ms _ w hb h1 h2 h3 h4 h5 h6 n1 n2 m1 m2).mono ?_
    rintro e w' ⟨rfl, hb', hg⟩
    refine ⟨rfl, _, .inr ⟨g, _, A, k, cp, rfl, rfl, hok', hB, hb', ?_, rfl⟩, (Foot.of hg).mono (fun i _ e => .inl (by injection e with e; subst e; rfl)), .inl rfl⟩
    rw [allocS_ms]
    exact ho.kept hg (.inr (row_ne hb (by decide) ho))
theorem rmark_v (B : Nat) (w : World) (p : Value) (s : Option St) (r : Option Nat) (h : Ar B 50 w p s r) (hBw : B ≤ w.heap.size) :
    Calls Try.prog 21 #[p] w fun e w' => e = .returned (.int .i64 (markO s).1) ∧ Did B 50 w p (markO s).2 r w' := by
  rcases h with ⟨rfl, rfl, rfl⟩ | ⟨g, ⟨c, u, hh, ms⟩, A, k, cp, rfl, rfl, hok, hB, hb, ho, rfl⟩
  · go_enter Try.func21, Try.ntmps21
    go_wp2
    go_ret
    exact ⟨rfl, none, .inl ⟨rfl, rfl, rfl⟩, Foot.refl _ _, .inl rfl⟩
  · have hok' := markS_ok hok
    have hl : ms.length = k := by have := ho.1; simp only [List.length_map] at this; omega
    by_cases hk : 1024 ≤ k
    · refine (rmark_full g c u hh A k cp w hb hk).mono ?_
      rintro e w' ⟨rfl, rfl⟩
      have hm : markS ⟨c, u, hh, ms⟩ = (19, ⟨c, u, hh, ms⟩) := by unfold markS; rw [if_pos (by simp only; omega)]
      unfold markO
      simp only [hm]
      exact ⟨trivial, _, .inr ⟨g, _, A, k, cp, rfl, rfl, hok, hB, hb, ho, rfl⟩, Foot.refl _ _, .inl rfl⟩
    · refine (rmark_on B g c u hh A k cp _ w hBw hb ho (by omega)).mono ?_
      rintro e w' ⟨rfl, b, k', hb', ho', hf, hat⟩
      have hm : markS ⟨c, u, hh, ms⟩ = (0, ⟨c, u, hh, ms ++ [u]⟩) := by unfold markS; rw [if_neg (by simp only; omega)]
      rw [hm] at hok'
      unfold markO
      simp only [hm]
      refine ⟨trivial, _, .inr ⟨g, _, some ⟨b, 0, none⟩, k + 1, k', rfl, rfl, hok', hB, hb', ?_, rfl⟩, hf.mono (fun i _ e => e.imp (fun e => by rw [e]) id), ?_⟩
      · simpa using ho'
      · rcases hat with hat | hat
        · exact .inl hat.symm
        · exact .inr fun x hx => by injection hx with hx; subst hx; exact hat
theorem rrelease_v (B : Nat) (w : World) (p : Value) (s : Option St) (r : Option Nat) (h : Ar B 50 w p s r) :
    Calls Try.prog 22 #[p] w fun e w' => e = .returned (.int .i64 (releaseO s).1) ∧ Did B 50 w p (releaseO s).2 r w' := by
  rcases h with ⟨rfl, rfl, rfl⟩ | ⟨g, ⟨c, u, hh, ms⟩, A, k, cp, rfl, rfl, hok, hB, hb, ho, rfl⟩
  · go_enter Try.func22, Try.ntmps22
    go_wp2
    go_ret
    exact ⟨rfl, none, .inl ⟨rfl, rfl, rfl⟩, Foot.refl _ _, .inl rfl⟩
  · have hok' := releaseS_ok hok
    have hl : ms.length = k := by have := ho.1; simp only [List.length_map] at this; omega
    cases k with
    | zero =>
      refine (rrelease_nil g c u hh A cp w hb).mono ?_
      rintro e w' ⟨rfl, rfl⟩
      have hm : releaseS ⟨c, u, hh, ms⟩ = (20, ⟨c, u, hh, ms⟩) := by unfold releaseS; rw [if_pos hl]
      unfold releaseO
      simp only [hm]
      exact ⟨trivial, _, .inr ⟨g, _, A, 0, cp, rfl, rfl, hok, hB, hb, ho, rfl⟩, Foot.refl _ _, .inl rfl⟩
    | succ k =>
      obtain ⟨b, cap, hv, hbB, hblt⟩ := ho.form (by omega)
      injection hv with hv1 _ hv2
      subst hv1
      subst hv2
      have hne := row_ne hb (by decide) ho
      have hcell : w.cell? ⟨b, k, none⟩ = some (.int .i64 (ms.getD k 0)) := by
        rw [ho.cellAt k (by omega), List.getElem?_map, List.getD_eq_getElem?_getD, List.getElem?_eq_getElem (show k < ms.length by omega)]
        rfl
      have hcp : k + 1 ≤ cp := by
        rcases ho.2 with ⟨h, _⟩ | ⟨g', cap', cur, h, _, _, h3, _⟩
        · simp at h
        · injection h with _ _ h
          omega
      have hk8 : ms.length ≤ 1024 := hok.2.2.2.2.2.2.2
      refine (rrelease_on g c u hh (ms.getD k 0) b k cp w hb hcell (fun e => hne (by rw [e]; rfl)) (by omega) hcp).mono ?_
      rintro e w' ⟨rfl, hb', hg⟩
      have hm : releaseS ⟨c, u, hh, ms⟩ = (0, ⟨c, ms.getD k 0, hh, ms.dropLast⟩) := by unfold releaseS; rw [if_neg (fun e => by have e : ms.length = 0 := e; omega)]; simp only [hl, Nat.add_sub_cancel]
      rw [hm] at hok'
      unfold releaseO
      simp only [hm]
      refine ⟨trivial, _, .inr ⟨g, _, some ⟨b, 0, none⟩, k, cp, rfl, rfl, hok', hB, hb', ?_, rfl⟩, (Foot.of hg).mono (fun i _ e => .inl (by injection e with e; subst e; rfl)), .inl rfl⟩
      have := (row_pop ho).kept hg (.inr hne)
      simpa [List.map_dropLast] using this
theorem rreset_v (B : Nat) (w : World) (p : Value) (s : Option St) (r : Option Nat) (h : Ar B 50 w p s r) :
    Calls Try.prog 24 #[p] w fun e w' => e = .returned (.tuple #[]) ∧ Did B 50 w p (resetO s) r w' := by
  rcases h with ⟨rfl, rfl, rfl⟩ | ⟨g, ⟨c, u, hh, ms⟩, A, k, cp, rfl, rfl, hok, hB, hb, ho, rfl⟩
  · go_enter Try.func24, Try.ntmps24
    go_wp2
    refine bodyPost_end (results_none rfl _ _ _) rfl ?_
    exact ⟨rfl, none, .inl ⟨rfl, rfl, rfl⟩, Foot.refl _ _, .inl rfl⟩
  · refine (rreset_on g c u hh _ w hb).mono ?_
    rintro e w' ⟨rfl, hb', hg⟩
    exact ⟨rfl, _, .inr ⟨g, _, none, 0, 0, rfl, rfl, resetS_ok hok, hB, hb', World.ownsRow_nil _ _ _ _, rfl⟩, (Foot.of hg).mono (fun i _ e => .inl (by injection e with e; subst e; rfl)), .inr fun x hx => by cases hx⟩
theorem rused_v (B : Nat) (w : World) (p : Value) (s : Option St) (r : Option Nat) (h : Ar B 50 w p s r) :
    Calls Try.prog 25 #[p] w fun e w' => e = .returned (.int .i64 (usedO s)) ∧ w = w' := by
  rcases h with ⟨rfl, rfl, rfl⟩ | ⟨g, ⟨c, u, hh, ms⟩, A, k, cp, rfl, rfl, hok, hB, hb, ho, rfl⟩
  · go_enter Try.func25, Try.ntmps25
    go_wp2
    go_ret
    exact ⟨rfl, rfl⟩
  · have hl : ms.length = k := by have := ho.1; simp only [List.length_map] at this; omega
    refine (rused_on g c u hh _ w hb).mono ?_
    rintro e w' ⟨rfl, rfl⟩
    exact ⟨rfl, rfl⟩
theorem rhigh_v (B : Nat) (w : World) (p : Value) (s : Option St) (r : Option Nat) (h : Ar B 50 w p s r) :
    Calls Try.prog 26 #[p] w fun e w' => e = .returned (.int .i64 (highO s)) ∧ w = w' := by
  rcases h with ⟨rfl, rfl, rfl⟩ | ⟨g, ⟨c, u, hh, ms⟩, A, k, cp, rfl, rfl, hok, hB, hb, ho, rfl⟩
  · go_enter Try.func26, Try.ntmps26
    go_wp2
    go_ret
    exact ⟨rfl, rfl⟩
  · have hl : ms.length = k := by have := ho.1; simp only [List.length_map] at this; omega
    refine (rhigh_on g c u hh _ w hb).mono ?_
    rintro e w' ⟨rfl, rfl⟩
    exact ⟨rfl, rfl⟩
theorem rmarks_v (B : Nat) (w : World) (p : Value) (s : Option St) (r : Option Nat) (h : Ar B 50 w p s r) :
    Calls Try.prog 27 #[p] w fun e w' => e = .returned (.int .i64 (marksO s)) ∧ w = w' := by
  rcases h with ⟨rfl, rfl, rfl⟩ | ⟨g, ⟨c, u, hh, ms⟩, A, k, cp, rfl, rfl, hok, hB, hb, ho, rfl⟩
  · go_enter Try.func27, Try.ntmps27
    go_wp2
    go_ret
    exact ⟨rfl, rfl⟩
  · have hl : ms.length = k := by have := ho.1; simp only [List.length_map] at this; omega
    refine (rmarks_on g c u hh A k cp w hb).mono ?_
    rintro e w' ⟨rfl, rfl⟩
    exact ⟨by rw [← hl]; rfl, rfl⟩
theorem rnew_no (c : Int) (w : World) (hc : c < 0 ∨ 1048576 < c) :
    Calls Try.prog 18 #[.int .i64 c] w fun e w' => e = .returned (.tuple #[.pointer none, .int .i64 2]) ∧ w = w' := by
  by_cases h1 : c < 0
  · go_enter Try.func18, Try.ntmps18
    go_wp2
    go_ret2
    exact ⟨rfl, rfl⟩
  · have h2 : 1048576 < c := by omega
    clear hc
    go_enter Try.func18, Try.ntmps18
    go_wp2
    go_ret2
    exact ⟨rfl, rfl⟩
theorem rnew_yes (c : Int) (w : World) (h1 : ¬ c < 0) (h2 : ¬ 1048576 < c) :
    Calls Try.prog 18 #[.int .i64 c] w fun e w' => e = .returned (.tuple #[.pointer (some ⟨w.heap.size, 0, none⟩), .int .i64 0]) ∧ w.alloc (.cells #[.int .i64 c, .int .i64 0, .int .i64 0, .slice none 0 0] 50) = w' := by
  go_enter Try.func18, Try.ntmps18
  go_wp2
  go_ret2
  exact ⟨rfl, rfl⟩
end Go.Proofs.Ytkjipnafgojcgaa
