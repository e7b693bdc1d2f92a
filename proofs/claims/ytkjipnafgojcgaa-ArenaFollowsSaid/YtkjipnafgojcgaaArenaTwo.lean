/-
  Layer 22: two arenas beside a tape; the chapter's example.
-/
import Derived.Test.YtkjipnafgojcgaaArenaVal
namespace Go.Proofs.Ytkjipnafgojcgaa
open Go.RowKit
set_option linter.unusedVariables false

def Two (B : Nat) (gt : Option Nat) (w0 w : World) (pa pb : Value) (sa sb : Option St) : Prop :=
  ∃ ra rb, Ar B 46 w pa sa ra ∧ Ar B 50 w pb sb rb ∧ (∀ g, gt = some g → TapeAt B g w ∧ ¬ Owned pa ra g ∧ ¬ Owned pb rb g) ∧ (∀ i, Owned pa ra i → ¬ Owned pb rb i) ∧ Below B w0 w ∧ B ≤ w0.heap.size
theorem did_sub {B : Nat} {T : TypeId} {w w' : World} {p : Value} {r r' : Option Nat} (hr : r' = r ∨ ∀ x, r' = some x → w.heap.size ≤ x) : ∀ i, Owned p r' i → Owned p r i ∨ w.heap.size ≤ i := by
  intro i hi
  rcases hi with hi | hi
  · exact .inl (.inl hi)
  · rcases hr with rfl | hr
    · exact .inl (.inr hi)
    · exact .inr (hr i hi.symm)
theorem Two.didA {B : Nat} {gt : Option Nat} {w0 w w' : World} {pa pb : Value} {sa sb sa' : Option St} {ra rb : Option Nat} (ha : Ar B 46 w pa sa ra) (hb : Ar B 50 w pb sb rb) (ht : ∀ g, gt = some g → TapeAt B g w ∧ ¬ Owned pa ra g ∧ ¬ Owned pb rb g) (hab : ∀ i, Owned pa ra i → ¬ Owned pb rb i) (hbl : Below B w0 w) (hB : B ≤ w0.heap.size)
    (hd : Did B 46 w pa sa' ra w') : Two B gt w0 w' pa pb sa' sb := by
  obtain ⟨r', ha', hf, hr⟩ := hd
  have sub := did_sub (B := B) (T := 46) (w' := w') (p := pa) hr
  refine ⟨r', rb, ha', hb.kept hf (fun i hi hi2 => hab i hi2 hi), fun g hg => ?_, fun i hi => ?_, hf.below hbl (fun i hi => (ha.low i hi).1) hB, hB⟩
  · obtain ⟨h1, h2, h3⟩ := ht g hg
    exact ⟨hf.taped h1 h2 (fun i hi => (ha.low i hi).1), fun e => (sub g e).elim h2 (fun l => by have := h1.lt; omega), h3⟩
  · rcases sub i hi with h | h
    · exact hab i h
    · intro h2
      have := (hb.low i h2).2
      omega
theorem Two.didB {B : Nat} {gt : Option Nat} {w0 w w' : World} {pa pb : Value} {sa sb sb' : Option St} {ra rb : Option Nat} (ha : Ar B 46 w pa sa ra) (hb : Ar B 50 w pb sb rb) (ht : ∀ g, gt = some g → TapeAt B g w ∧ ¬ Owned pa ra g ∧ ¬ Owned pb rb g) (hab : ∀ i, Owned pa ra i → ¬ Owned pb rb i) (hbl : Below B w0 w) (hB : B ≤ w0.heap.size)
    (hd : Did B 50 w pb sb' rb w') : Two B gt w0 w' pa pb sa sb' := by
  obtain ⟨r', hb', hf, hr⟩ := hd
  have sub := did_sub (B := B) (T := 50) (w' := w') (p := pb) hr
  refine ⟨ra, r', ha.kept hf (fun i hi hi2 => hab i hi hi2), hb', fun g hg => ?_, fun i hi h2 => ?_, hf.below hbl (fun i hi => (hb.low i hi).1) hB, hB⟩
  · obtain ⟨h1, h2, h3⟩ := ht g hg
    exact ⟨hf.taped h1 h3 (fun i hi => (hb.low i hi).1), h2, fun e => (sub g e).elim h3 (fun l => by have := h1.lt; omega)⟩
  · rcases sub i h2 with h | h
    · exact hab i hi h
    · have := (ha.low i hi).2
      omega
theorem Two.tape {B g : Nat} {w0 w w' : World} {pa pb : Value} {sa sb : Option St} (h : Two B (some g) w0 w pa pb sa sb) (ht' : TapeAt B g w') (hg : w.grownBy w' (some g)) : Two B (some g) w0 w' pa pb sa sb := by
  obtain ⟨ra, rb, ha, hb, ht, hab, hbl, hB⟩ := h
  obtain ⟨h1, h2, h3⟩ := ht g rfl
  refine ⟨ra, rb, ha.kept (Foot.of hg) (fun i hi e => h2 (by injection e with e; subst e; exact hi)), hb.kept (Foot.of hg) (fun i hi e => h3 (by injection e with e; subst e; exact hi)), ?_, hab, (Foot.of hg).below hbl (fun i e => by injection e with e; subst e; exact ht'.1) hB, hB⟩
  intro g' hg'
  injection hg' with hg'
  subst hg'
  exact ⟨ht', h2, h3⟩
theorem Two.after {B : Nat} {gt : Option Nat} {w0 w w' : World} {pa pb : Value} {sa sb : Option St} (h : Two B gt w0 w pa pb sa sb) (hw : Below w.heap.size w w') : Two B gt w0 w' pa pb sa sb := by
  obtain ⟨ra, rb, ha, hb, ht, hab, hbl, hB⟩ := h
  have hf : Foot (fun _ => False) w w' := Foot.after hw
  exact ⟨ra, rb, ha.kept hf (fun _ _ e => e), hb.kept hf (fun _ _ e => e), fun g hg => ⟨(ht g hg).1.below hw, (ht g hg).2⟩, hab, hf.below hbl (fun _ e => e.elim) hB, hB⟩
theorem Two.alloc {B : Nat} {gt : Option Nat} {w0 w : World} {pa pb : Value} {sa sb : Option St} (h : Two B gt w0 w pa pb sa sb) (o : Obj) : Two B gt w0 (w.alloc o) pa pb sa sb := h.after ((Below.refl _ _).alloc (Nat.le_refl _) _)
theorem Two.nil {B : Nat} {gt : Option Nat} {w0 w : World} (ht : ∀ g, gt = some g → TapeAt B g w) (hbl : Below B w0 w) (hB : B ≤ w0.heap.size) : Two B gt w0 w (.pointer none) (.pointer none) none none := by
  have no : ∀ i, ¬ Owned (.pointer none) none i := fun i e => by rcases e with e | e <;> cases e
  exact ⟨none, none, .inl ⟨rfl, rfl, rfl⟩, .inl ⟨rfl, rfl, rfl⟩, fun g hg => ⟨ht g hg, no g, no g⟩, fun i e => (no i e).elim, hbl, hB⟩
theorem Two.bel {B : Nat} {gt : Option Nat} {w0 w : World} {pa pb : Value} {sa sb : Option St} (h : Two B gt w0 w pa pb sa sb) : Below B w0 w := by
  obtain ⟨ra, rb, ha, hb, ht, hab, hbl, hB⟩ := h
  exact hbl
theorem Two.taped {B g : Nat} {w0 w : World} {pa pb : Value} {sa sb : Option St} (h : Two B (some g) w0 w pa pb sa sb) : TapeAt B g w := by
  obtain ⟨ra, rb, ha, hb, ht, hab, hbl, hB⟩ := h
  exact (ht g rfl).1
theorem Two.okA {B : Nat} {gt : Option Nat} {w0 w : World} {pa pb : Value} {s : St} {sb : Option St} (h : Two B gt w0 w pa pb (some s) sb) : s.Ok := by
  obtain ⟨ra, rb, ha, hb, ht, hab, hbl, hB⟩ := h
  rcases ha with ⟨_, e, _⟩ | ⟨g, st, A, n, k, _, e, hok, _⟩
  · cases e
  · injection e with e; subst e; exact hok
theorem Two.newA {B : Nat} {gt : Option Nat} {w0 w : World} {pb : Value} {sb : Option St} {c : Int} (h : Two B gt w0 w (.pointer none) pb none sb) (h1 : ¬ c < 0) (h2 : ¬ 1048576 < c) : Two B gt w0 (w.alloc (.cells #[.int .i64 c, .int .i64 0, .int .i64 0, .slice none 0 0] 46)) (.pointer (some ⟨w.heap.size, 0, none⟩)) pb (some ⟨c, 0, 0, []⟩) sb := by
  obtain ⟨ra, rb, ha, hb, ht, hab, hbl, hB⟩ := h
  have hw : Below w.heap.size w (w.alloc (.cells #[.int .i64 c, .int .i64 0, .int .i64 0, .slice none 0 0] 46)) := (Below.refl _ _).alloc (Nat.le_refl _) _
  have hf : Foot (fun _ => False) w (w.alloc (.cells #[.int .i64 c, .int .i64 0, .int .i64 0, .slice none 0 0] 46)) := Foot.after hw
  have hs := hbl.size
  have hn : Ar B 46 (w.alloc (.cells #[.int .i64 c, .int .i64 0, .int .i64 0, .slice none 0 0] 46)) (.pointer (some ⟨w.heap.size, 0, none⟩)) (some ⟨c, 0, 0, []⟩) none :=
    .inr ⟨w.heap.size, _, none, 0, 0, rfl, rfl, ⟨by simp only; omega, by simp only; omega, Int.le_refl _, by simp only; omega, Int.le_refl _, by simp only; omega, fun x hx => by simp at hx, by simp⟩, by omega, Blk.new w _ _, World.ownsRow_nil _ _ _ _, rfl⟩
  have own : ∀ i, Owned (.pointer (some ⟨w.heap.size, 0, none⟩)) none i → i = w.heap.size := by
    intro i e
    rcases e with e | e
    · injection e with e; injection e with e; injection e with e; exact e.symm
    · cases e
  refine ⟨none, rb, hn, hb.kept hf (fun _ _ e => e), fun g hg => ⟨(ht g hg).1.below hw, fun e => ?_, (ht g hg).2.2⟩, fun i e e2 => ?_, hf.below hbl (fun _ e => e.elim) hB, hB⟩
  · have := (ht g hg).1.lt
    have := own g e
    omega
  · have := own i e
    have := (hb.low i e2).2
    omega
theorem Two.newB {B : Nat} {gt : Option Nat} {w0 w : World} {pa : Value} {sa : Option St} {c : Int} (h : Two B gt w0 w pa (.pointer none) sa none) (h1 : ¬ c < 0) (h2 : ¬ 1048576 < c) : Two B gt w0 (w.alloc (.cells #[.int .i64 c, .int .i64 0, .int .i64 0, .slice none 0 0] 50)) pa (.pointer (some ⟨w.heap.size, 0, none⟩)) sa (some ⟨c, 0, 0, []⟩) := by
  obtain ⟨ra, rb, ha, hb, ht, hab, hbl, hB⟩ := h
  have hw : Below w.heap.size w (w.alloc (.cells #[.int .i64 c, .int .i64 0, .int .i64 0, .slice none 0 0] 50)) := (Below.refl _ _).alloc (Nat.le_refl _) _
  have hf : Foot (fun _ => False) w (w.alloc (.cells #[.int .i64 c, .int .i64 0, .int .i64 0, .slice none 0 0] 50)) := Foot.after hw
  have hs := hbl.size
  have hn : Ar B 50 (w.alloc (.cells #[.int .i64 c, .int .i64 0, .int .i64 0, .slice none 0 0] 50)) (.pointer (some ⟨w.heap.size, 0, none⟩)) (some ⟨c, 0, 0, []⟩) none :=
    .inr ⟨w.heap.size, _, none, 0, 0, rfl, rfl, ⟨by simp only; omega, by simp only; omega, Int.le_refl _, by simp only; omega, Int.le_refl _, by simp only; omega, fun x hx => by simp at hx, by simp⟩, by omega, Blk.new w _ _, World.ownsRow_nil _ _ _ _, rfl⟩
  have own : ∀ i, Owned (.pointer (some ⟨w.heap.size, 0, none⟩)) none i → i = w.heap.size := by
    intro i e
    rcases e with e | e
    · injection e with e; injection e with e; injection e with e; exact e.symm
    · cases e
  refine ⟨ra, none, ha.kept hf (fun _ _ e => e), hn, fun g hg => ⟨(ht g hg).1.below hw, (ht g hg).2.1, fun e => ?_⟩, fun i e e2 => ?_, hf.below hbl (fun _ e => e.elim) hB, hB⟩
  · have := (ht g hg).1.lt
    have := own g e
    omega
  · have := own i e2
    have := (ha.low i e).2
    omega
theorem aalloc_t {B : Nat} {gt : Option Nat} {w0 w : World} {pa pb : Value} {sa sb : Option St} (h : Two B gt w0 w pa pb sa sb) (n m : Int) (n1 : -9223372036854775808 ≤ n) (n2 : n ≤ 9223372036854775807) (m1 : -9223372036854775808 ≤ m) (m2 : m ≤ 9223372036854775807) :
    Calls Try.prog 9 #[pa, .int .i64 n, .int .i64 m] w fun e w' => e = .returned (.tuple #[.int .i64 (allocO sa n m).1, .int .i64 (allocO sa n m).2.1]) ∧ Two B gt w0 w' pa pb (allocO sa n m).2.2 sb := by
  obtain ⟨ra, rb, ha, hb, ht, hab, hbl, hB⟩ := h
  exact (aalloc_v B w pa sa _ ha n m n1 n2 m1 m2).mono fun e w' hh => ⟨hh.1, Two.didA ha hb ht hab hbl hB hh.2⟩
theorem amark_t {B : Nat} {gt : Option Nat} {w0 w : World} {pa pb : Value} {sa sb : Option St} (h : Two B gt w0 w pa pb sa sb) :
    Calls Try.prog 13 #[pa] w fun e w' => e = .returned (.int .i64 (markO sa).1) ∧ Two B gt w0 w' pa pb (markO sa).2 sb := by
  obtain ⟨ra, rb, ha, hb, ht, hab, hbl, hB⟩ := h
  exact (amark_v B w pa sa _ ha (by have := hbl.size; omega)).mono fun e w' hh => ⟨hh.1, Two.didA ha hb ht hab hbl hB hh.2⟩
theorem arelease_t {B : Nat} {gt : Option Nat} {w0 w : World} {pa pb : Value} {sa sb : Option St} (h : Two B gt w0 w pa pb sa sb) :
    Calls Try.prog 16 #[pa] w fun e w' => e = .returned (.int .i64 (releaseO sa).1) ∧ Two B gt w0 w' pa pb (releaseO sa).2 sb := by
  obtain ⟨ra, rb, ha, hb, ht, hab, hbl, hB⟩ := h
  exact (arelease_v B w pa sa _ ha).mono fun e w' hh => ⟨hh.1, Two.didA ha hb ht hab hbl hB hh.2⟩
theorem areset_t {B : Nat} {gt : Option Nat} {w0 w : World} {pa pb : Value} {sa sb : Option St} (h : Two B gt w0 w pa pb sa sb) :
    Calls Try.prog 23 #[pa] w fun e w' => e = .returned (.tuple #[]) ∧ Two B gt w0 w' pa pb (resetO sa) sb := by
  obtain ⟨ra, rb, ha, hb, ht, hab, hbl, hB⟩ := h
  exact (areset_v B w pa sa _ ha).mono fun e w' hh => ⟨hh.1, Two.didA ha hb ht hab hbl hB hh.2⟩
theorem aused_t {B : Nat} {gt : Option Nat} {w0 w : World} {pa pb : Value} {sa sb : Option St} (h : Two B gt w0 w pa pb sa sb) :
    Calls Try.prog 11 #[pa] w fun e w' => e = .returned (.int .i64 (usedO sa)) ∧ w = w' := by
  obtain ⟨ra, rb, ha, hb, ht, hab, hbl, hB⟩ := h
  exact aused_v B w pa sa _ ha
theorem ahigh_t {B : Nat} {gt : Option Nat} {w0 w : World} {pa pb : Value} {sa sb : Option St} (h : Two B gt w0 w pa pb sa sb) :
    Calls Try.prog 15 #[pa] w fun e w' => e = .returned (.int .i64 (highO sa)) ∧ w = w' := by
  obtain ⟨ra, rb, ha, hb, ht, hab, hbl, hB⟩ := h
  exact ahigh_v B w pa sa _ ha
theorem amarks_t {B : Nat} {gt : Option Nat} {w0 w : World} {pa pb : Value} {sa sb : Option St} (h : Two B gt w0 w pa pb sa sb) :
    Calls Try.prog 12 #[pa] w fun e w' => e = .returned (.int .i64 (marksO sa)) ∧ w = w' := by
  obtain ⟨ra, rb, ha, hb, ht, hab, hbl, hB⟩ := h
  exact amarks_v B w pa sa _ ha
theorem ralloc_t {B : Nat} {gt : Option Nat} {w0 w : World} {pa pb : Value} {sa sb : Option St} (h : Two B gt w0 w pa pb sa sb) (n m : Int) (n1 : -9223372036854775808 ≤ n) (n2 : n ≤ 9223372036854775807) (m1 : -9223372036854775808 ≤ m) (m2 : m ≤ 9223372036854775807) :
    Calls Try.prog 20 #[pb, .int .i64 n, .int .i64 m] w fun e w' => e = .returned (.tuple #[.int .i64 (allocO sb n m).1, .int .i64 (allocO sb n m).2.1]) ∧ Two B gt w0 w' pa pb sa (allocO sb n m).2.2 := by
  obtain ⟨ra, rb, ha, hb, ht, hab, hbl, hB⟩ := h
  exact (ralloc_v B w pb sb _ hb n m n1 n2 m1 m2).mono fun e w' hh => ⟨hh.1, Two.didB ha hb ht hab hbl hB hh.2⟩
theorem rmark_t {B : Nat} {gt : Option Nat} {w0 w : World} {pa pb : Value} {sa sb : Option St} (h : Two B gt w0 w pa pb sa sb) :
    Calls Try.prog 21 #[pb] w fun e w' => e = .returned (.int .i64 (markO sb).1) ∧ Two B gt w0 w' pa pb sa (markO sb).2 := by
  obtain ⟨ra, rb, ha, hb, ht, hab, hbl, hB⟩ := h
  exact (rmark_v B w pb sb _ hb (by have := hbl.size; omega)).mono fun e w' hh => ⟨hh.1, Two.didB ha hb ht hab hbl hB hh.2⟩
theorem rrelease_t {B : Nat} {gt : Option Nat} {w0 w : World} {pa pb : Value} {sa sb : Option St} (h : Two B gt w0 w pa pb sa sb) :
    Calls Try.prog 22 #[pb] w fun e w' => e = .returned (.int .i64 (releaseO sb).1) ∧ Two B gt w0 w' pa pb sa (releaseO sb).2 := by
  obtain ⟨ra, rb, ha, hb, ht, hab, hbl, hB⟩ := h
  exact (rrelease_v B w pb sb _ hb).mono fun e w' hh => ⟨hh.1, Two.didB ha hb ht hab hbl hB hh.2⟩
theorem rreset_t {B : Nat} {gt : Option Nat} {w0 w : World} {pa pb : Value} {sa sb : Option St} (h : Two B gt w0 w pa pb sa sb) :
    Calls Try.prog 24 #[pb] w fun e w' => e = .returned (.tuple #[]) ∧ Two B gt w0 w' pa pb sa (resetO sb) := by
  obtain ⟨ra, rb, ha, hb, ht, hab, hbl, hB⟩ := h
  exact (rreset_v B w pb sb _ hb).mono fun e w' hh => ⟨hh.1, Two.didB ha hb ht hab hbl hB hh.2⟩
theorem rused_t {B : Nat} {gt : Option Nat} {w0 w : World} {pa pb : Value} {sa sb : Option St} (h : Two B gt w0 w pa pb sa sb) :
    Calls Try.prog 25 #[pb] w fun e w' => e = .returned (.int .i64 (usedO sb)) ∧ w = w' := by
  obtain ⟨ra, rb, ha, hb, ht, hab, hbl, hB⟩ := h
  exact rused_v B w pb sb _ hb
theorem rhigh_t {B : Nat} {gt : Option Nat} {w0 w : World} {pa pb : Value} {sa sb : Option St} (h : Two B gt w0 w pa pb sa sb) :
    Calls Try.prog 26 #[pb] w fun e w' => e = .returned (.int .i64 (highO sb)) ∧ w = w' := by
  obtain ⟨ra, rb, ha, hb, ht, hab, hbl, hB⟩ := h
  exact rhigh_v B w pb sb _ hb
theorem rmarks_t {B : Nat} {gt : Option Nat} {w0 w : World} {pa pb : Value} {sa sb : Option St} (h : Two B gt w0 w pa pb sa sb) :
    Calls Try.prog 27 #[pb] w fun e w' => e = .returned (.int .i64 (marksO sb)) ∧ w = w' := by
  obtain ⟨ra, rb, ha, hb, ht, hab, hbl, hB⟩ := h
  exact rmarks_v B w pb sb _ hb

theorem sane1 : allocO (some ⟨64, 0, 0, []⟩) 10 16 = (0, 0, some ⟨64, 10, 10, []⟩) := by rfl
theorem sane2 : allocO (some ⟨64, 10, 10, []⟩) 10 16 = (16, 0, some ⟨64, 26, 26, []⟩) := by rfl
theorem sane3 : allocO (some ⟨64, 26, 26, []⟩) 40 1 = (0, 19, some ⟨64, 26, 26, []⟩) := by rfl
theorem sane_any (w : World) : Calls Try.prog 17 #[] w fun e w' => e = .returned (.bool true) ∧ Below w.heap.size w w' := by
  have H0 : Hid (Two w.heap.size none w w (.pointer none) (.pointer none) none none) := Two.nil (fun g hg => by cases hg) (Below.refl _ _) (Nat.le_refl _)
  have H1 := hid (H0.out.newA (c := 64) (by omega) (by omega))
  have HN := hid (anew_yes 64 w (by omega) (by omega))
  clear H0
  go_enter Try.func17, Try.ntmps17
  go_wp2_with fail
  refine HN.out.mono ?_; rintro e w' ⟨rfl, rfl⟩
  go_wp2_with fail
  generalize w.alloc (.cells #[.int .i64 64, .int .i64 0, .int .i64 0, .slice none 0 0] 46) = W1 at *
  have A1 := aalloc_t H1.out 10 16 (by omega) (by omega) (by omega) (by omega)
  rw [sane1] at A1
  refine A1.mono ?_; rintro e w2 ⟨rfl, h2⟩
  have H2 := hid h2
  clear A1 h2 H1 HN
  go_wp2_with fail
  have A1 := aalloc_t H2.out 10 16 (by omega) (by omega) (by omega) (by omega)
  rw [sane2] at A1
  refine A1.mono ?_; rintro e w3 ⟨rfl, h3⟩
  have H3 := hid h3
  clear A1 h3 H2
  go_wp2_with fail
  have A1 := aalloc_t H3.out 40 1 (by omega) (by omega) (by omega) (by omega)
  rw [sane3] at A1
  refine A1.mono ?_; rintro e w4 ⟨rfl, h4⟩
  have H4 := hid h4
  clear A1 h4 H3
  go_wp2_with fail
  refine (aused_t H4.out).mono ?_; rintro e w5 ⟨rfl, rfl⟩
  have hu : usedO (some ⟨64, 26, 26, []⟩) = 26 := rfl
  rw [hu]
  go_wp2
  go_ret
  exact ⟨rfl, H4.out.bel⟩
end Go.Proofs.Ytkjipnafgojcgaa
