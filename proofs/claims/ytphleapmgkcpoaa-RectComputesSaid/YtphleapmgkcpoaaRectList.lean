/-
  Lists of rectangles in memory.
-/
import Derived.Test.YtphleapmgkcpoaaRectOut2
import Derived.OwnWalk
import Derived.Maps.Range
import Derived.Maps.AppendAt
namespace Go.Proofs.Ytphleapmgkcpoaa
open Go.RowKit
set_option linter.unusedVariables false

def flat1 (r : Rc) : List Value := [.int .i64 r.x0, .int .i64 r.y0, .int .i64 r.x1, .int .i64 r.y1]
def flat (rs : List Rc) : List Value := rs.flatMap flat1
theorem flat_append (a b : List Rc) : flat (a ++ b) = flat a ++ flat b := by unfold flat; rw [List.flatMap_append]
theorem flat_one (r : Rc) : flat [r] = flat1 r := by unfold flat; simp
theorem flat_len (rs : List Rc) : (flat rs).length = rs.length * 4 := by
  unfold flat
  induction rs with
  | nil => rfl
  | cons r t ih => rw [List.flatMap_cons, List.length_append, ih]; simp [flat1]; omega
theorem flat_get : ∀ (rs : List Rc) (i : Nat) (r : Rc), rs[i]? = some r → ∀ j, j < 4 → (flat rs)[i * 4 + j]? = (flat1 r)[j]?
  | [], i, r, h => by simp at h
  | r0 :: t, 0, r, h => fun j hj => by
    simp at h; subst h
    unfold flat
    rw [List.flatMap_cons, List.getElem?_append_left (by simp [flat1]; omega)]
    simp
  | r0 :: t, i + 1, r, h => fun j hj => by
    have h2 : t[i]? = some r := by simpa using h
    have ih := flat_get t i r h2 j hj
    have e : (flat (r0 :: t)) = flat1 r0 ++ flat t := by unfold flat; rw [List.flatMap_cons]
    rw [e, List.getElem?_append_right (by simp [flat1]; omega)]
    have e2 : (i + 1) * 4 + j - (flat1 r0).length = i * 4 + j := by simp [flat1]; omega
    rw [e2, ih]

/-- The slice value 'slice A n _' reads as the list rs of rectangles, and lies below block B. -/
def RectsAt (w : World) (B : Nat) (A : Option Addr) (n : Nat) (rs : List Rc) : Prop :=
  rs.length = n ∧ (0 < n → ∃ g, A = some ⟨g, 0, none⟩ ∧ g < B ∧ ∀ i r, rs[i]? = some r → w.cell? ⟨g, i * 4, none⟩ = some (.int .i64 r.x0) ∧ w.cell? ⟨g, i * 4 + 1, none⟩ = some (.int .i64 r.y0) ∧ w.cell? ⟨g, i * 4 + 2, none⟩ = some (.int .i64 r.x1) ∧ w.cell? ⟨g, i * 4 + 3, none⟩ = some (.int .i64 r.y1))
theorem RectsAt.keep {w w' : World} {B : Nat} {A : Option Addr} {n : Nat} {rs : List Rc} (h : RectsAt w B A n rs) (hk : ∀ b o, b < B → w'.cell? ⟨b, o, none⟩ = w.cell? ⟨b, o, none⟩) : RectsAt w' B A n rs := by
  refine ⟨h.1, fun hn => ?_⟩
  obtain ⟨g, rfl, hg, hc⟩ := h.2 hn
  refine ⟨g, rfl, hg, fun i r hr => ?_⟩
  rw [hk _ _ hg, hk _ _ hg, hk _ _ hg, hk _ _ hg]
  exact hc i r hr
theorem RectsAt.below {w w' : World} {B B' : Nat} {A : Option Addr} {n : Nat} {rs : List Rc} (h : RectsAt w B A n rs) (hb : Below B' w w') (hB : B ≤ B') : RectsAt w' B A n rs :=
  h.keep fun b o hlt => hb.cell (p := ⟨b, o, none⟩) (Nat.lt_of_lt_of_le hlt hB)
theorem RectsAt.nil (w : World) (B : Nat) : RectsAt w B none 0 [] := ⟨rfl, by omega⟩
theorem RectsAt.drewN {w : World} {B : Nat} {A : Option Addr} {n : Nat} {rs : List Rc} (h : RectsAt w B A n rs) (m : Nat) : RectsAt (w.drewN m) B A n rs := h

/-- A row of rectangles of the call's own, as a list. -/
theorem own_rects {w : World} {base n : Nat} {v : Value} {rs : List Rc} (h : w.ownsRow base 26 4 v n (flat rs)) : ∃ A c, v = .slice A n c ∧ RectsAt w w.heap.size A n rs := by
  have hl : rs.length = n := by have := h.1; rw [flat_len] at this; omega
  rcases h.2 with ⟨rfl, rfl⟩ | ⟨gv, cap, cur, rfl, _, hh, hnc, _, hs, ht⟩
  · have : rs = [] := List.eq_nil_of_length_eq_zero hl
    subst this
    exact ⟨none, 0, rfl, RectsAt.nil _ _⟩
  · refine ⟨_, cap, rfl, hl, fun hn => ⟨gv, rfl, (h.lt gv rfl).2, fun i r hr => ?_⟩⟩
    have hi : i < n := by have := (List.getElem?_eq_some_iff.1 hr).1; omega
    have hf := flat_get rs i r hr
    refine ⟨?_, ?_, ?_, ?_⟩
    · have := h.cellAt (i * 4) (by omega)
      rw [this]
      exact hf 0 (by omega)
    · have := h.cellAt (i * 4 + 1) (by omega)
      rw [this]
      exact hf 1 (by omega)
    · have := h.cellAt (i * 4 + 2) (by omega)
      rw [this]
      exact hf 2 (by omega)
    · have := h.cellAt (i * 4 + 3) (by omega)
      rw [this]
      exact hf 3 (by omega)
/-- One rectangle in a new block. -/
theorem rects_new (w : World) (a b c d : Int) (t : TypeId) : RectsAt (w.alloc (.cells #[.int .i64 a, .int .i64 b, .int .i64 c, .int .i64 d] t)) (w.heap.size + 1) (some ⟨w.heap.size, 0, none⟩) 1 [⟨a, b, c, d⟩] := by
  have h := Blk.new w t #[.int .i64 a, .int .i64 b, .int .i64 c, .int .i64 d]
  refine ⟨rfl, fun _ => ⟨_, rfl, by omega, fun i r hr => ?_⟩⟩
  match i, hr with
  | 0, hr =>
    simp at hr
    subst hr
    exact ⟨h.cell 0, h.cell 1, h.cell 2, h.cell 3⟩
/-- The cells of a rectangle in a new block, one behind the other. -/
theorem news_new (w : World) (r : Rc) (t : TypeId) : ∀ j u, (flat1 r)[j]? = some u → (w.alloc (.cells #[.int .i64 r.x0, .int .i64 r.y0, .int .i64 r.x1, .int .i64 r.y1] t)).cell? ((⟨w.heap.size, 0, none⟩ : Addr).add j) = some u := by
  intro j u hu
  have h := Blk.new w t #[.int .i64 r.x0, .int .i64 r.y0, .int .i64 r.x1, .int .i64 r.y1]
  have hj : j < 4 := by have := (List.getElem?_eq_some_iff.1 hu).1; simpa [flat1] using this
  have e : ((⟨w.heap.size, 0, none⟩ : Addr).add j) = ⟨w.heap.size, j, none⟩ := by unfold Addr.add; split <;> simp [*]
  rw [e, h.cell j, ← hu]
  match j, hj with
  | 0, _ => rfl
  | 1, _ => rfl
  | 2, _ => rfl
  | 3, _ => rfl
theorem news_new1 (w : World) (o : Obj) (r : Rc) (t : TypeId) : ∀ j u, (flat1 r)[j]? = some u → ((w.alloc o).alloc (.cells #[.int .i64 r.x0, .int .i64 r.y0, .int .i64 r.x1, .int .i64 r.y1] t)).cell? ((⟨w.heap.size + 1, 0, none⟩ : Addr).add j) = some u := by
  have h := news_new (w.alloc o) r t
  have e : (w.alloc o).heap.size = w.heap.size + 1 := by simp
  rw [e] at h
  exact h
theorem flat1_one (r : Rc) : ∀ u ∈ flat1 r, u.oneCell' = true := by
  intro u hu
  simp [flat1] at hu
  rcases hu with rfl | rfl | rfl | rfl <;> rfl
theorem r_info : (Try.prog.info? 26).map (fun i => (i.zero, i.size, i.bytes)) = some (some (.agg #[.int .i64 0, .int .i64 0, .int .i64 0, .int .i64 0]), 4, 32) := by kernel_rfl

/-- What a difference of two rectangles is. -/
def SubPost (a b : Rc) (w : World) (e : Ending) (w' : World) : Prop :=
  ∃ (A : Option Addr) (n c : Nat), e = .returned (.slice A n c) ∧ n ≤ 4 ∧ RectsAt w' w'.heap.size A n (subS a b) ∧ Below w.heap.size w w'
theorem subS_nil {a b : Rc} (h : EmptyP a ∨ ¬ ValidP a ∨ ¬ ValidP b) : subS a b = [] := by unfold subS; rw [if_pos h]
theorem subS_one {a b : Rc} (h1 : ¬ EmptyP a) (h2 : ValidP a) (h3 : ValidP b) (h : EmptyP (interS a b)) : subS a b = [a] := by
  unfold subS
  rw [if_neg (fun h' => h'.elim (fun x => h1 x) (fun x => x.elim (fun y => y h2) (fun y => y h3))), if_pos h]
theorem subS_parts {a b : Rc} (h1 : ¬ EmptyP a) (h2 : ValidP a) (h3 : ValidP b) (h : ¬ EmptyP (interS a b)) : subS a b = (partsOf a (interS a b)).filter realB := by
  unfold subS
  rw [if_neg (fun h' => h'.elim (fun x => h1 x) (fun x => x.elim (fun y => y h2) (fun y => y h3))), if_neg h]
/-- The parts that have been kept behind k of them. -/
def kept (a c : Rc) (k : Nat) : List Rc := ((partsOf a c).take k).filter realB
theorem kept_yes {a c : Rc} {k : Nat} {p : Rc} (hp : (partsOf a c)[k]? = some p) (h : realB p = true) : kept a c (k + 1) = kept a c k ++ [p] := by
  unfold kept
  rw [List.take_add_one, hp, List.filter_append]
  simp [h]
theorem kept_no {a c : Rc} {k : Nat} {p : Rc} (hp : (partsOf a c)[k]? = some p) (h : realB p = false) : kept a c (k + 1) = kept a c k := by
  unfold kept
  rw [List.take_add_one, hp, List.filter_append]
  simp [h]
theorem kept_le (a c : Rc) (k : Nat) : (kept a c k).length ≤ 4 := by
  unfold kept
  have h1 := List.length_filter_le realB ((partsOf a c).take k)
  have h2 : ((partsOf a c).take k).length ≤ (partsOf a c).length := by rw [List.length_take]; omega
  have h3 : (partsOf a c).length = 4 := rfl
  omega
end Go.Proofs.Ytphleapmgkcpoaa
