/-
  Plain law of layer 2: what the functions of rectangles compute.
-/
import Derived.Test.YtphleapmgkcpoaaNum
namespace Go.Proofs.Ytphleapmgkcpoaa
set_option linter.unusedVariables false

/-- A rectangle: four numbers. -/
structure Rc where
  x0 : Int
  y0 : Int
  x1 : Int
  y1 : Int
def Rc.zero : Rc := ⟨0, 0, 0, 0⟩
def Rc.I (r : Rc) : Prop := (-9223372036854775808 ≤ r.x0 ∧ r.x0 ≤ 9223372036854775807) ∧ (-9223372036854775808 ≤ r.y0 ∧ r.y0 ≤ 9223372036854775807) ∧ (-9223372036854775808 ≤ r.x1 ∧ r.x1 ≤ 9223372036854775807) ∧ (-9223372036854775808 ≤ r.y1 ∧ r.y1 ≤ 9223372036854775807)
def EmptyP (r : Rc) : Prop := r.x0 = 0 ∧ r.y0 = 0 ∧ r.x1 = 0 ∧ r.y1 = 0
instance (r : Rc) : Decidable (EmptyP r) := by unfold EmptyP; infer_instance
def inC (x : Int) : Prop := -1048576 ≤ x ∧ x ≤ 1048576
instance (x : Int) : Decidable (inC x) := by unfold inC; infer_instance
/-- Valid and not empty. -/
def FullP (r : Rc) : Prop := inC r.x0 ∧ inC r.y0 ∧ inC r.x1 ∧ inC r.y1 ∧ r.x0 < r.x1 ∧ r.y0 < r.y1
instance (r : Rc) : Decidable (FullP r) := by unfold FullP; infer_instance
def ValidP (r : Rc) : Prop := EmptyP r ∨ FullP r
instance (r : Rc) : Decidable (ValidP r) := by unfold ValidP; infer_instance
def emptyB (r : Rc) : Bool := decide (EmptyP r)
def validB (r : Rc) : Bool := decide (ValidP r)
theorem emptyB_t {r : Rc} (h : EmptyP r) : emptyB r = true := decide_eq_true h
theorem emptyB_f {r : Rc} (h : ¬ EmptyP r) : emptyB r = false := decide_eq_false h
theorem validB_t {r : Rc} (h : ValidP r) : validB r = true := decide_eq_true h
theorem validB_f {r : Rc} (h : ¬ ValidP r) : validB r = false := decide_eq_false h
def areaS (r : Rc) : Int := if ValidP r then (r.x1 - r.x0) * (r.y1 - r.y0) else 0
def containsP (r : Rc) (x y : Int) : Prop := ValidP r ∧ r.x0 ≤ x ∧ x < r.x1 ∧ r.y0 ≤ y ∧ y < r.y1
instance (r : Rc) (x y : Int) : Decidable (containsP r x y) := by unfold containsP; infer_instance
def containsB (r : Rc) (x y : Int) : Bool := decide (containsP r x y)
def insideP (a b : Rc) : Prop := ValidP a ∧ ValidP b ∧ (EmptyP a ∨ b.x0 ≤ a.x0 ∧ a.x1 ≤ b.x1 ∧ b.y0 ≤ a.y0 ∧ a.y1 ≤ b.y1)
instance (a b : Rc) : Decidable (insideP a b) := by unfold insideP; infer_instance
def insideB (a b : Rc) : Bool := decide (insideP a b)
def interS (a b : Rc) : Rc :=
  if ValidP a ∧ ValidP b ∧ max a.x0 b.x0 < min a.x1 b.x1 ∧ max a.y0 b.y0 < min a.y1 b.y1 then ⟨max a.x0 b.x0, max a.y0 b.y0, min a.x1 b.x1, min a.y1 b.y1⟩ else Rc.zero
def hullS (a b : Rc) : Rc :=
  if ¬ ValidP a ∨ ¬ ValidP b then Rc.zero else if EmptyP a then b else if EmptyP b then a else ⟨min a.x0 b.x0, min a.y0 b.y0, max a.x1 b.x1, max a.y1 b.y1⟩
def stepP (n : Int) : Prop := 0 ≤ n ∧ n ≤ 1048576
instance (n : Int) : Decidable (stepP n) := by unfold stepP; infer_instance
def outS (r : Rc) (l t q b : Int) : Rc := ⟨r.x0 - l, r.y0 - t, r.x1 + q, r.y1 + b⟩
def outsetS (r : Rc) (l t q b : Int) : Rc := if FullP r ∧ stepP l ∧ stepP t ∧ stepP q ∧ stepP b ∧ ValidP (outS r l t q b) then outS r l t q b else Rc.zero
def partsOf (a c : Rc) : List Rc := [⟨a.x0, a.y0, a.x1, c.y0⟩, ⟨a.x0, c.y0, c.x0, c.y1⟩, ⟨c.x1, c.y0, a.x1, c.y1⟩, ⟨a.x0, c.y1, a.x1, a.y1⟩]
def realB (p : Rc) : Bool := decide (p.x0 < p.x1 ∧ p.y0 < p.y1)
def subS (a b : Rc) : List Rc :=
  if EmptyP a ∨ ¬ ValidP a ∨ ¬ ValidP b then [] else if EmptyP (interS a b) then [a] else (partsOf a (interS a b)).filter realB
theorem validB_ne {a b c d : Int} (h : ¬ EmptyP ⟨a, b, c, d⟩) : validB ⟨a, b, c, d⟩ = decide ((-1048576 ≤ a ∧ a ≤ 1048576) ∧ (-1048576 ≤ b ∧ b ≤ 1048576) ∧ (-1048576 ≤ c ∧ c ≤ 1048576) ∧ (-1048576 ≤ d ∧ d ≤ 1048576) ∧ a < c ∧ b < d) := by
  unfold validB ValidP FullP inC
  rw [Bool.eq_iff_iff]
  simp [h]
theorem containsB_v {a b c d x y : Int} (h : ValidP ⟨a, b, c, d⟩) : containsB ⟨a, b, c, d⟩ x y = decide (a ≤ x ∧ x < c ∧ b ≤ y ∧ y < d) := by
  unfold containsB containsP
  rw [Bool.eq_iff_iff]
  simp [h]
theorem containsB_n {a b c d x y : Int} (h : ¬ ValidP ⟨a, b, c, d⟩) : containsB ⟨a, b, c, d⟩ x y = false := by
  unfold containsB containsP
  simp [h]
theorem insideB_n {a b : Rc} (h : ¬ ValidP a ∨ ¬ ValidP b) : insideB a b = false := by
  unfold insideB insideP
  rcases h with h | h <;> simp [h]
theorem insideB_e {a b : Rc} (h : ValidP a) (h2 : ValidP b) (h3 : EmptyP a) : insideB a b = true := by
  unfold insideB insideP
  simp [h, h2, h3]
theorem insideB_v {a b c d a' b' c' d' : Int} (h : ValidP ⟨a, b, c, d⟩) (h2 : ValidP ⟨a', b', c', d'⟩) (h3 : ¬ EmptyP ⟨a, b, c, d⟩) : insideB ⟨a, b, c, d⟩ ⟨a', b', c', d'⟩ = decide (a' ≤ a ∧ c ≤ c' ∧ b' ≤ b ∧ d ≤ d') := by
  unfold insideB insideP
  rw [Bool.eq_iff_iff]
  simp [h, h2, h3]
theorem areaS_n {r : Rc} (h : ¬ ValidP r) : areaS r = 0 := by unfold areaS; rw [if_neg h]
theorem areaS_v {a b c d : Int} (h : ValidP ⟨a, b, c, d⟩) : areaS ⟨a, b, c, d⟩ = (c - a) * (d - b) := by unfold areaS; rw [if_pos h]
theorem valid_bd {a b c d : Int} (h : ValidP ⟨a, b, c, d⟩) : (-1048576 ≤ a ∧ a ≤ 1048576) ∧ (-1048576 ≤ b ∧ b ≤ 1048576) ∧ (-1048576 ≤ c ∧ c ≤ 1048576) ∧ (-1048576 ≤ d ∧ d ≤ 1048576) ∧ a ≤ c ∧ b ≤ d := by
  rcases h with h | h
  · unfold EmptyP at h; simp only at h; omega
  · unfold FullP inC at h; simp only at h; omega
theorem mul_bd {x y m n : Int} (hx0 : 0 ≤ x) (hx : x ≤ m) (hy0 : 0 ≤ y) (hy : y ≤ n) : 0 ≤ x * y ∧ x * y ≤ m * n := by
  refine ⟨Int.mul_nonneg hx0 hy0, ?_⟩
  exact Int.mul_le_mul hx hy hy0 (by omega)
theorem area_bd {a b c d : Int} (h : ValidP ⟨a, b, c, d⟩) : 0 ≤ (c - a) * (d - b) ∧ (c - a) * (d - b) ≤ 4398046511104 := by
  have := valid_bd h
  have h2 := mul_bd (x := c - a) (y := d - b) (m := 2097152) (n := 2097152) (by omega) (by omega) (by omega) (by omega)
  omega
end Go.Proofs.Ytphleapmgkcpoaa
