/-
  Plain law of layer 7.
-/
import Derived.Test.YtgfkmlppoldhgaaNum
namespace Go.Proofs.Ytgfkmlppoldhgaa
set_option linter.unusedVariables false

def clampS (v m : Int) : Int := if m < 0 ∨ v < 0 then 0 else if m < v then m else v
def accS (a : Int) : Prop := -17592186044416 ≤ a ∧ a ≤ 17592186044416
instance (a : Int) : Decidable (accS a) := by unfold accS; infer_instance
def shiftS (a s : Int) : Int := if ¬ accS a ∨ s < 0 ∨ 24 < s then 0 else if s = 0 then a else (a + 2 ^ (s - 1).toNat) / 2 ^ s.toNat
theorem clampS_zero {v m : Int} (h : m < 0 ∨ v < 0) : clampS v m = 0 := by unfold clampS; rw [if_pos h]
theorem clampS_max {v m : Int} (h1 : 0 ≤ m) (h : m < v) : clampS v m = m := by unfold clampS; rw [if_neg (by omega), if_pos h]
theorem clampS_self {v m : Int} (h1 : 0 ≤ v) (h : v ≤ m) : clampS v m = v := by unfold clampS; rw [if_neg (by omega), if_neg (by omega)]
theorem pow_le_of {m n : Nat} (h : m ≤ n) : (2 : Int) ^ m ≤ 2 ^ n := by
  have h1 : 2 ^ m ≤ 2 ^ n := Nat.pow_le_pow_right (by omega) h
  exact_mod_cast h1
theorem pow_pos' (m : Nat) : (1 : Int) ≤ 2 ^ m := by
  have := Nat.one_le_two_pow (n := m)
  exact_mod_cast this
theorem pow_facts (s : Int) (h1 : 1 ≤ s) (h2 : s ≤ 24) : (1 : Int) ≤ 2 ^ (s.toNat - 1) ∧ (2 : Int) ^ (s.toNat - 1) ≤ 8388608 ∧ (2 : Int) ≤ 2 ^ s.toNat ∧ (2 : Int) ^ s.toNat ≤ 16777216 :=
  ⟨pow_pos' _, pow_le_of (n := 23) (by omega), pow_le_of (m := 1) (by omega), pow_le_of (n := 24) (by omega)⟩
theorem shiftS_bad {a s : Int} (h : ¬ accS a ∨ s < 0 ∨ 24 < s) : shiftS a s = 0 := by unfold shiftS; rw [if_pos h]
theorem shiftS_zero {a : Int} (h : accS a) : shiftS a 0 = a := by unfold shiftS; rw [if_neg (by simp [h]), if_pos rfl]
theorem shiftS_pos {a s : Int} (h : accS a) (h1 : 1 ≤ s) (h2 : s ≤ 24) : shiftS a s = (a + 2 ^ (s.toNat - 1)) / 2 ^ s.toNat := by
  unfold shiftS
  have e : (s - 1).toNat = s.toNat - 1 := by omega
  rw [if_neg (by simp [h]; omega), if_neg (by omega), e]
/-- Go's quotient of a negative number, set right. -/
theorem quo_neg (n d : Int) (hn : n < 0) (hd : 2 ≤ d) : n ≤ n.tdiv d ∧ n.tdiv d ≤ 0 ∧ n ≤ n.tdiv d * d ∧ n.tdiv d * d ≤ 0 ∧ (n < n.tdiv d * d → n.tdiv d - 1 = n / d) ∧ (¬ n < n.tdiv d * d → n.tdiv d = n / d) := by
  have e : n.tdiv d = -((-n) / d) := by
    have h1 := Int.neg_tdiv (a := -n) (b := d)
    rw [Int.neg_neg] at h1
    rw [h1, Int.tdiv_eq_ediv_of_nonneg (by omega)]
  have h2 := Int.mul_ediv_add_emod (-n) d
  have h3 := Int.emod_nonneg (-n) (by omega : d ≠ 0)
  have h4 := Int.emod_lt_of_pos (-n) (by omega : 0 < d)
  have h5 : 0 ≤ (-n) / d := Int.ediv_nonneg (by omega) (by omega)
  have h6 : (-n) / d ≤ -n := Int.ediv_le_self _ (by omega)
  rw [e]
  generalize (-n) / d = q at *
  generalize (-n) % d = r at *
  have h7 : 0 ≤ d * q := Int.mul_nonneg (by omega) h5
  have e2 : -q * d = -(d * q) := by rw [Int.neg_mul, Int.mul_comm]
  rw [e2]
  refine ⟨by omega, by omega, by omega, by omega, fun h => ?_, fun h => ?_⟩
  · have : n = (d - r) + d * (-q - 1) := by rw [Int.mul_sub, Int.mul_neg, Int.mul_one]; omega
    rw [this, Int.add_mul_ediv_left _ _ (by omega), Int.ediv_eq_zero_of_lt (by omega) (by omega)]
    omega
  · have hr : r = 0 := by omega
    have : n = 0 + d * (-q) := by rw [Int.mul_neg]; omega
    rw [this, Int.add_mul_ediv_left _ _ (by omega), Int.zero_ediv]
    omega
theorem quo_pos (n d : Int) (hn : 0 ≤ n) (hd : 2 ≤ d) : 0 ≤ n / d ∧ n / d ≤ n ∧ 0 ≤ n / d * d ∧ n / d * d ≤ n :=
  ⟨Int.ediv_nonneg hn (by omega), Int.ediv_le_self _ hn, Int.mul_nonneg (Int.ediv_nonneg hn (by omega)) (by omega), Int.ediv_mul_le _ (by omega)⟩
def okW : List Int → Bool
  | [] => true
  | v :: r => if -32767 ≤ v ∧ v ≤ 32767 then okW r else false
theorem okW_ok {v : Int} {r : List Int} (h1 : -32767 ≤ v) (h2 : v ≤ 32767) : okW (v :: r) = okW r := by rw [okW, if_pos ⟨h1, h2⟩]
theorem okW_bad {v : Int} {r : List Int} (h : v < -32767 ∨ 32767 < v) : okW (v :: r) = false := by rw [okW, if_neg (by omega)]
theorem okW_mem : ∀ {xs : List Int}, okW xs = true → ∀ x ∈ xs, -32767 ≤ x ∧ x ≤ 32767
  | [], _, x, hx => by cases hx
  | v :: r, h, x, hx => by
    rw [okW] at h
    split at h
    · rename_i hv
      rcases List.mem_cons.1 hx with rfl | hx
      · exact hv
      · exact okW_mem h x hx
    · cases h
def weightsS (xs : List Int) : Int := if xs.length = 0 ∨ 81 < xs.length then 9 else if okW xs = true then 0 else 10
theorem weightsS_len {xs : List Int} (h : xs.length = 0 ∨ 81 < xs.length) : weightsS xs = 9 := by unfold weightsS; rw [if_pos h]
theorem weightsS_ok {xs : List Int} (h : ¬ (xs.length = 0 ∨ 81 < xs.length)) (hk : okW xs = true) : weightsS xs = 0 := by unfold weightsS; rw [if_neg h, if_pos hk]
theorem weightsS_bad {xs : List Int} (h : ¬ (xs.length = 0 ∨ 81 < xs.length)) (hk : okW xs = false) : weightsS xs = 10 := by unfold weightsS; rw [if_neg h, if_neg (by simp [hk])]
theorem weightsS_zero {xs : List Int} (h : weightsS xs = 0) : 1 ≤ xs.length ∧ xs.length ≤ 81 ∧ ∀ x ∈ xs, -32767 ≤ x ∧ x ≤ 32767 := by
  unfold weightsS at h
  split at h
  · omega
  · split at h
    · rename_i h1 h2
      exact ⟨by omega, by omega, okW_mem h2⟩
    · omega
theorem weightsS_range (xs : List Int) : 0 ≤ weightsS xs ∧ weightsS xs ≤ 10 := by
  unfold weightsS; split
  · omega
  · split <;> omega
def loSum (lo hi : Int) : List Int → Int
  | [] => 0
  | v :: r => min (v * lo) (v * hi) + loSum lo hi r
def hiSum (lo hi : Int) : List Int → Int
  | [] => 0
  | v :: r => max (v * lo) (v * hi) + hiSum lo hi r
def boundsS (xs : List Int) (lo hi : Int) : Int × Int × Bool :=
  if weightsS xs ≠ 0 ∨ hi < lo ∨ lo < -68719476736 ∨ 68719476736 < hi then (0, 0, false)
  else if accS (loSum lo hi xs) ∧ accS (hiSum lo hi xs) then (loSum lo hi xs, hiSum lo hi xs, true) else (0, 0, false)
theorem boundsS_bad {xs : List Int} {lo hi : Int} (h : weightsS xs ≠ 0 ∨ hi < lo ∨ lo < -68719476736 ∨ 68719476736 < hi) : boundsS xs lo hi = (0, 0, false) := by unfold boundsS; rw [if_pos h]
theorem boundsS_ok {xs : List Int} {lo hi : Int} (h : weightsS xs = 0) (h1 : lo ≤ hi) (h2 : -68719476736 ≤ lo) (h3 : hi ≤ 68719476736) (h4 : accS (loSum lo hi xs)) (h5 : accS (hiSum lo hi xs)) : boundsS xs lo hi = (loSum lo hi xs, hiSum lo hi xs, true) := by
  unfold boundsS; rw [if_neg (by omega), if_pos ⟨h4, h5⟩]
theorem boundsS_no {xs : List Int} {lo hi : Int} (h : weightsS xs = 0) (h1 : lo ≤ hi) (h2 : -68719476736 ≤ lo) (h3 : hi ≤ 68719476736) (h4 : ¬ (accS (loSum lo hi xs) ∧ accS (hiSum lo hi xs))) : boundsS xs lo hi = (0, 0, false) := by
  unfold boundsS; rw [if_neg (by omega), if_neg h4]
/-- The product of a weight and a number. -/
theorem prod_bd {v x : Int} (h1 : -32767 ≤ v) (h2 : v ≤ 32767) (h3 : -68719476736 ≤ x) (h4 : x ≤ 68719476736) : -2251799813685248 ≤ v * x ∧ v * x ≤ 2251799813685248 := by
  have h5 : v.natAbs ≤ 32767 := by omega
  have h6 : x.natAbs ≤ 68719476736 := by omega
  have h7 : (v * x).natAbs ≤ 32767 * 68719476736 := by
    rw [Int.natAbs_mul]
    exact Nat.mul_le_mul h5 h6
  omega
end Go.Proofs.Ytgfkmlppoldhgaa
