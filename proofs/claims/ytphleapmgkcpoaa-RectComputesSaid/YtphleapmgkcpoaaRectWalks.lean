/-
  Layer 2: the functions of rect and their references: contracts.
-/
import Derived.Test.YtphleapmgkcpoaaMem
import Derived.Test.YtphleapmgkcpoaaRectNum
import Derived.Test.YtphleapmgkcpoaaProg
import Derived.Handy
import Derived.Outline
import Derived.WalkLawsBesides
import Derived.WalkSpells
namespace Go.Proofs.Ytphleapmgkcpoaa
open Go.RowKit
set_option linter.unusedVariables false

theorem bcell {W w1 : World} (hb : Below W.heap.size W w1) : (∀ b o, b < W.heap.size → w1.cell? ⟨b, o, none⟩ = W.cell? ⟨b, o, none⟩) ∧ (∀ b o, b < W.heap.size → w1.frozen? ⟨b, o, none⟩ = W.frozen? ⟨b, o, none⟩) :=
  ⟨fun b o h => hb.cell (p := ⟨b, o, none⟩) h, fun b o h => hb.frozen (p := ⟨b, o, none⟩) h⟩

theorem eql_rect (a b c d a2 b2 c2 d2 : Int) (w : World) : (binOp .eql 26 (.agg #[.int .i64 a, .int .i64 b, .int .i64 c, .int .i64 d]) (.agg #[.int .i64 a2, .int .i64 b2, .int .i64 c2, .int .i64 d2])).run Try.prog w = .ok (.bool (decide (a = a2 ∧ b = b2 ∧ c = c2 ∧ d = d2))) w := by
  by_cases h1 : a = a2
  · by_cases h2 : b = b2
    · by_cases h3 : c = c2
      · by_cases h4 : d = d2
        · go_simp
        · go_simp
      · go_simp
    · go_simp
  · go_simp
theorem neq_rect (a b c d a2 b2 c2 d2 : Int) (w : World) : (binOp .neq 26 (.agg #[.int .i64 a, .int .i64 b, .int .i64 c, .int .i64 d]) (.agg #[.int .i64 a2, .int .i64 b2, .int .i64 c2, .int .i64 d2])).run Try.prog w = .ok (.bool (!decide (a = a2 ∧ b = b2 ∧ c = c2 ∧ d = d2))) w := by
  by_cases h1 : a = a2
  · by_cases h2 : b = b2
    · by_cases h3 : c = c2
      · by_cases h4 : d = d2
        · go_simp
        · go_simp
      · go_simp
    · go_simp
  · go_simp
theorem empty_any (a b c d : Int) (w : World) :
    Calls Try.prog 25 #[.agg #[.int .i64 a, .int .i64 b, .int .i64 c, .int .i64 d]] w fun e w' => e = .returned (.bool (emptyB ⟨a, b, c, d⟩)) ∧ Below w.heap.size w w' := by
  have hq := fun w => eql_rect a b c d 0 0 0 0 w
  go_enter Try.func25, Try.ntmps25
  go_wp2
  go_ret
  exact ⟨ret_bool (by rw [Bool.eq_iff_iff]; unfold emptyB; rw [decide_eq_true_iff]; unfold EmptyP; simp), by go_grown⟩

theorem rempty_any (a b c d : Int) (w : World) :
    Calls Try.prog 27 #[.agg #[.int .i64 a, .int .i64 b, .int .i64 c, .int .i64 d]] w fun e w' => e = .returned (.bool (emptyB ⟨a, b, c, d⟩)) ∧ Below w.heap.size w w' := by
  have hq := fun w => eql_rect a b c d 0 0 0 0 w
  go_enter Try.func27, Try.ntmps27
  go_wp2
  go_ret
  exact ⟨ret_bool (by rw [Bool.eq_iff_iff]; unfold emptyB; rw [decide_eq_true_iff]; unfold EmptyP; simp), by go_grown⟩

theorem valid_any (a b c d : Int) (w : World) :
    Calls Try.prog 24 #[.agg #[.int .i64 a, .int .i64 b, .int .i64 c, .int .i64 d]] w fun e w' => e = .returned (.bool (validB ⟨a, b, c, d⟩)) ∧ Below w.heap.size w w' := by
  by_cases he : EmptyP ⟨a, b, c, d⟩
  · have C := fun w => empty_any a b c d w
    rw [emptyB_t he] at C
    rw [validB_t (.inl he)]
    have HC := hid C
    clear C he
    go_enter Try.func24, Try.ntmps24
    go_wp2_with fail
    refine (HC.out _).mono ?_
    rintro e w1 ⟨rfl, hb⟩
    go_wp2
    go_ret
    exact ⟨rfl, ((Below.refl _ _).alloc (Nat.le_refl _) _).trans (hb.mono (by simp))⟩
  · have C := fun w => empty_any a b c d w
    rw [emptyB_f he] at C
    have HV := hid (validB_ne he)
    have HC := hid C
    clear C he
    go_enter Try.func24, Try.ntmps24
    go_wp2_with fail
    refine (HC.out _).mono ?_
    rintro e w1 ⟨rfl, hb⟩
    obtain ⟨hc, hf⟩ := bcell hb
    have HB := hid (((Below.refl _ _).alloc (Nat.le_refl _) _).trans (hb.mono (by simp)))
    clear hb
    go_wp2
    all_goals (go_ret; exact ⟨ret_bool (by rw [HV.out, Bool.eq_iff_iff]; simp; omega), HB.out⟩)

theorem rvalid_any (a b c d : Int) (w : World) :
    Calls Try.prog 9 #[.agg #[.int .i64 a, .int .i64 b, .int .i64 c, .int .i64 d]] w fun e w' => e = .returned (.bool (validB ⟨a, b, c, d⟩)) ∧ Below w.heap.size w w' := by
  have hq := fun w => eql_rect a b c d 0 0 0 0 w
  by_cases he : EmptyP ⟨a, b, c, d⟩
  · rw [validB_t (.inl he)]
    have he2 : decide (a = 0 ∧ b = 0 ∧ c = 0 ∧ d = 0) = true := decide_eq_true he
    rw [he2] at hq
    clear he he2
    go_enter Try.func9, Try.ntmps9
    go_wp2
    go_ret
    exact ⟨rfl, by go_grown⟩
  · have HV := hid (validB_ne he)
    have he2 : decide (a = 0 ∧ b = 0 ∧ c = 0 ∧ d = 0) = false := decide_eq_false he
    rw [he2] at hq
    clear he he2
    go_enter Try.func9, Try.ntmps9
    go_wp2
    all_goals (go_ret; exact ⟨ret_bool (by rw [HV.out, Bool.eq_iff_iff]; simp; omega), by go_grown⟩)

theorem area_any (a b c d : Int) (w : World) :
    Calls Try.prog 12 #[.agg #[.int .i64 a, .int .i64 b, .int .i64 c, .int .i64 d]] w fun e w' => e = .returned (.int .i64 (areaS ⟨a, b, c, d⟩)) ∧ Below w.heap.size w w' := by
  have C := fun w => valid_any a b c d w
  by_cases hv : ValidP ⟨a, b, c, d⟩
  · rw [validB_t hv] at C
    have hd := valid_bd hv
    obtain ⟨⟨x1, x2⟩, ⟨x3, x4⟩, ⟨x5, x6⟩, ⟨x7, x8⟩, x9, x10⟩ := hd
    obtain ⟨p1, p2⟩ := area_bd hv
    have HV := hid (areaS_v hv)
    have HC := hid C
    clear C hv
    go_enter Try.func12, Try.ntmps12
    go_wp2_with fail
    refine (HC.out _).mono ?_
    rintro e w1 ⟨rfl, hb⟩
    obtain ⟨hcw1, hfw1⟩ := bcell hb
    have hzw1 : w.heap.size + 1 ≤ w1.heap.size := by have := hb.size; first | omega | (simp at this; omega)
    have hzw10 : w.heap.size < w1.heap.size := by omega
    have HBw1 := hid (((Below.refl _ _).alloc (Nat.le_refl _) _).trans (hb.mono (by first | omega | (simp <;> omega))))
    clear hb
    go_wp2
    go_ret
    exact ⟨ret_int HV.out.symm, HBw1.out⟩
  · rw [validB_f hv] at C
    have HV := hid (areaS_n hv)
    have HC := hid C
    clear C hv
    go_enter Try.func12, Try.ntmps12
    go_wp2_with fail
    refine (HC.out _).mono ?_
    rintro e w1 ⟨rfl, hb⟩
    obtain ⟨hcw1, hfw1⟩ := bcell hb
    have hzw1 : w.heap.size + 1 ≤ w1.heap.size := by have := hb.size; first | omega | (simp at this; omega)
    have hzw10 : w.heap.size < w1.heap.size := by omega
    have HBw1 := hid (((Below.refl _ _).alloc (Nat.le_refl _) _).trans (hb.mono (by first | omega | (simp <;> omega))))
    clear hb
    go_wp2
    go_ret
    exact ⟨ret_int HV.out.symm, HBw1.out⟩

theorem rarea_any (a b c d : Int) (w : World) :
    Calls Try.prog 28 #[.agg #[.int .i64 a, .int .i64 b, .int .i64 c, .int .i64 d]] w fun e w' => e = .returned (.int .i64 (areaS ⟨a, b, c, d⟩)) ∧ Below w.heap.size w w' := by
  have C := fun w => rvalid_any a b c d w
  by_cases hv : ValidP ⟨a, b, c, d⟩
  · rw [validB_t hv] at C
    have hd := valid_bd hv
    obtain ⟨⟨x1, x2⟩, ⟨x3, x4⟩, ⟨x5, x6⟩, ⟨x7, x8⟩, x9, x10⟩ := hd
    obtain ⟨p1, p2⟩ := area_bd hv
    have HV := hid (areaS_v hv)
    have HC := hid C
    clear C hv
    go_enter Try.func28, Try.ntmps28
    go_wp2_with fail
    refine (HC.out _).mono ?_
    rintro e w1 ⟨rfl, hb⟩
    obtain ⟨hcw1, hfw1⟩ := bcell hb
    have hzw1 : w.heap.size + 1 ≤ w1.heap.size := by have := hb.size; first | omega | (simp at this; omega)
    have hzw10 : w.heap.size < w1.heap.size := by omega
    have HBw1 := hid (((Below.refl _ _).alloc (Nat.le_refl _) _).trans (hb.mono (by first | omega | (simp <;> omega))))
    clear hb
    go_wp2
    go_ret
    exact ⟨ret_int HV.out.symm, HBw1.out⟩
  · rw [validB_f hv] at C
    have HV := hid (areaS_n hv)
    have HC := hid C
    clear C hv
    go_enter Try.func28, Try.ntmps28
    go_wp2_with fail
    refine (HC.out _).mono ?_
    rintro e w1 ⟨rfl, hb⟩
    obtain ⟨hcw1, hfw1⟩ := bcell hb
    have hzw1 : w.heap.size + 1 ≤ w1.heap.size := by have := hb.size; first | omega | (simp at this; omega)
    have hzw10 : w.heap.size < w1.heap.size := by omega
    have HBw1 := hid (((Below.refl _ _).alloc (Nat.le_refl _) _).trans (hb.mono (by first | omega | (simp <;> omega))))
    clear hb
    go_wp2
    go_ret
    exact ⟨ret_int HV.out.symm, HBw1.out⟩

theorem contains_any (a b c d x y : Int) (w : World) :
    Calls Try.prog 16 #[.agg #[.int .i64 a, .int .i64 b, .int .i64 c, .int .i64 d], .int .i64 x, .int .i64 y] w fun e w' => e = .returned (.bool (containsB ⟨a, b, c, d⟩ x y)) ∧ Below w.heap.size w w' := by
  have C := fun w => valid_any a b c d w
  by_cases hv : ValidP ⟨a, b, c, d⟩
  · rw [validB_t hv] at C
    have HV := hid (containsB_v (x := x) (y := y) hv)
    have HC := hid C
    clear C hv
    go_enter Try.func16, Try.ntmps16
    go_wp2_with fail
    refine (HC.out _).mono ?_
    rintro e w1 ⟨rfl, hb⟩
    obtain ⟨hcw1, hfw1⟩ := bcell hb
    have hzw1 : w.heap.size + 1 ≤ w1.heap.size := by have := hb.size; first | omega | (simp at this; omega)
    have hzw10 : w.heap.size < w1.heap.size := by omega
    have HBw1 := hid (((Below.refl _ _).alloc (Nat.le_refl _) _).trans (hb.mono (by first | omega | (simp <;> omega))))
    clear hb
    go_wp2
    all_goals (go_ret; exact ⟨ret_bool (by rw [HV.out, Bool.eq_iff_iff]; simp; omega), HBw1.out⟩)
  · rw [validB_f hv] at C
    have HV := hid (containsB_n (x := x) (y := y) hv)
    have HC := hid C
    clear C hv
    go_enter Try.func16, Try.ntmps16
    go_wp2_with fail
    refine (HC.out _).mono ?_
    rintro e w1 ⟨rfl, hb⟩
    obtain ⟨hcw1, hfw1⟩ := bcell hb
    have hzw1 : w.heap.size + 1 ≤ w1.heap.size := by have := hb.size; first | omega | (simp at this; omega)
    have hzw10 : w.heap.size < w1.heap.size := by omega
    have HBw1 := hid (((Below.refl _ _).alloc (Nat.le_refl _) _).trans (hb.mono (by first | omega | (simp <;> omega))))
    clear hb
    go_wp2
    go_ret
    exact ⟨ret_bool HV.out.symm, HBw1.out⟩

theorem rcontains_any (a b c d x y : Int) (w : World) :
    Calls Try.prog 29 #[.agg #[.int .i64 a, .int .i64 b, .int .i64 c, .int .i64 d], .int .i64 x, .int .i64 y] w fun e w' => e = .returned (.bool (containsB ⟨a, b, c, d⟩ x y)) ∧ Below w.heap.size w w' := by
  have C := fun w => rvalid_any a b c d w
  by_cases hv : ValidP ⟨a, b, c, d⟩
  · rw [validB_t hv] at C
    have HV := hid (containsB_v (x := x) (y := y) hv)
    have HC := hid C
    clear C hv
    go_enter Try.func29, Try.ntmps29
    go_wp2_with fail
    refine (HC.out _).mono ?_
    rintro e w1 ⟨rfl, hb⟩
    obtain ⟨hcw1, hfw1⟩ := bcell hb
    have hzw1 : w.heap.size + 1 ≤ w1.heap.size := by have := hb.size; first | omega | (simp at this; omega)
    have hzw10 : w.heap.size < w1.heap.size := by omega
    have HBw1 := hid (((Below.refl _ _).alloc (Nat.le_refl _) _).trans (hb.mono (by first | omega | (simp <;> omega))))
    clear hb
    go_wp2
    all_goals (go_ret; exact ⟨ret_bool (by rw [HV.out, Bool.eq_iff_iff]; simp; omega), HBw1.out⟩)
  · rw [validB_f hv] at C
    have HV := hid (containsB_n (x := x) (y := y) hv)
    have HC := hid C
    clear C hv
    go_enter Try.func29, Try.ntmps29
    go_wp2_with fail
    refine (HC.out _).mono ?_
    rintro e w1 ⟨rfl, hb⟩
    obtain ⟨hcw1, hfw1⟩ := bcell hb
    have hzw1 : w.heap.size + 1 ≤ w1.heap.size := by have := hb.size; first | omega | (simp at this; omega)
    have hzw10 : w.heap.size < w1.heap.size := by omega
    have HBw1 := hid (((Below.refl _ _).alloc (Nat.le_refl _) _).trans (hb.mono (by first | omega | (simp <;> omega))))
    clear hb
    go_wp2
    go_ret
    exact ⟨ret_bool HV.out.symm, HBw1.out⟩

theorem inside_any (a b c d a2 b2 c2 d2 : Int) (w : World) :
    Calls Try.prog 14 #[.agg #[.int .i64 a, .int .i64 b, .int .i64 c, .int .i64 d], .agg #[.int .i64 a2, .int .i64 b2, .int .i64 c2, .int .i64 d2]] w fun e w' => e = .returned (.bool (insideB ⟨a, b, c, d⟩ ⟨a2, b2, c2, d2⟩)) ∧ Below w.heap.size w w' := by
  have C := fun w => valid_any a b c d w
  have C2 := fun w => valid_any a2 b2 c2 d2 w
  have CE := fun w => empty_any a b c d w
  by_cases hv : ValidP ⟨a, b, c, d⟩
  · rw [validB_t hv] at C
    have HC := hid C
    by_cases hv2 : ValidP ⟨a2, b2, c2, d2⟩
    · rw [validB_t hv2] at C2
      have HC2 := hid C2
      by_cases he : EmptyP ⟨a, b, c, d⟩
      · rw [emptyB_t he] at CE
        have HCE := hid CE
        have HV := hid (insideB_e hv hv2 he)
        clear C C2 CE hv hv2 he
        go_enter Try.func14, Try.ntmps14
        go_wp2_with fail
        refine (HC.out _).mono ?_
        rintro e w1 ⟨rfl, hb⟩
        obtain ⟨hcw1, hfw1⟩ := bcell hb
        have hzw1 : w.heap.size + 2 ≤ w1.heap.size := by have := hb.size; first | omega | (simp at this; omega)
        have hzw10 : w.heap.size < w1.heap.size := by omega
        have hzw11 : w.heap.size + 1 < w1.heap.size := by omega
        have HBw1 := hid ((((Below.refl _ _).alloc (Nat.le_refl _) _).alloc (by simp) _).trans (hb.mono (by first | omega | (simp <;> omega))))
        clear hb
        go_wp2_with fail
        refine (HC2.out _).mono ?_
        rintro e w2 ⟨rfl, hb⟩
        obtain ⟨hcw2, hfw2⟩ := bcell hb
        have hzw2 : w.heap.size + 2 ≤ w2.heap.size := by have := hb.size; first | omega | (simp at this; omega)
        have hzw20 : w.heap.size < w2.heap.size := by omega
        have hzw21 : w.heap.size + 1 < w2.heap.size := by omega
        have HBw2 := hid (HBw1.out.trans (hb.mono (by first | omega | (simp <;> omega))))
        clear hb
        go_wp2_with fail
        refine (HCE.out _).mono ?_
        rintro e w3 ⟨rfl, hb⟩
        obtain ⟨hcw3, hfw3⟩ := bcell hb
        have hzw3 : w.heap.size + 2 ≤ w3.heap.size := by have := hb.size; first | omega | (simp at this; omega)
        have hzw30 : w.heap.size < w3.heap.size := by omega
        have hzw31 : w.heap.size + 1 < w3.heap.size := by omega
        have HBw3 := hid (HBw2.out.trans (hb.mono (by first | omega | (simp <;> omega))))
        clear hb
        go_wp2
        go_ret
        exact ⟨ret_bool HV.out.symm, HBw3.out⟩
      · rw [emptyB_f he] at CE
        have HCE := hid CE
        have HV := hid (insideB_v hv hv2 he)
        clear C C2 CE hv hv2 he
        go_enter Try.func14, Try.ntmps14
        go_wp2_with fail
        refine (HC.out _).mono ?_
        rintro e w1 ⟨rfl, hb⟩
        obtain ⟨hcw1, hfw1⟩ := bcell hb
        have hzw1 : w.heap.size + 2 ≤ w1.heap.size := by have := hb.size; first | omega | (simp at this; omega)
        have hzw10 : w.heap.size < w1.heap.size := by omega
        have hzw11 : w.heap.size + 1 < w1.heap.size := by omega
        have HBw1 := hid ((((Below.refl _ _).alloc (Nat.le_refl _) _).alloc (by simp) _).trans (hb.mono (by first | omega | (simp <;> omega))))
        clear hb
        go_wp2_with fail
        refine (HC2.out _).mono ?_
        rintro e w2 ⟨rfl, hb⟩
        obtain ⟨hcw2, hfw2⟩ := bcell hb
        have hzw2 : w.heap.size + 2 ≤ w2.heap.size := by have := hb.size; first | omega | (simp at this; omega)
        have hzw20 : w.heap.size < w2.heap.size := by omega
        have hzw21 : w.heap.size + 1 < w2.heap.size := by omega
        have HBw2 := hid (HBw1.out.trans (hb.mono (by first | omega | (simp <;> omega))))
        clear hb
        go_wp2_with fail
        refine (HCE.out _).mono ?_
        rintro e w3 ⟨rfl, hb⟩
        obtain ⟨hcw3, hfw3⟩ := bcell hb
        have hzw3 : w.heap.size + 2 ≤ w3.heap.size := by have := hb.size; first | omega | (simp at this; omega)
        have hzw30 : w.heap.size < w3.heap.size := by omega
        have hzw31 : w.heap.size + 1 < w3.heap.size := by omega
        have HBw3 := hid (HBw2.out.trans (hb.mono (by first | omega | (simp <;> omega))))
        clear hb
        go_wp2
        all_goals (go_ret; exact ⟨ret_bool (by rw [HV.out, Bool.eq_iff_iff]; simp; omega), HBw3.out⟩)
    · rw [validB_f hv2] at C2
      have HC2 := hid C2
      have HV := hid (insideB_n (a := ⟨a, b, c, d⟩) (b := ⟨a2, b2, c2, d2⟩) (.inr hv2))
      clear C C2 CE hv hv2
      go_enter Try.func14, Try.ntmps14
      go_wp2_with fail
      refine (HC.out _).mono ?_
      rintro e w1 ⟨rfl, hb⟩
      obtain ⟨hcw1, hfw1⟩ := bcell hb
      have hzw1 : w.heap.size + 2 ≤ w1.heap.size := by have := hb.size; first | omega | (simp at this; omega)
      have hzw10 : w.heap.size < w1.heap.size := by omega
      have hzw11 : w.heap.size + 1 < w1.heap.size := by omega
      have HBw1 := hid ((((Below.refl _ _).alloc (Nat.le_refl _) _).alloc (by simp) _).trans (hb.mono (by first | omega | (simp <;> omega))))
      clear hb
      go_wp2_with fail
      refine (HC2.out _).mono ?_
      rintro e w2 ⟨rfl, hb⟩
      obtain ⟨hcw2, hfw2⟩ := bcell hb
      have hzw2 : w.heap.size + 2 ≤ w2.heap.size := by have := hb.size; first | omega | (simp at this; omega)
      have hzw20 : w.heap.size < w2.heap.size := by omega
      have hzw21 : w.heap.size + 1 < w2.heap.size := by omega
      have HBw2 := hid (HBw1.out.trans (hb.mono (by first | omega | (simp <;> omega))))
      clear hb
      go_wp2
      go_ret
      exact ⟨ret_bool HV.out.symm, HBw2.out⟩
  · rw [validB_f hv] at C
    have HC := hid C
    have HV := hid (insideB_n (a := ⟨a, b, c, d⟩) (b := ⟨a2, b2, c2, d2⟩) (.inl hv))
    clear C C2 CE hv
    go_enter Try.func14, Try.ntmps14
    go_wp2_with fail
    refine (HC.out _).mono ?_
    rintro e w1 ⟨rfl, hb⟩
    obtain ⟨hcw1, hfw1⟩ := bcell hb
    have hzw1 : w.heap.size + 2 ≤ w1.heap.size := by have := hb.size; first | omega | (simp at this; omega)
    have hzw10 : w.heap.size < w1.heap.size := by omega
    have hzw11 : w.heap.size + 1 < w1.heap.size := by omega
    have HBw1 := hid ((((Below.refl _ _).alloc (Nat.le_refl _) _).alloc (by simp) _).trans (hb.mono (by first | omega | (simp <;> omega))))
    clear hb
    go_wp2
    go_ret
    exact ⟨ret_bool HV.out.symm, HBw1.out⟩

theorem rinside_any (a b c d a2 b2 c2 d2 : Int) (w : World) :
    Calls Try.prog 30 #[.agg #[.int .i64 a, .int .i64 b, .int .i64 c, .int .i64 d], .agg #[.int .i64 a2, .int .i64 b2, .int .i64 c2, .int .i64 d2]] w fun e w' => e = .returned (.bool (insideB ⟨a, b, c, d⟩ ⟨a2, b2, c2, d2⟩)) ∧ Below w.heap.size w w' := by
  have C := fun w => rvalid_any a b c d w
  have C2 := fun w => rvalid_any a2 b2 c2 d2 w
  have CE := fun w => rempty_any a b c d w
  by_cases hv : ValidP ⟨a, b, c, d⟩
  · rw [validB_t hv] at C
    have HC := hid C
    by_cases hv2 : ValidP ⟨a2, b2, c2, d2⟩
    · rw [validB_t hv2] at C2
      have HC2 := hid C2
      by_cases he : EmptyP ⟨a, b, c, d⟩
      · rw [emptyB_t he] at CE
        have HCE := hid CE
        have HV := hid (insideB_e hv hv2 he)
        clear C C2 CE hv hv2 he
        go_enter Try.func30, Try.ntmps30
        go_wp2_with fail
        refine (HC.out _).mono ?_
        rintro e w1 ⟨rfl, hb⟩
        obtain ⟨hcw1, hfw1⟩ := bcell hb
        have hzw1 : w.heap.size + 2 ≤ w1.heap.size := by have := hb.size; first | omega | (simp at this; omega)
        have hzw10 : w.heap.size < w1.heap.size := by omega
        have hzw11 : w.heap.size + 1 < w1.heap.size := by omega
        have HBw1 := hid ((((Below.refl _ _).alloc (Nat.le_refl _) _).alloc (by simp) _).trans (hb.mono (by first | omega | (simp <;> omega))))
        clear hb
        go_wp2_with fail
        refine (HC2.out _).mono ?_
        rintro e w2 ⟨rfl, hb⟩
        obtain ⟨hcw2, hfw2⟩ := bcell hb
        have hzw2 : w.heap.size + 2 ≤ w2.heap.size := by have := hb.size; first | omega | (simp at this; omega)
        have hzw20 : w.heap.size < w2.heap.size := by omega
        have hzw21 : w.heap.size + 1 < w2.heap.size := by omega
        have HBw2 := hid (HBw1.out.trans (hb.mono (by first | omega | (simp <;> omega))))
        clear hb
        go_wp2_with fail
        refine (HCE.out _).mono ?_
        rintro e w3 ⟨rfl, hb⟩
        obtain ⟨hcw3, hfw3⟩ := bcell hb
        have hzw3 : w.heap.size + 2 ≤ w3.heap.size := by have := hb.size; first | omega | (simp at this; omega)
        have hzw30 : w.heap.size < w3.heap.size := by omega
        have hzw31 : w.heap.size + 1 < w3.heap.size := by omega
        have HBw3 := hid (HBw2.out.trans (hb.mono (by first | omega | (simp <;> omega))))
        clear hb
        go_wp2
        go_ret
        exact ⟨ret_bool HV.out.symm, HBw3.out⟩
      · rw [emptyB_f he] at CE
        have HCE := hid CE
        have HV := hid (insideB_v hv hv2 he)
        clear C C2 CE hv hv2 he
        go_enter Try.func30, Try.ntmps30
        go_wp2_with fail
        refine (HC.out _).mono ?_
        rintro e w1 ⟨rfl, hb⟩
        obtain ⟨hcw1, hfw1⟩ := bcell hb
        have hzw1 : w.heap.size + 2 ≤ w1.heap.size := by have := hb.size; first | omega | (simp at this; omega)
        have hzw10 : w.heap.size < w1.heap.size := by omega
        have hzw11 : w.heap.size + 1 < w1.heap.size := by omega
        have HBw1 := hid ((((Below.refl _ _).alloc (Nat.le_refl _) _).alloc (by simp) _).trans (hb.mono (by first | omega | (simp <;> omega))))
        clear hb
        go_wp2_with fail
        refine (HC2.out _).mono ?_
        rintro e w2 ⟨rfl, hb⟩
        obtain ⟨hcw2, hfw2⟩ := bcell hb
        have hzw2 : w.heap.size + 2 ≤ w2.heap.size := by have := hb.size; first | omega | (simp at this; omega)
        have hzw20 : w.heap.size < w2.heap.size := by omega
        have hzw21 : w.heap.size + 1 < w2.heap.size := by omega
        have HBw2 := hid (HBw1.out.trans (hb.mono (by first | omega | (simp <;> omega))))
        clear hb
        go_wp2_with fail
        refine (HCE.out _).mono ?_
        rintro e w3 ⟨rfl, hb⟩
        obtain ⟨hcw3, hfw3⟩ := bcell hb
        have hzw3 : w.heap.size + 2 ≤ w3.heap.size := by have := hb.size; first | omega | (simp at this; omega)
        have hzw30 : w.heap.size < w3.heap.size := by omega
        have hzw31 : w.heap.size + 1 < w3.heap.size := by omega
        have HBw3 := hid (HBw2.out.trans (hb.mono (by first | omega | (simp <;> omega))))
        clear hb
        go_wp2
        all_goals (go_ret; exact ⟨ret_bool (by rw [HV.out, Bool.eq_iff_iff]; simp; omega), HBw3.out⟩)
    · rw [validB_f hv2] at C2
      have HC2 := hid C2
      have HV := hid (insideB_n (a := ⟨a, b, c, d⟩) (b := ⟨a2, b2, c2, d2⟩) (.inr hv2))
      clear C C2 CE hv hv2
      go_enter Try.func30, Try.ntmps30
      go_wp2_with fail
      refine (HC.out _).mono ?_
      rintro e w1 ⟨rfl, hb⟩
      obtain ⟨hcw1, hfw1⟩ := bcell hb
      have hzw1 : w.heap.size + 2 ≤ w1.heap.size := by have := hb.size; first | omega | (simp at this; omega)
      have hzw10 : w.heap.size < w1.heap.size := by omega
      have hzw11 : w.heap.size + 1 < w1.heap.size := by omega
      have HBw1 := hid ((((Below.refl _ _).alloc (Nat.le_refl _) _).alloc (by simp) _).trans (hb.mono (by first | omega | (simp <;> omega))))
      clear hb
      go_wp2_with fail
      refine (HC2.out _).mono ?_
      rintro e w2 ⟨rfl, hb⟩
      obtain ⟨hcw2, hfw2⟩ := bcell hb
      have hzw2 : w.heap.size + 2 ≤ w2.heap.size := by have := hb.size; first | omega | (simp at this; omega)
      have hzw20 : w.heap.size < w2.heap.size := by omega
      have hzw21 : w.heap.size + 1 < w2.heap.size := by omega
      have HBw2 := hid (HBw1.out.trans (hb.mono (by first | omega | (simp <;> omega))))
      clear hb
      go_wp2
      go_ret
      exact ⟨ret_bool HV.out.symm, HBw2.out⟩
  · rw [validB_f hv] at C
    have HC := hid C
    have HV := hid (insideB_n (a := ⟨a, b, c, d⟩) (b := ⟨a2, b2, c2, d2⟩) (.inl hv))
    clear C C2 CE hv
    go_enter Try.func30, Try.ntmps30
    go_wp2_with fail
    refine (HC.out _).mono ?_
    rintro e w1 ⟨rfl, hb⟩
    obtain ⟨hcw1, hfw1⟩ := bcell hb
    have hzw1 : w.heap.size + 2 ≤ w1.heap.size := by have := hb.size; first | omega | (simp at this; omega)
    have hzw10 : w.heap.size < w1.heap.size := by omega
    have hzw11 : w.heap.size + 1 < w1.heap.size := by omega
    have HBw1 := hid ((((Below.refl _ _).alloc (Nat.le_refl _) _).alloc (by simp) _).trans (hb.mono (by first | omega | (simp <;> omega))))
    clear hb
    go_wp2
    go_ret
    exact ⟨ret_bool HV.out.symm, HBw1.out⟩

end Go.Proofs.Ytphleapmgkcpoaa
