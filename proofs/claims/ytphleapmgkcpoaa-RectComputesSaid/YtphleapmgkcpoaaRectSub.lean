/-
  Layer 2: Subtract: contract.
-/
import Derived.Test.YtphleapmgkcpoaaRectList
namespace Go.Proofs.Ytphleapmgkcpoaa
open Go.RowKit
set_option linter.unusedVariables false

set_option maxRecDepth 100000 in
set_option maxHeartbeats 4000000 in
theorem sub_any (a b c d a2 b2 c2 d2 : Int) (w : World) :
    Calls Try.prog 11 #[.agg #[.int .i64 a, .int .i64 b, .int .i64 c, .int .i64 d], .agg #[.int .i64 a2, .int .i64 b2, .int .i64 c2, .int .i64 d2]] w (SubPost ⟨a, b, c, d⟩ ⟨a2, b2, c2, d2⟩ w) := by
  obtain ⟨i0, hi, hz0, hz1, hz2⟩ := info_parts r_info
  have CE := fun w => empty_any a b c d w
  have C := fun w => valid_any a b c d w
  have C2 := fun w => valid_any a2 b2 c2 d2 w
  have CI := fun w => inter_any a b c d a2 b2 c2 d2 w
  by_cases he : EmptyP ⟨a, b, c, d⟩
  · rw [emptyB_t he] at CE
    have HE := hid CE
    have HV := hid (subS_nil (a := ⟨a, b, c, d⟩) (b := ⟨a2, b2, c2, d2⟩) (.inl he))
    clear CE C C2 CI he
    go_enter Try.func11, Try.ntmps11
    go_wp2_with fail
    refine (HE.out _).mono ?_
    rintro e w1 ⟨rfl, hb⟩
    obtain ⟨hcw1, hfw1⟩ := bcell hb
    have hzw1 : w.heap.size + 2 ≤ w1.heap.size := by have := hb.size; first | omega | (simp at this; omega)
    have hzw10 : w.heap.size < w1.heap.size := by omega
    have hzw11 : w.heap.size + 1 < w1.heap.size := by omega
    have HBw1 := hid (((((Below.refl _ _).alloc (by first | (exact Nat.le_refl _) | omega | (simp <;> omega)) _)).alloc (by first | (exact Nat.le_refl _) | omega | (simp <;> omega)) _).trans (hb.mono (by first | omega | (simp <;> omega))))
    clear hb
    go_wp2
    go_ret
    exact ⟨none, 0, 0, rfl, by omega, by rw [HV.out]; exact RectsAt.nil _ _, HBw1.out⟩
  rw [emptyB_f he] at CE
  have HE := hid CE
  by_cases hv : ValidP ⟨a, b, c, d⟩
  · rw [validB_t hv] at C
    have HC := hid C
    by_cases hv2 : ValidP ⟨a2, b2, c2, d2⟩
    · rw [validB_t hv2] at C2
      have HC2 := hid C2
      generalize hI : interS ⟨a, b, c, d⟩ ⟨a2, b2, c2, d2⟩ = I at *
      obtain ⟨e0, e1, e2, e3⟩ := I
      simp only at CI
      have HI := hid CI
      have CEI := fun w => empty_any e0 e1 e2 e3 w
      by_cases hei : EmptyP ⟨e0, e1, e2, e3⟩
      · rw [emptyB_t hei] at CEI
        have HEI := hid CEI
        have HV := hid (subS_one he hv hv2 (by rw [hI]; exact hei))
        clear CE C C2 CI CEI he hv hv2 hei hI
        go_enter Try.func11, Try.ntmps11
        go_wp2_with fail
        refine (HE.out _).mono ?_
        rintro e w1 ⟨rfl, hb⟩
        obtain ⟨hcw1, hfw1⟩ := bcell hb
        have hzw1 : w.heap.size + 2 ≤ w1.heap.size := by have := hb.size; first | omega | (simp at this; omega)
        have hzw10 : w.heap.size < w1.heap.size := by omega
        have hzw11 : w.heap.size + 1 < w1.heap.size := by omega
        have HBw1 := hid (((((Below.refl _ _).alloc (by first | (exact Nat.le_refl _) | omega | (simp <;> omega)) _)).alloc (by first | (exact Nat.le_refl _) | omega | (simp <;> omega)) _).trans (hb.mono (by first | omega | (simp <;> omega))))
        clear hb
        go_wp2_with fail
        refine (HC.out _).mono ?_
        rintro e w2 ⟨rfl, hb⟩
        obtain ⟨hcw2, hfw2⟩ := bcell hb
        have hzw2 : w.heap.size + 2 ≤ w2.heap.size := by have := hb.size; first | omega | (simp at this; omega)
        have hzw20 : w.heap.size < w2.heap.size := by omega
        have hzw21 : w.heap.size + 1 < w2.heap.size := by omega
        have HBw2 := hid (HBw1.out.trans (hb.mono (by first | omega | (simp <;> omega))))
        clear hb
        go_wp2_with fail
        refine (HC2.out _).mono ?_
        rintro e w3 ⟨rfl, hb⟩
        obtain ⟨hcw3, hfw3⟩ := bcell hb
        have hzw3 : w.heap.size + 2 ≤ w3.heap.size := by have := hb.size; first | omega | (simp at this; omega)
        have hzw30 : w.heap.size < w3.heap.size := by omega
        have hzw31 : w.heap.size + 1 < w3.heap.size := by omega
        have HBw3 := hid (HBw2.out.trans (hb.mono (by first | omega | (simp <;> omega))))
        clear hb
        go_wp2_with fail
        refine (HI.out _).mono ?_
        rintro e w4 ⟨rfl, hb⟩
        obtain ⟨hcw4, hfw4⟩ := bcell hb
        have hzw4 : w.heap.size + 2 ≤ w4.heap.size := by have := hb.size; first | omega | (simp at this; omega)
        have hzw40 : w.heap.size < w4.heap.size := by omega
        have hzw41 : w.heap.size + 1 < w4.heap.size := by omega
        have HBw4 := hid (HBw3.out.trans (hb.mono (by first | omega | (simp <;> omega))))
        clear hb
        go_wp2_with fail
        refine (HEI.out _).mono ?_
        rintro e w5 ⟨rfl, hb⟩
        obtain ⟨hcw5, hfw5⟩ := bcell hb
        have hzw5 : w.heap.size + 2 ≤ w5.heap.size := by have := hb.size; first | omega | (simp at this; omega)
        have hzw50 : w.heap.size < w5.heap.size := by omega
        have hzw51 : w.heap.size + 1 < w5.heap.size := by omega
        have HBw5 := hid (((HBw4.out).alloc (by first | (exact Nat.le_refl _) | omega | (simp <;> omega)) _).trans (hb.mono (by first | omega | (simp <;> omega))))
        clear hb
        go_wp2
        go_ret
        have hr := rects_new w5 a b c d 26
        exact ⟨_, 1, 1, rfl, by omega, by rw [HV.out]; simpa using hr, HBw5.out.alloc HBw5.out.size _⟩
      · rw [emptyB_f hei] at CEI
        have HEI := hid CEI
        have HV : Hid (subS ⟨a, b, c, d⟩ ⟨a2, b2, c2, d2⟩ = kept ⟨a, b, c, d⟩ ⟨e0, e1, e2, e3⟩ 4) := hid (by rw [subS_parts he hv hv2 (by rw [hI]; exact hei), hI]; rfl)
        clear CE C C2 CI CEI he hv hv2 hei hI
        have HP0 : Hid ((partsOf ⟨a, b, c, d⟩ ⟨e0, e1, e2, e3⟩)[0]? = some ⟨a, b, c, e1⟩) := rfl
        have HP1 : Hid ((partsOf ⟨a, b, c, d⟩ ⟨e0, e1, e2, e3⟩)[1]? = some ⟨a, e1, e0, e3⟩) := rfl
        have HP2 : Hid ((partsOf ⟨a, b, c, d⟩ ⟨e0, e1, e2, e3⟩)[2]? = some ⟨e2, e1, c, e3⟩) := rfl
        have HP3 : Hid ((partsOf ⟨a, b, c, d⟩ ⟨e0, e1, e2, e3⟩)[3]? = some ⟨a, e3, c, d⟩) := rfl
        have ix0 : ∀ w, (Instr.index 48 (.agg #[.int .i64 a, .int .i64 b, .int .i64 c, .int .i64 e1, .int .i64 a, .int .i64 e1, .int .i64 e0, .int .i64 e3, .int .i64 e2, .int .i64 e1, .int .i64 c, .int .i64 e3, .int .i64 a, .int .i64 e3, .int .i64 c, .int .i64 d]) (.int .i64 0)).run Try.prog w = .ok (.agg #[.int .i64 a, .int .i64 b, .int .i64 c, .int .i64 e1]) w := fun _ => by kernel_rfl
        have ix1 : ∀ w, (Instr.index 48 (.agg #[.int .i64 a, .int .i64 b, .int .i64 c, .int .i64 e1, .int .i64 a, .int .i64 e1, .int .i64 e0, .int .i64 e3, .int .i64 e2, .int .i64 e1, .int .i64 c, .int .i64 e3, .int .i64 a, .int .i64 e3, .int .i64 c, .int .i64 d]) (.int .i64 1)).run Try.prog w = .ok (.agg #[.int .i64 a, .int .i64 e1, .int .i64 e0, .int .i64 e3]) w := fun _ => by kernel_rfl
        have ix2 : ∀ w, (Instr.index 48 (.agg #[.int .i64 a, .int .i64 b, .int .i64 c, .int .i64 e1, .int .i64 a, .int .i64 e1, .int .i64 e0, .int .i64 e3, .int .i64 e2, .int .i64 e1, .int .i64 c, .int .i64 e3, .int .i64 a, .int .i64 e3, .int .i64 c, .int .i64 d]) (.int .i64 2)).run Try.prog w = .ok (.agg #[.int .i64 e2, .int .i64 e1, .int .i64 c, .int .i64 e3]) w := fun _ => by kernel_rfl
        have ix3 : ∀ w, (Instr.index 48 (.agg #[.int .i64 a, .int .i64 b, .int .i64 c, .int .i64 e1, .int .i64 a, .int .i64 e1, .int .i64 e0, .int .i64 e3, .int .i64 e2, .int .i64 e1, .int .i64 c, .int .i64 e3, .int .i64 a, .int .i64 e3, .int .i64 c, .int .i64 d]) (.int .i64 3)).run Try.prog w = .ok (.agg #[.int .i64 a, .int .i64 e3, .int .i64 c, .int .i64 d]) w := fun _ => by kernel_rfl
        go_enter Try.func11, Try.ntmps11
        go_wp2_with fail
        refine (HE.out _).mono ?_
        rintro e w1 ⟨rfl, hb⟩
        obtain ⟨hcw1, hfw1⟩ := bcell hb
        have hzw1 : w.heap.size + 2 ≤ w1.heap.size := by have := hb.size; first | omega | (simp at this; omega)
        have hzw10 : w.heap.size < w1.heap.size := by omega
        have hzw11 : w.heap.size + 1 < w1.heap.size := by omega
        have HBw1 := hid (((((Below.refl _ _).alloc (by first | (exact Nat.le_refl _) | omega | (simp <;> omega)) _)).alloc (by first | (exact Nat.le_refl _) | omega | (simp <;> omega)) _).trans (hb.mono (by first | omega | (simp <;> omega))))
        clear hb
        go_wp2_with fail
        refine (HC.out _).mono ?_
        rintro e w2 ⟨rfl, hb⟩
        obtain ⟨hcw2, hfw2⟩ := bcell hb
        have hzw2 : w.heap.size + 2 ≤ w2.heap.size := by have := hb.size; first | omega | (simp at this; omega)
        have hzw20 : w.heap.size < w2.heap.size := by omega
        have hzw21 : w.heap.size + 1 < w2.heap.size := by omega
        have HBw2 := hid (HBw1.out.trans (hb.mono (by first | omega | (simp <;> omega))))
        clear hb
        go_wp2_with fail
        refine (HC2.out _).mono ?_
        rintro e w3 ⟨rfl, hb⟩
        obtain ⟨hcw3, hfw3⟩ := bcell hb
        have hzw3 : w.heap.size + 2 ≤ w3.heap.size := by have := hb.size; first | omega | (simp at this; omega)
        have hzw30 : w.heap.size < w3.heap.size := by omega
        have hzw31 : w.heap.size + 1 < w3.heap.size := by omega
        have HBw3 := hid (HBw2.out.trans (hb.mono (by first | omega | (simp <;> omega))))
        clear hb
        go_wp2_with fail
        refine (HI.out _).mono ?_
        rintro e w4 ⟨rfl, hb⟩
        obtain ⟨hcw4, hfw4⟩ := bcell hb
        have hzw4 : w.heap.size + 2 ≤ w4.heap.size := by have := hb.size; first | omega | (simp at this; omega)
        have hzw40 : w.heap.size < w4.heap.size := by omega
        have hzw41 : w.heap.size + 1 < w4.heap.size := by omega
        have HBw4 := hid (HBw3.out.trans (hb.mono (by first | omega | (simp <;> omega))))
        clear hb
        go_wp2_with fail
        refine (HEI.out _).mono ?_
        rintro e w5 ⟨rfl, hb⟩
        obtain ⟨hcw5, hfw5⟩ := bcell hb
        have hzw5 : w.heap.size + 2 ≤ w5.heap.size := by have := hb.size; first | omega | (simp at this; omega)
        have hzw50 : w.heap.size < w5.heap.size := by omega
        have hzw51 : w.heap.size + 1 < w5.heap.size := by omega
        have HBw5 := hid (((HBw4.out).alloc (by first | (exact Nat.le_refl _) | omega | (simp <;> omega)) _).trans (hb.mono (by first | omega | (simp <;> omega))))
        clear hb
        go_wp2
        go_loopw [6, 65] (fun v i wr => ∃ k : Nat, k ≤ 4 ∧ i = .int .i64 k ∧ wr.ownsRow w.heap.size 26 4 v (kept ⟨a, b, c, d⟩ ⟨e0, e1, e2, e3⟩ k).length (flat (kept ⟨a, b, c, d⟩ ⟨e0, e1, e2, e3⟩ k)) ∧ Below w.heap.size w wr) (fun _ i _ => 4 - (intOf i).toNat)
        case atStart => exact ⟨0, by omega, rfl, World.ownsRow_nil _ _ _ _, HBw5.out⟩
        case round =>
          obtain ⟨k, hk, rfl, hown, hb⟩ := hrel
          have HOWN := hid hown
          have HB := hid hb
          have hbs := hb.size
          clear hown hb
          have hk4 : k = 0 ∨ k = 1 ∨ k = 2 ∨ k = 3 ∨ k = 4 := by omega
          rcases hk4 with rfl | rfl | rfl | rfl | rfl
          · clear ix1 ix2 ix3
            by_cases hx : a < c
            · by_cases hy : b < e1
              · have HK := hid (kept_yes HP0.out (decide_eq_true ⟨hx, hy⟩))
                have hown2 := (HOWN.out.alloc (.cells #[.int .i64 a, .int .i64 b, .int .i64 c, .int .i64 e1] 26)).alloc (.cells #[.int .i64 a, .int .i64 b, .int .i64 c, .int .i64 e1] 26)
                have HO2 := hid hown2
                have HL := hid (kept_le ⟨a, b, c, d⟩ ⟨e0, e1, e2, e3⟩ 0)
                clear hown2
                go_wp2_with (at_builtin; refine wpList_append_own _ rfl _ _ 30 rfl w.heap.size 26 i0 _ 4 32 Try.underlying30 hi hz0 hz1 hz2 rfl (by decide) _ _ _ rfl HO2.out ⟨wr.heap.size + 1, 0, none⟩ 1 1 (flat1 ⟨a, b, c, e1⟩) rfl rfl ?c1 ?c2 ?c3 ?c4 ?c5 ?_)
                case c1 => exact news_new1 _ _ ⟨a, b, c, e1⟩ _
                case c2 => exact flat1_one _
                case c3 => have := HL.out; unfold maxLen; omega
                case c4 => have := HL.out; omega
                case c5 => simp <;> omega
                intro v' w7 hown3 hg3 _
                have HO3 := hid hown3
                have HB7 : Hid (Below w.heap.size w w7) := hid (((HB.out.alloc hbs _).alloc (by simp <;> omega) _).grown hg3 (by simp <;> omega) (fun x e => (HO2.out.lt x e).1))
                clear hown3 hg3
                go_wp2
                go_roundw
                case rel => exact ⟨0 + 1, by omega, by go_num, by rw [HK.out, flat_append, flat_one, List.length_append]; exact HO3.out, HB7.out⟩
                case measure => simp [intOf] <;> omega
              · have HK := hid (kept_no HP0.out (by unfold realB; simp only [decide_eq_false_iff_not]; omega))
                have HB7 := hid (HB.out.alloc hbs (.cells #[.int .i64 a, .int .i64 b, .int .i64 c, .int .i64 e1] 26))
                have HO3 := hid (HOWN.out.alloc (.cells #[.int .i64 a, .int .i64 b, .int .i64 c, .int .i64 e1] 26))
                go_wp2
                go_roundw
                case rel => exact ⟨0 + 1, by omega, by go_num, by rw [HK.out]; exact HO3.out, HB7.out⟩
                case measure => simp [intOf] <;> omega
            · have HK := hid (kept_no HP0.out (by unfold realB; simp only [decide_eq_false_iff_not]; omega))
              have HB7 := hid (HB.out.alloc hbs (.cells #[.int .i64 a, .int .i64 b, .int .i64 c, .int .i64 e1] 26))
              have HO3 := hid (HOWN.out.alloc (.cells #[.int .i64 a, .int .i64 b, .int .i64 c, .int .i64 e1] 26))
              go_wp2
              go_roundw
              case rel => exact ⟨0 + 1, by omega, by go_num, by rw [HK.out]; exact HO3.out, HB7.out⟩
              case measure => simp [intOf] <;> omega
          · clear ix0 ix2 ix3
            by_cases hx : a < e0
            · by_cases hy : e1 < e3
              · have HK := hid (kept_yes HP1.out (decide_eq_true ⟨hx, hy⟩))
                have hown2 := (HOWN.out.alloc (.cells #[.int .i64 a, .int .i64 e1, .int .i64 e0, .int .i64 e3] 26)).alloc (.cells #[.int .i64 a, .int .i64 e1, .int .i64 e0, .int .i64 e3] 26)
                have HO2 := hid hown2
                have HL := hid (kept_le ⟨a, b, c, d⟩ ⟨e0, e1, e2, e3⟩ 1)
                clear hown2
                go_wp2_with (at_builtin; refine wpList_append_own _ rfl _ _ 30 rfl w.heap.size 26 i0 _ 4 32 Try.underlying30 hi hz0 hz1 hz2 rfl (by decide) _ _ _ rfl HO2.out ⟨wr.heap.size + 1, 0, none⟩ 1 1 (flat1 ⟨a, e1, e0, e3⟩) rfl rfl ?c1 ?c2 ?c3 ?c4 ?c5 ?_)
                case c1 => exact news_new1 _ _ ⟨a, e1, e0, e3⟩ _
                case c2 => exact flat1_one _
                case c3 => have := HL.out; unfold maxLen; omega
                case c4 => have := HL.out; omega
                case c5 => simp <;> omega
                intro v' w7 hown3 hg3 _
                have HO3 := hid hown3
                have HB7 : Hid (Below w.heap.size w w7) := hid (((HB.out.alloc hbs _).alloc (by simp <;> omega) _).grown hg3 (by simp <;> omega) (fun x e => (HO2.out.lt x e).1))
                clear hown3 hg3
                go_wp2
                go_roundw
                case rel => exact ⟨1 + 1, by omega, by go_num, by rw [HK.out, flat_append, flat_one, List.length_append]; exact HO3.out, HB7.out⟩
                case measure => simp [intOf] <;> omega
              · have HK := hid (kept_no HP1.out (by unfold realB; simp only [decide_eq_false_iff_not]; omega))
                have HB7 := hid (HB.out.alloc hbs (.cells #[.int .i64 a, .int .i64 e1, .int .i64 e0, .int .i64 e3] 26))
                have HO3 := hid (HOWN.out.alloc (.cells #[.int .i64 a, .int .i64 e1, .int .i64 e0, .int .i64 e3] 26))
                go_wp2
                go_roundw
                case rel => exact ⟨1 + 1, by omega, by go_num, by rw [HK.out]; exact HO3.out, HB7.out⟩
                case measure => simp [intOf] <;> omega
            · have HK := hid (kept_no HP1.out (by unfold realB; simp only [decide_eq_false_iff_not]; omega))
              have HB7 := hid (HB.out.alloc hbs (.cells #[.int .i64 a, .int .i64 e1, .int .i64 e0, .int .i64 e3] 26))
              have HO3 := hid (HOWN.out.alloc (.cells #[.int .i64 a, .int .i64 e1, .int .i64 e0, .int .i64 e3] 26))
              go_wp2
              go_roundw
              case rel => exact ⟨1 + 1, by omega, by go_num, by rw [HK.out]; exact HO3.out, HB7.out⟩
              case measure => simp [intOf] <;> omega
          · clear ix0 ix1 ix3
            by_cases hx : e2 < c
            · by_cases hy : e1 < e3
              · have HK := hid (kept_yes HP2.out (decide_eq_true ⟨hx, hy⟩))
                have hown2 := (HOWN.out.alloc (.cells #[.int .i64 e2, .int .i64 e1, .int .i64 c, .int .i64 e3] 26)).alloc (.cells #[.int .i64 e2, .int .i64 e1, .int .i64 c, .int .i64 e3] 26)
                have HO2 := hid hown2
                have HL := hid (kept_le ⟨a, b, c, d⟩ ⟨e0, e1, e2, e3⟩ 2)
                clear hown2
                go_wp2_with (at_builtin; refine wpList_append_own _ rfl _ _ 30 rfl w.heap.size 26 i0 _ 4 32 Try.underlying30 hi hz0 hz1 hz2 rfl (by decide) _ _ _ rfl HO2.out ⟨wr.heap.size + 1, 0, none⟩ 1 1 (flat1 ⟨e2, e1, c, e3⟩) rfl rfl ?c1 ?c2 ?c3 ?c4 ?c5 ?_)
                case c1 => exact news_new1 _ _ ⟨e2, e1, c, e3⟩ _
                case c2 => exact flat1_one _
                case c3 => have := HL.out; unfold maxLen; omega
                case c4 => have := HL.out; omega
                case c5 => simp <;> omega
                intro v' w7 hown3 hg3 _
                have HO3 := hid hown3
                have HB7 : Hid (Below w.heap.size w w7) := hid (((HB.out.alloc hbs _).alloc (by simp <;> omega) _).grown hg3 (by simp <;> omega) (fun x e => (HO2.out.lt x e).1))
                clear hown3 hg3
                go_wp2
                go_roundw
                case rel => exact ⟨2 + 1, by omega, by go_num, by rw [HK.out, flat_append, flat_one, List.length_append]; exact HO3.out, HB7.out⟩
                case measure => simp [intOf] <;> omega
              · have HK := hid (kept_no HP2.out (by unfold realB; simp only [decide_eq_false_iff_not]; omega))
                have HB7 := hid (HB.out.alloc hbs (.cells #[.int .i64 e2, .int .i64 e1, .int .i64 c, .int .i64 e3] 26))
                have HO3 := hid (HOWN.out.alloc (.cells #[.int .i64 e2, .int .i64 e1, .int .i64 c, .int .i64 e3] 26))
                go_wp2
                go_roundw
                case rel => exact ⟨2 + 1, by omega, by go_num, by rw [HK.out]; exact HO3.out, HB7.out⟩
                case measure => simp [intOf] <;> omega
            · have HK := hid (kept_no HP2.out (by unfold realB; simp only [decide_eq_false_iff_not]; omega))
              have HB7 := hid (HB.out.alloc hbs (.cells #[.int .i64 e2, .int .i64 e1, .int .i64 c, .int .i64 e3] 26))
              have HO3 := hid (HOWN.out.alloc (.cells #[.int .i64 e2, .int .i64 e1, .int .i64 c, .int .i64 e3] 26))
              go_wp2
              go_roundw
              case rel => exact ⟨2 + 1, by omega, by go_num, by rw [HK.out]; exact HO3.out, HB7.out⟩
              case measure => simp [intOf] <;> omega
          · clear ix0 ix1 ix2
            by_cases hx : a < c
            · by_cases hy : e3 < d
              · have HK := hid (kept_yes HP3.out (decide_eq_true ⟨hx, hy⟩))
                have hown2 := (HOWN.out.alloc (.cells #[.int .i64 a, .int .i64 e3, .int .i64 c, .int .i64 d] 26)).alloc (.cells #[.int .i64 a, .int .i64 e3, .int .i64 c, .int .i64 d] 26)
                have HO2 := hid hown2
                have HL := hid (kept_le ⟨a, b, c, d⟩ ⟨e0, e1, e2, e3⟩ 3)
                clear hown2
                go_wp2_with (at_builtin; refine wpList_append_own _ rfl _ _ 30 rfl w.heap.size 26 i0 _ 4 32 Try.underlying30 hi hz0 hz1 hz2 rfl (by decide) _ _ _ rfl HO2.out ⟨wr.heap.size + 1, 0, none⟩ 1 1 (flat1 ⟨a, e3, c, d⟩) rfl rfl ?c1 ?c2 ?c3 ?c4 ?c5 ?_)
                case c1 => exact news_new1 _ _ ⟨a, e3, c, d⟩ _
                case c2 => exact flat1_one _
                case c3 => have := HL.out; unfold maxLen; omega
                case c4 => have := HL.out; omega
                case c5 => simp <;> omega
                intro v' w7 hown3 hg3 _
                have HO3 := hid hown3
                have HB7 : Hid (Below w.heap.size w w7) := hid (((HB.out.alloc hbs _).alloc (by simp <;> omega) _).grown hg3 (by simp <;> omega) (fun x e => (HO2.out.lt x e).1))
                clear hown3 hg3
                go_wp2
                go_roundw
                case rel => exact ⟨3 + 1, by omega, by go_num, by rw [HK.out, flat_append, flat_one, List.length_append]; exact HO3.out, HB7.out⟩
                case measure => simp [intOf] <;> omega
              · have HK := hid (kept_no HP3.out (by unfold realB; simp only [decide_eq_false_iff_not]; omega))
                have HB7 := hid (HB.out.alloc hbs (.cells #[.int .i64 a, .int .i64 e3, .int .i64 c, .int .i64 d] 26))
                have HO3 := hid (HOWN.out.alloc (.cells #[.int .i64 a, .int .i64 e3, .int .i64 c, .int .i64 d] 26))
                go_wp2
                go_roundw
                case rel => exact ⟨3 + 1, by omega, by go_num, by rw [HK.out]; exact HO3.out, HB7.out⟩
                case measure => simp [intOf] <;> omega
            · have HK := hid (kept_no HP3.out (by unfold realB; simp only [decide_eq_false_iff_not]; omega))
              have HB7 := hid (HB.out.alloc hbs (.cells #[.int .i64 a, .int .i64 e3, .int .i64 c, .int .i64 d] 26))
              have HO3 := hid (HOWN.out.alloc (.cells #[.int .i64 a, .int .i64 e3, .int .i64 c, .int .i64 d] 26))
              go_wp2
              go_roundw
              case rel => exact ⟨3 + 1, by omega, by go_num, by rw [HK.out]; exact HO3.out, HB7.out⟩
              case measure => simp [intOf] <;> omega
          · go_wp2
            go_ret
            obtain ⟨A', c', hA, hr⟩ := own_rects HOWN.out
            exact ⟨A', (kept ⟨a, b, c, d⟩ ⟨e0, e1, e2, e3⟩ 4).length, c', congrArg Ending.returned hA, kept_le _ _ _, by rw [HV.out]; exact hr, HB.out⟩
    · rw [validB_f hv2] at C2
      have HC2 := hid C2
      have HV := hid (subS_nil (a := ⟨a, b, c, d⟩) (b := ⟨a2, b2, c2, d2⟩) (.inr (.inr hv2)))
      clear CE C C2 CI he hv hv2
      go_enter Try.func11, Try.ntmps11
      go_wp2_with fail
      refine (HE.out _).mono ?_
      rintro e w1 ⟨rfl, hb⟩
      obtain ⟨hcw1, hfw1⟩ := bcell hb
      have hzw1 : w.heap.size + 2 ≤ w1.heap.size := by have := hb.size; first | omega | (simp at this; omega)
      have hzw10 : w.heap.size < w1.heap.size := by omega
      have hzw11 : w.heap.size + 1 < w1.heap.size := by omega
      have HBw1 := hid (((((Below.refl _ _).alloc (by first | (exact Nat.le_refl _) | omega | (simp <;> omega)) _)).alloc (by first | (exact Nat.le_refl _) | omega | (simp <;> omega)) _).trans (hb.mono (by first | omega | (simp <;> omega))))
      clear hb
      go_wp2_with fail
      refine (HC.out _).mono ?_
      rintro e w2 ⟨rfl, hb⟩
      obtain ⟨hcw2, hfw2⟩ := bcell hb
      have hzw2 : w.heap.size + 2 ≤ w2.heap.size := by have := hb.size; first | omega | (simp at this; omega)
      have hzw20 : w.heap.size < w2.heap.size := by omega
      have hzw21 : w.heap.size + 1 < w2.heap.size := by omega
      have HBw2 := hid (HBw1.out.trans (hb.mono (by first | omega | (simp <;> omega))))
      clear hb
      go_wp2_with fail
      refine (HC2.out _).mono ?_
      rintro e w3 ⟨rfl, hb⟩
      obtain ⟨hcw3, hfw3⟩ := bcell hb
      have hzw3 : w.heap.size + 2 ≤ w3.heap.size := by have := hb.size; first | omega | (simp at this; omega)
      have hzw30 : w.heap.size < w3.heap.size := by omega
      have hzw31 : w.heap.size + 1 < w3.heap.size := by omega
      have HBw3 := hid (HBw2.out.trans (hb.mono (by first | omega | (simp <;> omega))))
      clear hb
      go_wp2
      go_ret
      exact ⟨none, 0, 0, rfl, by omega, by rw [HV.out]; exact RectsAt.nil _ _, HBw3.out⟩
  · rw [validB_f hv] at C
    have HC := hid C
    have HV := hid (subS_nil (a := ⟨a, b, c, d⟩) (b := ⟨a2, b2, c2, d2⟩) (.inr (.inl hv)))
    clear CE C C2 CI he hv
    go_enter Try.func11, Try.ntmps11
    go_wp2_with fail
    refine (HE.out _).mono ?_
    rintro e w1 ⟨rfl, hb⟩
    obtain ⟨hcw1, hfw1⟩ := bcell hb
    have hzw1 : w.heap.size + 2 ≤ w1.heap.size := by have := hb.size; first | omega | (simp at this; omega)
    have hzw10 : w.heap.size < w1.heap.size := by omega
    have hzw11 : w.heap.size + 1 < w1.heap.size := by omega
    have HBw1 := hid (((((Below.refl _ _).alloc (by first | (exact Nat.le_refl _) | omega | (simp <;> omega)) _)).alloc (by first | (exact Nat.le_refl _) | omega | (simp <;> omega)) _).trans (hb.mono (by first | omega | (simp <;> omega))))
    clear hb
    go_wp2_with fail
    refine (HC.out _).mono ?_
    rintro e w2 ⟨rfl, hb⟩
    obtain ⟨hcw2, hfw2⟩ := bcell hb
    have hzw2 : w.heap.size + 2 ≤ w2.heap.size := by have := hb.size; first | omega | (simp at this; omega)
    have hzw20 : w.heap.size < w2.heap.size := by omega
    have hzw21 : w.heap.size + 1 < w2.heap.size := by omega
    have HBw2 := hid (HBw1.out.trans (hb.mono (by first | omega | (simp <;> omega))))
    clear hb
    go_wp2
    go_ret
    exact ⟨none, 0, 0, rfl, by omega, by rw [HV.out]; exact RectsAt.nil _ _, HBw2.out⟩

end Go.Proofs.Ytphleapmgkcpoaa
