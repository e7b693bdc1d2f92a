/-
  The law ArenaLimits: plain law and walk.
-/
import Derived.Test.YtkjipnafgojcgaaArenaTwo
namespace Go.Proofs.Ytkjipnafgojcgaa
open Go.RowKit
set_option linter.unusedVariables false

def mn (x y : Int) : Int := min x y
theorem run_mn (x y : Int) (w : World) : (Builtin.min_ #[3, 3] 3 #[.int .i64 x, .int .i64 y]).run Try.prog w = .ok (.int .i64 (mn x y)) w := by
  rw [run_min_int2]
  congr 2
  unfold mn
  split <;> omega
/-- The marks after k rounds. -/
def L (m : Int) (k : Nat) : List Int := (List.range k).map fun (j : Nat) => mn ((j : Int) + 1) m
theorem L_len (m : Int) (k : Nat) : (L m k).length = k := by simp [L]
theorem L_succ (m : Int) (k : Nat) : L m (k + 1) = L m k ++ [mn ((k : Int) + 1) m] := by simp [L, List.range_succ]
theorem lim_alloc (k : Nat) (h m : Int) (ms : List Int) (hk : (k : Int) < m) (hm : m ≤ 800) : allocO (some ⟨1048576, mn k m, h, ms⟩) 1 1 = ((k : Int), 0, some ⟨1048576, mn ((k : Int) + 1) m, max h ((k : Int) + 1), ms⟩) := by
  have e1 : mn k m = (k : Int) := by unfold mn; omega
  have e2 : mn ((k : Int) + 1) m = k + 1 := by unfold mn; omega
  have hc : ceilS (k : Int) 1 = (k : Int) := by rw [ceilS_zero (by omega) (by omega) (Int.emod_one _), Int.ediv_one]
  have ha : alignS (k : Int) 1 1048576 = ((k : Int), true) := by
    unfold alignS
    rw [if_neg (by omega), hc, mulS_ok (by omega) (by omega) (by omega) (by rw [Int.ediv_one]; omega), Int.mul_one]
  rw [e1, e2]
  unfold allocO
  simp only
  rw [allocS_yes (q := (k : Int)) (by omega) ha (by simp only; omega)]
theorem lim_mark (k : Nat) (u h m : Int) (hk : k < 1024) (hu : u = mn ((k : Int) + 1) m) : markO (some ⟨1048576, u, h, L m k⟩) = (0, some ⟨1048576, u, h, L m (k + 1)⟩) := by
  unfold markO markS
  simp only
  rw [if_neg (by rw [L_len]; omega), L_succ, hu]
theorem lim_full (u h m : Int) : markO (some ⟨1048576, u, h, L m 1024⟩) = (19, some ⟨1048576, u, h, L m 1024⟩) := by
  unfold markO markS
  simp only
  rw [if_pos (by rw [L_len]; omega)]
theorem lim_release (k : Nat) (u h m : Int) : releaseO (some ⟨1048576, u, h, L m (k + 1)⟩) = (0, some ⟨1048576, mn ((k : Int) + 1) m, h, L m k⟩) := by
  unfold releaseO releaseS
  simp only
  rw [if_neg (by rw [L_len]; omega), L_len, L_succ, List.dropLast_concat, Nat.add_sub_cancel, List.getD_eq_getElem?_getD, List.getElem?_append_right (by rw [L_len]; omega), L_len, Nat.sub_self]
  rfl
theorem lim_end (u h m : Int) : releaseO (some ⟨1048576, u, h, L m 0⟩) = (20, some ⟨1048576, u, h, L m 0⟩) := by rfl
theorem lim_marks (u h m : Int) : marksO (some ⟨1048576, u, h, L m 1024⟩) = 1024 := by
  unfold marksO
  simp only [L_len]
  rfl
theorem nil_alloc (w : World) : Calls Try.prog 9 #[.pointer none, .int .i64 1, .int .i64 1] w fun e w' => e = .returned (.tuple #[.int .i64 0, .int .i64 20]) ∧ w = w' := by
  go_enter Try.func9, Try.ntmps9
  go_wp2
  go_ret2
  exact ⟨rfl, rfl⟩
theorem nil_mark (w : World) : Calls Try.prog 13 #[.pointer none] w fun e w' => e = .returned (.int .i64 20) ∧ w = w' := by
  go_enter Try.func13, Try.ntmps13
  go_wp2
  go_ret
  exact ⟨rfl, rfl⟩
theorem nil_release (w : World) : Calls Try.prog 16 #[.pointer none] w fun e w' => e = .returned (.int .i64 20) ∧ w = w' := by
  go_enter Try.func16, Try.ntmps16
  go_wp2
  go_ret
  exact ⟨rfl, rfl⟩
theorem nil_used (w : World) : Calls Try.prog 11 #[.pointer none] w fun e w' => e = .returned (.int .i64 0) ∧ w = w' := by
  go_enter Try.func11, Try.ntmps11
  go_wp2
  go_ret
  exact ⟨rfl, rfl⟩
theorem nil_high (w : World) : Calls Try.prog 15 #[.pointer none] w fun e w' => e = .returned (.int .i64 0) ∧ w = w' := by
  go_enter Try.func15, Try.ntmps15
  go_wp2
  go_ret
  exact ⟨rfl, rfl⟩
theorem nil_marks (w : World) : Calls Try.prog 12 #[.pointer none] w fun e w' => e = .returned (.int .i64 0) ∧ w = w' := by
  go_enter Try.func12, Try.ntmps12
  go_wp2
  go_ret
  exact ⟨rfl, rfl⟩
theorem nil_reset (w : World) : Calls Try.prog 23 #[.pointer none] w fun e w' => e = .returned (.tuple #[]) ∧ w = w' := by
  go_enter Try.func23, Try.ntmps23
  go_wp2
  refine bodyPost_ret (results_none rfl _ _ _) rfl ?_
  exact ⟨rfl, rfl⟩

set_option maxRecDepth 100000 in
set_option maxHeartbeats 4000000 in
theorem limits_walk (n : Int) (n1 : -9223372036854775808 ≤ n) (n2 : n ≤ 9223372036854775807) {w : World} :
    Calls Try.prog 5 #[.int .i64 n] w fun e w' => e = .returned (.bool true) ∧ Below w.heap.size w w' := by
  have H0 : Hid (Two w.heap.size none w w (.pointer none) (.pointer none) none none) := Two.nil (fun g hg => by cases hg) (Below.refl _ _) (Nat.le_refl _)
  have H1 := hid (H0.out.newA (c := 1048576) (by omega) (by omega))
  have HN := hid (anew_yes 1048576 w (by omega) (by omega))
  have HM := hid (fun w => mod_any n 800 w n1 n2 (by omega) (by omega))
  have hr1 := Int.emod_nonneg n (by omega : (800 : Int) ≠ 0)
  have hr2 := Int.emod_lt_of_pos n (by omega : (0 : Int) < 800)
  have hw : IntKind.i64.wrap (1 + n % 800) = 1 + n % 800 := IntWalk.i64_in _ (by omega)
  clear H0
  go_enter Try.func5, Try.ntmps5
  go_wp2_with fail
  refine HN.out.mono ?_; rintro e w' ⟨rfl, rfl⟩
  go_wp2_with fail
  refine (HM.out _).mono ?_; rintro e w' ⟨rfl, rfl⟩
  go_wp2_with fail
  generalize w.alloc (.cells #[.int .i64 1048576, .int .i64 0, .int .i64 0, .slice none 0 0] 46) = W1 at *
  have hm1 : 1 ≤ 1 + n % 800 := by omega
  have hm2 : 1 + n % 800 ≤ 800 := by omega
  clear hw hr1 hr2 HM HN n1 n2
  generalize 1 + n % 800 = m at *
  go_loopw [6] (fun i wr => ∃ (k : Nat) (h : Int), k ≤ 1024 ∧ i = .int .i64 k ∧ Two w.heap.size none w wr (.pointer (some ⟨w.heap.size, 0, none⟩)) (.pointer none) (some ⟨1048576, mn k m, h, L m k⟩) none) (fun i _ => 1024 - (intOf i).toNat)
  case atStart => exact ⟨0, 0, by omega, rfl, by have e : mn ((0 : Nat) : Int) m = 0 := by unfold mn; omega
                                                 rw [e]; exact H1.out⟩
  case round =>
    obtain ⟨k, hh, hk, rfl, ht⟩ := hrel
    have HT := hid ht
    clear ht H1
    by_cases hlt : k < 1024
    · have hkI : (k : Int) < 1024 := by omega
      by_cases hkm : (k : Int) < m
      · go_wp2_with fail
        have A1 := aalloc_t HT.out 1 1 (by omega) (by omega) (by omega) (by omega)
        rw [lim_alloc k hh m _ hkm hm2] at A1
        refine A1.mono ?_; rintro e w2 ⟨rfl, h2⟩
        have H2 := hid h2
        clear A1 h2 HT
        go_wp2_with fail
        have A1 := amark_t H2.out
        rw [lim_mark k _ _ m hlt rfl] at A1
        refine A1.mono ?_; rintro e w3 ⟨rfl, h3⟩
        have H3 := hid h3
        clear A1 h3 H2
        go_wp2
        go_roundw
        case rel => exact ⟨k + 1, _, by omega, by go_num, H3.out⟩
        case measure => simp [intOf] <;> omega
      · have e1 : mn k m = mn ((k : Int) + 1) m := by unfold mn; omega
        go_wp2_with fail
        have A1 := amark_t HT.out
        rw [lim_mark k _ _ m hlt e1, e1] at A1
        refine A1.mono ?_; rintro e w3 ⟨rfl, h3⟩
        have H3 := hid h3
        clear A1 h3 HT e1
        go_wp2
        go_roundw
        case rel => exact ⟨k + 1, _, by omega, by go_num, H3.out⟩
        case measure => simp [intOf] <;> omega
    · have hke : k = 1024 := by omega
      subst hke
      go_wp2_with fail
      have A1 := amark_t HT.out
      rw [lim_full] at A1
      refine A1.mono ?_; rintro e w2 ⟨rfl, h2⟩
      have H2 := hid h2
      clear A1 h2 HT
      go_wp2_with fail
      have A1 := amarks_t H2.out
      rw [lim_marks] at A1
      refine A1.mono ?_; rintro e w3 ⟨rfl, rfl⟩
      clear A1
      have hmn := fun x y w => run_mn x y w
      go_wp2
      go_loopw [9] (fun i wr => ∃ (k : Nat) (u h : Int), k ≤ 1024 ∧ i = .int .i64 k ∧ Two w.heap.size none w wr (.pointer (some ⟨w.heap.size, 0, none⟩)) (.pointer none) (some ⟨1048576, u, h, L m k⟩) none) (fun i _ => (intOf i).toNat)
      case atStart => exact ⟨1024, _, _, by omega, rfl, H2.out⟩
      case round =>
        obtain ⟨k, u, h', hk1, rfl, ht⟩ := hrel
        have HT := hid ht
        clear ht H2
        cases k with
        | zero =>
          go_wp2_with fail
          refine (nil_alloc _).mono ?_; rintro e w' ⟨rfl, rfl⟩
          go_wp2_with fail
          refine (nil_reset _).mono ?_; rintro e w' ⟨rfl, rfl⟩
          go_wp2_with fail
          refine (nil_mark _).mono ?_; rintro e w' ⟨rfl, rfl⟩
          go_wp2_with fail
          have A1 := arelease_t HT.out
          rw [lim_end] at A1
          refine A1.mono ?_; rintro e w4 ⟨rfl, h4⟩
          have H4 := hid h4
          clear A1 h4 HT
          go_wp2_with fail
          refine (nil_release _).mono ?_; rintro e w' ⟨rfl, rfl⟩
          go_wp2_with fail
          refine (nil_used _).mono ?_; rintro e w' ⟨rfl, rfl⟩
          go_wp2_with fail
          refine (nil_high _).mono ?_; rintro e w' ⟨rfl, rfl⟩
          go_wp2_with fail
          refine (nil_marks _).mono ?_; rintro e w' ⟨rfl, rfl⟩
          go_wp2_with fail
          refine (sane_any _).mono ?_; rintro e w5 ⟨rfl, h5⟩
          have H5 := hid (H4.out.after h5)
          clear h5
          go_wp2
          go_ret
          exact ⟨rfl, H5.out.bel⟩
        | succ k =>
          have t1 : (0 : Int) < (k : Int) + 1 := by omega
          have e1 : IntKind.i64.wrap ((k : Int) + 1 - 1) = (k : Int) := by rw [Int.add_sub_cancel]; exact IntWalk.i64_in _ (by omega)
          have e2 : IntKind.i64.wrap (k : Int) = (k : Int) := IntWalk.i64_in _ (by omega)
          go_wp2_with fail
          have A1 := arelease_t HT.out
          rw [lim_release] at A1
          refine A1.mono ?_; rintro e w4 ⟨rfl, h4⟩
          have H4 := hid h4
          clear A1 h4 HT
          go_wp2_with fail
          have A1 := aused_t H4.out
          simp only [usedO] at A1
          refine A1.mono ?_; rintro e w5 ⟨rfl, rfl⟩
          clear A1
          go_wp2
          go_roundw
          case rel => exact ⟨k, _, _, by omega, by go_num, H4.out⟩
          case measure => simp [intOf] <;> omega
end Go.Proofs.Ytkjipnafgojcgaa
