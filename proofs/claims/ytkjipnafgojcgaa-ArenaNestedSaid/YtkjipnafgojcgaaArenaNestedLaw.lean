/-
  The law ArenaNested: plain law and walk.
-/
import Derived.Test.YtkjipnafgojcgaaArenaTwo
namespace Go.Proofs.Ytkjipnafgojcgaa
open Go.RowKit
set_option linter.unusedVariables false

theorem nest_alloc (c u h n m : Int) (ms : List Int) (hu : u ≤ h) : ∃ u' h', (allocO (some ⟨c, u, h, ms⟩) n m).2.2 = some ⟨c, u', h', ms⟩ ∧ u' ≤ h' := by
  unfold allocO allocS
  simp only
  split
  · exact ⟨u, h, rfl, hu⟩
  · split
    · exact ⟨u, h, rfl, hu⟩
    · exact ⟨_, _, rfl, by omega⟩
/-- What a reservation does within bounds. -/
theorem nest_cases (c u h n m : Int) (ms : List Int) (hok : St.Ok ⟨c, u, h, ms⟩) (hn1 : 1 ≤ n) (hn2 : n ≤ 1048576) (hm1 : 1 ≤ m) (hm2 : m ≤ 4096) :
    allocO (some ⟨c, u, h, ms⟩) n m = (0, 19, some ⟨c, u, h, ms⟩) ∨ ∃ q, allocO (some ⟨c, u, h, ms⟩) n m = (q, 0, some ⟨c, q + n, max h (q + n), ms⟩) ∧ 0 ≤ q ∧ u ≤ q ∧ q % m = 0 ∧ q + n ≤ c ∧ q - u < m := by
  obtain ⟨h1, h2, h3, h4, h5, h6, h7, h8⟩ := hok
  have hin : ¬ (n < 1 ∨ 1048576 < n ∨ m < 1 ∨ 4096 < m) := by omega
  simp only at h1 h2 h3 h4
  rcases hq : alignS u m c with ⟨q, ok⟩
  unfold allocO
  simp only
  cases ok with
  | false => exact .inl (by rw [allocS_no hin hq])
  | true =>
    obtain ⟨e1, e2, e3, e4, e5⟩ := align_ok h3 hm1 h1 hq
    by_cases hf : c - q < n
    · exact .inl (by rw [allocS_full hin hq hf])
    · exact .inr ⟨q, by rw [allocS_yes hin hq hf], e1, e3, e4, by omega, e5⟩
theorem nest_mark (c u h : Int) : markO (some ⟨c, u, h, []⟩) = (0, some ⟨c, u, h, [u]⟩) := by rfl
theorem nest_release (c u h v : Int) : releaseO (some ⟨c, v, h, [u]⟩) = (0, some ⟨c, u, h, []⟩) := by rfl
theorem nest_marks (c u h : Int) : marksO (some ⟨c, u, h, []⟩) = 0 := by rfl

set_option maxRecDepth 100000 in
set_option maxHeartbeats 4000000 in
theorem nested_walk (At : Option Addr) (nt ct : Nat) (ts : List Int) {w : World} (hts : IntsAt w w.heap.size At nt ts) (hnt : nt ≤ 9223372036854775807) (a : Int) (a1 : -9223372036854775808 ≤ a) (a2 : a ≤ 9223372036854775807) :
    Calls Try.prog 3 #[.slice At nt ct, .int .i64 a] w fun e w' => e = .returned (.bool true) ∧ Below w.heap.size w w' := by
  have HN := hid (new_any At nt ct w)
  have ht0 : TapeAt w.heap.size w.heap.size (w.alloc (.cells #[.slice At nt ct, .int .i64 0] 44)) :=
    ⟨Nat.le_refl _, At, nt, ct, ts, 0, Blk.new w _ _, by omega, hnt, hts.below ((Below.refl _ _).alloc (Nat.le_refl _) _) (Nat.le_refl _)⟩
  have H0 : Hid (Two w.heap.size (some w.heap.size) w (w.alloc (.cells #[.slice At nt ct, .int .i64 0] 44)) (.pointer none) (.pointer none) none none) := Two.nil (fun g hg => by injection hg with hg; subst hg; exact ht0) ((Below.refl _ _).alloc (Nat.le_refl _) _) (Nat.le_refl _)
  have HM := hid (fun w => mod_any a 1000 w a1 a2 (by omega) (by omega))
  have hr1 := Int.emod_nonneg a (by omega : (1000 : Int) ≠ 0)
  have hr2 := Int.emod_lt_of_pos a (by omega : (0 : Int) < 1000)
  have hw : IntKind.i64.wrap (64 + a % 1000) = 64 + a % 1000 := IntWalk.i64_in _ (by omega)
  have hc1 : 64 ≤ 64 + a % 1000 := by omega
  have hc2 : 64 + a % 1000 ≤ 1063 := by omega
  clear hts ht0
  go_enter Try.func3, Try.ntmps3
  go_wp2_with fail
  refine HN.out.mono ?_; rintro e w' ⟨rfl, rfl⟩
  go_wp2_with fail
  generalize w.alloc (.cells #[.slice At nt ct, .int .i64 0] 44) = W1 at *
  refine (HM.out _).mono ?_; rintro e w' ⟨rfl, rfl⟩
  go_wp2_with fail
  clear hw hr1 hr2 HM HN a1 a2
  generalize 64 + a % 1000 = c at *
  refine (anew_yes c W1 (by omega) (by omega)).mono ?_; rintro e w' ⟨rfl, rfl⟩
  have H1 := hid (H0.out.newA (c := c) (by omega) (by omega))
  clear H0
  go_wp2_with fail
  generalize W1.alloc (.cells #[.int .i64 c, .int .i64 0, .int .i64 0, .slice none 0 0] 46) = W2 at *
  generalize hPA : (Value.pointer (some ⟨W1.heap.size, 0, none⟩)) = PA at *
  clear hPA
  refine (next_any _ _ 30 _ H1.out.taped (by omega) (by omega)).mono ?_
  rintro e w3 ⟨r, r0, r1, rfl, ht, hg⟩
  have r2 : r ≤ 29 := by omega
  have hw1 : IntKind.i64.wrap (1 + r) = 1 + r := IntWalk.i64_in _ (by omega)
  have H3 := hid (H1.out.tape ht hg)
  clear ht hg H1 r1
  go_wp2_with fail
  have A1 := aalloc_t H3.out (1 + r) 1 (by omega) (by omega) (by omega) (by omega)
  obtain ⟨u, h, hs, huh⟩ := nest_alloc c 0 0 (1 + r) 1 [] (by omega)
  rw [hs] at A1
  refine A1.mono ?_; rintro e w4 ⟨rfl, h4⟩
  have H4 := hid h4
  clear A1 h4 H3 hs hw1
  go_wp2_with fail
  have A1 := aused_t H4.out
  simp only [usedO] at A1
  refine A1.mono ?_; rintro e w' ⟨rfl, rfl⟩
  clear A1
  go_wp2_with fail
  have A1 := amarks_t H4.out
  rw [nest_marks] at A1
  refine A1.mono ?_; rintro e w' ⟨rfl, rfl⟩
  clear A1
  go_wp2_with fail
  have A1 := amark_t H4.out
  rw [nest_mark] at A1
  refine A1.mono ?_; rintro e w5 ⟨rfl, h5⟩
  have H5 := hid h5
  clear A1 h5 H4
  go_wp2
  go_loopw [11, 12] (fun en i wr => ∃ (k : Nat) (v hh : Int), k ≤ 10 ∧ i = .int .i64 k ∧ en = .int .i64 v ∧ v ≤ hh ∧ Two w.heap.size (some w.heap.size) w wr PA (.pointer none) (some ⟨c, v, hh, [u]⟩) none) (fun _ i _ => 10 - (intOf i).toNat)
  case atStart => exact ⟨0, u, h, by omega, rfl, rfl, huh, H5.out⟩
  case round =>
    obtain ⟨k, v, hh, hk, rfl, rfl, hvh, ht⟩ := hrel
    have HT := hid ht
    clear ht H5
    by_cases hlt : k < 10
    · have hkI : (k : Int) < 10 := by omega
      go_wp2_with fail
      refine (next_any _ _ 60 _ HT.out.taped (by omega) (by omega)).mono ?_
      rintro e w6 ⟨s, s0, s1, rfl, ht, hg⟩
      have s2 : s ≤ 59 := by omega
      have hw1 : IntKind.i64.wrap (1 + s) = 1 + s := IntWalk.i64_in _ (by omega)
      have H6 := hid ((HT.out.tape ht hg).alloc (.cells #[.int .i64 1, .int .i64 16, .int .i64 8, .int .i64 5] 3))
      have HP := hid (pick_any w.heap.size w.heap.size w6.heap.size 4 (· ∈ [1, 16, 8, 5]) (w6.alloc (.cells #[.int .i64 1, .int .i64 16, .int .i64 8, .int .i64 5] 3)) (ht.alloc _) (by have := ht.lt; omega) (by simp) (by omega) (by omega) (lit_cells w6 [1, 16, 8, 5] _ _ rfl))
      clear ht hg HT s1
      go_wp2_with fail
      refine HP.out.mono ?_
      rintro e w7 ⟨m, hm, rfl, ht, hg⟩
      have hm2 : 1 ≤ m ∧ m ≤ 16 := by simp at hm; omega
      obtain ⟨hm3, hm4⟩ := hm2
      have H7 := hid (H6.out.tape ht hg)
      clear ht hg hm H6 HP
      have hok := H7.out.okA
      have hOK := hid hok
      have hv0 : 0 ≤ v := hok.2.2.1
      have hv1 : v ≤ c := hok.2.2.2.1
      clear hok
      go_wp2_with fail
      have A1 := aalloc_t H7.out (1 + s) m (by omega) (by omega) (by omega) (by omega)
      rcases nest_cases c v hh (1 + s) m [u] hOK.out (by omega) (by omega) hm3 (by omega) with hs | ⟨q, hs, q0, q1, q2, q3, q4⟩
      · rw [hs] at A1
        refine A1.mono ?_; rintro e w8 ⟨rfl, h8⟩
        have H8 := hid h8
        clear A1 h8 H7 hs hOK
        go_wp2_with fail
        have A1 := aused_t H8.out
        simp only [usedO] at A1
        refine A1.mono ?_; rintro e w' ⟨rfl, rfl⟩
        clear A1
        go_wp2
        go_roundw
        case rel => exact ⟨k + 1, v, hh, by omega, by go_num, rfl, hvh, H8.out⟩
        case measure => simp [intOf] <;> omega
      · rw [hs] at A1
        refine A1.mono ?_; rintro e w8 ⟨rfl, h8⟩
        have H8 := hid h8
        have t1 : ¬ q < v := by omega
        have t2 : (q % m != 0) = false := by simp [q2]
        have t3 : ¬ m < 1 := by omega
        have t4 : ¬ q < 0 := by omega
        have t5 : IntKind.i64.wrap (q + (1 + s)) = q + (1 + s) := IntWalk.i64_in _ (by omega)
        have t6 : ¬ c < q + (1 + s) := by omega
        have t7 : IntKind.i64.wrap (q - v) = q - v := IntWalk.i64_in _ (by omega)
        have t8 : ¬ m ≤ q - v := by omega
        have T2 := hid q2
        clear A1 h8 H7 hs hOK q2
        go_wp2_with fail
        have A1 := aused_t H8.out
        simp only [usedO] at A1
        refine A1.mono ?_; rintro e w' ⟨rfl, rfl⟩
        clear A1
        go_wp2
        go_roundw
        case rel => exact ⟨k + 1, _, _, by omega, by go_num, rfl, by omega, H8.out⟩
        case measure => simp [intOf] <;> omega
    · go_wp2_with fail
      have A1 := ahigh_t HT.out
      simp only [highO] at A1
      refine A1.mono ?_; rintro e w' ⟨rfl, rfl⟩
      clear A1
      go_wp2_with fail
      have A1 := arelease_t HT.out
      rw [nest_release] at A1
      refine A1.mono ?_; rintro e w8 ⟨rfl, h8⟩
      have H8 := hid h8
      clear A1 h8 HT
      go_wp2_with fail
      have A1 := aused_t H8.out
      simp only [usedO] at A1
      refine A1.mono ?_; rintro e w' ⟨rfl, rfl⟩
      clear A1
      go_wp2_with fail
      have A1 := amarks_t H8.out
      rw [nest_marks] at A1
      refine A1.mono ?_; rintro e w' ⟨rfl, rfl⟩
      clear A1
      go_wp2_with fail
      have A1 := ahigh_t H8.out
      simp only [highO] at A1
      refine A1.mono ?_; rintro e w' ⟨rfl, rfl⟩
      clear A1
      go_wp2_with fail
      refine (sane_any _).mono ?_; rintro e w9 ⟨rfl, h9⟩
      have H9 := hid (H8.out.after h9)
      clear h9
      go_wp2
      go_ret
      exact ⟨rfl, H9.out.bel⟩
end Go.Proofs.Ytkjipnafgojcgaa
