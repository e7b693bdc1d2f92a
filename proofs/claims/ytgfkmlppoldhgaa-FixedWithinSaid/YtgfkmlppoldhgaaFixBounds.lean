/-
  Layer 7: Weights, Bounds, Span and their references.
-/
import Derived.Test.YtgfkmlppoldhgaaFixWalks
import Derived.Test.YtgfkmlppoldhgaaInts
import Derived.Test.YtgfkmlppoldhgaaQuiet
namespace Go.Proofs.Ytgfkmlppoldhgaa
open Go.RowKit
set_option linter.unusedVariables false

theorem weights_any (A : Option Addr) (n c : Nat) (xs : List Int) (w : World) (B : Nat) (h : IntsAt w B A n xs) (hn : n ≤ 9223372036854775807) :
    Calls Try.prog 13 #[.slice A n c] w fun e w' => e = .returned (.int .i64 (weightsS xs)) ∧ w = w' := by
  have hlen := h.1
  by_cases hz : n = 0
  · subst hz
    rw [weightsS_len (.inl hlen)]
    clear h hlen
    go_enter Try.func13, Try.ntmps13
    go_wp2
    go_ret
    exact ⟨rfl, rfl⟩
  by_cases hb : 81 < n
  · rw [weightsS_len (.inr (by omega))]
    have hz' : ((n : Int) == 0) = false := by simp; omega
    clear h hlen
    go_enter Try.func13, Try.ntmps13
    go_wp2
    go_ret
    exact ⟨rfl, rfl⟩
  obtain ⟨b, off, rfl, _, hc⟩ := h.open_ (by omega)
  have HL : Hid (xs.drop n = []) := by
    show xs.drop n = []
    rw [List.drop_eq_nil_iff]; omega
  have HW : Hid (¬ (xs.length = 0 ∨ 81 < xs.length)) := hid (by omega)
  have HC := hid hc
  have hz' : ((n : Int) == 0) = false := by simp; omega
  clear h hc hlen
  go_enter Try.func13, Try.ntmps13
  go_wp2
  go_loop [15] (fun i => ∃ (k : Nat), k ≤ n ∧ i = .int .i64 k ∧ okW (xs.drop k) = okW xs) (fun i => n - (intOf i).toNat)
  case atStart => exact ⟨0, by omega, rfl, rfl⟩
  case round =>
    obtain ⟨k, hk, rfl, hs⟩ := hrel
    have HS := hid hs
    clear hs
    by_cases hlt : k < n
    · obtain ⟨v, hv, hd, hv1, hv2, hcell⟩ := HC.out k hlt
      have HD := hid hd
      clear hd hv
      by_cases h1 : v < -32767
      · go_wp2
        all_goals (go_ret; exact ⟨ret_int (weightsS_bad HW.out (by rw [← HS.out, HD.out, okW_bad (by omega)])).symm, rfl⟩)
      by_cases h2 : 32767 < v
      · have hd2 : decide (v ≤ 32767) = false := by simp; omega
        go_wp2
        all_goals (go_ret; exact ⟨ret_int (weightsS_bad HW.out (by rw [← HS.out, HD.out, okW_bad (by omega)])).symm, rfl⟩)
      · have hd2 : decide (v ≤ 32767) = true := by simp; omega
        go_wp2
        go_round
        case rel => exact ⟨k + 1, by omega, by go_num, by rw [← HS.out, HD.out, okW_ok (by omega) (by omega)]⟩
        case measure => simp [intOf]; omega
    · go_wp2
      go_ret
      have : k = n := by omega
      subst this
      exact ⟨ret_int (weightsS_ok HW.out (by rw [← HS.out, HL.out]; rfl)).symm, rfl⟩

theorem are_any (A : Option Addr) (n c : Nat) (xs : List Int) (w : World) (B : Nat) (h : IntsAt w B A n xs) (hn1 : 0 < n) (hn : n ≤ 9223372036854775807) :
    Calls Try.prog 25 #[.slice A n c] w fun e w' => e = .returned (.bool (okW xs)) ∧ w = w' := by
  have hlen := h.1
  obtain ⟨b, off, rfl, _, hc⟩ := h.open_ (by omega)
  have HL : Hid (xs.drop n = []) := by
    show xs.drop n = []
    rw [List.drop_eq_nil_iff]; omega
  have HC := hid hc
  clear h hc hlen
  go_enter Try.func25, Try.ntmps25
  go_wp2
  go_loop [3] (fun i => ∃ (k : Nat), k ≤ n ∧ i = .int .i64 k ∧ okW (xs.drop k) = okW xs) (fun i => n - (intOf i).toNat)
  case atStart => exact ⟨0, by omega, rfl, rfl⟩
  case round =>
    obtain ⟨k, hk, rfl, hs⟩ := hrel
    have HS := hid hs
    clear hs
    by_cases hlt : k < n
    · obtain ⟨v, hv, hd, hv1, hv2, hcell⟩ := HC.out k hlt
      have HD := hid hd
      clear hd hv
      by_cases h1 : v < -32767
      · go_wp2
        all_goals (go_ret; exact ⟨ret_bool (by rw [← HS.out, HD.out, okW_bad (by omega)]), rfl⟩)
      by_cases h2 : 32767 < v
      · have hd2 : decide (v ≤ 32767) = false := by simp; omega
        go_wp2
        all_goals (go_ret; exact ⟨ret_bool (by rw [← HS.out, HD.out, okW_bad (by omega)]), rfl⟩)
      · have hd2 : decide (v ≤ 32767) = true := by simp; omega
        go_wp2
        go_round
        case rel => exact ⟨k + 1, by omega, by go_num, by rw [← HS.out, HD.out, okW_ok (by omega) (by omega)]⟩
        case measure => simp [intOf]; omega
    · go_wp2
      go_ret
      have : k = n := by omega
      subst this
      exact ⟨ret_bool (by rw [← HS.out, HL.out]; rfl), rfl⟩

theorem rweights_any (A : Option Addr) (n c : Nat) (xs : List Int) (w : World) (B : Nat) (h : IntsAt w B A n xs) (hn : n ≤ 9223372036854775807) :
    Calls Try.prog 14 #[.slice A n c] w fun e w' => e = .returned (.int .i64 (weightsS xs)) ∧ w = w' := by
  have hlen := h.1
  by_cases hz : n = 0
  · subst hz
    rw [weightsS_len (.inl hlen)]
    clear h hlen
    go_enter Try.func14, Try.ntmps14
    go_wp2
    go_ret
    exact ⟨rfl, rfl⟩
  by_cases hb : 81 < n
  · rw [weightsS_len (.inr (by omega))]
    have hz' : ((n : Int) == 0) = false := by simp; omega
    clear h hlen
    go_enter Try.func14, Try.ntmps14
    go_wp2
    go_ret
    exact ⟨rfl, rfl⟩
  have HW : Hid (¬ (xs.length = 0 ∨ 81 < xs.length)) := hid (by omega)
  have hz' : ((n : Int) == 0) = false := by simp; omega
  have HI := hid h
  clear h hlen
  rcases hok : okW xs with _ | _
  · have C := fun w (h : IntsAt w B A n xs) => are_any A n c xs w B h (by omega) hn
    rw [hok] at C
    have HC := hid C
    rw [weightsS_bad HW.out hok]
    clear C hok
    go_enter Try.func14, Try.ntmps14
    go_wp2_with fail
    refine (HC.out _ HI.out).mono ?_; rintro e w' ⟨rfl, rfl⟩
    go_wp2
    go_ret
    exact ⟨rfl, rfl⟩
  · have C := fun w (h : IntsAt w B A n xs) => are_any A n c xs w B h (by omega) hn
    rw [hok] at C
    have HC := hid C
    rw [weightsS_ok HW.out hok]
    clear C hok
    go_enter Try.func14, Try.ntmps14
    go_wp2_with fail
    refine (HC.out _ HI.out).mono ?_; rintro e w' ⟨rfl, rfl⟩
    go_wp2
    go_ret
    exact ⟨rfl, rfl⟩

theorem span_any (a b s : Int) (w : World) (ha1 : -9223372036854775808 ≤ a) (ha2 : a ≤ 9223372036854775807) (hb1 : -9223372036854775808 ≤ b) (hb2 : b ≤ 9223372036854775807) :
    Calls Try.prog 18 #[.int .i64 a, .int .i64 b, .int .i64 s] w fun e w' => e = .returned (.tuple #[.int .i64 (shiftS a s), .int .i64 (shiftS b s)]) ∧ w = w' := by
  go_enter Try.func18, Try.ntmps18
  go_wp2_with fail
  refine (shift_any a s _ ha1 ha2).mono ?_; rintro e w' ⟨rfl, rfl⟩
  go_wp2_with fail
  refine (shift_any b s _ hb1 hb2).mono ?_; rintro e w' ⟨rfl, rfl⟩
  go_wp2
  go_ret2
  exact ⟨rfl, rfl⟩
theorem rspan_any (a b s : Int) (w : World) (ha1 : -9223372036854775808 ≤ a) (ha2 : a ≤ 9223372036854775807) (hb1 : -9223372036854775808 ≤ b) (hb2 : b ≤ 9223372036854775807) :
    Calls Try.prog 19 #[.int .i64 a, .int .i64 b, .int .i64 s] w fun e w' => e = .returned (.tuple #[.int .i64 (shiftS a s), .int .i64 (shiftS b s)]) ∧ w = w' := by
  go_enter Try.func19, Try.ntmps19
  go_wp2_with fail
  refine (rshift_any a s _ ha1 ha2).mono ?_; rintro e w' ⟨rfl, rfl⟩
  go_wp2_with fail
  refine (rshift_any b s _ hb1 hb2).mono ?_; rintro e w' ⟨rfl, rfl⟩
  go_wp2
  go_ret2
  exact ⟨rfl, rfl⟩

theorem bounds_ok (A : Option Addr) (n c : Nat) (xs : List Int) (lo hi : Int) (w : World) (B : Nat) (h : IntsAt w B A n xs) (hn : n ≤ 9223372036854775807) (hz : weightsS xs = 0) (h1 : lo ≤ hi) (h2 : -68719476736 ≤ lo) (h3 : hi ≤ 68719476736) :
    Calls Try.prog 11 #[.slice A n c, .int .i64 lo, .int .i64 hi] w fun e w' => e = .returned (.tuple #[.int .i64 (boundsS xs lo hi).1, .int .i64 (boundsS xs lo hi).2.1, .bool (boundsS xs lo hi).2.2]) ∧ w = w' := by
  obtain ⟨n1, n2, hx⟩ := weightsS_zero hz
  have hlen := h.1
  have HL : Hid (xs.drop n = []) := by
    show xs.drop n = []
    rw [List.drop_eq_nil_iff]; omega
  have hn81 : n ≤ 81 := by omega
  have C := fun w (h : IntsAt w B A n xs) => weights_any A n c xs w B h hn
  rw [hz] at C
  have HZ := hid hz
  have HC := hid C
  have HI := hid h
  obtain ⟨b, off, rfl, _, hc⟩ := h.open_ (by omega)
  have HX := hid hx
  have HCC := hid hc
  have d1 : decide (lo ≤ 68719476736) = true := by simp; omega
  have d2 : decide (hi ≤ 68719476736) = true := by simp; omega
  clear hz C h hc hx hlen
  go_enter Try.func11, Try.ntmps11
  go_wp2_with fail
  refine (HC.out _ HI.out).mono ?_; rintro e w' ⟨rfl, rfl⟩
  go_wp2
  go_loop [9, 10, 33] (fun s t i => ∃ (k : Nat) (a b : Int), k ≤ n ∧ i = .int .i64 k ∧ s = .int .i64 a ∧ t = .int .i64 b ∧ -(k * 2251799813685248) ≤ a ∧ a ≤ k * 2251799813685248 ∧ -(k * 2251799813685248) ≤ b ∧ b ≤ k * 2251799813685248 ∧ a + loSum lo hi (xs.drop k) = loSum lo hi xs ∧ b + hiSum lo hi (xs.drop k) = hiSum lo hi xs) (fun _ _ i => n - (intOf i).toNat)
  case atStart => exact ⟨0, 0, 0, by omega, rfl, rfl, rfl, by omega, by omega, by omega, by omega, by simp, by simp⟩
  case round =>
    obtain ⟨k, s, t, hk, rfl, rfl, rfl, a1, a2, b1, b2, e1, e2⟩ := hrel
    have E1 := hid e1
    have E2 := hid e2
    clear e1 e2
    by_cases hlt : k < n
    · obtain ⟨v, hv, hd, hv1, hv2, hcell⟩ := HCC.out k hlt
      have hm := HX.out v (List.mem_of_getElem? hv)
      obtain ⟨p1, p2⟩ := prod_bd hm.1 hm.2 h2 (by omega)
      obtain ⟨q1, q2⟩ := prod_bd hm.1 hm.2 (by omega) h3
      have HD := hid hd
      clear hd hv hm
      rcases Int.lt_trichotomy (v * lo) (v * hi) with hmm | hmm | hmm
      · have hmm2 : ¬ v * hi < v * lo := by omega
        go_wp2
        go_round
        case rel => exact ⟨k + 1, s + v * lo, t + v * hi, by omega, by go_num, rfl, rfl, by omega, by omega, by omega, by omega, by rw [← E1.out, HD.out, loSum]; omega, by rw [← E2.out, HD.out, hiSum]; omega⟩
        case measure => simp [intOf]; omega
      · have hm1 : ¬ v * hi < v * lo := by omega
        have hm2 : ¬ v * lo < v * hi := by omega
        have HM := hid hmm
        clear hmm
        go_wp2
        go_round
        case rel => exact ⟨k + 1, s + v * lo, t + v * lo, by omega, by go_num, rfl, rfl, by omega, by omega, by omega, by omega, by rw [← E1.out, HD.out, loSum]; have := HM.out; omega, by rw [← E2.out, HD.out, hiSum]; have := HM.out; omega⟩
        case measure => simp [intOf]; omega
      · have hmm2 : ¬ v * lo < v * hi := by omega
        go_wp2
        go_round
        case rel => exact ⟨k + 1, s + v * hi, t + v * lo, by omega, by go_num, rfl, rfl, by omega, by omega, by omega, by omega, by rw [← E1.out, HD.out, loSum]; omega, by rw [← E2.out, HD.out, hiSum]; omega⟩
        case measure => simp [intOf]; omega
    · have : k = n := by omega
      subst this
      by_cases hs1 : s < -17592186044416
      · go_wp2
        go_ret3
        rw [boundsS_no HZ.out h1 h2 h3 (by rw [← E1.out, HL.out]; unfold accS; simp [loSum]; omega)]
        exact ⟨rfl, rfl⟩
      by_cases hs2 : 17592186044416 < s
      · have hs3 : decide (s ≤ 17592186044416) = false := by simp; omega
        go_wp2
        go_ret3
        rw [boundsS_no HZ.out h1 h2 h3 (by rw [← E1.out, HL.out]; unfold accS; simp [loSum]; omega)]
        exact ⟨rfl, rfl⟩
      have hs3 : decide (s ≤ 17592186044416) = true := by simp; omega
      by_cases ht1 : t < -17592186044416
      · go_wp2
        go_ret3
        rw [boundsS_no HZ.out h1 h2 h3 (by rw [← E2.out, HL.out]; unfold accS; simp [hiSum]; omega)]
        exact ⟨rfl, rfl⟩
      by_cases ht2 : 17592186044416 < t
      · have ht3 : decide (t ≤ 17592186044416) = false := by simp; omega
        go_wp2
        go_ret3
        rw [boundsS_no HZ.out h1 h2 h3 (by rw [← E2.out, HL.out]; unfold accS; simp [hiSum]; omega)]
        exact ⟨rfl, rfl⟩
      · have ht3 : decide (t ≤ 17592186044416) = true := by simp; omega
        go_wp2
        go_ret3
        rw [boundsS_ok HZ.out h1 h2 h3 (by rw [← E1.out, HL.out]; unfold accS; simp [loSum]; omega) (by rw [← E2.out, HL.out]; unfold accS; simp [hiSum]; omega), ← E1.out, ← E2.out, HL.out]
        simp [loSum, hiSum]

theorem bounds_any (A : Option Addr) (n c : Nat) (xs : List Int) (lo hi : Int) (w : World) (B : Nat) (h : IntsAt w B A n xs) (hn : n ≤ 9223372036854775807) :
    Calls Try.prog 11 #[.slice A n c, .int .i64 lo, .int .i64 hi] w fun e w' => e = .returned (.tuple #[.int .i64 (boundsS xs lo hi).1, .int .i64 (boundsS xs lo hi).2.1, .bool (boundsS xs lo hi).2.2]) ∧ w = w' := by
  have C := fun w (h : IntsAt w B A n xs) => weights_any A n c xs w B h hn
  have HI := hid h
  by_cases hz : weightsS xs = 0
  · by_cases h1 : hi < lo
    · rw [boundsS_bad (by omega)]
      rw [hz] at C
      have HC := hid C
      clear C hz h
      go_enter Try.func11, Try.ntmps11
      go_wp2_with fail
      refine (HC.out _ HI.out).mono ?_; rintro e w' ⟨rfl, rfl⟩
      go_wp2
      all_goals (go_ret3; exact ⟨rfl, rfl⟩)
    by_cases h2 : lo < -68719476736
    · rw [boundsS_bad (by omega)]
      rw [hz] at C
      have HC := hid C
      clear C hz h
      go_enter Try.func11, Try.ntmps11
      go_wp2_with fail
      refine (HC.out _ HI.out).mono ?_; rintro e w' ⟨rfl, rfl⟩
      go_wp2
      all_goals (go_ret3; exact ⟨rfl, rfl⟩)
    by_cases h3 : 68719476736 < hi
    · rw [boundsS_bad (by omega)]
      rw [hz] at C
      have HC := hid C
      have d2 : decide (hi ≤ 68719476736) = false := by simp; omega
      clear C hz h
      by_cases h4 : 68719476736 < lo
      · have d1 : decide (lo ≤ 68719476736) = false := by simp; omega
        go_enter Try.func11, Try.ntmps11
        go_wp2_with fail
        refine (HC.out _ HI.out).mono ?_; rintro e w' ⟨rfl, rfl⟩
        go_wp2
        all_goals (go_ret3; exact ⟨rfl, rfl⟩)
      · have d1 : decide (lo ≤ 68719476736) = true := by simp; omega
        go_enter Try.func11, Try.ntmps11
        go_wp2_with fail
        refine (HC.out _ HI.out).mono ?_; rintro e w' ⟨rfl, rfl⟩
        go_wp2
        all_goals (go_ret3; exact ⟨rfl, rfl⟩)
    · exact bounds_ok A n c xs lo hi w B h hn hz (by omega) (by omega) (by omega)
  · rw [boundsS_bad (.inl hz)]
    have hz1 : (weightsS xs != 0) = true := by simpa using hz
    have hz2 : (weightsS xs == 0) = false := by simpa using hz
    generalize weightsS xs = q at *
    have HC := hid C
    clear C h hz
    go_enter Try.func11, Try.ntmps11
    go_wp2_with fail
    refine (HC.out _ HI.out).mono ?_; rintro e w' ⟨rfl, rfl⟩
    go_wp2
    all_goals (go_ret3; exact ⟨rfl, rfl⟩)

theorem rbounds_ok (A : Option Addr) (n c : Nat) (xs : List Int) (lo hi : Int) (w : World) (B : Nat) (h : IntsAt w B A n xs) (hn : n ≤ 9223372036854775807) (hz : weightsS xs = 0) (h1 : lo ≤ hi) (h2 : -68719476736 ≤ lo) (h3 : hi ≤ 68719476736) :
    Calls Try.prog 12 #[.slice A n c, .int .i64 lo, .int .i64 hi] w fun e w' => e = .returned (.tuple #[.int .i64 (boundsS xs lo hi).1, .int .i64 (boundsS xs lo hi).2.1, .bool (boundsS xs lo hi).2.2]) ∧ (∃ m, w.drewN m = w') := by
  obtain ⟨n1, n2, hx⟩ := weightsS_zero hz
  have hlen := h.1
  have HL : Hid (xs.drop n = []) := by
    show xs.drop n = []
    rw [List.drop_eq_nil_iff]; omega
  have hn81 : n ≤ 81 := by omega
  have C := fun w (h : IntsAt w B A n xs) => rweights_any A n c xs w B h hn
  rw [hz] at C
  have HZ := hid hz
  have HC := hid C
  have HI := hid h
  obtain ⟨b, off, rfl, _, hc⟩ := h.open_ (by omega)
  have HX := hid hx
  have HCC := hid hc
  have d1 : decide (lo ≤ 68719476736) = true := by simp; omega
  have d2 : decide (hi ≤ 68719476736) = true := by simp; omega
  clear hz C h hc hx hlen
  go_enter Try.func12, Try.ntmps12
  go_wp2_with fail
  refine (HC.out _ HI.out).mono ?_; rintro e w' ⟨rfl, rfl⟩
  go_wp2
  go_loopw [9, 10, 11] (fun s t i wr => ∃ (k : Nat) (a b : Int), k ≤ n ∧ i = .int .i64 k ∧ s = .int .i64 a ∧ t = .int .i64 b ∧ -(k * 2251799813685248) ≤ a ∧ a ≤ k * 2251799813685248 ∧ -(k * 2251799813685248) ≤ b ∧ b ≤ k * 2251799813685248 ∧ a + loSum lo hi (xs.drop k) = loSum lo hi xs ∧ b + hiSum lo hi (xs.drop k) = hiSum lo hi xs ∧ ∃ m, wr = w.drewN m) (fun _ _ i _ => n - (intOf i).toNat)
  case atStart => exact ⟨0, 0, 0, by omega, rfl, rfl, rfl, by omega, by omega, by omega, by omega, by simp, by simp, 0, rfl⟩
  case round =>
    obtain ⟨k, s, t, hk, rfl, rfl, rfl, a1, a2, b1, b2, e1, e2, m, rfl⟩ := hrel
    have E1 := hid e1
    have E2 := hid e2
    clear e1 e2
    by_cases hlt : k < n
    · obtain ⟨v, hv, hd, hv1, hv2, hcell⟩ := HCC.out k hlt
      have hm := HX.out v (List.mem_of_getElem? hv)
      obtain ⟨p1, p2⟩ := prod_bd hm.1 hm.2 h2 (by omega)
      obtain ⟨q1, q2⟩ := prod_bd hm.1 hm.2 (by omega) h3
      have HD := hid hd
      clear hd hv hm
      rcases Int.lt_trichotomy (v * lo) (v * hi) with hmm | hmm | hmm
      · have hmm2 : ¬ v * hi < v * lo := by omega
        go_wp2
        go_quiet (fail)
        go_wp2
        go_roundw
        case rel => exact ⟨k + 1, s + v * lo, t + v * hi, by omega, by go_num, rfl, rfl, by omega, by omega, by omega, by omega, by rw [← E1.out, HD.out, loSum]; omega, by rw [← E2.out, HD.out, hiSum]; omega, _, rfl⟩
        case measure => simp [intOf]; omega
      · have hm1 : ¬ v * hi < v * lo := by omega
        have hm2 : ¬ v * lo < v * hi := by omega
        have HM := hid hmm
        clear hmm
        go_wp2
        go_quiet (fail)
        go_wp2
        go_roundw
        case rel => exact ⟨k + 1, s + v * lo, t + v * lo, by omega, by go_num, rfl, rfl, by omega, by omega, by omega, by omega, by rw [← E1.out, HD.out, loSum]; have := HM.out; omega, by rw [← E2.out, HD.out, hiSum]; have := HM.out; omega, _, rfl⟩
        case measure => simp [intOf]; omega
      · have hmm2 : ¬ v * lo < v * hi := by omega
        go_wp2
        go_quiet (fail)
        go_wp2
        go_roundw
        case rel => exact ⟨k + 1, s + v * hi, t + v * lo, by omega, by go_num, rfl, rfl, by omega, by omega, by omega, by omega, by rw [← E1.out, HD.out, loSum]; omega, by rw [← E2.out, HD.out, hiSum]; omega, _, rfl⟩
        case measure => simp [intOf]; omega
    · have : k = n := by omega
      subst this
      by_cases hs1 : s < -17592186044416
      · go_wp2
        go_ret3
        rw [boundsS_no HZ.out h1 h2 h3 (by rw [← E1.out, HL.out]; unfold accS; simp [loSum]; omega)]
        exact ⟨rfl, _, rfl⟩
      by_cases hs2 : 17592186044416 < s
      · have hs3 : decide (s ≤ 17592186044416) = false := by simp; omega
        go_wp2
        go_ret3
        rw [boundsS_no HZ.out h1 h2 h3 (by rw [← E1.out, HL.out]; unfold accS; simp [loSum]; omega)]
        exact ⟨rfl, _, rfl⟩
      have hs3 : decide (s ≤ 17592186044416) = true := by simp; omega
      by_cases ht1 : t < -17592186044416
      · go_wp2
        go_ret3
        rw [boundsS_no HZ.out h1 h2 h3 (by rw [← E2.out, HL.out]; unfold accS; simp [hiSum]; omega)]
        exact ⟨rfl, _, rfl⟩
      by_cases ht2 : 17592186044416 < t
      · have ht3 : decide (t ≤ 17592186044416) = false := by simp; omega
        go_wp2
        go_ret3
        rw [boundsS_no HZ.out h1 h2 h3 (by rw [← E2.out, HL.out]; unfold accS; simp [hiSum]; omega)]
        exact ⟨rfl, _, rfl⟩
      · have ht3 : decide (t ≤ 17592186044416) = true := by simp; omega
        go_wp2
        go_ret3
        rw [boundsS_ok HZ.out h1 h2 h3 (by rw [← E1.out, HL.out]; unfold accS; simp [loSum]; omega) (by rw [← E2.out, HL.out]; unfold accS; simp [hiSum]; omega), ← E1.out, ← E2.out, HL.out]
        refine ⟨by simp [loSum, hiSum], _, rfl⟩

theorem rbounds_any (A : Option Addr) (n c : Nat) (xs : List Int) (lo hi : Int) (w : World) (B : Nat) (h : IntsAt w B A n xs) (hn : n ≤ 9223372036854775807) :
    Calls Try.prog 12 #[.slice A n c, .int .i64 lo, .int .i64 hi] w fun e w' => e = .returned (.tuple #[.int .i64 (boundsS xs lo hi).1, .int .i64 (boundsS xs lo hi).2.1, .bool (boundsS xs lo hi).2.2]) ∧ (∃ m, w.drewN m = w') := by
  have C := fun w (h : IntsAt w B A n xs) => rweights_any A n c xs w B h hn
  have HI := hid h
  by_cases hz : weightsS xs = 0
  · by_cases h1 : hi < lo
    · rw [boundsS_bad (by omega)]
      rw [hz] at C
      have HC := hid C
      clear C hz h
      go_enter Try.func12, Try.ntmps12
      go_wp2_with fail
      refine (HC.out _ HI.out).mono ?_; rintro e w' ⟨rfl, rfl⟩
      go_wp2
      all_goals (go_ret3; exact ⟨rfl, 0, rfl⟩)
    by_cases h2 : lo < -68719476736
    · rw [boundsS_bad (by omega)]
      rw [hz] at C
      have HC := hid C
      clear C hz h
      go_enter Try.func12, Try.ntmps12
      go_wp2_with fail
      refine (HC.out _ HI.out).mono ?_; rintro e w' ⟨rfl, rfl⟩
      go_wp2
      all_goals (go_ret3; exact ⟨rfl, 0, rfl⟩)
    by_cases h3 : 68719476736 < hi
    · rw [boundsS_bad (by omega)]
      rw [hz] at C
      have HC := hid C
      have d2 : decide (hi ≤ 68719476736) = false := by simp; omega
      clear C hz h
      by_cases h4 : 68719476736 < lo
      · have d1 : decide (lo ≤ 68719476736) = false := by simp; omega
        go_enter Try.func12, Try.ntmps12
        go_wp2_with fail
        refine (HC.out _ HI.out).mono ?_; rintro e w' ⟨rfl, rfl⟩
        go_wp2
        all_goals (go_ret3; exact ⟨rfl, 0, rfl⟩)
      · have d1 : decide (lo ≤ 68719476736) = true := by simp; omega
        go_enter Try.func12, Try.ntmps12
        go_wp2_with fail
        refine (HC.out _ HI.out).mono ?_; rintro e w' ⟨rfl, rfl⟩
        go_wp2
        all_goals (go_ret3; exact ⟨rfl, 0, rfl⟩)
    · exact rbounds_ok A n c xs lo hi w B h hn hz (by omega) (by omega) (by omega)
  · rw [boundsS_bad (.inl hz)]
    have hz1 : (weightsS xs != 0) = true := by simpa using hz
    have hz2 : (weightsS xs == 0) = false := by simpa using hz
    generalize weightsS xs = q at *
    have HC := hid C
    clear C h hz
    go_enter Try.func12, Try.ntmps12
    go_wp2_with fail
    refine (HC.out _ HI.out).mono ?_; rintro e w' ⟨rfl, rfl⟩
    go_wp2
    all_goals (go_ret3; exact ⟨rfl, 0, rfl⟩)

end Go.Proofs.Ytgfkmlppoldhgaa
