/-
  The law FixedWithin: the walk.
-/
import Derived.Test.YtgfkmlppoldhgaaFixBoundsLaw
import Derived.Deep.RegionWith
import Derived.Deep.DeepCutAuto
import Derived.Deep.RegionHeld3
namespace Go.Proofs.Ytgfkmlppoldhgaa
open Go.RowKit
set_option linter.unusedVariables false

/-- A product of a small weight and a number of a small range. -/
theorem small_prod {v x L : Int} (h1 : -20 ≤ v) (h2 : v ≤ 20) (h3 : -449 ≤ x) (h4 : x ≤ 449) : -8980 ≤ v * x ∧ v * x ≤ 8980 := by
  have h7 : (v * x).natAbs ≤ 20 * 449 := by
    rw [Int.natAbs_mul]
    exact Nat.mul_le_mul (by omega) (by omega)
  omega
/-- A weight times a number between two bounds. -/
theorem prod_between {v lo hi x : Int} (h1 : lo ≤ x) (h2 : x ≤ hi) : min (v * lo) (v * hi) ≤ v * x ∧ v * x ≤ max (v * lo) (v * hi) := by
  rcases Int.le_total 0 v with h | h
  · have a := Int.mul_le_mul_of_nonneg_left h1 h
    have b := Int.mul_le_mul_of_nonneg_left h2 h
    omega
  · have a := Int.mul_le_mul_of_nonpos_left h h1
    have b := Int.mul_le_mul_of_nonpos_left h h2
    omega
theorem sums_small (lo hi : Int) (h3 : -150 ≤ lo) (h4 : lo ≤ 149) (h5 : lo ≤ hi) (h6 : hi ≤ 449) : ∀ (ws : List Int), (∀ x ∈ ws, -20 ≤ x ∧ x ≤ 20) →
    -(ws.length * 8980 : Int) ≤ loSum lo hi ws ∧ loSum lo hi ws ≤ hiSum lo hi ws ∧ hiSum lo hi ws ≤ ws.length * 8980
  | [], _ => by simp [loSum, hiSum]
  | v :: r, hx => by
    have ih := sums_small lo hi h3 h4 h5 h6 r (fun x h => hx x (List.mem_cons_of_mem _ h))
    have hv := hx v (List.mem_cons_self ..)
    have p := small_prod (L := 0) hv.1 hv.2 (x := lo) (by omega) (by omega)
    have q := small_prod (L := 0) hv.1 hv.2 (x := hi) (by omega) (by omega)
    simp only [loSum, hiSum, List.length_cons]
    omega
theorem okW_of : ∀ {ws : List Int}, (∀ x ∈ ws, -20 ≤ x ∧ x ≤ 20) → okW ws = true
  | [], _ => rfl
  | v :: r, hx => by
    have hv := hx v (List.mem_cons_self ..)
    rw [okW_ok (by omega) (by omega)]
    exact okW_of (fun x h => hx x (List.mem_cons_of_mem _ h))
theorem within_facts (lo hi : Int) (h3 : -150 ≤ lo) (h4 : lo ≤ 149) (h5 : lo ≤ hi) (h6 : hi ≤ 449) (ws : List Int) (hx : ∀ x ∈ ws, -20 ≤ x ∧ x ≤ 20) (h1 : 1 ≤ ws.length) (h2 : ws.length ≤ 9) :
    boundsS ws lo hi = (loSum lo hi ws, hiSum lo hi ws, true) := by
  have hs := sums_small lo hi h3 h4 h5 h6 ws hx
  exact boundsS_ok (weightsS_ok (by omega) (okW_of hx)) h5 (by omega) (by omega) (by unfold accS; omega) (by unfold accS; omega)

set_option maxRecDepth 100000 in
set_option maxHeartbeats 4000000 in
theorem within_law (At : Option Addr) (nt ct : Nat) (ts : List Int) (w : World) (hts : IntsAt w w.heap.size At nt ts) (hnt : nt ≤ 9223372036854775807) :
    Calls Try.prog 4 #[.slice At nt ct] w fun e w' => e = .returned (.bool true) ∧ Below w.heap.size w w' := by
  have HN := hid (new_any At nt ct w)
  have ht0 : TapeAt w.heap.size w.heap.size (w.alloc (.cells #[.slice At nt ct, .int .i64 0] 41)) :=
    ⟨Nat.le_refl _, At, nt, ct, ts, 0, Blk.new w _ _, by omega, hnt, hts.below ((Below.refl _ _).alloc (Nat.le_refl _) _) (Nat.le_refl _)⟩
  have HT0 := hid ht0
  have HB0 : Hid (Below w.heap.size w (w.alloc (.cells #[.slice At nt ct, .int .i64 0] 41))) := (Below.refl _ _).alloc (Nat.le_refl _) _
  clear hts ht0
  go_enter Try.func4, Try.ntmps4
  go_wp2_with fail
  refine HN.out.mono ?_; rintro e w' ⟨rfl, rfl⟩
  go_wp2_with fail
  generalize w.alloc (.cells #[.slice At nt ct, .int .i64 0] 41) = W1 at *
  have hs0 := HB0.out.size
  refine (next_any _ _ 9 _ HT0.out (by omega) (by omega)).mono ?_
  rintro e w1 ⟨r, hr0, hr1, rfl, ht, hg⟩
  obtain ⟨n0, rfl⟩ := Int.eq_ofNat_of_zero_le hr0
  have hn0 : n0 ≤ 8 := by omega
  have HB1 := hid (grown_below HB0.out hg hs0 (Nat.le_refl _))
  have HT1 := hid ht
  have hs1 := HB1.out.size
  have hc1 := weights2 _ _ (1 + n0) _ ht (by omega)
  rw [show ((1 + n0 : Nat) : Int) = 1 + (n0 : Int) from by omega] at hc1
  have HC1 := hid hc1
  clear ht hg HT0 HB0 HN hr1 hc1
  go_wp2_with fail
  refine HC1.out.mono ?_
  rintro e w2 ⟨A', c', ws, rfl, hws, ho, ht, hg⟩
  have hlo : w.heap.size < w1.heap.size := by have := HT1.out.lt; omega
  have HB2 := hid (grown_below HB1.out hg hs1 (Nat.le_refl _))
  have HT2 := hid ht
  have HO2 := hid ho
  have HWS := hid hws
  have hs2 := HB2.out.size
  clear hg ht ho hws HB1 HT1 HC1
  generalize hk : 1 + n0 = n at *
  have hn1 : 1 ≤ n := by omega
  have hn9 : n ≤ 9 := by omega
  clear hk
  go_wp2_with fail
  refine (next_any _ _ 300 _ HT2.out (by omega) (by omega)).mono ?_
  rintro e w3 ⟨q, hq0, hq1, rfl, ht, hg⟩
  have hq : q ≤ 299 := by omega
  have HB3 := hid (grown_below HB2.out hg hs2 (Nat.le_refl _))
  have HT3 := hid ht
  have HO3 := hid (HO2.out.kept hg hlo)
  have hs3 := HB3.out.size
  clear ht hg HB2 HT2 HO2 hq1
  go_wp2_with fail
  refine (next_any _ _ 300 _ HT3.out (by omega) (by omega)).mono ?_
  rintro e w4 ⟨u, hu0, hu1, rfl, ht, hg⟩
  have hu : u ≤ 299 := by omega
  have HB4 := hid (grown_below HB3.out hg hs3 (Nat.le_refl _))
  have HT4 := hid ht
  have HO4 := hid (HO3.out.kept hg hlo)
  have hs4 := HB4.out.size
  have hlen := HO4.out.1.1
  have HF := hid (within_facts (q - 150) (q - 150 + u) (by omega) (by omega) (by omega) (by omega) ws HWS.out (by omega) (by omega))
  have hc := bounds_any A' n c' ws (q - 150) (q - 150 + u) w4 _ HO4.out.1 (by omega)
  rw [HF.out] at hc
  have HC := hid hc
  obtain ⟨b1, b2, b3⟩ := sums_small (q - 150) (q - 150 + u) (by omega) (by omega) (by omega) (by omega) ws HWS.out
  have HS2 := hid b2
  clear ht hg HB3 HT3 HO3 hu1 hc HF b2
  generalize hls : loSum (q - 150) (q - 150 + u) ws = ls at *
  generalize hhs : hiSum (q - 150) (q - 150 + u) ws = hs at *
  have HLS := hid hls
  have HHS := hid hhs
  have HLEN := hid hlen
  clear hls hhs hlen
  have bl : -80820 ≤ ls := by have := HLEN.out; omega
  have bh : hs ≤ 80820 := by have := HLEN.out; omega
  have blh := HS2.out
  clear b1 b3 HS2
  go_wp2_with fail
  refine HC.out.mono ?_; rintro e w' ⟨rfl, rfl⟩
  go_wp2
  go_loopw [10, 11, 12, 13] (fun s a b i wr => ∃ (k : Nat) (sv lv hv : Int), k ≤ n ∧ i = .int .i64 k ∧ s = .int .i64 sv ∧ a = .int .i64 lv ∧ b = .int .i64 hv ∧ lv ≤ sv ∧ sv ≤ hv ∧ -(k * 8980 : Int) ≤ lv ∧ hv ≤ k * 8980 ∧ lv + loSum (q - 150) (q - 150 + u) (ws.drop k) = ls ∧ hv + hiSum (q - 150) (q - 150 + u) (ws.drop k) = hs ∧ TapeAt w.heap.size w.heap.size wr ∧ Below w.heap.size w wr ∧ OwnInts wr w1.heap.size A' n ws) (fun _ _ _ i _ => n - (intOf i).toNat)
  case atStart => exact ⟨0, 0, 0, 0, by omega, rfl, rfl, rfl, rfl, by omega, by omega, by omega, by omega, by simpa using HLS.out, by simpa using HHS.out, HT4.out, HB4.out, HO4.out⟩
  case round =>
    obtain ⟨k, sv, lv, hv, hk, rfl, rfl, rfl, rfl, ha1, ha2, ha3, ha4, e1, e2, ht, hb, ho⟩ := hrel
    have E1 := hid e1
    have E2 := hid e2
    have HT := hid ht
    have HB := hid hb
    have HO := hid ho
    have hs5 := hb.size
    clear e1 e2 ht hb ho HT4 HB4 HO4 HC
    by_cases hlt : k < n
    · obtain ⟨gv, hA, hglo, hglt, hfr⟩ := HO.out.2 (by omega)
      obtain ⟨b0, o0, hA2, _, hcc⟩ := HO.out.1.open_ (by omega)
      have hx := hcc k hlt
      subst hA
      injection hA2 with hA2
      injection hA2 with hA1 hA2
      subst hA1; subst hA2
      obtain ⟨v, hv1, hv2, _, _, hcell⟩ := hx
      have hcell : wr.cell? ⟨gv, k, none⟩ = some (.int .i64 v) := by simpa using hcell
      have hvr := HWS.out v (List.mem_of_getElem? hv1)
      obtain ⟨hvr1, hvr2⟩ := hvr
      have HV2 := hid hv2
      have HV1 := hid hv1
      have p1 := small_prod (L := 0) (v := v) (x := q - 150) hvr1 hvr2 (by omega) (by omega)
      have p2 := small_prod (L := 0) (v := v) (x := q - 150 + u) hvr1 hvr2 (by omega) (by omega)
      obtain ⟨p11, p12⟩ := p1
      obtain ⟨p21, p22⟩ := p2
      clear hcc hv1 hv2
      go_upto_region 11 with fail
      go_cut [10] (fun s wx => ∃ y : Int, s = .int .i64 (sv + v * y) ∧ q - 150 ≤ y ∧ y ≤ q - 150 + u ∧ TapeAt w.heap.size w.heap.size wx ∧ Below w.heap.size w wx ∧ OwnInts wx w1.heap.size (some ⟨gv, 0, none⟩) n ws)
      case first =>
        have x1 : IntKind.i64.wrap (q - 150 + u - (q - 150)) = u := by rw [IntWalk.i64_in _ (by omega)]; omega
        have x2 : IntKind.i64.wrap (u + 1) = u + 1 := IntWalk.i64_in _ (by omega)
        have hsv1 : -8980 * 9 ≤ sv := by omega
        have hsv2 : sv ≤ 8980 * 9 := by omega
        have hnx : Calls Try.prog 10 #[.pointer (some ⟨w.heap.size, 0, none⟩), .int .i64 (u + 1)] wr.drew fun e wn => ∃ y : Int, e = .returned (.int .i64 y) ∧ 0 ≤ y ∧ y ≤ u ∧
            Hid (TapeAt w.heap.size w.heap.size wn) ∧ Hid (Below w.heap.size w wn) ∧ Hid (OwnInts wn w1.heap.size (some ⟨gv, 0, none⟩) n ws) ∧ wn.cell? ⟨gv, k, none⟩ = some (.int .i64 v) ∧
            IntKind.i64.wrap (q - 150 + y) = q - 150 + y ∧ IntKind.i64.wrap (v * (q - 150 + y)) = v * (q - 150 + y) ∧ IntKind.i64.wrap (sv + v * (q - 150 + y)) = sv + v * (q - 150 + y) := by
          refine (next_any _ _ (u + 1) wr.drew HT.out (by omega) (by omega)).mono ?_
          rintro e wn ⟨y, hy0, hy1, rfl, ht, hg⟩
          have hy2 : y ≤ u := by omega
          have hg' : wr.grownBy wn (some w.heap.size) := ⟨hg.os, hg.tape, hg.output, hg.size, hg.block⟩
          have p3 := small_prod (L := 0) (v := v) (x := q - 150 + y) hvr1 hvr2 (by omega) (by omega)
          exact ⟨y, rfl, hy0, hy2, ht, grown_below HB.out hg' hs5 (Nat.le_refl _), HO.out.kept hg' hlo, (World.cell?_of_block (hg'.block gv hglt (fun e => by injection e; omega))).trans hcell,
            IntWalk.i64_in _ (by omega), IntWalk.i64_in _ (by omega), IntWalk.i64_in _ (by omega)⟩
        have HNX := hid hnx
        clear hnx
        go_region_with (go_at_call 10; refine HNX.out.mono ?_; rintro e wn ⟨y, rfl, hy0, hy1, HTn, HBn, HOn, hcn, ew1, ew2, ew3⟩)
        all_goals (go_wp2; go_meet; exact ⟨q - 150 + y, rfl, by omega, by omega, HTn.out, HBn.out, HOn.out⟩)
      case rest =>
        obtain ⟨y, rfl, hy1, hy2, ht, hb, ho⟩ := hcut
        have HT2 := hid ht
        have HB2 := hid hb
        have HO2 := hid ho
        obtain ⟨b0, o0, hA2, _, hcc⟩ := ho.1.open_ (by omega)
        have hx := hcc k hlt
        injection hA2 with hA2
        injection hA2 with hA1 hA2
        subst hA1; subst hA2
        obtain ⟨v', hv1', _, _, _, hcell'⟩ := hx
        have hvv : v' = v := by
          have h1 := HV1.out
          rw [h1] at hv1'
          injection hv1' with h2
          exact h2.symm
        have hcw : wc.cell? ⟨gv, k, none⟩ = some (.int .i64 v) := by rw [← hvv]; simpa using hcell'
        obtain ⟨m1, m2⟩ := prod_between (v := v) hy1 hy2
        have x3 : IntKind.i64.wrap (v * (q - 150)) = v * (q - 150) := IntWalk.i64_in _ (by omega)
        have x4 : IntKind.i64.wrap (v * (q - 150 + u)) = v * (q - 150 + u) := IntWalk.i64_in _ (by omega)
        have hlv1 : -8980 * 9 ≤ lv := by omega
        have hlv2 : lv ≤ 8980 * 9 := by omega
        have hhv1 : -8980 * 9 ≤ hv := by omega
        have hhv2 : hv ≤ 8980 * 9 := by omega
        clear ht hb ho hcc hv1' hcell' hvv hcell
        rcases Int.lt_trichotomy (v * (q - 150)) (v * (q - 150 + u)) with hmm | hmm | hmm
        · have g1 : decide (v * (q - 150 + u) < v * (q - 150)) = false := by simp; omega
          have g2 : decide (v * (q - 150) < v * (q - 150 + u)) = true := by simp; omega
          have g3 : ¬ v * (q - 150 + u) < v * (q - 150) := by omega
          have g4 :  v * (q - 150) < v * (q - 150 + u) := by omega
          have M1 : Hid (v * (q - 150) ≤ v * y) := hid (by omega)
          have M2 : Hid (v * y ≤ v * (q - 150 + u)) := hid (by omega)
          have x5 : IntKind.i64.wrap (lv + v * (q - 150)) = lv + v * (q - 150) := IntWalk.i64_in _ (by omega)
          have x6 : IntKind.i64.wrap (hv + v * (q - 150 + u)) = hv + v * (q - 150 + u) := IntWalk.i64_in _ (by omega)
          clear m1 m2
          go_wp2
          go_quiet (fail)
          go_wp2
          go_quiet (fail)
          go_wp2
          go_roundw
          case rel => exact ⟨k + 1, sv + v * y, lv + v * (q - 150), hv + v * (q - 150 + u), by omega, by go_num, rfl, rfl, rfl, by have := M1.out; omega, by have := M2.out; omega, by omega, by omega, by rw [← E1.out, HV2.out, loSum]; omega, by rw [← E2.out, HV2.out, hiSum]; omega, HT2.out, below_drewN' HB2.out _, HO2.out⟩
          case measure => simp [intOf]; omega
        · have HM := hid hmm
          have g1 : decide (v * (q - 150 + u) < v * (q - 150)) = false := by simp; omega
          have g2 : decide (v * (q - 150) < v * (q - 150 + u)) = false := by simp; omega
          have g3 : ¬ v * (q - 150 + u) < v * (q - 150) := by omega
          have g4 : ¬ v * (q - 150) < v * (q - 150 + u) := by omega
          have M1 : Hid (v * (q - 150) ≤ v * y) := hid (by omega)
          have M2 : Hid (v * y ≤ v * (q - 150)) := hid (by omega)
          have x5 : IntKind.i64.wrap (lv + v * (q - 150)) = lv + v * (q - 150) := IntWalk.i64_in _ (by omega)
          have x6 : IntKind.i64.wrap (hv + v * (q - 150)) = hv + v * (q - 150) := IntWalk.i64_in _ (by omega)
          clear m1 m2 hmm
          go_wp2
          go_quiet (fail)
          go_wp2
          go_quiet (fail)
          go_wp2
          go_roundw
          case rel => exact ⟨k + 1, sv + v * y, lv + v * (q - 150), hv + v * (q - 150), by omega, by go_num, rfl, rfl, rfl, by have := M1.out; omega, by have := M2.out; omega, by omega, by omega, by rw [← E1.out, HV2.out, loSum]; (have := HM.out; omega), by rw [← E2.out, HV2.out, hiSum]; (have := HM.out; omega), HT2.out, below_drewN' HB2.out _, HO2.out⟩
          case measure => simp [intOf]; omega
        · have g1 : decide (v * (q - 150 + u) < v * (q - 150)) = true := by simp; omega
          have g2 : decide (v * (q - 150) < v * (q - 150 + u)) = false := by simp; omega
          have g3 :  v * (q - 150 + u) < v * (q - 150) := by omega
          have g4 : ¬ v * (q - 150) < v * (q - 150 + u) := by omega
          have M1 : Hid (v * (q - 150 + u) ≤ v * y) := hid (by omega)
          have M2 : Hid (v * y ≤ v * (q - 150)) := hid (by omega)
          have x5 : IntKind.i64.wrap (lv + v * (q - 150 + u)) = lv + v * (q - 150 + u) := IntWalk.i64_in _ (by omega)
          have x6 : IntKind.i64.wrap (hv + v * (q - 150)) = hv + v * (q - 150) := IntWalk.i64_in _ (by omega)
          clear m1 m2
          go_wp2
          go_quiet (fail)
          go_wp2
          go_quiet (fail)
          go_wp2
          go_roundw
          case rel => exact ⟨k + 1, sv + v * y, lv + v * (q - 150 + u), hv + v * (q - 150), by omega, by go_num, rfl, rfl, rfl, by have := M1.out; omega, by have := M2.out; omega, by omega, by omega, by rw [← E1.out, HV2.out, loSum]; omega, by rw [← E2.out, HV2.out, hiSum]; omega, HT2.out, below_drewN' HB2.out _, HO2.out⟩
          case measure => simp [intOf]; omega
    · have e : k = n := by omega
      subst e
      have hd : ws.drop k = [] := by rw [List.drop_eq_nil_iff]; have := HLEN.out; omega
      have e1 := E1.out
      have e2 := E2.out
      rw [hd] at e1 e2
      simp only [loSum, hiSum, Int.add_zero] at e1 e2
      subst e1; subst e2
      clear hd
      go_wp2_with (go_at_call 15; refine (sane_any _).mono ?_; rintro e w' ⟨rfl, hg⟩)
      go_ret
      exact ⟨rfl, below_join HB.out hg⟩
end Go.Proofs.Ytgfkmlppoldhgaa
