/-
  The law RectOutset: plain law and walk.
-/
import Derived.Test.YtphleapmgkcpoaaRectPointsLaw
import Derived.Test.YtphleapmgkcpoaaTapeWithin
namespace Go.Proofs.Ytphleapmgkcpoaa
open Go.RowKit
set_option linter.unusedVariables false

theorem small_full {a b c d : Int} (h : Small ⟨a, b, c, d⟩) : FullP ⟨a, b, c, d⟩ := by
  unfold Small at h
  unfold FullP inC
  simp only at h ⊢
  omega
theorem outset_facts (a b c d l u r q : Int) (h : Small ⟨a, b, c, d⟩) (hl : 0 ≤ l ∧ l ≤ 49) (hu : 0 ≤ u ∧ u ≤ 49) (hr : 0 ≤ r ∧ r ≤ 49) (hq : 0 ≤ q ∧ q ≤ 49) :
    ∃ b0 b1 b2 b3 c0 c1 c2 c3 : Int, outsetS ⟨a, b, c, d⟩ l u r q = ⟨b0, b1, b2, b3⟩ ∧ outsetS ⟨b0, b1, b2, b3⟩ u l q r = ⟨c0, c1, c2, c3⟩ ∧
      outsetS ⟨a, b, c, d⟩ (l + u) (l + u) (r + q) (r + q) = ⟨c0, c1, c2, c3⟩ ∧ outsetS ⟨a, b, c, d⟩ 0 0 0 0 = ⟨a, b, c, d⟩ ∧ insideB ⟨a, b, c, d⟩ ⟨b0, b1, b2, b3⟩ = true ∧
      areaS ⟨b0, b1, b2, b3⟩ = (c - a + l + r) * (d - b + u + q) := by
  have hf := small_full h
  unfold Small at h
  simp only at h
  have hfb : FullP ⟨a - l, b - u, c + r, d + q⟩ := by unfold FullP inC; simp only; omega
  refine ⟨a - l, b - u, c + r, d + q, a - l - u, b - u - l, c + r + q, d + q + r, ?_, ?_, ?_, ?_, ?_, ?_⟩
  · exact outsetS_yes ⟨hf, by unfold stepP; omega, by unfold stepP; omega, by unfold stepP; omega, by unfold stepP; omega, .inr hfb⟩
  · exact outsetS_yes ⟨hfb, by unfold stepP; omega, by unfold stepP; omega, by unfold stepP; omega, by unfold stepP; omega, .inr (by unfold outS FullP inC; simp only; omega)⟩
  · rw [outsetS_yes ⟨hf, by unfold stepP; omega, by unfold stepP; omega, by unfold stepP; omega, by unfold stepP; omega, .inr (by unfold outS FullP inC; simp only; omega)⟩]
    unfold outS
    simp only [Rc.mk.injEq]
    omega
  · rw [outsetS_yes ⟨hf, by unfold stepP; omega, by unfold stepP; omega, by unfold stepP; omega, by unfold stepP; omega, .inr (by unfold outS FullP inC; simp only; omega)⟩]
    unfold outS
    simp only [Rc.mk.injEq]
    omega
  · rw [insideB_v (.inr hf) (.inr hfb) ((full_iff _).1 hf).2]
    simp
    omega
  · rw [areaS_v (.inr hfb)]
    congr 1 <;> omega

set_option maxRecDepth 100000 in
set_option maxHeartbeats 8000000 in
theorem outset_walk (At : Option Addr) (nt ct : Nat) (ts : List Int) (w : World) (hts : IntsAt w w.heap.size At nt ts) (hnt : nt ≤ 9223372036854775807) :
    Calls Try.prog 5 #[.slice At nt ct] w fun e w' => e = .returned (.bool true) ∧ Below w.heap.size w w' := by
  have HN := hid (new_any At nt ct w)
  have ht0 : TapeAt w.heap.size w.heap.size (w.alloc (.cells #[.slice At nt ct, .int .i64 0] 46)) :=
    ⟨Nat.le_refl _, At, nt, ct, ts, 0, Blk.new w _ _, by omega, hnt, hts.below ((Below.refl _ _).alloc (Nat.le_refl _) _) (Nat.le_refl _)⟩
  have HT0 := hid ht0
  have HB0 : Hid (Below w.heap.size w (w.alloc (.cells #[.slice At nt ct, .int .i64 0] 46))) := (Below.refl _ _).alloc (Nat.le_refl _) _
  clear hts ht0
  go_enter Try.func5, Try.ntmps5
  go_wp2_with fail
  refine HN.out.mono ?_; rintro e w' ⟨rfl, rfl⟩
  go_wp2_with fail
  generalize w.alloc (.cells #[.slice At nt ct, .int .i64 0] 46) = W1 at *
  have hs0 := HB0.out.size
  refine (within_any _ _ _ HT0.out).mono ?_
  rintro e w1 ⟨a, b, c, d, hsm, rfl, ht, hg⟩
  have HB1 := hid (grown_below HB0.out hg hs0 (Nat.le_refl _))
  have hs1 := HB1.out.size
  have hgA := ht.lt
  have HSM := hid hsm
  have HT2 := hid (ht.alloc (.cells #[.int .i64 a, .int .i64 b, .int .i64 c, .int .i64 d] 26))
  have HA2 := hid (Blk.new w1 26 #[.int .i64 a, .int .i64 b, .int .i64 c, .int .i64 d])
  have HB2 := hid (HB1.out.alloc hs1 (.cells #[.int .i64 a, .int .i64 b, .int .i64 c, .int .i64 d] 26))
  clear ht hg HT0 HB0 HN hsm HB1
  go_wp2_with fail
  generalize w1.alloc (.cells #[.int .i64 a, .int .i64 b, .int .i64 c, .int .i64 d] 26) = W2 at *
  generalize w1.heap.size = gA at *
  have hs2 := HB2.out.size
  have hne : some gA ≠ some w.heap.size := by intro e; injection e; omega

  refine (next_any _ _ 50 _ HT2.out (by omega) (by omega)).mono ?_
  rintro e w3 ⟨l, hl0, hl1, rfl, ht, hg⟩
  have hl2 : l ≤ 49 := by omega
  have HT3 := hid ht
  have HA3 := hid (HA2.out.grown hg hne)
  have HB3 := hid (grown_below HB2.out hg hs2 (Nat.le_refl _))
  have hs3 := HB3.out.size
  clear ht hg HT2 HA2 HB2 hl1
  go_wp2_with fail
  refine (next_any _ _ 50 _ HT3.out (by omega) (by omega)).mono ?_
  rintro e w4 ⟨u, hu0, hu1, rfl, ht, hg⟩
  have hu2 : u ≤ 49 := by omega
  have HT4 := hid ht
  have HA4 := hid (HA3.out.grown hg hne)
  have HB4 := hid (grown_below HB3.out hg hs3 (Nat.le_refl _))
  have hs4 := HB4.out.size
  clear ht hg HT3 HA3 HB3 hu1
  go_wp2_with fail
  refine (next_any _ _ 50 _ HT4.out (by omega) (by omega)).mono ?_
  rintro e w5 ⟨r, hr0, hr1, rfl, ht, hg⟩
  have hr2 : r ≤ 49 := by omega
  have HT5 := hid ht
  have HA5 := hid (HA4.out.grown hg hne)
  have HB5 := hid (grown_below HB4.out hg hs4 (Nat.le_refl _))
  have hs5 := HB5.out.size
  clear ht hg HT4 HA4 HB4 hr1
  go_wp2_with fail
  refine (next_any _ _ 50 _ HT5.out (by omega) (by omega)).mono ?_
  rintro e w6 ⟨q, hq0, hq1, rfl, ht, hg⟩
  have hq2 : q ≤ 49 := by omega
  have HT6 := hid ht
  have HA6 := hid (HA5.out.grown hg hne)
  have HB6 := hid (grown_below HB5.out hg hs5 (Nat.le_refl _))
  have hs6 := HB6.out.size
  clear ht hg HT5 HA5 HB5 hq1
  obtain ⟨b0, b1, b2, b3, c0, c1, c2, c3, f1, f2, f3, f4, f5, f6⟩ := outset_facts a b c d l u r q HSM.out ⟨hl0, hl2⟩ ⟨hu0, hu2⟩ ⟨hr0, hr2⟩ ⟨hq0, hq2⟩
  have o1 := fun w => outset_any a b c d l u r q w
  rw [f1] at o1
  have o2 := fun w => outset_any b0 b1 b2 b3 u l q r w
  rw [f2] at o2
  have o3 := fun w => outset_any a b c d (l + u) (l + u) (r + q) (r + q) w
  rw [f3] at o3
  have o4 := fun w => outset_any a b c d 0 0 0 0 w
  rw [f4] at o4
  have o5 := fun w => inside_any a b c d b0 b1 b2 b3 w
  rw [f5] at o5
  have o6 := fun w => area_any b0 b1 b2 b3 w
  rw [f6] at o6
  have O1 := hid o1
  have O2 := hid o2
  have O3 := hid o3
  have O4 := hid o4
  have O5 := hid o5
  have O6 := hid o6
  have hsm := HSM.out
  unfold Small at hsm
  simp only at hsm
  obtain ⟨y1, y2, y3, y4, y5, y6⟩ := hsm
  clear o1 o2 o3 o4 o5 o6 f1 f2 f3 f4 f5 f6 HT6
  obtain ⟨ka0, ka1, ka2, ka3, _, _, _, _⟩ := HA6.out.cells4
  go_wp2_with fail
  refine (O1.out _).mono ?_
  rintro e w7 ⟨rfl, hb⟩
  clear ka0 ka1 ka2 ka3
  have HA8 := hid ((HA6.out.after hb).alloc (.cells #[.int .i64 b0, .int .i64 b1, .int .i64 b2, .int .i64 b3] 26))
  have HK8 := hid (Blk.new w7 26 #[.int .i64 b0, .int .i64 b1, .int .i64 b2, .int .i64 b3])
  have HB8 := hid ((HB6.out.trans (hb.mono HB6.out.size)).alloc (by have := hb.size; omega) (.cells #[.int .i64 b0, .int .i64 b1, .int .i64 b2, .int .i64 b3] 26))
  clear hb HA6 HB6
  go_wp2_with fail
  generalize w7.alloc (.cells #[.int .i64 b0, .int .i64 b1, .int .i64 b2, .int .i64 b3] 26) = W8 at *
  generalize w7.heap.size = gB at *
  have hs8 := HB8.out.size
  obtain ⟨ka0, ka1, ka2, ka3, _, _, _, _⟩ := HA8.out.cells4
  obtain ⟨kb0, kb1, kb2, kb3, _, _, _, _⟩ := HK8.out.cells4
  go_wp2_with fail
  refine (O2.out _).mono ?_
  rintro e w9 ⟨rfl, hb⟩
  clear ka0 ka1 ka2 ka3 kb0 kb1 kb2 kb3
  have HA9 := hid ((HA8.out.after hb).alloc (.cells #[.int .i64 c0, .int .i64 c1, .int .i64 c2, .int .i64 c3] 26))
  have HK9 := hid ((HK8.out.after hb).alloc (.cells #[.int .i64 c0, .int .i64 c1, .int .i64 c2, .int .i64 c3] 26))
  have HM9 := hid (Blk.new w9 26 #[.int .i64 c0, .int .i64 c1, .int .i64 c2, .int .i64 c3])
  have HB9 := hid ((HB8.out.trans (hb.mono HB8.out.size)).alloc (by have := hb.size; omega) (.cells #[.int .i64 c0, .int .i64 c1, .int .i64 c2, .int .i64 c3] 26))
  clear hb HA8 HK8 HB8
  go_upto_region 6 with fail
  generalize w9.alloc (.cells #[.int .i64 c0, .int .i64 c1, .int .i64 c2, .int .i64 c3] 26) = W9 at *
  generalize w9.heap.size = gC at *
  have hs9 := HB9.out.size
  have hkeep : ∀ V V' : World, (Blk V gA 26 #[.int .i64 a, .int .i64 b, .int .i64 c, .int .i64 d] ∧ Blk V gB 26 #[.int .i64 b0, .int .i64 b1, .int .i64 b2, .int .i64 b3] ∧ Blk V gC 26 #[.int .i64 c0, .int .i64 c1, .int .i64 c2, .int .i64 c3] ∧ Below w.heap.size w V) → Below V.heap.size V V' → Hid (Blk V' gA 26 #[.int .i64 a, .int .i64 b, .int .i64 c, .int .i64 d] ∧ Blk V' gB 26 #[.int .i64 b0, .int .i64 b1, .int .i64 b2, .int .i64 b3] ∧ Blk V' gC 26 #[.int .i64 c0, .int .i64 c1, .int .i64 c2, .int .i64 c3] ∧ Below w.heap.size w V') ∧ V'.cell? ⟨gA, 0, none⟩ = some (.int .i64 a) ∧ V'.cell? ⟨gA, 1, none⟩ = some (.int .i64 b) ∧ V'.cell? ⟨gA, 2, none⟩ = some (.int .i64 c) ∧ V'.cell? ⟨gA, 3, none⟩ = some (.int .i64 d) ∧ V'.cell? ⟨gB, 0, none⟩ = some (.int .i64 b0) ∧ V'.cell? ⟨gB, 1, none⟩ = some (.int .i64 b1) ∧ V'.cell? ⟨gB, 2, none⟩ = some (.int .i64 b2) ∧ V'.cell? ⟨gB, 3, none⟩ = some (.int .i64 b3) ∧ V'.cell? ⟨gC, 0, none⟩ = some (.int .i64 c0) ∧ V'.cell? ⟨gC, 1, none⟩ = some (.int .i64 c1) ∧ V'.cell? ⟨gC, 2, none⟩ = some (.int .i64 c2) ∧ V'.cell? ⟨gC, 3, none⟩ = some (.int .i64 c3) := by
    intro V V' hv hb
    obtain ⟨t1, t2, t3, t4⟩ := hv
    have s1 := t1.after hb
    have s2 := t2.after hb
    have s3 := t3.after hb
    obtain ⟨m0, m1, m2, m3, _, _, _, _⟩ := s1.cells4
    obtain ⟨n0, n1, n2, n3, _, _, _, _⟩ := s2.cells4
    obtain ⟨p0, p1, p2, p3, _, _, _, _⟩ := s3.cells4
    exact ⟨⟨s1, s2, s3, t4.trans (hb.mono t4.size)⟩, m0, m1, m2, m3, n0, n1, n2, n3, p0, p1, p2, p3⟩
  have HK := hid hkeep
  have H0 : Hid (Blk W9.drew gA 26 #[.int .i64 a, .int .i64 b, .int .i64 c, .int .i64 d] ∧ Blk W9.drew gB 26 #[.int .i64 b0, .int .i64 b1, .int .i64 b2, .int .i64 b3] ∧ Blk W9.drew gC 26 #[.int .i64 c0, .int .i64 c1, .int .i64 c2, .int .i64 c3] ∧ Below w.heap.size w W9.drew) := ⟨HA9.out, HK9.out, HM9.out, HB9.out.drew⟩
  obtain ⟨s0_0, s0_1, s0_2, s0_3, _, _, _, _⟩ := HA9.out.cells4
  obtain ⟨s0_4, s0_5, s0_6, s0_7, _, _, _, _⟩ := HK9.out.cells4
  obtain ⟨s0_8, s0_9, s0_10, s0_11, _, _, _, _⟩ := HM9.out.cells4
  clear hkeep HA9 HK9 HM9 HB9
  have x1 : IntKind.i64.wrap (c - a) = c - a := IntWalk.i64_in _ (by omega)
  have x2 : IntKind.i64.wrap (c - a + l) = c - a + l := IntWalk.i64_in _ (by omega)
  have x3 : IntKind.i64.wrap (c - a + l + r) = c - a + l + r := IntWalk.i64_in _ (by omega)
  have x4 : IntKind.i64.wrap (d - b) = d - b := IntWalk.i64_in _ (by omega)
  have x5 : IntKind.i64.wrap (d - b + u) = d - b + u := IntWalk.i64_in _ (by omega)
  have x6 : IntKind.i64.wrap (d - b + u + q) = d - b + u + q := IntWalk.i64_in _ (by omega)
  have xm := mul_bd (x := c - a + l + r) (y := d - b + u + q) (m := 200) (n := 200) (by omega) (by omega) (by omega) (by omega)
  have x7 : IntKind.i64.wrap ((c - a + l + r) * (d - b + u + q)) = (c - a + l + r) * (d - b + u + q) := IntWalk.i64_in _ (by omega)
  have x8 : IntKind.i64.wrap (l + u) = l + u := IntWalk.i64_in _ (by omega)
  have x9 : IntKind.i64.wrap (r + q) = r + q := IntWalk.i64_in _ (by omega)
  clear xm
  have hq1 := fun w => eql_rect c0 c1 c2 c3 c0 c1 c2 c3 w
  have hq3 := fun w => eql_rect a b c d a b c d w
  go_region_held3 (fun w' => w'.cell? ⟨gA, 0, none⟩ = some (.int .i64 a) ∧ w'.cell? ⟨gA, 1, none⟩ = some (.int .i64 b) ∧ w'.cell? ⟨gA, 2, none⟩ = some (.int .i64 c) ∧ w'.cell? ⟨gA, 3, none⟩ = some (.int .i64 d) ∧ w'.cell? ⟨gB, 0, none⟩ = some (.int .i64 b0) ∧ w'.cell? ⟨gB, 1, none⟩ = some (.int .i64 b1) ∧ w'.cell? ⟨gB, 2, none⟩ = some (.int .i64 b2) ∧ w'.cell? ⟨gB, 3, none⟩ = some (.int .i64 b3) ∧ w'.cell? ⟨gC, 0, none⟩ = some (.int .i64 c0) ∧ w'.cell? ⟨gC, 1, none⟩ = some (.int .i64 c1) ∧ w'.cell? ⟨gC, 2, none⟩ = some (.int .i64 c2) ∧ w'.cell? ⟨gC, 3, none⟩ = some (.int .i64 c3)) (first | exact ⟨s0_0, s0_1, s0_2, s0_3, s0_4, s0_5, s0_6, s0_7, s0_8, s0_9, s0_10, s0_11⟩ | exact ⟨s1_0, s1_1, s1_2, s1_3, s1_4, s1_5, s1_6, s1_7, s1_8, s1_9, s1_10, s1_11⟩ | exact ⟨s2_0, s2_1, s2_2, s2_3, s2_4, s2_5, s2_6, s2_7, s2_8, s2_9, s2_10, s2_11⟩ | exact ⟨s3_0, s3_1, s3_2, s3_3, s3_4, s3_5, s3_6, s3_7, s3_8, s3_9, s3_10, s3_11⟩ | exact ⟨s4_0, s4_1, s4_2, s4_3, s4_4, s4_5, s4_6, s4_7, s4_8, s4_9, s4_10, s4_11⟩ | exact ⟨s5_0, s5_1, s5_2, s5_3, s5_4, s5_5, s5_6, s5_7, s5_8, s5_9, s5_10, s5_11⟩) ((first | (go_at_call 14; (with_reducible refine (O5.out _).mono ?_); rintro e v1 ⟨rfl, hb⟩; have h1 := HK.out _ _ H0.out hb; obtain ⟨H1, s1_0, s1_1, s1_2, s1_3, s1_4, s1_5, s1_6, s1_7, s1_8, s1_9, s1_10, s1_11⟩ := h1) | (go_at_call 12; (with_reducible refine (O6.out _).mono ?_); rintro e v2 ⟨rfl, hb⟩; have h2 := HK.out _ _ H1.out hb; obtain ⟨H2, s2_0, s2_1, s2_2, s2_3, s2_4, s2_5, s2_6, s2_7, s2_8, s2_9, s2_10, s2_11⟩ := h2) | (go_at_call 20; (with_reducible refine (O3.out _).mono ?_); rintro e v3 ⟨rfl, hb⟩; have h3 := HK.out _ _ H2.out hb; obtain ⟨H3, s3_0, s3_1, s3_2, s3_3, s3_4, s3_5, s3_6, s3_7, s3_8, s3_9, s3_10, s3_11⟩ := h3) | (go_at_call 20; (with_reducible refine (O4.out _).mono ?_); rintro e v4 ⟨rfl, hb⟩; have h4 := HK.out _ _ H3.out hb; obtain ⟨H4, s4_0, s4_1, s4_2, s4_3, s4_4, s4_5, s4_6, s4_7, s4_8, s4_9, s4_10, s4_11⟩ := h4) | (go_at_call 10; (with_reducible refine (sane_any _).mono ?_); rintro e v5 ⟨rfl, hb⟩; have h5 := HK.out _ _ H4.out hb; obtain ⟨H5, s5_0, s5_1, s5_2, s5_3, s5_4, s5_5, s5_6, s5_7, s5_8, s5_9, s5_10, s5_11⟩ := h5)))
  go_wp2
  go_ret
  exact ⟨rfl, H5.out.2.2.2⟩
end Go.Proofs.Ytphleapmgkcpoaa
