/-
  The law RectComputes: agrees.
-/
import Derived.Test.YtphleapmgkcpoaaRectOutsetLaw
namespace Go.Proofs.Ytphleapmgkcpoaa
open Go.RowKit
set_option linter.unusedVariables false

theorem rects_later {w w' : World} {A : Option Addr} {n : Nat} {rs : List Rc} (h : RectsAt w w.heap.size A n rs) (hb : Below w.heap.size w w') : RectsAt w' w'.heap.size A n rs := by
  refine ⟨h.1, fun hn => ?_⟩
  obtain ⟨g, rfl, hg, hc⟩ := (h.below hb (Nat.le_refl _)).2 hn
  exact ⟨g, rfl, Nat.lt_of_lt_of_le hg hb.size, hc⟩
set_option maxRecDepth 100000 in
set_option maxHeartbeats 8000000 in
theorem agrees_any (a b c d a2 b2 c2 d2 x y l t q u : Int) (w : World) (x1 : -9223372036854775808 ≤ a) (x2 : a ≤ 9223372036854775807) (x3 : -9223372036854775808 ≤ b) (x4 : b ≤ 9223372036854775807) (x5 : -9223372036854775808 ≤ c) (x6 : c ≤ 9223372036854775807) (x7 : -9223372036854775808 ≤ d) (x8 : d ≤ 9223372036854775807) :
    Calls Try.prog 21 #[.agg #[.int .i64 a, .int .i64 b, .int .i64 c, .int .i64 d], .agg #[.int .i64 a2, .int .i64 b2, .int .i64 c2, .int .i64 d2], .int .i64 x, .int .i64 y, .int .i64 l, .int .i64 t, .int .i64 q, .int .i64 u] w fun e w' => e = .returned (.bool true) ∧ Below w.heap.size w w' := by
  have HAW := hid ((Blk.new w 26 #[.int .i64 a, .int .i64 b, .int .i64 c, .int .i64 d]).alloc (.cells #[.int .i64 a2, .int .i64 b2, .int .i64 c2, .int .i64 d2] 26))
  have HBW : Hid (Blk ((w.alloc (.cells #[.int .i64 a, .int .i64 b, .int .i64 c, .int .i64 d] 26)).alloc (.cells #[.int .i64 a2, .int .i64 b2, .int .i64 c2, .int .i64 d2] 26)) (w.heap.size + 1) 26 #[.int .i64 a2, .int .i64 b2, .int .i64 c2, .int .i64 d2]) := blk1 w _ _
  have HWW : Hid (Below w.heap.size w ((w.alloc (.cells #[.int .i64 a, .int .i64 b, .int .i64 c, .int .i64 d] 26)).alloc (.cells #[.int .i64 a2, .int .i64 b2, .int .i64 c2, .int .i64 d2] 26))) := ((Below.refl _ _).alloc (Nat.le_refl _) _).alloc (by simp <;> omega) _
  go_enter Try.func21, Try.ntmps21
  go_upto_region 1 with fail
  generalize (w.alloc (.cells #[.int .i64 a, .int .i64 b, .int .i64 c, .int .i64 d] 26)).alloc (.cells #[.int .i64 a2, .int .i64 b2, .int .i64 c2, .int .i64 d2] 26) = W at *
  obtain ⟨ka0, ka1, ka2, ka3, _, _, _, _⟩ := HAW.out.cells4
  obtain ⟨kb0, kb1, kb2, kb3, _, _, _, _⟩ := HBW.out.cells4
  have hkeep : ∀ V V' : World, (Blk V w.heap.size 26 #[.int .i64 a, .int .i64 b, .int .i64 c, .int .i64 d] ∧ Blk V (w.heap.size + 1) 26 #[.int .i64 a2, .int .i64 b2, .int .i64 c2, .int .i64 d2] ∧ Below w.heap.size w V) → Below V.heap.size V V' → Hid (Blk V' w.heap.size 26 #[.int .i64 a, .int .i64 b, .int .i64 c, .int .i64 d] ∧ Blk V' (w.heap.size + 1) 26 #[.int .i64 a2, .int .i64 b2, .int .i64 c2, .int .i64 d2] ∧ Below w.heap.size w V') ∧ V'.cell? ⟨w.heap.size, 0, none⟩ = some (.int .i64 a) ∧ V'.cell? ⟨w.heap.size, 1, none⟩ = some (.int .i64 b) ∧ V'.cell? ⟨w.heap.size, 2, none⟩ = some (.int .i64 c) ∧ V'.cell? ⟨w.heap.size, 3, none⟩ = some (.int .i64 d) ∧ V'.cell? ⟨w.heap.size + 1, 0, none⟩ = some (.int .i64 a2) ∧ V'.cell? ⟨w.heap.size + 1, 1, none⟩ = some (.int .i64 b2) ∧ V'.cell? ⟨w.heap.size + 1, 2, none⟩ = some (.int .i64 c2) ∧ V'.cell? ⟨w.heap.size + 1, 3, none⟩ = some (.int .i64 d2) := by
    intro V V' hv hb
    obtain ⟨t1, t2, t4⟩ := hv
    have s1 := t1.after hb
    have s2 := t2.after hb
    obtain ⟨m0, m1, m2, m3, _, _, _, _⟩ := s1.cells4
    obtain ⟨n0, n1, n2, n3, _, _, _, _⟩ := s2.cells4
    exact ⟨⟨s1, s2, t4.trans (hb.mono t4.size)⟩, m0, m1, m2, m3, n0, n1, n2, n3⟩
  have HK := hid hkeep
  have H0 : Hid (Blk W.drew w.heap.size 26 #[.int .i64 a, .int .i64 b, .int .i64 c, .int .i64 d] ∧ Blk W.drew (w.heap.size + 1) 26 #[.int .i64 a2, .int .i64 b2, .int .i64 c2, .int .i64 d2] ∧ Below w.heap.size w W.drew) := ⟨HAW.out, HBW.out, HWW.out.drew⟩
  clear hkeep HAW HBW HWW
  go_cut [17, 18] (fun s17 s18 wx => ∃ (A1 : Option Addr) (n1 k1 : Nat) (A3 : Option Addr) (n2 k2 : Nat), s17 = .slice A1 n1 k1 ∧ s18 = .slice A3 n2 k2 ∧ n1 ≤ 4 ∧ RectsAt wx wx.heap.size A1 n1 (subS ⟨a, b, c, d⟩ ⟨a2, b2, c2, d2⟩) ∧ RectsAt wx wx.heap.size A3 n2 (subS ⟨a, b, c, d⟩ ⟨a2, b2, c2, d2⟩) ∧ (Blk wx w.heap.size 26 #[.int .i64 a, .int .i64 b, .int .i64 c, .int .i64 d] ∧ Blk wx (w.heap.size + 1) 26 #[.int .i64 a2, .int .i64 b2, .int .i64 c2, .int .i64 d2] ∧ Below w.heap.size w wx))
  case first =>
    go_region_held3 (fun w' => w'.cell? ⟨w.heap.size, 0, none⟩ = some (.int .i64 a) ∧ w'.cell? ⟨w.heap.size, 1, none⟩ = some (.int .i64 b) ∧ w'.cell? ⟨w.heap.size, 2, none⟩ = some (.int .i64 c) ∧ w'.cell? ⟨w.heap.size, 3, none⟩ = some (.int .i64 d) ∧ w'.cell? ⟨w.heap.size + 1, 0, none⟩ = some (.int .i64 a2) ∧ w'.cell? ⟨w.heap.size + 1, 1, none⟩ = some (.int .i64 b2) ∧ w'.cell? ⟨w.heap.size + 1, 2, none⟩ = some (.int .i64 c2) ∧ w'.cell? ⟨w.heap.size + 1, 3, none⟩ = some (.int .i64 d2)) (first | exact ⟨ka0, ka1, ka2, ka3, kb0, kb1, kb2, kb3⟩ | exact ⟨m0, m1, m2, m3, m4, m5, m6, m7⟩ | exact ⟨n0, n1, n2, n3, n4, n5, n6, n7⟩) ((first | (go_at_call 11; refine (sub_any a b c d a2 b2 c2 d2 _).mono ?_; rintro e wn ⟨A1, N1, K1, rfl, hn1, hr1, hb1⟩; have h2 := HK.out _ _ H0.out hb1; obtain ⟨H2, m0, m1, m2, m3, m4, m5, m6, m7⟩ := h2; have HR1 := hid hr1; clear hr1 hb1) | (go_at_call 26; refine (rsub_any a b c d a2 b2 c2 d2 _).mono ?_; rintro e wm ⟨A3, N2, K2, rfl, hn2, hr2, hb2⟩; have h3 := HK.out _ _ H2.out hb2; obtain ⟨H3, n0, n1, n2, n3, n4, n5, n6, n7⟩ := h3; have HR3 : Hid (RectsAt wm wm.heap.size A1 N1 (subS ⟨a, b, c, d⟩ ⟨a2, b2, c2, d2⟩)) := rects_later HR1.out hb2; have HR2 := hid hr2; clear hr2 hb2)))
    all_goals (go_wp2; go_meet; exact ⟨A1, N1, K1, A3, N2, K2, rfl, rfl, hn1, HR3.out, HR2.out, H3.out⟩)
  case rest =>
    obtain ⟨A1, n, K1, A3, n2, K2, rfl, rfl, hn4, hr1, hr2, hA, hB, hW⟩ := hcut
    have hnn : n2 = n := by have h1 := hr1.1; have h2 := hr2.1; omega
    subst hnn
    clear ka0 ka1 ka2 ka3 kb0 kb1 kb2 kb3 H0
    generalize hrs : subS ⟨a, b, c, d⟩ ⟨a2, b2, c2, d2⟩ = rs at *
    have HR1 := hid hr1
    have HR2 := hid hr2
    have HLEN := hid hr1.1
    have HAv0 := hid hA
    have HBv0 := hid hB
    have HWv0 := hid hW
    clear hr1 hr2 hA hB hW hrs
    go_wp2
    go_loopw [19] (fun i wr => ∃ k m : Nat, k ≤ n2 ∧ i = .int .i64 k ∧ wr = wc.drewN m) (fun i _ => n2 - (intOf i).toNat)
    case atStart => exact ⟨0, 0, by omega, rfl, rfl⟩
    case round =>
      obtain ⟨k, m, hk, rfl, rfl⟩ := hrel
      by_cases hlt : k < n2
      · obtain ⟨g1, hA1, hg1, hcc1⟩ := HR1.out.2 (by omega)
        obtain ⟨g2, hA2, hg2, hcc2⟩ := HR2.out.2 (by omega)
        have hg3 : rs[k]? = some (rs[k]'(by have := HLEN.out; omega)) := List.getElem?_eq_getElem _
        obtain ⟨q0, q1, q2, q3⟩ := hcc1 k _ hg3
        obtain ⟨p0, p1, p2, p3⟩ := hcc2 k _ hg3
        generalize rs[k]'(by have := HLEN.out; omega) = r at *
        have hnq := fun w => neq_rect r.x0 r.y0 r.x1 r.y1 r.x0 r.y0 r.x1 r.y1 w
        have hkI : (k : Int) < (n2 : Int) := by omega
        subst hA1
        subst hA2
        clear hcc1 hcc2 hg3
        go_wp2
        go_quiet (fail)
        go_wp2
        go_roundw
        case rel => exact ⟨k + 1, _, by omega, by go_num, rfl⟩
        case measure => simp [intOf] <;> omega
      · have HAd : Hid (Blk (wc.drewN m) w.heap.size 26 #[.int .i64 a, .int .i64 b, .int .i64 c, .int .i64 d]) := HAv0.out
        have HBd : Hid (Blk (wc.drewN m) (w.heap.size + 1) 26 #[.int .i64 a2, .int .i64 b2, .int .i64 c2, .int .i64 d2]) := HBv0.out
        have HWd : Hid (Below w.heap.size w (wc.drewN m)) := below_drewN' HWv0.out m
        clear HAv0 HBv0 HWv0 HR1 HR2 HLEN
        generalize wc.drewN m = V at *
        have HAv0 := HAd
        have HBv0 := HBd
        have HWv0 := HWd
        clear HAd HBd HWd
        obtain ⟨r0_0, r0_1, r0_2, r0_3, _, _, _, _⟩ := HAv0.out.cells4
        obtain ⟨r0_4, r0_5, r0_6, r0_7, _, _, _, _⟩ := HBv0.out.cells4
        have H0 : Hid (Blk V.drew w.heap.size 26 #[.int .i64 a, .int .i64 b, .int .i64 c, .int .i64 d] ∧ Blk V.drew (w.heap.size + 1) 26 #[.int .i64 a2, .int .i64 b2, .int .i64 c2, .int .i64 d2] ∧ Below w.heap.size w V.drew) := ⟨HAv0.out, HBv0.out, HWv0.out.drew⟩
        have hq1 := fun w => eql_rect (interS ⟨a, b, c, d⟩ ⟨a2, b2, c2, d2⟩).x0 (interS ⟨a, b, c, d⟩ ⟨a2, b2, c2, d2⟩).y0 (interS ⟨a, b, c, d⟩ ⟨a2, b2, c2, d2⟩).x1 (interS ⟨a, b, c, d⟩ ⟨a2, b2, c2, d2⟩).y1 (interS ⟨a, b, c, d⟩ ⟨a2, b2, c2, d2⟩).x0 (interS ⟨a, b, c, d⟩ ⟨a2, b2, c2, d2⟩).y0 (interS ⟨a, b, c, d⟩ ⟨a2, b2, c2, d2⟩).x1 (interS ⟨a, b, c, d⟩ ⟨a2, b2, c2, d2⟩).y1 w
        have hq2 := fun w => eql_rect (hullS ⟨a, b, c, d⟩ ⟨a2, b2, c2, d2⟩).x0 (hullS ⟨a, b, c, d⟩ ⟨a2, b2, c2, d2⟩).y0 (hullS ⟨a, b, c, d⟩ ⟨a2, b2, c2, d2⟩).x1 (hullS ⟨a, b, c, d⟩ ⟨a2, b2, c2, d2⟩).y1 (hullS ⟨a, b, c, d⟩ ⟨a2, b2, c2, d2⟩).x0 (hullS ⟨a, b, c, d⟩ ⟨a2, b2, c2, d2⟩).y0 (hullS ⟨a, b, c, d⟩ ⟨a2, b2, c2, d2⟩).x1 (hullS ⟨a, b, c, d⟩ ⟨a2, b2, c2, d2⟩).y1 w
        have hq3 := fun w => eql_rect (outsetS ⟨a, b, c, d⟩ l t q u).x0 (outsetS ⟨a, b, c, d⟩ l t q u).y0 (outsetS ⟨a, b, c, d⟩ l t q u).x1 (outsetS ⟨a, b, c, d⟩ l t q u).y1 (outsetS ⟨a, b, c, d⟩ l t q u).x0 (outsetS ⟨a, b, c, d⟩ l t q u).y0 (outsetS ⟨a, b, c, d⟩ l t q u).x1 (outsetS ⟨a, b, c, d⟩ l t q u).y1 w
        clear HAv0 HBv0 HWv0
        go_upto_region 9 with fail
        dsimp only [List.append]
        go_region_held3 (fun w' => w'.cell? ⟨w.heap.size, 0, none⟩ = some (.int .i64 a) ∧ w'.cell? ⟨w.heap.size, 1, none⟩ = some (.int .i64 b) ∧ w'.cell? ⟨w.heap.size, 2, none⟩ = some (.int .i64 c) ∧ w'.cell? ⟨w.heap.size, 3, none⟩ = some (.int .i64 d) ∧ w'.cell? ⟨w.heap.size + 1, 0, none⟩ = some (.int .i64 a2) ∧ w'.cell? ⟨w.heap.size + 1, 1, none⟩ = some (.int .i64 b2) ∧ w'.cell? ⟨w.heap.size + 1, 2, none⟩ = some (.int .i64 c2) ∧ w'.cell? ⟨w.heap.size + 1, 3, none⟩ = some (.int .i64 d2)) (first | exact ⟨r0_0, r0_1, r0_2, r0_3, r0_4, r0_5, r0_6, r0_7⟩ | exact ⟨r1_0, r1_1, r1_2, r1_3, r1_4, r1_5, r1_6, r1_7⟩ | exact ⟨r2_0, r2_1, r2_2, r2_3, r2_4, r2_5, r2_6, r2_7⟩ | exact ⟨r3_0, r3_1, r3_2, r3_3, r3_4, r3_5, r3_6, r3_7⟩ | exact ⟨r4_0, r4_1, r4_2, r4_3, r4_4, r4_5, r4_6, r4_7⟩ | exact ⟨r5_0, r5_1, r5_2, r5_3, r5_4, r5_5, r5_6, r5_7⟩ | exact ⟨r6_0, r6_1, r6_2, r6_3, r6_4, r6_5, r6_6, r6_7⟩ | exact ⟨r7_0, r7_1, r7_2, r7_3, r7_4, r7_5, r7_6, r7_7⟩ | exact ⟨r8_0, r8_1, r8_2, r8_3, r8_4, r8_5, r8_6, r8_7⟩ | exact ⟨r9_0, r9_1, r9_2, r9_3, r9_4, r9_5, r9_6, r9_7⟩ | exact ⟨r10_0, r10_1, r10_2, r10_3, r10_4, r10_5, r10_6, r10_7⟩ | exact ⟨r11_0, r11_1, r11_2, r11_3, r11_4, r11_5, r11_6, r11_7⟩ | exact ⟨r12_0, r12_1, r12_2, r12_3, r12_4, r12_5, r12_6, r12_7⟩ | exact ⟨r13_0, r13_1, r13_2, r13_3, r13_4, r13_5, r13_6, r13_7⟩ | exact ⟨r14_0, r14_1, r14_2, r14_3, r14_4, r14_5, r14_6, r14_7⟩ | exact ⟨r15_0, r15_1, r15_2, r15_3, r15_4, r15_5, r15_6, r15_7⟩ | exact ⟨r16_0, r16_1, r16_2, r16_3, r16_4, r16_5, r16_6, r16_7⟩) ((first | (go_at_call 24; (with_reducible refine (valid_any a b c d _).mono ?_); rintro e v1 ⟨rfl, hb⟩; have h1 := HK.out _ _ H0.out hb; obtain ⟨H1, r1_0, r1_1, r1_2, r1_3, r1_4, r1_5, r1_6, r1_7⟩ := h1; clear hb) | (go_at_call 9; (with_reducible refine (rvalid_any a b c d _).mono ?_); rintro e v2 ⟨rfl, hb⟩; have h2 := HK.out _ _ H1.out hb; obtain ⟨H2, r2_0, r2_1, r2_2, r2_3, r2_4, r2_5, r2_6, r2_7⟩ := h2; clear hb) | (go_at_call 25; (with_reducible refine (empty_any a b c d _).mono ?_); rintro e v3 ⟨rfl, hb⟩; have h3 := HK.out _ _ H2.out hb; obtain ⟨H3, r3_0, r3_1, r3_2, r3_3, r3_4, r3_5, r3_6, r3_7⟩ := h3; clear hb) | (go_at_call 27; (with_reducible refine (rempty_any a b c d _).mono ?_); rintro e v4 ⟨rfl, hb⟩; have h4 := HK.out _ _ H3.out hb; obtain ⟨H4, r4_0, r4_1, r4_2, r4_3, r4_4, r4_5, r4_6, r4_7⟩ := h4; clear hb) | (go_at_call 12; (with_reducible refine (area_any a b c d _).mono ?_); rintro e v5 ⟨rfl, hb⟩; have h5 := HK.out _ _ H4.out hb; obtain ⟨H5, r5_0, r5_1, r5_2, r5_3, r5_4, r5_5, r5_6, r5_7⟩ := h5; clear hb) | (go_at_call 28; (with_reducible refine (rarea_any a b c d _).mono ?_); rintro e v6 ⟨rfl, hb⟩; have h6 := HK.out _ _ H5.out hb; obtain ⟨H6, r6_0, r6_1, r6_2, r6_3, r6_4, r6_5, r6_6, r6_7⟩ := h6; clear hb) | (go_at_call 16; (with_reducible refine (contains_any a b c d x y _).mono ?_); rintro e v7 ⟨rfl, hb⟩; have h7 := HK.out _ _ H6.out hb; obtain ⟨H7, r7_0, r7_1, r7_2, r7_3, r7_4, r7_5, r7_6, r7_7⟩ := h7; clear hb) | (go_at_call 29; (with_reducible refine (rcontains_any a b c d x y _).mono ?_); rintro e v8 ⟨rfl, hb⟩; have h8 := HK.out _ _ H7.out hb; obtain ⟨H8, r8_0, r8_1, r8_2, r8_3, r8_4, r8_5, r8_6, r8_7⟩ := h8; clear hb) | (go_at_call 14; (with_reducible refine (inside_any a b c d a2 b2 c2 d2 _).mono ?_); rintro e v9 ⟨rfl, hb⟩; have h9 := HK.out _ _ H8.out hb; obtain ⟨H9, r9_0, r9_1, r9_2, r9_3, r9_4, r9_5, r9_6, r9_7⟩ := h9; clear hb) | (go_at_call 30; (with_reducible refine (rinside_any a b c d a2 b2 c2 d2 _).mono ?_); rintro e v10 ⟨rfl, hb⟩; have h10 := HK.out _ _ H9.out hb; obtain ⟨H10, r10_0, r10_1, r10_2, r10_3, r10_4, r10_5, r10_6, r10_7⟩ := h10; clear hb) | (go_at_call 13; (with_reducible refine (inter_any a b c d a2 b2 c2 d2 _).mono ?_); rintro e v11 ⟨rfl, hb⟩; have h11 := HK.out _ _ H10.out hb; obtain ⟨H11, r11_0, r11_1, r11_2, r11_3, r11_4, r11_5, r11_6, r11_7⟩ := h11; clear hb) | (go_at_call 31; (with_reducible refine (rinter_any a b c d a2 b2 c2 d2 _).mono ?_); rintro e v12 ⟨rfl, hb⟩; have h12 := HK.out _ _ H11.out hb; obtain ⟨H12, r12_0, r12_1, r12_2, r12_3, r12_4, r12_5, r12_6, r12_7⟩ := h12; clear hb) | (go_at_call 17; (with_reducible refine (hull_any a b c d a2 b2 c2 d2 _).mono ?_); rintro e v13 ⟨rfl, hb⟩; have h13 := HK.out _ _ H12.out hb; obtain ⟨H13, r13_0, r13_1, r13_2, r13_3, r13_4, r13_5, r13_6, r13_7⟩ := h13; clear hb) | (go_at_call 32; (with_reducible refine (rhull_any a b c d a2 b2 c2 d2 _).mono ?_); rintro e v14 ⟨rfl, hb⟩; have h14 := HK.out _ _ H13.out hb; obtain ⟨H14, r14_0, r14_1, r14_2, r14_3, r14_4, r14_5, r14_6, r14_7⟩ := h14; clear hb) | (go_at_call 20; (with_reducible refine (outset_any a b c d l t q u _).mono ?_); rintro e v15 ⟨rfl, hb⟩; have h15 := HK.out _ _ H14.out hb; obtain ⟨H15, r15_0, r15_1, r15_2, r15_3, r15_4, r15_5, r15_6, r15_7⟩ := h15; clear hb) | (go_at_call 33; (with_reducible refine (routset_any a b c d l t q u _ x1 x2 x3 x4 x5 x6 x7 x8).mono ?_); rintro e v16 ⟨rfl, hb⟩; have h16 := HK.out _ _ H15.out hb; obtain ⟨H16, r16_0, r16_1, r16_2, r16_3, r16_4, r16_5, r16_6, r16_7⟩ := h16; clear hb)))
        go_wp2
        go_ret
        exact ⟨rfl, H16.out.2.2⟩
end Go.Proofs.Ytphleapmgkcpoaa
