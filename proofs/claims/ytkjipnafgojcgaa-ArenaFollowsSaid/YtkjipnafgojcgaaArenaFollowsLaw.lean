/-
  The law ArenaFollows: plain law and walk.
-/
import Derived.Test.YtkjipnafgojcgaaArenaTwo
import Derived.Deep.DeepCutAuto
namespace Go.Proofs.Ytkjipnafgojcgaa
open Go.RowKit
set_option linter.unusedVariables false

theorem ints_two {w : World} {B : Nat} {A : Option Addr} {n : Nat} {xs : List Int} (h : IntsAt w B A n xs) {k p : Nat} (hk : k < n) (hp : p < n) :
    ∃ (b off : Nat) (x y : Int), A = some ⟨b, off, none⟩ ∧ w.cell? ⟨b, off + k, none⟩ = some (.int .i64 x) ∧ w.cell? ⟨b, off + p, none⟩ = some (.int .i64 y) ∧ (-9223372036854775808 ≤ x ∧ x ≤ 9223372036854775807) ∧ (-9223372036854775808 ≤ y ∧ y ≤ 9223372036854775807) := by
  obtain ⟨hl, hb, hc⟩ := h
  obtain ⟨b, off, e, _, hc⟩ := hc (by omega)
  have x1 : xs[k]? = some (xs[k]'(by omega)) := List.getElem?_eq_getElem _
  have x2 : xs[p]? = some (xs[p]'(by omega)) := List.getElem?_eq_getElem _
  exact ⟨b, off, _, _, e, hc k _ x1, hc p _ x2, hb _ (List.mem_of_getElem? x1), hb _ (List.mem_of_getElem? x2)⟩
theorem left_any (B g : Nat) (w : World) (h : TapeAt B g w) :
    Calls Try.prog 19 #[.pointer (some ⟨g, 0, none⟩)] w fun e w' => ∃ (b : Bool) (j : Nat), e = .returned (.bool b) ∧ w.drewN j = w' := by
  obtain ⟨hB, A, n, c, xs, k, hb, hk, hn, hi⟩ := h
  have HB := hid hb
  have k0 : w.cell? ⟨g, 0, none⟩ = some (.slice A n c) := hb.cell 0
  have k1 : w.cell? ⟨g, 1, none⟩ = some (.int .i64 (k : Int)) := hb.cell 1
  clear hb hi
  by_cases hlt : k < n
  · have hI : (k : Int) < (n : Int) := by omega
    go_enter Try.func19, Try.ntmps19
    go_wp2
    go_quiet (fail)
    go_wp2
    go_ret
    exact ⟨true, _, rfl, rfl⟩
  · have hI : ¬ (k : Int) < (n : Int) := by omega
    go_enter Try.func19, Try.ntmps19
    go_wp2
    go_quiet (fail)
    go_wp2
    go_ret
    exact ⟨false, _, rfl, rfl⟩

set_option maxRecDepth 100000 in
set_option maxHeartbeats 8000000 in
theorem follows_walk (At : Option Addr) (nt ct : Nat) (ts : List Int) {w : World} (hts : IntsAt w w.heap.size At nt ts) (hnt : nt ≤ 9223372036854775807) (a : Int) (a1 : -9223372036854775808 ≤ a) (a2 : a ≤ 9223372036854775807) (Al : Option Addr) (nl cl : Nat) (ls : List Int) (hls : IntsAt w w.heap.size Al nl ls) (hnl : nl ≤ 9223372036854775807) :
    Calls Try.prog 4 #[.slice At nt ct, .int .i64 a, .slice Al nl cl] w fun e w' => e = .returned (.bool true) ∧ Below w.heap.size w w' := by
  have HN := hid (new_any At nt ct w)
  have ht0 : TapeAt w.heap.size w.heap.size (w.alloc (.cells #[.slice At nt ct, .int .i64 0] 44)) :=
    ⟨Nat.le_refl _, At, nt, ct, ts, 0, Blk.new w _ _, by omega, hnt, hts.below ((Below.refl _ _).alloc (Nat.le_refl _) _) (Nat.le_refl _)⟩
  have H0 : Hid (Two w.heap.size (some w.heap.size) w (w.alloc (.cells #[.slice At nt ct, .int .i64 0] 44)) (.pointer none) (.pointer none) none none) := Two.nil (fun g hg => by injection hg with hg; subst hg; exact ht0) ((Below.refl _ _).alloc (Nat.le_refl _) _) (Nat.le_refl _)
  have HL := hid hls
  have HM := hid (fun w => mod_any a 200 w a1 a2 (by omega) (by omega))
  have HM2 := hid (fun w => mod_any a 1048579 w a1 a2 (by omega) (by omega))
  have hr1 := Int.emod_nonneg a (by omega : (200 : Int) ≠ 0)
  have hr2 := Int.emod_lt_of_pos a (by omega : (0 : Int) < 200)
  have hr3 := Int.emod_nonneg a (by omega : (1048579 : Int) ≠ 0)
  have hr4 := Int.emod_lt_of_pos a (by omega : (0 : Int) < 1048579)
  have hw : IntKind.i64.wrap (a % 1048579 - 1) = a % 1048579 - 1 := IntWalk.i64_in _ (by omega)
  clear hts ht0 hls
  go_enter Try.func4, Try.ntmps4
  go_wp2_with fail
  refine HN.out.mono ?_; rintro e w' ⟨rfl, rfl⟩
  go_wp2_with fail
  generalize w.alloc (.cells #[.slice At nt ct, .int .i64 0] 44) = W1 at *
  refine (HM.out _).mono ?_; rintro e w' ⟨rfl, rfl⟩
  go_wp2_with fail
  refine (HM2.out _).mono ?_; rintro e w' ⟨rfl, rfl⟩
  have H1 := hid (H0.out.alloc (.cells #[.int .i64 a, .int .i64 (a % 200), .int .i64 (a % 1048579 - 1)] 3))
  have hcl := lit_cells W1 [a, a % 200, a % 1048579 - 1] #[.int .i64 a, .int .i64 (a % 200), .int .i64 (a % 1048579 - 1)] 3 rfl
  have HCL := hid hcl
  have hgl := H0.out.taped.lt
  clear HM HM2 HN hcl
  go_wp2_with fail
  refine (next_any _ _ 3 _ H1.out.taped (by omega) (by omega)).mono ?_
  rintro e w2 ⟨r, r0, r1, rfl, ht, hg⟩
  obtain ⟨r, rfl⟩ := Int.eq_ofNat_of_zero_le r0
  have r2 : r < 3 := by omega
  have r3 : (r : Int) < 3 := by omega
  obtain ⟨v, hv, hvm⟩ := HCL.out r r2
  have hvb : -9223372036854775808 ≤ v ∧ v ≤ 9223372036854775807 := by simp at hvm; omega
  obtain ⟨v1, v2⟩ := hvb
  have hv' : w2.cell? ⟨W1.heap.size, r, none⟩ = some (.int .i64 v) := (World.cell?_of_block (hg.block W1.heap.size (by simp) (fun e => by injection e; omega))).trans hv
  have H2 := hid (H1.out.tape ht hg)
  clear ht hg H1 H0 hv hvm r1 HCL hw hr1 hr2 hr3 hr4
  by_cases hc : v < 0 ∨ 1048576 < v
  · have HA := hid (fun w => anew_no v w hc)
    have HR := hid (fun w => rnew_no v w hc)
    clear hc
    go_wp2_with fail
    refine (HA.out _).mono ?_; rintro e w' ⟨rfl, rfl⟩
    go_wp2_with fail
    refine (HR.out _).mono ?_; rintro e w' ⟨rfl, rfl⟩
    go_wp2
    go_loopw [13] (fun i wr => ∃ (k : Nat) (s : Option St), k ≤ 40 ∧ i = .int .i64 k ∧ Two w.heap.size (some w.heap.size) w wr (.pointer none) (.pointer none) s s) (fun i _ => 40 - (intOf i).toNat)
    case atStart => exact ⟨0, none, by omega, rfl, H2.out⟩
    case round =>
      obtain ⟨k, s, hk, rfl, ht⟩ := hrel
      have HX := hid ht
      clear ht H2
      by_cases hlt : k < 40
      · have hkI : (k : Int) < 40 := by omega
        go_wp2_with fail
        refine (left_any _ _ _ HX.out.taped).mono ?_; rintro e w' ⟨b, j, rfl, rfl⟩
        have H1 := hid (HX.out.after (below_drewN' (Below.refl _ _) j))
        clear HX
        generalize wr.drewN j = V at *
        cases b with
        | false =>
          have HX := H1
          clear H1
          go_wp2_with fail
          refine (sane_any _).mono ?_; rintro e w9 ⟨rfl, h9⟩
          have H9 := hid (HX.out.after h9)
          clear h9
          go_wp2
          go_ret
          exact ⟨rfl, H9.out.bel⟩
        | true =>
          go_wp2_with fail
          refine (next_any _ _ 40 _ H1.out.taped (by omega) (by omega)).mono ?_
          rintro e w1 ⟨r, r0, r1, rfl, ht, hg⟩
          have r2 : r ≤ 39 := by omega
          have H2 := hid (H1.out.tape ht hg)
          clear ht hg H1 r1
          have H2a := hid (H2.out.alloc (.cells #[.int .i64 r, .int .i64 1, .int .i64 0, .int .i64 1048576, .int .i64 (-1)] 3))
          have HP := hid (pick_any w.heap.size w.heap.size w1.heap.size 5 (· ∈ [r, 1, 0, 1048576, -1]) (w1.alloc (.cells #[.int .i64 r, .int .i64 1, .int .i64 0, .int .i64 1048576, .int .i64 (-1)] 3)) H2a.out.taped (by have := H2.out.taped.lt; omega) (by simp) (by omega) (by omega) (lit_cells w1 [r, 1, 0, 1048576, -1] _ _ rfl))
          clear H2
          go_wp2_with fail
          refine HP.out.mono ?_
          rintro e w2 ⟨n, nm, rfl, ht, hg⟩
          have nb : -9223372036854775808 ≤ n ∧ n ≤ 9223372036854775807 := by simp at nm; omega
          obtain ⟨n1, n2⟩ := nb
          have H3 := hid (H2a.out.tape ht hg)
          clear ht hg nm HP H2a
          have H3a := hid (H3.out.alloc (.cells #[.int .i64 1, .int .i64 16, .int .i64 8, .int .i64 3, .int .i64 0, .int .i64 4096, .int .i64 4097] 3))
          have HP := hid (pick_any w.heap.size w.heap.size w2.heap.size 7 (· ∈ [1, 16, 8, 3, 0, 4096, 4097]) (w2.alloc (.cells #[.int .i64 1, .int .i64 16, .int .i64 8, .int .i64 3, .int .i64 0, .int .i64 4096, .int .i64 4097] 3)) H3a.out.taped (by have := H3.out.taped.lt; omega) (by simp) (by omega) (by omega) (lit_cells w2 [1, 16, 8, 3, 0, 4096, 4097] _ _ rfl))
          clear H3
          go_wp2_with fail
          refine HP.out.mono ?_
          rintro e w3 ⟨m, mm, rfl, ht, hg⟩
          have mb : -9223372036854775808 ≤ m ∧ m ≤ 9223372036854775807 := by simp at mm; omega
          obtain ⟨m1, m2⟩ := mb
          have H4 := hid (H3a.out.tape ht hg)
          clear ht hg mm HP H3a
          have HL4 := hid (HL.out.below H4.out.bel (Nat.le_refl _))
          go_upto_region 11 with fail
          go_cut [79] (fun s79 wx => ∃ b : Bool, s79 = .bool b ∧ (b = true → k < nl) ∧ Two w.heap.size (some w.heap.size) w wx (.pointer none) (.pointer none) s s)
          case first =>
            by_cases hkn : k < nl
            · have hknI : (k : Int) < (nl : Int) := by omega
              go_wp2_with fail
              refine (next_any _ _ 4 _ H4.out.taped (by omega) (by omega)).mono ?_
              rintro e w4 ⟨q, q0, q1, rfl, ht, hg⟩
              have H5 := hid (H4.out.tape ht hg)
              clear ht hg H4 q1
              by_cases hq : q = 3
              · subst hq
                go_wp2
                go_meet
                exact ⟨true, rfl, fun _ => hkn, H5.out⟩
              · go_wp2
                go_meet
                exact ⟨false, by simp [hq], fun _ => hkn, H5.out⟩
            · have hknI : ¬ (k : Int) < (nl : Int) := by omega
              go_wp2
              go_meet
              exact ⟨false, rfl, fun e => (by cases e), H4.out⟩
          case rest =>
            obtain ⟨b, rfl, hbk, h5⟩ := hcut
            have H5 := hid h5
            have HBK := hid hbk
            have HLc := hid (HL.out.below H5.out.bel (Nat.le_refl _))
            clear h5 hbk H4 HL4
            go_upto_if 79 with fail
            go_cut [14, 15] (fun s14 s15 wx => ∃ n m : Int, s14 = .int .i64 n ∧ s15 = .int .i64 m ∧ (-9223372036854775808 ≤ n ∧ n ≤ 9223372036854775807) ∧ (-9223372036854775808 ≤ m ∧ m ≤ 9223372036854775807) ∧ Two w.heap.size (some w.heap.size) w wx (.pointer none) (.pointer none) s s)
            case first =>
              cases b with
              | false =>
                go_wp2
                go_meet
                exact ⟨n, m, rfl, rfl, ⟨n1, n2⟩, ⟨m1, m2⟩, H5.out⟩
              | true =>
                have hkn := HBK.out rfl
                obtain ⟨p, hp⟩ : ∃ p : Nat, p + k + 1 = nl := ⟨nl - 1 - k, by omega⟩
                obtain ⟨bl, off, v1', v2', hAl, y1, y2, z1, z2⟩ := ints_two HLc.out hkn (p := p) (by omega)
                subst hAl
                have t1 : IntKind.i64.wrap ((nl : Int) - 1) = (nl : Int) - 1 := IntWalk.i64_in _ (by omega)
                have t2 : IntKind.i64.wrap ((nl : Int) - 1 - (k : Int)) = (p : Int) := by rw [show ((nl : Int) - 1 - (k : Int)) = (p : Int) by omega]; exact IntWalk.i64_in _ (by omega)
                have t3 : (k : Int) < (nl : Int) := by omega
                have t4 : (p : Int) < (nl : Int) := by omega
                clear hp
                go_wp2
                go_quiet (fail)
                go_wp2
                go_meet
                exact ⟨v1', v2', rfl, rfl, z1, z2, H5.out.after (below_drewN' (Below.refl _ _) _)⟩
            case rest =>
              obtain ⟨n, m, rfl, rfl, ⟨n1, n2⟩, ⟨m1, m2⟩, h6⟩ := hcut
              have H6 := hid h6
              clear h6 H5 HLc HBK
              go_wp2_with fail
              refine (next_any _ _ 6 _ H6.out.taped (by omega) (by omega)).mono ?_
              rintro e w5 ⟨q, q0, q1, rfl, ht, hg⟩
              have q2 : q ≤ 5 := by omega
              have H7 := hid (H6.out.tape ht hg)
              clear ht hg H6 q1
              by_cases c0 : q = 0
              · subst c0
                go_wp2_with fail
                refine (aalloc_t H7.out n m n1 n2 m1 m2).mono ?_; rintro e wa ⟨rfl, ha⟩
                have H7a := hid ha
                clear ha H7
                go_wp2_with fail
                refine (ralloc_t H7a.out n m n1 n2 m1 m2).mono ?_; rintro e wb ⟨rfl, hb⟩
                have H8 := hid hb
                clear hb H7a
                go_wp2_with fail
                refine (aused_t H8.out).mono ?_; rintro e wz ⟨rfl, rfl⟩
                go_wp2_with fail
                refine (rused_t H8.out).mono ?_; rintro e wz ⟨rfl, rfl⟩
                go_wp2_with fail
                refine (ahigh_t H8.out).mono ?_; rintro e wz ⟨rfl, rfl⟩
                go_wp2_with fail
                refine (rhigh_t H8.out).mono ?_; rintro e wz ⟨rfl, rfl⟩
                go_wp2_with fail
                refine (amarks_t H8.out).mono ?_; rintro e wz ⟨rfl, rfl⟩
                go_wp2_with fail
                refine (rmarks_t H8.out).mono ?_; rintro e wz ⟨rfl, rfl⟩
                go_wp2
                go_roundw
                case rel => exact ⟨k + 1, _, by omega, by go_num, H8.out⟩
                case measure => simp [intOf] <;> omega
              by_cases c1 : q = 1
              · subst c1
                go_wp2_with fail
                refine (aalloc_t H7.out n m n1 n2 m1 m2).mono ?_; rintro e wa ⟨rfl, ha⟩
                have H7a := hid ha
                clear ha H7
                go_wp2_with fail
                refine (ralloc_t H7a.out n m n1 n2 m1 m2).mono ?_; rintro e wb ⟨rfl, hb⟩
                have H8 := hid hb
                clear hb H7a
                go_wp2_with fail
                refine (aused_t H8.out).mono ?_; rintro e wz ⟨rfl, rfl⟩
                go_wp2_with fail
                refine (rused_t H8.out).mono ?_; rintro e wz ⟨rfl, rfl⟩
                go_wp2_with fail
                refine (ahigh_t H8.out).mono ?_; rintro e wz ⟨rfl, rfl⟩
                go_wp2_with fail
                refine (rhigh_t H8.out).mono ?_; rintro e wz ⟨rfl, rfl⟩
                go_wp2_with fail
                refine (amarks_t H8.out).mono ?_; rintro e wz ⟨rfl, rfl⟩
                go_wp2_with fail
                refine (rmarks_t H8.out).mono ?_; rintro e wz ⟨rfl, rfl⟩
                go_wp2
                go_roundw
                case rel => exact ⟨k + 1, _, by omega, by go_num, H8.out⟩
                case measure => simp [intOf] <;> omega
              by_cases c2 : q = 2
              · subst c2
                go_wp2_with fail
                refine (aalloc_t H7.out n m n1 n2 m1 m2).mono ?_; rintro e wa ⟨rfl, ha⟩
                have H7a := hid ha
                clear ha H7
                go_wp2_with fail
                refine (ralloc_t H7a.out n m n1 n2 m1 m2).mono ?_; rintro e wb ⟨rfl, hb⟩
                have H8 := hid hb
                clear hb H7a
                go_wp2_with fail
                refine (aused_t H8.out).mono ?_; rintro e wz ⟨rfl, rfl⟩
                go_wp2_with fail
                refine (rused_t H8.out).mono ?_; rintro e wz ⟨rfl, rfl⟩
                go_wp2_with fail
                refine (ahigh_t H8.out).mono ?_; rintro e wz ⟨rfl, rfl⟩
                go_wp2_with fail
                refine (rhigh_t H8.out).mono ?_; rintro e wz ⟨rfl, rfl⟩
                go_wp2_with fail
                refine (amarks_t H8.out).mono ?_; rintro e wz ⟨rfl, rfl⟩
                go_wp2_with fail
                refine (rmarks_t H8.out).mono ?_; rintro e wz ⟨rfl, rfl⟩
                go_wp2
                go_roundw
                case rel => exact ⟨k + 1, _, by omega, by go_num, H8.out⟩
                case measure => simp [intOf] <;> omega
              by_cases c3 : q = 3
              · subst c3
                go_wp2_with fail
                refine (amark_t H7.out).mono ?_; rintro e wa ⟨rfl, ha⟩
                have H7a := hid ha
                clear ha H7
                go_wp2_with fail
                refine (rmark_t H7a.out).mono ?_; rintro e wb ⟨rfl, hb⟩
                have H8 := hid hb
                clear hb H7a
                go_wp2_with fail
                refine (aused_t H8.out).mono ?_; rintro e wz ⟨rfl, rfl⟩
                go_wp2_with fail
                refine (rused_t H8.out).mono ?_; rintro e wz ⟨rfl, rfl⟩
                go_wp2_with fail
                refine (ahigh_t H8.out).mono ?_; rintro e wz ⟨rfl, rfl⟩
                go_wp2_with fail
                refine (rhigh_t H8.out).mono ?_; rintro e wz ⟨rfl, rfl⟩
                go_wp2_with fail
                refine (amarks_t H8.out).mono ?_; rintro e wz ⟨rfl, rfl⟩
                go_wp2_with fail
                refine (rmarks_t H8.out).mono ?_; rintro e wz ⟨rfl, rfl⟩
                go_wp2
                go_roundw
                case rel => exact ⟨k + 1, _, by omega, by go_num, H8.out⟩
                case measure => simp [intOf] <;> omega
              by_cases c4 : q = 4
              · subst c4
                go_wp2_with fail
                refine (arelease_t H7.out).mono ?_; rintro e wa ⟨rfl, ha⟩
                have H7a := hid ha
                clear ha H7
                go_wp2_with fail
                refine (rrelease_t H7a.out).mono ?_; rintro e wb ⟨rfl, hb⟩
                have H8 := hid hb
                clear hb H7a
                go_wp2_with fail
                refine (aused_t H8.out).mono ?_; rintro e wz ⟨rfl, rfl⟩
                go_wp2_with fail
                refine (rused_t H8.out).mono ?_; rintro e wz ⟨rfl, rfl⟩
                go_wp2_with fail
                refine (ahigh_t H8.out).mono ?_; rintro e wz ⟨rfl, rfl⟩
                go_wp2_with fail
                refine (rhigh_t H8.out).mono ?_; rintro e wz ⟨rfl, rfl⟩
                go_wp2_with fail
                refine (amarks_t H8.out).mono ?_; rintro e wz ⟨rfl, rfl⟩
                go_wp2_with fail
                refine (rmarks_t H8.out).mono ?_; rintro e wz ⟨rfl, rfl⟩
                go_wp2
                go_roundw
                case rel => exact ⟨k + 1, _, by omega, by go_num, H8.out⟩
                case measure => simp [intOf] <;> omega
              go_wp2_with fail
              refine (next_any _ _ 3 _ H7.out.taped (by omega) (by omega)).mono ?_
              rintro e w6 ⟨p, p0, p1, rfl, ht, hg⟩
              have H7b := hid (H7.out.tape ht hg)
              clear ht hg H7 p1
              by_cases c5 : p = 2
              · subst c5
                go_wp2_with fail
                refine (areset_t H7b.out).mono ?_; rintro e wa ⟨rfl, ha⟩
                have H7ba := hid ha
                clear ha H7b
                go_wp2_with fail
                refine (rreset_t H7ba.out).mono ?_; rintro e wb ⟨rfl, hb⟩
                have H8 := hid hb
                clear hb H7ba
                go_wp2_with fail
                refine (aused_t H8.out).mono ?_; rintro e wz ⟨rfl, rfl⟩
                go_wp2_with fail
                refine (rused_t H8.out).mono ?_; rintro e wz ⟨rfl, rfl⟩
                go_wp2_with fail
                refine (ahigh_t H8.out).mono ?_; rintro e wz ⟨rfl, rfl⟩
                go_wp2_with fail
                refine (rhigh_t H8.out).mono ?_; rintro e wz ⟨rfl, rfl⟩
                go_wp2_with fail
                refine (amarks_t H8.out).mono ?_; rintro e wz ⟨rfl, rfl⟩
                go_wp2_with fail
                refine (rmarks_t H8.out).mono ?_; rintro e wz ⟨rfl, rfl⟩
                go_wp2
                go_roundw
                case rel => exact ⟨k + 1, _, by omega, by go_num, H8.out⟩
                case measure => simp [intOf] <;> omega
              · go_wp2_with fail
                refine (aused_t H7b.out).mono ?_; rintro e wz ⟨rfl, rfl⟩
                go_wp2_with fail
                refine (rused_t H7b.out).mono ?_; rintro e wz ⟨rfl, rfl⟩
                go_wp2_with fail
                refine (ahigh_t H7b.out).mono ?_; rintro e wz ⟨rfl, rfl⟩
                go_wp2_with fail
                refine (rhigh_t H7b.out).mono ?_; rintro e wz ⟨rfl, rfl⟩
                go_wp2_with fail
                refine (amarks_t H7b.out).mono ?_; rintro e wz ⟨rfl, rfl⟩
                go_wp2_with fail
                refine (rmarks_t H7b.out).mono ?_; rintro e wz ⟨rfl, rfl⟩
                go_wp2
                go_roundw
                case rel => exact ⟨k + 1, _, by omega, by go_num, H7b.out⟩
                case measure => simp [intOf] <;> omega
      · go_wp2_with fail
        refine (sane_any _).mono ?_; rintro e w9 ⟨rfl, h9⟩
        have H9 := hid (HX.out.after h9)
        clear h9
        go_wp2
        go_ret
        exact ⟨rfl, H9.out.bel⟩
  · have hc1 : ¬ v < 0 := by omega
    have hc2 : ¬ 1048576 < v := by omega
    have HA := hid (fun w => anew_yes v w hc1 hc2)
    have HR := hid (fun w => rnew_yes v w hc1 hc2)
    clear hc
    go_wp2_with fail
    refine (HA.out _).mono ?_; rintro e w' ⟨rfl, rfl⟩
    have H3 := hid (H2.out.newA (c := v) (by omega) (by omega))
    clear H2
    go_wp2_with fail
    generalize w2.alloc (.cells #[.int .i64 v, .int .i64 0, .int .i64 0, .slice none 0 0] 46) = W3 at *
    generalize w2.heap.size = gA at *
    refine (HR.out _).mono ?_; rintro e w' ⟨rfl, rfl⟩
    have H4 := hid (H3.out.newB (c := v) (by omega) (by omega))
    clear H3
    go_wp2
    generalize W3.alloc (.cells #[.int .i64 v, .int .i64 0, .int .i64 0, .slice none 0 0] 50) = W4 at *
    generalize W3.heap.size = gB at *
    go_loopw [13] (fun i wr => ∃ (k : Nat) (s : Option St), k ≤ 40 ∧ i = .int .i64 k ∧ Two w.heap.size (some w.heap.size) w wr (.pointer (some ⟨gA, 0, none⟩)) (.pointer (some ⟨gB, 0, none⟩)) s s) (fun i _ => 40 - (intOf i).toNat)
    case atStart => exact ⟨0, (some ⟨v, 0, 0, []⟩), by omega, rfl, H4.out⟩
    case round =>
      obtain ⟨k, s, hk, rfl, ht⟩ := hrel
      have HX := hid ht
      clear ht H4
      by_cases hlt : k < 40
      · have hkI : (k : Int) < 40 := by omega
        go_wp2_with fail
        refine (left_any _ _ _ HX.out.taped).mono ?_; rintro e w' ⟨b, j, rfl, rfl⟩
        have H1 := hid (HX.out.after (below_drewN' (Below.refl _ _) j))
        clear HX
        generalize wr.drewN j = V at *
        cases b with
        | false =>
          have HX := H1
          clear H1
          go_wp2_with fail
          refine (sane_any _).mono ?_; rintro e w9 ⟨rfl, h9⟩
          have H9 := hid (HX.out.after h9)
          clear h9
          go_wp2
          go_ret
          exact ⟨rfl, H9.out.bel⟩
        | true =>
          go_wp2_with fail
          refine (next_any _ _ 40 _ H1.out.taped (by omega) (by omega)).mono ?_
          rintro e w1 ⟨r, r0, r1, rfl, ht, hg⟩
          have r2 : r ≤ 39 := by omega
          have H2 := hid (H1.out.tape ht hg)
          clear ht hg H1 r1
          have H2a := hid (H2.out.alloc (.cells #[.int .i64 r, .int .i64 1, .int .i64 0, .int .i64 1048576, .int .i64 (-1)] 3))
          have HP := hid (pick_any w.heap.size w.heap.size w1.heap.size 5 (· ∈ [r, 1, 0, 1048576, -1]) (w1.alloc (.cells #[.int .i64 r, .int .i64 1, .int .i64 0, .int .i64 1048576, .int .i64 (-1)] 3)) H2a.out.taped (by have := H2.out.taped.lt; omega) (by simp) (by omega) (by omega) (lit_cells w1 [r, 1, 0, 1048576, -1] _ _ rfl))
          clear H2
          go_wp2_with fail
          refine HP.out.mono ?_
          rintro e w2 ⟨n, nm, rfl, ht, hg⟩
          have nb : -9223372036854775808 ≤ n ∧ n ≤ 9223372036854775807 := by simp at nm; omega
          obtain ⟨n1, n2⟩ := nb
          have H3 := hid (H2a.out.tape ht hg)
          clear ht hg nm HP H2a
          have H3a := hid (H3.out.alloc (.cells #[.int .i64 1, .int .i64 16, .int .i64 8, .int .i64 3, .int .i64 0, .int .i64 4096, .int .i64 4097] 3))
          have HP := hid (pick_any w.heap.size w.heap.size w2.heap.size 7 (· ∈ [1, 16, 8, 3, 0, 4096, 4097]) (w2.alloc (.cells #[.int .i64 1, .int .i64 16, .int .i64 8, .int .i64 3, .int .i64 0, .int .i64 4096, .int .i64 4097] 3)) H3a.out.taped (by have := H3.out.taped.lt; omega) (by simp) (by omega) (by omega) (lit_cells w2 [1, 16, 8, 3, 0, 4096, 4097] _ _ rfl))
          clear H3
          go_wp2_with fail
          refine HP.out.mono ?_
          rintro e w3 ⟨m, mm, rfl, ht, hg⟩
          have mb : -9223372036854775808 ≤ m ∧ m ≤ 9223372036854775807 := by simp at mm; omega
          obtain ⟨m1, m2⟩ := mb
          have H4 := hid (H3a.out.tape ht hg)
          clear ht hg mm HP H3a
          have HL4 := hid (HL.out.below H4.out.bel (Nat.le_refl _))
          go_upto_region 11 with fail
          go_cut [79] (fun s79 wx => ∃ b : Bool, s79 = .bool b ∧ (b = true → k < nl) ∧ Two w.heap.size (some w.heap.size) w wx (.pointer (some ⟨gA, 0, none⟩)) (.pointer (some ⟨gB, 0, none⟩)) s s)
          case first =>
            by_cases hkn : k < nl
            · have hknI : (k : Int) < (nl : Int) := by omega
              go_wp2_with fail
              refine (next_any _ _ 4 _ H4.out.taped (by omega) (by omega)).mono ?_
              rintro e w4 ⟨q, q0, q1, rfl, ht, hg⟩
              have H5 := hid (H4.out.tape ht hg)
              clear ht hg H4 q1
              by_cases hq : q = 3
              · subst hq
                go_wp2
                go_meet
                exact ⟨true, rfl, fun _ => hkn, H5.out⟩
              · go_wp2
                go_meet
                exact ⟨false, by simp [hq], fun _ => hkn, H5.out⟩
            · have hknI : ¬ (k : Int) < (nl : Int) := by omega
              go_wp2
              go_meet
              exact ⟨false, rfl, fun e => (by cases e), H4.out⟩
          case rest =>
            obtain ⟨b, rfl, hbk, h5⟩ := hcut
            have H5 := hid h5
            have HBK := hid hbk
            have HLc := hid (HL.out.below H5.out.bel (Nat.le_refl _))
            clear h5 hbk H4 HL4
            go_upto_if 79 with fail
            go_cut [14, 15] (fun s14 s15 wx => ∃ n m : Int, s14 = .int .i64 n ∧ s15 = .int .i64 m ∧ (-9223372036854775808 ≤ n ∧ n ≤ 9223372036854775807) ∧ (-9223372036854775808 ≤ m ∧ m ≤ 9223372036854775807) ∧ Two w.heap.size (some w.heap.size) w wx (.pointer (some ⟨gA, 0, none⟩)) (.pointer (some ⟨gB, 0, none⟩)) s s)
            case first =>
              cases b with
              | false =>
                go_wp2
                go_meet
                exact ⟨n, m, rfl, rfl, ⟨n1, n2⟩, ⟨m1, m2⟩, H5.out⟩
              | true =>
                have hkn := HBK.out rfl
                obtain ⟨p, hp⟩ : ∃ p : Nat, p + k + 1 = nl := ⟨nl - 1 - k, by omega⟩
                obtain ⟨bl, off, v1', v2', hAl, y1, y2, z1, z2⟩ := ints_two HLc.out hkn (p := p) (by omega)
                subst hAl
                have t1 : IntKind.i64.wrap ((nl : Int) - 1) = (nl : Int) - 1 := IntWalk.i64_in _ (by omega)
                have t2 : IntKind.i64.wrap ((nl : Int) - 1 - (k : Int)) = (p : Int) := by rw [show ((nl : Int) - 1 - (k : Int)) = (p : Int) by omega]; exact IntWalk.i64_in _ (by omega)
                have t3 : (k : Int) < (nl : Int) := by omega
                have t4 : (p : Int) < (nl : Int) := by omega
                clear hp
                go_wp2
                go_quiet (fail)
                go_wp2
                go_meet
                exact ⟨v1', v2', rfl, rfl, z1, z2, H5.out.after (below_drewN' (Below.refl _ _) _)⟩
            case rest =>
              obtain ⟨n, m, rfl, rfl, ⟨n1, n2⟩, ⟨m1, m2⟩, h6⟩ := hcut
              have H6 := hid h6
              clear h6 H5 HLc HBK
              go_wp2_with fail
              refine (next_any _ _ 6 _ H6.out.taped (by omega) (by omega)).mono ?_
              rintro e w5 ⟨q, q0, q1, rfl, ht, hg⟩
              have q2 : q ≤ 5 := by omega
              have H7 := hid (H6.out.tape ht hg)
              clear ht hg H6 q1
              by_cases c0 : q = 0
              · subst c0
                go_wp2_with fail
                refine (aalloc_t H7.out n m n1 n2 m1 m2).mono ?_; rintro e wa ⟨rfl, ha⟩
                have H7a := hid ha
                clear ha H7
                go_wp2_with fail
                refine (ralloc_t H7a.out n m n1 n2 m1 m2).mono ?_; rintro e wb ⟨rfl, hb⟩
                have H8 := hid hb
                clear hb H7a
                go_wp2_with fail
                refine (aused_t H8.out).mono ?_; rintro e wz ⟨rfl, rfl⟩
                go_wp2_with fail
                refine (rused_t H8.out).mono ?_; rintro e wz ⟨rfl, rfl⟩
                go_wp2_with fail
                refine (ahigh_t H8.out).mono ?_; rintro e wz ⟨rfl, rfl⟩
                go_wp2_with fail
                refine (rhigh_t H8.out).mono ?_; rintro e wz ⟨rfl, rfl⟩
                go_wp2_with fail
                refine (amarks_t H8.out).mono ?_; rintro e wz ⟨rfl, rfl⟩
                go_wp2_with fail
                refine (rmarks_t H8.out).mono ?_; rintro e wz ⟨rfl, rfl⟩
                go_wp2
                go_roundw
                case rel => exact ⟨k + 1, _, by omega, by go_num, H8.out⟩
                case measure => simp [intOf] <;> omega
              by_cases c1 : q = 1
              · subst c1
                go_wp2_with fail
                refine (aalloc_t H7.out n m n1 n2 m1 m2).mono ?_; rintro e wa ⟨rfl, ha⟩
                have H7a := hid ha
                clear ha H7
                go_wp2_with fail
                refine (ralloc_t H7a.out n m n1 n2 m1 m2).mono ?_; rintro e wb ⟨rfl, hb⟩
                have H8 := hid hb
                clear hb H7a
                go_wp2_with fail
                refine (aused_t H8.out).mono ?_; rintro e wz ⟨rfl, rfl⟩
                go_wp2_with fail
                refine (rused_t H8.out).mono ?_; rintro e wz ⟨rfl, rfl⟩
                go_wp2_with fail
                refine (ahigh_t H8.out).mono ?_; rintro e wz ⟨rfl, rfl⟩
                go_wp2_with fail
                refine (rhigh_t H8.out).mono ?_; rintro e wz ⟨rfl, rfl⟩
                go_wp2_with fail
                refine (amarks_t H8.out).mono ?_; rintro e wz ⟨rfl, rfl⟩
                go_wp2_with fail
                refine (rmarks_t H8.out).mono ?_; rintro e wz ⟨rfl, rfl⟩
                go_wp2
                go_roundw
                case rel => exact ⟨k + 1, _, by omega, by go_num, H8.out⟩
                case measure => simp [intOf] <;> omega
              by_cases c2 : q = 2
              · subst c2
                go_wp2_with fail
                refine (aalloc_t H7.out n m n1 n2 m1 m2).mono ?_; rintro e wa ⟨rfl, ha⟩
                have H7a := hid ha
                clear ha H7
                go_wp2_with fail
                refine (ralloc_t H7a.out n m n1 n2 m1 m2).mono ?_; rintro e wb ⟨rfl, hb⟩
                have H8 := hid hb
                clear hb H7a
                go_wp2_with fail
                refine (aused_t H8.out).mono ?_; rintro e wz ⟨rfl, rfl⟩
                go_wp2_with fail
                refine (rused_t H8.out).mono ?_; rintro e wz ⟨rfl, rfl⟩
                go_wp2_with fail
                refine (ahigh_t H8.out).mono ?_; rintro e wz ⟨rfl, rfl⟩
                go_wp2_with fail
                refine (rhigh_t H8.out).mono ?_; rintro e wz ⟨rfl, rfl⟩
                go_wp2_with fail
                refine (amarks_t H8.out).mono ?_; rintro e wz ⟨rfl, rfl⟩
                go_wp2_with fail
                refine (rmarks_t H8.out).mono ?_; rintro e wz ⟨rfl, rfl⟩
                go_wp2
                go_roundw
                case rel => exact ⟨k + 1, _, by omega, by go_num, H8.out⟩
                case measure => simp [intOf] <;> omega
              by_cases c3 : q = 3
              · subst c3
                go_wp2_with fail
                refine (amark_t H7.out).mono ?_; rintro e wa ⟨rfl, ha⟩
                have H7a := hid ha
                clear ha H7
                go_wp2_with fail
                refine (rmark_t H7a.out).mono ?_; rintro e wb ⟨rfl, hb⟩
                have H8 := hid hb
                clear hb H7a
                go_wp2_with fail
                refine (aused_t H8.out).mono ?_; rintro e wz ⟨rfl, rfl⟩
                go_wp2_with fail
                refine (rused_t H8.out).mono ?_; rintro e wz ⟨rfl, rfl⟩
                go_wp2_with fail
                refine (ahigh_t H8.out).mono ?_; rintro e wz ⟨rfl, rfl⟩
                go_wp2_with fail
                refine (rhigh_t H8.out).mono ?_; rintro e wz ⟨rfl, rfl⟩
                go_wp2_with fail
                refine (amarks_t H8.out).mono ?_; rintro e wz ⟨rfl, rfl⟩
                go_wp2_with fail
                refine (rmarks_t H8.out).mono ?_; rintro e wz ⟨rfl, rfl⟩
                go_wp2
                go_roundw
                case rel => exact ⟨k + 1, _, by omega, by go_num, H8.out⟩
                case measure => simp [intOf] <;> omega
              by_cases c4 : q = 4
              · subst c4
                go_wp2_with fail
                refine (arelease_t H7.out).mono ?_; rintro e wa ⟨rfl, ha⟩
                have H7a := hid ha
                clear ha H7
                go_wp2_with fail
                refine (rrelease_t H7a.out).mono ?_; rintro e wb ⟨rfl, hb⟩
                have H8 := hid hb
                clear hb H7a
                go_wp2_with fail
                refine (aused_t H8.out).mono ?_; rintro e wz ⟨rfl, rfl⟩
                go_wp2_with fail
                refine (rused_t H8.out).mono ?_; rintro e wz ⟨rfl, rfl⟩
                go_wp2_with fail
                refine (ahigh_t H8.out).mono ?_; rintro e wz ⟨rfl, rfl⟩
                go_wp2_with fail
                refine (rhigh_t H8.out).mono ?_; rintro e wz ⟨rfl, rfl⟩
                go_wp2_with fail
                refine (amarks_t H8.out).mono ?_; rintro e wz ⟨rfl, rfl⟩
                go_wp2_with fail
                refine (rmarks_t H8.out).mono ?_; rintro e wz ⟨rfl, rfl⟩
                go_wp2
                go_roundw
                case rel => exact ⟨k + 1, _, by omega, by go_num, H8.out⟩
                case measure => simp [intOf] <;> omega
              go_wp2_with fail
              refine (next_any _ _ 3 _ H7.out.taped (by omega) (by omega)).mono ?_
              rintro e w6 ⟨p, p0, p1, rfl, ht, hg⟩
              have H7b := hid (H7.out.tape ht hg)
              clear ht hg H7 p1
              by_cases c5 : p = 2
              · subst c5
                go_wp2_with fail
                refine (areset_t H7b.out).mono ?_; rintro e wa ⟨rfl, ha⟩
                have H7ba := hid ha
                clear ha H7b
                go_wp2_with fail
                refine (rreset_t H7ba.out).mono ?_; rintro e wb ⟨rfl, hb⟩
                have H8 := hid hb
                clear hb H7ba
                go_wp2_with fail
                refine (aused_t H8.out).mono ?_; rintro e wz ⟨rfl, rfl⟩
                go_wp2_with fail
                refine (rused_t H8.out).mono ?_; rintro e wz ⟨rfl, rfl⟩
                go_wp2_with fail
                refine (ahigh_t H8.out).mono ?_; rintro e wz ⟨rfl, rfl⟩
                go_wp2_with fail
                refine (rhigh_t H8.out).mono ?_; rintro e wz ⟨rfl, rfl⟩
                go_wp2_with fail
                refine (amarks_t H8.out).mono ?_; rintro e wz ⟨rfl, rfl⟩
                go_wp2_with fail
                refine (rmarks_t H8.out).mono ?_; rintro e wz ⟨rfl, rfl⟩
                go_wp2
                go_roundw
                case rel => exact ⟨k + 1, _, by omega, by go_num, H8.out⟩
                case measure => simp [intOf] <;> omega
              · go_wp2_with fail
                refine (aused_t H7b.out).mono ?_; rintro e wz ⟨rfl, rfl⟩
                go_wp2_with fail
                refine (rused_t H7b.out).mono ?_; rintro e wz ⟨rfl, rfl⟩
                go_wp2_with fail
                refine (ahigh_t H7b.out).mono ?_; rintro e wz ⟨rfl, rfl⟩
                go_wp2_with fail
                refine (rhigh_t H7b.out).mono ?_; rintro e wz ⟨rfl, rfl⟩
                go_wp2_with fail
                refine (amarks_t H7b.out).mono ?_; rintro e wz ⟨rfl, rfl⟩
                go_wp2_with fail
                refine (rmarks_t H7b.out).mono ?_; rintro e wz ⟨rfl, rfl⟩
                go_wp2
                go_roundw
                case rel => exact ⟨k + 1, _, by omega, by go_num, H7b.out⟩
                case measure => simp [intOf] <;> omega
      · go_wp2_with fail
        refine (sane_any _).mono ?_; rintro e w9 ⟨rfl, h9⟩
        have H9 := hid (HX.out.after h9)
        clear h9
        go_wp2
        go_ret
        exact ⟨rfl, H9.out.bel⟩
end Go.Proofs.Ytkjipnafgojcgaa
