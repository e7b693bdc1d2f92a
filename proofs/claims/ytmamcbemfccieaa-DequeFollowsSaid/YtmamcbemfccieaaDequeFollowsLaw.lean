/-
  The law DequeFollows: plain law and walk.
-/
import Derived.Test.YtmamcbemfccieaaDeqSane
import Derived.Deep.DeepCutAuto
import Derived.Deep.CutBlock
import Derived.Deep.RegionHeld3
namespace Go.Proofs.Ytmamcbemfccieaa
open Go.RowKit
set_option linter.unusedVariables false

theorem left_any (B g : Nat) (w : World) (h : TapeAt B g w) :
    Calls Try.prog 16 #[.pointer (some ⟨g, 0, none⟩)] w fun e w' => ∃ (b : Bool) (j : Nat), e = .returned (.bool b) ∧ w.drewN j = w' := by
  obtain ⟨hB, A, n, c, xs, k, hb, hk, hn, hi⟩ := h
  have HB := hid hb
  have k0 : w.cell? ⟨g, 0, none⟩ = some (.slice A n c) := hb.cell 0
  have k1 : w.cell? ⟨g, 1, none⟩ = some (.int .i64 (k : Int)) := hb.cell 1
  clear hb hi
  by_cases hlt : k < n
  · have hI : (k : Int) < (n : Int) := by omega
    go_enter Try.func16, Try.ntmps16
    go_wp2
    go_quiet (fail)
    go_wp2
    go_ret
    exact ⟨true, _, rfl, rfl⟩
  · have hI : ¬ (k : Int) < (n : Int) := by omega
    go_enter Try.func16, Try.ntmps16
    go_wp2
    go_quiet (fail)
    go_wp2
    go_ret
    exact ⟨false, _, rfl, rfl⟩
theorem Tw.drop {B : Nat} {gt : Option Nat} {w0 w : World} {pa pb : Value} {sa sb : Option Dq} {X : Nat → Prop} (h : Tw B gt w0 w pa pb sa sb X) : Tw B gt w0 w pa pb sa sb (fun _ => False) := by
  obtain ⟨ra, rb, ha, hb, ht, hab, hbl, hB, hx⟩ := h
  exact ⟨ra, rb, ha, hb, fun g hg => ⟨(ht g hg).1, (ht g hg).2.1, (ht g hg).2.2.1, fun e => e⟩, hab, hbl, hB, fun i e => e.elim⟩
theorem Tw.drew {B : Nat} {gt : Option Nat} {w0 w : World} {pa pb : Value} {sa sb : Option Dq} {X : Nat → Prop} (h : Tw B gt w0 w pa pb sa sb X) : Tw B gt w0 w.drew pa pb sa sb X := h.drewN 1

set_option maxRecDepth 100000 in
set_option maxHeartbeats 8000000 in
theorem follows_walk (At : Option Addr) (nt ct : Nat) (ts : List Int) {w : World} (hts : IntsAt w w.heap.size At nt ts) (hnt : nt ≤ 9223372036854775807) (a : Int) (a1 : -9223372036854775808 ≤ a) (a2 : a ≤ 9223372036854775807) :
    Calls Try.prog 4 #[.slice At nt ct, .int .i64 a] w fun e w' => e = .returned (.bool true) ∧ Below w.heap.size w w' := by
  have HN := hid (new_any At nt ct w)
  have ht0 : TapeAt w.heap.size w.heap.size (w.alloc (.cells #[.slice At nt ct, .int .i64 0] 48)) :=
    ⟨Nat.le_refl _, At, nt, ct, ts, 0, Blk.new w _ _, by omega, hnt, hts.below ((Below.refl _ _).alloc (Nat.le_refl _) _) (Nat.le_refl _)⟩
  have H0 : Hid (Tw w.heap.size (some w.heap.size) w (w.alloc (.cells #[.slice At nt ct, .int .i64 0] 48)) (.pointer none) (.pointer none) none none (fun _ => False)) := Tw.nil (fun g hg => by injection hg with hg; subst hg; exact ht0) ((Below.refl _ _).alloc (Nat.le_refl _) _) (Nat.le_refl _)
  have HM := hid (fun w => mod_any a 6 w a1 a2 (by omega) (by omega))
  have HM2 := hid (fun w => mod_any a 258 w a1 a2 (by omega) (by omega))
  have hr1 := Int.emod_nonneg a (by omega : (6 : Int) ≠ 0)
  have hr2 := Int.emod_lt_of_pos a (by omega : (0 : Int) < 6)
  have hr3 := Int.emod_nonneg a (by omega : (258 : Int) ≠ 0)
  have hr4 := Int.emod_lt_of_pos a (by omega : (0 : Int) < 258)
  clear hts ht0
  go_enter Try.func4, Try.ntmps4
  go_wp2_with fail
  refine HN.out.mono ?_; rintro e w' ⟨rfl, rfl⟩
  go_wp2_with fail
  generalize w.alloc (.cells #[.slice At nt ct, .int .i64 0] 48) = W1 at *
  refine (HM.out _).mono ?_; rintro e w' ⟨rfl, rfl⟩
  go_wp2_with fail
  refine (HM2.out _).mono ?_; rintro e w' ⟨rfl, rfl⟩
  have H1 := hid (H0.out.alloc (.cells #[.int .i64 a, .int .i64 (a % 6), .int .i64 (a % 258)] 3))
  have hcl := lit_cells W1 [a, a % 6, a % 258] #[.int .i64 a, .int .i64 (a % 6), .int .i64 (a % 258)] 3 rfl
  have HCL := hid hcl
  have hgl := H0.out.taped.lt
  clear HM HM2 HN hcl
  go_wp2_with fail
  refine (next_any _ _ 3 _ H1.out.taped (by omega) (by omega)).mono ?_
  rintro e w2 ⟨r, r0, r1, rfl, ht, hg⟩
  obtain ⟨r, rfl⟩ := Int.eq_ofNat_of_zero_le r0
  have r2 : r < 3 := by omega
  have r3 : (r : Int) < 3 := by omega
  obtain ⟨v, hv, hvm⟩ := HCL.out r r2
  have hvb : -9223372036854775808 ≤ v ∧ v ≤ 9223372036854775807 := by simp at hvm; omega
  obtain ⟨v1, v2⟩ := hvb
  have hv' : w2.cell? ⟨W1.heap.size, r, none⟩ = some (.int .i64 v) := (World.cell?_of_block (hg.block W1.heap.size (by simp) (fun e => by injection e; omega))).trans hv
  have H2 := hid (H1.out.tape ht hg).1
  clear ht hg H1 H0 hv hvm r1 HCL hr1 hr2 hr3 hr4
  by_cases hc : v < 1 ∨ 256 < v
  · have HA := hid (fun w => new_no v w hc)
    have HR := hid (fun w => rnew_no v w hc)
    clear hc
    go_wp2_with fail
    refine (HA.out _).mono ?_; rintro e w' ⟨rfl, rfl⟩
    go_wp2_with fail
    refine (HR.out _).mono ?_; rintro e w' ⟨rfl, rfl⟩
    go_wp2
    go_loopw [11] (fun i wr => ∃ (k : Nat) (s : Option Dq), k ≤ 60 ∧ i = .int .i64 (k : Int) ∧ Tw w.heap.size (some w.heap.size) w wr (.pointer none : Value) (.pointer none : Value) s s (fun _ => False)) (fun i _ => 60 - (intOf i).toNat)
    case atStart => exact ⟨0, none, by omega, rfl, H2.out⟩
    case round =>
      obtain ⟨k, s, hk, rfl, ht⟩ := hrel
      have HX := hid ht
      clear ht H2
      by_cases hlt : k < 60
      · have hkI : (k : Int) < 60 := by omega
        go_wp2_with fail
        refine (left_any _ _ _ HX.out.taped).mono ?_; rintro e w' ⟨b, j, rfl, rfl⟩
        have H1 := hid (HX.out.drewN j)
        clear HX
        generalize wr.drewN j = V at *
        cases b with
        | false =>
          have HX := H1
          clear H1
          go_wp2_with fail
          refine (sane_any _).mono ?_; rintro e w9 ⟨rfl, h9⟩
          have H9 := hid (HX.out.quiet (Foot.after h9))
          clear h9
          go_wp2
          go_ret
          exact ⟨rfl, H9.out.bel⟩
        | true =>
          go_wp2_with fail
          refine (next_t H1.out 3 (by omega) (by omega)).mono ?_
          rintro e w1 ⟨rj, rj0, rj1, rfl, h2, _⟩
          have H2 := hid h2
          clear h2 H1
          have rj2 : rj ≤ 2 := by omega
          clear rj1
          go_upto_region 11 with fail
          obtain ⟨X2, _, hX2, hT2⟩ := H2.out.more (.cells #[.int .i64 rj, .int .i64 (k : Int)] 32)
          have HC6 := hid (Blk.new w1 32 #[.int .i64 rj, .int .i64 (k : Int)])
          have H6 := hid hT2
          have HX2 := hid hX2
          clear hT2 hX2 H2
          generalize w1.heap.size = nr at *
          generalize w1.alloc (.cells #[.int .i64 rj, .int .i64 (k : Int)] 32) = W6 at *
          go_wp2_with fail
          refine (next_t H6.out 9 (by omega) (by omega)).mono ?_
          rintro e w5 ⟨q, q0, q1, rfl, ht, hbut⟩
          have q2 : q ≤ 8 := by omega
          have H7 := hid ht
          have HC := hid (hbut.blk HC6.out HX2.out)
          clear ht hbut H6 HC6 q1
          have c0 := HC.out.cell 0
          have c1 := HC.out.cell 1
          go_upto_block 2 with fail
          go_cut [] (fun wx => ∃ s2 : Option Dq, Tw w.heap.size (some w.heap.size) w wx (.pointer none : Value) (.pointer none : Value) s2 s2 (fun _ => False))
          case first =>
            go_upto_if 78 with fail
            go_cut [78] (fun s78 wx => s78 = .bool (decide (q ≤ 3)) ∧ wx = w5)
            case first =>
              by_cases z0 : q = 0
              · subst z0
                go_wp2
                go_meet
                exact ⟨rfl, rfl⟩
              by_cases z1 : q = 1
              · subst z1
                go_wp2
                go_meet
                exact ⟨rfl, rfl⟩
              by_cases z2 : q = 2
              · subst z2
                go_wp2
                go_meet
                exact ⟨rfl, rfl⟩
              by_cases z3 : q = 3
              · subst z3
                go_wp2
                go_meet
                exact ⟨rfl, rfl⟩
              · have hd : decide (q ≤ 3) = false := decide_eq_false (by omega)
                go_wp2
                go_meet
                exact ⟨by rw [hd]; simp [z3], rfl⟩
            case rest =>
              obtain ⟨rfl, rfl⟩ := hcut
              by_cases c_3 : q ≤ 3
              · rw [decide_eq_true c_3]
                rcases hps : pushO s ⟨rj, (k : Int)⟩ with ⟨z, s2⟩
                have HA := hid (fun V (h' : Tw w.heap.size (some w.heap.size) w V (.pointer none : Value) (.pointer none : Value) s s X2) => apush_t h' ⟨rj, (k : Int)⟩)
                have HR := hid (fun V (h' : Tw w.heap.size (some w.heap.size) w V (.pointer none : Value) (.pointer none : Value) s2 s X2) => rpush_t h' ⟨rj, (k : Int)⟩)
                rw [hps] at HA HR
                go_wp2_with fail
                go_region_held3 (fun w' => w'.cell? ⟨nr, 0, none⟩ = some (.int .i64 rj) ∧ w'.cell? ⟨nr, 1, none⟩ = some (.int .i64 (k : Int))) (first | exact ⟨c0, c1⟩ | exact ⟨d0, d1⟩ | exact ⟨e0, e1⟩) (first | (go_at_call 9; refine (HA.out _ H7.out.drew).mono ?_; rintro e wa ⟨rfl, ha, hbut⟩; have Ha := hid ha; have HCa := hid (hbut.blk HC.out.drew HX2.out); have d0 := HCa.out.cell 0; have d1 := HCa.out.cell 1) | (go_at_call 17; refine (HR.out _ Ha.out).mono ?_; rintro e wb ⟨rfl, hb, hbut2⟩; have Hb := hid hb; have HCb := hid (hbut2.blk HCa.out HX2.out); have e0 := HCb.out.cell 0; have e1 := HCb.out.cell 1))
                go_wp2
                go_meet
                exact ⟨s2, Hb.out.drop⟩
              rw [decide_eq_false c_3]
              by_cases c_4 : q = 4
              · subst c_4
                rcases hps : popO s with ⟨x, ok, s2⟩
                obtain ⟨xj, xt⟩ := x
                have A1 := apop_t H7.out
                rw [hps] at A1
                simp only [rv] at A1
                go_wp2_with fail
                refine A1.mono ?_; rintro e wa ⟨rfl, ha, _⟩
                have Ha := hid ha
                clear ha A1 H7
                go_wp2_with fail
                obtain ⟨X3, _, hX3, hT3⟩ := Ha.out.more (.cells #[.int .i64 xj, .int .i64 xt] 32)
                have HC := hid (Blk.new wa 32 #[.int .i64 xj, .int .i64 xt])
                generalize wa.heap.size = na at *
                generalize wa.alloc (.cells #[.int .i64 xj, .int .i64 xt] 32) = Wa at *
                have A2 := rpop_t hT3
                rw [hps] at A2
                simp only [rv] at A2
                refine A2.mono ?_; rintro e wb ⟨rfl, hb, hbut⟩
                have HCb := hid ((hbut.blk HC.out hX3).alloc (.cells #[.int .i64 xj, .int .i64 xt] 32))
                have HDb := hid (Blk.new wb 32 #[.int .i64 xj, .int .i64 xt])
                have H8 := hid (hb.drop.alloc (.cells #[.int .i64 xj, .int .i64 xt] 32))
                clear hb hbut hT3 hX3 A2 Ha HC hps
                go_upto_region 24 with fail
                generalize wb.heap.size = nb at *
                generalize wb.alloc (.cells #[.int .i64 xj, .int .i64 xt] 32) = Wb at *
                have p0 := HCb.out.cell 0
                have p1 := HCb.out.cell 1
                have q0 := HDb.out.cell 0
                have q1 := HDb.out.cell 1
                cases ok with
                | true =>
                  go_wp2
                  go_meet
                  exact ⟨s2, H8.out⟩
                | false =>
                  go_wp2
                  go_meet
                  exact ⟨s2, H8.out⟩
              by_cases c_5 : q = 5
              · subst c_5
                rcases hps : popO s with ⟨x, ok, s2⟩
                obtain ⟨xj, xt⟩ := x
                have A1 := apop_t H7.out
                rw [hps] at A1
                simp only [rv] at A1
                go_wp2_with fail
                refine A1.mono ?_; rintro e wa ⟨rfl, ha, _⟩
                have Ha := hid ha
                clear ha A1 H7
                go_wp2_with fail
                obtain ⟨X3, _, hX3, hT3⟩ := Ha.out.more (.cells #[.int .i64 xj, .int .i64 xt] 32)
                have HC := hid (Blk.new wa 32 #[.int .i64 xj, .int .i64 xt])
                generalize wa.heap.size = na at *
                generalize wa.alloc (.cells #[.int .i64 xj, .int .i64 xt] 32) = Wa at *
                have A2 := rpop_t hT3
                rw [hps] at A2
                simp only [rv] at A2
                refine A2.mono ?_; rintro e wb ⟨rfl, hb, hbut⟩
                have HCb := hid ((hbut.blk HC.out hX3).alloc (.cells #[.int .i64 xj, .int .i64 xt] 32))
                have HDb := hid (Blk.new wb 32 #[.int .i64 xj, .int .i64 xt])
                have H8 := hid (hb.drop.alloc (.cells #[.int .i64 xj, .int .i64 xt] 32))
                clear hb hbut hT3 hX3 A2 Ha HC hps
                go_upto_region 24 with fail
                generalize wb.heap.size = nb at *
                generalize wb.alloc (.cells #[.int .i64 xj, .int .i64 xt] 32) = Wb at *
                have p0 := HCb.out.cell 0
                have p1 := HCb.out.cell 1
                have q0 := HDb.out.cell 0
                have q1 := HDb.out.cell 1
                cases ok with
                | true =>
                  go_wp2
                  go_meet
                  exact ⟨s2, H8.out⟩
                | false =>
                  go_wp2
                  go_meet
                  exact ⟨s2, H8.out⟩
              by_cases c_6 : q = 6
              · subst c_6
                rcases hps : stealO s with ⟨x, ok, s2⟩
                obtain ⟨xj, xt⟩ := x
                have A1 := asteal_t H7.out
                rw [hps] at A1
                simp only [rv] at A1
                go_wp2_with fail
                refine A1.mono ?_; rintro e wa ⟨rfl, ha, _⟩
                have Ha := hid ha
                clear ha A1 H7
                go_wp2_with fail
                obtain ⟨X3, _, hX3, hT3⟩ := Ha.out.more (.cells #[.int .i64 xj, .int .i64 xt] 32)
                have HC := hid (Blk.new wa 32 #[.int .i64 xj, .int .i64 xt])
                generalize wa.heap.size = na at *
                generalize wa.alloc (.cells #[.int .i64 xj, .int .i64 xt] 32) = Wa at *
                have A2 := rsteal_t hT3
                rw [hps] at A2
                simp only [rv] at A2
                refine A2.mono ?_; rintro e wb ⟨rfl, hb, hbut⟩
                have HCb := hid ((hbut.blk HC.out hX3).alloc (.cells #[.int .i64 xj, .int .i64 xt] 32))
                have HDb := hid (Blk.new wb 32 #[.int .i64 xj, .int .i64 xt])
                have H8 := hid (hb.drop.alloc (.cells #[.int .i64 xj, .int .i64 xt] 32))
                clear hb hbut hT3 hX3 A2 Ha HC hps
                go_upto_region 29 with fail
                generalize wb.heap.size = nb at *
                generalize wb.alloc (.cells #[.int .i64 xj, .int .i64 xt] 32) = Wb at *
                have p0 := HCb.out.cell 0
                have p1 := HCb.out.cell 1
                have q0 := HDb.out.cell 0
                have q1 := HDb.out.cell 1
                cases ok with
                | true =>
                  go_wp2
                  go_meet
                  exact ⟨s2, H8.out⟩
                | false =>
                  go_wp2
                  go_meet
                  exact ⟨s2, H8.out⟩
              by_cases c_7 : q = 7
              · subst c_7
                rcases hps : removeO s rj with ⟨z, s2⟩
                have HA := hid (fun V (h' : Tw w.heap.size (some w.heap.size) w V (.pointer none : Value) (.pointer none : Value) s s X2) => aremove_t h' rj)
                have HR := hid (fun V (h' : Tw w.heap.size (some w.heap.size) w V (.pointer none : Value) (.pointer none : Value) s2 s X2) => rremove_t h' rj)
                rw [hps] at HA HR
                go_wp2_with fail
                go_region_held3 (fun w' => w'.cell? ⟨nr, 0, none⟩ = some (.int .i64 rj) ∧ w'.cell? ⟨nr, 1, none⟩ = some (.int .i64 (k : Int))) (first | exact ⟨c0, c1⟩ | exact ⟨d0, d1⟩ | exact ⟨e0, e1⟩) (first | (go_at_call 20; refine (HA.out _ H7.out.drew).mono ?_; rintro e wa ⟨rfl, ha, hbut⟩; have Ha := hid ha; have HCa := hid (hbut.blk HC.out.drew HX2.out); have d0 := HCa.out.cell 0; have d1 := HCa.out.cell 1) | (go_at_call 21; refine (HR.out _ Ha.out).mono ?_; rintro e wb ⟨rfl, hb, hbut2⟩; have Hb := hid hb; have HCb := hid (hbut2.blk HCa.out HX2.out); have e0 := HCb.out.cell 0; have e1 := HCb.out.cell 1))
                go_wp2
                go_meet
                exact ⟨s2, Hb.out.drop⟩
              clear c0 c1 HC
              go_wp2_with fail
              refine (next_t H7.out 4 (by omega) (by omega)).mono ?_
              rintro e w6 ⟨p, p0, p1, rfl, ht, _⟩
              have H8 := hid ht
              clear ht H7 p1
              by_cases hp : p = 3
              · subst hp
                go_wp2_with fail
                refine (adrain_t H8.out).mono ?_
                rintro e wa ⟨v, n, rfl, X3, _, hv, hn, ho, hT, _⟩
                go_wp2_with fail
                refine (rdrain_t hT).mono ?_
                rintro e wb ⟨v2, n2, rfl, hn2, ho2, hT2, hbut⟩
                have HO := hid (hbut.row ho hv)
                have HO2 := hid ho2
                have H9 := hid hT2
                clear hT hT2 ho ho2 hbut hv H8
                go_wp2_with fail
                refine (same_v (own_low HO.out (Nat.zero_le _)) hn HO2.out hn2).mono ?_
                rintro e wc ⟨rfl, j, rfl⟩
                rw [decide_eq_true rfl]
                go_wp2
                go_meet
                exact ⟨drainO s, (H9.out.drewN j).drop⟩
              · go_wp2
                go_meet
                exact ⟨s, H8.out.drop⟩
          case rest =>
            obtain ⟨s2, hs2⟩ := hcut
            have H8 := hid hs2
            clear hs2 H7 HC HX2 c0 c1
            go_wp2_with fail
            refine (alen_t H8.out).mono ?_; rintro e wz ⟨rfl, rfl⟩
            go_wp2_with fail
            refine (rlen_t H8.out).mono ?_; rintro e wz ⟨rfl, rfl⟩
            go_wp2_with fail
            refine (alist_t H8.out).mono ?_
            rintro e wa ⟨v, n, rfl, X3, _, hv, hn, ho, hT, _⟩
            go_wp2_with fail
            refine (rlist_t hT).mono ?_
            rintro e wb ⟨v2, n2, rfl, hn2, ho2, hT2, hbut⟩
            have HO := hid (hbut.row ho hv)
            have HO2 := hid ho2
            have H9 := hid hT2
            clear hT hT2 ho ho2 hbut hv H8
            go_wp2_with fail
            refine (same_v (own_low HO.out (Nat.zero_le _)) hn HO2.out hn2).mono ?_
            rintro e wc ⟨rfl, j, rfl⟩
            rw [decide_eq_true rfl]
            go_wp2
            go_roundw
            case rel => exact ⟨k + 1, s2, by omega, by go_num, (H9.out.drewN j).drop⟩
            case measure => simp [intOf] <;> omega
      · go_wp2_with fail
        refine (sane_any _).mono ?_; rintro e w9 ⟨rfl, h9⟩
        have H9 := hid (HX.out.quiet (Foot.after h9))
        clear h9
        go_wp2
        go_ret
        exact ⟨rfl, H9.out.bel⟩
  · have hc1 : 1 ≤ v := by omega
    have hc2 : v ≤ 256 := by omega
    clear hc
    obtain ⟨m, rfl⟩ := Int.eq_ofNat_of_zero_le (show 0 ≤ v by omega)
    have HA := hid (fun w => new_yes m w (by omega) (by omega))
    have HR := hid (fun w => rnew_yes m w (by omega) (by omega))
    go_wp2_with fail
    refine (HA.out _).mono ?_
    intro e w3 hn
    obtain ⟨gA, rfl, h3⟩ := newA_ok H2.out (by omega) (by omega) hn
    have H3 := hid h3
    clear H2 hn h3
    go_wp2_with fail
    refine (HR.out _).mono ?_; rintro e w' ⟨rfl, rfl⟩
    have H4 := hid (newB_ok (n := m) H3.out (by omega) (by omega))
    clear H3
    go_wp2
    generalize w3.alloc (.cells #[.int .i64 (m : Int), .slice none 0 0] 50) = W4 at *
    generalize w3.heap.size = gB at *
    go_loopw [11] (fun i wr => ∃ (k : Nat) (s : Option Dq), k ≤ 60 ∧ i = .int .i64 (k : Int) ∧ Tw w.heap.size (some w.heap.size) w wr (.pointer (some ⟨gA, 0, none⟩)) (.pointer (some ⟨gB, 0, none⟩)) s s (fun _ => False)) (fun i _ => 60 - (intOf i).toNat)
    case atStart => exact ⟨0, (some ⟨m, []⟩), by omega, rfl, H4.out⟩
    case round =>
      obtain ⟨k, s, hk, rfl, ht⟩ := hrel
      have HX := hid ht
      clear ht H4
      by_cases hlt : k < 60
      · have hkI : (k : Int) < 60 := by omega
        go_wp2_with fail
        refine (left_any _ _ _ HX.out.taped).mono ?_; rintro e w' ⟨b, j, rfl, rfl⟩
        have H1 := hid (HX.out.drewN j)
        clear HX
        generalize wr.drewN j = V at *
        cases b with
        | false =>
          have HX := H1
          clear H1
          go_wp2_with fail
          refine (sane_any _).mono ?_; rintro e w9 ⟨rfl, h9⟩
          have H9 := hid (HX.out.quiet (Foot.after h9))
          clear h9
          go_wp2
          go_ret
          exact ⟨rfl, H9.out.bel⟩
        | true =>
          go_wp2_with fail
          refine (next_t H1.out 3 (by omega) (by omega)).mono ?_
          rintro e w1 ⟨rj, rj0, rj1, rfl, h2, _⟩
          have H2 := hid h2
          clear h2 H1
          have rj2 : rj ≤ 2 := by omega
          clear rj1
          go_upto_region 11 with fail
          obtain ⟨X2, _, hX2, hT2⟩ := H2.out.more (.cells #[.int .i64 rj, .int .i64 (k : Int)] 32)
          have HC6 := hid (Blk.new w1 32 #[.int .i64 rj, .int .i64 (k : Int)])
          have H6 := hid hT2
          have HX2 := hid hX2
          clear hT2 hX2 H2
          generalize w1.heap.size = nr at *
          generalize w1.alloc (.cells #[.int .i64 rj, .int .i64 (k : Int)] 32) = W6 at *
          go_wp2_with fail
          refine (next_t H6.out 9 (by omega) (by omega)).mono ?_
          rintro e w5 ⟨q, q0, q1, rfl, ht, hbut⟩
          have q2 : q ≤ 8 := by omega
          have H7 := hid ht
          have HC := hid (hbut.blk HC6.out HX2.out)
          clear ht hbut H6 HC6 q1
          have c0 := HC.out.cell 0
          have c1 := HC.out.cell 1
          go_upto_block 2 with fail
          go_cut [] (fun wx => ∃ s2 : Option Dq, Tw w.heap.size (some w.heap.size) w wx (.pointer (some ⟨gA, 0, none⟩)) (.pointer (some ⟨gB, 0, none⟩)) s2 s2 (fun _ => False))
          case first =>
            go_upto_if 78 with fail
            go_cut [78] (fun s78 wx => s78 = .bool (decide (q ≤ 3)) ∧ wx = w5)
            case first =>
              by_cases z0 : q = 0
              · subst z0
                go_wp2
                go_meet
                exact ⟨rfl, rfl⟩
              by_cases z1 : q = 1
              · subst z1
                go_wp2
                go_meet
                exact ⟨rfl, rfl⟩
              by_cases z2 : q = 2
              · subst z2
                go_wp2
                go_meet
                exact ⟨rfl, rfl⟩
              by_cases z3 : q = 3
              · subst z3
                go_wp2
                go_meet
                exact ⟨rfl, rfl⟩
              · have hd : decide (q ≤ 3) = false := decide_eq_false (by omega)
                go_wp2
                go_meet
                exact ⟨by rw [hd]; simp [z3], rfl⟩
            case rest =>
              obtain ⟨rfl, rfl⟩ := hcut
              by_cases c_3 : q ≤ 3
              · rw [decide_eq_true c_3]
                rcases hps : pushO s ⟨rj, (k : Int)⟩ with ⟨z, s2⟩
                have HA := hid (fun V (h' : Tw w.heap.size (some w.heap.size) w V (.pointer (some ⟨gA, 0, none⟩)) (.pointer (some ⟨gB, 0, none⟩)) s s X2) => apush_t h' ⟨rj, (k : Int)⟩)
                have HR := hid (fun V (h' : Tw w.heap.size (some w.heap.size) w V (.pointer (some ⟨gA, 0, none⟩)) (.pointer (some ⟨gB, 0, none⟩)) s2 s X2) => rpush_t h' ⟨rj, (k : Int)⟩)
                rw [hps] at HA HR
                go_wp2_with fail
                go_region_held3 (fun w' => w'.cell? ⟨nr, 0, none⟩ = some (.int .i64 rj) ∧ w'.cell? ⟨nr, 1, none⟩ = some (.int .i64 (k : Int))) (first | exact ⟨c0, c1⟩ | exact ⟨d0, d1⟩ | exact ⟨e0, e1⟩) (first | (go_at_call 9; refine (HA.out _ H7.out.drew).mono ?_; rintro e wa ⟨rfl, ha, hbut⟩; have Ha := hid ha; have HCa := hid (hbut.blk HC.out.drew HX2.out); have d0 := HCa.out.cell 0; have d1 := HCa.out.cell 1) | (go_at_call 17; refine (HR.out _ Ha.out).mono ?_; rintro e wb ⟨rfl, hb, hbut2⟩; have Hb := hid hb; have HCb := hid (hbut2.blk HCa.out HX2.out); have e0 := HCb.out.cell 0; have e1 := HCb.out.cell 1))
                go_wp2
                go_meet
                exact ⟨s2, Hb.out.drop⟩
              rw [decide_eq_false c_3]
              by_cases c_4 : q = 4
              · subst c_4
                rcases hps : popO s with ⟨x, ok, s2⟩
                obtain ⟨xj, xt⟩ := x
                have A1 := apop_t H7.out
                rw [hps] at A1
                simp only [rv] at A1
                go_wp2_with fail
                refine A1.mono ?_; rintro e wa ⟨rfl, ha, _⟩
                have Ha := hid ha
                clear ha A1 H7
                go_wp2_with fail
                obtain ⟨X3, _, hX3, hT3⟩ := Ha.out.more (.cells #[.int .i64 xj, .int .i64 xt] 32)
                have HC := hid (Blk.new wa 32 #[.int .i64 xj, .int .i64 xt])
                generalize wa.heap.size = na at *
                generalize wa.alloc (.cells #[.int .i64 xj, .int .i64 xt] 32) = Wa at *
                have A2 := rpop_t hT3
                rw [hps] at A2
                simp only [rv] at A2
                refine A2.mono ?_; rintro e wb ⟨rfl, hb, hbut⟩
                have HCb := hid ((hbut.blk HC.out hX3).alloc (.cells #[.int .i64 xj, .int .i64 xt] 32))
                have HDb := hid (Blk.new wb 32 #[.int .i64 xj, .int .i64 xt])
                have H8 := hid (hb.drop.alloc (.cells #[.int .i64 xj, .int .i64 xt] 32))
                clear hb hbut hT3 hX3 A2 Ha HC hps
                go_upto_region 24 with fail
                generalize wb.heap.size = nb at *
                generalize wb.alloc (.cells #[.int .i64 xj, .int .i64 xt] 32) = Wb at *
                have p0 := HCb.out.cell 0
                have p1 := HCb.out.cell 1
                have q0 := HDb.out.cell 0
                have q1 := HDb.out.cell 1
                cases ok with
                | true =>
                  go_wp2
                  go_meet
                  exact ⟨s2, H8.out⟩
                | false =>
                  go_wp2
                  go_meet
                  exact ⟨s2, H8.out⟩
              by_cases c_5 : q = 5
              · subst c_5
                rcases hps : popO s with ⟨x, ok, s2⟩
                obtain ⟨xj, xt⟩ := x
                have A1 := apop_t H7.out
                rw [hps] at A1
                simp only [rv] at A1
                go_wp2_with fail
                refine A1.mono ?_; rintro e wa ⟨rfl, ha, _⟩
                have Ha := hid ha
                clear ha A1 H7
                go_wp2_with fail
                obtain ⟨X3, _, hX3, hT3⟩ := Ha.out.more (.cells #[.int .i64 xj, .int .i64 xt] 32)
                have HC := hid (Blk.new wa 32 #[.int .i64 xj, .int .i64 xt])
                generalize wa.heap.size = na at *
                generalize wa.alloc (.cells #[.int .i64 xj, .int .i64 xt] 32) = Wa at *
                have A2 := rpop_t hT3
                rw [hps] at A2
                simp only [rv] at A2
                refine A2.mono ?_; rintro e wb ⟨rfl, hb, hbut⟩
                have HCb := hid ((hbut.blk HC.out hX3).alloc (.cells #[.int .i64 xj, .int .i64 xt] 32))
                have HDb := hid (Blk.new wb 32 #[.int .i64 xj, .int .i64 xt])
                have H8 := hid (hb.drop.alloc (.cells #[.int .i64 xj, .int .i64 xt] 32))
                clear hb hbut hT3 hX3 A2 Ha HC hps
                go_upto_region 24 with fail
                generalize wb.heap.size = nb at *
                generalize wb.alloc (.cells #[.int .i64 xj, .int .i64 xt] 32) = Wb at *
                have p0 := HCb.out.cell 0
                have p1 := HCb.out.cell 1
                have q0 := HDb.out.cell 0
                have q1 := HDb.out.cell 1
                cases ok with
                | true =>
                  go_wp2
                  go_meet
                  exact ⟨s2, H8.out⟩
                | false =>
                  go_wp2
                  go_meet
                  exact ⟨s2, H8.out⟩
              by_cases c_6 : q = 6
              · subst c_6
                rcases hps : stealO s with ⟨x, ok, s2⟩
                obtain ⟨xj, xt⟩ := x
                have A1 := asteal_t H7.out
                rw [hps] at A1
                simp only [rv] at A1
                go_wp2_with fail
                refine A1.mono ?_; rintro e wa ⟨rfl, ha, _⟩
                have Ha := hid ha
                clear ha A1 H7
                go_wp2_with fail
                obtain ⟨X3, _, hX3, hT3⟩ := Ha.out.more (.cells #[.int .i64 xj, .int .i64 xt] 32)
                have HC := hid (Blk.new wa 32 #[.int .i64 xj, .int .i64 xt])
                generalize wa.heap.size = na at *
                generalize wa.alloc (.cells #[.int .i64 xj, .int .i64 xt] 32) = Wa at *
                have A2 := rsteal_t hT3
                rw [hps] at A2
                simp only [rv] at A2
                refine A2.mono ?_; rintro e wb ⟨rfl, hb, hbut⟩
                have HCb := hid ((hbut.blk HC.out hX3).alloc (.cells #[.int .i64 xj, .int .i64 xt] 32))
                have HDb := hid (Blk.new wb 32 #[.int .i64 xj, .int .i64 xt])
                have H8 := hid (hb.drop.alloc (.cells #[.int .i64 xj, .int .i64 xt] 32))
                clear hb hbut hT3 hX3 A2 Ha HC hps
                go_upto_region 29 with fail
                generalize wb.heap.size = nb at *
                generalize wb.alloc (.cells #[.int .i64 xj, .int .i64 xt] 32) = Wb at *
                have p0 := HCb.out.cell 0
                have p1 := HCb.out.cell 1
                have q0 := HDb.out.cell 0
                have q1 := HDb.out.cell 1
                cases ok with
                | true =>
                  go_wp2
                  go_meet
                  exact ⟨s2, H8.out⟩
                | false =>
                  go_wp2
                  go_meet
                  exact ⟨s2, H8.out⟩
              by_cases c_7 : q = 7
              · subst c_7
                rcases hps : removeO s rj with ⟨z, s2⟩
                have HA := hid (fun V (h' : Tw w.heap.size (some w.heap.size) w V (.pointer (some ⟨gA, 0, none⟩)) (.pointer (some ⟨gB, 0, none⟩)) s s X2) => aremove_t h' rj)
                have HR := hid (fun V (h' : Tw w.heap.size (some w.heap.size) w V (.pointer (some ⟨gA, 0, none⟩)) (.pointer (some ⟨gB, 0, none⟩)) s2 s X2) => rremove_t h' rj)
                rw [hps] at HA HR
                go_wp2_with fail
                go_region_held3 (fun w' => w'.cell? ⟨nr, 0, none⟩ = some (.int .i64 rj) ∧ w'.cell? ⟨nr, 1, none⟩ = some (.int .i64 (k : Int))) (first | exact ⟨c0, c1⟩ | exact ⟨d0, d1⟩ | exact ⟨e0, e1⟩) (first | (go_at_call 20; refine (HA.out _ H7.out.drew).mono ?_; rintro e wa ⟨rfl, ha, hbut⟩; have Ha := hid ha; have HCa := hid (hbut.blk HC.out.drew HX2.out); have d0 := HCa.out.cell 0; have d1 := HCa.out.cell 1) | (go_at_call 21; refine (HR.out _ Ha.out).mono ?_; rintro e wb ⟨rfl, hb, hbut2⟩; have Hb := hid hb; have HCb := hid (hbut2.blk HCa.out HX2.out); have e0 := HCb.out.cell 0; have e1 := HCb.out.cell 1))
                go_wp2
                go_meet
                exact ⟨s2, Hb.out.drop⟩
              clear c0 c1 HC
              go_wp2_with fail
              refine (next_t H7.out 4 (by omega) (by omega)).mono ?_
              rintro e w6 ⟨p, p0, p1, rfl, ht, _⟩
              have H8 := hid ht
              clear ht H7 p1
              by_cases hp : p = 3
              · subst hp
                go_wp2_with fail
                refine (adrain_t H8.out).mono ?_
                rintro e wa ⟨v, n, rfl, X3, _, hv, hn, ho, hT, _⟩
                go_wp2_with fail
                refine (rdrain_t hT).mono ?_
                rintro e wb ⟨v2, n2, rfl, hn2, ho2, hT2, hbut⟩
                have HO := hid (hbut.row ho hv)
                have HO2 := hid ho2
                have H9 := hid hT2
                clear hT hT2 ho ho2 hbut hv H8
                go_wp2_with fail
                refine (same_v (own_low HO.out (Nat.zero_le _)) hn HO2.out hn2).mono ?_
                rintro e wc ⟨rfl, j, rfl⟩
                rw [decide_eq_true rfl]
                go_wp2
                go_meet
                exact ⟨drainO s, (H9.out.drewN j).drop⟩
              · go_wp2
                go_meet
                exact ⟨s, H8.out.drop⟩
          case rest =>
            obtain ⟨s2, hs2⟩ := hcut
            have H8 := hid hs2
            clear hs2 H7 HC HX2 c0 c1
            go_wp2_with fail
            refine (alen_t H8.out).mono ?_; rintro e wz ⟨rfl, rfl⟩
            go_wp2_with fail
            refine (rlen_t H8.out).mono ?_; rintro e wz ⟨rfl, rfl⟩
            go_wp2_with fail
            refine (alist_t H8.out).mono ?_
            rintro e wa ⟨v, n, rfl, X3, _, hv, hn, ho, hT, _⟩
            go_wp2_with fail
            refine (rlist_t hT).mono ?_
            rintro e wb ⟨v2, n2, rfl, hn2, ho2, hT2, hbut⟩
            have HO := hid (hbut.row ho hv)
            have HO2 := hid ho2
            have H9 := hid hT2
            clear hT hT2 ho ho2 hbut hv H8
            go_wp2_with fail
            refine (same_v (own_low HO.out (Nat.zero_le _)) hn HO2.out hn2).mono ?_
            rintro e wc ⟨rfl, j, rfl⟩
            rw [decide_eq_true rfl]
            go_wp2
            go_roundw
            case rel => exact ⟨k + 1, s2, by omega, by go_num, (H9.out.drewN j).drop⟩
            case measure => simp [intOf] <;> omega
      · go_wp2_with fail
        refine (sane_any _).mono ?_; rintro e w9 ⟨rfl, h9⟩
        have H9 := hid (HX.out.quiet (Foot.after h9))
        clear h9
        go_wp2
        go_ret
        exact ⟨rfl, H9.out.bel⟩
end Go.Proofs.Ytmamcbemfccieaa
