/-
  The law DequeEnds: plain law and walk.
-/
import Derived.Test.YtmamcbemfccieaaDeqSane
namespace Go.Proofs.Ytmamcbemfccieaa
open Go.RowKit
set_option linter.unusedVariables false

/-- The tasks lo, lo + 1, .., n of them. -/
def segT (lo n : Nat) : List Rf := (List.range n).map fun i : Nat => (⟨0, ((lo + i : Nat) : Int)⟩ : Rf)
theorem segT_len (lo n : Nat) : (segT lo n).length = n := by unfold segT; simp
theorem segT_succ (lo n : Nat) : segT lo (n + 1) = segT lo n ++ [⟨0, ((lo + n : Nat) : Int)⟩] := by unfold segT; rw [List.range_succ, List.map_append]; rfl
theorem segT_cons (lo n : Nat) : segT lo (n + 1) = ⟨0, (lo : Int)⟩ :: segT (lo + 1) n := by
  unfold segT
  rw [List.range_succ_eq_map, List.map_cons, List.map_map]
  congr 1
  apply List.map_congr_left
  intro i _
  simp only [Function.comp]
  congr 2
  omega
theorem ends_push {m k : Nat} (hk : k < m) : pushO (some ⟨m, segT 0 k⟩) ⟨0, (k : Int)⟩ = (0, some ⟨m, segT 0 (k + 1)⟩) := by
  unfold pushO pushS
  simp only
  rw [if_neg (by rw [segT_len]; omega), segT_succ, Nat.zero_add]
theorem ends_pop (m lo n : Nat) : popO (some ⟨m, segT lo (n + 1)⟩) = (⟨0, ((lo + n : Nat) : Int)⟩, true, some ⟨m, segT lo n⟩) := by
  unfold popO popS
  rw [segT_succ]
  simp
theorem ends_steal (m lo n : Nat) : stealO (some ⟨m, segT lo (n + 1)⟩) = (⟨0, (lo : Int)⟩, true, some ⟨m, segT (lo + 1) n⟩) := by
  unfold stealO stealS
  rw [segT_cons]
theorem ends_none (m lo : Nat) : popO (some ⟨m, segT lo 0⟩) = (⟨0, 0⟩, false, some ⟨m, segT lo 0⟩) := by rfl

set_option maxRecDepth 100000 in
set_option maxHeartbeats 4000000 in
theorem ends_walk (At : Option Addr) (nt ct : Nat) (ts : List Int) {w : World} (hts : IntsAt w w.heap.size At nt ts) (hnt : nt ≤ 9223372036854775807) (a : Int) (a1 : -9223372036854775808 ≤ a) (a2 : a ≤ 9223372036854775807) :
    Calls Try.prog 3 #[.slice At nt ct, .int .i64 a] w fun e w' => e = .returned (.bool true) ∧ Below w.heap.size w w' := by
  have HN := hid (new_any At nt ct w)
  have ht0 : TapeAt w.heap.size w.heap.size (w.alloc (.cells #[.slice At nt ct, .int .i64 0] 48)) :=
    ⟨Nat.le_refl _, At, nt, ct, ts, 0, Blk.new w _ _, by omega, hnt, hts.below ((Below.refl _ _).alloc (Nat.le_refl _) _) (Nat.le_refl _)⟩
  have H0 : Hid (Tw w.heap.size (some w.heap.size) w (w.alloc (.cells #[.slice At nt ct, .int .i64 0] 48)) (.pointer none) (.pointer none) none none (fun _ => False)) := Tw.nil (fun g hg => by injection hg with hg; subst hg; exact ht0) ((Below.refl _ _).alloc (Nat.le_refl _) _) (Nat.le_refl _)
  have HM := hid (fun w => mod_any a 40 w a1 a2 (by omega) (by omega))
  have hr1 := Int.emod_nonneg a (by omega : (40 : Int) ≠ 0)
  have hr2 := Int.emod_lt_of_pos a (by omega : (0 : Int) < 40)
  have hw : IntKind.i64.wrap (1 + a % 40) = 1 + a % 40 := IntWalk.i64_in _ (by omega)
  obtain ⟨m, hm⟩ : ∃ m : Nat, 1 + a % 40 = (m : Int) := ⟨(1 + a % 40).toNat, by omega⟩
  have hm1 : 1 ≤ m := by omega
  have hm2 : m ≤ 40 := by omega
  clear hts ht0
  go_enter Try.func3, Try.ntmps3
  go_wp2_with fail
  refine HN.out.mono ?_; rintro e w' ⟨rfl, rfl⟩
  go_wp2_with fail
  generalize w.alloc (.cells #[.slice At nt ct, .int .i64 0] 48) = W1 at *
  refine (HM.out _).mono ?_; rintro e w' ⟨rfl, rfl⟩
  go_wp2_with fail
  clear hw hr1 hr2 HM HN a1 a2
  clear hm
  refine (new_yes m W1 hm1 (by omega)).mono ?_
  intro e w2 hn
  obtain ⟨g, rfl, h1⟩ := newA_ok H0.out hm1 (by omega) hn
  have H1 := hid h1
  clear hn h1 H0
  go_wp2_with fail
  go_loopw [9] (fun i wr => ∃ k : Nat, k ≤ m ∧ i = .int .i64 (k : Int) ∧ Tw w.heap.size (some w.heap.size) w wr (.pointer (some ⟨g, 0, none⟩)) (.pointer none) (some ⟨m, segT 0 k⟩) none (fun _ => False)) (fun i _ => m - (intOf i).toNat)
  case atStart => exact ⟨0, by omega, rfl, H1.out⟩
  case round =>
    obtain ⟨k, hk, rfl, h⟩ := hrel
    have H := hid h
    clear h
    by_cases hlt : k < m
    · have e1 : (k : Int) < (m : Int) := by omega
      go_wp2_with fail
      have A1 := apush_t H.out ⟨0, (k : Int)⟩
      rw [ends_push hlt] at A1
      refine A1.mono ?_
      rintro e w3 ⟨rfl, h2, _⟩
      have H2 := hid h2
      clear A1 h2 H
      go_wp2
      go_roundw
      case rel => exact ⟨k + 1, by omega, by go_num, H2.out⟩
      case measure => simp [intOf]; omega
    · have hkm : k = m := by omega
      subst hkm
      have e1 : ¬ (k : Int) < (k : Int) := by omega
      have e2 : IntKind.i64.wrap ((k : Int) - 1) = (k : Int) - 1 := IntWalk.i64_in _ (by omega)
      go_wp2_with fail
      go_loopw [10, 11] (fun lo hi wr => ∃ b n : Nat, b + n ≤ k ∧ lo = .int .i64 (b : Int) ∧ hi = .int .i64 ((b : Int) + (n : Int) - 1) ∧ Tw w.heap.size (some w.heap.size) w wr (.pointer (some ⟨g, 0, none⟩)) (.pointer none) (some ⟨k, segT b n⟩) none (fun _ => False)) (fun lo hi _ => ((intOf hi) - (intOf lo) + 1).toNat)
      case atStart => exact ⟨0, k, by omega, rfl, by simp, H.out⟩
      case round =>
        obtain ⟨b, n, hbn, rfl, rfl, h⟩ := hrel
        have H := hid h
        clear h
        rcases n with _ | n
        · have e3 : ¬ (b : Int) ≤ (b : Int) + ((0 : Nat) : Int) - 1 := by omega
          go_wp2_with fail
          have A1 := apop_t H.out
          rw [ends_none] at A1
          simp only [rv] at A1
          refine A1.mono ?_
          rintro e w3 ⟨rfl, h2, _⟩
          have H2 := hid h2
          clear A1 h2 H
          have H3 := hid (H2.out.alloc (.cells #[.int .i64 0, .int .i64 0] 32))
          go_upto_region 23 with fail
          generalize w3.alloc (.cells #[.int .i64 0, .int .i64 0] 32) = W3 at *
          go_wp2_with fail
          refine (alen_t H3.out).mono ?_
          rintro e w6 ⟨rfl, rfl⟩
          have hu : lenO (some ⟨k, segT b 0⟩) = 0 := rfl
          rw [hu]
          go_wp2_with fail
          refine (sane_any _).mono ?_
          rintro e w9 ⟨rfl, h9⟩
          have H9 := hid (H3.out.quiet (Foot.after h9))
          clear h9
          go_wp2
          go_ret
          exact ⟨rfl, H9.out.bel⟩
        · have hcast : ((b + n : Nat) : Int) = ((b + n : Nat) : Int) := rfl
          have hh : (b : Int) + ((n + 1 : Nat) : Int) - 1 = ((b + n : Nat) : Int) := by omega
          rw [hh]
          have hq2 : (b : Int) ≤ ((b + n : Nat) : Int) := by omega
          have hq3 : ((b + n : Nat) : Int) ≤ 40 := by omega
          have hq4 : ((b + n : Nat) : Int) = (b : Int) + (n : Int) := by omega
          have HPOP := hid (ends_pop k b n)
          generalize ((b + n : Nat) : Int) = q at *
          have HQ4 := hid hq4
          clear hq4 hh hcast
          go_wp2_with fail
          refine (next_t H.out 2 (by omega) (by omega)).mono ?_
          rintro e w3 ⟨r, r0, r1, rfl, h2, _⟩
          have H2 := hid h2
          clear h2 H
          have r2 : r ≤ 1 := by omega
          clear r1
          by_cases hr : r = 0
          · subst hr
            go_wp2_with fail
            have A1 := apop_t H2.out
            rw [HPOP.out] at A1
            simp only [rv] at A1
            refine A1.mono ?_
            rintro e w4 ⟨rfl, h3, _⟩
            have H3 := hid h3
            clear A1 h3 H2
            have H4 := hid (H3.out.alloc (.cells #[.int .i64 0, .int .i64 q] 32))
            have HC := hid (Blk.new w4 32 #[.int .i64 0, .int .i64 q])
            go_upto_region 15 with fail
            generalize w4.heap.size = n4 at *
            generalize w4.alloc (.cells #[.int .i64 0, .int .i64 q] 32) = W4 at *
            have p1 := HC.out.cell 1
            have ew : IntKind.i64.wrap (q - 1) = q - 1 := IntWalk.i64_in _ (by omega)
            go_wp2
            go_roundw
            case rel => exact ⟨b, n, by omega, rfl, by have := HQ4.out; congr 1; omega, H4.out⟩
            case measure => have := HQ4.out; simp [intOf]; omega
          · go_wp2_with fail
            have A1 := asteal_t H2.out
            rw [ends_steal] at A1
            simp only [rv] at A1
            refine A1.mono ?_
            rintro e w4 ⟨rfl, h3, _⟩
            have H3 := hid h3
            clear A1 h3 H2
            have H4 := hid (H3.out.alloc (.cells #[.int .i64 0, .int .i64 (b : Int)] 32))
            have HC := hid (Blk.new w4 32 #[.int .i64 0, .int .i64 (b : Int)])
            go_upto_region 19 with fail
            generalize w4.heap.size = n4 at *
            generalize w4.alloc (.cells #[.int .i64 0, .int .i64 (b : Int)] 32) = W4 at *
            have p1 := HC.out.cell 1
            have ew : IntKind.i64.wrap ((b : Int) + 1) = (b : Int) + 1 := IntWalk.i64_in _ (by omega)
            go_wp2
            go_roundw
            case rel => exact ⟨b + 1, n, by omega, by go_num, by have := HQ4.out; congr 1; omega, H4.out⟩
            case measure => have := HQ4.out; simp [intOf]; omega
end Go.Proofs.Ytmamcbemfccieaa
