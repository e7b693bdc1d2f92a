/-
  Layer 23: the chapter's example.
-/
import Derived.Test.YtmamcbemfccieaaDeqL
namespace Go.Proofs.Ytmamcbemfccieaa
open Go.RowKit
set_option linter.unusedVariables false

def seqJ (k : Nat) : List Rf := (List.range k).map fun i : Nat => (⟨(i : Int) + 1, 0⟩ : Rf)
theorem seqJ_succ (k : Nat) : seqJ (k + 1) = seqJ k ++ [⟨(k : Int) + 1, 0⟩] := by unfold seqJ; rw [List.range_succ, List.map_append]; rfl
theorem seqJ_len (k : Nat) : (seqJ k).length = k := by unfold seqJ; simp
theorem push_seqJ {k : Nat} (hk : k < 3) : pushO (some ⟨3, seqJ k⟩) ⟨(k : Int) + 1, 0⟩ = (0, some ⟨3, seqJ (k + 1)⟩) := by
  unfold pushO pushS
  simp only
  rw [if_neg (by rw [seqJ_len]; omega), seqJ_succ]
theorem sane_p1 : pushO (some ⟨3, seqJ 3⟩) ⟨0, 0⟩ = (19, some ⟨3, seqJ 3⟩) := by rfl
theorem sane_p2 : popO (some ⟨3, seqJ 3⟩) = (⟨3, 0⟩, true, some ⟨3, seqJ 2⟩) := by rfl
theorem sane_p3 : stealO (some ⟨3, seqJ 2⟩) = (⟨1, 0⟩, true, some ⟨3, [⟨2, 0⟩]⟩) := by rfl
set_option maxHeartbeats 2000000 in
theorem sane_any (w : World) : Calls Try.prog 14 #[] w fun e w' => e = .returned (.bool true) ∧ Below w.heap.size w w' := by
  have H0 : Hid (Tw w.heap.size none w w (.pointer none) (.pointer none) none none (fun _ => False)) := Tw.nil (fun g hg => by cases hg) (Below.refl _ _) (Nat.le_refl _)
  have HN := hid (new_yes 3 w (by omega) (by omega))
  rw [show ((3 : Nat) : Int) = 3 from rfl] at HN
  go_enter Try.func14, Try.ntmps14
  go_wp2_with fail
  refine HN.out.mono ?_
  intro e w1 hn
  obtain ⟨g, rfl, h1⟩ := newA_ok H0.out (by omega) (by omega) hn
  have H1 := hid h1
  clear hn h1 H0 HN
  go_wp2_with fail
  go_loopw [3] (fun i wr => ∃ k : Nat, k ≤ 3 ∧ i = .int .i64 ((k : Int) + 1) ∧ Tw w.heap.size none w wr (.pointer (some ⟨g, 0, none⟩)) (.pointer none) (some ⟨3, seqJ k⟩) none (fun _ => False)) (fun i _ => 4 - (intOf i).toNat)
  case atStart => exact ⟨0, by omega, rfl, H1.out⟩
  case round =>
    obtain ⟨k, hk, rfl, h⟩ := hrel
    have H := hid h
    clear h
    by_cases hlt : k < 3
    · have e1 : (k : Int) + 1 ≤ 3 := by omega
      go_wp2_with fail
      have A1 := apush_t H.out ⟨(k : Int) + 1, 0⟩
      rw [push_seqJ hlt] at A1
      refine A1.mono ?_
      rintro e w2 ⟨rfl, h2, _⟩
      have H2 := hid h2
      clear A1 h2
      go_wp2
      go_roundw
      case rel => exact ⟨k + 1, by omega, by go_num, H2.out⟩
      case measure => simp [intOf]; omega
    · have hk3 : k = 3 := by omega
      subst hk3
      go_wp2_with fail
      have A1 := apush_t H.out ⟨0, 0⟩
      rw [sane_p1] at A1
      refine A1.mono ?_
      rintro e w2 ⟨rfl, h2, _⟩
      have H2 := hid h2
      clear A1 h2
      go_wp2_with fail
      have A1 := apop_t H2.out
      rw [sane_p2] at A1
      simp only [rv] at A1
      refine A1.mono ?_
      rintro e w3 ⟨rfl, h3, _⟩
      have H3 := hid h3
      clear A1 h3
      go_wp2_with fail
      obtain ⟨X, hX1, hX2, hT⟩ := H3.out.more (.cells #[.int .i64 3, .int .i64 0] 32)
      have HC := hid (Blk.new w3 32 #[.int .i64 3, .int .i64 0])
      generalize w3.heap.size = n3 at *
      generalize w3.alloc (.cells #[.int .i64 3, .int .i64 0] 32) = W3 at *
      have A1 := asteal_t hT
      rw [sane_p3] at A1
      simp only [rv] at A1
      refine A1.mono ?_
      rintro e w4 ⟨rfl, h4, hbut⟩
      have HC4 := hid (hbut.blk HC.out hX2)
      have H4 := hid h4
      have HX2 := hid hX2
      clear A1 h4 hbut hT hX1 hX2
      have HC5 := hid (HC4.out.alloc (.cells #[.int .i64 1, .int .i64 0] 32))
      have HD5 := hid (Blk.new w4 32 #[.int .i64 1, .int .i64 0])
      have H5 := hid (H4.out.alloc (.cells #[.int .i64 1, .int .i64 0] 32))
      go_upto_region 12 with fail
      generalize w4.heap.size = n4 at *
      generalize w4.alloc (.cells #[.int .i64 1, .int .i64 0] 32) = W4 at *
      have p0 := HC5.out.cell 0
      have q0 := HD5.out.cell 0
      go_wp2_with fail
      refine (alen_t H5.out).mono ?_
      rintro e w6 ⟨rfl, rfl⟩
      have hu : lenO (some ⟨3, [⟨2, 0⟩]⟩) = 1 := rfl
      rw [hu]
      go_wp2
      go_ret
      exact ⟨rfl, H5.out.bel⟩
end Go.Proofs.Ytmamcbemfccieaa
