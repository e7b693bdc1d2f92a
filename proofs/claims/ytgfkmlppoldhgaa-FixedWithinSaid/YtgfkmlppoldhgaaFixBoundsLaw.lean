/-
  The law FixedBounds: the walk.
-/
import Derived.Test.YtgfkmlppoldhgaaFixLaws
import Derived.Test.YtgfkmlppoldhgaaWeights
namespace Go.Proofs.Ytgfkmlppoldhgaa
open Go.RowKit
set_option linter.unusedVariables false

theorem grown_below {B g : Nat} {a b c : World} (h : Below B a b) (k : b.grownBy c (some g)) (hB : B ≤ b.heap.size) (hg : B ≤ g) : Below B a c :=
  h.grown k hB (fun x e => by injection e with e; omega)

set_option maxRecDepth 100000 in
set_option maxHeartbeats 4000000 in
theorem bounds_law (At : Option Addr) (nt ct : Nat) (ts : List Int) (w : World) (hts : IntsAt w w.heap.size At nt ts) (hnt : nt ≤ 9223372036854775807) (A : Option Addr) (n c : Nat) (xs : List Int) (hxs : IntsAt w w.heap.size A n xs) (hn : n ≤ 9223372036854775807)
    (lo : Int) (hlo1 : -9223372036854775808 ≤ lo) (hlo2 : lo ≤ 9223372036854775807) (hi : Int) (hhi1 : -9223372036854775808 ≤ hi) (hhi2 : hi ≤ 9223372036854775807) :
    Calls Try.prog 3 #[.slice At nt ct, .slice A n c, .int .i64 lo, .int .i64 hi] w fun e w' => e = .returned (.bool true) ∧ Below w.heap.size w w' := by
  have HN := hid (new_any At nt ct w)
  have ht0 : TapeAt w.heap.size w.heap.size (w.alloc (.cells #[.slice At nt ct, .int .i64 0] 41)) :=
    ⟨Nat.le_refl _, At, nt, ct, ts, 0, Blk.new w _ _, by omega, hnt, hts.below ((Below.refl _ _).alloc (Nat.le_refl _) _) (Nat.le_refl _)⟩
  have HT0 := hid ht0
  have HB0 : Hid (Below w.heap.size w (w.alloc (.cells #[.slice At nt ct, .int .i64 0] 41))) := (Below.refl _ _).alloc (Nat.le_refl _) _
  have HL := hid hxs
  clear hts hxs ht0
  go_enter Try.func3, Try.ntmps3
  go_wp2_with fail
  refine HN.out.mono ?_; rintro e w' ⟨rfl, rfl⟩
  go_wp2
  generalize w.alloc (.cells #[.slice At nt ct, .int .i64 0] 41) = W1 at *
  go_loopw [10] (fun i wr => ∃ k : Nat, k ≤ 5 ∧ i = .int .i64 k ∧ TapeAt w.heap.size w.heap.size wr ∧ Below w.heap.size w wr) (fun i _ => 5 - (intOf i).toNat)
  case atStart => exact ⟨0, by omega, rfl, HT0.out, HB0.out⟩
  case round =>
    obtain ⟨i, hi5, rfl, ht, hb⟩ := hrel
    have HT1 := hid ht
    have HB1 := hid hb
    have hsz := hb.size
    clear ht hb HT0 HB0 HN
    by_cases hlt : i < 5
    · go_wp2_with fail
      refine (next_any _ _ 9 _ HT1.out (by omega) (by omega)).mono ?_
      rintro e w1 ⟨r, hr0, hr1, rfl, ht1, hg1⟩
      have hr : r ≤ 8 := by omega
      have hb1 := grown_below HB1.out hg1 hsz (Nat.le_refl _)
      have hs1 := hb1.size
      have HP := hid (pick_any w.heap.size w.heap.size w1.heap.size 4 (· ∈ [r, 81, 82, 3]) (w1.alloc (.cells #[.int .i64 r, .int .i64 81, .int .i64 82, .int .i64 3] 3)) (ht1.alloc _) (by have := ht1.lt; omega) (by simp) (by omega) (by omega) (lit_cells w1 [r, 81, 82, 3] _ _ rfl))
      have HB2 := hid (hb1.alloc hs1 (.cells #[.int .i64 r, .int .i64 81, .int .i64 82, .int .i64 3] 3))
      have hs2 : w.heap.size ≤ (w1.alloc (.cells #[.int .i64 r, .int .i64 81, .int .i64 82, .int .i64 3] 3)).heap.size := by simp; omega
      have HS2 := hid hs2
      clear ht1 hg1 hb1 hs1 hs2 hr1 HT1 HB1
      go_wp2_with fail
      refine HP.out.mono ?_
      rintro e w2 ⟨p, hp, rfl, ht2, hg2⟩
      have hp2 : 0 ≤ p ∧ p ≤ 82 := by simp at hp; omega
      have hb2 := grown_below HB2.out hg2 HS2.out (Nat.le_refl _)
      have HB3 := hid hb2
      have HT3 := hid ht2
      have hs3 := hb2.size
      clear hp hg2 ht2 HP hb2 HB2 HS2
      obtain ⟨k, rfl⟩ := Int.eq_ofNat_of_zero_le hp2.1
      have hk82 : k ≤ 82 := by omega
      clear hp2
      go_wp2_with fail
      refine (weights2 _ _ k _ HT3.out (by omega)).mono ?_
      rintro e w4 ⟨A', c', ws, rfl, hws, ho3, ht3, hg3⟩
      have hlo : w.heap.size < w2.heap.size := by have := HT3.out.lt; omega
      have HB4 := hid (grown_below HB3.out hg3 hs3 (Nat.le_refl _))
      have HT4 := hid ht3
      have HO4 := hid ho3
      have hs4 := HB4.out.size
      clear hg3 ht3 ho3 hws HB3 HT3
      go_wp2_with fail
      refine (next_any _ _ 2000 _ HT4.out (by omega) (by omega)).mono ?_
      rintro e w5 ⟨q, hq0, hq1, rfl, ht, hg⟩
      have hq : q ≤ 1999 := by omega
      have HB5 := hid (grown_below HB4.out hg hs4 (Nat.le_refl _))
      have HT5 := hid ht
      have HO5 := hid (HO4.out.kept hg hlo)
      have hs5 := HB5.out.size
      clear ht hg HB4 HT4 HO4 hq1
      go_wp2_with fail
      refine (next_any _ _ 500 _ HT5.out (by omega) (by omega)).mono ?_
      rintro e w6 ⟨u, hu0, hu1, rfl, ht, hg⟩
      have hu : u ≤ 499 := by omega
      have HB6 := hid (grown_below HB5.out hg hs5 (Nat.le_refl _))
      have HT6 := hid ht
      have HO6 := hid (HO5.out.kept hg hlo)
      have hs6 := HB6.out.size
      clear ht hg HB5 HT5 HO5 hu1
      have HP := hid (pick_any w.heap.size w.heap.size w6.heap.size 4 (· ∈ [u, -1, 1099511627776, 68719476736]) (w6.alloc (.cells #[.int .i64 u, .int .i64 (-1), .int .i64 1099511627776, .int .i64 68719476736] 3)) (HT6.out.alloc _) (by have := HT6.out.lt; omega) (by simp) (by omega) (by omega) (lit_cells w6 [u, -1, 1099511627776, 68719476736] _ _ rfl))
      have HBa := hid (HB6.out.alloc hs6 (.cells #[.int .i64 u, .int .i64 (-1), .int .i64 1099511627776, .int .i64 68719476736] 3))
      have HOa := hid (HO6.out.alloc (.cells #[.int .i64 u, .int .i64 (-1), .int .i64 1099511627776, .int .i64 68719476736] 3))
      have hsa : w.heap.size ≤ (w6.alloc (.cells #[.int .i64 u, .int .i64 (-1), .int .i64 1099511627776, .int .i64 68719476736] 3)).heap.size := by simp; omega
      have HSa := hid hsa
      clear hsa HT6 HB6 HO6
      go_wp2_with fail
      refine HP.out.mono ?_
      rintro e w7 ⟨y, hp, rfl, ht, hg⟩
      have hy : -1 ≤ y ∧ y ≤ 1099511627776 := by simp at hp; omega
      obtain ⟨hy1, hy2⟩ := hy
      have HB7 := hid (grown_below HBa.out hg HSa.out (Nat.le_refl _))
      have HT7 := hid ht
      have HO7 := hid (HOa.out.kept hg hlo)
      have hs7 := HB7.out.size
      clear hp ht hg HP HBa HOa HSa
      by_cases hk0 : (0 : Int) < (k : Int)
      · have hk1 : 0 < k := by omega
        go_wp2_with fail
        refine (next_any _ _ 4 _ HT7.out (by omega) (by omega)).mono ?_
        rintro e w8 ⟨z, hz0, hz1, rfl, ht, hg⟩
        have hz : z ≤ 3 := by omega
        have HB8 := hid (grown_below HB7.out hg hs7 (Nat.le_refl _))
        have HT8 := hid ht
        have HO8 := hid (HO7.out.kept hg hlo)
        have hs8 := HB8.out.size
        clear ht hg HB7 HT7 HO7 hz1
        by_cases hz3 : z = 3
        · have hzt : (z == 3) = true := by simp [hz3]
          clear hz3
          have HP := hid (pick_any w.heap.size w.heap.size w8.heap.size 3 (· ∈ [32767, -32767, 32768]) (w8.alloc (.cells #[.int .i64 32767, .int .i64 (-32767), .int .i64 32768] 3)) (HT8.out.alloc _) (by have := HT8.out.lt; omega) (by simp) (by omega) (by omega) (lit_cells w8 [32767, -32767, 32768] _ _ rfl))
          have HBa := hid (HB8.out.alloc hs8 (.cells #[.int .i64 32767, .int .i64 (-32767), .int .i64 32768] 3))
          have HOa := hid (HO8.out.alloc (.cells #[.int .i64 32767, .int .i64 (-32767), .int .i64 32768] 3))
          have hsa : w.heap.size ≤ (w8.alloc (.cells #[.int .i64 32767, .int .i64 (-32767), .int .i64 32768] 3)).heap.size := by simp; omega
          have HSa := hid hsa
          clear hsa HT8 HB8 HO8
          go_wp2_with fail
          refine HP.out.mono ?_
          rintro e w9 ⟨p3, hp, rfl, ht, hg⟩
          have hp3 : -32767 ≤ p3 ∧ p3 ≤ 32768 := by simp at hp; omega
          obtain ⟨hp31, hp32⟩ := hp3
          have HB9 := hid (grown_below HBa.out hg HSa.out (Nat.le_refl _))
          have HT9 := hid ht
          have HO9 := hid (HOa.out.kept hg hlo)
          have hs9 := HB9.out.size
          clear hp ht hg HP HBa HOa HSa
          obtain ⟨gv, hA, hglo, hglt, hfr⟩ := HO9.out.2 hk1
          subst hA
          obtain ⟨b0, o0, hA, _, hcc⟩ := HO9.out.1.open_ hk1
          injection hA with hA
          injection hA with hA1 hA2
          subst hA1; subst hA2
          obtain ⟨v0, _, _, _, _, hc0⟩ := hcc 0 hk1
          have hc1 : w9.cell? ⟨gv, 0, none⟩ = some (.int .i64 v0) := hc0
          have hf1 := hfr 0
          have HI : Hid (IntsAt (w9.setCell ⟨gv, 0, none⟩ (.int .i64 p3)) w9.heap.size (some ⟨gv, 0, none⟩) k (ws.set 0 p3)) := hid (HO9.out.1.set (off := 0) hk1 (by omega))
          have HT := hid (HT9.out.far (p := ⟨gv, 0, none⟩) (by simp; omega) (.int .i64 p3))
          have HBW := hid (HB9.out.setCell (p := ⟨gv, 0, none⟩) (by simp; omega) (.int .i64 p3))
          clear hcc hc0 hfr HT9 HB9 HO9
          by_cases h4 : i = 4
          · have hi4 : ((i : Int) == 4) = true := by simp; omega
            clear HI
            by_cases hbig : 1000 < n
            · go_wp2
              go_roundw
              case rel => exact ⟨i + 1, by omega, by go_num, HT.out, HBW.out⟩
              case measure => simp [intOf]; omega
            · have HI := hid (HL.out.below HBW.out (Nat.le_refl _))
              go_wp2_with fail
              refine (bounds_any _ _ _ _ _ _ _ _ HI.out hn).mono ?_; rintro e w' ⟨rfl, rfl⟩
              go_wp2_with fail
              refine (rbounds_any _ _ _ _ _ _ _ _ HI.out hn).mono ?_; rintro e w' ⟨rfl, m, rfl⟩
              go_wp2_with fail
              refine (weights_any _ _ _ _ _ _ (HI.out.drewN m) hn).mono ?_; rintro e w' ⟨rfl, rfl⟩
              go_wp2_with fail
              refine (rweights_any _ _ _ _ _ _ (HI.out.drewN m) hn).mono ?_; rintro e w' ⟨rfl, rfl⟩
              go_wp2
              go_roundw
              case rel => exact ⟨i + 1, by omega, by go_num, HT.out.drewN m, below_drewN' HBW.out m⟩
              case measure => simp [intOf]; omega
          · have hi4 : ((i : Int) == 4) = false := by simp; omega
            have hk2 : ¬ (1000 : Int) < (k : Int) := by omega
            go_wp2_with fail
            refine (bounds_any _ _ _ _ _ _ _ _ HI.out (by omega)).mono ?_; rintro e w' ⟨rfl, rfl⟩
            go_wp2_with fail
            refine (rbounds_any _ _ _ _ _ _ _ _ HI.out (by omega)).mono ?_; rintro e w' ⟨rfl, m, rfl⟩
            go_wp2_with fail
            refine (weights_any _ _ _ _ _ _ (HI.out.drewN m) (by omega)).mono ?_; rintro e w' ⟨rfl, rfl⟩
            go_wp2_with fail
            refine (rweights_any _ _ _ _ _ _ (HI.out.drewN m) (by omega)).mono ?_; rintro e w' ⟨rfl, rfl⟩
            go_wp2
            go_roundw
            case rel => exact ⟨i + 1, by omega, by go_num, HT.out.drewN m, below_drewN' HBW.out m⟩
            case measure => simp [intOf]; omega
        · have hzt : (z == 3) = false := by simp [hz3]
          have HI := hid HO8.out.1
          have HT := hid HT8.out
          have HBW := hid HB8.out
          clear hz3 HT8 HB8 HO8
          by_cases h4 : i = 4
          · have hi4 : ((i : Int) == 4) = true := by simp; omega
            clear HI
            by_cases hbig : 1000 < n
            · go_wp2
              go_roundw
              case rel => exact ⟨i + 1, by omega, by go_num, HT.out, HBW.out⟩
              case measure => simp [intOf]; omega
            · have HI := hid (HL.out.below HBW.out (Nat.le_refl _))
              go_wp2_with fail
              refine (bounds_any _ _ _ _ _ _ _ _ HI.out hn).mono ?_; rintro e w' ⟨rfl, rfl⟩
              go_wp2_with fail
              refine (rbounds_any _ _ _ _ _ _ _ _ HI.out hn).mono ?_; rintro e w' ⟨rfl, m, rfl⟩
              go_wp2_with fail
              refine (weights_any _ _ _ _ _ _ (HI.out.drewN m) hn).mono ?_; rintro e w' ⟨rfl, rfl⟩
              go_wp2_with fail
              refine (rweights_any _ _ _ _ _ _ (HI.out.drewN m) hn).mono ?_; rintro e w' ⟨rfl, rfl⟩
              go_wp2
              go_roundw
              case rel => exact ⟨i + 1, by omega, by go_num, HT.out.drewN m, below_drewN' HBW.out m⟩
              case measure => simp [intOf]; omega
          · have hi4 : ((i : Int) == 4) = false := by simp; omega
            have hk2 : ¬ (1000 : Int) < (k : Int) := by omega
            go_wp2_with fail
            refine (bounds_any _ _ _ _ _ _ _ _ HI.out (by omega)).mono ?_; rintro e w' ⟨rfl, rfl⟩
            go_wp2_with fail
            refine (rbounds_any _ _ _ _ _ _ _ _ HI.out (by omega)).mono ?_; rintro e w' ⟨rfl, m, rfl⟩
            go_wp2_with fail
            refine (weights_any _ _ _ _ _ _ (HI.out.drewN m) (by omega)).mono ?_; rintro e w' ⟨rfl, rfl⟩
            go_wp2_with fail
            refine (rweights_any _ _ _ _ _ _ (HI.out.drewN m) (by omega)).mono ?_; rintro e w' ⟨rfl, rfl⟩
            go_wp2
            go_roundw
            case rel => exact ⟨i + 1, by omega, by go_num, HT.out.drewN m, below_drewN' HBW.out m⟩
            case measure => simp [intOf]; omega
      · have HI := hid HO7.out.1
        have HT := hid HT7.out
        have HBW := hid HB7.out
        clear HT7 HB7 HO7
        by_cases h4 : i = 4
        · have hi4 : ((i : Int) == 4) = true := by simp; omega
          clear HI
          by_cases hbig : 1000 < n
          · go_wp2
            go_roundw
            case rel => exact ⟨i + 1, by omega, by go_num, HT.out, HBW.out⟩
            case measure => simp [intOf]; omega
          · have HI := hid (HL.out.below HBW.out (Nat.le_refl _))
            go_wp2_with fail
            refine (bounds_any _ _ _ _ _ _ _ _ HI.out hn).mono ?_; rintro e w' ⟨rfl, rfl⟩
            go_wp2_with fail
            refine (rbounds_any _ _ _ _ _ _ _ _ HI.out hn).mono ?_; rintro e w' ⟨rfl, m, rfl⟩
            go_wp2_with fail
            refine (weights_any _ _ _ _ _ _ (HI.out.drewN m) hn).mono ?_; rintro e w' ⟨rfl, rfl⟩
            go_wp2_with fail
            refine (rweights_any _ _ _ _ _ _ (HI.out.drewN m) hn).mono ?_; rintro e w' ⟨rfl, rfl⟩
            go_wp2
            go_roundw
            case rel => exact ⟨i + 1, by omega, by go_num, HT.out.drewN m, below_drewN' HBW.out m⟩
            case measure => simp [intOf]; omega
        · have hi4 : ((i : Int) == 4) = false := by simp; omega
          have hk2 : ¬ (1000 : Int) < (k : Int) := by omega
          go_wp2_with fail
          refine (bounds_any _ _ _ _ _ _ _ _ HI.out (by omega)).mono ?_; rintro e w' ⟨rfl, rfl⟩
          go_wp2_with fail
          refine (rbounds_any _ _ _ _ _ _ _ _ HI.out (by omega)).mono ?_; rintro e w' ⟨rfl, m, rfl⟩
          go_wp2_with fail
          refine (weights_any _ _ _ _ _ _ (HI.out.drewN m) (by omega)).mono ?_; rintro e w' ⟨rfl, rfl⟩
          go_wp2_with fail
          refine (rweights_any _ _ _ _ _ _ (HI.out.drewN m) (by omega)).mono ?_; rintro e w' ⟨rfl, rfl⟩
          go_wp2
          go_roundw
          case rel => exact ⟨i + 1, by omega, by go_num, HT.out.drewN m, below_drewN' HBW.out m⟩
          case measure => simp [intOf]; omega
    · go_wp2_with (go_at_call 15; refine (sane_any _).mono ?_; rintro e w' ⟨rfl, hg⟩)
      go_ret
      exact ⟨rfl, below_join HB1.out hg⟩
end Go.Proofs.Ytgfkmlppoldhgaa
