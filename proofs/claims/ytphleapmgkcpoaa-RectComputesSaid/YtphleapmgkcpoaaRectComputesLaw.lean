/-
  The law RectComputes.
-/
import Derived.Test.YtphleapmgkcpoaaRectAgrees
namespace Go.Proofs.Ytphleapmgkcpoaa
open Go.RowKit
set_option linter.unusedVariables false

set_option maxRecDepth 100000 in
set_option maxHeartbeats 8000000 in
theorem computes_walk (At : Option Addr) (nt ct : Nat) (ts : List Int) {w : World} (hts : IntsAt w w.heap.size At nt ts) (hnt : nt ≤ 9223372036854775807) (a b c d : Int) (x1 : -9223372036854775808 ≤ a) (x2 : a ≤ 9223372036854775807) (y1 : -9223372036854775808 ≤ b) (y2 : b ≤ 9223372036854775807) (z1 : -9223372036854775808 ≤ c) (z2 : c ≤ 9223372036854775807) (v1 : -9223372036854775808 ≤ d) (v2 : d ≤ 9223372036854775807) (a2 b2 c2 d2 : Int) (xx1 : -9223372036854775808 ≤ a2) (xx2 : a2 ≤ 9223372036854775807) (yy1 : -9223372036854775808 ≤ b2) (yy2 : b2 ≤ 9223372036854775807) (zz1 : -9223372036854775808 ≤ c2) (zz2 : c2 ≤ 9223372036854775807) (vv1 : -9223372036854775808 ≤ d2) (vv2 : d2 ≤ 9223372036854775807) (x : Int) (x3 : -9223372036854775808 ≤ x) (x4 : x ≤ 9223372036854775807) (y : Int) (y3 : -9223372036854775808 ≤ y) (y4 : y ≤ 9223372036854775807) (n : Int) (n3 : -9223372036854775808 ≤ n) (n4 : n ≤ 9223372036854775807) :
    Calls Try.prog 6 #[.slice At nt ct, .agg #[.int .i64 a, .int .i64 b, .int .i64 c, .int .i64 d], .agg #[.int .i64 a2, .int .i64 b2, .int .i64 c2, .int .i64 d2], .int .i64 x, .int .i64 y, .int .i64 n] w fun e w' => e = .returned (.bool true) ∧ Below w.heap.size w w' := by
  have HN := hid (new_any At nt ct ((w.alloc (.cells #[.int .i64 a, .int .i64 b, .int .i64 c, .int .i64 d] 26)).alloc (.cells #[.int .i64 a2, .int .i64 b2, .int .i64 c2, .int .i64 d2] 26)))
  have HB00 : Below w.heap.size w ((w.alloc (.cells #[.int .i64 a, .int .i64 b, .int .i64 c, .int .i64 d] 26)).alloc (.cells #[.int .i64 a2, .int .i64 b2, .int .i64 c2, .int .i64 d2] 26)) := ((Below.refl _ _).alloc (Nat.le_refl _) _).alloc (by simp <;> omega) _
  have HB0 : Hid (Below w.heap.size w (((w.alloc (.cells #[.int .i64 a, .int .i64 b, .int .i64 c, .int .i64 d] 26)).alloc (.cells #[.int .i64 a2, .int .i64 b2, .int .i64 c2, .int .i64 d2] 26)).alloc (.cells #[.slice At nt ct, .int .i64 0] 46))) := HB00.alloc (by simp <;> omega) _
  have HA0 : Hid (Blk (((w.alloc (.cells #[.int .i64 a, .int .i64 b, .int .i64 c, .int .i64 d] 26)).alloc (.cells #[.int .i64 a2, .int .i64 b2, .int .i64 c2, .int .i64 d2] 26)).alloc (.cells #[.slice At nt ct, .int .i64 0] 46)) w.heap.size 26 #[.int .i64 a, .int .i64 b, .int .i64 c, .int .i64 d]) := ((Blk.new w 26 #[.int .i64 a, .int .i64 b, .int .i64 c, .int .i64 d]).alloc (.cells #[.int .i64 a2, .int .i64 b2, .int .i64 c2, .int .i64 d2] 26)).alloc _
  have HK0 : Hid (Blk (((w.alloc (.cells #[.int .i64 a, .int .i64 b, .int .i64 c, .int .i64 d] 26)).alloc (.cells #[.int .i64 a2, .int .i64 b2, .int .i64 c2, .int .i64 d2] 26)).alloc (.cells #[.slice At nt ct, .int .i64 0] 46)) (w.heap.size + 1) 26 #[.int .i64 a2, .int .i64 b2, .int .i64 c2, .int .i64 d2]) := Blk.alloc (show Blk ((w.alloc (.cells #[.int .i64 a, .int .i64 b, .int .i64 c, .int .i64 d] 26)).alloc (.cells #[.int .i64 a2, .int .i64 b2, .int .i64 c2, .int .i64 d2] 26)) (w.heap.size + 1) 26 #[.int .i64 a2, .int .i64 b2, .int .i64 c2, .int .i64 d2] from blk1 w _ _) _
  have ht0 : TapeAt w.heap.size (w.heap.size + 2) (((w.alloc (.cells #[.int .i64 a, .int .i64 b, .int .i64 c, .int .i64 d] 26)).alloc (.cells #[.int .i64 a2, .int .i64 b2, .int .i64 c2, .int .i64 d2] 26)).alloc (.cells #[.slice At nt ct, .int .i64 0] 46)) :=
    ⟨by omega, At, nt, ct, ts, 0, blk2 w _ _ _, by omega, hnt, hts.below HB0.out (Nat.le_refl _)⟩
  have HT0 := hid ht0
  have gA : some w.heap.size ≠ some (w.heap.size + 2) := by intro e; injection e; omega
  have gB : some (w.heap.size + 1) ≠ some (w.heap.size + 2) := by intro e; injection e; omega
  clear hts ht0 HB00
  go_enter Try.func6, Try.ntmps6
  go_wp2_with fail
  refine HN.out.mono ?_; rintro e w' ⟨rfl, rfl⟩
  go_wp2_with fail
  generalize (((w.alloc (.cells #[.int .i64 a, .int .i64 b, .int .i64 c, .int .i64 d] 26)).alloc (.cells #[.int .i64 a2, .int .i64 b2, .int .i64 c2, .int .i64 d2] 26)).alloc (.cells #[.slice At nt ct, .int .i64 0] 46)) = W1 at *
  go_loopw [14] (fun i wr => ∃ k : Nat, k ≤ 6 ∧ i = .int .i64 k ∧ TapeAt w.heap.size (w.heap.size + 2) wr ∧ Blk wr w.heap.size 26 #[.int .i64 a, .int .i64 b, .int .i64 c, .int .i64 d] ∧ Blk wr (w.heap.size + 1) 26 #[.int .i64 a2, .int .i64 b2, .int .i64 c2, .int .i64 d2] ∧ Below w.heap.size w wr) (fun i _ => 6 - (intOf i).toNat)
  case atStart => exact ⟨0, by omega, rfl, HT0.out, HA0.out, HK0.out, HB0.out⟩
  case round =>
    obtain ⟨i, hi, rfl, ht, hA, hB, hb⟩ := hrel
    have HTr := hid ht
    have HAr := hid hA
    have HKr := hid hB
    have HBr := hid hb
    clear ht hA hB hb HT0 HA0 HK0 HB0 HN
    by_cases hlt : i < 6
    · clear x3 x4 y3 y4 n3 n4
      have hiI : (i : Int) < 6 := by omega
      have hwi : IntKind.i64.wrap ((i : Int) + 1) = (i : Int) + 1 := IntWalk.i64_in _ (by omega)
      go_wp2_with fail
      refine (rect_any _ _ _ HTr.out).mono ?_
      rintro e w1 ⟨p0, p1, p2, p3, hn1, rfl, ht, hg⟩
      have HN1 := hid hn1
      clear hn1
      have HT1 := hid ht
      have HA1 := hid (HAr.out.grown hg gA)
      have HK1 := hid (HKr.out.grown hg gB)
      have HB1 := hid (grown_below HBr.out hg HBr.out.size (by omega))
      clear ht hg HTr HAr HKr HBr
      go_wp2_with fail
      refine (rect_any _ _ _ HT1.out).mono ?_
      rintro e w2 ⟨q0, q1, q2, q3, hn2, rfl, ht, hg⟩
      have HN2 := hid hn2
      clear hn2
      have HT2 := hid ht
      have HA2 := hid (HA1.out.grown hg gA)
      have HK2 := hid (HK1.out.grown hg gB)
      have HB2 := hid (grown_below HB1.out hg HB1.out.size (by omega))
      clear ht hg HT1 HA1 HK1 HB1
      go_wp2_with fail
      refine (next_any _ _ 10 _ HT2.out (by omega) (by omega)).mono ?_
      rintro e w3 ⟨e1, he10, he11, rfl, ht, hg⟩
      have he12 : e1 ≤ 9 := by omega
      clear he11
      have he1w : IntKind.i64.wrap (e1 - 3) = e1 - 3 := IntWalk.i64_in _ (by omega)
      have HT3 := hid ht
      have HA3 := hid (HA2.out.grown hg gA)
      have HK3 := hid (HK2.out.grown hg gB)
      have HB3 := hid (grown_below HB2.out hg HB2.out.size (by omega))
      clear ht hg HT2 HA2 HK2 HB2
      go_wp2_with fail
      refine (next_any _ _ 10 _ HT3.out (by omega) (by omega)).mono ?_
      rintro e w4 ⟨e2, he20, he21, rfl, ht, hg⟩
      have he22 : e2 ≤ 9 := by omega
      clear he21
      have he2w : IntKind.i64.wrap (e2 - 3) = e2 - 3 := IntWalk.i64_in _ (by omega)
      have HT4 := hid ht
      have HA4 := hid (HA3.out.grown hg gA)
      have HK4 := hid (HK3.out.grown hg gB)
      have HB4 := hid (grown_below HB3.out hg HB3.out.size (by omega))
      clear ht hg HT3 HA3 HK3 HB3
      go_wp2_with fail
      refine (next_any _ _ 4 _ HT4.out (by omega) (by omega)).mono ?_
      rintro e w5 ⟨e3, he30, he31, rfl, ht, hg⟩
      have he32 : e3 ≤ 3 := by omega
      clear he31
      have HT5 := hid ht
      have HA5 := hid (HA4.out.grown hg gA)
      have HK5 := hid (HK4.out.grown hg gB)
      have HB5 := hid (grown_below HB4.out hg HB4.out.size (by omega))
      clear ht hg HT4 HA4 HK4 HB4
      have HP6 := hid (pick_any w.heap.size (w.heap.size + 2) w5.heap.size 3 (· ∈ [0, 1, -1]) (w5.alloc (.cells #[.int .i64 0, .int .i64 1, .int .i64 (-1)] 3)) (HT5.out.alloc _) (by have := HT5.out.lt; omega) (by simp) (by omega) (by omega) (lit_cells w5 [0, 1, -1] _ _ rfl))
      have HA5' := hid (HA5.out.alloc (.cells #[.int .i64 0, .int .i64 1, .int .i64 (-1)] 3))
      have HK5' := hid (HK5.out.alloc (.cells #[.int .i64 0, .int .i64 1, .int .i64 (-1)] 3))
      have HB5' := hid (HB5.out.alloc HB5.out.size (.cells #[.int .i64 0, .int .i64 1, .int .i64 (-1)] 3))
      go_wp2_with fail
      refine HP6.out.mono ?_
      rintro e w6 ⟨e4, he4, rfl, ht, hg⟩
      clear he4
      have HT6 := hid ht
      have HA6 := hid (HA5'.out.grown hg gA)
      have HK6 := hid (HK5'.out.grown hg gB)
      have HB6 := hid (grown_below HB5'.out hg HB5'.out.size (by omega))
      clear ht hg HT5 HA5 HK5 HB5 HA5' HK5' HB5' HP6
      have HP7 := hid (pick_any w.heap.size (w.heap.size + 2) w6.heap.size 3 (· ∈ [0, 1048576, 1048577]) (w6.alloc (.cells #[.int .i64 0, .int .i64 1048576, .int .i64 1048577] 3)) (HT6.out.alloc _) (by have := HT6.out.lt; omega) (by simp) (by omega) (by omega) (lit_cells w6 [0, 1048576, 1048577] _ _ rfl))
      have HA6' := hid (HA6.out.alloc (.cells #[.int .i64 0, .int .i64 1048576, .int .i64 1048577] 3))
      have HK6' := hid (HK6.out.alloc (.cells #[.int .i64 0, .int .i64 1048576, .int .i64 1048577] 3))
      have HB6' := hid (HB6.out.alloc HB6.out.size (.cells #[.int .i64 0, .int .i64 1048576, .int .i64 1048577] 3))
      go_wp2_with fail
      refine HP7.out.mono ?_
      rintro e w7 ⟨e5, he5, rfl, ht, hg⟩
      clear he5
      have HT7 := hid ht
      have HA7 := hid (HA6'.out.grown hg gA)
      have HK7 := hid (HK6'.out.grown hg gB)
      have HB7 := hid (grown_below HB6'.out hg HB6'.out.size (by omega))
      clear ht hg HT6 HA6 HK6 HB6 HA6' HK6' HB6' HP7
      go_wp2_with fail
      refine (next_any _ _ 3 _ HT7.out (by omega) (by omega)).mono ?_
      rintro e w8 ⟨e6, he60, he61, rfl, ht, hg⟩
      have he62 : e6 ≤ 2 := by omega
      clear he61
      have HT8 := hid ht
      have HA8 := hid (HA7.out.grown hg gA)
      have HK8 := hid (HK7.out.grown hg gB)
      have HB8 := hid (grown_below HB7.out hg HB7.out.size (by omega))
      clear ht hg HT7 HA7 HK7 HB7
      have hn := HN1.out
      unfold Near at hn
      simp only at hn
      go_wp2_with fail
      refine (agrees_any _ _ _ _ _ _ _ _ _ _ _ _ _ _ _ (by omega) (by omega) (by omega) (by omega) (by omega) (by omega) (by omega) (by omega)).mono ?_
      rintro e w9 ⟨rfl, hb9⟩
      clear hn HN1 HN2
      have HT9 := hid (HT8.out.below hb9)
      have HA9 := hid (HA8.out.after hb9)
      have HK9 := hid (HK8.out.after hb9)
      have HB9 := hid (HB8.out.trans (hb9.mono HB8.out.size))
      clear hb9 HT8 HA8 HK8 HB8
      go_wp2
      go_roundw
      case rel => exact ⟨i + 1, by omega, by go_num, HT9.out, HA9.out, HK9.out, HB9.out⟩
      case measure => simp [intOf] <;> omega
    · obtain ⟨ka0, ka1, ka2, ka3, _, _, _, _⟩ := HAr.out.cells4
      obtain ⟨kb0, kb1, kb2, kb3, _, _, _, _⟩ := HKr.out.cells4
      go_wp2_with fail
      refine (agrees_any a b c d a2 b2 c2 d2 x y n 0 1 2 _ x1 x2 y1 y2 z1 z2 v1 v2).mono ?_
      rintro e w1 ⟨rfl, hb1⟩
      clear ka0 ka1 ka2 ka3 kb0 kb1 kb2 kb3
      have HA1 := hid (HAr.out.after hb1)
      have HK1 := hid (HKr.out.after hb1)
      have HB1 := hid (HBr.out.trans (hb1.mono HBr.out.size))
      clear hb1 HTr HAr HKr HBr
      obtain ⟨ka0, ka1, ka2, ka3, _, _, _, _⟩ := HA1.out.cells4
      obtain ⟨kb0, kb1, kb2, kb3, _, _, _, _⟩ := HK1.out.cells4
      go_wp2_with fail
      refine (agrees_any a2 b2 c2 d2 a b c d x y 1 n 0 0 _ xx1 xx2 yy1 yy2 zz1 zz2 vv1 vv2).mono ?_
      rintro e w2 ⟨rfl, hb2⟩
      clear ka0 ka1 ka2 ka3 kb0 kb1 kb2 kb3
      have HB2 := hid (HB1.out.trans (hb2.mono HB1.out.size))
      clear hb2 HA1 HK1 HB1
      go_wp2_with fail
      refine (sane_any _).mono ?_
      rintro e w3 ⟨rfl, hb3⟩
      have HB3 := hid (HB2.out.trans (hb3.mono HB2.out.size))
      clear hb3 HB2
      go_wp2
      go_ret
      exact ⟨rfl, HB3.out⟩
end Go.Proofs.Ytphleapmgkcpoaa
