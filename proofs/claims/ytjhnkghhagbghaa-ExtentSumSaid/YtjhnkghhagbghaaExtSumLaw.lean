/-
  The law ExtentSum: the walk.
-/
import Derived.Test.YtjhnkghhagbghaaExtMul
import Derived.Test.YtjhnkghhagbghaaMem
namespace Go.Proofs.Ytjhnkghhagbghaa
open Go.RowKit
set_option linter.unusedVariables false

def zeroBlk (n : Nat) : Obj := .cells (madeCells #[.int .i64 0] n) 3
theorem info_int : (Try.prog.info? 3).map (fun i => (i.zero, i.size, i.bytes)) = some (some (.int .i64 0), 1, 8) := by kernel_rfl
theorem make_zeros (n : Nat) (hn : n ≤ 2000) (W : World) : (Instr.makeSlice 22 (.int .i64 (n : Int)) (.int .i64 (n : Int))).run Try.prog W = .ok (.slice (some ⟨W.heap.size, 0, none⟩) n n) (W.alloc (zeroBlk n)) := by
  obtain ⟨i0, hi, hz0, hz1, hz2⟩ := info_parts info_int
  have h := run_make (P := Try.prog) W 22 3 i0 (.int .i64 0) Try.underlying22 hi hz0 .i64 .i64 (n : Int) (n : Int) (by omega) (by omega) (by rw [hz2]; omega) (by omega)
  rw [h, hz1]
  simp only [Int.toNat_natCast, Nat.mul_one]
  rfl
theorem zeros_blk (n : Nat) (W : World) : ∃ cs, cs.size = n ∧ Blk (W.alloc (zeroBlk n)) W.heap.size 3 cs := ⟨_, size_madeCells _ _, Blk.new _ _ _⟩

/-- The first k cells of block g hold the remainders. -/
def Mid (g n : Nat) (xs : List Int) (k : Nat) (w : World) : Prop :=
  ∃ cs : Array Value, cs.size = n ∧ Blk w g 3 cs ∧ ∀ j v, j < k → xs[j]? = some v → cs[j]? = some (.int .i64 (v % 1048576))
theorem Mid.step {g n : Nat} {xs : List Int} {k : Nat} {w : World} {v : Int} (h : Mid g n xs k w) (hk : k < n) (hv : xs[k]? = some v) : Mid g n xs (k + 1) (w.setCell ⟨g, k, none⟩ (.int .i64 (v % 1048576))) := by
  obtain ⟨cs, hs, hb, hc⟩ := h
  refine ⟨_, by simpa using hs, hb.set_ _ _, fun j u hj hu => ?_⟩
  by_cases e : j = k
  · subst e
    rw [hv] at hu
    injection hu with hu
    subst hu
    rw [Array.getElem?_setIfInBounds_self_of_lt (by omega)]
  · rw [Array.getElem?_setIfInBounds_ne (by omega)]
    exact hc j u (by omega) hu
theorem Mid.cell {g n : Nat} {xs : List Int} {k : Nat} {w : World} (h : Mid g n xs k w) (hk : k < n) : ∃ u, w.cell? ⟨g, k, none⟩ = some u := by
  obtain ⟨cs, hs, hb, _⟩ := h
  exact ⟨_, hb.cell_of (Array.getElem?_eq_getElem (by omega))⟩
theorem Mid.thawed {g n : Nat} {xs : List Int} {k : Nat} {w : World} (h : Mid g n xs k w) (i : Nat) : w.frozen? ⟨g, i, none⟩ = false := by
  obtain ⟨cs, hs, hb, _⟩ := h
  exact hb.thawed i
theorem Mid.ints {g n : Nat} {xs : List Int} {w : World} (h : Mid g n xs n w) (hn : xs.length = n) : IntsAt w (g + 1) (some ⟨g, 0, none⟩) n (xs.map (· % 1048576)) := by
  obtain ⟨cs, hs, hb, hc⟩ := h
  refine ⟨by simpa using hn, fun x hx => ?_, fun _ => ⟨_, _, rfl, by omega, fun j v hv => ?_⟩⟩
  · simp at hx; obtain ⟨y, _, rfl⟩ := hx; omega
  · rw [List.getElem?_map] at hv
    cases hx : xs[j]? with
    | none => rw [hx] at hv; cases hv
    | some y =>
      rw [hx] at hv
      injection hv with hv
      subst hv
      rw [Nat.zero_add]
      exact hb.cell_of (hc j y (by have := (List.getElem?_eq_some_iff.1 hx).1; omega) hx)

set_option maxRecDepth 100000 in
set_option maxHeartbeats 800000 in
theorem sum_law (A : Option Addr) (n c : Nat) (xs : List Int) (w : World) (h : IntsAt w w.heap.size A n xs) (hn : n ≤ 9223372036854775807) (l : Int) (hl1 : -9223372036854775808 ≤ l) (hl2 : l ≤ 9223372036854775807) :
    Calls Try.prog 4 #[.slice A n c, .int .i64 l] w fun e w' => e = .returned (.bool true) ∧ Below w.heap.size w w' := by
  by_cases hbig : 2000 < n
  · clear h
    go_enter Try.func4, Try.ntmps4
    go_wp2_with (go_at_call 11; refine (sane_any _).mono ?_; rintro e w' ⟨rfl, hg⟩)
    go_ret
    exact ⟨rfl, hg⟩
  have hmk := fun W => make_zeros n (by omega) W
  obtain ⟨cs0, hs0, hb0⟩ := zeros_blk n w
  have HM : Hid (Mid w.heap.size n xs 0 (w.alloc (zeroBlk n))) := ⟨cs0, hs0, hb0, fun j v hj => by omega⟩
  have HB : Hid (Below w.heap.size w (w.alloc (zeroBlk n))) := (Below.refl _ _).alloc (Nat.le_refl _) _
  have HZ : Hid (w.heap.size < (w.alloc (zeroBlk n)).heap.size) := hb0.lt
  have HI := hid h
  clear h hs0 hb0
  go_enter Try.func4, Try.ntmps4
  go_wp2
  generalize w.alloc (zeroBlk n) = W1 at *
  go_loopw [6] (fun i wr => ∃ k : Nat, k ≤ n ∧ i = .int .i64 k ∧ Mid w.heap.size n xs k wr ∧ Below w.heap.size w wr ∧ w.heap.size < wr.heap.size) (fun i _ => n - (intOf i).toNat)
  case atStart => exact ⟨0, by omega, rfl, HM.out, HB.out, HZ.out⟩
  case round =>
    obtain ⟨k, hk, rfl, hm, hb, hz⟩ := hrel
    have HM1 := hid hm
    have HB1 := hid hb
    clear hm hb
    by_cases hlt : k < n
    · obtain ⟨b, off, hA, hbl, hc⟩ := HI.out.open_ (by omega)
      obtain ⟨v, hv, _, hv1, hv2, hcell⟩ := hc k hlt
      have hcw : wr.cell? ⟨b, off + k, none⟩ = some (.int .i64 v) := (HB1.out.cell (p := ⟨b, off + k, none⟩) hbl).trans hcell
      obtain ⟨u, hu⟩ := HM1.out.cell hlt
      have hf := HM1.out.thawed k
      have HV := hid hv
      clear hc hcell hv
      subst hA
      go_wp2_with (go_at_call 12; refine (mod_any _ _ _ hv1 hv2 (by omega) (by omega)).mono ?_; rintro e w' ⟨rfl, rfl⟩)
      go_roundw
      case rel => exact ⟨k + 1, by omega, by go_num, HM1.out.step hlt HV.out, HB1.out.setCell (Nat.le_refl _) _, by simpa using hz⟩
      case measure => simp [intOf]; omega
    · have e : k = n := by omega
      subst e
      have hba : Below wr.heap.size wr (wr.alloc (nearBlk l)) := (Below.refl _ _).alloc (Nat.le_refl _) _
      have HI2 := hid ((HI.out.below HB1.out (Nat.le_refl _)).below hba (by omega))
      have HM2 := hid ((HM1.out.ints HI.out.1).below hba (by omega))
      have H4 := hid (fourth wr l hl1 hl2)
      have HB2 := hid (HB1.out.trans (hba.mono HB1.out.size))
      clear HI HB HM HZ HM1 HB1 hba
      go_wp2_with (go_at_call 8; refine (near_any _ _ hl1 hl2).mono ?_; rintro e w' ⟨rfl, rfl⟩)
      generalize wr.alloc (nearBlk l) = W2 at *
      go_loop [41] (fun i => ∃ j : Nat, j ≤ 4 ∧ i = .int .i64 j) (fun i => 4 - (intOf i).toNat)
      case atStart => exact ⟨0, by omega, rfl⟩
      case round =>
        obtain ⟨j, hj, rfl⟩ := hrel
        by_cases hlj : j < 4
        · obtain ⟨z, hz, hz1, hz2⟩ := H4.out j hlj
          go_wp2_with fail
          refine (sum_any _ _ _ _ _ _ _ HI2.out hn hz1 hz2).mono ?_; rintro e w' ⟨rfl, rfl⟩
          go_wp2_with fail
          refine (rsum_any _ _ _ _ _ _ _ HI2.out hn hz1 hz2).mono ?_; rintro e w' ⟨rfl, rfl⟩
          go_wp2_with fail
          refine (sum_any _ _ _ _ _ _ _ HM2.out hn hz1 hz2).mono ?_; rintro e w' ⟨rfl, rfl⟩
          go_wp2_with fail
          refine (rsum_any _ _ _ _ _ _ _ HM2.out hn hz1 hz2).mono ?_; rintro e w' ⟨rfl, rfl⟩
          go_wp2
          go_round
          case rel => exact ⟨j + 1, by omega, by go_num⟩
          case measure => simp [intOf]; omega
        · go_wp2_with (go_at_call 11; refine (sane_any _).mono ?_; rintro e w' ⟨rfl, hg⟩)
          go_ret
          exact ⟨rfl, below_join HB2.out hg⟩
end Go.Proofs.Ytjhnkghhagbghaa
