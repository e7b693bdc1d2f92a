/-
  Layer 23: Steal on a block and a ring.
-/
import Derived.Test.YtmamcbemfccieaaDeqA
namespace Go.Proofs.Ytmamcbemfccieaa
open Go.RowKit
set_option linter.unusedVariables false

set_option maxHeartbeats 2000000 in
theorem steal_on (g rb n top s q : Nat) (cur : Array Value) (j t : Int) (w : World) (hb : Blk w g 46 #[.slice (some ⟨rb, 0, none⟩) n n, .int .i64 (top : Int), .int .i64 ((s + 1 : Nat) : Int)]) (hr : Blk w rb 32 cur) (hj : cur[top * 2]? = some (.int .i64 j)) (hj2 : cur[top * 2 + 1]? = some (.int .i64 t)) (hn1 : 1 ≤ n) (hn2 : n ≤ 256) (ht : top < n) (hsz : s < n) (hq : (top + 1) % n = q) (hne : rb ≠ g) :
    Calls Try.prog 12 #[.pointer (some ⟨g, 0, none⟩)] w fun e w' => e = .returned (.tuple #[.agg #[.int .i64 j, .int .i64 t], .bool true]) ∧
      Blk w' g 46 #[.slice (some ⟨rb, 0, none⟩) n n, .int .i64 (q : Int), .int .i64 (s : Int)] ∧ Blk w' rb 32 cur ∧ Foot (fun i => i = g) w w' := by
  have HB := hid (hb.alloc (.cells #[.int .i64 0, .int .i64 0] 32))
  have HR := hid (hr.alloc (.cells #[.int .i64 0, .int .i64 0] 32))
  have hng : g ≠ rb := fun e => hne e.symm
  have hgs : g < w.heap.size := hb.lt
  have hrs : rb < w.heap.size := hr.lt
  have HZ := hid (Blk.new w 32 #[.int .i64 0, .int .i64 0])
  have HF := hid ((Foot.refl (fun i => i = g) w).alloc (Obj.cells #[.int .i64 0, .int .i64 0] 32))
  have HQ := hid hq
  clear hb hr hq
  obtain ⟨k0, k1, k2, f0, f1, f2⟩ := three HB.out
  have c0 := HR.out.cell_of hj
  have c1 := HR.out.cell_of hj2
  have e1 : ¬ (s : Int) + 1 = 0 := by omega
  have e3 : (top : Int) < (n : Int) := by omega
  have e4 : IntKind.i64.wrap (s : Int) = (s : Int) := IntWalk.i64_in _ (by omega)
  have e5 : IntKind.i64.wrap ((s : Int) + 1 - 1) = (s : Int) := by rw [Int.add_sub_cancel]; exact e4
  go_enter Try.func12, Try.ntmps12
  go_wp2
  have hWs : (w.alloc (Obj.cells #[.int .i64 0, .int .i64 0] 32)).heap.size = w.heap.size + 1 := by simp
  generalize hs : w.heap.size = sz at *
  generalize w.alloc (Obj.cells #[.int .i64 0, .int .i64 0] 32) = W at *
  go_region
  go_wp2_with fail
  have hgs' : g ≠ sz + 1 := by omega
  have hrs' : rb ≠ sz + 1 := by omega
  have hzs' : sz ≠ sz + 1 := by omega
  have hgz : g ≠ sz := by omega
  have hrz : rb ≠ sz := by omega
  have HB1 := hid (HB.out.alloc (.cells #[.int .i64 j, .int .i64 t] 32))
  have HR1 := hid (HR.out.alloc (.cells #[.int .i64 j, .int .i64 t] 32))
  have HZ1 := hid (HZ.out.alloc (.cells #[.int .i64 j, .int .i64 t] 32))
  have HN1 : Hid (Blk (W.alloc (.cells #[.int .i64 j, .int .i64 t] 32)) (sz + 1) 32 #[.int .i64 j, .int .i64 t]) := by rw [← hWs]; exact Blk.new W _ _
  have HF1 := hid (HF.out.alloc (.cells #[.int .i64 j, .int .i64 t] 32))
  clear k0 k1 k2 f0 f1 f2 c0 c1
  generalize W.alloc (.cells #[.int .i64 j, .int .i64 t] 32) = W1 at *
  obtain ⟨k0, k1, k2, f0, f1, f2⟩ := three HB1.out
  have p0 := HN1.out.cell 0
  have p1 := HN1.out.cell 1
  have z0 := HZ1.out.cell 0
  have z1 := HZ1.out.cell 1
  have y0 := HZ1.out.thawed 0
  have y1 := HZ1.out.thawed 1
  have HP := place_on g n top 1 q _ _ W1.drew HB1.out.drew hn1 hn2 ht (by omega) HQ.out
  rw [show ((1 : Nat) : Int) = 1 from rfl] at HP
  refine HP.mono ?_
  rintro e w' ⟨rfl, m, rfl⟩
  go_wp2
  refine bodyPost_ret (res_ref (g := sz) (v0 := j) (v1 := t) (b := true) rfl rfl rfl (((((HZ1.out.drewN _).far hgz.symm _).far hgz.symm _).set2 _ _))) rfl ?_
  exact ⟨rfl, ((((HB1.out.drewN _).set_ 1 _).set_ 2 _).far hgz _).far hgz _, ((((HR1.out.drewN _).far hne _).far hne _).far hrz _).far hrz _, ((((HF1.out.drewN _).set_ _ (.inl rfl) _).set_ _ (.inl rfl) _).set_ _ (.inr (Nat.le_of_eq hs)) _).set_ _ (.inr (Nat.le_of_eq hs)) _⟩
end Go.Proofs.Ytmamcbemfccieaa
