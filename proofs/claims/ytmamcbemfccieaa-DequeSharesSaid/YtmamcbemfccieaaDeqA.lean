/-
  Layer 23: place, Push, Pop on a block and a ring.
-/
import Derived.Test.YtmamcbemfccieaaDeqNum
import Derived.Test.YtmamcbemfccieaaQuiet
import Derived.Deep.AppendLies
import Derived.Deep.RegionLaw
import Derived.Deep.RegionHeld3
namespace Go.Proofs.Ytmamcbemfccieaa
open Go.RowKit
set_option linter.unusedVariables false

theorem three {w : World} {g : Nat} {t : TypeId} {a b c : Value} (h : Blk w g t #[a, b, c]) :
    w.cell? ⟨g, 0, none⟩ = some a ∧ w.cell? ⟨g, 1, none⟩ = some b ∧ w.cell? ⟨g, 2, none⟩ = some c ∧ 
    w.frozen? ⟨g, 0, none⟩ = false ∧ w.frozen? ⟨g, 1, none⟩ = false ∧ w.frozen? ⟨g, 2, none⟩ = false :=
  ⟨h.cell 0, h.cell 1, h.cell 2, h.thawed 0, h.thawed 1, h.thawed 2⟩
theorem place_on (g n top i q : Nat) (A : Option Addr) (size : Int) (w : World) (hb : Blk w g 46 #[.slice A n n, .int .i64 (top : Int), .int .i64 size]) (hn1 : 1 ≤ n) (hn2 : n ≤ 256) (ht : top < n) (hi : i ≤ 256) (hq : (top + i) % n = q) :
    Calls Try.prog 28 #[.pointer (some ⟨g, 0, none⟩), .int .i64 (i : Int)] w fun e w' => e = .returned (.int .i64 (q : Int)) ∧ ∃ m, w' = w.drewN m := by
  have HB := hid hb
  clear hb
  obtain ⟨k0, k1, k2, f0, f1, f2⟩ := three HB.out
  have hq' : ((top : Int) + (i : Int)) % (n : Int) = (q : Int) := by rw [← hq]; simp
  have HQ := hid hq'
  clear hq' hq
  have e3 : ¬ (n : Int) = 0 := by omega
  go_enter Try.func28, Try.ntmps28
  go_wp2
  go_quiet (fail)
  go_wp2
  go_ret
  exact ⟨ret_int HQ.out, _, rfl⟩

theorem res_ref {fn : Func} {n u : Nat} (hr : fn.results = #[.cell n 32, .tmp u]) {tmps : Array Value} {g : Nat} (ht : tmps.getD n undef = .pointer (some ⟨g, 0, none⟩)) {b : Bool} (hu : tmps.getD u undef = .bool b) {v0 v1 : Int} {W : World} {t : TypeId}
    (h : Blk W g t #[.int .i64 v0, .int .i64 v1]) : (results fn tmps).run Try.prog W = .ok (.tuple #[.agg #[.int .i64 v0, .int .i64 v1], .bool b]) W := by
  have h0 : W.cell? ⟨g, 0, none⟩ = some (.int .i64 v0) := h.cell 0
  have h1 : W.cell? ⟨g, 1, none⟩ = some (.int .i64 v1) := h.cell 1
  have ht' := ht
  have hu' := hu
  rw [Array.getD_eq_getD_getElem?] at ht' hu'
  simp [results, hr, ht', hu', go_sem, h0, h1]
theorem Blk.set2 {w : World} {g : Nat} {t : TypeId} {a b : Value} (h : Blk w g t #[a, b]) (v0 v1 : Value) :
    Blk ((w.setCell ⟨g, 0, none⟩ v0).setCell ⟨g, 1, none⟩ v1) g t #[v0, v1] := (h.set_ 0 v0).set_ 1 v1
/-- A ring's cell. -/
theorem ring_cell {w : World} {rb n q : Nat} {cur : Array Value} (hb : Blk w rb 32 cur) (hs : cur.size = n * 2) (hq : q < n) :
    ∃ a b, w.cell? ⟨rb, q * 2, none⟩ = some a ∧ w.cell? ⟨rb, q * 2 + 1, none⟩ = some b ∧ w.frozen? ⟨rb, q * 2, none⟩ = false ∧ w.frozen? ⟨rb, q * 2 + 1, none⟩ = false := by
  refine ⟨cur[q * 2]'(by omega), cur[q * 2 + 1]'(by omega), ?_, ?_, hb.thawed _, hb.thawed _⟩
  · rw [hb.cell]; exact Array.getElem?_eq_getElem _
  · rw [hb.cell]; exact Array.getElem?_eq_getElem _

theorem far_set {w : World} {a p : Addr} {v u : Value} (h : w.cell? a = some v) (hne : a.block ≠ p.block) : (w.setCell p u).cell? a = some v :=
  (World.cell?_setCell_other w p a u (fun e => hne (by rw [e]))).trans h
theorem push_on (g rb n top size q : Nat) (cur : Array Value) (j t : Int) (w : World) (hb : Blk w g 46 #[.slice (some ⟨rb, 0, none⟩) n n, .int .i64 (top : Int), .int .i64 (size : Int)]) (hr : Blk w rb 32 cur) (hc : cur.size = n * 2) (hn1 : 1 ≤ n) (hn2 : n ≤ 256) (ht : top < n) (hsz : size < n) (hq : (top + size) % n = q) (hne : rb ≠ g) :
    Calls Try.prog 9 #[.pointer (some ⟨g, 0, none⟩), .agg #[.int .i64 j, .int .i64 t]] w fun e w' => e = .returned (.int .i64 0) ∧
      Blk w' g 46 #[.slice (some ⟨rb, 0, none⟩) n n, .int .i64 (top : Int), .int .i64 ((size + 1 : Nat) : Int)] ∧ Blk w' rb 32 ((cur.setIfInBounds (q * 2) (.int .i64 j)).setIfInBounds (q * 2 + 1) (.int .i64 t)) ∧ Foot (fun i => i = g ∨ i = rb) w w' := by
  have HB := hid (hb.alloc (.cells #[.int .i64 j, .int .i64 t] 32))
  have HR := hid (hr.alloc (.cells #[.int .i64 j, .int .i64 t] 32))
  have hqn : q < n := by rw [← hq]; exact Nat.mod_lt _ (by omega)
  have HQ := hid hq
  clear hb hq
  obtain ⟨k0, k1, k2, f0, f1, f2⟩ := three HB.out
  obtain ⟨a, b, c0, c1, z0, z1⟩ := ring_cell HR.out hc hqn
  have e1 : ¬ (n : Int) = 0 := by omega
  have e2 : ¬ (size : Int) = (n : Int) := by omega
  have e3 : (q : Int) < (n : Int) := by omega
  have e4 : IntKind.i64.wrap ((size : Int) + 1) = ((size + 1 : Nat) : Int) := by rw [IntWalk.i64_in _ (by omega)]; omega
  go_enter Try.func9, Try.ntmps9
  go_wp2
  go_quiet (fail)
  go_wp2
  have KT : (w.alloc (Obj.cells #[.int .i64 j, .int .i64 t] 32)).cell? ⟨w.heap.size, 0, none⟩ = some (.int .i64 j) ∧ (w.alloc (Obj.cells #[.int .i64 j, .int .i64 t] 32)).cell? ⟨w.heap.size, 1, none⟩ = some (.int .i64 t) := ⟨(Blk.new w _ _).cell 0, (Blk.new w _ _).cell 1⟩
  obtain ⟨kt0, kt1⟩ := KT
  have hns : w.heap.size ≠ rb := by have := hr.lt; omega
  have hng : g ≠ rb := fun e => hne e.symm
  generalize hs : w.heap.size = sz at kt0 hns kt1 ⊢
  have HF := hid ((Foot.refl (fun i => i = g ∨ i = rb) w).alloc (Obj.cells #[.int .i64 j, .int .i64 t] 32))
  generalize w.alloc (Obj.cells #[.int .i64 j, .int .i64 t] 32) = W at *
  have HP := hid (fun k => place_on g n top size q _ _ (W.drewN k) (HB.out.drewN k) hn1 hn2 ht (by omega) HQ.out)
  go_region_held3 (fun w' => w'.cell? ⟨g, 0, none⟩ = some (.slice (some ⟨rb, 0, none⟩) n n) ∧ w'.cell? ⟨g, 2, none⟩ = some (.int .i64 (size : Int)) ∧ w'.cell? ⟨sz, 0, none⟩ = some (.int .i64 j) ∧ w'.cell? ⟨sz, 1, none⟩ = some (.int .i64 t)) (first | exact ⟨k0, k2, kt0, kt1⟩ | exact ⟨far_set (far_set k0 hng) hng, far_set (far_set k2 hng) hng, far_set (far_set kt0 hns) hns, far_set (far_set kt1 hns) hns⟩) (first | (go_at_call 28; refine (HP.out _).mono ?_; rintro e w' ⟨rfl, m, rfl⟩))
  go_wp2
  go_ret
  exact ⟨rfl, (((HB.out.drewN _).far hng _).far hng _).set_ 2 _, (((HR.out.drewN _).set_ _ _).set_ _ _).far hne _, (((HF.out.drewN _).set_ _ (.inl (.inr rfl)) _).set_ _ (.inl (.inr rfl)) _).set_ _ (.inl (.inl rfl)) _⟩

theorem pop_on (g rb n top s q : Nat) (cur : Array Value) (j t : Int) (w : World) (hb : Blk w g 46 #[.slice (some ⟨rb, 0, none⟩) n n, .int .i64 (top : Int), .int .i64 ((s + 1 : Nat) : Int)]) (hr : Blk w rb 32 cur) (hj : cur[q * 2]? = some (.int .i64 j)) (hj2 : cur[q * 2 + 1]? = some (.int .i64 t)) (hn1 : 1 ≤ n) (hn2 : n ≤ 256) (ht : top < n) (hsz : s < n) (hq : (top + s) % n = q) (hne : rb ≠ g) :
    Calls Try.prog 11 #[.pointer (some ⟨g, 0, none⟩)] w fun e w' => e = .returned (.tuple #[.agg #[.int .i64 j, .int .i64 t], .bool true]) ∧
      Blk w' g 46 #[.slice (some ⟨rb, 0, none⟩) n n, .int .i64 (top : Int), .int .i64 (s : Int)] ∧ Blk w' rb 32 cur ∧ Foot (fun i => i = g) w w' := by
  have HB0 := hid (hb.alloc (.cells #[.int .i64 0, .int .i64 0] 32))
  have HB := hid ((hb.alloc (.cells #[.int .i64 0, .int .i64 0] 32)).set_ 2 (.int .i64 (s : Int)))
  have HR := hid ((hr.alloc (.cells #[.int .i64 0, .int .i64 0] 32)).far (p := ⟨g, 2, none⟩) hne (.int .i64 (s : Int)))
  have hng : g ≠ rb := fun e => hne e.symm
  have hns : w.heap.size ≠ rb := by have := hr.lt; omega
  have hns2 : w.heap.size ≠ g := by have := hb.lt; omega
  have HZ := hid ((Blk.new w 32 #[.int .i64 0, .int .i64 0]).far (p := ⟨g, 2, none⟩) hns2 (.int .i64 (s : Int)))
  have HF := hid (((Foot.refl (fun i => i = g) w).alloc (Obj.cells #[.int .i64 0, .int .i64 0] 32)).set_ ⟨g, 2, none⟩ (.inl rfl) (.int .i64 (s : Int)))
  have hqn : q < n := by rw [← hq]; exact Nat.mod_lt _ (by omega)
  have HQ := hid hq
  clear hb hr hq
  obtain ⟨k0, k1, k2, f0, f1, f2⟩ := three HB0.out
  have e1 : ¬ (s : Int) + 1 = 0 := by omega
  have e3 : (q : Int) < (n : Int) := by omega
  have e4 : IntKind.i64.wrap (s : Int) = (s : Int) := IntWalk.i64_in _ (by omega)
  have e5 : IntKind.i64.wrap ((s : Int) + 1 - 1) = (s : Int) := by rw [Int.add_sub_cancel]; exact e4
  go_enter Try.func11, Try.ntmps11
  go_wp2
  clear k0 k1 k2 f0 f1 f2
  generalize hs : w.heap.size = sz at *
  generalize (w.alloc (Obj.cells #[.int .i64 0, .int .i64 0] 32)).setCell ⟨g, 2, none⟩ (.int .i64 (s : Int)) = W at *
  have HBs : Blk W g 46 #[.slice (some ⟨rb, 0, none⟩) n n, .int .i64 (top : Int), .int .i64 (s : Int)] := HB.out
  obtain ⟨k0, k1, k2, f0, f1, f2⟩ := three HBs
  have HP := hid (fun k => place_on g n top s q _ _ (W.drewN k) (HBs.drewN k) hn1 hn2 ht (by omega) HQ.out)
  have c0 := HR.out.cell_of hj
  have c1 := HR.out.cell_of hj2
  have z0 := HZ.out.cell 0
  have z1 := HZ.out.cell 1
  have y0 := HZ.out.thawed 0
  have y1 := HZ.out.thawed 1
  clear HBs
  go_region_held3 (fun w' => w'.cell? ⟨g, 0, none⟩ = some (.slice (some ⟨rb, 0, none⟩) n n) ∧ w'.cell? ⟨g, 2, none⟩ = some (.int .i64 (s : Int)) ∧ w'.cell? ⟨rb, q * 2, none⟩ = some (.int .i64 j) ∧ w'.cell? ⟨rb, q * 2 + 1, none⟩ = some (.int .i64 t)) (first | exact ⟨k0, k2, c0, c1⟩ | exact ⟨far_set (far_set k0 hns2.symm) hns2.symm, far_set (far_set k2 hns2.symm) hns2.symm, far_set (far_set c0 hns.symm) hns.symm, far_set (far_set c1 hns.symm) hns.symm⟩) (first | (go_at_call 28; refine (HP.out _).mono ?_; rintro e w' ⟨rfl, m, rfl⟩))
  go_wp2
  refine bodyPost_ret (res_ref (g := sz) (v0 := j) (v1 := t) (b := true) rfl rfl rfl ((HZ.out.drewN _).set2 _ _)) rfl ?_
  exact ⟨rfl, ((HB.out.drewN _).far hns2.symm _).far hns2.symm _, ((HR.out.drewN _).far hns.symm _).far hns.symm _, ((HF.out.drewN _).set_ _ (.inr (Nat.le_of_eq hs)) _).set_ _ (.inr (Nat.le_of_eq hs)) _⟩
end Go.Proofs.Ytmamcbemfccieaa
