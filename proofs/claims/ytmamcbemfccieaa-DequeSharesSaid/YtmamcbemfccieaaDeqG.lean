/-
  Layer 23: the reference's Push, Pop, Steal on a block and a row.
-/
import Derived.Test.YtmamcbemfccieaaDeqF
import Derived.Laws.OwnMore
namespace Go.Proofs.Ytmamcbemfccieaa
open Go.RowKit
set_option linter.unusedVariables false

theorem two_ {w : World} {g : Nat} {t : TypeId} {a b : Value} (h : Blk w g t #[a, b]) :
    w.cell? ⟨g, 0, none⟩ = some a ∧ w.cell? ⟨g, 1, none⟩ = some b ∧ w.frozen? ⟨g, 0, none⟩ = false ∧ w.frozen? ⟨g, 1, none⟩ = false :=
  ⟨h.cell 0, h.cell 1, h.thawed 0, h.thawed 1⟩
theorem row_ne {w : World} {B g n : Nat} {T : TypeId} {cs : Array Value} {v : Value} {xs : List Value} (hb : Blk w g T cs) (hT : T ≠ 32) (ho : w.ownsRow B 32 2 v n xs) : v.ownBlock ≠ some g := by
  intro e
  rcases ho.2 with ⟨rfl, _⟩ | ⟨g', cap, cur, rfl, _, hg, _⟩
  · cases e
  · have e' : g' = g := by injection e
    subst e'
    have := hg.symm.trans hb
    injection this with this
    injection this with _ h
    exact hT h.symm
theorem own_form {w : World} {B n : Nat} {e : TypeId} {size : Nat} {v : Value} {xs : List Value} (ho : w.ownsRow B e size v n xs) : ∃ A c, v = .slice A n c := by
  rcases ho.2 with ⟨rfl, rfl⟩ | ⟨g', cap, cur, rfl, _⟩
  · exact ⟨_, _, rfl⟩
  · exact ⟨_, _, rfl⟩
theorem own_low {w : World} {B B' n : Nat} {e : TypeId} {size : Nat} {v : Value} {xs : List Value} (ho : w.ownsRow B e size v n xs) (h : B' ≤ B) : w.ownsRow B' e size v n xs := by
  refine ⟨ho.1, ?_⟩
  rcases ho.2 with h1 | ⟨g', cap, cur, hv, hb, rest⟩
  · exact .inl h1
  · exact .inr ⟨g', cap, cur, hv, Nat.le_trans h hb, rest⟩
theorem own_far {w : World} {B n : Nat} {e : TypeId} {size : Nat} {v : Value} {xs : List Value} (ho : w.ownsRow B e size v n xs) {p : Addr} (hp : p.block < B) (u : Value) : (w.setCell p u).ownsRow B e size v n xs := by
  refine ⟨ho.1, ?_⟩
  rcases ho.2 with h1 | ⟨g', cap, cur, hv, hb, hg, rest⟩
  · exact .inl h1
  · exact .inr ⟨g', cap, cur, hv, hb, (Below.heap_setCell w p u g' (by omega)).trans hg, rest⟩
theorem row_pop {w : World} {B b k cap : Nat} {e : TypeId} {l : List Rf} (ho : w.ownsRow B e 2 (.slice (some ⟨b, 0, none⟩) (k + 1) cap) (k + 1) (rflat l)) : w.ownsRow B e 2 (.slice (some ⟨b, 0, none⟩) k cap) k (rflat l.dropLast) := by
  have hl := ho.1
  rw [rflat_len] at hl
  refine ⟨by rw [rflat_len, List.length_dropLast]; omega, ?_⟩
  rcases ho.2 with ⟨h, _⟩ | ⟨g', cap', cur, h, h1, h2, h3, h4, h5, h6⟩
  · simp at h
  · simp only [Value.slice.injEq, Option.some.injEq, Addr.mk.injEq, and_true, true_and] at h
    obtain ⟨rfl, rfl⟩ := h
    refine .inr ⟨b, cap, cur, rfl, h1, h2, by omega, h4, h5, ?_⟩
    rw [rflat_dropLast, ← h6, List.take_take]
    congr 1
    omega
theorem rpush_nil (j t : Int) (w : World) : Calls Try.prog 17 #[.pointer none, .agg #[.int .i64 j, .int .i64 t]] w fun e w' => e = .returned (.int .i64 20) ∧ Foot (fun _ => False) w w' := by
  go_enter Try.func17, Try.ntmps17
  go_wp2
  go_ret
  exact ⟨rfl, (Foot.refl _ _).alloc _⟩
theorem rpush_full (g n k cap : Nat) (A : Option Addr) (j t : Int) (w : World) (hb : Blk w g 50 #[.int .i64 (cap : Int), .slice A n k]) (hn : 1 ≤ cap) (hf : cap ≤ n) : Calls Try.prog 17 #[.pointer (some ⟨g, 0, none⟩), .agg #[.int .i64 j, .int .i64 t]] w fun e w' => e = .returned (.int .i64 19) ∧ Foot (fun _ => False) w w' := by
  have HB := hid (hb.alloc (.cells #[.int .i64 j, .int .i64 t] 32))
  clear hb
  obtain ⟨k0, k1, f0, f1⟩ := two_ HB.out
  have e1 : ¬ (cap : Int) = 0 := by omega
  have e2 : (cap : Int) ≤ (n : Int) := by omega
  go_enter Try.func17, Try.ntmps17
  go_wp2
  go_quiet (fail)
  go_wp2
  go_ret
  exact ⟨rfl, ((Foot.refl _ _).alloc _).drewN _⟩
set_option maxHeartbeats 2000000 in
theorem rpush_on (B g n k cap : Nat) (A : Option Addr) (j t : Int) (xs : List Value) (w : World) (hB : B ≤ w.heap.size) (hb : Blk w g 50 #[.int .i64 (cap : Int), .slice A n k]) (ho : w.ownsRow B 32 2 (.slice A n k) n xs) (hn : n < cap) (hc : cap ≤ 256) :
    Calls Try.prog 17 #[.pointer (some ⟨g, 0, none⟩), .agg #[.int .i64 j, .int .i64 t]] w fun e w' => e = .returned (.int .i64 0) ∧ ∃ b k', Blk w' g 50 #[.int .i64 (cap : Int), .slice (some ⟨b, 0, none⟩) (n + 1) k'] ∧ w'.ownsRow B 32 2 (.slice (some ⟨b, 0, none⟩) (n + 1) k') (n + 1) (xs ++ [.int .i64 j, .int .i64 t]) ∧
      Foot (fun i => i = g ∨ some i = (Value.slice A n k).ownBlock) w w' ∧ ((Value.slice A n k).ownBlock = some b ∨ w.heap.size ≤ b) := by
  obtain ⟨i0, hi, hz0, hz1, hz2⟩ := info_parts ref_info
  have hglt := hb.lt
  have HNE := hid (row_ne hb (by decide) ho)
  have HB := hid (hb.alloc (.cells #[.int .i64 j, .int .i64 t] 32))
  have HO := hid (ho.alloc (.cells #[.int .i64 j, .int .i64 t] 32))
  have HF := hid ((Foot.refl (fun i => i = g ∨ some i = (Value.slice A n k).ownBlock) w).alloc (.cells #[.int .i64 j, .int .i64 t] 32))
  have HZ := hid (Blk.new w 32 #[.int .i64 j, .int .i64 t])
  clear hb ho
  obtain ⟨k0, k1, f0, f1⟩ := two_ HB.out
  have e1 : ¬ (cap : Int) = 0 := by omega
  have e2 : ¬ (cap : Int) ≤ (n : Int) := by omega
  go_enter Try.func17, Try.ntmps17
  go_wp2
  go_quiet (fail)
  go_wp2
  have hWs : (w.alloc (.cells #[.int .i64 j, .int .i64 t] 32)).heap.size = w.heap.size + 1 := by simp
  generalize hs : w.heap.size = sz at *
  generalize w.alloc (.cells #[.int .i64 j, .int .i64 t] 32) = W at *
  have z0 := HZ.out.cell 0
  have z1 := HZ.out.cell 1
  have HBY : Hid ((n + 1) * 16 ≤ 140737488355328) := hid (by omega)
  have H63 : Hid (n + 1 ≤ maxLen) := hid (by unfold maxLen; omega)
  have HBA : Hid (∀ m, B ≤ ((W.drewN m).alloc (.cells #[.int .i64 j, .int .i64 t] 32)).heap.size) := hid (fun m => by simp; omega)
  have HNW : Hid (∀ (m k : Nat) (u : Value), [Value.int .i64 j, .int .i64 t][k]? = some u → ((W.drewN m).alloc (.cells #[.int .i64 j, .int .i64 t] 32)).cell? ((⟨sz + 1, 0, none⟩ : Addr).add k) = some u) := hid (fun m => by rw [← hWs]; exact World.news_of_block (heap_alloc_new (W.drewN m) (.cells #[.int .i64 j, .int .i64 t] 32)))
  have HOA : Hid (∀ m, ((W.drewN m).alloc (.cells #[.int .i64 j, .int .i64 t] 32)).ownsRow B 32 2 (.slice A n k) n xs) := hid (fun m => HO.out.alloc (.cells #[.int .i64 j, .int .i64 t] 32))
  have HBL : Hid (∀ m, Blk ((W.drewN m).alloc (.cells #[.int .i64 j, .int .i64 t] 32)) g 50 #[.int .i64 (cap : Int), .slice A n k]) := hid (fun m => HB.out.alloc (.cells #[.int .i64 j, .int .i64 t] 32))
  have HFL : Hid (∀ m, Foot (fun i => i = g ∨ some i = (Value.slice A n k).ownBlock) w ((W.drewN m).alloc (.cells #[.int .i64 j, .int .i64 t] 32))) := hid (fun m => (HF.out.drewN m).alloc (.cells #[.int .i64 j, .int .i64 t] 32))
  go_region_law ((refine step_append_lies _ (by rfl) (.tmp 28) (.tmp 30) 43 (by rfl) B 32 i0 (.agg #[.int .i64 0, .int .i64 0]) 2 16 Try.underlying43 hi hz0 hz1 hz2 rfl (by decide) (.slice A n k) n xs (by rfl) (HOA.out _) ⟨sz + 1, 0, none⟩ 1 1 [.int .i64 j, .int .i64 t] (by rfl) rfl (HNW.out _) (ref_one j t) (by decide) H63.out HBY.out (HBA.out _) _ rfl ?_; intro b cap' w1 hown1 hgrow hat hlt; have HB1 := hid ((HBL.out _).grown hgrow (fun e => HNE.out e.symm)); have HO1 := hid hown1; have HG1 := hid ((HFL.out _).grown hgrow (fun i e => .inl (.inr e.symm))); have HA1 := hid hat; clear hown1 hgrow hat; obtain ⟨m0, m1, n0, n1⟩ := two_ HB1.out))
  all_goals (go_wp2; go_ret; exact ⟨rfl, b, cap', HB1.out.set_ 1 _, HO1.out.kept (only_setCell (p := ⟨g, 1, none⟩) (World.grownBy.refl w1 (some g)) (.inl rfl) _) (.inr (row_ne HB1.out (by decide) HO1.out)), HG1.out.set_ ⟨g, 1, none⟩ (.inl (.inl rfl)) _, HA1.out.imp id (fun e => by rw [e]; simp; omega)⟩)
theorem rlen_on (g n k : Nat) (v : Value) (A : Option Addr) (w : World) (hb : Blk w g 50 #[v, .slice A n k]) : Calls Try.prog 25 #[.pointer (some ⟨g, 0, none⟩)] w fun e w' => e = .returned (.int .i64 (n : Int)) ∧ w = w' := by
  have HB := hid hb
  clear hb
  obtain ⟨k0, k1, f0, f1⟩ := two_ HB.out
  go_enter Try.func25, Try.ntmps25
  go_wp2
  go_ret
  exact ⟨rfl, rfl⟩
theorem rlen_nil (w : World) : Calls Try.prog 25 #[.pointer none] w fun e w' => e = .returned (.int .i64 0) ∧ w = w' := by
  go_enter Try.func25, Try.ntmps25
  go_wp2
  go_ret
  exact ⟨rfl, rfl⟩
theorem rremove_nil (j : Int) (w : World) : Calls Try.prog 21 #[.pointer none, .int .i64 j] w fun e w' => e = .returned (.int .i64 0) ∧ w = w' := by
  go_enter Try.func21, Try.ntmps21
  go_wp2
  go_ret
  exact ⟨rfl, rfl⟩
theorem rlist_nil (w : World) : Calls Try.prog 27 #[.pointer none] w fun e w' => e = .returned (.slice none 0 0) ∧ w = w' := by
  go_enter Try.func27, Try.ntmps27
  go_wp2
  go_ret
  exact ⟨rfl, rfl⟩
theorem rdrain_nil (w : World) : Calls Try.prog 24 #[.pointer none] w fun e w' => e = .returned (.slice none 0 0) ∧ w = w' := by
  go_enter Try.func24, Try.ntmps24
  go_wp2
  go_ret
  exact ⟨rfl, rfl⟩
theorem rpop_nil (w : World) : Calls Try.prog 18 #[.pointer none] w fun e w' => e = .returned (.tuple #[.agg #[.int .i64 0, .int .i64 0], .bool false]) ∧ Foot (fun _ => False) w w' := by
  go_enter Try.func18, Try.ntmps18
  go_wp2_with fail
  refine (rlen_nil _).mono ?_
  rintro e w' ⟨rfl, rfl⟩
  go_wp2
  refine bodyPost_ret (res_ref (g := w.heap.size) (v0 := 0) (v1 := 0) (b := false) rfl rfl rfl (Blk.new w 32 #[.int .i64 0, .int .i64 0])) rfl ?_
  exact ⟨rfl, (Foot.refl _ _).alloc _⟩
theorem rpop_empty (g k : Nat) (v : Value) (A : Option Addr) (w : World) (hb : Blk w g 50 #[v, .slice A 0 k]) : Calls Try.prog 18 #[.pointer (some ⟨g, 0, none⟩)] w fun e w' => e = .returned (.tuple #[.agg #[.int .i64 0, .int .i64 0], .bool false]) ∧ Foot (fun _ => False) w w' := by
  have HB := hid (hb.alloc (.cells #[.int .i64 0, .int .i64 0] 32))
  clear hb
  go_enter Try.func18, Try.ntmps18
  go_wp2_with fail
  refine (rlen_on g 0 k v A _ HB.out).mono ?_
  rintro e w' ⟨rfl, rfl⟩
  rw [show ((0 : Nat) : Int) = 0 from rfl]
  go_wp2
  refine bodyPost_ret (res_ref (g := w.heap.size) (v0 := 0) (v1 := 0) (b := false) rfl rfl rfl (Blk.new w 32 #[.int .i64 0, .int .i64 0])) rfl ?_
  exact ⟨rfl, (Foot.refl _ _).alloc _⟩
theorem rsteal_nil (w : World) : Calls Try.prog 19 #[.pointer none] w fun e w' => e = .returned (.tuple #[.agg #[.int .i64 0, .int .i64 0], .bool false]) ∧ Foot (fun _ => False) w w' := by
  go_enter Try.func19, Try.ntmps19
  go_wp2_with fail
  refine (rlen_nil _).mono ?_
  rintro e w' ⟨rfl, rfl⟩
  go_wp2
  refine bodyPost_ret (res_ref (g := w.heap.size) (v0 := 0) (v1 := 0) (b := false) rfl rfl rfl (Blk.new w 32 #[.int .i64 0, .int .i64 0])) rfl ?_
  exact ⟨rfl, (Foot.refl _ _).alloc _⟩
theorem rsteal_empty (g k : Nat) (v : Value) (A : Option Addr) (w : World) (hb : Blk w g 50 #[v, .slice A 0 k]) : Calls Try.prog 19 #[.pointer (some ⟨g, 0, none⟩)] w fun e w' => e = .returned (.tuple #[.agg #[.int .i64 0, .int .i64 0], .bool false]) ∧ Foot (fun _ => False) w w' := by
  have HB := hid (hb.alloc (.cells #[.int .i64 0, .int .i64 0] 32))
  clear hb
  go_enter Try.func19, Try.ntmps19
  go_wp2_with fail
  refine (rlen_on g 0 k v A _ HB.out).mono ?_
  rintro e w' ⟨rfl, rfl⟩
  rw [show ((0 : Nat) : Int) = 0 from rfl]
  go_wp2
  refine bodyPost_ret (res_ref (g := w.heap.size) (v0 := 0) (v1 := 0) (b := false) rfl rfl rfl (Blk.new w 32 #[.int .i64 0, .int .i64 0])) rfl ?_
  exact ⟨rfl, (Foot.refl _ _).alloc _⟩
set_option maxHeartbeats 2000000 in
theorem rpop_on (g b k cap : Nat) (v : Value) (j t : Int) (w : World) (hb : Blk w g 50 #[v, .slice (some ⟨b, 0, none⟩) (k + 1) cap]) (hj : w.cell? ⟨b, k * 2, none⟩ = some (.int .i64 j)) (hj2 : w.cell? ⟨b, k * 2 + 1, none⟩ = some (.int .i64 t)) (hbl : b < w.heap.size) (hne : b ≠ g) (hn : k < 256) (hk : k + 1 ≤ cap) :
    Calls Try.prog 18 #[.pointer (some ⟨g, 0, none⟩)] w fun e w' => e = .returned (.tuple #[.agg #[.int .i64 j, .int .i64 t], .bool true]) ∧ Blk w' g 50 #[v, .slice (some ⟨b, 0, none⟩) k cap] ∧ Foot (fun i => i = g) w w' := by
  have HB := hid (hb.alloc (.cells #[.int .i64 0, .int .i64 0] 32))
  have HL := hid (rlen_on g (k + 1) cap v _ _ HB.out)
  have c0 : (w.alloc (.cells #[.int .i64 0, .int .i64 0] 32)).cell? ⟨b, k * 2, none⟩ = some (.int .i64 j) := (World.cell?_of_block (Below.heap_alloc w (.cells #[.int .i64 0, .int .i64 0] 32) b hbl)).trans hj
  have c1 : (w.alloc (.cells #[.int .i64 0, .int .i64 0] 32)).cell? ⟨b, k * 2 + 1, none⟩ = some (.int .i64 t) := (World.cell?_of_block (Below.heap_alloc w (.cells #[.int .i64 0, .int .i64 0] 32) b hbl)).trans hj2
  have HZ := hid (Blk.new w 32 #[.int .i64 0, .int .i64 0])
  have HF := hid ((Foot.refl (fun i => i = g) w).alloc (.cells #[.int .i64 0, .int .i64 0] 32))
  have hgl := hb.lt
  have HNE := hid hne
  clear hb hj hj2 hne
  obtain ⟨k0, k1, f0, f1⟩ := two_ HB.out
  have e1 : IntKind.i64.wrap ((k : Int) + 1 - 1) = (k : Int) := by rw [Int.add_sub_cancel]; exact IntWalk.i64_in _ (by omega)
  have e2 : IntKind.i64.wrap (k : Int) = (k : Int) := IntWalk.i64_in _ (by omega)
  have t1 : ¬ ((k : Int) + 1 = 0) := by omega
  have t2 : (0 : Int) ≤ (k : Int) := by omega
  have t3 : (k : Int) < (k : Int) + 1 := by omega
  have t4 : (k : Int) ≤ (cap : Int) := by omega
  have t5 : k ≤ cap := by omega
  go_enter Try.func18, Try.ntmps18
  go_wp2_with fail
  refine HL.out.mono ?_
  rintro e w' ⟨rfl, rfl⟩
  go_wp2
  have hWs : (w.alloc (.cells #[.int .i64 0, .int .i64 0] 32)).heap.size = w.heap.size + 1 := by simp
  generalize hs : w.heap.size = sz at *
  generalize w.alloc (.cells #[.int .i64 0, .int .i64 0] 32) = W at *
  go_region
  go_wp2
  have hgs' : g ≠ sz + 1 := by omega
  have hzs' : sz ≠ sz + 1 := by omega
  have hgz : g ≠ sz := by omega
  have HB1 := hid (HB.out.alloc (.cells #[.int .i64 j, .int .i64 t] 32))
  have HZ1 := hid (HZ.out.alloc (.cells #[.int .i64 j, .int .i64 t] 32))
  have HN1 : Hid (Blk (W.alloc (.cells #[.int .i64 j, .int .i64 t] 32)) (sz + 1) 32 #[.int .i64 j, .int .i64 t]) := by rw [← hWs]; exact Blk.new W _ _
  have HF1 := hid (HF.out.alloc (.cells #[.int .i64 j, .int .i64 t] 32))
  clear k0 k1 f0 f1 c0 c1 HL
  generalize W.alloc (.cells #[.int .i64 j, .int .i64 t] 32) = W1 at *
  obtain ⟨k0, k1, f0, f1⟩ := two_ HB1.out
  have p0 := HN1.out.cell 0
  have p1 := HN1.out.cell 1
  have z0 := HZ1.out.cell 0
  have z1 := HZ1.out.cell 1
  have y0 := HZ1.out.thawed 0
  have y1 := HZ1.out.thawed 1
  go_region
  all_goals go_wp2
  all_goals (refine bodyPost_ret (res_ref (g := sz) (v0 := j) (v1 := t) (b := true) rfl rfl rfl ((HZ1.out.drewN 2).far hgz.symm _ |>.set2 _ _)) rfl ?_; exact ⟨rfl, (((HB1.out.drewN 2).set_ 1 _).far hgz _).far hgz _, (((HF1.out.drewN 2).set_ ⟨g, 1, none⟩ (.inl rfl) _).set_ ⟨sz, 0, none⟩ (.inr (Nat.le_of_eq hs)) _).set_ ⟨sz, 1, none⟩ (.inr (Nat.le_of_eq hs)) _⟩)
end Go.Proofs.Ytmamcbemfccieaa
