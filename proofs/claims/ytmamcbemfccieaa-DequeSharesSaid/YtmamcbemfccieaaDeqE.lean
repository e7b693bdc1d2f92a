/-
  Layer 23: the deque's small walks; its functions on values (nil or a block with a ring).
-/
import Derived.Test.YtmamcbemfccieaaDeqB
import Derived.Test.YtmamcbemfccieaaDeqD
namespace Go.Proofs.Ytmamcbemfccieaa
open Go.RowKit
set_option linter.unusedVariables false

theorem push_nil (j t : Int) (w : World) : Calls Try.prog 9 #[.pointer none, .agg #[.int .i64 j, .int .i64 t]] w fun e w' => e = .returned (.int .i64 20) ∧ Foot (fun _ => False) w w' := by
  go_enter Try.func9, Try.ntmps9
  go_wp2
  go_ret
  exact ⟨rfl, (Foot.refl _ _).alloc _⟩
theorem push_zero (g : Nat) (A : Option Addr) (c : Nat) (v u : Value) (j t : Int) (w : World) (hb : Blk w g 46 #[.slice A 0 c, v, u]) : Calls Try.prog 9 #[.pointer (some ⟨g, 0, none⟩), .agg #[.int .i64 j, .int .i64 t]] w fun e w' => e = .returned (.int .i64 20) ∧ Foot (fun _ => False) w w' := by
  have HB := hid (hb.alloc (.cells #[.int .i64 j, .int .i64 t] 32))
  clear hb
  obtain ⟨k0, k1, k2, f0, f1, f2⟩ := three HB.out
  go_enter Try.func9, Try.ntmps9
  go_wp2
  go_ret
  exact ⟨rfl, (Foot.refl _ _).alloc _⟩
theorem push_full (g n : Nat) (A : Option Addr) (v : Value) (j t : Int) (w : World) (hb : Blk w g 46 #[.slice A n n, v, .int .i64 (n : Int)]) (hn : 1 ≤ n) : Calls Try.prog 9 #[.pointer (some ⟨g, 0, none⟩), .agg #[.int .i64 j, .int .i64 t]] w fun e w' => e = .returned (.int .i64 19) ∧ Foot (fun _ => False) w w' := by
  have HB := hid (hb.alloc (.cells #[.int .i64 j, .int .i64 t] 32))
  clear hb
  obtain ⟨k0, k1, k2, f0, f1, f2⟩ := three HB.out
  have e1 : ¬ (n : Int) = 0 := by omega
  go_enter Try.func9, Try.ntmps9
  go_wp2
  go_quiet (fail)
  go_wp2
  go_ret
  exact ⟨rfl, ((Foot.refl _ _).alloc _).drewN _⟩
theorem pop_nil (w : World) : Calls Try.prog 11 #[.pointer none] w fun e w' => e = .returned (.tuple #[.agg #[.int .i64 0, .int .i64 0], .bool false]) ∧ Foot (fun _ => False) w w' := by
  go_enter Try.func11, Try.ntmps11
  go_wp2
  refine bodyPost_ret (res_ref (g := w.heap.size) (v0 := 0) (v1 := 0) (b := false) rfl rfl rfl (Blk.new w 32 #[.int .i64 0, .int .i64 0])) rfl ?_
  exact ⟨rfl, (Foot.refl _ _).alloc _⟩
theorem pop_empty (g : Nat) (v u : Value) (w : World) (hb : Blk w g 46 #[v, u, .int .i64 0]) : Calls Try.prog 11 #[.pointer (some ⟨g, 0, none⟩)] w fun e w' => e = .returned (.tuple #[.agg #[.int .i64 0, .int .i64 0], .bool false]) ∧ Foot (fun _ => False) w w' := by
  have HB := hid (hb.alloc (.cells #[.int .i64 0, .int .i64 0] 32))
  clear hb
  obtain ⟨k0, k1, k2, f0, f1, f2⟩ := three HB.out
  go_enter Try.func11, Try.ntmps11
  go_wp2
  refine bodyPost_ret (res_ref (g := w.heap.size) (v0 := 0) (v1 := 0) (b := false) rfl rfl rfl (Blk.new w 32 #[.int .i64 0, .int .i64 0])) rfl ?_
  exact ⟨rfl, (Foot.refl _ _).alloc _⟩
theorem steal_nil (w : World) : Calls Try.prog 12 #[.pointer none] w fun e w' => e = .returned (.tuple #[.agg #[.int .i64 0, .int .i64 0], .bool false]) ∧ Foot (fun _ => False) w w' := by
  go_enter Try.func12, Try.ntmps12
  go_wp2
  refine bodyPost_ret (res_ref (g := w.heap.size) (v0 := 0) (v1 := 0) (b := false) rfl rfl rfl (Blk.new w 32 #[.int .i64 0, .int .i64 0])) rfl ?_
  exact ⟨rfl, (Foot.refl _ _).alloc _⟩
theorem steal_empty (g : Nat) (v u : Value) (w : World) (hb : Blk w g 46 #[v, u, .int .i64 0]) : Calls Try.prog 12 #[.pointer (some ⟨g, 0, none⟩)] w fun e w' => e = .returned (.tuple #[.agg #[.int .i64 0, .int .i64 0], .bool false]) ∧ Foot (fun _ => False) w w' := by
  have HB := hid (hb.alloc (.cells #[.int .i64 0, .int .i64 0] 32))
  clear hb
  obtain ⟨k0, k1, k2, f0, f1, f2⟩ := three HB.out
  go_enter Try.func12, Try.ntmps12
  go_wp2
  refine bodyPost_ret (res_ref (g := w.heap.size) (v0 := 0) (v1 := 0) (b := false) rfl rfl rfl (Blk.new w 32 #[.int .i64 0, .int .i64 0])) rfl ?_
  exact ⟨rfl, (Foot.refl _ _).alloc _⟩
theorem len_nil (w : World) : Calls Try.prog 13 #[.pointer none] w fun e w' => e = .returned (.int .i64 0) ∧ w = w' := by
  go_enter Try.func13, Try.ntmps13
  go_wp2
  go_ret
  exact ⟨rfl, rfl⟩
theorem remove_nil (j : Int) (w : World) : Calls Try.prog 20 #[.pointer none, .int .i64 j] w fun e w' => e = .returned (.int .i64 0) ∧ w = w' := by
  go_enter Try.func20, Try.ntmps20
  go_wp2
  go_ret
  exact ⟨rfl, rfl⟩
theorem list_nil (w : World) : Calls Try.prog 26 #[.pointer none] w fun e w' => e = .returned (.slice none 0 0) ∧ w = w' := by
  go_enter Try.func26, Try.ntmps26
  go_wp2
  go_ret
  exact ⟨rfl, rfl⟩
theorem len_on (g : Nat) (v u : Value) (n : Int) (w : World) (hb : Blk w g 46 #[v, u, .int .i64 n]) : Calls Try.prog 13 #[.pointer (some ⟨g, 0, none⟩)] w fun e w' => e = .returned (.int .i64 n) ∧ w = w' := by
  have HB := hid hb
  clear hb
  obtain ⟨k0, k1, k2, f0, f1, f2⟩ := three HB.out
  go_enter Try.func13, Try.ntmps13
  go_wp2
  go_ret
  exact ⟨rfl, rfl⟩
theorem list_zero (g : Nat) (v u : Value) (w : World) (hb : Blk w g 46 #[v, u, .int .i64 0]) : Calls Try.prog 26 #[.pointer (some ⟨g, 0, none⟩)] w fun e w' => e = .returned (.slice none 0 0) ∧ w = w' := by
  have HB := hid hb
  clear hb
  obtain ⟨k0, k1, k2, f0, f1, f2⟩ := three HB.out
  go_enter Try.func26, Try.ntmps26
  go_wp2
  go_loopw [3, 11] (fun v i wr => i = .int .i64 0 ∧ v = .slice none 0 0 ∧ w = wr) (fun _ _ _ => 0)
  case atStart => exact ⟨rfl, rfl, rfl⟩
  case round =>
    obtain ⟨rfl, rfl, rfl⟩ := hrel
    go_wp2
    go_ret
    exact ⟨rfl, rfl⟩
theorem drain_nil (w : World) : Calls Try.prog 23 #[.pointer none] w fun e w' => e = .returned (.slice none 0 0) ∧ w = w' := by
  go_enter Try.func23, Try.ntmps23
  go_wp2_with fail
  refine (list_nil w).mono ?_
  rintro e w' ⟨rfl, rfl⟩
  go_wp2
  go_ret
  exact ⟨rfl, rfl⟩
theorem drain_zero (g : Nat) (v u : Value) (w : World) (hb : Blk w g 46 #[v, u, .int .i64 0]) : Calls Try.prog 23 #[.pointer (some ⟨g, 0, none⟩)] w fun e w' => e = .returned (.slice none 0 0) ∧ Foot (fun i => i = g) w w' := by
  have HB := hid hb
  clear hb
  obtain ⟨k0, k1, k2, f0, f1, f2⟩ := three HB.out
  go_enter Try.func23, Try.ntmps23
  go_wp2_with fail
  refine (list_zero g v u w HB.out).mono ?_
  rintro e w' ⟨rfl, rfl⟩
  go_wp2
  go_ret
  have hf0 : Foot (fun i => i = g) w w := Foot.refl _ _
  exact ⟨rfl, (hf0.set_ ⟨g, 1, none⟩ (.inl rfl) _).set_ ⟨g, 2, none⟩ (.inl rfl) _⟩
theorem drain_on (g rb n top size : Nat) (cur : Array Value) (l : List Rf) (w : World) (hb : Blk w g 46 #[.slice (some ⟨rb, 0, none⟩) n n, .int .i64 (top : Int), .int .i64 (size : Int)]) (hr : Blk w rb 32 cur) (hc : cur.size = n * 2) (hn1 : 1 ≤ n) (hn2 : n ≤ 256) (ht : top < n) (hl : l.length = size) (hsz : size ≤ n) (hne : rb ≠ g)
    (hring : ∀ j x, l[j]? = some x → cur[(top + j) % n * 2]? = some (.int .i64 x.job) ∧ cur[(top + j) % n * 2 + 1]? = some (.int .i64 x.task)) :
    Calls Try.prog 23 #[.pointer (some ⟨g, 0, none⟩)] w fun e w' => ∃ v, e = .returned v ∧ w'.ownsRow w.heap.size 32 2 v size (rflat l) ∧ Blk w' g 46 #[.slice (some ⟨rb, 0, none⟩) n n, .int .i64 0, .int .i64 0] ∧ Blk w' rb 32 cur ∧ Foot (fun i => i = g) w w' := by
  have HB := hid hb
  have HR := hid hr
  have hgl := hb.lt
  have HC := hid (list_on g rb n top size cur l w hb hr hc hn1 hn2 ht hl hsz hring)
  clear hb hr hring
  go_enter Try.func23, Try.ntmps23
  go_wp2_with fail
  refine HC.out.mono ?_
  rintro e w' ⟨v, rfl, ho, hf⟩
  have HO := hid ho
  have HF := hid hf
  have HB1 := hid (hf.blk HB.out (fun e => e))
  have HR1 := hid (hf.blk HR.out (fun e => e))
  clear ho hf
  have hv : ∀ x, v.ownBlock = some x → x ≠ g := fun x hx => by have := (HO.out.lt x hx).1; omega
  have hnv : v.ownBlock = none ∨ v.ownBlock ≠ some g := by
    rcases h : v.ownBlock with _ | x
    · exact .inl rfl
    · exact .inr (fun e => hv x h (by injection e))
  have hg1 : w'.grownBy ((w'.setCell ⟨g, 1, none⟩ (.int .i64 0)).setCell ⟨g, 2, none⟩ (.int .i64 0)) (some g) := only_setCell (p := ⟨g, 2, none⟩) (only_setCell (p := ⟨g, 1, none⟩) (World.grownBy.refl _ _) (.inl rfl) _) (.inl rfl) _
  have hf0 : Foot (fun i => i = g) w w' := HF.out.mono (fun i _ e => e.elim)
  have A1 := hid (HO.out.kept hg1 hnv)
  have A2 := hid ((HB1.out.set_ 1 (.int .i64 0)).set_ 2 (.int .i64 0))
  have A3 := hid ((HR1.out.far (p := ⟨g, 1, none⟩) hne (.int .i64 0)).far (p := ⟨g, 2, none⟩) hne (.int .i64 0))
  have A4 := hid ((hf0.set_ ⟨g, 1, none⟩ (.inl rfl) (.int .i64 0)).set_ ⟨g, 2, none⟩ (.inl rfl) (.int .i64 0))
  clear hg1 hf0 hnv hv
  obtain ⟨k0, k1, k2, f0, f1, f2⟩ := three HB1.out
  go_wp2
  go_ret
  exact ⟨v, rfl, A1.out, A2.out, A3.out, A4.out⟩
theorem new_no (c : Int) (w : World) (hc : c < 1 ∨ 256 < c) :
    Calls Try.prog 8 #[.int .i64 c] w fun e w' => e = .returned (.tuple #[.pointer none, .int .i64 2]) ∧ w = w' := by
  by_cases h1 : c < 1
  · go_enter Try.func8, Try.ntmps8
    go_wp2
    go_ret2
    exact ⟨rfl, rfl⟩
  · have h2 : 256 < c := by omega
    clear hc
    go_enter Try.func8, Try.ntmps8
    go_wp2
    go_ret2
    exact ⟨rfl, rfl⟩
end Go.Proofs.Ytmamcbemfccieaa
