/-
  Layer 22: Mark and Release, on a block and a row of the call's own.
-/
import Derived.Test.YtkjipnafgojcgaaArenaWalks
import Derived.Laws.OwnMore
import Derived.Deep.RegionLaw
namespace Go.Proofs.Ytkjipnafgojcgaa
open Go.RowKit
set_option linter.unusedVariables false

theorem row_ne {w : World} {B g n : Nat} {T : TypeId} {cs : Array Value} {v : Value} {xs : List Value} (hb : Blk w g T cs) (hT : T ≠ 3) (ho : w.ownsRow B 3 1 v n xs) : v.ownBlock ≠ some g := by
  intro e
  rcases ho.2 with ⟨rfl, _⟩ | ⟨g', cap, cur, rfl, _, hg, _⟩
  · cases e
  · have e' : g' = g := by injection e
    subst e'
    have := hg.symm.trans hb
    injection this with this
    injection this with _ h
    exact hT h.symm
theorem foot_mark {w w1 : World} {g : Nat} {r : Option Nat} {o : Obj} (hg : (w.drew.alloc o).grownBy w1 r) (i : Nat) (u : Value) : Foot (fun i => i = g ∨ some i = r) w (w1.setCell ⟨g, i, none⟩ u) := by
  have hs : w.heap.size ≤ (w.drew.alloc o).heap.size := by simp
  refine ⟨hg.os, hg.tape, hg.output, ?_, fun k hk hn => ?_⟩
  · have := hg.size
    simpa [World.setCell] using Nat.le_trans hs this
  · refine (Below.heap_setCell w1 ⟨g, i, none⟩ u k (fun e => hn (.inl e))).trans ((hg.block k (Nat.lt_of_lt_of_le hk hs) (fun e => hn (.inr e))).trans (Below.heap_alloc w.drew o k hk))
theorem row_pop {w : World} {B b k cap : Nat} {e : TypeId} {xs : List Value} (ho : w.ownsRow B e 1 (.slice (some ⟨b, 0, none⟩) (k + 1) cap) (k + 1) xs) : w.ownsRow B e 1 (.slice (some ⟨b, 0, none⟩) k cap) k xs.dropLast := by
  refine ⟨by have := ho.1; simp only [List.length_dropLast]; omega, ?_⟩
  rcases ho.2 with ⟨h, _⟩ | ⟨g', cap', cur, h, h1, h2, h3, h4, h5, h6⟩
  · simp at h
  · simp only [Value.slice.injEq, Option.some.injEq, Addr.mk.injEq, and_true, true_and] at h
    obtain ⟨rfl, rfl⟩ := h
    refine .inr ⟨b, cap, cur, rfl, h1, h2, by omega, h4, h5, ?_⟩
    rw [← h6, List.dropLast_eq_take, List.take_take, List.length_take]
    congr 1
    have := Array.length_toList (xs := cur)
    omega

theorem amark_full (g : Nat) (c u h : Int) (A : Option Addr) (n k : Nat) (w : World) (hb : Blk w g 46 #[.int .i64 c, .int .i64 u, .int .i64 h, .slice A n k]) (hn : 1024 ≤ n) :
    Calls Try.prog 13 #[.pointer (some ⟨g, 0, none⟩)] w fun e w' => e = .returned (.int .i64 19) ∧ w = w' := by
  have HB := hid hb
  clear hb
  obtain ⟨k0, k1, k2, k3, f0, f1, f2, f3⟩ := four HB.out
  have hn' : (1024 : Int) ≤ (n : Int) := by omega
  go_enter Try.func13, Try.ntmps13
  go_wp2
  go_ret
  exact ⟨rfl, rfl⟩
set_option maxHeartbeats 2000000 in
theorem amark_on (B g : Nat) (c u h : Int) (A : Option Addr) (n k : Nat) (xs : List Value) (w : World) (hB : B ≤ w.heap.size) (hb : Blk w g 46 #[.int .i64 c, .int .i64 u, .int .i64 h, .slice A n k]) (ho : w.ownsRow B 3 1 (.slice A n k) n xs) (hn : n < 1024) :
    Calls Try.prog 13 #[.pointer (some ⟨g, 0, none⟩)] w fun e w' => e = .returned (.int .i64 0) ∧ ∃ b k', Blk w' g 46 #[.int .i64 c, .int .i64 u, .int .i64 h, .slice (some ⟨b, 0, none⟩) (n + 1) k'] ∧ w'.ownsRow B 3 1 (.slice (some ⟨b, 0, none⟩) (n + 1) k') (n + 1) (xs ++ [.int .i64 u]) ∧
      Foot (fun i => i = g ∨ some i = (Value.slice A n k).ownBlock) w w' ∧ ((Value.slice A n k).ownBlock = some b ∨ w.heap.size ≤ b) := by
  obtain ⟨i0, hi, hz0, hz1, hz2⟩ := info_parts arena_info
  have hglt := hb.lt
  have HNE := hid (row_ne hb (by decide) ho)
  have HB := hid hb.drew
  have HO := hid ho.drew
  have HF := hid (Foot.refl (fun i => i = g ∨ some i = (Value.slice A n k).ownBlock) w)
  have HF2 : Hid (Foot (fun i => i = g ∨ some i = (Value.slice A n k).ownBlock) w w.drew) := ⟨rfl, rfl, rfl, Nat.le_refl _, fun _ _ _ => rfl⟩
  have hs : w.drew.heap.size = w.heap.size := rfl
  have HS := hid hs
  have hk := four hb
  obtain ⟨k0, k1, k2, k3, f0, f1, f2, f3⟩ := hk
  clear hb ho HF hs
  have hn' : ¬ (1024 : Int) ≤ (n : Int) := by omega
  go_enter Try.func13, Try.ntmps13
  go_wp2
  have hnews : ∀ (j : Nat) (z : Value), [Value.int .i64 u][j]? = some z → (w.drew.alloc (.cells #[.int .i64 u] 3)).cell? ((⟨w.heap.size, 0, none⟩ : Addr).add j) = some z := World.news_of_block (heap_alloc_new w.drew (.cells #[.int .i64 u] 3))
  have hone : ∀ z ∈ [Value.int .i64 u], z.oneCell' = true := by simp [Value.oneCell']
  have h63 : n + 1 ≤ maxLen := by unfold maxLen; omega
  have HNW := hid hnews
  have HON := hid hone
  have H63 := hid h63
  clear hnews hone h63
  go_region_law ((refine step_append_lies _ (by rfl) (.tmp 15) (.tmp 20) 22 (by rfl) B 3 i0 (.int .i64 0) 1 8 Try.underlying22 hi hz0 hz1 hz2 rfl (by decide) (.slice A n k) n xs (by rfl) (HO.out.alloc (.cells #[.int .i64 u] 3)) ⟨w.heap.size, 0, none⟩ 1 1 [.int .i64 u] (by rfl) rfl HNW.out HON.out (by omega) H63.out (by omega) (by simp <;> omega) _ rfl ?_; intro b cap w1 hown1 hgrow hat hlt; have HB1 := hid ((HB.out.alloc (.cells #[.int .i64 u] 3)).grown hgrow (fun e => HNE.out e.symm)); have HO1 := hid hown1; have HG1 := hid hgrow; have HA1 := hid hat; clear hown1 hgrow hat; obtain ⟨m0, m1, m2, m3, n0, n1, n2, n3⟩ := four HB1.out))
  all_goals (go_wp2; go_ret; exact ⟨rfl, b, cap, HB1.out.set_ 3 _, HO1.out.kept (own_set (World.grownBy.refl w1 (some g)) 3 _) (.inr (row_ne HB1.out (by decide) HO1.out)), foot_mark HG1.out _ _, HA1.out.imp id (fun e => by rw [e]; simp)⟩)
theorem arelease_nil (g : Nat) (c u h : Int) (A : Option Addr) (k : Nat) (w : World) (hb : Blk w g 46 #[.int .i64 c, .int .i64 u, .int .i64 h, .slice A 0 k]) :
    Calls Try.prog 16 #[.pointer (some ⟨g, 0, none⟩)] w fun e w' => e = .returned (.int .i64 20) ∧ w = w' := by
  have HB := hid hb
  clear hb
  obtain ⟨k0, k1, k2, k3, f0, f1, f2, f3⟩ := four HB.out
  go_enter Try.func16, Try.ntmps16
  go_wp2
  go_ret
  exact ⟨rfl, rfl⟩
set_option maxHeartbeats 2000000 in
theorem arelease_on (g : Nat) (c u h x : Int) (b n k : Nat) (w : World) (hb : Blk w g 46 #[.int .i64 c, .int .i64 u, .int .i64 h, .slice (some ⟨b, 0, none⟩) (n + 1) k]) (hx : w.cell? ⟨b, n, none⟩ = some (.int .i64 x)) (hne : b ≠ g) (hn : n < 1024) (hk : n + 1 ≤ k) :
    Calls Try.prog 16 #[.pointer (some ⟨g, 0, none⟩)] w fun e w' => e = .returned (.int .i64 0) ∧ Blk w' g 46 #[.int .i64 c, .int .i64 x, .int .i64 h, .slice (some ⟨b, 0, none⟩) n k] ∧ w.grownBy w' (some g) := by
  have HB := hid hb
  have HNE := hid hne
  clear hb hne
  obtain ⟨k0, k1, k2, k3, f0, f1, f2, f3⟩ := four HB.out
  have e1 : IntKind.i64.wrap ((n : Int) + 1 - 1) = (n : Int) := by rw [Int.add_sub_cancel]; exact IntWalk.i64_in _ (by omega)
  have e2 : IntKind.i64.wrap (n : Int) = (n : Int) := IntWalk.i64_in _ (by omega)
  have t1 : ¬ ((n : Int) + 1 = 0) := by omega
  have t2 : (0 : Int) ≤ (n : Int) := by omega
  have t3 : (n : Int) < (n : Int) + 1 := by omega
  have t4 : (n : Int) ≤ (k : Int) := by omega
  have t5 : n ≤ k := by omega
  go_enter Try.func16, Try.ntmps16
  go_wp2
  go_ret
  exact ⟨rfl, (HB.out.set_ 1 _).set_ 3 _, own_set (own_set (World.grownBy.refl _ _) _ _) _ _⟩

theorem rmark_full (g : Nat) (c u h : Int) (A : Option Addr) (n k : Nat) (w : World) (hb : Blk w g 50 #[.int .i64 c, .int .i64 u, .int .i64 h, .slice A n k]) (hn : 1024 ≤ n) :
    Calls Try.prog 21 #[.pointer (some ⟨g, 0, none⟩)] w fun e w' => e = .returned (.int .i64 19) ∧ w = w' := by
  have HB := hid hb
  clear hb
  obtain ⟨k0, k1, k2, k3, f0, f1, f2, f3⟩ := four HB.out
  have hn' : (1024 : Int) ≤ (n : Int) := by omega
  go_enter Try.func21, Try.ntmps21
  go_wp2
  go_ret
  exact ⟨rfl, rfl⟩
set_option maxHeartbeats 2000000 in
theorem rmark_on (B g : Nat) (c u h : Int) (A : Option Addr) (n k : Nat) (xs : List Value) (w : World) (hB : B ≤ w.heap.size) (hb : Blk w g 50 #[.int .i64 c, .int .i64 u, .int .i64 h, .slice A n k]) (ho : w.ownsRow B 3 1 (.slice A n k) n xs) (hn : n < 1024) :
    Calls Try.prog 21 #[.pointer (some ⟨g, 0, none⟩)] w fun e w' => e = .returned (.int .i64 0) ∧ ∃ b k', Blk w' g 50 #[.int .i64 c, .int .i64 u, .int .i64 h, .slice (some ⟨b, 0, none⟩) (n + 1) k'] ∧ w'.ownsRow B 3 1 (.slice (some ⟨b, 0, none⟩) (n + 1) k') (n + 1) (xs ++ [.int .i64 u]) ∧
      Foot (fun i => i = g ∨ some i = (Value.slice A n k).ownBlock) w w' ∧ ((Value.slice A n k).ownBlock = some b ∨ w.heap.size ≤ b) := by
  obtain ⟨i0, hi, hz0, hz1, hz2⟩ := info_parts arena_info
  have hglt := hb.lt
  have HNE := hid (row_ne hb (by decide) ho)
  have HB := hid hb.drew
  have HO := hid ho.drew
  have HF := hid (Foot.refl (fun i => i = g ∨ some i = (Value.slice A n k).ownBlock) w)
  have HF2 : Hid (Foot (fun i => i = g ∨ some i = (Value.slice A n k).ownBlock) w w.drew) := ⟨rfl, rfl, rfl, Nat.le_refl _, fun _ _ _ => rfl⟩
  have hs : w.drew.heap.size = w.heap.size := rfl
  have HS := hid hs
  have hk := four hb
  obtain ⟨k0, k1, k2, k3, f0, f1, f2, f3⟩ := hk
  clear hb ho HF hs
  have hn' : ¬ (1024 : Int) ≤ (n : Int) := by omega
  go_enter Try.func21, Try.ntmps21
  go_wp2
  have hnews : ∀ (j : Nat) (z : Value), [Value.int .i64 u][j]? = some z → (w.drew.alloc (.cells #[.int .i64 u] 3)).cell? ((⟨w.heap.size, 0, none⟩ : Addr).add j) = some z := World.news_of_block (heap_alloc_new w.drew (.cells #[.int .i64 u] 3))
  have hone : ∀ z ∈ [Value.int .i64 u], z.oneCell' = true := by simp [Value.oneCell']
  have h63 : n + 1 ≤ maxLen := by unfold maxLen; omega
  have HNW := hid hnews
  have HON := hid hone
  have H63 := hid h63
  clear hnews hone h63
  go_region_law ((refine step_append_lies _ (by rfl) (.tmp 15) (.tmp 20) 22 (by rfl) B 3 i0 (.int .i64 0) 1 8 Try.underlying22 hi hz0 hz1 hz2 rfl (by decide) (.slice A n k) n xs (by rfl) (HO.out.alloc (.cells #[.int .i64 u] 3)) ⟨w.heap.size, 0, none⟩ 1 1 [.int .i64 u] (by rfl) rfl HNW.out HON.out (by omega) H63.out (by omega) (by simp <;> omega) _ rfl ?_; intro b cap w1 hown1 hgrow hat hlt; have HB1 := hid ((HB.out.alloc (.cells #[.int .i64 u] 3)).grown hgrow (fun e => HNE.out e.symm)); have HO1 := hid hown1; have HG1 := hid hgrow; have HA1 := hid hat; clear hown1 hgrow hat; obtain ⟨m0, m1, m2, m3, n0, n1, n2, n3⟩ := four HB1.out))
  all_goals (go_wp2; go_ret; exact ⟨rfl, b, cap, HB1.out.set_ 3 _, HO1.out.kept (own_set (World.grownBy.refl w1 (some g)) 3 _) (.inr (row_ne HB1.out (by decide) HO1.out)), foot_mark HG1.out _ _, HA1.out.imp id (fun e => by rw [e]; simp)⟩)
theorem rrelease_nil (g : Nat) (c u h : Int) (A : Option Addr) (k : Nat) (w : World) (hb : Blk w g 50 #[.int .i64 c, .int .i64 u, .int .i64 h, .slice A 0 k]) :
    Calls Try.prog 22 #[.pointer (some ⟨g, 0, none⟩)] w fun e w' => e = .returned (.int .i64 20) ∧ w = w' := by
  have HB := hid hb
  clear hb
  obtain ⟨k0, k1, k2, k3, f0, f1, f2, f3⟩ := four HB.out
  go_enter Try.func22, Try.ntmps22
  go_wp2
  go_ret
  exact ⟨rfl, rfl⟩
set_option maxHeartbeats 2000000 in
theorem rrelease_on (g : Nat) (c u h x : Int) (b n k : Nat) (w : World) (hb : Blk w g 50 #[.int .i64 c, .int .i64 u, .int .i64 h, .slice (some ⟨b, 0, none⟩) (n + 1) k]) (hx : w.cell? ⟨b, n, none⟩ = some (.int .i64 x)) (hne : b ≠ g) (hn : n < 1024) (hk : n + 1 ≤ k) :
    Calls Try.prog 22 #[.pointer (some ⟨g, 0, none⟩)] w fun e w' => e = .returned (.int .i64 0) ∧ Blk w' g 50 #[.int .i64 c, .int .i64 x, .int .i64 h, .slice (some ⟨b, 0, none⟩) n k] ∧ w.grownBy w' (some g) := by
  have HB := hid hb
  have HNE := hid hne
  clear hb hne
  obtain ⟨k0, k1, k2, k3, f0, f1, f2, f3⟩ := four HB.out
  have e1 : IntKind.i64.wrap ((n : Int) + 1 - 1) = (n : Int) := by rw [Int.add_sub_cancel]; exact IntWalk.i64_in _ (by omega)
  have e2 : IntKind.i64.wrap (n : Int) = (n : Int) := IntWalk.i64_in _ (by omega)
  have t1 : ¬ ((n : Int) + 1 = 0) := by omega
  have t2 : (0 : Int) ≤ (n : Int) := by omega
  have t3 : (n : Int) < (n : Int) + 1 := by omega
  have t4 : (n : Int) ≤ (k : Int) := by omega
  have t5 : n ≤ k := by omega
  go_enter Try.func22, Try.ntmps22
  go_wp2
  go_region
  all_goals go_wp2
  all_goals go_region
  all_goals go_wp2
  go_ret
  exact ⟨rfl, ((HB.out.drew.set_ 1 _).drew.set_ 3 _), own_set (only_drewN (own_set (only_drewN (World.grownBy.refl _ _) 1) _ _) 1) _ _⟩
end Go.Proofs.Ytkjipnafgojcgaa
