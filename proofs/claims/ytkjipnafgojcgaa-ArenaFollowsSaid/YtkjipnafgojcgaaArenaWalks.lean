/-
  Layer 22: the arena's functions and their references, on a block.
-/
import Derived.Test.YtkjipnafgojcgaaArenaNum
import Derived.Test.YtkjipnafgojcgaaExtWalks
import Derived.Test.YtkjipnafgojcgaaQuiet
import Derived.StillTailTactics
import Derived.Deep.AppendLies
namespace Go.Proofs.Ytkjipnafgojcgaa
open Go.RowKit
set_option linter.unusedVariables false

def mx (x y : Int) : Int := max x y
theorem run_mx (x y : Int) (w : World) : (Builtin.max_ #[3, 3] 3 #[.int .i64 x, .int .i64 y]).run Try.prog w = .ok (.int .i64 (mx x y)) w := by
  rw [run_max_int2]
  congr 2
  unfold mx
  split <;> omega
theorem own_set {a w : World} {g : Nat} (h : a.grownBy w (some g)) (i : Nat) (u : Value) : a.grownBy (w.setCell ⟨g, i, none⟩ u) (some g) := only_setCell h (.inl rfl) u
theorem arena_info : (Try.prog.info? 3).map (fun i => (i.zero, i.size, i.bytes)) = some (some (.int .i64 0), 1, 8) := by kernel_rfl
theorem four {w : World} {g : Nat} {t : TypeId} {a b c d : Value} (h : Blk w g t #[a, b, c, d]) :
    w.cell? ⟨g, 0, none⟩ = some a ∧ w.cell? ⟨g, 1, none⟩ = some b ∧ w.cell? ⟨g, 2, none⟩ = some c ∧ w.cell? ⟨g, 3, none⟩ = some d ∧
    w.frozen? ⟨g, 0, none⟩ = false ∧ w.frozen? ⟨g, 1, none⟩ = false ∧ w.frozen? ⟨g, 2, none⟩ = false ∧ w.frozen? ⟨g, 3, none⟩ = false :=
  ⟨h.cell 0, h.cell 1, h.cell 2, h.cell 3, h.thawed 0, h.thawed 1, h.thawed 2, h.thawed 3⟩

set_option maxHeartbeats 2000000 in
theorem aalloc_on (g : Nat) (c u h n m : Int) (ms : List Int) (v : Value) (w : World) (hb : Blk w g 46 #[.int .i64 c, .int .i64 u, .int .i64 h, v]) (c1 : 0 ≤ c) (c2 : c ≤ 1048576) (u1 : 0 ≤ u) (u2 : u ≤ c) (h1 : 0 ≤ h) (h2 : h ≤ c) (n1 : -9223372036854775808 ≤ n) (n2 : n ≤ 9223372036854775807) (m1 : -9223372036854775808 ≤ m) (m2 : m ≤ 9223372036854775807) :
    Calls Try.prog 9 #[.pointer (some ⟨g, 0, none⟩), .int .i64 n, .int .i64 m] w fun e w' => e = .returned (.tuple #[.int .i64 (allocS ⟨c, u, h, ms⟩ n m).1, .int .i64 (allocS ⟨c, u, h, ms⟩ n m).2.1]) ∧ Blk w' g 46 #[.int .i64 (allocS ⟨c, u, h, ms⟩ n m).2.2.c, .int .i64 (allocS ⟨c, u, h, ms⟩ n m).2.2.u, .int .i64 (allocS ⟨c, u, h, ms⟩ n m).2.2.h, v] ∧ w.grownBy w' (some g) := by
  have HB := hid hb
  clear hb
  have hmx := fun x y w => run_mx x y w
  by_cases t0 : n < 1
  · rw [allocS_out (by omega)]
    go_enter Try.func9, Try.ntmps9
    go_wp2
    go_ret2
    exact ⟨rfl, HB.out, World.grownBy.refl _ _⟩
  by_cases t1 : 1048576 < n
  · rw [allocS_out (by omega)]
    go_enter Try.func9, Try.ntmps9
    go_wp2
    go_ret2
    exact ⟨rfl, HB.out, World.grownBy.refl _ _⟩
  by_cases t2 : m < 1
  · rw [allocS_out (by omega)]
    go_enter Try.func9, Try.ntmps9
    go_wp2
    go_ret2
    exact ⟨rfl, HB.out, World.grownBy.refl _ _⟩
  by_cases t3 : 4096 < m
  · rw [allocS_out (by omega)]
    go_enter Try.func9, Try.ntmps9
    go_wp2
    go_ret2
    exact ⟨rfl, HB.out, World.grownBy.refl _ _⟩
  have hin : ¬ (n < 1 ∨ 1048576 < n ∨ m < 1 ∨ 4096 < m) := by omega
  rcases hq : alignS u m c with ⟨q, ok⟩
  have C := fun w => align_any u m c w (by omega) (by omega) m1 m2 (by omega) (by omega)
  rw [hq] at C
  have HC := hid C
  have HQ := hid hq
  obtain ⟨k0, k1, k2, k3, f0, f1, f2, f3⟩ := four HB.out
  clear C hq
  cases ok with
  | false =>
    rw [allocS_no hin HQ.out]
    clear hin HQ
    go_enter Try.func9, Try.ntmps9
    go_wp2
    go_quiet ((go_at_call 28; exact quiet_left (HC.out _)))
    go_wp2
    go_ret2
    exact ⟨rfl, HB.out.drewN _, only_drewN (World.grownBy.refl _ _) _⟩
  | true =>
    obtain ⟨q1, q2, q3, _, _⟩ := align_ok u1 (by omega) c1 HQ.out
    have hw1 : IntKind.i64.wrap (c - q) = c - q := IntWalk.i64_in _ (by omega)
    by_cases hf : c - q < n
    · rw [allocS_full hin HQ.out hf]
      clear hin HQ
      go_enter Try.func9, Try.ntmps9
      go_wp2
      go_quiet ((go_at_call 28; exact quiet_left (HC.out _)))
      go_wp2
      go_ret2
      exact ⟨rfl, HB.out.drewN _, only_drewN (World.grownBy.refl _ _) _⟩
    · rw [allocS_yes hin HQ.out hf]
      have hw2 : IntKind.i64.wrap (q + n) = q + n := IntWalk.i64_in _ (by omega)
      clear hin HQ
      go_enter Try.func9, Try.ntmps9
      go_wp2
      go_quiet ((go_at_call 28; exact quiet_left (HC.out _)))
      go_wp2
      go_region
      go_wp2
      go_ret2
      exact ⟨rfl, ((HB.out.drewN _).set_ 1 _).drew.set_ 2 _, own_set (only_drewN (own_set (only_drewN (World.grownBy.refl _ _) _) _ _) 1) _ _⟩
theorem aused_on (g : Nat) (c u h : Int) (v : Value) (w : World) (hb : Blk w g 46 #[.int .i64 c, .int .i64 u, .int .i64 h, v]) :
    Calls Try.prog 11 #[.pointer (some ⟨g, 0, none⟩)] w fun e w' => e = .returned (.int .i64 u) ∧ w = w' := by
  have HB := hid hb
  clear hb
  obtain ⟨k0, k1, k2, k3, f0, f1, f2, f3⟩ := four HB.out
  go_enter Try.func11, Try.ntmps11
  go_wp2
  go_ret
  exact ⟨rfl, rfl⟩
theorem ahigh_on (g : Nat) (c u h : Int) (v : Value) (w : World) (hb : Blk w g 46 #[.int .i64 c, .int .i64 u, .int .i64 h, v]) :
    Calls Try.prog 15 #[.pointer (some ⟨g, 0, none⟩)] w fun e w' => e = .returned (.int .i64 h) ∧ w = w' := by
  have HB := hid hb
  clear hb
  obtain ⟨k0, k1, k2, k3, f0, f1, f2, f3⟩ := four HB.out
  go_enter Try.func15, Try.ntmps15
  go_wp2
  go_ret
  exact ⟨rfl, rfl⟩
theorem amarks_on (g : Nat) (c u h : Int) (A : Option Addr) (n k : Nat) (w : World) (hb : Blk w g 46 #[.int .i64 c, .int .i64 u, .int .i64 h, .slice A n k]) :
    Calls Try.prog 12 #[.pointer (some ⟨g, 0, none⟩)] w fun e w' => e = .returned (.int .i64 (n : Int)) ∧ w = w' := by
  have HB := hid hb
  clear hb
  obtain ⟨k0, k1, k2, k3, f0, f1, f2, f3⟩ := four HB.out
  go_enter Try.func12, Try.ntmps12
  go_wp2
  go_ret
  exact ⟨rfl, rfl⟩
theorem areset_on (g : Nat) (c u h : Int) (v : Value) (w : World) (hb : Blk w g 46 #[.int .i64 c, .int .i64 u, .int .i64 h, v]) :
    Calls Try.prog 23 #[.pointer (some ⟨g, 0, none⟩)] w fun e w' => e = .returned (.tuple #[]) ∧ Blk w' g 46 #[.int .i64 c, .int .i64 0, .int .i64 h, .slice none 0 0] ∧ w.grownBy w' (some g) := by
  have HB := hid hb
  clear hb
  obtain ⟨k0, k1, k2, k3, f0, f1, f2, f3⟩ := four HB.out
  go_enter Try.func23, Try.ntmps23
  go_wp2
  refine bodyPost_end (results_none rfl _ _ _) rfl ?_
  exact ⟨rfl, (HB.out.set_ 1 _).set_ 3 _, own_set (own_set (World.grownBy.refl _ _) _ _) _ _⟩

set_option maxHeartbeats 2000000 in
theorem ralloc_on (g : Nat) (c u h n m : Int) (ms : List Int) (v : Value) (w : World) (hb : Blk w g 50 #[.int .i64 c, .int .i64 u, .int .i64 h, v]) (c1 : 0 ≤ c) (c2 : c ≤ 1048576) (u1 : 0 ≤ u) (u2 : u ≤ c) (h1 : 0 ≤ h) (h2 : h ≤ c) (n1 : -9223372036854775808 ≤ n) (n2 : n ≤ 9223372036854775807) (m1 : -9223372036854775808 ≤ m) (m2 : m ≤ 9223372036854775807) :
    Calls Try.prog 20 #[.pointer (some ⟨g, 0, none⟩), .int .i64 n, .int .i64 m] w fun e w' => e = .returned (.tuple #[.int .i64 (allocS ⟨c, u, h, ms⟩ n m).1, .int .i64 (allocS ⟨c, u, h, ms⟩ n m).2.1]) ∧ Blk w' g 50 #[.int .i64 (allocS ⟨c, u, h, ms⟩ n m).2.2.c, .int .i64 (allocS ⟨c, u, h, ms⟩ n m).2.2.u, .int .i64 (allocS ⟨c, u, h, ms⟩ n m).2.2.h, v] ∧ w.grownBy w' (some g) := by
  have HB := hid hb
  clear hb
  have hmx := fun x y w => run_mx x y w
  by_cases t0 : n < 1
  · rw [allocS_out (by omega)]
    go_enter Try.func20, Try.ntmps20
    go_wp2
    go_ret2
    exact ⟨rfl, HB.out, World.grownBy.refl _ _⟩
  by_cases t1 : 1048576 < n
  · rw [allocS_out (by omega)]
    go_enter Try.func20, Try.ntmps20
    go_wp2
    go_ret2
    exact ⟨rfl, HB.out, World.grownBy.refl _ _⟩
  by_cases t2 : m < 1
  · rw [allocS_out (by omega)]
    go_enter Try.func20, Try.ntmps20
    go_wp2
    go_ret2
    exact ⟨rfl, HB.out, World.grownBy.refl _ _⟩
  by_cases t3 : 4096 < m
  · rw [allocS_out (by omega)]
    go_enter Try.func20, Try.ntmps20
    go_wp2
    go_ret2
    exact ⟨rfl, HB.out, World.grownBy.refl _ _⟩
  have hin : ¬ (n < 1 ∨ 1048576 < n ∨ m < 1 ∨ 4096 < m) := by omega
  rcases hq : alignS u m c with ⟨q, ok⟩
  have C := fun w => ralign_any u m c w (by omega) (by omega) m1 m2 (by omega) (by omega)
  rw [hq] at C
  have HC := hid C
  have HQ := hid hq
  obtain ⟨k0, k1, k2, k3, f0, f1, f2, f3⟩ := four HB.out
  clear C hq
  cases ok with
  | false =>
    rw [allocS_no hin HQ.out]
    clear hin HQ
    go_enter Try.func20, Try.ntmps20
    go_wp2
    go_quiet ((go_at_call 29; exact quiet_left (HC.out _)))
    go_wp2
    go_ret2
    exact ⟨rfl, HB.out.drewN _, only_drewN (World.grownBy.refl _ _) _⟩
  | true =>
    obtain ⟨q1, q2, q3, _, _⟩ := align_ok u1 (by omega) c1 HQ.out
    have hw1 : IntKind.i64.wrap (c - q) = c - q := IntWalk.i64_in _ (by omega)
    by_cases hf : c - q < n
    · rw [allocS_full hin HQ.out hf]
      clear hin HQ
      go_enter Try.func20, Try.ntmps20
      go_wp2
      go_quiet ((go_at_call 29; exact quiet_left (HC.out _)))
      go_wp2
      go_ret2
      exact ⟨rfl, HB.out.drewN _, only_drewN (World.grownBy.refl _ _) _⟩
    · rw [allocS_yes hin HQ.out hf]
      have hw2 : IntKind.i64.wrap (q + n) = q + n := IntWalk.i64_in _ (by omega)
      clear hin HQ
      go_enter Try.func20, Try.ntmps20
      go_wp2
      go_quiet ((go_at_call 29; exact quiet_left (HC.out _)))
      go_wp2
      go_region
      go_wp2
      go_ret2
      exact ⟨rfl, ((HB.out.drewN _).set_ 1 _).drew.set_ 2 _, own_set (only_drewN (own_set (only_drewN (World.grownBy.refl _ _) _) _ _) 1) _ _⟩
theorem rused_on (g : Nat) (c u h : Int) (v : Value) (w : World) (hb : Blk w g 50 #[.int .i64 c, .int .i64 u, .int .i64 h, v]) :
    Calls Try.prog 25 #[.pointer (some ⟨g, 0, none⟩)] w fun e w' => e = .returned (.int .i64 u) ∧ w = w' := by
  have HB := hid hb
  clear hb
  obtain ⟨k0, k1, k2, k3, f0, f1, f2, f3⟩ := four HB.out
  go_enter Try.func25, Try.ntmps25
  go_wp2
  go_ret
  exact ⟨rfl, rfl⟩
theorem rhigh_on (g : Nat) (c u h : Int) (v : Value) (w : World) (hb : Blk w g 50 #[.int .i64 c, .int .i64 u, .int .i64 h, v]) :
    Calls Try.prog 26 #[.pointer (some ⟨g, 0, none⟩)] w fun e w' => e = .returned (.int .i64 h) ∧ w = w' := by
  have HB := hid hb
  clear hb
  obtain ⟨k0, k1, k2, k3, f0, f1, f2, f3⟩ := four HB.out
  go_enter Try.func26, Try.ntmps26
  go_wp2
  go_ret
  exact ⟨rfl, rfl⟩
theorem rmarks_on (g : Nat) (c u h : Int) (A : Option Addr) (n k : Nat) (w : World) (hb : Blk w g 50 #[.int .i64 c, .int .i64 u, .int .i64 h, .slice A n k]) :
    Calls Try.prog 27 #[.pointer (some ⟨g, 0, none⟩)] w fun e w' => e = .returned (.int .i64 (n : Int)) ∧ w = w' := by
  have HB := hid hb
  clear hb
  obtain ⟨k0, k1, k2, k3, f0, f1, f2, f3⟩ := four HB.out
  go_enter Try.func27, Try.ntmps27
  go_wp2
  go_ret
  exact ⟨rfl, rfl⟩
theorem rreset_on (g : Nat) (c u h : Int) (v : Value) (w : World) (hb : Blk w g 50 #[.int .i64 c, .int .i64 u, .int .i64 h, v]) :
    Calls Try.prog 24 #[.pointer (some ⟨g, 0, none⟩)] w fun e w' => e = .returned (.tuple #[]) ∧ Blk w' g 50 #[.int .i64 c, .int .i64 0, .int .i64 h, .slice none 0 0] ∧ w.grownBy w' (some g) := by
  have HB := hid hb
  clear hb
  obtain ⟨k0, k1, k2, k3, f0, f1, f2, f3⟩ := four HB.out
  go_enter Try.func24, Try.ntmps24
  go_wp2
  refine bodyPost_end (results_none rfl _ _ _) rfl ?_
  exact ⟨rfl, (HB.out.set_ 1 _).set_ 3 _, own_set (own_set (World.grownBy.refl _ _) _ _) _ _⟩
end Go.Proofs.Ytkjipnafgojcgaa
