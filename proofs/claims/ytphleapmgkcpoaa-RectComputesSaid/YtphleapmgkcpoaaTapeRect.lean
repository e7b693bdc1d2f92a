/-
  The tape's Rect: a rectangle of small numbers, or one at the edge.
-/
import Derived.Test.YtphleapmgkcpoaaTape
import Derived.Test.YtphleapmgkcpoaaRectWalks3
import Derived.Deep.RegionWith
import Derived.Deep.RegionHeld3
import Derived.Deep.DeepCutAuto
import Derived.Maps.Range
namespace Go.Proofs.Ytphleapmgkcpoaa
open Go.RowKit
set_option linter.unusedVariables false

theorem Blk.cells4 {w : World} {g : Nat} {t : TypeId} {a b c d : Value} (h : Blk w g t #[a, b, c, d]) :
    w.cell? ⟨g, 0, none⟩ = some a ∧ w.cell? ⟨g, 1, none⟩ = some b ∧ w.cell? ⟨g, 2, none⟩ = some c ∧ w.cell? ⟨g, 3, none⟩ = some d ∧
    w.frozen? ⟨g, 0, none⟩ = false ∧ w.frozen? ⟨g, 1, none⟩ = false ∧ w.frozen? ⟨g, 2, none⟩ = false ∧ w.frozen? ⟨g, 3, none⟩ = false :=
  ⟨h.cell 0, h.cell 1, h.cell 2, h.cell 3, h.thawed 0, h.thawed 1, h.thawed 2, h.thawed 3⟩
theorem only_of {a w : World} {g : Nat} (h : a.grownBy w (some g)) {w' : World} (k : w.grownBy w' (some g)) : a.grownBy w' (some g) := h.andThen k (fun j e => .inr e)
theorem only_alloc {a w : World} {g : Nat} (h : a.grownBy w (some g)) (o : Obj) : a.grownBy (w.alloc o) (some g) := h.andThen (World.grownBy_alloc w o none) (fun j e => by cases e)
theorem only_set {a w : World} {g : Nat} (h : a.grownBy w (some g)) {p : Addr} (hp : a.heap.size ≤ p.block) (u : Value) : a.grownBy (w.setCell p u) (some g) := only_setCell h (.inr hp) u

theorem cell_set_off {w : World} {g i j : Nat} {u v : Value} (h : i ≠ j) (hc : w.cell? ⟨g, j, none⟩ = some v) : (w.setCell ⟨g, i, none⟩ u).cell? ⟨g, j, none⟩ = some v :=
  (World.cell?_setCell_other w _ _ u (fun e => by injection e with _ e; exact h e)).trans hc

/-- A rectangle whose numbers are at most a little beyond the coordinates. -/
def Near (r : Rc) : Prop := (-1048577 ≤ r.x0 ∧ r.x0 ≤ 1048577) ∧ (-1048577 ≤ r.y0 ∧ r.y0 ≤ 1048577) ∧ (-1048577 ≤ r.x1 ∧ r.x1 ≤ 1048577) ∧ (-1048577 ≤ r.y1 ∧ r.y1 ≤ 1048577)
def Rected (B g : Nat) (w : World) (e : Ending) (w' : World) : Prop :=
  ∃ a b c d : Int, Near ⟨a, b, c, d⟩ ∧ e = .returned (.agg #[.int .i64 a, .int .i64 b, .int .i64 c, .int .i64 d]) ∧ TapeAt B g w' ∧ w.grownBy w' (some g)

set_option maxRecDepth 100000 in
set_option maxHeartbeats 4000000 in
theorem rect_any (B g : Nat) (w : World) (h : TapeAt B g w) :
    Calls Try.prog 8 #[.pointer (some ⟨g, 0, none⟩)] w (Rected B g w) := by
  have hglt := h.lt
  have HT0 := hid (h.alloc (.cells #[.int .i64 0, .int .i64 0, .int .i64 0, .int .i64 0] 26))
  have HR0 := hid (Blk.new w 26 #[.int .i64 0, .int .i64 0, .int .i64 0, .int .i64 0])
  have HG0 := hid (only_alloc (World.grownBy.refl w (some g)) (.cells #[.int .i64 0, .int .i64 0, .int .i64 0, .int .i64 0] 26))
  have hgr : some w.heap.size ≠ some g := by intro e; injection e; omega
  clear h
  go_enter Try.func8, Try.ntmps8
  go_wp2_with fail
  generalize w.alloc (.cells #[.int .i64 0, .int .i64 0, .int .i64 0, .int .i64 0] 26) = W0 at *
  refine (next_any _ _ 8 _ HT0.out (by omega) (by omega)).mono ?_
  rintro e w1 ⟨p, hp0, hp1, rfl, ht, hg⟩
  have hp : p ≤ 7 := by omega
  have HT1 := hid ht
  have HR1 := hid (HR0.out.grown hg hgr)
  have HG1 := hid (only_of HG0.out hg)
  clear ht hg HT0 HR0 HG0 hp1
  go_wp2_with fail
  refine (next_any _ _ 8 _ HT1.out (by omega) (by omega)).mono ?_
  rintro e w2 ⟨q, hq0, hq1, rfl, ht, hg⟩
  have hq : q ≤ 7 := by omega
  have hblt := HR1.out.grown hg hgr
  have hw2 := hblt.lt
  have HR2 := hid (hblt.alloc (.cells #[.int .i64 (p - 2), .int .i64 (q - 2), .int .i64 0, .int .i64 0] 26))
  have HT2 := hid (ht.alloc (.cells #[.int .i64 (p - 2), .int .i64 (q - 2), .int .i64 0, .int .i64 0] 26))
  have HG2 := hid (only_alloc (only_of HG1.out hg) (.cells #[.int .i64 (p - 2), .int .i64 (q - 2), .int .i64 0, .int .i64 0] 26))
  have HK2 := hid (Blk.new w2 26 #[.int .i64 (p - 2), .int .i64 (q - 2), .int .i64 0, .int .i64 0])
  clear ht hg hblt HT1 HR1 HG1 hq1
  go_upto_region 2 with fail
  generalize w2.alloc (.cells #[.int .i64 (p - 2), .int .i64 (q - 2), .int .i64 0, .int .i64 0] 26) = W2 at *
  have hx1 : -2 ≤ p - 2 := by omega
  have hx2 : p - 2 ≤ 5 := by omega
  have hy1 : -2 ≤ q - 2 := by omega
  have hy2 : q - 2 ≤ 5 := by omega
  generalize p - 2 = x at *
  generalize q - 2 = y at *
  generalize hg3 : w2.heap.size = g3 at *
  clear hg3
  have hstep : ∀ W, TapeAt B g W → Blk W w.heap.size 26 #[.int .i64 0, .int .i64 0, .int .i64 0, .int .i64 0] → w.grownBy W (some g) → Blk W g3 26 #[.int .i64 x, .int .i64 y, .int .i64 0, .int .i64 0] →
      Calls Try.prog 19 #[.pointer (some ⟨g, 0, none⟩), .int .i64 6] W fun e wn => ∃ u : Int, e = .returned (.int .i64 u) ∧ 0 ≤ u ∧ u ≤ 5 ∧
        Hid (TapeAt B g wn ∧ Blk wn w.heap.size 26 #[.int .i64 0, .int .i64 0, .int .i64 0, .int .i64 0] ∧ w.grownBy wn (some g) ∧ Blk wn g3 26 #[.int .i64 x, .int .i64 y, .int .i64 0, .int .i64 0]) ∧
        wn.cell? ⟨g3, 0, none⟩ = some (.int .i64 x) ∧ wn.cell? ⟨g3, 1, none⟩ = some (.int .i64 y) ∧ wn.cell? ⟨g3, 2, none⟩ = some (.int .i64 0) ∧ wn.cell? ⟨g3, 3, none⟩ = some (.int .i64 0) ∧
        wn.frozen? ⟨g3, 2, none⟩ = false ∧ wn.frozen? ⟨g3, 3, none⟩ = false ∧ IntKind.i64.wrap (x + 1 + u) = x + 1 + u ∧ IntKind.i64.wrap (y + 1 + u) = y + 1 + u := by
    intro W t1 t2 t3 t4
    refine (next_any _ _ 6 _ t1 (by omega) (by omega)).mono ?_
    rintro e wn ⟨u, hu0, hu1, rfl, ht, hg⟩
    have k4 := t4.grown hg (fun e => by injection e; omega)
    obtain ⟨k0, k1, k2, k3, _, _, k6, k7⟩ := k4.cells4
    exact ⟨u, rfl, hu0, by omega, ⟨ht, t2.grown hg hgr, only_of t3 hg, k4⟩, k0, k1, k2, k3, k6, k7, IntWalk.i64_in _ (by omega), IntWalk.i64_in _ (by omega)⟩
  have HS := hid hstep
  have H0 : Hid (TapeAt B g W2.drew ∧ Blk W2.drew w.heap.size 26 #[.int .i64 0, .int .i64 0, .int .i64 0, .int .i64 0] ∧ w.grownBy W2.drew (some g) ∧ Blk W2.drew g3 26 #[.int .i64 x, .int .i64 y, .int .i64 0, .int .i64 0]) := ⟨HT2.out, HR2.out, ⟨HG2.out.os, HG2.out.tape, HG2.out.output, HG2.out.size, HG2.out.block⟩, HK2.out⟩
  obtain ⟨k0, k1, k2, k3, _, _, k6, k7⟩ := HK2.out.cells4
  clear hstep HT2 HR2 HG2 HK2
  go_cut [3] (fun s3 wx => s3 = .pointer (some ⟨g3, 0, none⟩) ∧ ∃ c d : Int, (-1 ≤ c ∧ c ≤ 11) ∧ (-1 ≤ d ∧ d ≤ 11) ∧ TapeAt B g wx ∧ Blk wx w.heap.size 26 #[.int .i64 0, .int .i64 0, .int .i64 0, .int .i64 0] ∧ w.grownBy wx (some g) ∧ Blk wx g3 26 #[.int .i64 x, .int .i64 y, .int .i64 c, .int .i64 d])
  case first =>
    have e1 : IntKind.i64.wrap (x + 1) = x + 1 := IntWalk.i64_in _ (by omega)
    have e2 : IntKind.i64.wrap (y + 1) = y + 1 := IntWalk.i64_in _ (by omega)
    go_region_held3 (fun w' => w'.cell? ⟨g3, 0, none⟩ = some (.int .i64 x) ∧ w'.cell? ⟨g3, 1, none⟩ = some (.int .i64 y)) (first | exact ⟨k0, k1⟩ | exact ⟨m0, m1⟩ | exact ⟨n0, n1⟩ | exact ⟨cell_set_off (by decide) n0, cell_set_off (by decide) n1⟩ | exact ⟨cell_set_off (by decide) (cell_set_off (by decide) n0), cell_set_off (by decide) (cell_set_off (by decide) n1)⟩) ((go_at_call 19; first | (refine (HS.out _ H2.out.1 H2.out.2.1 H2.out.2.2.1 H2.out.2.2.2).mono ?_; rintro e wm ⟨v, rfl, hv0, hv1, H3, n0, n1, n2, n3, n6, n7, w1, w2⟩) | (refine (HS.out _ H0.out.1 H0.out.2.1 H0.out.2.2.1 H0.out.2.2.2).mono ?_; rintro e wn ⟨u, rfl, hu0, hu1, H2, m0, m1, m2, m3, m6, m7, v1, v2⟩)))
    all_goals (go_wp2; go_meet; exact ⟨rfl, x + 1 + u, y + 1 + v, by omega, by omega, (H3.out.1.far (by simp <;> omega) _).far (by simp <;> omega) _, (H3.out.2.1.far (by simp <;> omega) _).far (by simp <;> omega) _, only_set (only_set H3.out.2.2.1 (by simp <;> omega) _) (by simp <;> omega) _, (H3.out.2.2.2.set_ 2 _).set_ 3 _⟩)
  case rest =>
    obtain ⟨rfl, c, d, ⟨hc1, hc2⟩, ⟨hd1, hd2⟩, ht, h2, hG, h3⟩ := hcut
    have HT3 := hid ht
    have HR3 := hid h2
    have HG3 := hid hG
    have HK3 := hid h3
    clear ht h2 hG h3 HS H0 k0 k1 k2 k3 k6 k7
    go_wp2_with fail
    refine (next_any _ _ 14 _ HT3.out (by omega) (by omega)).mono ?_
    rintro e w5 ⟨s, hs0, hs1, rfl, ht, hg⟩
    have HT5 := hid ht
    have HR5 := hid (HR3.out.grown hg hgr)
    have HG5 := hid (only_of HG3.out hg)
    have HK5 := hid (HK3.out.grown hg (fun e => by injection e; omega))
    clear ht hg HT3 HR3 HG3 HK3 hs1
    by_cases s11 : s = 11
    · have b1 : (s == 11) = true := by simp [s11]
      have r0 := HR5.out.cells4
      obtain ⟨r0, r1, r2, r3, r4, r5, r6, r7⟩ := r0
      clear s11
      go_wp2
      refine bodyPost_ret (res_rect (g := w.heap.size) (v0 := 0) (v1 := 0) (v2 := 0) (v3 := 0) rfl rfl (by with_reducible exact HR5.out.set4 _ _ _ _)) rfl ⟨0, 0, 0, 0, ?_, rfl, ?_, ?_⟩
      · unfold Near; simp only; omega
      · exact (((HT5.out.far (by simp <;> omega) _).far (by simp <;> omega) _).far (by simp <;> omega) _).far (by simp <;> omega) _
      · exact only_set (only_set (only_set (only_set HG5.out (Nat.le_refl _) _) (Nat.le_refl _) _) (Nat.le_refl _) _) (Nat.le_refl _) _
    have b1 : (s == 11) = false := by simp [s11]
    by_cases s12 : s = 12
    · have b2 : (s == 12) = true := by simp [s12]
      have HK6 := hid (HK5.out.set_ 2 (.int .i64 x))
      have HR6 := hid (HR5.out.far (p := ⟨g3, 2, none⟩) (by simp <;> omega) (.int .i64 x))
      have HT6 := hid (HT5.out.far (p := ⟨g3, 2, none⟩) (by simp <;> omega) (.int .i64 x))
      have HG6 := hid (only_set HG5.out (p := ⟨g3, 2, none⟩) (by simp <;> omega) (.int .i64 x))
      obtain ⟨k0, k1, k2, k3, k4, k5, k6, k7⟩ := HK5.out.cells4
      obtain ⟨m0, m1, m2, m3, _, _, _, _⟩ := Blk.cells4 (a := .int .i64 x) (b := .int .i64 y) (c := .int .i64 x) (d := .int .i64 d) HK6.out
      obtain ⟨r0, r1, r2, r3, r4, r5, r6, r7⟩ := HR6.out.cells4
      clear s11 s12
      go_wp2
      refine bodyPost_ret (res_rect (g := w.heap.size) (v0 := x) (v1 := y) (v2 := x) (v3 := d) rfl rfl (by with_reducible exact HR6.out.set4 _ _ _ _)) rfl ⟨x, y, x, d, ?_, rfl, ?_, ?_⟩
      · unfold Near; simp only; omega
      · exact (((HT6.out.far (by simp <;> omega) _).far (by simp <;> omega) _).far (by simp <;> omega) _).far (by simp <;> omega) _
      · exact only_set (only_set (only_set (only_set HG6.out (Nat.le_refl _) _) (Nat.le_refl _) _) (Nat.le_refl _) _) (Nat.le_refl _) _
    have b2 : (s == 12) = false := by simp [s12]
    by_cases s13 : s = 13
    · have b3 : (s == 13) = true := by simp [s13]
      clear s11 s12 s13
      have HP := hid (pick_any B g w5.heap.size 2 (· ∈ [-1048576, -1048577]) (w5.alloc (.cells #[.int .i64 (-1048576), .int .i64 (-1048577)] 3)) (HT5.out.alloc _) (by have := HT5.out.lt; omega) (by simp) (by omega) (by omega) (lit_cells w5 [-1048576, -1048577] _ _ rfl))
      have HRa := hid (HR5.out.alloc (.cells #[.int .i64 (-1048576), .int .i64 (-1048577)] 3))
      have HGa := hid (only_alloc HG5.out (.cells #[.int .i64 (-1048576), .int .i64 (-1048577)] 3))
      have HKa := hid (HK5.out.alloc (.cells #[.int .i64 (-1048576), .int .i64 (-1048577)] 3))
      clear HT5 HR5 HG5 HK5
      go_wp2_with fail
      refine HP.out.mono ?_
      rintro e w6 ⟨px, hpx, rfl, ht, hg⟩
      have hpx1 : -1048577 ≤ px := by simp at hpx; omega
      have hpx2 : px ≤ 0 := by simp at hpx; omega
      have HT6 := hid ht
      have HRb := hid (HRa.out.grown hg hgr)
      have HGb := hid (only_of HGa.out hg)
      have HKb := hid (HKa.out.grown hg (fun e => by injection e; omega))
      clear hpx ht hg HP HRa HGa HKa
      have HP := hid (pick_any B g w6.heap.size 2 (· ∈ [1048576, 1048577]) (w6.alloc (.cells #[.int .i64 1048576, .int .i64 1048577] 3)) (HT6.out.alloc _) (by have := HT6.out.lt; omega) (by simp) (by omega) (by omega) (lit_cells w6 [1048576, 1048577] _ _ rfl))
      have HRa := hid (HRb.out.alloc (.cells #[.int .i64 1048576, .int .i64 1048577] 3))
      have HGa := hid (only_alloc HGb.out (.cells #[.int .i64 1048576, .int .i64 1048577] 3))
      have HKa := hid (HKb.out.alloc (.cells #[.int .i64 1048576, .int .i64 1048577] 3))
      clear HT6 HRb HGb HKb
      go_wp2_with fail
      refine HP.out.mono ?_
      rintro e w7 ⟨py, hpy, rfl, ht, hg⟩
      have hpy1 : 0 ≤ py := by simp at hpy; omega
      have hpy2 : py ≤ 1048577 := by simp at hpy; omega
      have HRb := hid (HRa.out.grown hg hgr)
      have HGb := hid (only_of HGa.out hg)
      have HKb := hid (HKa.out.grown hg (fun e => by injection e; omega))
      have HT7 := hid ht
      clear hpy ht hg HP HRa HGa HKa
      have HK8 := hid ((HKb.out.set_ 0 (.int .i64 px)).set_ 2 (.int .i64 py))
      have HR8 := hid ((HRb.out.far (p := ⟨g3, 0, none⟩) (by simp <;> omega) (.int .i64 px)).far (p := ⟨g3, 2, none⟩) (by simp <;> omega) (.int .i64 py))
      have HT8 := hid ((HT7.out.far (p := ⟨g3, 0, none⟩) (by simp <;> omega) (.int .i64 px)).far (p := ⟨g3, 2, none⟩) (by simp <;> omega) (.int .i64 py))
      have HG8 := hid (only_set (only_set HGb.out (p := ⟨g3, 0, none⟩) (by simp <;> omega) (.int .i64 px)) (p := ⟨g3, 2, none⟩) (by simp <;> omega) (.int .i64 py))
      obtain ⟨k0, k1, k2, k3, k4, k5, k6, k7⟩ := HKb.out.cells4
      obtain ⟨m0, m1, m2, m3, _, _, _, _⟩ := Blk.cells4 (a := .int .i64 px) (b := .int .i64 y) (c := .int .i64 py) (d := .int .i64 d) HK8.out
      obtain ⟨r0, r1, r2, r3, r4, r5, r6, r7⟩ := HR8.out.cells4
      go_wp2
      refine bodyPost_ret (res_rect (g := w.heap.size) (v0 := px) (v1 := y) (v2 := py) (v3 := d) rfl rfl (by with_reducible exact HR8.out.set4 _ _ _ _)) rfl ⟨px, y, py, d, ?_, rfl, ?_, ?_⟩
      · unfold Near; simp only; omega
      · exact (((HT8.out.far (by simp <;> omega) _).far (by simp <;> omega) _).far (by simp <;> omega) _).far (by simp <;> omega) _
      · exact only_set (only_set (only_set (only_set HG8.out (Nat.le_refl _) _) (Nat.le_refl _) _) (Nat.le_refl _) _) (Nat.le_refl _) _
    · have b3 : (s == 13) = false := by simp [s13]
      obtain ⟨m0, m1, m2, m3, _, _, _, _⟩ := HK5.out.cells4
      obtain ⟨r0, r1, r2, r3, r4, r5, r6, r7⟩ := HR5.out.cells4
      clear s11 s12 s13
      go_wp2
      refine bodyPost_ret (res_rect (g := w.heap.size) (v0 := x) (v1 := y) (v2 := c) (v3 := d) rfl rfl (by with_reducible exact HR5.out.set4 _ _ _ _)) rfl ⟨x, y, c, d, ?_, rfl, ?_, ?_⟩
      · unfold Near; simp only; omega
      · exact (((HT5.out.far (by simp <;> omega) _).far (by simp <;> omega) _).far (by simp <;> omega) _).far (by simp <;> omega) _
      · exact only_set (only_set (only_set (only_set HG5.out (Nat.le_refl _) _) (Nat.le_refl _) _) (Nat.le_refl _) _) (Nat.le_refl _) _
end Go.Proofs.Ytphleapmgkcpoaa
