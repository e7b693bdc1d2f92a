/-
  The tape's Within: a rectangle within one of 20 by 20.
-/
import Derived.Test.YtphleapmgkcpoaaTapeRect
namespace Go.Proofs.Ytphleapmgkcpoaa
open Go.RowKit
set_option linter.unusedVariables false

/-- A rectangle within 20 by 20. -/
def Small (r : Rc) : Prop := 0 ≤ r.x0 ∧ r.x0 < r.x1 ∧ r.x1 ≤ 20 ∧ 0 ≤ r.y0 ∧ r.y0 < r.y1 ∧ r.y1 ≤ 20
def Withined (B g : Nat) (w : World) (e : Ending) (w' : World) : Prop :=
  ∃ a b c d : Int, Small ⟨a, b, c, d⟩ ∧ e = .returned (.agg #[.int .i64 a, .int .i64 b, .int .i64 c, .int .i64 d]) ∧ TapeAt B g w' ∧ w.grownBy w' (some g)

set_option maxRecDepth 100000 in
set_option maxHeartbeats 4000000 in
theorem within_any (B g : Nat) (w : World) (h : TapeAt B g w) :
    Calls Try.prog 18 #[.pointer (some ⟨g, 0, none⟩), .int .i64 20, .int .i64 20] w (Withined B g w) := by
  have hglt := h.lt
  have HT0 := hid (h.alloc (.cells #[.int .i64 0, .int .i64 0, .int .i64 0, .int .i64 0] 26))
  have HR0 := hid (Blk.new w 26 #[.int .i64 0, .int .i64 0, .int .i64 0, .int .i64 0])
  have HG0 := hid (only_alloc (World.grownBy.refl w (some g)) (.cells #[.int .i64 0, .int .i64 0, .int .i64 0, .int .i64 0] 26))
  have hgr : some w.heap.size ≠ some g := by intro e; injection e; omega
  clear h
  go_enter Try.func18, Try.ntmps18
  go_wp2_with fail
  generalize w.alloc (.cells #[.int .i64 0, .int .i64 0, .int .i64 0, .int .i64 0] 26) = W0 at *
  refine (next_any _ _ 20 _ HT0.out (by omega) (by omega)).mono ?_
  rintro e w1 ⟨x, hp0, hp1, rfl, ht, hg⟩
  have hp : x ≤ 19 := by omega
  have HT1 := hid ht
  have HR1 := hid (HR0.out.grown hg hgr)
  have HG1 := hid (only_of HG0.out hg)
  clear ht hg HT0 HR0 HG0 hp1
  go_wp2_with fail
  refine (next_any _ _ 20 _ HT1.out (by omega) (by omega)).mono ?_
  rintro e w2 ⟨y, hq0, hq1, rfl, ht, hg⟩
  have hq : y ≤ 19 := by omega
  have hblt := HR1.out.grown hg hgr
  have hw2 := hblt.lt
  have HR2 := hid (hblt.alloc (.cells #[.int .i64 x, .int .i64 y, .int .i64 0, .int .i64 0] 26))
  have HT2 := hid (ht.alloc (.cells #[.int .i64 x, .int .i64 y, .int .i64 0, .int .i64 0] 26))
  have HG2 := hid (only_alloc (only_of HG1.out hg) (.cells #[.int .i64 x, .int .i64 y, .int .i64 0, .int .i64 0] 26))
  have HK2 := hid (Blk.new w2 26 #[.int .i64 x, .int .i64 y, .int .i64 0, .int .i64 0])
  clear ht hg hblt HT1 HR1 HG1 hq1
  go_upto_region 2 with fail
  generalize w2.alloc (.cells #[.int .i64 x, .int .i64 y, .int .i64 0, .int .i64 0] 26) = W2 at *
  generalize hg3 : w2.heap.size = g3 at *
  clear hg3
  have hstep : ∀ W z, 0 ≤ z → z ≤ 19 → TapeAt B g W → Blk W w.heap.size 26 #[.int .i64 0, .int .i64 0, .int .i64 0, .int .i64 0] → w.grownBy W (some g) → Blk W g3 26 #[.int .i64 x, .int .i64 y, .int .i64 0, .int .i64 0] →
      Calls Try.prog 19 #[.pointer (some ⟨g, 0, none⟩), .int .i64 (20 - z)] W fun e wn => ∃ u : Int, e = .returned (.int .i64 u) ∧ 0 ≤ u ∧ u ≤ 19 - z ∧
        Hid (TapeAt B g wn ∧ Blk wn w.heap.size 26 #[.int .i64 0, .int .i64 0, .int .i64 0, .int .i64 0] ∧ w.grownBy wn (some g) ∧ Blk wn g3 26 #[.int .i64 x, .int .i64 y, .int .i64 0, .int .i64 0]) ∧
        wn.cell? ⟨g3, 0, none⟩ = some (.int .i64 x) ∧ wn.cell? ⟨g3, 1, none⟩ = some (.int .i64 y) ∧ wn.cell? ⟨g3, 2, none⟩ = some (.int .i64 0) ∧ wn.cell? ⟨g3, 3, none⟩ = some (.int .i64 0) ∧
        wn.frozen? ⟨g3, 2, none⟩ = false ∧ wn.frozen? ⟨g3, 3, none⟩ = false ∧ IntKind.i64.wrap (z + 1 + u) = z + 1 + u := by
    intro W z hz0 hz1 t1 t2 t3 t4
    refine (next_any _ _ (20 - z) _ t1 (by omega) (by omega)).mono ?_
    rintro e wn ⟨u, hu0, hu1, rfl, ht, hg⟩
    have k4 := t4.grown hg (fun e => by injection e; omega)
    obtain ⟨k0, k1, k2, k3, _, _, k6, k7⟩ := k4.cells4
    exact ⟨u, rfl, hu0, by omega, ⟨ht, t2.grown hg hgr, only_of t3 hg, k4⟩, k0, k1, k2, k3, k6, k7, IntWalk.i64_in _ (by omega)⟩
  have HS := hid hstep
  have H0 : Hid (TapeAt B g W2.drew ∧ Blk W2.drew w.heap.size 26 #[.int .i64 0, .int .i64 0, .int .i64 0, .int .i64 0] ∧ w.grownBy W2.drew (some g) ∧ Blk W2.drew g3 26 #[.int .i64 x, .int .i64 y, .int .i64 0, .int .i64 0]) := ⟨HT2.out, HR2.out, ⟨HG2.out.os, HG2.out.tape, HG2.out.output, HG2.out.size, HG2.out.block⟩, HK2.out⟩
  obtain ⟨k0, k1, k2, k3, _, _, k6, k7⟩ := HK2.out.cells4
  clear hstep HT2 HR2 HG2 HK2
  go_cut [3] (fun s3 wx => ∃ c d : Int, (x + 1 ≤ c ∧ c ≤ 20) ∧ (y + 1 ≤ d ∧ d ≤ 20) ∧ TapeAt B g wx ∧ Blk wx w.heap.size 26 #[.int .i64 0, .int .i64 0, .int .i64 0, .int .i64 0] ∧ w.grownBy wx (some g) ∧ Blk wx g3 26 #[.int .i64 x, .int .i64 y, .int .i64 c, .int .i64 d])
  case first =>
    have e1 : IntKind.i64.wrap (x + 1) = x + 1 := IntWalk.i64_in _ (by omega)
    have e2 : IntKind.i64.wrap (y + 1) = y + 1 := IntWalk.i64_in _ (by omega)
    have e3 : IntKind.i64.wrap (20 - x) = 20 - x := IntWalk.i64_in _ (by omega)
    have e4 : IntKind.i64.wrap (20 - y) = 20 - y := IntWalk.i64_in _ (by omega)
    go_region_held3 (fun w' => w'.cell? ⟨g3, 0, none⟩ = some (.int .i64 x) ∧ w'.cell? ⟨g3, 1, none⟩ = some (.int .i64 y)) (first | exact ⟨k0, k1⟩ | exact ⟨m0, m1⟩ | exact ⟨n0, n1⟩ | exact ⟨cell_set_off (by decide) n0, cell_set_off (by decide) n1⟩ | exact ⟨cell_set_off (by decide) (cell_set_off (by decide) n0), cell_set_off (by decide) (cell_set_off (by decide) n1)⟩) ((go_at_call 19; first | (refine (HS.out _ y hq0 hq H2.out.1 H2.out.2.1 H2.out.2.2.1 H2.out.2.2.2).mono ?_; rintro e wm ⟨v, rfl, hv0, hv1, H3, n0, n1, n2, n3, n6, n7, w1⟩) | (refine (HS.out _ x hp0 hp H0.out.1 H0.out.2.1 H0.out.2.2.1 H0.out.2.2.2).mono ?_; rintro e wn ⟨u, rfl, hu0, hu1, H2, m0, m1, m2, m3, m6, m7, v1⟩)))
    all_goals (go_wp2; go_meet; exact ⟨x + 1 + u, y + 1 + v, by omega, by omega, (H3.out.1.far (by simp <;> omega) _).far (by simp <;> omega) _, (H3.out.2.1.far (by simp <;> omega) _).far (by simp <;> omega) _, only_set (only_set H3.out.2.2.1 (by simp <;> omega) _) (by simp <;> omega) _, (H3.out.2.2.2.set_ 2 _).set_ 3 _⟩)
  case rest =>
    obtain ⟨c, d, ⟨hc1, hc2⟩, ⟨hd1, hd2⟩, ht, h2, hG, h3⟩ := hcut
    have HT5 := hid ht
    have HR5 := hid h2
    have HG5 := hid hG
    have HK5 := hid h3
    clear ht h2 hG h3 HS H0 k0 k1 k2 k3 k6 k7
    obtain ⟨m0, m1, m2, m3, _, _, _, _⟩ := HK5.out.cells4
    obtain ⟨r0, r1, r2, r3, r4, r5, r6, r7⟩ := HR5.out.cells4
    go_wp2
    refine bodyPost_ret (res_rect (g := w.heap.size) (v0 := x) (v1 := y) (v2 := c) (v3 := d) rfl rfl (by with_reducible exact HR5.out.set4 _ _ _ _)) rfl ⟨x, y, c, d, ?_, rfl, ?_, ?_⟩
    · unfold Small; simp only; omega
    · exact (((HT5.out.far (by simp <;> omega) _).far (by simp <;> omega) _).far (by simp <;> omega) _).far (by simp <;> omega) _
    · exact only_set (only_set (only_set (only_set HG5.out (Nat.le_refl _) _) (Nat.le_refl _) _) (Nat.le_refl _) _) (Nat.le_refl _) _
end Go.Proofs.Ytphleapmgkcpoaa
