/-
  The statement RectComputesSaid is proved: for every input that the row speaks of, the law returns true and leaves what it was given as it was. No condition beyond the row's own.
-/
import Derived.Lib.SmallJoins
import Derived.Test.YtphleapmgkcpoaaRows
import Derived.Test.YtphleapmgkcpoaaRectComputesLaw
import Derived.Test.YtphleapmgkcpoaaPost
namespace Go.Proofs.Ytphleapmgkcpoaa.rectComputes
open Go.ChangeShapes Go.WideShapes Go.ChangeAt Go.RowKit
set_option linter.unusedVariables false

theorem own : ownKnob Try.prog.godebug = none := by kernel_rfl
theorem laidOut : laidOutB Try.prog = true := by kernel_rfl

set_option maxRecDepth 100000 in
theorem lifted (os : Os) (started : os.Started) (H : Type) (enc : TypeId × Value → H) :
    ReturnsInHanded {} Try.checked os 6 .any (Rows.rectComputesSpec.pre6 enc Try.prog Try.f6 Rows.rectComputesRow.domain false) (Rows.rectComputesSpec.post enc Try.prog Try.f6 false true false false) := by
  refine returnsInHanded_of_change (C := Try.checked) own started (by kernel_rfl) Try.func6
    (ChangeSpec.witness6 (enc := enc) (C := Try.checked) false ⟨#[], #[.slice none 0 0, .agg #[.int .i64 0, .int .i64 0, .int .i64 0, .int .i64 0], .agg #[.int .i64 0, .int .i64 0, .int .i64 0, .int .i64 0], .int .i64 0, .int .i64 0, .int .i64 0], []⟩ 8 (by kernel_rfl) (by kernel_rfl) (by kernel_rfl) (by kernel_rfl)) ?_
  intro W base args ds gs before hval0 hW hcnd _
  have hval : ∀ (j : Nat) t v, Try.f6.params[j]? = some t → args[j]? = some v → Value.okWide Try.prog W .any base t v := hval0
  have hW' := hW
  obtain ⟨p, q, hA0, hV, rfl, hfz, hnd⟩ := hW
  have hA : DataW.TrodAll enc Try.prog W 0 (fun _ => true) true Try.f6.params.toList args.toList ds p := hA0
  rw [Try.params6] at hA hval
  obtain ⟨v0, vs0, d0, ds0, p0, q0, hargs, rfl, rfl, h0, r0⟩ := trodAll_cons hA
  obtain ⟨v1, vs1, d1, ds1, p1, q1, rfl, rfl, rfl, h1, r1⟩ := trodAll_cons r0
  obtain ⟨v2, vs2, d2, ds2, p2, q2, rfl, rfl, rfl, h2, r2⟩ := trodAll_cons r1
  obtain ⟨v3, vs3, d3, ds3, p3, q3, rfl, rfl, rfl, h3, r3⟩ := trodAll_cons r2
  obtain ⟨v4, vs4, d4, ds4, p4, q4, rfl, rfl, rfl, h4, r4⟩ := trodAll_cons r3
  obtain ⟨v5, vs5, d5, ds5, p5, q5, rfl, rfl, rfl, h5, r5⟩ := trodAll_cons r4
  obtain ⟨rfl, rfl, rfl⟩ := trodAll_nil r5
  obtain rfl : args = #[v0, v1, v2, v3, v4, v5] := by cases args; simp_all
  obtain ⟨rfl, rfl⟩ := trodVars_none hV
  clear hA0 hval0
  simp only [List.append_nil] at hW'
  have hk0 := h0
  have hlt0 : ∀ x ∈ p0, x.block < W.heap.size := fun x hx => hW'.lt x (List.mem_append_left _ hx)
  obtain ⟨A0, n0, c0, rfl⟩ := okWide_slice Try.underlying22 (hval 0 22 v0 rfl rfl)
  obtain ⟨xs0, hx0, hn0⟩ := ints_arg Try.underlying22 Try.underlying3 (by kernel_rfl) h0 hlt0
  have hk1 := h1
  have hlt1 : ∀ x ∈ p1, x.block < W.heap.size := fun x hx => hW'.lt x (List.mem_append_right _ (List.mem_append_left _ hx))
  obtain ⟨u10, u11, u12, u13, y10, y11, y12, y13, m1, rfl, rfl, rfl, t10, t11, t12, t13⟩ := Go.Joins.open_agg4 Try.underlying26 (by kernel_rfl) (by kernel_rfl) (hval 1 26 v1 rfl rfl) h1
  obtain ⟨a10, e10, _, w10⟩ := DataW.trod_int Try.underlying3 t10
  obtain rfl : u10 = .int .i64 a10 := by injection e10
  obtain ⟨b10, c10⟩ := i64_of_wf w10
  obtain ⟨a11, e11, _, w11⟩ := DataW.trod_int Try.underlying3 t11
  obtain rfl : u11 = .int .i64 a11 := by injection e11
  obtain ⟨b11, c11⟩ := i64_of_wf w11
  obtain ⟨a12, e12, _, w12⟩ := DataW.trod_int Try.underlying3 t12
  obtain rfl : u12 = .int .i64 a12 := by injection e12
  obtain ⟨b12, c12⟩ := i64_of_wf w12
  obtain ⟨a13, e13, _, w13⟩ := DataW.trod_int Try.underlying3 t13
  obtain rfl : u13 = .int .i64 a13 := by injection e13
  obtain ⟨b13, c13⟩ := i64_of_wf w13
  have hk2 := h2
  have hlt2 : ∀ x ∈ p2, x.block < W.heap.size := fun x hx => hW'.lt x (List.mem_append_right _ (List.mem_append_right _ (List.mem_append_left _ hx)))
  obtain ⟨u20, u21, u22, u23, y20, y21, y22, y23, m2, rfl, rfl, rfl, t20, t21, t22, t23⟩ := Go.Joins.open_agg4 Try.underlying26 (by kernel_rfl) (by kernel_rfl) (hval 2 26 v2 rfl rfl) h2
  obtain ⟨a20, e20, _, w20⟩ := DataW.trod_int Try.underlying3 t20
  obtain rfl : u20 = .int .i64 a20 := by injection e20
  obtain ⟨b20, c20⟩ := i64_of_wf w20
  obtain ⟨a21, e21, _, w21⟩ := DataW.trod_int Try.underlying3 t21
  obtain rfl : u21 = .int .i64 a21 := by injection e21
  obtain ⟨b21, c21⟩ := i64_of_wf w21
  obtain ⟨a22, e22, _, w22⟩ := DataW.trod_int Try.underlying3 t22
  obtain rfl : u22 = .int .i64 a22 := by injection e22
  obtain ⟨b22, c22⟩ := i64_of_wf w22
  obtain ⟨a23, e23, _, w23⟩ := DataW.trod_int Try.underlying3 t23
  obtain rfl : u23 = .int .i64 a23 := by injection e23
  obtain ⟨b23, c23⟩ := i64_of_wf w23
  have hk3 := h3
  have hlt3 : ∀ x ∈ p3, x.block < W.heap.size := fun x hx => hW'.lt x (List.mem_append_right _ (List.mem_append_right _ (List.mem_append_right _ (List.mem_append_left _ hx))))
  obtain ⟨a3, rfl, rfl, rfl, w3⟩ := open_int Try.underlying3 (hval 3 3 v3 rfl rfl) h3
  obtain ⟨b3, c3⟩ := i64_of_wf w3
  have hk4 := h4
  have hlt4 : ∀ x ∈ p4, x.block < W.heap.size := fun x hx => hW'.lt x (List.mem_append_right _ (List.mem_append_right _ (List.mem_append_right _ (List.mem_append_right _ (List.mem_append_left _ hx)))))
  obtain ⟨a4, rfl, rfl, rfl, w4⟩ := open_int Try.underlying3 (hval 4 3 v4 rfl rfl) h4
  obtain ⟨b4, c4⟩ := i64_of_wf w4
  have hk5 := h5
  have hlt5 : ∀ x ∈ p5, x.block < W.heap.size := fun x hx => hW'.lt x (List.mem_append_right _ (List.mem_append_right _ (List.mem_append_right _ (List.mem_append_right _ (List.mem_append_right _ (hx))))))
  obtain ⟨a5, rfl, rfl, rfl, w5⟩ := open_int Try.underlying3 (hval 5 3 v5 rfl rfl) h5
  obtain ⟨b5, c5⟩ := i64_of_wf w5
  refine (computes_walk (w := W) A0 n0 c0 xs0 hx0 hn0 a10 a11 a12 a13 b10 c10 b11 c11 b12 c12 b13 c13 a20 a21 a22 a23 b20 c20 b21 c21 b22 c22 b23 c23 a3 b3 c3 a4 b4 c4 a5 b5 c5).mono fun e W' ⟨he, hb⟩ => ?_
  subst he
  refine ⟨_, rfl, _, _, _, [], _, [], hW', trodAll_cons_mk (shut_bool Try.underlying4 _) trodAll_mk0, (trodAll_cons_mk (Below.trod laidOut (by kernel_rfl) (of_decide_eq_true (by kernel_rfl)) hk0 hb hlt0) (trodAll_cons_mk (Below.trod laidOut (by kernel_rfl) (of_decide_eq_true (by kernel_rfl)) hk1 hb hlt1) (trodAll_cons_mk (Below.trod laidOut (by kernel_rfl) (of_decide_eq_true (by kernel_rfl)) hk2 hb hlt2) (trodAll_cons_mk (Below.trod laidOut (by kernel_rfl) (of_decide_eq_true (by kernel_rfl)) hk3 hb hlt3) (trodAll_cons_mk (Below.trod laidOut (by kernel_rfl) (of_decide_eq_true (by kernel_rfl)) hk4 hb hlt4) (trodAll_cons_mk (Below.trod laidOut (by kernel_rfl) (of_decide_eq_true (by kernel_rfl)) hk5 hb hlt5) trodAll_mk0)))))), rfl, hb.frame _, fun h => by cases h⟩

theorem over : Rows.rectComputesRow.holds Try.pinned (OpenSpec.ofChange Rows.rectComputesSpec) :=
  OpenClaim.holds_of_wide 6 Try.f6 rfl rfl rfl rfl rfl rfl rfl ⟨rfl, rfl, rfl, rfl, rfl⟩ rfl rfl rfl rfl rfl (by kernel_rfl) Try.func6 (by kernel_rfl)
    (of_decide_eq_true (by kernel_rfl)) (by unfold Func.isWrapper; first | (rw [if_pos (by decide +kernel)]; kernel_rfl) | (rw [if_neg (by decide +kernel)]; exact ⟨rfl, rfl⟩))
    (fun os started H enc _ => lifted os started H enc)

theorem proved : Rows.RectComputesSaid := over
end Go.Proofs.Ytphleapmgkcpoaa.rectComputes
