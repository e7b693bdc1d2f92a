/-
  The sanity check of layer 2 and the law RectAreas: the walks.
-/
import Derived.Test.YtphleapmgkcpoaaRectSub
import Derived.Test.YtphleapmgkcpoaaRectSub2
import Derived.Test.YtphleapmgkcpoaaRectPlain
import Derived.Test.YtphleapmgkcpoaaTapeRect
import Derived.Test.YtphleapmgkcpoaaPost
namespace Go.Proofs.Ytphleapmgkcpoaa
open Go.RowKit
set_option linter.unusedVariables false

theorem sub_ex : subS ⟨0, 0, 4, 4⟩ ⟨1, 1, 2, 2⟩ = [⟨0, 0, 4, 1⟩, ⟨0, 1, 1, 2⟩, ⟨2, 1, 4, 2⟩, ⟨0, 2, 4, 4⟩] := by rfl
theorem inter_ex : interS ⟨0, 0, 4, 4⟩ ⟨2, 1, 9, 3⟩ = ⟨2, 1, 4, 3⟩ := by rfl
theorem area_ex : areaS ⟨0, 0, 4, 4⟩ = 16 := by rfl
theorem valid_ex : validB ⟨0, 0, 4, 4⟩ = true := by rfl
theorem empty_ex : emptyB ⟨0, 0, 0, 0⟩ = true := by rfl

set_option maxRecDepth 100000 in
set_option maxHeartbeats 4000000 in
theorem sane_any (w : World) : Calls Try.prog 10 #[] w fun e w' => e = .returned (.bool true) ∧ Below w.heap.size w w' := by
  have CI := fun w => inter_any 0 0 4 4 2 1 9 3 w
  rw [inter_ex] at CI
  have CA := fun w => area_any 0 0 4 4 w
  rw [area_ex] at CA
  have CV := fun w => valid_any 0 0 4 4 w
  rw [valid_ex] at CV
  have CE := fun w => empty_any 0 0 0 0 w
  rw [empty_ex] at CE
  have HI := hid CI
  have HA := hid CA
  have HV := hid CV
  have HE := hid CE
  clear CI CA CV CE
  go_enter Try.func10, Try.ntmps10
  go_wp2_with fail
  refine (sub_any 0 0 4 4 1 1 2 2 _).mono ?_
  rintro e w1 ⟨A, n, c, rfl, hn4, hr, hb⟩
  rw [sub_ex] at hr
  have hn : n = 4 := hr.1.symm
  subst hn
  obtain ⟨g, rfl, hg, hc⟩ := hr.2 (by omega)
  have hc1 := hc 1 ⟨0, 1, 1, 2⟩ rfl
  obtain ⟨q0, q1, q2, q3⟩ := hc1
  simp only [Nat.one_mul] at q0 q1 q2 q3
  obtain ⟨hc1, hf1⟩ := bcell hb
  have hz1 : w.heap.size < w1.heap.size := by have := hb.size; simp at this; omega
  have HB1 := hid (((Below.refl _ w).alloc (Nat.le_refl _) _).trans (hb.mono (by simp)))
  clear hb hc hr hn4
  go_wp2_with fail
  refine (HI.out _).mono ?_
  rintro e w2 ⟨rfl, hb⟩
  have hz2 : w.heap.size < w2.heap.size := by have := hb.size; omega
  obtain ⟨hc2, hf2⟩ := bcell hb
  have HB2 := hid (HB1.out.trans (hb.mono (by omega)))
  clear hb
  go_wp2_with fail
  refine (HA.out _).mono ?_
  rintro e w3 ⟨rfl, hb⟩
  have hz3 : w.heap.size < w3.heap.size := by have := hb.size; omega
  obtain ⟨hc3, hf3⟩ := bcell hb
  have HB3 := hid (HB2.out.trans (hb.mono (by omega)))
  clear hb
  go_wp2_with fail
  refine (HV.out _).mono ?_
  rintro e w4 ⟨rfl, hb⟩
  have hz4 : w.heap.size < w4.heap.size := by have := hb.size; omega
  obtain ⟨hc4, hf4⟩ := bcell hb
  have HB4 := hid (HB3.out.trans (hb.mono (by omega)))
  clear hb
  go_wp2_with fail
  refine (HE.out _).mono ?_
  rintro e w5 ⟨rfl, hb⟩
  have HB5 := hid (HB4.out.trans (hb.mono (by omega)))
  clear hb
  go_wp2
  go_ret
  exact ⟨rfl, HB5.out⟩
end Go.Proofs.Ytphleapmgkcpoaa
