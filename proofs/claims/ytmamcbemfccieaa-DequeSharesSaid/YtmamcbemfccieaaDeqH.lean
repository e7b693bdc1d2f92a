/-
  Layer 23: the reference's Steal, List, Drain, Without, Remove on a block and a row.
-/
import Derived.Test.YtmamcbemfccieaaDeqG
namespace Go.Proofs.Ytmamcbemfccieaa
open Go.RowKit
set_option linter.unusedVariables false

def StealPost (g : Nat) (v : Value) (x : Rf) (k : Nat) (l : List Rf) (w : World) (e : Ending) (w' : World) : Prop :=
  e = .returned (.tuple #[rv x, .bool true]) ∧ ∃ v', Blk w' g 50 #[v, v'] ∧ w'.ownsRow w.heap.size 32 2 v' k (rflat l) ∧ Foot (fun i => i = g) w w'
set_option maxHeartbeats 2000000 in
theorem rsteal_on (g b k cap : Nat) (v : Value) (x : Rf) (l : List Rf) (w : World) (hb : Blk w g 50 #[v, .slice (some ⟨b, 0, none⟩) (k + 1) cap]) (ho : w.ownsRow 0 32 2 (.slice (some ⟨b, 0, none⟩) (k + 1) cap) (k + 1) (rflat (x :: l))) (hn : k < 256) :
    Calls Try.prog 19 #[.pointer (some ⟨g, 0, none⟩)] w (StealPost g v x k l w) := by
  obtain ⟨i0, hi, hz0, hz1, hz2⟩ := info_parts ref_info
  have HB := hid (hb.alloc (.cells #[.int .i64 0, .int .i64 0] 32))
  have HO := hid (ho.alloc (.cells #[.int .i64 0, .int .i64 0] 32))
  have HL := hid (rlen_on g (k + 1) cap v _ _ HB.out)
  have c0 : (w.alloc (.cells #[.int .i64 0, .int .i64 0] 32)).cell? ⟨b, 0, none⟩ = some (.int .i64 x.job) := HO.out.cellAt 0 (by omega)
  have c1 : (w.alloc (.cells #[.int .i64 0, .int .i64 0] 32)).cell? ⟨b, 1, none⟩ = some (.int .i64 x.task) := HO.out.cellAt 1 (by omega)
  have HZ := hid (Blk.new w 32 #[.int .i64 0, .int .i64 0])
  have HF := hid ((Foot.refl (fun i => i = g) w).alloc (.cells #[.int .i64 0, .int .i64 0] 32))
  have hgl := hb.lt
  clear hb ho
  obtain ⟨k0, k1, f0, f1⟩ := two_ HB.out
  have t1 : ¬ ((k : Int) + 1 = 0) := by omega
  have t2 : (0 : Int) < (k : Int) + 1 := by omega
  go_enter Try.func19, Try.ntmps19
  go_wp2_with fail
  refine HL.out.mono ?_
  rintro e w' ⟨rfl, rfl⟩
  go_upto_region 4 with fail
  have hWs : (w.alloc (.cells #[.int .i64 0, .int .i64 0] 32)).heap.size = w.heap.size + 1 := by simp
  generalize hs : w.heap.size = sz at *
  generalize w.alloc (.cells #[.int .i64 0, .int .i64 0] 32) = W at *
  have hgs' : g ≠ sz + 1 := by omega
  have hzs' : sz ≠ sz + 1 := by omega
  have hgz : g ≠ sz := by omega
  have HB1 := hid (HB.out.alloc (.cells #[.int .i64 x.job, .int .i64 x.task] 32))
  have HO1 := hid (HO.out.alloc (.cells #[.int .i64 x.job, .int .i64 x.task] 32))
  have HZ1 := hid (HZ.out.alloc (.cells #[.int .i64 x.job, .int .i64 x.task] 32))
  have HN1 : Hid (Blk (W.alloc (.cells #[.int .i64 x.job, .int .i64 x.task] 32)) (sz + 1) 32 #[.int .i64 x.job, .int .i64 x.task]) := by rw [← hWs]; exact Blk.new W _ _
  have HF1 := hid (HF.out.alloc (.cells #[.int .i64 x.job, .int .i64 x.task] 32))
  have hWs2 : (W.alloc (.cells #[.int .i64 x.job, .int .i64 x.task] 32)).heap.size = sz + 1 + 1 := by simp [hWs]
  clear k0 k1 f0 f1 c0 c1 HL
  generalize W.alloc (.cells #[.int .i64 x.job, .int .i64 x.task] 32) = W1 at *
  have hl := HO.out.1
  rw [rflat_len, List.length_cons] at hl
  have hkc : k + 1 ≤ cap := by
    rcases HO.out.2 with ⟨h, _⟩ | ⟨g', cap', cur, h, _, _, h3, _⟩
    · simp at h
    · injection h with _ _ h
      omega
  obtain ⟨k0, k1, f0, f1⟩ := two_ HB1.out
  by_cases hc1 : cap = 1
  · have hk0 : k = 0 := by omega
    have hl0 : l = [] := List.eq_nil_of_length_eq_zero (by omega)
    subst hk0 hl0
    go_wp2_with (at_builtin; refine wpList_append_own_at _ rfl (.const (.slice none 0 0)) (.tmp 20) 43 rfl (sz + 1 + 1) 32 i0 (.agg #[.int .i64 0, .int .i64 0]) 2 16 Try.underlying43 hi hz0 hz1 hz2 rfl (by decide) (.slice none 0 0) 0 [] rfl (World.ownsRow_nil _ _ _ _) ⟨b, 0, none⟩ 0 0 [] rfl ?c1 ?c2 ?c3 ?c4 ?c5 ?c6 ?_)
    case c1 => rfl
    case c2 => intro j u hu; simp at hu
    case c3 => intro u hu; simp at hu
    case c4 => unfold maxLen; omega
    case c5 => omega
    case c6 => omega
    intro v' w2 ho2 hg2 hn2 hat2
    clear hn2
    obtain ⟨A', c', rfl⟩ := own_form ho2
    have HO2 := hid ho2
    have hb2 := HB1.out.grown hg2 (fun e => by cases e)
    have HB2 := hid hb2
    have HN2 := hid (HN1.out.grown hg2 (fun e => by cases e))
    have HZ2 := hid (HZ1.out.grown hg2 (fun e => by cases e))
    have HF2 := hid (HF1.out.grown hg2 (fun i e => by cases e))
    clear k0 k1 f0 f1 ho2 hg2 hat2 hb2
    have k0 := HB2.out.cell 0
    have k1 := HB2.out.cell 1
    have f1 := HB2.out.thawed 1
    have p0 := HN2.out.cell 0
    have p1 := HN2.out.cell 1
    have z0 := HZ2.out.cell 0
    have z1 := HZ2.out.cell 1
    have y0 := HZ2.out.thawed 0
    have y1 := HZ2.out.thawed 1
    go_wp2
    refine bodyPost_ret (res_ref (g := sz) (v0 := x.job) (v1 := x.task) (b := true) rfl rfl rfl (HZ2.out.far hgz.symm _ |>.set2 _ _)) rfl ?_
    refine ⟨rfl, _, ((HB2.out.set_ 1 _).far hgz _).far hgz _, ?_, ((HF2.out.set_ ⟨g, 1, none⟩ (.inl rfl) _).set_ ⟨sz, 0, none⟩ (.inr (Nat.le_of_eq hs)) _).set_ ⟨sz, 1, none⟩ (.inr (Nat.le_of_eq hs)) _⟩
    exact own_low (own_far (own_far (own_far HO2.out (p := ⟨g, 1, none⟩) (by show g < sz + 1 + 1; omega) _) (p := ⟨sz, 0, none⟩) (by show sz < sz + 1 + 1; omega) _) (p := ⟨sz, 1, none⟩) (by show sz < sz + 1 + 1; omega) _) (by omega)
  · have hcl : ∀ (i : Nat) (u : Value), (rflat l)[i]? = some u → W1.cell? ((⟨b, 2, none⟩ : Addr).add i) = some u := by
      intro i u hu
      have hi2 : i < (rflat l).length := (List.getElem?_eq_some_iff.1 hu).1
      rw [rflat_len] at hi2
      have := HO1.out.cellAt (2 + i) (by omega)
      rw [show ((⟨b, 2, none⟩ : Addr).add i) = ⟨b, 2 + i, none⟩ by unfold Addr.add; split <;> simp_all]
      rw [this, ← rflat_tail x l, List.getElem?_drop] at *
      exact hu
    go_wp2_with (at_builtin; refine wpList_append_own_at _ rfl (.const (.slice none 0 0)) (.tmp 20) 43 rfl (sz + 1 + 1) 32 i0 (.agg #[.int .i64 0, .int .i64 0]) 2 16 Try.underlying43 hi hz0 hz1 hz2 rfl (by decide) (.slice none 0 0) 0 [] rfl (World.ownsRow_nil _ _ _ _) ⟨b, 2, none⟩ k (cap - 1) (rflat l) rfl ?c1 ?c2 ?c3 ?c4 ?c5 ?c6 ?_)
    case c1 => rw [rflat_len]; omega
    case c2 => exact hcl
    case c3 => exact rflat_one_cell l
    case c4 => unfold maxLen; omega
    case c5 => omega
    case c6 => omega
    intro v' w2 ho2 hg2 hn2 hat2
    clear hn2
    obtain ⟨A', c', rfl⟩ := own_form ho2
    have HO2 := hid ho2
    have hb2 := HB1.out.grown hg2 (fun e => by cases e)
    have HB2 := hid hb2
    have HN2 := hid (HN1.out.grown hg2 (fun e => by cases e))
    have HZ2 := hid (HZ1.out.grown hg2 (fun e => by cases e))
    have HF2 := hid (HF1.out.grown hg2 (fun i e => by cases e))
    clear k0 k1 f0 f1 ho2 hg2 hat2 hb2
    have k0 := HB2.out.cell 0
    have k1 := HB2.out.cell 1
    have f1 := HB2.out.thawed 1
    have p0 := HN2.out.cell 0
    have p1 := HN2.out.cell 1
    have z0 := HZ2.out.cell 0
    have z1 := HZ2.out.cell 1
    have y0 := HZ2.out.thawed 0
    have y1 := HZ2.out.thawed 1
    go_wp2
    refine bodyPost_ret (res_ref (g := sz) (v0 := x.job) (v1 := x.task) (b := true) rfl rfl rfl (HZ2.out.far hgz.symm _ |>.set2 _ _)) rfl ?_
    refine ⟨rfl, _, ((HB2.out.set_ 1 _).far hgz _).far hgz _, ?_, ((HF2.out.set_ ⟨g, 1, none⟩ (.inl rfl) _).set_ ⟨sz, 0, none⟩ (.inr (Nat.le_of_eq hs)) _).set_ ⟨sz, 1, none⟩ (.inr (Nat.le_of_eq hs)) _⟩
    exact own_low (own_far (own_far (own_far HO2.out (p := ⟨g, 1, none⟩) (by show g < sz + 1 + 1; omega) _) (p := ⟨sz, 0, none⟩) (by show sz < sz + 1 + 1; omega) _) (p := ⟨sz, 1, none⟩) (by show sz < sz + 1 + 1; omega) _) (by omega)
end Go.Proofs.Ytmamcbemfccieaa
