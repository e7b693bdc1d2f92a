/-
  Layer 23: List on a block and a ring.
-/
import Derived.Test.YtmamcbemfccieaaDeqA
namespace Go.Proofs.Ytmamcbemfccieaa
open Go.RowKit
set_option linter.unusedVariables false

theorem ref_info : (Try.prog.info? 32).map (fun i => (i.zero, i.size, i.bytes)) = some (some (.agg #[.int .i64 0, .int .i64 0]), 2, 16) := by kernel_rfl
theorem ref_news (w : World) (j t : Int) (ty : TypeId) (m : Nat) : ∀ (k : Nat) (u : Value), [Value.int .i64 j, .int .i64 t][k]? = some u → ((w.alloc (.cells #[.int .i64 j, .int .i64 t] ty)).drewN m).cell? ((⟨w.heap.size, 0, none⟩ : Addr).add k) = some u :=
  World.news_of_block (heap_alloc_new w (.cells #[.int .i64 j, .int .i64 t] ty))
theorem ref_one (j t : Int) : ∀ u ∈ [Value.int .i64 j, .int .i64 t], u.oneCell' = true := by simp [Value.oneCell']
theorem take_snoc (l : List Rf) (k : Nat) (x : Rf) (h : l[k]? = some x) : rflat (l.take (k + 1)) = rflat (l.take k) ++ [.int .i64 x.job, .int .i64 x.task] := by
  rw [List.take_add_one, h, rflat_append]
  simp [rflat, rf1]
set_option maxHeartbeats 2000000 in
theorem list_on (g rb n top size : Nat) (cur : Array Value) (l : List Rf) (w : World) (hb : Blk w g 46 #[.slice (some ⟨rb, 0, none⟩) n n, .int .i64 (top : Int), .int .i64 (size : Int)]) (hr : Blk w rb 32 cur) (hc : cur.size = n * 2) (hn1 : 1 ≤ n) (hn2 : n ≤ 256) (ht : top < n) (hl : l.length = size) (hsz : size ≤ n)
    (hring : ∀ j x, l[j]? = some x → cur[(top + j) % n * 2]? = some (.int .i64 x.job) ∧ cur[(top + j) % n * 2 + 1]? = some (.int .i64 x.task)) :
    Calls Try.prog 26 #[.pointer (some ⟨g, 0, none⟩)] w fun e w' => ∃ v, e = .returned v ∧ w'.ownsRow w.heap.size 32 2 v size (rflat l) ∧ Foot (fun _ => False) w w' := by
  obtain ⟨i0, hi, hz0, hz1, hz2⟩ := info_parts ref_info
  have HB := hid hb
  have HR := hid hr
  have HX := hid hring
  have HL := hid hl
  clear hb hr hring hl
  obtain ⟨k0, k1, k2, f0, f1, f2⟩ := three HB.out
  go_enter Try.func26, Try.ntmps26
  go_wp2
  clear k0 k1 k2 f0 f1 f2
  go_loopw [3, 11] (fun v i wr => ∃ k : Nat, k ≤ size ∧ i = .int .i64 k ∧ wr.ownsRow w.heap.size 32 2 v k (rflat (l.take k)) ∧ Foot (fun _ => False) w wr) (fun _ i _ => size - (intOf i).toNat)
  case atStart => exact ⟨0, by omega, rfl, by simpa [rflat] using World.ownsRow_nil w w.heap.size 32 2, Foot.refl _ _⟩
  case round =>
    obtain ⟨k, hk, rfl, ho, hf⟩ := hrel
    have HO := hid ho
    have HF := hid hf
    have HBk := hid (hf.blk HB.out (fun e => e))
    have HRk := hid (hf.blk HR.out (fun e => e))
    clear ho hf
    by_cases hlt : k < size
    · obtain ⟨x, hx⟩ : ∃ x, l[k]? = some x := ⟨l[k]'(by rw [HL.out]; exact hlt), List.getElem?_eq_getElem _⟩
      have HT := hid (take_snoc l k x hx)
      obtain ⟨j, t⟩ := x
      obtain ⟨c0, c1⟩ := HX.out k _ hx
      generalize hq : (top + k) % n = q at c0 c1
      have hqn : q < n := by rw [← hq]; exact Nat.mod_lt _ (by omega)
      have HP := hid (fun m => place_on g n top k q _ _ (wr.drewN m) (HBk.out.drewN m) hn1 hn2 ht (by omega) hq)
      have HC0 := hid c0
      have HC1 := hid c1
      clear hx hq c0 c1
      have c0 := HRk.out.cell_of HC0.out
      have c1 := HRk.out.cell_of HC1.out
      obtain ⟨k0, k1, k2, f0, f1, f2⟩ := three HBk.out
      have e3 : (q : Int) < (n : Int) := by omega
      have h63 : k + 1 ≤ maxLen := by unfold maxLen; omega
      have H63 := hid h63
      clear h63
      have NG : Hid (some g ≠ u3.ownBlock) := hid (fun e => by have := (HO.out.lt g e.symm).1; have := HB.out.lt; omega)
      have NR : Hid (some rb ≠ u3.ownBlock) := hid (fun e => by have := (HO.out.lt rb e.symm).1; have := HR.out.lt; omega)
      have HBY : Hid ((k + 1) * 16 ≤ 140737488355328) := hid (by omega)
      have HBA : Hid (∀ m, w.heap.size ≤ ((wr.alloc (.cells #[.int .i64 j, .int .i64 t] 32)).drewN m).heap.size) := hid (fun m => by have := HF.out.size; show w.heap.size ≤ (wr.alloc _).heap.size; simp; omega)
      go_wp2
      go_region_held3 (fun w' => w'.cell? ⟨g, 0, none⟩ = some (.slice (some ⟨rb, 0, none⟩) n n) ∧ w'.cell? ⟨rb, q * 2, none⟩ = some (.int .i64 j) ∧ w'.cell? ⟨rb, q * 2 + 1, none⟩ = some (.int .i64 t)) (first | exact ⟨k0, c0, c1⟩ | exact ⟨((HBk.out.alloc _).drewN _).cell 0, ((HRk.out.alloc _).drewN _).cell_of HC0.out, ((HRk.out.alloc _).drewN _).cell_of HC1.out⟩ | exact ⟨m0, d0, d1⟩) (first | (go_at_call 28; refine (HP.out _).mono ?_; rintro e w' ⟨rfl, m, rfl⟩) | (refine step_append_lies _ (by rfl) (.tmp 14) (.tmp 24) 43 (by rfl) w.heap.size 32 i0 (.agg #[.int .i64 0, .int .i64 0]) 2 16 Try.underlying43 hi hz0 hz1 hz2 rfl (by decide) u3 k _ (by rfl) (HO.out.alloc _) ⟨wr.heap.size, 0, none⟩ 1 1 [.int .i64 j, .int .i64 t] (by rfl) rfl (ref_news wr j t _ _) (ref_one j t) (by decide) H63.out HBY.out (HBA.out _) _ rfl ?_; intro b cap w1 hown1 hgrow hat hlt; have HO1 := hid hown1; have HG1 := hid hgrow; obtain ⟨m0, _⟩ := three ((Blk.drewN (HBk.out.alloc (.cells #[.int .i64 j, .int .i64 t] 32)) _).grown hgrow NG.out); have d0 := ((Blk.drewN (HRk.out.alloc (.cells #[.int .i64 j, .int .i64 t] 32)) _).grown hgrow NR.out).cell_of HC0.out; have d1 := ((Blk.drewN (HRk.out.alloc (.cells #[.int .i64 j, .int .i64 t] 32)) _).grown hgrow NR.out).cell_of HC1.out))
      go_wp2
      go_roundw
      case rel =>
        refine ⟨k + 1, by omega, by go_num, ?_, ((HF.out.alloc _).drewN _).grown HG1.out (fun i hi => .inr (HO.out.lt i hi).1)⟩
        rw [HT.out]
        exact HO1.out
      case measure => simp [intOf]; omega
    · go_wp2
      go_ret
      have : k = size := by omega
      subst this
      refine ⟨_, rfl, ?_, HF.out⟩
      have h := HO.out
      rw [List.take_of_length_le (Nat.le_of_eq HL.out)] at h
      exact h
end Go.Proofs.Ytmamcbemfccieaa
