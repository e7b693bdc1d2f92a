/-
  Layer 23: the reference's List, Drain, Without, Remove, New; Same.
-/
import Derived.Test.YtmamcbemfccieaaDeqH
namespace Go.Proofs.Ytmamcbemfccieaa
open Go.RowKit
set_option linter.unusedVariables false

/-- A list in new memory. -/
def ListPost (l : List Rf) (w : World) (e : Ending) (w' : World) : Prop := ∃ v n, e = .returned v ∧ w'.ownsRow w.heap.size 32 2 v n (rflat l) ∧ Foot (fun _ => False) w w'
theorem own_cells {w : World} {B b n c : Nat} {e : TypeId} {l : List Rf} (ho : w.ownsRow B e 2 (.slice (some ⟨b, 0, none⟩) n c) n (rflat l)) : ∀ (i : Nat) (u : Value), (rflat l)[i]? = some u → w.cell? ((⟨b, 0, none⟩ : Addr).add i) = some u := by
  intro i u hu
  have hi2 : i < (rflat l).length := (List.getElem?_eq_some_iff.1 hu).1
  have hl := ho.1
  have := ho.cellAt i (by omega)
  rw [show ((⟨b, 0, none⟩ : Addr).add i) = ⟨b, i, none⟩ by unfold Addr.add; split <;> simp_all]
  rw [this]
  exact hu
theorem own_pair {w : World} {B b n c : Nat} {e : TypeId} {l : List Rf} {i : Nat} {x : Rf} (ho : w.ownsRow B e 2 (.slice (some ⟨b, 0, none⟩) n c) n (rflat l)) (hx : l[i]? = some x) : w.cell? ⟨b, i * 2, none⟩ = some (.int .i64 x.job) ∧ w.cell? ⟨b, i * 2 + 1, none⟩ = some (.int .i64 x.task) := by
  have hl := ho.1
  rw [rflat_len] at hl
  have hi : i < l.length := (List.getElem?_eq_some_iff.1 hx).1
  have h := rflat_get l i x hx
  exact ⟨(ho.cellAt (i * 2) (by omega)).trans (h 0 (by omega)), (ho.cellAt (i * 2 + 1) (by omega)).trans (h 1 (by omega))⟩
theorem own_nil {w : World} {B n k : Nat} {e : TypeId} {l : List Rf} (ho : w.ownsRow B e 2 (.slice none n k) n (rflat l)) : n = 0 ∧ k = 0 ∧ l = [] := by
  rcases ho.2 with ⟨h, h0⟩ | ⟨g', cap, cur, h, _⟩
  · injection h with _ _ h2
    have := ho.1
    rw [rflat_len] at this
    exact ⟨h0, h2, List.eq_nil_of_length_eq_zero (by omega)⟩
  · simp at h
theorem own_off {w : World} {B n k : Nat} {a : Addr} {e : TypeId} {size : Nat} {xs : List Value} (ho : w.ownsRow B e size (.slice (some a) n k) n xs) : ∃ b, a = ⟨b, 0, none⟩ ∧ n ≤ k ∧ k ≤ maxLen ∧ b < w.heap.size := by
  rcases ho.2 with ⟨h, _⟩ | ⟨g', cap, cur, h, _, h2, h3, h4, _⟩
  · simp at h
  · injection h with h _ h5
    injection h with h
    subst h5
    exact ⟨g', h, h3, h4, Blk.lt (t := e) (cs := cur) h2⟩
theorem own_len {w : World} {B n : Nat} {e : TypeId} {v : Value} {l : List Rf} (ho : w.ownsRow B e 2 v n (rflat l)) : l.length = n := by
  have := ho.1
  rw [rflat_len] at this
  omega

theorem rlist_on (g n k : Nat) (v : Value) (A : Option Addr) (l : List Rf) (w : World) (hb : Blk w g 50 #[v, .slice A n k]) (ho : w.ownsRow 0 32 2 (.slice A n k) n (rflat l)) (hn : n ≤ 256) :
    Calls Try.prog 27 #[.pointer (some ⟨g, 0, none⟩)] w (ListPost l w) := by
  obtain ⟨i0, hi, hz0, hz1, hz2⟩ := info_parts ref_info
  have HB := hid hb
  have HO := hid ho
  clear hb ho
  obtain ⟨k0, k1, f0, f1⟩ := two_ HB.out
  cases A with
  | none =>
    obtain ⟨rfl, rfl, rfl⟩ := own_nil HO.out
    go_enter Try.func27, Try.ntmps27
    go_wp2
    go_ret
    exact ⟨_, 0, rfl, World.ownsRow_nil _ _ _ _, Foot.refl _ _⟩
  | some a =>
    obtain ⟨b, rfl, _⟩ := own_off HO.out
    go_enter Try.func27, Try.ntmps27
    go_wp2_with (at_builtin; refine wpList_append_own_at _ rfl _ _ 43 rfl w.heap.size 32 i0 (.agg #[.int .i64 0, .int .i64 0]) 2 16 Try.underlying43 hi hz0 hz1 hz2 rfl (by decide) _ _ _ rfl (World.ownsRow_nil _ _ _ _) ⟨b, 0, none⟩ n k (rflat l) rfl ?c1 ?c2 ?c3 ?c4 ?c5 ?c6 ?_)
    case c1 => rw [rflat_len, own_len HO.out]
    case c2 => exact own_cells HO.out
    case c3 => exact rflat_one_cell l
    case c4 => unfold maxLen; omega
    case c5 => omega
    case c6 => exact Nat.le_refl _
    intro v' w2 ho2 hg2 hn2 hat2
    clear hn2
    have HO2 := hid ho2
    have HG2 := hid hg2
    clear ho2 hg2 hat2
    go_wp2
    go_ret
    exact ⟨v', _, rfl, by simpa using HO2.out, (Foot.refl _ _).grown HG2.out (fun i e => by cases e)⟩
theorem rdrain_on (g n k : Nat) (v : Value) (A : Option Addr) (w : World) (hb : Blk w g 50 #[v, .slice A n k]) :
    Calls Try.prog 24 #[.pointer (some ⟨g, 0, none⟩)] w fun e w' => e = .returned (.slice A n k) ∧ Blk w' g 50 #[v, .slice none 0 0] ∧ w.grownBy w' (some g) := by
  have HB := hid hb
  clear hb
  obtain ⟨k0, k1, f0, f1⟩ := two_ HB.out
  go_enter Try.func24, Try.ntmps24
  go_wp2
  go_ret
  exact ⟨rfl, HB.out.set_ 1 _, only_setCell (p := ⟨g, 1, none⟩) (World.grownBy.refl _ _) (.inl rfl) _⟩
set_option maxHeartbeats 2000000 in
theorem without_on (n k : Nat) (A : Option Addr) (l : List Rf) (jb : Int) (w : World) (ho : w.ownsRow 0 32 2 (.slice A n k) n (rflat l)) (hn : n ≤ 256) :
    Calls Try.prog 29 #[.slice A n k, .int .i64 jb] w (ListPost (without l jb) w) := by
  obtain ⟨i0, hi, hz0, hz1, hz2⟩ := info_parts ref_info
  have HO := hid ho
  have HL := hid (own_len ho)
  clear ho
  cases A with
  | none =>
    obtain ⟨rfl, rfl, rfl⟩ := own_nil HO.out
    go_enter Try.func29, Try.ntmps29
    go_wp2
    go_loopw [5, 6] (fun v i wr => v = .slice none 0 0 ∧ i = .int .i64 0 ∧ w = wr) (fun _ _ _ => 0)
    case atStart => exact ⟨rfl, rfl, rfl⟩
    case round =>
      obtain ⟨rfl, rfl, rfl⟩ := hrel
      go_wp2
      go_ret
      exact ⟨_, 0, rfl, World.ownsRow_nil _ _ _ _, Foot.refl _ _⟩
  | some a =>
    obtain ⟨b, rfl, _⟩ := own_off HO.out
    go_enter Try.func29, Try.ntmps29
    go_wp2
    go_loopw [5, 6] (fun v i wr => ∃ m, m ≤ n ∧ i = .int .i64 (m : Int) ∧ wr.ownsRow w.heap.size 32 2 v (without (l.take m) jb).length (rflat (without (l.take m) jb)) ∧ Foot (fun _ => False) w wr) (fun _ i _ => n - (intOf i).toNat)
    case atStart => exact ⟨0, by omega, rfl, World.ownsRow_nil _ _ _ _, Foot.refl _ _⟩
    case round =>
      obtain ⟨m, hm, rfl, hov, hf⟩ := hrel
      have HV := hid hov
      have HF := hid hf
      have HOr := hid (hf.row HO.out (fun g _ e => e))
      clear hov hf
      by_cases hlt : m < n
      · obtain ⟨x, hx⟩ : ∃ x, l[m]? = some x := ⟨l[m]'(by rw [HL.out]; exact hlt), List.getElem?_eq_getElem _⟩
        obtain ⟨c0, c1⟩ := own_pair HOr.out hx
        have HT := hid (without_take l jb m x hx)
        have hkl := kept_len l jb m
        clear hx
        have e1 : (m : Int) < (n : Int) := by omega
        obtain ⟨j, t⟩ := x
        simp only at c0 c1 HT
        by_cases hj : j = jb
        · rw [if_pos hj] at HT
          go_wp2
          go_roundw
          case rel => exact ⟨m + 1, by omega, by go_num, by rw [HT.out]; exact HV.out, HF.out⟩
          case measure => simp [intOf]; omega
        · rw [if_neg hj] at HT
          have HV2 := hid (HV.out.alloc (.cells #[.int .i64 j, .int .i64 t] 32))
          go_wp2_with (at_builtin; refine wpList_append_own_at _ rfl _ _ 43 rfl w.heap.size 32 i0 (.agg #[.int .i64 0, .int .i64 0]) 2 16 Try.underlying43 hi hz0 hz1 hz2 rfl (by decide) _ _ _ rfl HV2.out ⟨wr.heap.size, 0, none⟩ 1 1 [.int .i64 j, .int .i64 t] rfl ?c1 ?c2 ?c3 ?c4 ?c5 ?c6 ?_)
          case c1 => rfl
          case c2 => exact ref_news wr j t _ 0
          case c3 => exact ref_one j t
          case c4 => unfold maxLen; omega
          case c5 => omega
          case c6 => have := HF.out.size; simp; omega
          intro v' w2 ho2 hg2 hn2 hat2
          clear hn2
          have HO2 := hid ho2
          have HF2 := hid ((HF.out.alloc (.cells #[.int .i64 j, .int .i64 t] 32)).grown hg2 (fun i e => .inr (HV2.out.lt i e).1))
          clear ho2 hg2 hat2
          go_wp2
          go_roundw
          case rel => exact ⟨m + 1, by omega, by go_num, by rw [HT.out, rflat_append, rflat_one, List.length_append]; exact HO2.out, HF2.out⟩
          case measure => simp [intOf]; omega
      · have hmn : m = n := by omega
        subst hmn
        have HLt : Hid (l.take m = l) := hid (List.take_of_length_le (Nat.le_of_eq HL.out))
        rw [HLt.out] at HV
        go_wp2
        go_ret
        exact ⟨_, _, rfl, HV.out, HF.out⟩
end Go.Proofs.Ytmamcbemfccieaa
