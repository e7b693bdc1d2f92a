/-
  Layer 23: Same; the reference's Remove and New.
-/
import Derived.Test.YtmamcbemfccieaaDeqI
namespace Go.Proofs.Ytmamcbemfccieaa
open Go.RowKit
set_option linter.unusedVariables false

theorem drewN_two (w : World) (a b : Nat) : (w.drewN a).drewN b = w.drewN (a + b) := by unfold World.drewN; simp [Nat.add_assoc]
theorem take_more {a b : List Rf} {k : Nat} {x : Rf} (h : a.take k = b.take k) (ha : a[k]? = some x) (hb : b[k]? = some x) : a.take (k + 1) = b.take (k + 1) := by
  rw [List.take_add_one, List.take_add_one, h, ha, hb]
set_option maxHeartbeats 2000000 in
theorem same_on (n m c d : Nat) (A A2 : Option Addr) (la lb : List Rf) (w : World) (ha : w.ownsRow 0 32 2 (.slice A n c) n (rflat la)) (hb : w.ownsRow 0 32 2 (.slice A2 m d) m (rflat lb)) (hn : n ≤ 9223372036854775807) (hm : m ≤ 9223372036854775807) :
    Calls Try.prog 22 #[.slice A n c, .slice A2 m d] w fun e w' => e = .returned (.bool (decide (la = lb))) ∧ ∃ k, w' = w.drewN k := by
  have HA := hid ha
  have HB := hid hb
  have HLA := hid (own_len ha)
  have HLB := hid (own_len hb)
  clear ha hb
  by_cases hnm : n = m
  · subst hnm
    by_cases hn0 : n = 0
    · have e1 : la = [] := List.eq_nil_of_length_eq_zero (by rw [HLA.out]; exact hn0)
      have e2 : lb = [] := List.eq_nil_of_length_eq_zero (by rw [HLB.out]; exact hn0)
      subst e1 e2 hn0
      go_enter Try.func22, Try.ntmps22
      go_wp2
      go_loopw [5] (fun i wr => i = .int .i64 0 ∧ w = wr) (fun _ _ => 0)
      case atStart => exact ⟨rfl, rfl⟩
      case round =>
        obtain ⟨rfl, rfl⟩ := hrel
        go_wp2
        go_ret
        exact ⟨rfl, 0, rfl⟩
    · obtain ⟨a, rfl⟩ : ∃ a, A = some a := by
        cases A with
        | none => exact absurd (own_nil HA.out).1 hn0
        | some a => exact ⟨a, rfl⟩
      obtain ⟨a2, rfl⟩ : ∃ a, A2 = some a := by
        cases A2 with
        | none => exact absurd (own_nil HB.out).1 hn0
        | some a => exact ⟨a, rfl⟩
      obtain ⟨b, rfl, _⟩ := own_off HA.out
      obtain ⟨b2, rfl, _⟩ := own_off HB.out
      go_enter Try.func22, Try.ntmps22
      go_wp2
      go_loopw [5] (fun i wr => ∃ k m : Nat, k ≤ n ∧ i = .int .i64 (k : Int) ∧ wr = w.drewN m ∧ la.take k = lb.take k) (fun i _ => n - (intOf i).toNat)
      case atStart => exact ⟨0, 0, by omega, rfl, rfl, rfl⟩
      case round =>
        obtain ⟨k, m, hk, rfl, rfl, ht⟩ := hrel
        have HT := hid ht
        clear ht
        by_cases hlt : k < n
        · obtain ⟨x, hx⟩ : ∃ x, la[k]? = some x := ⟨la[k]'(by rw [HLA.out]; exact hlt), List.getElem?_eq_getElem _⟩
          obtain ⟨y, hy⟩ : ∃ x, lb[k]? = some x := ⟨lb[k]'(by rw [HLB.out]; exact hlt), List.getElem?_eq_getElem _⟩
          obtain ⟨c0, c1⟩ := own_pair HA.out hx
          obtain ⟨d0, d1⟩ := own_pair HB.out hy
          have HX := hid hx
          have HY := hid hy
          clear hx hy
          obtain ⟨j, t⟩ := x
          obtain ⟨j2, t2⟩ := y
          simp only at c0 c1 d0 d1
          have e1 : (k : Int) < (n : Int) := by omega
          by_cases hj : j = j2
          · by_cases ht : t = t2
            · subst hj ht
              have HN := hid (take_more HT.out HX.out HY.out)
              go_wp2
              go_quiet (fail)
              go_wp2
              go_roundw
              case rel => exact ⟨k + 1, _, by omega, by go_num, rfl, HN.out⟩
              case measure => simp [intOf]; omega
            · have HD : Hid (la ≠ lb) := hid (fun e => by
                have h := HX.out
                rw [e, HY.out] at h
                injection h with h
                injection h with _ h
                exact ht h.symm)
              have ht' : (t == t2) = false := by simp [ht]
              go_wp2
              go_quiet (fail)
              go_wp2
              go_ret
              exact ⟨ret_bool (by rw [decide_eq_false HD.out]), _, drewN_two _ _ _⟩
          · have HD : Hid (la ≠ lb) := hid (fun e => by
              have h := HX.out
              rw [e, HY.out] at h
              injection h with h
              injection h with h _
              exact hj h.symm)
            have hj' : (j == j2) = false := by simp [hj]
            go_wp2
            go_quiet (fail)
            go_wp2
            go_ret
            exact ⟨ret_bool (by rw [decide_eq_false HD.out]), _, drewN_two _ _ _⟩
        · have hkn : k = n := by omega
          subst hkn
          have HE : Hid (la = lb) := hid (by
            have h := HT.out
            rwa [List.take_of_length_le (Nat.le_of_eq HLA.out), List.take_of_length_le (Nat.le_of_eq HLB.out)] at h)
          go_wp2
          go_ret
          exact ⟨ret_bool (by rw [decide_eq_true HE.out]), _, rfl⟩
  · have HD : Hid (la ≠ lb) := hid (fun e => hnm (by rw [← HLA.out, ← HLB.out, e]))
    have e1 : ¬ (n : Int) = (m : Int) := by omega
    go_enter Try.func22, Try.ntmps22
    go_wp2
    go_ret
    exact ⟨ret_bool (by rw [decide_eq_false HD.out]), 0, rfl⟩
def RemPost (g : Nat) (v : Value) (n : Nat) (l : List Rf) (w : World) (e : Ending) (w' : World) : Prop :=
  e = .returned (.int .i64 ((n : Int) - (l.length : Int))) ∧ ∃ v', Blk w' g 50 #[v, v'] ∧ w'.ownsRow w.heap.size 32 2 v' l.length (rflat l) ∧ Foot (fun i => i = g) w w'
theorem rremove_on (g n k : Nat) (v : Value) (A : Option Addr) (l : List Rf) (jb : Int) (w : World) (hb : Blk w g 50 #[v, .slice A n k]) (ho : w.ownsRow 0 32 2 (.slice A n k) n (rflat l)) (hn : n ≤ 256) :
    Calls Try.prog 21 #[.pointer (some ⟨g, 0, none⟩), .int .i64 jb] w (RemPost g v n (without l jb) w) := by
  have HB := hid hb
  have hgl := hb.lt
  have HL := hid (own_len ho)
  have HW := hid (without_on n k A l jb w ho hn)
  clear hb ho
  obtain ⟨k0, k1, f0, f1⟩ := two_ HB.out
  go_enter Try.func21, Try.ntmps21
  go_wp2_with fail
  refine HW.out.mono ?_
  rintro e w' ⟨v', n', rfl, ho, hf⟩
  have hl := own_len ho
  have hle := without_le l jb
  rw [HL.out] at hle
  subst hl
  obtain ⟨A', c', rfl⟩ := own_form ho
  have HO := hid ho
  have HF := hid hf
  have HB1 := hid (hf.blk HB.out (fun e => e))
  clear ho hf k0 k1 f0 f1
  obtain ⟨k0, k1, f0, f1⟩ := two_ HB1.out
  generalize hN : (without l jb).length = N at *
  have e1 : IntKind.i64.wrap ((n : Int) - (N : Int)) = (n : Int) - (N : Int) := IntWalk.i64_in _ (by omega)
  have hf0 : Foot (fun i => i = g) w w' := HF.out.mono (fun i _ e => e.elim)
  have A1 := hid (own_far HO.out (p := ⟨g, 1, none⟩) hgl (.slice A' N c'))
  have A2 := hid (HB1.out.set_ 1 (.slice A' N c'))
  have A4 := hid (hf0.set_ ⟨g, 1, none⟩ (.inl rfl) (.slice A' N c'))
  have HN := hid hN
  clear hf0 hN
  go_wp2
  go_ret
  unfold RemPost
  rw [HN.out]
  exact ⟨rfl, _, A2.out, A1.out, A4.out⟩
theorem rnew_no (c : Int) (w : World) (hc : c < 1 ∨ 256 < c) :
    Calls Try.prog 15 #[.int .i64 c] w fun e w' => e = .returned (.tuple #[.pointer none, .int .i64 2]) ∧ w = w' := by
  by_cases h1 : c < 1
  · go_enter Try.func15, Try.ntmps15
    go_wp2
    go_ret2
    exact ⟨rfl, rfl⟩
  · have h2 : 256 < c := by omega
    clear hc
    go_enter Try.func15, Try.ntmps15
    go_wp2
    go_ret2
    exact ⟨rfl, rfl⟩
theorem rnew_yes (n : Nat) (w : World) (h1 : 1 ≤ n) (h2 : n ≤ 256) :
    Calls Try.prog 15 #[.int .i64 (n : Int)] w fun e w' => e = .returned (.tuple #[.pointer (some ⟨w.heap.size, 0, none⟩), .int .i64 0]) ∧ w.alloc (.cells #[.int .i64 (n : Int), .slice none 0 0] 50) = w' := by
  have t1 : ¬ (n : Int) < 1 := by omega
  have t2 : ¬ 256 < (n : Int) := by omega
  go_enter Try.func15, Try.ntmps15
  go_wp2
  go_ret2
  exact ⟨rfl, rfl⟩
end Go.Proofs.Ytmamcbemfccieaa
