/-
  Layer 23: Remove on a block and a ring.
-/
import Derived.Test.YtmamcbemfccieaaDeqC
import Derived.Deep.DeepCutAuto
namespace Go.Proofs.Ytmamcbemfccieaa
open Go.RowKit
set_option linter.unusedVariables false

/-- The ring while a job's tasks are taken out: i tasks of l have been looked at. -/
def Mid (n top : Nat) (l : List Rf) (j : Int) (i : Nat) (cur : Array Value) : Prop :=
  cur.size = n * 2 ∧ (∀ m x, (without (l.take i) j)[m]? = some x → cur[(top + m) % n * 2]? = some (.int .i64 x.job) ∧ cur[(top + m) % n * 2 + 1]? = some (.int .i64 x.task)) ∧
  (∀ m x, i ≤ m → l[m]? = some x → cur[(top + m) % n * 2]? = some (.int .i64 x.job) ∧ cur[(top + m) % n * 2 + 1]? = some (.int .i64 x.task))
theorem kept_len (l : List Rf) (j : Int) (i : Nat) : (without (l.take i) j).length ≤ i := by
  have h1 := without_le (l.take i) j
  rw [List.length_take] at h1
  omega
theorem set_pair {cur : Array Value} {a b : Nat} {u v : Value} (h : a ≠ b) : ((cur.setIfInBounds (b * 2) u).setIfInBounds (b * 2 + 1) v)[a * 2]? = cur[a * 2]? ∧ ((cur.setIfInBounds (b * 2) u).setIfInBounds (b * 2 + 1) v)[a * 2 + 1]? = cur[a * 2 + 1]? := by
  constructor
  · rw [Array.getElem?_setIfInBounds_ne (by omega), Array.getElem?_setIfInBounds_ne (by omega)]
  · rw [Array.getElem?_setIfInBounds_ne (by omega), Array.getElem?_setIfInBounds_ne (by omega)]
theorem get_pair {cur : Array Value} {b : Nat} {u v : Value} (h : b * 2 + 1 < cur.size) : ((cur.setIfInBounds (b * 2) u).setIfInBounds (b * 2 + 1) v)[b * 2]? = some u ∧ ((cur.setIfInBounds (b * 2) u).setIfInBounds (b * 2 + 1) v)[b * 2 + 1]? = some v := by
  constructor
  · rw [Array.getElem?_setIfInBounds_ne (by omega), Array.getElem?_setIfInBounds_self_of_lt (by omega)]
  · rw [Array.getElem?_setIfInBounds_self_of_lt (by simp; omega)]
theorem Mid.drop {n top : Nat} {l : List Rf} {j : Int} {i : Nat} {cur : Array Value} {x : Rf} (h : Mid n top l j i cur) (hx : l[i]? = some x) (hj : x.job = j) : Mid n top l j (i + 1) cur := by
  obtain ⟨h1, h2, h3⟩ := h
  refine ⟨h1, ?_, fun m y hm hy => h3 m y (by omega) hy⟩
  rw [without_take l j i x hx, if_pos hj]
  exact h2
theorem Mid.keep {n top : Nat} {l : List Rf} {j : Int} {i q : Nat} {cur : Array Value} {x : Rf} (h : Mid n top l j i cur) (hx : l[i]? = some x) (hj : x.job ≠ j) (ht : top < n) (hl : l.length ≤ n) (hq : (top + (without (l.take i) j).length) % n = q) :
    Mid n top l j (i + 1) ((cur.setIfInBounds (q * 2) (.int .i64 x.job)).setIfInBounds (q * 2 + 1) (.int .i64 x.task)) := by
  obtain ⟨h1, h2, h3⟩ := h
  have hi : i < l.length := (List.getElem?_eq_some_iff.1 hx).1
  have hk := kept_len l j i
  have hqn : q < n := by rw [← hq]; exact Nat.mod_lt _ (by omega)
  refine ⟨by simpa using h1, ?_, fun m y hm hy => ?_⟩
  · rw [without_take l j i x hx, if_neg hj]
    intro m y hy
    rcases Nat.lt_or_ge m (without (l.take i) j).length with hlt | hge
    · rw [List.getElem?_append_left hlt] at hy
      have hne : (top + m) % n ≠ q := fun e => by
        have := mod_inj ht (by omega) (by omega) (e.trans hq.symm)
        omega
      rw [(set_pair hne).1, (set_pair hne).2]
      exact h2 m y hy
    · rw [List.getElem?_append_right hge] at hy
      have hm : m - (without (l.take i) j).length = 0 := by
        have := (List.getElem?_eq_some_iff.1 hy).1
        simp at this
        omega
      rw [hm] at hy
      simp at hy
      subst hy
      have : m = (without (l.take i) j).length := by omega
      rw [this, hq]
      exact get_pair (by omega)
  · have hml : m < l.length := (List.getElem?_eq_some_iff.1 hy).1
    have hne : (top + m) % n ≠ q := fun e => by
      have := mod_inj ht (by omega) (by omega) (e.trans hq.symm)
      omega
    rw [(set_pair hne).1, (set_pair hne).2]
    exact h3 m y (by omega) hy
set_option maxHeartbeats 4000000 in
theorem remove_on (g rb n top size : Nat) (cur : Array Value) (l : List Rf) (jb : Int) (w : World) (hb : Blk w g 46 #[.slice (some ⟨rb, 0, none⟩) n n, .int .i64 (top : Int), .int .i64 (size : Int)]) (hr : Blk w rb 32 cur) (hc : cur.size = n * 2) (hn1 : 1 ≤ n) (hn2 : n ≤ 256) (ht : top < n) (hl : l.length = size) (hsz : size ≤ n) (hne : rb ≠ g)
    (hring : ∀ j x, l[j]? = some x → cur[(top + j) % n * 2]? = some (.int .i64 x.job) ∧ cur[(top + j) % n * 2 + 1]? = some (.int .i64 x.task)) :
    Calls Try.prog 20 #[.pointer (some ⟨g, 0, none⟩), .int .i64 jb] w fun e w' => ∃ cur', e = .returned (.int .i64 ((size : Int) - ((without l jb).length : Int))) ∧ Blk w' g 46 #[.slice (some ⟨rb, 0, none⟩) n n, .int .i64 (top : Int), .int .i64 ((without l jb).length : Int)] ∧ Blk w' rb 32 cur' ∧ cur'.size = n * 2 ∧
      (∀ j x, (without l jb)[j]? = some x → cur'[(top + j) % n * 2]? = some (.int .i64 x.job) ∧ cur'[(top + j) % n * 2 + 1]? = some (.int .i64 x.task)) ∧ Foot (fun i => i = g ∨ i = rb) w w' := by
  have HB := hid hb
  have HR := hid hr
  have HM : Hid (Mid n top l jb 0 cur) := ⟨hc, fun m x hx => by simp [without] at hx, fun m x _ hx => hring m x hx⟩
  have HL := hid hl
  have hng : g ≠ rb := fun e => hne e.symm
  have hgw := hb.lt
  have hrw := hr.lt
  clear hb hr hring hl hc
  obtain ⟨k0, k1, k2, f0, f1, f2⟩ := three HB.out
  go_enter Try.func20, Try.ntmps20
  go_wp2
  clear k0 k1 k2 f0 f1 f2
  go_loopw [5, 15] (fun kv i wr => ∃ (k : Nat) (cur : Array Value), k ≤ size ∧ i = .int .i64 k ∧ kv = .int .i64 ((without (l.take k) jb).length : Int) ∧ Blk wr g 46 #[.slice (some ⟨rb, 0, none⟩) n n, .int .i64 (top : Int), .int .i64 (size : Int)] ∧ Blk wr rb 32 cur ∧ Mid n top l jb k cur ∧ Foot (fun i => i = g ∨ i = rb) w wr) (fun _ i _ => size - (intOf i).toNat)
  case atStart => exact ⟨0, _, by omega, rfl, by simp [without], HB.out, HR.out, HM.out, Foot.refl _ _⟩
  case round =>
    obtain ⟨k, cuk, hk, rfl, rfl, hb, hr, hm, hf⟩ := hrel
    have HF := hid hf
    have HBk := hid hb
    have HRk := hid hr
    have HMk := hid hm
    clear hb hr hm hf
    have hkl := kept_len l jb k
    generalize hK : (without (l.take k) jb).length = K at *
    by_cases hlt : k < size
    · obtain ⟨x, hx⟩ : ∃ x, l[k]? = some x := ⟨l[k]'(by rw [HL.out]; exact hlt), List.getElem?_eq_getElem _⟩
      obtain ⟨c0, c1⟩ := HMk.out.2.2 k x (Nat.le_refl _) hx
      have HX := hid hx
      obtain ⟨j, t⟩ := x
      generalize hq : (top + k) % n = q at c0 c1
      have hqn : q < n := by rw [← hq]; exact Nat.mod_lt _ (by omega)
      have HP := hid (fun o m => place_on g n top k q _ _ ((wr.alloc o).drewN m) ((HBk.out.alloc o).drewN m) hn1 hn2 ht (by omega) hq)
      have HP2 := hid (fun m => place_on g n top k q _ _ (wr.drewN m) (HBk.out.drewN m) hn1 hn2 ht (by omega) hq)
      have HC0 := hid c0
      have HC1 := hid c1
      clear hx hq c0 c1
      have c0 := HRk.out.cell_of HC0.out
      have c1 := HRk.out.cell_of HC1.out
      obtain ⟨k0, k1, k2, f0, f1, f2⟩ := three HBk.out
      have e3 : (q : Int) < (n : Int) := by omega
      have hws : w.heap.size ≤ wr.heap.size := HF.out.size
      have hgs : g ≠ wr.heap.size := by omega
      have hrs : rb ≠ wr.heap.size := by omega
      have y0 : ∀ m, ((wr.drewN m).alloc (.cells #[.int .i64 0, .int .i64 0] 32)).cell? ⟨wr.heap.size, 0, none⟩ = some (.int .i64 0) := fun m => (Blk.new (wr.drewN m) _ _).cell 0
      have y1 : ∀ m, ((wr.drewN m).alloc (.cells #[.int .i64 0, .int .i64 0] 32)).cell? ⟨wr.heap.size, 1, none⟩ = some (.int .i64 0) := fun m => (Blk.new (wr.drewN m) _ _).cell 1
      have y2 : ∀ m, ((wr.drewN m).alloc (.cells #[.int .i64 0, .int .i64 0] 32)).frozen? ⟨wr.heap.size, 0, none⟩ = false := fun m => (Blk.new (wr.drewN m) _ _).thawed 0
      have y3 : ∀ m, ((wr.drewN m).alloc (.cells #[.int .i64 0, .int .i64 0] 32)).frozen? ⟨wr.heap.size, 1, none⟩ = false := fun m => (Blk.new (wr.drewN m) _ _).thawed 1
      go_wp2
      go_cut [7] (fun p wx => p = .pointer (some ⟨wr.heap.size, 0, none⟩) ∧ Blk wx g 46 #[.slice (some ⟨rb, 0, none⟩) n n, .int .i64 (top : Int), .int .i64 (size : Int)] ∧ Blk wx rb 32 cuk ∧ Blk wx wr.heap.size 32 #[.int .i64 j, .int .i64 t] ∧ Foot (fun _ => False) wr wx)
      case first =>
        go_region_held3 (fun w' => w'.cell? ⟨g, 0, none⟩ = some (.slice (some ⟨rb, 0, none⟩) n n) ∧ w'.cell? ⟨rb, q * 2, none⟩ = some (.int .i64 j) ∧ w'.cell? ⟨rb, q * 2 + 1, none⟩ = some (.int .i64 t)) (first | exact ⟨k0, c0, c1⟩ | exact ⟨((HBk.out.alloc _).drewN _).cell 0, ((HRk.out.alloc _).drewN _).cell_of HC0.out, ((HRk.out.alloc _).drewN _).cell_of HC1.out⟩ | exact ⟨((HBk.out.drewN _).alloc _).cell 0, ((HRk.out.drewN _).alloc _).cell_of HC0.out, ((HRk.out.drewN _).alloc _).cell_of HC1.out⟩ | exact ⟨far_set (far_set (((HBk.out.drewN _).alloc _).cell 0) hgs) hgs, far_set (far_set (((HRk.out.drewN _).alloc _).cell_of HC0.out) hrs) hrs, far_set (far_set (((HRk.out.drewN _).alloc _).cell_of HC1.out) hrs) hrs⟩) (first | (go_at_call 28; first | (refine (HP2.out _).mono ?_; rintro e w' ⟨rfl, m, rfl⟩) | (refine (HP.out _ _).mono ?_; rintro e w' ⟨rfl, m, rfl⟩)))
        all_goals (go_wp2; go_meet; exact ⟨rfl, ((((HBk.out.drewN _).alloc _).far hgs _).far hgs _), ((((HRk.out.drewN _).alloc _).far hrs _).far hrs _), (Blk.new (wr.drewN _) 32 #[.int .i64 0, .int .i64 0]).set2 _ _, ((((Foot.refl _ _).drewN _).alloc _).set_ _ (.inr (Nat.le_refl _)) _).set_ _ (.inr (Nat.le_refl _)) _⟩)
      case rest =>
        obtain ⟨rfl, hb, hr, hn, hf⟩ := hcut
        have HBx := hid hb
        have HRx := hid hr
        have HNx := hid hn
        have HFx := hid hf
        clear hb hr hn hf y0 y1 y2 y3 k0 k1 k2 f0 f1 f2 c0 c1 HP HP2
        have p0 := HNx.out.cell 0
        have p1 := HNx.out.cell 1
        by_cases hj : j = jb
        · have HK1 : Hid ((without (l.take (k + 1)) jb).length = K) := hid (by rw [without_take l jb k _ HX.out, if_pos hj]; exact hK)
          have HD := hid (HMk.out.drop HX.out hj)
          clear p0 p1
          have p0 := HNx.out.cell 0
          have p1 := HNx.out.cell 1
          go_wp2
          go_roundw
          case rel => exact ⟨k + 1, cuk, by omega, by go_num, by rw [HK1.out], HBx.out, HRx.out, HD.out, HF.out.trans (HFx.out.mono (fun i _ e => e.elim))⟩
          case measure => simp [intOf]; omega
        · have HK1 : Hid ((without (l.take (k + 1)) jb).length = K + 1) := hid (by rw [without_take l jb k _ HX.out, if_neg hj, List.length_append, hK]; rfl)
          generalize hq2 : (top + K) % n = q2
          have hqn2 : q2 < n := by rw [← hq2]; exact Nat.mod_lt _ (by omega)
          have HD := hid (HMk.out.keep (q := q2) HX.out hj ht (by rw [HL.out]; exact hsz) (by rw [hK]; exact hq2))
          have HP := hid (fun m => place_on g n top K q2 _ _ (wc.drewN m) (HBx.out.drewN m) hn1 hn2 ht (by omega) hq2)
          obtain ⟨k0, k1, k2, f0, f1, f2⟩ := three HBx.out
          obtain ⟨a, b, c0, c1, z0, z1⟩ := ring_cell HRx.out HMk.out.1 hqn2
          have e3 : (q2 : Int) < (n : Int) := by omega
          have e4 : IntKind.i64.wrap ((K : Int) + 1) = (K : Int) + 1 := IntWalk.i64_in _ (by omega)
          have hsr : wr.heap.size ≠ rb := fun e => hrs e.symm
          generalize wr.heap.size = sz at *
          clear hq2 HX HMk HRk HBk
          go_wp2
          go_region_held3 (fun w' => w'.cell? ⟨g, 0, none⟩ = some (.slice (some ⟨rb, 0, none⟩) n n) ∧ w'.cell? ⟨sz, 0, none⟩ = some (.int .i64 j) ∧ w'.cell? ⟨sz, 1, none⟩ = some (.int .i64 t)) (first | exact ⟨k0, p0, p1⟩ | exact ⟨far_set (far_set k0 hng) hng, far_set (far_set p0 hsr) hsr, far_set (far_set p1 hsr) hsr⟩) (first | (go_at_call 28; refine (HP.out _).mono ?_; rintro e w' ⟨rfl, m, rfl⟩))
          go_wp2
          go_roundw
          case rel => exact ⟨k + 1, _, by omega, by go_num, by rw [HK1.out]; first | done | go_num, ((HBx.out.drewN _).far hng _).far hng _, ((HRx.out.drewN _).set_ _ _).set_ _ _, HD.out, (((HF.out.trans (HFx.out.mono (fun i _ e => e.elim))).drewN _).set_ _ (.inl (.inr rfl)) _).set_ _ (.inl (.inr rfl)) _⟩
          case measure => simp [intOf]; omega
    · have hks : k = size := by omega
      subst hks
      have HLt : Hid (l.take k = l) := hid (List.take_of_length_le (Nat.le_of_eq HL.out))
      rw [HLt.out] at hK
      obtain ⟨k0, k1, k2, f0, f1, f2⟩ := three HBk.out
      have e5 : IntKind.i64.wrap ((k : Int) - (K : Int)) = (k : Int) - (K : Int) := IntWalk.i64_in _ (by omega)
      have HFI := hid HMk.out.2.1
      go_wp2
      go_ret
      rw [hK]
      refine ⟨_, rfl, HBk.out.set_ 2 _, HRk.out.far hne _, HMk.out.1, ?_, HF.out.set_ _ (.inl (.inl rfl)) _⟩
      have h := HFI.out
      rw [HLt.out] at h
      exact h
end Go.Proofs.Ytmamcbemfccieaa
