/-
  The laws FixedClamps and FixedShifts: the walks.
-/
import Derived.Test.YtgfkmlppoldhgaaFixBounds
import Derived.Test.YtgfkmlppoldhgaaMod
import Derived.Test.YtgfkmlppoldhgaaMem
namespace Go.Proofs.Ytgfkmlppoldhgaa
open Go.RowKit
set_option linter.unusedVariables false

theorem ints_new (w : World) (xs : List Int) (cs : Array Value) (t : TypeId) (h : cs = (xs.map (Value.int .i64)).toArray) (hr : ∀ x ∈ xs, -9223372036854775808 ≤ x ∧ x ≤ 9223372036854775807) :
    IntsAt (w.alloc (.cells cs t)) (w.heap.size + 1) (some ⟨w.heap.size, 0, none⟩) xs.length xs := by
  subst h
  refine ⟨rfl, hr, fun _ => ⟨_, _, rfl, by omega, fun j v hv => ?_⟩⟩
  rw [cell_of_row _ w.heap.size _ _ t (0, 0) (heap_alloc_new w _)]
  simp [hv]

theorem sane_any (w : World) : Calls Try.prog 15 #[] w fun e w' => e = .returned (.bool true) ∧ Below w.heap.size w w' := by
  have hb : boundsS [1, -2] 0 10 = (-20, 10, true) := by decide
  have C := fun w => bounds_any _ 2 2 _ 0 10 _ _ (ints_new w [1, -2] #[.int .i64 1, .int .i64 (-2)] 3 rfl (by simp)) (by omega)
  rw [hb] at C
  have HC := hid C
  clear C hb
  go_enter Try.func15, Try.ntmps15
  go_wp2_with fail
  refine (HC.out _).mono ?_; rintro e w' ⟨rfl, rfl⟩
  go_wp2
  go_ret
  exact ⟨rfl, by go_grown⟩

theorem clamp_facts (n m x : Int) (hm : 0 ≤ m) (hx0 : 0 ≤ x) (hx1 : x ≤ m) :
    0 ≤ clampS n m ∧ clampS n m ≤ m ∧ clampS (clampS n m) m = clampS n m ∧ (n < clampS n m → clampS n m = 0) ∧ (clampS n m < n → clampS n m = m) := by
  have h2 : 0 ≤ clampS n m ∧ clampS n m ≤ m ∧ (n < clampS n m → clampS n m = 0) ∧ (clampS n m < n → clampS n m = m) := by
    unfold clampS
    split
    · omega
    · split <;> omega
  refine ⟨h2.1, h2.2.1, ?_, h2.2.2.1, h2.2.2.2⟩
  exact clampS_self h2.1 h2.2.1

set_option maxHeartbeats 800000 in
theorem clamps_law (v : Int) (hv1 : -9223372036854775808 ≤ v) (hv2 : v ≤ 9223372036854775807) (mx : Int) (hm1 : -9223372036854775808 ≤ mx) (hm2 : mx ≤ 9223372036854775807) (at' : Int) (hat1 : -9223372036854775808 ≤ at') (hat2 : at' ≤ 9223372036854775807) (w : World) :
    Calls Try.prog 5 #[.int .i64 v, .int .i64 mx, .int .i64 at'] w fun e w' => e = .returned (.bool true) ∧ Below w.heap.size w w' := by
  have cm := fun w => mod_any mx 1099511627776 w hm1 hm2 (by omega) (by omega)
  have cn := fun w => mod_any v 4398046511104 w hv1 hv2 (by omega) (by omega)
  have h1 : 0 ≤ mx % 1099511627776 := by omega
  have h2 : mx % 1099511627776 < 1099511627776 := by omega
  have h3 : 0 ≤ v % 4398046511104 := by omega
  have h4 : v % 4398046511104 < 4398046511104 := by omega
  generalize mx % 1099511627776 = m at *
  generalize v % 4398046511104 = n at *
  have cx := fun w => mod_any at' (m + 1) w hat1 hat2 (by omega) (by omega)
  have h5 : 0 ≤ at' % (m + 1) := Int.emod_nonneg _ (by omega)
  have h6 : at' % (m + 1) < m + 1 := Int.emod_lt_of_pos _ (by omega)
  generalize at' % (m + 1) = x at *
  obtain ⟨f1, f2, f3, f4, f5⟩ := clamp_facts (n - 2199023255552) m x h1 h5 (by omega)
  have cc := fun w => clamp_any (n - 2199023255552) m w
  have cd := fun w => clamp_any (clampS (n - 2199023255552) m) m w
  rw [f3] at cd
  generalize clampS (n - 2199023255552) m = c at *
  have CM := hid cm
  have CN := hid cn
  have CX := hid cx
  have CC := hid cc
  have CD := hid cd
  clear cm cn cx cc cd f3
  have key : ∀ d e : Int, (d = n - 2199023255552 - c ∧ 0 ≤ d ∨ d = -(n - 2199023255552 - c) ∧ 0 ≤ d) → (e = n - 2199023255552 - x ∧ 0 ≤ e ∨ e = -(n - 2199023255552 - x) ∧ 0 ≤ e) → d ≤ e := by
    intro d e hd he
    rcases Int.lt_trichotomy (n - 2199023255552) c with hh | hh | hh
    · have := f4 hh; omega
    · omega
    · have := f5 hh; omega
  have t1 : n - 2199023255552 - c < 0 → n - 2199023255552 - x < 0 → -(n - 2199023255552 - c) ≤ -(n - 2199023255552 - x) := fun a b => key _ _ (by omega) (by omega)
  have t2 : n - 2199023255552 - c < 0 → ¬ n - 2199023255552 - x < 0 → -(n - 2199023255552 - c) ≤ (n - 2199023255552 - x) := fun a b => key _ _ (by omega) (by omega)
  have t3 : ¬ n - 2199023255552 - c < 0 → n - 2199023255552 - x < 0 → (n - 2199023255552 - c) ≤ -(n - 2199023255552 - x) := fun a b => key _ _ (by omega) (by omega)
  have t4 : ¬ n - 2199023255552 - c < 0 → ¬ n - 2199023255552 - x < 0 → (n - 2199023255552 - c) ≤ (n - 2199023255552 - x) := fun a b => key _ _ (by omega) (by omega)
  clear key f4 f5
  by_cases g1 : n - 2199023255552 - c < 0
  · by_cases g2 : n - 2199023255552 - x < 0
    · have tt := t1 g1 g2
      clear t1 t2 t3 t4
      go_enter Try.func5, Try.ntmps5
      go_wp2_with fail
      refine (CM.out _).mono ?_; rintro e w' ⟨rfl, rfl⟩
      go_wp2_with fail
      refine (CN.out _).mono ?_; rintro e w' ⟨rfl, rfl⟩
      go_wp2_with fail
      refine (CC.out _).mono ?_; rintro e w' ⟨rfl, rfl⟩
      go_wp2_with fail
      refine (CX.out _).mono ?_; rintro e w' ⟨rfl, rfl⟩
      go_wp2_with fail
      refine (CD.out _).mono ?_; rintro e w' ⟨rfl, rfl⟩
      go_wp2_with (go_at_call 15; refine (sane_any _).mono ?_; rintro e w' ⟨rfl, hg⟩)
      go_ret
      exact ⟨rfl, hg⟩
    · have tt := t2 g1 g2
      clear t1 t2 t3 t4
      go_enter Try.func5, Try.ntmps5
      go_wp2_with fail
      refine (CM.out _).mono ?_; rintro e w' ⟨rfl, rfl⟩
      go_wp2_with fail
      refine (CN.out _).mono ?_; rintro e w' ⟨rfl, rfl⟩
      go_wp2_with fail
      refine (CC.out _).mono ?_; rintro e w' ⟨rfl, rfl⟩
      go_wp2_with fail
      refine (CX.out _).mono ?_; rintro e w' ⟨rfl, rfl⟩
      go_wp2_with fail
      refine (CD.out _).mono ?_; rintro e w' ⟨rfl, rfl⟩
      go_wp2_with (go_at_call 15; refine (sane_any _).mono ?_; rintro e w' ⟨rfl, hg⟩)
      go_ret
      exact ⟨rfl, hg⟩
  · by_cases g2 : n - 2199023255552 - x < 0
    · have tt := t3 g1 g2
      clear t1 t2 t3 t4
      go_enter Try.func5, Try.ntmps5
      go_wp2_with fail
      refine (CM.out _).mono ?_; rintro e w' ⟨rfl, rfl⟩
      go_wp2_with fail
      refine (CN.out _).mono ?_; rintro e w' ⟨rfl, rfl⟩
      go_wp2_with fail
      refine (CC.out _).mono ?_; rintro e w' ⟨rfl, rfl⟩
      go_wp2_with fail
      refine (CX.out _).mono ?_; rintro e w' ⟨rfl, rfl⟩
      go_wp2_with fail
      refine (CD.out _).mono ?_; rintro e w' ⟨rfl, rfl⟩
      go_wp2_with (go_at_call 15; refine (sane_any _).mono ?_; rintro e w' ⟨rfl, hg⟩)
      go_ret
      exact ⟨rfl, hg⟩
    · have tt := t4 g1 g2
      clear t1 t2 t3 t4
      go_enter Try.func5, Try.ntmps5
      go_wp2_with fail
      refine (CM.out _).mono ?_; rintro e w' ⟨rfl, rfl⟩
      go_wp2_with fail
      refine (CN.out _).mono ?_; rintro e w' ⟨rfl, rfl⟩
      go_wp2_with fail
      refine (CC.out _).mono ?_; rintro e w' ⟨rfl, rfl⟩
      go_wp2_with fail
      refine (CX.out _).mono ?_; rintro e w' ⟨rfl, rfl⟩
      go_wp2_with fail
      refine (CD.out _).mono ?_; rintro e w' ⟨rfl, rfl⟩
      go_wp2_with (go_at_call 15; refine (sane_any _).mono ?_; rintro e w' ⟨rfl, hg⟩)
      go_ret
      exact ⟨rfl, hg⟩

/-- The cells of one of our own lists of ints, as facts. -/
def ListAt (w : World) (g n : Nat) : Prop := ∀ k, k < n → ∃ v, w.cell? ⟨g, k, none⟩ = some (.int .i64 v) ∧ -9223372036854775808 ≤ v ∧ v ≤ 9223372036854775807
theorem ListAt.alloc {w : World} {g n : Nat} (h : ListAt w g n) (hg : g < w.heap.size) (o : Obj) : ListAt (w.alloc o) g n := by
  intro k hk
  obtain ⟨v, hv, hr⟩ := h k hk
  exact ⟨v, by rw [World.cell?_alloc_lt _ _ _ hg]; exact hv, hr⟩
theorem list_new (w : World) (xs : List Int) (cs : Array Value) (t : TypeId) (h : cs = (xs.map (Value.int .i64)).toArray) (hr : ∀ x ∈ xs, -9223372036854775808 ≤ x ∧ x ≤ 9223372036854775807) :
    ListAt (w.alloc (.cells cs t)) w.heap.size xs.length := by
  subst h
  intro k hk
  refine ⟨xs[k], ?_, hr _ (List.getElem_mem hk)⟩
  rw [cell_of_row _ w.heap.size k _ t (0, 0) (heap_alloc_new w _)]
  simp [hk]

set_option maxRecDepth 100000 in
set_option maxHeartbeats 1600000 in
theorem shifts_law (a : Int) (ha1 : -9223372036854775808 ≤ a) (ha2 : a ≤ 9223372036854775807) (b : Int) (hb1 : -9223372036854775808 ≤ b) (hb2 : b ≤ 9223372036854775807) (s : Int) (hs1 : -9223372036854775808 ≤ s) (hs2 : s ≤ 9223372036854775807) (mx : Int) (hm1 : -9223372036854775808 ≤ mx) (hm2 : mx ≤ 9223372036854775807) (w : World) :
    Calls Try.prog 6 #[.int .i64 a, .int .i64 b, .int .i64 s, .int .i64 mx] w fun e w' => e = .returned (.bool true) ∧ Below w.heap.size w w' := by
  have c1 := fun w => mod_any a 2000 w ha1 ha2 (by omega) (by omega)
  have c2 := fun w => mod_any b 70368744177664 w hb1 hb2 (by omega) (by omega)
  have c3 := fun w => mod_any s 25 w hs1 hs2 (by omega) (by omega)
  have c4 := fun w => mod_any mx 500 w hm1 hm2 (by omega) (by omega)
  have h1 : 0 ≤ a % 2000 := by omega
  have h2 : a % 2000 < 2000 := by omega
  have h3 : 0 ≤ b % 70368744177664 := by omega
  have h4 : b % 70368744177664 < 70368744177664 := by omega
  have h5 : 0 ≤ s % 25 := by omega
  have h6 : s % 25 < 25 := by omega
  generalize a % 2000 = p at *
  generalize b % 70368744177664 = q at *
  generalize s % 25 = r at *
  generalize mx % 500 = m5 at *
  have C1 := hid c1
  have C2 := hid c2
  have C3 := hid c3
  have C4 := hid c4
  have HL := hid (list_new w [a, b, p - 1000, q - 35184372088832] #[.int .i64 a, .int .i64 b, .int .i64 (p - 1000), .int .i64 (q - 35184372088832)] 3 rfl (by simp; omega))
  have HB : Hid (Below w.heap.size w (w.alloc (.cells #[.int .i64 a, .int .i64 b, .int .i64 (p - 1000), .int .i64 (q - 35184372088832)] 3))) := (Below.refl _ _).alloc (Nat.le_refl _) _
  have HS : Hid (w.heap.size < (w.alloc (.cells #[.int .i64 a, .int .i64 b, .int .i64 (p - 1000), .int .i64 (q - 35184372088832)] 3)).heap.size) := hid (by simp)
  clear c1 c2 c3 c4
  go_enter Try.func6, Try.ntmps6
  go_wp2_with fail
  refine (C1.out _).mono ?_; rintro e w' ⟨rfl, rfl⟩
  go_wp2_with fail
  refine (C2.out _).mono ?_; rintro e w' ⟨rfl, rfl⟩
  go_wp2
  generalize w.alloc (.cells #[.int .i64 a, .int .i64 b, .int .i64 (p - 1000), .int .i64 (q - 35184372088832)] 3) = W1 at *
  go_loopw [27] (fun i wr => ∃ k : Nat, k ≤ 4 ∧ i = .int .i64 k ∧ ListAt wr w.heap.size 4 ∧ Below w.heap.size w wr ∧ w.heap.size < wr.heap.size) (fun i _ => 4 - (intOf i).toNat)
  case atStart => exact ⟨0, by omega, rfl, HL.out, HB.out, HS.out⟩
  case round =>
    obtain ⟨i, hi, rfl, hl, hb, hs⟩ := hrel
    have HL2 := hid hl
    have HB2 := hid hb
    clear hl hb HL HB HS
    by_cases hlt : i < 4
    · obtain ⟨n, hn, hn1, hn2⟩ := HL2.out i hlt
      have HK := hid (list_new wr [s, r, 1] #[.int .i64 s, .int .i64 r, .int .i64 1] 3 rfl (by simp; omega))
      have HL3 := hid (HL2.out.alloc hs (.cells #[.int .i64 s, .int .i64 r, .int .i64 1] 3))
      have HB3 := hid (HB2.out.alloc HB2.out.size (.cells #[.int .i64 s, .int .i64 r, .int .i64 1] 3))
      have HS3 : Hid (w.heap.size < (wr.alloc (.cells #[.int .i64 s, .int .i64 r, .int .i64 1] 3)).heap.size) := hid (by simp; omega)
      clear HL2 HB2
      go_wp2_with fail
      refine (C3.out _).mono ?_; rintro e w' ⟨rfl, rfl⟩
      go_wp2
      generalize wr.alloc (.cells #[.int .i64 s, .int .i64 r, .int .i64 1] 3) = W2 at *
      go_loop [36] (fun j => ∃ k : Nat, k ≤ 3 ∧ j = .int .i64 k) (fun j => 3 - (intOf j).toNat)
      case atStart => exact ⟨0, by omega, rfl⟩
      case round =>
        obtain ⟨j, hj, rfl⟩ := hrel
        by_cases hlj : j < 3
        · obtain ⟨k, hk, hk1, hk2⟩ := HK.out j hlj
          go_wp2_with fail
          refine (span_any n b k _ hn1 hn2 hb1 hb2).mono ?_; rintro e w' ⟨rfl, rfl⟩
          go_wp2_with fail
          refine (rspan_any n b k _ hn1 hn2 hb1 hb2).mono ?_; rintro e w' ⟨rfl, rfl⟩
          go_wp2_with fail
          refine (shift_any n k _ hn1 hn2).mono ?_; rintro e w' ⟨rfl, rfl⟩
          go_wp2_with fail
          refine (rshift_any n k _ hn1 hn2).mono ?_; rintro e w' ⟨rfl, rfl⟩
          go_wp2
          go_round
          case rel => exact ⟨j + 1, by omega, by go_num⟩
          case measure => simp [intOf]; omega
        · go_wp2_with fail
          refine (clamp_any n mx _).mono ?_; rintro e w' ⟨rfl, rfl⟩
          go_wp2_with fail
          refine (rclamp_any n mx _).mono ?_; rintro e w' ⟨rfl, rfl⟩
          go_wp2_with fail
          refine (C4.out _).mono ?_; rintro e w' ⟨rfl, rfl⟩
          go_wp2_with fail
          refine (clamp_any n m5 _).mono ?_; rintro e w' ⟨rfl, rfl⟩
          go_wp2_with fail
          refine (C4.out _).mono ?_; rintro e w' ⟨rfl, rfl⟩
          go_wp2_with fail
          refine (rclamp_any n m5 _).mono ?_; rintro e w' ⟨rfl, rfl⟩
          go_wp2
          go_roundw
          case rel => exact ⟨i + 1, by omega, by go_num, HL3.out, HB3.out, HS3.out⟩
          case measure => simp [intOf]; omega
    · go_wp2_with (go_at_call 15; refine (sane_any _).mono ?_; rintro e w' ⟨rfl, hg⟩)
      go_ret
      exact ⟨rfl, below_join HB2.out hg⟩
end Go.Proofs.Ytgfkmlppoldhgaa
