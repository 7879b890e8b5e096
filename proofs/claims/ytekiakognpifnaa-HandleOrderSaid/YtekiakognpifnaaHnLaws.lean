/- The walks of handle's laws: each returns true. -/
import Derived.Test.YtekiakognpifnaaHnL
namespace Go.Proofs.Ytekiakognpifnaa
open Go.RowKit
set_option maxHeartbeats 1000000 in
theorem HandleBack_walk (s g h : Int) (w : World) (hw : -9223372036854775808 ≤ h) (hw' : h ≤ 9223372036854775807) :
    Calls Try.prog 4 #[.int .i64 s, .int .i64 g, .int .i64 h] w fun e w' => e = .returned (.bool true) ∧ Below w.heap.size w w' := by
  have hh : (hIs h ∧ hMake (hSlot h) (hGen h) = (h, 0) ∧ decide (hIs h) = true) ∨ (hSlot h = 0 ∧ hGen h = 0 ∧ decide (hIs h) = false) := by
    by_cases j : hIs h
    · refine .inl ⟨j, ?_, decide_eq_true j⟩
      rw [hMake_ok (s := hSlot h) (g := hGen h) (by rw [hSlot_is j, hGen_is j]; unfold hIs at j; omega)]
      exact congrArg (·, 0) (by rw [hSlot_is j, hGen_is j]; unfold hIs at j; omega)
    · exact .inr ⟨hSlot_no j, hGen_no j, decide_eq_false j⟩
  by_cases k : 0 ≤ s ∧ s < 64 ∧ 0 ≤ g ∧ g ≤ 1000
  · have i := hIs_make k
    have HM := Lib.hid (hMake_ok k)
    have E1 := Lib.hid (show hSlot (s + 1048576 * g + 1099511627776) = s by rw [hSlot_is i]; omega)
    have E2 := Lib.hid (show hGen (s + 1048576 * g + 1099511627776) = g by rw [hGen_is i]; omega)
    have E3 := Lib.hid (decide_eq_true i)
    have b1 : (s != s) = false := by simp
    have b2 : (g != g) = false := by simp
    have b3 : (h == h) = true := by simp
    obtain ⟨k1, k2, k3, k4⟩ := k
    clear i
    rcases hh with ⟨-, h1, h2⟩ | ⟨h1, h2, h3⟩
    · have H1 := Lib.hid h1
      have H2 := Lib.hid h2
      clear h1 h2
      go_enter Try.func4, Try.ntmps4
      go_wp2_with fail
      refine (handle_make _ _ _).mono ?_; rw [HM.out]; rintro e w' ⟨rfl, rfl⟩
      go_wp2_with fail
      refine (handle_split _ _ (by omega) (by omega)).mono ?_; rw [E1.out, E2.out, E3.out]; rintro e w' ⟨rfl, rfl⟩
      go_wp2_with fail
      refine (handle_split _ _ hw hw').mono ?_; rw [H2.out]; rintro e w' ⟨rfl, rfl⟩
      go_wp2_with fail
      refine (handle_make _ _ _).mono ?_; rw [H1.out]; rintro e w' ⟨rfl, rfl⟩
      go_wp2_with (go_at_call 22; refine (law03_live _).mono ?_; rintro e w' ⟨rfl, rfl⟩)
      go_ret
      exact ⟨rfl, Below.refl _ _⟩
    · have H1 := Lib.hid h1
      have H2 := Lib.hid h2
      have H3 := Lib.hid h3
      clear h1 h2 h3
      go_enter Try.func4, Try.ntmps4
      go_wp2_with fail
      refine (handle_make _ _ _).mono ?_; rw [HM.out]; rintro e w' ⟨rfl, rfl⟩
      go_wp2_with fail
      refine (handle_split _ _ (by omega) (by omega)).mono ?_; rw [E1.out, E2.out, E3.out]; rintro e w' ⟨rfl, rfl⟩
      go_wp2_with fail
      refine (handle_split _ _ hw hw').mono ?_; rw [H1.out, H2.out, H3.out]; rintro e w' ⟨rfl, rfl⟩
      go_wp2_with (go_at_call 22; refine (law03_live _).mono ?_; rintro e w' ⟨rfl, rfl⟩)
      go_ret
      exact ⟨rfl, Below.refl _ _⟩
  · have HM := Lib.hid (hMake_bad k)
    clear k
    rcases hh with ⟨-, h1, h2⟩ | ⟨h1, h2, h3⟩
    · have H1 := Lib.hid h1
      have H2 := Lib.hid h2
      have b3 : (h == h) = true := by simp
      clear h1 h2
      go_enter Try.func4, Try.ntmps4
      go_wp2_with fail
      refine (handle_make _ _ _).mono ?_; rw [HM.out]; rintro e w' ⟨rfl, rfl⟩
      go_wp2_with fail
      refine (handle_split _ _ hw hw').mono ?_; rw [H2.out]; rintro e w' ⟨rfl, rfl⟩
      go_wp2_with fail
      refine (handle_make _ _ _).mono ?_; rw [H1.out]; rintro e w' ⟨rfl, rfl⟩
      go_wp2_with (go_at_call 22; refine (law03_live _).mono ?_; rintro e w' ⟨rfl, rfl⟩)
      go_ret
      exact ⟨rfl, Below.refl _ _⟩
    · have H1 := Lib.hid h1
      have H2 := Lib.hid h2
      have H3 := Lib.hid h3
      clear h1 h2 h3
      go_enter Try.func4, Try.ntmps4
      go_wp2_with fail
      refine (handle_make _ _ _).mono ?_; rw [HM.out]; rintro e w' ⟨rfl, rfl⟩
      go_wp2_with fail
      refine (handle_split _ _ hw hw').mono ?_; rw [H1.out, H2.out, H3.out]; rintro e w' ⟨rfl, rfl⟩
      go_wp2_with (go_at_call 22; refine (law03_live _).mono ?_; rintro e w' ⟨rfl, rfl⟩)
      go_ret
      exact ⟨rfl, Below.refl _ _⟩
set_option maxHeartbeats 1000000 in
theorem HandleApart_walk (s g t k : Int) (w : World) :
    Calls Try.prog 5 #[.agg #[.int .i64 s, .int .i64 g, .int .i64 t, .int .i64 k]] w fun e w' => e = .returned (.bool true) ∧ Below w.heap.size w w' := by
  by_cases h1 : 0 ≤ s ∧ s < 64 ∧ 0 ≤ g ∧ g ≤ 1000
  · by_cases h2 : 0 ≤ t ∧ t < 64 ∧ 0 ≤ k ∧ k ≤ 1000
    · have A1 := Lib.hid (hMake_ok h1)
      have A2 := Lib.hid (hMake_ok h2)
      by_cases e1 : s = t
      · subst e1
        by_cases e2 : g = k
        · subst e2
          have b1 : (s + 1048576 * g + 1099511627776 == s + 1048576 * g + 1099511627776) = true := by simp
          have b2 : (s == s) = true := by simp
          have b3 : (g == g) = true := by simp
          clear h1 h2
          go_enter Try.func5, Try.ntmps5
          go_wp2_with fail
          go_quiet (fail)
          go_wp2_with first
            | (go_at_call 14; refine (handle_make _ _ _).mono ?_; rw [A1.out]; rintro e w' ⟨rfl, rfl⟩)
            | (go_at_call 22; refine (law03_live _).mono ?_; rintro e w' ⟨rfl, rfl⟩)
          go_ret
          exact ⟨rfl, by (repeat' (first | (with_reducible exact Below.refl _ _) | (with_reducible assumption) | (with_reducible refine below_drewN ?_ _) | (with_reducible refine Below.drew ?_) | (with_reducible refine Below.alloc ?_ ?_ _) | (with_reducible refine Below.setCell ?_ ?_ _) | go_size))⟩
        · have b1 : (s + 1048576 * g + 1099511627776 == s + 1048576 * k + 1099511627776) = false := beq_eq_false_iff_ne.2 (by omega)
          have b2 : (s == s) = true := by simp
          have b3 : (g == k) = false := beq_eq_false_iff_ne.2 e2
          clear h1 h2 e2
          go_enter Try.func5, Try.ntmps5
          go_wp2_with fail
          go_quiet (fail)
          go_wp2_with fail
          refine (handle_make _ _ _).mono ?_; rw [A1.out]; rintro e w' ⟨rfl, rfl⟩
          go_wp2_with fail
          refine (handle_make _ _ _).mono ?_; rw [A2.out]; rintro e w' ⟨rfl, rfl⟩
          go_wp2_with (go_at_call 22; refine (law03_live _).mono ?_; rintro e w' ⟨rfl, rfl⟩)
          go_ret
          exact ⟨rfl, by (repeat' (first | (with_reducible exact Below.refl _ _) | (with_reducible assumption) | (with_reducible refine below_drewN ?_ _) | (with_reducible refine Below.drew ?_) | (with_reducible refine Below.alloc ?_ ?_ _) | (with_reducible refine Below.setCell ?_ ?_ _) | go_size))⟩
      · have b1 : (s + 1048576 * g + 1099511627776 == t + 1048576 * k + 1099511627776) = false := beq_eq_false_iff_ne.2 (by omega)
        have b2 : (s == t) = false := beq_eq_false_iff_ne.2 e1
        clear h1 h2 e1
        go_enter Try.func5, Try.ntmps5
        go_wp2_with fail
        go_quiet (fail)
        go_wp2_with fail
        refine (handle_make _ _ _).mono ?_; rw [A1.out]; rintro e w' ⟨rfl, rfl⟩
        go_wp2_with fail
        refine (handle_make _ _ _).mono ?_; rw [A2.out]; rintro e w' ⟨rfl, rfl⟩
        go_wp2_with (go_at_call 22; refine (law03_live _).mono ?_; rintro e w' ⟨rfl, rfl⟩)
        go_ret
        exact ⟨rfl, by (repeat' (first | (with_reducible exact Below.refl _ _) | (with_reducible assumption) | (with_reducible refine below_drewN ?_ _) | (with_reducible refine Below.drew ?_) | (with_reducible refine Below.alloc ?_ ?_ _) | (with_reducible refine Below.setCell ?_ ?_ _) | go_size))⟩
    · have A1 := Lib.hid (hMake_ok h1)
      have A2 := Lib.hid (hMake_bad h2)
      clear h1 h2
      go_enter Try.func5, Try.ntmps5
      go_wp2_with fail
      go_quiet (fail)
      go_wp2_with fail
      refine (handle_make _ _ _).mono ?_; rw [A1.out]; rintro e w' ⟨rfl, rfl⟩
      go_wp2_with fail
      refine (handle_make _ _ _).mono ?_; rw [A2.out]; rintro e w' ⟨rfl, rfl⟩
      go_wp2_with (go_at_call 22; refine (law03_live _).mono ?_; rintro e w' ⟨rfl, rfl⟩)
      go_ret
      exact ⟨rfl, by (repeat' (first | (with_reducible exact Below.refl _ _) | (with_reducible assumption) | (with_reducible refine below_drewN ?_ _) | (with_reducible refine Below.drew ?_) | (with_reducible refine Below.alloc ?_ ?_ _) | (with_reducible refine Below.setCell ?_ ?_ _) | go_size))⟩
  · have A1 := Lib.hid (hMake_bad h1)
    clear h1
    go_enter Try.func5, Try.ntmps5
    go_wp2_with fail
    go_quiet (fail)
    go_wp2_with fail
    refine (handle_make _ _ _).mono ?_; rw [A1.out]; rintro e w' ⟨rfl, rfl⟩
    go_wp2_with fail
    refine (handle_make _ _ _).mono ?_; rintro e w' ⟨rfl, rfl⟩
    go_wp2_with (go_at_call 22; refine (law03_live _).mono ?_; rintro e w' ⟨rfl, rfl⟩)
    go_ret
    exact ⟨rfl, by (repeat' (first | (with_reducible exact Below.refl _ _) | (with_reducible assumption) | (with_reducible refine below_drewN ?_ _) | (with_reducible refine Below.drew ?_) | (with_reducible refine Below.alloc ?_ ?_ _) | (with_reducible refine Below.setCell ?_ ?_ _) | go_size))⟩
set_option maxHeartbeats 1000000 in
theorem HandleRounds_walk (n : Int) (w : World) :
    Calls Try.prog 6 #[.int .i64 n] w fun e w' => e = .returned (.bool true) ∧ Below w.heap.size w w' := by
  by_cases h : 1 ≤ n ∧ n ≤ 256
  · obtain ⟨r, h1, h2, h3, h4, h5⟩ : ∃ r, hRound n = (r, 0) ∧ hRound r = (r, 0) ∧ n ≤ r ∧ r < n + 8 ∧ r % 8 = 0 := by
      refine ⟨(n + 7) / 8 * 8, hRound_ok h, ?_, by omega, by omega, by omega⟩
      rw [hRound_ok (by omega)]; exact congrArg (·, 0) (by omega)
    have H1 := Lib.hid h1
    have H2 := Lib.hid h2
    have b1 : (r % 8 == 0) = true := by rw [h5]; rfl
    have b2 : (r == r) = true := by simp
    have h6 : 1 ≤ r := by omega
    have h7 : r ≤ 264 := by omega
    obtain ⟨h8, h9⟩ := h
    clear h1 h2 h5
    go_enter Try.func6, Try.ntmps6
    go_wp2_with fail
    refine (handle_round _ _).mono ?_; rw [H1.out]; rintro e w' ⟨rfl, rfl⟩
    go_wp2_with fail
    refine (handle_round _ _).mono ?_; rw [H2.out]; rintro e w' ⟨rfl, rfl⟩
    go_wp2_with (go_at_call 22; refine (law03_live _).mono ?_; rintro e w' ⟨rfl, rfl⟩)
    go_ret
    exact ⟨rfl, by (repeat' (first | (with_reducible exact Below.refl _ _) | (with_reducible assumption) | (with_reducible refine below_drewN ?_ _) | (with_reducible refine Below.drew ?_) | (with_reducible refine Below.alloc ?_ ?_ _) | (with_reducible refine Below.setCell ?_ ?_ _) | go_size))⟩
  · have H1 := Lib.hid (hRound_bad h)
    have h' : n < 1 ∨ 256 < n := by omega
    clear h
    rcases h' with h' | h'
    all_goals
      go_enter Try.func6, Try.ntmps6
      go_wp2_with fail
      refine (handle_round _ _).mono ?_; rw [H1.out]; rintro e w' ⟨rfl, rfl⟩
      go_wp2_with (go_at_call 22; refine (law03_live _).mono ?_; rintro e w' ⟨rfl, rfl⟩)
      all_goals first | (exfalso; omega) | (go_ret; exact ⟨rfl, by (repeat' (first | (with_reducible exact Below.refl _ _) | (with_reducible assumption) | (with_reducible refine below_drewN ?_ _) | (with_reducible refine Below.drew ?_) | (with_reducible refine Below.alloc ?_ ?_ _) | (with_reducible refine Below.setCell ?_ ?_ _) | go_size))⟩)
set_option maxHeartbeats 1000000 in
theorem HandleSlots_walk (h n m : Int) (w : World) (hw : -9223372036854775808 ≤ h) (hw' : h ≤ 9223372036854775807) :
    Calls Try.prog 7 #[.int .i64 h, .int .i64 n, .int .i64 m] w fun e w' => e = .returned (.bool true) ∧ Below w.heap.size w w' := by
  by_cases c : m < n
  · go_enter Try.func7, Try.ntmps7
    go_wp2_with (go_at_call 22; refine (law03_live _).mono ?_; rintro e w' ⟨rfl, rfl⟩)
    go_ret
    exact ⟨rfl, by (repeat' (first | (with_reducible exact Below.refl _ _) | (with_reducible assumption) | (with_reducible refine below_drewN ?_ _) | (with_reducible refine Below.drew ?_) | (with_reducible refine Below.alloc ?_ ?_ _) | (with_reducible refine Below.setCell ?_ ?_ _) | go_size))⟩
  · have c' : n ≤ m := by omega
    clear c
    by_cases i : hIs h ∧ hSlot h < n
    · have o1 := Lib.hid (hOf_yes i.1 i.2)
      have o2 := Lib.hid (hOf_yes (n := m) i.1 (by omega))
      have i2 := i.2
      have b1 : (hSlot h == hSlot h) = true := by simp
      have b2 : (hGen h == hGen h) = true := by simp
      clear i
      go_enter Try.func7, Try.ntmps7
      go_wp2_with fail
      refine (handle_of _ _ _ hw hw').mono ?_; rw [o1.out]; rintro e w' ⟨rfl, rfl⟩
      go_wp2_with fail
      refine (handle_of _ _ _ hw hw').mono ?_; rw [o2.out]; rintro e w' ⟨rfl, rfl⟩
      go_wp2_with (go_at_call 22; refine (law03_live _).mono ?_; rintro e w' ⟨rfl, rfl⟩)
      go_ret
      exact ⟨rfl, by (repeat' (first | (with_reducible exact Below.refl _ _) | (with_reducible assumption) | (with_reducible refine below_drewN ?_ _) | (with_reducible refine Below.drew ?_) | (with_reducible refine Below.alloc ?_ ?_ _) | (with_reducible refine Below.setCell ?_ ?_ _) | go_size))⟩
    · have o1 := Lib.hid (hOf_no i)
      clear i
      go_enter Try.func7, Try.ntmps7
      go_wp2_with fail
      refine (handle_of _ _ _ hw hw').mono ?_; rw [o1.out]; rintro e w' ⟨rfl, rfl⟩
      go_wp2_with (go_at_call 22; refine (law03_live _).mono ?_; rintro e w' ⟨rfl, rfl⟩)
      go_ret
      exact ⟨rfl, by (repeat' (first | (with_reducible exact Below.refl _ _) | (with_reducible assumption) | (with_reducible refine below_drewN ?_ _) | (with_reducible refine Below.drew ?_) | (with_reducible refine Below.alloc ?_ ?_ _) | (with_reducible refine Below.setCell ?_ ?_ _) | go_size))⟩
set_option maxHeartbeats 1000000 in
theorem HandleOrder_walk (s g k : Int) (w : World) :
    Calls Try.prog 8 #[.int .i64 s, .int .i64 g, .int .i64 k] w fun e w' => e = .returned (.bool true) ∧ Below w.heap.size w w' := by
  by_cases h1 : 0 ≤ s ∧ s < 64 ∧ 0 ≤ g ∧ g ≤ 1000
  · by_cases h2 : 0 ≤ s ∧ s < 64 ∧ 0 ≤ k ∧ k ≤ 1000
    · have A1 := Lib.hid (hMake_ok h1)
      have A2 := Lib.hid (hMake_ok h2)
      have hs := h1.1
      have hs' := h1.2.1
      have hg := h1.2.2.1
      have hg' := h1.2.2.2
      have hk := h2.2.2.1
      have hk' := h2.2.2.2
      clear h1 h2
      by_cases c : g < k
      · go_enter Try.func8, Try.ntmps8
        go_wp2_with fail
        refine (handle_make _ _ _).mono ?_; rw [A1.out]; rintro e w' ⟨rfl, rfl⟩
        go_wp2_with fail
        refine (handle_make _ _ _).mono ?_; rw [A2.out]; rintro e w' ⟨rfl, rfl⟩
        go_wp2_with (go_at_call 22; refine (law03_live _).mono ?_; rintro e w' ⟨rfl, rfl⟩)
        go_ret
        exact ⟨rfl, by (repeat' (first | (with_reducible exact Below.refl _ _) | (with_reducible assumption) | (with_reducible refine below_drewN ?_ _) | (with_reducible refine Below.drew ?_) | (with_reducible refine Below.alloc ?_ ?_ _) | (with_reducible refine Below.setCell ?_ ?_ _) | go_size))⟩
      · have c' : k ≤ g := by omega
        clear c
        go_enter Try.func8, Try.ntmps8
        go_wp2_with fail
        refine (handle_make _ _ _).mono ?_; rw [A1.out]; rintro e w' ⟨rfl, rfl⟩
        go_wp2_with fail
        refine (handle_make _ _ _).mono ?_; rw [A2.out]; rintro e w' ⟨rfl, rfl⟩
        go_wp2_with (go_at_call 22; refine (law03_live _).mono ?_; rintro e w' ⟨rfl, rfl⟩)
        go_ret
        exact ⟨rfl, by (repeat' (first | (with_reducible exact Below.refl _ _) | (with_reducible assumption) | (with_reducible refine below_drewN ?_ _) | (with_reducible refine Below.drew ?_) | (with_reducible refine Below.alloc ?_ ?_ _) | (with_reducible refine Below.setCell ?_ ?_ _) | go_size))⟩
    · have A1 := Lib.hid (hMake_ok h1)
      have A2 := Lib.hid (hMake_bad h2)
      clear h1 h2
      go_enter Try.func8, Try.ntmps8
      go_wp2_with fail
      refine (handle_make _ _ _).mono ?_; rw [A1.out]; rintro e w' ⟨rfl, rfl⟩
      go_wp2_with fail
      refine (handle_make _ _ _).mono ?_; rw [A2.out]; rintro e w' ⟨rfl, rfl⟩
      go_wp2_with (go_at_call 22; refine (law03_live _).mono ?_; rintro e w' ⟨rfl, rfl⟩)
      go_ret
      exact ⟨rfl, by (repeat' (first | (with_reducible exact Below.refl _ _) | (with_reducible assumption) | (with_reducible refine below_drewN ?_ _) | (with_reducible refine Below.drew ?_) | (with_reducible refine Below.alloc ?_ ?_ _) | (with_reducible refine Below.setCell ?_ ?_ _) | go_size))⟩
  · have A1 := Lib.hid (hMake_bad h1)
    clear h1
    go_enter Try.func8, Try.ntmps8
    go_wp2_with fail
    refine (handle_make _ _ _).mono ?_; rw [A1.out]; rintro e w' ⟨rfl, rfl⟩
    go_wp2_with fail
    refine (handle_make _ _ _).mono ?_; rintro e w' ⟨rfl, rfl⟩
    go_wp2_with (go_at_call 22; refine (law03_live _).mono ?_; rintro e w' ⟨rfl, rfl⟩)
    go_ret
    exact ⟨rfl, by (repeat' (first | (with_reducible exact Below.refl _ _) | (with_reducible assumption) | (with_reducible refine below_drewN ?_ _) | (with_reducible refine Below.drew ?_) | (with_reducible refine Below.alloc ?_ ?_ _) | (with_reducible refine Below.setCell ?_ ?_ _) | go_size))⟩
set_option maxHeartbeats 1000000 in
set_option maxRecDepth 100000 in
theorem HandleTells_walk (s g h n : Int) (w : World) (hw : -9223372036854775808 ≤ h) (hw' : h ≤ 9223372036854775807) :
    Calls Try.prog 3 #[.agg #[.int .i64 s, .int .i64 g, .int .i64 h, .int .i64 n]] w fun e w' => e = .returned (.bool true) ∧ Below w.heap.size w w' := by
  go_enter Try.func3, Try.ntmps3
  go_wp2_with fail
  go_quiet (fail)
  go_wp2_with first
    | (go_at_call 14; refine (handle_make _ _ _).mono ?_; rintro e w' ⟨rfl, rfl⟩)
    | (go_at_call 15; refine (ref03_make _ _ _).mono ?_; rintro e w' ⟨rfl, rfl⟩)
    | (go_at_call 16; refine (handle_split _ _ hw hw').mono ?_; rintro e w' ⟨rfl, rfl⟩)
    | (go_at_call 17; refine (ref03_split _ _ hw hw').mono ?_; rintro e w' ⟨rfl, rfl⟩)
    | (go_at_call 18; refine (handle_of _ _ _ hw hw').mono ?_; rintro e w' ⟨rfl, rfl⟩)
    | (go_at_call 19; refine (ref03_of _ _ _ hw hw').mono ?_; rintro e w' ⟨rfl, rfl⟩)
    | (go_at_call 20; refine (handle_round _ _).mono ?_; rintro e w' ⟨rfl, rfl⟩)
    | (go_at_call 21; refine (ref03_round _ _).mono ?_; rintro e w' ⟨rfl, rfl⟩)
    | (go_at_call 22; refine (law03_live _).mono ?_; rintro e w' ⟨rfl, rfl⟩)
  go_ret
  exact ⟨rfl, by (repeat' (first | (with_reducible exact Below.refl _ _) | (with_reducible assumption) | (with_reducible refine below_drewN ?_ _) | (with_reducible refine Below.drew ?_) | (with_reducible refine Below.alloc ?_ ?_ _) | (with_reducible refine Below.setCell ?_ ?_ _) | go_size))⟩
end Go.Proofs.Ytekiakognpifnaa
