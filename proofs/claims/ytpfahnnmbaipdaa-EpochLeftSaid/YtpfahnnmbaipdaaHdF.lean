/- The walks of head's exported functions. -/
import Derived.Test.YtpfahnnmbaipdaaHdW
namespace Go.Proofs.Ytpfahnnmbaipdaa
set_option linter.unusedVariables false
set_option linter.unusedSimpArgs false
open Go.RowKit
set_option maxHeartbeats 400000 in
theorem head_Pack (t g : Int) (w : World) : Calls Try.prog 67 #[.int .i64 t, .int .i64 g] w fun e w' => e = .returned (.tuple #[.int .i64 (dPack t g).1, .int .i64 (dPack t g).2]) ∧ Below w.heap.size w w' := by
  by_cases h : 0 ≤ t ∧ t ≤ 64 ∧ 0 ≤ g ∧ g ≤ 4294967295
  · have e := Lib.hid (show dPack t g = (t + 1048576 * g, 0) by unfold dPack; rw [if_pos h])
    obtain ⟨h1, h2, h3, h4⟩ := h
    have m := Lib.hid (show dTop t = true by simp [dTop]; omega)
    go_enter Try.func67, Try.ntmps67
    go_wp2_with first
      | (go_at_call 81; refine (head_may _ _).mono ?_; rw [m.out]; rintro e w' ⟨rfl, rfl⟩)
      | (go_at_call 82; refine (head_of _ _ _).mono ?_; rintro e w' ⟨rfl, rfl⟩)
      | (go_at_call 80; refine (head_word _ _ _ h1 (by omega) h3 h4).mono ?_; rintro e w' ⟨rfl, hb⟩; have hz := hb.size)
    go_ret2
    exact ⟨by rw [e.out]; rfl, by (repeat' (first | (with_reducible exact Below.refl _ _) | (with_reducible assumption) | (with_reducible refine below_drewN ?_ _) | (with_reducible refine Below.drew ?_) | (with_reducible refine Below.alloc ?_ ?_ _) | (with_reducible refine Below.setCell ?_ ?_ _) | (with_reducible refine below_via (by assumption) ?_ ?_) | go_size))⟩
  · have e := Lib.hid (show dPack t g = (0, 1) by unfold dPack; rw [if_neg h])
    rcases bool_cases (b := dTop t) with m | m
    · have hh : g < 0 ∨ (0 ≤ g ∧ 4294967295 < g) := by have : 0 ≤ t ∧ t ≤ 64 := by simpa [dTop] using m
                                                       omega
      have m := Lib.hid m
      clear h
      rcases hh with hh | ⟨hh, hh'⟩
      all_goals
        go_enter Try.func67, Try.ntmps67
        go_wp2_with (go_at_call 81; refine (head_may _ _).mono ?_; rw [m.out]; rintro e w' ⟨rfl, rfl⟩)
        go_ret2
        exact ⟨by rw [e.out]; rfl, by (repeat' (first | (with_reducible exact Below.refl _ _) | (with_reducible assumption) | (with_reducible refine below_drewN ?_ _) | (with_reducible refine Below.drew ?_) | (with_reducible refine Below.alloc ?_ ?_ _) | (with_reducible refine Below.setCell ?_ ?_ _) | (with_reducible refine below_via (by assumption) ?_ ?_) | go_size))⟩
    · have m := Lib.hid m
      clear h
      go_enter Try.func67, Try.ntmps67
      go_wp2_with (go_at_call 81; refine (head_may _ _).mono ?_; rw [m.out]; rintro e w' ⟨rfl, rfl⟩)
      go_ret2
      exact ⟨by rw [e.out]; rfl, by (repeat' (first | (with_reducible exact Below.refl _ _) | (with_reducible assumption) | (with_reducible refine below_drewN ?_ _) | (with_reducible refine Below.drew ?_) | (with_reducible refine Below.alloc ?_ ?_ _) | (with_reducible refine Below.setCell ?_ ?_ _) | (with_reducible refine below_via (by assumption) ?_ ?_) | go_size))⟩
set_option maxHeartbeats 400000 in
theorem head_Unpack (w : Int) (W : World) : Calls Try.prog 54 #[.int .i64 w] W fun e w' => e = .returned (.tuple #[.int .i64 (dUnTop w), .int .i64 (dUnTag w), .int .i64 (dUnErr w)]) ∧ Below W.heap.size W w' := by
  have h1 := dUnTop_bd w
  have h2 := dUnTag_bd w
  go_enter Try.func54, Try.ntmps54
  go_wp2_with first
    | (go_at_call 74; refine (head_read _ _).mono ?_; rintro e w' ⟨rfl, hb⟩; have hz := hb.size)
    | (go_at_call 75; refine (head_top _ _ _ h1.1 (by omega)).mono ?_; rintro e w' ⟨rfl, rfl⟩)
    | (go_at_call 76; refine (head_tag _ _ _ h2.1 (by omega)).mono ?_; rintro e w' ⟨rfl, rfl⟩)
  go_ret3
  exact ⟨rfl, by (repeat' (first | (with_reducible exact Below.refl _ _) | (with_reducible assumption) | (with_reducible refine below_drewN ?_ _) | (with_reducible refine Below.drew ?_) | (with_reducible refine Below.alloc ?_ ?_ _) | (with_reducible refine Below.setCell ?_ ?_ _) | (with_reducible refine below_via (by assumption) ?_ ?_) | go_size))⟩
theorem un_yes {w : Int} (h : dIs w = true) : dUnTop w = w % 1048576 ∧ dUnTag w = w / 1048576 ∧ dUnErr w = 0 := by
  unfold dUnTop dUnTag dUnErr; simp [h]
theorem un_no {w : Int} (h : dIs w = false) : dUnTop w = 0 ∧ dUnTag w = 0 ∧ dUnErr w = 2 := by
  unfold dUnTop dUnTag dUnErr; simp [h]
set_option maxHeartbeats 1000000 in
theorem head_Pop (w l : Int) (W : World) : Calls Try.prog 65 #[.int .i64 w, .int .i64 l] W fun e w' => e = .returned (.tuple #[.int .i64 (dPop w l).1, .int .i64 (dPop w l).2.1, .int .i64 (dPop w l).2.2]) ∧ Below W.heap.size W w' := by
  rcases bool_cases (b := dIs w) with h | h
  · have hi := dIs_of h
    obtain ⟨u1, u2, u3⟩ := un_yes h
    have U1 := Lib.hid u1
    have U2 := Lib.hid u2
    have U3 := Lib.hid u3
    obtain ⟨i0, i1, i2⟩ := hi
    have t0 : 0 ≤ w % 1048576 := by omega
    have t1 : w % 1048576 < 1048576 := by omega
    have t2 : 0 ≤ w / 1048576 := by omega
    have t3 : w / 1048576 ≤ 4294967295 := by omega
    have nb := dNext_bd t2 t3
    obtain ⟨n0, n1⟩ := nb
    rcases bool_cases (b := dTop l) with m | m
    · have ml : 0 ≤ l ∧ l ≤ 64 := by simpa [dTop] using m
      obtain ⟨l0, l1⟩ := ml
      by_cases c : w % 1048576 = 0
      · have e := Lib.hid (show dPop w l = (0, 0, 11) by unfold dPop; rw [if_pos h, if_pos m, if_pos c])
        have bb : (w % 1048576 == 0) = true := by rw [c]; rfl
        have m := Lib.hid m
        clear c h u1 u2 u3
        go_enter Try.func65, Try.ntmps65
        go_wp2_with first
          | (go_at_call 74; refine (head_read _ _).mono ?_; rw [U1.out, U2.out, U3.out]; rintro e w' ⟨rfl, hb⟩; have hz := hb.size)
          | (go_at_call 81; refine (head_may _ _).mono ?_; rw [m.out]; rintro e w' ⟨rfl, rfl⟩)
          | (go_at_call 75; refine (head_top _ _ _ t0 (by omega)).mono ?_; rintro e w' ⟨rfl, rfl⟩)
        go_ret3
        exact ⟨by rw [e.out]; rfl, by (repeat' (first | (with_reducible exact Below.refl _ _) | (with_reducible assumption) | (with_reducible refine below_drewN ?_ _) | (with_reducible refine Below.drew ?_) | (with_reducible refine Below.alloc ?_ ?_ _) | (with_reducible refine Below.setCell ?_ ?_ _) | (with_reducible refine below_via (by assumption) ?_ ?_) | go_size))⟩
      · have e := Lib.hid (show dPop w l = (l + 1048576 * dNext (w / 1048576), w % 1048576 - 1, 0) by unfold dPop; rw [if_pos h, if_pos m, if_neg c])
        have bb : (w % 1048576 == 0) = false := by simpa using c
        have c0 : 1 ≤ w % 1048576 := by omega
        have m := Lib.hid m
        clear c h u1 u2 u3
        go_enter Try.func65, Try.ntmps65
        go_wp2_with first
          | (go_at_call 74; refine (head_read _ _).mono ?_; rw [U1.out, U2.out, U3.out]; rintro e w' ⟨rfl, hb⟩; have hz := hb.size)
          | (go_at_call 81; refine (head_may _ _).mono ?_; rw [m.out]; rintro e w' ⟨rfl, rfl⟩)
          | (go_at_call 75; refine (head_top _ _ _ t0 (by omega)).mono ?_; rintro e w' ⟨rfl, rfl⟩)
          | (go_at_call 79; refine (head_behind _ _ _ _ t0 t1 t2 t3).mono ?_; rintro e w' ⟨rfl, rfl⟩)
          | (go_at_call 80; refine (head_word _ _ _ l0 (by omega) n0 n1).mono ?_; rintro e w' ⟨rfl, hb⟩; have hz := hb.size)
        go_ret3
        exact ⟨by rw [e.out]; rfl, by (repeat' (first | (with_reducible exact Below.refl _ _) | (with_reducible assumption) | (with_reducible refine below_drewN ?_ _) | (with_reducible refine Below.drew ?_) | (with_reducible refine Below.alloc ?_ ?_ _) | (with_reducible refine Below.setCell ?_ ?_ _) | (with_reducible refine below_via (by assumption) ?_ ?_) | go_size))⟩
    · have e := Lib.hid (show dPop w l = (0, 0, 1) by unfold dPop; rw [if_pos h, if_neg (by rw [m]; decide)])
      have m := Lib.hid m
      clear h u1 u2 u3
      go_enter Try.func65, Try.ntmps65
      go_wp2_with first
        | (go_at_call 74; refine (head_read _ _).mono ?_; rw [U1.out, U2.out, U3.out]; rintro e w' ⟨rfl, hb⟩; have hz := hb.size)
        | (go_at_call 81; refine (head_may _ _).mono ?_; rw [m.out]; rintro e w' ⟨rfl, rfl⟩)
      go_ret3
      exact ⟨by rw [e.out]; rfl, by (repeat' (first | (with_reducible exact Below.refl _ _) | (with_reducible assumption) | (with_reducible refine below_drewN ?_ _) | (with_reducible refine Below.drew ?_) | (with_reducible refine Below.alloc ?_ ?_ _) | (with_reducible refine Below.setCell ?_ ?_ _) | (with_reducible refine below_via (by assumption) ?_ ?_) | go_size))⟩
  · have e := Lib.hid (show dPop w l = (0, 0, 2) by unfold dPop; rw [if_neg (by rw [h]; decide)])
    obtain ⟨u1, u2, u3⟩ := un_no h
    have U1 := Lib.hid u1
    have U2 := Lib.hid u2
    have U3 := Lib.hid u3
    clear h u1 u2 u3
    go_enter Try.func65, Try.ntmps65
    go_wp2_with (go_at_call 74; refine (head_read _ _).mono ?_; rw [U1.out, U2.out, U3.out]; rintro e w' ⟨rfl, hb⟩; have hz := hb.size)
    go_ret3
    exact ⟨by rw [e.out]; rfl, by (repeat' (first | (with_reducible exact Below.refl _ _) | (with_reducible assumption) | (with_reducible refine below_drewN ?_ _) | (with_reducible refine Below.drew ?_) | (with_reducible refine Below.alloc ?_ ?_ _) | (with_reducible refine Below.setCell ?_ ?_ _) | (with_reducible refine below_via (by assumption) ?_ ?_) | go_size))⟩
set_option maxHeartbeats 1000000 in
theorem head_Push (w s : Int) (W : World) : Calls Try.prog 62 #[.int .i64 w, .int .i64 s] W fun e w' => e = .returned (.tuple #[.int .i64 (dPush w s).1, .int .i64 (dPush w s).2.1, .int .i64 (dPush w s).2.2]) ∧ Below W.heap.size W w' := by
  rcases bool_cases (b := dIs w) with h | h
  · have hi := dIs_of h
    obtain ⟨u1, u2, u3⟩ := un_yes h
    have U1 := Lib.hid u1
    have U2 := Lib.hid u2
    have U3 := Lib.hid u3
    obtain ⟨i0, i1, i2⟩ := hi
    have t0 : 0 ≤ w % 1048576 := by omega
    have t1 : w % 1048576 < 1048576 := by omega
    have t2 : 0 ≤ w / 1048576 := by omega
    have t3 : w / 1048576 ≤ 4294967295 := by omega
    have nb := dNext_bd t2 t3
    obtain ⟨n0, n1⟩ := nb
    by_cases c : 0 ≤ s ∧ s < 64
    · have e := Lib.hid (show dPush w s = (s + 1 + 1048576 * dNext (w / 1048576), w % 1048576, 0) by unfold dPush; rw [if_pos h, if_pos c])
      obtain ⟨c0, c1⟩ := c
      clear h u1 u2 u3
      go_enter Try.func62, Try.ntmps62
      go_wp2_with first
        | (go_at_call 74; refine (head_read _ _).mono ?_; rw [U1.out, U2.out, U3.out]; rintro e w' ⟨rfl, hb⟩; have hz := hb.size)
        | (go_at_call 75; refine (head_top _ _ _ t0 (by omega)).mono ?_; rintro e w' ⟨rfl, rfl⟩)
        | (go_at_call 79; refine (head_behind _ _ _ _ t0 t1 t2 t3).mono ?_; rintro e w' ⟨rfl, rfl⟩)
        | (go_at_call 80; refine (head_word _ _ _ (by omega) (by omega) n0 n1).mono ?_; rintro e w' ⟨rfl, hb⟩; have hz := hb.size)
      go_ret3
      exact ⟨by rw [e.out]; rfl, by (repeat' (first | (with_reducible exact Below.refl _ _) | (with_reducible assumption) | (with_reducible refine below_drewN ?_ _) | (with_reducible refine Below.drew ?_) | (with_reducible refine Below.alloc ?_ ?_ _) | (with_reducible refine Below.setCell ?_ ?_ _) | (with_reducible refine below_via (by assumption) ?_ ?_) | go_size))⟩
    · have e := Lib.hid (show dPush w s = (0, 0, 1) by unfold dPush; rw [if_pos h, if_neg c])
      have hh : s < 0 ∨ 64 ≤ s := by omega
      clear h u1 u2 u3 c
      rcases hh with hh | hh
      all_goals
        go_enter Try.func62, Try.ntmps62
        go_wp2_with (go_at_call 74; refine (head_read _ _).mono ?_; rw [U1.out, U2.out, U3.out]; rintro e w' ⟨rfl, hb⟩; have hz := hb.size)
        all_goals first | (exfalso; omega) | (go_ret3; exact ⟨by rw [e.out]; rfl, by (repeat' (first | (with_reducible exact Below.refl _ _) | (with_reducible assumption) | (with_reducible refine below_drewN ?_ _) | (with_reducible refine Below.drew ?_) | (with_reducible refine Below.alloc ?_ ?_ _) | (with_reducible refine Below.setCell ?_ ?_ _) | (with_reducible refine below_via (by assumption) ?_ ?_) | go_size))⟩)
  · have e := Lib.hid (show dPush w s = (0, 0, 2) by unfold dPush; rw [if_neg (by rw [h]; decide)])
    obtain ⟨u1, u2, u3⟩ := un_no h
    have U1 := Lib.hid u1
    have U2 := Lib.hid u2
    have U3 := Lib.hid u3
    clear h u1 u2 u3
    go_enter Try.func62, Try.ntmps62
    go_wp2_with (go_at_call 74; refine (head_read _ _).mono ?_; rw [U1.out, U2.out, U3.out]; rintro e w' ⟨rfl, hb⟩; have hz := hb.size)
    go_ret3
    exact ⟨by rw [e.out]; rfl, by (repeat' (first | (with_reducible exact Below.refl _ _) | (with_reducible assumption) | (with_reducible refine below_drewN ?_ _) | (with_reducible refine Below.drew ?_) | (with_reducible refine Below.alloc ?_ ?_ _) | (with_reducible refine Below.setCell ?_ ?_ _) | (with_reducible refine below_via (by assumption) ?_ ?_) | go_size))⟩
set_option maxHeartbeats 400000 in
theorem head_Inside (w : Int) (W : World) (lo : -9223372036854775808 ≤ w) (hi : w ≤ 9223372036854775807) : Calls Try.prog 48 #[.int .i64 w] W fun e w' => e = .returned (.tuple #[.int .i64 (dIn w), .bool (decide (0 < w))]) ∧ W = w' := by
  by_cases h : 0 < w
  · have e := Lib.hid (show dIn w = w - 1 by unfold dIn; rw [if_pos h])
    have e2 := Lib.hid (decide_eq_true h)
    go_enter Try.func48, Try.ntmps48
    go_wp2
    go_ret2
    exact ⟨by rw [e.out, e2.out]; rfl, rfl⟩
  · have e := Lib.hid (show dIn w = 0 by unfold dIn; rw [if_neg h])
    have e2 := Lib.hid (decide_eq_false h)
    have h' : w ≤ 0 := by omega
    clear h
    go_enter Try.func48, Try.ntmps48
    go_wp2
    go_ret2
    exact ⟨by rw [e.out, e2.out]; rfl, rfl⟩
def dOlder (w e : Int) : Bool := decide (0 < w ∧ w - 1 < e)
set_option maxHeartbeats 400000 in
theorem head_Older (w ep : Int) (W : World) (lo : -9223372036854775808 ≤ w) (hi : w ≤ 9223372036854775807) : Calls Try.prog 49 #[.int .i64 w, .int .i64 ep] W fun e w' => e = .returned (.bool (dOlder w ep)) ∧ W = w' := by
  by_cases h : 0 < w
  · have e := Lib.hid (show dIn w = w - 1 by unfold dIn; rw [if_pos h])
    have e2 := Lib.hid (decide_eq_true h)
    have e3 := Lib.hid (show dOlder w ep = decide (w - 1 < ep) by simp [dOlder, h])
    go_enter Try.func49, Try.ntmps49
    go_wp2_with (go_at_call 48; refine (head_Inside _ _ lo hi).mono ?_; rw [e.out, e2.out]; rintro e w' ⟨rfl, rfl⟩)
    go_ret
    exact ⟨by rw [e3.out]; rfl, rfl⟩
  · have e2 := Lib.hid (decide_eq_false h)
    have e3 := Lib.hid (show dOlder w ep = false by simp [dOlder]; omega)
    clear h
    go_enter Try.func49, Try.ntmps49
    go_wp2_with (go_at_call 48; refine (head_Inside _ _ lo hi).mono ?_; rw [e2.out]; rintro e w' ⟨rfl, rfl⟩)
    go_ret
    exact ⟨by rw [e3.out]; rfl, rfl⟩
end Go.Proofs.Ytpfahnnmbaipdaa
