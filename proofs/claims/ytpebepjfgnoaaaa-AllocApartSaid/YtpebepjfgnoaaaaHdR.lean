/- The walks of the reference of head. -/
import Derived.Test.YtpebepjfgnoaaaaHdF
namespace Go.Proofs.Ytpebepjfgnoaaaa
set_option linter.unusedVariables false
set_option linter.unusedSimpArgs false
open Go.RowKit
set_option maxHeartbeats 400000 in
theorem ref04_top (t : Int) (w : World) : Calls Try.prog 83 #[.int .i64 t] w fun e w' => e = .returned (.bool (dTop t)) ∧ w = w' := by
  by_cases h : 0 ≤ t
  · by_cases h2 : t ≤ 64
    · have e := Lib.hid (show dTop t = true by simp [dTop]; omega)
      go_enter Try.func83, Try.ntmps83
      go_wp2
      go_ret
      exact ⟨by rw [e.out]; (first | rfl | (apply retb; first | rfl | (simp; done) | (simp; omega))), rfl⟩
    · have e := Lib.hid (show dTop t = false by simp [dTop]; omega)
      have h3 : 64 < t := by omega
      clear h2
      go_enter Try.func83, Try.ntmps83
      go_wp2
      go_ret
      exact ⟨by rw [e.out]; (first | rfl | (apply retb; first | rfl | (simp; done) | (simp; omega))), rfl⟩
  · have e := Lib.hid (show dTop t = false by simp [dTop]; omega)
    have h' : t < 0 := by omega
    clear h
    go_enter Try.func83, Try.ntmps83
    go_wp2
    go_ret
    exact ⟨by rw [e.out]; (first | rfl | (apply retb; first | rfl | (simp; done) | (simp; omega))), rfl⟩
set_option maxHeartbeats 400000 in
theorem ref04_Pack (t g : Int) (w : World) : Calls Try.prog 102 #[.int .i64 t, .int .i64 g] w fun e w' => e = .returned (.tuple #[.int .i64 (dPack t g).1, .int .i64 (dPack t g).2]) ∧ w = w' := by
  by_cases h : 0 ≤ t ∧ t ≤ 64 ∧ 0 ≤ g ∧ g ≤ 4294967295
  · have e := Lib.hid (show dPack t g = (t + 1048576 * g, 0) by unfold dPack; rw [if_pos h])
    obtain ⟨h1, h2, h3, h4⟩ := h
    have m := Lib.hid (show dTop t = true by simp [dTop]; omega)
    go_enter Try.func102, Try.ntmps102
    go_wp2_with (go_at_call 83; refine (ref04_top _ _).mono ?_; rw [m.out]; rintro e w' ⟨rfl, rfl⟩)
    go_ret2
    exact ⟨by rw [e.out]; rfl, rfl⟩
  · have e := Lib.hid (show dPack t g = (0, 1) by unfold dPack; rw [if_neg h])
    rcases bool_cases (b := dTop t) with m | m
    · have hh : g < 0 ∨ (0 ≤ g ∧ 4294967295 < g) := by have : 0 ≤ t ∧ t ≤ 64 := by simpa [dTop] using m
                                                       omega
      have m := Lib.hid m
      clear h
      rcases hh with hh | ⟨hh, hh'⟩
      all_goals
        go_enter Try.func102, Try.ntmps102
        go_wp2_with (go_at_call 83; refine (ref04_top _ _).mono ?_; rw [m.out]; rintro e w' ⟨rfl, rfl⟩)
        go_ret2
        exact ⟨by rw [e.out]; rfl, rfl⟩
    · have m := Lib.hid m
      clear h
      go_enter Try.func102, Try.ntmps102
      go_wp2_with (go_at_call 83; refine (ref04_top _ _).mono ?_; rw [m.out]; rintro e w' ⟨rfl, rfl⟩)
      go_ret2
      exact ⟨by rw [e.out]; rfl, rfl⟩
set_option maxHeartbeats 400000 in
theorem ref04_Unpack (w : Int) (W : World) (hi' : w ≤ 9223372036854775807) : Calls Try.prog 56 #[.int .i64 w] W fun e w' => e = .returned (.tuple #[.int .i64 (dUnTop w), .int .i64 (dUnTag w), .int .i64 (dUnErr w)]) ∧ W = w' := by
  rcases bool_cases (b := dIs w) with h | h
  · obtain ⟨i0, i1, i2⟩ := dIs_of h
    obtain ⟨u1, u2, u3⟩ := un_yes h
    have U1 := Lib.hid u1
    have U2 := Lib.hid u2
    have U3 := Lib.hid u3
    have m := Lib.hid (show dTop (w % 1048576) = true by simp [dTop]; omega)
    have t3 : w / 1048576 ≤ 4294967295 := by omega
    clear h u1 u2 u3
    go_enter Try.func56, Try.ntmps56
    go_wp2_with (go_at_call 83; refine (ref04_top _ _).mono ?_; rw [m.out]; rintro e w' ⟨rfl, rfl⟩)
    go_ret3
    exact ⟨by rw [U1.out, U2.out, U3.out]; rfl, rfl⟩
  · obtain ⟨u1, u2, u3⟩ := un_no h
    have U1 := Lib.hid u1
    have U2 := Lib.hid u2
    have U3 := Lib.hid u3
    have h' : ¬ (0 ≤ w ∧ w < 4503599627370496 ∧ w % 1048576 ≤ 64) := by simpa [dIs] using h
    by_cases c : w < 0
    · clear h u1 u2 u3 h'
      go_enter Try.func56, Try.ntmps56
      go_wp2_with fail
      go_ret3
      exact ⟨by rw [U1.out, U2.out, U3.out]; rfl, rfl⟩
    · have c0 : 0 ≤ w := by omega
      rcases bool_cases (b := dTop (w % 1048576)) with m | m
      · have t3 : 4294967295 < w / 1048576 := by have : 0 ≤ w % 1048576 ∧ w % 1048576 ≤ 64 := by simpa [dTop] using m
                                                 omega
        have m := Lib.hid m
        clear h u1 u2 u3 h' c
        go_enter Try.func56, Try.ntmps56
        go_wp2_with (go_at_call 83; refine (ref04_top _ _).mono ?_; rw [m.out]; rintro e w' ⟨rfl, rfl⟩)
        go_ret3
        exact ⟨by rw [U1.out, U2.out, U3.out]; rfl, rfl⟩
      · have m := Lib.hid m
        clear h u1 u2 u3 h' c
        go_enter Try.func56, Try.ntmps56
        go_wp2_with (go_at_call 83; refine (ref04_top _ _).mono ?_; rw [m.out]; rintro e w' ⟨rfl, rfl⟩)
        go_ret3
        exact ⟨by rw [U1.out, U2.out, U3.out]; rfl, rfl⟩
theorem next_mod {g : Int} (h : 0 ≤ g) (h' : g ≤ 4294967295) : (g + 1) % 4294967296 = dNext g := by unfold dNext; split <;> omega
set_option maxHeartbeats 1000000 in
theorem ref04_Pop (w l : Int) (W : World) (hi' : w ≤ 9223372036854775807) : Calls Try.prog 94 #[.int .i64 w, .int .i64 l] W fun e w' => e = .returned (.tuple #[.int .i64 (dPop w l).1, .int .i64 (dPop w l).2.1, .int .i64 (dPop w l).2.2]) ∧ W = w' := by
  rcases bool_cases (b := dIs w) with h | h
  · have hi := dIs_of h
    obtain ⟨u1, u2, u3⟩ := un_yes h
    have U1 := Lib.hid u1
    have U2 := Lib.hid u2
    have U3 := Lib.hid u3
    obtain ⟨i0, i1, i2⟩ := hi
    have t0 : 0 ≤ w % 1048576 := by omega
    have t2 : 0 ≤ w / 1048576 := by omega
    have t3 : w / 1048576 ≤ 4294967295 := by omega
    have N := Lib.hid (next_mod t2 t3)
    obtain ⟨n0, n1⟩ := dNext_bd t2 t3
    rcases bool_cases (b := dTop l) with m | m
    · obtain ⟨l0, l1⟩ : 0 ≤ l ∧ l ≤ 64 := by simpa [dTop] using m
      by_cases c : w % 1048576 = 0
      · have e := Lib.hid (show dPop w l = (0, 0, 11) by unfold dPop; rw [if_pos h, if_pos m, if_pos c])
        have bb : (w % 1048576 == 0) = true := by rw [c]; rfl
        have m := Lib.hid m
        clear c h u1 u2 u3
        go_enter Try.func94, Try.ntmps94
        go_wp2_with first
          | (go_at_call 56; refine (ref04_Unpack _ _ hi').mono ?_; rw [U1.out, U2.out, U3.out]; rintro e w' ⟨rfl, rfl⟩)
          | (go_at_call 83; refine (ref04_top _ _).mono ?_; rw [m.out]; rintro e w' ⟨rfl, rfl⟩)
        go_ret3
        exact ⟨by rw [e.out]; rfl, rfl⟩
      · have e := Lib.hid (show dPop w l = (l + 1048576 * dNext (w / 1048576), w % 1048576 - 1, 0) by unfold dPop; rw [if_pos h, if_pos m, if_neg c])
        have p := Lib.hid (show dPack l ((w / 1048576 + 1) % 4294967296) = (l + 1048576 * dNext (w / 1048576), 0) by rw [N.out]; unfold dPack; rw [if_pos ⟨l0, l1, n0, n1⟩])
        have bb : (w % 1048576 == 0) = false := by simpa using c
        have c0 : 1 ≤ w % 1048576 := by omega
        have m := Lib.hid m
        clear c h u1 u2 u3
        go_enter Try.func94, Try.ntmps94
        go_wp2_with first
          | (go_at_call 56; refine (ref04_Unpack _ _ hi').mono ?_; rw [U1.out, U2.out, U3.out]; rintro e w' ⟨rfl, rfl⟩)
          | (go_at_call 83; refine (ref04_top _ _).mono ?_; rw [m.out]; rintro e w' ⟨rfl, rfl⟩)
          | (go_at_call 102; refine (ref04_Pack _ _ _).mono ?_; rw [p.out]; rintro e w' ⟨rfl, rfl⟩)
        go_ret3
        exact ⟨by rw [e.out]; rfl, rfl⟩
    · have e := Lib.hid (show dPop w l = (0, 0, 1) by unfold dPop; rw [if_pos h, if_neg (by rw [m]; decide)])
      have m := Lib.hid m
      clear h u1 u2 u3
      go_enter Try.func94, Try.ntmps94
      go_wp2_with first
        | (go_at_call 56; refine (ref04_Unpack _ _ hi').mono ?_; rw [U1.out, U2.out, U3.out]; rintro e w' ⟨rfl, rfl⟩)
        | (go_at_call 83; refine (ref04_top _ _).mono ?_; rw [m.out]; rintro e w' ⟨rfl, rfl⟩)
      go_ret3
      exact ⟨by rw [e.out]; rfl, rfl⟩
  · have e := Lib.hid (show dPop w l = (0, 0, 2) by unfold dPop; rw [if_neg (by rw [h]; decide)])
    obtain ⟨u1, u2, u3⟩ := un_no h
    have U1 := Lib.hid u1
    have U2 := Lib.hid u2
    have U3 := Lib.hid u3
    clear h u1 u2 u3
    go_enter Try.func94, Try.ntmps94
    go_wp2_with (go_at_call 56; refine (ref04_Unpack _ _ hi').mono ?_; rw [U1.out, U2.out, U3.out]; rintro e w' ⟨rfl, rfl⟩)
    go_ret3
    exact ⟨by rw [e.out]; rfl, rfl⟩
set_option maxHeartbeats 1000000 in
theorem ref04_Push (w s : Int) (W : World) (hi' : w ≤ 9223372036854775807) : Calls Try.prog 93 #[.int .i64 w, .int .i64 s] W fun e w' => e = .returned (.tuple #[.int .i64 (dPush w s).1, .int .i64 (dPush w s).2.1, .int .i64 (dPush w s).2.2]) ∧ W = w' := by
  rcases bool_cases (b := dIs w) with h | h
  · have hi := dIs_of h
    obtain ⟨u1, u2, u3⟩ := un_yes h
    have U1 := Lib.hid u1
    have U2 := Lib.hid u2
    have U3 := Lib.hid u3
    obtain ⟨i0, i1, i2⟩ := hi
    have t0 : 0 ≤ w % 1048576 := by omega
    have t2 : 0 ≤ w / 1048576 := by omega
    have t3 : w / 1048576 ≤ 4294967295 := by omega
    have N := Lib.hid (next_mod t2 t3)
    obtain ⟨n0, n1⟩ := dNext_bd t2 t3
    by_cases c : 0 ≤ s ∧ s < 64
    · have e := Lib.hid (show dPush w s = (s + 1 + 1048576 * dNext (w / 1048576), w % 1048576, 0) by unfold dPush; rw [if_pos h, if_pos c])
      obtain ⟨c0, c1⟩ := c
      have p := Lib.hid (show dPack (s + 1) ((w / 1048576 + 1) % 4294967296) = (s + 1 + 1048576 * dNext (w / 1048576), 0) by rw [N.out]; unfold dPack; rw [if_pos ⟨by omega, by omega, n0, n1⟩])
      clear h u1 u2 u3
      go_enter Try.func93, Try.ntmps93
      go_wp2_with first
        | (go_at_call 56; refine (ref04_Unpack _ _ hi').mono ?_; rw [U1.out, U2.out, U3.out]; rintro e w' ⟨rfl, rfl⟩)
        | (go_at_call 102; refine (ref04_Pack _ _ _).mono ?_; rw [p.out]; rintro e w' ⟨rfl, rfl⟩)
      go_ret3
      exact ⟨by rw [e.out]; rfl, rfl⟩
    · have e := Lib.hid (show dPush w s = (0, 0, 1) by unfold dPush; rw [if_pos h, if_neg c])
      have hh : s < 0 ∨ 63 < s := by omega
      clear h u1 u2 u3 c
      rcases hh with hh | hh
      all_goals
        go_enter Try.func93, Try.ntmps93
        go_wp2_with (go_at_call 56; refine (ref04_Unpack _ _ hi').mono ?_; rw [U1.out, U2.out, U3.out]; rintro e w' ⟨rfl, rfl⟩)
        all_goals first | (exfalso; omega) | (go_ret3; exact ⟨by rw [e.out]; rfl, rfl⟩)
  · have e := Lib.hid (show dPush w s = (0, 0, 2) by unfold dPush; rw [if_neg (by rw [h]; decide)])
    obtain ⟨u1, u2, u3⟩ := un_no h
    have U1 := Lib.hid u1
    have U2 := Lib.hid u2
    have U3 := Lib.hid u3
    clear h u1 u2 u3
    go_enter Try.func93, Try.ntmps93
    go_wp2_with (go_at_call 56; refine (ref04_Unpack _ _ hi').mono ?_; rw [U1.out, U2.out, U3.out]; rintro e w' ⟨rfl, rfl⟩)
    go_ret3
    exact ⟨by rw [e.out]; rfl, rfl⟩
end Go.Proofs.Ytpebepjfgnoaaaa
