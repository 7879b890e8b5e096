/- The walks of the reference of head. -/
import Derived.Test.YtdmeopiggkbpjaaHdF
namespace Go.Proofs.Ytdmeopiggkbpjaa
set_option linter.unusedVariables false
set_option linter.unusedSimpArgs false
open Go.RowKit
set_option maxHeartbeats 400000 in
theorem ref04_top (t : Int) (w : World) : Calls Try.prog 44 #[.int .i64 t] w fun e w' => e = .returned (.bool (dTop t)) ∧ w = w' := by
  by_cases h : 0 ≤ t
  · by_cases h2 : t ≤ 64
    · have e := Lib.hid (show dTop t = true by simp [dTop]; omega)
      go_enter Try.func44, Try.ntmps44
      go_wp2
      go_ret
      exact ⟨by rw [e.out]; (first | rfl | (apply retb; first | rfl | (simp; done) | (simp; omega))), rfl⟩
    · have e := Lib.hid (show dTop t = false by simp [dTop]; omega)
      have h3 : 64 < t := by omega
      clear h2
      go_enter Try.func44, Try.ntmps44
      go_wp2
      go_ret
      exact ⟨by rw [e.out]; (first | rfl | (apply retb; first | rfl | (simp; done) | (simp; omega))), rfl⟩
  · have e := Lib.hid (show dTop t = false by simp [dTop]; omega)
    have h' : t < 0 := by omega
    clear h
    go_enter Try.func44, Try.ntmps44
    go_wp2
    go_ret
    exact ⟨by rw [e.out]; (first | rfl | (apply retb; first | rfl | (simp; done) | (simp; omega))), rfl⟩
set_option maxHeartbeats 400000 in
theorem ref04_Pack (t g : Int) (w : World) : Calls Try.prog 16 #[.int .i64 t, .int .i64 g] w fun e w' => e = .returned (.tuple #[.int .i64 (dPack t g).1, .int .i64 (dPack t g).2]) ∧ w = w' := by
  by_cases h : 0 ≤ t ∧ t ≤ 64 ∧ 0 ≤ g ∧ g ≤ 4294967295
  · have e := Lib.hid (show dPack t g = (t + 1048576 * g, 0) by unfold dPack; rw [if_pos h])
    obtain ⟨h1, h2, h3, h4⟩ := h
    have m := Lib.hid (show dTop t = true by simp [dTop]; omega)
    go_enter Try.func16, Try.ntmps16
    go_wp2_with (go_at_call 44; refine (ref04_top _ _).mono ?_; rw [m.out]; rintro e w' ⟨rfl, rfl⟩)
    go_ret2
    exact ⟨by rw [e.out]; rfl, rfl⟩
  · have e := Lib.hid (show dPack t g = (0, 1) by unfold dPack; rw [if_neg h])
    rcases bool_cases (b := dTop t) with m | m
    · have hh : g < 0 ∨ (0 ≤ g ∧ 4294967295 < g) := by have : 0 ≤ t ∧ t ≤ 64 := by simpa [dTop] using m
                                                       omega
      have m := Lib.hid m
      clear h
      rcases hh with hh | ⟨hh, hh'⟩
      all_goals
        go_enter Try.func16, Try.ntmps16
        go_wp2_with (go_at_call 44; refine (ref04_top _ _).mono ?_; rw [m.out]; rintro e w' ⟨rfl, rfl⟩)
        go_ret2
        exact ⟨by rw [e.out]; rfl, rfl⟩
    · have m := Lib.hid m
      clear h
      go_enter Try.func16, Try.ntmps16
      go_wp2_with (go_at_call 44; refine (ref04_top _ _).mono ?_; rw [m.out]; rintro e w' ⟨rfl, rfl⟩)
      go_ret2
      exact ⟨by rw [e.out]; rfl, rfl⟩
set_option maxHeartbeats 400000 in
theorem ref04_Unpack (w : Int) (W : World) (hi' : w ≤ 9223372036854775807) : Calls Try.prog 18 #[.int .i64 w] W fun e w' => e = .returned (.tuple #[.int .i64 (dUnTop w), .int .i64 (dUnTag w), .int .i64 (dUnErr w)]) ∧ W = w' := by
  rcases bool_cases (b := dIs w) with h | h
  · obtain ⟨i0, i1, i2⟩ := dIs_of h
    obtain ⟨u1, u2, u3⟩ := un_yes h
    have U1 := Lib.hid u1
    have U2 := Lib.hid u2
    have U3 := Lib.hid u3
    have m := Lib.hid (show dTop (w % 1048576) = true by simp [dTop]; omega)
    have t3 : w / 1048576 ≤ 4294967295 := by omega
    clear h u1 u2 u3
    go_enter Try.func18, Try.ntmps18
    go_wp2_with (go_at_call 44; refine (ref04_top _ _).mono ?_; rw [m.out]; rintro e w' ⟨rfl, rfl⟩)
    go_ret3
    exact ⟨by rw [U1.out, U2.out, U3.out]; rfl, rfl⟩
  · obtain ⟨u1, u2, u3⟩ := un_no h
    have U1 := Lib.hid u1
    have U2 := Lib.hid u2
    have U3 := Lib.hid u3
    have h' : ¬ (0 ≤ w ∧ w < 4503599627370496 ∧ w % 1048576 ≤ 64) := by simpa [dIs] using h
    by_cases c : w < 0
    · clear h u1 u2 u3 h'
      go_enter Try.func18, Try.ntmps18
      go_wp2_with fail
      go_ret3
      exact ⟨by rw [U1.out, U2.out, U3.out]; rfl, rfl⟩
    · have c0 : 0 ≤ w := by omega
      rcases bool_cases (b := dTop (w % 1048576)) with m | m
      · have t3 : 4294967295 < w / 1048576 := by have : 0 ≤ w % 1048576 ∧ w % 1048576 ≤ 64 := by simpa [dTop] using m
                                                 omega
        have m := Lib.hid m
        clear h u1 u2 u3 h' c
        go_enter Try.func18, Try.ntmps18
        go_wp2_with (go_at_call 44; refine (ref04_top _ _).mono ?_; rw [m.out]; rintro e w' ⟨rfl, rfl⟩)
        go_ret3
        exact ⟨by rw [U1.out, U2.out, U3.out]; rfl, rfl⟩
      · have m := Lib.hid m
        clear h u1 u2 u3 h' c
        go_enter Try.func18, Try.ntmps18
        go_wp2_with (go_at_call 44; refine (ref04_top _ _).mono ?_; rw [m.out]; rintro e w' ⟨rfl, rfl⟩)
        go_ret3
        exact ⟨by rw [U1.out, U2.out, U3.out]; rfl, rfl⟩
theorem next_mod {g : Int} (h : 0 ≤ g) (h' : g ≤ 4294967295) : (g + 1) % 4294967296 = dNext g := by unfold dNext; split <;> omega
set_option maxHeartbeats 1000000 in
theorem ref04_Pop (w l : Int) (W : World) (hi' : w ≤ 9223372036854775807) : Calls Try.prog 25 #[.int .i64 w, .int .i64 l] W fun e w' => e = .returned (.tuple #[.int .i64 (dPop w l).1, .int .i64 (dPop w l).2.1, .int .i64 (dPop w l).2.2]) ∧ W = w' := by
  rcases bool_cases (b := dIs w) with h | h
  · have hi := dIs_of h
    obtain ⟨u1, u2, u3⟩ := un_yes h
    have U1 := Lib.hid u1
    have U2 := Lib.hid u2
    have U3 := Lib.hid u3
    obtain ⟨i0, i1, i2⟩ := hi
    have t0 : 0 ≤ w % 1048576 := by omega
    have t2 : 0 ≤ w / 1048576 := by omega
    have t3 : w / 1048576 ≤ 4294967295 := by omega
    have N := Lib.hid (next_mod t2 t3)
    obtain ⟨n0, n1⟩ := dNext_bd t2 t3
    rcases bool_cases (b := dTop l) with m | m
    · obtain ⟨l0, l1⟩ : 0 ≤ l ∧ l ≤ 64 := by simpa [dTop] using m
      by_cases c : w % 1048576 = 0
      · have e := Lib.hid (show dPop w l = (0, 0, 11) by unfold dPop; rw [if_pos h, if_pos m, if_pos c])
        have bb : (w % 1048576 == 0) = true := by rw [c]; rfl
        have m := Lib.hid m
        clear c h u1 u2 u3
        go_enter Try.func25, Try.ntmps25
        go_wp2_with first
          | (go_at_call 18; refine (ref04_Unpack _ _ hi').mono ?_; rw [U1.out, U2.out, U3.out]; rintro e w' ⟨rfl, rfl⟩)
          | (go_at_call 44; refine (ref04_top _ _).mono ?_; rw [m.out]; rintro e w' ⟨rfl, rfl⟩)
        go_ret3
        exact ⟨by rw [e.out]; rfl, rfl⟩
      · have e := Lib.hid (show dPop w l = (l + 1048576 * dNext (w / 1048576), w % 1048576 - 1, 0) by unfold dPop; rw [if_pos h, if_pos m, if_neg c])
        have p := Lib.hid (show dPack l ((w / 1048576 + 1) % 4294967296) = (l + 1048576 * dNext (w / 1048576), 0) by rw [N.out]; unfold dPack; rw [if_pos ⟨l0, l1, n0, n1⟩])
        have bb : (w % 1048576 == 0) = false := by simpa using c
        have c0 : 1 ≤ w % 1048576 := by omega
        have m := Lib.hid m
        clear c h u1 u2 u3
        go_enter Try.func25, Try.ntmps25
        go_wp2_with first
          | (go_at_call 18; refine (ref04_Unpack _ _ hi').mono ?_; rw [U1.out, U2.out, U3.out]; rintro e w' ⟨rfl, rfl⟩)
          | (go_at_call 44; refine (ref04_top _ _).mono ?_; rw [m.out]; rintro e w' ⟨rfl, rfl⟩)
          | (go_at_call 16; refine (ref04_Pack _ _ _).mono ?_; rw [p.out]; rintro e w' ⟨rfl, rfl⟩)
        go_ret3
        exact ⟨by rw [e.out]; rfl, rfl⟩
    · have e := Lib.hid (show dPop w l = (0, 0, 1) by unfold dPop; rw [if_pos h, if_neg (by rw [m]; decide)])
      have m := Lib.hid m
      clear h u1 u2 u3
      go_enter Try.func25, Try.ntmps25
      go_wp2_with first
        | (go_at_call 18; refine (ref04_Unpack _ _ hi').mono ?_; rw [U1.out, U2.out, U3.out]; rintro e w' ⟨rfl, rfl⟩)
        | (go_at_call 44; refine (ref04_top _ _).mono ?_; rw [m.out]; rintro e w' ⟨rfl, rfl⟩)
      go_ret3
      exact ⟨by rw [e.out]; rfl, rfl⟩
  · have e := Lib.hid (show dPop w l = (0, 0, 2) by unfold dPop; rw [if_neg (by rw [h]; decide)])
    obtain ⟨u1, u2, u3⟩ := un_no h
    have U1 := Lib.hid u1
    have U2 := Lib.hid u2
    have U3 := Lib.hid u3
    clear h u1 u2 u3
    go_enter Try.func25, Try.ntmps25
    go_wp2_with (go_at_call 18; refine (ref04_Unpack _ _ hi').mono ?_; rw [U1.out, U2.out, U3.out]; rintro e w' ⟨rfl, rfl⟩)
    go_ret3
    exact ⟨by rw [e.out]; rfl, rfl⟩
set_option maxHeartbeats 1000000 in
theorem ref04_Push (w s : Int) (W : World) (hi' : w ≤ 9223372036854775807) : Calls Try.prog 27 #[.int .i64 w, .int .i64 s] W fun e w' => e = .returned (.tuple #[.int .i64 (dPush w s).1, .int .i64 (dPush w s).2.1, .int .i64 (dPush w s).2.2]) ∧ W = w' := by
  rcases bool_cases (b := dIs w) with h | h
  · have hi := dIs_of h
    obtain ⟨u1, u2, u3⟩ := un_yes h
    have U1 := Lib.hid u1
    have U2 := Lib.hid u2
    have U3 := Lib.hid u3
    obtain ⟨i0, i1, i2⟩ := hi
    have t0 : 0 ≤ w % 1048576 := by omega
    have t2 : 0 ≤ w / 1048576 := by omega
    have t3 : w / 1048576 ≤ 4294967295 := by omega
    have N := Lib.hid (next_mod t2 t3)
    obtain ⟨n0, n1⟩ := dNext_bd t2 t3
    by_cases c : 0 ≤ s ∧ s < 64
    · have e := Lib.hid (show dPush w s = (s + 1 + 1048576 * dNext (w / 1048576), w % 1048576, 0) by unfold dPush; rw [if_pos h, if_pos c])
      obtain ⟨c0, c1⟩ := c
      have p := Lib.hid (show dPack (s + 1) ((w / 1048576 + 1) % 4294967296) = (s + 1 + 1048576 * dNext (w / 1048576), 0) by rw [N.out]; unfold dPack; rw [if_pos ⟨by omega, by omega, n0, n1⟩])
      clear h u1 u2 u3
      go_enter Try.func27, Try.ntmps27
      go_wp2_with first
        | (go_at_call 18; refine (ref04_Unpack _ _ hi').mono ?_; rw [U1.out, U2.out, U3.out]; rintro e w' ⟨rfl, rfl⟩)
        | (go_at_call 16; refine (ref04_Pack _ _ _).mono ?_; rw [p.out]; rintro e w' ⟨rfl, rfl⟩)
      go_ret3
      exact ⟨by rw [e.out]; rfl, rfl⟩
    · have e := Lib.hid (show dPush w s = (0, 0, 1) by unfold dPush; rw [if_pos h, if_neg c])
      have hh : s < 0 ∨ 63 < s := by omega
      clear h u1 u2 u3 c
      rcases hh with hh | hh
      all_goals
        go_enter Try.func27, Try.ntmps27
        go_wp2_with (go_at_call 18; refine (ref04_Unpack _ _ hi').mono ?_; rw [U1.out, U2.out, U3.out]; rintro e w' ⟨rfl, rfl⟩)
        all_goals first | (exfalso; omega) | (go_ret3; exact ⟨by rw [e.out]; rfl, rfl⟩)
  · have e := Lib.hid (show dPush w s = (0, 0, 2) by unfold dPush; rw [if_neg (by rw [h]; decide)])
    obtain ⟨u1, u2, u3⟩ := un_no h
    have U1 := Lib.hid u1
    have U2 := Lib.hid u2
    have U3 := Lib.hid u3
    clear h u1 u2 u3
    go_enter Try.func27, Try.ntmps27
    go_wp2_with (go_at_call 18; refine (ref04_Unpack _ _ hi').mono ?_; rw [U1.out, U2.out, U3.out]; rintro e w' ⟨rfl, rfl⟩)
    go_ret3
    exact ⟨by rw [e.out]; rfl, rfl⟩
set_option maxHeartbeats 400000 in
theorem ref04_Inside (w : Int) (W : World) (lo : -9223372036854775808 ≤ w) (hi : w ≤ 9223372036854775807) : Calls Try.prog 20 #[.int .i64 w] W fun e w' => e = .returned (.tuple #[.int .i64 (dIn w), .bool (decide (0 < w))]) ∧ W = w' := by
  by_cases h : 0 < w
  · have e := Lib.hid (show dIn w = w - 1 by unfold dIn; rw [if_pos h])
    have e2 := Lib.hid (decide_eq_true h)
    have h' : 1 ≤ w := by omega
    clear h
    go_enter Try.func20, Try.ntmps20
    go_wp2
    go_ret2
    exact ⟨by rw [e.out, e2.out]; rfl, rfl⟩
  · have e := Lib.hid (show dIn w = 0 by unfold dIn; rw [if_neg h])
    have e2 := Lib.hid (decide_eq_false h)
    have h' : w < 1 := by omega
    clear h
    go_enter Try.func20, Try.ntmps20
    go_wp2
    go_ret2
    exact ⟨by rw [e.out, e2.out]; rfl, rfl⟩
set_option maxHeartbeats 400000 in
theorem ref04_Older (w ep : Int) (W : World) (lo : -9223372036854775808 ≤ w) (hi : w ≤ 9223372036854775807) : Calls Try.prog 22 #[.int .i64 w, .int .i64 ep] W fun e w' => e = .returned (.bool (dOlder w ep)) ∧ W = w' := by
  by_cases h : 0 < w
  · have e := Lib.hid (show dIn w = w - 1 by unfold dIn; rw [if_pos h])
    have e2 := Lib.hid (decide_eq_true h)
    have e3 := Lib.hid (show dOlder w ep = decide (w - 1 < ep) by simp [dOlder, h])
    go_enter Try.func22, Try.ntmps22
    go_wp2_with (go_at_call 20; refine (ref04_Inside _ _ lo hi).mono ?_; rw [e.out, e2.out]; rintro e w' ⟨rfl, rfl⟩)
    go_ret
    exact ⟨by rw [e3.out]; rfl, rfl⟩
  · have e2 := Lib.hid (decide_eq_false h)
    have e3 := Lib.hid (show dOlder w ep = false by simp [dOlder]; omega)
    clear h
    go_enter Try.func22, Try.ntmps22
    go_wp2_with (go_at_call 20; refine (ref04_Inside _ _ lo hi).mono ?_; rw [e2.out]; rintro e w' ⟨rfl, rfl⟩)
    go_ret
    exact ⟨by rw [e3.out]; rfl, rfl⟩
set_option maxHeartbeats 2000000 in
set_option maxRecDepth 100000 in
theorem law04_live (W : World) : Calls Try.prog 23 #[] W fun e w' => e = .returned (.bool true) ∧ Below W.heap.size W w' := by
  have p1 : dPack 3 2 = (2097155, 0) := by decide
  have q1 : dPush 2097155 5 = (3145734, 3, 0) := by decide
  have r1 : dPop 3145734 3 = (4194307, 5, 0) := by decide
  have r2 : dPop 0 0 = (0, 0, 11) := by decide
  have u1 : dUnErr 65 = 2 := by decide
  have u2 : dUnTop 4194307 = 3 := by decide
  have u3 : dUnTag 4194307 = 4 := by decide
  have i1 : dIn 8 = 7 := by decide
  have o1 : dOlder 8 8 = true := by decide
  have o2 : dOlder 8 7 = false := by decide
  have o3 : dOlder 0 9 = false := by decide
  go_enter Try.func23, Try.ntmps23
  go_wp2_with first
    | (go_at_call 15; refine (head_Pack _ _ _).mono ?_; rw [p1]; rintro e w' ⟨rfl, hb⟩; have hz := hb.size)
    | (go_at_call 26; refine (head_Push _ _ _).mono ?_; rw [q1]; rintro e w' ⟨rfl, hb⟩; have hz := hb.size)
    | (go_at_call 24; refine (head_Pop _ _ _).mono ?_; (first | rw [r1] | rw [r2]); rintro e w' ⟨rfl, hb⟩; have hz := hb.size)
    | (go_at_call 17; refine (head_Unpack _ _).mono ?_; (first | rw [u1] | rw [u2, u3]); rintro e w' ⟨rfl, hb⟩; have hz := hb.size)
    | (go_at_call 19; refine (head_Inside _ _ (by decide) (by decide)).mono ?_; rw [i1]; rintro e w' ⟨rfl, rfl⟩)
    | (go_at_call 21; refine (head_Older _ _ _ (by decide) (by decide)).mono ?_; (first | rw [o1] | rw [o2] | rw [o3]); rintro e w' ⟨rfl, rfl⟩)
  go_ret
  exact ⟨rfl, by (repeat' (first | (with_reducible exact Below.refl _ _) | (with_reducible assumption) | (with_reducible refine below_drewN ?_ _) | (with_reducible refine Below.drew ?_) | (with_reducible refine Below.alloc ?_ ?_ _) | (with_reducible refine Below.setCell ?_ ?_ _) | (with_reducible refine below_via (by assumption) ?_ ?_) | go_size))⟩
end Go.Proofs.Ytdmeopiggkbpjaa
