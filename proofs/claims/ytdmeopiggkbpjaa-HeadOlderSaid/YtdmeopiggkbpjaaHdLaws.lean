/- The walks of head's laws. -/
import Derived.Test.YtdmeopiggkbpjaaHdR
namespace Go.Proofs.Ytdmeopiggkbpjaa
set_option linter.unusedVariables false
set_option linter.unusedSimpArgs false
open Go.RowKit
set_option maxHeartbeats 2000000 in
theorem HeadPacks_walk (t g w : Int) (W : World) (lo : -9223372036854775808 ≤ w) (hi : w ≤ 9223372036854775807) : Calls Try.prog 3 #[.int .i64 t, .int .i64 g, .int .i64 w] W fun e w' => e = .returned (.bool true) ∧ Below W.heap.size W w' := by
  go_enter Try.func3, Try.ntmps3
  go_wp2_with first
    | (go_at_call 15; refine (head_Pack _ _ _).mono ?_; rintro e w' ⟨rfl, hb⟩; have hz := hb.size)
    | (go_at_call 16; refine (ref04_Pack _ _ _).mono ?_; rintro e w' ⟨rfl, rfl⟩)
    | (go_at_call 17; refine (head_Unpack _ _).mono ?_; rintro e w' ⟨rfl, hb⟩; have hz := hb.size)
    | (go_at_call 18; refine (ref04_Unpack _ _ hi).mono ?_; rintro e w' ⟨rfl, rfl⟩)
    | (go_at_call 19; refine (head_Inside _ _ lo hi).mono ?_; rintro e w' ⟨rfl, rfl⟩)
    | (go_at_call 20; refine (ref04_Inside _ _ lo hi).mono ?_; rintro e w' ⟨rfl, rfl⟩)
    | (go_at_call 21; refine (head_Older _ _ _ lo hi).mono ?_; rintro e w' ⟨rfl, rfl⟩)
    | (go_at_call 22; refine (ref04_Older _ _ _ lo hi).mono ?_; rintro e w' ⟨rfl, rfl⟩)
    | (go_at_call 23; refine (law04_live _).mono ?_; rintro e w' ⟨rfl, hb⟩; have hz := hb.size)
  go_ret
  exact ⟨rfl, by (repeat' (first | (with_reducible exact Below.refl _ _) | (with_reducible assumption) | (with_reducible refine below_drewN ?_ _) | (with_reducible refine Below.drew ?_) | (with_reducible refine Below.alloc ?_ ?_ _) | (with_reducible refine Below.setCell ?_ ?_ _) | (with_reducible refine below_via (by assumption) ?_ ?_) | go_size))⟩
set_option maxHeartbeats 2000000 in
theorem HeadTurns_walk (w n : Int) (W : World) (lo : -9223372036854775808 ≤ w) (hi : w ≤ 9223372036854775807) : Calls Try.prog 4 #[.int .i64 w, .int .i64 n] W fun e w' => e = .returned (.bool true) ∧ Below W.heap.size W w' := by
  go_enter Try.func4, Try.ntmps4
  go_wp2_with first
    | (go_at_call 24; refine (head_Pop _ _ _).mono ?_; rintro e w' ⟨rfl, hb⟩; have hz := hb.size)
    | (go_at_call 25; refine (ref04_Pop _ _ _ hi).mono ?_; rintro e w' ⟨rfl, rfl⟩)
    | (go_at_call 26; refine (head_Push _ _ _).mono ?_; rintro e w' ⟨rfl, hb⟩; have hz := hb.size)
    | (go_at_call 27; refine (ref04_Push _ _ _ hi).mono ?_; rintro e w' ⟨rfl, rfl⟩)
    | (go_at_call 23; refine (law04_live _).mono ?_; rintro e w' ⟨rfl, hb⟩; have hz := hb.size)
  go_ret
  exact ⟨rfl, by (repeat' (first | (with_reducible exact Below.refl _ _) | (with_reducible assumption) | (with_reducible refine below_drewN ?_ _) | (with_reducible refine Below.drew ?_) | (with_reducible refine Below.alloc ?_ ?_ _) | (with_reducible refine Below.setCell ?_ ?_ _) | (with_reducible refine below_via (by assumption) ?_ ?_) | go_size))⟩
theorem dPack_bad {t g : Int} (h : (dPack t g).2 ≠ 0) : ((dPack t g).2 == 0) = false := by simpa using h
theorem dPack_inv {t g : Int} (h : (dPack t g).2 = 0) : 0 ≤ t ∧ t ≤ 64 ∧ 0 ≤ g ∧ g ≤ 4294967295 := by
  unfold dPack at h; split at h
  · assumption
  · exact absurd h (by decide)
theorem dIs_mk {t g : Int} (h : 0 ≤ t ∧ t ≤ 64 ∧ 0 ≤ g ∧ g ≤ 4294967295) : dIs (t + 1048576 * g) = true := by unfold dIs; simp only [decide_eq_true_eq]; omega
theorem un_mk {t g : Int} (h : 0 ≤ t ∧ t ≤ 64 ∧ 0 ≤ g ∧ g ≤ 4294967295) : dUnTop (t + 1048576 * g) = t ∧ dUnTag (t + 1048576 * g) = g ∧ dUnErr (t + 1048576 * g) = 0 := by
  obtain ⟨a, b, c⟩ := un_yes (dIs_mk h)
  exact ⟨by rw [a]; omega, by rw [b]; omega, c⟩
/-- the second half of HeadBack: any word. -/
theorem back_word (w : Int) : (dUnErr w = 0 ∧ dPack (dUnTop w) (dUnTag w) = (w, 0)) ∨ (dUnErr w = 2 ∧ dUnTop w = 0 ∧ dUnTag w = 0) := by
  rcases bool_cases (b := dIs w) with h | h
  · left
    obtain ⟨a, b, c⟩ := un_yes h
    have := dIs_of h
    refine ⟨c, ?_⟩
    rw [a, b]; unfold dPack; rw [if_pos (by omega)]
    exact congrArg (·, 0) (by omega)
  · right
    obtain ⟨a, b, c⟩ := un_no h
    exact ⟨c, a, b⟩
set_option maxHeartbeats 2000000 in
theorem HeadBack_walk (t g w : Int) (W : World) : Calls Try.prog 5 #[.int .i64 t, .int .i64 g, .int .i64 w] W fun e w' => e = .returned (.bool true) ∧ Below W.heap.size W w' := by
  have b3 : (w == w) = true := by simp
  have hw := back_word w
  by_cases h : 0 ≤ t ∧ t ≤ 64 ∧ 0 ≤ g ∧ g ≤ 4294967295
  · obtain ⟨x1, x2, x3⟩ := un_mk h
    have X1 := Lib.hid x1
    have X2 := Lib.hid x2
    have X3 := Lib.hid x3
    have P := Lib.hid (show dPack t g = (t + 1048576 * g, 0) by unfold dPack; rw [if_pos h])
    have b1 : (t != t) = false := by simp
    have b2 : (g != g) = false := by simp
    rcases hw with ⟨y1, y2⟩ | ⟨y1, y2, y3⟩
    · have Y1 := Lib.hid y1
      have Y2 := Lib.hid y2
      clear x1 x2 x3 y1 y2 h
      go_enter Try.func5, Try.ntmps5
      go_wp2_with fail
      refine (head_Pack _ _ _).mono ?_; rw [P.out]; rintro e w' ⟨rfl, hb⟩; have hz := hb.size
      go_wp2_with fail
      refine (head_Unpack _ _).mono ?_; rw [X1.out, X2.out, X3.out]; rintro e w' ⟨rfl, hb⟩; have hz := hb.size
      go_wp2_with fail
      refine (head_Unpack _ _).mono ?_; rw [Y1.out]; rintro e w' ⟨rfl, hb⟩; have hz := hb.size
      go_wp2_with fail
      refine (head_Pack _ _ _).mono ?_; rw [Y2.out]; rintro e w' ⟨rfl, hb⟩; have hz := hb.size
      go_wp2_with (go_at_call 23; refine (law04_live _).mono ?_; rintro e w' ⟨rfl, hb⟩; have hz := hb.size)
      go_ret
      exact ⟨rfl, by (repeat' (first | (with_reducible exact Below.refl _ _) | (with_reducible assumption) | (with_reducible refine below_drewN ?_ _) | (with_reducible refine Below.drew ?_) | (with_reducible refine Below.alloc ?_ ?_ _) | (with_reducible refine Below.setCell ?_ ?_ _) | (with_reducible refine below_via (by assumption) ?_ ?_) | go_size))⟩
    · have Y1 := Lib.hid y1
      have Y2 := Lib.hid y2
      have Y3 := Lib.hid y3
      clear x1 x2 x3 y1 y2 y3 h
      go_enter Try.func5, Try.ntmps5
      go_wp2_with fail
      refine (head_Pack _ _ _).mono ?_; rw [P.out]; rintro e w' ⟨rfl, hb⟩; have hz := hb.size
      go_wp2_with fail
      refine (head_Unpack _ _).mono ?_; rw [X1.out, X2.out, X3.out]; rintro e w' ⟨rfl, hb⟩; have hz := hb.size
      go_wp2_with fail
      refine (head_Unpack _ _).mono ?_; rw [Y1.out, Y2.out, Y3.out]; rintro e w' ⟨rfl, hb⟩; have hz := hb.size
      go_wp2_with (go_at_call 23; refine (law04_live _).mono ?_; rintro e w' ⟨rfl, hb⟩; have hz := hb.size)
      go_ret
      exact ⟨rfl, by (repeat' (first | (with_reducible exact Below.refl _ _) | (with_reducible assumption) | (with_reducible refine below_drewN ?_ _) | (with_reducible refine Below.drew ?_) | (with_reducible refine Below.alloc ?_ ?_ _) | (with_reducible refine Below.setCell ?_ ?_ _) | (with_reducible refine below_via (by assumption) ?_ ?_) | go_size))⟩
  · have P := Lib.hid (show dPack t g = (0, 1) by unfold dPack; rw [if_neg h])
    rcases hw with ⟨y1, y2⟩ | ⟨y1, y2, y3⟩
    · have Y1 := Lib.hid y1
      have Y2 := Lib.hid y2
      clear y1 y2 h
      go_enter Try.func5, Try.ntmps5
      go_wp2_with fail
      refine (head_Pack _ _ _).mono ?_; rw [P.out]; rintro e w' ⟨rfl, hb⟩; have hz := hb.size
      go_wp2_with fail
      refine (head_Unpack _ _).mono ?_; rw [Y1.out]; rintro e w' ⟨rfl, hb⟩; have hz := hb.size
      go_wp2_with fail
      refine (head_Pack _ _ _).mono ?_; rw [Y2.out]; rintro e w' ⟨rfl, hb⟩; have hz := hb.size
      go_wp2_with (go_at_call 23; refine (law04_live _).mono ?_; rintro e w' ⟨rfl, hb⟩; have hz := hb.size)
      go_ret
      exact ⟨rfl, by (repeat' (first | (with_reducible exact Below.refl _ _) | (with_reducible assumption) | (with_reducible refine below_drewN ?_ _) | (with_reducible refine Below.drew ?_) | (with_reducible refine Below.alloc ?_ ?_ _) | (with_reducible refine Below.setCell ?_ ?_ _) | (with_reducible refine below_via (by assumption) ?_ ?_) | go_size))⟩
    · have Y1 := Lib.hid y1
      have Y2 := Lib.hid y2
      have Y3 := Lib.hid y3
      clear y1 y2 y3 h
      go_enter Try.func5, Try.ntmps5
      go_wp2_with fail
      refine (head_Pack _ _ _).mono ?_; rw [P.out]; rintro e w' ⟨rfl, hb⟩; have hz := hb.size
      go_wp2_with fail
      refine (head_Unpack _ _).mono ?_; rw [Y1.out, Y2.out, Y3.out]; rintro e w' ⟨rfl, hb⟩; have hz := hb.size
      go_wp2_with (go_at_call 23; refine (law04_live _).mono ?_; rintro e w' ⟨rfl, hb⟩; have hz := hb.size)
      go_ret
      exact ⟨rfl, by (repeat' (first | (with_reducible exact Below.refl _ _) | (with_reducible assumption) | (with_reducible refine below_drewN ?_ _) | (with_reducible refine Below.drew ?_) | (with_reducible refine Below.alloc ?_ ?_ _) | (with_reducible refine Below.setCell ?_ ?_ _) | (with_reducible refine below_via (by assumption) ?_ ?_) | go_size))⟩
set_option maxHeartbeats 2000000 in
theorem HeadOlder_walk (w ep later : Int) (W : World) (lo : -9223372036854775808 ≤ w) (hi : w ≤ 9223372036854775807) : Calls Try.prog 8 #[.int .i64 w, .int .i64 ep, .int .i64 later] W fun e w' => e = .returned (.bool true) ∧ Below W.heap.size W w' := by
  by_cases h : 0 < w
  · have I1 := Lib.hid (show dIn w = w - 1 by unfold dIn; rw [if_pos h])
    have I2 := Lib.hid (decide_eq_true h)
    have O1 := Lib.hid (show dOlder w (w - 1) = false by simp [dOlder])
    have b1 : (w - 1 != w - 1) = false := by simp
    by_cases c : w - 1 < later
    · have O2 := Lib.hid (show dOlder w later = true by simp [dOlder]; omega)
      have O3 := Lib.hid (show dOlder w ep = dOlder w ep from rfl)
      go_enter Try.func8, Try.ntmps8
      go_wp2_with first
        | (go_at_call 19; refine (head_Inside _ _ lo hi).mono ?_; rw [I1.out, I2.out]; rintro e w' ⟨rfl, rfl⟩)
        | (go_at_call 21; refine (head_Older _ _ _ lo hi).mono ?_; (first | rw [O1.out] | rw [O2.out] | skip); rintro e w' ⟨rfl, rfl⟩)
        | (go_at_call 23; refine (law04_live _).mono ?_; rintro e w' ⟨rfl, hb⟩; have hz := hb.size)
      all_goals (go_ret; exact ⟨rfl, by (repeat' (first | (with_reducible exact Below.refl _ _) | (with_reducible assumption) | (with_reducible refine below_drewN ?_ _) | (with_reducible refine Below.drew ?_) | (with_reducible refine Below.alloc ?_ ?_ _) | (with_reducible refine Below.setCell ?_ ?_ _) | (with_reducible refine below_via (by assumption) ?_ ?_) | go_size))⟩)
    · have O2 := Lib.hid (show dOlder w later = false by simp [dOlder]; omega)
      have c' : later ≤ w - 1 := by omega
      by_cases d : later < ep
      · clear c
        go_enter Try.func8, Try.ntmps8
        go_wp2_with first
          | (go_at_call 19; refine (head_Inside _ _ lo hi).mono ?_; rw [I1.out, I2.out]; rintro e w' ⟨rfl, rfl⟩)
          | (go_at_call 21; refine (head_Older _ _ _ lo hi).mono ?_; (first | rw [O1.out] | rw [O2.out]); rintro e w' ⟨rfl, rfl⟩)
          | (go_at_call 23; refine (law04_live _).mono ?_; rintro e w' ⟨rfl, hb⟩; have hz := hb.size)
        all_goals (go_ret; exact ⟨rfl, by (repeat' (first | (with_reducible exact Below.refl _ _) | (with_reducible assumption) | (with_reducible refine below_drewN ?_ _) | (with_reducible refine Below.drew ?_) | (with_reducible refine Below.alloc ?_ ?_ _) | (with_reducible refine Below.setCell ?_ ?_ _) | (with_reducible refine below_via (by assumption) ?_ ?_) | go_size))⟩)
      · have O3 := Lib.hid (show dOlder w ep = false by simp [dOlder]; omega)
        have d' : ep ≤ later := by omega
        clear c d
        go_enter Try.func8, Try.ntmps8
        go_wp2_with first
          | (go_at_call 19; refine (head_Inside _ _ lo hi).mono ?_; rw [I1.out, I2.out]; rintro e w' ⟨rfl, rfl⟩)
          | (go_at_call 21; refine (head_Older _ _ _ lo hi).mono ?_; (first | rw [O1.out] | rw [O2.out] | rw [O3.out]); rintro e w' ⟨rfl, rfl⟩)
          | (go_at_call 23; refine (law04_live _).mono ?_; rintro e w' ⟨rfl, hb⟩; have hz := hb.size)
        all_goals (go_ret; exact ⟨rfl, by (repeat' (first | (with_reducible exact Below.refl _ _) | (with_reducible assumption) | (with_reducible refine below_drewN ?_ _) | (with_reducible refine Below.drew ?_) | (with_reducible refine Below.alloc ?_ ?_ _) | (with_reducible refine Below.setCell ?_ ?_ _) | (with_reducible refine below_via (by assumption) ?_ ?_) | go_size))⟩)
  · have I1 := Lib.hid (show dIn w = 0 by unfold dIn; rw [if_neg h])
    have I2 := Lib.hid (decide_eq_false h)
    have O1 := Lib.hid (show dOlder w ep = false by simp [dOlder]; omega)
    clear h
    go_enter Try.func8, Try.ntmps8
    go_wp2_with first
      | (go_at_call 19; refine (head_Inside _ _ lo hi).mono ?_; rw [I1.out, I2.out]; rintro e w' ⟨rfl, rfl⟩)
      | (go_at_call 21; refine (head_Older _ _ _ lo hi).mono ?_; rw [O1.out]; rintro e w' ⟨rfl, rfl⟩)
      | (go_at_call 23; refine (law04_live _).mono ?_; rintro e w' ⟨rfl, hb⟩; have hz := hb.size)
    go_ret
    exact ⟨rfl, by (repeat' (first | (with_reducible exact Below.refl _ _) | (with_reducible assumption) | (with_reducible refine below_drewN ?_ _) | (with_reducible refine Below.drew ?_) | (with_reducible refine Below.alloc ?_ ?_ _) | (with_reducible refine Below.setCell ?_ ?_ _) | (with_reducible refine below_via (by assumption) ?_ ?_) | go_size))⟩
theorem push_pop {w s : Int} (h : dIs w = true) (c : 0 ≤ s ∧ s < 64) : dPush w s = (s + 1 + 1048576 * dNext (w / 1048576), w % 1048576, 0) ∧
    dPop (s + 1 + 1048576 * dNext (w / 1048576)) (w % 1048576) = (w % 1048576 + 1048576 * dNext (dNext (w / 1048576)), s, 0) := by
  have hi := dIs_of h
  have n := dNext_bd (g := w / 1048576) (by omega) (by omega)
  refine ⟨by unfold dPush; rw [if_pos h, if_pos c], ?_⟩
  unfold dPop
  rw [if_pos (dIs_mk ⟨by omega, by omega, n.1, n.2⟩), if_pos (by simp [dTop]; omega)]
  have e1 : (s + 1 + 1048576 * dNext (w / 1048576)) % 1048576 = s + 1 := by omega
  have e2 : (s + 1 + 1048576 * dNext (w / 1048576)) / 1048576 = dNext (w / 1048576) := by omega
  rw [e1, e2, if_neg (by omega)]
  have : s + 1 - 1 = s := by omega
  rw [this]
theorem next2 {g : Int} (h : 0 ≤ g) (h' : g ≤ 4294967295) : dNext (dNext g) ≠ g ∧ dNext g ≠ dNext (dNext g) := by
  unfold dNext; (repeat' split) <;> omega
set_option maxHeartbeats 2000000 in
theorem HeadPops_walk (w s : Int) (W : World) : Calls Try.prog 6 #[.int .i64 w, .int .i64 s] W fun e w' => e = .returned (.bool true) ∧ Below W.heap.size W w' := by
  rcases bool_cases (b := dIs w) with h | h
  · have hi := dIs_of h
    by_cases c : 0 ≤ s ∧ s < 64
    · obtain ⟨p1, p2⟩ := push_pop h c
      obtain ⟨u1, u2, u3⟩ := un_yes h
      have n1 := dNext_bd (g := w / 1048576) (by omega) (by omega)
      have n2 := dNext_bd n1.1 n1.2
      have nn := next2 (g := w / 1048576) (by omega) (by omega)
      obtain ⟨v1, v2, v3⟩ := un_mk (t := w % 1048576) (g := dNext (dNext (w / 1048576))) ⟨by omega, by omega, n2.1, n2.2⟩
      have P1 := Lib.hid p1
      have P2 := Lib.hid p2
      have U1 := Lib.hid u1
      have U2 := Lib.hid u2
      have U3 := Lib.hid u3
      have V1 := Lib.hid v1
      have V2 := Lib.hid v2
      have V3 := Lib.hid v3
      have b1 : (s == s) = true := by simp
      have b2 : (w % 1048576 == w % 1048576) = true := by simp
      have b3 : (dNext (dNext (w / 1048576)) != w / 1048576) = true := by simpa using nn.1
      have b4 : (w % 1048576 + 1048576 * dNext (dNext (w / 1048576)) != w) = true := by rw [bne_iff_ne]; have := nn.1; omega
      have b5 : (s + 1 + 1048576 * dNext (w / 1048576) != w % 1048576 + 1048576 * dNext (dNext (w / 1048576))) = true := by rw [bne_iff_ne]; have := nn.2; omega
      clear p1 p2 u1 u2 u3 v1 v2 v3 h hi c n1 n2 nn
      go_enter Try.func6, Try.ntmps6
      go_wp2_with first
        | (go_at_call 26; refine (head_Push _ _ _).mono ?_; rw [P1.out]; rintro e w' ⟨rfl, hb⟩; have hz := hb.size)
        | (go_at_call 24; refine (head_Pop _ _ _).mono ?_; rw [P2.out]; rintro e w' ⟨rfl, hb⟩; have hz := hb.size)
        | (go_at_call 17; refine (head_Unpack _ _).mono ?_; (first | rw [U1.out, U2.out, U3.out] | rw [V1.out, V2.out, V3.out]); rintro e w' ⟨rfl, hb⟩; have hz := hb.size)
        | (go_at_call 23; refine (law04_live _).mono ?_; rintro e w' ⟨rfl, hb⟩; have hz := hb.size)
      go_ret
      exact ⟨rfl, by (repeat' (first | (with_reducible exact Below.refl _ _) | (with_reducible assumption) | (with_reducible refine below_drewN ?_ _) | (with_reducible refine Below.drew ?_) | (with_reducible refine Below.alloc ?_ ?_ _) | (with_reducible refine Below.setCell ?_ ?_ _) | (with_reducible refine below_via (by assumption) ?_ ?_) | go_size))⟩
    · have P1 := Lib.hid (show dPush w s = (0, 0, 1) by unfold dPush; rw [if_pos h, if_neg c])
      clear h hi c
      go_enter Try.func6, Try.ntmps6
      go_wp2_with first
        | (go_at_call 26; refine (head_Push _ _ _).mono ?_; rw [P1.out]; rintro e w' ⟨rfl, hb⟩; have hz := hb.size)
        | (go_at_call 23; refine (law04_live _).mono ?_; rintro e w' ⟨rfl, hb⟩; have hz := hb.size)
      go_ret
      exact ⟨rfl, by (repeat' (first | (with_reducible exact Below.refl _ _) | (with_reducible assumption) | (with_reducible refine below_drewN ?_ _) | (with_reducible refine Below.drew ?_) | (with_reducible refine Below.alloc ?_ ?_ _) | (with_reducible refine Below.setCell ?_ ?_ _) | (with_reducible refine below_via (by assumption) ?_ ?_) | go_size))⟩
  · have P1 := Lib.hid (show dPush w s = (0, 0, 2) by unfold dPush; rw [if_neg (by rw [h]; decide)])
    clear h
    go_enter Try.func6, Try.ntmps6
    go_wp2_with first
      | (go_at_call 26; refine (head_Push _ _ _).mono ?_; rw [P1.out]; rintro e w' ⟨rfl, hb⟩; have hz := hb.size)
      | (go_at_call 23; refine (law04_live _).mono ?_; rintro e w' ⟨rfl, hb⟩; have hz := hb.size)
    go_ret
    exact ⟨rfl, by (repeat' (first | (with_reducible exact Below.refl _ _) | (with_reducible assumption) | (with_reducible refine below_drewN ?_ _) | (with_reducible refine Below.drew ?_) | (with_reducible refine Below.alloc ?_ ?_ _) | (with_reducible refine Below.setCell ?_ ?_ _) | (with_reducible refine below_via (by assumption) ?_ ?_) | go_size))⟩
end Go.Proofs.Ytdmeopiggkbpjaa
