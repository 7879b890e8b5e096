/- The walks of head's functions. -/
import Derived.Test.YtpfahnnmbaipdaaProg
import Derived.Test.YtpfahnnmbaipdaaHdP
import Derived.Test.YtpfahnnmbaipdaaFl
import Derived.Test.YtpfahnnmbaipdaaFnW
namespace Go.Proofs.Ytpfahnnmbaipdaa
set_option linter.unusedVariables false
set_option linter.unusedSimpArgs false
open Go.RowKit
theorem fl_conv (n : Int) : FloatKind.f64.nearest n = fl n := rfl
theorem fl_int (n : Int) (h : 0 ≤ n) (h' : n < 9007199254740992) : Conv.floatToInt .f64 (fl n) .i64 = pure (.int .i64 n) := by
  obtain ⟨a, rfl⟩ := Int.eq_ofNat_of_zero_le h
  unfold Conv.floatToInt
  rw [fl_back a (by omega)]
  have : IntKind.i64.min ≤ (a : Int) ∧ (a : Int) ≤ IntKind.i64.max := by simp [IntKind.min, IntKind.max, IntKind.bits, IntKind.signed]; omega
  simp only [if_pos this]
theorem real_f64 (ats : Array TypeId) (ty : TypeId) (re im : Nat) : Builtin.real_ ats ty #[.complex .f64 re im] = pure (.float .f64 re) := rfl
theorem imag_f64 (ats : Array TypeId) (ty : TypeId) (re im : Nat) : Builtin.imag_ ats ty #[.complex .f64 re im] = pure (.float .f64 im) := rfl
theorem complex_f64 (ats : Array TypeId) (ty : TypeId) (re im : Nat) : Builtin.complex_ ats ty #[.float .f64 re, .float .f64 im] = pure (.complex .f64 re im) := rfl
theorem conv_fl (n : Int) : Conv.intToFloat .f64 n = pure (.float .f64 (fl n)) := rfl
attribute [local go_sem] real_f64 imag_f64 complex_f64
theorem conv_to (n : Int) (w : World) : (convert 3 144 (.int .i64 n)).run Try.prog w = .ok (.float .f64 (fl n)) w := by kernel_rfl
theorem conv_from (b : Nat) (w : World) : (convert 144 3 (.float .f64 b)).run Try.prog w = (Conv.floatToInt .f64 b .i64).run Try.prog w := by kernel_rfl
attribute [local go_sem] conv_to
set_option maxHeartbeats 400000 in
theorem head_of (t g : Int) (w : World) : Calls Try.prog 82 #[.int .i64 t, .int .i64 g] w fun e w' => e = .returned (.complex .f64 (fl t) (fl g)) ∧ w = w' := by
  go_enter Try.func82, Try.ntmps82
  go_wp2
  go_ret
  exact ⟨rfl, rfl⟩
set_option maxHeartbeats 400000 in
theorem head_top (t : Int) (x : Nat) (w : World) (h : 0 ≤ t) (h' : t < 9007199254740992) : Calls Try.prog 75 #[.complex .f64 (fl t) x] w fun e w' => e = .returned (.int .i64 t) ∧ w = w' := by
  have hc : ∀ w, (convert 144 3 (.float .f64 (fl t))).run Try.prog w = .ok (.int .i64 t) w := fun w => by rw [conv_from, fl_int t h h']; rfl
  go_enter Try.func75, Try.ntmps75
  go_wp2
  go_ret
  exact ⟨rfl, rfl⟩
set_option maxHeartbeats 400000 in
theorem head_tag (t : Int) (x : Nat) (w : World) (h : 0 ≤ t) (h' : t < 9007199254740992) : Calls Try.prog 76 #[.complex .f64 x (fl t)] w fun e w' => e = .returned (.int .i64 t) ∧ w = w' := by
  have hc : ∀ w, (convert 144 3 (.float .f64 (fl t))).run Try.prog w = .ok (.int .i64 t) w := fun w => by rw [conv_from, fl_int t h h']; rfl
  go_enter Try.func76, Try.ntmps76
  go_wp2
  go_ret
  exact ⟨rfl, rfl⟩
set_option maxHeartbeats 400000 in
theorem head_topField (w : World) : Calls Try.prog 87 #[] w fun e w' => e = .returned (.agg #[.int .i64 0, .int .i64 20]) ∧ Below w.heap.size w w' := by
  go_enter Try.func87, Try.ntmps87
  go_wp2
  exact bodyPost_ret (v := .agg #[.int .i64 0, .int .i64 20]) (by simp [results, Try.results87, go_sem]) rfl ⟨rfl, by (repeat' (first | (with_reducible exact Below.refl _ _) | (with_reducible assumption) | (with_reducible refine below_drewN ?_ _) | (with_reducible refine Below.drew ?_) | (with_reducible refine Below.alloc ?_ ?_ _) | (with_reducible refine Below.setCell ?_ ?_ _) | (with_reducible refine below_via (by assumption) ?_ ?_) | go_size))⟩
set_option maxHeartbeats 400000 in
theorem head_tagField (w : World) : Calls Try.prog 88 #[] w fun e w' => e = .returned (.agg #[.int .i64 20, .int .i64 32]) ∧ Below w.heap.size w w' := by
  go_enter Try.func88, Try.ntmps88
  go_wp2
  exact bodyPost_ret (v := .agg #[.int .i64 20, .int .i64 32]) (by simp [results, Try.results88, go_sem]) rfl ⟨rfl, by (repeat' (first | (with_reducible exact Below.refl _ _) | (with_reducible assumption) | (with_reducible refine below_drewN ?_ _) | (with_reducible refine Below.drew ?_) | (with_reducible refine Below.alloc ?_ ?_ _) | (with_reducible refine Below.setCell ?_ ?_ _) | (with_reducible refine below_via (by assumption) ?_ ?_) | go_size))⟩
set_option maxHeartbeats 400000 in
theorem head_may (t : Int) (w : World) : Calls Try.prog 81 #[.int .i64 t] w fun e w' => e = .returned (.bool (dTop t)) ∧ w = w' := by
  by_cases h : 0 ≤ t
  · by_cases h2 : t ≤ 64
    · have e := Lib.hid (show dTop t = true by simp [dTop]; omega)
      go_enter Try.func81, Try.ntmps81
      go_wp2
      go_ret
      exact ⟨by rw [e.out]; (first | rfl | (apply retb; first | rfl | (simp; done) | (simp; omega))), rfl⟩
    · have e := Lib.hid (show dTop t = false by simp [dTop]; omega)
      have h3 : 64 < t := by omega
      clear h2
      go_enter Try.func81, Try.ntmps81
      go_wp2
      go_ret
      exact ⟨by rw [e.out]; (first | rfl | (apply retb; first | rfl | (simp; done) | (simp; omega))), rfl⟩
  · have e := Lib.hid (show dTop t = false by simp [dTop]; omega)
    have h' : t < 0 := by omega
    clear h
    go_enter Try.func81, Try.ntmps81
    go_wp2
    go_ret
    exact ⟨by rw [e.out]; (first | rfl | (apply retb; first | rfl | (simp; done) | (simp; omega))), rfl⟩
set_option maxHeartbeats 400000 in
theorem head_word (t g : Int) (w : World) (h : 0 ≤ t) (h' : t < 1048576) (hg : 0 ≤ g) (hg' : g ≤ 4294967295) : Calls Try.prog 80 #[.complex .f64 (fl t) (fl g)] w fun e w' => e = .returned (.int .i64 (t + 1048576 * g)) ∧ Below w.heap.size w w' := by
  have p1 := Lib.hid (put_top h h')
  have p2 := Lib.hid (put_tag h h' hg hg')
  go_enter Try.func80, Try.ntmps80
  go_wp2_with first
    | (go_at_call 87; refine (head_topField _).mono ?_; rintro e w' ⟨rfl, hb⟩; have hz := hb.size)
    | (go_at_call 88; refine (head_tagField _).mono ?_; rintro e w' ⟨rfl, hb⟩; have hz := hb.size)
    | (go_at_call 75; refine (head_top _ _ _ h (by omega)).mono ?_; rintro e w' ⟨rfl, rfl⟩)
    | (go_at_call 76; refine (head_tag _ _ _ hg (by omega)).mono ?_; rintro e w' ⟨rfl, rfl⟩)
    | (go_at_call 89; refine (field_Put _ _ _ _ _ (by omega) (by omega)).mono ?_; (first | rw [p1.out] | rw [p2.out]); rintro e w' ⟨rfl, hb⟩; have hz := hb.size)
  go_ret
  exact ⟨rfl, by (repeat' (first | (with_reducible exact Below.refl _ _) | (with_reducible assumption) | (with_reducible refine below_drewN ?_ _) | (with_reducible refine Below.drew ?_) | (with_reducible refine Below.alloc ?_ ?_ _) | (with_reducible refine Below.setCell ?_ ?_ _) | (with_reducible refine below_via (by assumption) ?_ ?_) | go_size))⟩
set_option maxHeartbeats 400000 in
theorem head_behind (t g l : Int) (w : World) (h : 0 ≤ t) (h' : t < 1048576) (hg : 0 ≤ g) (hg' : g ≤ 4294967295) : Calls Try.prog 79 #[.complex .f64 (fl t) (fl g), .int .i64 l] w fun e w' => e = .returned (.complex .f64 (fl l) (fl (dNext g))) ∧ w = w' := by
  by_cases c : g = 4294967295
  · have e := Lib.hid (show dNext g = 0 by unfold dNext; rw [if_pos c])
    have hb : (g == 4294967295) = true := by rw [c]; rfl
    clear c
    go_enter Try.func79, Try.ntmps79
    go_wp2_with first
      | (go_at_call 76; refine (head_tag _ _ _ hg (by omega)).mono ?_; rintro e w' ⟨rfl, rfl⟩)
      | (go_at_call 82; refine (head_of _ _ _).mono ?_; rintro e w' ⟨rfl, rfl⟩)
    go_ret
    exact ⟨by rw [e.out]; rfl, rfl⟩
  · have e := Lib.hid (show dNext g = g + 1 by unfold dNext; rw [if_neg c])
    have hb : (g == 4294967295) = false := by simpa using c
    clear c
    go_enter Try.func79, Try.ntmps79
    go_wp2_with first
      | (go_at_call 76; refine (head_tag _ _ _ hg (by omega)).mono ?_; rintro e w' ⟨rfl, rfl⟩)
      | (go_at_call 82; refine (head_of _ _ _).mono ?_; rintro e w' ⟨rfl, rfl⟩)
    go_ret
    exact ⟨by rw [e.out]; rfl, rfl⟩
set_option maxHeartbeats 400000 in
theorem head_read (w : Int) (W : World) : Calls Try.prog 74 #[.int .i64 w] W fun e w' => e = .returned (.tuple #[.complex .f64 (fl (dUnTop w)) (fl (dUnTag w)), .int .i64 (dUnErr w)]) ∧ Below W.heap.size W w' := by
  obtain ⟨b0, b1, b2, b3⟩ := get_bds w
  rcases bool_cases (b := dIs w) with h | h
  · have hi := dIs_of h
    have g1 := Lib.hid (get_is h).1
    have g2 := Lib.hid (get_is h).2
    have e1 := Lib.hid (show dUnTop w = w % 1048576 by unfold dUnTop; rw [if_pos h])
    have e2 := Lib.hid (show dUnTag w = w / 1048576 by unfold dUnTag; rw [if_pos h])
    have e3 := Lib.hid (show dUnErr w = 0 by unfold dUnErr; rw [if_pos h])
    have m := Lib.hid (show dTop (w % 1048576) = true by simp [dTop]; omega)
    have bb : (w % 1048576 + 1048576 * (w / 1048576) != w) = false := by rw [bne_eq_false_iff_eq]; omega
    obtain ⟨i0, i1, i2⟩ := hi
    have t0 : 0 ≤ w % 1048576 := by omega
    have t1 : w % 1048576 < 1048576 := by omega
    have t2 : 0 ≤ w / 1048576 := by omega
    have t3 : w / 1048576 ≤ 4294967295 := by omega
    have fw := Lib.hid (show fWord w = true by simp [fWord]; omega)
    clear h b0 b1 b2 b3
    go_enter Try.func74, Try.ntmps74
    go_wp2_with first
      | (go_at_call 87; refine (head_topField _).mono ?_; rintro e w' ⟨rfl, hb⟩; have hz := hb.size)
      | (go_at_call 88; refine (head_tagField _).mono ?_; rintro e w' ⟨rfl, hb⟩; have hz := hb.size)
      | (go_at_call 86; refine (field_Get_ok _ _ _ _ (by decide) fw.out).mono ?_; (first | rw [g1.out] | rw [g2.out]); rintro e w' ⟨rfl, hb⟩; have hz := hb.size)
      | (go_at_call 82; refine (head_of _ _ _).mono ?_; rintro e w' ⟨rfl, rfl⟩)
      | (go_at_call 75; refine (head_top _ _ _ t0 (by omega)).mono ?_; rintro e w' ⟨rfl, rfl⟩)
      | (go_at_call 81; refine (head_may _ _).mono ?_; rw [m.out]; rintro e w' ⟨rfl, rfl⟩)
      | (go_at_call 80; refine (head_word _ _ _ t0 t1 t2 t3).mono ?_; rintro e w' ⟨rfl, hb⟩; have hz := hb.size)
    go_ret2
    exact ⟨by rw [e1.out, e2.out, e3.out]; rfl, by (repeat' (first | (with_reducible exact Below.refl _ _) | (with_reducible assumption) | (with_reducible refine below_drewN ?_ _) | (with_reducible refine Below.drew ?_) | (with_reducible refine Below.alloc ?_ ?_ _) | (with_reducible refine Below.setCell ?_ ?_ _) | (with_reducible refine below_via (by assumption) ?_ ?_) | go_size))⟩
  · have e1 := Lib.hid (show dUnTop w = 0 by unfold dUnTop; rw [if_neg (by rw [h]; decide)])
    have e2 := Lib.hid (show dUnTag w = 0 by unfold dUnTag; rw [if_neg (by rw [h]; decide)])
    have e3 := Lib.hid (show dUnErr w = 2 by unfold dUnErr; rw [if_neg (by rw [h]; decide)])
    have z := Lib.hid (show fl 0 = 0 by decide)
    have GG : ∀ (p b : Int) (W : World), (p = 0 ∧ b = 20) ∨ (p = 20 ∧ b = 32) → Calls Try.prog 86 #[.int .i64 w, .agg #[.int .i64 p, .int .i64 b]] W fun e w' => e = .returned (.int .i64 (fGet w p b)) ∧ Below W.heap.size W w' := by
      intro p b W hpb
      have hm : fMay p b = true := by rcases hpb with ⟨rfl, rfl⟩ | ⟨rfl, rfl⟩ <;> decide
      rcases bool_cases (b := fWord w) with hw | hw
      · exact field_Get_ok w p b W hm hw
      · have hw' := Lib.hid hw
        have e := Lib.hid (show fGet w p b = 0 by unfold fGet; rw [if_neg (by simp [hw])])
        clear hw hm hpb
        go_enter Try.func86, Try.ntmps86
        go_wp2_with (go_at_call 91; refine (field_word _ _).mono ?_; rw [hw'.out]; rintro e w' ⟨rfl, rfl⟩)
        go_ret
        exact ⟨ret1 e.out.symm, by (repeat' (first | (with_reducible exact Below.refl _ _) | (with_reducible assumption) | (with_reducible refine below_drewN ?_ _) | (with_reducible refine Below.drew ?_) | (with_reducible refine Below.alloc ?_ ?_ _) | (with_reducible refine Below.setCell ?_ ?_ _) | (with_reducible refine below_via (by assumption) ?_ ?_) | go_size))⟩
    have G1 := Lib.hid (fun W => GG 0 20 W (.inl ⟨rfl, rfl⟩))
    have G2 := Lib.hid (fun W => GG 20 32 W (.inr ⟨rfl, rfl⟩))
    have hn := get_not h
    clear GG h
    generalize fGet w 0 20 = x at b0 b1 G1 hn
    generalize fGet w 20 32 = y at b2 b3 G2 hn
    rcases hn with hn | hn
    · have m := Lib.hid hn
      clear hn
      go_enter Try.func74, Try.ntmps74
      go_wp2_with first
        | (go_at_call 87; refine (head_topField _).mono ?_; rintro e w' ⟨rfl, hb⟩; have hz := hb.size)
        | (go_at_call 88; refine (head_tagField _).mono ?_; rintro e w' ⟨rfl, hb⟩; have hz := hb.size)
        | (go_at_call 86; (first | (with_reducible refine (G1.out _).mono ?_) | (with_reducible refine (G2.out _).mono ?_)); rintro e w' ⟨rfl, hb⟩; have hz := hb.size)
        | (go_at_call 82; refine (head_of _ _ _).mono ?_; rintro e w' ⟨rfl, rfl⟩)
        | (go_at_call 75; refine (head_top _ _ _ b0 (by omega)).mono ?_; rintro e w' ⟨rfl, rfl⟩)
        | (go_at_call 81; refine (head_may _ _).mono ?_; rw [m.out]; rintro e w' ⟨rfl, rfl⟩)
      go_ret2
      exact ⟨by rw [e1.out, e2.out, e3.out, z.out]; rfl, by (repeat' (first | (with_reducible exact Below.refl _ _) | (with_reducible assumption) | (with_reducible refine below_drewN ?_ _) | (with_reducible refine Below.drew ?_) | (with_reducible refine Below.alloc ?_ ?_ _) | (with_reducible refine Below.setCell ?_ ?_ _) | (with_reducible refine below_via (by assumption) ?_ ?_) | go_size))⟩
    · rcases bool_cases (b := dTop x) with m | m
      · have m := Lib.hid m
        go_enter Try.func74, Try.ntmps74
        go_wp2_with first
          | (go_at_call 87; refine (head_topField _).mono ?_; rintro e w' ⟨rfl, hb⟩; have hz := hb.size)
          | (go_at_call 88; refine (head_tagField _).mono ?_; rintro e w' ⟨rfl, hb⟩; have hz := hb.size)
          | (go_at_call 86; (first | (with_reducible refine (G1.out _).mono ?_) | (with_reducible refine (G2.out _).mono ?_)); rintro e w' ⟨rfl, hb⟩; have hz := hb.size)
          | (go_at_call 82; refine (head_of _ _ _).mono ?_; rintro e w' ⟨rfl, rfl⟩)
          | (go_at_call 75; refine (head_top _ _ _ b0 (by omega)).mono ?_; rintro e w' ⟨rfl, rfl⟩)
          | (go_at_call 81; refine (head_may _ _).mono ?_; rw [m.out]; rintro e w' ⟨rfl, rfl⟩)
          | (go_at_call 80; refine (head_word _ _ _ b0 b1 b2 b3).mono ?_; rintro e w' ⟨rfl, hb⟩; have hz := hb.size)
        go_ret2
        exact ⟨by rw [e1.out, e2.out, e3.out, z.out]; rfl, by (repeat' (first | (with_reducible exact Below.refl _ _) | (with_reducible assumption) | (with_reducible refine below_drewN ?_ _) | (with_reducible refine Below.drew ?_) | (with_reducible refine Below.alloc ?_ ?_ _) | (with_reducible refine Below.setCell ?_ ?_ _) | (with_reducible refine below_via (by assumption) ?_ ?_) | go_size))⟩
      · have m := Lib.hid m
        clear hn
        go_enter Try.func74, Try.ntmps74
        go_wp2_with first
          | (go_at_call 87; refine (head_topField _).mono ?_; rintro e w' ⟨rfl, hb⟩; have hz := hb.size)
          | (go_at_call 88; refine (head_tagField _).mono ?_; rintro e w' ⟨rfl, hb⟩; have hz := hb.size)
          | (go_at_call 86; (first | (with_reducible refine (G1.out _).mono ?_) | (with_reducible refine (G2.out _).mono ?_)); rintro e w' ⟨rfl, hb⟩; have hz := hb.size)
          | (go_at_call 82; refine (head_of _ _ _).mono ?_; rintro e w' ⟨rfl, rfl⟩)
          | (go_at_call 75; refine (head_top _ _ _ b0 (by omega)).mono ?_; rintro e w' ⟨rfl, rfl⟩)
          | (go_at_call 81; refine (head_may _ _).mono ?_; rw [m.out]; rintro e w' ⟨rfl, rfl⟩)
        go_ret2
        exact ⟨by rw [e1.out, e2.out, e3.out, z.out]; rfl, by (repeat' (first | (with_reducible exact Below.refl _ _) | (with_reducible assumption) | (with_reducible refine below_drewN ?_ _) | (with_reducible refine Below.drew ?_) | (with_reducible refine Below.alloc ?_ ?_ _) | (with_reducible refine Below.setCell ?_ ?_ _) | (with_reducible refine below_via (by assumption) ?_ ?_) | go_size))⟩
end Go.Proofs.Ytpfahnnmbaipdaa
