/- The walks of head's functions. -/
import Derived.Test.YtmbkkpeepbfgoaaProg
import Derived.Test.YtmbkkpeepbfgoaaHdP
import Derived.Test.YtmbkkpeepbfgoaaFl
import Derived.Test.YtmbkkpeepbfgoaaFnW
namespace Go.Proofs.Ytmbkkpeepbfgoaa
set_option linter.unusedVariables false
set_option linter.unusedSimpArgs false
open Go.RowKit
theorem fl_conv (n : Int) : FloatKind.f64.nearest n = fl n := rfl
theorem fl_int (n : Int) (h : 0 ≤ n) (h' : n < 9007199254740992) : Conv.floatToInt .f64 (fl n) .i64 = pure (.int .i64 n) := by
  obtain ⟨a, rfl⟩ := Int.eq_ofNat_of_zero_le h
  unfold Conv.floatToInt
  rw [fl_back a (by omega)]
  have : IntKind.i64.min ≤ (a : Int) ∧ (a : Int) ≤ IntKind.i64.max := by simp [IntKind.min, IntKind.max, IntKind.bits, IntKind.signed]; omega
  simp only [if_pos this]
theorem real_f64 (ats : Array TypeId) (ty : TypeId) (re im : Nat) : Builtin.real_ ats ty #[.complex .f64 re im] = pure (.float .f64 re) := rfl
theorem imag_f64 (ats : Array TypeId) (ty : TypeId) (re im : Nat) : Builtin.imag_ ats ty #[.complex .f64 re im] = pure (.float .f64 im) := rfl
theorem complex_f64 (ats : Array TypeId) (ty : TypeId) (re im : Nat) : Builtin.complex_ ats ty #[.float .f64 re, .float .f64 im] = pure (.complex .f64 re im) := rfl
theorem conv_fl (n : Int) : Conv.intToFloat .f64 n = pure (.float .f64 (fl n)) := rfl
attribute [local go_sem] real_f64 imag_f64 complex_f64
theorem conv_to (n : Int) (w : World) : (convert 3 135 (.int .i64 n)).run Try.prog w = .ok (.float .f64 (fl n)) w := by kernel_rfl
theorem conv_from (b : Nat) (w : World) : (convert 135 3 (.float .f64 b)).run Try.prog w = (Conv.floatToInt .f64 b .i64).run Try.prog w := by kernel_rfl
attribute [local go_sem] conv_to
set_option maxHeartbeats 400000 in
theorem head_of (t g : Int) (w : World) : Calls Try.prog 81 #[.int .i64 t, .int .i64 g] w fun e w' => e = .returned (.complex .f64 (fl t) (fl g)) ∧ w = w' := by
  go_enter Try.func81, Try.ntmps81
  go_wp2
  go_ret
  exact ⟨rfl, rfl⟩
set_option maxHeartbeats 400000 in
theorem head_top (t : Int) (x : Nat) (w : World) (h : 0 ≤ t) (h' : t < 9007199254740992) : Calls Try.prog 92 #[.complex .f64 (fl t) x] w fun e w' => e = .returned (.int .i64 t) ∧ w = w' := by
  have hc : ∀ w, (convert 135 3 (.float .f64 (fl t))).run Try.prog w = .ok (.int .i64 t) w := fun w => by rw [conv_from, fl_int t h h']; rfl
  go_enter Try.func92, Try.ntmps92
  go_wp2
  go_ret
  exact ⟨rfl, rfl⟩
set_option maxHeartbeats 400000 in
theorem head_tag (t : Int) (x : Nat) (w : World) (h : 0 ≤ t) (h' : t < 9007199254740992) : Calls Try.prog 94 #[.complex .f64 x (fl t)] w fun e w' => e = .returned (.int .i64 t) ∧ w = w' := by
  have hc : ∀ w, (convert 135 3 (.float .f64 (fl t))).run Try.prog w = .ok (.int .i64 t) w := fun w => by rw [conv_from, fl_int t h h']; rfl
  go_enter Try.func94, Try.ntmps94
  go_wp2
  go_ret
  exact ⟨rfl, rfl⟩
set_option maxHeartbeats 400000 in
theorem head_topField (w : World) : Calls Try.prog 91 #[] w fun e w' => e = .returned (.agg #[.int .i64 0, .int .i64 20]) ∧ Below w.heap.size w w' := by
  go_enter Try.func91, Try.ntmps91
  go_wp2
  exact bodyPost_ret (v := .agg #[.int .i64 0, .int .i64 20]) (by simp [results, Try.results91, go_sem]) rfl ⟨rfl, by (repeat' (first | (with_reducible exact Below.refl _ _) | (with_reducible assumption) | (with_reducible refine below_drewN ?_ _) | (with_reducible refine Below.drew ?_) | (with_reducible refine Below.alloc ?_ ?_ _) | (with_reducible refine Below.setCell ?_ ?_ _) | (with_reducible refine below_via (by assumption) ?_ ?_) | go_size))⟩
set_option maxHeartbeats 400000 in
theorem head_tagField (w : World) : Calls Try.prog 93 #[] w fun e w' => e = .returned (.agg #[.int .i64 20, .int .i64 32]) ∧ Below w.heap.size w w' := by
  go_enter Try.func93, Try.ntmps93
  go_wp2
  exact bodyPost_ret (v := .agg #[.int .i64 20, .int .i64 32]) (by simp [results, Try.results93, go_sem]) rfl ⟨rfl, by (repeat' (first | (with_reducible exact Below.refl _ _) | (with_reducible assumption) | (with_reducible refine below_drewN ?_ _) | (with_reducible refine Below.drew ?_) | (with_reducible refine Below.alloc ?_ ?_ _) | (with_reducible refine Below.setCell ?_ ?_ _) | (with_reducible refine below_via (by assumption) ?_ ?_) | go_size))⟩
set_option maxHeartbeats 400000 in
theorem head_may (t : Int) (w : World) : Calls Try.prog 80 #[.int .i64 t] w fun e w' => e = .returned (.bool (dTop t)) ∧ w = w' := by
  by_cases h : 0 ≤ t
  · by_cases h2 : t ≤ 64
    · have e := Lib.hid (show dTop t = true by simp [dTop]; omega)
      go_enter Try.func80, Try.ntmps80
      go_wp2
      go_ret
      exact ⟨by rw [e.out]; (first | rfl | (apply retb; first | rfl | (simp; done) | (simp; omega))), rfl⟩
    · have e := Lib.hid (show dTop t = false by simp [dTop]; omega)
      have h3 : 64 < t := by omega
      clear h2
      go_enter Try.func80, Try.ntmps80
      go_wp2
      go_ret
      exact ⟨by rw [e.out]; (first | rfl | (apply retb; first | rfl | (simp; done) | (simp; omega))), rfl⟩
  · have e := Lib.hid (show dTop t = false by simp [dTop]; omega)
    have h' : t < 0 := by omega
    clear h
    go_enter Try.func80, Try.ntmps80
    go_wp2
    go_ret
    exact ⟨by rw [e.out]; (first | rfl | (apply retb; first | rfl | (simp; done) | (simp; omega))), rfl⟩
set_option maxHeartbeats 400000 in
theorem head_word (t g : Int) (w : World) (h : 0 ≤ t) (h' : t < 1048576) (hg : 0 ≤ g) (hg' : g ≤ 4294967295) : Calls Try.prog 82 #[.complex .f64 (fl t) (fl g)] w fun e w' => e = .returned (.int .i64 (t + 1048576 * g)) ∧ Below w.heap.size w w' := by
  have p1 := Lib.hid (put_top h h')
  have p2 := Lib.hid (put_tag h h' hg hg')
  go_enter Try.func82, Try.ntmps82
  go_wp2_with first
    | (go_at_call 91; refine (head_topField _).mono ?_; rintro e w' ⟨rfl, hb⟩; have hz := hb.size)
    | (go_at_call 93; refine (head_tagField _).mono ?_; rintro e w' ⟨rfl, hb⟩; have hz := hb.size)
    | (go_at_call 92; refine (head_top _ _ _ h (by omega)).mono ?_; rintro e w' ⟨rfl, rfl⟩)
    | (go_at_call 94; refine (head_tag _ _ _ hg (by omega)).mono ?_; rintro e w' ⟨rfl, rfl⟩)
    | (go_at_call 90; refine (field_Put _ _ _ _ _ (by omega) (by omega)).mono ?_; (first | rw [p1.out] | rw [p2.out]); rintro e w' ⟨rfl, hb⟩; have hz := hb.size)
  go_ret
  exact ⟨rfl, by (repeat' (first | (with_reducible exact Below.refl _ _) | (with_reducible assumption) | (with_reducible refine below_drewN ?_ _) | (with_reducible refine Below.drew ?_) | (with_reducible refine Below.alloc ?_ ?_ _) | (with_reducible refine Below.setCell ?_ ?_ _) | (with_reducible refine below_via (by assumption) ?_ ?_) | go_size))⟩
end Go.Proofs.Ytmbkkpeepbfgoaa
