/- What head's functions tell, as functions of numbers. -/
import GoSem.Core.Float
import Derived.Test.YtpebepjfgnoaaaaFnW
import Derived.Test.YtpebepjfgnoaaaaBase
import Derived.Test.YtpebepjfgnoaaaaProg
namespace Go.Proofs.Ytpebepjfgnoaaaa
set_option linter.unusedVariables false
set_option linter.unusedSimpArgs false
open Go.RowKit
def dTop (n : Int) : Bool := decide (0 ≤ n ∧ n ≤ 64)
def dIs (w : Int) : Bool := decide (0 ≤ w ∧ w < 4503599627370496 ∧ w % 1048576 ≤ 64)
def dPack (t g : Int) : Int × Int := if 0 ≤ t ∧ t ≤ 64 ∧ 0 ≤ g ∧ g ≤ 4294967295 then (t + 1048576 * g, 0) else (0, 1)
def dUnTop (w : Int) : Int := if dIs w = true then w % 1048576 else 0
def dUnTag (w : Int) : Int := if dIs w = true then w / 1048576 else 0
def dUnErr (w : Int) : Int := if dIs w = true then 0 else 2
def dNext (g : Int) : Int := if g = 4294967295 then 0 else g + 1
def dPop (w l : Int) : Int × Int × Int :=
  if dIs w = true then (if dTop l = true then (if w % 1048576 = 0 then (0, 0, 11) else (l + 1048576 * dNext (w / 1048576), w % 1048576 - 1, 0)) else (0, 0, 1)) else (0, 0, 2)
def dPush (w s : Int) : Int × Int × Int :=
  if dIs w = true then (if 0 ≤ s ∧ s < 64 then (s + 1 + 1048576 * dNext (w / 1048576), w % 1048576, 0) else (0, 0, 1)) else (0, 0, 2)
def dIn (w : Int) : Int := if 0 < w then w - 1 else 0
theorem dIs_of {w : Int} (h : dIs w = true) : 0 ≤ w ∧ w < 4503599627370496 ∧ w % 1048576 ≤ 64 := by simpa [dIs] using h
theorem dNext_bd {g : Int} (h : 0 ≤ g) (h' : g ≤ 4294967295) : 0 ≤ dNext g ∧ dNext g ≤ 4294967295 := by unfold dNext; split <;> omega
theorem dUnTop_bd (w : Int) : 0 ≤ dUnTop w ∧ dUnTop w ≤ 64 := by
  unfold dUnTop; split
  · have := dIs_of ‹_›; omega
  · omega
theorem dUnTag_bd (w : Int) : 0 ≤ dUnTag w ∧ dUnTag w ≤ 4294967295 := by
  unfold dUnTag; split
  · have := dIs_of ‹_›; omega
  · omega
theorem pw20 : pw 20 = 1048576 := by decide
theorem pw32 : pw 32 = 4294967296 := by decide
theorem put_top {t : Int} (h : 0 ≤ t) (h' : t < 1048576) : fPut 0 0 20 t = (t, 0) := by
  have hm : fMay 0 20 = true := by decide
  rw [fPut, if_neg (by simp [hm, h]; decide), if_neg (by rw [pw20]; omega)]
  have e : fGet 0 0 20 = 0 := by decide
  have e2 : pw 0 = 1 := by decide
  rw [e, e2]; simp
theorem put_tag {t g : Int} (h : 0 ≤ t) (h' : t < 1048576) (hg : 0 ≤ g) (hg' : g ≤ 4294967295) : fPut t 20 32 g = (t + 1048576 * g, 0) := by
  have hm : fMay 20 32 = true := by decide
  have hw : fWord t = true := by simp [fWord]; omega
  rw [fPut, if_neg (by simp [hm, hw, hg]), if_neg (by rw [pw32]; omega)]
  have e : fGet t 20 32 = 0 := by
    unfold fGet; rw [if_pos ⟨hw, hm⟩, pw20, pw32]
    have : t / 1048576 = 0 := by omega
    rw [this]; decide
  rw [e, pw20]
  have : t - 0 * 1048576 + g * 1048576 = t + 1048576 * g := by omega
  rw [this]
theorem get_top {w : Int} : fGet w 0 20 = if 0 ≤ w ∧ w < 4611686018427387904 then w % 1048576 else 0 := by
  have hm : fMay 0 20 = true := by decide
  unfold fGet fWord
  rw [pw20]
  have e2 : pw 0 = 1 := by decide
  rw [e2]
  simp only [hm, and_true, decide_eq_true_eq, Int.ediv_one]
theorem get_tag {w : Int} : fGet w 20 32 = if 0 ≤ w ∧ w < 4611686018427387904 then w / 1048576 % 4294967296 else 0 := by
  have hm : fMay 20 32 = true := by decide
  unfold fGet fWord
  rw [pw20, pw32]
  simp only [hm, and_true, decide_eq_true_eq]
/-- the two fields of a head's word are the head; of no other word are they. -/
theorem get_is {w : Int} (h : dIs w = true) : fGet w 0 20 = w % 1048576 ∧ fGet w 20 32 = w / 1048576 := by
  have := dIs_of h
  rw [get_top, get_tag, if_pos (by omega), if_pos (by omega)]
  constructor
  · rfl
  · omega
theorem get_not {w : Int} (h : dIs w = false) : dTop (fGet w 0 20) = false ∨ (fGet w 0 20 + 1048576 * fGet w 20 32 != w) = true := by
  have h' : ¬ (0 ≤ w ∧ w < 4503599627370496 ∧ w % 1048576 ≤ 64) := by simpa [dIs] using h
  rw [get_top, get_tag]
  by_cases hw : 0 ≤ w ∧ w < 4611686018427387904
  · rw [if_pos hw, if_pos hw]
    by_cases ht : w % 1048576 ≤ 64
    · right; rw [bne_iff_ne]; omega
    · left; simp [dTop]; omega
  · rw [if_neg hw, if_neg hw]
    right; rw [bne_iff_ne]; omega
theorem get_bds (w : Int) : 0 ≤ fGet w 0 20 ∧ fGet w 0 20 < 1048576 ∧ 0 ≤ fGet w 20 32 ∧ fGet w 20 32 ≤ 4294967295 := by
  rw [get_top, get_tag]; split <;> omega
end Go.Proofs.Ytpebepjfgnoaaaa
namespace Go.Proofs.Ytpebepjfgnoaaaa
set_option linter.unusedVariables false
set_option linter.unusedSimpArgs false
open Go.RowKit
def fl (n : Int) : Nat := FloatKind.f64.nearest n
theorem fl_nat (n : Nat) : fl (n : Int) = Ieee.double.nearest false n 0 := by
  unfold fl FloatKind.nearest FloatKind.encode FloatKind.format Ieee.Format.write
  have : (decide ((n : Int) < 0)) = false := by simp
  simp [this]
theorem cut_zero (k : Nat) : Ieee.Toward.even.cut false k 0 = k := by
  unfold Ieee.Toward.cut
  simp [Nat.mod_one]
theorem near_last (m : Nat) : max ((0 : Int) + (m : Nat) - Ieee.double.fractionBits) Ieee.double.leastPlace = (m : Int) - 52 := by
  have e1 : Ieee.double.leastPlace = -1074 := by decide
  have e2 : Ieee.double.fractionBits = 52 := rfl
  rw [e1, e2]
  omega
theorem minl (B m y : Nat) (hm : m ≤ 52) (hy : y < 2 * B) : min ((m + 1022) * B + y) (2047 * B) = (m + 1022) * B + y := by
  apply Nat.min_eq_left
  have h : (m + 1022 + 2) * B ≤ 2047 * B := Nat.mul_le_mul_right _ (by omega)
  rw [Nat.add_mul (m + 1022) 2 B] at h
  omega
theorem near_pos (n : Nat) (h0 : 0 < n) (h : n < 2 ^ 53) : Ieee.double.nearest false n 0 = (n.log2 + 1022) * 2 ^ 52 + n * 2 ^ (52 - n.log2) := by
  have hl : n.log2 ≤ 52 := by have := (Nat.log2_lt (by omega : n ≠ 0)).2 h; omega
  have h1 : n < 2 ^ (n.log2 + 1) := Nat.lt_log2_self
  have h2 : n * 2 ^ (52 - n.log2) < 2 ^ 53 := by
    calc n * 2 ^ (52 - n.log2) < 2 ^ (n.log2 + 1) * 2 ^ (52 - n.log2) := Nat.mul_lt_mul_of_pos_right h1 (Nat.two_pow_pos _)
      _ = 2 ^ (n.log2 + 1 + (52 - n.log2)) := (Nat.pow_add ..).symm
      _ = 2 ^ 53 := by congr 1; omega
  unfold Ieee.Format.nearest
  rw [if_neg (by omega)]
  rw [near_last]
  have e1 : ((0 : Int) - ((n.log2 : Int) - 52)).toNat = 52 - n.log2 := by omega
  have e2 : (((n.log2 : Int) - 52) - 0).toNat = 0 := by omega
  have e0 : Ieee.double.leastPlace = -1074 := by decide
  have e3 : (((n.log2 : Int) - 52) - Ieee.double.leastPlace).toNat = n.log2 + 1022 := by rw [e0]; omega
  simp only [e1, e2, e3, cut_zero, Nat.shiftLeft_eq]
  have e5 : Ieee.double.infRung = 2047 * 2 ^ 52 := rfl
  have e6 : Ieee.double.binade = 2 ^ 52 := rfl
  rw [e5, e6]
  unfold Ieee.Format.word
  simp only [Bool.false_eq_true, if_false]
  exact minl (2 ^ 52) n.log2 _ hl (by have e : 2 * 2 ^ 52 = 2 ^ 53 := by decide
                                      rw [e]; exact h2)
theorem fl_back (n : Nat) (h : n < 2 ^ 53) : (FloatKind.f64.decode (fl (n : Int))).toInt .zero = some (n : Int) := by
  rw [fl_nat]
  by_cases h0 : n = 0
  · subst h0; decide
  · have hl : n.log2 ≤ 52 := by have := (Nat.log2_lt h0).2 h; omega
    have h1 : n < 2 ^ (n.log2 + 1) := Nat.lt_log2_self
    have h1' : 2 ^ n.log2 ≤ n := Nat.log2_self_le h0
    have h2 : n * 2 ^ (52 - n.log2) < 2 ^ 53 := by
      calc n * 2 ^ (52 - n.log2) < 2 ^ (n.log2 + 1) * 2 ^ (52 - n.log2) := Nat.mul_lt_mul_of_pos_right h1 (Nat.two_pow_pos _)
        _ = 2 ^ (n.log2 + 1 + (52 - n.log2)) := (Nat.pow_add ..).symm
        _ = 2 ^ 53 := by congr 1; omega
    have h3 : 2 ^ 52 ≤ n * 2 ^ (52 - n.log2) := by
      calc 2 ^ 52 = 2 ^ (n.log2 + (52 - n.log2)) := by congr 1; omega
        _ = 2 ^ n.log2 * 2 ^ (52 - n.log2) := Nat.pow_add ..
        _ ≤ n * 2 ^ (52 - n.log2) := Nat.mul_le_mul_right _ h1'
    rw [near_pos n (by omega) h]
    generalize hy : n * 2 ^ (52 - n.log2) = y at h2 h3
    generalize hm : n.log2 = m at hl hy
    have e1 : ((m + 1022) * 2 ^ 52 + y) / 2 ^ 63 % 2 = 0 := by omega
    have e2 : ((m + 1022) * 2 ^ 52 + y) % 2 ^ 63 = (m + 1022) * 2 ^ 52 + y := by omega
    have e3 : ((m + 1022) * 2 ^ 52 + y) % 2 ^ 52 = y - 2 ^ 52 := by omega
    have e4 : ((m + 1022) * 2 ^ 52 + y) / 2 ^ 52 = m + 1023 := by omega
    have hw : Ieee.double.signWeight = 2 ^ 63 := rfl
    have hb : Ieee.double.binade = 2 ^ 52 := rfl
    have hi : Ieee.double.infRung = 2047 * 2 ^ 52 := rfl
    have hr : (FloatKind.f64.decode ((m + 1022) * 2 ^ 52 + y)) = .number false y ((m : Int) - 52) := by
      unfold FloatKind.decode FloatKind.format Ieee.Format.read
      simp only [hw, hb, hi, e1, e2, e3, e4]
      rw [if_neg (by omega), if_pos (by omega)]
      have e5 : (2 ^ 52 + (y - 2 ^ 52)) = y := by omega
      have e6 : Ieee.double.leastPlace + ((m + 1023 - 1 : Nat) : Int) = (m : Int) - 52 := by
        show (2 - 2 ^ (11 - 1) - (52 : Nat) : Int) + ((m + 1023 - 1 : Nat) : Int) = _
        omega
      rw [e5, e6]
      rfl
    rw [hr]
    unfold Ieee.Datum.toInt Ieee.Datum.integral
    simp only
    have e7 : ((m : Int) - 52).toNat = 0 := by omega
    have e8 : (-((m : Int) - 52)).toNat = 52 - m := by omega
    rw [e7, e8]
    have e9 : Ieee.Toward.zero.cut false (y <<< 0) (52 - m) = n := by
      unfold Ieee.Toward.cut
      have hy0 : y.log2 = 52 := by
        have a1 : 52 ≤ y.log2 := (Nat.le_log2 (by omega)).2 h3
        have a2 : y.log2 < 53 := (Nat.log2_lt (by omega)).2 h2
        omega
      simp only [Nat.shiftLeft_zero, hy0]
      have hmn : min (52 - m) (52 + 2) = 52 - m := by omega
      rw [hmn, Nat.shiftLeft_eq, Nat.one_mul, ← hy, Nat.mul_div_cancel _ (Nat.two_pow_pos _)]
      simp
    rw [e9]
    simp [Ieee.signed]
end Go.Proofs.Ytpebepjfgnoaaaa
namespace Go.Proofs.Ytpebepjfgnoaaaa
set_option linter.unusedVariables false
set_option linter.unusedSimpArgs false
open Go.RowKit
theorem fl_conv (n : Int) : FloatKind.f64.nearest n = fl n := rfl
theorem fl_int (n : Int) (h : 0 ≤ n) (h' : n < 9007199254740992) : Conv.floatToInt .f64 (fl n) .i64 = pure (.int .i64 n) := by
  obtain ⟨a, rfl⟩ := Int.eq_ofNat_of_zero_le h
  unfold Conv.floatToInt
  rw [fl_back a (by omega)]
  have : IntKind.i64.min ≤ (a : Int) ∧ (a : Int) ≤ IntKind.i64.max := by simp [IntKind.min, IntKind.max, IntKind.bits, IntKind.signed]; omega
  simp only [if_pos this]
theorem real_f64 (ats : Array TypeId) (ty : TypeId) (re im : Nat) : Builtin.real_ ats ty #[.complex .f64 re im] = pure (.float .f64 re) := rfl
theorem imag_f64 (ats : Array TypeId) (ty : TypeId) (re im : Nat) : Builtin.imag_ ats ty #[.complex .f64 re im] = pure (.float .f64 im) := rfl
theorem complex_f64 (ats : Array TypeId) (ty : TypeId) (re im : Nat) : Builtin.complex_ ats ty #[.float .f64 re, .float .f64 im] = pure (.complex .f64 re im) := rfl
theorem conv_fl (n : Int) : Conv.intToFloat .f64 n = pure (.float .f64 (fl n)) := rfl
attribute [local go_sem] real_f64 imag_f64 complex_f64
theorem conv_to (n : Int) (w : World) : (convert 3 150 (.int .i64 n)).run Try.prog w = .ok (.float .f64 (fl n)) w := by kernel_rfl
theorem conv_from (b : Nat) (w : World) : (convert 150 3 (.float .f64 b)).run Try.prog w = (Conv.floatToInt .f64 b .i64).run Try.prog w := by kernel_rfl
attribute [local go_sem] conv_to
set_option maxHeartbeats 400000 in
theorem head_of (t g : Int) (w : World) : Calls Try.prog 91 #[.int .i64 t, .int .i64 g] w fun e w' => e = .returned (.complex .f64 (fl t) (fl g)) ∧ w = w' := by
  go_enter Try.func91, Try.ntmps91
  go_wp2
  go_ret
  exact ⟨rfl, rfl⟩
set_option maxHeartbeats 400000 in
theorem head_top (t : Int) (x : Nat) (w : World) (h : 0 ≤ t) (h' : t < 9007199254740992) : Calls Try.prog 81 #[.complex .f64 (fl t) x] w fun e w' => e = .returned (.int .i64 t) ∧ w = w' := by
  have hc : ∀ w, (convert 150 3 (.float .f64 (fl t))).run Try.prog w = .ok (.int .i64 t) w := fun w => by rw [conv_from, fl_int t h h']; rfl
  go_enter Try.func81, Try.ntmps81
  go_wp2
  go_ret
  exact ⟨rfl, rfl⟩
set_option maxHeartbeats 400000 in
theorem head_tag (t : Int) (x : Nat) (w : World) (h : 0 ≤ t) (h' : t < 9007199254740992) : Calls Try.prog 82 #[.complex .f64 x (fl t)] w fun e w' => e = .returned (.int .i64 t) ∧ w = w' := by
  have hc : ∀ w, (convert 150 3 (.float .f64 (fl t))).run Try.prog w = .ok (.int .i64 t) w := fun w => by rw [conv_from, fl_int t h h']; rfl
  go_enter Try.func82, Try.ntmps82
  go_wp2
  go_ret
  exact ⟨rfl, rfl⟩
set_option maxHeartbeats 400000 in
theorem head_topField (w : World) : Calls Try.prog 96 #[] w fun e w' => e = .returned (.agg #[.int .i64 0, .int .i64 20]) ∧ Below w.heap.size w w' := by
  go_enter Try.func96, Try.ntmps96
  go_wp2
  exact bodyPost_ret (v := .agg #[.int .i64 0, .int .i64 20]) (by simp [results, Try.results96, go_sem]) rfl ⟨rfl, by (repeat' (first | (with_reducible exact Below.refl _ _) | (with_reducible assumption) | (with_reducible refine below_drewN ?_ _) | (with_reducible refine Below.drew ?_) | (with_reducible refine Below.alloc ?_ ?_ _) | (with_reducible refine Below.setCell ?_ ?_ _) | (with_reducible refine below_via (by assumption) ?_ ?_) | go_size))⟩
set_option maxHeartbeats 400000 in
theorem head_tagField (w : World) : Calls Try.prog 97 #[] w fun e w' => e = .returned (.agg #[.int .i64 20, .int .i64 32]) ∧ Below w.heap.size w w' := by
  go_enter Try.func97, Try.ntmps97
  go_wp2
  exact bodyPost_ret (v := .agg #[.int .i64 20, .int .i64 32]) (by simp [results, Try.results97, go_sem]) rfl ⟨rfl, by (repeat' (first | (with_reducible exact Below.refl _ _) | (with_reducible assumption) | (with_reducible refine below_drewN ?_ _) | (with_reducible refine Below.drew ?_) | (with_reducible refine Below.alloc ?_ ?_ _) | (with_reducible refine Below.setCell ?_ ?_ _) | (with_reducible refine below_via (by assumption) ?_ ?_) | go_size))⟩
set_option maxHeartbeats 400000 in
theorem head_may (t : Int) (w : World) : Calls Try.prog 86 #[.int .i64 t] w fun e w' => e = .returned (.bool (dTop t)) ∧ w = w' := by
  by_cases h : 0 ≤ t
  · by_cases h2 : t ≤ 64
    · have e := Lib.hid (show dTop t = true by simp [dTop]; omega)
      go_enter Try.func86, Try.ntmps86
      go_wp2
      go_ret
      exact ⟨by rw [e.out]; (first | rfl | (apply retb; first | rfl | (simp; done) | (simp; omega))), rfl⟩
    · have e := Lib.hid (show dTop t = false by simp [dTop]; omega)
      have h3 : 64 < t := by omega
      clear h2
      go_enter Try.func86, Try.ntmps86
      go_wp2
      go_ret
      exact ⟨by rw [e.out]; (first | rfl | (apply retb; first | rfl | (simp; done) | (simp; omega))), rfl⟩
  · have e := Lib.hid (show dTop t = false by simp [dTop]; omega)
    have h' : t < 0 := by omega
    clear h
    go_enter Try.func86, Try.ntmps86
    go_wp2
    go_ret
    exact ⟨by rw [e.out]; (first | rfl | (apply retb; first | rfl | (simp; done) | (simp; omega))), rfl⟩
set_option maxHeartbeats 400000 in
theorem head_word (t g : Int) (w : World) (h : 0 ≤ t) (h' : t < 1048576) (hg : 0 ≤ g) (hg' : g ≤ 4294967295) : Calls Try.prog 85 #[.complex .f64 (fl t) (fl g)] w fun e w' => e = .returned (.int .i64 (t + 1048576 * g)) ∧ Below w.heap.size w w' := by
  have p1 := Lib.hid (put_top h h')
  have p2 := Lib.hid (put_tag h h' hg hg')
  go_enter Try.func85, Try.ntmps85
  go_wp2_with first
    | (go_at_call 96; refine (head_topField _).mono ?_; rintro e w' ⟨rfl, hb⟩; have hz := hb.size)
    | (go_at_call 97; refine (head_tagField _).mono ?_; rintro e w' ⟨rfl, hb⟩; have hz := hb.size)
    | (go_at_call 81; refine (head_top _ _ _ h (by omega)).mono ?_; rintro e w' ⟨rfl, rfl⟩)
    | (go_at_call 82; refine (head_tag _ _ _ hg (by omega)).mono ?_; rintro e w' ⟨rfl, rfl⟩)
    | (go_at_call 98; refine (field_Put _ _ _ _ _ (by omega) (by omega)).mono ?_; (first | rw [p1.out] | rw [p2.out]); rintro e w' ⟨rfl, hb⟩; have hz := hb.size)
  go_ret
  exact ⟨rfl, by (repeat' (first | (with_reducible exact Below.refl _ _) | (with_reducible assumption) | (with_reducible refine below_drewN ?_ _) | (with_reducible refine Below.drew ?_) | (with_reducible refine Below.alloc ?_ ?_ _) | (with_reducible refine Below.setCell ?_ ?_ _) | (with_reducible refine below_via (by assumption) ?_ ?_) | go_size))⟩
set_option maxHeartbeats 400000 in
theorem head_behind (t g l : Int) (w : World) (h : 0 ≤ t) (h' : t < 1048576) (hg : 0 ≤ g) (hg' : g ≤ 4294967295) : Calls Try.prog 84 #[.complex .f64 (fl t) (fl g), .int .i64 l] w fun e w' => e = .returned (.complex .f64 (fl l) (fl (dNext g))) ∧ w = w' := by
  by_cases c : g = 4294967295
  · have e := Lib.hid (show dNext g = 0 by unfold dNext; rw [if_pos c])
    have hb : (g == 4294967295) = true := by rw [c]; rfl
    clear c
    go_enter Try.func84, Try.ntmps84
    go_wp2_with first
      | (go_at_call 82; refine (head_tag _ _ _ hg (by omega)).mono ?_; rintro e w' ⟨rfl, rfl⟩)
      | (go_at_call 91; refine (head_of _ _ _).mono ?_; rintro e w' ⟨rfl, rfl⟩)
    go_ret
    exact ⟨by rw [e.out]; rfl, rfl⟩
  · have e := Lib.hid (show dNext g = g + 1 by unfold dNext; rw [if_neg c])
    have hb : (g == 4294967295) = false := by simpa using c
    clear c
    go_enter Try.func84, Try.ntmps84
    go_wp2_with first
      | (go_at_call 82; refine (head_tag _ _ _ hg (by omega)).mono ?_; rintro e w' ⟨rfl, rfl⟩)
      | (go_at_call 91; refine (head_of _ _ _).mono ?_; rintro e w' ⟨rfl, rfl⟩)
    go_ret
    exact ⟨by rw [e.out]; rfl, rfl⟩
set_option maxHeartbeats 400000 in
theorem head_read (w : Int) (W : World) : Calls Try.prog 80 #[.int .i64 w] W fun e w' => e = .returned (.tuple #[.complex .f64 (fl (dUnTop w)) (fl (dUnTag w)), .int .i64 (dUnErr w)]) ∧ Below W.heap.size W w' := by
  obtain ⟨b0, b1, b2, b3⟩ := get_bds w
  rcases bool_cases (b := dIs w) with h | h
  · have hi := dIs_of h
    have g1 := Lib.hid (get_is h).1
    have g2 := Lib.hid (get_is h).2
    have e1 := Lib.hid (show dUnTop w = w % 1048576 by unfold dUnTop; rw [if_pos h])
    have e2 := Lib.hid (show dUnTag w = w / 1048576 by unfold dUnTag; rw [if_pos h])
    have e3 := Lib.hid (show dUnErr w = 0 by unfold dUnErr; rw [if_pos h])
    have m := Lib.hid (show dTop (w % 1048576) = true by simp [dTop]; omega)
    have bb : (w % 1048576 + 1048576 * (w / 1048576) != w) = false := by rw [bne_eq_false_iff_eq]; omega
    obtain ⟨i0, i1, i2⟩ := hi
    have t0 : 0 ≤ w % 1048576 := by omega
    have t1 : w % 1048576 < 1048576 := by omega
    have t2 : 0 ≤ w / 1048576 := by omega
    have t3 : w / 1048576 ≤ 4294967295 := by omega
    have fw := Lib.hid (show fWord w = true by simp [fWord]; omega)
    clear h b0 b1 b2 b3
    go_enter Try.func80, Try.ntmps80
    go_wp2_with first
      | (go_at_call 96; refine (head_topField _).mono ?_; rintro e w' ⟨rfl, hb⟩; have hz := hb.size)
      | (go_at_call 97; refine (head_tagField _).mono ?_; rintro e w' ⟨rfl, hb⟩; have hz := hb.size)
      | (go_at_call 95; refine (field_Get_ok _ _ _ _ (by decide) fw.out).mono ?_; (first | rw [g1.out] | rw [g2.out]); rintro e w' ⟨rfl, hb⟩; have hz := hb.size)
      | (go_at_call 91; refine (head_of _ _ _).mono ?_; rintro e w' ⟨rfl, rfl⟩)
      | (go_at_call 81; refine (head_top _ _ _ t0 (by omega)).mono ?_; rintro e w' ⟨rfl, rfl⟩)
      | (go_at_call 86; refine (head_may _ _).mono ?_; rw [m.out]; rintro e w' ⟨rfl, rfl⟩)
      | (go_at_call 85; refine (head_word _ _ _ t0 t1 t2 t3).mono ?_; rintro e w' ⟨rfl, hb⟩; have hz := hb.size)
    go_ret2
    exact ⟨by rw [e1.out, e2.out, e3.out]; rfl, by (repeat' (first | (with_reducible exact Below.refl _ _) | (with_reducible assumption) | (with_reducible refine below_drewN ?_ _) | (with_reducible refine Below.drew ?_) | (with_reducible refine Below.alloc ?_ ?_ _) | (with_reducible refine Below.setCell ?_ ?_ _) | (with_reducible refine below_via (by assumption) ?_ ?_) | go_size))⟩
  · have e1 := Lib.hid (show dUnTop w = 0 by unfold dUnTop; rw [if_neg (by rw [h]; decide)])
    have e2 := Lib.hid (show dUnTag w = 0 by unfold dUnTag; rw [if_neg (by rw [h]; decide)])
    have e3 := Lib.hid (show dUnErr w = 2 by unfold dUnErr; rw [if_neg (by rw [h]; decide)])
    have z := Lib.hid (show fl 0 = 0 by decide)
    have GG : ∀ (p b : Int) (W : World), (p = 0 ∧ b = 20) ∨ (p = 20 ∧ b = 32) → Calls Try.prog 95 #[.int .i64 w, .agg #[.int .i64 p, .int .i64 b]] W fun e w' => e = .returned (.int .i64 (fGet w p b)) ∧ Below W.heap.size W w' := by
      intro p b W hpb
      have hm : fMay p b = true := by rcases hpb with ⟨rfl, rfl⟩ | ⟨rfl, rfl⟩ <;> decide
      rcases bool_cases (b := fWord w) with hw | hw
      · exact field_Get_ok w p b W hm hw
      · have hw' := Lib.hid hw
        have e := Lib.hid (show fGet w p b = 0 by unfold fGet; rw [if_neg (by simp [hw])])
        clear hw hm hpb
        go_enter Try.func95, Try.ntmps95
        go_wp2_with (go_at_call 103; refine (field_word _ _).mono ?_; rw [hw'.out]; rintro e w' ⟨rfl, rfl⟩)
        go_ret
        exact ⟨ret1 e.out.symm, by (repeat' (first | (with_reducible exact Below.refl _ _) | (with_reducible assumption) | (with_reducible refine below_drewN ?_ _) | (with_reducible refine Below.drew ?_) | (with_reducible refine Below.alloc ?_ ?_ _) | (with_reducible refine Below.setCell ?_ ?_ _) | (with_reducible refine below_via (by assumption) ?_ ?_) | go_size))⟩
    have G1 := Lib.hid (fun W => GG 0 20 W (.inl ⟨rfl, rfl⟩))
    have G2 := Lib.hid (fun W => GG 20 32 W (.inr ⟨rfl, rfl⟩))
    have hn := get_not h
    clear GG h
    generalize fGet w 0 20 = x at b0 b1 G1 hn
    generalize fGet w 20 32 = y at b2 b3 G2 hn
    rcases hn with hn | hn
    · have m := Lib.hid hn
      clear hn
      go_enter Try.func80, Try.ntmps80
      go_wp2_with first
        | (go_at_call 96; refine (head_topField _).mono ?_; rintro e w' ⟨rfl, hb⟩; have hz := hb.size)
        | (go_at_call 97; refine (head_tagField _).mono ?_; rintro e w' ⟨rfl, hb⟩; have hz := hb.size)
        | (go_at_call 95; (first | (with_reducible refine (G1.out _).mono ?_) | (with_reducible refine (G2.out _).mono ?_)); rintro e w' ⟨rfl, hb⟩; have hz := hb.size)
        | (go_at_call 91; refine (head_of _ _ _).mono ?_; rintro e w' ⟨rfl, rfl⟩)
        | (go_at_call 81; refine (head_top _ _ _ b0 (by omega)).mono ?_; rintro e w' ⟨rfl, rfl⟩)
        | (go_at_call 86; refine (head_may _ _).mono ?_; rw [m.out]; rintro e w' ⟨rfl, rfl⟩)
      go_ret2
      exact ⟨by rw [e1.out, e2.out, e3.out, z.out]; rfl, by (repeat' (first | (with_reducible exact Below.refl _ _) | (with_reducible assumption) | (with_reducible refine below_drewN ?_ _) | (with_reducible refine Below.drew ?_) | (with_reducible refine Below.alloc ?_ ?_ _) | (with_reducible refine Below.setCell ?_ ?_ _) | (with_reducible refine below_via (by assumption) ?_ ?_) | go_size))⟩
    · rcases bool_cases (b := dTop x) with m | m
      · have m := Lib.hid m
        go_enter Try.func80, Try.ntmps80
        go_wp2_with first
          | (go_at_call 96; refine (head_topField _).mono ?_; rintro e w' ⟨rfl, hb⟩; have hz := hb.size)
          | (go_at_call 97; refine (head_tagField _).mono ?_; rintro e w' ⟨rfl, hb⟩; have hz := hb.size)
          | (go_at_call 95; (first | (with_reducible refine (G1.out _).mono ?_) | (with_reducible refine (G2.out _).mono ?_)); rintro e w' ⟨rfl, hb⟩; have hz := hb.size)
          | (go_at_call 91; refine (head_of _ _ _).mono ?_; rintro e w' ⟨rfl, rfl⟩)
          | (go_at_call 81; refine (head_top _ _ _ b0 (by omega)).mono ?_; rintro e w' ⟨rfl, rfl⟩)
          | (go_at_call 86; refine (head_may _ _).mono ?_; rw [m.out]; rintro e w' ⟨rfl, rfl⟩)
          | (go_at_call 85; refine (head_word _ _ _ b0 b1 b2 b3).mono ?_; rintro e w' ⟨rfl, hb⟩; have hz := hb.size)
        go_ret2
        exact ⟨by rw [e1.out, e2.out, e3.out, z.out]; rfl, by (repeat' (first | (with_reducible exact Below.refl _ _) | (with_reducible assumption) | (with_reducible refine below_drewN ?_ _) | (with_reducible refine Below.drew ?_) | (with_reducible refine Below.alloc ?_ ?_ _) | (with_reducible refine Below.setCell ?_ ?_ _) | (with_reducible refine below_via (by assumption) ?_ ?_) | go_size))⟩
      · have m := Lib.hid m
        clear hn
        go_enter Try.func80, Try.ntmps80
        go_wp2_with first
          | (go_at_call 96; refine (head_topField _).mono ?_; rintro e w' ⟨rfl, hb⟩; have hz := hb.size)
          | (go_at_call 97; refine (head_tagField _).mono ?_; rintro e w' ⟨rfl, hb⟩; have hz := hb.size)
          | (go_at_call 95; (first | (with_reducible refine (G1.out _).mono ?_) | (with_reducible refine (G2.out _).mono ?_)); rintro e w' ⟨rfl, hb⟩; have hz := hb.size)
          | (go_at_call 91; refine (head_of _ _ _).mono ?_; rintro e w' ⟨rfl, rfl⟩)
          | (go_at_call 81; refine (head_top _ _ _ b0 (by omega)).mono ?_; rintro e w' ⟨rfl, rfl⟩)
          | (go_at_call 86; refine (head_may _ _).mono ?_; rw [m.out]; rintro e w' ⟨rfl, rfl⟩)
        go_ret2
        exact ⟨by rw [e1.out, e2.out, e3.out, z.out]; rfl, by (repeat' (first | (with_reducible exact Below.refl _ _) | (with_reducible assumption) | (with_reducible refine below_drewN ?_ _) | (with_reducible refine Below.drew ?_) | (with_reducible refine Below.alloc ?_ ?_ _) | (with_reducible refine Below.setCell ?_ ?_ _) | (with_reducible refine below_via (by assumption) ?_ ?_) | go_size))⟩
end Go.Proofs.Ytpebepjfgnoaaaa
namespace Go.Proofs.Ytpebepjfgnoaaaa
set_option linter.unusedVariables false
set_option linter.unusedSimpArgs false
open Go.RowKit
set_option maxHeartbeats 400000 in
theorem head_Pack (t g : Int) (w : World) : Calls Try.prog 75 #[.int .i64 t, .int .i64 g] w fun e w' => e = .returned (.tuple #[.int .i64 (dPack t g).1, .int .i64 (dPack t g).2]) ∧ Below w.heap.size w w' := by
  by_cases h : 0 ≤ t ∧ t ≤ 64 ∧ 0 ≤ g ∧ g ≤ 4294967295
  · have e := Lib.hid (show dPack t g = (t + 1048576 * g, 0) by unfold dPack; rw [if_pos h])
    obtain ⟨h1, h2, h3, h4⟩ := h
    have m := Lib.hid (show dTop t = true by simp [dTop]; omega)
    go_enter Try.func75, Try.ntmps75
    go_wp2_with first
      | (go_at_call 86; refine (head_may _ _).mono ?_; rw [m.out]; rintro e w' ⟨rfl, rfl⟩)
      | (go_at_call 91; refine (head_of _ _ _).mono ?_; rintro e w' ⟨rfl, rfl⟩)
      | (go_at_call 85; refine (head_word _ _ _ h1 (by omega) h3 h4).mono ?_; rintro e w' ⟨rfl, hb⟩; have hz := hb.size)
    go_ret2
    exact ⟨by rw [e.out]; rfl, by (repeat' (first | (with_reducible exact Below.refl _ _) | (with_reducible assumption) | (with_reducible refine below_drewN ?_ _) | (with_reducible refine Below.drew ?_) | (with_reducible refine Below.alloc ?_ ?_ _) | (with_reducible refine Below.setCell ?_ ?_ _) | (with_reducible refine below_via (by assumption) ?_ ?_) | go_size))⟩
  · have e := Lib.hid (show dPack t g = (0, 1) by unfold dPack; rw [if_neg h])
    rcases bool_cases (b := dTop t) with m | m
    · have hh : g < 0 ∨ (0 ≤ g ∧ 4294967295 < g) := by have : 0 ≤ t ∧ t ≤ 64 := by simpa [dTop] using m
                                                       omega
      have m := Lib.hid m
      clear h
      rcases hh with hh | ⟨hh, hh'⟩
      all_goals
        go_enter Try.func75, Try.ntmps75
        go_wp2_with (go_at_call 86; refine (head_may _ _).mono ?_; rw [m.out]; rintro e w' ⟨rfl, rfl⟩)
        go_ret2
        exact ⟨by rw [e.out]; rfl, by (repeat' (first | (with_reducible exact Below.refl _ _) | (with_reducible assumption) | (with_reducible refine below_drewN ?_ _) | (with_reducible refine Below.drew ?_) | (with_reducible refine Below.alloc ?_ ?_ _) | (with_reducible refine Below.setCell ?_ ?_ _) | (with_reducible refine below_via (by assumption) ?_ ?_) | go_size))⟩
    · have m := Lib.hid m
      clear h
      go_enter Try.func75, Try.ntmps75
      go_wp2_with (go_at_call 86; refine (head_may _ _).mono ?_; rw [m.out]; rintro e w' ⟨rfl, rfl⟩)
      go_ret2
      exact ⟨by rw [e.out]; rfl, by (repeat' (first | (with_reducible exact Below.refl _ _) | (with_reducible assumption) | (with_reducible refine below_drewN ?_ _) | (with_reducible refine Below.drew ?_) | (with_reducible refine Below.alloc ?_ ?_ _) | (with_reducible refine Below.setCell ?_ ?_ _) | (with_reducible refine below_via (by assumption) ?_ ?_) | go_size))⟩
set_option maxHeartbeats 400000 in
theorem head_Unpack (w : Int) (W : World) : Calls Try.prog 55 #[.int .i64 w] W fun e w' => e = .returned (.tuple #[.int .i64 (dUnTop w), .int .i64 (dUnTag w), .int .i64 (dUnErr w)]) ∧ Below W.heap.size W w' := by
  have h1 := dUnTop_bd w
  have h2 := dUnTag_bd w
  go_enter Try.func55, Try.ntmps55
  go_wp2_with first
    | (go_at_call 80; refine (head_read _ _).mono ?_; rintro e w' ⟨rfl, hb⟩; have hz := hb.size)
    | (go_at_call 81; refine (head_top _ _ _ h1.1 (by omega)).mono ?_; rintro e w' ⟨rfl, rfl⟩)
    | (go_at_call 82; refine (head_tag _ _ _ h2.1 (by omega)).mono ?_; rintro e w' ⟨rfl, rfl⟩)
  go_ret3
  exact ⟨rfl, by (repeat' (first | (with_reducible exact Below.refl _ _) | (with_reducible assumption) | (with_reducible refine below_drewN ?_ _) | (with_reducible refine Below.drew ?_) | (with_reducible refine Below.alloc ?_ ?_ _) | (with_reducible refine Below.setCell ?_ ?_ _) | (with_reducible refine below_via (by assumption) ?_ ?_) | go_size))⟩
theorem un_yes {w : Int} (h : dIs w = true) : dUnTop w = w % 1048576 ∧ dUnTag w = w / 1048576 ∧ dUnErr w = 0 := by
  unfold dUnTop dUnTag dUnErr; simp [h]
theorem un_no {w : Int} (h : dIs w = false) : dUnTop w = 0 ∧ dUnTag w = 0 ∧ dUnErr w = 2 := by
  unfold dUnTop dUnTag dUnErr; simp [h]
set_option maxHeartbeats 1000000 in
theorem head_Pop (w l : Int) (W : World) : Calls Try.prog 62 #[.int .i64 w, .int .i64 l] W fun e w' => e = .returned (.tuple #[.int .i64 (dPop w l).1, .int .i64 (dPop w l).2.1, .int .i64 (dPop w l).2.2]) ∧ Below W.heap.size W w' := by
  rcases bool_cases (b := dIs w) with h | h
  · have hi := dIs_of h
    obtain ⟨u1, u2, u3⟩ := un_yes h
    have U1 := Lib.hid u1
    have U2 := Lib.hid u2
    have U3 := Lib.hid u3
    obtain ⟨i0, i1, i2⟩ := hi
    have t0 : 0 ≤ w % 1048576 := by omega
    have t1 : w % 1048576 < 1048576 := by omega
    have t2 : 0 ≤ w / 1048576 := by omega
    have t3 : w / 1048576 ≤ 4294967295 := by omega
    have nb := dNext_bd t2 t3
    obtain ⟨n0, n1⟩ := nb
    rcases bool_cases (b := dTop l) with m | m
    · have ml : 0 ≤ l ∧ l ≤ 64 := by simpa [dTop] using m
      obtain ⟨l0, l1⟩ := ml
      by_cases c : w % 1048576 = 0
      · have e := Lib.hid (show dPop w l = (0, 0, 11) by unfold dPop; rw [if_pos h, if_pos m, if_pos c])
        have bb : (w % 1048576 == 0) = true := by rw [c]; rfl
        have m := Lib.hid m
        clear c h u1 u2 u3
        go_enter Try.func62, Try.ntmps62
        go_wp2_with first
          | (go_at_call 80; refine (head_read _ _).mono ?_; rw [U1.out, U2.out, U3.out]; rintro e w' ⟨rfl, hb⟩; have hz := hb.size)
          | (go_at_call 86; refine (head_may _ _).mono ?_; rw [m.out]; rintro e w' ⟨rfl, rfl⟩)
          | (go_at_call 81; refine (head_top _ _ _ t0 (by omega)).mono ?_; rintro e w' ⟨rfl, rfl⟩)
        go_ret3
        exact ⟨by rw [e.out]; rfl, by (repeat' (first | (with_reducible exact Below.refl _ _) | (with_reducible assumption) | (with_reducible refine below_drewN ?_ _) | (with_reducible refine Below.drew ?_) | (with_reducible refine Below.alloc ?_ ?_ _) | (with_reducible refine Below.setCell ?_ ?_ _) | (with_reducible refine below_via (by assumption) ?_ ?_) | go_size))⟩
      · have e := Lib.hid (show dPop w l = (l + 1048576 * dNext (w / 1048576), w % 1048576 - 1, 0) by unfold dPop; rw [if_pos h, if_pos m, if_neg c])
        have bb : (w % 1048576 == 0) = false := by simpa using c
        have c0 : 1 ≤ w % 1048576 := by omega
        have m := Lib.hid m
        clear c h u1 u2 u3
        go_enter Try.func62, Try.ntmps62
        go_wp2_with first
          | (go_at_call 80; refine (head_read _ _).mono ?_; rw [U1.out, U2.out, U3.out]; rintro e w' ⟨rfl, hb⟩; have hz := hb.size)
          | (go_at_call 86; refine (head_may _ _).mono ?_; rw [m.out]; rintro e w' ⟨rfl, rfl⟩)
          | (go_at_call 81; refine (head_top _ _ _ t0 (by omega)).mono ?_; rintro e w' ⟨rfl, rfl⟩)
          | (go_at_call 84; refine (head_behind _ _ _ _ t0 t1 t2 t3).mono ?_; rintro e w' ⟨rfl, rfl⟩)
          | (go_at_call 85; refine (head_word _ _ _ l0 (by omega) n0 n1).mono ?_; rintro e w' ⟨rfl, hb⟩; have hz := hb.size)
        go_ret3
        exact ⟨by rw [e.out]; rfl, by (repeat' (first | (with_reducible exact Below.refl _ _) | (with_reducible assumption) | (with_reducible refine below_drewN ?_ _) | (with_reducible refine Below.drew ?_) | (with_reducible refine Below.alloc ?_ ?_ _) | (with_reducible refine Below.setCell ?_ ?_ _) | (with_reducible refine below_via (by assumption) ?_ ?_) | go_size))⟩
    · have e := Lib.hid (show dPop w l = (0, 0, 1) by unfold dPop; rw [if_pos h, if_neg (by rw [m]; decide)])
      have m := Lib.hid m
      clear h u1 u2 u3
      go_enter Try.func62, Try.ntmps62
      go_wp2_with first
        | (go_at_call 80; refine (head_read _ _).mono ?_; rw [U1.out, U2.out, U3.out]; rintro e w' ⟨rfl, hb⟩; have hz := hb.size)
        | (go_at_call 86; refine (head_may _ _).mono ?_; rw [m.out]; rintro e w' ⟨rfl, rfl⟩)
      go_ret3
      exact ⟨by rw [e.out]; rfl, by (repeat' (first | (with_reducible exact Below.refl _ _) | (with_reducible assumption) | (with_reducible refine below_drewN ?_ _) | (with_reducible refine Below.drew ?_) | (with_reducible refine Below.alloc ?_ ?_ _) | (with_reducible refine Below.setCell ?_ ?_ _) | (with_reducible refine below_via (by assumption) ?_ ?_) | go_size))⟩
  · have e := Lib.hid (show dPop w l = (0, 0, 2) by unfold dPop; rw [if_neg (by rw [h]; decide)])
    obtain ⟨u1, u2, u3⟩ := un_no h
    have U1 := Lib.hid u1
    have U2 := Lib.hid u2
    have U3 := Lib.hid u3
    clear h u1 u2 u3
    go_enter Try.func62, Try.ntmps62
    go_wp2_with (go_at_call 80; refine (head_read _ _).mono ?_; rw [U1.out, U2.out, U3.out]; rintro e w' ⟨rfl, hb⟩; have hz := hb.size)
    go_ret3
    exact ⟨by rw [e.out]; rfl, by (repeat' (first | (with_reducible exact Below.refl _ _) | (with_reducible assumption) | (with_reducible refine below_drewN ?_ _) | (with_reducible refine Below.drew ?_) | (with_reducible refine Below.alloc ?_ ?_ _) | (with_reducible refine Below.setCell ?_ ?_ _) | (with_reducible refine below_via (by assumption) ?_ ?_) | go_size))⟩
set_option maxHeartbeats 1000000 in
theorem head_Push (w s : Int) (W : World) : Calls Try.prog 59 #[.int .i64 w, .int .i64 s] W fun e w' => e = .returned (.tuple #[.int .i64 (dPush w s).1, .int .i64 (dPush w s).2.1, .int .i64 (dPush w s).2.2]) ∧ Below W.heap.size W w' := by
  rcases bool_cases (b := dIs w) with h | h
  · have hi := dIs_of h
    obtain ⟨u1, u2, u3⟩ := un_yes h
    have U1 := Lib.hid u1
    have U2 := Lib.hid u2
    have U3 := Lib.hid u3
    obtain ⟨i0, i1, i2⟩ := hi
    have t0 : 0 ≤ w % 1048576 := by omega
    have t1 : w % 1048576 < 1048576 := by omega
    have t2 : 0 ≤ w / 1048576 := by omega
    have t3 : w / 1048576 ≤ 4294967295 := by omega
    have nb := dNext_bd t2 t3
    obtain ⟨n0, n1⟩ := nb
    by_cases c : 0 ≤ s ∧ s < 64
    · have e := Lib.hid (show dPush w s = (s + 1 + 1048576 * dNext (w / 1048576), w % 1048576, 0) by unfold dPush; rw [if_pos h, if_pos c])
      obtain ⟨c0, c1⟩ := c
      clear h u1 u2 u3
      go_enter Try.func59, Try.ntmps59
      go_wp2_with first
        | (go_at_call 80; refine (head_read _ _).mono ?_; rw [U1.out, U2.out, U3.out]; rintro e w' ⟨rfl, hb⟩; have hz := hb.size)
        | (go_at_call 81; refine (head_top _ _ _ t0 (by omega)).mono ?_; rintro e w' ⟨rfl, rfl⟩)
        | (go_at_call 84; refine (head_behind _ _ _ _ t0 t1 t2 t3).mono ?_; rintro e w' ⟨rfl, rfl⟩)
        | (go_at_call 85; refine (head_word _ _ _ (by omega) (by omega) n0 n1).mono ?_; rintro e w' ⟨rfl, hb⟩; have hz := hb.size)
      go_ret3
      exact ⟨by rw [e.out]; rfl, by (repeat' (first | (with_reducible exact Below.refl _ _) | (with_reducible assumption) | (with_reducible refine below_drewN ?_ _) | (with_reducible refine Below.drew ?_) | (with_reducible refine Below.alloc ?_ ?_ _) | (with_reducible refine Below.setCell ?_ ?_ _) | (with_reducible refine below_via (by assumption) ?_ ?_) | go_size))⟩
    · have e := Lib.hid (show dPush w s = (0, 0, 1) by unfold dPush; rw [if_pos h, if_neg c])
      have hh : s < 0 ∨ 64 ≤ s := by omega
      clear h u1 u2 u3 c
      rcases hh with hh | hh
      all_goals
        go_enter Try.func59, Try.ntmps59
        go_wp2_with (go_at_call 80; refine (head_read _ _).mono ?_; rw [U1.out, U2.out, U3.out]; rintro e w' ⟨rfl, hb⟩; have hz := hb.size)
        all_goals first | (exfalso; omega) | (go_ret3; exact ⟨by rw [e.out]; rfl, by (repeat' (first | (with_reducible exact Below.refl _ _) | (with_reducible assumption) | (with_reducible refine below_drewN ?_ _) | (with_reducible refine Below.drew ?_) | (with_reducible refine Below.alloc ?_ ?_ _) | (with_reducible refine Below.setCell ?_ ?_ _) | (with_reducible refine below_via (by assumption) ?_ ?_) | go_size))⟩)
  · have e := Lib.hid (show dPush w s = (0, 0, 2) by unfold dPush; rw [if_neg (by rw [h]; decide)])
    obtain ⟨u1, u2, u3⟩ := un_no h
    have U1 := Lib.hid u1
    have U2 := Lib.hid u2
    have U3 := Lib.hid u3
    clear h u1 u2 u3
    go_enter Try.func59, Try.ntmps59
    go_wp2_with (go_at_call 80; refine (head_read _ _).mono ?_; rw [U1.out, U2.out, U3.out]; rintro e w' ⟨rfl, hb⟩; have hz := hb.size)
    go_ret3
    exact ⟨by rw [e.out]; rfl, by (repeat' (first | (with_reducible exact Below.refl _ _) | (with_reducible assumption) | (with_reducible refine below_drewN ?_ _) | (with_reducible refine Below.drew ?_) | (with_reducible refine Below.alloc ?_ ?_ _) | (with_reducible refine Below.setCell ?_ ?_ _) | (with_reducible refine below_via (by assumption) ?_ ?_) | go_size))⟩
def dOlder (w e : Int) : Bool := decide (0 < w ∧ w - 1 < e)
end Go.Proofs.Ytpebepjfgnoaaaa
