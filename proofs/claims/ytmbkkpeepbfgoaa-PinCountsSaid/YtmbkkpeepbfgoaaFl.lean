/- A whole number below 2^53 as a float, and back. -/
import GoSem.Core.Float
import Derived.Test.YtmbkkpeepbfgoaaBase
namespace Go.Proofs.Ytmbkkpeepbfgoaa
set_option linter.unusedVariables false
set_option linter.unusedSimpArgs false
open Go.RowKit
def fl (n : Int) : Nat := FloatKind.f64.nearest n
theorem fl_nat (n : Nat) : fl (n : Int) = Ieee.double.nearest false n 0 := by
  unfold fl FloatKind.nearest FloatKind.encode FloatKind.format Ieee.Format.write
  have : (decide ((n : Int) < 0)) = false := by simp
  simp [this]
theorem cut_zero (k : Nat) : Ieee.Toward.even.cut false k 0 = k := by
  unfold Ieee.Toward.cut
  simp [Nat.mod_one]
theorem near_last (m : Nat) : max ((0 : Int) + (m : Nat) - Ieee.double.fractionBits) Ieee.double.leastPlace = (m : Int) - 52 := by
  have e1 : Ieee.double.leastPlace = -1074 := by decide
  have e2 : Ieee.double.fractionBits = 52 := rfl
  rw [e1, e2]
  omega
theorem minl (B m y : Nat) (hm : m ≤ 52) (hy : y < 2 * B) : min ((m + 1022) * B + y) (2047 * B) = (m + 1022) * B + y := by
  apply Nat.min_eq_left
  have h : (m + 1022 + 2) * B ≤ 2047 * B := Nat.mul_le_mul_right _ (by omega)
  rw [Nat.add_mul (m + 1022) 2 B] at h
  omega
theorem near_pos (n : Nat) (h0 : 0 < n) (h : n < 2 ^ 53) : Ieee.double.nearest false n 0 = (n.log2 + 1022) * 2 ^ 52 + n * 2 ^ (52 - n.log2) := by
  have hl : n.log2 ≤ 52 := by have := (Nat.log2_lt (by omega : n ≠ 0)).2 h; omega
  have h1 : n < 2 ^ (n.log2 + 1) := Nat.lt_log2_self
  have h2 : n * 2 ^ (52 - n.log2) < 2 ^ 53 := by
    calc n * 2 ^ (52 - n.log2) < 2 ^ (n.log2 + 1) * 2 ^ (52 - n.log2) := Nat.mul_lt_mul_of_pos_right h1 (Nat.two_pow_pos _)
      _ = 2 ^ (n.log2 + 1 + (52 - n.log2)) := (Nat.pow_add ..).symm
      _ = 2 ^ 53 := by congr 1; omega
  unfold Ieee.Format.nearest
  rw [if_neg (by omega)]
  rw [near_last]
  have e1 : ((0 : Int) - ((n.log2 : Int) - 52)).toNat = 52 - n.log2 := by omega
  have e2 : (((n.log2 : Int) - 52) - 0).toNat = 0 := by omega
  have e0 : Ieee.double.leastPlace = -1074 := by decide
  have e3 : (((n.log2 : Int) - 52) - Ieee.double.leastPlace).toNat = n.log2 + 1022 := by rw [e0]; omega
  simp only [e1, e2, e3, cut_zero, Nat.shiftLeft_eq]
  have e5 : Ieee.double.infRung = 2047 * 2 ^ 52 := rfl
  have e6 : Ieee.double.binade = 2 ^ 52 := rfl
  rw [e5, e6]
  unfold Ieee.Format.word
  simp only [Bool.false_eq_true, if_false]
  exact minl (2 ^ 52) n.log2 _ hl (by have e : 2 * 2 ^ 52 = 2 ^ 53 := by decide
                                      rw [e]; exact h2)
theorem fl_back (n : Nat) (h : n < 2 ^ 53) : (FloatKind.f64.decode (fl (n : Int))).toInt .zero = some (n : Int) := by
  rw [fl_nat]
  by_cases h0 : n = 0
  · subst h0; decide
  · have hl : n.log2 ≤ 52 := by have := (Nat.log2_lt h0).2 h; omega
    have h1 : n < 2 ^ (n.log2 + 1) := Nat.lt_log2_self
    have h1' : 2 ^ n.log2 ≤ n := Nat.log2_self_le h0
    have h2 : n * 2 ^ (52 - n.log2) < 2 ^ 53 := by
      calc n * 2 ^ (52 - n.log2) < 2 ^ (n.log2 + 1) * 2 ^ (52 - n.log2) := Nat.mul_lt_mul_of_pos_right h1 (Nat.two_pow_pos _)
        _ = 2 ^ (n.log2 + 1 + (52 - n.log2)) := (Nat.pow_add ..).symm
        _ = 2 ^ 53 := by congr 1; omega
    have h3 : 2 ^ 52 ≤ n * 2 ^ (52 - n.log2) := by
      calc 2 ^ 52 = 2 ^ (n.log2 + (52 - n.log2)) := by congr 1; omega
        _ = 2 ^ n.log2 * 2 ^ (52 - n.log2) := Nat.pow_add ..
        _ ≤ n * 2 ^ (52 - n.log2) := Nat.mul_le_mul_right _ h1'
    rw [near_pos n (by omega) h]
    generalize hy : n * 2 ^ (52 - n.log2) = y at h2 h3
    generalize hm : n.log2 = m at hl hy
    have e1 : ((m + 1022) * 2 ^ 52 + y) / 2 ^ 63 % 2 = 0 := by omega
    have e2 : ((m + 1022) * 2 ^ 52 + y) % 2 ^ 63 = (m + 1022) * 2 ^ 52 + y := by omega
    have e3 : ((m + 1022) * 2 ^ 52 + y) % 2 ^ 52 = y - 2 ^ 52 := by omega
    have e4 : ((m + 1022) * 2 ^ 52 + y) / 2 ^ 52 = m + 1023 := by omega
    have hw : Ieee.double.signWeight = 2 ^ 63 := rfl
    have hb : Ieee.double.binade = 2 ^ 52 := rfl
    have hi : Ieee.double.infRung = 2047 * 2 ^ 52 := rfl
    have hr : (FloatKind.f64.decode ((m + 1022) * 2 ^ 52 + y)) = .number false y ((m : Int) - 52) := by
      unfold FloatKind.decode FloatKind.format Ieee.Format.read
      simp only [hw, hb, hi, e1, e2, e3, e4]
      rw [if_neg (by omega), if_pos (by omega)]
      have e5 : (2 ^ 52 + (y - 2 ^ 52)) = y := by omega
      have e6 : Ieee.double.leastPlace + ((m + 1023 - 1 : Nat) : Int) = (m : Int) - 52 := by
        show (2 - 2 ^ (11 - 1) - (52 : Nat) : Int) + ((m + 1023 - 1 : Nat) : Int) = _
        omega
      rw [e5, e6]
      rfl
    rw [hr]
    unfold Ieee.Datum.toInt Ieee.Datum.integral
    simp only
    have e7 : ((m : Int) - 52).toNat = 0 := by omega
    have e8 : (-((m : Int) - 52)).toNat = 52 - m := by omega
    rw [e7, e8]
    have e9 : Ieee.Toward.zero.cut false (y <<< 0) (52 - m) = n := by
      unfold Ieee.Toward.cut
      have hy0 : y.log2 = 52 := by
        have a1 : 52 ≤ y.log2 := (Nat.le_log2 (by omega)).2 h3
        have a2 : y.log2 < 53 := (Nat.log2_lt (by omega)).2 h2
        omega
      simp only [Nat.shiftLeft_zero, hy0]
      have hmn : min (52 - m) (52 + 2) = 52 - m := by omega
      rw [hmn, Nat.shiftLeft_eq, Nat.one_mul, ← hy, Nat.mul_div_cancel _ (Nat.two_pow_pos _)]
      simp
    rw [e9]
    simp [Ieee.signed]
end Go.Proofs.Ytmbkkpeepbfgoaa
