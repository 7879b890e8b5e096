/- What field's functions tell, as functions of numbers; the bits of a word. -/
import Derived.Test.YtmbkkpeepbfgoaaBase
namespace Go.Proofs.Ytmbkkpeepbfgoaa
set_option linter.unusedVariables false
set_option linter.unusedSimpArgs false
open Go.RowKit
/-- two to the power of n. -/
def pw (n : Int) : Int := 2 ^ n.toNat
def fMay (p b : Int) : Bool := decide (0 ≤ p ∧ 1 ≤ b ∧ b ≤ 32 ∧ p ≤ 62 - b)
def fWord (w : Int) : Bool := decide (0 ≤ w ∧ w < 4611686018427387904)
def fGet (w p b : Int) : Int := if fWord w = true ∧ fMay p b = true then w / pw p % pw b else 0
def fPut (w p b n : Int) : Int × Int :=
  if ¬ (fWord w = true ∧ fMay p b = true ∧ 0 ≤ n) then (0, 1) else if pw b - 1 < n then (0, 3) else (w - fGet w p b * pw p + n * pw p, 0)
def fAdd (w p b y : Int) : Int × Int :=
  if ¬ (fWord w = true ∧ fMay p b = true) then (0, 1) else if y < - fGet w p b ∨ pw b - 1 - fGet w p b < y then (0, 3) else fPut w p b (fGet w p b + y)
def fTop (w p b y : Int) : Int :=
  if ¬ (fWord w = true ∧ fMay p b = true) then 0
  else (fPut w p b (if pw b - 1 - fGet w p b < y then pw b - 1 else if - fGet w p b ≤ y then fGet w p b + y else 0)).1
def fMost (p b : Int) : Int := if fMay p b = true then pw b - 1 else -1
def fChk (p b : Int) : Int := if fMay p b = true then 0 else 1
theorem fMost_y {p b : Int} (h : fMay p b = true) : fMost p b = pw b - 1 := if_pos h
theorem fMost_n {p b : Int} (h : fMay p b = false) : fMost p b = -1 := if_neg (by rw [h]; decide)
theorem fChk_y {p b : Int} (h : fMay p b = true) : fChk p b = 0 := if_pos h
theorem fChk_n {p b : Int} (h : fMay p b = false) : fChk p b = 1 := if_neg (by rw [h]; decide)
theorem pw_pos (n : Int) : 0 < pw n := by unfold pw; exact Int.pow_pos (by decide)
theorem pw_nat (n : Nat) : pw (n : Int) = ((2 ^ n : Nat) : Int) := by unfold pw; simp
theorem nat_mask (p b j : Nat) : ((2 ^ b - 1) * 2 ^ p : Nat).testBit j = (decide (p ≤ j) && decide (j - p < b)) := by
  rw [Nat.mul_comm, Nat.testBit_two_pow_mul, Nat.testBit_two_pow_sub_one]
theorem nat_get (a p b : Nat) : (a &&& (2 ^ b - 1) * 2 ^ p) / 2 ^ p = a / 2 ^ p % 2 ^ b := by
  apply Nat.eq_of_testBit_eq
  intro j
  rw [Nat.testBit_div_two_pow, Nat.testBit_and, nat_mask, Nat.testBit_mod_two_pow, Nat.testBit_div_two_pow]
  by_cases h : j < b <;> simp [h]
theorem nat_put (a n p b : Nat) (hn : n < 2 ^ b) (x : Nat) (hx : ∀ j, x.testBit j = (a.testBit j && !(decide (p ≤ j) && decide (j - p < b)))) :
    (x ||| n * 2 ^ p) = a - a / 2 ^ p % 2 ^ b * 2 ^ p + n * 2 ^ p := by
  have e : a - a / 2 ^ p % 2 ^ b * 2 ^ p + n * 2 ^ p = 2 ^ p * (2 ^ b * (a / 2 ^ p / 2 ^ b) + n) + a % 2 ^ p := by
    have h1 := Nat.div_add_mod a (2 ^ p)
    have h2 := Nat.div_add_mod (a / 2 ^ p) (2 ^ b)
    have h3 : 2 ^ p * (2 ^ b * (a / 2 ^ p / 2 ^ b) + n) = 2 ^ p * (2 ^ b * (a / 2 ^ p / 2 ^ b)) + n * 2 ^ p := by rw [Nat.mul_add, Nat.mul_comm n]
    have h4 : 2 ^ p * (a / 2 ^ p) = 2 ^ p * (2 ^ b * (a / 2 ^ p / 2 ^ b)) + a / 2 ^ p % 2 ^ b * 2 ^ p := by
      rw [Nat.mul_comm _ (2 ^ p), ← Nat.mul_add, h2]
    omega
  rw [e]
  apply Nat.eq_of_testBit_eq
  intro j
  rw [Nat.testBit_or, hx, Nat.mul_comm n, Nat.testBit_two_pow_mul, Nat.testBit_two_pow_mul_add _ (Nat.mod_lt _ (Nat.two_pow_pos p)), Nat.testBit_two_pow_mul_add _ hn, Nat.testBit_mod_two_pow]
  by_cases h : j < p
  · have h' : ¬ p ≤ j := by omega
    simp [h, h']
  · have h' : p ≤ j := by omega
    by_cases h2 : j - p < b
    · simp [h, h', h2]
    · have e2 : (n.testBit (j - p)) = false := Nat.testBit_lt_two_pow (Nat.lt_of_lt_of_le hn (Nat.pow_le_pow_right (by decide) (by omega)))
      simp only [h, h', h2, if_false, e2, Nat.testBit_div_two_pow]
      have e3 : j - p - b + b + p = j := by omega
      simp [e3]
theorem mask_lt (p b : Nat) (h : p + b ≤ 62) : (2 ^ b - 1) * 2 ^ p < 2 ^ 62 := by
  have h1 : 2 ^ b - 1 < 2 ^ b := Nat.sub_lt (Nat.two_pow_pos b) (by decide)
  calc (2 ^ b - 1) * 2 ^ p < 2 ^ b * 2 ^ p := Nat.mul_lt_mul_of_pos_right h1 (Nat.two_pow_pos p)
    _ = 2 ^ (b + p) := (Nat.pow_add ..).symm
    _ ≤ 2 ^ 62 := Nat.pow_le_pow_right (by decide) (by omega)
/-- the bits of a mask, taken out and moved down. -/
theorem bits_get (a p b : Nat) (ha : a < 2 ^ 62) (h : p + b ≤ 62) : bits .and .i64 (a : Int) (((2 ^ b - 1) * 2 ^ p : Nat) : Int) / ((2 ^ p : Nat) : Int) = ((a / 2 ^ p % 2 ^ b : Nat) : Int) := by
  rw [(bits_nat .i64 62 (by decide) (fun n h0 h1 => i64small n h0 (by omega)) a _ ha (mask_lt p b h)).1, ← nat_get a p b]
  exact (Int.natCast_ediv _ _).symm
theorem bits_andNot (a m : Nat) (ha : a < 2 ^ 62) (hm : m < 2 ^ 62) : ∃ x : Nat, bits .andNot .i64 (a : Int) (m : Int) = (x : Int) ∧ x < 2 ^ 62 ∧ ∀ j, x.testBit j = (a.testBit j && !m.testBit j) := by
  refine ⟨(BitVec.ofNat 64 a &&& ~~~ BitVec.ofNat 64 m).toNat, ?_, ?_, ?_⟩
  · have h1 : (BitVec.ofNat 64 a &&& ~~~ BitVec.ofNat 64 m).toNat < 2 ^ 62 := by
      rw [BitVec.toNat_and]
      refine Nat.lt_of_le_of_lt Nat.and_le_left ?_
      rw [BitVec.toNat_ofNat]; exact Nat.lt_of_le_of_lt (Nat.mod_le _ _) ha
    simp only [bits, BitVec.ofInt_natCast, IntKind.bits]
    have h2 : ((BitVec.ofNat 64 a &&& ~~~ BitVec.ofNat 64 m).toNat : Int) < 2 ^ 62 := by exact_mod_cast h1
    exact i64small _ (Int.natCast_nonneg _) (Int.lt_of_lt_of_le h2 (by decide))
  · rw [BitVec.toNat_and]
    refine Nat.lt_of_le_of_lt Nat.and_le_left ?_
    rw [BitVec.toNat_ofNat]; exact Nat.lt_of_le_of_lt (Nat.mod_le _ _) ha
  · intro j
    have ea : (BitVec.ofNat 64 a).toNat = a := by rw [BitVec.toNat_ofNat]; exact Nat.mod_eq_of_lt (by omega)
    have em : (BitVec.ofNat 64 m).toNat = m := by rw [BitVec.toNat_ofNat]; exact Nat.mod_eq_of_lt (by omega)
    rw [BitVec.testBit_toNat, BitVec.getLsbD_and, BitVec.getLsbD_not, ← BitVec.testBit_toNat, ← BitVec.testBit_toNat, ea, em]
    by_cases h : j < 64
    · simp [h]
    · have : a.testBit j = false := Nat.testBit_lt_two_pow (Nat.lt_of_lt_of_le ha (Nat.pow_le_pow_right (by decide) (by omega)))
      simp [h, this]
theorem put_lt (a n p b : Nat) (ha : a < 2 ^ 62) (hn : n < 2 ^ b) (h : p + b ≤ 62) : a - a / 2 ^ p % 2 ^ b * 2 ^ p + n * 2 ^ p < 2 ^ 62 := by
  obtain ⟨x, hx, hl, hb⟩ := bits_andNot a ((2 ^ b - 1) * 2 ^ p) ha (mask_lt p b h)
  rw [← nat_put a n p b hn x (fun j => by rw [hb j, nat_mask])]
  refine Nat.or_lt_two_pow hl ?_
  calc n * 2 ^ p < 2 ^ b * 2 ^ p := Nat.mul_lt_mul_of_pos_right hn (Nat.two_pow_pos p)
    _ = 2 ^ (b + p) := (Nat.pow_add ..).symm
    _ ≤ 2 ^ 62 := Nat.pow_le_pow_right (by decide) (by omega)
theorem bits_put (a n p b : Nat) (ha : a < 2 ^ 62) (hn : n < 2 ^ b) (h : p + b ≤ 62) :
    bits .or .i64 (bits .andNot .i64 (a : Int) (((2 ^ b - 1) * 2 ^ p : Nat) : Int)) ((n * 2 ^ p : Nat) : Int) = ((a - a / 2 ^ p % 2 ^ b * 2 ^ p + n * 2 ^ p : Nat) : Int) := by
  obtain ⟨x, hx, hl, hb⟩ := bits_andNot a ((2 ^ b - 1) * 2 ^ p) ha (mask_lt p b h)
  have hn2 : n * 2 ^ p < 2 ^ 62 := by
    calc n * 2 ^ p < 2 ^ b * 2 ^ p := Nat.mul_lt_mul_of_pos_right hn (Nat.two_pow_pos p)
      _ = 2 ^ (b + p) := (Nat.pow_add ..).symm
      _ ≤ 2 ^ 62 := Nat.pow_le_pow_right (by decide) (by omega)
  rw [hx, (bits_nat .i64 62 (by decide) (fun n h0 h1 => i64small n h0 (by omega)) x _ hl hn2).2, nat_put a n p b hn x (fun j => by rw [hb j, nat_mask])]
end Go.Proofs.Ytmbkkpeepbfgoaa
