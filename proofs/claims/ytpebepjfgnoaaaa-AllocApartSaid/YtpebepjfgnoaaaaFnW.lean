/- What field's functions tell, as functions of numbers; the bits of a word. -/
import Derived.Deep.RegionHeld3
import Derived.Deep.RegionWith
import Derived.Test.YtpebepjfgnoaaaaBase
import Derived.Test.YtpebepjfgnoaaaaProg
namespace Go.Proofs.Ytpebepjfgnoaaaa
set_option linter.unusedVariables false
set_option linter.unusedSimpArgs false
open Go.RowKit
/-- two to the power of n. -/
def pw (n : Int) : Int := 2 ^ n.toNat
def fMay (p b : Int) : Bool := decide (0 ≤ p ∧ 1 ≤ b ∧ b ≤ 32 ∧ p ≤ 62 - b)
def fWord (w : Int) : Bool := decide (0 ≤ w ∧ w < 4611686018427387904)
def fGet (w p b : Int) : Int := if fWord w = true ∧ fMay p b = true then w / pw p % pw b else 0
def fPut (w p b n : Int) : Int × Int :=
  if ¬ (fWord w = true ∧ fMay p b = true ∧ 0 ≤ n) then (0, 1) else if pw b - 1 < n then (0, 3) else (w - fGet w p b * pw p + n * pw p, 0)
def fAdd (w p b y : Int) : Int × Int :=
  if ¬ (fWord w = true ∧ fMay p b = true) then (0, 1) else if y < - fGet w p b ∨ pw b - 1 - fGet w p b < y then (0, 3) else fPut w p b (fGet w p b + y)
def fTop (w p b y : Int) : Int :=
  if ¬ (fWord w = true ∧ fMay p b = true) then 0
  else (fPut w p b (if pw b - 1 - fGet w p b < y then pw b - 1 else if - fGet w p b ≤ y then fGet w p b + y else 0)).1
def fMost (p b : Int) : Int := if fMay p b = true then pw b - 1 else -1
def fChk (p b : Int) : Int := if fMay p b = true then 0 else 1
theorem fMost_y {p b : Int} (h : fMay p b = true) : fMost p b = pw b - 1 := if_pos h
theorem fMost_n {p b : Int} (h : fMay p b = false) : fMost p b = -1 := if_neg (by rw [h]; decide)
theorem fChk_y {p b : Int} (h : fMay p b = true) : fChk p b = 0 := if_pos h
theorem fChk_n {p b : Int} (h : fMay p b = false) : fChk p b = 1 := if_neg (by rw [h]; decide)
theorem pw_pos (n : Int) : 0 < pw n := by unfold pw; exact Int.pow_pos (by decide)
theorem pw_nat (n : Nat) : pw (n : Int) = ((2 ^ n : Nat) : Int) := by unfold pw; simp
theorem nat_mask (p b j : Nat) : ((2 ^ b - 1) * 2 ^ p : Nat).testBit j = (decide (p ≤ j) && decide (j - p < b)) := by
  rw [Nat.mul_comm, Nat.testBit_two_pow_mul, Nat.testBit_two_pow_sub_one]
theorem nat_get (a p b : Nat) : (a &&& (2 ^ b - 1) * 2 ^ p) / 2 ^ p = a / 2 ^ p % 2 ^ b := by
  apply Nat.eq_of_testBit_eq
  intro j
  rw [Nat.testBit_div_two_pow, Nat.testBit_and, nat_mask, Nat.testBit_mod_two_pow, Nat.testBit_div_two_pow]
  by_cases h : j < b <;> simp [h]
theorem nat_put (a n p b : Nat) (hn : n < 2 ^ b) (x : Nat) (hx : ∀ j, x.testBit j = (a.testBit j && !(decide (p ≤ j) && decide (j - p < b)))) :
    (x ||| n * 2 ^ p) = a - a / 2 ^ p % 2 ^ b * 2 ^ p + n * 2 ^ p := by
  have e : a - a / 2 ^ p % 2 ^ b * 2 ^ p + n * 2 ^ p = 2 ^ p * (2 ^ b * (a / 2 ^ p / 2 ^ b) + n) + a % 2 ^ p := by
    have h1 := Nat.div_add_mod a (2 ^ p)
    have h2 := Nat.div_add_mod (a / 2 ^ p) (2 ^ b)
    have h3 : 2 ^ p * (2 ^ b * (a / 2 ^ p / 2 ^ b) + n) = 2 ^ p * (2 ^ b * (a / 2 ^ p / 2 ^ b)) + n * 2 ^ p := by rw [Nat.mul_add, Nat.mul_comm n]
    have h4 : 2 ^ p * (a / 2 ^ p) = 2 ^ p * (2 ^ b * (a / 2 ^ p / 2 ^ b)) + a / 2 ^ p % 2 ^ b * 2 ^ p := by
      rw [Nat.mul_comm _ (2 ^ p), ← Nat.mul_add, h2]
    omega
  rw [e]
  apply Nat.eq_of_testBit_eq
  intro j
  rw [Nat.testBit_or, hx, Nat.mul_comm n, Nat.testBit_two_pow_mul, Nat.testBit_two_pow_mul_add _ (Nat.mod_lt _ (Nat.two_pow_pos p)), Nat.testBit_two_pow_mul_add _ hn, Nat.testBit_mod_two_pow]
  by_cases h : j < p
  · have h' : ¬ p ≤ j := by omega
    simp [h, h']
  · have h' : p ≤ j := by omega
    by_cases h2 : j - p < b
    · simp [h, h', h2]
    · have e2 : (n.testBit (j - p)) = false := Nat.testBit_lt_two_pow (Nat.lt_of_lt_of_le hn (Nat.pow_le_pow_right (by decide) (by omega)))
      simp only [h, h', h2, if_false, e2, Nat.testBit_div_two_pow]
      have e3 : j - p - b + b + p = j := by omega
      simp [e3]
theorem mask_lt (p b : Nat) (h : p + b ≤ 62) : (2 ^ b - 1) * 2 ^ p < 2 ^ 62 := by
  have h1 : 2 ^ b - 1 < 2 ^ b := Nat.sub_lt (Nat.two_pow_pos b) (by decide)
  calc (2 ^ b - 1) * 2 ^ p < 2 ^ b * 2 ^ p := Nat.mul_lt_mul_of_pos_right h1 (Nat.two_pow_pos p)
    _ = 2 ^ (b + p) := (Nat.pow_add ..).symm
    _ ≤ 2 ^ 62 := Nat.pow_le_pow_right (by decide) (by omega)
/-- the bits of a mask, taken out and moved down. -/
theorem bits_get (a p b : Nat) (ha : a < 2 ^ 62) (h : p + b ≤ 62) : bits .and .i64 (a : Int) (((2 ^ b - 1) * 2 ^ p : Nat) : Int) / ((2 ^ p : Nat) : Int) = ((a / 2 ^ p % 2 ^ b : Nat) : Int) := by
  rw [(bits_nat .i64 62 (by decide) (fun n h0 h1 => i64small n h0 (by omega)) a _ ha (mask_lt p b h)).1, ← nat_get a p b]
  exact (Int.natCast_ediv _ _).symm
theorem bits_andNot (a m : Nat) (ha : a < 2 ^ 62) (hm : m < 2 ^ 62) : ∃ x : Nat, bits .andNot .i64 (a : Int) (m : Int) = (x : Int) ∧ x < 2 ^ 62 ∧ ∀ j, x.testBit j = (a.testBit j && !m.testBit j) := by
  refine ⟨(BitVec.ofNat 64 a &&& ~~~ BitVec.ofNat 64 m).toNat, ?_, ?_, ?_⟩
  · have h1 : (BitVec.ofNat 64 a &&& ~~~ BitVec.ofNat 64 m).toNat < 2 ^ 62 := by
      rw [BitVec.toNat_and]
      refine Nat.lt_of_le_of_lt Nat.and_le_left ?_
      rw [BitVec.toNat_ofNat]; exact Nat.lt_of_le_of_lt (Nat.mod_le _ _) ha
    simp only [bits, BitVec.ofInt_natCast, IntKind.bits]
    have h2 : ((BitVec.ofNat 64 a &&& ~~~ BitVec.ofNat 64 m).toNat : Int) < 2 ^ 62 := by exact_mod_cast h1
    exact i64small _ (Int.natCast_nonneg _) (Int.lt_of_lt_of_le h2 (by decide))
  · rw [BitVec.toNat_and]
    refine Nat.lt_of_le_of_lt Nat.and_le_left ?_
    rw [BitVec.toNat_ofNat]; exact Nat.lt_of_le_of_lt (Nat.mod_le _ _) ha
  · intro j
    have ea : (BitVec.ofNat 64 a).toNat = a := by rw [BitVec.toNat_ofNat]; exact Nat.mod_eq_of_lt (by omega)
    have em : (BitVec.ofNat 64 m).toNat = m := by rw [BitVec.toNat_ofNat]; exact Nat.mod_eq_of_lt (by omega)
    rw [BitVec.testBit_toNat, BitVec.getLsbD_and, BitVec.getLsbD_not, ← BitVec.testBit_toNat, ← BitVec.testBit_toNat, ea, em]
    by_cases h : j < 64
    · simp [h]
    · have : a.testBit j = false := Nat.testBit_lt_two_pow (Nat.lt_of_lt_of_le ha (Nat.pow_le_pow_right (by decide) (by omega)))
      simp [h, this]
theorem put_lt (a n p b : Nat) (ha : a < 2 ^ 62) (hn : n < 2 ^ b) (h : p + b ≤ 62) : a - a / 2 ^ p % 2 ^ b * 2 ^ p + n * 2 ^ p < 2 ^ 62 := by
  obtain ⟨x, hx, hl, hb⟩ := bits_andNot a ((2 ^ b - 1) * 2 ^ p) ha (mask_lt p b h)
  rw [← nat_put a n p b hn x (fun j => by rw [hb j, nat_mask])]
  refine Nat.or_lt_two_pow hl ?_
  calc n * 2 ^ p < 2 ^ b * 2 ^ p := Nat.mul_lt_mul_of_pos_right hn (Nat.two_pow_pos p)
    _ = 2 ^ (b + p) := (Nat.pow_add ..).symm
    _ ≤ 2 ^ 62 := Nat.pow_le_pow_right (by decide) (by omega)
theorem bits_put (a n p b : Nat) (ha : a < 2 ^ 62) (hn : n < 2 ^ b) (h : p + b ≤ 62) :
    bits .or .i64 (bits .andNot .i64 (a : Int) (((2 ^ b - 1) * 2 ^ p : Nat) : Int)) ((n * 2 ^ p : Nat) : Int) = ((a - a / 2 ^ p % 2 ^ b * 2 ^ p + n * 2 ^ p : Nat) : Int) := by
  obtain ⟨x, hx, hl, hb⟩ := bits_andNot a ((2 ^ b - 1) * 2 ^ p) ha (mask_lt p b h)
  have hn2 : n * 2 ^ p < 2 ^ 62 := by
    calc n * 2 ^ p < 2 ^ b * 2 ^ p := Nat.mul_lt_mul_of_pos_right hn (Nat.two_pow_pos p)
      _ = 2 ^ (b + p) := (Nat.pow_add ..).symm
      _ ≤ 2 ^ 62 := Nat.pow_le_pow_right (by decide) (by omega)
  rw [hx, (bits_nat .i64 62 (by decide) (fun n h0 h1 => i64small n h0 (by omega)) x _ hl hn2).2, nat_put a n p b hn x (fun j => by rw [hb j, nat_mask])]
end Go.Proofs.Ytpebepjfgnoaaaa
namespace Go.Proofs.Ytpebepjfgnoaaaa
set_option linter.unusedVariables false
set_option linter.unusedSimpArgs false
open Go.RowKit
def nPut (a p b n : Nat) : Nat := a - a / 2 ^ p % 2 ^ b * 2 ^ p + n * 2 ^ p
theorem nPut_bit (a p b n j : Nat) (ha : a < 2 ^ 62) (hn : n < 2 ^ b) (h : p + b ≤ 62) : (nPut a p b n).testBit j = if p ≤ j ∧ j - p < b then n.testBit (j - p) else a.testBit j := by
  obtain ⟨x, _, hl, hb⟩ := bits_andNot a ((2 ^ b - 1) * 2 ^ p) ha (mask_lt p b h)
  unfold nPut
  rw [← nat_put a n p b hn x (fun j => by rw [hb j, nat_mask]), Nat.testBit_or, hb, nat_mask, Nat.mul_comm n, Nat.testBit_two_pow_mul]
  by_cases h1 : p ≤ j
  · by_cases h2 : j - p < b
    · simp [h1, h2]
    · have : n.testBit (j - p) = false := Nat.testBit_lt_two_pow (Nat.lt_of_lt_of_le hn (Nat.pow_le_pow_right (by decide) (by omega)))
      simp [h1, h2, this]
  · simp [h1]
theorem nPut_lt (a p b n : Nat) (ha : a < 2 ^ 62) (hn : n < 2 ^ b) (h : p + b ≤ 62) : nPut a p b n < 2 ^ 62 := put_lt a n p b ha hn h
theorem nGet_put (a p b n : Nat) (ha : a < 2 ^ 62) (hn : n < 2 ^ b) (h : p + b ≤ 62) : nPut a p b n / 2 ^ p % 2 ^ b = n := by
  apply Nat.eq_of_testBit_eq
  intro j
  rw [Nat.testBit_mod_two_pow, Nat.testBit_div_two_pow, nPut_bit a p b n _ ha hn h]
  by_cases h2 : j < b
  · simp [h2]
  · have : n.testBit j = false := Nat.testBit_lt_two_pow (Nat.lt_of_lt_of_le hn (Nat.pow_le_pow_right (by decide) (by omega)))
    simp [h2, this]
theorem nGet_other (a p b n q c : Nat) (ha : a < 2 ^ 62) (hn : n < 2 ^ b) (h : p + b ≤ 62) (hd : q + c ≤ p ∨ p + b ≤ q) : nPut a p b n / 2 ^ q % 2 ^ c = a / 2 ^ q % 2 ^ c := by
  apply Nat.eq_of_testBit_eq
  intro j
  rw [Nat.testBit_mod_two_pow, Nat.testBit_div_two_pow, nPut_bit a p b n _ ha hn h, Nat.testBit_mod_two_pow, Nat.testBit_div_two_pow]
  by_cases h2 : j < c
  · rw [if_neg (by omega)]
  · simp [h2]
theorem nPut_put (a p b n m : Nat) (ha : a < 2 ^ 62) (hn : n < 2 ^ b) (hm : m < 2 ^ b) (h : p + b ≤ 62) : nPut (nPut a p b n) p b m = nPut a p b m := by
  apply Nat.eq_of_testBit_eq
  intro j
  rw [nPut_bit _ p b m j (nPut_lt a p b n ha hn h) hm h, nPut_bit a p b n j ha hn h, nPut_bit a p b m j ha hm h]
  split <;> rfl
theorem nPut_get (a p b : Nat) : nPut a p b (a / 2 ^ p % 2 ^ b) = a := by
  have hle : a / 2 ^ p % 2 ^ b * 2 ^ p ≤ a := by
    calc a / 2 ^ p % 2 ^ b * 2 ^ p ≤ a / 2 ^ p * 2 ^ p := Nat.mul_le_mul_right _ (Nat.mod_le _ _)
      _ ≤ a := Nat.div_mul_le_self _ _
  unfold nPut
  omega
theorem fMay_nat {p b : Int} (h : fMay p b = true) : ∃ q c : Nat, p = q ∧ b = c ∧ q + c ≤ 62 ∧ 1 ≤ c ∧ c ≤ 32 := by
  have h' : 0 ≤ p ∧ 1 ≤ b ∧ b ≤ 32 ∧ p ≤ 62 - b := by simpa [fMay] using h
  obtain ⟨q, rfl⟩ := Int.eq_ofNat_of_zero_le h'.1
  obtain ⟨c, rfl⟩ := Int.eq_ofNat_of_zero_le (show 0 ≤ b by omega)
  exact ⟨q, c, rfl, rfl, by omega, by omega, by omega⟩
theorem fWord_nat {w : Int} (h : fWord w = true) : ∃ a : Nat, w = a ∧ a < 2 ^ 62 := by
  have h' : 0 ≤ w ∧ w < 4611686018427387904 := by simpa [fWord] using h
  obtain ⟨a, rfl⟩ := Int.eq_ofNat_of_zero_le h'.1
  exact ⟨a, rfl, by omega⟩
theorem fWord_of {a : Nat} (h : a < 2 ^ 62) : fWord (a : Int) = true := by unfold fWord; simp only [decide_eq_true_eq]; omega
theorem fGet_of {a q c : Nat} (h : a < 2 ^ 62) (hm : fMay (q : Int) (c : Int) = true) : fGet (a : Int) (q : Int) (c : Int) = ((a / 2 ^ q % 2 ^ c : Nat) : Int) := by
  unfold fGet; rw [if_pos ⟨fWord_of h, hm⟩, pw_nat, pw_nat]; simp
theorem fPut_of {a q c k : Nat} (h : a < 2 ^ 62) (hm : fMay (q : Int) (c : Int) = true) (hk : k < 2 ^ c) : fPut (a : Int) (q : Int) (c : Int) (k : Int) = (((nPut a q c k : Nat) : Int), 0) := by
  have hle : a / 2 ^ q % 2 ^ c * 2 ^ q ≤ a := by
    calc a / 2 ^ q % 2 ^ c * 2 ^ q ≤ a / 2 ^ q * 2 ^ q := Nat.mul_le_mul_right _ (Nat.mod_le _ _)
      _ ≤ a := Nat.div_mul_le_self _ _
  unfold fPut
  rw [if_neg (by simp [fWord_of h, hm]), if_neg (by rw [pw_nat]; omega), fGet_of h hm, pw_nat]
  unfold nPut
  rw [Int.natCast_add, Int.natCast_sub hle]; simp
/-- what a Put that is told OK says. -/
theorem fPut_inv {w p b n : Int} (h : (fPut w p b n).2 = 0) : fWord w = true ∧ fMay p b = true ∧ 0 ≤ n ∧ n ≤ pw b - 1 := by
  unfold fPut at h
  split at h
  · exact absurd h (by decide)
  · rename_i h1
    split at h
    · exact absurd h (by decide)
    · have h1 := Classical.not_not.1 h1
      exact ⟨h1.1, h1.2.1, h1.2.2, by omega⟩
theorem fPut_bad {w p b n : Int} (h : (fPut w p b n).2 ≠ 0) : (fPut w p b n).1 = 0 := by
  unfold fPut at h ⊢
  split
  · rfl
  · rename_i h1
    rw [if_neg h1] at h
    split
    · rfl
    · rename_i h2; rw [if_neg h2] at h; exact absurd rfl h
theorem put_all {w p b n : Int} (hw : fWord w = true) (h : fMay p b = true) (h0 : 0 ≤ n) (h1 : n ≤ pw b - 1) :
    ∃ v, fPut w p b n = (v, 0) ∧ fWord v = true ∧ fGet v p b = n ∧ (∀ m, 0 ≤ m → m ≤ pw b - 1 → fPut v p b m = fPut w p b m) ∧
      (∀ q c, fMay q c = true → (q + c ≤ p ∨ p + b ≤ q) → fGet v q c = fGet w q c) := by
  obtain ⟨q, c, rfl, rfl, hqc, _, _⟩ := fMay_nat h
  obtain ⟨a, rfl, ha⟩ := fWord_nat hw
  obtain ⟨k, rfl⟩ := Int.eq_ofNat_of_zero_le h0
  have hk : k < 2 ^ c := by rw [pw_nat] at h1; omega
  have hl := nPut_lt a q c k ha hk hqc
  refine ⟨((nPut a q c k : Nat) : Int), fPut_of ha h hk, fWord_of hl, ?_, ?_, ?_⟩
  · rw [fGet_of hl h, nGet_put a q c k ha hk hqc]
  · intro m m0 m1
    obtain ⟨j, rfl⟩ := Int.eq_ofNat_of_zero_le m0
    have hj : j < 2 ^ c := by rw [pw_nat] at m1; omega
    rw [fPut_of hl h hj, fPut_of ha h hj, nPut_put a q c k j ha hk hj hqc]
  · intro q' c' hm hd
    obtain ⟨x, y, rfl, rfl, _, _, _⟩ := fMay_nat hm
    rw [fGet_of hl hm, fGet_of ha hm, nGet_other a q c k x y ha hk hqc (by omega)]
theorem put_get {w p b : Int} (hw : fWord w = true) (h : fMay p b = true) : fPut w p b (fGet w p b) = (w, 0) := by
  obtain ⟨q, c, rfl, rfl, hqc, _, _⟩ := fMay_nat h
  obtain ⟨a, rfl, ha⟩ := fWord_nat hw
  rw [fGet_of ha h, fPut_of ha h (Nat.mod_lt _ (Nat.two_pow_pos c)), nPut_get]
theorem fGet_in {w p b : Int} : 0 ≤ fGet w p b ∧ (fGet w p b ≤ pw b - 1) := by
  unfold fGet
  have := pw_pos b
  split
  · exact ⟨Int.emod_nonneg _ (by omega), by have := Int.emod_lt_of_pos (w / pw p) (pw_pos b); omega⟩
  · exact ⟨Int.le_refl _, by omega⟩
/-- an Add that is told OK, and the Add back. -/
theorem add_all {w p b n : Int} (h : (fAdd w p b n).2 = 0) :
    ∃ v, fAdd w p b n = (v, 0) ∧ fAdd v p b (-n) = (w, 0) ∧ fGet v p b = fGet w p b + n ∧ fTop w p b n = v ∧ fWord w = true ∧ fWord v = true ∧ fMay p b = true := by
  unfold fAdd at h
  split at h
  · exact absurd h (by decide)
  · rename_i h1
    split at h
    · exact absurd h (by decide)
    · rename_i h2
      have h1' := Classical.not_not.1 h1
      obtain ⟨hw, hm⟩ := h1'
      have g := @fGet_in w p b
      obtain ⟨v, e1, e2, e3, e4, _⟩ := put_all hw hm (n := fGet w p b + n) (by omega) (by omega)
      refine ⟨v, ?_, ?_, e3, ?_, hw, e2, hm⟩
      · unfold fAdd; rw [if_neg h1, if_neg h2, e1]
      · unfold fAdd
        rw [if_neg (by simp [e2, hm]), e3, if_neg (by omega), e4 _ (by omega) (by omega)]
        rw [show fGet w p b + n + -n = fGet w p b by omega, put_get hw hm]
      · unfold fTop
        rw [if_neg h1, if_neg (by omega), if_pos (by omega), e1]
theorem fAdd_bad {w p b n : Int} (h : (fAdd w p b n).2 ≠ 0) : (fAdd w p b n).1 = 0 := by
  unfold fAdd at h ⊢
  split
  · rfl
  · rename_i h1
    rw [if_neg h1] at h
    split
    · rfl
    · rename_i h2; rw [if_neg h2] at h; exact fPut_bad h
theorem top_got {w p b n : Int} (hw : fWord w = true) (h : fMay p b = true) : ∃ v, fTop w p b n = v ∧ fWord v = true ∧ fGet v p b = (if pw b - 1 - fGet w p b < n then pw b - 1 else if - fGet w p b ≤ n then fGet w p b + n else 0) := by
  have g := @fGet_in w p b
  obtain ⟨v, e1, e2, e3, _⟩ := put_all hw h (n := if pw b - 1 - fGet w p b < n then pw b - 1 else if - fGet w p b ≤ n then fGet w p b + n else 0) (by split <;> (try split) <;> omega) (by split <;> (try split) <;> omega)
  refine ⟨v, ?_, e2, e3⟩
  unfold fTop
  rw [if_neg (by simp [hw, h]), e1]
end Go.Proofs.Ytpebepjfgnoaaaa
namespace Go.Proofs.Ytpebepjfgnoaaaa
set_option linter.unusedVariables false
set_option linter.unusedSimpArgs false
open Go.RowKit
theorem bcell {W w1 : World} (hb : Below W.heap.size W w1) : (∀ b o, b < W.heap.size → w1.cell? ⟨b, o, none⟩ = W.cell? ⟨b, o, none⟩) ∧ (∀ b o, b < W.heap.size → w1.frozen? ⟨b, o, none⟩ = W.frozen? ⟨b, o, none⟩) :=
  ⟨fun b o h => hb.cell (p := ⟨b, o, none⟩) h, fun b o h => hb.frozen (p := ⟨b, o, none⟩) h⟩
theorem fMay_yes {p b : Int} (h1 : 0 ≤ p) (h2 : 1 ≤ b) (h3 : b ≤ 32) (h4 : p ≤ 62 - b) : fMay p b = true := by simp [fMay]; omega
set_option maxHeartbeats 400000 in
theorem field_word (n : Int) (w : World) : Calls Try.prog 103 #[.int .i64 n] w fun e w' => e = .returned (.bool (fWord n)) ∧ w = w' := by
  by_cases h : 0 ≤ n
  · by_cases h2 : n < 4611686018427387904
    · have e := Lib.hid (show fWord n = true by simp [fWord]; omega)
      go_enter Try.func103, Try.ntmps103
      go_wp2
      go_ret
      exact ⟨by rw [e.out]; (first | rfl | (apply retb; first | rfl | (simp; done) | (simp; omega))), rfl⟩
    · have e := Lib.hid (show fWord n = false by simp [fWord]; omega)
      go_enter Try.func103, Try.ntmps103
      go_wp2
      go_ret
      exact ⟨by rw [e.out]; (first | rfl | (apply retb; first | rfl | (simp; done) | (simp; omega))), rfl⟩
  · have e := Lib.hid (show fWord n = false by simp [fWord]; omega)
    have h' : n < 0 := by omega
    clear h
    go_enter Try.func103, Try.ntmps103
    go_wp2
    go_ret
    exact ⟨by rw [e.out]; (first | rfl | (apply retb; first | rfl | (simp; done) | (simp; omega))), rfl⟩
set_option maxHeartbeats 400000 in
theorem field_may (p b : Int) (w : World) : Calls Try.prog 106 #[.agg #[.int .i64 p, .int .i64 b]] w fun e w' => e = .returned (.bool (fMay p b)) ∧ Below w.heap.size w w' := by
  by_cases h1 : 0 ≤ p
  · by_cases h2 : 1 ≤ b
    · by_cases h3 : b ≤ 32
      · by_cases h4 : p ≤ 62 - b
        · have e := Lib.hid (fMay_yes h1 h2 h3 h4)
          go_enter Try.func106, Try.ntmps106
          go_wp2
          go_ret
          exact ⟨by rw [e.out]; (first | rfl | (apply retb; first | rfl | (simp; done) | (simp; omega))), by (repeat' (first | (with_reducible exact Below.refl _ _) | (with_reducible assumption) | (with_reducible refine below_drewN ?_ _) | (with_reducible refine Below.drew ?_) | (with_reducible refine Below.alloc ?_ ?_ _) | (with_reducible refine Below.setCell ?_ ?_ _) | (with_reducible refine below_via (by assumption) ?_ ?_) | go_size))⟩
        · have e := Lib.hid (show fMay p b = false by simp [fMay]; omega)
          have h4' : 62 - b < p := by omega
          clear h4
          go_enter Try.func106, Try.ntmps106
          go_wp2
          go_ret
          exact ⟨by rw [e.out]; (first | rfl | (apply retb; first | rfl | (simp; done) | (simp; omega))), by (repeat' (first | (with_reducible exact Below.refl _ _) | (with_reducible assumption) | (with_reducible refine below_drewN ?_ _) | (with_reducible refine Below.drew ?_) | (with_reducible refine Below.alloc ?_ ?_ _) | (with_reducible refine Below.setCell ?_ ?_ _) | (with_reducible refine below_via (by assumption) ?_ ?_) | go_size))⟩
      · have e := Lib.hid (show fMay p b = false by simp [fMay]; omega)
        have h4' : 32 < b := by omega
        clear h3
        go_enter Try.func106, Try.ntmps106
        go_wp2
        go_ret
        exact ⟨by rw [e.out]; (first | rfl | (apply retb; first | rfl | (simp; done) | (simp; omega))), by (repeat' (first | (with_reducible exact Below.refl _ _) | (with_reducible assumption) | (with_reducible refine below_drewN ?_ _) | (with_reducible refine Below.drew ?_) | (with_reducible refine Below.alloc ?_ ?_ _) | (with_reducible refine Below.setCell ?_ ?_ _) | (with_reducible refine below_via (by assumption) ?_ ?_) | go_size))⟩
    · have e := Lib.hid (show fMay p b = false by simp [fMay]; omega)
      have h4' : b < 1 := by omega
      clear h2
      go_enter Try.func106, Try.ntmps106
      go_wp2
      go_ret
      exact ⟨by rw [e.out]; (first | rfl | (apply retb; first | rfl | (simp; done) | (simp; omega))), by (repeat' (first | (with_reducible exact Below.refl _ _) | (with_reducible assumption) | (with_reducible refine below_drewN ?_ _) | (with_reducible refine Below.drew ?_) | (with_reducible refine Below.alloc ?_ ?_ _) | (with_reducible refine Below.setCell ?_ ?_ _) | (with_reducible refine below_via (by assumption) ?_ ?_) | go_size))⟩
  · have e := Lib.hid (show fMay p b = false by simp [fMay]; omega)
    have h4' : p < 0 := by omega
    clear h1
    go_enter Try.func106, Try.ntmps106
    go_wp2
    go_ret
    exact ⟨by rw [e.out]; (first | rfl | (apply retb; first | rfl | (simp; done) | (simp; omega))), by (repeat' (first | (with_reducible exact Below.refl _ _) | (with_reducible assumption) | (with_reducible refine below_drewN ?_ _) | (with_reducible refine Below.drew ?_) | (with_reducible refine Below.alloc ?_ ?_ _) | (with_reducible refine Below.setCell ?_ ?_ _) | (with_reducible refine below_via (by assumption) ?_ ?_) | go_size))⟩
theorem pw_le {n m : Int} (h : n ≤ m) : pw n ≤ pw m := by
  unfold pw
  exact_mod_cast Nat.pow_le_pow_right (by decide) (by omega)
theorem pw_32 : pw 32 = 4294967296 := by decide
theorem pw_62 : pw 62 = 4611686018427387904 := by decide
theorem pw_add {n m : Int} (h : 0 ≤ n) (h' : 0 ≤ m) : pw (n + m) = pw n * pw m := by
  unfold pw; rw [Int.toNat_add h h']; exact Int.pow_add ..
set_option maxHeartbeats 400000 in
theorem field_most (p b : Int) (w : World) (h1 : 1 ≤ b) (h2 : b ≤ 32) : Calls Try.prog 107 #[.agg #[.int .i64 p, .int .i64 b]] w fun e w' => e = .returned (.int .i64 (pw b - 1)) ∧ Below w.heap.size w w' := by
  have e := Lib.hid (show wrap64 (wrap64 (2 ^ b.toNat) - 1) = pw b - 1 by
    have h3 : pw b ≤ pw 32 := pw_le h2
    have h4 := pw_pos b
    rw [pw_32] at h3
    have e : (2 : Int) ^ b.toNat = pw b := rfl
    rw [e]; unfold wrap64; omega)
  go_enter Try.func107, Try.ntmps107
  go_wp2
  go_ret
  exact ⟨ret1 e.out, by (repeat' (first | (with_reducible exact Below.refl _ _) | (with_reducible assumption) | (with_reducible refine below_drewN ?_ _) | (with_reducible refine Below.drew ?_) | (with_reducible refine Below.alloc ?_ ?_ _) | (with_reducible refine Below.setCell ?_ ?_ _) | (with_reducible refine below_via (by assumption) ?_ ?_) | go_size))⟩
theorem mask_i64 (p b : Int) (h0 : 0 ≤ p) (h1 : 1 ≤ b) (h2 : b ≤ 32) (h3 : p ≤ 62 - b) : IntKind.i64.wrap ((pw b - 1) * 2 ^ p.toNat) = (pw b - 1) * pw p := by
  have e : (2 : Int) ^ p.toNat = pw p := rfl
  have h4 := pw_pos b
  have h5 := pw_pos p
  have h6 : pw b * pw p ≤ pw 62 := by rw [← pw_add (by omega) h0]; exact pw_le (by omega)
  rw [pw_62] at h6
  have h7 : 0 ≤ (pw b - 1) * pw p := Int.mul_nonneg (by omega) (by omega)
  have h8 : (pw b - 1) * pw p = pw b * pw p - pw p := by rw [Int.sub_mul, Int.one_mul]
  rw [e]
  exact i64small _ h7 (by omega)
set_option maxHeartbeats 400000 in
theorem field_mask (p b : Int) (w : World) (h0 : 0 ≤ p) (h1 : 1 ≤ b) (h2 : b ≤ 32) (h3 : p ≤ 62 - b) : Calls Try.prog 105 #[.agg #[.int .i64 p, .int .i64 b]] w fun e w' => e = .returned (.int .i64 ((pw b - 1) * pw p)) ∧ Below w.heap.size w w' := by
  have e := Lib.hid (mask_i64 p b h0 h1 h2 h3)
  go_enter Try.func105, Try.ntmps105
  go_wp2_with fail
  go_region_with (go_at_call 107; refine (field_most _ _ _ h1 h2).mono ?_; rintro e w' ⟨rfl, hb⟩; obtain ⟨hc, hf⟩ := bcell hb; have hz := hb.size; (try simp only [World.size_alloc, World.size_drew, World.size_setCell, size_drewN] at hz))
  all_goals
    go_wp2
    go_ret
    exact ⟨ret1 e.out, by (repeat' (first | (with_reducible exact Below.refl _ _) | (with_reducible assumption) | (with_reducible refine below_drewN ?_ _) | (with_reducible refine Below.drew ?_) | (with_reducible refine Below.alloc ?_ ?_ _) | (with_reducible refine Below.setCell ?_ ?_ _) | (with_reducible refine below_via (by assumption) ?_ ?_) | go_size))⟩
theorem bool_cases {b : Bool} : b = true ∨ b = false := by cases b <;> simp
set_option maxHeartbeats 400000 in
theorem field_told_no (p b d : Int) (g : Value) (w : World) (h : fMay p b = false) : Calls Try.prog 104 #[.agg #[.int .i64 p, .int .i64 b], g, .int .i64 d] w fun e w' => e = .returned (.int .i64 d) ∧ Below w.heap.size w w' := by
  go_enter Try.func104, Try.ntmps104
  go_wp2_with (go_at_call 106; refine (field_may _ _ _).mono ?_; rw [h]; rintro e w' ⟨rfl, hb⟩; obtain ⟨hc, hf⟩ := bcell hb; have hz := hb.size; (try simp only [World.size_alloc, World.size_drew, World.size_setCell, size_drewN] at hz))
  go_ret
  exact ⟨rfl, by (repeat' (first | (with_reducible exact Below.refl _ _) | (with_reducible assumption) | (with_reducible refine below_drewN ?_ _) | (with_reducible refine Below.drew ?_) | (with_reducible refine Below.alloc ?_ ?_ _) | (with_reducible refine Below.setCell ?_ ?_ _) | (with_reducible refine below_via (by assumption) ?_ ?_) | go_size))⟩
theorem fMay_of {p b : Int} (h : fMay p b = true) : 0 ≤ p ∧ 1 ≤ b ∧ b ≤ 32 ∧ p ≤ 62 - b := by simpa [fMay] using h
set_option maxHeartbeats 400000 in
theorem field_told_most (p b d : Int) (w : World) (h : fMay p b = true) : Calls Try.prog 104 #[.agg #[.int .i64 p, .int .i64 b], .func (.func 107) #[] #[], .int .i64 d] w fun e w' => e = .returned (.int .i64 (pw b - 1)) ∧ Below w.heap.size w w' := by
  have hh := Lib.hid (fMay_of h)
  go_enter Try.func104, Try.ntmps104
  go_wp2_with first
    | (go_at_call 106; refine (field_may _ _ _).mono ?_; rw [h]; rintro e w' ⟨rfl, hb⟩; obtain ⟨hc, hf⟩ := bcell hb; have hz := hb.size; (try simp only [World.size_alloc, World.size_drew, World.size_setCell, size_drewN] at hz))
    | (go_at_call 107; refine (field_most _ _ _ hh.out.2.1 hh.out.2.2.1).mono ?_; rintro e w' ⟨rfl, hb⟩)
  go_ret
  exact ⟨rfl, by (repeat' (first | (with_reducible exact Below.refl _ _) | (with_reducible assumption) | (with_reducible refine below_drewN ?_ _) | (with_reducible refine Below.drew ?_) | (with_reducible refine Below.alloc ?_ ?_ _) | (with_reducible refine Below.setCell ?_ ?_ _) | (with_reducible refine below_via (by assumption) ?_ ?_) | go_size))⟩
set_option maxHeartbeats 400000 in
theorem field_told_mask (p b d : Int) (w : World) (h : fMay p b = true) : Calls Try.prog 104 #[.agg #[.int .i64 p, .int .i64 b], .func (.func 105) #[] #[], .int .i64 d] w fun e w' => e = .returned (.int .i64 ((pw b - 1) * pw p)) ∧ Below w.heap.size w w' := by
  have hh := Lib.hid (fMay_of h)
  go_enter Try.func104, Try.ntmps104
  go_wp2_with first
    | (go_at_call 106; refine (field_may _ _ _).mono ?_; rw [h]; rintro e w' ⟨rfl, hb⟩; obtain ⟨hc, hf⟩ := bcell hb; have hz := hb.size; (try simp only [World.size_alloc, World.size_drew, World.size_setCell, size_drewN] at hz))
    | (go_at_call 105; refine (field_mask _ _ _ hh.out.1 hh.out.2.1 hh.out.2.2.1 hh.out.2.2.2).mono ?_; rintro e w' ⟨rfl, hb⟩)
  go_ret
  exact ⟨rfl, by (repeat' (first | (with_reducible exact Below.refl _ _) | (with_reducible assumption) | (with_reducible refine below_drewN ?_ _) | (with_reducible refine Below.drew ?_) | (with_reducible refine Below.alloc ?_ ?_ _) | (with_reducible refine Below.setCell ?_ ?_ _) | (with_reducible refine below_via (by assumption) ?_ ?_) | go_size))⟩
theorem get_i64 (w p b : Int) (hw : fWord w = true) (h : fMay p b = true) : bits .and .i64 w ((pw b - 1) * pw p) / 2 ^ p.toNat = fGet w p b := by
  obtain ⟨h0, h1, h2, h3⟩ := fMay_of h
  have hw' : 0 ≤ w ∧ w < 4611686018427387904 := by simpa [fWord] using hw
  unfold fGet
  rw [if_pos ⟨hw, h⟩]
  obtain ⟨a, rfl⟩ := Int.eq_ofNat_of_zero_le hw'.1
  obtain ⟨q, rfl⟩ := Int.eq_ofNat_of_zero_le h0
  obtain ⟨c, rfl⟩ := Int.eq_ofNat_of_zero_le (show 0 ≤ b by omega)
  have := bits_get a q c (by omega) (by omega)
  have e1 : (pw (c : Int) - 1) * pw (q : Int) = (((2 ^ c - 1) * 2 ^ q : Nat) : Int) := by
    rw [pw_nat, pw_nat, Int.natCast_mul, Int.natCast_sub (Nat.two_pow_pos c)]; rfl
  have e2 : (2 : Int) ^ (q : Int).toNat = ((2 ^ q : Nat) : Int) := by simp
  rw [e1, e2, this, pw_nat, pw_nat]
  simp
theorem get_zero (w : Int) (hw : fWord w = true) : bits .and .i64 w 0 = 0 := by
  have hw' : 0 ≤ w ∧ w < 4611686018427387904 := by simpa [fWord] using hw
  have := and_mask 0 (by decide) w hw'.1 (by omega)
  simpa using this
set_option maxHeartbeats 1000000 in
theorem field_Get_ok (w p b : Int) (W : World) (h : fMay p b = true) (hw : fWord w = true) : Calls Try.prog 95 #[.int .i64 w, .agg #[.int .i64 p, .int .i64 b]] W fun e w' => e = .returned (.int .i64 (fGet w p b)) ∧ Below W.heap.size W w' := by
  have h' := Lib.hid h
  have hw' := Lib.hid hw
  have e := Lib.hid (get_i64 w p b hw h)
  obtain ⟨h0, h1, h2, h3⟩ := fMay_of h
  clear h hw
  go_enter Try.func95, Try.ntmps95
  go_wp2_with (go_at_call 103; refine (field_word _ _).mono ?_; rw [hw'.out]; rintro e w' ⟨rfl, rfl⟩)
  go_region_held3 (fun w' => w'.cell? ⟨W.heap.size, 0, none⟩ = some (.int .i64 p) ∧ w'.cell? ⟨W.heap.size, 1, none⟩ = some (.int .i64 b)) (first | go_keep | (refine ⟨(hb.cell (by simp)).trans ?_, (hb.cell (by simp)).trans ?_⟩ <;> go_keep)) ((go_at_call 104; refine (field_told_mask _ _ _ _ h'.out).mono ?_; rintro e w' ⟨rfl, hb⟩))
  all_goals
    go_wp2
    go_ret
    exact ⟨ret1 (by (try rw [if_neg (by omega)]); exact e.out), by (repeat' (first | (with_reducible exact Below.refl _ _) | (with_reducible assumption) | (with_reducible refine below_drewN ?_ _) | (with_reducible refine Below.drew ?_) | (with_reducible refine Below.alloc ?_ ?_ _) | (with_reducible refine Below.setCell ?_ ?_ _) | (with_reducible refine below_via (by assumption) ?_ ?_) | go_size))⟩
theorem fPut_ok {w p b n : Int} (hw : fWord w = true) (h : fMay p b = true) (h0 : 0 ≤ n) (h1 : n ≤ pw b - 1) : fPut w p b n = (w - fGet w p b * pw p + n * pw p, 0) := by
  unfold fPut; rw [if_neg (by simp [hw, h, h0]), if_neg (by omega)]
theorem put_i64 (w p b n : Int) (hw : fWord w = true) (h : fMay p b = true) (h0 : 0 ≤ n) (h1 : n ≤ pw b - 1) :
    bits .or .i64 (bits .andNot .i64 w ((pw b - 1) * pw p)) (IntKind.i64.wrap (n * 2 ^ p.toNat)) = (fPut w p b n).1 ∧ fWord (fPut w p b n).1 = true := by
  rw [fPut_ok hw h h0 h1]
  have hg : fGet w p b = w / pw p % pw b := by unfold fGet; rw [if_pos ⟨hw, h⟩]
  rw [hg]
  obtain ⟨m0, m1, m2, m3⟩ := fMay_of h
  have hw' : 0 ≤ w ∧ w < 4611686018427387904 := by simpa [fWord] using hw
  obtain ⟨a, rfl⟩ := Int.eq_ofNat_of_zero_le hw'.1
  obtain ⟨q, rfl⟩ := Int.eq_ofNat_of_zero_le m0
  obtain ⟨c, rfl⟩ := Int.eq_ofNat_of_zero_le (show 0 ≤ b by omega)
  obtain ⟨k, rfl⟩ := Int.eq_ofNat_of_zero_le h0
  have hk : k < 2 ^ c := by rw [pw_nat] at h1; omega
  have hn2 : k * 2 ^ q < 2 ^ 62 := by
    calc k * 2 ^ q < 2 ^ c * 2 ^ q := Nat.mul_lt_mul_of_pos_right hk (Nat.two_pow_pos q)
      _ = 2 ^ (c + q) := (Nat.pow_add ..).symm
      _ ≤ 2 ^ 62 := Nat.pow_le_pow_right (by decide) (by omega)
  have e2 : IntKind.i64.wrap ((k : Int) * 2 ^ (q : Int).toNat) = ((k * 2 ^ q : Nat) : Int) := by
    have e3 : ((k : Int) * 2 ^ (q : Int).toNat) = ((k * 2 ^ q : Nat) : Int) := by simp
    rw [e3, IntKind.wrap_i64]; omega
  have e1 : (pw (c : Int) - 1) * pw (q : Int) = (((2 ^ c - 1) * 2 ^ q : Nat) : Int) := by
    rw [pw_nat, pw_nat, Int.natCast_mul, Int.natCast_sub (Nat.two_pow_pos c)]; rfl
  have hle : a / 2 ^ q % 2 ^ c * 2 ^ q ≤ a := by
    calc a / 2 ^ q % 2 ^ c * 2 ^ q ≤ a / 2 ^ q * 2 ^ q := Nat.mul_le_mul_right _ (Nat.mod_le _ _)
      _ ≤ a := Nat.div_mul_le_self _ _
  have e4 : (a : Int) - (a : Int) / pw (q : Int) % pw (c : Int) * pw (q : Int) + (k : Int) * pw (q : Int) = ((a - a / 2 ^ q % 2 ^ c * 2 ^ q + k * 2 ^ q : Nat) : Int) := by
    rw [pw_nat, pw_nat, Int.natCast_add, Int.natCast_sub hle]; simp
  have hl := put_lt a k q c (by omega) hk (by omega)
  constructor
  · rw [e1, e2, bits_put a k q c (by omega) hk (by omega)]
    exact e4.symm
  · show fWord ((a : Int) - (a : Int) / pw (q : Int) % pw (c : Int) * pw (q : Int) + (k : Int) * pw (q : Int)) = true
    rw [e4]
    unfold fWord
    generalize (a - a / 2 ^ q % 2 ^ c * 2 ^ q + k * 2 ^ q) = x at hl
    simp only [decide_eq_true_eq]
    omega
set_option maxHeartbeats 1000000 in
theorem field_Put (w p b n : Int) (W : World) (hn : -9223372036854775808 ≤ n) (hn' : n ≤ 9223372036854775807) : Calls Try.prog 98 #[.int .i64 w, .agg #[.int .i64 p, .int .i64 b], .int .i64 n] W fun e w' => e = .returned (.tuple #[.int .i64 (fPut w p b n).1, .int .i64 (fPut w p b n).2]) ∧ Below W.heap.size W w' := by
  rcases bool_cases (b := fWord w) with hw | hw
  · rcases bool_cases (b := fMay p b) with h | h
    · have h' := Lib.hid h
      have hw' := Lib.hid hw
      obtain ⟨h0, h1, h2, h3⟩ := fMay_of h
      by_cases n0 : 0 ≤ n
      · by_cases n1 : n ≤ pw b - 1
        · have e := Lib.hid (put_i64 w p b n hw h n0 n1)
          have e2 := Lib.hid (show (fPut w p b n).2 = 0 by rw [fPut_ok hw h n0 n1])
          clear h hw
          go_enter Try.func98, Try.ntmps98
          go_wp2_with first
            | (go_at_call 103; refine (field_word _ _).mono ?_; rw [hw'.out]; rintro e w' ⟨rfl, rfl⟩)
            | (go_at_call 106; refine (field_may _ _ _).mono ?_; rw [h'.out]; rintro e w1 ⟨rfl, hb1⟩; obtain ⟨hc1, hf1⟩ := bcell hb1; have hz1 := hb1.size; (try simp only [World.size_alloc, World.size_drew, World.size_setCell, size_drewN] at hz1))
            | (go_at_call 107; refine (field_most _ _ _ h1 h2).mono ?_; rintro e w2 ⟨rfl, hb2⟩; obtain ⟨hc2, hf2⟩ := bcell hb2; have hz2 := hb2.size; (try simp only [World.size_alloc, World.size_drew, World.size_setCell, size_drewN] at hz2))
          have c0 : w2.cell? ⟨W.heap.size, 0, none⟩ = some (.int .i64 p) := by rw [hc2 _ _ (by omega), hc1 _ _ (by simp)]; simp
          have c1 : w2.cell? ⟨W.heap.size, 1, none⟩ = some (.int .i64 b) := by rw [hc2 _ _ (by omega), hc1 _ _ (by simp)]; simp
          clear hc1 hc2 hf1 hf2
          go_region_held3 (fun w' => w'.cell? ⟨W.heap.size, 0, none⟩ = some (.int .i64 p) ∧ w'.cell? ⟨W.heap.size, 1, none⟩ = some (.int .i64 b)) (first | go_keep | (refine ⟨(hb.cell (by simp; omega)).trans ?_, (hb.cell (by simp; omega)).trans ?_⟩ <;> go_keep)) ((go_at_call 105; refine (field_mask _ _ _ h0 h1 h2 h3).mono ?_; rintro e w' ⟨rfl, hb⟩))
          all_goals
            go_wp2
            go_ret2
            exact ⟨ret2 e.out.1 e2.out.symm, by (repeat' (first | (with_reducible exact Below.refl _ _) | (with_reducible assumption) | (with_reducible refine below_drewN ?_ _) | (with_reducible refine Below.drew ?_) | (with_reducible refine Below.alloc ?_ ?_ _) | (with_reducible refine Below.setCell ?_ ?_ _) | (with_reducible refine below_via (by assumption) ?_ ?_) | go_size))⟩
        · have e := Lib.hid (show fPut w p b n = (0, 3) by unfold fPut; rw [if_neg (by simp [hw, h, n0]), if_pos (by omega)])
          have n1' : pw b - 1 < n := by omega
          clear h hw n1
          go_enter Try.func98, Try.ntmps98
          go_wp2_with first
            | (go_at_call 103; refine (field_word _ _).mono ?_; rw [hw'.out]; rintro e w' ⟨rfl, rfl⟩)
            | (go_at_call 106; refine (field_may _ _ _).mono ?_; rw [h'.out]; rintro e w1 ⟨rfl, hb1⟩; obtain ⟨hc1, hf1⟩ := bcell hb1; have hz1 := hb1.size; (try simp only [World.size_alloc, World.size_drew, World.size_setCell, size_drewN] at hz1))
            | (go_at_call 107; refine (field_most _ _ _ h1 h2).mono ?_; rintro e w2 ⟨rfl, hb2⟩; obtain ⟨hc2, hf2⟩ := bcell hb2; have hz2 := hb2.size; (try simp only [World.size_alloc, World.size_drew, World.size_setCell, size_drewN] at hz2))
          go_ret2
          exact ⟨by rw [e.out]; rfl, by (repeat' (first | (with_reducible exact Below.refl _ _) | (with_reducible assumption) | (with_reducible refine below_drewN ?_ _) | (with_reducible refine Below.drew ?_) | (with_reducible refine Below.alloc ?_ ?_ _) | (with_reducible refine Below.setCell ?_ ?_ _) | (with_reducible refine below_via (by assumption) ?_ ?_) | go_size))⟩
      · have e := Lib.hid (show fPut w p b n = (0, 1) by unfold fPut; rw [if_pos (by simp [n0])])
        have n1' : n < 0 := by omega
        clear h hw n0
        go_enter Try.func98, Try.ntmps98
        go_wp2_with first
          | (go_at_call 103; refine (field_word _ _).mono ?_; rw [hw'.out]; rintro e w' ⟨rfl, rfl⟩)
          | (go_at_call 106; refine (field_may _ _ _).mono ?_; rw [h'.out]; rintro e w1 ⟨rfl, hb1⟩; obtain ⟨hc1, hf1⟩ := bcell hb1; have hz1 := hb1.size; (try simp only [World.size_alloc, World.size_drew, World.size_setCell, size_drewN] at hz1))
        go_ret2
        exact ⟨by rw [e.out]; rfl, by (repeat' (first | (with_reducible exact Below.refl _ _) | (with_reducible assumption) | (with_reducible refine below_drewN ?_ _) | (with_reducible refine Below.drew ?_) | (with_reducible refine Below.alloc ?_ ?_ _) | (with_reducible refine Below.setCell ?_ ?_ _) | (with_reducible refine below_via (by assumption) ?_ ?_) | go_size))⟩
    · have h' := Lib.hid h
      have hw' := Lib.hid hw
      have e := Lib.hid (show fPut w p b n = (0, 1) by unfold fPut; rw [if_pos (by simp [h])])
      clear h hw
      go_enter Try.func98, Try.ntmps98
      go_wp2_with first
        | (go_at_call 103; refine (field_word _ _).mono ?_; rw [hw'.out]; rintro e w' ⟨rfl, rfl⟩)
        | (go_at_call 106; refine (field_may _ _ _).mono ?_; rw [h'.out]; rintro e w1 ⟨rfl, hb1⟩; obtain ⟨hc1, hf1⟩ := bcell hb1; have hz1 := hb1.size; (try simp only [World.size_alloc, World.size_drew, World.size_setCell, size_drewN] at hz1))
      go_ret2
      exact ⟨by rw [e.out]; rfl, by (repeat' (first | (with_reducible exact Below.refl _ _) | (with_reducible assumption) | (with_reducible refine below_drewN ?_ _) | (with_reducible refine Below.drew ?_) | (with_reducible refine Below.alloc ?_ ?_ _) | (with_reducible refine Below.setCell ?_ ?_ _) | (with_reducible refine below_via (by assumption) ?_ ?_) | go_size))⟩
  · have hw' := Lib.hid hw
    have e := Lib.hid (show fPut w p b n = (0, 1) by unfold fPut; rw [if_pos (by simp [hw])])
    clear hw
    go_enter Try.func98, Try.ntmps98
    go_wp2_with (go_at_call 103; refine (field_word _ _).mono ?_; rw [hw'.out]; rintro e w' ⟨rfl, rfl⟩)
    go_ret2
    exact ⟨by rw [e.out]; rfl, by (repeat' (first | (with_reducible exact Below.refl _ _) | (with_reducible assumption) | (with_reducible refine below_drewN ?_ _) | (with_reducible refine Below.drew ?_) | (with_reducible refine Below.alloc ?_ ?_ _) | (with_reducible refine Below.setCell ?_ ?_ _) | (with_reducible refine below_via (by assumption) ?_ ?_) | go_size))⟩
end Go.Proofs.Ytpebepjfgnoaaaa
