/- Laws of fields, in numbers alone: what was put is got; what another field has stays. -/
import Derived.Test.YtmbkkpeepbfgoaaFnP
namespace Go.Proofs.Ytmbkkpeepbfgoaa
set_option linter.unusedVariables false
set_option linter.unusedSimpArgs false
open Go.RowKit
def nPut (a p b n : Nat) : Nat := a - a / 2 ^ p % 2 ^ b * 2 ^ p + n * 2 ^ p
theorem nPut_bit (a p b n j : Nat) (ha : a < 2 ^ 62) (hn : n < 2 ^ b) (h : p + b ≤ 62) : (nPut a p b n).testBit j = if p ≤ j ∧ j - p < b then n.testBit (j - p) else a.testBit j := by
  obtain ⟨x, _, hl, hb⟩ := bits_andNot a ((2 ^ b - 1) * 2 ^ p) ha (mask_lt p b h)
  unfold nPut
  rw [← nat_put a n p b hn x (fun j => by rw [hb j, nat_mask]), Nat.testBit_or, hb, nat_mask, Nat.mul_comm n, Nat.testBit_two_pow_mul]
  by_cases h1 : p ≤ j
  · by_cases h2 : j - p < b
    · simp [h1, h2]
    · have : n.testBit (j - p) = false := Nat.testBit_lt_two_pow (Nat.lt_of_lt_of_le hn (Nat.pow_le_pow_right (by decide) (by omega)))
      simp [h1, h2, this]
  · simp [h1]
theorem nPut_lt (a p b n : Nat) (ha : a < 2 ^ 62) (hn : n < 2 ^ b) (h : p + b ≤ 62) : nPut a p b n < 2 ^ 62 := put_lt a n p b ha hn h
theorem nGet_put (a p b n : Nat) (ha : a < 2 ^ 62) (hn : n < 2 ^ b) (h : p + b ≤ 62) : nPut a p b n / 2 ^ p % 2 ^ b = n := by
  apply Nat.eq_of_testBit_eq
  intro j
  rw [Nat.testBit_mod_two_pow, Nat.testBit_div_two_pow, nPut_bit a p b n _ ha hn h]
  by_cases h2 : j < b
  · simp [h2]
  · have : n.testBit j = false := Nat.testBit_lt_two_pow (Nat.lt_of_lt_of_le hn (Nat.pow_le_pow_right (by decide) (by omega)))
    simp [h2, this]
theorem nGet_other (a p b n q c : Nat) (ha : a < 2 ^ 62) (hn : n < 2 ^ b) (h : p + b ≤ 62) (hd : q + c ≤ p ∨ p + b ≤ q) : nPut a p b n / 2 ^ q % 2 ^ c = a / 2 ^ q % 2 ^ c := by
  apply Nat.eq_of_testBit_eq
  intro j
  rw [Nat.testBit_mod_two_pow, Nat.testBit_div_two_pow, nPut_bit a p b n _ ha hn h, Nat.testBit_mod_two_pow, Nat.testBit_div_two_pow]
  by_cases h2 : j < c
  · rw [if_neg (by omega)]
  · simp [h2]
theorem nPut_put (a p b n m : Nat) (ha : a < 2 ^ 62) (hn : n < 2 ^ b) (hm : m < 2 ^ b) (h : p + b ≤ 62) : nPut (nPut a p b n) p b m = nPut a p b m := by
  apply Nat.eq_of_testBit_eq
  intro j
  rw [nPut_bit _ p b m j (nPut_lt a p b n ha hn h) hm h, nPut_bit a p b n j ha hn h, nPut_bit a p b m j ha hm h]
  split <;> rfl
theorem nPut_get (a p b : Nat) : nPut a p b (a / 2 ^ p % 2 ^ b) = a := by
  have hle : a / 2 ^ p % 2 ^ b * 2 ^ p ≤ a := by
    calc a / 2 ^ p % 2 ^ b * 2 ^ p ≤ a / 2 ^ p * 2 ^ p := Nat.mul_le_mul_right _ (Nat.mod_le _ _)
      _ ≤ a := Nat.div_mul_le_self _ _
  unfold nPut
  omega
theorem fMay_nat {p b : Int} (h : fMay p b = true) : ∃ q c : Nat, p = q ∧ b = c ∧ q + c ≤ 62 ∧ 1 ≤ c ∧ c ≤ 32 := by
  have h' : 0 ≤ p ∧ 1 ≤ b ∧ b ≤ 32 ∧ p ≤ 62 - b := by simpa [fMay] using h
  obtain ⟨q, rfl⟩ := Int.eq_ofNat_of_zero_le h'.1
  obtain ⟨c, rfl⟩ := Int.eq_ofNat_of_zero_le (show 0 ≤ b by omega)
  exact ⟨q, c, rfl, rfl, by omega, by omega, by omega⟩
theorem fWord_nat {w : Int} (h : fWord w = true) : ∃ a : Nat, w = a ∧ a < 2 ^ 62 := by
  have h' : 0 ≤ w ∧ w < 4611686018427387904 := by simpa [fWord] using h
  obtain ⟨a, rfl⟩ := Int.eq_ofNat_of_zero_le h'.1
  exact ⟨a, rfl, by omega⟩
theorem fWord_of {a : Nat} (h : a < 2 ^ 62) : fWord (a : Int) = true := by unfold fWord; simp only [decide_eq_true_eq]; omega
theorem fGet_of {a q c : Nat} (h : a < 2 ^ 62) (hm : fMay (q : Int) (c : Int) = true) : fGet (a : Int) (q : Int) (c : Int) = ((a / 2 ^ q % 2 ^ c : Nat) : Int) := by
  unfold fGet; rw [if_pos ⟨fWord_of h, hm⟩, pw_nat, pw_nat]; simp
theorem fPut_of {a q c k : Nat} (h : a < 2 ^ 62) (hm : fMay (q : Int) (c : Int) = true) (hk : k < 2 ^ c) : fPut (a : Int) (q : Int) (c : Int) (k : Int) = (((nPut a q c k : Nat) : Int), 0) := by
  have hle : a / 2 ^ q % 2 ^ c * 2 ^ q ≤ a := by
    calc a / 2 ^ q % 2 ^ c * 2 ^ q ≤ a / 2 ^ q * 2 ^ q := Nat.mul_le_mul_right _ (Nat.mod_le _ _)
      _ ≤ a := Nat.div_mul_le_self _ _
  unfold fPut
  rw [if_neg (by simp [fWord_of h, hm]), if_neg (by rw [pw_nat]; omega), fGet_of h hm, pw_nat]
  unfold nPut
  rw [Int.natCast_add, Int.natCast_sub hle]; simp
/-- what a Put that is told OK says. -/
theorem fPut_inv {w p b n : Int} (h : (fPut w p b n).2 = 0) : fWord w = true ∧ fMay p b = true ∧ 0 ≤ n ∧ n ≤ pw b - 1 := by
  unfold fPut at h
  split at h
  · exact absurd h (by decide)
  · rename_i h1
    split at h
    · exact absurd h (by decide)
    · have h1 := Classical.not_not.1 h1
      exact ⟨h1.1, h1.2.1, h1.2.2, by omega⟩
theorem fPut_bad {w p b n : Int} (h : (fPut w p b n).2 ≠ 0) : (fPut w p b n).1 = 0 := by
  unfold fPut at h ⊢
  split
  · rfl
  · rename_i h1
    rw [if_neg h1] at h
    split
    · rfl
    · rename_i h2; rw [if_neg h2] at h; exact absurd rfl h
theorem put_all {w p b n : Int} (hw : fWord w = true) (h : fMay p b = true) (h0 : 0 ≤ n) (h1 : n ≤ pw b - 1) :
    ∃ v, fPut w p b n = (v, 0) ∧ fWord v = true ∧ fGet v p b = n ∧ (∀ m, 0 ≤ m → m ≤ pw b - 1 → fPut v p b m = fPut w p b m) ∧
      (∀ q c, fMay q c = true → (q + c ≤ p ∨ p + b ≤ q) → fGet v q c = fGet w q c) := by
  obtain ⟨q, c, rfl, rfl, hqc, _, _⟩ := fMay_nat h
  obtain ⟨a, rfl, ha⟩ := fWord_nat hw
  obtain ⟨k, rfl⟩ := Int.eq_ofNat_of_zero_le h0
  have hk : k < 2 ^ c := by rw [pw_nat] at h1; omega
  have hl := nPut_lt a q c k ha hk hqc
  refine ⟨((nPut a q c k : Nat) : Int), fPut_of ha h hk, fWord_of hl, ?_, ?_, ?_⟩
  · rw [fGet_of hl h, nGet_put a q c k ha hk hqc]
  · intro m m0 m1
    obtain ⟨j, rfl⟩ := Int.eq_ofNat_of_zero_le m0
    have hj : j < 2 ^ c := by rw [pw_nat] at m1; omega
    rw [fPut_of hl h hj, fPut_of ha h hj, nPut_put a q c k j ha hk hj hqc]
  · intro q' c' hm hd
    obtain ⟨x, y, rfl, rfl, _, _, _⟩ := fMay_nat hm
    rw [fGet_of hl hm, fGet_of ha hm, nGet_other a q c k x y ha hk hqc (by omega)]
theorem put_get {w p b : Int} (hw : fWord w = true) (h : fMay p b = true) : fPut w p b (fGet w p b) = (w, 0) := by
  obtain ⟨q, c, rfl, rfl, hqc, _, _⟩ := fMay_nat h
  obtain ⟨a, rfl, ha⟩ := fWord_nat hw
  rw [fGet_of ha h, fPut_of ha h (Nat.mod_lt _ (Nat.two_pow_pos c)), nPut_get]
theorem fGet_in {w p b : Int} : 0 ≤ fGet w p b ∧ (fGet w p b ≤ pw b - 1) := by
  unfold fGet
  have := pw_pos b
  split
  · exact ⟨Int.emod_nonneg _ (by omega), by have := Int.emod_lt_of_pos (w / pw p) (pw_pos b); omega⟩
  · exact ⟨Int.le_refl _, by omega⟩
/-- an Add that is told OK, and the Add back. -/
theorem add_all {w p b n : Int} (h : (fAdd w p b n).2 = 0) :
    ∃ v, fAdd w p b n = (v, 0) ∧ fAdd v p b (-n) = (w, 0) ∧ fGet v p b = fGet w p b + n ∧ fTop w p b n = v ∧ fWord w = true ∧ fWord v = true ∧ fMay p b = true := by
  unfold fAdd at h
  split at h
  · exact absurd h (by decide)
  · rename_i h1
    split at h
    · exact absurd h (by decide)
    · rename_i h2
      have h1' := Classical.not_not.1 h1
      obtain ⟨hw, hm⟩ := h1'
      have g := @fGet_in w p b
      obtain ⟨v, e1, e2, e3, e4, _⟩ := put_all hw hm (n := fGet w p b + n) (by omega) (by omega)
      refine ⟨v, ?_, ?_, e3, ?_, hw, e2, hm⟩
      · unfold fAdd; rw [if_neg h1, if_neg h2, e1]
      · unfold fAdd
        rw [if_neg (by simp [e2, hm]), e3, if_neg (by omega), e4 _ (by omega) (by omega)]
        rw [show fGet w p b + n + -n = fGet w p b by omega, put_get hw hm]
      · unfold fTop
        rw [if_neg h1, if_neg (by omega), if_pos (by omega), e1]
theorem fAdd_bad {w p b n : Int} (h : (fAdd w p b n).2 ≠ 0) : (fAdd w p b n).1 = 0 := by
  unfold fAdd at h ⊢
  split
  · rfl
  · rename_i h1
    rw [if_neg h1] at h
    split
    · rfl
    · rename_i h2; rw [if_neg h2] at h; exact fPut_bad h
theorem top_got {w p b n : Int} (hw : fWord w = true) (h : fMay p b = true) : ∃ v, fTop w p b n = v ∧ fWord v = true ∧ fGet v p b = (if pw b - 1 - fGet w p b < n then pw b - 1 else if - fGet w p b ≤ n then fGet w p b + n else 0) := by
  have g := @fGet_in w p b
  obtain ⟨v, e1, e2, e3, _⟩ := put_all hw h (n := if pw b - 1 - fGet w p b < n then pw b - 1 else if - fGet w p b ≤ n then fGet w p b + n else 0) (by split <;> (try split) <;> omega) (by split <;> (try split) <;> omega)
  refine ⟨v, ?_, e2, e3⟩
  unfold fTop
  rw [if_neg (by simp [hw, h]), e1]
end Go.Proofs.Ytmbkkpeepbfgoaa
