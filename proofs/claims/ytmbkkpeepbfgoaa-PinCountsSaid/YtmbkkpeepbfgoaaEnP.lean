/- What entry's functions tell, as functions of numbers. -/
import Derived.Test.YtmbkkpeepbfgoaaFnX
namespace Go.Proofs.Ytmbkkpeepbfgoaa
set_option linter.unusedVariables false
set_option linter.unusedSimpArgs false
open Go.RowKit
def eIn (n m : Int) : Bool := decide (0 ≤ n ∧ n ≤ m)
def bI (b : Bool) : Int := if b = true then 1 else 0
def eMay (o g p u : Int) (l a : Bool) : Bool :=
  decide (0 ≤ o ∧ o ≤ 4096 ∧ 0 ≤ g ∧ g ≤ 1000 ∧ 0 ≤ p ∧ p ≤ 7 ∧ 0 ≤ u ∧ u ≤ 15 ∧ (l = true → p + u ≤ 0) ∧ (a = true ∨ (o = 0 ∧ p = 0 ∧ u = 0 ∧ l = false)))
def eWord (o g p u : Int) (l a : Bool) : Int := o + 1048576 * g + 1099511627776 * p + 17592186044416 * u + 281474976710656 * bI l + 562949953421312 * bI a
theorem eMay_of {o g p u : Int} {l a : Bool} (h : eMay o g p u l a = true) : 0 ≤ o ∧ o ≤ 4096 ∧ 0 ≤ g ∧ g ≤ 1000 ∧ 0 ≤ p ∧ p ≤ 7 ∧ 0 ≤ u ∧ u ≤ 15 ∧ (l = true → p + u ≤ 0) ∧ (a = true ∨ (o = 0 ∧ p = 0 ∧ u = 0 ∧ l = false)) := of_decide_eq_true h
theorem bI_bd (b : Bool) : 0 ≤ bI b ∧ bI b ≤ 1 := by cases b <;> decide
/-- a field put into a word that has nothing from there on. -/
theorem put_above {w p b n P B : Int} (hP : pw p = P) (hB : pw b = B) (hm : fMay p b = true) (h : 0 ≤ w) (h' : w < P) (hl : P ≤ 562949953421312) (hn : 0 ≤ n) (hn' : n < B) : fPut w p b n = (w + P * n, 0) := by
  have hw : fWord w = true := by simp [fWord]; omega
  rw [fPut, if_neg (by simp [hm, hw, hn]), if_neg (by rw [hB]; omega)]
  have e : fGet w p b = 0 := by
    unfold fGet; rw [if_pos ⟨hw, hm⟩, hP, hB]
    have e0 : w / P = 0 := Int.ediv_eq_zero_of_lt h h'
    rw [e0]; exact Int.zero_emod _
  rw [e, hP, Int.mul_comm n P]
  have : w - 0 * P + P * n = w + P * n := by omega
  rw [this]
/-- the word of an entry, after so many fields. -/
def ePart (o g p u : Int) (l a : Bool) : Nat → Int
  | 0 => 0
  | 1 => o
  | 2 => o + 1048576 * g
  | 3 => o + 1048576 * g + 1099511627776 * p
  | 4 => o + 1048576 * g + 1099511627776 * p + 17592186044416 * u
  | 5 => o + 1048576 * g + 1099511627776 * p + 17592186044416 * u + 281474976710656 * bI l
  | _ => eWord o g p u l a
theorem ePart_put {o g p u : Int} {l a : Bool} (h : 0 ≤ o ∧ o ≤ 4096 ∧ 0 ≤ g ∧ g ≤ 1000 ∧ 0 ≤ p ∧ p ≤ 7 ∧ 0 ≤ u ∧ u ≤ 15) :
    fPut 0 0 20 o = (ePart o g p u l a 1, 0) ∧ fPut (ePart o g p u l a 1) 20 20 g = (ePart o g p u l a 2, 0) ∧ fPut (ePart o g p u l a 2) 40 4 p = (ePart o g p u l a 3, 0) ∧
      fPut (ePart o g p u l a 3) 44 4 u = (ePart o g p u l a 4, 0) ∧ fPut (ePart o g p u l a 4) 48 1 (bI l) = (ePart o g p u l a 5, 0) ∧ fPut (ePart o g p u l a 5) 49 1 (bI a) = (eWord o g p u l a, 0) := by
  have hl := bI_bd l
  have ha := bI_bd a
  refine ⟨?_, ?_, ?_, ?_, ?_, ?_⟩ <;> simp only [ePart]
  · rw [put_above (P := 1) (B := 1048576) (by decide) (by decide) (by decide) (by omega) (by omega) (by omega) (by omega) (by omega)]
    have : 0 + 1 * o = o := by omega
    rw [this]
  · rw [put_above (P := 1048576) (B := 1048576) (by decide) (by decide) (by decide) (by omega) (by omega) (by omega) (by omega) (by omega)]
  · rw [put_above (P := 1099511627776) (B := 16) (by decide) (by decide) (by decide) (by omega) (by omega) (by omega) (by omega) (by omega)]
  · rw [put_above (P := 17592186044416) (B := 16) (by decide) (by decide) (by decide) (by omega) (by omega) (by omega) (by omega) (by omega)]
  · rw [put_above (P := 281474976710656) (B := 2) (by decide) (by decide) (by decide) (by omega) (by omega) (by omega) (by omega) (by omega)]
  · rw [put_above (P := 562949953421312) (B := 2) (by decide) (by decide) (by decide) (by omega) (by omega) (by omega) (by omega) (by omega)]
    rfl
end Go.Proofs.Ytmbkkpeepbfgoaa
