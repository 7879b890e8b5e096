/- What layout's functions tell, as functions of numbers. -/
import Derived.Test.YtmbkkpeepbfgoaaBase
namespace Go.Proofs.Ytmbkkpeepbfgoaa
set_option linter.unusedVariables false
set_option linter.unusedSimpArgs false
open Go.RowKit
def cfgOk (a s t : Int) : Bool := decide (8 ≤ a ∧ a ≤ 4096 ∧ a % 8 = 0 ∧ 1 ≤ s ∧ s ≤ 64 ∧ 1 ≤ t ∧ t ≤ 4)
theorem cfgOk_of {a s t : Int} (h : cfgOk a s t = true) : 8 ≤ a ∧ a ≤ 4096 ∧ a % 8 = 0 ∧ 1 ≤ s ∧ s ≤ 64 ∧ 1 ≤ t ∧ t ≤ 4 := of_decide_eq_true h
theorem cfgOk_no {a s t : Int} (h : cfgOk a s t = false) : ¬ (8 ≤ a ∧ a ≤ 4096 ∧ a % 8 = 0 ∧ 1 ≤ s ∧ s ≤ 64 ∧ 1 ≤ t ∧ t ≤ 4) := of_decide_eq_false h
def lOk (t s : Int) : Prop := (t = 0 ∧ s = 0) ∨ (1 ≤ t ∧ t ≤ 4 ∧ 1 ≤ s ∧ s ≤ 64)
def lIn (n a b : Int) : Bool := decide (a ≤ n ∧ n ≤ b)
def lWords (t s : Int) : Int := if t = 0 then 0 else 4 + t + 3 * s
def lOnce (t n : Int) : Int := if t = 0 then -1 else n
def lNote (t n : Int) : Int := if 0 ≤ n ∧ n < t then 4 + n else -1
def lOf (t s n k : Int) : Int := if 0 ≤ n ∧ n < s then 4 + t + 3 * n + k else -1
/-- the layout that is told of a config: its threads, its slots. -/
def ofT (a s t : Int) : Int := if cfgOk a s t = true then t else 0
def ofS (a s t : Int) : Int := if cfgOk a s t = true then s else 0
def ofE (a s t : Int) : Int := if cfgOk a s t = true then 0 else 1
theorem of_lOk (a s t : Int) : lOk (ofT a s t) (ofS a s t) := by
  unfold ofT ofS lOk
  by_cases h : cfgOk a s t = true
  · rw [if_pos h, if_pos h]; have := cfgOk_of h; right; omega
  · rw [if_neg h, if_neg h]; left; omega
theorem of_yes {a s t : Int} (h : cfgOk a s t = true) : ofT a s t = t ∧ ofS a s t = s ∧ ofE a s t = 0 := by unfold ofT ofS ofE; rw [if_pos h, if_pos h, if_pos h]; exact ⟨rfl, rfl, rfl⟩
theorem of_no {a s t : Int} (h : cfgOk a s t = false) : ofT a s t = 0 ∧ ofS a s t = 0 ∧ ofE a s t = 1 := by
  have h' : ¬ cfgOk a s t = true := by rw [h]; decide
  unfold ofT ofS ofE; rw [if_neg h', if_neg h', if_neg h']; exact ⟨rfl, rfl, rfl⟩
theorem lOk_yes {a s t : Int} (h : cfgOk a s t = true) : lOk t s := by have := cfgOk_of h; right; omega
end Go.Proofs.Ytmbkkpeepbfgoaa
