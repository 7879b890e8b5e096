/- What the handle's functions tell, as functions of numbers. -/
import Derived.Test.YtmbkkpeepbfgoaaBase
namespace Go.Proofs.Ytmbkkpeepbfgoaa
set_option linter.unusedVariables false
set_option linter.unusedSimpArgs false
/-- handle.Make. -/
def hMake (s g : Int) : Int × Int := if 0 ≤ s ∧ s < 64 ∧ 0 ≤ g ∧ g ≤ 1000 then (s + 1048576 * g + 1099511627776, 0) else (0, 1)
/-- is it a handle's number? -/
def hIs (h : Int) : Prop := 1099511627776 ≤ h ∧ (h - 1099511627776) / 1048576 ≤ 1000 ∧ (h - 1099511627776) % 1048576 < 64
instance (h : Int) : Decidable (hIs h) := by unfold hIs; infer_instance
def hSlot (h : Int) : Int := if hIs h then (h - 1099511627776) % 1048576 else 0
def hGen (h : Int) : Int := if hIs h then (h - 1099511627776) / 1048576 else 0
def hRound (n : Int) : Int × Int := if 1 ≤ n ∧ n ≤ 256 then ((n + 7) / 8 * 8, 0) else (0, 9)
def hOf (h slots : Int) : Int × Int × Int := if hIs h ∧ hSlot h < slots then (hSlot h, hGen h, 0) else (0, 0, 4)
theorem hMake_ok {s g : Int} (h : 0 ≤ s ∧ s < 64 ∧ 0 ≤ g ∧ g ≤ 1000) : hMake s g = (s + 1048576 * g + 1099511627776, 0) := by unfold hMake; rw [if_pos h]
theorem hMake_bad {s g : Int} (h : ¬ (0 ≤ s ∧ s < 64 ∧ 0 ≤ g ∧ g ≤ 1000)) : hMake s g = (0, 1) := by unfold hMake; rw [if_neg h]
theorem hSlot_is {h : Int} (i : hIs h) : hSlot h = (h - 1099511627776) % 1048576 := by unfold hSlot; rw [if_pos i]
theorem hGen_is {h : Int} (i : hIs h) : hGen h = (h - 1099511627776) / 1048576 := by unfold hGen; rw [if_pos i]
theorem hSlot_no {h : Int} (i : ¬ hIs h) : hSlot h = 0 := by unfold hSlot; rw [if_neg i]
theorem hGen_no {h : Int} (i : ¬ hIs h) : hGen h = 0 := by unfold hGen; rw [if_neg i]
theorem hIs_make {s g : Int} (h : 0 ≤ s ∧ s < 64 ∧ 0 ≤ g ∧ g ≤ 1000) : hIs (s + 1048576 * g + 1099511627776) := by unfold hIs; omega
end Go.Proofs.Ytmbkkpeepbfgoaa
