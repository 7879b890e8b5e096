/- What head's functions tell, as functions of numbers. -/
import Derived.Test.YtmbkkpeepbfgoaaFnX
namespace Go.Proofs.Ytmbkkpeepbfgoaa
set_option linter.unusedVariables false
set_option linter.unusedSimpArgs false
open Go.RowKit
def dTop (n : Int) : Bool := decide (0 ≤ n ∧ n ≤ 64)
def dIs (w : Int) : Bool := decide (0 ≤ w ∧ w < 4503599627370496 ∧ w % 1048576 ≤ 64)
def dPack (t g : Int) : Int × Int := if 0 ≤ t ∧ t ≤ 64 ∧ 0 ≤ g ∧ g ≤ 4294967295 then (t + 1048576 * g, 0) else (0, 1)
def dUnTop (w : Int) : Int := if dIs w = true then w % 1048576 else 0
def dUnTag (w : Int) : Int := if dIs w = true then w / 1048576 else 0
def dUnErr (w : Int) : Int := if dIs w = true then 0 else 2
def dNext (g : Int) : Int := if g = 4294967295 then 0 else g + 1
def dPop (w l : Int) : Int × Int × Int :=
  if dIs w = true then (if dTop l = true then (if w % 1048576 = 0 then (0, 0, 11) else (l + 1048576 * dNext (w / 1048576), w % 1048576 - 1, 0)) else (0, 0, 1)) else (0, 0, 2)
def dPush (w s : Int) : Int × Int × Int :=
  if dIs w = true then (if 0 ≤ s ∧ s < 64 then (s + 1 + 1048576 * dNext (w / 1048576), w % 1048576, 0) else (0, 0, 1)) else (0, 0, 2)
def dIn (w : Int) : Int := if 0 < w then w - 1 else 0
theorem dIs_of {w : Int} (h : dIs w = true) : 0 ≤ w ∧ w < 4503599627370496 ∧ w % 1048576 ≤ 64 := by simpa [dIs] using h
theorem dNext_bd {g : Int} (h : 0 ≤ g) (h' : g ≤ 4294967295) : 0 ≤ dNext g ∧ dNext g ≤ 4294967295 := by unfold dNext; split <;> omega
theorem dUnTop_bd (w : Int) : 0 ≤ dUnTop w ∧ dUnTop w ≤ 64 := by
  unfold dUnTop; split
  · have := dIs_of ‹_›; omega
  · omega
theorem dUnTag_bd (w : Int) : 0 ≤ dUnTag w ∧ dUnTag w ≤ 4294967295 := by
  unfold dUnTag; split
  · have := dIs_of ‹_›; omega
  · omega
theorem pw20 : pw 20 = 1048576 := by decide
theorem pw32 : pw 32 = 4294967296 := by decide
theorem put_top {t : Int} (h : 0 ≤ t) (h' : t < 1048576) : fPut 0 0 20 t = (t, 0) := by
  have hm : fMay 0 20 = true := by decide
  rw [fPut, if_neg (by simp [hm, h]; decide), if_neg (by rw [pw20]; omega)]
  have e : fGet 0 0 20 = 0 := by decide
  have e2 : pw 0 = 1 := by decide
  rw [e, e2]; simp
theorem put_tag {t g : Int} (h : 0 ≤ t) (h' : t < 1048576) (hg : 0 ≤ g) (hg' : g ≤ 4294967295) : fPut t 20 32 g = (t + 1048576 * g, 0) := by
  have hm : fMay 20 32 = true := by decide
  have hw : fWord t = true := by simp [fWord]; omega
  rw [fPut, if_neg (by simp [hm, hw, hg]), if_neg (by rw [pw32]; omega)]
  have e : fGet t 20 32 = 0 := by
    unfold fGet; rw [if_pos ⟨hw, hm⟩, pw20, pw32]
    have : t / 1048576 = 0 := by omega
    rw [this]; decide
  rw [e, pw20]
  have : t - 0 * 1048576 + g * 1048576 = t + 1048576 * g := by omega
  rw [this]
theorem get_top {w : Int} : fGet w 0 20 = if 0 ≤ w ∧ w < 4611686018427387904 then w % 1048576 else 0 := by
  have hm : fMay 0 20 = true := by decide
  unfold fGet fWord
  rw [pw20]
  have e2 : pw 0 = 1 := by decide
  rw [e2]
  simp only [hm, and_true, decide_eq_true_eq, Int.ediv_one]
theorem get_tag {w : Int} : fGet w 20 32 = if 0 ≤ w ∧ w < 4611686018427387904 then w / 1048576 % 4294967296 else 0 := by
  have hm : fMay 20 32 = true := by decide
  unfold fGet fWord
  rw [pw20, pw32]
  simp only [hm, and_true, decide_eq_true_eq]
/-- the two fields of a head's word are the head; of no other word are they. -/
theorem get_is {w : Int} (h : dIs w = true) : fGet w 0 20 = w % 1048576 ∧ fGet w 20 32 = w / 1048576 := by
  have := dIs_of h
  rw [get_top, get_tag, if_pos (by omega), if_pos (by omega)]
  constructor
  · rfl
  · omega
theorem get_not {w : Int} (h : dIs w = false) : dTop (fGet w 0 20) = false ∨ (fGet w 0 20 + 1048576 * fGet w 20 32 != w) = true := by
  have h' : ¬ (0 ≤ w ∧ w < 4503599627370496 ∧ w % 1048576 ≤ 64) := by simpa [dIs] using h
  rw [get_top, get_tag]
  by_cases hw : 0 ≤ w ∧ w < 4611686018427387904
  · rw [if_pos hw, if_pos hw]
    by_cases ht : w % 1048576 ≤ 64
    · right; rw [bne_iff_ne]; omega
    · left; simp [dTop]; omega
  · rw [if_neg hw, if_neg hw]
    right; rw [bne_iff_ne]; omega
theorem get_bds (w : Int) : 0 ≤ fGet w 0 20 ∧ fGet w 0 20 < 1048576 ∧ 0 ≤ fGet w 20 32 ∧ fGet w 20 32 ≤ 4294967295 := by
  rw [get_top, get_tag]; split <;> omega
end Go.Proofs.Ytmbkkpeepbfgoaa
