/- The read law ReadSame, in numbers. -/
import Derived.Test.YtmbkkpeepbfgoaaRdG0
namespace Go.Proofs.Ytmbkkpeepbfgoaa
set_option linter.unusedVariables false
set_option linter.unusedSimpArgs false
open Go.RowKit
def smW0 : List Int := [0, 1, 0, 0, 0, 0, 0, 0]
def smW1 : List Int := [0, 1, 0, 0, 0, 562949953421320, 0, 0]
def smW2 : List Int := [0, 1, 0, 0, 0, 562949953421320, 16, 0]
theorem sm_0 : initW 1 1 = smW0 := by decide
theorem sm_1 : wPut smW0 5 562949953421320 = smW1 := by decide
theorem sm_2 : wPut smW1 6 16 = smW2 := by decide
/-- the bytes, after k of them were laid. -/
def smB (l : List Int) (k : Nat) : List Int := setW (fun j => if 8 ≤ j ∧ j < 8 + k then l.getD (j - 8) 0 % 256 else 0) 32
theorem sm_b0 (l : List Int) : List.replicate (32 : Int).toNat (0 : Int) = smB l 0 := by
  rw [show (32 : Int).toNat = 32 from rfl]
  unfold smB setW
  apply List.ext_getElem?
  intro j
  by_cases h : j < 32
  · rw [List.getElem?_replicate, if_pos h, List.getElem?_map, List.getElem?_range h]
    simp only [Option.map_some]
    rw [if_neg (by omega)]
  · rw [List.getElem?_eq_none (by simp; omega), List.getElem?_eq_none (by simp; omega)]
theorem smB_len (l : List Int) (k : Nat) : (smB l k).length = 32 := setW_len _ _
theorem sm_step (l : List Int) (k : Nat) (hk : k < 16) : wPut (smB l k) (8 + (k : Int)) (l.getD k 0 % 256) = smB l (k + 1) := by
  have := wPut_setW (fun j => if 8 ≤ j ∧ j < 8 + k then l.getD (j - 8) 0 % 256 else 0) 32 (8 + k) (l.getD k 0 % 256) (by omega)
  rw [show ((8 + k : Nat) : Int) = 8 + (k : Int) by omega] at this
  unfold smB
  rw [this]
  refine setW_ext fun j _ => ?_
  by_cases e : j = 8 + k
  · subst e; rw [if_pos rfl, if_pos (by omega), show 8 + k - 8 = k by omega]
  · rw [if_neg e]
    by_cases c : 8 ≤ j ∧ j < 8 + k
    · rw [if_pos c, if_pos (by omega)]
    · rw [if_neg c, if_neg (by omega)]
theorem smB_ok (l : List Int) (k : Nat) : BOk (smB l k) := by
  refine ⟨by rw [smB_len]; decide, fun x hx => ?_⟩
  obtain ⟨j, -, rfl⟩ := List.mem_map.1 hx
  split <;> omega
/-- what a read of a place comes to. -/
def smR (l : List Int) (off : Int) : Int × Int := if off < 0 ∨ 16 ≤ off then (5, 0) else (0, l.getD off.toNat 0 % 256)
theorem sm_r (l : List Int) (off : Int) : (mRun (rdF 1 1 0 0 false off smW2 (smB l 16)) 10 10 rdN).2.1 = smR l off := by
  have := rd_go (t := 1) (s := 1) (sl := 0) (ge := 0) (off := off) (ws := smW2) (bs := smB l 16) (v := 562949953421320) (O := 8) (S := 16) (by decide) (by decide) (by decide) (by decide) (by decide) 6
  rw [this]
  unfold smR
  by_cases h : off < 0 ∨ 16 ≤ off
  · rw [if_pos h, if_pos h]
  · rw [if_neg h, if_neg h]
    have e : wrap64 (8 + off) = 8 + off := by unfold wrap64; omega
    rw [e]
    unfold smB
    rw [wAt_setW, if_pos (by omega), if_pos (by omega), show (8 + off).toNat - 8 = off.toNat by omega]
theorem sm_n (x : Nat) (off : Int) : rdNews 32 1 1 1099511627776 off x = rdG x 1 1 0 0 false off rdN := by
  have h1 : ofT 32 1 1 = 1 := by decide
  have h2 : ofS 32 1 1 = 1 := by decide
  have h3 : hOf 1099511627776 1 = (0, 0, 0) := by decide
  have h4 : cfgOk 32 1 1 = true := by decide
  unfold rdNews; rw [h1, h2, h3, h4]; rfl
end Go.Proofs.Ytmbkkpeepbfgoaa
