/- Words behind a Start, by place. -/
import Derived.Test.YtmbkkpeepbfgoaaLyP
import Derived.Test.YtmbkkpeepbfgoaaClP
namespace Go.Proofs.Ytmbkkpeepbfgoaa
set_option linter.unusedVariables false
set_option linter.unusedSimpArgs false
open Go.RowKit
def setW (f : Nat → Int) (n : Nat) : List Int := (List.range n).map f
theorem setW_len (f : Nat → Int) (n : Nat) : (setW f n).length = n := by simp [setW]
theorem setW_get (f : Nat → Int) (n k : Nat) (h : k < n) : (setW f n).getD k 0 = f k := by
  unfold setW; rw [List.getD_eq_getElem?_getD, List.getElem?_map, List.getElem?_range h]; rfl
theorem setW_ext {f g : Nat → Int} {n : Nat} (h : ∀ j, j < n → f j = g j) : setW f n = setW g n := List.map_congr_left fun j hj => h j (List.mem_range.1 hj)
theorem list_setW (ws : List Int) : ws = setW (fun j => ws.getD j 0) ws.length := by
  apply List.ext_getElem?
  intro k
  by_cases h : k < ws.length
  · rw [setW, List.getElem?_map, List.getElem?_range h, List.getElem?_eq_getElem h]; simp [List.getD, h]
  · rw [List.getElem?_eq_none (by omega), List.getElem?_eq_none (by rw [setW_len]; omega)]
theorem wPut_setW (f : Nat → Int) (n k : Nat) (v : Int) (h : k < n) : wPut (setW f n) (k : Int) v = setW (fun j => if j = k then v else f j) n := by
  have hi : wIn (setW f n) (k : Int) = true := wIn_iff.2 ⟨by omega, by rw [setW_len]; omega⟩
  unfold wPut
  rw [if_pos hi]
  apply List.ext_getElem?
  intro j
  rw [Int.toNat_natCast, List.getElem?_set]
  unfold setW
  by_cases hj : j < n
  · rw [List.getElem?_map, List.getElem?_range hj, List.getElem?_map, List.getElem?_range hj]
    by_cases e : k = j
    · subst e; simp [h]
    · have e' : ¬ j = k := fun h => e h.symm
      simp [e, e']
  · rw [List.getElem?_eq_none (by simp; omega), List.getElem?_eq_none (by simp; omega)]
    split <;> simp_all
theorem wAt_setW (f : Nat → Int) (n : Nat) (k : Int) : wAt (setW f n) k = if 0 ≤ k ∧ k < n then f k.toNat else 0 := by
  unfold wAt
  by_cases h : 0 ≤ k ∧ k < n
  · rw [if_pos h, if_pos (wIn_iff.2 ⟨h.1, by rw [setW_len]; exact h.2⟩), setW_get _ _ _ (by omega)]
  · rw [if_neg h, if_neg (by rw [wIn_iff, setW_len]; exact h)]
def linkAt (t s k j : Int) : Int := if (j - 6 - t) % 3 = 0 ∧ k ≤ (j - 6 - t) / 3 ∧ (j - 6 - t) / 3 + 1 < s then (j - 6 - t) / 3 + 2 else 0
def startAt (t s j : Int) : Int := if j = 1 then 1 else linkAt t s 0 j
def zeroW (k : Nat) (ws : List Int) : List Int := setW (fun j => if j < k then 0 else ws.getD j 0) ws.length
def linkW (t s k : Int) (ws : List Int) : List Int := setW (fun j => if (j : Int) < lWords t s then linkAt t s k j else ws.getD j 0) ws.length
def startW (t s : Int) (ws : List Int) : List Int := setW (fun j => if (j : Int) < lWords t s then startAt t s j else ws.getD j 0) ws.length
theorem zeroW_len (k : Nat) (ws : List Int) : (zeroW k ws).length = ws.length := setW_len _ _
theorem linkW_len (t s k : Int) (ws : List Int) : (linkW t s k ws).length = ws.length := setW_len _ _
theorem startW_len (t s : Int) (ws : List Int) : (startW t s ws).length = ws.length := setW_len _ _
theorem zeroW_zero (ws : List Int) : zeroW 0 ws = ws := by
  conv => rhs; rw [list_setW ws]
  exact setW_ext fun j _ => by simp
theorem zeroW_step (k : Nat) (ws : List Int) (h : k < ws.length) : wPut (zeroW k ws) (k : Int) 0 = zeroW (k + 1) ws := by
  unfold zeroW
  rw [wPut_setW _ _ _ _ h]
  refine setW_ext fun j _ => ?_
  by_cases e : j = k
  · simp [e]
  · by_cases e2 : j < k
    · simp [e, e2]; omega
    · have : ¬ j < k + 1 := by omega
      simp [e, e2, this]
theorem lWords_ok {t s : Int} (h1 : 1 ≤ t) : lWords t s = 4 + t + 3 * s := by unfold lWords; rw [if_neg (by omega)]
theorem linkW_start {t s : Int} (h1 : 1 ≤ t) (h3 : 1 ≤ s) (ws : List Int) : zeroW (lWords t s).toNat ws = linkW t s s ws := by
  refine setW_ext fun j _ => ?_
  rw [lWords_ok h1]
  have e : linkAt t s s j = 0 := by unfold linkAt; rw [if_neg (by omega)]
  rw [e]
  by_cases c : (j : Int) < 4 + t + 3 * s
  · rw [if_pos c, if_pos (by omega)]
  · rw [if_neg c, if_neg (by omega)]
theorem linkW_step {t s k : Int} (h1 : 1 ≤ t) (h3 : 1 ≤ k) (h4 : k ≤ s) (ws : List Int) (hw : lWords t s ≤ ws.length) : wPut (linkW t s k ws) (4 + t + 3 * (k - 1) + 2) (if k = s then 0 else k + 1) = linkW t s (k - 1) ws := by
  rw [lWords_ok h1] at hw
  unfold linkW
  rw [lWords_ok h1]
  obtain ⟨q, hq⟩ : ∃ q : Nat, 4 + t + 3 * (k - 1) + 2 = q := ⟨(4 + t + 3 * (k - 1) + 2).toNat, by omega⟩
  rw [hq, wPut_setW _ _ _ _ (by omega)]
  refine setW_ext fun j _ => ?_
  by_cases e : j = q
  · subst e
    have hc : (j : Int) < 4 + t + 3 * s := by omega
    rw [if_pos rfl, if_pos hc]
    unfold linkAt
    by_cases c : k = s
    · rw [if_pos c, if_neg (by omega)]
    · rw [if_neg c, if_pos (by omega)]; omega
  · rw [if_neg e]
    by_cases c : (j : Int) < 4 + t + 3 * s
    · rw [if_pos c, if_pos c]
      unfold linkAt
      by_cases d : ((j : Int) - 6 - t) % 3 = 0 ∧ k ≤ ((j : Int) - 6 - t) / 3 ∧ ((j : Int) - 6 - t) / 3 + 1 < s
      · rw [if_pos d, if_pos (by omega)]
      · rw [if_neg d, if_neg (by omega)]
    · rw [if_neg c, if_neg c]
theorem startW_last {t s : Int} (h1 : 1 ≤ t) (h3 : 1 ≤ s) (ws : List Int) (hw : lWords t s ≤ ws.length) : wPut (linkW t s 0 ws) 1 1 = startW t s ws := by
  rw [lWords_ok h1] at hw
  unfold linkW startW
  rw [lWords_ok h1]
  have := wPut_setW (fun j => if (j : Int) < 4 + t + 3 * s then linkAt t s 0 j else ws.getD j 0) ws.length 1 1 (by omega)
  simp only [Int.natCast_one] at this
  rw [this]
  refine setW_ext fun j _ => ?_
  unfold startAt
  by_cases e : j = 1
  · subst e; rw [if_pos rfl, if_pos (by omega), if_pos (by omega)]
  · rw [if_neg e]
    by_cases c : (j : Int) < 4 + t + 3 * s
    · rw [if_pos c, if_pos c, if_neg (by omega)]
    · rw [if_neg c, if_neg c]
end Go.Proofs.Ytmbkkpeepbfgoaa
