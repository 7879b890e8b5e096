/- The stack alone, in numbers. -/
import Derived.Test.YtpfahnnmbaipdaaStF
namespace Go.Proofs.Ytpfahnnmbaipdaa
set_option linter.unusedVariables false
set_option linter.unusedSimpArgs false
open Go.RowKit
def topAt (s k : Int) : Int := if k < s then k + 1 else 0
def aWord (s k : Int) : Int := topAt s k + 1048576 * k
/-- the words after k slots were taken. -/
def aW (t s k : Int) : List Int := wPut (initW t s) 1 (aWord s k)
theorem wAt_put_same {ws : List Int} {k n : Int} (h : wIn ws k = true) : wAt (wPut ws k n) k = n := by
  unfold wAt; rw [wIn_put, if_pos h]
  obtain ⟨h0, h1⟩ := wIn_iff.1 h
  unfold wPut; rw [if_pos h, List.getD_eq_getElem?_getD, List.getElem?_set_self (by omega)]; rfl
theorem wAt_put_ne {ws : List Int} {k j n : Int} (h : j ≠ k) : wAt (wPut ws k n) j = wAt ws j := by
  unfold wAt; rw [wIn_put]
  by_cases hj : wIn ws j = true
  · rw [if_pos hj, if_pos hj]
    obtain ⟨h0, h1⟩ := wIn_iff.1 hj
    unfold wPut; split
    · rename_i hk
      obtain ⟨k0, k1⟩ := wIn_iff.1 hk
      rw [List.getD_eq_getElem?_getD, List.getElem?_set_ne (by omega), ← List.getD_eq_getElem?_getD]
    · rfl
  · rw [if_neg hj, if_neg hj]
theorem wPut_put {ws : List Int} {k m n : Int} : wPut (wPut ws k m) k n = wPut ws k n := by
  by_cases hk : wIn ws k = true
  · have h1 : wPut ws k m = ws.set k.toNat m := by unfold wPut; rw [if_pos hk]
    have h2 : wPut ws k n = ws.set k.toNat n := by unfold wPut; rw [if_pos hk]
    have h3 : wIn (wPut ws k m) k = true := by rw [wIn_put]; exact hk
    unfold wPut at h3 ⊢
    rw [if_pos hk] at h3 ⊢
    rw [if_pos h3, if_pos hk, List.set_set]
  · unfold wPut; rw [if_neg hk, if_neg hk]
theorem initW_at {t s : Int} (h1 : 1 ≤ t) (j : Int) (h0 : 0 ≤ j) (hj : j < 4 + t + 3 * s) : wAt (initW t s) j = startAt t s j := by
  unfold initW startW
  rw [wAt_setW, List.length_replicate, lWords_ok h1, if_pos (by omega), if_pos (by omega)]
  rw [Int.toNat_of_nonneg h0]
theorem initW_in {t s : Int} (h1 : 1 ≤ t) (j : Int) (h0 : 0 ≤ j) (hj : j < 4 + t + 3 * s) : wIn (initW t s) j = true := by
  rw [wIn_iff, initW_len, lWords_ok h1]; omega
theorem initW_link {t s k : Int} (h1 : 1 ≤ t) (h0 : 0 ≤ k) (hk : k < s) : wAt (initW t s) (4 + t + 3 * k + 2) = topAt s (k + 1) := by
  rw [initW_at h1 _ (by omega) (by omega)]
  unfold startAt linkAt topAt
  rw [if_neg (by omega)]
  by_cases c : k + 1 < s
  · rw [if_pos c, if_pos (by omega)]; omega
  · rw [if_neg c, if_neg (by omega)]
theorem aW_len (t s k : Int) : (aW t s k).length = (lWords t s).toNat := by unfold aW; rw [wPut_len, initW_len]
section
variable {t s k : Int} (t1 : 1 ≤ t) (t4 : t ≤ 4) (s1 : 1 ≤ s) (s64 : s ≤ 64) (k0 : 0 ≤ k)
include t1 t4 s1 s64
theorem on1 : lOnce t 1 = 1 := by
  have _u := And.intro t1 (And.intro t4 (And.intro s1 s64))
  unfold lOnce; rw [if_neg (by omega)]
theorem aW_one : wAt (aW t s k) 1 = aWord s k := by unfold aW; exact wAt_put_same (initW_in t1 1 (by omega) (by omega))
theorem aW_zero : aW t s 0 = initW t s := by
  have h : aWord s 0 = wAt (initW t s) 1 := by
    rw [initW_at t1 1 (by omega) (by omega)]; unfold aWord topAt startAt; rw [if_pos (by omega), if_pos rfl]; rfl
  unfold aW; rw [h]
  unfold wPut; rw [if_pos (initW_in t1 1 (by omega) (by omega))]
  apply List.ext_getElem?
  intro j
  rw [List.getElem?_set]
  split
  · rename_i e; subst e
    have hl : 1 < (initW t s).length := by rw [initW_len, lWords_ok t1]; omega
    have e1 : (1 : Int).toNat = 1 := rfl
    rw [e1, if_pos hl, List.getElem?_eq_getElem hl]
    unfold wAt; rw [if_pos (initW_in t1 1 (by omega) (by omega)), e1, List.getD_eq_getElem?_getD, List.getElem?_eq_getElem hl]; rfl
  · rfl
include k0
theorem aWord_is (hk : k ≤ s) : dIs (aWord s k) = true ∧ dUnTop (aWord s k) = topAt s k ∧ aWord s k % 1048576 = topAt s k ∧ aWord s k / 1048576 = k := by
  have _u := And.intro t1 (And.intro t4 (And.intro s1 s64))
  have tb : 0 ≤ topAt s k ∧ topAt s k ≤ 64 := by unfold topAt; split <;> omega
  have e1 : aWord s k % 1048576 = topAt s k := by unfold aWord; omega
  have e2 : aWord s k / 1048576 = k := by unfold aWord; omega
  have e3 : dIs (aWord s k) = true := by unfold dIs; rw [decide_eq_true_eq, e1]; unfold aWord; omega
  exact ⟨e3, by unfold dUnTop; rw [if_pos e3, e1], e1, e2⟩
theorem alone_look (hk : k < s) : popStep t s (aW t s k) 1 0 0 0 = ⟨aW t s k, 2, k, aWord s k, 0, 0, 0, false⟩ := by
  obtain ⟨h1, h2, -, -⟩ := aWord_is t1 t4 s1 s64 k0 (by omega)
  unfold popStep
  rw [if_pos rfl, on1 t1 t4 s1 s64, aW_one t1 t4 s1 s64, if_pos h1, h2]
  have : topAt s k = k + 1 := by unfold topAt; rw [if_pos hk]
  rw [this, if_neg (by omega)]
  have : k + 1 - 1 = k := by omega
  rw [this]
theorem alone_link (hk : k < s) : popStep t s (aW t s k) 2 k (aWord s k) 0 = ⟨aW t s k, 3, k, aWord s k, aWord s (k + 1), 0, 0, false⟩ := by
  obtain ⟨h1, h2, h3, h4⟩ := aWord_is t1 t4 s1 s64 k0 (by omega)
  have hl : lOf t s k 2 = 4 + t + 3 * k + 2 := by unfold lOf; rw [if_pos (by omega)]
  have hv : wAt (aW t s k) (4 + t + 3 * k + 2) = topAt s (k + 1) := by unfold aW; rw [wAt_put_ne (by omega), initW_link t1 k0 hk]
  have tb : 0 ≤ topAt s (k + 1) ∧ topAt s (k + 1) ≤ 64 := by unfold topAt; split <;> omega
  have htop : topAt s k = k + 1 := by unfold topAt; rw [if_pos hk]
  have hp : dPop (aWord s k) (topAt s (k + 1)) = (aWord s (k + 1), k, 0) := by
    unfold dPop dTop
    rw [if_pos h1, if_pos (by simpa using tb), h3, h4, htop, if_neg (by omega)]
    unfold dNext aWord
    rw [if_neg (by omega)]
    have : k + 1 - 1 = k := by omega
    rw [this]
  unfold popStep
  rw [if_neg (by decide), if_pos rfl, hl, hv, hp, if_pos rfl]
theorem alone_swap (hk : k < s) : popStep t s (aW t s k) 3 k (aWord s k) (aWord s (k + 1)) = ⟨aW t s (k + 1), 0, k, aWord s k, aWord s (k + 1), k, 0, true⟩ := by
  have _u := And.intro t1 (And.intro t4 (And.intro s1 s64))
  have _v := k0
  have hin : wIn (aW t s k) 1 = true := by unfold aW; rw [wIn_put]; exact initW_in t1 1 (by omega) (by omega)
  have hc : wCas (aW t s k) 1 (aWord s k) = true := by unfold wCas; rw [hin, aW_one t1 t4 s1 s64]; simp
  unfold popStep
  rw [if_neg (by decide), if_neg (by decide), if_pos rfl, on1 t1 t4 s1 s64, if_pos hc]
  have : wCasPut (aW t s k) 1 (aWord s k) (aWord s (k + 1)) = aW t s (k + 1) := by
    unfold wCasPut; rw [if_pos hc]; unfold aW; rw [wPut_put]
  rw [this]
theorem alone_empty (hk : k = s) : popStep t s (aW t s k) 1 0 0 0 = ⟨aW t s k, 0, 0, aWord s k, 0, 0, 11, true⟩ := by
  obtain ⟨h1, h2, -, -⟩ := aWord_is t1 t4 s1 s64 k0 (by omega)
  unfold popStep
  rw [if_pos rfl, on1 t1 t4 s1 s64, aW_one t1 t4 s1 s64, if_pos h1, h2]
  have : topAt s k = 0 := by unfold topAt; rw [if_neg (by omega)]
  rw [this, if_pos rfl]
theorem alone_free (hk : k = s) : freeOf t s (aW t s k) = [] := by
  obtain ⟨h1, h2, -, -⟩ := aWord_is t1 t4 s1 s64 k0 (by omega)
  unfold freeOf
  rw [on1 t1 t4 s1 s64, aW_one t1 t4 s1 s64, h2]
  have : topAt s k = 0 := by unfold topAt; rw [if_neg (by omega)]
  rw [this]
  cases s.toNat with
  | zero => rfl
  | succ f => rw [freeL, if_neg (by omega)]
omit t4 in
theorem aW_ok (hk : k ≤ s) (t4 : t ≤ 4) : WOk (aW t s k) := by
  intro x hx
  obtain ⟨j, hj, rfl⟩ := List.mem_iff_getElem.1 hx
  have hx2 : (aW t s k)[j] = wAt (aW t s k) j := by
    unfold wAt; rw [if_pos (wIn_iff.2 ⟨by omega, by omega⟩), Int.toNat_natCast, List.getD_eq_getElem?_getD, List.getElem?_eq_getElem hj]; rfl
  rw [hx2]
  rw [aW_len, lWords_ok t1] at hj
  by_cases e : (j : Int) = 1
  · rw [e, aW_one t1 t4 s1 s64]; unfold aWord topAt; split <;> omega
  · have : wAt (aW t s k) (j : Int) = startAt t s j := by unfold aW; rw [wAt_put_ne e, initW_at t1 _ (by omega) (by omega)]
    rw [this]; unfold startAt linkAt; split
    · omega
    · split <;> omega
end
end Go.Proofs.Ytpfahnnmbaipdaa
