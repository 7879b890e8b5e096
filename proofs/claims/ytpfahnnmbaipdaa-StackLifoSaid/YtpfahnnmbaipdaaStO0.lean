/- The stack's slots taken and given back, in numbers. -/
import Derived.Test.YtpfahnnmbaipdaaStA0
namespace Go.Proofs.Ytpfahnnmbaipdaa
set_option linter.unusedVariables false
set_option linter.unusedSimpArgs false
open Go.RowKit
/-- the top behind j slots that were given back, of n. -/
def pTop (s n j : Int) : Int := if j = 0 then topAt s n else j
def pWord (s n j : Int) : Int := pTop s n j + 1048576 * (n + j)
/-- the words behind j slots that were given back, of n that were taken. -/
def pW (t s n : Int) : Nat → List Int
  | 0 => aW t s n
  | j + 1 => wPut (wPut (pW t s n j) (4 + t + 3 * j + 2) (pTop s n j)) 1 (pWord s n (j + 1))
/-- the words between the second step and the third. -/
def pV (t s n : Int) (j : Nat) : List Int := wPut (pW t s n j) (4 + t + 3 * j + 2) (pTop s n j)
theorem pW_len (t s n : Int) : ∀ j, (pW t s n j).length = (lWords t s).toNat
  | 0 => aW_len t s n
  | j + 1 => by unfold pW; rw [wPut_len, wPut_len, pW_len t s n j]
theorem pV_len (t s n : Int) (j : Nat) : (pV t s n j).length = (lWords t s).toNat := by unfold pV; rw [wPut_len, pW_len]
section
variable {t s n : Int} (t1 : 1 ≤ t) (t4 : t ≤ 4) (s1 : 1 ≤ s) (s64 : s ≤ 64) (n0 : 0 ≤ n) (ns : n ≤ s)
include t1 t4 s1 s64 n0 ns
theorem pTop_bd (j : Nat) (hj : (j : Int) ≤ n) : 0 ≤ pTop s n j ∧ pTop s n j ≤ 64 := by have _u := And.intro t1 (And.intro t4 (And.intro s1 (And.intro s64 (And.intro n0 ns)))); unfold pTop topAt; split <;> (try split) <;> omega
theorem pW_in (j : Nat) (i : Int) (h0 : 0 ≤ i) (hi : i < 4 + t + 3 * s) : wIn (pW t s n j) i = true := by have _u := And.intro t1 (And.intro t4 (And.intro s1 (And.intro s64 (And.intro n0 ns)))); rw [wIn_iff, pW_len, lWords_ok t1]; omega
theorem pV_in (j : Nat) (i : Int) (h0 : 0 ≤ i) (hi : i < 4 + t + 3 * s) : wIn (pV t s n j) i = true := by have _u := And.intro t1 (And.intro t4 (And.intro s1 (And.intro s64 (And.intro n0 ns)))); rw [wIn_iff, pV_len, lWords_ok t1]; omega
theorem pW_one : ∀ j : Nat, (j : Int) ≤ n → wAt (pW t s n j) 1 = pWord s n j
  | 0, _ => by unfold pW; rw [aW_one t1 t4 s1 s64]; unfold aWord pWord pTop; simp
  | j + 1, hj => by
    unfold pW
    rw [wAt_put_same]
    · rfl
    · rw [wIn_put]; exact pW_in t1 t4 s1 s64 n0 ns j 1 (by omega) (by omega)
theorem pV_one (j : Nat) (hj : (j : Int) ≤ n) : wAt (pV t s n j) 1 = pWord s n j := by
  unfold pV; rw [wAt_put_ne (by omega), pW_one t1 t4 s1 s64 n0 ns j hj]
theorem pWord_is (j : Nat) (hj : (j : Int) ≤ n) : dIs (pWord s n j) = true ∧ dUnTop (pWord s n j) = pTop s n j ∧ pWord s n j % 1048576 = pTop s n j ∧ pWord s n j / 1048576 = n + j := by
  have tb := pTop_bd t1 t4 s1 s64 n0 ns j hj
  have e1 : pWord s n j % 1048576 = pTop s n j := by unfold pWord; omega
  have e2 : pWord s n j / 1048576 = n + j := by unfold pWord; omega
  have e3 : dIs (pWord s n j) = true := by unfold dIs; rw [decide_eq_true_eq, e1]; unfold pWord; omega
  exact ⟨e3, by unfold dUnTop; rw [if_pos e3, e1], e1, e2⟩
theorem give_look (j : Nat) (hj : (j : Int) < n) : pushStep t s (pW t s n j) 1 j 0 0 = ⟨pW t s n j, 2, j, pWord s n j, 0, 0, 0, false⟩ := by
  obtain ⟨h1, -, -, -⟩ := pWord_is t1 t4 s1 s64 n0 ns j (by omega)
  unfold pushStep
  have hl : lOf t s j 2 = 4 + t + 3 * j + 2 := by unfold lOf; rw [if_pos (by omega)]
  rw [if_pos rfl, hl, if_neg (by omega), on1 t1 t4 s1 s64, pW_one t1 t4 s1 s64 n0 ns j (by omega), if_pos h1]
theorem give_push (j : Nat) (hj : (j : Int) < n) : dPush (pWord s n j) j = (pWord s n (j + 1), pTop s n j, 0) := by
  obtain ⟨h1, h2, h3, h4⟩ := pWord_is t1 t4 s1 s64 n0 ns j (by omega)
  unfold dPush
  rw [if_pos h1, if_pos (by omega), h3, h4]
  unfold dNext
  rw [if_neg (by omega)]
  unfold pWord pTop
  rw [if_neg (show ¬ (j : Int) + 1 = 0 by omega)]
  congr 1; omega
theorem give_link (j : Nat) (hj : (j : Int) < n) : pushStep t s (pW t s n j) 2 j (pWord s n j) 0 = ⟨pV t s n j, 3, j, pWord s n j, pWord s n (j + 1), 0, 0, false⟩ := by
  have hl : lOf t s j 2 = 4 + t + 3 * j + 2 := by unfold lOf; rw [if_pos (by omega)]
  unfold pushStep
  rw [if_neg (by decide), if_pos rfl, hl, give_push t1 t4 s1 s64 n0 ns j hj]
  rfl
theorem give_swap (j : Nat) (hj : (j : Int) < n) : pushStep t s (pV t s n j) 3 j (pWord s n j) (pWord s n (j + 1)) = ⟨pW t s n (j + 1), 0, j, pWord s n j, pWord s n (j + 1), 0, 0, true⟩ := by
  have hc : wCas (pV t s n j) 1 (pWord s n j) = true := by unfold wCas; rw [pV_in t1 t4 s1 s64 n0 ns j 1 (by omega) (by omega), pV_one t1 t4 s1 s64 n0 ns j (by omega)]; simp
  unfold pushStep
  rw [if_neg (by decide), if_neg (by decide), if_pos rfl, on1 t1 t4 s1 s64, if_pos hc]
  have : wCasPut (pV t s n j) 1 (pWord s n j) (pWord s n (j + 1)) = pW t s n (j + 1) := by
    unfold wCasPut; rw [if_pos hc]; rfl
  rw [this]
/-- the link of a slot behind j that were given back. -/
theorem pW_link : ∀ (j : Nat), (j : Int) ≤ n → ∀ i : Int, 0 ≤ i → i < s → wAt (pW t s n j) (4 + t + 3 * i + 2) = if i < j then pTop s n i else topAt s (i + 1)
  | 0, _, i, h0, hi => by
    unfold pW
    rw [if_neg (by omega)]
    unfold aW
    rw [wAt_put_ne (by omega), initW_link t1 h0 hi]
  | j + 1, hj, i, h0, hi => by
    unfold pW
    rw [wAt_put_ne (by omega)]
    by_cases e : i = j
    · subst e
      rw [wAt_put_same (pW_in t1 t4 s1 s64 n0 ns j _ (by omega) (by omega)), if_pos (by omega)]
    · rw [wAt_put_ne (by omega), pW_link j (by omega) i h0 hi]
      by_cases c : i < j
      · rw [if_pos c, if_pos (by omega)]
      · rw [if_neg c, if_neg (by omega)]
theorem pW_ok (j : Nat) (hj : (j : Int) ≤ n) : WOk (pW t s n j) := by
  induction j with
  | zero => exact aW_ok t1 s1 s64 n0 ns t4
  | succ j ih =>
    have ih := ih (by omega)
    have tb := pTop_bd t1 t4 s1 s64 n0 ns j (by omega)
    have wb : 0 ≤ pWord s n (j + 1) ∧ pWord s n (j + 1) ≤ 1000000000 := by
      unfold pWord pTop; rw [if_neg (by omega)]; omega
    have put : ∀ (ws : List Int) (k m : Int), WOk ws → -9223372036854775808 ≤ m → m ≤ 9223372036854775807 → WOk (wPut ws k m) := by
      intro ws k m h h1 h2 x hx
      unfold wPut at hx
      split at hx
      · rcases List.mem_or_eq_of_mem_set hx with hx | hx
        · exact h x hx
        · subst hx; exact ⟨h1, h2⟩
      · exact h x hx
    unfold pW
    exact put _ _ _ (put _ _ _ ih (by omega) (by omega)) (by push_cast; omega) (by push_cast; omega)
omit t4 s64 in
theorem freeL_up {ws : List Int} (hl : ∀ i : Int, n ≤ i → i < s → wAt ws (4 + t + 3 * i + 2) = topAt s (i + 1)) : ∀ (f : Nat) (k : Int), n ≤ k → s - k = f → (freeL t s ws f (topAt s k)).length = f
  | 0, _, _, _ => rfl
  | f + 1, k, hk, hf => by
    have _u := And.intro t1 (And.intro s1 (And.intro n0 ns))
    have ht : topAt s k = k + 1 := by unfold topAt; rw [if_pos (by omega)]
    have hlk : lOf t s (k + 1 - 1) 2 = 4 + t + 3 * k + 2 := by unfold lOf; rw [if_pos (by omega)]; omega
    rw [ht, freeL, if_pos (by omega), hlk, hl k hk (by omega), List.length_cons, freeL_up hl f (k + 1) (by omega) (by omega)]
def downL : Nat → List Int
  | 0 => []
  | m + 1 => (m : Int) :: downL m
omit t1 t4 s1 s64 n0 ns in
theorem downL_len : ∀ m, (downL m).length = m
  | 0 => rfl
  | m + 1 => by rw [downL, List.length_cons, downL_len m]
omit t1 t4 s1 s64 n0 ns in
theorem downL_get : ∀ (m i : Nat), i < m → (downL m)[i]? = some ((m : Int) - 1 - i)
  | 0, _, h => by omega
  | m + 1, 0, _ => by rw [downL]; simp
  | m + 1, i + 1, h => by rw [downL, List.getElem?_cons_succ, downL_get m i (by omega)]; congr 1; push_cast; omega
omit t4 s64 in
theorem freeL_down {ws : List Int} (hl : ∀ i : Int, 0 ≤ i → i < n → wAt ws (4 + t + 3 * i + 2) = pTop s n i) (g : Nat) : ∀ (m : Nat), (m : Int) ≤ n → freeL t s ws (m + g) (pTop s n m) = downL m ++ freeL t s ws g (topAt s n)
  | 0, _ => by rw [Nat.zero_add]; unfold pTop; rw [if_pos (by rfl)]; rfl
  | m + 1, hm => by
    have _u := And.intro t1 (And.intro s1 (And.intro n0 ns))
    have ht : pTop s n ((m + 1 : Nat) : Int) = m + 1 := by unfold pTop; rw [if_neg (by omega)]; push_cast; rfl
    have hlk : lOf t s ((m : Int) + 1 - 1) 2 = 4 + t + 3 * m + 2 := by unfold lOf; rw [if_pos (by omega)]; omega
    rw [ht, show m + 1 + g = (m + g) + 1 by omega, freeL, if_pos (by omega), hlk, hl m (by omega) (by omega), freeL_down hl g m (by omega), downL]
    have : (m : Int) + 1 - 1 = m := by omega
    rw [this]; rfl
theorem give_free (m : Nat) (hm : (m : Int) = n) : ∃ ys : List Int, freeOf t s (pW t s n m) = downL m ++ ys ∧ ((m + ys.length : Nat) : Int) = s := by
  obtain ⟨-, h2, -, -⟩ := pWord_is t1 t4 s1 s64 n0 ns m (by omega)
  have hlink := pW_link t1 t4 s1 s64 n0 ns m (by omega)
  obtain ⟨g, hg⟩ : ∃ g : Nat, s - n = g := ⟨(s - n).toNat, by omega⟩
  refine ⟨freeL t s (pW t s n m) g (topAt s n), ?_, ?_⟩
  · unfold freeOf
    rw [on1 t1 t4 s1 s64, pW_one t1 t4 s1 s64 n0 ns m (by omega), h2, show s.toNat = m + g by omega]
    exact freeL_down t1 s1 n0 ns (fun i h0 hi => by rw [hlink i h0 (by omega), if_pos (by omega)]) g m (by omega)
  · rw [freeL_up t1 s1 n0 ns (fun i h0 hi => by rw [hlink i (by omega) hi, if_neg (by omega)]) g n (by omega) hg]
    omega
end
end Go.Proofs.Ytpfahnnmbaipdaa
