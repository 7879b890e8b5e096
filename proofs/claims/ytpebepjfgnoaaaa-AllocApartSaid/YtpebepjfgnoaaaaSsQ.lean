/- Stack machines, program's and reference's, in numbers; a contract at any place. -/
import Derived.Test.YtpebepjfgnoaaaaRt10c
import Derived.Test.YtpebepjfgnoaaaaStF
namespace Go.Proofs.Ytpebepjfgnoaaaa
set_option linter.unusedVariables false
set_option linter.unusedSimpArgs false
open Go.RowKit
theorem rm_rel {pu : Bool} {t s nx sl rs wd tw : Int} {ws : List Int} (h : pu = true ∨ nx = 2 ∨ nx = 3 → rs = sl) :
    rmStep pu t s ws nx rs wd tw = { rmStep pu t s ws nx sl wd tw with sl := (rmStep pu t s ws nx rs wd tw).sl } ∧
    (pu = true ∨ (rmStep pu t s ws nx sl wd tw).nx = 2 ∨ (rmStep pu t s ws nx sl wd tw).nx = 3 → (rmStep pu t s ws nx rs wd tw).sl = (rmStep pu t s ws nx sl wd tw).sl) := by
  by_cases hp : pu = true
  · have e := h (.inl hp)
    subst e
    exact ⟨rfl, fun _ => rfl⟩
  · by_cases h2 : nx = 2 ∨ nx = 3
    · have e := h (.inr h2)
      subst e
      exact ⟨rfl, fun _ => rfl⟩
    · have n2 : nx ≠ 2 := fun k => h2 (.inl k)
      have n3 : nx ≠ 3 := fun k => h2 (.inr k)
      unfold rmStep
      rw [if_neg hp, if_neg hp]
      unfold popStep
      by_cases n1 : nx = 1
      · simp only [if_pos n1]
        split
        · split
          · exact ⟨rfl, fun k => by simp [hp] at k⟩
          · exact ⟨rfl, fun _ => rfl⟩
        · exact ⟨rfl, fun k => by simp [hp] at k⟩
      · simp only [if_neg n1, if_neg n2, if_neg n3]
        exact ⟨trivial, fun k => by simp [hp, n2, n3] at k⟩
def I64 (x : Int) : Prop := -9223372036854775808 ≤ x ∧ x ≤ 9223372036854775807
theorem dNext_bdI {w : Int} (h : dIs w = true) : 0 ≤ dNext (w / 1048576) ∧ dNext (w / 1048576) ≤ 4294967295 := by have := dIs_of h; unfold dNext; split <;> omega
theorem dPop_bd (w l : Int) : 0 ≤ (dPop w l).1 ∧ (dPop w l).1 ≤ 4503599627370495 := by
  unfold dPop; split
  · rename_i h
    have hn := dNext_bdI h
    split
    · rename_i h1
      have h1 : 0 ≤ l ∧ l ≤ 64 := by simpa [dTop] using h1
      split
      · simp
      · simp only; omega
    · simp
  · simp
theorem dPush_bd (w l : Int) : 0 ≤ (dPush w l).1 ∧ (dPush w l).1 ≤ 4503599627370495 ∧ 0 ≤ (dPush w l).2.1 ∧ (dPush w l).2.1 ≤ 64 := by
  unfold dPush; split
  · rename_i h
    have hn := dNext_bdI h
    have hw := dIs_of h
    split
    · simp only; omega
    · simp
  · simp
theorem wPut_okI {ws : List Int} (h : WOk ws) (k : Int) {n : Int} (hn : I64 n) : WOk (wPut ws k n) := by
  have := wPut_ok h k n
  rwa [show wrap64 n = n by unfold wrap64; unfold I64 at hn; omega] at this
theorem rm_ok {pu : Bool} {t s nx sl wd tw : Int} {ws : List Int} (h : WOk ws) (hw : I64 wd) (ht : I64 tw) :
    WOk (rmStep pu t s ws nx sl wd tw).ws ∧ (rmStep pu t s ws nx sl wd tw).ws.length = ws.length ∧ I64 (rmStep pu t s ws nx sl wd tw).wd ∧ I64 (rmStep pu t s ws nx sl wd tw).to := by
  have hv : I64 (wAt ws (lOnce t 1)) := wAt_bd h _
  have hp := dPop_bd wd (wAt ws (lOf t s sl 2))
  have hq := dPush_bd wd sl
  have k1 : I64 (dPop wd (wAt ws (lOf t s sl 2))).1 := ⟨by omega, by omega⟩
  have k2 : I64 (dPush wd sl).1 := ⟨by omega, by omega⟩
  have k3 : I64 (dPush wd sl).2.1 := ⟨by omega, by omega⟩
  have k4 : WOk (wCasPut ws (lOnce t 1) wd tw) := by unfold wCasPut; split; exact wPut_okI h _ ht; exact h
  have k5 : (wCasPut ws (lOnce t 1) wd tw).length = ws.length := by unfold wCasPut; split; exact wPut_len _ _ _; rfl
  unfold rmStep
  split
  · unfold pushStep
    split
    · split
      · exact ⟨h, rfl, hw, ht⟩
      · split
        · exact ⟨h, rfl, hv, ht⟩
        · exact ⟨h, rfl, hv, ht⟩
    · split
      · exact ⟨wPut_okI h _ k3, wPut_len _ _ _, hw, k2⟩
      · split
        · split
          · exact ⟨k4, k5, hw, ht⟩
          · exact ⟨h, rfl, hw, ht⟩
        · exact ⟨h, rfl, hw, ht⟩
  · unfold popStep
    split
    · split
      · split
        · exact ⟨h, rfl, hv, ht⟩
        · exact ⟨h, rfl, hv, ht⟩
      · exact ⟨h, rfl, hv, ht⟩
    · split
      · split
        · exact ⟨h, rfl, hw, k1⟩
        · exact ⟨h, rfl, hw, ht⟩
      · split
        · split
          · exact ⟨k4, k5, hw, ht⟩
          · exact ⟨h, rfl, hw, ht⟩
        · exact ⟨h, rfl, hw, ht⟩
/-- a contract of the first two groups and one more, wherever that lies. -/
theorem atIn {f : FuncId} {args : Array Value} {B : Nat} {W w : World} {L : List Grp} {m k g : Grp} {Φ : Ending → Grp → Grp → Grp → Prop} (i : Nat) (hO : Owns B W w (m :: k :: L)) (hi : L[i]? = some g)
    (H : ∀ R, Owns B W w (m :: k :: g :: R) → Calls Try.prog f args w fun e w' => ∃ m' k' g', Φ e m' k' g' ∧ Owns B W w' (m' :: k' :: g' :: R)) :
    Calls Try.prog f args w fun e w' => ∃ m' k' g', Φ e m' k' g' ∧ Owns B W w' (m' :: k' :: L.set i g') := by
  have hp := perm_erase L i g hi
  have h2 := hO.perm ((hp.cons k).cons m)
  refine (H _ h2).mono ?_
  rintro e w' ⟨m', k', g', hΦ, hO'⟩
  refine ⟨m', k', g', hΦ, hO'.perm ?_⟩
  have hq := perm_erase (L.set i g') i g' (List.getElem?_set_self (List.getElem?_eq_some_iff.1 hi).1)
  rw [erase_set] at hq
  exact ((hq.symm).cons k').cons m'
end Go.Proofs.Ytpebepjfgnoaaaa
