/- Pins and unpins that go, in numbers. -/
import Derived.Test.YtmbkkpeepbfgoaaPnA0
namespace Go.Proofs.Ytmbkkpeepbfgoaa
set_option linter.unusedVariables false
set_option linter.unusedSimpArgs false
open Go.RowKit
theorem pn_go {t s sl ge k v v' wd tw : Int} {un : Bool} {ws : List Int} (most : Nat) (hk : lOf t s sl 0 = k) (hw : wAt ws k = v) (hf : fresh v ge = true) (hl : (uL v && !un) = false) (ht : pnTurn un v = (v', 0)) (hc : wCas ws k v = true) :
    mRun (pnF1 t s sl ge false un) (most + 2) (most + 2) ⟨ws, 1, wd, tw⟩ = (⟨wCasPut ws k v v', 0, v, v'⟩, (0, 0), 2) := by
  have e1 : pnF1 t s sl ge false un ⟨ws, 1, wd, tw⟩ = (⟨ws, 2, v, v'⟩, (0, 0), false) := by
    unfold pnF1 pinStep
    simp only [hk, hw, hf, hl, ht]
    simp
  have e2 : pnF1 t s sl ge false un ⟨ws, 2, v, v'⟩ = (⟨wCasPut ws k v v', 0, v, v'⟩, (0, 0), true) := by
    unfold pnF1 pinStep
    simp only [hk, hc]
    simp
  rw [mRun_more (by rw [e1]), e1, mRun_done (by rw [e2]), e2]
  simp only [Prod.mk.injEq, true_and]
  omega
def p14V (v : Int) : List Int := [0, 1, 0, 0, 0, v, 0, 0]
theorem p14V_0 (v : Int) : wPut p14W0 5 v = p14V v := rfl
theorem p14V_put (v w : Int) : wPut (p14V v) 5 w = p14V w := rfl
theorem p14V_at (v : Int) : wAt (p14V v) 5 = v := rfl
theorem p14V_cas (v : Int) : wCas (p14V v) 5 v = true := by
  show (true && (v == v)) = true
  simp
theorem p14V_casPut (v n : Int) : wCasPut (p14V v) 5 v n = p14V n := by
  unfold wCasPut; rw [if_pos (p14V_cas v)]; rfl
theorem lOf110 : lOf 1 1 0 0 = 5 := by decide
theorem pn_wait (wd : Int) : pinStep 1 1 0 0 false false (p14V 844424930131968) 1 wd 0 = ⟨p14V 844424930131968, 1, 844424930131968, 0, 0, false⟩ := by
  unfold pinStep
  simp only [lOf110, p14V_at]
  rw [if_neg (by decide), if_pos (by decide), if_neg (by decide), if_pos (by decide), if_pos (by decide)]
theorem pn_waited (wd : Int) : mRun (pnF1 1 1 0 0 false false) 10 10 ⟨p14V 562949953421312, 1, wd, 0⟩ = (⟨p14V 564049465049088, 0, 562949953421312, 564049465049088⟩, (0, 0), 2) := by
  rw [pn_go 8 lOf110 (p14V_at _) (v := 562949953421312) (v' := 564049465049088) (by decide) (by decide) (by decide) (p14V_cas _), p14V_casPut]
theorem own0_of {g : Int} (hg : 0 ≤ g ∧ g ≤ 1000) : hOf (hMake 0 g).1 1 = (0, g, 0) ∧ -9223372036854775808 ≤ (hMake 0 g).1 ∧ (hMake 0 g).1 ≤ 9223372036854775807 := by
  rw [hMake_ok ⟨by omega, by omega, hg.1, hg.2⟩]
  have i := hIs_make (s := 0) (g := g) ⟨by omega, by omega, hg.1, hg.2⟩
  have s1 : hSlot (0 + 1048576 * g + 1099511627776) = 0 := by rw [hSlot_is i]; omega
  have g1 : hGen (0 + 1048576 * g + 1099511627776) = g := by rw [hGen_is i]; omega
  refine ⟨?_, by simp only; omega, by simp only; omega⟩
  unfold hOf
  rw [if_pos ⟨i, by simp only; rw [s1]; omega⟩]
  simp only
  rw [s1, g1]
theorem pn_back {o g u q wd tw : Int} (un : Bool) (h : eMay o g q u false true = true) (h' : eMay o g (q + pnBy un) u false true = true) :
    mRun (pnF1 1 1 0 g false un) 10 10 ⟨p14V (eWord o g q u false true), 1, wd, tw⟩ = (⟨p14V (eWord o g (q + pnBy un) u false true), 0, eWord o g q u false true, eWord o g (q + pnBy un) u false true⟩, (0, 0), 2) := by
  have hc : pnCode q true false un = 0 := by
    obtain ⟨h1, h2, h3, h4, h5, h6, h7, h8, h9, h10⟩ := eMay_of h'
    unfold pnBy at h5 h6
    unfold pnCode
    cases un
    · have : q ≠ 7 := by simp at h6; omega
      simp [this]
    · have : q ≠ 0 := by simp at h5; omega
      simp [this]
  have tn := pn_turn (un := un) h rfl false rfl
  rw [if_pos hc] at tn
  have fl := lock_word h
  rw [pn_go 8 lOf110 (p14V_at _) (by rw [fresh_word h]; simp) (by rw [fl]; rfl) tn (p14V_cas _), p14V_casPut]
end Go.Proofs.Ytmbkkpeepbfgoaa
