/- Numbers of the epoch laws' 'live'. -/
import Derived.Test.YtpfahnnmbaipdaaEpJ
namespace Go.Proofs.Ytpfahnnmbaipdaa
set_option linter.unusedVariables false
set_option linter.unusedSimpArgs false
open Go.RowKit
def p16W0 : List Int := [0, 1, 0, 0, 0, 0, 0, 0, 0, 0]
def p16W1 : List Int := [0, 1, 0, 1, 0, 0, 0, 0, 0, 0]
def p16W2 : List Int := [0, 1, 0, 1, 0, 2, 0, 0, 0, 0]
def p16W3 : List Int := [0, 1, 0, 2, 0, 2, 0, 0, 0, 0]
def p16W4 : List Int := [0, 1, 0, 2, 0, 0, 0, 0, 0, 0]
def p16W5 : List Int := [0, 1, 0, 2, 0, 0, 3, 0, 0, 0]
def p16W7 : List Int := [0, 1, 0, 3, 0, 0, 0, 0, 0, 0]
theorem p16_0 : initW 3 1 = p16W0 := by decide
theorem p16_1 : turnW p16W0 = p16W1 := by unfold turnW wrap64; rfl
theorem p16_2 : enterW 3 p16W1 1 = p16W2 := by unfold enterW wrap64; rfl
theorem p16_3 : turnW p16W2 = p16W3 := by unfold turnW wrap64; rfl
theorem p16_4 : exitW (ofT 8 1 3) p16W3 1 = p16W4 := by rfl
theorem p16_5 : enterW 3 p16W4 2 = p16W5 := by unfold enterW wrap64; rfl
theorem p16_6 : exitW (ofT 8 1 3) p16W5 2 = p16W4 := by rfl
theorem p16_7 : turnW p16W4 = p16W7 := by unfold turnW wrap64; rfl
theorem p16_e0 : wrap64 (wAt p16W0 3 + 1) = 1 := by unfold wrap64; rfl
theorem p16_e2 : wrap64 (wAt p16W2 3 + 1) = 2 := by unfold wrap64; rfl
theorem p16_e4 : wrap64 (wAt p16W4 3 + 1) = 3 := by unfold wrap64; rfl
theorem p16_in1 : inL p16W2 3 = [1] := by rfl
theorem p16_in2 : inL p16W7 3 = [] := by rfl
theorem p16_n : wAt p16W5 6 = 3 := by rfl
theorem p16_w : wAt p16W7 3 = 3 := by rfl
theorem p16_t1 {is : Bool} {c : Int} (h : TurnOut 3 p16W1 1 is c) : is = true ∧ c = 5 := by
  rcases h with ⟨h1, h2, -⟩ | ⟨-, j, hj, -, ho, -⟩
  · exact ⟨h1, by omega⟩
  · have : j = 0 ∨ j = 1 ∨ j = 2 := by omega
    rcases this with rfl | rfl | rfl <;> exact absurd ho (by decide)
theorem p16_t7 {is : Bool} {c : Int} (h : TurnOut 3 p16W7 3 is c) : is = true ∧ c = 5 := by
  rcases h with ⟨h1, h2, -⟩ | ⟨-, j, hj, -, ho, -⟩
  · exact ⟨h1, by omega⟩
  · have : j = 0 ∨ j = 1 ∨ j = 2 := by omega
    rcases this with rfl | rfl | rfl <;> exact absurd ho (by decide)
theorem p16_t3 {is : Bool} {c : Int} (h : TurnOut 3 p16W3 2 is c) : is = false ∧ c = 4 := by
  rcases h with ⟨-, -, h3⟩ | ⟨h1, j, hj, hc, ho, -⟩
  · exact absurd (h3 1 (by decide)) (by decide)
  · have : j = 0 ∨ j = 1 ∨ j = 2 := by omega
    rcases this with rfl | rfl | rfl
    · exact absurd ho (by decide)
    · exact ⟨h1, by omega⟩
    · exact absurd ho (by decide)
theorem p16_ok0 : WOk p16W0 := by unfold WOk p16W0; simp
theorem p16_ok2 : WOk p16W2 := by unfold WOk p16W2; simp
theorem p16_ok4 : WOk p16W4 := by unfold WOk p16W4; simp
theorem p16_ok7 : WOk p16W7 := by unfold WOk p16W7; simp
end Go.Proofs.Ytpfahnnmbaipdaa
