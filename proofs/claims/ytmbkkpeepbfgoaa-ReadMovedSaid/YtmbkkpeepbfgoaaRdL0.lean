/- Numbers of the read laws' 'live'. -/
import Derived.Test.YtmbkkpeepbfgoaaRdR
namespace Go.Proofs.Ytmbkkpeepbfgoaa
set_option linter.unusedVariables false
set_option linter.unusedSimpArgs false
open Go.RowKit
def p12W0 : List Int := [0, 1, 0, 0, 0, 0, 0, 2, 0, 0, 0]
def p12W1 : List Int := [0, 1, 0, 0, 0, 0, 0, 2, 562949956567048, 0, 0]
def p12W2 : List Int := [0, 1, 0, 0, 0, 0, 0, 2, 562949956567048, 4, 0]
def p12B0 : List Int := [0, 0, 0, 0, 0, 0, 0, 0, 0, 0, 0, 0, 0, 0, 0, 0]
def p12B : List Int := [0, 0, 0, 0, 0, 0, 0, 0, 0, 0, 0, 77, 0, 0, 0, 0]
def rdN : RdS := ⟨1, 0, 0, 0, 0, false, false, 0, 0⟩
theorem p12_0 : initW 1 2 = p12W0 := by decide
theorem p12_b0 : List.replicate (16 : Int).toNat (0 : Int) = p12B0 := by decide
theorem p12_1 : wPut p12W0 8 562949956567048 = p12W1 := by decide
theorem p12_2 : wPut p12W1 9 4 = p12W2 := by decide
theorem p12_b : wPut p12B0 11 (77 % 256) = p12B := by decide
theorem p12_ok : BOk p12B := by unfold BOk p12B; decide
theorem p12_r1 : (mRun (rdF 1 2 1 3 false 3 p12W2 p12B) 100 100 rdN).2 = ((0, 77), 4) := by kernel_rfl
theorem p12_r2 : (mRun (rdF 1 2 1 3 false 4 p12W2 p12B) 100 100 rdN).2 = ((5, 0), 3) := by kernel_rfl
theorem p12_r3 : (mRun (rdF 1 2 1 4 false 0 p12W2 p12B) 100 100 rdN).2.1 = (4, 0) := by kernel_rfl
theorem p12_r4 : (mRun (rdF 1 2 0 0 true 0 p12W2 p12B) 100 100 rdN).2 = ((4, 0), 1) := by kernel_rfl
theorem p12_r5 : (mRun (rdF 0 0 0 0 true 0 p12W2 p12B) 100 100 ⟨0, 0, 0, 0, 0, false, false, 0, 0⟩).2.1 = (1, 0) := by kernel_rfl
theorem p12_n1 (x : Nat) (off : Int) : rdNews 16 2 1 1099514773505 off x = rdG x 1 2 1 3 false off rdN := by
  have h1 : ofT 16 2 1 = 1 := by decide
  have h2 : ofS 16 2 1 = 2 := by decide
  have h3 : hOf 1099514773505 2 = (1, 3, 0) := by decide
  have h4 : cfgOk 16 2 1 = true := by decide
  unfold rdNews; rw [h1, h2, h3, h4]; rfl
theorem p12_n3 (x : Nat) (off : Int) : rdNews 16 2 1 1099515822081 off x = rdG x 1 2 1 4 false off rdN := by
  have h1 : ofT 16 2 1 = 1 := by decide
  have h2 : ofS 16 2 1 = 2 := by decide
  have h3 : hOf 1099515822081 2 = (1, 4, 0) := by decide
  have h4 : cfgOk 16 2 1 = true := by decide
  unfold rdNews; rw [h1, h2, h3, h4]; rfl
theorem p12_n4 (x : Nat) (off : Int) : rdNews 16 2 1 5 off x = rdG x 1 2 0 0 true off rdN := by
  have h1 : ofT 16 2 1 = 1 := by decide
  have h2 : ofS 16 2 1 = 2 := by decide
  have h3 : hOf 5 2 = (0, 0, 4) := by decide
  have h4 : cfgOk 16 2 1 = true := by decide
  unfold rdNews; rw [h1, h2, h3, h4]; rfl
theorem p12_n5 (x : Nat) (off : Int) : rdNews 0 0 0 1099514773505 off x = rdG x 0 0 0 0 true off ⟨0, 0, 0, 0, 0, false, false, 0, 0⟩ := by
  have h1 : ofT 0 0 0 = 0 := by decide
  have h2 : ofS 0 0 0 = 0 := by decide
  have h3 : hOf 1099514773505 0 = (0, 0, 4) := by decide
  have h4 : cfgOk 0 0 0 = false := by decide
  unfold rdNews; rw [h1, h2, h3, h4]; rfl
theorem rdN_in : RdIn rdN := .inr (.inl rfl)
end Go.Proofs.Ytmbkkpeepbfgoaa
