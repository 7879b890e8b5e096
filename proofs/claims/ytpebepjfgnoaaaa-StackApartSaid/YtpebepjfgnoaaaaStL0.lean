/- Numbers of the stack laws' 'live'. -/
import Derived.Test.YtpebepjfgnoaaaaStF
namespace Go.Proofs.Ytpebepjfgnoaaaa
set_option linter.unusedVariables false
set_option linter.unusedSimpArgs false
open Go.RowKit
def s10W0 : List Int := [0, 1, 0, 0, 0, 0, 0, 2, 0, 0, 0]
def s10W1 : List Int := [0, 1048578, 0, 0, 0, 0, 0, 2, 0, 0, 0]
def s10W2 : List Int := [0, 2097153, 0, 0, 0, 0, 0, 2, 0, 0, 0]
theorem s10_0 : initW 1 2 = s10W0 := by decide
theorem s10_1 : popStep 1 2 s10W0 1 0 0 0 = ⟨s10W0, 2, 0, 1, 0, 0, 0, false⟩ := by rfl
theorem s10_2 : popStep 1 2 s10W0 2 0 1 0 = ⟨s10W0, 3, 0, 1, 1048578, 0, 0, false⟩ := by rfl
theorem s10_3 : popStep 1 2 s10W0 3 0 1 1048578 = ⟨s10W1, 0, 0, 1, 1048578, 0, 0, true⟩ := by rfl
theorem s10_4 : popStep 1 2 s10W1 0 0 1 1048578 = ⟨s10W1, 0, 0, 1, 1048578, 0, 1, true⟩ := by rfl
theorem s10_5 : freeOf 1 2 s10W1 = [1] := by rfl
theorem s10_6 : pushStep 1 2 s10W1 1 0 0 0 = ⟨s10W1, 2, 0, 1048578, 0, 0, 0, false⟩ := by rfl
theorem s10_7 : pushStep 1 2 s10W1 2 0 1048578 0 = ⟨s10W1, 3, 0, 1048578, 2097153, 0, 0, false⟩ := by rfl
theorem s10_8 : pushStep 1 2 s10W1 3 0 1048578 2097153 = ⟨s10W2, 0, 0, 1048578, 2097153, 0, 0, true⟩ := by rfl
theorem s10_9 : pushStep 1 2 s10W2 1 2 0 0 = ⟨s10W2, 0, 2, 0, 0, 0, 1, true⟩ := by rfl
theorem s10_10 : freeOf 1 2 s10W2 = [0, 1] := by rfl
theorem s10_ok1 : WOk s10W1 := by unfold WOk s10W1; simp
theorem s10_ok2 : WOk s10W2 := by unfold WOk s10W2; simp
end Go.Proofs.Ytpebepjfgnoaaaa
