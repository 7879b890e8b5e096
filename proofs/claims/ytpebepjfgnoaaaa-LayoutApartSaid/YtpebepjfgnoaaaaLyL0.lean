/- Numbers of the layout laws' 'live'. -/
import Derived.Test.YtpebepjfgnoaaaaLyW
namespace Go.Proofs.Ytpebepjfgnoaaaa
set_option linter.unusedVariables false
set_option linter.unusedSimpArgs false
open Go.RowKit
def live06W : List Int := startW 2 3 (List.replicate (Int.toNat 20) 0)
theorem live06_len : live06W.length = 20 := by unfold live06W; rw [startW_len]; simp
theorem live06_le : live06W.length ≤ 4096 := by rw [live06_len]; decide
theorem live06_1 : wAt live06W 1 = 1 := by unfold live06W startW; rw [wAt_setW]; decide
theorem live06_8 : wAt live06W 8 = 2 := by unfold live06W startW; rw [wAt_setW]; decide
theorem live06_14 : wAt live06W 14 = 0 := by unfold live06W startW; rw [wAt_setW]; decide
end Go.Proofs.Ytpebepjfgnoaaaa
