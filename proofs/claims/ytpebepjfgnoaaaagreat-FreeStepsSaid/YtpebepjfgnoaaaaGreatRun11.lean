/- A law's run of a machine alone. -/
import Derived.LoopTactic
import Derived.Outline
import Derived.Test.YtpebepjfgnoaaaaGreatS11
import Derived.Test.YtpebepjfgnoaaaaGreatBase
namespace Go.Proofs.YtpebepjfgnoaaaaGreat
set_option linter.unusedVariables false
set_option linter.unusedSimpArgs false
open Go.RowKit
end Go.Proofs.YtpebepjfgnoaaaaGreat
