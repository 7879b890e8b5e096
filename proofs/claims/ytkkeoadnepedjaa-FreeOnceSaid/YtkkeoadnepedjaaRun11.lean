/- A law's run of a machine alone. -/
import Derived.LoopTactic
import Derived.Outline
import Derived.Test.YtkkeoadnepedjaaS11
import Derived.Test.YtkkeoadnepedjaaBase
namespace Go.Proofs.Ytkkeoadnepedjaa
set_option linter.unusedVariables false
set_option linter.unusedSimpArgs false
open Go.RowKit
end Go.Proofs.Ytkkeoadnepedjaa
