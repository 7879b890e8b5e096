/- Alloc's machine, alone; numbers of the alloc laws' 'live'. -/
import Derived.Test.YtpebepjfgnoaaaaGreatAlT
import Derived.Test.YtpebepjfgnoaaaaGreatAlN
import Derived.Test.YtpebepjfgnoaaaaGreatRun11
namespace Go.Proofs.YtpebepjfgnoaaaaGreat
set_option linter.unusedVariables false
set_option linter.unusedSimpArgs false
open Go.RowKit
structure AlQ where
  ws : List Int
  bs : List Int
  v : AlV
def alF1 (c : AlC) (q : AlQ) : AlQ × (Int × Int) × Bool :=
  let r := alStep c q.ws q.bs q.v
  (⟨r.ws, r.bs, r.v⟩, (r.code, r.rn), r.done)
end Go.Proofs.YtpebepjfgnoaaaaGreat
