/- entry.Next. -/
import Derived.StillTailTactics
import Derived.Test.YtmbkkpeepbfgoaaEnF
namespace Go.Proofs.Ytmbkkpeepbfgoaa
set_option linter.unusedVariables false
set_option linter.unusedSimpArgs false
open Go.RowKit
def nextCode (x : Int) : Int := if 0 < wP x + wU x ∨ wL x = true then 1 else 0
def nextMore (x : Int) : Bool := if nextCode x = 0 then decide (wG x < 1000) else false
def nextCells (x : Int) : Array Value := if nextCode x = 0 then eCells 0 (wG x + bI (decide (wG x < 1000))) 0 0 false false else eCells (wO x) (wG x) (wP x) (wU x) (wL x) true
theorem i64any' (n : Int) (h : -9223372036854775808 ≤ n) (h' : n ≤ 9223372036854775807) : IntKind.i64.wrap n = n := by rw [IntKind.wrap_i64]; omega
/-- what Next comes to: the word, whether there is a generation more, the error. -/
def eNext (x : Int) : Int × Int :=
  if nextCode x = 0 then eTurn x 0 0 (wG x + bI (decide (wG x < 1000))) 0 0 false false else eTurn x (nextCode x) (wO x) (wG x) (wP x) (wU x) (wL x) true
def eNextMore (x : Int) : Bool := if eIs x = true then (if wA x = true then nextMore x else false) else false
end Go.Proofs.Ytmbkkpeepbfgoaa
