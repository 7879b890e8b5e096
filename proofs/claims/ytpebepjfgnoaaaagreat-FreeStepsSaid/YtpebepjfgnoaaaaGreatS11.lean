/- A law's start. -/
import Derived.RegionTactic
import Derived.BigRegion
import Derived.Deep.RegionHeld3
import Derived.Test.YtpebepjfgnoaaaaGreatIni
namespace Go.Proofs.YtpebepjfgnoaaaaGreat
set_option linter.unusedVariables false
set_option linter.unusedSimpArgs false
open Go.RowKit
def Begun11 (B : Nat) (W : World) (G : List Grp) (a s t : Int) (e : Ending) (w' : World) : Prop :=
  ∃ p bw bb m, e = .returned (.pointer (some ⟨p, 0, none⟩)) ∧ Owns B W w' (memG p bw bb (initW t s) (List.replicate a.toNat 0) m :: G)
end Go.Proofs.YtpebepjfgnoaaaaGreat
