/-
  No cell of these rows narrows 'for every input' (looked for: loops, veiled, ifaces, maps, wideKeys, modest, calm, conditions, laid).
  DERIVED. THE GIVEN ROWS OF THIS SEAT. 10 by the template 'for every input the law returns true; each argument reads behind the call as it read before'; 0 by the template 'total and deterministic' (their statements: YtmbkkpeepbfgoaaTotals.lean).
  GIVEN WITH THE SEED: the statements are not yours to turn. If you find one false, say at which input.
  Laid BY PROGRAM, IN A SANDBOX (cutbox-rows.mjs): the forced cells as the released guide's own fill.sh prints them over the translation 3c79cc545dc5fe2e… (all of the seat's roots in one cut). By AI agents, Wed Nov 11 2026. No macro, syntax, notation, axiom, sorry.
-/
import Derived.Test.YtmbkkpeepbfgoaaChecked
import GoSem.Claim
import GoSem.ClaimJoined
import GoSem.ClaimMapViews
import Derived.JoinedTies
import Derived.KernelRfl
namespace Go.Proofs.Ytmbkkpeepbfgoaa
/- THE CELL 'sum', in the pinned program and in every row, IS THE sha256 OF THE DUMP (.gsa) THAT YtmbkkpeepbfgoaaProg.lean LOADS. Nothing in Lean hashes anything: it is a label: what it is worth is what the hold of that sum in a sandbox is worth. -/
noncomputable def Try.pinned : Pinned := { name := "ytmbkkpeepbfgoaa", sum := "3c79cc545dc5fe2ebf8e692ab00be43651ac1976ea3b6d70de4ced9bd6d2b3ba", checked := Try.checked }
namespace Rows
def none {H : Type} : Left H := { results := [], args := [] }

/-- 'sidingslaw12.ReadMoved': WHATEVER THE INPUT: true; the input reads as it did. -/
def readMovedSpec : ChangeSpec := { name := "readMoved", fn := fun _ => fun
  | [d] => { results := [.lit (.bool true)], args := [d] }
  | _ => none }
def readMovedRow : OpenClaim := { program := "ytmbkkpeepbfgoaa", sum := "3c79cc545dc5fe2ebf8e692ab00be43651ac1976ea3b6d70de4ced9bd6d2b3ba", func := "sidings/sidingslaw12.ReadMoved", spec := "readMoved", unfollowed := true, recurses := true, apart := false }
def ReadMovedSaid : Prop := readMovedRow.holds Try.pinned (OpenSpec.ofChange readMovedSpec)

/-- ITS FALSE NEIGHBOUR: 'it returns false'. Refute it at one input. -/
def readMovedWrong : ChangeSpec := { name := "readMoved", fn := fun _ => fun
  | [d] => { results := [.lit (.bool false)], args := [d] }
  | _ => none }
def ReadMovedWrongFalsely : Prop := readMovedRow.holds Try.pinned (OpenSpec.ofChange readMovedWrong)

/-- 'sidingslaw12.ReadWaits': WHATEVER THE INPUT: true; the input reads as it did. -/
def readWaitsSpec : ChangeSpec := { name := "readWaits", fn := fun _ => fun
  | [d1, d2] => { results := [.lit (.bool true)], args := [d1, d2] }
  | _ => none }
def readWaitsRow : OpenClaim := { program := "ytmbkkpeepbfgoaa", sum := "3c79cc545dc5fe2ebf8e692ab00be43651ac1976ea3b6d70de4ced9bd6d2b3ba", func := "sidings/sidingslaw12.ReadWaits", spec := "readWaits", unfollowed := true, recurses := true, apart := false }
def ReadWaitsSaid : Prop := readWaitsRow.holds Try.pinned (OpenSpec.ofChange readWaitsSpec)

/-- ITS FALSE NEIGHBOUR: 'it returns false'. Refute it at one input. -/
def readWaitsWrong : ChangeSpec := { name := "readWaits", fn := fun _ => fun
  | [d1, d2] => { results := [.lit (.bool false)], args := [d1, d2] }
  | _ => none }
def ReadWaitsWrongFalsely : Prop := readWaitsRow.holds Try.pinned (OpenSpec.ofChange readWaitsWrong)

/-- 'sidingslaw12.ReadNil': WHATEVER THE INPUT: true; the input reads as it did. -/
def readNilSpec : ChangeSpec := { name := "readNil", fn := fun _ => fun
  | [d1, d2, d3] => { results := [.lit (.bool true)], args := [d1, d2, d3] }
  | _ => none }
def readNilRow : OpenClaim := { program := "ytmbkkpeepbfgoaa", sum := "3c79cc545dc5fe2ebf8e692ab00be43651ac1976ea3b6d70de4ced9bd6d2b3ba", func := "sidings/sidingslaw12.ReadNil", spec := "readNil", unfollowed := true, recurses := true, apart := false }
def ReadNilSaid : Prop := readNilRow.holds Try.pinned (OpenSpec.ofChange readNilSpec)

/-- ITS FALSE NEIGHBOUR: 'it returns false'. Refute it at one input. -/
def readNilWrong : ChangeSpec := { name := "readNil", fn := fun _ => fun
  | [d1, d2, d3] => { results := [.lit (.bool false)], args := [d1, d2, d3] }
  | _ => none }
def ReadNilWrongFalsely : Prop := readNilRow.holds Try.pinned (OpenSpec.ofChange readNilWrong)

/-- 'sidingslaw12.ReadSame': WHATEVER THE INPUT: true; the input reads as it did. -/
def readSameSpec : ChangeSpec := { name := "readSame", fn := fun _ => fun
  | [d1, d2, d3] => { results := [.lit (.bool true)], args := [d1, d2, d3] }
  | _ => none }
def readSameRow : OpenClaim := { program := "ytmbkkpeepbfgoaa", sum := "3c79cc545dc5fe2ebf8e692ab00be43651ac1976ea3b6d70de4ced9bd6d2b3ba", func := "sidings/sidingslaw12.ReadSame", spec := "readSame", unfollowed := true, recurses := true, apart := false }
def ReadSameSaid : Prop := readSameRow.holds Try.pinned (OpenSpec.ofChange readSameSpec)

/-- ITS FALSE NEIGHBOUR: 'it returns false'. Refute it at one input. -/
def readSameWrong : ChangeSpec := { name := "readSame", fn := fun _ => fun
  | [d1, d2, d3] => { results := [.lit (.bool false)], args := [d1, d2, d3] }
  | _ => none }
def ReadSameWrongFalsely : Prop := readSameRow.holds Try.pinned (OpenSpec.ofChange readSameWrong)

/-- 'sidingslaw14.PinSteps': WHATEVER THE INPUT: true; the input reads as it did. -/
def pinStepsSpec : ChangeSpec := { name := "pinSteps", fn := fun _ => fun
  | [d1, d2, d3] => { results := [.lit (.bool true)], args := [d1, d2, d3] }
  | _ => none }
def pinStepsRow : OpenClaim := { program := "ytmbkkpeepbfgoaa", sum := "3c79cc545dc5fe2ebf8e692ab00be43651ac1976ea3b6d70de4ced9bd6d2b3ba", func := "sidings/sidingslaw14.PinSteps", spec := "pinSteps", unfollowed := true, recurses := true, apart := false }
def PinStepsSaid : Prop := pinStepsRow.holds Try.pinned (OpenSpec.ofChange pinStepsSpec)

/-- ITS FALSE NEIGHBOUR: 'it returns false'. Refute it at one input. -/
def pinStepsWrong : ChangeSpec := { name := "pinSteps", fn := fun _ => fun
  | [d1, d2, d3] => { results := [.lit (.bool false)], args := [d1, d2, d3] }
  | _ => none }
def PinStepsWrongFalsely : Prop := pinStepsRow.holds Try.pinned (OpenSpec.ofChange pinStepsWrong)

/-- 'sidingslaw14.PinCounts': WHATEVER THE INPUT: true; the input reads as it did. -/
def pinCountsSpec : ChangeSpec := { name := "pinCounts", fn := fun _ => fun
  | [d] => { results := [.lit (.bool true)], args := [d] }
  | _ => none }
def pinCountsRow : OpenClaim := { program := "ytmbkkpeepbfgoaa", sum := "3c79cc545dc5fe2ebf8e692ab00be43651ac1976ea3b6d70de4ced9bd6d2b3ba", func := "sidings/sidingslaw14.PinCounts", spec := "pinCounts", unfollowed := true, recurses := true, apart := false }
def PinCountsSaid : Prop := pinCountsRow.holds Try.pinned (OpenSpec.ofChange pinCountsSpec)

/-- ITS FALSE NEIGHBOUR: 'it returns false'. Refute it at one input. -/
def pinCountsWrong : ChangeSpec := { name := "pinCounts", fn := fun _ => fun
  | [d] => { results := [.lit (.bool false)], args := [d] }
  | _ => none }
def PinCountsWrongFalsely : Prop := pinCountsRow.holds Try.pinned (OpenSpec.ofChange pinCountsWrong)

/-- 'sidingslaw14.PinWaits': WHATEVER THE INPUT: true; the input reads as it did. -/
def pinWaitsSpec : ChangeSpec := { name := "pinWaits", fn := fun _ => fun
  | [d] => { results := [.lit (.bool true)], args := [d] }
  | _ => none }
def pinWaitsRow : OpenClaim := { program := "ytmbkkpeepbfgoaa", sum := "3c79cc545dc5fe2ebf8e692ab00be43651ac1976ea3b6d70de4ced9bd6d2b3ba", func := "sidings/sidingslaw14.PinWaits", spec := "pinWaits", unfollowed := true, recurses := true, apart := false }
def PinWaitsSaid : Prop := pinWaitsRow.holds Try.pinned (OpenSpec.ofChange pinWaitsSpec)

/-- ITS FALSE NEIGHBOUR: 'it returns false'. Refute it at one input. -/
def pinWaitsWrong : ChangeSpec := { name := "pinWaits", fn := fun _ => fun
  | [d] => { results := [.lit (.bool false)], args := [d] }
  | _ => none }
def PinWaitsWrongFalsely : Prop := pinWaitsRow.holds Try.pinned (OpenSpec.ofChange pinWaitsWrong)

/-- 'sidingslaw14.PinNil': WHATEVER THE INPUT: true; the input reads as it did. -/
def pinNilSpec : ChangeSpec := { name := "pinNil", fn := fun _ => fun
  | [d1, d2, d3] => { results := [.lit (.bool true)], args := [d1, d2, d3] }
  | _ => none }
def pinNilRow : OpenClaim := { program := "ytmbkkpeepbfgoaa", sum := "3c79cc545dc5fe2ebf8e692ab00be43651ac1976ea3b6d70de4ced9bd6d2b3ba", func := "sidings/sidingslaw14.PinNil", spec := "pinNil", unfollowed := true, recurses := true, apart := false }
def PinNilSaid : Prop := pinNilRow.holds Try.pinned (OpenSpec.ofChange pinNilSpec)

/-- ITS FALSE NEIGHBOUR: 'it returns false'. Refute it at one input. -/
def pinNilWrong : ChangeSpec := { name := "pinNil", fn := fun _ => fun
  | [d1, d2, d3] => { results := [.lit (.bool false)], args := [d1, d2, d3] }
  | _ => none }
def PinNilWrongFalsely : Prop := pinNilRow.holds Try.pinned (OpenSpec.ofChange pinNilWrong)

/-- 'sidingslaw14.PinBack': WHATEVER THE INPUT: true; the input reads as it did. -/
def pinBackSpec : ChangeSpec := { name := "pinBack", fn := fun _ => fun
  | [d1, d2] => { results := [.lit (.bool true)], args := [d1, d2] }
  | _ => none }
def pinBackRow : OpenClaim := { program := "ytmbkkpeepbfgoaa", sum := "3c79cc545dc5fe2ebf8e692ab00be43651ac1976ea3b6d70de4ced9bd6d2b3ba", func := "sidings/sidingslaw14.PinBack", spec := "pinBack", unfollowed := true, recurses := true, apart := false }
def PinBackSaid : Prop := pinBackRow.holds Try.pinned (OpenSpec.ofChange pinBackSpec)

/-- ITS FALSE NEIGHBOUR: 'it returns false'. Refute it at one input. -/
def pinBackWrong : ChangeSpec := { name := "pinBack", fn := fun _ => fun
  | [d1, d2] => { results := [.lit (.bool false)], args := [d1, d2] }
  | _ => none }
def PinBackWrongFalsely : Prop := pinBackRow.holds Try.pinned (OpenSpec.ofChange pinBackWrong)

/-- 'sidingslaw14.PinAlone': WHATEVER THE INPUT: true; the input reads as it did. -/
def pinAloneSpec : ChangeSpec := { name := "pinAlone", fn := fun _ => fun
  | [d1, d2, d3] => { results := [.lit (.bool true)], args := [d1, d2, d3] }
  | _ => none }
def pinAloneRow : OpenClaim := { program := "ytmbkkpeepbfgoaa", sum := "3c79cc545dc5fe2ebf8e692ab00be43651ac1976ea3b6d70de4ced9bd6d2b3ba", func := "sidings/sidingslaw14.PinAlone", spec := "pinAlone", unfollowed := true, recurses := true, apart := false }
def PinAloneSaid : Prop := pinAloneRow.holds Try.pinned (OpenSpec.ofChange pinAloneSpec)

/-- ITS FALSE NEIGHBOUR: 'it returns false'. Refute it at one input. -/
def pinAloneWrong : ChangeSpec := { name := "pinAlone", fn := fun _ => fun
  | [d1, d2, d3] => { results := [.lit (.bool false)], args := [d1, d2, d3] }
  | _ => none }
def PinAloneWrongFalsely : Prop := pinAloneRow.holds Try.pinned (OpenSpec.ofChange pinAloneWrong)

/- THE SECOND FORM. 'bulk': how many values and letters a reading holds, each counted each time it is reached (what is shared counts as often as it is met; a slice's spare places count too). A statement '..UptoSaid' is the law's where the arguments, and the package variables that the reading takes, are together of bulk at most 1048576: NARROWER than '..Said'. Prove '..Said' where nothing that the law and all that it calls make is longer than what came in: it says more and counts as full. Else prove '..UptoSaid'. A law counts once. -/
mutual
def uptoBulk {H : Type} : DataW H → Nat
  | .lit (.string bytes) => bytes.length + 1
  | .lit _ => 1
  | .nil => 1
  | .ptr d => uptoBulk d + 1
  | .slice elems spare => uptoBulkAll elems + uptoBulkAll spare + 1
  | .agg parts => uptoBulkAll parts + 1
  | .iface _ d => uptoBulk d + 1
  | .map entries => uptoBulkEntries entries + 1
  | .held _ => 1
def uptoBulkAll {H : Type} : List (DataW H) → Nat
  | [] => 0
  | d :: r => uptoBulk d + uptoBulkAll r
def uptoBulkEntries {H : Type} : List (Lit × DataW H) → Nat
  | [] => 0
  | x :: r => uptoBulkEntry x + uptoBulkEntries r
def uptoBulkEntry {H : Type} : Lit × DataW H → Nat
  | (.string bytes, d) => bytes.length + uptoBulk d + 1
  | (_, d) => uptoBulk d + 1
 end
def uptoSmall : (H : Type) → List (DataW H) → Bool := fun _ ds => decide (uptoBulkAll ds ≤ 1048576)
def OpenSpec.upto (s : _root_.Go.ChangeSpec) : _root_.Go.OpenSpec := { _root_.Go.OpenSpec.ofChange s with cond := some uptoSmall }

/-- 'sidingslaw12.ReadMoved', WHERE WHAT IT READS IS OF BULK AT MOST 1048576: true; the input reads as it did. -/
def readMovedUptoRow : OpenClaim := { program := "ytmbkkpeepbfgoaa", sum := "3c79cc545dc5fe2ebf8e692ab00be43651ac1976ea3b6d70de4ced9bd6d2b3ba", func := "sidings/sidingslaw12.ReadMoved", spec := "readMoved", unfollowed := true, recurses := true, apart := false, narrowed := true }
def ReadMovedUptoSaid : Prop := readMovedUptoRow.holds Try.pinned (OpenSpec.upto readMovedSpec)

/-- 'sidingslaw12.ReadWaits', WHERE WHAT IT READS IS OF BULK AT MOST 1048576: true; the input reads as it did. -/
def readWaitsUptoRow : OpenClaim := { program := "ytmbkkpeepbfgoaa", sum := "3c79cc545dc5fe2ebf8e692ab00be43651ac1976ea3b6d70de4ced9bd6d2b3ba", func := "sidings/sidingslaw12.ReadWaits", spec := "readWaits", unfollowed := true, recurses := true, apart := false, narrowed := true }
def ReadWaitsUptoSaid : Prop := readWaitsUptoRow.holds Try.pinned (OpenSpec.upto readWaitsSpec)

/-- 'sidingslaw12.ReadNil', WHERE WHAT IT READS IS OF BULK AT MOST 1048576: true; the input reads as it did. -/
def readNilUptoRow : OpenClaim := { program := "ytmbkkpeepbfgoaa", sum := "3c79cc545dc5fe2ebf8e692ab00be43651ac1976ea3b6d70de4ced9bd6d2b3ba", func := "sidings/sidingslaw12.ReadNil", spec := "readNil", unfollowed := true, recurses := true, apart := false, narrowed := true }
def ReadNilUptoSaid : Prop := readNilUptoRow.holds Try.pinned (OpenSpec.upto readNilSpec)

/-- 'sidingslaw12.ReadSame', WHERE WHAT IT READS IS OF BULK AT MOST 1048576: true; the input reads as it did. -/
def readSameUptoRow : OpenClaim := { program := "ytmbkkpeepbfgoaa", sum := "3c79cc545dc5fe2ebf8e692ab00be43651ac1976ea3b6d70de4ced9bd6d2b3ba", func := "sidings/sidingslaw12.ReadSame", spec := "readSame", unfollowed := true, recurses := true, apart := false, narrowed := true }
def ReadSameUptoSaid : Prop := readSameUptoRow.holds Try.pinned (OpenSpec.upto readSameSpec)

/-- 'sidingslaw14.PinSteps', WHERE WHAT IT READS IS OF BULK AT MOST 1048576: true; the input reads as it did. -/
def pinStepsUptoRow : OpenClaim := { program := "ytmbkkpeepbfgoaa", sum := "3c79cc545dc5fe2ebf8e692ab00be43651ac1976ea3b6d70de4ced9bd6d2b3ba", func := "sidings/sidingslaw14.PinSteps", spec := "pinSteps", unfollowed := true, recurses := true, apart := false, narrowed := true }
def PinStepsUptoSaid : Prop := pinStepsUptoRow.holds Try.pinned (OpenSpec.upto pinStepsSpec)

/-- 'sidingslaw14.PinCounts', WHERE WHAT IT READS IS OF BULK AT MOST 1048576: true; the input reads as it did. -/
def pinCountsUptoRow : OpenClaim := { program := "ytmbkkpeepbfgoaa", sum := "3c79cc545dc5fe2ebf8e692ab00be43651ac1976ea3b6d70de4ced9bd6d2b3ba", func := "sidings/sidingslaw14.PinCounts", spec := "pinCounts", unfollowed := true, recurses := true, apart := false, narrowed := true }
def PinCountsUptoSaid : Prop := pinCountsUptoRow.holds Try.pinned (OpenSpec.upto pinCountsSpec)

/-- 'sidingslaw14.PinWaits', WHERE WHAT IT READS IS OF BULK AT MOST 1048576: true; the input reads as it did. -/
def pinWaitsUptoRow : OpenClaim := { program := "ytmbkkpeepbfgoaa", sum := "3c79cc545dc5fe2ebf8e692ab00be43651ac1976ea3b6d70de4ced9bd6d2b3ba", func := "sidings/sidingslaw14.PinWaits", spec := "pinWaits", unfollowed := true, recurses := true, apart := false, narrowed := true }
def PinWaitsUptoSaid : Prop := pinWaitsUptoRow.holds Try.pinned (OpenSpec.upto pinWaitsSpec)

/-- 'sidingslaw14.PinNil', WHERE WHAT IT READS IS OF BULK AT MOST 1048576: true; the input reads as it did. -/
def pinNilUptoRow : OpenClaim := { program := "ytmbkkpeepbfgoaa", sum := "3c79cc545dc5fe2ebf8e692ab00be43651ac1976ea3b6d70de4ced9bd6d2b3ba", func := "sidings/sidingslaw14.PinNil", spec := "pinNil", unfollowed := true, recurses := true, apart := false, narrowed := true }
def PinNilUptoSaid : Prop := pinNilUptoRow.holds Try.pinned (OpenSpec.upto pinNilSpec)

/-- 'sidingslaw14.PinBack', WHERE WHAT IT READS IS OF BULK AT MOST 1048576: true; the input reads as it did. -/
def pinBackUptoRow : OpenClaim := { program := "ytmbkkpeepbfgoaa", sum := "3c79cc545dc5fe2ebf8e692ab00be43651ac1976ea3b6d70de4ced9bd6d2b3ba", func := "sidings/sidingslaw14.PinBack", spec := "pinBack", unfollowed := true, recurses := true, apart := false, narrowed := true }
def PinBackUptoSaid : Prop := pinBackUptoRow.holds Try.pinned (OpenSpec.upto pinBackSpec)

/-- 'sidingslaw14.PinAlone', WHERE WHAT IT READS IS OF BULK AT MOST 1048576: true; the input reads as it did. -/
def pinAloneUptoRow : OpenClaim := { program := "ytmbkkpeepbfgoaa", sum := "3c79cc545dc5fe2ebf8e692ab00be43651ac1976ea3b6d70de4ced9bd6d2b3ba", func := "sidings/sidingslaw14.PinAlone", spec := "pinAlone", unfollowed := true, recurses := true, apart := false, narrowed := true }
def PinAloneUptoSaid : Prop := pinAloneUptoRow.holds Try.pinned (OpenSpec.upto pinAloneSpec)

end Rows
end Go.Proofs.Ytmbkkpeepbfgoaa
