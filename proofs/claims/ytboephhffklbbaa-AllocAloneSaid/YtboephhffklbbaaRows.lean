/-
  No cell of these rows narrows 'for every input' (looked for: loops, veiled, ifaces, maps, wideKeys, modest, calm, conditions, laid).
  DERIVED. THE GIVEN ROWS OF THIS SEAT. 8 by the template 'for every input the law returns true; each argument reads behind the call as it read before'; 0 by the template 'total and deterministic' (their statements: YtboephhffklbbaaTotals.lean).
  GIVEN WITH THE SEED: the statements are not yours to turn. If you find one false, say at which input.
  Laid BY PROGRAM, IN A SANDBOX (cutbox-rows.mjs): the forced cells as the released guide's own fill.sh prints them over the translation 6784337d0b07527e… (all of the seat's roots in one cut). By AI agents, Wed Nov 11 2026. No macro, syntax, notation, axiom, sorry.
-/
import Derived.Test.YtboephhffklbbaaChecked
import GoSem.Claim
import GoSem.ClaimJoined
import GoSem.ClaimMapViews
import Derived.JoinedTies
import Derived.KernelRfl
namespace Go.Proofs.Ytboephhffklbbaa
/- THE CELL 'sum', in the pinned program and in every row, IS THE sha256 OF THE DUMP (.gsa) THAT YtboephhffklbbaaProg.lean LOADS. Nothing in Lean hashes anything: it is a label: what it is worth is what the hold of that sum in a sandbox is worth. -/
noncomputable def Try.pinned : Pinned := { name := "ytboephhffklbbaa", sum := "6784337d0b07527e05176dcd570480e82677c8acc5c8f467960a69e13dd7c5ac", checked := Try.checked }
namespace Rows
def none {H : Type} : Left H := { results := [], args := [] }

/-- 'sidingslaw13.WriteGuards': WHATEVER THE INPUT: true; the input reads as it did. -/
def writeGuardsSpec : ChangeSpec := { name := "writeGuards", fn := fun _ => fun
  | [d] => { results := [.lit (.bool true)], args := [d] }
  | _ => none }
def writeGuardsRow : OpenClaim := { program := "ytboephhffklbbaa", sum := "6784337d0b07527e05176dcd570480e82677c8acc5c8f467960a69e13dd7c5ac", func := "sidings/sidingslaw13.WriteGuards", spec := "writeGuards", unfollowed := true, recurses := true, apart := false }
def WriteGuardsSaid : Prop := writeGuardsRow.holds Try.pinned (OpenSpec.ofChange writeGuardsSpec)

/-- ITS FALSE NEIGHBOUR: 'it returns false'. Refute it at one input. -/
def writeGuardsWrong : ChangeSpec := { name := "writeGuards", fn := fun _ => fun
  | [d] => { results := [.lit (.bool false)], args := [d] }
  | _ => none }
def WriteGuardsWrongFalsely : Prop := writeGuardsRow.holds Try.pinned (OpenSpec.ofChange writeGuardsWrong)

/-- 'sidingslaw13.WriteWaits': WHATEVER THE INPUT: true; the input reads as it did. -/
def writeWaitsSpec : ChangeSpec := { name := "writeWaits", fn := fun _ => fun
  | [d1, d2, d3] => { results := [.lit (.bool true)], args := [d1, d2, d3] }
  | _ => none }
def writeWaitsRow : OpenClaim := { program := "ytboephhffklbbaa", sum := "6784337d0b07527e05176dcd570480e82677c8acc5c8f467960a69e13dd7c5ac", func := "sidings/sidingslaw13.WriteWaits", spec := "writeWaits", unfollowed := true, recurses := true, apart := false }
def WriteWaitsSaid : Prop := writeWaitsRow.holds Try.pinned (OpenSpec.ofChange writeWaitsSpec)

/-- ITS FALSE NEIGHBOUR: 'it returns false'. Refute it at one input. -/
def writeWaitsWrong : ChangeSpec := { name := "writeWaits", fn := fun _ => fun
  | [d1, d2, d3] => { results := [.lit (.bool false)], args := [d1, d2, d3] }
  | _ => none }
def WriteWaitsWrongFalsely : Prop := writeWaitsRow.holds Try.pinned (OpenSpec.ofChange writeWaitsWrong)

/-- 'sidingslaw13.WriteNil': WHATEVER THE INPUT: true; the input reads as it did. -/
def writeNilSpec : ChangeSpec := { name := "writeNil", fn := fun _ => fun
  | [d1, d2] => { results := [.lit (.bool true)], args := [d1, d2] }
  | _ => none }
def writeNilRow : OpenClaim := { program := "ytboephhffklbbaa", sum := "6784337d0b07527e05176dcd570480e82677c8acc5c8f467960a69e13dd7c5ac", func := "sidings/sidingslaw13.WriteNil", spec := "writeNil", unfollowed := true, recurses := true, apart := false }
def WriteNilSaid : Prop := writeNilRow.holds Try.pinned (OpenSpec.ofChange writeNilSpec)

/-- ITS FALSE NEIGHBOUR: 'it returns false'. Refute it at one input. -/
def writeNilWrong : ChangeSpec := { name := "writeNil", fn := fun _ => fun
  | [d1, d2] => { results := [.lit (.bool false)], args := [d1, d2] }
  | _ => none }
def WriteNilWrongFalsely : Prop := writeNilRow.holds Try.pinned (OpenSpec.ofChange writeNilWrong)

/-- 'sidingslaw13.WriteTwice': WHATEVER THE INPUT: true; the input reads as it did. -/
def writeTwiceSpec : ChangeSpec := { name := "writeTwice", fn := fun _ => fun
  | [d1, d2] => { results := [.lit (.bool true)], args := [d1, d2] }
  | _ => none }
def writeTwiceRow : OpenClaim := { program := "ytboephhffklbbaa", sum := "6784337d0b07527e05176dcd570480e82677c8acc5c8f467960a69e13dd7c5ac", func := "sidings/sidingslaw13.WriteTwice", spec := "writeTwice", unfollowed := true, recurses := true, apart := false }
def WriteTwiceSaid : Prop := writeTwiceRow.holds Try.pinned (OpenSpec.ofChange writeTwiceSpec)

/-- ITS FALSE NEIGHBOUR: 'it returns false'. Refute it at one input. -/
def writeTwiceWrong : ChangeSpec := { name := "writeTwice", fn := fun _ => fun
  | [d1, d2] => { results := [.lit (.bool false)], args := [d1, d2] }
  | _ => none }
def WriteTwiceWrongFalsely : Prop := writeTwiceRow.holds Try.pinned (OpenSpec.ofChange writeTwiceWrong)

/-- 'sidingslaw11.AllocAlone': WHATEVER THE INPUT: true; the input reads as it did. -/
def allocAloneSpec : ChangeSpec := { name := "allocAlone", fn := fun _ => fun
  | [d1, d2, d3] => { results := [.lit (.bool true)], args := [d1, d2, d3] }
  | _ => none }
def allocAloneRow : OpenClaim := { program := "ytboephhffklbbaa", sum := "6784337d0b07527e05176dcd570480e82677c8acc5c8f467960a69e13dd7c5ac", func := "sidings/sidingslaw11.AllocAlone", spec := "allocAlone", unfollowed := true, recurses := true, apart := false }
def AllocAloneSaid : Prop := allocAloneRow.holds Try.pinned (OpenSpec.ofChange allocAloneSpec)

/-- ITS FALSE NEIGHBOUR: 'it returns false'. Refute it at one input. -/
def allocAloneWrong : ChangeSpec := { name := "allocAlone", fn := fun _ => fun
  | [d1, d2, d3] => { results := [.lit (.bool false)], args := [d1, d2, d3] }
  | _ => none }
def AllocAloneWrongFalsely : Prop := allocAloneRow.holds Try.pinned (OpenSpec.ofChange allocAloneWrong)

/-- 'sidingslaw11.AllocApart': WHATEVER THE INPUT: true; the input reads as it did. -/
def allocApartSpec : ChangeSpec := { name := "allocApart", fn := fun _ => fun
  | [d1, d2] => { results := [.lit (.bool true)], args := [d1, d2] }
  | _ => none }
def allocApartRow : OpenClaim := { program := "ytboephhffklbbaa", sum := "6784337d0b07527e05176dcd570480e82677c8acc5c8f467960a69e13dd7c5ac", func := "sidings/sidingslaw11.AllocApart", spec := "allocApart", unfollowed := true, recurses := true, apart := false }
def AllocApartSaid : Prop := allocApartRow.holds Try.pinned (OpenSpec.ofChange allocApartSpec)

/-- ITS FALSE NEIGHBOUR: 'it returns false'. Refute it at one input. -/
def allocApartWrong : ChangeSpec := { name := "allocApart", fn := fun _ => fun
  | [d1, d2] => { results := [.lit (.bool false)], args := [d1, d2] }
  | _ => none }
def AllocApartWrongFalsely : Prop := allocApartRow.holds Try.pinned (OpenSpec.ofChange allocApartWrong)

/-- 'sidingslaw11.AllocNil': WHATEVER THE INPUT: true; the input reads as it did. -/
def allocNilSpec : ChangeSpec := { name := "allocNil", fn := fun _ => fun
  | [d1, d2] => { results := [.lit (.bool true)], args := [d1, d2] }
  | _ => none }
def allocNilRow : OpenClaim := { program := "ytboephhffklbbaa", sum := "6784337d0b07527e05176dcd570480e82677c8acc5c8f467960a69e13dd7c5ac", func := "sidings/sidingslaw11.AllocNil", spec := "allocNil", unfollowed := true, recurses := true, apart := false }
def AllocNilSaid : Prop := allocNilRow.holds Try.pinned (OpenSpec.ofChange allocNilSpec)

/-- ITS FALSE NEIGHBOUR: 'it returns false'. Refute it at one input. -/
def allocNilWrong : ChangeSpec := { name := "allocNil", fn := fun _ => fun
  | [d1, d2] => { results := [.lit (.bool false)], args := [d1, d2] }
  | _ => none }
def AllocNilWrongFalsely : Prop := allocNilRow.holds Try.pinned (OpenSpec.ofChange allocNilWrong)

/-- 'sidingslaw11.AllocFull': WHATEVER THE INPUT: true; the input reads as it did. -/
def allocFullSpec : ChangeSpec := { name := "allocFull", fn := fun _ => fun
  | [d1, d2] => { results := [.lit (.bool true)], args := [d1, d2] }
  | _ => none }
def allocFullRow : OpenClaim := { program := "ytboephhffklbbaa", sum := "6784337d0b07527e05176dcd570480e82677c8acc5c8f467960a69e13dd7c5ac", func := "sidings/sidingslaw11.AllocFull", spec := "allocFull", unfollowed := true, recurses := true, apart := false }
def AllocFullSaid : Prop := allocFullRow.holds Try.pinned (OpenSpec.ofChange allocFullSpec)

/-- ITS FALSE NEIGHBOUR: 'it returns false'. Refute it at one input. -/
def allocFullWrong : ChangeSpec := { name := "allocFull", fn := fun _ => fun
  | [d1, d2] => { results := [.lit (.bool false)], args := [d1, d2] }
  | _ => none }
def AllocFullWrongFalsely : Prop := allocFullRow.holds Try.pinned (OpenSpec.ofChange allocFullWrong)

/- THE SECOND FORM. 'bulk': how many values and letters a reading holds, each counted each time it is reached (what is shared counts as often as it is met; a slice's spare places count too). A statement '..UptoSaid' is the law's where the arguments, and the package variables that the reading takes, are together of bulk at most 1048576: NARROWER than '..Said'. Prove '..Said' where nothing that the law and all that it calls make is longer than what came in: it says more and counts as full. Else prove '..UptoSaid'. A law counts once. -/
mutual
def uptoBulk {H : Type} : DataW H → Nat
  | .lit (.string bytes) => bytes.length + 1
  | .lit _ => 1
  | .nil => 1
  | .ptr d => uptoBulk d + 1
  | .slice elems spare => uptoBulkAll elems + uptoBulkAll spare + 1
  | .agg parts => uptoBulkAll parts + 1
  | .iface _ d => uptoBulk d + 1
  | .map entries => uptoBulkEntries entries + 1
  | .held _ => 1
def uptoBulkAll {H : Type} : List (DataW H) → Nat
  | [] => 0
  | d :: r => uptoBulk d + uptoBulkAll r
def uptoBulkEntries {H : Type} : List (Lit × DataW H) → Nat
  | [] => 0
  | x :: r => uptoBulkEntry x + uptoBulkEntries r
def uptoBulkEntry {H : Type} : Lit × DataW H → Nat
  | (.string bytes, d) => bytes.length + uptoBulk d + 1
  | (_, d) => uptoBulk d + 1
 end
def uptoSmall : (H : Type) → List (DataW H) → Bool := fun _ ds => decide (uptoBulkAll ds ≤ 1048576)
def OpenSpec.upto (s : _root_.Go.ChangeSpec) : _root_.Go.OpenSpec := { _root_.Go.OpenSpec.ofChange s with cond := some uptoSmall }

/-- 'sidingslaw13.WriteGuards', WHERE WHAT IT READS IS OF BULK AT MOST 1048576: true; the input reads as it did. -/
def writeGuardsUptoRow : OpenClaim := { program := "ytboephhffklbbaa", sum := "6784337d0b07527e05176dcd570480e82677c8acc5c8f467960a69e13dd7c5ac", func := "sidings/sidingslaw13.WriteGuards", spec := "writeGuards", unfollowed := true, recurses := true, apart := false, narrowed := true }
def WriteGuardsUptoSaid : Prop := writeGuardsUptoRow.holds Try.pinned (OpenSpec.upto writeGuardsSpec)

/-- 'sidingslaw13.WriteWaits', WHERE WHAT IT READS IS OF BULK AT MOST 1048576: true; the input reads as it did. -/
def writeWaitsUptoRow : OpenClaim := { program := "ytboephhffklbbaa", sum := "6784337d0b07527e05176dcd570480e82677c8acc5c8f467960a69e13dd7c5ac", func := "sidings/sidingslaw13.WriteWaits", spec := "writeWaits", unfollowed := true, recurses := true, apart := false, narrowed := true }
def WriteWaitsUptoSaid : Prop := writeWaitsUptoRow.holds Try.pinned (OpenSpec.upto writeWaitsSpec)

/-- 'sidingslaw13.WriteNil', WHERE WHAT IT READS IS OF BULK AT MOST 1048576: true; the input reads as it did. -/
def writeNilUptoRow : OpenClaim := { program := "ytboephhffklbbaa", sum := "6784337d0b07527e05176dcd570480e82677c8acc5c8f467960a69e13dd7c5ac", func := "sidings/sidingslaw13.WriteNil", spec := "writeNil", unfollowed := true, recurses := true, apart := false, narrowed := true }
def WriteNilUptoSaid : Prop := writeNilUptoRow.holds Try.pinned (OpenSpec.upto writeNilSpec)

/-- 'sidingslaw13.WriteTwice', WHERE WHAT IT READS IS OF BULK AT MOST 1048576: true; the input reads as it did. -/
def writeTwiceUptoRow : OpenClaim := { program := "ytboephhffklbbaa", sum := "6784337d0b07527e05176dcd570480e82677c8acc5c8f467960a69e13dd7c5ac", func := "sidings/sidingslaw13.WriteTwice", spec := "writeTwice", unfollowed := true, recurses := true, apart := false, narrowed := true }
def WriteTwiceUptoSaid : Prop := writeTwiceUptoRow.holds Try.pinned (OpenSpec.upto writeTwiceSpec)

/-- 'sidingslaw11.AllocAlone', WHERE WHAT IT READS IS OF BULK AT MOST 1048576: true; the input reads as it did. -/
def allocAloneUptoRow : OpenClaim := { program := "ytboephhffklbbaa", sum := "6784337d0b07527e05176dcd570480e82677c8acc5c8f467960a69e13dd7c5ac", func := "sidings/sidingslaw11.AllocAlone", spec := "allocAlone", unfollowed := true, recurses := true, apart := false, narrowed := true }
def AllocAloneUptoSaid : Prop := allocAloneUptoRow.holds Try.pinned (OpenSpec.upto allocAloneSpec)

/-- 'sidingslaw11.AllocApart', WHERE WHAT IT READS IS OF BULK AT MOST 1048576: true; the input reads as it did. -/
def allocApartUptoRow : OpenClaim := { program := "ytboephhffklbbaa", sum := "6784337d0b07527e05176dcd570480e82677c8acc5c8f467960a69e13dd7c5ac", func := "sidings/sidingslaw11.AllocApart", spec := "allocApart", unfollowed := true, recurses := true, apart := false, narrowed := true }
def AllocApartUptoSaid : Prop := allocApartUptoRow.holds Try.pinned (OpenSpec.upto allocApartSpec)

/-- 'sidingslaw11.AllocNil', WHERE WHAT IT READS IS OF BULK AT MOST 1048576: true; the input reads as it did. -/
def allocNilUptoRow : OpenClaim := { program := "ytboephhffklbbaa", sum := "6784337d0b07527e05176dcd570480e82677c8acc5c8f467960a69e13dd7c5ac", func := "sidings/sidingslaw11.AllocNil", spec := "allocNil", unfollowed := true, recurses := true, apart := false, narrowed := true }
def AllocNilUptoSaid : Prop := allocNilUptoRow.holds Try.pinned (OpenSpec.upto allocNilSpec)

/-- 'sidingslaw11.AllocFull', WHERE WHAT IT READS IS OF BULK AT MOST 1048576: true; the input reads as it did. -/
def allocFullUptoRow : OpenClaim := { program := "ytboephhffklbbaa", sum := "6784337d0b07527e05176dcd570480e82677c8acc5c8f467960a69e13dd7c5ac", func := "sidings/sidingslaw11.AllocFull", spec := "allocFull", unfollowed := true, recurses := true, apart := false, narrowed := true }
def AllocFullUptoSaid : Prop := allocFullUptoRow.holds Try.pinned (OpenSpec.upto allocFullSpec)

end Rows
end Go.Proofs.Ytboephhffklbbaa
