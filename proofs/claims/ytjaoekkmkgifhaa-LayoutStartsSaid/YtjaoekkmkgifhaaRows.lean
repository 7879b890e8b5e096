/-
  No cell of these rows narrows 'for every input' (looked for: loops, veiled, ifaces, maps, wideKeys, modest, calm, conditions, laid).
  DERIVED. THE GIVEN ROWS OF THIS SEAT. 12 by the template 'for every input the law returns true; each argument reads behind the call as it read before'; 0 by the template 'total and deterministic' (their statements: YtjaoekkmkgifhaaTotals.lean).
  GIVEN WITH THE SEED: the statements are not yours to turn. If you find one false, say at which input.
  Laid BY PROGRAM, IN A SANDBOX (cutbox-rows.mjs): the forced cells as the released guide's own fill.sh prints them over the translation f64b3dccd52f084f… (all of the seat's roots in one cut). By AI agents, Wed Nov 11 2026. No macro, syntax, notation, axiom, sorry.
-/
import Derived.Test.YtjaoekkmkgifhaaChecked
import GoSem.Claim
import GoSem.ClaimJoined
import GoSem.ClaimMapViews
import Derived.JoinedTies
import Derived.KernelRfl
namespace Go.Proofs.Ytjaoekkmkgifhaa
/- THE CELL 'sum', in the pinned program and in every row, IS THE sha256 OF THE DUMP (.gsa) THAT YtjaoekkmkgifhaaProg.lean LOADS. Nothing in Lean hashes anything: it is a label: what it is worth is what the hold of that sum in a sandbox is worth. -/
noncomputable def Try.pinned : Pinned := { name := "ytjaoekkmkgifhaa", sum := "f64b3dccd52f084fb9b3e26347ede85b7542005a3862eeac84c028aca9882e44", checked := Try.checked }
namespace Rows
def none {H : Type} : Left H := { results := [], args := [] }

/-- 'sidingslaw06.LayoutFree': WHATEVER THE INPUT: true; the input reads as it did. -/
def layoutFreeSpec : ChangeSpec := { name := "layoutFree", fn := fun _ => fun
  | [d] => { results := [.lit (.bool true)], args := [d] }
  | _ => none }
def layoutFreeRow : OpenClaim := { program := "ytjaoekkmkgifhaa", sum := "f64b3dccd52f084fb9b3e26347ede85b7542005a3862eeac84c028aca9882e44", func := "sidings/sidingslaw06.LayoutFree", spec := "layoutFree", unfollowed := true, recurses := true, leaving := true, apart := false }
def LayoutFreeSaid : Prop := layoutFreeRow.holds Try.pinned (OpenSpec.ofChange layoutFreeSpec)

/-- ITS FALSE NEIGHBOUR: 'it returns false'. Refute it at one input. -/
def layoutFreeWrong : ChangeSpec := { name := "layoutFree", fn := fun _ => fun
  | [d] => { results := [.lit (.bool false)], args := [d] }
  | _ => none }
def LayoutFreeWrongFalsely : Prop := layoutFreeRow.holds Try.pinned (OpenSpec.ofChange layoutFreeWrong)

/-- 'sidingslaw06.LayoutMore': WHATEVER THE INPUT: true; the input reads as it did. -/
def layoutMoreSpec : ChangeSpec := { name := "layoutMore", fn := fun _ => fun
  | [d1, d2] => { results := [.lit (.bool true)], args := [d1, d2] }
  | _ => none }
def layoutMoreRow : OpenClaim := { program := "ytjaoekkmkgifhaa", sum := "f64b3dccd52f084fb9b3e26347ede85b7542005a3862eeac84c028aca9882e44", func := "sidings/sidingslaw06.LayoutMore", spec := "layoutMore", unfollowed := true, recurses := true, leaving := true, apart := false }
def LayoutMoreSaid : Prop := layoutMoreRow.holds Try.pinned (OpenSpec.ofChange layoutMoreSpec)

/-- ITS FALSE NEIGHBOUR: 'it returns false'. Refute it at one input. -/
def layoutMoreWrong : ChangeSpec := { name := "layoutMore", fn := fun _ => fun
  | [d1, d2] => { results := [.lit (.bool false)], args := [d1, d2] }
  | _ => none }
def LayoutMoreWrongFalsely : Prop := layoutMoreRow.holds Try.pinned (OpenSpec.ofChange layoutMoreWrong)

/-- 'sidingslaw06.LayoutTells': WHATEVER THE INPUT: true; the input reads as it did. -/
def layoutTellsSpec : ChangeSpec := { name := "layoutTells", fn := fun _ => fun
  | [d1, d2] => { results := [.lit (.bool true)], args := [d1, d2] }
  | _ => none }
def layoutTellsRow : OpenClaim := { program := "ytjaoekkmkgifhaa", sum := "f64b3dccd52f084fb9b3e26347ede85b7542005a3862eeac84c028aca9882e44", func := "sidings/sidingslaw06.LayoutTells", spec := "layoutTells", unfollowed := true, recurses := true, leaving := true, apart := false }
def LayoutTellsSaid : Prop := layoutTellsRow.holds Try.pinned (OpenSpec.ofChange layoutTellsSpec)

/-- ITS FALSE NEIGHBOUR: 'it returns false'. Refute it at one input. -/
def layoutTellsWrong : ChangeSpec := { name := "layoutTells", fn := fun _ => fun
  | [d1, d2] => { results := [.lit (.bool false)], args := [d1, d2] }
  | _ => none }
def LayoutTellsWrongFalsely : Prop := layoutTellsRow.holds Try.pinned (OpenSpec.ofChange layoutTellsWrong)

/-- 'sidingslaw06.LayoutApart': WHATEVER THE INPUT: true; the input reads as it did. -/
def layoutApartSpec : ChangeSpec := { name := "layoutApart", fn := fun _ => fun
  | [d] => { results := [.lit (.bool true)], args := [d] }
  | _ => none }
def layoutApartRow : OpenClaim := { program := "ytjaoekkmkgifhaa", sum := "f64b3dccd52f084fb9b3e26347ede85b7542005a3862eeac84c028aca9882e44", func := "sidings/sidingslaw06.LayoutApart", spec := "layoutApart", unfollowed := true, recurses := true, leaving := true, apart := false }
def LayoutApartSaid : Prop := layoutApartRow.holds Try.pinned (OpenSpec.ofChange layoutApartSpec)

/-- ITS FALSE NEIGHBOUR: 'it returns false'. Refute it at one input. -/
def layoutApartWrong : ChangeSpec := { name := "layoutApart", fn := fun _ => fun
  | [d] => { results := [.lit (.bool false)], args := [d] }
  | _ => none }
def LayoutApartWrongFalsely : Prop := layoutApartRow.holds Try.pinned (OpenSpec.ofChange layoutApartWrong)

/-- 'sidingslaw06.LayoutAgain': WHATEVER THE INPUT: true; the input reads as it did. -/
def layoutAgainSpec : ChangeSpec := { name := "layoutAgain", fn := fun _ => fun
  | [d1, d2, d3] => { results := [.lit (.bool true)], args := [d1, d2, d3] }
  | _ => none }
def layoutAgainRow : OpenClaim := { program := "ytjaoekkmkgifhaa", sum := "f64b3dccd52f084fb9b3e26347ede85b7542005a3862eeac84c028aca9882e44", func := "sidings/sidingslaw06.LayoutAgain", spec := "layoutAgain", unfollowed := true, recurses := true, leaving := true, apart := false }
def LayoutAgainSaid : Prop := layoutAgainRow.holds Try.pinned (OpenSpec.ofChange layoutAgainSpec)

/-- ITS FALSE NEIGHBOUR: 'it returns false'. Refute it at one input. -/
def layoutAgainWrong : ChangeSpec := { name := "layoutAgain", fn := fun _ => fun
  | [d1, d2, d3] => { results := [.lit (.bool false)], args := [d1, d2, d3] }
  | _ => none }
def LayoutAgainWrongFalsely : Prop := layoutAgainRow.holds Try.pinned (OpenSpec.ofChange layoutAgainWrong)

/-- 'sidingslaw06.LayoutStarts': WHATEVER THE INPUT: true; the input reads as it did. -/
def layoutStartsSpec : ChangeSpec := { name := "layoutStarts", fn := fun _ => fun
  | [d] => { results := [.lit (.bool true)], args := [d] }
  | _ => none }
def layoutStartsRow : OpenClaim := { program := "ytjaoekkmkgifhaa", sum := "f64b3dccd52f084fb9b3e26347ede85b7542005a3862eeac84c028aca9882e44", func := "sidings/sidingslaw06.LayoutStarts", spec := "layoutStarts", unfollowed := true, recurses := true, leaving := true, apart := false }
def LayoutStartsSaid : Prop := layoutStartsRow.holds Try.pinned (OpenSpec.ofChange layoutStartsSpec)

/-- ITS FALSE NEIGHBOUR: 'it returns false'. Refute it at one input. -/
def layoutStartsWrong : ChangeSpec := { name := "layoutStarts", fn := fun _ => fun
  | [d] => { results := [.lit (.bool false)], args := [d] }
  | _ => none }
def LayoutStartsWrongFalsely : Prop := layoutStartsRow.holds Try.pinned (OpenSpec.ofChange layoutStartsWrong)

/-- 'sidingslaw05.CellsRace': WHATEVER THE INPUT: true; the input reads as it did. -/
def cellsRaceSpec : ChangeSpec := { name := "cellsRace", fn := fun _ => fun
  | [d1, d2, d3] => { results := [.lit (.bool true)], args := [d1, d2, d3] }
  | _ => none }
def cellsRaceRow : OpenClaim := { program := "ytjaoekkmkgifhaa", sum := "f64b3dccd52f084fb9b3e26347ede85b7542005a3862eeac84c028aca9882e44", func := "sidings/sidingslaw05.CellsRace", spec := "cellsRace", inPlace := ["sync/atomic.StoreInt64", "sync/atomic.StoreInt32", "sync/atomic.LoadInt64", "(*sync.WaitGroup).Add", "internal/race.ReleaseMerge", "internal/race.Disable", "internal/race.Enable", "internal/synctest.IsInBubble", "internal/synctest.Associate[sync.WaitGroup]", "sync.fatal", "sync/atomic.OrUint64", "sync/atomic.AddUint64", "internal/race.Read", "sync/atomic.LoadUint64", "sync/atomic.StoreUint64", "internal/synctest.Disassociate[sync.WaitGroup]", "sync.runtime_Semrelease", "(*sync.WaitGroup).Done", "(*sync.WaitGroup).Wait", "internal/race.Acquire", "internal/synctest.IsAssociated[sync.WaitGroup]", "sync/atomic.CompareAndSwapUint64", "internal/race.Write", "sync.runtime_SemacquireWaitGroup", "sync/atomic.LoadInt32"], unfollowed := true, recurses := true, leaving := true, apart := false }
def CellsRaceSaid : Prop := cellsRaceRow.holds Try.pinned (OpenSpec.ofChange cellsRaceSpec)

/-- ITS FALSE NEIGHBOUR: 'it returns false'. Refute it at one input. -/
def cellsRaceWrong : ChangeSpec := { name := "cellsRace", fn := fun _ => fun
  | [d1, d2, d3] => { results := [.lit (.bool false)], args := [d1, d2, d3] }
  | _ => none }
def CellsRaceWrongFalsely : Prop := cellsRaceRow.holds Try.pinned (OpenSpec.ofChange cellsRaceWrong)

/-- 'sidingslaw05.CellsApart': WHATEVER THE INPUT: true; the input reads as it did. -/
def cellsApartSpec : ChangeSpec := { name := "cellsApart", fn := fun _ => fun
  | [d1, d2] => { results := [.lit (.bool true)], args := [d1, d2] }
  | _ => none }
def cellsApartRow : OpenClaim := { program := "ytjaoekkmkgifhaa", sum := "f64b3dccd52f084fb9b3e26347ede85b7542005a3862eeac84c028aca9882e44", func := "sidings/sidingslaw05.CellsApart", spec := "cellsApart", inPlace := ["sync/atomic.StoreInt64", "sync/atomic.StoreInt32", "sync/atomic.LoadInt64", "(*sync.WaitGroup).Add", "internal/race.ReleaseMerge", "internal/race.Disable", "internal/race.Enable", "internal/synctest.IsInBubble", "internal/synctest.Associate[sync.WaitGroup]", "sync.fatal", "sync/atomic.OrUint64", "sync/atomic.AddUint64", "internal/race.Read", "sync/atomic.LoadUint64", "sync/atomic.StoreUint64", "internal/synctest.Disassociate[sync.WaitGroup]", "sync.runtime_Semrelease", "(*sync.WaitGroup).Done", "(*sync.WaitGroup).Wait", "internal/race.Acquire", "internal/synctest.IsAssociated[sync.WaitGroup]", "sync/atomic.CompareAndSwapUint64", "internal/race.Write", "sync.runtime_SemacquireWaitGroup", "sync/atomic.LoadInt32"], unfollowed := true, recurses := true, leaving := true, apart := false }
def CellsApartSaid : Prop := cellsApartRow.holds Try.pinned (OpenSpec.ofChange cellsApartSpec)

/-- ITS FALSE NEIGHBOUR: 'it returns false'. Refute it at one input. -/
def cellsApartWrong : ChangeSpec := { name := "cellsApart", fn := fun _ => fun
  | [d1, d2] => { results := [.lit (.bool false)], args := [d1, d2] }
  | _ => none }
def CellsApartWrongFalsely : Prop := cellsApartRow.holds Try.pinned (OpenSpec.ofChange cellsApartWrong)

/-- 'sidingslaw05.CellsCas': WHATEVER THE INPUT: true; the input reads as it did. -/
def cellsCasSpec : ChangeSpec := { name := "cellsCas", fn := fun _ => fun
  | [d1, d2, d3] => { results := [.lit (.bool true)], args := [d1, d2, d3] }
  | _ => none }
def cellsCasRow : OpenClaim := { program := "ytjaoekkmkgifhaa", sum := "f64b3dccd52f084fb9b3e26347ede85b7542005a3862eeac84c028aca9882e44", func := "sidings/sidingslaw05.CellsCas", spec := "cellsCas", inPlace := ["sync/atomic.StoreInt64", "sync/atomic.CompareAndSwapInt64", "sync/atomic.LoadInt64", "sync/atomic.StoreInt32", "(*sync.WaitGroup).Add", "internal/race.ReleaseMerge", "internal/race.Disable", "internal/race.Enable", "internal/synctest.IsInBubble", "internal/synctest.Associate[sync.WaitGroup]", "sync.fatal", "sync/atomic.OrUint64", "sync/atomic.AddUint64", "internal/race.Read", "sync/atomic.LoadUint64", "sync/atomic.StoreUint64", "internal/synctest.Disassociate[sync.WaitGroup]", "sync.runtime_Semrelease", "(*sync.WaitGroup).Done", "(*sync.WaitGroup).Wait", "internal/race.Acquire", "internal/synctest.IsAssociated[sync.WaitGroup]", "sync/atomic.CompareAndSwapUint64", "internal/race.Write", "sync.runtime_SemacquireWaitGroup", "sync/atomic.LoadInt32"], unfollowed := true, recurses := true, leaving := true, apart := false }
def CellsCasSaid : Prop := cellsCasRow.holds Try.pinned (OpenSpec.ofChange cellsCasSpec)

/-- ITS FALSE NEIGHBOUR: 'it returns false'. Refute it at one input. -/
def cellsCasWrong : ChangeSpec := { name := "cellsCas", fn := fun _ => fun
  | [d1, d2, d3] => { results := [.lit (.bool false)], args := [d1, d2, d3] }
  | _ => none }
def CellsCasWrongFalsely : Prop := cellsCasRow.holds Try.pinned (OpenSpec.ofChange cellsCasWrong)

/-- 'sidingslaw05.CellsLast': WHATEVER THE INPUT: true; the input reads as it did. -/
def cellsLastSpec : ChangeSpec := { name := "cellsLast", fn := fun _ => fun
  | [d1, d2] => { results := [.lit (.bool true)], args := [d1, d2] }
  | _ => none }
def cellsLastRow : OpenClaim := { program := "ytjaoekkmkgifhaa", sum := "f64b3dccd52f084fb9b3e26347ede85b7542005a3862eeac84c028aca9882e44", func := "sidings/sidingslaw05.CellsLast", spec := "cellsLast", inPlace := ["sync/atomic.StoreInt64", "sync/atomic.StoreInt32", "sync/atomic.LoadInt64", "(*sync.WaitGroup).Add", "internal/race.ReleaseMerge", "internal/race.Disable", "internal/race.Enable", "internal/synctest.IsInBubble", "internal/synctest.Associate[sync.WaitGroup]", "sync.fatal", "sync/atomic.OrUint64", "sync/atomic.AddUint64", "internal/race.Read", "sync/atomic.LoadUint64", "sync/atomic.StoreUint64", "internal/synctest.Disassociate[sync.WaitGroup]", "sync.runtime_Semrelease", "(*sync.WaitGroup).Done", "(*sync.WaitGroup).Wait", "internal/race.Acquire", "internal/synctest.IsAssociated[sync.WaitGroup]", "sync/atomic.CompareAndSwapUint64", "internal/race.Write", "sync.runtime_SemacquireWaitGroup", "sync/atomic.LoadInt32"], unfollowed := true, recurses := true, leaving := true, apart := false }
def CellsLastSaid : Prop := cellsLastRow.holds Try.pinned (OpenSpec.ofChange cellsLastSpec)

/-- ITS FALSE NEIGHBOUR: 'it returns false'. Refute it at one input. -/
def cellsLastWrong : ChangeSpec := { name := "cellsLast", fn := fun _ => fun
  | [d1, d2] => { results := [.lit (.bool false)], args := [d1, d2] }
  | _ => none }
def CellsLastWrongFalsely : Prop := cellsLastRow.holds Try.pinned (OpenSpec.ofChange cellsLastWrong)

/-- 'sidingslaw05.CellsScripts': WHATEVER THE INPUT: true; the input reads as it did. -/
def cellsScriptsSpec : ChangeSpec := { name := "cellsScripts", fn := fun _ => fun
  | [d] => { results := [.lit (.bool true)], args := [d] }
  | _ => none }
def cellsScriptsRow : OpenClaim := { program := "ytjaoekkmkgifhaa", sum := "f64b3dccd52f084fb9b3e26347ede85b7542005a3862eeac84c028aca9882e44", func := "sidings/sidingslaw05.CellsScripts", spec := "cellsScripts", inPlace := ["sync/atomic.StoreInt64", "sync/atomic.StoreInt32", "sync/atomic.LoadInt64", "(*sync.WaitGroup).Add", "internal/race.ReleaseMerge", "internal/race.Disable", "internal/race.Enable", "internal/synctest.IsInBubble", "internal/synctest.Associate[sync.WaitGroup]", "sync.fatal", "sync/atomic.OrUint64", "sync/atomic.AddUint64", "internal/race.Read", "sync/atomic.LoadUint64", "sync/atomic.StoreUint64", "internal/synctest.Disassociate[sync.WaitGroup]", "sync.runtime_Semrelease", "(*sync.WaitGroup).Done", "(*sync.WaitGroup).Wait", "internal/race.Acquire", "internal/synctest.IsAssociated[sync.WaitGroup]", "sync/atomic.CompareAndSwapUint64", "internal/race.Write", "sync.runtime_SemacquireWaitGroup", "sync/atomic.LoadInt32", "sync/atomic.CompareAndSwapInt64"], unfollowed := true, recurses := true, leaving := true, apart := false }
def CellsScriptsSaid : Prop := cellsScriptsRow.holds Try.pinned (OpenSpec.ofChange cellsScriptsSpec)

/-- ITS FALSE NEIGHBOUR: 'it returns false'. Refute it at one input. -/
def cellsScriptsWrong : ChangeSpec := { name := "cellsScripts", fn := fun _ => fun
  | [d] => { results := [.lit (.bool false)], args := [d] }
  | _ => none }
def CellsScriptsWrongFalsely : Prop := cellsScriptsRow.holds Try.pinned (OpenSpec.ofChange cellsScriptsWrong)

/-- 'sidingslaw05.CellsNil': WHATEVER THE INPUT: true; the input reads as it did. -/
def cellsNilSpec : ChangeSpec := { name := "cellsNil", fn := fun _ => fun
  | [d] => { results := [.lit (.bool true)], args := [d] }
  | _ => none }
def cellsNilRow : OpenClaim := { program := "ytjaoekkmkgifhaa", sum := "f64b3dccd52f084fb9b3e26347ede85b7542005a3862eeac84c028aca9882e44", func := "sidings/sidingslaw05.CellsNil", spec := "cellsNil", inPlace := ["sync/atomic.StoreInt64", "sync/atomic.StoreInt32", "sync/atomic.LoadInt64", "sync/atomic.CompareAndSwapInt64", "sync/atomic.LoadInt32", "(*sync.WaitGroup).Add", "internal/race.ReleaseMerge", "internal/race.Disable", "internal/race.Enable", "internal/synctest.IsInBubble", "internal/synctest.Associate[sync.WaitGroup]", "sync.fatal", "sync/atomic.OrUint64", "sync/atomic.AddUint64", "internal/race.Read", "sync/atomic.LoadUint64", "sync/atomic.StoreUint64", "internal/synctest.Disassociate[sync.WaitGroup]", "sync.runtime_Semrelease", "(*sync.WaitGroup).Done", "(*sync.WaitGroup).Wait", "internal/race.Acquire", "internal/synctest.IsAssociated[sync.WaitGroup]", "sync/atomic.CompareAndSwapUint64", "internal/race.Write", "sync.runtime_SemacquireWaitGroup"], unfollowed := true, recurses := true, leaving := true, apart := false }
def CellsNilSaid : Prop := cellsNilRow.holds Try.pinned (OpenSpec.ofChange cellsNilSpec)

/-- ITS FALSE NEIGHBOUR: 'it returns false'. Refute it at one input. -/
def cellsNilWrong : ChangeSpec := { name := "cellsNil", fn := fun _ => fun
  | [d] => { results := [.lit (.bool false)], args := [d] }
  | _ => none }
def CellsNilWrongFalsely : Prop := cellsNilRow.holds Try.pinned (OpenSpec.ofChange cellsNilWrong)

/- THE SECOND FORM. 'bulk': how many values and letters a reading holds, each counted each time it is reached (what is shared counts as often as it is met; a slice's spare places count too). A statement '..UptoSaid' is the law's where the arguments, and the package variables that the reading takes, are together of bulk at most 1048576: NARROWER than '..Said'. Prove '..Said' where nothing that the law and all that it calls make is longer than what came in: it says more and counts as full. Else prove '..UptoSaid'. A law counts once. -/
mutual
def uptoBulk {H : Type} : DataW H → Nat
  | .lit (.string bytes) => bytes.length + 1
  | .lit _ => 1
  | .nil => 1
  | .ptr d => uptoBulk d + 1
  | .slice elems spare => uptoBulkAll elems + uptoBulkAll spare + 1
  | .agg parts => uptoBulkAll parts + 1
  | .iface _ d => uptoBulk d + 1
  | .map entries => uptoBulkEntries entries + 1
  | .held _ => 1
def uptoBulkAll {H : Type} : List (DataW H) → Nat
  | [] => 0
  | d :: r => uptoBulk d + uptoBulkAll r
def uptoBulkEntries {H : Type} : List (Lit × DataW H) → Nat
  | [] => 0
  | x :: r => uptoBulkEntry x + uptoBulkEntries r
def uptoBulkEntry {H : Type} : Lit × DataW H → Nat
  | (.string bytes, d) => bytes.length + uptoBulk d + 1
  | (_, d) => uptoBulk d + 1
 end
def uptoSmall : (H : Type) → List (DataW H) → Bool := fun _ ds => decide (uptoBulkAll ds ≤ 1048576)
def OpenSpec.upto (s : _root_.Go.ChangeSpec) : _root_.Go.OpenSpec := { _root_.Go.OpenSpec.ofChange s with cond := some uptoSmall }

/-- 'sidingslaw06.LayoutFree', WHERE WHAT IT READS IS OF BULK AT MOST 1048576: true; the input reads as it did. -/
def layoutFreeUptoRow : OpenClaim := { program := "ytjaoekkmkgifhaa", sum := "f64b3dccd52f084fb9b3e26347ede85b7542005a3862eeac84c028aca9882e44", func := "sidings/sidingslaw06.LayoutFree", spec := "layoutFree", unfollowed := true, recurses := true, leaving := true, apart := false, narrowed := true }
def LayoutFreeUptoSaid : Prop := layoutFreeUptoRow.holds Try.pinned (OpenSpec.upto layoutFreeSpec)

/-- 'sidingslaw06.LayoutMore', WHERE WHAT IT READS IS OF BULK AT MOST 1048576: true; the input reads as it did. -/
def layoutMoreUptoRow : OpenClaim := { program := "ytjaoekkmkgifhaa", sum := "f64b3dccd52f084fb9b3e26347ede85b7542005a3862eeac84c028aca9882e44", func := "sidings/sidingslaw06.LayoutMore", spec := "layoutMore", unfollowed := true, recurses := true, leaving := true, apart := false, narrowed := true }
def LayoutMoreUptoSaid : Prop := layoutMoreUptoRow.holds Try.pinned (OpenSpec.upto layoutMoreSpec)

/-- 'sidingslaw06.LayoutTells', WHERE WHAT IT READS IS OF BULK AT MOST 1048576: true; the input reads as it did. -/
def layoutTellsUptoRow : OpenClaim := { program := "ytjaoekkmkgifhaa", sum := "f64b3dccd52f084fb9b3e26347ede85b7542005a3862eeac84c028aca9882e44", func := "sidings/sidingslaw06.LayoutTells", spec := "layoutTells", unfollowed := true, recurses := true, leaving := true, apart := false, narrowed := true }
def LayoutTellsUptoSaid : Prop := layoutTellsUptoRow.holds Try.pinned (OpenSpec.upto layoutTellsSpec)

/-- 'sidingslaw06.LayoutApart', WHERE WHAT IT READS IS OF BULK AT MOST 1048576: true; the input reads as it did. -/
def layoutApartUptoRow : OpenClaim := { program := "ytjaoekkmkgifhaa", sum := "f64b3dccd52f084fb9b3e26347ede85b7542005a3862eeac84c028aca9882e44", func := "sidings/sidingslaw06.LayoutApart", spec := "layoutApart", unfollowed := true, recurses := true, leaving := true, apart := false, narrowed := true }
def LayoutApartUptoSaid : Prop := layoutApartUptoRow.holds Try.pinned (OpenSpec.upto layoutApartSpec)

/-- 'sidingslaw06.LayoutAgain', WHERE WHAT IT READS IS OF BULK AT MOST 1048576: true; the input reads as it did. -/
def layoutAgainUptoRow : OpenClaim := { program := "ytjaoekkmkgifhaa", sum := "f64b3dccd52f084fb9b3e26347ede85b7542005a3862eeac84c028aca9882e44", func := "sidings/sidingslaw06.LayoutAgain", spec := "layoutAgain", unfollowed := true, recurses := true, leaving := true, apart := false, narrowed := true }
def LayoutAgainUptoSaid : Prop := layoutAgainUptoRow.holds Try.pinned (OpenSpec.upto layoutAgainSpec)

/-- 'sidingslaw06.LayoutStarts', WHERE WHAT IT READS IS OF BULK AT MOST 1048576: true; the input reads as it did. -/
def layoutStartsUptoRow : OpenClaim := { program := "ytjaoekkmkgifhaa", sum := "f64b3dccd52f084fb9b3e26347ede85b7542005a3862eeac84c028aca9882e44", func := "sidings/sidingslaw06.LayoutStarts", spec := "layoutStarts", unfollowed := true, recurses := true, leaving := true, apart := false, narrowed := true }
def LayoutStartsUptoSaid : Prop := layoutStartsUptoRow.holds Try.pinned (OpenSpec.upto layoutStartsSpec)

/-- 'sidingslaw05.CellsRace', WHERE WHAT IT READS IS OF BULK AT MOST 1048576: true; the input reads as it did. -/
def cellsRaceUptoRow : OpenClaim := { program := "ytjaoekkmkgifhaa", sum := "f64b3dccd52f084fb9b3e26347ede85b7542005a3862eeac84c028aca9882e44", func := "sidings/sidingslaw05.CellsRace", spec := "cellsRace", inPlace := ["sync/atomic.StoreInt64", "sync/atomic.StoreInt32", "sync/atomic.LoadInt64", "(*sync.WaitGroup).Add", "internal/race.ReleaseMerge", "internal/race.Disable", "internal/race.Enable", "internal/synctest.IsInBubble", "internal/synctest.Associate[sync.WaitGroup]", "sync.fatal", "sync/atomic.OrUint64", "sync/atomic.AddUint64", "internal/race.Read", "sync/atomic.LoadUint64", "sync/atomic.StoreUint64", "internal/synctest.Disassociate[sync.WaitGroup]", "sync.runtime_Semrelease", "(*sync.WaitGroup).Done", "(*sync.WaitGroup).Wait", "internal/race.Acquire", "internal/synctest.IsAssociated[sync.WaitGroup]", "sync/atomic.CompareAndSwapUint64", "internal/race.Write", "sync.runtime_SemacquireWaitGroup", "sync/atomic.LoadInt32"], unfollowed := true, recurses := true, leaving := true, apart := false, narrowed := true }
def CellsRaceUptoSaid : Prop := cellsRaceUptoRow.holds Try.pinned (OpenSpec.upto cellsRaceSpec)

/-- 'sidingslaw05.CellsApart', WHERE WHAT IT READS IS OF BULK AT MOST 1048576: true; the input reads as it did. -/
def cellsApartUptoRow : OpenClaim := { program := "ytjaoekkmkgifhaa", sum := "f64b3dccd52f084fb9b3e26347ede85b7542005a3862eeac84c028aca9882e44", func := "sidings/sidingslaw05.CellsApart", spec := "cellsApart", inPlace := ["sync/atomic.StoreInt64", "sync/atomic.StoreInt32", "sync/atomic.LoadInt64", "(*sync.WaitGroup).Add", "internal/race.ReleaseMerge", "internal/race.Disable", "internal/race.Enable", "internal/synctest.IsInBubble", "internal/synctest.Associate[sync.WaitGroup]", "sync.fatal", "sync/atomic.OrUint64", "sync/atomic.AddUint64", "internal/race.Read", "sync/atomic.LoadUint64", "sync/atomic.StoreUint64", "internal/synctest.Disassociate[sync.WaitGroup]", "sync.runtime_Semrelease", "(*sync.WaitGroup).Done", "(*sync.WaitGroup).Wait", "internal/race.Acquire", "internal/synctest.IsAssociated[sync.WaitGroup]", "sync/atomic.CompareAndSwapUint64", "internal/race.Write", "sync.runtime_SemacquireWaitGroup", "sync/atomic.LoadInt32"], unfollowed := true, recurses := true, leaving := true, apart := false, narrowed := true }
def CellsApartUptoSaid : Prop := cellsApartUptoRow.holds Try.pinned (OpenSpec.upto cellsApartSpec)

/-- 'sidingslaw05.CellsCas', WHERE WHAT IT READS IS OF BULK AT MOST 1048576: true; the input reads as it did. -/
def cellsCasUptoRow : OpenClaim := { program := "ytjaoekkmkgifhaa", sum := "f64b3dccd52f084fb9b3e26347ede85b7542005a3862eeac84c028aca9882e44", func := "sidings/sidingslaw05.CellsCas", spec := "cellsCas", inPlace := ["sync/atomic.StoreInt64", "sync/atomic.CompareAndSwapInt64", "sync/atomic.LoadInt64", "sync/atomic.StoreInt32", "(*sync.WaitGroup).Add", "internal/race.ReleaseMerge", "internal/race.Disable", "internal/race.Enable", "internal/synctest.IsInBubble", "internal/synctest.Associate[sync.WaitGroup]", "sync.fatal", "sync/atomic.OrUint64", "sync/atomic.AddUint64", "internal/race.Read", "sync/atomic.LoadUint64", "sync/atomic.StoreUint64", "internal/synctest.Disassociate[sync.WaitGroup]", "sync.runtime_Semrelease", "(*sync.WaitGroup).Done", "(*sync.WaitGroup).Wait", "internal/race.Acquire", "internal/synctest.IsAssociated[sync.WaitGroup]", "sync/atomic.CompareAndSwapUint64", "internal/race.Write", "sync.runtime_SemacquireWaitGroup", "sync/atomic.LoadInt32"], unfollowed := true, recurses := true, leaving := true, apart := false, narrowed := true }
def CellsCasUptoSaid : Prop := cellsCasUptoRow.holds Try.pinned (OpenSpec.upto cellsCasSpec)

/-- 'sidingslaw05.CellsLast', WHERE WHAT IT READS IS OF BULK AT MOST 1048576: true; the input reads as it did. -/
def cellsLastUptoRow : OpenClaim := { program := "ytjaoekkmkgifhaa", sum := "f64b3dccd52f084fb9b3e26347ede85b7542005a3862eeac84c028aca9882e44", func := "sidings/sidingslaw05.CellsLast", spec := "cellsLast", inPlace := ["sync/atomic.StoreInt64", "sync/atomic.StoreInt32", "sync/atomic.LoadInt64", "(*sync.WaitGroup).Add", "internal/race.ReleaseMerge", "internal/race.Disable", "internal/race.Enable", "internal/synctest.IsInBubble", "internal/synctest.Associate[sync.WaitGroup]", "sync.fatal", "sync/atomic.OrUint64", "sync/atomic.AddUint64", "internal/race.Read", "sync/atomic.LoadUint64", "sync/atomic.StoreUint64", "internal/synctest.Disassociate[sync.WaitGroup]", "sync.runtime_Semrelease", "(*sync.WaitGroup).Done", "(*sync.WaitGroup).Wait", "internal/race.Acquire", "internal/synctest.IsAssociated[sync.WaitGroup]", "sync/atomic.CompareAndSwapUint64", "internal/race.Write", "sync.runtime_SemacquireWaitGroup", "sync/atomic.LoadInt32"], unfollowed := true, recurses := true, leaving := true, apart := false, narrowed := true }
def CellsLastUptoSaid : Prop := cellsLastUptoRow.holds Try.pinned (OpenSpec.upto cellsLastSpec)

/-- 'sidingslaw05.CellsScripts', WHERE WHAT IT READS IS OF BULK AT MOST 1048576: true; the input reads as it did. -/
def cellsScriptsUptoRow : OpenClaim := { program := "ytjaoekkmkgifhaa", sum := "f64b3dccd52f084fb9b3e26347ede85b7542005a3862eeac84c028aca9882e44", func := "sidings/sidingslaw05.CellsScripts", spec := "cellsScripts", inPlace := ["sync/atomic.StoreInt64", "sync/atomic.StoreInt32", "sync/atomic.LoadInt64", "(*sync.WaitGroup).Add", "internal/race.ReleaseMerge", "internal/race.Disable", "internal/race.Enable", "internal/synctest.IsInBubble", "internal/synctest.Associate[sync.WaitGroup]", "sync.fatal", "sync/atomic.OrUint64", "sync/atomic.AddUint64", "internal/race.Read", "sync/atomic.LoadUint64", "sync/atomic.StoreUint64", "internal/synctest.Disassociate[sync.WaitGroup]", "sync.runtime_Semrelease", "(*sync.WaitGroup).Done", "(*sync.WaitGroup).Wait", "internal/race.Acquire", "internal/synctest.IsAssociated[sync.WaitGroup]", "sync/atomic.CompareAndSwapUint64", "internal/race.Write", "sync.runtime_SemacquireWaitGroup", "sync/atomic.LoadInt32", "sync/atomic.CompareAndSwapInt64"], unfollowed := true, recurses := true, leaving := true, apart := false, narrowed := true }
def CellsScriptsUptoSaid : Prop := cellsScriptsUptoRow.holds Try.pinned (OpenSpec.upto cellsScriptsSpec)

/-- 'sidingslaw05.CellsNil', WHERE WHAT IT READS IS OF BULK AT MOST 1048576: true; the input reads as it did. -/
def cellsNilUptoRow : OpenClaim := { program := "ytjaoekkmkgifhaa", sum := "f64b3dccd52f084fb9b3e26347ede85b7542005a3862eeac84c028aca9882e44", func := "sidings/sidingslaw05.CellsNil", spec := "cellsNil", inPlace := ["sync/atomic.StoreInt64", "sync/atomic.StoreInt32", "sync/atomic.LoadInt64", "sync/atomic.CompareAndSwapInt64", "sync/atomic.LoadInt32", "(*sync.WaitGroup).Add", "internal/race.ReleaseMerge", "internal/race.Disable", "internal/race.Enable", "internal/synctest.IsInBubble", "internal/synctest.Associate[sync.WaitGroup]", "sync.fatal", "sync/atomic.OrUint64", "sync/atomic.AddUint64", "internal/race.Read", "sync/atomic.LoadUint64", "sync/atomic.StoreUint64", "internal/synctest.Disassociate[sync.WaitGroup]", "sync.runtime_Semrelease", "(*sync.WaitGroup).Done", "(*sync.WaitGroup).Wait", "internal/race.Acquire", "internal/synctest.IsAssociated[sync.WaitGroup]", "sync/atomic.CompareAndSwapUint64", "internal/race.Write", "sync.runtime_SemacquireWaitGroup"], unfollowed := true, recurses := true, leaving := true, apart := false, narrowed := true }
def CellsNilUptoSaid : Prop := cellsNilUptoRow.holds Try.pinned (OpenSpec.upto cellsNilSpec)

end Rows
end Go.Proofs.Ytjaoekkmkgifhaa
