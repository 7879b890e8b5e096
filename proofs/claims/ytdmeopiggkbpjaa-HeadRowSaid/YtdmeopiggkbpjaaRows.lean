/-
  No cell of these rows narrows 'for every input' (looked for: loops, veiled, ifaces, maps, wideKeys, modest, calm, conditions, laid).
  DERIVED. THE GIVEN ROWS OF THIS SEAT. 12 by the template 'for every input the law returns true; each argument reads behind the call as it read before'; 0 by the template 'total and deterministic' (their statements: YtdmeopiggkbpjaaTotals.lean).
  GIVEN WITH THE SEED: the statements are not yours to turn. If you find one false, say at which input.
  Laid BY PROGRAM, IN A SANDBOX (cutbox-rows.mjs): the forced cells as the released guide's own fill.sh prints them over the translation e8a2dd52783fc176… (all of the seat's roots in one cut). By AI agents, Wed Nov 11 2026. No macro, syntax, notation, axiom, sorry.
-/
import Derived.Test.YtdmeopiggkbpjaaChecked
import GoSem.Claim
import GoSem.ClaimJoined
import GoSem.ClaimMapViews
import Derived.JoinedTies
import Derived.KernelRfl
namespace Go.Proofs.Ytdmeopiggkbpjaa
/- THE CELL 'sum', in the pinned program and in every row, IS THE sha256 OF THE DUMP (.gsa) THAT YtdmeopiggkbpjaaProg.lean LOADS. Nothing in Lean hashes anything: it is a label: what it is worth is what the hold of that sum in a sandbox is worth. -/
noncomputable def Try.pinned : Pinned := { name := "ytdmeopiggkbpjaa", sum := "e8a2dd52783fc176472984ad47a230f85091950973f4f08cea81b29316f4f2a8", checked := Try.checked }
namespace Rows
def none {H : Type} : Left H := { results := [], args := [] }

/-- 'sidingslaw04.HeadPacks': WHATEVER THE INPUT: true; the input reads as it did. -/
def headPacksSpec : ChangeSpec := { name := "headPacks", fn := fun _ => fun
  | [d1, d2, d3] => { results := [.lit (.bool true)], args := [d1, d2, d3] }
  | _ => none }
def headPacksRow : OpenClaim := { program := "ytdmeopiggkbpjaa", sum := "e8a2dd52783fc176472984ad47a230f85091950973f4f08cea81b29316f4f2a8", func := "sidings/sidingslaw04.HeadPacks", spec := "headPacks", unfollowed := true, recurses := true, apart := false }
def HeadPacksSaid : Prop := headPacksRow.holds Try.pinned (OpenSpec.ofChange headPacksSpec)

/-- ITS FALSE NEIGHBOUR: 'it returns false'. Refute it at one input. -/
def headPacksWrong : ChangeSpec := { name := "headPacks", fn := fun _ => fun
  | [d1, d2, d3] => { results := [.lit (.bool false)], args := [d1, d2, d3] }
  | _ => none }
def HeadPacksWrongFalsely : Prop := headPacksRow.holds Try.pinned (OpenSpec.ofChange headPacksWrong)

/-- 'sidingslaw04.HeadTurns': WHATEVER THE INPUT: true; the input reads as it did. -/
def headTurnsSpec : ChangeSpec := { name := "headTurns", fn := fun _ => fun
  | [d1, d2] => { results := [.lit (.bool true)], args := [d1, d2] }
  | _ => none }
def headTurnsRow : OpenClaim := { program := "ytdmeopiggkbpjaa", sum := "e8a2dd52783fc176472984ad47a230f85091950973f4f08cea81b29316f4f2a8", func := "sidings/sidingslaw04.HeadTurns", spec := "headTurns", unfollowed := true, recurses := true, apart := false }
def HeadTurnsSaid : Prop := headTurnsRow.holds Try.pinned (OpenSpec.ofChange headTurnsSpec)

/-- ITS FALSE NEIGHBOUR: 'it returns false'. Refute it at one input. -/
def headTurnsWrong : ChangeSpec := { name := "headTurns", fn := fun _ => fun
  | [d1, d2] => { results := [.lit (.bool false)], args := [d1, d2] }
  | _ => none }
def HeadTurnsWrongFalsely : Prop := headTurnsRow.holds Try.pinned (OpenSpec.ofChange headTurnsWrong)

/-- 'sidingslaw04.HeadBack': WHATEVER THE INPUT: true; the input reads as it did. -/
def headBackSpec : ChangeSpec := { name := "headBack", fn := fun _ => fun
  | [d1, d2, d3] => { results := [.lit (.bool true)], args := [d1, d2, d3] }
  | _ => none }
def headBackRow : OpenClaim := { program := "ytdmeopiggkbpjaa", sum := "e8a2dd52783fc176472984ad47a230f85091950973f4f08cea81b29316f4f2a8", func := "sidings/sidingslaw04.HeadBack", spec := "headBack", unfollowed := true, recurses := true, apart := false }
def HeadBackSaid : Prop := headBackRow.holds Try.pinned (OpenSpec.ofChange headBackSpec)

/-- ITS FALSE NEIGHBOUR: 'it returns false'. Refute it at one input. -/
def headBackWrong : ChangeSpec := { name := "headBack", fn := fun _ => fun
  | [d1, d2, d3] => { results := [.lit (.bool false)], args := [d1, d2, d3] }
  | _ => none }
def HeadBackWrongFalsely : Prop := headBackRow.holds Try.pinned (OpenSpec.ofChange headBackWrong)

/-- 'sidingslaw04.HeadPops': WHATEVER THE INPUT: true; the input reads as it did. -/
def headPopsSpec : ChangeSpec := { name := "headPops", fn := fun _ => fun
  | [d1, d2] => { results := [.lit (.bool true)], args := [d1, d2] }
  | _ => none }
def headPopsRow : OpenClaim := { program := "ytdmeopiggkbpjaa", sum := "e8a2dd52783fc176472984ad47a230f85091950973f4f08cea81b29316f4f2a8", func := "sidings/sidingslaw04.HeadPops", spec := "headPops", unfollowed := true, recurses := true, apart := false }
def HeadPopsSaid : Prop := headPopsRow.holds Try.pinned (OpenSpec.ofChange headPopsSpec)

/-- ITS FALSE NEIGHBOUR: 'it returns false'. Refute it at one input. -/
def headPopsWrong : ChangeSpec := { name := "headPops", fn := fun _ => fun
  | [d1, d2] => { results := [.lit (.bool false)], args := [d1, d2] }
  | _ => none }
def HeadPopsWrongFalsely : Prop := headPopsRow.holds Try.pinned (OpenSpec.ofChange headPopsWrong)

/-- 'sidingslaw04.HeadRow': WHATEVER THE INPUT: true; the input reads as it did. -/
def headRowSpec : ChangeSpec := { name := "headRow", fn := fun _ => fun
  | [d] => { results := [.lit (.bool true)], args := [d] }
  | _ => none }
def headRowRow : OpenClaim := { program := "ytdmeopiggkbpjaa", sum := "e8a2dd52783fc176472984ad47a230f85091950973f4f08cea81b29316f4f2a8", func := "sidings/sidingslaw04.HeadRow", spec := "headRow", unfollowed := true, recurses := true, apart := false }
def HeadRowSaid : Prop := headRowRow.holds Try.pinned (OpenSpec.ofChange headRowSpec)

/-- ITS FALSE NEIGHBOUR: 'it returns false'. Refute it at one input. -/
def headRowWrong : ChangeSpec := { name := "headRow", fn := fun _ => fun
  | [d] => { results := [.lit (.bool false)], args := [d] }
  | _ => none }
def HeadRowWrongFalsely : Prop := headRowRow.holds Try.pinned (OpenSpec.ofChange headRowWrong)

/-- 'sidingslaw04.HeadOlder': WHATEVER THE INPUT: true; the input reads as it did. -/
def headOlderSpec : ChangeSpec := { name := "headOlder", fn := fun _ => fun
  | [d1, d2, d3] => { results := [.lit (.bool true)], args := [d1, d2, d3] }
  | _ => none }
def headOlderRow : OpenClaim := { program := "ytdmeopiggkbpjaa", sum := "e8a2dd52783fc176472984ad47a230f85091950973f4f08cea81b29316f4f2a8", func := "sidings/sidingslaw04.HeadOlder", spec := "headOlder", unfollowed := true, recurses := true, apart := false }
def HeadOlderSaid : Prop := headOlderRow.holds Try.pinned (OpenSpec.ofChange headOlderSpec)

/-- ITS FALSE NEIGHBOUR: 'it returns false'. Refute it at one input. -/
def headOlderWrong : ChangeSpec := { name := "headOlder", fn := fun _ => fun
  | [d1, d2, d3] => { results := [.lit (.bool false)], args := [d1, d2, d3] }
  | _ => none }
def HeadOlderWrongFalsely : Prop := headOlderRow.holds Try.pinned (OpenSpec.ofChange headOlderWrong)

/-- 'sidingslaw02.EntryPacks': WHATEVER THE INPUT: true; the input reads as it did. -/
def entryPacksSpec : ChangeSpec := { name := "entryPacks", fn := fun _ => fun
  | [d1, d2] => { results := [.lit (.bool true)], args := [d1, d2] }
  | _ => none }
def entryPacksRow : OpenClaim := { program := "ytdmeopiggkbpjaa", sum := "e8a2dd52783fc176472984ad47a230f85091950973f4f08cea81b29316f4f2a8", func := "sidings/sidingslaw02.EntryPacks", spec := "entryPacks", unfollowed := true, recurses := true, apart := false }
def EntryPacksSaid : Prop := entryPacksRow.holds Try.pinned (OpenSpec.ofChange entryPacksSpec)

/-- ITS FALSE NEIGHBOUR: 'it returns false'. Refute it at one input. -/
def entryPacksWrong : ChangeSpec := { name := "entryPacks", fn := fun _ => fun
  | [d1, d2] => { results := [.lit (.bool false)], args := [d1, d2] }
  | _ => none }
def EntryPacksWrongFalsely : Prop := entryPacksRow.holds Try.pinned (OpenSpec.ofChange entryPacksWrong)

/-- 'sidingslaw02.EntryBack': WHATEVER THE INPUT: true; the input reads as it did. -/
def entryBackSpec : ChangeSpec := { name := "entryBack", fn := fun _ => fun
  | [d1, d2] => { results := [.lit (.bool true)], args := [d1, d2] }
  | _ => none }
def entryBackRow : OpenClaim := { program := "ytdmeopiggkbpjaa", sum := "e8a2dd52783fc176472984ad47a230f85091950973f4f08cea81b29316f4f2a8", func := "sidings/sidingslaw02.EntryBack", spec := "entryBack", unfollowed := true, recurses := true, apart := false }
def EntryBackSaid : Prop := entryBackRow.holds Try.pinned (OpenSpec.ofChange entryBackSpec)

/-- ITS FALSE NEIGHBOUR: 'it returns false'. Refute it at one input. -/
def entryBackWrong : ChangeSpec := { name := "entryBack", fn := fun _ => fun
  | [d1, d2] => { results := [.lit (.bool false)], args := [d1, d2] }
  | _ => none }
def EntryBackWrongFalsely : Prop := entryBackRow.holds Try.pinned (OpenSpec.ofChange entryBackWrong)

/-- 'sidingslaw02.EntryPins': WHATEVER THE INPUT: true; the input reads as it did. -/
def entryPinsSpec : ChangeSpec := { name := "entryPins", fn := fun _ => fun
  | [d] => { results := [.lit (.bool true)], args := [d] }
  | _ => none }
def entryPinsRow : OpenClaim := { program := "ytdmeopiggkbpjaa", sum := "e8a2dd52783fc176472984ad47a230f85091950973f4f08cea81b29316f4f2a8", func := "sidings/sidingslaw02.EntryPins", spec := "entryPins", unfollowed := true, recurses := true, apart := false }
def EntryPinsSaid : Prop := entryPinsRow.holds Try.pinned (OpenSpec.ofChange entryPinsSpec)

/-- ITS FALSE NEIGHBOUR: 'it returns false'. Refute it at one input. -/
def entryPinsWrong : ChangeSpec := { name := "entryPins", fn := fun _ => fun
  | [d] => { results := [.lit (.bool false)], args := [d] }
  | _ => none }
def EntryPinsWrongFalsely : Prop := entryPinsRow.holds Try.pinned (OpenSpec.ofChange entryPinsWrong)

/-- 'sidingslaw02.EntryGens': WHATEVER THE INPUT: true; the input reads as it did. -/
def entryGensSpec : ChangeSpec := { name := "entryGens", fn := fun _ => fun
  | [d1, d2] => { results := [.lit (.bool true)], args := [d1, d2] }
  | _ => none }
def entryGensRow : OpenClaim := { program := "ytdmeopiggkbpjaa", sum := "e8a2dd52783fc176472984ad47a230f85091950973f4f08cea81b29316f4f2a8", func := "sidings/sidingslaw02.EntryGens", spec := "entryGens", unfollowed := true, recurses := true, apart := false }
def EntryGensSaid : Prop := entryGensRow.holds Try.pinned (OpenSpec.ofChange entryGensSpec)

/-- ITS FALSE NEIGHBOUR: 'it returns false'. Refute it at one input. -/
def entryGensWrong : ChangeSpec := { name := "entryGens", fn := fun _ => fun
  | [d1, d2] => { results := [.lit (.bool false)], args := [d1, d2] }
  | _ => none }
def EntryGensWrongFalsely : Prop := entryGensRow.holds Try.pinned (OpenSpec.ofChange entryGensWrong)

/-- 'sidingslaw02.EntryMoves': WHATEVER THE INPUT: true; the input reads as it did. -/
def entryMovesSpec : ChangeSpec := { name := "entryMoves", fn := fun _ => fun
  | [d1, d2] => { results := [.lit (.bool true)], args := [d1, d2] }
  | _ => none }
def entryMovesRow : OpenClaim := { program := "ytdmeopiggkbpjaa", sum := "e8a2dd52783fc176472984ad47a230f85091950973f4f08cea81b29316f4f2a8", func := "sidings/sidingslaw02.EntryMoves", spec := "entryMoves", unfollowed := true, recurses := true, apart := false }
def EntryMovesSaid : Prop := entryMovesRow.holds Try.pinned (OpenSpec.ofChange entryMovesSpec)

/-- ITS FALSE NEIGHBOUR: 'it returns false'. Refute it at one input. -/
def entryMovesWrong : ChangeSpec := { name := "entryMoves", fn := fun _ => fun
  | [d1, d2] => { results := [.lit (.bool false)], args := [d1, d2] }
  | _ => none }
def EntryMovesWrongFalsely : Prop := entryMovesRow.holds Try.pinned (OpenSpec.ofChange entryMovesWrong)

/-- 'sidingslaw02.EntryGuards': WHATEVER THE INPUT: true; the input reads as it did. -/
def entryGuardsSpec : ChangeSpec := { name := "entryGuards", fn := fun _ => fun
  | [d1, d2] => { results := [.lit (.bool true)], args := [d1, d2] }
  | _ => none }
def entryGuardsRow : OpenClaim := { program := "ytdmeopiggkbpjaa", sum := "e8a2dd52783fc176472984ad47a230f85091950973f4f08cea81b29316f4f2a8", func := "sidings/sidingslaw02.EntryGuards", spec := "entryGuards", unfollowed := true, recurses := true, apart := false }
def EntryGuardsSaid : Prop := entryGuardsRow.holds Try.pinned (OpenSpec.ofChange entryGuardsSpec)

/-- ITS FALSE NEIGHBOUR: 'it returns false'. Refute it at one input. -/
def entryGuardsWrong : ChangeSpec := { name := "entryGuards", fn := fun _ => fun
  | [d1, d2] => { results := [.lit (.bool false)], args := [d1, d2] }
  | _ => none }
def EntryGuardsWrongFalsely : Prop := entryGuardsRow.holds Try.pinned (OpenSpec.ofChange entryGuardsWrong)

/- THE SECOND FORM. 'bulk': how many values and letters a reading holds, each counted each time it is reached (what is shared counts as often as it is met; a slice's spare places count too). A statement '..UptoSaid' is the law's where the arguments, and the package variables that the reading takes, are together of bulk at most 1048576: NARROWER than '..Said'. Prove '..Said' where nothing that the law and all that it calls make is longer than what came in: it says more and counts as full. Else prove '..UptoSaid'. A law counts once. -/
mutual
def uptoBulk {H : Type} : DataW H → Nat
  | .lit (.string bytes) => bytes.length + 1
  | .lit _ => 1
  | .nil => 1
  | .ptr d => uptoBulk d + 1
  | .slice elems spare => uptoBulkAll elems + uptoBulkAll spare + 1
  | .agg parts => uptoBulkAll parts + 1
  | .iface _ d => uptoBulk d + 1
  | .map entries => uptoBulkEntries entries + 1
  | .held _ => 1
def uptoBulkAll {H : Type} : List (DataW H) → Nat
  | [] => 0
  | d :: r => uptoBulk d + uptoBulkAll r
def uptoBulkEntries {H : Type} : List (Lit × DataW H) → Nat
  | [] => 0
  | x :: r => uptoBulkEntry x + uptoBulkEntries r
def uptoBulkEntry {H : Type} : Lit × DataW H → Nat
  | (.string bytes, d) => bytes.length + uptoBulk d + 1
  | (_, d) => uptoBulk d + 1
 end
def uptoSmall : (H : Type) → List (DataW H) → Bool := fun _ ds => decide (uptoBulkAll ds ≤ 1048576)
def OpenSpec.upto (s : _root_.Go.ChangeSpec) : _root_.Go.OpenSpec := { _root_.Go.OpenSpec.ofChange s with cond := some uptoSmall }

/-- 'sidingslaw04.HeadPacks', WHERE WHAT IT READS IS OF BULK AT MOST 1048576: true; the input reads as it did. -/
def headPacksUptoRow : OpenClaim := { program := "ytdmeopiggkbpjaa", sum := "e8a2dd52783fc176472984ad47a230f85091950973f4f08cea81b29316f4f2a8", func := "sidings/sidingslaw04.HeadPacks", spec := "headPacks", unfollowed := true, recurses := true, apart := false, narrowed := true }
def HeadPacksUptoSaid : Prop := headPacksUptoRow.holds Try.pinned (OpenSpec.upto headPacksSpec)

/-- 'sidingslaw04.HeadTurns', WHERE WHAT IT READS IS OF BULK AT MOST 1048576: true; the input reads as it did. -/
def headTurnsUptoRow : OpenClaim := { program := "ytdmeopiggkbpjaa", sum := "e8a2dd52783fc176472984ad47a230f85091950973f4f08cea81b29316f4f2a8", func := "sidings/sidingslaw04.HeadTurns", spec := "headTurns", unfollowed := true, recurses := true, apart := false, narrowed := true }
def HeadTurnsUptoSaid : Prop := headTurnsUptoRow.holds Try.pinned (OpenSpec.upto headTurnsSpec)

/-- 'sidingslaw04.HeadBack', WHERE WHAT IT READS IS OF BULK AT MOST 1048576: true; the input reads as it did. -/
def headBackUptoRow : OpenClaim := { program := "ytdmeopiggkbpjaa", sum := "e8a2dd52783fc176472984ad47a230f85091950973f4f08cea81b29316f4f2a8", func := "sidings/sidingslaw04.HeadBack", spec := "headBack", unfollowed := true, recurses := true, apart := false, narrowed := true }
def HeadBackUptoSaid : Prop := headBackUptoRow.holds Try.pinned (OpenSpec.upto headBackSpec)

/-- 'sidingslaw04.HeadPops', WHERE WHAT IT READS IS OF BULK AT MOST 1048576: true; the input reads as it did. -/
def headPopsUptoRow : OpenClaim := { program := "ytdmeopiggkbpjaa", sum := "e8a2dd52783fc176472984ad47a230f85091950973f4f08cea81b29316f4f2a8", func := "sidings/sidingslaw04.HeadPops", spec := "headPops", unfollowed := true, recurses := true, apart := false, narrowed := true }
def HeadPopsUptoSaid : Prop := headPopsUptoRow.holds Try.pinned (OpenSpec.upto headPopsSpec)

/-- 'sidingslaw04.HeadRow', WHERE WHAT IT READS IS OF BULK AT MOST 1048576: true; the input reads as it did. -/
def headRowUptoRow : OpenClaim := { program := "ytdmeopiggkbpjaa", sum := "e8a2dd52783fc176472984ad47a230f85091950973f4f08cea81b29316f4f2a8", func := "sidings/sidingslaw04.HeadRow", spec := "headRow", unfollowed := true, recurses := true, apart := false, narrowed := true }
def HeadRowUptoSaid : Prop := headRowUptoRow.holds Try.pinned (OpenSpec.upto headRowSpec)

/-- 'sidingslaw04.HeadOlder', WHERE WHAT IT READS IS OF BULK AT MOST 1048576: true; the input reads as it did. -/
def headOlderUptoRow : OpenClaim := { program := "ytdmeopiggkbpjaa", sum := "e8a2dd52783fc176472984ad47a230f85091950973f4f08cea81b29316f4f2a8", func := "sidings/sidingslaw04.HeadOlder", spec := "headOlder", unfollowed := true, recurses := true, apart := false, narrowed := true }
def HeadOlderUptoSaid : Prop := headOlderUptoRow.holds Try.pinned (OpenSpec.upto headOlderSpec)

/-- 'sidingslaw02.EntryPacks', WHERE WHAT IT READS IS OF BULK AT MOST 1048576: true; the input reads as it did. -/
def entryPacksUptoRow : OpenClaim := { program := "ytdmeopiggkbpjaa", sum := "e8a2dd52783fc176472984ad47a230f85091950973f4f08cea81b29316f4f2a8", func := "sidings/sidingslaw02.EntryPacks", spec := "entryPacks", unfollowed := true, recurses := true, apart := false, narrowed := true }
def EntryPacksUptoSaid : Prop := entryPacksUptoRow.holds Try.pinned (OpenSpec.upto entryPacksSpec)

/-- 'sidingslaw02.EntryBack', WHERE WHAT IT READS IS OF BULK AT MOST 1048576: true; the input reads as it did. -/
def entryBackUptoRow : OpenClaim := { program := "ytdmeopiggkbpjaa", sum := "e8a2dd52783fc176472984ad47a230f85091950973f4f08cea81b29316f4f2a8", func := "sidings/sidingslaw02.EntryBack", spec := "entryBack", unfollowed := true, recurses := true, apart := false, narrowed := true }
def EntryBackUptoSaid : Prop := entryBackUptoRow.holds Try.pinned (OpenSpec.upto entryBackSpec)

/-- 'sidingslaw02.EntryPins', WHERE WHAT IT READS IS OF BULK AT MOST 1048576: true; the input reads as it did. -/
def entryPinsUptoRow : OpenClaim := { program := "ytdmeopiggkbpjaa", sum := "e8a2dd52783fc176472984ad47a230f85091950973f4f08cea81b29316f4f2a8", func := "sidings/sidingslaw02.EntryPins", spec := "entryPins", unfollowed := true, recurses := true, apart := false, narrowed := true }
def EntryPinsUptoSaid : Prop := entryPinsUptoRow.holds Try.pinned (OpenSpec.upto entryPinsSpec)

/-- 'sidingslaw02.EntryGens', WHERE WHAT IT READS IS OF BULK AT MOST 1048576: true; the input reads as it did. -/
def entryGensUptoRow : OpenClaim := { program := "ytdmeopiggkbpjaa", sum := "e8a2dd52783fc176472984ad47a230f85091950973f4f08cea81b29316f4f2a8", func := "sidings/sidingslaw02.EntryGens", spec := "entryGens", unfollowed := true, recurses := true, apart := false, narrowed := true }
def EntryGensUptoSaid : Prop := entryGensUptoRow.holds Try.pinned (OpenSpec.upto entryGensSpec)

/-- 'sidingslaw02.EntryMoves', WHERE WHAT IT READS IS OF BULK AT MOST 1048576: true; the input reads as it did. -/
def entryMovesUptoRow : OpenClaim := { program := "ytdmeopiggkbpjaa", sum := "e8a2dd52783fc176472984ad47a230f85091950973f4f08cea81b29316f4f2a8", func := "sidings/sidingslaw02.EntryMoves", spec := "entryMoves", unfollowed := true, recurses := true, apart := false, narrowed := true }
def EntryMovesUptoSaid : Prop := entryMovesUptoRow.holds Try.pinned (OpenSpec.upto entryMovesSpec)

/-- 'sidingslaw02.EntryGuards', WHERE WHAT IT READS IS OF BULK AT MOST 1048576: true; the input reads as it did. -/
def entryGuardsUptoRow : OpenClaim := { program := "ytdmeopiggkbpjaa", sum := "e8a2dd52783fc176472984ad47a230f85091950973f4f08cea81b29316f4f2a8", func := "sidings/sidingslaw02.EntryGuards", spec := "entryGuards", unfollowed := true, recurses := true, apart := false, narrowed := true }
def EntryGuardsUptoSaid : Prop := entryGuardsUptoRow.holds Try.pinned (OpenSpec.upto entryGuardsSpec)

end Rows
end Go.Proofs.Ytdmeopiggkbpjaa
