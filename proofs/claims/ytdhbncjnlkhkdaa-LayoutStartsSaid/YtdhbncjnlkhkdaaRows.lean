/-
  No cell of these rows narrows 'for every input' (looked for: loops, veiled, ifaces, maps, wideKeys, modest, calm, conditions, laid).
  DERIVED. THE GIVEN ROWS OF THIS SEAT. 6 by the template 'for every input the law returns true; each argument reads behind the call as it read before'; 0 by the template 'total and deterministic' (their statements: YtdhbncjnlkhkdaaTotals.lean).
  GIVEN WITH THE SEED: the statements are not yours to turn. If you find one false, say at which input.
  Laid BY PROGRAM, IN A SANDBOX (cutbox-rows.mjs): the forced cells as the released guide's own fill.sh prints them over the translation 798e53fb7e77f8d4… (all of the seat's roots in one cut). By AI agents, Wed Nov 11 2026. No macro, syntax, notation, axiom, sorry.
-/
import Derived.Test.YtdhbncjnlkhkdaaChecked
import GoSem.Claim
import GoSem.ClaimJoined
import GoSem.ClaimMapViews
import Derived.JoinedTies
import Derived.KernelRfl
namespace Go.Proofs.Ytdhbncjnlkhkdaa
/- THE CELL 'sum', in the pinned program and in every row, IS THE sha256 OF THE DUMP (.gsa) THAT YtdhbncjnlkhkdaaProg.lean LOADS. Nothing in Lean hashes anything: it is a label: what it is worth is what the hold of that sum in a sandbox is worth. -/
noncomputable def Try.pinned : Pinned := { name := "ytdhbncjnlkhkdaa", sum := "798e53fb7e77f8d41f612854a92c8f1a06d30b76f1e14c9e83e027b5f5aae726", checked := Try.checked }
namespace Rows
def none {H : Type} : Left H := { results := [], args := [] }

/-- 'sidingslaw06.LayoutFree': WHATEVER THE INPUT: true; the input reads as it did. -/
def layoutFreeSpec : ChangeSpec := { name := "layoutFree", fn := fun _ => fun
  | [d] => { results := [.lit (.bool true)], args := [d] }
  | _ => none }
def layoutFreeRow : OpenClaim := { program := "ytdhbncjnlkhkdaa", sum := "798e53fb7e77f8d41f612854a92c8f1a06d30b76f1e14c9e83e027b5f5aae726", func := "sidings/sidingslaw06.LayoutFree", spec := "layoutFree", unfollowed := true, recurses := true, apart := false }
def LayoutFreeSaid : Prop := layoutFreeRow.holds Try.pinned (OpenSpec.ofChange layoutFreeSpec)

/-- ITS FALSE NEIGHBOUR: 'it returns false'. Refute it at one input. -/
def layoutFreeWrong : ChangeSpec := { name := "layoutFree", fn := fun _ => fun
  | [d] => { results := [.lit (.bool false)], args := [d] }
  | _ => none }
def LayoutFreeWrongFalsely : Prop := layoutFreeRow.holds Try.pinned (OpenSpec.ofChange layoutFreeWrong)

/-- 'sidingslaw06.LayoutMore': WHATEVER THE INPUT: true; the input reads as it did. -/
def layoutMoreSpec : ChangeSpec := { name := "layoutMore", fn := fun _ => fun
  | [d1, d2] => { results := [.lit (.bool true)], args := [d1, d2] }
  | _ => none }
def layoutMoreRow : OpenClaim := { program := "ytdhbncjnlkhkdaa", sum := "798e53fb7e77f8d41f612854a92c8f1a06d30b76f1e14c9e83e027b5f5aae726", func := "sidings/sidingslaw06.LayoutMore", spec := "layoutMore", unfollowed := true, recurses := true, apart := false }
def LayoutMoreSaid : Prop := layoutMoreRow.holds Try.pinned (OpenSpec.ofChange layoutMoreSpec)

/-- ITS FALSE NEIGHBOUR: 'it returns false'. Refute it at one input. -/
def layoutMoreWrong : ChangeSpec := { name := "layoutMore", fn := fun _ => fun
  | [d1, d2] => { results := [.lit (.bool false)], args := [d1, d2] }
  | _ => none }
def LayoutMoreWrongFalsely : Prop := layoutMoreRow.holds Try.pinned (OpenSpec.ofChange layoutMoreWrong)

/-- 'sidingslaw06.LayoutTells': WHATEVER THE INPUT: true; the input reads as it did. -/
def layoutTellsSpec : ChangeSpec := { name := "layoutTells", fn := fun _ => fun
  | [d1, d2] => { results := [.lit (.bool true)], args := [d1, d2] }
  | _ => none }
def layoutTellsRow : OpenClaim := { program := "ytdhbncjnlkhkdaa", sum := "798e53fb7e77f8d41f612854a92c8f1a06d30b76f1e14c9e83e027b5f5aae726", func := "sidings/sidingslaw06.LayoutTells", spec := "layoutTells", unfollowed := true, recurses := true, apart := false }
def LayoutTellsSaid : Prop := layoutTellsRow.holds Try.pinned (OpenSpec.ofChange layoutTellsSpec)

/-- ITS FALSE NEIGHBOUR: 'it returns false'. Refute it at one input. -/
def layoutTellsWrong : ChangeSpec := { name := "layoutTells", fn := fun _ => fun
  | [d1, d2] => { results := [.lit (.bool false)], args := [d1, d2] }
  | _ => none }
def LayoutTellsWrongFalsely : Prop := layoutTellsRow.holds Try.pinned (OpenSpec.ofChange layoutTellsWrong)

/-- 'sidingslaw06.LayoutApart': WHATEVER THE INPUT: true; the input reads as it did. -/
def layoutApartSpec : ChangeSpec := { name := "layoutApart", fn := fun _ => fun
  | [d] => { results := [.lit (.bool true)], args := [d] }
  | _ => none }
def layoutApartRow : OpenClaim := { program := "ytdhbncjnlkhkdaa", sum := "798e53fb7e77f8d41f612854a92c8f1a06d30b76f1e14c9e83e027b5f5aae726", func := "sidings/sidingslaw06.LayoutApart", spec := "layoutApart", unfollowed := true, recurses := true, apart := false }
def LayoutApartSaid : Prop := layoutApartRow.holds Try.pinned (OpenSpec.ofChange layoutApartSpec)

/-- ITS FALSE NEIGHBOUR: 'it returns false'. Refute it at one input. -/
def layoutApartWrong : ChangeSpec := { name := "layoutApart", fn := fun _ => fun
  | [d] => { results := [.lit (.bool false)], args := [d] }
  | _ => none }
def LayoutApartWrongFalsely : Prop := layoutApartRow.holds Try.pinned (OpenSpec.ofChange layoutApartWrong)

/-- 'sidingslaw06.LayoutAgain': WHATEVER THE INPUT: true; the input reads as it did. -/
def layoutAgainSpec : ChangeSpec := { name := "layoutAgain", fn := fun _ => fun
  | [d1, d2, d3] => { results := [.lit (.bool true)], args := [d1, d2, d3] }
  | _ => none }
def layoutAgainRow : OpenClaim := { program := "ytdhbncjnlkhkdaa", sum := "798e53fb7e77f8d41f612854a92c8f1a06d30b76f1e14c9e83e027b5f5aae726", func := "sidings/sidingslaw06.LayoutAgain", spec := "layoutAgain", unfollowed := true, recurses := true, apart := false }
def LayoutAgainSaid : Prop := layoutAgainRow.holds Try.pinned (OpenSpec.ofChange layoutAgainSpec)

/-- ITS FALSE NEIGHBOUR: 'it returns false'. Refute it at one input. -/
def layoutAgainWrong : ChangeSpec := { name := "layoutAgain", fn := fun _ => fun
  | [d1, d2, d3] => { results := [.lit (.bool false)], args := [d1, d2, d3] }
  | _ => none }
def LayoutAgainWrongFalsely : Prop := layoutAgainRow.holds Try.pinned (OpenSpec.ofChange layoutAgainWrong)

/-- 'sidingslaw06.LayoutStarts': WHATEVER THE INPUT: true; the input reads as it did. -/
def layoutStartsSpec : ChangeSpec := { name := "layoutStarts", fn := fun _ => fun
  | [d] => { results := [.lit (.bool true)], args := [d] }
  | _ => none }
def layoutStartsRow : OpenClaim := { program := "ytdhbncjnlkhkdaa", sum := "798e53fb7e77f8d41f612854a92c8f1a06d30b76f1e14c9e83e027b5f5aae726", func := "sidings/sidingslaw06.LayoutStarts", spec := "layoutStarts", unfollowed := true, recurses := true, apart := false }
def LayoutStartsSaid : Prop := layoutStartsRow.holds Try.pinned (OpenSpec.ofChange layoutStartsSpec)

/-- ITS FALSE NEIGHBOUR: 'it returns false'. Refute it at one input. -/
def layoutStartsWrong : ChangeSpec := { name := "layoutStarts", fn := fun _ => fun
  | [d] => { results := [.lit (.bool false)], args := [d] }
  | _ => none }
def LayoutStartsWrongFalsely : Prop := layoutStartsRow.holds Try.pinned (OpenSpec.ofChange layoutStartsWrong)

/- THE SECOND FORM. 'bulk': how many values and letters a reading holds, each counted each time it is reached (what is shared counts as often as it is met; a slice's spare places count too). A statement '..UptoSaid' is the law's where the arguments, and the package variables that the reading takes, are together of bulk at most 1048576: NARROWER than '..Said'. Prove '..Said' where nothing that the law and all that it calls make is longer than what came in: it says more and counts as full. Else prove '..UptoSaid'. A law counts once. -/
mutual
def uptoBulk {H : Type} : DataW H → Nat
  | .lit (.string bytes) => bytes.length + 1
  | .lit _ => 1
  | .nil => 1
  | .ptr d => uptoBulk d + 1
  | .slice elems spare => uptoBulkAll elems + uptoBulkAll spare + 1
  | .agg parts => uptoBulkAll parts + 1
  | .iface _ d => uptoBulk d + 1
  | .map entries => uptoBulkEntries entries + 1
  | .held _ => 1
def uptoBulkAll {H : Type} : List (DataW H) → Nat
  | [] => 0
  | d :: r => uptoBulk d + uptoBulkAll r
def uptoBulkEntries {H : Type} : List (Lit × DataW H) → Nat
  | [] => 0
  | x :: r => uptoBulkEntry x + uptoBulkEntries r
def uptoBulkEntry {H : Type} : Lit × DataW H → Nat
  | (.string bytes, d) => bytes.length + uptoBulk d + 1
  | (_, d) => uptoBulk d + 1
 end
def uptoSmall : (H : Type) → List (DataW H) → Bool := fun _ ds => decide (uptoBulkAll ds ≤ 1048576)
def OpenSpec.upto (s : _root_.Go.ChangeSpec) : _root_.Go.OpenSpec := { _root_.Go.OpenSpec.ofChange s with cond := some uptoSmall }

/-- 'sidingslaw06.LayoutFree', WHERE WHAT IT READS IS OF BULK AT MOST 1048576: true; the input reads as it did. -/
def layoutFreeUptoRow : OpenClaim := { program := "ytdhbncjnlkhkdaa", sum := "798e53fb7e77f8d41f612854a92c8f1a06d30b76f1e14c9e83e027b5f5aae726", func := "sidings/sidingslaw06.LayoutFree", spec := "layoutFree", unfollowed := true, recurses := true, apart := false, narrowed := true }
def LayoutFreeUptoSaid : Prop := layoutFreeUptoRow.holds Try.pinned (OpenSpec.upto layoutFreeSpec)

/-- 'sidingslaw06.LayoutMore', WHERE WHAT IT READS IS OF BULK AT MOST 1048576: true; the input reads as it did. -/
def layoutMoreUptoRow : OpenClaim := { program := "ytdhbncjnlkhkdaa", sum := "798e53fb7e77f8d41f612854a92c8f1a06d30b76f1e14c9e83e027b5f5aae726", func := "sidings/sidingslaw06.LayoutMore", spec := "layoutMore", unfollowed := true, recurses := true, apart := false, narrowed := true }
def LayoutMoreUptoSaid : Prop := layoutMoreUptoRow.holds Try.pinned (OpenSpec.upto layoutMoreSpec)

/-- 'sidingslaw06.LayoutTells', WHERE WHAT IT READS IS OF BULK AT MOST 1048576: true; the input reads as it did. -/
def layoutTellsUptoRow : OpenClaim := { program := "ytdhbncjnlkhkdaa", sum := "798e53fb7e77f8d41f612854a92c8f1a06d30b76f1e14c9e83e027b5f5aae726", func := "sidings/sidingslaw06.LayoutTells", spec := "layoutTells", unfollowed := true, recurses := true, apart := false, narrowed := true }
def LayoutTellsUptoSaid : Prop := layoutTellsUptoRow.holds Try.pinned (OpenSpec.upto layoutTellsSpec)

/-- 'sidingslaw06.LayoutApart', WHERE WHAT IT READS IS OF BULK AT MOST 1048576: true; the input reads as it did. -/
def layoutApartUptoRow : OpenClaim := { program := "ytdhbncjnlkhkdaa", sum := "798e53fb7e77f8d41f612854a92c8f1a06d30b76f1e14c9e83e027b5f5aae726", func := "sidings/sidingslaw06.LayoutApart", spec := "layoutApart", unfollowed := true, recurses := true, apart := false, narrowed := true }
def LayoutApartUptoSaid : Prop := layoutApartUptoRow.holds Try.pinned (OpenSpec.upto layoutApartSpec)

/-- 'sidingslaw06.LayoutAgain', WHERE WHAT IT READS IS OF BULK AT MOST 1048576: true; the input reads as it did. -/
def layoutAgainUptoRow : OpenClaim := { program := "ytdhbncjnlkhkdaa", sum := "798e53fb7e77f8d41f612854a92c8f1a06d30b76f1e14c9e83e027b5f5aae726", func := "sidings/sidingslaw06.LayoutAgain", spec := "layoutAgain", unfollowed := true, recurses := true, apart := false, narrowed := true }
def LayoutAgainUptoSaid : Prop := layoutAgainUptoRow.holds Try.pinned (OpenSpec.upto layoutAgainSpec)

/-- 'sidingslaw06.LayoutStarts', WHERE WHAT IT READS IS OF BULK AT MOST 1048576: true; the input reads as it did. -/
def layoutStartsUptoRow : OpenClaim := { program := "ytdhbncjnlkhkdaa", sum := "798e53fb7e77f8d41f612854a92c8f1a06d30b76f1e14c9e83e027b5f5aae726", func := "sidings/sidingslaw06.LayoutStarts", spec := "layoutStarts", unfollowed := true, recurses := true, apart := false, narrowed := true }
def LayoutStartsUptoSaid : Prop := layoutStartsUptoRow.holds Try.pinned (OpenSpec.upto layoutStartsSpec)

end Rows
end Go.Proofs.Ytdhbncjnlkhkdaa
