/-
  No cell of these rows narrows 'for every input' (looked for: loops, veiled, ifaces, maps, wideKeys, modest, calm, conditions, laid).
  DERIVED. THE GIVEN ROWS OF THIS SEAT. 5 by the template 'for every input the law returns true; each argument reads behind the call as it read before'; 0 by the template 'total and deterministic' (their statements: YtpebepjfgnoaaaaTotals.lean).
  GIVEN WITH THE SEED: the statements are not yours to turn. If you find one false, say at which input.
  Laid BY PROGRAM, IN A SANDBOX (cutbox-rows.mjs): the forced cells as the released guide's own fill.sh prints them over the translation 3dff0be2e5afd16b… (all of the seat's roots in one cut). By AI agents, Wed Nov 11 2026. No macro, syntax, notation, axiom, sorry.
-/
import Derived.Test.YtpebepjfgnoaaaaChecked
import GoSem.Claim
import GoSem.ClaimJoined
import GoSem.ClaimMapViews
import Derived.JoinedTies
import Derived.KernelRfl
namespace Go.Proofs.Ytpebepjfgnoaaaa
/- THE CELL 'sum', in the pinned program and in every row, IS THE sha256 OF THE DUMP (.gsa) THAT YtpebepjfgnoaaaaProg.lean LOADS. Nothing in Lean hashes anything: it is a label: what it is worth is what the hold of that sum in a sandbox is worth. -/
noncomputable def Try.pinned : Pinned := { name := "ytpebepjfgnoaaaa", sum := "3dff0be2e5afd16b0497a67a15dd4eb8defdf7e6f4a2fca09cc3976b856ce3c6", checked := Try.checked }
namespace Rows
def none {H : Type} : Left H := { results := [], args := [] }

/-- 'sidingslaw06.LayoutMore': WHATEVER THE INPUT: true; the input reads as it did. -/
def layoutMoreSpec : ChangeSpec := { name := "layoutMore", fn := fun _ => fun
  | [d1, d2] => { results := [.lit (.bool true)], args := [d1, d2] }
  | _ => none }
def layoutMoreRow : OpenClaim := { program := "ytpebepjfgnoaaaa", sum := "3dff0be2e5afd16b0497a67a15dd4eb8defdf7e6f4a2fca09cc3976b856ce3c6", func := "sidings/sidingslaw06.LayoutMore", spec := "layoutMore", unfollowed := true, recurses := true, apart := false }
def LayoutMoreSaid : Prop := layoutMoreRow.holds Try.pinned (OpenSpec.ofChange layoutMoreSpec)

/-- ITS FALSE NEIGHBOUR: 'it returns false'. Refute it at one input. -/
def layoutMoreWrong : ChangeSpec := { name := "layoutMore", fn := fun _ => fun
  | [d1, d2] => { results := [.lit (.bool false)], args := [d1, d2] }
  | _ => none }
def LayoutMoreWrongFalsely : Prop := layoutMoreRow.holds Try.pinned (OpenSpec.ofChange layoutMoreWrong)

/-- 'sidingslaw06.LayoutApart': WHATEVER THE INPUT: true; the input reads as it did. -/
def layoutApartSpec : ChangeSpec := { name := "layoutApart", fn := fun _ => fun
  | [d] => { results := [.lit (.bool true)], args := [d] }
  | _ => none }
def layoutApartRow : OpenClaim := { program := "ytpebepjfgnoaaaa", sum := "3dff0be2e5afd16b0497a67a15dd4eb8defdf7e6f4a2fca09cc3976b856ce3c6", func := "sidings/sidingslaw06.LayoutApart", spec := "layoutApart", unfollowed := true, recurses := true, apart := false }
def LayoutApartSaid : Prop := layoutApartRow.holds Try.pinned (OpenSpec.ofChange layoutApartSpec)

/-- ITS FALSE NEIGHBOUR: 'it returns false'. Refute it at one input. -/
def layoutApartWrong : ChangeSpec := { name := "layoutApart", fn := fun _ => fun
  | [d] => { results := [.lit (.bool false)], args := [d] }
  | _ => none }
def LayoutApartWrongFalsely : Prop := layoutApartRow.holds Try.pinned (OpenSpec.ofChange layoutApartWrong)

/-- 'sidingslaw10.StackSteps': WHATEVER THE INPUT: true; the input reads as it did. -/
def stackStepsSpec : ChangeSpec := { name := "stackSteps", fn := fun _ => fun
  | [d] => { results := [.lit (.bool true)], args := [d] }
  | _ => none }
def stackStepsRow : OpenClaim := { program := "ytpebepjfgnoaaaa", sum := "3dff0be2e5afd16b0497a67a15dd4eb8defdf7e6f4a2fca09cc3976b856ce3c6", func := "sidings/sidingslaw10.StackSteps", spec := "stackSteps", unfollowed := true, recurses := true, apart := false }
def StackStepsSaid : Prop := stackStepsRow.holds Try.pinned (OpenSpec.ofChange stackStepsSpec)

/-- ITS FALSE NEIGHBOUR: 'it returns false'. Refute it at one input. -/
def stackStepsWrong : ChangeSpec := { name := "stackSteps", fn := fun _ => fun
  | [d] => { results := [.lit (.bool false)], args := [d] }
  | _ => none }
def StackStepsWrongFalsely : Prop := stackStepsRow.holds Try.pinned (OpenSpec.ofChange stackStepsWrong)

/-- 'sidingslaw10.StackApart': WHATEVER THE INPUT: true; the input reads as it did. -/
def stackApartSpec : ChangeSpec := { name := "stackApart", fn := fun _ => fun
  | [d1, d2] => { results := [.lit (.bool true)], args := [d1, d2] }
  | _ => none }
def stackApartRow : OpenClaim := { program := "ytpebepjfgnoaaaa", sum := "3dff0be2e5afd16b0497a67a15dd4eb8defdf7e6f4a2fca09cc3976b856ce3c6", func := "sidings/sidingslaw10.StackApart", spec := "stackApart", unfollowed := true, recurses := true, apart := false }
def StackApartSaid : Prop := stackApartRow.holds Try.pinned (OpenSpec.ofChange stackApartSpec)

/-- ITS FALSE NEIGHBOUR: 'it returns false'. Refute it at one input. -/
def stackApartWrong : ChangeSpec := { name := "stackApart", fn := fun _ => fun
  | [d1, d2] => { results := [.lit (.bool false)], args := [d1, d2] }
  | _ => none }
def StackApartWrongFalsely : Prop := stackApartRow.holds Try.pinned (OpenSpec.ofChange stackApartWrong)

/-- 'sidingslaw11.AllocApart': WHATEVER THE INPUT: true; the input reads as it did. -/
def allocApartSpec : ChangeSpec := { name := "allocApart", fn := fun _ => fun
  | [d1, d2] => { results := [.lit (.bool true)], args := [d1, d2] }
  | _ => none }
def allocApartRow : OpenClaim := { program := "ytpebepjfgnoaaaa", sum := "3dff0be2e5afd16b0497a67a15dd4eb8defdf7e6f4a2fca09cc3976b856ce3c6", func := "sidings/sidingslaw11.AllocApart", spec := "allocApart", unfollowed := true, recurses := true, apart := false }
def AllocApartSaid : Prop := allocApartRow.holds Try.pinned (OpenSpec.ofChange allocApartSpec)

/-- ITS FALSE NEIGHBOUR: 'it returns false'. Refute it at one input. -/
def allocApartWrong : ChangeSpec := { name := "allocApart", fn := fun _ => fun
  | [d1, d2] => { results := [.lit (.bool false)], args := [d1, d2] }
  | _ => none }
def AllocApartWrongFalsely : Prop := allocApartRow.holds Try.pinned (OpenSpec.ofChange allocApartWrong)

/- THE SECOND FORM. 'bulk': how many values and letters a reading holds, each counted each time it is reached (what is shared counts as often as it is met; a slice's spare places count too). A statement '..UptoSaid' is the law's where the arguments, and the package variables that the reading takes, are together of bulk at most 1048576: NARROWER than '..Said'. Prove '..Said' where nothing that the law and all that it calls make is longer than what came in: it says more and counts as full. Else prove '..UptoSaid'. A law counts once. -/
mutual
def uptoBulk {H : Type} : DataW H → Nat
  | .lit (.string bytes) => bytes.length + 1
  | .lit _ => 1
  | .nil => 1
  | .ptr d => uptoBulk d + 1
  | .slice elems spare => uptoBulkAll elems + uptoBulkAll spare + 1
  | .agg parts => uptoBulkAll parts + 1
  | .iface _ d => uptoBulk d + 1
  | .map entries => uptoBulkEntries entries + 1
  | .held _ => 1
def uptoBulkAll {H : Type} : List (DataW H) → Nat
  | [] => 0
  | d :: r => uptoBulk d + uptoBulkAll r
def uptoBulkEntries {H : Type} : List (Lit × DataW H) → Nat
  | [] => 0
  | x :: r => uptoBulkEntry x + uptoBulkEntries r
def uptoBulkEntry {H : Type} : Lit × DataW H → Nat
  | (.string bytes, d) => bytes.length + uptoBulk d + 1
  | (_, d) => uptoBulk d + 1
 end
def uptoSmall : (H : Type) → List (DataW H) → Bool := fun _ ds => decide (uptoBulkAll ds ≤ 1048576)
def OpenSpec.upto (s : _root_.Go.ChangeSpec) : _root_.Go.OpenSpec := { _root_.Go.OpenSpec.ofChange s with cond := some uptoSmall }

/-- 'sidingslaw06.LayoutMore', WHERE WHAT IT READS IS OF BULK AT MOST 1048576: true; the input reads as it did. -/
def layoutMoreUptoRow : OpenClaim := { program := "ytpebepjfgnoaaaa", sum := "3dff0be2e5afd16b0497a67a15dd4eb8defdf7e6f4a2fca09cc3976b856ce3c6", func := "sidings/sidingslaw06.LayoutMore", spec := "layoutMore", unfollowed := true, recurses := true, apart := false, narrowed := true }
def LayoutMoreUptoSaid : Prop := layoutMoreUptoRow.holds Try.pinned (OpenSpec.upto layoutMoreSpec)

/-- 'sidingslaw06.LayoutApart', WHERE WHAT IT READS IS OF BULK AT MOST 1048576: true; the input reads as it did. -/
def layoutApartUptoRow : OpenClaim := { program := "ytpebepjfgnoaaaa", sum := "3dff0be2e5afd16b0497a67a15dd4eb8defdf7e6f4a2fca09cc3976b856ce3c6", func := "sidings/sidingslaw06.LayoutApart", spec := "layoutApart", unfollowed := true, recurses := true, apart := false, narrowed := true }
def LayoutApartUptoSaid : Prop := layoutApartUptoRow.holds Try.pinned (OpenSpec.upto layoutApartSpec)

/-- 'sidingslaw10.StackSteps', WHERE WHAT IT READS IS OF BULK AT MOST 1048576: true; the input reads as it did. -/
def stackStepsUptoRow : OpenClaim := { program := "ytpebepjfgnoaaaa", sum := "3dff0be2e5afd16b0497a67a15dd4eb8defdf7e6f4a2fca09cc3976b856ce3c6", func := "sidings/sidingslaw10.StackSteps", spec := "stackSteps", unfollowed := true, recurses := true, apart := false, narrowed := true }
def StackStepsUptoSaid : Prop := stackStepsUptoRow.holds Try.pinned (OpenSpec.upto stackStepsSpec)

/-- 'sidingslaw10.StackApart', WHERE WHAT IT READS IS OF BULK AT MOST 1048576: true; the input reads as it did. -/
def stackApartUptoRow : OpenClaim := { program := "ytpebepjfgnoaaaa", sum := "3dff0be2e5afd16b0497a67a15dd4eb8defdf7e6f4a2fca09cc3976b856ce3c6", func := "sidings/sidingslaw10.StackApart", spec := "stackApart", unfollowed := true, recurses := true, apart := false, narrowed := true }
def StackApartUptoSaid : Prop := stackApartUptoRow.holds Try.pinned (OpenSpec.upto stackApartSpec)

/-- 'sidingslaw11.AllocApart', WHERE WHAT IT READS IS OF BULK AT MOST 1048576: true; the input reads as it did. -/
def allocApartUptoRow : OpenClaim := { program := "ytpebepjfgnoaaaa", sum := "3dff0be2e5afd16b0497a67a15dd4eb8defdf7e6f4a2fca09cc3976b856ce3c6", func := "sidings/sidingslaw11.AllocApart", spec := "allocApart", unfollowed := true, recurses := true, apart := false, narrowed := true }
def AllocApartUptoSaid : Prop := allocApartUptoRow.holds Try.pinned (OpenSpec.upto allocApartSpec)

end Rows
end Go.Proofs.Ytpebepjfgnoaaaa
