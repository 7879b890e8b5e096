/-
  No cell of these rows narrows 'for every input' (looked for: loops, veiled, ifaces, maps, wideKeys, modest, calm, conditions, laid).
  DERIVED. THE GIVEN ROWS OF THIS SEAT. 9 by the template 'for every input the law returns true; each argument reads behind the call as it read before'; 0 by the template 'total and deterministic' (their statements: YtpfahnnmbaipdaaTotals.lean).
  GIVEN WITH THE SEED: the statements are not yours to turn. If you find one false, say at which input.
  Laid BY PROGRAM, IN A SANDBOX (cutbox-rows.mjs): the forced cells as the released guide's own fill.sh prints them over the translation a8334755ff7f6800… (all of the seat's roots in one cut). By AI agents, Wed Nov 11 2026. No macro, syntax, notation, axiom, sorry.
-/
import Derived.Test.YtpfahnnmbaipdaaChecked
import GoSem.Claim
import GoSem.ClaimJoined
import GoSem.ClaimMapViews
import Derived.JoinedTies
import Derived.KernelRfl
namespace Go.Proofs.Ytpfahnnmbaipdaa
/- THE CELL 'sum', in the pinned program and in every row, IS THE sha256 OF THE DUMP (.gsa) THAT YtpfahnnmbaipdaaProg.lean LOADS. Nothing in Lean hashes anything: it is a label: what it is worth is what the hold of that sum in a sandbox is worth. -/
noncomputable def Try.pinned : Pinned := { name := "ytpfahnnmbaipdaa", sum := "a8334755ff7f6800f101f5721643eecc3ac491b939c15979ed7107a3b5fcda55", checked := Try.checked }
namespace Rows
def none {H : Type} : Left H := { results := [], args := [] }

/-- 'sidingslaw16.EpochLeft': WHATEVER THE INPUT: true; the input reads as it did. -/
def epochLeftSpec : ChangeSpec := { name := "epochLeft", fn := fun _ => fun
  | [d1, d2] => { results := [.lit (.bool true)], args := [d1, d2] }
  | _ => none }
def epochLeftRow : OpenClaim := { program := "ytpfahnnmbaipdaa", sum := "a8334755ff7f6800f101f5721643eecc3ac491b939c15979ed7107a3b5fcda55", func := "sidings/sidingslaw16.EpochLeft", spec := "epochLeft", unfollowed := true, recurses := true, apart := false }
def EpochLeftSaid : Prop := epochLeftRow.holds Try.pinned (OpenSpec.ofChange epochLeftSpec)

/-- ITS FALSE NEIGHBOUR: 'it returns false'. Refute it at one input. -/
def epochLeftWrong : ChangeSpec := { name := "epochLeft", fn := fun _ => fun
  | [d1, d2] => { results := [.lit (.bool false)], args := [d1, d2] }
  | _ => none }
def EpochLeftWrongFalsely : Prop := epochLeftRow.holds Try.pinned (OpenSpec.ofChange epochLeftWrong)

/-- 'sidingslaw16.EpochAlone': WHATEVER THE INPUT: true; the input reads as it did. -/
def epochAloneSpec : ChangeSpec := { name := "epochAlone", fn := fun _ => fun
  | [d1, d2, d3] => { results := [.lit (.bool true)], args := [d1, d2, d3] }
  | _ => none }
def epochAloneRow : OpenClaim := { program := "ytpfahnnmbaipdaa", sum := "a8334755ff7f6800f101f5721643eecc3ac491b939c15979ed7107a3b5fcda55", func := "sidings/sidingslaw16.EpochAlone", spec := "epochAlone", unfollowed := true, recurses := true, apart := false }
def EpochAloneSaid : Prop := epochAloneRow.holds Try.pinned (OpenSpec.ofChange epochAloneSpec)

/-- ITS FALSE NEIGHBOUR: 'it returns false'. Refute it at one input. -/
def epochAloneWrong : ChangeSpec := { name := "epochAlone", fn := fun _ => fun
  | [d1, d2, d3] => { results := [.lit (.bool false)], args := [d1, d2, d3] }
  | _ => none }
def EpochAloneWrongFalsely : Prop := epochAloneRow.holds Try.pinned (OpenSpec.ofChange epochAloneWrong)

/-- 'sidingslaw16.EpochNil': WHATEVER THE INPUT: true; the input reads as it did. -/
def epochNilSpec : ChangeSpec := { name := "epochNil", fn := fun _ => fun
  | [d1, d2] => { results := [.lit (.bool true)], args := [d1, d2] }
  | _ => none }
def epochNilRow : OpenClaim := { program := "ytpfahnnmbaipdaa", sum := "a8334755ff7f6800f101f5721643eecc3ac491b939c15979ed7107a3b5fcda55", func := "sidings/sidingslaw16.EpochNil", spec := "epochNil", unfollowed := true, recurses := true, apart := false }
def EpochNilSaid : Prop := epochNilRow.holds Try.pinned (OpenSpec.ofChange epochNilSpec)

/-- ITS FALSE NEIGHBOUR: 'it returns false'. Refute it at one input. -/
def epochNilWrong : ChangeSpec := { name := "epochNil", fn := fun _ => fun
  | [d1, d2] => { results := [.lit (.bool false)], args := [d1, d2] }
  | _ => none }
def EpochNilWrongFalsely : Prop := epochNilRow.holds Try.pinned (OpenSpec.ofChange epochNilWrong)

/-- 'sidingslaw16.EpochInside': WHATEVER THE INPUT: true; the input reads as it did. -/
def epochInsideSpec : ChangeSpec := { name := "epochInside", fn := fun _ => fun
  | [d1, d2] => { results := [.lit (.bool true)], args := [d1, d2] }
  | _ => none }
def epochInsideRow : OpenClaim := { program := "ytpfahnnmbaipdaa", sum := "a8334755ff7f6800f101f5721643eecc3ac491b939c15979ed7107a3b5fcda55", func := "sidings/sidingslaw16.EpochInside", spec := "epochInside", unfollowed := true, recurses := true, apart := false }
def EpochInsideSaid : Prop := epochInsideRow.holds Try.pinned (OpenSpec.ofChange epochInsideSpec)

/-- ITS FALSE NEIGHBOUR: 'it returns false'. Refute it at one input. -/
def epochInsideWrong : ChangeSpec := { name := "epochInside", fn := fun _ => fun
  | [d1, d2] => { results := [.lit (.bool false)], args := [d1, d2] }
  | _ => none }
def EpochInsideWrongFalsely : Prop := epochInsideRow.holds Try.pinned (OpenSpec.ofChange epochInsideWrong)

/-- 'sidingslaw10.StackSteps': WHATEVER THE INPUT: true; the input reads as it did. -/
def stackStepsSpec : ChangeSpec := { name := "stackSteps", fn := fun _ => fun
  | [d] => { results := [.lit (.bool true)], args := [d] }
  | _ => none }
def stackStepsRow : OpenClaim := { program := "ytpfahnnmbaipdaa", sum := "a8334755ff7f6800f101f5721643eecc3ac491b939c15979ed7107a3b5fcda55", func := "sidings/sidingslaw10.StackSteps", spec := "stackSteps", unfollowed := true, recurses := true, apart := false }
def StackStepsSaid : Prop := stackStepsRow.holds Try.pinned (OpenSpec.ofChange stackStepsSpec)

/-- ITS FALSE NEIGHBOUR: 'it returns false'. Refute it at one input. -/
def stackStepsWrong : ChangeSpec := { name := "stackSteps", fn := fun _ => fun
  | [d] => { results := [.lit (.bool false)], args := [d] }
  | _ => none }
def StackStepsWrongFalsely : Prop := stackStepsRow.holds Try.pinned (OpenSpec.ofChange stackStepsWrong)

/-- 'sidingslaw10.StackApart': WHATEVER THE INPUT: true; the input reads as it did. -/
def stackApartSpec : ChangeSpec := { name := "stackApart", fn := fun _ => fun
  | [d1, d2] => { results := [.lit (.bool true)], args := [d1, d2] }
  | _ => none }
def stackApartRow : OpenClaim := { program := "ytpfahnnmbaipdaa", sum := "a8334755ff7f6800f101f5721643eecc3ac491b939c15979ed7107a3b5fcda55", func := "sidings/sidingslaw10.StackApart", spec := "stackApart", unfollowed := true, recurses := true, apart := false }
def StackApartSaid : Prop := stackApartRow.holds Try.pinned (OpenSpec.ofChange stackApartSpec)

/-- ITS FALSE NEIGHBOUR: 'it returns false'. Refute it at one input. -/
def stackApartWrong : ChangeSpec := { name := "stackApart", fn := fun _ => fun
  | [d1, d2] => { results := [.lit (.bool false)], args := [d1, d2] }
  | _ => none }
def StackApartWrongFalsely : Prop := stackApartRow.holds Try.pinned (OpenSpec.ofChange stackApartWrong)

/-- 'sidingslaw10.StackAlone': WHATEVER THE INPUT: true; the input reads as it did. -/
def stackAloneSpec : ChangeSpec := { name := "stackAlone", fn := fun _ => fun
  | [d] => { results := [.lit (.bool true)], args := [d] }
  | _ => none }
def stackAloneRow : OpenClaim := { program := "ytpfahnnmbaipdaa", sum := "a8334755ff7f6800f101f5721643eecc3ac491b939c15979ed7107a3b5fcda55", func := "sidings/sidingslaw10.StackAlone", spec := "stackAlone", unfollowed := true, recurses := true, apart := false }
def StackAloneSaid : Prop := stackAloneRow.holds Try.pinned (OpenSpec.ofChange stackAloneSpec)

/-- ITS FALSE NEIGHBOUR: 'it returns false'. Refute it at one input. -/
def stackAloneWrong : ChangeSpec := { name := "stackAlone", fn := fun _ => fun
  | [d] => { results := [.lit (.bool false)], args := [d] }
  | _ => none }
def StackAloneWrongFalsely : Prop := stackAloneRow.holds Try.pinned (OpenSpec.ofChange stackAloneWrong)

/-- 'sidingslaw10.StackNil': WHATEVER THE INPUT: true; the input reads as it did. -/
def stackNilSpec : ChangeSpec := { name := "stackNil", fn := fun _ => fun
  | [d1, d2] => { results := [.lit (.bool true)], args := [d1, d2] }
  | _ => none }
def stackNilRow : OpenClaim := { program := "ytpfahnnmbaipdaa", sum := "a8334755ff7f6800f101f5721643eecc3ac491b939c15979ed7107a3b5fcda55", func := "sidings/sidingslaw10.StackNil", spec := "stackNil", unfollowed := true, recurses := true, apart := false }
def StackNilSaid : Prop := stackNilRow.holds Try.pinned (OpenSpec.ofChange stackNilSpec)

/-- ITS FALSE NEIGHBOUR: 'it returns false'. Refute it at one input. -/
def stackNilWrong : ChangeSpec := { name := "stackNil", fn := fun _ => fun
  | [d1, d2] => { results := [.lit (.bool false)], args := [d1, d2] }
  | _ => none }
def StackNilWrongFalsely : Prop := stackNilRow.holds Try.pinned (OpenSpec.ofChange stackNilWrong)

/-- 'sidingslaw10.StackLifo': WHATEVER THE INPUT: true; the input reads as it did. -/
def stackLifoSpec : ChangeSpec := { name := "stackLifo", fn := fun _ => fun
  | [d1, d2] => { results := [.lit (.bool true)], args := [d1, d2] }
  | _ => none }
def stackLifoRow : OpenClaim := { program := "ytpfahnnmbaipdaa", sum := "a8334755ff7f6800f101f5721643eecc3ac491b939c15979ed7107a3b5fcda55", func := "sidings/sidingslaw10.StackLifo", spec := "stackLifo", unfollowed := true, recurses := true, apart := false }
def StackLifoSaid : Prop := stackLifoRow.holds Try.pinned (OpenSpec.ofChange stackLifoSpec)

/-- ITS FALSE NEIGHBOUR: 'it returns false'. Refute it at one input. -/
def stackLifoWrong : ChangeSpec := { name := "stackLifo", fn := fun _ => fun
  | [d1, d2] => { results := [.lit (.bool false)], args := [d1, d2] }
  | _ => none }
def StackLifoWrongFalsely : Prop := stackLifoRow.holds Try.pinned (OpenSpec.ofChange stackLifoWrong)

/- THE SECOND FORM. 'bulk': how many values and letters a reading holds, each counted each time it is reached (what is shared counts as often as it is met; a slice's spare places count too). A statement '..UptoSaid' is the law's where the arguments, and the package variables that the reading takes, are together of bulk at most 1048576: NARROWER than '..Said'. Prove '..Said' where nothing that the law and all that it calls make is longer than what came in: it says more and counts as full. Else prove '..UptoSaid'. A law counts once. -/
mutual
def uptoBulk {H : Type} : DataW H → Nat
  | .lit (.string bytes) => bytes.length + 1
  | .lit _ => 1
  | .nil => 1
  | .ptr d => uptoBulk d + 1
  | .slice elems spare => uptoBulkAll elems + uptoBulkAll spare + 1
  | .agg parts => uptoBulkAll parts + 1
  | .iface _ d => uptoBulk d + 1
  | .map entries => uptoBulkEntries entries + 1
  | .held _ => 1
def uptoBulkAll {H : Type} : List (DataW H) → Nat
  | [] => 0
  | d :: r => uptoBulk d + uptoBulkAll r
def uptoBulkEntries {H : Type} : List (Lit × DataW H) → Nat
  | [] => 0
  | x :: r => uptoBulkEntry x + uptoBulkEntries r
def uptoBulkEntry {H : Type} : Lit × DataW H → Nat
  | (.string bytes, d) => bytes.length + uptoBulk d + 1
  | (_, d) => uptoBulk d + 1
 end
def uptoSmall : (H : Type) → List (DataW H) → Bool := fun _ ds => decide (uptoBulkAll ds ≤ 1048576)
def OpenSpec.upto (s : _root_.Go.ChangeSpec) : _root_.Go.OpenSpec := { _root_.Go.OpenSpec.ofChange s with cond := some uptoSmall }

/-- 'sidingslaw16.EpochLeft', WHERE WHAT IT READS IS OF BULK AT MOST 1048576: true; the input reads as it did. -/
def epochLeftUptoRow : OpenClaim := { program := "ytpfahnnmbaipdaa", sum := "a8334755ff7f6800f101f5721643eecc3ac491b939c15979ed7107a3b5fcda55", func := "sidings/sidingslaw16.EpochLeft", spec := "epochLeft", unfollowed := true, recurses := true, apart := false, narrowed := true }
def EpochLeftUptoSaid : Prop := epochLeftUptoRow.holds Try.pinned (OpenSpec.upto epochLeftSpec)

/-- 'sidingslaw16.EpochAlone', WHERE WHAT IT READS IS OF BULK AT MOST 1048576: true; the input reads as it did. -/
def epochAloneUptoRow : OpenClaim := { program := "ytpfahnnmbaipdaa", sum := "a8334755ff7f6800f101f5721643eecc3ac491b939c15979ed7107a3b5fcda55", func := "sidings/sidingslaw16.EpochAlone", spec := "epochAlone", unfollowed := true, recurses := true, apart := false, narrowed := true }
def EpochAloneUptoSaid : Prop := epochAloneUptoRow.holds Try.pinned (OpenSpec.upto epochAloneSpec)

/-- 'sidingslaw16.EpochNil', WHERE WHAT IT READS IS OF BULK AT MOST 1048576: true; the input reads as it did. -/
def epochNilUptoRow : OpenClaim := { program := "ytpfahnnmbaipdaa", sum := "a8334755ff7f6800f101f5721643eecc3ac491b939c15979ed7107a3b5fcda55", func := "sidings/sidingslaw16.EpochNil", spec := "epochNil", unfollowed := true, recurses := true, apart := false, narrowed := true }
def EpochNilUptoSaid : Prop := epochNilUptoRow.holds Try.pinned (OpenSpec.upto epochNilSpec)

/-- 'sidingslaw16.EpochInside', WHERE WHAT IT READS IS OF BULK AT MOST 1048576: true; the input reads as it did. -/
def epochInsideUptoRow : OpenClaim := { program := "ytpfahnnmbaipdaa", sum := "a8334755ff7f6800f101f5721643eecc3ac491b939c15979ed7107a3b5fcda55", func := "sidings/sidingslaw16.EpochInside", spec := "epochInside", unfollowed := true, recurses := true, apart := false, narrowed := true }
def EpochInsideUptoSaid : Prop := epochInsideUptoRow.holds Try.pinned (OpenSpec.upto epochInsideSpec)

/-- 'sidingslaw10.StackSteps', WHERE WHAT IT READS IS OF BULK AT MOST 1048576: true; the input reads as it did. -/
def stackStepsUptoRow : OpenClaim := { program := "ytpfahnnmbaipdaa", sum := "a8334755ff7f6800f101f5721643eecc3ac491b939c15979ed7107a3b5fcda55", func := "sidings/sidingslaw10.StackSteps", spec := "stackSteps", unfollowed := true, recurses := true, apart := false, narrowed := true }
def StackStepsUptoSaid : Prop := stackStepsUptoRow.holds Try.pinned (OpenSpec.upto stackStepsSpec)

/-- 'sidingslaw10.StackApart', WHERE WHAT IT READS IS OF BULK AT MOST 1048576: true; the input reads as it did. -/
def stackApartUptoRow : OpenClaim := { program := "ytpfahnnmbaipdaa", sum := "a8334755ff7f6800f101f5721643eecc3ac491b939c15979ed7107a3b5fcda55", func := "sidings/sidingslaw10.StackApart", spec := "stackApart", unfollowed := true, recurses := true, apart := false, narrowed := true }
def StackApartUptoSaid : Prop := stackApartUptoRow.holds Try.pinned (OpenSpec.upto stackApartSpec)

/-- 'sidingslaw10.StackAlone', WHERE WHAT IT READS IS OF BULK AT MOST 1048576: true; the input reads as it did. -/
def stackAloneUptoRow : OpenClaim := { program := "ytpfahnnmbaipdaa", sum := "a8334755ff7f6800f101f5721643eecc3ac491b939c15979ed7107a3b5fcda55", func := "sidings/sidingslaw10.StackAlone", spec := "stackAlone", unfollowed := true, recurses := true, apart := false, narrowed := true }
def StackAloneUptoSaid : Prop := stackAloneUptoRow.holds Try.pinned (OpenSpec.upto stackAloneSpec)

/-- 'sidingslaw10.StackNil', WHERE WHAT IT READS IS OF BULK AT MOST 1048576: true; the input reads as it did. -/
def stackNilUptoRow : OpenClaim := { program := "ytpfahnnmbaipdaa", sum := "a8334755ff7f6800f101f5721643eecc3ac491b939c15979ed7107a3b5fcda55", func := "sidings/sidingslaw10.StackNil", spec := "stackNil", unfollowed := true, recurses := true, apart := false, narrowed := true }
def StackNilUptoSaid : Prop := stackNilUptoRow.holds Try.pinned (OpenSpec.upto stackNilSpec)

/-- 'sidingslaw10.StackLifo', WHERE WHAT IT READS IS OF BULK AT MOST 1048576: true; the input reads as it did. -/
def stackLifoUptoRow : OpenClaim := { program := "ytpfahnnmbaipdaa", sum := "a8334755ff7f6800f101f5721643eecc3ac491b939c15979ed7107a3b5fcda55", func := "sidings/sidingslaw10.StackLifo", spec := "stackLifo", unfollowed := true, recurses := true, apart := false, narrowed := true }
def StackLifoUptoSaid : Prop := stackLifoUptoRow.holds Try.pinned (OpenSpec.upto stackLifoSpec)

end Rows
end Go.Proofs.Ytpfahnnmbaipdaa
