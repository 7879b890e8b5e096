/-
  No cell of these rows narrows 'for every input' (looked for: loops, veiled, ifaces, maps, wideKeys, modest, calm, conditions, laid).
  DERIVED. THE GIVEN ROWS OF THIS SEAT. 5 by the template 'for every input the law returns true; each argument reads behind the call as it read before'; 0 by the template 'total and deterministic' (their statements: YtkkeoadnepedjaaTotals.lean).
  GIVEN WITH THE SEED: the statements are not yours to turn. If you find one false, say at which input.
  Laid BY PROGRAM, IN A SANDBOX (cutbox-rows.mjs): the forced cells as the released guide's own fill.sh prints them over the translation a485563d26042dab… (all of the seat's roots in one cut). By AI agents, Wed Nov 11 2026. No macro, syntax, notation, axiom, sorry.
-/
import Derived.Test.YtkkeoadnepedjaaChecked
import GoSem.Claim
import GoSem.ClaimJoined
import GoSem.ClaimMapViews
import Derived.JoinedTies
import Derived.KernelRfl
namespace Go.Proofs.Ytkkeoadnepedjaa
/- THE CELL 'sum', in the pinned program and in every row, IS THE sha256 OF THE DUMP (.gsa) THAT YtkkeoadnepedjaaProg.lean LOADS. Nothing in Lean hashes anything: it is a label: what it is worth is what the hold of that sum in a sandbox is worth. -/
noncomputable def Try.pinned : Pinned := { name := "ytkkeoadnepedjaa", sum := "a485563d26042dabb30e77a330e500a95c3f94e4bccd1b9ed0f79a805d077292", checked := Try.checked }
namespace Rows
def none {H : Type} : Left H := { results := [], args := [] }

/-- 'sidingslaw15.FreeAlone': WHATEVER THE INPUT: true; the input reads as it did. -/
def freeAloneSpec : ChangeSpec := { name := "freeAlone", fn := fun _ => fun
  | [d1, d2] => { results := [.lit (.bool true)], args := [d1, d2] }
  | _ => none }
def freeAloneRow : OpenClaim := { program := "ytkkeoadnepedjaa", sum := "a485563d26042dabb30e77a330e500a95c3f94e4bccd1b9ed0f79a805d077292", func := "sidings/sidingslaw15.FreeAlone", spec := "freeAlone", unfollowed := true, recurses := true, apart := false }
def FreeAloneSaid : Prop := freeAloneRow.holds Try.pinned (OpenSpec.ofChange freeAloneSpec)

/-- ITS FALSE NEIGHBOUR: 'it returns false'. Refute it at one input. -/
def freeAloneWrong : ChangeSpec := { name := "freeAlone", fn := fun _ => fun
  | [d1, d2] => { results := [.lit (.bool false)], args := [d1, d2] }
  | _ => none }
def FreeAloneWrongFalsely : Prop := freeAloneRow.holds Try.pinned (OpenSpec.ofChange freeAloneWrong)

/-- 'sidingslaw15.FreeOnce': WHATEVER THE INPUT: true; the input reads as it did. -/
def freeOnceSpec : ChangeSpec := { name := "freeOnce", fn := fun _ => fun
  | [d] => { results := [.lit (.bool true)], args := [d] }
  | _ => none }
def freeOnceRow : OpenClaim := { program := "ytkkeoadnepedjaa", sum := "a485563d26042dabb30e77a330e500a95c3f94e4bccd1b9ed0f79a805d077292", func := "sidings/sidingslaw15.FreeOnce", spec := "freeOnce", unfollowed := true, recurses := true, apart := false }
def FreeOnceSaid : Prop := freeOnceRow.holds Try.pinned (OpenSpec.ofChange freeOnceSpec)

/-- ITS FALSE NEIGHBOUR: 'it returns false'. Refute it at one input. -/
def freeOnceWrong : ChangeSpec := { name := "freeOnce", fn := fun _ => fun
  | [d] => { results := [.lit (.bool false)], args := [d] }
  | _ => none }
def FreeOnceWrongFalsely : Prop := freeOnceRow.holds Try.pinned (OpenSpec.ofChange freeOnceWrong)

/-- 'sidingslaw15.FreeHandles': WHATEVER THE INPUT: true; the input reads as it did. -/
def freeHandlesSpec : ChangeSpec := { name := "freeHandles", fn := fun _ => fun
  | [d1, d2] => { results := [.lit (.bool true)], args := [d1, d2] }
  | _ => none }
def freeHandlesRow : OpenClaim := { program := "ytkkeoadnepedjaa", sum := "a485563d26042dabb30e77a330e500a95c3f94e4bccd1b9ed0f79a805d077292", func := "sidings/sidingslaw15.FreeHandles", spec := "freeHandles", unfollowed := true, recurses := true, apart := false }
def FreeHandlesSaid : Prop := freeHandlesRow.holds Try.pinned (OpenSpec.ofChange freeHandlesSpec)

/-- ITS FALSE NEIGHBOUR: 'it returns false'. Refute it at one input. -/
def freeHandlesWrong : ChangeSpec := { name := "freeHandles", fn := fun _ => fun
  | [d1, d2] => { results := [.lit (.bool false)], args := [d1, d2] }
  | _ => none }
def FreeHandlesWrongFalsely : Prop := freeHandlesRow.holds Try.pinned (OpenSpec.ofChange freeHandlesWrong)

/-- 'sidingslaw15.FreeNil': WHATEVER THE INPUT: true; the input reads as it did. -/
def freeNilSpec : ChangeSpec := { name := "freeNil", fn := fun _ => fun
  | [d1, d2] => { results := [.lit (.bool true)], args := [d1, d2] }
  | _ => none }
def freeNilRow : OpenClaim := { program := "ytkkeoadnepedjaa", sum := "a485563d26042dabb30e77a330e500a95c3f94e4bccd1b9ed0f79a805d077292", func := "sidings/sidingslaw15.FreeNil", spec := "freeNil", unfollowed := true, recurses := true, apart := false }
def FreeNilSaid : Prop := freeNilRow.holds Try.pinned (OpenSpec.ofChange freeNilSpec)

/-- ITS FALSE NEIGHBOUR: 'it returns false'. Refute it at one input. -/
def freeNilWrong : ChangeSpec := { name := "freeNil", fn := fun _ => fun
  | [d1, d2] => { results := [.lit (.bool false)], args := [d1, d2] }
  | _ => none }
def FreeNilWrongFalsely : Prop := freeNilRow.holds Try.pinned (OpenSpec.ofChange freeNilWrong)

/-- 'sidingslaw15.FreeSame': WHATEVER THE INPUT: true; the input reads as it did. -/
def freeSameSpec : ChangeSpec := { name := "freeSame", fn := fun _ => fun
  | [d1, d2] => { results := [.lit (.bool true)], args := [d1, d2] }
  | _ => none }
def freeSameRow : OpenClaim := { program := "ytkkeoadnepedjaa", sum := "a485563d26042dabb30e77a330e500a95c3f94e4bccd1b9ed0f79a805d077292", func := "sidings/sidingslaw15.FreeSame", spec := "freeSame", unfollowed := true, recurses := true, apart := false }
def FreeSameSaid : Prop := freeSameRow.holds Try.pinned (OpenSpec.ofChange freeSameSpec)

/-- ITS FALSE NEIGHBOUR: 'it returns false'. Refute it at one input. -/
def freeSameWrong : ChangeSpec := { name := "freeSame", fn := fun _ => fun
  | [d1, d2] => { results := [.lit (.bool false)], args := [d1, d2] }
  | _ => none }
def FreeSameWrongFalsely : Prop := freeSameRow.holds Try.pinned (OpenSpec.ofChange freeSameWrong)

/- THE SECOND FORM. 'bulk': how many values and letters a reading holds, each counted each time it is reached (what is shared counts as often as it is met; a slice's spare places count too). A statement '..UptoSaid' is the law's where the arguments, and the package variables that the reading takes, are together of bulk at most 1048576: NARROWER than '..Said'. Prove '..Said' where nothing that the law and all that it calls make is longer than what came in: it says more and counts as full. Else prove '..UptoSaid'. A law counts once. -/
mutual
def uptoBulk {H : Type} : DataW H → Nat
  | .lit (.string bytes) => bytes.length + 1
  | .lit _ => 1
  | .nil => 1
  | .ptr d => uptoBulk d + 1
  | .slice elems spare => uptoBulkAll elems + uptoBulkAll spare + 1
  | .agg parts => uptoBulkAll parts + 1
  | .iface _ d => uptoBulk d + 1
  | .map entries => uptoBulkEntries entries + 1
  | .held _ => 1
def uptoBulkAll {H : Type} : List (DataW H) → Nat
  | [] => 0
  | d :: r => uptoBulk d + uptoBulkAll r
def uptoBulkEntries {H : Type} : List (Lit × DataW H) → Nat
  | [] => 0
  | x :: r => uptoBulkEntry x + uptoBulkEntries r
def uptoBulkEntry {H : Type} : Lit × DataW H → Nat
  | (.string bytes, d) => bytes.length + uptoBulk d + 1
  | (_, d) => uptoBulk d + 1
 end
def uptoSmall : (H : Type) → List (DataW H) → Bool := fun _ ds => decide (uptoBulkAll ds ≤ 1048576)
def OpenSpec.upto (s : _root_.Go.ChangeSpec) : _root_.Go.OpenSpec := { _root_.Go.OpenSpec.ofChange s with cond := some uptoSmall }

/-- 'sidingslaw15.FreeAlone', WHERE WHAT IT READS IS OF BULK AT MOST 1048576: true; the input reads as it did. -/
def freeAloneUptoRow : OpenClaim := { program := "ytkkeoadnepedjaa", sum := "a485563d26042dabb30e77a330e500a95c3f94e4bccd1b9ed0f79a805d077292", func := "sidings/sidingslaw15.FreeAlone", spec := "freeAlone", unfollowed := true, recurses := true, apart := false, narrowed := true }
def FreeAloneUptoSaid : Prop := freeAloneUptoRow.holds Try.pinned (OpenSpec.upto freeAloneSpec)

/-- 'sidingslaw15.FreeOnce', WHERE WHAT IT READS IS OF BULK AT MOST 1048576: true; the input reads as it did. -/
def freeOnceUptoRow : OpenClaim := { program := "ytkkeoadnepedjaa", sum := "a485563d26042dabb30e77a330e500a95c3f94e4bccd1b9ed0f79a805d077292", func := "sidings/sidingslaw15.FreeOnce", spec := "freeOnce", unfollowed := true, recurses := true, apart := false, narrowed := true }
def FreeOnceUptoSaid : Prop := freeOnceUptoRow.holds Try.pinned (OpenSpec.upto freeOnceSpec)

/-- 'sidingslaw15.FreeHandles', WHERE WHAT IT READS IS OF BULK AT MOST 1048576: true; the input reads as it did. -/
def freeHandlesUptoRow : OpenClaim := { program := "ytkkeoadnepedjaa", sum := "a485563d26042dabb30e77a330e500a95c3f94e4bccd1b9ed0f79a805d077292", func := "sidings/sidingslaw15.FreeHandles", spec := "freeHandles", unfollowed := true, recurses := true, apart := false, narrowed := true }
def FreeHandlesUptoSaid : Prop := freeHandlesUptoRow.holds Try.pinned (OpenSpec.upto freeHandlesSpec)

/-- 'sidingslaw15.FreeNil', WHERE WHAT IT READS IS OF BULK AT MOST 1048576: true; the input reads as it did. -/
def freeNilUptoRow : OpenClaim := { program := "ytkkeoadnepedjaa", sum := "a485563d26042dabb30e77a330e500a95c3f94e4bccd1b9ed0f79a805d077292", func := "sidings/sidingslaw15.FreeNil", spec := "freeNil", unfollowed := true, recurses := true, apart := false, narrowed := true }
def FreeNilUptoSaid : Prop := freeNilUptoRow.holds Try.pinned (OpenSpec.upto freeNilSpec)

/-- 'sidingslaw15.FreeSame', WHERE WHAT IT READS IS OF BULK AT MOST 1048576: true; the input reads as it did. -/
def freeSameUptoRow : OpenClaim := { program := "ytkkeoadnepedjaa", sum := "a485563d26042dabb30e77a330e500a95c3f94e4bccd1b9ed0f79a805d077292", func := "sidings/sidingslaw15.FreeSame", spec := "freeSame", unfollowed := true, recurses := true, apart := false, narrowed := true }
def FreeSameUptoSaid : Prop := freeSameUptoRow.holds Try.pinned (OpenSpec.upto freeSameSpec)

end Rows
end Go.Proofs.Ytkkeoadnepedjaa
