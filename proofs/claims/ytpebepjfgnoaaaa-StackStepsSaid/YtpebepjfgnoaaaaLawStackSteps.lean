/- StackSteps: for every input the law returns true, and each argument reads as it did. No condition. -/
import Derived.Test.YtpebepjfgnoaaaaRows
import Derived.Test.YtpebepjfgnoaaaaFlat
import Derived.Test.YtpebepjfgnoaaaaSsT
import Derived.WalkKit
import Derived.ProofKit
import Derived.OpenShut
import Derived.ChangeOld
import Derived.Below
import Derived.SizedLaws
import Derived.Carry
import Derived.Deep.Slices
namespace Go.Proofs.Ytpebepjfgnoaaaa.stackSteps
open Go.ChangeShapes Go.WideShapes Go.ChangeAt Go.RowKit
set_option linter.unusedVariables false
set_option linter.unusedSimpArgs false
theorem own : ownKnob Try.prog.godebug = none := by kernel_rfl
theorem laidOut : laidOutB Try.prog = true := by kernel_rfl
theorem flat38 : flatK Try.prog 8 38 = some [.i, .i, .i, .s [true, false, true], .i, .i, .i] := by kernel_rfl
set_option maxRecDepth 100000 in
theorem lifted (os : Os) (started : os.Started) (H : Type) (enc : TypeId × Value → H) :
    ReturnsInHanded {} Try.checked os 5 .any (Rows.stackStepsSpec.pre6 enc Try.prog Try.f5 Rows.stackStepsRow.domain false) (Rows.stackStepsSpec.post enc Try.prog Try.f5 false true false false) := by
  refine returnsInHanded_of_change_sized (C := Try.checked) own started (by kernel_rfl) Try.func5
    (ChangeSpec.witness6 (enc := enc) (C := Try.checked) false ⟨#[], #[.agg #[.int .i64 0, .int .i64 0, .int .i64 0, .slice none 0 0, .int .i64 0, .int .i64 0, .int .i64 0]], []⟩ 8 (by kernel_rfl) (by kernel_rfl) (by kernel_rfl) (by kernel_rfl)) ?_
  intro W base args ds gs before hval0 hW hcnd hsz0 _
  have hsz : (DataW.weightsEach Try.prog (Try.f5.params.toList ++ Rows.stackStepsSpec.plain.varTypes Try.prog) (ds ++ gs)).all (· ≤ reachBytes) = true := hsz0
  have hval : ∀ (j : Nat) t v, Try.f5.params[j]? = some t → args[j]? = some v → Value.okWide Try.prog W .any base t v := hval0
  have hW' := hW
  obtain ⟨p, q, hA0, hV, rfl, hfz, hnd⟩ := hW
  have hA : DataW.TrodAll enc Try.prog W 0 (fun _ => true) true Try.f5.params.toList args.toList ds p := hA0
  rw [Try.params5] at hA hval hsz
  obtain ⟨v0, vs0, d0, ds0, p0, q0, hargs, rfl, rfl, h0, r0⟩ := trodAll_cons hA
  obtain ⟨rfl, rfl, rfl⟩ := trodAll_nil r0
  obtain rfl : args = #[v0] := by cases args; simp_all
  obtain ⟨rfl, rfl⟩ := trodVars_none hV
  have k0 := h0
  have lt0 : ∀ x ∈ p0, x.block < W.heap.size := by obtain ⟨m, hm⟩ := k0; exact DataW.trod_lt m _ _ _ hm
  obtain ⟨cs0, rfl, cl0⟩ := okWide_struct Try.underlying38 (hval 0 38 v0 rfl rfl)
  obtain ⟨fu0, hf0⟩ := h0
  have fl0 := flat_trod 8 fu0 _ _ _ _ flat38 hf0
  obtain ⟨a0_0, y0_0, e0_0, l0, u0, fl0_0⟩ := All2.i' fl0
  obtain ⟨a0_1, y0_1, e0_1, l1, u1, fl0_1⟩ := All2.i' fl0_0
  obtain ⟨a0_2, y0_2, e0_2, l2, u2, fl0_2⟩ := All2.i' fl0_1
  obtain ⟨a0_3, y0_3, e0_3, ⟨x0_3, s0_3⟩, fl0_3⟩ := All2.s' fl0_2
  obtain ⟨a0_4, y0_4, e0_4, l3, u3, fl0_4⟩ := All2.i' fl0_3
  obtain ⟨a0_5, y0_5, e0_5, l4, u4, fl0_5⟩ := All2.i' fl0_4
  obtain ⟨a0_6, y0_6, e0_6, l5, u5, fl0_6⟩ := All2.i' fl0_5
  have en0 := All2.nil' fl0_6
  obtain rfl : cs0 = #[.int .i64 a0_0, .int .i64 a0_1, .int .i64 a0_2, a0_3, .int .i64 a0_4, .int .i64 a0_5, .int .i64 a0_6] := by
    apply Array.toList_inj.1
    have e0 : cs0.toList = _ := e0_0
    rw [e0, e0_1, e0_2, e0_3, e0_4, e0_5, e0_6, en0]
  clear hA0 hval0 hsz0 hsz
  refine (StackSteps_walk a0_0 a0_1 a0_2 a0_3 x0_3 a0_4 a0_5 a0_6 W l5 u5 s0_3).mono fun e W' ⟨he, bel⟩ => ?_
  subst he
  exact ⟨_, rfl, _, _, _, [], _, [], hW', trodAll_mk1 (shut_bool Try.underlying4 _), (trodAll_cons_mk (Below.trod laidOut (by kernel_rfl) (of_decide_eq_true (by kernel_rfl)) k0 bel lt0) trodAll_mk0), rfl, bel.frame _, fun h => by cases h⟩
theorem over : Rows.stackStepsRow.holds Try.pinned (OpenSpec.ofChange Rows.stackStepsSpec) :=
  OpenClaim.holds_of_wide 5 Try.f5 rfl rfl rfl rfl rfl rfl rfl ⟨rfl, rfl, rfl, rfl, rfl⟩ rfl rfl rfl rfl rfl (by kernel_rfl) Try.func5 (by kernel_rfl)
    (of_decide_eq_true (by kernel_rfl)) (by unfold Func.isWrapper; first | (rw [if_pos (by decide +kernel)]; kernel_rfl) | (rw [if_neg (by decide +kernel)]; exact ⟨rfl, rfl⟩))
    (fun os started H enc _ => lifted os started H enc)
theorem proved : Rows.StackStepsSaid := over
end Go.Proofs.Ytpebepjfgnoaaaa.stackSteps
namespace Go.Proofs.Ytpebepjfgnoaaaa
theorem stackSteps_holds : Rows.StackStepsSaid := stackSteps.proved
end Go.Proofs.Ytpebepjfgnoaaaa
