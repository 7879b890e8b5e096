/- FreeSteps: for every input the law returns true, and each argument reads as it did. No condition. -/
import Derived.Test.YtpebepjfgnoaaaaGreatRows
import Derived.Test.YtpebepjfgnoaaaaGreatFlat
import Derived.Test.YtpebepjfgnoaaaaGreatFsT
import Derived.WalkKit
import Derived.ProofKit
import Derived.OpenShut
import Derived.ChangeOld
import Derived.Below
import Derived.SizedLaws
import Derived.Carry
import Derived.Deep.Slices
namespace Go.Proofs.YtpebepjfgnoaaaaGreat.freeSteps
open Go.ChangeShapes Go.WideShapes Go.ChangeAt Go.RowKit
set_option linter.unusedVariables false
set_option linter.unusedSimpArgs false
theorem own : ownKnob Tryz.prog.godebug = none := by kernel_rfl
theorem laidOut : laidOutB Tryz.prog = true := by kernel_rfl
theorem flat26 : flatK Tryz.prog 8 26 = some [.i, .i, .i, .i, .i, .s [false, true, true, true]] := by kernel_rfl
set_option maxRecDepth 100000 in
theorem lifted (os : Os) (started : os.Started) (H : Type) (enc : TypeId × Value → H) :
    ReturnsInHanded {} Tryz.checked os 3 .any (Rows.freeStepsSpec.pre6 enc Tryz.prog Tryz.f3 Rows.freeStepsRow.domain false) (Rows.freeStepsSpec.post enc Tryz.prog Tryz.f3 false true false false) := by
  refine returnsInHanded_of_change_sized (C := Tryz.checked) own started (by kernel_rfl) Tryz.func3
    (ChangeSpec.witness6 (enc := enc) (C := Tryz.checked) false ⟨#[], #[.agg #[.int .i64 0, .int .i64 0, .int .i64 0, .int .i64 0, .int .i64 0, .slice none 0 0]], []⟩ 8 (by kernel_rfl) (by kernel_rfl) (by kernel_rfl) (by kernel_rfl)) ?_
  intro W base args ds gs before hval0 hW hcnd hsz0 _
  have hsz : (DataW.weightsEach Tryz.prog (Tryz.f3.params.toList ++ Rows.freeStepsSpec.plain.varTypes Tryz.prog) (ds ++ gs)).all (· ≤ reachBytes) = true := hsz0
  have hval : ∀ (j : Nat) t v, Tryz.f3.params[j]? = some t → args[j]? = some v → Value.okWide Tryz.prog W .any base t v := hval0
  have hW' := hW
  obtain ⟨p, q, hA0, hV, rfl, hfz, hnd⟩ := hW
  have hA : DataW.TrodAll enc Tryz.prog W 0 (fun _ => true) true Tryz.f3.params.toList args.toList ds p := hA0
  rw [Tryz.params3] at hA hval hsz
  obtain ⟨v0, vs0, d0, ds0, p0, q0, hargs, rfl, rfl, h0, r0⟩ := trodAll_cons hA
  obtain ⟨rfl, rfl, rfl⟩ := trodAll_nil r0
  obtain rfl : args = #[v0] := by cases args; simp_all
  obtain ⟨rfl, rfl⟩ := trodVars_none hV
  have k0 := h0
  have lt0 : ∀ x ∈ p0, x.block < W.heap.size := by obtain ⟨m, hm⟩ := k0; exact DataW.trod_lt m _ _ _ hm
  obtain ⟨cs0, rfl, cl0⟩ := okWide_struct Tryz.underlying26 (hval 0 26 v0 rfl rfl)
  obtain ⟨fu0, hf0⟩ := h0
  have fl0 := flat_trod 8 fu0 _ _ _ _ flat26 hf0
  obtain ⟨a0_0, y0_0, e0_0, l0, u0, fl0_0⟩ := All2.i' fl0
  obtain ⟨a0_1, y0_1, e0_1, l1, u1, fl0_1⟩ := All2.i' fl0_0
  obtain ⟨a0_2, y0_2, e0_2, l2, u2, fl0_2⟩ := All2.i' fl0_1
  obtain ⟨a0_3, y0_3, e0_3, l3, u3, fl0_3⟩ := All2.i' fl0_2
  obtain ⟨a0_4, y0_4, e0_4, l4, u4, fl0_4⟩ := All2.i' fl0_3
  obtain ⟨a0_5, y0_5, e0_5, ⟨x0_5, s0_5⟩, fl0_5⟩ := All2.s' fl0_4
  have en0 := All2.nil' fl0_5
  obtain rfl : cs0 = #[.int .i64 a0_0, .int .i64 a0_1, .int .i64 a0_2, .int .i64 a0_3, .int .i64 a0_4, a0_5] := by
    apply Array.toList_inj.1
    have e0 : cs0.toList = _ := e0_0
    rw [e0, e0_1, e0_2, e0_3, e0_4, e0_5, en0]
  clear hA0 hval0 hsz0 hsz
  refine (FreeSteps_walk a0_0 a0_1 a0_2 a0_3 a0_4 a0_5 x0_5 W l3 u3 l4 u4 s0_5).mono fun e W' ⟨he, bel⟩ => ?_
  subst he
  exact ⟨_, rfl, _, _, _, [], _, [], hW', trodAll_mk1 (shut_bool Tryz.underlying4 _), (trodAll_cons_mk (Below.trod laidOut (by kernel_rfl) (of_decide_eq_true (by kernel_rfl)) k0 bel lt0) trodAll_mk0), rfl, bel.frame _, fun h => by cases h⟩
theorem over : Rows.freeStepsRow.holds Tryz.pinned (OpenSpec.ofChange Rows.freeStepsSpec) :=
  OpenClaim.holds_of_wide 3 Tryz.f3 rfl rfl rfl rfl rfl rfl rfl ⟨rfl, rfl, rfl, rfl, rfl⟩ rfl rfl rfl rfl rfl (by kernel_rfl) Tryz.func3 (by kernel_rfl)
    (of_decide_eq_true (by kernel_rfl)) (by unfold Func.isWrapper; first | (rw [if_pos (by decide +kernel)]; kernel_rfl) | (rw [if_neg (by decide +kernel)]; exact ⟨rfl, rfl⟩))
    (fun os started H enc _ => lifted os started H enc)
theorem proved : Rows.FreeStepsSaid := over
end Go.Proofs.YtpebepjfgnoaaaaGreat.freeSteps
namespace Go.Proofs.YtpebepjfgnoaaaaGreat
theorem freeSteps_holds : Rows.FreeStepsSaid := freeSteps.proved
end Go.Proofs.YtpebepjfgnoaaaaGreat
