/- AllocApart: for every input the law returns true, and each argument reads as it did. No condition. -/
import Derived.Test.YtpebepjfgnoaaaaRows
import Derived.Test.YtpebepjfgnoaaaaFlat
import Derived.Test.YtpebepjfgnoaaaaAaT
import Derived.WalkKit
import Derived.ProofKit
import Derived.OpenShut
import Derived.ChangeOld
import Derived.Below
import Derived.SizedLaws
import Derived.Carry
import Derived.Deep.Slices
namespace Go.Proofs.Ytpebepjfgnoaaaa.allocApart
open Go.ChangeShapes Go.WideShapes Go.ChangeAt Go.RowKit
set_option linter.unusedVariables false
set_option linter.unusedSimpArgs false
theorem own : ownKnob Try.prog.godebug = none := by kernel_rfl
theorem laidOut : laidOutB Try.prog = true := by kernel_rfl
theorem flat23 : flatK Try.prog 8 23 = some [.i, .i, .i] := by kernel_rfl
theorem flat70 : flatK Try.prog 8 70 = some [.s [true, true, true, true]] := by kernel_rfl
set_option maxRecDepth 100000 in
theorem lifted (os : Os) (started : os.Started) (H : Type) (enc : TypeId × Value → H) :
    ReturnsInHanded {} Try.checked os 7 .any (Rows.allocApartSpec.pre6 enc Try.prog Try.f7 Rows.allocApartRow.domain false) (Rows.allocApartSpec.post enc Try.prog Try.f7 false true false false) := by
  refine returnsInHanded_of_change_sized (C := Try.checked) own started (by kernel_rfl) Try.func7
    (ChangeSpec.witness6 (enc := enc) (C := Try.checked) false ⟨#[], #[.agg #[.int .i64 0, .int .i64 0, .int .i64 0], .slice none 0 0], []⟩ 8 (by kernel_rfl) (by kernel_rfl) (by kernel_rfl) (by kernel_rfl)) ?_
  intro W base args ds gs before hval0 hW hcnd hsz0 _
  have hsz : (DataW.weightsEach Try.prog (Try.f7.params.toList ++ Rows.allocApartSpec.plain.varTypes Try.prog) (ds ++ gs)).all (· ≤ reachBytes) = true := hsz0
  have hval : ∀ (j : Nat) t v, Try.f7.params[j]? = some t → args[j]? = some v → Value.okWide Try.prog W .any base t v := hval0
  have hW' := hW
  obtain ⟨p, q, hA0, hV, rfl, hfz, hnd⟩ := hW
  have hA : DataW.TrodAll enc Try.prog W 0 (fun _ => true) true Try.f7.params.toList args.toList ds p := hA0
  rw [Try.params7] at hA hval hsz
  obtain ⟨v0, vs0, d0, ds0, p0, q0, hargs, rfl, rfl, h0, r0⟩ := trodAll_cons hA
  obtain ⟨v1, vs1, d1, ds1, p1, q1, rfl, rfl, rfl, h1, r1⟩ := trodAll_cons r0
  obtain ⟨rfl, rfl, rfl⟩ := trodAll_nil r1
  obtain rfl : args = #[v0, v1] := by cases args; simp_all
  obtain ⟨rfl, rfl⟩ := trodVars_none hV
  have k0 := h0
  have lt0 : ∀ x ∈ p0, x.block < W.heap.size := by obtain ⟨m, hm⟩ := k0; exact DataW.trod_lt m _ _ _ hm
  obtain ⟨cs0, rfl, cl0⟩ := okWide_struct Try.underlying23 (hval 0 23 v0 rfl rfl)
  obtain ⟨fu0, hf0⟩ := h0
  have fl0 := flat_trod 8 fu0 _ _ _ _ flat23 hf0
  obtain ⟨a0_0, y0_0, e0_0, l0, u0, fl0_0⟩ := All2.i' fl0
  obtain ⟨a0_1, y0_1, e0_1, l1, u1, fl0_1⟩ := All2.i' fl0_0
  obtain ⟨a0_2, y0_2, e0_2, l2, u2, fl0_2⟩ := All2.i' fl0_1
  have en0 := All2.nil' fl0_2
  obtain rfl : cs0 = #[.int .i64 a0_0, .int .i64 a0_1, .int .i64 a0_2] := by
    apply Array.toList_inj.1
    have e0 : cs0.toList = _ := e0_0
    rw [e0, e0_1, e0_2, en0]
  have k1 := h1
  have lt1 : ∀ x ∈ p1, x.block < W.heap.size := by obtain ⟨m, hm⟩ := k1; exact DataW.trod_lt m _ _ _ hm
  obtain ⟨sa1, sl1, sc1, rfl⟩ := okWide_slice Try.underlying70 (hval 1 70 v1 rfl rfl)
  obtain ⟨fu1, hf1⟩ := h1
  obtain ⟨y1, z1, e1, ⟨x1, s1⟩, -⟩ := All2.s' (flat_trod 8 fu1 _ _ _ _ flat70 hf1)
  obtain rfl : y1 = .slice sa1 sl1 sc1 := by
    have e0 : [Value.slice sa1 sl1 sc1] = _ := e1
    simp only [List.cons.injEq] at e0; exact e0.1.symm
  clear hA0 hval0 hsz0 hsz
  refine (AllocApart_walk a0_0 a0_1 a0_2 (.slice sa1 sl1 sc1) x1 W s1).mono fun e W' ⟨he, bel⟩ => ?_
  subst he
  exact ⟨_, rfl, _, _, _, [], _, [], hW', trodAll_mk1 (shut_bool Try.underlying4 _), (trodAll_cons_mk (Below.trod laidOut (by kernel_rfl) (of_decide_eq_true (by kernel_rfl)) k0 bel lt0) (trodAll_cons_mk (Below.trod laidOut (by kernel_rfl) (of_decide_eq_true (by kernel_rfl)) k1 bel lt1) trodAll_mk0)), rfl, bel.frame _, fun h => by cases h⟩
theorem over : Rows.allocApartRow.holds Try.pinned (OpenSpec.ofChange Rows.allocApartSpec) :=
  OpenClaim.holds_of_wide 7 Try.f7 rfl rfl rfl rfl rfl rfl rfl ⟨rfl, rfl, rfl, rfl, rfl⟩ rfl rfl rfl rfl rfl (by kernel_rfl) Try.func7 (by kernel_rfl)
    (of_decide_eq_true (by kernel_rfl)) (by unfold Func.isWrapper; first | (rw [if_pos (by decide +kernel)]; kernel_rfl) | (rw [if_neg (by decide +kernel)]; exact ⟨rfl, rfl⟩))
    (fun os started H enc _ => lifted os started H enc)
theorem proved : Rows.AllocApartSaid := over
end Go.Proofs.Ytpebepjfgnoaaaa.allocApart
namespace Go.Proofs.Ytpebepjfgnoaaaa
theorem allocApart_holds : Rows.AllocApartSaid := allocApart.proved
end Go.Proofs.Ytpebepjfgnoaaaa
