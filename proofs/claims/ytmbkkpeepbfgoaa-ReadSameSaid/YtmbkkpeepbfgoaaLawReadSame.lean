/- ReadSame: for every input the law returns true, and each argument reads as it did. No condition. -/
import Derived.Test.YtmbkkpeepbfgoaaRows
import Derived.Test.YtmbkkpeepbfgoaaFlat
import Derived.Test.YtmbkkpeepbfgoaaRdSm
import Derived.WalkKit
import Derived.ProofKit
import Derived.OpenShut
import Derived.ChangeOld
import Derived.Below
import Derived.SizedLaws
import Derived.Carry
import Derived.Deep.Slices
namespace Go.Proofs.Ytmbkkpeepbfgoaa.readSame
open Go.ChangeShapes Go.WideShapes Go.ChangeAt Go.RowKit
set_option linter.unusedVariables false
set_option linter.unusedSimpArgs false
theorem own : ownKnob Try.prog.godebug = none := by kernel_rfl
theorem laidOut : laidOutB Try.prog = true := by kernel_rfl
theorem flat45 : flatK Try.prog 8 45 = some [.i, .i, .i, .i, .i, .i, .i, .i, .i, .i, .i, .i, .i, .i, .i, .i] := by kernel_rfl
theorem okWide_array {P : Program} {w : World} {r : Reach} {base : Nat} {t : TypeId} {v : Value} {n : Nat} {e : TypeId} (ht : P.underlying t = some (.array n e)) (h : Value.okWide P w r base t v) : ∃ cs, v = .agg cs ∧ cs.size = P.cellsOf t := by
  simp only [Value.okWide, ht] at h
  obtain ⟨cs, h1, h2, _⟩ := h
  exact ⟨cs, h1, h2⟩
set_option maxRecDepth 100000 in
theorem lifted (os : Os) (started : os.Started) (H : Type) (enc : TypeId × Value → H) :
    ReturnsInHanded {} Try.checked os 6 .any (Rows.readSameSpec.pre6 enc Try.prog Try.f6 Rows.readSameRow.domain false) (Rows.readSameSpec.post enc Try.prog Try.f6 false true false false) := by
  refine returnsInHanded_of_change_sized (C := Try.checked) own started (by kernel_rfl) Try.func6
    (ChangeSpec.witness6 (enc := enc) (C := Try.checked) false ⟨#[], #[.agg #[.int .i64 0, .int .i64 0, .int .i64 0, .int .i64 0, .int .i64 0, .int .i64 0, .int .i64 0, .int .i64 0, .int .i64 0, .int .i64 0, .int .i64 0, .int .i64 0, .int .i64 0, .int .i64 0, .int .i64 0, .int .i64 0], .int .i64 0, .int .i64 0], []⟩ 8 (by kernel_rfl) (by kernel_rfl) (by kernel_rfl) (by kernel_rfl)) ?_
  intro W base args ds gs before hval0 hW hcnd hsz0 _
  have hsz : (DataW.weightsEach Try.prog (Try.f6.params.toList ++ Rows.readSameSpec.plain.varTypes Try.prog) (ds ++ gs)).all (· ≤ reachBytes) = true := hsz0
  have hval : ∀ (j : Nat) t v, Try.f6.params[j]? = some t → args[j]? = some v → Value.okWide Try.prog W .any base t v := hval0
  have hW' := hW
  obtain ⟨p, q, hA0, hV, rfl, hfz, hnd⟩ := hW
  have hA : DataW.TrodAll enc Try.prog W 0 (fun _ => true) true Try.f6.params.toList args.toList ds p := hA0
  rw [Try.params6] at hA hval hsz
  obtain ⟨v0, vs0, d0, ds0, p0, q0, hargs, rfl, rfl, h0, r0⟩ := trodAll_cons hA
  obtain ⟨v1, vs1, d1, ds1, p1, q1, rfl, rfl, rfl, h1, r1⟩ := trodAll_cons r0
  obtain ⟨v2, vs2, d2, ds2, p2, q2, rfl, rfl, rfl, h2, r2⟩ := trodAll_cons r1
  obtain ⟨rfl, rfl, rfl⟩ := trodAll_nil r2
  obtain rfl : args = #[v0, v1, v2] := by cases args; simp_all
  obtain ⟨rfl, rfl⟩ := trodVars_none hV
  have k0 := h0
  have lt0 : ∀ x ∈ p0, x.block < W.heap.size := by obtain ⟨m, hm⟩ := k0; exact DataW.trod_lt m _ _ _ hm
  obtain ⟨cs0, rfl, cl0⟩ := okWide_array Try.underlying45 (hval 0 45 v0 rfl rfl)
  obtain ⟨fu0, hf0⟩ := h0
  have fl0 := flat_trod 8 fu0 _ _ _ _ flat45 hf0
  obtain ⟨a0_0, y0_0, e0_0, l0, u0, fl0_0⟩ := All2.i' fl0
  obtain ⟨a0_1, y0_1, e0_1, l1, u1, fl0_1⟩ := All2.i' fl0_0
  obtain ⟨a0_2, y0_2, e0_2, l2, u2, fl0_2⟩ := All2.i' fl0_1
  obtain ⟨a0_3, y0_3, e0_3, l3, u3, fl0_3⟩ := All2.i' fl0_2
  obtain ⟨a0_4, y0_4, e0_4, l4, u4, fl0_4⟩ := All2.i' fl0_3
  obtain ⟨a0_5, y0_5, e0_5, l5, u5, fl0_5⟩ := All2.i' fl0_4
  obtain ⟨a0_6, y0_6, e0_6, l6, u6, fl0_6⟩ := All2.i' fl0_5
  obtain ⟨a0_7, y0_7, e0_7, l7, u7, fl0_7⟩ := All2.i' fl0_6
  obtain ⟨a0_8, y0_8, e0_8, l8, u8, fl0_8⟩ := All2.i' fl0_7
  obtain ⟨a0_9, y0_9, e0_9, l9, u9, fl0_9⟩ := All2.i' fl0_8
  obtain ⟨a0_10, y0_10, e0_10, l10, u10, fl0_10⟩ := All2.i' fl0_9
  obtain ⟨a0_11, y0_11, e0_11, l11, u11, fl0_11⟩ := All2.i' fl0_10
  obtain ⟨a0_12, y0_12, e0_12, l12, u12, fl0_12⟩ := All2.i' fl0_11
  obtain ⟨a0_13, y0_13, e0_13, l13, u13, fl0_13⟩ := All2.i' fl0_12
  obtain ⟨a0_14, y0_14, e0_14, l14, u14, fl0_14⟩ := All2.i' fl0_13
  obtain ⟨a0_15, y0_15, e0_15, l15, u15, fl0_15⟩ := All2.i' fl0_14
  have en0 := All2.nil' fl0_15
  obtain rfl : cs0 = #[.int .i64 a0_0, .int .i64 a0_1, .int .i64 a0_2, .int .i64 a0_3, .int .i64 a0_4, .int .i64 a0_5, .int .i64 a0_6, .int .i64 a0_7, .int .i64 a0_8, .int .i64 a0_9, .int .i64 a0_10, .int .i64 a0_11, .int .i64 a0_12, .int .i64 a0_13, .int .i64 a0_14, .int .i64 a0_15] := by
    apply Array.toList_inj.1
    have e0 : cs0.toList = _ := e0_0
    rw [e0, e0_1, e0_2, e0_3, e0_4, e0_5, e0_6, e0_7, e0_8, e0_9, e0_10, e0_11, e0_12, e0_13, e0_14, e0_15, en0]
  have k1 := h1
  have lt1 : ∀ x ∈ p1, x.block < W.heap.size := by obtain ⟨m, hm⟩ := k1; exact DataW.trod_lt m _ _ _ hm
  obtain ⟨a1, rfl, rfl, rfl, w1⟩ := open_int Try.underlying3 (hval 1 3 v1 rfl rfl) h1
  obtain ⟨l16, u16⟩ : -9223372036854775808 ≤ a1 ∧ a1 ≤ 9223372036854775807 := by simpa [Lit.wf, IntKind.min, IntKind.max, IntKind.bits, IntKind.signed] using w1
  have k2 := h2
  have lt2 : ∀ x ∈ p2, x.block < W.heap.size := by obtain ⟨m, hm⟩ := k2; exact DataW.trod_lt m _ _ _ hm
  obtain ⟨a2, rfl, rfl, rfl, w2⟩ := open_int Try.underlying3 (hval 2 3 v2 rfl rfl) h2
  obtain ⟨l17, u17⟩ : -9223372036854775808 ≤ a2 ∧ a2 ≤ 9223372036854775807 := by simpa [Lit.wf, IntKind.min, IntKind.max, IntKind.bits, IntKind.signed] using w2
  clear hA0 hval0 hsz0 hsz
  refine (ReadSame_walk a0_0 a0_1 a0_2 a0_3 a0_4 a0_5 a0_6 a0_7 a0_8 a0_9 a0_10 a0_11 a0_12 a0_13 a0_14 a0_15 a1 a2 W ).mono fun e W' ⟨he, bel⟩ => ?_
  subst he
  exact ⟨_, rfl, _, _, _, [], _, [], hW', trodAll_mk1 (shut_bool Try.underlying4 _), (trodAll_cons_mk (Below.trod laidOut (by kernel_rfl) (of_decide_eq_true (by kernel_rfl)) k0 bel lt0) (trodAll_cons_mk (Below.trod laidOut (by kernel_rfl) (of_decide_eq_true (by kernel_rfl)) k1 bel lt1) (trodAll_cons_mk (Below.trod laidOut (by kernel_rfl) (of_decide_eq_true (by kernel_rfl)) k2 bel lt2) trodAll_mk0))), rfl, bel.frame _, fun h => by cases h⟩
theorem over : Rows.readSameRow.holds Try.pinned (OpenSpec.ofChange Rows.readSameSpec) :=
  OpenClaim.holds_of_wide 6 Try.f6 rfl rfl rfl rfl rfl rfl rfl ⟨rfl, rfl, rfl, rfl, rfl⟩ rfl rfl rfl rfl rfl (by kernel_rfl) Try.func6 (by kernel_rfl)
    (of_decide_eq_true (by kernel_rfl)) (by unfold Func.isWrapper; first | (rw [if_pos (by decide +kernel)]; kernel_rfl) | (rw [if_neg (by decide +kernel)]; exact ⟨rfl, rfl⟩))
    (fun os started H enc _ => lifted os started H enc)
theorem proved : Rows.ReadSameSaid := over
end Go.Proofs.Ytmbkkpeepbfgoaa.readSame
namespace Go.Proofs.Ytmbkkpeepbfgoaa
theorem readSame_holds : Rows.ReadSameSaid := readSame.proved
end Go.Proofs.Ytmbkkpeepbfgoaa
