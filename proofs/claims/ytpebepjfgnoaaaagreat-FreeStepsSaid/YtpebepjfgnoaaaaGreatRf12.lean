/- The reference's Fresh; the reference's cells at first. -/
import Derived.RegionTactic
import Derived.BigRegion
import Derived.Deep.RegionHeld3
import Derived.Outline
import Derived.Deep.DeepCutAuto
import Derived.Test.YtpebepjfgnoaaaaGreatEnR3
import Derived.Test.YtpebepjfgnoaaaaGreatIni
namespace Go.Proofs.YtpebepjfgnoaaaaGreat
set_option linter.unusedVariables false
set_option linter.unusedSimpArgs false
open Go.RowKit
set_option maxRecDepth 100000 in
set_option maxHeartbeats 8000000 in
theorem ref12_Fresh (v ge : Int) (W : World) : Calls Tryz.prog 59 #[.int .i64 v, .int .i64 ge] W fun e w' => e = .returned (.tuple #[.agg #[.int .i64 (uO v), .int .i64 (uG v), .int .i64 (uP v), .int .i64 (uU v), .bool (uL v), .bool (uA v)], .bool (fresh v ge)]) ∧ Below W.heap.size W w' := by
  obtain ⟨k0, hk0⟩ : ∃ k, eOk v = k := ⟨_, rfl⟩
  obtain ⟨kA, hkA⟩ : ∃ k, uA v = k := ⟨_, rfl⟩
  obtain ⟨kG, hkG⟩ : ∃ k, uG v = k := ⟨_, rfl⟩
  have FR := show fresh v ge = (decide (k0 = 0) && (kA && decide (kG = ge))) by unfold fresh; rw [hk0, hkA, hkG]
  obtain ⟨b1, hb1⟩ : ∃ b, (k0 == 0) = b := ⟨_, rfl⟩
  obtain ⟨b3, hb3⟩ : ∃ b, (kG == ge) = b := ⟨_, rfl⟩
  obtain ⟨F, hF⟩ : ∃ F, fresh v ge = F := ⟨_, rfl⟩
  have F2 := Lib.hid (show F = (b1 && (kA && b3)) by rw [← hF, FR, ← hb1, ← hb3]; rfl)
  rw [hF, hkA, hkG]
  have HK := Lib.hid (And.intro hk0 (And.intro hkA hkG))
  clear FR hk0 hkA hkG hF
  have hO := (Owns.nil W).alloc (.cells #[.int .i64 0, .int .i64 0, .int .i64 0, .int .i64 0, .bool false, .bool false] 114)
  go_enter Tryz.func59, Tryz.ntmps59
  go_wp2_with fail
  generalize W.alloc (.cells #[.int .i64 0, .int .i64 0, .int .i64 0, .int .i64 0, .bool false, .bool false] 114) = w1 at hO ⊢
  generalize hrb : W.heap.size = rb at hO ⊢
  have HRB := Lib.hid hrb
  clear hrb
  refine (ref02_Unpack _ _).mono ?_; rw [HK.out.1, HK.out.2.1, HK.out.2.2]; rintro e w2 ⟨rfl, hbb⟩
  have hO := (hO.via hbb).alloc (.cells #[.int .i64 (uO v), .int .i64 kG, .int .i64 (uP v), .int .i64 (uU v), .bool (uL v), .bool kA] 114)
  go_upto_region 2 with fail
  generalize w2.alloc (.cells #[.int .i64 (uO v), .int .i64 kG, .int .i64 (uP v), .int .i64 (uU v), .bool (uL v), .bool kA] 114) = w3 at hO ⊢
  generalize w2.heap.size = eb at hO ⊢
  have hP := hO
  have g0 : _ = some (Value.int .i64 (uO v)) := hO.cell 0 0 rfl rfl 0
  have g1 : _ = some (Value.int .i64 kG) := hO.cell 0 0 rfl rfl 1
  have g2 : _ = some (Value.int .i64 (uP v)) := hO.cell 0 0 rfl rfl 2
  have g3 : _ = some (Value.int .i64 (uU v)) := hO.cell 0 0 rfl rfl 3
  have g4 : _ = some (Value.bool (uL v)) := hO.cell 0 0 rfl rfl 4
  have g5 : _ = some (Value.bool kA) := hO.cell 0 0 rfl rfl 5
  have r0 : _ = some (Value.int .i64 0) := hO.cell 1 0 rfl rfl 0; have r1 : _ = some (Value.int .i64 0) := hO.cell 1 0 rfl rfl 1; have r2 : _ = some (Value.int .i64 0) := hO.cell 1 0 rfl rfl 2; have r3 : _ = some (Value.int .i64 0) := hO.cell 1 0 rfl rfl 3; have r4 : _ = some (Value.bool false) := hO.cell 1 0 rfl rfl 4; have r5 : _ = some (Value.bool false) := hO.cell 1 0 rfl rfl 5; have rg := hO.get 1 0 rfl rfl; have rz := blk_lt rg; have f0 := blk_free rg 0; have f1 := blk_free rg 1; have f2 := blk_free rg 2; have f3 := blk_free rg 3; have f4 := blk_free rg 4; have f5 := blk_free rg 5; clear rg
  have nb := hO.ne_out 0 1 0 0 rfl rfl rfl rfl (by decide)
  clear hO
  cases kA
  case false =>
    cases b1 <;> cases b3
    all_goals
      have hf := F2.out
      simp only [Bool.false_and, Bool.and_false, Bool.true_and, Bool.and_true, Bool.and_self] at hf
      subst hf
      go_region
    all_goals
      go_wp2_with fail
      generalize hw : World.drew _ = w9
      have hO4 : Owns rb W w9 ([(rb, .cells #[.int .i64 (uO v), .int .i64 kG, .int .i64 (uP v), .int .i64 (uU v), .bool (uL v), .bool false] 114 (0, 0))] :: [[(eb, .cells #[.int .i64 (uO v), .int .i64 kG, .int .i64 (uP v), .int .i64 (uU v), .bool (uL v), .bool false] 114 (0, 0))]]) := by rw [← hw]; exact (ent_set6' hP.swap (.int .i64 (uO v)) (.int .i64 kG) (.int .i64 (uP v)) (.int .i64 (uU v)) (.bool (uL v)) (.bool false)).drew
      clear hw g0 g1 g2 g3 g4 g5 r0 r1 r2 r3 r4 r5
      have e0 := hO4.cell 0 0 rfl rfl 0; have e1 := hO4.cell 0 0 rfl rfl 1; have e2 := hO4.cell 0 0 rfl rfl 2; have e3 := hO4.cell 0 0 rfl rfl 3; have e4 := hO4.cell 0 0 rfl rfl 4; have e5 := hO4.cell 0 0 rfl rfl 5
      first
        | exact bodyPost_ret (v := .tuple #[.agg #[.int .i64 (uO v), .int .i64 kG, .int .i64 (uP v), .int .i64 (uU v), .bool (uL v), .bool false], .bool false]) (by simp [results, Tryz.results59, go_sem, e0, e1, e2, e3, e4, e5]) rfl ⟨rfl, by rw [HRB.out]; exact hO4.below⟩
        | exact bodyPost_ret (v := .tuple #[.agg #[.int .i64 (uO v), .int .i64 kG, .int .i64 (uP v), .int .i64 (uU v), .bool (uL v), .bool false], .bool true]) (by simp [results, Tryz.results59, go_sem, e0, e1, e2, e3, e4, e5]) rfl ⟨rfl, by rw [HRB.out]; exact hO4.below⟩
  case true =>
    cases b1 <;> cases b3
    all_goals
      have hf := F2.out
      simp only [Bool.false_and, Bool.and_false, Bool.true_and, Bool.and_true, Bool.and_self] at hf
      subst hf
      go_region
    all_goals
      go_wp2_with fail
      generalize hw : World.drew _ = w9
      have hO4 : Owns rb W w9 ([(rb, .cells #[.int .i64 (uO v), .int .i64 kG, .int .i64 (uP v), .int .i64 (uU v), .bool (uL v), .bool true] 114 (0, 0))] :: [[(eb, .cells #[.int .i64 (uO v), .int .i64 kG, .int .i64 (uP v), .int .i64 (uU v), .bool (uL v), .bool true] 114 (0, 0))]]) := by rw [← hw]; exact (ent_set6' hP.swap (.int .i64 (uO v)) (.int .i64 kG) (.int .i64 (uP v)) (.int .i64 (uU v)) (.bool (uL v)) (.bool true)).drew
      clear hw g0 g1 g2 g3 g4 g5 r0 r1 r2 r3 r4 r5
      have e0 := hO4.cell 0 0 rfl rfl 0; have e1 := hO4.cell 0 0 rfl rfl 1; have e2 := hO4.cell 0 0 rfl rfl 2; have e3 := hO4.cell 0 0 rfl rfl 3; have e4 := hO4.cell 0 0 rfl rfl 4; have e5 := hO4.cell 0 0 rfl rfl 5
      first
        | exact bodyPost_ret (v := .tuple #[.agg #[.int .i64 (uO v), .int .i64 kG, .int .i64 (uP v), .int .i64 (uU v), .bool (uL v), .bool true], .bool false]) (by simp [results, Tryz.results59, go_sem, e0, e1, e2, e3, e4, e5]) rfl ⟨rfl, by rw [HRB.out]; exact hO4.below⟩
        | exact bodyPost_ret (v := .tuple #[.agg #[.int .i64 (uO v), .int .i64 kG, .int .i64 (uP v), .int .i64 (uU v), .bool (uL v), .bool true], .bool true]) (by simp [results, Tryz.results59, go_sem, e0, e1, e2, e3, e4, e5]) rfl ⟨rfl, by rw [HRB.out]; exact hO4.below⟩
end Go.Proofs.YtpebepjfgnoaaaaGreat
