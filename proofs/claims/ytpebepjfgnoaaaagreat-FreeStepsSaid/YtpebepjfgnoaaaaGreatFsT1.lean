/- The free law FreeSteps: cases that are soon over. -/
import Derived.RegionTactic
import Derived.BigRegion
import Derived.Deep.RegionHeld3
import Derived.Outline
import Derived.LoopTactic
import Derived.Deep.DeepCutAuto
import Derived.Test.YtpebepjfgnoaaaaGreatFsT0
import Derived.Test.YtpebepjfgnoaaaaGreatFlat
import Derived.Test.YtpebepjfgnoaaaaGreatArr
namespace Go.Proofs.YtpebepjfgnoaaaaGreat
set_option linter.unusedVariables false
set_option linter.unusedSimpArgs false
open Go.RowKit
set_option maxRecDepth 100000 in
set_option maxHeartbeats 8000000 in
theorem FreeSteps_far (a s t h1 h2 : Int) (v : Value) (xs : List (List Value)) (W : World) (hs : SArg W [false, true, true, true] v xs) (hn : ¬ xs.length ≤ 60) : Calls Tryz.prog 3 #[.agg #[.int .i64 a, .int .i64 s, .int .i64 t, .int .i64 h1, .int .i64 h2, v]] W fun e w' => e = .returned (.bool true) ∧ Below W.heap.size W w' := by
  obtain ⟨pa, cap, rfl, hl, hx⟩ := hs.form
  have hn' : (60 : Int) < (xs.length : Int) := by omega
  clear hx hs hn
  go_enter Tryz.func3, Tryz.ntmps3
  go_upto_region 1 with fail
  have hO := (Owns.nil W).more (Obj.cells #[.int .i64 a, .int .i64 s, .int .i64 t, .int .i64 h1, .int .i64 h2, .slice pa xs.length cap] 26)
  generalize W.alloc (Obj.cells #[.int .i64 a, .int .i64 s, .int .i64 t, .int .i64 h1, .int .i64 h2, .slice pa xs.length cap] 26) = w0 at hO ⊢
  have v0 : _ = some (Value.int .i64 a) := hO.cell 0 0 rfl rfl 0
  have v1 : _ = some (Value.int .i64 s) := hO.cell 0 0 rfl rfl 1
  have v2 : _ = some (Value.int .i64 t) := hO.cell 0 0 rfl rfl 2
  have v3 : _ = some (Value.int .i64 h1) := hO.cell 0 0 rfl rfl 3
  have v4 : _ = some (Value.int .i64 h2) := hO.cell 0 0 rfl rfl 4
  have v5 : _ = some (Value.slice pa xs.length cap) := hO.cell 0 0 rfl rfl 5
  have hz := hO.lt 0 0 rfl rfl
  go_cut [3, 4, 5, 6] (fun s3 s4 s5 s6 wx => ∃ cb, s3 = .pointer (some ⟨cb, 0, none⟩) ∧ s4 = .int .i64 h1 ∧ s5 = .int .i64 h2 ∧ s6 = .slice pa xs.length cap ∧ Owns W.heap.size W wx [[(cb, Obj.cells #[Value.int .i64 a, .int .i64 s, .int .i64 t] 23 (0, 0))]])
  case first =>
    go_region
    all_goals
      go_wp2_with fail
      go_meet
      exact ⟨_, rfl, rfl, rfl, rfl, ((hO.drop 0).alloc (.cells #[Value.int .i64 a, .int .i64 s, .int .i64 t] 23)).drew⟩
  clear hO v0 v1 v2 v3 v4 v5 hz
  obtain ⟨cb, rfl, rfl, rfl, rfl, hO⟩ := hcut
  go_wp2_with (go_at_call 4; refine (law15_live _).mono ?_; rintro e w2 ⟨rfl, hb⟩; have hO := hO.via hb)
  go_ret
  exact ⟨rfl, hO.below⟩
set_option maxRecDepth 100000 in
set_option maxHeartbeats 8000000 in
theorem FreeSteps_no (a s t h1 h2 : Int) (v : Value) (xs : List (List Value)) (W : World) (hs : SArg W [false, true, true, true] v xs) (hn : xs.length ≤ 60) (hc : cfgOk a s t = false) : Calls Tryz.prog 3 #[.agg #[.int .i64 a, .int .i64 s, .int .i64 t, .int .i64 h1, .int .i64 h2, v]] W fun e w' => e = .returned (.bool true) ∧ Below W.heap.size W w' := by
  obtain ⟨pa, cap, rfl, hl, hx⟩ := hs.form
  have hn' : ¬ (60 : Int) < (xs.length : Int) := by omega
  have CK := Lib.hid hc
  clear hx hs hn hc
  go_enter Tryz.func3, Tryz.ntmps3
  go_upto_region 1 with fail
  have hO := (Owns.nil W).more (Obj.cells #[.int .i64 a, .int .i64 s, .int .i64 t, .int .i64 h1, .int .i64 h2, .slice pa xs.length cap] 26)
  generalize W.alloc (Obj.cells #[.int .i64 a, .int .i64 s, .int .i64 t, .int .i64 h1, .int .i64 h2, .slice pa xs.length cap] 26) = w0 at hO ⊢
  have v0 : _ = some (Value.int .i64 a) := hO.cell 0 0 rfl rfl 0
  have v1 : _ = some (Value.int .i64 s) := hO.cell 0 0 rfl rfl 1
  have v2 : _ = some (Value.int .i64 t) := hO.cell 0 0 rfl rfl 2
  have v3 : _ = some (Value.int .i64 h1) := hO.cell 0 0 rfl rfl 3
  have v4 : _ = some (Value.int .i64 h2) := hO.cell 0 0 rfl rfl 4
  have v5 : _ = some (Value.slice pa xs.length cap) := hO.cell 0 0 rfl rfl 5
  have hz := hO.lt 0 0 rfl rfl
  go_cut [3, 4, 5, 6] (fun s3 s4 s5 s6 wx => ∃ cb, s3 = .pointer (some ⟨cb, 0, none⟩) ∧ s4 = .int .i64 h1 ∧ s5 = .int .i64 h2 ∧ s6 = .slice pa xs.length cap ∧ Owns W.heap.size W wx [[(cb, Obj.cells #[Value.int .i64 a, .int .i64 s, .int .i64 t] 23 (0, 0))]])
  case first =>
    go_region
    all_goals
      go_wp2_with fail
      go_meet
      exact ⟨_, rfl, rfl, rfl, rfl, ((hO.drop 0).alloc (.cells #[Value.int .i64 a, .int .i64 s, .int .i64 t] 23)).drew⟩
  clear hO v0 v1 v2 v3 v4 v5 hz
  obtain ⟨cb, rfl, rfl, rfl, rfl, hO⟩ := hcut
  have a0 : _ = some (Value.int .i64 a) := hO.cell 0 0 rfl rfl 0
  have a1 : _ = some (Value.int .i64 s) := hO.cell 0 0 rfl rfl 1
  have a2 : _ = some (Value.int .i64 t) := hO.cell 0 0 rfl rfl 2
  go_wp2_with fail
  refine (law15_start_no a s t _ CK.out).mono ?_; rintro e w1 ⟨rfl, hb⟩; have hO := hO.via hb
  clear a0 a1 a2
  have a0 : _ = some (Value.int .i64 a) := hO.cell 0 0 rfl rfl 0
  have a1 : _ = some (Value.int .i64 s) := hO.cell 0 0 rfl rfl 1
  have a2 : _ = some (Value.int .i64 t) := hO.cell 0 0 rfl rfl 2
  go_wp2_with first
    | (go_at_call 4; refine (law15_live _).mono ?_; rintro e w2 ⟨rfl, hb⟩; have hO := hO.via hb)
    | (go_at_call 6; refine (ref06_May _ _ _ _).mono ?_; rw [CK.out]; rintro e w4 ⟨rfl, hb⟩; have hO := hO.via hb)
  go_ret
  exact ⟨rfl, hO.below⟩
end Go.Proofs.YtpebepjfgnoaaaaGreat
