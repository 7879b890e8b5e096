/- The epoch law EpochNil. -/
import Derived.Test.YtpfahnnmbaipdaaEpL
namespace Go.Proofs.Ytpfahnnmbaipdaa
set_option linter.unusedVariables false
set_option linter.unusedSimpArgs false
open Go.RowKit
set_option maxRecDepth 100000 in
set_option maxHeartbeats 8000000 in
theorem EpochNil_walk (a s t k : Int) (W : World) : Calls Try.prog 5 #[.agg #[.int .i64 a, .int .i64 s, .int .i64 t], .int .i64 k] W fun e w' => e = .returned (.bool true) ∧ Below W.heap.size W w' := by
  rcases bool_cases (b := cfgOk a s t) with hc | hc
  · have CK := Lib.hid hc
    clear hc
    go_enter Try.func5, Try.ntmps5
    go_wp2_with fail
    have hO := (Owns.nil W).more (.cells #[.int .i64 a, .int .i64 s, .int .i64 t] 23)
    generalize W.alloc (.cells #[.int .i64 a, .int .i64 s, .int .i64 t] 23) = w0 at hO ⊢
    refine (law16_start a s t hO CK.out).mono ?_; rintro e w1 ⟨p, bw, bb, m, rfl, hO'⟩
    have hO := hO'.last; (try simp only [List.set_cons_zero, List.set_cons_succ, List.cons_append, List.nil_append] at hO); have a0 : _ = some (Value.int .i64 a) := hO.cell 0 0 rfl rfl 0; have a1 : _ = some (Value.int .i64 s) := hO.cell 0 0 rfl rfl 1; have a2 : _ = some (Value.int .i64 t) := hO.cell 0 0 rfl rfl 2
    go_wp2_with first | (go_at_call 18; (first | ((with_reducible refine (enter_nil _ _).mono ?_); rintro e w2 ⟨rfl, rfl⟩) | ((with_reducible refine (enter_none _ _).mono ?_); rintro e w2 ⟨rfl, rfl⟩))) | (go_at_call 21; (first | ((with_reducible refine (turn_nil _ _).mono ?_); rintro e w2 ⟨rfl, rfl⟩) | ((with_reducible refine (turn_none _ _).mono ?_); rintro e w2 ⟨rfl, rfl⟩))) | (go_at_call 17; refine (epoch_NewEnter _ _ _ _ hO).mono ?_; rintro e w2 ⟨x, rfl, hO'⟩; have hO := hO'.last; (try simp only [List.set_cons_zero, List.set_cons_succ, List.cons_append, List.nil_append] at hO); have a0 : _ = some (Value.int .i64 a) := hO.cell 0 0 rfl rfl 0; have a1 : _ = some (Value.int .i64 s) := hO.cell 0 0 rfl rfl 1; have a2 : _ = some (Value.int .i64 t) := hO.cell 0 0 rfl rfl 2) | (go_at_call 15; refine (epoch_NewTurn _ _ _ hO).mono ?_; rintro e w2 ⟨x, rfl, hO'⟩; have hO := hO'.last; (try simp only [List.set_cons_zero, List.set_cons_succ, List.cons_append, List.nil_append] at hO); have a0 : _ = some (Value.int .i64 a) := hO.cell 0 0 rfl rfl 0; have a1 : _ = some (Value.int .i64 s) := hO.cell 0 0 rfl rfl 1; have a2 : _ = some (Value.int .i64 t) := hO.cell 0 0 rfl rfl 2) | (go_at_call 19; refine (exit_none _ _ _ _ _).mono ?_; rintro e w2 ⟨rfl, hb⟩; have hO := hO.via hb; (try simp only [List.set_cons_zero, List.set_cons_succ, List.cons_append, List.nil_append] at hO); have a0 : _ = some (Value.int .i64 a) := hO.cell 0 0 rfl rfl 0; have a1 : _ = some (Value.int .i64 s) := hO.cell 0 0 rfl rfl 1; have a2 : _ = some (Value.int .i64 t) := hO.cell 0 0 rfl rfl 2) | (go_at_call 20; refine (inside_none _ _ _ _).mono ?_; rintro e w2 ⟨rfl, hb⟩; have hO := hO.via hb; (try simp only [List.set_cons_zero, List.set_cons_succ, List.cons_append, List.nil_append] at hO); have a0 : _ = some (Value.int .i64 a) := hO.cell 0 0 rfl rfl 0; have a1 : _ = some (Value.int .i64 s) := hO.cell 0 0 rfl rfl 1; have a2 : _ = some (Value.int .i64 t) := hO.cell 0 0 rfl rfl 2) | (go_at_call 12; refine (law16_live _).mono ?_; rintro e w2 ⟨rfl, hb⟩; have hO := hO.via hb)
    go_ret
    exact ⟨rfl, hO.below⟩
  · have CK := Lib.hid hc
    clear hc
    go_enter Try.func5, Try.ntmps5
    go_wp2_with fail
    have hO := (Owns.nil W).more (.cells #[.int .i64 a, .int .i64 s, .int .i64 t] 23)
    generalize W.alloc (.cells #[.int .i64 a, .int .i64 s, .int .i64 t] 23) = w0 at hO ⊢
    refine (law16_start_no a s t _ CK.out).mono ?_; rintro e w1 ⟨rfl, hb⟩
    have hO := hO.via hb; (try simp only [List.set_cons_zero, List.set_cons_succ, List.cons_append, List.nil_append] at hO); have a0 : _ = some (Value.int .i64 a) := hO.cell 0 0 rfl rfl 0; have a1 : _ = some (Value.int .i64 s) := hO.cell 0 0 rfl rfl 1; have a2 : _ = some (Value.int .i64 t) := hO.cell 0 0 rfl rfl 2
    go_wp2_with first | (go_at_call 18; (first | ((with_reducible refine (enter_nil _ _).mono ?_); rintro e w2 ⟨rfl, rfl⟩) | ((with_reducible refine (enter_none _ _).mono ?_); rintro e w2 ⟨rfl, rfl⟩))) | (go_at_call 21; (first | ((with_reducible refine (turn_nil _ _).mono ?_); rintro e w2 ⟨rfl, rfl⟩) | ((with_reducible refine (turn_none _ _).mono ?_); rintro e w2 ⟨rfl, rfl⟩))) | (go_at_call 17; refine (epoch_NewEnter _ _ _ _ hO).mono ?_; rintro e w2 ⟨x, rfl, hO'⟩; have hO := hO'.last; (try simp only [List.set_cons_zero, List.set_cons_succ, List.cons_append, List.nil_append] at hO); have a0 : _ = some (Value.int .i64 a) := hO.cell 0 0 rfl rfl 0; have a1 : _ = some (Value.int .i64 s) := hO.cell 0 0 rfl rfl 1; have a2 : _ = some (Value.int .i64 t) := hO.cell 0 0 rfl rfl 2) | (go_at_call 15; refine (epoch_NewTurn _ _ _ hO).mono ?_; rintro e w2 ⟨x, rfl, hO'⟩; have hO := hO'.last; (try simp only [List.set_cons_zero, List.set_cons_succ, List.cons_append, List.nil_append] at hO); have a0 : _ = some (Value.int .i64 a) := hO.cell 0 0 rfl rfl 0; have a1 : _ = some (Value.int .i64 s) := hO.cell 0 0 rfl rfl 1; have a2 : _ = some (Value.int .i64 t) := hO.cell 0 0 rfl rfl 2) | (go_at_call 19; refine (exit_none _ _ _ _ _).mono ?_; rintro e w2 ⟨rfl, hb⟩; have hO := hO.via hb; (try simp only [List.set_cons_zero, List.set_cons_succ, List.cons_append, List.nil_append] at hO); have a0 : _ = some (Value.int .i64 a) := hO.cell 0 0 rfl rfl 0; have a1 : _ = some (Value.int .i64 s) := hO.cell 0 0 rfl rfl 1; have a2 : _ = some (Value.int .i64 t) := hO.cell 0 0 rfl rfl 2) | (go_at_call 20; refine (inside_none _ _ _ _).mono ?_; rintro e w2 ⟨rfl, hb⟩; have hO := hO.via hb; (try simp only [List.set_cons_zero, List.set_cons_succ, List.cons_append, List.nil_append] at hO); have a0 : _ = some (Value.int .i64 a) := hO.cell 0 0 rfl rfl 0; have a1 : _ = some (Value.int .i64 s) := hO.cell 0 0 rfl rfl 1; have a2 : _ = some (Value.int .i64 t) := hO.cell 0 0 rfl rfl 2) | (go_at_call 12; refine (law16_live _).mono ?_; rintro e w2 ⟨rfl, hb⟩; have hO := hO.via hb)
    go_ret
    exact ⟨rfl, hO.below⟩
end Go.Proofs.Ytpfahnnmbaipdaa
