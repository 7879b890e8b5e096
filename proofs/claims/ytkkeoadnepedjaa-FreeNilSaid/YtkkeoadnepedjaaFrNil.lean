/- The free law FreeNil. -/
import Derived.Test.YtkkeoadnepedjaaFrLv
import Derived.Test.YtkkeoadnepedjaaFlat
import Derived.Test.YtkkeoadnepedjaaSA15
namespace Go.Proofs.Ytkkeoadnepedjaa
set_option linter.unusedVariables false
set_option linter.unusedSimpArgs false
open Go.RowKit
set_option maxRecDepth 100000 in
set_option maxHeartbeats 8000000 in
theorem FreeNil_walk (a s t n : Int) (W : World) (l : -9223372036854775808 ≤ n) (u : n ≤ 9223372036854775807) : Calls Try.prog 6 #[.agg #[.int .i64 a, .int .i64 s, .int .i64 t], .int .i64 n] W fun e w' => e = .returned (.bool true) ∧ Below W.heap.size W w' := by
  go_enter Try.func6, Try.ntmps6
  go_wp2_with (go_at_call 10; refine stop_here ?_)
  try unfold Stop
  have hO := (Owns.nil W).more (.cells #[.int .i64 a, .int .i64 s, .int .i64 t] 25)
  generalize hcb : W.heap.size = cb at hO ⊢
  have HC := Lib.hid hcb
  clear hcb
  generalize W.alloc (.cells #[.int .i64 a, .int .i64 s, .int .i64 t] 25) = w0 at hO ⊢
  refine (law15_start_any a s t hO).mono ?_; rintro e w1 ⟨pv, rfl, hO'⟩; have hO := hO'; (try simp only [List.set_cons_zero, List.set_cons_succ, List.cons_append, List.nil_append] at hO); have a0 : _ = some (Value.int .i64 a) := hO.cell 0 0 rfl rfl 0; have a1 : _ = some (Value.int .i64 s) := hO.cell 0 0 rfl rfl 1; have a2 : _ = some (Value.int .i64 t) := hO.cell 0 0 rfl rfl 2; have az := hO.lt 0 0 rfl rfl
  go_wp2_with fail
  refine (fr_nil _ _).mono ?_; simp only [resV]; rintro e w2 ⟨rfl, hb⟩; have hO := hO.via hb; (try simp only [List.set_cons_zero, List.set_cons_succ, List.cons_append, List.nil_append] at hO); have a0 : _ = some (Value.int .i64 a) := hO.cell 0 0 rfl rfl 0; have a1 : _ = some (Value.int .i64 s) := hO.cell 0 0 rfl rfl 1; have a2 : _ = some (Value.int .i64 t) := hO.cell 0 0 rfl rfl 2; have az := hO.lt 0 0 rfl rfl
  go_wp2_with fail
  have hO := hO.more (.cells #[.int .i64 1, .int .i64 0] 41)
  generalize w2.heap.size = r1 at hO ⊢
  generalize w2.alloc _ = w3 at hO ⊢
  (try simp only [List.set_cons_zero, List.set_cons_succ, List.cons_append, List.nil_append] at hO); have a0 : _ = some (Value.int .i64 a) := hO.cell 0 0 rfl rfl 0; have a1 : _ = some (Value.int .i64 s) := hO.cell 0 0 rfl rfl 1; have a2 : _ = some (Value.int .i64 t) := hO.cell 0 0 rfl rfl 2; have az := hO.lt 0 0 rfl rfl
  refine (free_New a s t n l u hO).mono ?_; rintro e w4 ⟨x, rfl, hO'⟩; have hO := hO'.tail; (try simp only [List.set_cons_zero, List.set_cons_succ, List.cons_append, List.nil_append] at hO); have a0 : _ = some (Value.int .i64 a) := hO.cell 0 0 rfl rfl 0; have a1 : _ = some (Value.int .i64 s) := hO.cell 0 0 rfl rfl 1; have a2 : _ = some (Value.int .i64 t) := hO.cell 0 0 rfl rfl 2; have az := hO.lt 0 0 rfl rfl
  go_wp2_with fail
  refine (fr_none _ _).mono ?_; simp only [resV]; rintro e w5 ⟨rfl, hb⟩; have hO := hO.via hb; (try simp only [List.set_cons_zero, List.set_cons_succ, List.cons_append, List.nil_append] at hO); have a0 : _ = some (Value.int .i64 a) := hO.cell 0 0 rfl rfl 0; have a1 : _ = some (Value.int .i64 s) := hO.cell 0 0 rfl rfl 1; have a2 : _ = some (Value.int .i64 t) := hO.cell 0 0 rfl rfl 2; have az := hO.lt 0 0 rfl rfl
  have ra0 : _ = some (Value.int .i64 1) := hO.cell 1 0 rfl rfl 0
  have ra1 : _ = some (Value.int .i64 0) := hO.cell 1 0 rfl rfl 1
  have za := hO.lt 1 0 rfl rfl
  have hO1 := fun o => hO.via (below_alloc _ o)
  go_wp2_with first
    | (go_at_call 24; refine (fr_Gives_nil _).mono ?_; rintro e w6 ⟨rfl, rfl⟩)
    | (go_at_call 11; refine (law15_live _).mono ?_; rintro e w6 ⟨rfl, hb⟩; have hO := (hO1 _).via hb)
  go_ret
  exact ⟨rfl, by rw [HC.out]; exact hO.below⟩
end Go.Proofs.Ytkkeoadnepedjaa
