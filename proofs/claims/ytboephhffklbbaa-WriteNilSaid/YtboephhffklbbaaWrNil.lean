/- The write law WriteNil. -/
import Derived.Test.YtboephhffklbbaaWrLv
import Derived.Test.YtboephhffklbbaaFlat
import Derived.Test.YtboephhffklbbaaSA13
namespace Go.Proofs.Ytboephhffklbbaa
set_option linter.unusedVariables false
set_option linter.unusedSimpArgs false
open Go.RowKit
set_option maxRecDepth 100000 in
set_option maxHeartbeats 8000000 in
theorem WriteNil_walk (a s t d h off n : Int) (W : World) (l : -9223372036854775808 ≤ h) (u : h ≤ 9223372036854775807) : Calls Try.prog 5 #[.agg #[.int .i64 a, .int .i64 s, .int .i64 t], .agg #[.int .i64 d, .int .i64 h, .int .i64 off, .int .i64 n]] W fun e w' => e = .returned (.bool true) ∧ Below W.heap.size W w' := by
  go_enter Try.func5, Try.ntmps5
  go_wp2_with (go_at_call 11; refine stop_here ?_)
  try unfold Stop
  have hO := ((Owns.nil W).more (.cells #[.int .i64 a, .int .i64 s, .int .i64 t] 26)).more (.cells #[.int .i64 d, .int .i64 h, .int .i64 off, .int .i64 n] 52)
  simp only [World.size_alloc] at hO
  generalize hcb : W.heap.size = cb at hO ⊢
  have HC := Lib.hid hcb
  clear hcb
  generalize (W.alloc (.cells #[.int .i64 a, .int .i64 s, .int .i64 t] 26)).alloc _ = w0 at hO ⊢
  refine (law13_start_any a s t hO).mono ?_; rintro e w1 ⟨pv, rfl, hO'⟩; have hO := hO'; (try simp only [List.set_cons_zero, List.set_cons_succ, List.cons_append, List.nil_append] at hO); have a0 : _ = some (Value.int .i64 a) := hO.cell 0 0 rfl rfl 0; have a1 : _ = some (Value.int .i64 s) := hO.cell 0 0 rfl rfl 1; have a2 : _ = some (Value.int .i64 t) := hO.cell 0 0 rfl rfl 2; have az := hO.lt 0 0 rfl rfl; have o1 : _ = some (Value.int .i64 h) := hO.cell 1 0 rfl rfl 1; have o2 : _ = some (Value.int .i64 off) := hO.cell 1 0 rfl rfl 2; have o3 : _ = some (Value.int .i64 n) := hO.cell 1 0 rfl rfl 3; have oz := hO.lt 1 0 rfl rfl
  go_wp2_with fail
  refine (wr_nil _ _).mono ?_; simp only [resV]; rintro e w2 ⟨rfl, hb⟩; have hO := hO.via hb; (try simp only [List.set_cons_zero, List.set_cons_succ, List.cons_append, List.nil_append] at hO); have a0 : _ = some (Value.int .i64 a) := hO.cell 0 0 rfl rfl 0; have a1 : _ = some (Value.int .i64 s) := hO.cell 0 0 rfl rfl 1; have a2 : _ = some (Value.int .i64 t) := hO.cell 0 0 rfl rfl 2; have az := hO.lt 0 0 rfl rfl; have o1 : _ = some (Value.int .i64 h) := hO.cell 1 0 rfl rfl 1; have o2 : _ = some (Value.int .i64 off) := hO.cell 1 0 rfl rfl 2; have o3 : _ = some (Value.int .i64 n) := hO.cell 1 0 rfl rfl 3; have oz := hO.lt 1 0 rfl rfl
  go_wp2_with fail
  have hO := hO.more (.cells #[.int .i64 1, .int .i64 0] 41)
  generalize w2.heap.size = r1 at hO ⊢
  generalize w2.alloc _ = w3 at hO ⊢
  (try simp only [List.set_cons_zero, List.set_cons_succ, List.cons_append, List.nil_append] at hO); have a0 : _ = some (Value.int .i64 a) := hO.cell 0 0 rfl rfl 0; have a1 : _ = some (Value.int .i64 s) := hO.cell 0 0 rfl rfl 1; have a2 : _ = some (Value.int .i64 t) := hO.cell 0 0 rfl rfl 2; have az := hO.lt 0 0 rfl rfl; have o1 : _ = some (Value.int .i64 h) := hO.cell 1 0 rfl rfl 1; have o2 : _ = some (Value.int .i64 off) := hO.cell 1 0 rfl rfl 2; have o3 : _ = some (Value.int .i64 n) := hO.cell 1 0 rfl rfl 3; have oz := hO.lt 1 0 rfl rfl
  refine (write_New a s t h off n l u hO).mono ?_; rintro e w4 ⟨x, rfl, hO'⟩; have hO := hO'.tail; (try simp only [List.set_cons_zero, List.set_cons_succ, List.cons_append, List.nil_append] at hO); have a0 : _ = some (Value.int .i64 a) := hO.cell 0 0 rfl rfl 0; have a1 : _ = some (Value.int .i64 s) := hO.cell 0 0 rfl rfl 1; have a2 : _ = some (Value.int .i64 t) := hO.cell 0 0 rfl rfl 2; have az := hO.lt 0 0 rfl rfl; have o1 : _ = some (Value.int .i64 h) := hO.cell 1 0 rfl rfl 1; have o2 : _ = some (Value.int .i64 off) := hO.cell 1 0 rfl rfl 2; have o3 : _ = some (Value.int .i64 n) := hO.cell 1 0 rfl rfl 3; have oz := hO.lt 1 0 rfl rfl
  go_wp2_with fail
  refine (wr_none _ _).mono ?_; simp only [resV]; rintro e w5 ⟨rfl, hb⟩; have hO := hO.via hb; (try simp only [List.set_cons_zero, List.set_cons_succ, List.cons_append, List.nil_append] at hO); have a0 : _ = some (Value.int .i64 a) := hO.cell 0 0 rfl rfl 0; have a1 : _ = some (Value.int .i64 s) := hO.cell 0 0 rfl rfl 1; have a2 : _ = some (Value.int .i64 t) := hO.cell 0 0 rfl rfl 2; have az := hO.lt 0 0 rfl rfl; have o1 : _ = some (Value.int .i64 h) := hO.cell 1 0 rfl rfl 1; have o2 : _ = some (Value.int .i64 off) := hO.cell 1 0 rfl rfl 2; have o3 : _ = some (Value.int .i64 n) := hO.cell 1 0 rfl rfl 3; have oz := hO.lt 1 0 rfl rfl
  have ra0 : _ = some (Value.int .i64 1) := hO.cell 2 0 rfl rfl 0
  have ra1 : _ = some (Value.int .i64 0) := hO.cell 2 0 rfl rfl 1
  have za := hO.lt 2 0 rfl rfl
  have hO1 := fun o => hO.via (below_alloc _ o)
  go_wp2_with first
    | (go_at_call 18; refine (wr_Guards_nil _).mono ?_; rintro e w6 ⟨rfl, rfl⟩)
    | (go_at_call 14; refine (law13_live _).mono ?_; rintro e w6 ⟨rfl, hb⟩; have hO := (hO1 _).via hb)
  go_ret
  exact ⟨rfl, by rw [HC.out]; exact hO.below⟩
end Go.Proofs.Ytboephhffklbbaa
