/- The pin law PinNil. -/
import Derived.Test.YtmbkkpeepbfgoaaPnLv
import Derived.Test.YtmbkkpeepbfgoaaFlat
import Derived.Test.YtmbkkpeepbfgoaaSA14
namespace Go.Proofs.Ytmbkkpeepbfgoaa
set_option linter.unusedVariables false
set_option linter.unusedSimpArgs false
open Go.RowKit
set_option maxRecDepth 100000 in
set_option maxHeartbeats 8000000 in
theorem PinNil_walk (a s t h : Int) (un : Bool) (W : World) (l : -9223372036854775808 ≤ h) (u : h ≤ 9223372036854775807) : Calls Try.prog 10 #[.agg #[.int .i64 a, .int .i64 s, .int .i64 t], .int .i64 h, .bool un] W fun e w' => e = .returned (.bool true) ∧ Below W.heap.size W w' := by
  go_enter Try.func10, Try.ntmps10
  go_wp2_with (go_at_call 22; refine stop_here ?_)
  try unfold Stop
  have hO := (Owns.nil W).more (.cells #[.int .i64 a, .int .i64 s, .int .i64 t] 26)
  generalize hcb : W.heap.size = cb at hO ⊢
  have HC := Lib.hid hcb
  clear hcb
  generalize W.alloc (.cells #[.int .i64 a, .int .i64 s, .int .i64 t] 26) = w0 at hO ⊢
  refine (law14_start_any a s t hO).mono ?_; rintro e w1 ⟨pv, rfl, hO'⟩; have hO := hO'; (try simp only [List.set_cons_zero, List.set_cons_succ, List.cons_append, List.nil_append] at hO); have a0 : _ = some (Value.int .i64 a) := hO.cell 0 0 rfl rfl 0; have a1 : _ = some (Value.int .i64 s) := hO.cell 0 0 rfl rfl 1; have a2 : _ = some (Value.int .i64 t) := hO.cell 0 0 rfl rfl 2; have az := hO.lt 0 0 rfl rfl
  go_wp2_with fail
  refine (pin_nil _ _).mono ?_; simp only [resV]; rintro e w2 ⟨rfl, hb⟩; have hO := hO.via hb; (try simp only [List.set_cons_zero, List.set_cons_succ, List.cons_append, List.nil_append] at hO); have a0 : _ = some (Value.int .i64 a) := hO.cell 0 0 rfl rfl 0; have a1 : _ = some (Value.int .i64 s) := hO.cell 0 0 rfl rfl 1; have a2 : _ = some (Value.int .i64 t) := hO.cell 0 0 rfl rfl 2; have az := hO.lt 0 0 rfl rfl
  go_wp2_with fail
  have hO := hO.more (.cells #[.int .i64 1, .int .i64 0] 37)
  generalize w2.heap.size = r1 at hO ⊢
  generalize w2.alloc _ = w3 at hO ⊢
  (try simp only [List.set_cons_zero, List.set_cons_succ, List.cons_append, List.nil_append] at hO); have a0 : _ = some (Value.int .i64 a) := hO.cell 0 0 rfl rfl 0; have a1 : _ = some (Value.int .i64 s) := hO.cell 0 0 rfl rfl 1; have a2 : _ = some (Value.int .i64 t) := hO.cell 0 0 rfl rfl 2; have az := hO.lt 0 0 rfl rfl
  refine (law14_one a s t h un l u hO).mono ?_; rintro e w4 ⟨x, rfl, hO'⟩; have hO := hO'.tail; (try simp only [List.set_cons_zero, List.set_cons_succ, List.cons_append, List.nil_append] at hO); have a0 : _ = some (Value.int .i64 a) := hO.cell 0 0 rfl rfl 0; have a1 : _ = some (Value.int .i64 s) := hO.cell 0 0 rfl rfl 1; have a2 : _ = some (Value.int .i64 t) := hO.cell 0 0 rfl rfl 2; have az := hO.lt 0 0 rfl rfl
  go_wp2_with fail
  refine (pin_none _ _).mono ?_; simp only [resV]; rintro e w5 ⟨rfl, hb⟩; have hO := hO.via hb; (try simp only [List.set_cons_zero, List.set_cons_succ, List.cons_append, List.nil_append] at hO); have a0 : _ = some (Value.int .i64 a) := hO.cell 0 0 rfl rfl 0; have a1 : _ = some (Value.int .i64 s) := hO.cell 0 0 rfl rfl 1; have a2 : _ = some (Value.int .i64 t) := hO.cell 0 0 rfl rfl 2; have az := hO.lt 0 0 rfl rfl
  have ra0 : _ = some (Value.int .i64 1) := hO.cell 1 0 rfl rfl 0
  have ra1 : _ = some (Value.int .i64 0) := hO.cell 1 0 rfl rfl 1
  have za := hO.lt 1 0 rfl rfl
  have hO1 := fun o => hO.via (below_alloc _ o)
  go_wp2_with (go_at_call 21; refine (law14_live _).mono ?_; rintro e w6 ⟨rfl, hb⟩; have hO := (hO1 _).via hb)
  go_ret
  exact ⟨rfl, by rw [HC.out]; exact hO.below⟩
end Go.Proofs.Ytmbkkpeepbfgoaa
