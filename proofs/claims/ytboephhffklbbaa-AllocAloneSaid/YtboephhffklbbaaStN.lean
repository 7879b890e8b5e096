/- The stack's machines made; none of them; cells as they are at first. -/
import Derived.RegionTactic
import Derived.BigRegion
import Derived.Deep.RegionHeld3
import Derived.Test.YtboephhffklbbaaStS
import Derived.Test.YtboephhffklbbaaStU
import Derived.Test.YtboephhffklbbaaIni
import Derived.Test.YtboephhffklbbaaClN
namespace Go.Proofs.Ytboephhffklbbaa
set_option linter.unusedVariables false
set_option linter.unusedSimpArgs false
open Go.RowKit
def MadeMach (T : TypeId) (B : Nat) (W : World) (G : List Grp) (t s sl : Int) (e : Ending) (w' : World) : Prop :=
  ∃ x, e = .returned (.pointer (some ⟨x, 0, none⟩)) ∧ Owns B W w' (machG T x t s 1 sl 0 0 :: G)
set_option maxHeartbeats 1000000 in
theorem stack_NewPop {B : Nat} {W w : World} {G : List Grp} (t s : Int) (hO : Owns B W w G) : Calls Try.prog 49 #[.agg #[.int .i64 t, .int .i64 s]] w (MadeMach 115 B W G t s 0) := by
  go_enter Try.func49, Try.ntmps49
  go_wp2
  go_ret
  refine ⟨w.heap.size + 1, rfl, ?_⟩
  have := (hO.alloc (.cells #[.int .i64 t, .int .i64 s] 83)).tail.alloc (machObj 115 t s 1 0 0 0)
  simp only [World.size_alloc] at this
  exact this
set_option maxHeartbeats 1000000 in
theorem stack_NewPush {B : Nat} {W w : World} {G : List Grp} (t s k : Int) (hO : Owns B W w G) : Calls Try.prog 75 #[.agg #[.int .i64 t, .int .i64 s], .int .i64 k] w (MadeMach 120 B W G t s k) := by
  go_enter Try.func75, Try.ntmps75
  go_wp2
  go_ret
  refine ⟨w.heap.size + 1, rfl, ?_⟩
  have := (hO.alloc (.cells #[.int .i64 t, .int .i64 s] 83)).tail.alloc (machObj 120 t s 1 k 0 0)
  simp only [World.size_alloc] at this
  exact this
set_option maxRecDepth 100000 in
theorem pop_nil (m : Value) (w : World) : Calls Try.prog 73 #[.pointer none, m] w fun e w' => e = .returned (.tuple #[.int .i64 0, .int .i64 1, .bool true]) ∧ w = w' := by
  go_enter Try.func73, Try.ntmps73
  go_wp2
  go_ret3
  exact ⟨rfl, rfl⟩
set_option maxRecDepth 100000 in
theorem pop_none (a : Addr) (w : World) : Calls Try.prog 73 #[.pointer (some a), .nilIface] w fun e w' => e = .returned (.tuple #[.int .i64 0, .int .i64 1, .bool true]) ∧ w = w' := by
  go_enter Try.func73, Try.ntmps73
  go_wp2
  go_ret3
  exact ⟨rfl, rfl⟩
set_option maxRecDepth 100000 in
theorem push_nil (m : Value) (w : World) : Calls Try.prog 55 #[.pointer none, m] w fun e w' => e = .returned (.tuple #[.int .i64 1, .bool true]) ∧ w = w' := by
  go_enter Try.func55, Try.ntmps55
  go_wp2
  go_ret2
  exact ⟨rfl, rfl⟩
set_option maxRecDepth 100000 in
theorem push_none (a : Addr) (w : World) : Calls Try.prog 55 #[.pointer (some a), .nilIface] w fun e w' => e = .returned (.tuple #[.int .i64 1, .bool true]) ∧ w = w' := by
  go_enter Try.func55, Try.ntmps55
  go_wp2
  go_ret2
  exact ⟨rfl, rfl⟩
def Begun (B : Nat) (W : World) (G : List Grp) (a s t : Int) (e : Ending) (w' : World) : Prop :=
  ∃ p bw bb m, e = .returned (.tuple #[.pointer (some ⟨p, 0, none⟩), .agg #[.int .i64 t, .int .i64 s]]) ∧ Owns B W w' (memG p bw bb (initW t s) (List.replicate a.toNat 0) m :: G)
end Go.Proofs.Ytboephhffklbbaa
