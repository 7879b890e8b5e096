/- The stack's machines made; none of them; cells as they are at first. -/
import Derived.RegionTactic
import Derived.BigRegion
import Derived.Deep.RegionHeld3
import Derived.Test.YtpebepjfgnoaaaaGreatStS
import Derived.Test.YtpebepjfgnoaaaaGreatStU
import Derived.Test.YtpebepjfgnoaaaaGreatIni
import Derived.Test.YtpebepjfgnoaaaaGreatClN
namespace Go.Proofs.YtpebepjfgnoaaaaGreat
set_option linter.unusedVariables false
set_option linter.unusedSimpArgs false
open Go.RowKit
def MadeMach (T : TypeId) (B : Nat) (W : World) (G : List Grp) (t s sl : Int) (e : Ending) (w' : World) : Prop :=
  ∃ x, e = .returned (.pointer (some ⟨x, 0, none⟩)) ∧ Owns B W w' (machG T x t s 1 sl 0 0 :: G)
set_option maxHeartbeats 1000000 in
theorem stack_NewPop {B : Nat} {W w : World} {G : List Grp} (t s : Int) (hO : Owns B W w G) : Calls Tryz.prog 66 #[.agg #[.int .i64 t, .int .i64 s]] w (MadeMach 150 B W G t s 0) := by
  go_enter Tryz.func66, Tryz.ntmps66
  go_wp2
  go_ret
  refine ⟨w.heap.size + 1, rfl, ?_⟩
  have := (hO.alloc (.cells #[.int .i64 t, .int .i64 s] 56)).tail.alloc (machObj 150 t s 1 0 0 0)
  simp only [World.size_alloc] at this
  exact this
set_option maxHeartbeats 1000000 in
theorem stack_NewPush {B : Nat} {W w : World} {G : List Grp} (t s k : Int) (hO : Owns B W w G) : Calls Tryz.prog 53 #[.agg #[.int .i64 t, .int .i64 s], .int .i64 k] w (MadeMach 111 B W G t s k) := by
  go_enter Tryz.func53, Tryz.ntmps53
  go_wp2
  go_ret
  refine ⟨w.heap.size + 1, rfl, ?_⟩
  have := (hO.alloc (.cells #[.int .i64 t, .int .i64 s] 56)).tail.alloc (machObj 111 t s 1 k 0 0)
  simp only [World.size_alloc] at this
  exact this
set_option maxRecDepth 100000 in
theorem pop_nil (m : Value) (w : World) : Calls Tryz.prog 100 #[.pointer none, m] w fun e w' => e = .returned (.tuple #[.int .i64 0, .int .i64 1, .bool true]) ∧ w = w' := by
  go_enter Tryz.func100, Tryz.ntmps100
  go_wp2
  go_ret3
  exact ⟨rfl, rfl⟩
set_option maxRecDepth 100000 in
theorem pop_none (a : Addr) (w : World) : Calls Tryz.prog 100 #[.pointer (some a), .nilIface] w fun e w' => e = .returned (.tuple #[.int .i64 0, .int .i64 1, .bool true]) ∧ w = w' := by
  go_enter Tryz.func100, Tryz.ntmps100
  go_wp2
  go_ret3
  exact ⟨rfl, rfl⟩
set_option maxRecDepth 100000 in
theorem push_nil (m : Value) (w : World) : Calls Tryz.prog 31 #[.pointer none, m] w fun e w' => e = .returned (.tuple #[.int .i64 1, .bool true]) ∧ w = w' := by
  go_enter Tryz.func31, Tryz.ntmps31
  go_wp2
  go_ret2
  exact ⟨rfl, rfl⟩
set_option maxRecDepth 100000 in
theorem push_none (a : Addr) (w : World) : Calls Tryz.prog 31 #[.pointer (some a), .nilIface] w fun e w' => e = .returned (.tuple #[.int .i64 1, .bool true]) ∧ w = w' := by
  go_enter Tryz.func31, Tryz.ntmps31
  go_wp2
  go_ret2
  exact ⟨rfl, rfl⟩
set_option maxRecDepth 100000 in
theorem free_none (t s : Int) (w : World) : Calls Tryz.prog 22 #[.nilIface, .agg #[.int .i64 t, .int .i64 s]] w fun e w' => e = .returned (.slice none 0 0) ∧ Below w.heap.size w w' := by
  go_enter Tryz.func22, Tryz.ntmps22
  go_wp2
  go_ret
  exact ⟨rfl, by (repeat' (first | (with_reducible exact Below.refl _ _) | (with_reducible assumption) | (with_reducible refine below_drewN ?_ _) | (with_reducible refine Below.drew ?_) | (with_reducible refine Below.alloc ?_ ?_ _) | (with_reducible refine Below.setCell ?_ ?_ _) | (with_reducible refine below_via (by assumption) ?_ ?_) | go_size))⟩
def Begun (B : Nat) (W : World) (G : List Grp) (a s t : Int) (e : Ending) (w' : World) : Prop :=
  ∃ p bw bb m, e = .returned (.tuple #[.pointer (some ⟨p, 0, none⟩), .agg #[.int .i64 t, .int .i64 s]]) ∧ Owns B W w' (memG p bw bb (initW t s) (List.replicate a.toNat 0) m :: G)
end Go.Proofs.YtpebepjfgnoaaaaGreat
