/- The law package's helpers of entry: own, told, live. -/
import Derived.Test.YtdmeopiggkbpjaaEnN
namespace Go.Proofs.Ytdmeopiggkbpjaa
set_option linter.unusedVariables false
set_option linter.unusedSimpArgs false
open Go.RowKit
set_option maxHeartbeats 400000 in
theorem law02_own (o g p u : Int) (l a : Bool) (W : World) : Calls Try.prog 29 #[.agg #[.int .i64 o, .int .i64 g, .int .i64 p, .int .i64 u, .bool l, .bool a]] W fun e w' => e = .returned (.agg #[.int .i64 o, .int .i64 g, .int .i64 p, .int .i64 u, .bool l, .bool a]) ∧ Below W.heap.size W w' := by
  go_enter Try.func29, Try.ntmps29
  go_wp2_with fail
  exact bodyPost_ret (v := .agg #[.int .i64 o, .int .i64 g, .int .i64 p, .int .i64 u, .bool l, .bool a]) (by simp [results, Try.results29, go_sem]) rfl ⟨rfl, by (repeat' (first | (with_reducible exact Below.refl _ _) | (with_reducible assumption) | (with_reducible refine below_drewN ?_ _) | (with_reducible refine Below.drew ?_) | (with_reducible refine Below.alloc ?_ ?_ _) | (with_reducible refine Below.setCell ?_ ?_ _) | (with_reducible refine below_via (by assumption) ?_ ?_) | go_size))⟩
set_option maxHeartbeats 400000 in
theorem law02_told (o g p u : Int) (l a : Bool) (W : World) : Calls Try.prog 33 #[.agg #[.int .i64 o, .int .i64 g, .int .i64 p, .int .i64 u, .bool l, .bool a]] W fun e w' => e = .returned (.agg #[.int .i64 o, .int .i64 g, .int .i64 p, .int .i64 u, .bool l, .bool a]) ∧ Below W.heap.size W w' := by
  go_enter Try.func33, Try.ntmps33
  go_wp2_with fail
  exact bodyPost_ret (v := .agg #[.int .i64 o, .int .i64 g, .int .i64 p, .int .i64 u, .bool l, .bool a]) (by simp [results, Try.results33, go_sem]) rfl ⟨rfl, by (repeat' (first | (with_reducible exact Below.refl _ _) | (with_reducible assumption) | (with_reducible refine below_drewN ?_ _) | (with_reducible refine Below.drew ?_) | (with_reducible refine Below.alloc ?_ ?_ _) | (with_reducible refine Below.setCell ?_ ?_ _) | (with_reducible refine below_via (by assumption) ?_ ?_) | go_size))⟩
set_option maxHeartbeats 2000000 in
set_option maxRecDepth 100000 in
theorem law02_live (W : World) : Calls Try.prog 34 #[] W fun e w' => e = .returned (.bool true) ∧ Below W.heap.size W w' := by
  have e1 : ePack 0 1 0 0 false true = (562949954469888, 0) := by decide
  have e2 : ePin 562949954469888 = (564049466097664, 0) := by decide
  have e3 : eLock 564049466097664 true = (0, 1) := by decide
  have e4 : eUnpin 564049466097664 = (562949954469888, 0) := by decide
  have e5 : eUnpin 562949954469888 = (0, 8) := by decide
  have e6 : eLock 562949954469888 true = (844424931180544, 0) := by decide
  have e7 : eMove 844424931180544 64 = (562949954469952, 0) := by decide
  have e8 : eNext 562949954469952 = (2097152, 0) := by decide
  have e9 : eNextMore 562949954469952 = true := by decide
  have f1 : eOk (-1) = 2 := by decide
  have g1 : uO 2097152 = 0 := by decide
  have g2 : uG 2097152 = 2 := by decide
  have g3 : uP 2097152 = 0 := by decide
  have g4 : uU 2097152 = 0 := by decide
  have g5 : uL 2097152 = false := by decide
  have g6 : uA 2097152 = false := by decide
  have g7 : eOk 2097152 = 0 := by decide
  go_enter Try.func34, Try.ntmps34
  go_wp2_with first
    | (go_at_call 28; refine (entry_Pack _ _ _ _ _ _ _).mono ?_; rw [e1]; rintro e w' ⟨rfl, hb⟩; have hz := hb.size; (try simp only [World.size_alloc, World.size_drew, World.size_setCell, size_drewN] at hz))
    | (go_at_call 35; refine (entry_Pin _ _).mono ?_; rw [e2]; rintro e w' ⟨rfl, hb⟩; have hz := hb.size; (try simp only [World.size_alloc, World.size_drew, World.size_setCell, size_drewN] at hz))
    | (go_at_call 37; refine (entry_Lock _ _ _).mono ?_; (first | rw [e3] | rw [e6]); rintro e w' ⟨rfl, hb⟩; have hz := hb.size; (try simp only [World.size_alloc, World.size_drew, World.size_setCell, size_drewN] at hz))
    | (go_at_call 36; refine (entry_Unpin _ _).mono ?_; (first | rw [e4] | rw [e5]); rintro e w' ⟨rfl, hb⟩; have hz := hb.size; (try simp only [World.size_alloc, World.size_drew, World.size_setCell, size_drewN] at hz))
    | (go_at_call 39; refine (entry_Move _ _ _).mono ?_; rw [e7]; rintro e w' ⟨rfl, hb⟩; have hz := hb.size; (try simp only [World.size_alloc, World.size_drew, World.size_setCell, size_drewN] at hz))
    | (go_at_call 38; refine (entry_Next _ _).mono ?_; rw [e8, e9]; rintro e w' ⟨rfl, hb⟩; have hz := hb.size; (try simp only [World.size_alloc, World.size_drew, World.size_setCell, size_drewN] at hz))
    | (go_at_call 31; refine (entry_Unpack _ _).mono ?_; (first | rw [f1] | rw [g1, g2, g3, g4, g5, g6, g7]); rintro e w' ⟨rfl, hb⟩; have hz := hb.size; (try simp only [World.size_alloc, World.size_drew, World.size_setCell, size_drewN] at hz))
  go_ret
  exact ⟨rfl, by (repeat' (first | (with_reducible exact Below.refl _ _) | (with_reducible assumption) | (with_reducible refine below_drewN ?_ _) | (with_reducible refine Below.drew ?_) | (with_reducible refine Below.alloc ?_ ?_ _) | (with_reducible refine Below.setCell ?_ ?_ _) | (with_reducible refine below_via (by assumption) ?_ ?_) | go_size))⟩
end Go.Proofs.Ytdmeopiggkbpjaa
