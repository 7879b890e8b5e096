/- Entry's law EntryPacks. -/
import Derived.Deep.RegionHeld3
import Derived.Test.YtdmeopiggkbpjaaEnLaws2
import Derived.Test.YtdmeopiggkbpjaaEnR2
namespace Go.Proofs.Ytdmeopiggkbpjaa
set_option linter.unusedVariables false
set_option linter.unusedSimpArgs false
open Go.RowKit
theorem below_of15 {a b c d e f g h i j k l m n : Prop} {B : Nat} {W w' : World} (H : a ∧ b ∧ c ∧ d ∧ e ∧ f ∧ g ∧ h ∧ i ∧ j ∧ k ∧ l ∧ m ∧ n ∧ Below B W w') : Below B W w' := H.2.2.2.2.2.2.2.2.2.2.2.2.2.2
set_option maxHeartbeats 4000000 in
theorem EntryPacks_walk (o g p u : Int) (l a : Bool) (x : Int) (W : World) : Calls Try.prog 9 #[.agg #[.int .i64 o, .int .i64 g, .int .i64 p, .int .i64 u, .bool l, .bool a], .int .i64 x] W fun e w' => e = .returned (.bool true) ∧ Below W.heap.size W w' := by
  go_enter Try.func9, Try.ntmps9
  go_wp2_with fail
  have a0 : (W.alloc (Obj.cells #[.int .i64 o, .int .i64 g, .int .i64 p, .int .i64 u, .bool l, .bool a] 36)).cell? ⟨W.heap.size, 0, none⟩ = some (.int .i64 o) := by simp
  have a1 : (W.alloc (Obj.cells #[.int .i64 o, .int .i64 g, .int .i64 p, .int .i64 u, .bool l, .bool a] 36)).cell? ⟨W.heap.size, 1, none⟩ = some (.int .i64 g) := by simp
  have a2 : (W.alloc (Obj.cells #[.int .i64 o, .int .i64 g, .int .i64 p, .int .i64 u, .bool l, .bool a] 36)).cell? ⟨W.heap.size, 2, none⟩ = some (.int .i64 p) := by simp
  have a3 : (W.alloc (Obj.cells #[.int .i64 o, .int .i64 g, .int .i64 p, .int .i64 u, .bool l, .bool a] 36)).cell? ⟨W.heap.size, 3, none⟩ = some (.int .i64 u) := by simp
  have a4 : (W.alloc (Obj.cells #[.int .i64 o, .int .i64 g, .int .i64 p, .int .i64 u, .bool l, .bool a] 36)).cell? ⟨W.heap.size, 4, none⟩ = some (.bool l) := by simp
  have a5 : (W.alloc (Obj.cells #[.int .i64 o, .int .i64 g, .int .i64 p, .int .i64 u, .bool l, .bool a] 36)).cell? ⟨W.heap.size, 5, none⟩ = some (.bool a) := by simp
  have hs : W.heap.size < (W.alloc (Obj.cells #[.int .i64 o, .int .i64 g, .int .i64 p, .int .i64 u, .bool l, .bool a] 36)).heap.size := by simp
  go_wp2_with first
    | (go_at_call 29; refine (law02_own _ _ _ _ _ _ _).mono ?_; rintro e w' ⟨rfl, hb⟩; have a0 := (hb.cell (p := ⟨W.heap.size, 0, none⟩) hs).trans a0; have a1 := (hb.cell (p := ⟨W.heap.size, 1, none⟩) hs).trans a1; have a2 := (hb.cell (p := ⟨W.heap.size, 2, none⟩) hs).trans a2; have a3 := (hb.cell (p := ⟨W.heap.size, 3, none⟩) hs).trans a3; have a4 := (hb.cell (p := ⟨W.heap.size, 4, none⟩) hs).trans a4; have a5 := (hb.cell (p := ⟨W.heap.size, 5, none⟩) hs).trans a5; have hs := Nat.lt_of_lt_of_le hs hb.size)
    | (go_at_call 28; refine (entry_Pack _ _ _ _ _ _ _).mono ?_; rintro e w' ⟨rfl, hb⟩; have a0 := (hb.cell (p := ⟨W.heap.size, 0, none⟩) hs).trans a0; have a1 := (hb.cell (p := ⟨W.heap.size, 1, none⟩) hs).trans a1; have a2 := (hb.cell (p := ⟨W.heap.size, 2, none⟩) hs).trans a2; have a3 := (hb.cell (p := ⟨W.heap.size, 3, none⟩) hs).trans a3; have a4 := (hb.cell (p := ⟨W.heap.size, 4, none⟩) hs).trans a4; have a5 := (hb.cell (p := ⟨W.heap.size, 5, none⟩) hs).trans a5; have hs := Nat.lt_of_lt_of_le hs hb.size)
    | (go_at_call 30; refine (ref02_Pack _ _ _ _ _ _ _).mono ?_; rintro e w' ⟨rfl, hb⟩; have a0 := (hb.cell (p := ⟨W.heap.size, 0, none⟩) hs).trans a0; have a1 := (hb.cell (p := ⟨W.heap.size, 1, none⟩) hs).trans a1; have a2 := (hb.cell (p := ⟨W.heap.size, 2, none⟩) hs).trans a2; have a3 := (hb.cell (p := ⟨W.heap.size, 3, none⟩) hs).trans a3; have a4 := (hb.cell (p := ⟨W.heap.size, 4, none⟩) hs).trans a4; have a5 := (hb.cell (p := ⟨W.heap.size, 5, none⟩) hs).trans a5; have hs := Nat.lt_of_lt_of_le hs hb.size)
    | (go_at_call 31; refine (entry_Unpack _ _).mono ?_; rintro e w' ⟨rfl, hb⟩; have hz := hb.size; (try simp only [World.size_alloc, World.size_drew, World.size_setCell, size_drewN] at hz))
    | (go_at_call 32; refine (ref02_Unpack _ _).mono ?_; rintro e w1 ⟨rfl, hb⟩; have hz := hb.size; (try simp only [World.size_alloc, World.size_drew, World.size_setCell, size_drewN] at hz))
  have k0 : w1.cell? ⟨w'.heap.size, 0, none⟩ = some (.int .i64 (uO x)) := (hb.cell (p := ⟨w'.heap.size, 0, none⟩) (by simp)).trans (by simp)
  have k1 : w1.cell? ⟨w'.heap.size, 1, none⟩ = some (.int .i64 (uG x)) := (hb.cell (p := ⟨w'.heap.size, 1, none⟩) (by simp)).trans (by simp)
  have k2 : w1.cell? ⟨w'.heap.size, 2, none⟩ = some (.int .i64 (uP x)) := (hb.cell (p := ⟨w'.heap.size, 2, none⟩) (by simp)).trans (by simp)
  have k3 : w1.cell? ⟨w'.heap.size, 3, none⟩ = some (.int .i64 (uU x)) := (hb.cell (p := ⟨w'.heap.size, 3, none⟩) (by simp)).trans (by simp)
  have k4 : w1.cell? ⟨w'.heap.size, 4, none⟩ = some (.bool (uL x)) := (hb.cell (p := ⟨w'.heap.size, 4, none⟩) (by simp)).trans (by simp)
  have k5 : w1.cell? ⟨w'.heap.size, 5, none⟩ = some (.bool (uA x)) := (hb.cell (p := ⟨w'.heap.size, 5, none⟩) (by simp)).trans (by simp)
  have ks : w'.heap.size < w1.heap.size := by have := hb.size; simp only [World.size_alloc] at this; omega
  go_region_held3 (fun w2 => w2.cell? ⟨w'.heap.size, 0, none⟩ = some (.int .i64 (uO x)) ∧ w2.cell? ⟨w'.heap.size, 1, none⟩ = some (.int .i64 (uG x)) ∧ w2.cell? ⟨w'.heap.size, 2, none⟩ = some (.int .i64 (uP x)) ∧ w2.cell? ⟨w'.heap.size, 3, none⟩ = some (.int .i64 (uU x)) ∧ w2.cell? ⟨w'.heap.size, 4, none⟩ = some (.bool (uL x)) ∧ w2.cell? ⟨w'.heap.size, 5, none⟩ = some (.bool (uA x)) ∧ w2.cell? ⟨w1.heap.size, 0, none⟩ = some (.int .i64 (uO x)) ∧ w2.cell? ⟨w1.heap.size, 1, none⟩ = some (.int .i64 (uG x)) ∧ w2.cell? ⟨w1.heap.size, 2, none⟩ = some (.int .i64 (uP x)) ∧ w2.cell? ⟨w1.heap.size, 3, none⟩ = some (.int .i64 (uU x)) ∧ w2.cell? ⟨w1.heap.size, 4, none⟩ = some (.bool (uL x)) ∧ w2.cell? ⟨w1.heap.size, 5, none⟩ = some (.bool (uA x)) ∧ w'.heap.size < w2.heap.size ∧ w1.heap.size < w2.heap.size ∧ Below W.heap.size W w2) (first | exact keep12 (by assumption) hb | exact init12 k0 k1 k2 k3 k4 k5 ks (by (repeat' (first | (with_reducible exact Below.refl _ _) | (with_reducible assumption) | (with_reducible refine below_drewN ?_ _) | (with_reducible refine Below.drew ?_) | (with_reducible refine Below.alloc ?_ ?_ _) | (with_reducible refine Below.setCell ?_ ?_ _) | (with_reducible refine below_via (by assumption) ?_ ?_) | go_size)))) (first
    | (go_at_call 33; refine (law02_told _ _ _ _ _ _ _).mono ?_; rintro e w' ⟨rfl, hb⟩)
    | (go_at_call 34; refine (law02_live _).mono ?_; rintro e w' ⟨rfl, hb⟩))
  have BB := below_of15 (by assumption)
  go_wp2_with fail
  go_ret
  exact ⟨rfl, BB⟩
end Go.Proofs.Ytdmeopiggkbpjaa
