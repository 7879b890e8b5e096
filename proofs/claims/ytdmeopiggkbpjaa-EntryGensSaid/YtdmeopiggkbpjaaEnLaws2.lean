/- The walk of entry's law EntryBack. -/
import Derived.Deep.RegionHeld3
import Derived.Test.YtdmeopiggkbpjaaEnLaws
namespace Go.Proofs.Ytdmeopiggkbpjaa
set_option linter.unusedVariables false
set_option linter.unusedSimpArgs false
open Go.RowKit
theorem keep12 {W w w' : World} {b0 b1 : Nat} {v0 v1 v2 v3 v4 v5 u0 u1 u2 u3 u4 u5 : Value} (h : w.cell? ⟨b0, 0, none⟩ = some v0 ∧ w.cell? ⟨b0, 1, none⟩ = some v1 ∧ w.cell? ⟨b0, 2, none⟩ = some v2 ∧ w.cell? ⟨b0, 3, none⟩ = some v3 ∧ w.cell? ⟨b0, 4, none⟩ = some v4 ∧ w.cell? ⟨b0, 5, none⟩ = some v5 ∧ w.cell? ⟨b1, 0, none⟩ = some u0 ∧ w.cell? ⟨b1, 1, none⟩ = some u1 ∧ w.cell? ⟨b1, 2, none⟩ = some u2 ∧ w.cell? ⟨b1, 3, none⟩ = some u3 ∧ w.cell? ⟨b1, 4, none⟩ = some u4 ∧ w.cell? ⟨b1, 5, none⟩ = some u5 ∧ b0 < w.heap.size ∧ b1 < w.heap.size ∧ Below W.heap.size W w) (hb : Below w.heap.size w w') : w'.cell? ⟨b0, 0, none⟩ = some v0 ∧ w'.cell? ⟨b0, 1, none⟩ = some v1 ∧ w'.cell? ⟨b0, 2, none⟩ = some v2 ∧ w'.cell? ⟨b0, 3, none⟩ = some v3 ∧ w'.cell? ⟨b0, 4, none⟩ = some v4 ∧ w'.cell? ⟨b0, 5, none⟩ = some v5 ∧ w'.cell? ⟨b1, 0, none⟩ = some u0 ∧ w'.cell? ⟨b1, 1, none⟩ = some u1 ∧ w'.cell? ⟨b1, 2, none⟩ = some u2 ∧ w'.cell? ⟨b1, 3, none⟩ = some u3 ∧ w'.cell? ⟨b1, 4, none⟩ = some u4 ∧ w'.cell? ⟨b1, 5, none⟩ = some u5 ∧ b0 < w'.heap.size ∧ b1 < w'.heap.size ∧ Below W.heap.size W w' := by
  obtain ⟨h0, h1, h2, h3, h4, h5, k0, k1, k2, k3, k4, k5, s0, s1, hw⟩ := h
  exact ⟨(hb.cell s0).trans h0, (hb.cell s0).trans h1, (hb.cell s0).trans h2, (hb.cell s0).trans h3, (hb.cell s0).trans h4, (hb.cell s0).trans h5, (hb.cell s1).trans k0, (hb.cell s1).trans k1, (hb.cell s1).trans k2, (hb.cell s1).trans k3, (hb.cell s1).trans k4, (hb.cell s1).trans k5, by have := hb.size; omega, by have := hb.size; omega, hw.trans (hb.mono hw.size)⟩
theorem init12 {W w : World} {b0 : Nat} {t : TypeId} {v0 v1 v2 v3 v4 v5 u0 u1 u2 u3 u4 u5 : Value} (h0 : w.cell? ⟨b0, 0, none⟩ = some v0) (h1 : w.cell? ⟨b0, 1, none⟩ = some v1) (h2 : w.cell? ⟨b0, 2, none⟩ = some v2) (h3 : w.cell? ⟨b0, 3, none⟩ = some v3) (h4 : w.cell? ⟨b0, 4, none⟩ = some v4) (h5 : w.cell? ⟨b0, 5, none⟩ = some v5) (s : b0 < w.heap.size) (hw : Below W.heap.size W w) : (w.alloc (Obj.cells #[u0, u1, u2, u3, u4, u5] t)).drew.cell? ⟨b0, 0, none⟩ = some v0 ∧ (w.alloc (Obj.cells #[u0, u1, u2, u3, u4, u5] t)).drew.cell? ⟨b0, 1, none⟩ = some v1 ∧ (w.alloc (Obj.cells #[u0, u1, u2, u3, u4, u5] t)).drew.cell? ⟨b0, 2, none⟩ = some v2 ∧ (w.alloc (Obj.cells #[u0, u1, u2, u3, u4, u5] t)).drew.cell? ⟨b0, 3, none⟩ = some v3 ∧ (w.alloc (Obj.cells #[u0, u1, u2, u3, u4, u5] t)).drew.cell? ⟨b0, 4, none⟩ = some v4 ∧ (w.alloc (Obj.cells #[u0, u1, u2, u3, u4, u5] t)).drew.cell? ⟨b0, 5, none⟩ = some v5 ∧ (w.alloc (Obj.cells #[u0, u1, u2, u3, u4, u5] t)).drew.cell? ⟨w.heap.size, 0, none⟩ = some u0 ∧ (w.alloc (Obj.cells #[u0, u1, u2, u3, u4, u5] t)).drew.cell? ⟨w.heap.size, 1, none⟩ = some u1 ∧ (w.alloc (Obj.cells #[u0, u1, u2, u3, u4, u5] t)).drew.cell? ⟨w.heap.size, 2, none⟩ = some u2 ∧ (w.alloc (Obj.cells #[u0, u1, u2, u3, u4, u5] t)).drew.cell? ⟨w.heap.size, 3, none⟩ = some u3 ∧ (w.alloc (Obj.cells #[u0, u1, u2, u3, u4, u5] t)).drew.cell? ⟨w.heap.size, 4, none⟩ = some u4 ∧ (w.alloc (Obj.cells #[u0, u1, u2, u3, u4, u5] t)).drew.cell? ⟨w.heap.size, 5, none⟩ = some u5 ∧ b0 < (w.alloc (Obj.cells #[u0, u1, u2, u3, u4, u5] t)).drew.heap.size ∧ w.heap.size < (w.alloc (Obj.cells #[u0, u1, u2, u3, u4, u5] t)).drew.heap.size ∧ Below W.heap.size W (w.alloc (Obj.cells #[u0, u1, u2, u3, u4, u5] t)).drew := by
  have hb : Below w.heap.size w (w.alloc (Obj.cells #[u0, u1, u2, u3, u4, u5] t)).drew := Below.drew (Below.alloc (Below.refl _ _) (Nat.le_refl _) _)
  have hz : w.heap.size < (w.alloc (Obj.cells #[u0, u1, u2, u3, u4, u5] t)).drew.heap.size := by rw [World.size_drew]; simp
  have k : ∀ n, (w.alloc (Obj.cells #[u0, u1, u2, u3, u4, u5] t)).drew.cell? ⟨w.heap.size, n, none⟩ = (w.alloc (Obj.cells #[u0, u1, u2, u3, u4, u5] t)).cell? ⟨w.heap.size, n, none⟩ := fun _ => rfl
  exact ⟨(hb.cell s).trans h0, (hb.cell s).trans h1, (hb.cell s).trans h2, (hb.cell s).trans h3, (hb.cell s).trans h4, (hb.cell s).trans h5, by rw [k]; simp, by rw [k]; simp, by rw [k]; simp, by rw [k]; simp, by rw [k]; simp, by rw [k]; simp, by omega, hz, hw.trans (hb.mono hw.size)⟩
set_option maxHeartbeats 4000000 in
theorem EntryBack_walk (o g p u : Int) (l a : Bool) (x : Int) (W : World) : Calls Try.prog 10 #[.agg #[.int .i64 o, .int .i64 g, .int .i64 p, .int .i64 u, .bool l, .bool a], .int .i64 x] W fun e w' => e = .returned (.bool true) ∧ Below W.heap.size W w' := by
  have hx := back_un x
  have bx : (x == x) = true := by simp
  rcases bool_cases (b := eMay o g p u l a) with h | h
  · obtain ⟨u1, u2, u3, u4, u5, u6, u7⟩ := un_pack h
    obtain ⟨v1, v2, v3, v4, v5, v6, v7⟩ := u_yes u1
    have P := Lib.hid (show ePack o g p u l a = (eWord o g p u l a, 0) by unfold ePack; rw [if_pos h])
    have U1 := Lib.hid (v1.trans u2)
    have U2 := Lib.hid (v2.trans u3)
    have U3 := Lib.hid (v3.trans u4)
    have U4 := Lib.hid (v4.trans u5)
    have U5 := Lib.hid (v5.trans u6)
    have U6 := Lib.hid (v6.trans u7)
    have U7 := Lib.hid v7
    clear u1 u2 u3 u4 u5 u6 u7 v1 v2 v3 v4 v5 v6 v7 h
    rcases hx with ⟨y1, y2⟩ | ⟨z7, z1, z2, z3, z4, z5, z6⟩
    · have Y1 := Lib.hid y1
      have Y2 := Lib.hid y2
      clear y1 y2
      go_enter Try.func10, Try.ntmps10
      go_wp2_with fail
      have a0 : (W.alloc (Obj.cells #[.int .i64 o, .int .i64 g, .int .i64 p, .int .i64 u, .bool l, .bool a] 36)).cell? ⟨W.heap.size, 0, none⟩ = some (.int .i64 o) := by simp
      have a1 : (W.alloc (Obj.cells #[.int .i64 o, .int .i64 g, .int .i64 p, .int .i64 u, .bool l, .bool a] 36)).cell? ⟨W.heap.size, 1, none⟩ = some (.int .i64 g) := by simp
      have a2 : (W.alloc (Obj.cells #[.int .i64 o, .int .i64 g, .int .i64 p, .int .i64 u, .bool l, .bool a] 36)).cell? ⟨W.heap.size, 2, none⟩ = some (.int .i64 p) := by simp
      have a3 : (W.alloc (Obj.cells #[.int .i64 o, .int .i64 g, .int .i64 p, .int .i64 u, .bool l, .bool a] 36)).cell? ⟨W.heap.size, 3, none⟩ = some (.int .i64 u) := by simp
      have a4 : (W.alloc (Obj.cells #[.int .i64 o, .int .i64 g, .int .i64 p, .int .i64 u, .bool l, .bool a] 36)).cell? ⟨W.heap.size, 4, none⟩ = some (.bool l) := by simp
      have a5 : (W.alloc (Obj.cells #[.int .i64 o, .int .i64 g, .int .i64 p, .int .i64 u, .bool l, .bool a] 36)).cell? ⟨W.heap.size, 5, none⟩ = some (.bool a) := by simp
      have hs : W.heap.size < (W.alloc (Obj.cells #[.int .i64 o, .int .i64 g, .int .i64 p, .int .i64 u, .bool l, .bool a] 36)).heap.size := by simp
      go_wp2_with first
        | (go_at_call 29; refine (law02_own _ _ _ _ _ _ _).mono ?_; rintro e w' ⟨rfl, hb⟩; have a0 := (hb.cell (p := ⟨W.heap.size, 0, none⟩) hs).trans a0; have a1 := (hb.cell (p := ⟨W.heap.size, 1, none⟩) hs).trans a1; have a2 := (hb.cell (p := ⟨W.heap.size, 2, none⟩) hs).trans a2; have a3 := (hb.cell (p := ⟨W.heap.size, 3, none⟩) hs).trans a3; have a4 := (hb.cell (p := ⟨W.heap.size, 4, none⟩) hs).trans a4; have a5 := (hb.cell (p := ⟨W.heap.size, 5, none⟩) hs).trans a5; have hs := Nat.lt_of_lt_of_le hs hb.size)
        | (go_at_call 33; refine (law02_told _ _ _ _ _ _ _).mono ?_; rintro e w' ⟨rfl, hb⟩; have a0 := (hb.cell (p := ⟨W.heap.size, 0, none⟩) hs).trans a0; have a1 := (hb.cell (p := ⟨W.heap.size, 1, none⟩) hs).trans a1; have a2 := (hb.cell (p := ⟨W.heap.size, 2, none⟩) hs).trans a2; have a3 := (hb.cell (p := ⟨W.heap.size, 3, none⟩) hs).trans a3; have a4 := (hb.cell (p := ⟨W.heap.size, 4, none⟩) hs).trans a4; have a5 := (hb.cell (p := ⟨W.heap.size, 5, none⟩) hs).trans a5; have hs := Nat.lt_of_lt_of_le hs hb.size)
        | (go_at_call 28; refine (entry_Pack _ _ _ _ _ _ _).mono ?_; (first | rw [P.out] | rw [Y2.out]); rintro e w' ⟨rfl, hb⟩; have a0 := (hb.cell (p := ⟨W.heap.size, 0, none⟩) hs).trans a0; have a1 := (hb.cell (p := ⟨W.heap.size, 1, none⟩) hs).trans a1; have a2 := (hb.cell (p := ⟨W.heap.size, 2, none⟩) hs).trans a2; have a3 := (hb.cell (p := ⟨W.heap.size, 3, none⟩) hs).trans a3; have a4 := (hb.cell (p := ⟨W.heap.size, 4, none⟩) hs).trans a4; have a5 := (hb.cell (p := ⟨W.heap.size, 5, none⟩) hs).trans a5; have hs := Nat.lt_of_lt_of_le hs hb.size)
        | (go_at_call 31; refine (entry_Unpack _ _).mono ?_; (first | rw [U1.out, U2.out, U3.out, U4.out, U5.out, U6.out, U7.out] | rw [Y1.out]); rintro e w' ⟨rfl, hb⟩; have a0 := (hb.cell (p := ⟨W.heap.size, 0, none⟩) hs).trans a0; have a1 := (hb.cell (p := ⟨W.heap.size, 1, none⟩) hs).trans a1; have a2 := (hb.cell (p := ⟨W.heap.size, 2, none⟩) hs).trans a2; have a3 := (hb.cell (p := ⟨W.heap.size, 3, none⟩) hs).trans a3; have a4 := (hb.cell (p := ⟨W.heap.size, 4, none⟩) hs).trans a4; have a5 := (hb.cell (p := ⟨W.heap.size, 5, none⟩) hs).trans a5; have hs := Nat.lt_of_lt_of_le hs hb.size)
        | (go_at_call 34; refine (law02_live _).mono ?_; rintro e w' ⟨rfl, hb⟩; have a0 := (hb.cell (p := ⟨W.heap.size, 0, none⟩) hs).trans a0; have a1 := (hb.cell (p := ⟨W.heap.size, 1, none⟩) hs).trans a1; have a2 := (hb.cell (p := ⟨W.heap.size, 2, none⟩) hs).trans a2; have a3 := (hb.cell (p := ⟨W.heap.size, 3, none⟩) hs).trans a3; have a4 := (hb.cell (p := ⟨W.heap.size, 4, none⟩) hs).trans a4; have a5 := (hb.cell (p := ⟨W.heap.size, 5, none⟩) hs).trans a5; have hs := Nat.lt_of_lt_of_le hs hb.size)
      go_region_held3 (fun w1 => w1.cell? ⟨W.heap.size, 0, none⟩ = some (.int .i64 o) ∧ w1.cell? ⟨W.heap.size, 1, none⟩ = some (.int .i64 g) ∧ w1.cell? ⟨W.heap.size, 2, none⟩ = some (.int .i64 p) ∧ w1.cell? ⟨W.heap.size, 3, none⟩ = some (.int .i64 u) ∧ w1.cell? ⟨W.heap.size, 4, none⟩ = some (.bool l) ∧ w1.cell? ⟨W.heap.size, 5, none⟩ = some (.bool a) ∧ w1.cell? ⟨w'.heap.size, 0, none⟩ = some (.int .i64 o) ∧ w1.cell? ⟨w'.heap.size, 1, none⟩ = some (.int .i64 g) ∧ w1.cell? ⟨w'.heap.size, 2, none⟩ = some (.int .i64 p) ∧ w1.cell? ⟨w'.heap.size, 3, none⟩ = some (.int .i64 u) ∧ w1.cell? ⟨w'.heap.size, 4, none⟩ = some (.bool l) ∧ w1.cell? ⟨w'.heap.size, 5, none⟩ = some (.bool a) ∧ W.heap.size < w1.heap.size ∧ w'.heap.size < w1.heap.size ∧ Below W.heap.size W w1) (first | exact keep12 (by assumption) hb | exact init12 a0 a1 a2 a3 a4 a5 hs (by (repeat' (first | (with_reducible exact Below.refl _ _) | (with_reducible assumption) | (with_reducible refine below_drewN ?_ _) | (with_reducible refine Below.drew ?_) | (with_reducible refine Below.alloc ?_ ?_ _) | (with_reducible refine Below.setCell ?_ ?_ _) | (with_reducible refine below_via (by assumption) ?_ ?_) | go_size)))) (first | (go_at_call 29; refine (law02_own _ _ _ _ _ _ _).mono ?_; rintro e w' ⟨rfl, hb⟩) | (go_at_call 33; refine (law02_told _ _ _ _ _ _ _).mono ?_; rintro e w' ⟨rfl, hb⟩) | (go_at_call 28; refine (entry_Pack _ _ _ _ _ _ _).mono ?_; (first | rw [P.out] | rw [Y2.out]); rintro e w' ⟨rfl, hb⟩) | (go_at_call 31; refine (entry_Unpack _ _).mono ?_; (first | rw [U1.out, U2.out, U3.out, U4.out, U5.out, U6.out, U7.out] | rw [Y1.out]); rintro e w' ⟨rfl, hb⟩) | (go_at_call 34; refine (law02_live _).mono ?_; rintro e w' ⟨rfl, hb⟩))
      go_wp2_with first
        | (go_at_call 29; refine (law02_own _ _ _ _ _ _ _).mono ?_; rintro e w' ⟨rfl, hb⟩; have hz := hb.size; (try simp only [World.size_alloc, World.size_drew, World.size_setCell, size_drewN] at hz))
        | (go_at_call 33; refine (law02_told _ _ _ _ _ _ _).mono ?_; rintro e w' ⟨rfl, hb⟩; have hz := hb.size; (try simp only [World.size_alloc, World.size_drew, World.size_setCell, size_drewN] at hz))
        | (go_at_call 28; refine (entry_Pack _ _ _ _ _ _ _).mono ?_; (first | rw [P.out] | rw [Y2.out]); rintro e w' ⟨rfl, hb⟩; have hz := hb.size; (try simp only [World.size_alloc, World.size_drew, World.size_setCell, size_drewN] at hz))
        | (go_at_call 31; refine (entry_Unpack _ _).mono ?_; (first | rw [U1.out, U2.out, U3.out, U4.out, U5.out, U6.out, U7.out] | rw [Y1.out]); rintro e w' ⟨rfl, hb⟩; have hz := hb.size; (try simp only [World.size_alloc, World.size_drew, World.size_setCell, size_drewN] at hz))
        | (go_at_call 34; refine (law02_live _).mono ?_; rintro e w' ⟨rfl, hb⟩; have hz := hb.size; (try simp only [World.size_alloc, World.size_drew, World.size_setCell, size_drewN] at hz))
      go_ret
      exact ⟨rfl, by (repeat' (first | (with_reducible exact Below.refl _ _) | (with_reducible assumption) | (with_reducible refine below_drewN ?_ _) | (with_reducible refine Below.drew ?_) | (with_reducible refine Below.alloc ?_ ?_ _) | (with_reducible refine Below.setCell ?_ ?_ _) | (with_reducible refine below_via (by assumption) ?_ ?_) | go_size))⟩
    · have Z1 := Lib.hid z1
      have Z2 := Lib.hid z2
      have Z3 := Lib.hid z3
      have Z4 := Lib.hid z4
      have Z5 := Lib.hid z5
      have Z6 := Lib.hid z6
      have Z7 := Lib.hid z7
      clear z1 z2 z3 z4 z5 z6 z7
      go_enter Try.func10, Try.ntmps10
      go_wp2_with fail
      have a0 : (W.alloc (Obj.cells #[.int .i64 o, .int .i64 g, .int .i64 p, .int .i64 u, .bool l, .bool a] 36)).cell? ⟨W.heap.size, 0, none⟩ = some (.int .i64 o) := by simp
      have a1 : (W.alloc (Obj.cells #[.int .i64 o, .int .i64 g, .int .i64 p, .int .i64 u, .bool l, .bool a] 36)).cell? ⟨W.heap.size, 1, none⟩ = some (.int .i64 g) := by simp
      have a2 : (W.alloc (Obj.cells #[.int .i64 o, .int .i64 g, .int .i64 p, .int .i64 u, .bool l, .bool a] 36)).cell? ⟨W.heap.size, 2, none⟩ = some (.int .i64 p) := by simp
      have a3 : (W.alloc (Obj.cells #[.int .i64 o, .int .i64 g, .int .i64 p, .int .i64 u, .bool l, .bool a] 36)).cell? ⟨W.heap.size, 3, none⟩ = some (.int .i64 u) := by simp
      have a4 : (W.alloc (Obj.cells #[.int .i64 o, .int .i64 g, .int .i64 p, .int .i64 u, .bool l, .bool a] 36)).cell? ⟨W.heap.size, 4, none⟩ = some (.bool l) := by simp
      have a5 : (W.alloc (Obj.cells #[.int .i64 o, .int .i64 g, .int .i64 p, .int .i64 u, .bool l, .bool a] 36)).cell? ⟨W.heap.size, 5, none⟩ = some (.bool a) := by simp
      have hs : W.heap.size < (W.alloc (Obj.cells #[.int .i64 o, .int .i64 g, .int .i64 p, .int .i64 u, .bool l, .bool a] 36)).heap.size := by simp
      go_wp2_with first
        | (go_at_call 29; refine (law02_own _ _ _ _ _ _ _).mono ?_; rintro e w' ⟨rfl, hb⟩; have a0 := (hb.cell (p := ⟨W.heap.size, 0, none⟩) hs).trans a0; have a1 := (hb.cell (p := ⟨W.heap.size, 1, none⟩) hs).trans a1; have a2 := (hb.cell (p := ⟨W.heap.size, 2, none⟩) hs).trans a2; have a3 := (hb.cell (p := ⟨W.heap.size, 3, none⟩) hs).trans a3; have a4 := (hb.cell (p := ⟨W.heap.size, 4, none⟩) hs).trans a4; have a5 := (hb.cell (p := ⟨W.heap.size, 5, none⟩) hs).trans a5; have hs := Nat.lt_of_lt_of_le hs hb.size)
        | (go_at_call 33; refine (law02_told _ _ _ _ _ _ _).mono ?_; rintro e w' ⟨rfl, hb⟩; have a0 := (hb.cell (p := ⟨W.heap.size, 0, none⟩) hs).trans a0; have a1 := (hb.cell (p := ⟨W.heap.size, 1, none⟩) hs).trans a1; have a2 := (hb.cell (p := ⟨W.heap.size, 2, none⟩) hs).trans a2; have a3 := (hb.cell (p := ⟨W.heap.size, 3, none⟩) hs).trans a3; have a4 := (hb.cell (p := ⟨W.heap.size, 4, none⟩) hs).trans a4; have a5 := (hb.cell (p := ⟨W.heap.size, 5, none⟩) hs).trans a5; have hs := Nat.lt_of_lt_of_le hs hb.size)
        | (go_at_call 28; refine (entry_Pack _ _ _ _ _ _ _).mono ?_; rw [P.out]; rintro e w' ⟨rfl, hb⟩; have a0 := (hb.cell (p := ⟨W.heap.size, 0, none⟩) hs).trans a0; have a1 := (hb.cell (p := ⟨W.heap.size, 1, none⟩) hs).trans a1; have a2 := (hb.cell (p := ⟨W.heap.size, 2, none⟩) hs).trans a2; have a3 := (hb.cell (p := ⟨W.heap.size, 3, none⟩) hs).trans a3; have a4 := (hb.cell (p := ⟨W.heap.size, 4, none⟩) hs).trans a4; have a5 := (hb.cell (p := ⟨W.heap.size, 5, none⟩) hs).trans a5; have hs := Nat.lt_of_lt_of_le hs hb.size)
        | (go_at_call 31; refine (entry_Unpack _ _).mono ?_; (first | rw [U1.out, U2.out, U3.out, U4.out, U5.out, U6.out, U7.out] | rw [Z7.out, Z1.out, Z2.out, Z3.out, Z4.out, Z5.out, Z6.out]); rintro e w' ⟨rfl, hb⟩; have a0 := (hb.cell (p := ⟨W.heap.size, 0, none⟩) hs).trans a0; have a1 := (hb.cell (p := ⟨W.heap.size, 1, none⟩) hs).trans a1; have a2 := (hb.cell (p := ⟨W.heap.size, 2, none⟩) hs).trans a2; have a3 := (hb.cell (p := ⟨W.heap.size, 3, none⟩) hs).trans a3; have a4 := (hb.cell (p := ⟨W.heap.size, 4, none⟩) hs).trans a4; have a5 := (hb.cell (p := ⟨W.heap.size, 5, none⟩) hs).trans a5; have hs := Nat.lt_of_lt_of_le hs hb.size)
        | (go_at_call 34; refine (law02_live _).mono ?_; rintro e w' ⟨rfl, hb⟩; have a0 := (hb.cell (p := ⟨W.heap.size, 0, none⟩) hs).trans a0; have a1 := (hb.cell (p := ⟨W.heap.size, 1, none⟩) hs).trans a1; have a2 := (hb.cell (p := ⟨W.heap.size, 2, none⟩) hs).trans a2; have a3 := (hb.cell (p := ⟨W.heap.size, 3, none⟩) hs).trans a3; have a4 := (hb.cell (p := ⟨W.heap.size, 4, none⟩) hs).trans a4; have a5 := (hb.cell (p := ⟨W.heap.size, 5, none⟩) hs).trans a5; have hs := Nat.lt_of_lt_of_le hs hb.size)
      go_region_held3 (fun w1 => w1.cell? ⟨W.heap.size, 0, none⟩ = some (.int .i64 o) ∧ w1.cell? ⟨W.heap.size, 1, none⟩ = some (.int .i64 g) ∧ w1.cell? ⟨W.heap.size, 2, none⟩ = some (.int .i64 p) ∧ w1.cell? ⟨W.heap.size, 3, none⟩ = some (.int .i64 u) ∧ w1.cell? ⟨W.heap.size, 4, none⟩ = some (.bool l) ∧ w1.cell? ⟨W.heap.size, 5, none⟩ = some (.bool a) ∧ w1.cell? ⟨w'.heap.size, 0, none⟩ = some (.int .i64 o) ∧ w1.cell? ⟨w'.heap.size, 1, none⟩ = some (.int .i64 g) ∧ w1.cell? ⟨w'.heap.size, 2, none⟩ = some (.int .i64 p) ∧ w1.cell? ⟨w'.heap.size, 3, none⟩ = some (.int .i64 u) ∧ w1.cell? ⟨w'.heap.size, 4, none⟩ = some (.bool l) ∧ w1.cell? ⟨w'.heap.size, 5, none⟩ = some (.bool a) ∧ W.heap.size < w1.heap.size ∧ w'.heap.size < w1.heap.size ∧ Below W.heap.size W w1) (first | exact keep12 (by assumption) hb | exact init12 a0 a1 a2 a3 a4 a5 hs (by (repeat' (first | (with_reducible exact Below.refl _ _) | (with_reducible assumption) | (with_reducible refine below_drewN ?_ _) | (with_reducible refine Below.drew ?_) | (with_reducible refine Below.alloc ?_ ?_ _) | (with_reducible refine Below.setCell ?_ ?_ _) | (with_reducible refine below_via (by assumption) ?_ ?_) | go_size)))) (first | (go_at_call 29; refine (law02_own _ _ _ _ _ _ _).mono ?_; rintro e w' ⟨rfl, hb⟩) | (go_at_call 33; refine (law02_told _ _ _ _ _ _ _).mono ?_; rintro e w' ⟨rfl, hb⟩) | (go_at_call 28; refine (entry_Pack _ _ _ _ _ _ _).mono ?_; rw [P.out]; rintro e w' ⟨rfl, hb⟩) | (go_at_call 31; refine (entry_Unpack _ _).mono ?_; (first | rw [U1.out, U2.out, U3.out, U4.out, U5.out, U6.out, U7.out] | rw [Z7.out, Z1.out, Z2.out, Z3.out, Z4.out, Z5.out, Z6.out]); rintro e w' ⟨rfl, hb⟩) | (go_at_call 34; refine (law02_live _).mono ?_; rintro e w' ⟨rfl, hb⟩))
      go_wp2_with first
        | (go_at_call 29; refine (law02_own _ _ _ _ _ _ _).mono ?_; rintro e w' ⟨rfl, hb⟩; have hz := hb.size; (try simp only [World.size_alloc, World.size_drew, World.size_setCell, size_drewN] at hz))
        | (go_at_call 33; refine (law02_told _ _ _ _ _ _ _).mono ?_; rintro e w' ⟨rfl, hb⟩; have hz := hb.size; (try simp only [World.size_alloc, World.size_drew, World.size_setCell, size_drewN] at hz))
        | (go_at_call 28; refine (entry_Pack _ _ _ _ _ _ _).mono ?_; rw [P.out]; rintro e w' ⟨rfl, hb⟩; have hz := hb.size; (try simp only [World.size_alloc, World.size_drew, World.size_setCell, size_drewN] at hz))
        | (go_at_call 31; refine (entry_Unpack _ _).mono ?_; (first | rw [U1.out, U2.out, U3.out, U4.out, U5.out, U6.out, U7.out] | rw [Z7.out, Z1.out, Z2.out, Z3.out, Z4.out, Z5.out, Z6.out]); rintro e w' ⟨rfl, hb⟩; have hz := hb.size; (try simp only [World.size_alloc, World.size_drew, World.size_setCell, size_drewN] at hz))
        | (go_at_call 34; refine (law02_live _).mono ?_; rintro e w' ⟨rfl, hb⟩; have hz := hb.size; (try simp only [World.size_alloc, World.size_drew, World.size_setCell, size_drewN] at hz))
      go_ret
      exact ⟨rfl, by (repeat' (first | (with_reducible exact Below.refl _ _) | (with_reducible assumption) | (with_reducible refine below_drewN ?_ _) | (with_reducible refine Below.drew ?_) | (with_reducible refine Below.alloc ?_ ?_ _) | (with_reducible refine Below.setCell ?_ ?_ _) | (with_reducible refine below_via (by assumption) ?_ ?_) | go_size))⟩
  · have P := Lib.hid (show ePack o g p u l a = (0, 1) by unfold ePack; rw [if_neg (by rw [h]; decide)])
    clear h
    rcases hx with ⟨y1, y2⟩ | ⟨z7, z1, z2, z3, z4, z5, z6⟩
    · have Y1 := Lib.hid y1
      have Y2 := Lib.hid y2
      clear y1 y2
      go_enter Try.func10, Try.ntmps10
      go_wp2_with fail
      have a0 : (W.alloc (Obj.cells #[.int .i64 o, .int .i64 g, .int .i64 p, .int .i64 u, .bool l, .bool a] 36)).cell? ⟨W.heap.size, 0, none⟩ = some (.int .i64 o) := by simp
      have a1 : (W.alloc (Obj.cells #[.int .i64 o, .int .i64 g, .int .i64 p, .int .i64 u, .bool l, .bool a] 36)).cell? ⟨W.heap.size, 1, none⟩ = some (.int .i64 g) := by simp
      have a2 : (W.alloc (Obj.cells #[.int .i64 o, .int .i64 g, .int .i64 p, .int .i64 u, .bool l, .bool a] 36)).cell? ⟨W.heap.size, 2, none⟩ = some (.int .i64 p) := by simp
      have a3 : (W.alloc (Obj.cells #[.int .i64 o, .int .i64 g, .int .i64 p, .int .i64 u, .bool l, .bool a] 36)).cell? ⟨W.heap.size, 3, none⟩ = some (.int .i64 u) := by simp
      have a4 : (W.alloc (Obj.cells #[.int .i64 o, .int .i64 g, .int .i64 p, .int .i64 u, .bool l, .bool a] 36)).cell? ⟨W.heap.size, 4, none⟩ = some (.bool l) := by simp
      have a5 : (W.alloc (Obj.cells #[.int .i64 o, .int .i64 g, .int .i64 p, .int .i64 u, .bool l, .bool a] 36)).cell? ⟨W.heap.size, 5, none⟩ = some (.bool a) := by simp
      have hs : W.heap.size < (W.alloc (Obj.cells #[.int .i64 o, .int .i64 g, .int .i64 p, .int .i64 u, .bool l, .bool a] 36)).heap.size := by simp
      go_wp2_with first
        | (go_at_call 29; refine (law02_own _ _ _ _ _ _ _).mono ?_; rintro e w' ⟨rfl, hb⟩; have hz := hb.size; (try simp only [World.size_alloc, World.size_drew, World.size_setCell, size_drewN] at hz))
        | (go_at_call 33; refine (law02_told _ _ _ _ _ _ _).mono ?_; rintro e w' ⟨rfl, hb⟩; have hz := hb.size; (try simp only [World.size_alloc, World.size_drew, World.size_setCell, size_drewN] at hz))
        | (go_at_call 28; refine (entry_Pack _ _ _ _ _ _ _).mono ?_; (first | rw [P.out] | rw [Y2.out]); rintro e w' ⟨rfl, hb⟩; have hz := hb.size; (try simp only [World.size_alloc, World.size_drew, World.size_setCell, size_drewN] at hz))
        | (go_at_call 31; refine (entry_Unpack _ _).mono ?_; rw [Y1.out]; rintro e w' ⟨rfl, hb⟩; have hz := hb.size; (try simp only [World.size_alloc, World.size_drew, World.size_setCell, size_drewN] at hz))
        | (go_at_call 34; refine (law02_live _).mono ?_; rintro e w' ⟨rfl, hb⟩; have hz := hb.size; (try simp only [World.size_alloc, World.size_drew, World.size_setCell, size_drewN] at hz))
      go_ret
      exact ⟨rfl, by (repeat' (first | (with_reducible exact Below.refl _ _) | (with_reducible assumption) | (with_reducible refine below_drewN ?_ _) | (with_reducible refine Below.drew ?_) | (with_reducible refine Below.alloc ?_ ?_ _) | (with_reducible refine Below.setCell ?_ ?_ _) | (with_reducible refine below_via (by assumption) ?_ ?_) | go_size))⟩
    · have Z1 := Lib.hid z1
      have Z2 := Lib.hid z2
      have Z3 := Lib.hid z3
      have Z4 := Lib.hid z4
      have Z5 := Lib.hid z5
      have Z6 := Lib.hid z6
      have Z7 := Lib.hid z7
      clear z1 z2 z3 z4 z5 z6 z7
      go_enter Try.func10, Try.ntmps10
      go_wp2_with fail
      have a0 : (W.alloc (Obj.cells #[.int .i64 o, .int .i64 g, .int .i64 p, .int .i64 u, .bool l, .bool a] 36)).cell? ⟨W.heap.size, 0, none⟩ = some (.int .i64 o) := by simp
      have a1 : (W.alloc (Obj.cells #[.int .i64 o, .int .i64 g, .int .i64 p, .int .i64 u, .bool l, .bool a] 36)).cell? ⟨W.heap.size, 1, none⟩ = some (.int .i64 g) := by simp
      have a2 : (W.alloc (Obj.cells #[.int .i64 o, .int .i64 g, .int .i64 p, .int .i64 u, .bool l, .bool a] 36)).cell? ⟨W.heap.size, 2, none⟩ = some (.int .i64 p) := by simp
      have a3 : (W.alloc (Obj.cells #[.int .i64 o, .int .i64 g, .int .i64 p, .int .i64 u, .bool l, .bool a] 36)).cell? ⟨W.heap.size, 3, none⟩ = some (.int .i64 u) := by simp
      have a4 : (W.alloc (Obj.cells #[.int .i64 o, .int .i64 g, .int .i64 p, .int .i64 u, .bool l, .bool a] 36)).cell? ⟨W.heap.size, 4, none⟩ = some (.bool l) := by simp
      have a5 : (W.alloc (Obj.cells #[.int .i64 o, .int .i64 g, .int .i64 p, .int .i64 u, .bool l, .bool a] 36)).cell? ⟨W.heap.size, 5, none⟩ = some (.bool a) := by simp
      have hs : W.heap.size < (W.alloc (Obj.cells #[.int .i64 o, .int .i64 g, .int .i64 p, .int .i64 u, .bool l, .bool a] 36)).heap.size := by simp
      go_wp2_with first
        | (go_at_call 29; refine (law02_own _ _ _ _ _ _ _).mono ?_; rintro e w' ⟨rfl, hb⟩; have hz := hb.size; (try simp only [World.size_alloc, World.size_drew, World.size_setCell, size_drewN] at hz))
        | (go_at_call 33; refine (law02_told _ _ _ _ _ _ _).mono ?_; rintro e w' ⟨rfl, hb⟩; have hz := hb.size; (try simp only [World.size_alloc, World.size_drew, World.size_setCell, size_drewN] at hz))
        | (go_at_call 28; refine (entry_Pack _ _ _ _ _ _ _).mono ?_; rw [P.out]; rintro e w' ⟨rfl, hb⟩; have hz := hb.size; (try simp only [World.size_alloc, World.size_drew, World.size_setCell, size_drewN] at hz))
        | (go_at_call 31; refine (entry_Unpack _ _).mono ?_; rw [Z7.out, Z1.out, Z2.out, Z3.out, Z4.out, Z5.out, Z6.out]; rintro e w' ⟨rfl, hb⟩; have hz := hb.size; (try simp only [World.size_alloc, World.size_drew, World.size_setCell, size_drewN] at hz))
        | (go_at_call 34; refine (law02_live _).mono ?_; rintro e w' ⟨rfl, hb⟩; have hz := hb.size; (try simp only [World.size_alloc, World.size_drew, World.size_setCell, size_drewN] at hz))
      go_ret
      exact ⟨rfl, by (repeat' (first | (with_reducible exact Below.refl _ _) | (with_reducible assumption) | (with_reducible refine below_drewN ?_ _) | (with_reducible refine Below.drew ?_) | (with_reducible refine Below.alloc ?_ ?_ _) | (with_reducible refine Below.setCell ?_ ?_ _) | (with_reducible refine below_via (by assumption) ?_ ?_) | go_size))⟩
end Go.Proofs.Ytdmeopiggkbpjaa
