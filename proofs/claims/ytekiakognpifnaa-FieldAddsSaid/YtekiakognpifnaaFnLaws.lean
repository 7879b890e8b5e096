/- The walks of field's laws. -/
import Derived.Deep.DeepCutAuto
import Derived.Test.YtekiakognpifnaaFnR
import Derived.Test.YtekiakognpifnaaFnX
namespace Go.Proofs.Ytekiakognpifnaa
set_option linter.unusedVariables false
set_option linter.unusedSimpArgs false
open Go.RowKit
set_option maxHeartbeats 2000000 in
theorem FieldTells_walk (w p b : Int) (W : World) : Calls Try.prog 9 #[.int .i64 w, .agg #[.int .i64 p, .int .i64 b]] W fun e w' => e = .returned (.bool true) ∧ Below W.heap.size W w' := by
  go_enter Try.func9, Try.ntmps9
  go_wp2_with fail
  have a0 : (W.alloc (Obj.cells #[.int .i64 p, .int .i64 b] 37)).cell? ⟨W.heap.size, 0, none⟩ = some (.int .i64 p) := by simp
  have a1 : (W.alloc (Obj.cells #[.int .i64 p, .int .i64 b] 37)).cell? ⟨W.heap.size, 1, none⟩ = some (.int .i64 b) := by simp
  have hs : W.heap.size < (W.alloc (Obj.cells #[.int .i64 p, .int .i64 b] 37)).heap.size := by simp
  have g1 : (fGet w p b == fGet w p b) = true := by simp
  have g2 : (fMost p b == fMost p b) = true := by simp
  have g3 : (fChk p b == fChk p b) = true := by simp
  go_region_held3 (fun w' => w'.cell? ⟨W.heap.size, 0, none⟩ = some (.int .i64 p) ∧ w'.cell? ⟨W.heap.size, 1, none⟩ = some (.int .i64 b) ∧ W.heap.size < w'.heap.size ∧ Below W.heap.size W w') (first | exact keep2 (by assumption) hb | exact ⟨a0, a1, hs, by (repeat' (first | (with_reducible exact Below.refl _ _) | (with_reducible assumption) | (with_reducible refine below_drewN ?_ _) | (with_reducible refine Below.drew ?_) | (with_reducible refine Below.alloc ?_ ?_ _) | (with_reducible refine Below.setCell ?_ ?_ _) | (with_reducible refine below_via (by assumption) ?_ ?_) | go_size))⟩ | go_keep) ((first
    | (go_at_call 24; refine (law01_own _ _ _).mono ?_; rintro e w' ⟨rfl, hb⟩)
    | (go_at_call 23; refine (field_Get _ _ _ _).mono ?_; rintro e w' ⟨rfl, hb⟩)
    | (go_at_call 25; refine (ref01_Get _ _ _ _).mono ?_; rintro e w' ⟨rfl, hb⟩)
    | (go_at_call 26; refine (field_Most _ _ _).mono ?_; rintro e w' ⟨rfl, hb⟩)
    | (go_at_call 27; refine (ref01_Most _ _ _).mono ?_; rintro e w' ⟨rfl, hb⟩)
    | (go_at_call 28; refine (field_Check _ _ _).mono ?_; rintro e w' ⟨rfl, hb⟩)
    | (go_at_call 29; refine (ref01_Check _ _ _).mono ?_; rintro e w' ⟨rfl, hb⟩)
    | (go_at_call 30; refine (law01_live _).mono ?_; rintro e w' ⟨rfl, hb⟩)))
  all_goals
    go_wp2
    go_ret
    exact ⟨rfl, below_of (by assumption)⟩
set_option maxHeartbeats 2000000 in
theorem FieldAdds_yes (w p b n v : Int) (W : World) (hn : -1099511627776 ≤ n) (hn' : n ≤ 1099511627776) (e1 : fAdd w p b n = (v, 0)) (e2 : fAdd v p b (-n) = (w, 0)) (e3 : fGet v p b = fGet w p b + n) (e4 : fTop w p b n = v) : Calls Try.prog 11 #[.int .i64 w, .agg #[.int .i64 p, .int .i64 b], .int .i64 n] W fun e w' => e = .returned (.bool true) ∧ Below W.heap.size W w' := by
  have E1 := Lib.hid e1
  have E2 := Lib.hid e2
  have E3 := Lib.hid e3
  have E4 := Lib.hid e4
  have gw := @fGet_in w p b
  have gb : pw b - 1 ≤ 4294967295 ∨ fGet w p b = 0 := by
    by_cases hm : fMay p b = true
    · have := pw_b hm; omega
    · right; unfold fGet; rw [if_neg (fun h => hm h.2)]
  have gx : -9223372036854775808 ≤ fGet w p b + n ∧ fGet w p b + n ≤ 9223372036854775807 := by omega
  obtain ⟨gx1, gx2⟩ := gx
  have b1 : (w == w) = true := by simp
  have b2 : (fGet w p b + n == fGet w p b + n) = true := by simp
  have b3 : (v == v) = true := by simp
  have ws : IntKind.i64.wrap (fGet w p b + n) = fGet w p b + n := i64any _ gx1 gx2
  clear e1 e2 e3 e4 gb gw
  go_enter Try.func11, Try.ntmps11
  go_wp2_with fail
  have a0 : (W.alloc (Obj.cells #[.int .i64 p, .int .i64 b] 37)).cell? ⟨W.heap.size, 0, none⟩ = some (.int .i64 p) := by simp
  have a1 : (W.alloc (Obj.cells #[.int .i64 p, .int .i64 b] 37)).cell? ⟨W.heap.size, 1, none⟩ = some (.int .i64 b) := by simp
  have hs : W.heap.size < (W.alloc (Obj.cells #[.int .i64 p, .int .i64 b] 37)).heap.size := by simp
  go_wp2_with first
    | (go_at_call 24; refine (law01_own _ _ _).mono ?_; rintro e w' ⟨rfl, hb⟩; have a0 := (hb.cell (p := ⟨W.heap.size, 0, none⟩) hs).trans a0; have a1 := (hb.cell (p := ⟨W.heap.size, 1, none⟩) hs).trans a1; have hs := Nat.lt_of_lt_of_le hs hb.size)
    | (go_at_call 32; refine (field_Add _ _ _ _ _ (by omega) (by omega)).mono ?_; (first | rw [E1.out] | rw [E2.out]); rintro e w' ⟨rfl, hb⟩; have a0 := (hb.cell (p := ⟨W.heap.size, 0, none⟩) hs).trans a0; have a1 := (hb.cell (p := ⟨W.heap.size, 1, none⟩) hs).trans a1; have hs := Nat.lt_of_lt_of_le hs hb.size)
  go_region_held3 (fun w' => w'.cell? ⟨W.heap.size, 0, none⟩ = some (.int .i64 p) ∧ w'.cell? ⟨W.heap.size, 1, none⟩ = some (.int .i64 b) ∧ W.heap.size < w'.heap.size ∧ Below W.heap.size W w') (first | exact keep2 (by assumption) hb | exact ⟨a0, a1, hs, by (repeat' (first | (with_reducible exact Below.refl _ _) | (with_reducible assumption) | (with_reducible refine below_drewN ?_ _) | (with_reducible refine Below.drew ?_) | (with_reducible refine Below.alloc ?_ ?_ _) | (with_reducible refine Below.setCell ?_ ?_ _) | (with_reducible refine below_via (by assumption) ?_ ?_) | go_size))⟩ | go_keep) ((first
    | (go_at_call 24; refine (law01_own _ _ _).mono ?_; rintro e w' ⟨rfl, hb⟩)
    | (go_at_call 23; refine (field_Get _ _ _ _).mono ?_; (try rw [E3.out]); rintro e w' ⟨rfl, hb⟩)
    | (go_at_call 33; refine (field_Top _ _ _ _ _ (by omega) (by omega)).mono ?_; rw [E4.out]; rintro e w' ⟨rfl, hb⟩)
    | (go_at_call 30; refine (law01_live _).mono ?_; rintro e w' ⟨rfl, hb⟩)))
  all_goals
    go_wp2
    go_ret
    exact ⟨rfl, below_of (by assumption)⟩
set_option maxHeartbeats 2000000 in
theorem FieldAdds_walk (w p b n : Int) (W : World) (hn : -9223372036854775808 ≤ n) (hn' : n ≤ 9223372036854775807) : Calls Try.prog 11 #[.int .i64 w, .agg #[.int .i64 p, .int .i64 b], .int .i64 n] W fun e w' => e = .returned (.bool true) ∧ Below W.heap.size W w' := by
  by_cases h : (fAdd w p b n).2 = 0
  · by_cases c : -1099511627776 ≤ n ∧ n ≤ 1099511627776
    · obtain ⟨v, e1, e2, e3, e4, _⟩ := add_all h
      exact FieldAdds_yes w p b n v W c.1 c.2 e1 e2 e3 e4
    · have c' : n < -1099511627776 ∨ 1099511627776 < n := by omega
      have hb0 : ((fAdd w p b n).2 != 0) = false := by rw [h]; rfl
      clear h c
      rcases c' with c' | c'
      all_goals
        go_enter Try.func11, Try.ntmps11
        go_wp2_with fail
        have a0 : (W.alloc (Obj.cells #[.int .i64 p, .int .i64 b] 37)).cell? ⟨W.heap.size, 0, none⟩ = some (.int .i64 p) := by simp
        have a1 : (W.alloc (Obj.cells #[.int .i64 p, .int .i64 b] 37)).cell? ⟨W.heap.size, 1, none⟩ = some (.int .i64 b) := by simp
        have hs : W.heap.size < (W.alloc (Obj.cells #[.int .i64 p, .int .i64 b] 37)).heap.size := by simp
        go_wp2_with first
          | (go_at_call 24; refine (law01_own _ _ _).mono ?_; rintro e w' ⟨rfl, hb⟩; have a0 := (hb.cell (p := ⟨W.heap.size, 0, none⟩) hs).trans a0; have a1 := (hb.cell (p := ⟨W.heap.size, 1, none⟩) hs).trans a1; have hs := Nat.lt_of_lt_of_le hs hb.size)
          | (go_at_call 32; refine (field_Add _ _ _ _ _ hn hn').mono ?_; rintro e w' ⟨rfl, hb⟩; have a0 := (hb.cell (p := ⟨W.heap.size, 0, none⟩) hs).trans a0; have a1 := (hb.cell (p := ⟨W.heap.size, 1, none⟩) hs).trans a1; have hs := Nat.lt_of_lt_of_le hs hb.size)
          | (go_at_call 30; refine (law01_live _).mono ?_; rintro e w' ⟨rfl, hb⟩; have a0 := (hb.cell (p := ⟨W.heap.size, 0, none⟩) hs).trans a0; have a1 := (hb.cell (p := ⟨W.heap.size, 1, none⟩) hs).trans a1; have hs := Nat.lt_of_lt_of_le hs hb.size)
        all_goals first | (exfalso; omega) | (go_ret; exact ⟨rfl, by (repeat' (first | (with_reducible exact Below.refl _ _) | (with_reducible assumption) | (with_reducible refine below_drewN ?_ _) | (with_reducible refine Below.drew ?_) | (with_reducible refine Below.alloc ?_ ?_ _) | (with_reducible refine Below.setCell ?_ ?_ _) | (with_reducible refine below_via (by assumption) ?_ ?_) | go_size))⟩)
  · have hb0 : ((fAdd w p b n).2 != 0) = true := by simpa using h
    clear h
    go_enter Try.func11, Try.ntmps11
    go_wp2_with fail
    have a0 : (W.alloc (Obj.cells #[.int .i64 p, .int .i64 b] 37)).cell? ⟨W.heap.size, 0, none⟩ = some (.int .i64 p) := by simp
    have a1 : (W.alloc (Obj.cells #[.int .i64 p, .int .i64 b] 37)).cell? ⟨W.heap.size, 1, none⟩ = some (.int .i64 b) := by simp
    have hs : W.heap.size < (W.alloc (Obj.cells #[.int .i64 p, .int .i64 b] 37)).heap.size := by simp
    go_wp2_with first
      | (go_at_call 24; refine (law01_own _ _ _).mono ?_; rintro e w' ⟨rfl, hb⟩; have a0 := (hb.cell (p := ⟨W.heap.size, 0, none⟩) hs).trans a0; have a1 := (hb.cell (p := ⟨W.heap.size, 1, none⟩) hs).trans a1; have hs := Nat.lt_of_lt_of_le hs hb.size)
      | (go_at_call 32; refine (field_Add _ _ _ _ _ hn hn').mono ?_; rintro e w' ⟨rfl, hb⟩; have a0 := (hb.cell (p := ⟨W.heap.size, 0, none⟩) hs).trans a0; have a1 := (hb.cell (p := ⟨W.heap.size, 1, none⟩) hs).trans a1; have hs := Nat.lt_of_lt_of_le hs hb.size)
      | (go_at_call 30; refine (law01_live _).mono ?_; rintro e w' ⟨rfl, hb⟩; have a0 := (hb.cell (p := ⟨W.heap.size, 0, none⟩) hs).trans a0; have a1 := (hb.cell (p := ⟨W.heap.size, 1, none⟩) hs).trans a1; have hs := Nat.lt_of_lt_of_le hs hb.size)
    go_ret
    exact ⟨rfl, by (repeat' (first | (with_reducible exact Below.refl _ _) | (with_reducible assumption) | (with_reducible refine below_drewN ?_ _) | (with_reducible refine Below.drew ?_) | (with_reducible refine Below.alloc ?_ ?_ _) | (with_reducible refine Below.setCell ?_ ?_ _) | (with_reducible refine below_via (by assumption) ?_ ?_) | go_size))⟩
end Go.Proofs.Ytekiakognpifnaa
