/- The walks of field's laws FieldTop, FieldTwice, FieldBack. -/
import Derived.Deep.DeepCutAuto
import Derived.Test.YtekiakognpifnaaFnR
import Derived.Test.YtekiakognpifnaaFnX
namespace Go.Proofs.Ytekiakognpifnaa
set_option linter.unusedVariables false
set_option linter.unusedSimpArgs false
open Go.RowKit
set_option maxHeartbeats 2000000 in
theorem FieldTop_yes (w p b n v g : Int) (W : World) (hw : fWord w = true) (h : fMay p b = true) (hn : -1099511627776 ≤ n) (hn' : n ≤ 1099511627776) (e1 : fTop w p b n = v) (e2 : fGet v p b = g) (eg : g = (if pw b - 1 - fGet w p b < n then pw b - 1 else if - fGet w p b ≤ n then fGet w p b + n else 0)) : Calls Try.prog 13 #[.int .i64 w, .agg #[.int .i64 p, .int .i64 b], .int .i64 n] W fun e w' => e = .returned (.bool true) ∧ Below W.heap.size W w' := by
  have E1 := Lib.hid e1
  have E2 := Lib.hid e2
  have gw := @fGet_in w p b
  have gb := pw_b h
  have hx : 0 ≤ w ∧ w < 4611686018427387904 := by simpa [fWord] using hw
  have C := Lib.hid (fChk_y h)
  have M := Lib.hid (fMost_y h)
  obtain ⟨gw1, gw2⟩ := gw
  obtain ⟨x0, x1⟩ := hx
  have h' := Lib.hid h
  have hw' := Lib.hid hw
  have F := Lib.hid (show (if pw b - 1 < (if fGet w p b + n < 0 then 0 else fGet w p b + n) then pw b - 1 else (if fGet w p b + n < 0 then 0 else fGet w p b + n)) = g by
    rw [eg]; (repeat' split) <;> omega)
  clear e1 e2 h hw eg
  go_enter Try.func13, Try.ntmps13
  go_wp2_with fail
  have a0 : (W.alloc (Obj.cells #[.int .i64 p, .int .i64 b] 37)).cell? ⟨W.heap.size, 0, none⟩ = some (.int .i64 p) := by simp
  have a1 : (W.alloc (Obj.cells #[.int .i64 p, .int .i64 b] 37)).cell? ⟨W.heap.size, 1, none⟩ = some (.int .i64 b) := by simp
  have hs : W.heap.size < (W.alloc (Obj.cells #[.int .i64 p, .int .i64 b] 37)).heap.size := by simp
  go_wp2_with first
    | (go_at_call 24; refine (law01_own _ _ _).mono ?_; rintro e w' ⟨rfl, hb⟩; have a0 := (hb.cell (p := ⟨W.heap.size, 0, none⟩) hs).trans a0; have a1 := (hb.cell (p := ⟨W.heap.size, 1, none⟩) hs).trans a1; have hs := Nat.lt_of_lt_of_le hs hb.size)
    | (go_at_call 28; refine (field_Check _ _ _).mono ?_; rw [C.out]; rintro e w' ⟨rfl, hb⟩; have a0 := (hb.cell (p := ⟨W.heap.size, 0, none⟩) hs).trans a0; have a1 := (hb.cell (p := ⟨W.heap.size, 1, none⟩) hs).trans a1; have hs := Nat.lt_of_lt_of_le hs hb.size)
  go_cut [7] (fun x w' => x = .int .i64 g ∧ w'.cell? ⟨W.heap.size, 0, none⟩ = some (.int .i64 p) ∧ w'.cell? ⟨W.heap.size, 1, none⟩ = some (.int .i64 b) ∧ W.heap.size < w'.heap.size ∧ Below W.heap.size W w')
  case first =>
    go_region_held3 (fun w' => w'.cell? ⟨W.heap.size, 0, none⟩ = some (.int .i64 p) ∧ w'.cell? ⟨W.heap.size, 1, none⟩ = some (.int .i64 b) ∧ W.heap.size < w'.heap.size ∧ Below W.heap.size W w') (first | exact keep2 (by assumption) hb | exact ⟨a0, a1, hs, by (repeat' (first | (with_reducible exact Below.refl _ _) | (with_reducible assumption) | (with_reducible refine below_drewN ?_ _) | (with_reducible refine Below.drew ?_) | (with_reducible refine Below.alloc ?_ ?_ _) | (with_reducible refine Below.setCell ?_ ?_ _) | (with_reducible refine below_via (by assumption) ?_ ?_) | go_size))⟩ | go_keep) ((first
      | (go_at_call 24; refine (law01_own _ _ _).mono ?_; rintro e w' ⟨rfl, hb⟩)
      | (go_at_call 23; refine (field_Get _ _ _ _).mono ?_; rw [E2.out]; rintro e w' ⟨rfl, hb⟩)
      | (go_at_call 33; refine (field_Top _ _ _ _ _ (by omega) (by omega)).mono ?_; rw [E1.out]; rintro e w' ⟨rfl, hb⟩)))
    all_goals (go_wp2_with fail; go_meet; exact ⟨rfl, by assumption⟩)
  case rest =>
    obtain ⟨rfl, a0, a1, hs, hW⟩ := hcut
    go_wp2_with first
      | (go_at_call 24; refine (law01_own _ _ _).mono ?_; rintro e w' ⟨rfl, hb⟩; have a0 := (hb.cell (p := ⟨W.heap.size, 0, none⟩) hs).trans a0; have a1 := (hb.cell (p := ⟨W.heap.size, 1, none⟩) hs).trans a1; have hs := Nat.lt_of_lt_of_le hs hb.size)
      | (go_at_call 23; refine (field_Get_ok _ _ _ _ h'.out hw'.out).mono ?_; rintro e w' ⟨rfl, hb⟩; have a0 := (hb.cell (p := ⟨W.heap.size, 0, none⟩) hs).trans a0; have a1 := (hb.cell (p := ⟨W.heap.size, 1, none⟩) hs).trans a1; have hs := Nat.lt_of_lt_of_le hs hb.size)
      | (go_at_call 26; refine (field_Most _ _ _).mono ?_; rw [M.out]; rintro e w' ⟨rfl, hb⟩; have a0 := (hb.cell (p := ⟨W.heap.size, 0, none⟩) hs).trans a0; have a1 := (hb.cell (p := ⟨W.heap.size, 1, none⟩) hs).trans a1; have hs := Nat.lt_of_lt_of_le hs hb.size)
      | (go_at_call 30; refine (law01_live _).mono ?_; rintro e w' ⟨rfl, hb⟩; have a0 := (hb.cell (p := ⟨W.heap.size, 0, none⟩) hs).trans a0; have a1 := (hb.cell (p := ⟨W.heap.size, 1, none⟩) hs).trans a1; have hs := Nat.lt_of_lt_of_le hs hb.size)
    all_goals first
      | (go_ret; exact ⟨rfl, by (repeat' (first | (with_reducible exact Below.refl _ _) | (with_reducible assumption) | (with_reducible refine below_drewN ?_ _) | (with_reducible refine Below.drew ?_) | (with_reducible refine Below.alloc ?_ ?_ _) | (with_reducible refine Below.setCell ?_ ?_ _) | (with_reducible refine below_via (by assumption) ?_ ?_) | go_size))⟩)
      | (exfalso; clear E1 E2 C M h' hw'; have hF := F.out; clear F; (repeat' split at hF) <;> omega)
      | trace_state
set_option maxHeartbeats 2000000 in
theorem FieldTop_walk (w p b n : Int) (W : World) (hn : -9223372036854775808 ≤ n) (hn' : n ≤ 9223372036854775807) : Calls Try.prog 13 #[.int .i64 w, .agg #[.int .i64 p, .int .i64 b], .int .i64 n] W fun e w' => e = .returned (.bool true) ∧ Below W.heap.size W w' := by
  rcases bool_cases (b := fMay p b) with h | h
  · by_cases c : (0 ≤ w ∧ w < 4611686018427387904) ∧ -1099511627776 ≤ n ∧ n ≤ 1099511627776
    · have hw : fWord w = true := by simp [fWord]; omega
      obtain ⟨v, e1, e2, e3⟩ := top_got (n := n) hw h
      exact FieldTop_yes w p b n v _ W hw h c.2.1 c.2.2 e1 rfl e3
    · have C := Lib.hid (fChk_y h)
      have hh : w < 0 ∨ (0 ≤ w ∧ 4611686018427387904 ≤ w) ∨ (0 ≤ w ∧ w < 4611686018427387904 ∧ n < -1099511627776) ∨ (0 ≤ w ∧ w < 4611686018427387904 ∧ 1099511627776 < n) := by omega
      clear c h
      rcases hh with c | ⟨c0, c⟩ | ⟨c0, c1, c⟩ | ⟨c0, c1, c⟩
      all_goals
        go_enter Try.func13, Try.ntmps13
        go_wp2_with fail
        have a0 : (W.alloc (Obj.cells #[.int .i64 p, .int .i64 b] 37)).cell? ⟨W.heap.size, 0, none⟩ = some (.int .i64 p) := by simp
        have a1 : (W.alloc (Obj.cells #[.int .i64 p, .int .i64 b] 37)).cell? ⟨W.heap.size, 1, none⟩ = some (.int .i64 b) := by simp
        have hs : W.heap.size < (W.alloc (Obj.cells #[.int .i64 p, .int .i64 b] 37)).heap.size := by simp
        go_wp2_with first
          | (go_at_call 24; refine (law01_own _ _ _).mono ?_; rintro e w' ⟨rfl, hb⟩; have a0 := (hb.cell (p := ⟨W.heap.size, 0, none⟩) hs).trans a0; have a1 := (hb.cell (p := ⟨W.heap.size, 1, none⟩) hs).trans a1; have hs := Nat.lt_of_lt_of_le hs hb.size)
          | (go_at_call 28; refine (field_Check _ _ _).mono ?_; rw [C.out]; rintro e w' ⟨rfl, hb⟩; have a0 := (hb.cell (p := ⟨W.heap.size, 0, none⟩) hs).trans a0; have a1 := (hb.cell (p := ⟨W.heap.size, 1, none⟩) hs).trans a1; have hs := Nat.lt_of_lt_of_le hs hb.size)
          | (go_at_call 30; refine (law01_live _).mono ?_; rintro e w' ⟨rfl, hb⟩; have a0 := (hb.cell (p := ⟨W.heap.size, 0, none⟩) hs).trans a0; have a1 := (hb.cell (p := ⟨W.heap.size, 1, none⟩) hs).trans a1; have hs := Nat.lt_of_lt_of_le hs hb.size)
        go_ret
        exact ⟨rfl, by (repeat' (first | (with_reducible exact Below.refl _ _) | (with_reducible assumption) | (with_reducible refine below_drewN ?_ _) | (with_reducible refine Below.drew ?_) | (with_reducible refine Below.alloc ?_ ?_ _) | (with_reducible refine Below.setCell ?_ ?_ _) | (with_reducible refine below_via (by assumption) ?_ ?_) | go_size))⟩
  · have C := Lib.hid (fChk_n h)
    clear h
    go_enter Try.func13, Try.ntmps13
    go_wp2_with fail
    have a0 : (W.alloc (Obj.cells #[.int .i64 p, .int .i64 b] 37)).cell? ⟨W.heap.size, 0, none⟩ = some (.int .i64 p) := by simp
    have a1 : (W.alloc (Obj.cells #[.int .i64 p, .int .i64 b] 37)).cell? ⟨W.heap.size, 1, none⟩ = some (.int .i64 b) := by simp
    have hs : W.heap.size < (W.alloc (Obj.cells #[.int .i64 p, .int .i64 b] 37)).heap.size := by simp
    go_wp2_with first
      | (go_at_call 24; refine (law01_own _ _ _).mono ?_; rintro e w' ⟨rfl, hb⟩; have a0 := (hb.cell (p := ⟨W.heap.size, 0, none⟩) hs).trans a0; have a1 := (hb.cell (p := ⟨W.heap.size, 1, none⟩) hs).trans a1; have hs := Nat.lt_of_lt_of_le hs hb.size)
      | (go_at_call 28; refine (field_Check _ _ _).mono ?_; rw [C.out]; rintro e w' ⟨rfl, hb⟩; have a0 := (hb.cell (p := ⟨W.heap.size, 0, none⟩) hs).trans a0; have a1 := (hb.cell (p := ⟨W.heap.size, 1, none⟩) hs).trans a1; have hs := Nat.lt_of_lt_of_le hs hb.size)
      | (go_at_call 30; refine (law01_live _).mono ?_; rintro e w' ⟨rfl, hb⟩; have a0 := (hb.cell (p := ⟨W.heap.size, 0, none⟩) hs).trans a0; have a1 := (hb.cell (p := ⟨W.heap.size, 1, none⟩) hs).trans a1; have hs := Nat.lt_of_lt_of_le hs hb.size)
    go_ret
    exact ⟨rfl, by (repeat' (first | (with_reducible exact Below.refl _ _) | (with_reducible assumption) | (with_reducible refine below_drewN ?_ _) | (with_reducible refine Below.drew ?_) | (with_reducible refine Below.alloc ?_ ?_ _) | (with_reducible refine Below.setCell ?_ ?_ _) | (with_reducible refine below_via (by assumption) ?_ ?_) | go_size))⟩
set_option maxHeartbeats 2000000 in
theorem FieldTwice_walk (w p b q c n m : Int) (W : World) (n1 : -9223372036854775808 ≤ n) (n2 : n ≤ 9223372036854775807) (m1 : -9223372036854775808 ≤ m) (m2 : m ≤ 9223372036854775807) : Calls Try.prog 12 #[.agg #[.int .i64 w, .int .i64 p, .int .i64 b, .int .i64 q, .int .i64 c, .int .i64 n, .int .i64 m]] W fun e w' => e = .returned (.bool true) ∧ Below W.heap.size W w' := by
  by_cases h1 : (fPut w p b n).2 = 0
  · by_cases h2 : (fPut w p b m).2 = 0
    · obtain ⟨hw, hm, n3, n4⟩ := fPut_inv h1
      obtain ⟨-, -, m3, m4⟩ := fPut_inv h2
      obtain ⟨v, e1, e2, e3, e4, -⟩ := put_all hw hm n3 n4
      obtain ⟨u, d1, d2, d3, d4, -⟩ := put_all hw hm m3 m4
      have x1 := e4 m m3 m4
      have x2 := e4 n n3 n4
      rw [d1] at x1
      rw [e1] at x2
      have E1 := Lib.hid e1
      have D1 := Lib.hid d1
      have X1 := Lib.hid x1
      have X2 := Lib.hid x2
      have b1 : (u == u) = true := by simp
      have b2 : (v == v) = true := by simp
      clear h1 h2 e1 d1 x1 x2 e2 e3 e4 d2 d3 d4 hw hm
      go_enter Try.func12, Try.ntmps12
      go_wp2_with fail
      go_region
      go_wp2_with fail
      refine (law01_own _ _ _).mono ?_; rintro e w' ⟨rfl, hb⟩
      have a0 : w'.cell? ⟨W.heap.size + 1, 0, none⟩ = some (.int .i64 p) := (hb.cell (by simp)).trans (by first | (simp; done) | go_cell | (simp [go_sem]; done))
      have a1 : w'.cell? ⟨W.heap.size + 1, 1, none⟩ = some (.int .i64 b) := (hb.cell (by simp)).trans (by first | (simp; done) | go_cell | (simp [go_sem]; done))
      have hs : W.heap.size + 1 < w'.heap.size := Nat.lt_of_lt_of_le (by simp) hb.size
      go_wp2_with first
        | (go_at_call 24; refine (law01_own _ _ _).mono ?_; rintro e w' ⟨rfl, hb⟩; have a0 := (hb.cell (p := ⟨W.heap.size + 1, 0, none⟩) hs).trans a0; have a1 := (hb.cell (p := ⟨W.heap.size + 1, 1, none⟩) hs).trans a1; have hs := Nat.lt_of_lt_of_le hs hb.size)
        | (go_at_call 31; refine (field_Put _ _ _ _ _ (by omega) (by omega)).mono ?_; (first | rw [E1.out] | rw [D1.out] | rw [X1.out] | rw [X2.out]); rintro e w' ⟨rfl, hb⟩; have a0 := (hb.cell (p := ⟨W.heap.size + 1, 0, none⟩) hs).trans a0; have a1 := (hb.cell (p := ⟨W.heap.size + 1, 1, none⟩) hs).trans a1; have hs := Nat.lt_of_lt_of_le hs hb.size)
        | (go_at_call 30; refine (law01_live _).mono ?_; rintro e w' ⟨rfl, hb⟩; have a0 := (hb.cell (p := ⟨W.heap.size + 1, 0, none⟩) hs).trans a0; have a1 := (hb.cell (p := ⟨W.heap.size + 1, 1, none⟩) hs).trans a1; have hs := Nat.lt_of_lt_of_le hs hb.size)
      go_ret
      exact ⟨rfl, by (repeat' (first | (with_reducible exact Below.refl _ _) | (with_reducible assumption) | (with_reducible refine below_drewN ?_ _) | (with_reducible refine Below.drew ?_) | (with_reducible refine Below.alloc ?_ ?_ _) | (with_reducible refine Below.setCell ?_ ?_ _) | (with_reducible refine below_via (by assumption) ?_ ?_) | go_size))⟩
    · have b2 : ((fPut w p b m).2 != 0) = true := by simpa using h2
      have b1 : ((fPut w p b n).2 != 0) = false := by rw [h1]; rfl
      clear h1 h2
      go_enter Try.func12, Try.ntmps12
      go_wp2_with fail
      go_region
      go_wp2_with fail
      refine (law01_own _ _ _).mono ?_; rintro e w' ⟨rfl, hb⟩
      have a0 : w'.cell? ⟨W.heap.size + 1, 0, none⟩ = some (.int .i64 p) := (hb.cell (by simp)).trans (by first | (simp; done) | go_cell | (simp [go_sem]; done))
      have a1 : w'.cell? ⟨W.heap.size + 1, 1, none⟩ = some (.int .i64 b) := (hb.cell (by simp)).trans (by first | (simp; done) | go_cell | (simp [go_sem]; done))
      have hs : W.heap.size + 1 < w'.heap.size := Nat.lt_of_lt_of_le (by simp) hb.size
      go_wp2_with first
        | (go_at_call 24; refine (law01_own _ _ _).mono ?_; rintro e w' ⟨rfl, hb⟩; have a0 := (hb.cell (p := ⟨W.heap.size + 1, 0, none⟩) hs).trans a0; have a1 := (hb.cell (p := ⟨W.heap.size + 1, 1, none⟩) hs).trans a1; have hs := Nat.lt_of_lt_of_le hs hb.size)
        | (go_at_call 31; refine (field_Put _ _ _ _ _ (by omega) (by omega)).mono ?_; skip; rintro e w' ⟨rfl, hb⟩; have a0 := (hb.cell (p := ⟨W.heap.size + 1, 0, none⟩) hs).trans a0; have a1 := (hb.cell (p := ⟨W.heap.size + 1, 1, none⟩) hs).trans a1; have hs := Nat.lt_of_lt_of_le hs hb.size)
        | (go_at_call 30; refine (law01_live _).mono ?_; rintro e w' ⟨rfl, hb⟩; have a0 := (hb.cell (p := ⟨W.heap.size + 1, 0, none⟩) hs).trans a0; have a1 := (hb.cell (p := ⟨W.heap.size + 1, 1, none⟩) hs).trans a1; have hs := Nat.lt_of_lt_of_le hs hb.size)
      go_ret
      exact ⟨rfl, by (repeat' (first | (with_reducible exact Below.refl _ _) | (with_reducible assumption) | (with_reducible refine below_drewN ?_ _) | (with_reducible refine Below.drew ?_) | (with_reducible refine Below.alloc ?_ ?_ _) | (with_reducible refine Below.setCell ?_ ?_ _) | (with_reducible refine below_via (by assumption) ?_ ?_) | go_size))⟩
  · have b1 : ((fPut w p b n).2 != 0) = true := by simpa using h1
    clear h1
    go_enter Try.func12, Try.ntmps12
    go_wp2_with fail
    go_region
    go_wp2_with fail
    refine (law01_own _ _ _).mono ?_; rintro e w' ⟨rfl, hb⟩
    have a0 : w'.cell? ⟨W.heap.size + 1, 0, none⟩ = some (.int .i64 p) := (hb.cell (by simp)).trans (by first | (simp; done) | go_cell | (simp [go_sem]; done))
    have a1 : w'.cell? ⟨W.heap.size + 1, 1, none⟩ = some (.int .i64 b) := (hb.cell (by simp)).trans (by first | (simp; done) | go_cell | (simp [go_sem]; done))
    have hs : W.heap.size + 1 < w'.heap.size := Nat.lt_of_lt_of_le (by simp) hb.size
    go_wp2_with first
      | (go_at_call 24; refine (law01_own _ _ _).mono ?_; rintro e w' ⟨rfl, hb⟩; have a0 := (hb.cell (p := ⟨W.heap.size + 1, 0, none⟩) hs).trans a0; have a1 := (hb.cell (p := ⟨W.heap.size + 1, 1, none⟩) hs).trans a1; have hs := Nat.lt_of_lt_of_le hs hb.size)
      | (go_at_call 31; refine (field_Put _ _ _ _ _ (by omega) (by omega)).mono ?_; skip; rintro e w' ⟨rfl, hb⟩; have a0 := (hb.cell (p := ⟨W.heap.size + 1, 0, none⟩) hs).trans a0; have a1 := (hb.cell (p := ⟨W.heap.size + 1, 1, none⟩) hs).trans a1; have hs := Nat.lt_of_lt_of_le hs hb.size)
      | (go_at_call 30; refine (law01_live _).mono ?_; rintro e w' ⟨rfl, hb⟩; have a0 := (hb.cell (p := ⟨W.heap.size + 1, 0, none⟩) hs).trans a0; have a1 := (hb.cell (p := ⟨W.heap.size + 1, 1, none⟩) hs).trans a1; have hs := Nat.lt_of_lt_of_le hs hb.size)
    go_ret
    exact ⟨rfl, by (repeat' (first | (with_reducible exact Below.refl _ _) | (with_reducible assumption) | (with_reducible refine below_drewN ?_ _) | (with_reducible refine Below.drew ?_) | (with_reducible refine Below.alloc ?_ ?_ _) | (with_reducible refine Below.setCell ?_ ?_ _) | (with_reducible refine below_via (by assumption) ?_ ?_) | go_size))⟩
end Go.Proofs.Ytekiakognpifnaa
