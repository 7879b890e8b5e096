/- The walk of field's law FieldBack. -/
import Derived.Deep.DeepCutAuto
import Derived.Test.YtekiakognpifnaaFnR
import Derived.Test.YtekiakognpifnaaFnX
namespace Go.Proofs.Ytekiakognpifnaa
set_option linter.unusedVariables false
set_option linter.unusedSimpArgs false
open Go.RowKit
theorem keepB {B : Nat} {W w1 w' : World} {x y : Value} (h : w1.cell? ⟨B, 0, none⟩ = some x ∧ w1.cell? ⟨B, 1, none⟩ = some y ∧ B < w1.heap.size ∧ Below W.heap.size W w1) (hB : W.heap.size ≤ B) (hb : Below w1.heap.size w1 w') :
    w'.cell? ⟨B, 0, none⟩ = some x ∧ w'.cell? ⟨B, 1, none⟩ = some y ∧ B < w'.heap.size ∧ Below W.heap.size W w' :=
  ⟨(hb.cell h.2.2.1).trans h.1, (hb.cell h.2.2.1).trans h.2.1, Nat.lt_of_lt_of_le h.2.2.1 hb.size, h.2.2.2.trans (hb.mono (by have := h.2.2.1; omega))⟩
set_option maxHeartbeats 2000000 in
theorem FieldBack_walk (w p b q c n m : Int) (W : World) (n1 : -9223372036854775808 ≤ n) (n2 : n ≤ 9223372036854775807) : Calls Try.prog 10 #[.agg #[.int .i64 w, .int .i64 p, .int .i64 b, .int .i64 q, .int .i64 c, .int .i64 n, .int .i64 m]] W fun e w' => e = .returned (.bool true) ∧ Below W.heap.size W w' := by
  by_cases h1 : (fPut w p b n).2 = 0
  · obtain ⟨hw, hm, n3, n4⟩ := fPut_inv h1
    obtain ⟨v, e1, e2, e3, -, e5⟩ := put_all hw hm n3 n4
    have vb : 0 ≤ v := by have : 0 ≤ v ∧ v < 4611686018427387904 := by simpa [fWord] using e2
                          omega
    have E1 := Lib.hid e1
    have G1 := Lib.hid e3
    have b1 : (n != n) = false := by simp
    obtain ⟨p0, p1, p2, p3⟩ := fMay_of hm
    rcases bool_cases (b := fMay q c) with ho | ho
    · have C := Lib.hid (fChk_y ho)
      obtain ⟨q0, q1, q2, q3⟩ := fMay_of ho
      by_cases hd : q < p + b
      · by_cases hd2 : p < q + c
        · have G2 := Lib.hid (show fGet w p b = fGet w p b from rfl)
          clear h1 e1 e2 e3 e5 hm ho hw
          go_enter Try.func10, Try.ntmps10
          go_wp2_with fail
          go_region
          · go_wp2_with fail
            refine (law01_own _ _ _).mono ?_; rintro e w' ⟨rfl, hb⟩
            have a0 : w'.cell? ⟨W.heap.size + 1, 0, none⟩ = some (.int .i64 p) := (hb.cell (by simp)).trans (by first | (simp; done) | go_cell | (simp [go_sem]; done))
            have a1 : w'.cell? ⟨W.heap.size + 1, 1, none⟩ = some (.int .i64 b) := (hb.cell (by simp)).trans (by first | (simp; done) | go_cell | (simp [go_sem]; done))
            have a2 : w'.cell? ⟨W.heap.size + 2, 0, none⟩ = some (.int .i64 q) := (hb.cell (by simp)).trans (by first | (simp; done) | go_cell | (simp [go_sem]; done))
            have a3 : w'.cell? ⟨W.heap.size + 2, 1, none⟩ = some (.int .i64 c) := (hb.cell (by simp)).trans (by first | (simp; done) | go_cell | (simp [go_sem]; done))
            have hs : W.heap.size + 2 < w'.heap.size := Nat.lt_of_lt_of_le (by simp) hb.size
            go_wp2_with first
              | (go_at_call 24; refine (law01_own _ _ _).mono ?_; rintro e w' ⟨rfl, hb⟩; have a0 := (hb.cell (p := ⟨W.heap.size + 1, 0, none⟩) (show W.heap.size + 1 < _ by omega)).trans a0; have a1 := (hb.cell (p := ⟨W.heap.size + 1, 1, none⟩) (show W.heap.size + 1 < _ by omega)).trans a1; have a2 := (hb.cell (p := ⟨W.heap.size + 2, 0, none⟩) (show W.heap.size + 2 < _ by omega)).trans a2; have a3 := (hb.cell (p := ⟨W.heap.size + 2, 1, none⟩) (show W.heap.size + 2 < _ by omega)).trans a3; have hs := Nat.lt_of_lt_of_le hs hb.size)
              | (go_at_call 31; refine (field_Put _ _ _ _ _ (by omega) (by omega)).mono ?_; (try rw [E1.out]); rintro e w' ⟨rfl, hb⟩; have a0 := (hb.cell (p := ⟨W.heap.size + 1, 0, none⟩) (show W.heap.size + 1 < _ by omega)).trans a0; have a1 := (hb.cell (p := ⟨W.heap.size + 1, 1, none⟩) (show W.heap.size + 1 < _ by omega)).trans a1; have a2 := (hb.cell (p := ⟨W.heap.size + 2, 0, none⟩) (show W.heap.size + 2 < _ by omega)).trans a2; have a3 := (hb.cell (p := ⟨W.heap.size + 2, 1, none⟩) (show W.heap.size + 2 < _ by omega)).trans a3; have hs := Nat.lt_of_lt_of_le hs hb.size)
              | (go_at_call 23; refine (field_Get _ _ _ _).mono ?_; rw [G1.out]; rintro e w' ⟨rfl, hb⟩; have a0 := (hb.cell (p := ⟨W.heap.size + 1, 0, none⟩) (show W.heap.size + 1 < _ by omega)).trans a0; have a1 := (hb.cell (p := ⟨W.heap.size + 1, 1, none⟩) (show W.heap.size + 1 < _ by omega)).trans a1; have a2 := (hb.cell (p := ⟨W.heap.size + 2, 0, none⟩) (show W.heap.size + 2 < _ by omega)).trans a2; have a3 := (hb.cell (p := ⟨W.heap.size + 2, 1, none⟩) (show W.heap.size + 2 < _ by omega)).trans a3; have hs := Nat.lt_of_lt_of_le hs hb.size)
              | (go_at_call 28; refine (field_Check _ _ _).mono ?_; rw [C.out]; rintro e w' ⟨rfl, hb⟩; have a0 := (hb.cell (p := ⟨W.heap.size + 1, 0, none⟩) (show W.heap.size + 1 < _ by omega)).trans a0; have a1 := (hb.cell (p := ⟨W.heap.size + 1, 1, none⟩) (show W.heap.size + 1 < _ by omega)).trans a1; have a2 := (hb.cell (p := ⟨W.heap.size + 2, 0, none⟩) (show W.heap.size + 2 < _ by omega)).trans a2; have a3 := (hb.cell (p := ⟨W.heap.size + 2, 1, none⟩) (show W.heap.size + 2 < _ by omega)).trans a3; have hs := Nat.lt_of_lt_of_le hs hb.size)
              | (go_at_call 30; refine (law01_live _).mono ?_; rintro e w' ⟨rfl, hb⟩; have a0 := (hb.cell (p := ⟨W.heap.size + 1, 0, none⟩) (show W.heap.size + 1 < _ by omega)).trans a0; have a1 := (hb.cell (p := ⟨W.heap.size + 1, 1, none⟩) (show W.heap.size + 1 < _ by omega)).trans a1; have a2 := (hb.cell (p := ⟨W.heap.size + 2, 0, none⟩) (show W.heap.size + 2 < _ by omega)).trans a2; have a3 := (hb.cell (p := ⟨W.heap.size + 2, 1, none⟩) (show W.heap.size + 2 < _ by omega)).trans a3; have hs := Nat.lt_of_lt_of_le hs hb.size)
            go_ret
            exact ⟨rfl, by (repeat' (first | (with_reducible exact Below.refl _ _) | (with_reducible assumption) | (with_reducible refine below_drewN ?_ _) | (with_reducible refine Below.drew ?_) | (with_reducible refine Below.alloc ?_ ?_ _) | (with_reducible refine Below.setCell ?_ ?_ _) | (with_reducible refine below_via (by assumption) ?_ ?_) | go_size))⟩
          · go_wp2_with fail
            refine (law01_own _ _ _).mono ?_; rintro e w' ⟨rfl, hb⟩
            have a0 : w'.cell? ⟨W.heap.size + 2, 0, none⟩ = some (.int .i64 p) := (hb.cell (by simp)).trans (by first | (simp; done) | go_cell | (simp [go_sem]; done))
            have a1 : w'.cell? ⟨W.heap.size + 2, 1, none⟩ = some (.int .i64 b) := (hb.cell (by simp)).trans (by first | (simp; done) | go_cell | (simp [go_sem]; done))
            have a2 : w'.cell? ⟨W.heap.size + 1, 0, none⟩ = some (.int .i64 q) := (hb.cell (by simp)).trans (by first | (simp; done) | go_cell | (simp [go_sem]; done))
            have a3 : w'.cell? ⟨W.heap.size + 1, 1, none⟩ = some (.int .i64 c) := (hb.cell (by simp)).trans (by first | (simp; done) | go_cell | (simp [go_sem]; done))
            have hs : W.heap.size + 2 < w'.heap.size := Nat.lt_of_lt_of_le (by simp) hb.size
            go_wp2_with first
              | (go_at_call 24; refine (law01_own _ _ _).mono ?_; rintro e w' ⟨rfl, hb⟩; have a0 := (hb.cell (p := ⟨W.heap.size + 2, 0, none⟩) (show W.heap.size + 2 < _ by omega)).trans a0; have a1 := (hb.cell (p := ⟨W.heap.size + 2, 1, none⟩) (show W.heap.size + 2 < _ by omega)).trans a1; have a2 := (hb.cell (p := ⟨W.heap.size + 1, 0, none⟩) (show W.heap.size + 1 < _ by omega)).trans a2; have a3 := (hb.cell (p := ⟨W.heap.size + 1, 1, none⟩) (show W.heap.size + 1 < _ by omega)).trans a3; have hs := Nat.lt_of_lt_of_le hs hb.size)
              | (go_at_call 31; refine (field_Put _ _ _ _ _ (by omega) (by omega)).mono ?_; (try rw [E1.out]); rintro e w' ⟨rfl, hb⟩; have a0 := (hb.cell (p := ⟨W.heap.size + 2, 0, none⟩) (show W.heap.size + 2 < _ by omega)).trans a0; have a1 := (hb.cell (p := ⟨W.heap.size + 2, 1, none⟩) (show W.heap.size + 2 < _ by omega)).trans a1; have a2 := (hb.cell (p := ⟨W.heap.size + 1, 0, none⟩) (show W.heap.size + 1 < _ by omega)).trans a2; have a3 := (hb.cell (p := ⟨W.heap.size + 1, 1, none⟩) (show W.heap.size + 1 < _ by omega)).trans a3; have hs := Nat.lt_of_lt_of_le hs hb.size)
              | (go_at_call 23; refine (field_Get _ _ _ _).mono ?_; rw [G1.out]; rintro e w' ⟨rfl, hb⟩; have a0 := (hb.cell (p := ⟨W.heap.size + 2, 0, none⟩) (show W.heap.size + 2 < _ by omega)).trans a0; have a1 := (hb.cell (p := ⟨W.heap.size + 2, 1, none⟩) (show W.heap.size + 2 < _ by omega)).trans a1; have a2 := (hb.cell (p := ⟨W.heap.size + 1, 0, none⟩) (show W.heap.size + 1 < _ by omega)).trans a2; have a3 := (hb.cell (p := ⟨W.heap.size + 1, 1, none⟩) (show W.heap.size + 1 < _ by omega)).trans a3; have hs := Nat.lt_of_lt_of_le hs hb.size)
              | (go_at_call 28; refine (field_Check _ _ _).mono ?_; rw [C.out]; rintro e w' ⟨rfl, hb⟩; have a0 := (hb.cell (p := ⟨W.heap.size + 2, 0, none⟩) (show W.heap.size + 2 < _ by omega)).trans a0; have a1 := (hb.cell (p := ⟨W.heap.size + 2, 1, none⟩) (show W.heap.size + 2 < _ by omega)).trans a1; have a2 := (hb.cell (p := ⟨W.heap.size + 1, 0, none⟩) (show W.heap.size + 1 < _ by omega)).trans a2; have a3 := (hb.cell (p := ⟨W.heap.size + 1, 1, none⟩) (show W.heap.size + 1 < _ by omega)).trans a3; have hs := Nat.lt_of_lt_of_le hs hb.size)
              | (go_at_call 30; refine (law01_live _).mono ?_; rintro e w' ⟨rfl, hb⟩; have a0 := (hb.cell (p := ⟨W.heap.size + 2, 0, none⟩) (show W.heap.size + 2 < _ by omega)).trans a0; have a1 := (hb.cell (p := ⟨W.heap.size + 2, 1, none⟩) (show W.heap.size + 2 < _ by omega)).trans a1; have a2 := (hb.cell (p := ⟨W.heap.size + 1, 0, none⟩) (show W.heap.size + 1 < _ by omega)).trans a2; have a3 := (hb.cell (p := ⟨W.heap.size + 1, 1, none⟩) (show W.heap.size + 1 < _ by omega)).trans a3; have hs := Nat.lt_of_lt_of_le hs hb.size)
            go_ret
            exact ⟨rfl, by (repeat' (first | (with_reducible exact Below.refl _ _) | (with_reducible assumption) | (with_reducible refine below_drewN ?_ _) | (with_reducible refine Below.drew ?_) | (with_reducible refine Below.alloc ?_ ?_ _) | (with_reducible refine Below.setCell ?_ ?_ _) | (with_reducible refine below_via (by assumption) ?_ ?_) | go_size))⟩
        · have hd3 : q + c ≤ p := by omega
          have G2 := Lib.hid (e5 q c ho (.inl hd3))
          have b2 : (fGet w q c == fGet w q c) = true := by simp
          clear h1 e1 e2 e3 e5 hm ho hw hd2
          go_enter Try.func10, Try.ntmps10
          go_wp2_with fail
          go_region
          · go_wp2_with fail
            refine (law01_own _ _ _).mono ?_; rintro e w' ⟨rfl, hb⟩
            have a0 : w'.cell? ⟨W.heap.size + 1, 0, none⟩ = some (.int .i64 p) := (hb.cell (by simp)).trans (by first | (simp; done) | go_cell | (simp [go_sem]; done))
            have a1 : w'.cell? ⟨W.heap.size + 1, 1, none⟩ = some (.int .i64 b) := (hb.cell (by simp)).trans (by first | (simp; done) | go_cell | (simp [go_sem]; done))
            have a2 : w'.cell? ⟨W.heap.size + 2, 0, none⟩ = some (.int .i64 q) := (hb.cell (by simp)).trans (by first | (simp; done) | go_cell | (simp [go_sem]; done))
            have a3 : w'.cell? ⟨W.heap.size + 2, 1, none⟩ = some (.int .i64 c) := (hb.cell (by simp)).trans (by first | (simp; done) | go_cell | (simp [go_sem]; done))
            have hs : W.heap.size + 2 < w'.heap.size := Nat.lt_of_lt_of_le (by simp) hb.size
            go_wp2_with first
              | (go_at_call 24; refine (law01_own _ _ _).mono ?_; rintro e w' ⟨rfl, hb⟩; have a0 := (hb.cell (p := ⟨W.heap.size + 1, 0, none⟩) (show W.heap.size + 1 < _ by omega)).trans a0; have a1 := (hb.cell (p := ⟨W.heap.size + 1, 1, none⟩) (show W.heap.size + 1 < _ by omega)).trans a1; have a2 := (hb.cell (p := ⟨W.heap.size + 2, 0, none⟩) (show W.heap.size + 2 < _ by omega)).trans a2; have a3 := (hb.cell (p := ⟨W.heap.size + 2, 1, none⟩) (show W.heap.size + 2 < _ by omega)).trans a3; have hs := Nat.lt_of_lt_of_le hs hb.size)
              | (go_at_call 31; refine (field_Put _ _ _ _ _ (by omega) (by omega)).mono ?_; (try rw [E1.out]); rintro e w' ⟨rfl, hb⟩; have a0 := (hb.cell (p := ⟨W.heap.size + 1, 0, none⟩) (show W.heap.size + 1 < _ by omega)).trans a0; have a1 := (hb.cell (p := ⟨W.heap.size + 1, 1, none⟩) (show W.heap.size + 1 < _ by omega)).trans a1; have a2 := (hb.cell (p := ⟨W.heap.size + 2, 0, none⟩) (show W.heap.size + 2 < _ by omega)).trans a2; have a3 := (hb.cell (p := ⟨W.heap.size + 2, 1, none⟩) (show W.heap.size + 2 < _ by omega)).trans a3; have hs := Nat.lt_of_lt_of_le hs hb.size)
              | (go_at_call 23; refine (field_Get _ _ _ _).mono ?_; rw [G1.out]; rintro e w' ⟨rfl, hb⟩; have a0 := (hb.cell (p := ⟨W.heap.size + 1, 0, none⟩) (show W.heap.size + 1 < _ by omega)).trans a0; have a1 := (hb.cell (p := ⟨W.heap.size + 1, 1, none⟩) (show W.heap.size + 1 < _ by omega)).trans a1; have a2 := (hb.cell (p := ⟨W.heap.size + 2, 0, none⟩) (show W.heap.size + 2 < _ by omega)).trans a2; have a3 := (hb.cell (p := ⟨W.heap.size + 2, 1, none⟩) (show W.heap.size + 2 < _ by omega)).trans a3; have hs := Nat.lt_of_lt_of_le hs hb.size)
              | (go_at_call 28; refine (field_Check _ _ _).mono ?_; rw [C.out]; rintro e w' ⟨rfl, hb⟩; have a0 := (hb.cell (p := ⟨W.heap.size + 1, 0, none⟩) (show W.heap.size + 1 < _ by omega)).trans a0; have a1 := (hb.cell (p := ⟨W.heap.size + 1, 1, none⟩) (show W.heap.size + 1 < _ by omega)).trans a1; have a2 := (hb.cell (p := ⟨W.heap.size + 2, 0, none⟩) (show W.heap.size + 2 < _ by omega)).trans a2; have a3 := (hb.cell (p := ⟨W.heap.size + 2, 1, none⟩) (show W.heap.size + 2 < _ by omega)).trans a3; have hs := Nat.lt_of_lt_of_le hs hb.size)
              | (go_at_call 30; refine (law01_live _).mono ?_; rintro e w' ⟨rfl, hb⟩; have a0 := (hb.cell (p := ⟨W.heap.size + 1, 0, none⟩) (show W.heap.size + 1 < _ by omega)).trans a0; have a1 := (hb.cell (p := ⟨W.heap.size + 1, 1, none⟩) (show W.heap.size + 1 < _ by omega)).trans a1; have a2 := (hb.cell (p := ⟨W.heap.size + 2, 0, none⟩) (show W.heap.size + 2 < _ by omega)).trans a2; have a3 := (hb.cell (p := ⟨W.heap.size + 2, 1, none⟩) (show W.heap.size + 2 < _ by omega)).trans a3; have hs := Nat.lt_of_lt_of_le hs hb.size)
            have hW0 : Below W.heap.size W w' := by (repeat' (first | (with_reducible exact Below.refl _ _) | (with_reducible assumption) | (with_reducible refine below_drewN ?_ _) | (with_reducible refine Below.drew ?_) | (with_reducible refine Below.alloc ?_ ?_ _) | (with_reducible refine Below.setCell ?_ ?_ _) | (with_reducible refine below_via (by assumption) ?_ ?_) | go_size))
            go_region_held3 (fun w' => w'.cell? ⟨W.heap.size + 2, 0, none⟩ = some (.int .i64 q) ∧ w'.cell? ⟨W.heap.size + 2, 1, none⟩ = some (.int .i64 c) ∧ W.heap.size + 2 < w'.heap.size ∧ Below W.heap.size W w') (first | exact keepB (by assumption) (by omega) hb | exact ⟨a2, a3, (show W.heap.size + 2 < w'.drew.heap.size by rw [World.size_drew]; omega), hW0.drew⟩ | go_keep) ((first
              | (go_at_call 24; refine (law01_own _ _ _).mono ?_; rintro e w' ⟨rfl, hb⟩)
              | (go_at_call 23; refine (field_Get _ _ _ _).mono ?_; (try rw [G2.out]); rintro e w' ⟨rfl, hb⟩)
              | (go_at_call 30; refine (law01_live _).mono ?_; rintro e w' ⟨rfl, hb⟩)))
            all_goals
              go_wp2
              go_ret
              exact ⟨rfl, below_of (by assumption)⟩
          · go_wp2_with fail
            refine (law01_own _ _ _).mono ?_; rintro e w' ⟨rfl, hb⟩
            have a0 : w'.cell? ⟨W.heap.size + 2, 0, none⟩ = some (.int .i64 p) := (hb.cell (by simp)).trans (by first | (simp; done) | go_cell | (simp [go_sem]; done))
            have a1 : w'.cell? ⟨W.heap.size + 2, 1, none⟩ = some (.int .i64 b) := (hb.cell (by simp)).trans (by first | (simp; done) | go_cell | (simp [go_sem]; done))
            have a2 : w'.cell? ⟨W.heap.size + 1, 0, none⟩ = some (.int .i64 q) := (hb.cell (by simp)).trans (by first | (simp; done) | go_cell | (simp [go_sem]; done))
            have a3 : w'.cell? ⟨W.heap.size + 1, 1, none⟩ = some (.int .i64 c) := (hb.cell (by simp)).trans (by first | (simp; done) | go_cell | (simp [go_sem]; done))
            have hs : W.heap.size + 2 < w'.heap.size := Nat.lt_of_lt_of_le (by simp) hb.size
            go_wp2_with first
              | (go_at_call 24; refine (law01_own _ _ _).mono ?_; rintro e w' ⟨rfl, hb⟩; have a0 := (hb.cell (p := ⟨W.heap.size + 2, 0, none⟩) (show W.heap.size + 2 < _ by omega)).trans a0; have a1 := (hb.cell (p := ⟨W.heap.size + 2, 1, none⟩) (show W.heap.size + 2 < _ by omega)).trans a1; have a2 := (hb.cell (p := ⟨W.heap.size + 1, 0, none⟩) (show W.heap.size + 1 < _ by omega)).trans a2; have a3 := (hb.cell (p := ⟨W.heap.size + 1, 1, none⟩) (show W.heap.size + 1 < _ by omega)).trans a3; have hs := Nat.lt_of_lt_of_le hs hb.size)
              | (go_at_call 31; refine (field_Put _ _ _ _ _ (by omega) (by omega)).mono ?_; (try rw [E1.out]); rintro e w' ⟨rfl, hb⟩; have a0 := (hb.cell (p := ⟨W.heap.size + 2, 0, none⟩) (show W.heap.size + 2 < _ by omega)).trans a0; have a1 := (hb.cell (p := ⟨W.heap.size + 2, 1, none⟩) (show W.heap.size + 2 < _ by omega)).trans a1; have a2 := (hb.cell (p := ⟨W.heap.size + 1, 0, none⟩) (show W.heap.size + 1 < _ by omega)).trans a2; have a3 := (hb.cell (p := ⟨W.heap.size + 1, 1, none⟩) (show W.heap.size + 1 < _ by omega)).trans a3; have hs := Nat.lt_of_lt_of_le hs hb.size)
              | (go_at_call 23; refine (field_Get _ _ _ _).mono ?_; rw [G1.out]; rintro e w' ⟨rfl, hb⟩; have a0 := (hb.cell (p := ⟨W.heap.size + 2, 0, none⟩) (show W.heap.size + 2 < _ by omega)).trans a0; have a1 := (hb.cell (p := ⟨W.heap.size + 2, 1, none⟩) (show W.heap.size + 2 < _ by omega)).trans a1; have a2 := (hb.cell (p := ⟨W.heap.size + 1, 0, none⟩) (show W.heap.size + 1 < _ by omega)).trans a2; have a3 := (hb.cell (p := ⟨W.heap.size + 1, 1, none⟩) (show W.heap.size + 1 < _ by omega)).trans a3; have hs := Nat.lt_of_lt_of_le hs hb.size)
              | (go_at_call 28; refine (field_Check _ _ _).mono ?_; rw [C.out]; rintro e w' ⟨rfl, hb⟩; have a0 := (hb.cell (p := ⟨W.heap.size + 2, 0, none⟩) (show W.heap.size + 2 < _ by omega)).trans a0; have a1 := (hb.cell (p := ⟨W.heap.size + 2, 1, none⟩) (show W.heap.size + 2 < _ by omega)).trans a1; have a2 := (hb.cell (p := ⟨W.heap.size + 1, 0, none⟩) (show W.heap.size + 1 < _ by omega)).trans a2; have a3 := (hb.cell (p := ⟨W.heap.size + 1, 1, none⟩) (show W.heap.size + 1 < _ by omega)).trans a3; have hs := Nat.lt_of_lt_of_le hs hb.size)
              | (go_at_call 30; refine (law01_live _).mono ?_; rintro e w' ⟨rfl, hb⟩; have a0 := (hb.cell (p := ⟨W.heap.size + 2, 0, none⟩) (show W.heap.size + 2 < _ by omega)).trans a0; have a1 := (hb.cell (p := ⟨W.heap.size + 2, 1, none⟩) (show W.heap.size + 2 < _ by omega)).trans a1; have a2 := (hb.cell (p := ⟨W.heap.size + 1, 0, none⟩) (show W.heap.size + 1 < _ by omega)).trans a2; have a3 := (hb.cell (p := ⟨W.heap.size + 1, 1, none⟩) (show W.heap.size + 1 < _ by omega)).trans a3; have hs := Nat.lt_of_lt_of_le hs hb.size)
            have hW0 : Below W.heap.size W w' := by (repeat' (first | (with_reducible exact Below.refl _ _) | (with_reducible assumption) | (with_reducible refine below_drewN ?_ _) | (with_reducible refine Below.drew ?_) | (with_reducible refine Below.alloc ?_ ?_ _) | (with_reducible refine Below.setCell ?_ ?_ _) | (with_reducible refine below_via (by assumption) ?_ ?_) | go_size))
            go_region_held3 (fun w' => w'.cell? ⟨W.heap.size + 1, 0, none⟩ = some (.int .i64 q) ∧ w'.cell? ⟨W.heap.size + 1, 1, none⟩ = some (.int .i64 c) ∧ W.heap.size + 1 < w'.heap.size ∧ Below W.heap.size W w') (first | exact keepB (by assumption) (by omega) hb | exact ⟨a2, a3, (show W.heap.size + 1 < w'.drew.heap.size by rw [World.size_drew]; omega), hW0.drew⟩ | go_keep) ((first
              | (go_at_call 24; refine (law01_own _ _ _).mono ?_; rintro e w' ⟨rfl, hb⟩)
              | (go_at_call 23; refine (field_Get _ _ _ _).mono ?_; (try rw [G2.out]); rintro e w' ⟨rfl, hb⟩)
              | (go_at_call 30; refine (law01_live _).mono ?_; rintro e w' ⟨rfl, hb⟩)))
            all_goals
              go_wp2
              go_ret
              exact ⟨rfl, below_of (by assumption)⟩
      · have hd3 : p + b ≤ q := by omega
        have G2 := Lib.hid (e5 q c ho (.inr hd3))
        have b2 : (fGet w q c == fGet w q c) = true := by simp
        clear h1 e1 e2 e3 e5 hm ho hw hd
        go_enter Try.func10, Try.ntmps10
        go_wp2_with fail
        go_region
        · go_wp2_with fail
          refine (law01_own _ _ _).mono ?_; rintro e w' ⟨rfl, hb⟩
          have a0 : w'.cell? ⟨W.heap.size + 1, 0, none⟩ = some (.int .i64 p) := (hb.cell (by simp)).trans (by first | (simp; done) | go_cell | (simp [go_sem]; done))
          have a1 : w'.cell? ⟨W.heap.size + 1, 1, none⟩ = some (.int .i64 b) := (hb.cell (by simp)).trans (by first | (simp; done) | go_cell | (simp [go_sem]; done))
          have a2 : w'.cell? ⟨W.heap.size + 2, 0, none⟩ = some (.int .i64 q) := (hb.cell (by simp)).trans (by first | (simp; done) | go_cell | (simp [go_sem]; done))
          have a3 : w'.cell? ⟨W.heap.size + 2, 1, none⟩ = some (.int .i64 c) := (hb.cell (by simp)).trans (by first | (simp; done) | go_cell | (simp [go_sem]; done))
          have hs : W.heap.size + 2 < w'.heap.size := Nat.lt_of_lt_of_le (by simp) hb.size
          go_wp2_with first
            | (go_at_call 24; refine (law01_own _ _ _).mono ?_; rintro e w' ⟨rfl, hb⟩; have a0 := (hb.cell (p := ⟨W.heap.size + 1, 0, none⟩) (show W.heap.size + 1 < _ by omega)).trans a0; have a1 := (hb.cell (p := ⟨W.heap.size + 1, 1, none⟩) (show W.heap.size + 1 < _ by omega)).trans a1; have a2 := (hb.cell (p := ⟨W.heap.size + 2, 0, none⟩) (show W.heap.size + 2 < _ by omega)).trans a2; have a3 := (hb.cell (p := ⟨W.heap.size + 2, 1, none⟩) (show W.heap.size + 2 < _ by omega)).trans a3; have hs := Nat.lt_of_lt_of_le hs hb.size)
            | (go_at_call 31; refine (field_Put _ _ _ _ _ (by omega) (by omega)).mono ?_; (try rw [E1.out]); rintro e w' ⟨rfl, hb⟩; have a0 := (hb.cell (p := ⟨W.heap.size + 1, 0, none⟩) (show W.heap.size + 1 < _ by omega)).trans a0; have a1 := (hb.cell (p := ⟨W.heap.size + 1, 1, none⟩) (show W.heap.size + 1 < _ by omega)).trans a1; have a2 := (hb.cell (p := ⟨W.heap.size + 2, 0, none⟩) (show W.heap.size + 2 < _ by omega)).trans a2; have a3 := (hb.cell (p := ⟨W.heap.size + 2, 1, none⟩) (show W.heap.size + 2 < _ by omega)).trans a3; have hs := Nat.lt_of_lt_of_le hs hb.size)
            | (go_at_call 23; refine (field_Get _ _ _ _).mono ?_; rw [G1.out]; rintro e w' ⟨rfl, hb⟩; have a0 := (hb.cell (p := ⟨W.heap.size + 1, 0, none⟩) (show W.heap.size + 1 < _ by omega)).trans a0; have a1 := (hb.cell (p := ⟨W.heap.size + 1, 1, none⟩) (show W.heap.size + 1 < _ by omega)).trans a1; have a2 := (hb.cell (p := ⟨W.heap.size + 2, 0, none⟩) (show W.heap.size + 2 < _ by omega)).trans a2; have a3 := (hb.cell (p := ⟨W.heap.size + 2, 1, none⟩) (show W.heap.size + 2 < _ by omega)).trans a3; have hs := Nat.lt_of_lt_of_le hs hb.size)
            | (go_at_call 28; refine (field_Check _ _ _).mono ?_; rw [C.out]; rintro e w' ⟨rfl, hb⟩; have a0 := (hb.cell (p := ⟨W.heap.size + 1, 0, none⟩) (show W.heap.size + 1 < _ by omega)).trans a0; have a1 := (hb.cell (p := ⟨W.heap.size + 1, 1, none⟩) (show W.heap.size + 1 < _ by omega)).trans a1; have a2 := (hb.cell (p := ⟨W.heap.size + 2, 0, none⟩) (show W.heap.size + 2 < _ by omega)).trans a2; have a3 := (hb.cell (p := ⟨W.heap.size + 2, 1, none⟩) (show W.heap.size + 2 < _ by omega)).trans a3; have hs := Nat.lt_of_lt_of_le hs hb.size)
            | (go_at_call 30; refine (law01_live _).mono ?_; rintro e w' ⟨rfl, hb⟩; have a0 := (hb.cell (p := ⟨W.heap.size + 1, 0, none⟩) (show W.heap.size + 1 < _ by omega)).trans a0; have a1 := (hb.cell (p := ⟨W.heap.size + 1, 1, none⟩) (show W.heap.size + 1 < _ by omega)).trans a1; have a2 := (hb.cell (p := ⟨W.heap.size + 2, 0, none⟩) (show W.heap.size + 2 < _ by omega)).trans a2; have a3 := (hb.cell (p := ⟨W.heap.size + 2, 1, none⟩) (show W.heap.size + 2 < _ by omega)).trans a3; have hs := Nat.lt_of_lt_of_le hs hb.size)
          have hW0 : Below W.heap.size W w' := by (repeat' (first | (with_reducible exact Below.refl _ _) | (with_reducible assumption) | (with_reducible refine below_drewN ?_ _) | (with_reducible refine Below.drew ?_) | (with_reducible refine Below.alloc ?_ ?_ _) | (with_reducible refine Below.setCell ?_ ?_ _) | (with_reducible refine below_via (by assumption) ?_ ?_) | go_size))
          go_region_held3 (fun w' => w'.cell? ⟨W.heap.size + 2, 0, none⟩ = some (.int .i64 q) ∧ w'.cell? ⟨W.heap.size + 2, 1, none⟩ = some (.int .i64 c) ∧ W.heap.size + 2 < w'.heap.size ∧ Below W.heap.size W w') (first | exact keepB (by assumption) (by omega) hb | exact ⟨a2, a3, (show W.heap.size + 2 < w'.drew.heap.size by rw [World.size_drew]; omega), hW0.drew⟩ | go_keep) ((first
            | (go_at_call 24; refine (law01_own _ _ _).mono ?_; rintro e w' ⟨rfl, hb⟩)
            | (go_at_call 23; refine (field_Get _ _ _ _).mono ?_; (try rw [G2.out]); rintro e w' ⟨rfl, hb⟩)
            | (go_at_call 30; refine (law01_live _).mono ?_; rintro e w' ⟨rfl, hb⟩)))
          all_goals
            go_wp2
            go_ret
            exact ⟨rfl, below_of (by assumption)⟩
        · go_wp2_with fail
          refine (law01_own _ _ _).mono ?_; rintro e w' ⟨rfl, hb⟩
          have a0 : w'.cell? ⟨W.heap.size + 2, 0, none⟩ = some (.int .i64 p) := (hb.cell (by simp)).trans (by first | (simp; done) | go_cell | (simp [go_sem]; done))
          have a1 : w'.cell? ⟨W.heap.size + 2, 1, none⟩ = some (.int .i64 b) := (hb.cell (by simp)).trans (by first | (simp; done) | go_cell | (simp [go_sem]; done))
          have a2 : w'.cell? ⟨W.heap.size + 1, 0, none⟩ = some (.int .i64 q) := (hb.cell (by simp)).trans (by first | (simp; done) | go_cell | (simp [go_sem]; done))
          have a3 : w'.cell? ⟨W.heap.size + 1, 1, none⟩ = some (.int .i64 c) := (hb.cell (by simp)).trans (by first | (simp; done) | go_cell | (simp [go_sem]; done))
          have hs : W.heap.size + 2 < w'.heap.size := Nat.lt_of_lt_of_le (by simp) hb.size
          go_wp2_with first
            | (go_at_call 24; refine (law01_own _ _ _).mono ?_; rintro e w' ⟨rfl, hb⟩; have a0 := (hb.cell (p := ⟨W.heap.size + 2, 0, none⟩) (show W.heap.size + 2 < _ by omega)).trans a0; have a1 := (hb.cell (p := ⟨W.heap.size + 2, 1, none⟩) (show W.heap.size + 2 < _ by omega)).trans a1; have a2 := (hb.cell (p := ⟨W.heap.size + 1, 0, none⟩) (show W.heap.size + 1 < _ by omega)).trans a2; have a3 := (hb.cell (p := ⟨W.heap.size + 1, 1, none⟩) (show W.heap.size + 1 < _ by omega)).trans a3; have hs := Nat.lt_of_lt_of_le hs hb.size)
            | (go_at_call 31; refine (field_Put _ _ _ _ _ (by omega) (by omega)).mono ?_; (try rw [E1.out]); rintro e w' ⟨rfl, hb⟩; have a0 := (hb.cell (p := ⟨W.heap.size + 2, 0, none⟩) (show W.heap.size + 2 < _ by omega)).trans a0; have a1 := (hb.cell (p := ⟨W.heap.size + 2, 1, none⟩) (show W.heap.size + 2 < _ by omega)).trans a1; have a2 := (hb.cell (p := ⟨W.heap.size + 1, 0, none⟩) (show W.heap.size + 1 < _ by omega)).trans a2; have a3 := (hb.cell (p := ⟨W.heap.size + 1, 1, none⟩) (show W.heap.size + 1 < _ by omega)).trans a3; have hs := Nat.lt_of_lt_of_le hs hb.size)
            | (go_at_call 23; refine (field_Get _ _ _ _).mono ?_; rw [G1.out]; rintro e w' ⟨rfl, hb⟩; have a0 := (hb.cell (p := ⟨W.heap.size + 2, 0, none⟩) (show W.heap.size + 2 < _ by omega)).trans a0; have a1 := (hb.cell (p := ⟨W.heap.size + 2, 1, none⟩) (show W.heap.size + 2 < _ by omega)).trans a1; have a2 := (hb.cell (p := ⟨W.heap.size + 1, 0, none⟩) (show W.heap.size + 1 < _ by omega)).trans a2; have a3 := (hb.cell (p := ⟨W.heap.size + 1, 1, none⟩) (show W.heap.size + 1 < _ by omega)).trans a3; have hs := Nat.lt_of_lt_of_le hs hb.size)
            | (go_at_call 28; refine (field_Check _ _ _).mono ?_; rw [C.out]; rintro e w' ⟨rfl, hb⟩; have a0 := (hb.cell (p := ⟨W.heap.size + 2, 0, none⟩) (show W.heap.size + 2 < _ by omega)).trans a0; have a1 := (hb.cell (p := ⟨W.heap.size + 2, 1, none⟩) (show W.heap.size + 2 < _ by omega)).trans a1; have a2 := (hb.cell (p := ⟨W.heap.size + 1, 0, none⟩) (show W.heap.size + 1 < _ by omega)).trans a2; have a3 := (hb.cell (p := ⟨W.heap.size + 1, 1, none⟩) (show W.heap.size + 1 < _ by omega)).trans a3; have hs := Nat.lt_of_lt_of_le hs hb.size)
            | (go_at_call 30; refine (law01_live _).mono ?_; rintro e w' ⟨rfl, hb⟩; have a0 := (hb.cell (p := ⟨W.heap.size + 2, 0, none⟩) (show W.heap.size + 2 < _ by omega)).trans a0; have a1 := (hb.cell (p := ⟨W.heap.size + 2, 1, none⟩) (show W.heap.size + 2 < _ by omega)).trans a1; have a2 := (hb.cell (p := ⟨W.heap.size + 1, 0, none⟩) (show W.heap.size + 1 < _ by omega)).trans a2; have a3 := (hb.cell (p := ⟨W.heap.size + 1, 1, none⟩) (show W.heap.size + 1 < _ by omega)).trans a3; have hs := Nat.lt_of_lt_of_le hs hb.size)
          have hW0 : Below W.heap.size W w' := by (repeat' (first | (with_reducible exact Below.refl _ _) | (with_reducible assumption) | (with_reducible refine below_drewN ?_ _) | (with_reducible refine Below.drew ?_) | (with_reducible refine Below.alloc ?_ ?_ _) | (with_reducible refine Below.setCell ?_ ?_ _) | (with_reducible refine below_via (by assumption) ?_ ?_) | go_size))
          go_region_held3 (fun w' => w'.cell? ⟨W.heap.size + 1, 0, none⟩ = some (.int .i64 q) ∧ w'.cell? ⟨W.heap.size + 1, 1, none⟩ = some (.int .i64 c) ∧ W.heap.size + 1 < w'.heap.size ∧ Below W.heap.size W w') (first | exact keepB (by assumption) (by omega) hb | exact ⟨a2, a3, (show W.heap.size + 1 < w'.drew.heap.size by rw [World.size_drew]; omega), hW0.drew⟩ | go_keep) ((first
            | (go_at_call 24; refine (law01_own _ _ _).mono ?_; rintro e w' ⟨rfl, hb⟩)
            | (go_at_call 23; refine (field_Get _ _ _ _).mono ?_; (try rw [G2.out]); rintro e w' ⟨rfl, hb⟩)
            | (go_at_call 30; refine (law01_live _).mono ?_; rintro e w' ⟨rfl, hb⟩)))
          all_goals
            go_wp2
            go_ret
            exact ⟨rfl, below_of (by assumption)⟩
    · have C := Lib.hid (fChk_n ho)
      have G2 := Lib.hid (show fGet w p b = fGet w p b from rfl)
      clear h1 e1 e2 e3 e5 hm ho hw
      go_enter Try.func10, Try.ntmps10
      go_wp2_with fail
      go_region
      · go_wp2_with fail
        refine (law01_own _ _ _).mono ?_; rintro e w' ⟨rfl, hb⟩
        have a0 : w'.cell? ⟨W.heap.size + 1, 0, none⟩ = some (.int .i64 p) := (hb.cell (by simp)).trans (by first | (simp; done) | go_cell | (simp [go_sem]; done))
        have a1 : w'.cell? ⟨W.heap.size + 1, 1, none⟩ = some (.int .i64 b) := (hb.cell (by simp)).trans (by first | (simp; done) | go_cell | (simp [go_sem]; done))
        have a2 : w'.cell? ⟨W.heap.size + 2, 0, none⟩ = some (.int .i64 q) := (hb.cell (by simp)).trans (by first | (simp; done) | go_cell | (simp [go_sem]; done))
        have a3 : w'.cell? ⟨W.heap.size + 2, 1, none⟩ = some (.int .i64 c) := (hb.cell (by simp)).trans (by first | (simp; done) | go_cell | (simp [go_sem]; done))
        have hs : W.heap.size + 2 < w'.heap.size := Nat.lt_of_lt_of_le (by simp) hb.size
        go_wp2_with first
          | (go_at_call 24; refine (law01_own _ _ _).mono ?_; rintro e w' ⟨rfl, hb⟩; have a0 := (hb.cell (p := ⟨W.heap.size + 1, 0, none⟩) (show W.heap.size + 1 < _ by omega)).trans a0; have a1 := (hb.cell (p := ⟨W.heap.size + 1, 1, none⟩) (show W.heap.size + 1 < _ by omega)).trans a1; have a2 := (hb.cell (p := ⟨W.heap.size + 2, 0, none⟩) (show W.heap.size + 2 < _ by omega)).trans a2; have a3 := (hb.cell (p := ⟨W.heap.size + 2, 1, none⟩) (show W.heap.size + 2 < _ by omega)).trans a3; have hs := Nat.lt_of_lt_of_le hs hb.size)
          | (go_at_call 31; refine (field_Put _ _ _ _ _ (by omega) (by omega)).mono ?_; (try rw [E1.out]); rintro e w' ⟨rfl, hb⟩; have a0 := (hb.cell (p := ⟨W.heap.size + 1, 0, none⟩) (show W.heap.size + 1 < _ by omega)).trans a0; have a1 := (hb.cell (p := ⟨W.heap.size + 1, 1, none⟩) (show W.heap.size + 1 < _ by omega)).trans a1; have a2 := (hb.cell (p := ⟨W.heap.size + 2, 0, none⟩) (show W.heap.size + 2 < _ by omega)).trans a2; have a3 := (hb.cell (p := ⟨W.heap.size + 2, 1, none⟩) (show W.heap.size + 2 < _ by omega)).trans a3; have hs := Nat.lt_of_lt_of_le hs hb.size)
          | (go_at_call 23; refine (field_Get _ _ _ _).mono ?_; rw [G1.out]; rintro e w' ⟨rfl, hb⟩; have a0 := (hb.cell (p := ⟨W.heap.size + 1, 0, none⟩) (show W.heap.size + 1 < _ by omega)).trans a0; have a1 := (hb.cell (p := ⟨W.heap.size + 1, 1, none⟩) (show W.heap.size + 1 < _ by omega)).trans a1; have a2 := (hb.cell (p := ⟨W.heap.size + 2, 0, none⟩) (show W.heap.size + 2 < _ by omega)).trans a2; have a3 := (hb.cell (p := ⟨W.heap.size + 2, 1, none⟩) (show W.heap.size + 2 < _ by omega)).trans a3; have hs := Nat.lt_of_lt_of_le hs hb.size)
          | (go_at_call 28; refine (field_Check _ _ _).mono ?_; rw [C.out]; rintro e w' ⟨rfl, hb⟩; have a0 := (hb.cell (p := ⟨W.heap.size + 1, 0, none⟩) (show W.heap.size + 1 < _ by omega)).trans a0; have a1 := (hb.cell (p := ⟨W.heap.size + 1, 1, none⟩) (show W.heap.size + 1 < _ by omega)).trans a1; have a2 := (hb.cell (p := ⟨W.heap.size + 2, 0, none⟩) (show W.heap.size + 2 < _ by omega)).trans a2; have a3 := (hb.cell (p := ⟨W.heap.size + 2, 1, none⟩) (show W.heap.size + 2 < _ by omega)).trans a3; have hs := Nat.lt_of_lt_of_le hs hb.size)
          | (go_at_call 30; refine (law01_live _).mono ?_; rintro e w' ⟨rfl, hb⟩; have a0 := (hb.cell (p := ⟨W.heap.size + 1, 0, none⟩) (show W.heap.size + 1 < _ by omega)).trans a0; have a1 := (hb.cell (p := ⟨W.heap.size + 1, 1, none⟩) (show W.heap.size + 1 < _ by omega)).trans a1; have a2 := (hb.cell (p := ⟨W.heap.size + 2, 0, none⟩) (show W.heap.size + 2 < _ by omega)).trans a2; have a3 := (hb.cell (p := ⟨W.heap.size + 2, 1, none⟩) (show W.heap.size + 2 < _ by omega)).trans a3; have hs := Nat.lt_of_lt_of_le hs hb.size)
        go_ret
        exact ⟨rfl, by (repeat' (first | (with_reducible exact Below.refl _ _) | (with_reducible assumption) | (with_reducible refine below_drewN ?_ _) | (with_reducible refine Below.drew ?_) | (with_reducible refine Below.alloc ?_ ?_ _) | (with_reducible refine Below.setCell ?_ ?_ _) | (with_reducible refine below_via (by assumption) ?_ ?_) | go_size))⟩
      · go_wp2_with fail
        refine (law01_own _ _ _).mono ?_; rintro e w' ⟨rfl, hb⟩
        have a0 : w'.cell? ⟨W.heap.size + 2, 0, none⟩ = some (.int .i64 p) := (hb.cell (by simp)).trans (by first | (simp; done) | go_cell | (simp [go_sem]; done))
        have a1 : w'.cell? ⟨W.heap.size + 2, 1, none⟩ = some (.int .i64 b) := (hb.cell (by simp)).trans (by first | (simp; done) | go_cell | (simp [go_sem]; done))
        have a2 : w'.cell? ⟨W.heap.size + 1, 0, none⟩ = some (.int .i64 q) := (hb.cell (by simp)).trans (by first | (simp; done) | go_cell | (simp [go_sem]; done))
        have a3 : w'.cell? ⟨W.heap.size + 1, 1, none⟩ = some (.int .i64 c) := (hb.cell (by simp)).trans (by first | (simp; done) | go_cell | (simp [go_sem]; done))
        have hs : W.heap.size + 2 < w'.heap.size := Nat.lt_of_lt_of_le (by simp) hb.size
        go_wp2_with first
          | (go_at_call 24; refine (law01_own _ _ _).mono ?_; rintro e w' ⟨rfl, hb⟩; have a0 := (hb.cell (p := ⟨W.heap.size + 2, 0, none⟩) (show W.heap.size + 2 < _ by omega)).trans a0; have a1 := (hb.cell (p := ⟨W.heap.size + 2, 1, none⟩) (show W.heap.size + 2 < _ by omega)).trans a1; have a2 := (hb.cell (p := ⟨W.heap.size + 1, 0, none⟩) (show W.heap.size + 1 < _ by omega)).trans a2; have a3 := (hb.cell (p := ⟨W.heap.size + 1, 1, none⟩) (show W.heap.size + 1 < _ by omega)).trans a3; have hs := Nat.lt_of_lt_of_le hs hb.size)
          | (go_at_call 31; refine (field_Put _ _ _ _ _ (by omega) (by omega)).mono ?_; (try rw [E1.out]); rintro e w' ⟨rfl, hb⟩; have a0 := (hb.cell (p := ⟨W.heap.size + 2, 0, none⟩) (show W.heap.size + 2 < _ by omega)).trans a0; have a1 := (hb.cell (p := ⟨W.heap.size + 2, 1, none⟩) (show W.heap.size + 2 < _ by omega)).trans a1; have a2 := (hb.cell (p := ⟨W.heap.size + 1, 0, none⟩) (show W.heap.size + 1 < _ by omega)).trans a2; have a3 := (hb.cell (p := ⟨W.heap.size + 1, 1, none⟩) (show W.heap.size + 1 < _ by omega)).trans a3; have hs := Nat.lt_of_lt_of_le hs hb.size)
          | (go_at_call 23; refine (field_Get _ _ _ _).mono ?_; rw [G1.out]; rintro e w' ⟨rfl, hb⟩; have a0 := (hb.cell (p := ⟨W.heap.size + 2, 0, none⟩) (show W.heap.size + 2 < _ by omega)).trans a0; have a1 := (hb.cell (p := ⟨W.heap.size + 2, 1, none⟩) (show W.heap.size + 2 < _ by omega)).trans a1; have a2 := (hb.cell (p := ⟨W.heap.size + 1, 0, none⟩) (show W.heap.size + 1 < _ by omega)).trans a2; have a3 := (hb.cell (p := ⟨W.heap.size + 1, 1, none⟩) (show W.heap.size + 1 < _ by omega)).trans a3; have hs := Nat.lt_of_lt_of_le hs hb.size)
          | (go_at_call 28; refine (field_Check _ _ _).mono ?_; rw [C.out]; rintro e w' ⟨rfl, hb⟩; have a0 := (hb.cell (p := ⟨W.heap.size + 2, 0, none⟩) (show W.heap.size + 2 < _ by omega)).trans a0; have a1 := (hb.cell (p := ⟨W.heap.size + 2, 1, none⟩) (show W.heap.size + 2 < _ by omega)).trans a1; have a2 := (hb.cell (p := ⟨W.heap.size + 1, 0, none⟩) (show W.heap.size + 1 < _ by omega)).trans a2; have a3 := (hb.cell (p := ⟨W.heap.size + 1, 1, none⟩) (show W.heap.size + 1 < _ by omega)).trans a3; have hs := Nat.lt_of_lt_of_le hs hb.size)
          | (go_at_call 30; refine (law01_live _).mono ?_; rintro e w' ⟨rfl, hb⟩; have a0 := (hb.cell (p := ⟨W.heap.size + 2, 0, none⟩) (show W.heap.size + 2 < _ by omega)).trans a0; have a1 := (hb.cell (p := ⟨W.heap.size + 2, 1, none⟩) (show W.heap.size + 2 < _ by omega)).trans a1; have a2 := (hb.cell (p := ⟨W.heap.size + 1, 0, none⟩) (show W.heap.size + 1 < _ by omega)).trans a2; have a3 := (hb.cell (p := ⟨W.heap.size + 1, 1, none⟩) (show W.heap.size + 1 < _ by omega)).trans a3; have hs := Nat.lt_of_lt_of_le hs hb.size)
        go_ret
        exact ⟨rfl, by (repeat' (first | (with_reducible exact Below.refl _ _) | (with_reducible assumption) | (with_reducible refine below_drewN ?_ _) | (with_reducible refine Below.drew ?_) | (with_reducible refine Below.alloc ?_ ?_ _) | (with_reducible refine Below.setCell ?_ ?_ _) | (with_reducible refine below_via (by assumption) ?_ ?_) | go_size))⟩
  · have b1 : ((fPut w p b n).2 != 0) = true := by simpa using h1
    have E1 := Lib.hid (fPut_bad h1)
    have G1 := Lib.hid (show fGet w p b = fGet w p b from rfl)
    have G2 := Lib.hid (show fGet w p b = fGet w p b from rfl)
    have C := Lib.hid (show fChk q c = fChk q c from rfl)
    clear h1
    go_enter Try.func10, Try.ntmps10
    go_wp2_with fail
    go_region
    · go_wp2_with fail
      refine (law01_own _ _ _).mono ?_; rintro e w' ⟨rfl, hb⟩
      have a0 : w'.cell? ⟨W.heap.size + 1, 0, none⟩ = some (.int .i64 p) := (hb.cell (by simp)).trans (by first | (simp; done) | go_cell | (simp [go_sem]; done))
      have a1 : w'.cell? ⟨W.heap.size + 1, 1, none⟩ = some (.int .i64 b) := (hb.cell (by simp)).trans (by first | (simp; done) | go_cell | (simp [go_sem]; done))
      have a2 : w'.cell? ⟨W.heap.size + 2, 0, none⟩ = some (.int .i64 q) := (hb.cell (by simp)).trans (by first | (simp; done) | go_cell | (simp [go_sem]; done))
      have a3 : w'.cell? ⟨W.heap.size + 2, 1, none⟩ = some (.int .i64 c) := (hb.cell (by simp)).trans (by first | (simp; done) | go_cell | (simp [go_sem]; done))
      have hs : W.heap.size + 2 < w'.heap.size := Nat.lt_of_lt_of_le (by simp) hb.size
      go_wp2_with first
        | (go_at_call 24; refine (law01_own _ _ _).mono ?_; rintro e w' ⟨rfl, hb⟩; have a0 := (hb.cell (p := ⟨W.heap.size + 1, 0, none⟩) (show W.heap.size + 1 < _ by omega)).trans a0; have a1 := (hb.cell (p := ⟨W.heap.size + 1, 1, none⟩) (show W.heap.size + 1 < _ by omega)).trans a1; have a2 := (hb.cell (p := ⟨W.heap.size + 2, 0, none⟩) (show W.heap.size + 2 < _ by omega)).trans a2; have a3 := (hb.cell (p := ⟨W.heap.size + 2, 1, none⟩) (show W.heap.size + 2 < _ by omega)).trans a3; have hs := Nat.lt_of_lt_of_le hs hb.size)
        | (go_at_call 31; refine (field_Put _ _ _ _ _ (by omega) (by omega)).mono ?_; (try rw [E1.out]); rintro e w' ⟨rfl, hb⟩; have a0 := (hb.cell (p := ⟨W.heap.size + 1, 0, none⟩) (show W.heap.size + 1 < _ by omega)).trans a0; have a1 := (hb.cell (p := ⟨W.heap.size + 1, 1, none⟩) (show W.heap.size + 1 < _ by omega)).trans a1; have a2 := (hb.cell (p := ⟨W.heap.size + 2, 0, none⟩) (show W.heap.size + 2 < _ by omega)).trans a2; have a3 := (hb.cell (p := ⟨W.heap.size + 2, 1, none⟩) (show W.heap.size + 2 < _ by omega)).trans a3; have hs := Nat.lt_of_lt_of_le hs hb.size)
        | (go_at_call 23; refine (field_Get _ _ _ _).mono ?_; rw [G1.out]; rintro e w' ⟨rfl, hb⟩; have a0 := (hb.cell (p := ⟨W.heap.size + 1, 0, none⟩) (show W.heap.size + 1 < _ by omega)).trans a0; have a1 := (hb.cell (p := ⟨W.heap.size + 1, 1, none⟩) (show W.heap.size + 1 < _ by omega)).trans a1; have a2 := (hb.cell (p := ⟨W.heap.size + 2, 0, none⟩) (show W.heap.size + 2 < _ by omega)).trans a2; have a3 := (hb.cell (p := ⟨W.heap.size + 2, 1, none⟩) (show W.heap.size + 2 < _ by omega)).trans a3; have hs := Nat.lt_of_lt_of_le hs hb.size)
        | (go_at_call 28; refine (field_Check _ _ _).mono ?_; rw [C.out]; rintro e w' ⟨rfl, hb⟩; have a0 := (hb.cell (p := ⟨W.heap.size + 1, 0, none⟩) (show W.heap.size + 1 < _ by omega)).trans a0; have a1 := (hb.cell (p := ⟨W.heap.size + 1, 1, none⟩) (show W.heap.size + 1 < _ by omega)).trans a1; have a2 := (hb.cell (p := ⟨W.heap.size + 2, 0, none⟩) (show W.heap.size + 2 < _ by omega)).trans a2; have a3 := (hb.cell (p := ⟨W.heap.size + 2, 1, none⟩) (show W.heap.size + 2 < _ by omega)).trans a3; have hs := Nat.lt_of_lt_of_le hs hb.size)
        | (go_at_call 30; refine (law01_live _).mono ?_; rintro e w' ⟨rfl, hb⟩; have a0 := (hb.cell (p := ⟨W.heap.size + 1, 0, none⟩) (show W.heap.size + 1 < _ by omega)).trans a0; have a1 := (hb.cell (p := ⟨W.heap.size + 1, 1, none⟩) (show W.heap.size + 1 < _ by omega)).trans a1; have a2 := (hb.cell (p := ⟨W.heap.size + 2, 0, none⟩) (show W.heap.size + 2 < _ by omega)).trans a2; have a3 := (hb.cell (p := ⟨W.heap.size + 2, 1, none⟩) (show W.heap.size + 2 < _ by omega)).trans a3; have hs := Nat.lt_of_lt_of_le hs hb.size)
      go_ret
      exact ⟨rfl, by (repeat' (first | (with_reducible exact Below.refl _ _) | (with_reducible assumption) | (with_reducible refine below_drewN ?_ _) | (with_reducible refine Below.drew ?_) | (with_reducible refine Below.alloc ?_ ?_ _) | (with_reducible refine Below.setCell ?_ ?_ _) | (with_reducible refine below_via (by assumption) ?_ ?_) | go_size))⟩
    · go_wp2_with fail
      refine (law01_own _ _ _).mono ?_; rintro e w' ⟨rfl, hb⟩
      have a0 : w'.cell? ⟨W.heap.size + 2, 0, none⟩ = some (.int .i64 p) := (hb.cell (by simp)).trans (by first | (simp; done) | go_cell | (simp [go_sem]; done))
      have a1 : w'.cell? ⟨W.heap.size + 2, 1, none⟩ = some (.int .i64 b) := (hb.cell (by simp)).trans (by first | (simp; done) | go_cell | (simp [go_sem]; done))
      have a2 : w'.cell? ⟨W.heap.size + 1, 0, none⟩ = some (.int .i64 q) := (hb.cell (by simp)).trans (by first | (simp; done) | go_cell | (simp [go_sem]; done))
      have a3 : w'.cell? ⟨W.heap.size + 1, 1, none⟩ = some (.int .i64 c) := (hb.cell (by simp)).trans (by first | (simp; done) | go_cell | (simp [go_sem]; done))
      have hs : W.heap.size + 2 < w'.heap.size := Nat.lt_of_lt_of_le (by simp) hb.size
      go_wp2_with first
        | (go_at_call 24; refine (law01_own _ _ _).mono ?_; rintro e w' ⟨rfl, hb⟩; have a0 := (hb.cell (p := ⟨W.heap.size + 2, 0, none⟩) (show W.heap.size + 2 < _ by omega)).trans a0; have a1 := (hb.cell (p := ⟨W.heap.size + 2, 1, none⟩) (show W.heap.size + 2 < _ by omega)).trans a1; have a2 := (hb.cell (p := ⟨W.heap.size + 1, 0, none⟩) (show W.heap.size + 1 < _ by omega)).trans a2; have a3 := (hb.cell (p := ⟨W.heap.size + 1, 1, none⟩) (show W.heap.size + 1 < _ by omega)).trans a3; have hs := Nat.lt_of_lt_of_le hs hb.size)
        | (go_at_call 31; refine (field_Put _ _ _ _ _ (by omega) (by omega)).mono ?_; (try rw [E1.out]); rintro e w' ⟨rfl, hb⟩; have a0 := (hb.cell (p := ⟨W.heap.size + 2, 0, none⟩) (show W.heap.size + 2 < _ by omega)).trans a0; have a1 := (hb.cell (p := ⟨W.heap.size + 2, 1, none⟩) (show W.heap.size + 2 < _ by omega)).trans a1; have a2 := (hb.cell (p := ⟨W.heap.size + 1, 0, none⟩) (show W.heap.size + 1 < _ by omega)).trans a2; have a3 := (hb.cell (p := ⟨W.heap.size + 1, 1, none⟩) (show W.heap.size + 1 < _ by omega)).trans a3; have hs := Nat.lt_of_lt_of_le hs hb.size)
        | (go_at_call 23; refine (field_Get _ _ _ _).mono ?_; rw [G1.out]; rintro e w' ⟨rfl, hb⟩; have a0 := (hb.cell (p := ⟨W.heap.size + 2, 0, none⟩) (show W.heap.size + 2 < _ by omega)).trans a0; have a1 := (hb.cell (p := ⟨W.heap.size + 2, 1, none⟩) (show W.heap.size + 2 < _ by omega)).trans a1; have a2 := (hb.cell (p := ⟨W.heap.size + 1, 0, none⟩) (show W.heap.size + 1 < _ by omega)).trans a2; have a3 := (hb.cell (p := ⟨W.heap.size + 1, 1, none⟩) (show W.heap.size + 1 < _ by omega)).trans a3; have hs := Nat.lt_of_lt_of_le hs hb.size)
        | (go_at_call 28; refine (field_Check _ _ _).mono ?_; rw [C.out]; rintro e w' ⟨rfl, hb⟩; have a0 := (hb.cell (p := ⟨W.heap.size + 2, 0, none⟩) (show W.heap.size + 2 < _ by omega)).trans a0; have a1 := (hb.cell (p := ⟨W.heap.size + 2, 1, none⟩) (show W.heap.size + 2 < _ by omega)).trans a1; have a2 := (hb.cell (p := ⟨W.heap.size + 1, 0, none⟩) (show W.heap.size + 1 < _ by omega)).trans a2; have a3 := (hb.cell (p := ⟨W.heap.size + 1, 1, none⟩) (show W.heap.size + 1 < _ by omega)).trans a3; have hs := Nat.lt_of_lt_of_le hs hb.size)
        | (go_at_call 30; refine (law01_live _).mono ?_; rintro e w' ⟨rfl, hb⟩; have a0 := (hb.cell (p := ⟨W.heap.size + 2, 0, none⟩) (show W.heap.size + 2 < _ by omega)).trans a0; have a1 := (hb.cell (p := ⟨W.heap.size + 2, 1, none⟩) (show W.heap.size + 2 < _ by omega)).trans a1; have a2 := (hb.cell (p := ⟨W.heap.size + 1, 0, none⟩) (show W.heap.size + 1 < _ by omega)).trans a2; have a3 := (hb.cell (p := ⟨W.heap.size + 1, 1, none⟩) (show W.heap.size + 1 < _ by omega)).trans a3; have hs := Nat.lt_of_lt_of_le hs hb.size)
      go_ret
      exact ⟨rfl, by (repeat' (first | (with_reducible exact Below.refl _ _) | (with_reducible assumption) | (with_reducible refine below_drewN ?_ _) | (with_reducible refine Below.drew ?_) | (with_reducible refine Below.alloc ?_ ?_ _) | (with_reducible refine Below.setCell ?_ ?_ _) | (with_reducible refine below_via (by assumption) ?_ ?_) | go_size))⟩
end Go.Proofs.Ytekiakognpifnaa
