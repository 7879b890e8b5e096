/- The reference of field, and the law package's 'own'. -/
import Derived.Deep.DeepCutAuto
import Derived.Test.YtekiakognpifnaaFnA
import Derived.Test.YtekiakognpifnaaFnG
namespace Go.Proofs.Ytekiakognpifnaa
set_option linter.unusedVariables false
set_option linter.unusedSimpArgs false
open Go.RowKit
set_option maxHeartbeats 400000 in
theorem ref01_Word (n : Int) (w : World) : Calls Try.prog 37 #[.int .i64 n] w fun e w' => e = .returned (.bool (fWord n)) ∧ w = w' := by
  by_cases h : 0 ≤ n
  · by_cases h2 : n < 4611686018427387904
    · have e := Lib.hid (show fWord n = true by simp [fWord]; omega)
      go_enter Try.func37, Try.ntmps37
      go_wp2
      go_ret
      exact ⟨by rw [e.out]; (first | rfl | (apply retb; first | rfl | (simp; done) | (simp; omega))), rfl⟩
    · have e := Lib.hid (show fWord n = false by simp [fWord]; omega)
      go_enter Try.func37, Try.ntmps37
      go_wp2
      go_ret
      exact ⟨by rw [e.out]; (first | rfl | (apply retb; first | rfl | (simp; done) | (simp; omega))), rfl⟩
  · have e := Lib.hid (show fWord n = false by simp [fWord]; omega)
    have h' : n < 0 := by omega
    clear h
    go_enter Try.func37, Try.ntmps37
    go_wp2
    go_ret
    exact ⟨by rw [e.out]; (first | rfl | (apply retb; first | rfl | (simp; done) | (simp; omega))), rfl⟩
set_option maxHeartbeats 400000 in
theorem ref01_Check (p b : Int) (w : World) : Calls Try.prog 29 #[.agg #[.int .i64 p, .int .i64 b]] w fun e w' => e = .returned (.int .i64 (fChk p b)) ∧ Below w.heap.size w w' := by
  by_cases h : 0 ≤ p ∧ 1 ≤ b ∧ b ≤ 32 ∧ p ≤ 62 - b
  · obtain ⟨h1, h2, h3, h4⟩ := h
    rw [fChk_y (fMay_yes h1 h2 h3 h4)]
    go_enter Try.func29, Try.ntmps29
    go_wp2
    go_ret
    exact ⟨rfl, by (repeat' (first | (with_reducible exact Below.refl _ _) | (with_reducible assumption) | (with_reducible refine below_drewN ?_ _) | (with_reducible refine Below.drew ?_) | (with_reducible refine Below.alloc ?_ ?_ _) | (with_reducible refine Below.setCell ?_ ?_ _) | (with_reducible refine below_via (by assumption) ?_ ?_) | go_size))⟩
  · rw [fChk_n (by simp [fMay]; omega)]
    have hh : p < 0 ∨ b < 1 ∨ 32 < b ∨ 62 - b < p := by omega
    clear h
    by_cases h1 : p < 0
    · go_enter Try.func29, Try.ntmps29
      go_wp2
      go_ret
      exact ⟨rfl, by (repeat' (first | (with_reducible exact Below.refl _ _) | (with_reducible assumption) | (with_reducible refine below_drewN ?_ _) | (with_reducible refine Below.drew ?_) | (with_reducible refine Below.alloc ?_ ?_ _) | (with_reducible refine Below.setCell ?_ ?_ _) | (with_reducible refine below_via (by assumption) ?_ ?_) | go_size))⟩
    · by_cases h2 : b < 1
      · have h1' : 0 ≤ p := by omega
        clear h1 hh
        go_enter Try.func29, Try.ntmps29
        go_wp2
        go_ret
        exact ⟨rfl, by (repeat' (first | (with_reducible exact Below.refl _ _) | (with_reducible assumption) | (with_reducible refine below_drewN ?_ _) | (with_reducible refine Below.drew ?_) | (with_reducible refine Below.alloc ?_ ?_ _) | (with_reducible refine Below.setCell ?_ ?_ _) | (with_reducible refine below_via (by assumption) ?_ ?_) | go_size))⟩
      · by_cases h3 : 32 < b
        · have h1' : 0 ≤ p := by omega
          have h2' : 1 ≤ b := by omega
          clear h1 h2 hh
          go_enter Try.func29, Try.ntmps29
          go_wp2
          go_ret
          exact ⟨rfl, by (repeat' (first | (with_reducible exact Below.refl _ _) | (with_reducible assumption) | (with_reducible refine below_drewN ?_ _) | (with_reducible refine Below.drew ?_) | (with_reducible refine Below.alloc ?_ ?_ _) | (with_reducible refine Below.setCell ?_ ?_ _) | (with_reducible refine below_via (by assumption) ?_ ?_) | go_size))⟩
        · have h1' : 0 ≤ p := by omega
          have h2' : 1 ≤ b := by omega
          have h3' : b ≤ 32 := by omega
          have h4' : 62 - b < p := by omega
          clear h1 h2 h3 hh
          go_enter Try.func29, Try.ntmps29
          go_wp2
          go_ret
          exact ⟨rfl, by (repeat' (first | (with_reducible exact Below.refl _ _) | (with_reducible assumption) | (with_reducible refine below_drewN ?_ _) | (with_reducible refine Below.drew ?_) | (with_reducible refine Below.alloc ?_ ?_ _) | (with_reducible refine Below.setCell ?_ ?_ _) | (with_reducible refine below_via (by assumption) ?_ ?_) | go_size))⟩
theorem pw_succ (k : Nat) : pw ((k + 1 : Nat) : Int) = pw (k : Int) * 2 := by rw [pw_nat, pw_nat, Nat.pow_succ]; simp
set_option maxHeartbeats 400000 in
theorem ref01_power (n : Int) (w : World) (h0 : 0 ≤ n) (h1 : n ≤ 62) : Calls Try.prog 38 #[.int .i64 n] w fun e w' => e = .returned (.int .i64 (pw n)) ∧ w = w' := by
  obtain ⟨m, rfl⟩ := Int.eq_ofNat_of_zero_le h0
  have hm : m ≤ 62 := by omega
  go_enter Try.func38, Try.ntmps38
  go_wp2_with fail
  go_loop [3, 4] (fun o i => ∃ k : Nat, k ≤ m ∧ i = .int .i64 k ∧ o = .int .i64 (pw (k : Int))) (fun _ i => m - (intOf i).toNat)
  case atStart => exact ⟨0, Nat.zero_le _, rfl, rfl⟩
  case round =>
    obtain ⟨k, hk, rfl, rfl⟩ := hrel
    by_cases hlt : k < m
    · have hp := pw_pos (k : Int)
      have hb : pw (k : Int) ≤ 2305843009213693952 := by
        have := pw_le (show (k : Int) ≤ 61 by omega)
        exact Int.le_trans this (by decide)
      have hs := Lib.hid (pw_succ k)
      go_wp2
      go_round
      case rel => exact ⟨k + 1, by omega, by go_num, by rw [hs.out]⟩
      case measure => simp [intOf]; omega
    · have : k = m := by omega
      subst this
      go_wp2
      go_ret
      exact ⟨rfl, rfl⟩
set_option maxHeartbeats 400000 in
theorem ref01_Most (p b : Int) (W : World) : Calls Try.prog 27 #[.agg #[.int .i64 p, .int .i64 b]] W fun e w' => e = .returned (.int .i64 (fMost p b)) ∧ Below W.heap.size W w' := by
  rcases bool_cases (b := fMay p b) with h | h
  · have h' := Lib.hid h
    obtain ⟨h0, h1, h2, h3⟩ := fMay_of h
    have g := pw_b h
    have g2 := pw_pos b
    rw [fMost_y h]
    clear h
    go_enter Try.func27, Try.ntmps27
    go_wp2_with first
      | (go_at_call 29; refine (ref01_Check _ _ _).mono ?_; rw [fChk_y h'.out]; rintro e w1 ⟨rfl, hb1⟩; have hz1 := hb1.size; (try simp only [World.size_alloc, World.size_drew, World.size_setCell, size_drewN] at hz1); have a0 := (hb1.cell (p := ⟨W.heap.size, 0, none⟩) (by simp)).trans (show _ = some (.int .i64 p) by simp); have a1 := (hb1.cell (p := ⟨W.heap.size, 1, none⟩) (by simp)).trans (show _ = some (.int .i64 b) by simp))
      | (go_at_call 38; refine (ref01_power _ _ (by omega) (by omega)).mono ?_; rintro e w2 ⟨rfl, rfl⟩)
    go_ret
    exact ⟨rfl, by (repeat' (first | (with_reducible exact Below.refl _ _) | (with_reducible assumption) | (with_reducible refine below_drewN ?_ _) | (with_reducible refine Below.drew ?_) | (with_reducible refine Below.alloc ?_ ?_ _) | (with_reducible refine Below.setCell ?_ ?_ _) | (with_reducible refine below_via (by assumption) ?_ ?_) | go_size))⟩
  · have h' := Lib.hid h
    rw [fMost_n h]
    clear h
    go_enter Try.func27, Try.ntmps27
    go_wp2_with (go_at_call 29; refine (ref01_Check _ _ _).mono ?_; rw [fChk_n h'.out]; rintro e w1 ⟨rfl, hb1⟩)
    go_ret
    exact ⟨rfl, by (repeat' (first | (with_reducible exact Below.refl _ _) | (with_reducible assumption) | (with_reducible refine below_drewN ?_ _) | (with_reducible refine Below.drew ?_) | (with_reducible refine Below.alloc ?_ ?_ _) | (with_reducible refine Below.setCell ?_ ?_ _) | (with_reducible refine below_via (by assumption) ?_ ?_) | go_size))⟩
set_option maxHeartbeats 1000000 in
theorem ref01_Get (w p b : Int) (W : World) : Calls Try.prog 25 #[.int .i64 w, .agg #[.int .i64 p, .int .i64 b]] W fun e w' => e = .returned (.int .i64 (fGet w p b)) ∧ Below W.heap.size W w' := by
  rcases bool_cases (b := fWord w) with hw | hw
  · rcases bool_cases (b := fMay p b) with h | h
    · have h' := Lib.hid h
      have hw' := Lib.hid hw
      have e := Lib.hid (show fGet w p b = w / pw p % pw b by unfold fGet; rw [if_pos ⟨hw, h⟩])
      obtain ⟨h0, h1, h2, h3⟩ := fMay_of h
      have g := pw_b h
      have g1 := pw_pos b
      have g2 := pw_pos p
      have hx : 0 ≤ w ∧ w < 4611686018427387904 := by simpa [fWord] using hw
      obtain ⟨x0, x1⟩ := hx
      have x2 : 0 ≤ w / pw p := Int.ediv_nonneg x0 (by omega)
      clear h hw
      go_enter Try.func25, Try.ntmps25
      go_wp2_with first
        | (go_at_call 37; refine (ref01_Word _ _).mono ?_; rw [hw'.out]; rintro e w1 ⟨rfl, rfl⟩)
        | (go_at_call 29; refine (ref01_Check _ _ _).mono ?_; rw [fChk_y h'.out]; rintro e w1 ⟨rfl, hb1⟩; have hz1 := hb1.size; (try simp only [World.size_alloc, World.size_drew, World.size_setCell, size_drewN] at hz1); have a0 := (hb1.cell (p := ⟨W.heap.size, 0, none⟩) (by simp)).trans (show _ = some (.int .i64 p) by simp); have a1 := (hb1.cell (p := ⟨W.heap.size, 1, none⟩) (by simp)).trans (show _ = some (.int .i64 b) by simp))
        | (go_at_call 38; refine (ref01_power _ _ (by omega) (by omega)).mono ?_; rintro e w2 ⟨rfl, rfl⟩)
      go_quiet ((go_at_call 38; exact Calls.quiet_of_same ((ref01_power _ _ (by omega) (by omega)).mono fun e w' h => ⟨h.1, h.2.symm⟩)))
      go_wp2
      go_ret
      exact ⟨ret1 e.out.symm, by (repeat' (first | (with_reducible exact Below.refl _ _) | (with_reducible assumption) | (with_reducible refine below_drewN ?_ _) | (with_reducible refine Below.drew ?_) | (with_reducible refine Below.alloc ?_ ?_ _) | (with_reducible refine Below.setCell ?_ ?_ _) | (with_reducible refine below_via (by assumption) ?_ ?_) | go_size))⟩
    · have h' := Lib.hid h
      have hw' := Lib.hid hw
      have e := Lib.hid (show fGet w p b = 0 by unfold fGet; rw [if_neg (by simp [h])])
      clear h hw
      go_enter Try.func25, Try.ntmps25
      go_wp2_with first
        | (go_at_call 37; refine (ref01_Word _ _).mono ?_; rw [hw'.out]; rintro e w1 ⟨rfl, rfl⟩)
        | (go_at_call 29; refine (ref01_Check _ _ _).mono ?_; rw [fChk_n h'.out]; rintro e w1 ⟨rfl, hb1⟩; have hz1 := hb1.size; (try simp only [World.size_alloc, World.size_drew, World.size_setCell, size_drewN] at hz1); have a0 := (hb1.cell (p := ⟨W.heap.size, 0, none⟩) (by simp)).trans (show _ = some (.int .i64 p) by simp); have a1 := (hb1.cell (p := ⟨W.heap.size, 1, none⟩) (by simp)).trans (show _ = some (.int .i64 b) by simp))
      go_ret
      exact ⟨ret1 e.out.symm, by (repeat' (first | (with_reducible exact Below.refl _ _) | (with_reducible assumption) | (with_reducible refine below_drewN ?_ _) | (with_reducible refine Below.drew ?_) | (with_reducible refine Below.alloc ?_ ?_ _) | (with_reducible refine Below.setCell ?_ ?_ _) | (with_reducible refine below_via (by assumption) ?_ ?_) | go_size))⟩
  · have hw' := Lib.hid hw
    have e := Lib.hid (show fGet w p b = 0 by unfold fGet; rw [if_neg (by simp [hw])])
    clear hw
    go_enter Try.func25, Try.ntmps25
    go_wp2_with (go_at_call 37; refine (ref01_Word _ _).mono ?_; rw [hw'.out]; rintro e w1 ⟨rfl, rfl⟩)
    go_ret
    exact ⟨ret1 e.out.symm, by (repeat' (first | (with_reducible exact Below.refl _ _) | (with_reducible assumption) | (with_reducible refine below_drewN ?_ _) | (with_reducible refine Below.drew ?_) | (with_reducible refine Below.alloc ?_ ?_ _) | (with_reducible refine Below.setCell ?_ ?_ _) | (with_reducible refine below_via (by assumption) ?_ ?_) | go_size))⟩
set_option maxHeartbeats 400000 in
theorem law01_own (p b : Int) (W : World) : Calls Try.prog 24 #[.agg #[.int .i64 p, .int .i64 b]] W fun e w' => e = .returned (.agg #[.int .i64 p, .int .i64 b]) ∧ Below W.heap.size W w' := by
  go_enter Try.func24, Try.ntmps24
  go_wp2_with fail
  exact bodyPost_ret (v := .agg #[.int .i64 p, .int .i64 b]) (by simp [results, Try.results24, go_sem]) rfl ⟨rfl, by (repeat' (first | (with_reducible exact Below.refl _ _) | (with_reducible assumption) | (with_reducible refine below_drewN ?_ _) | (with_reducible refine Below.drew ?_) | (with_reducible refine Below.alloc ?_ ?_ _) | (with_reducible refine Below.setCell ?_ ?_ _) | (with_reducible refine below_via (by assumption) ?_ ?_) | go_size))⟩
set_option maxHeartbeats 2000000 in
set_option maxRecDepth 100000 in
theorem law01_live (W : World) : Calls Try.prog 30 #[] W fun e w' => e = .returned (.bool true) ∧ Below W.heap.size W w' := by
  have p1 : fPut 0 4 4 5 = (80, 0) := by decide
  have p2 : fPut 0 4 4 16 = (0, 3) := by decide
  have p3 : fPut (-1) 4 4 1 = (0, 1) := by decide
  have q1 : fAdd 80 4 4 10 = (240, 0) := by decide
  have q2 : fAdd 80 4 4 11 = (0, 3) := by decide
  have g1 : fGet 80 4 4 = 5 := by decide
  have t1 : fTop 80 4 4 99 = 240 := by decide
  have t2 : fTop 80 4 4 (-99) = 0 := by decide
  have m1 : fMost 4 4 = 15 := by decide
  have c1 : fChk 60 3 = 1 := by decide
  go_enter Try.func30, Try.ntmps30
  go_wp2_with fail
  have a0 : (W.alloc (Obj.cells #[.int .i64 4, .int .i64 4] 39)).cell? ⟨W.heap.size, 0, none⟩ = some (.int .i64 4) := by simp
  have a1 : (W.alloc (Obj.cells #[.int .i64 4, .int .i64 4] 39)).cell? ⟨W.heap.size, 1, none⟩ = some (.int .i64 4) := by simp
  have hs : W.heap.size < (W.alloc (Obj.cells #[.int .i64 4, .int .i64 4] 39)).heap.size := by simp
  go_wp2_with first
    | (go_at_call 31; refine (field_Put _ _ _ _ _ (by decide) (by decide)).mono ?_; (try rw [p1]); (try rw [p2]); (try rw [p3]); rintro e w' ⟨rfl, hb⟩; have a0 := (hb.cell (p := ⟨W.heap.size, 0, none⟩) hs).trans a0; have a1 := (hb.cell (p := ⟨W.heap.size, 1, none⟩) hs).trans a1; have hs := Nat.lt_of_lt_of_le hs hb.size)
    | (go_at_call 32; refine (field_Add _ _ _ _ _ (by decide) (by decide)).mono ?_; (try rw [q1]); (try rw [q2]); rintro e w' ⟨rfl, hb⟩; have a0 := (hb.cell (p := ⟨W.heap.size, 0, none⟩) hs).trans a0; have a1 := (hb.cell (p := ⟨W.heap.size, 1, none⟩) hs).trans a1; have hs := Nat.lt_of_lt_of_le hs hb.size)
    | (go_at_call 33; refine (field_Top _ _ _ _ _ (by decide) (by decide)).mono ?_; (try rw [t1]); (try rw [t2]); rintro e w' ⟨rfl, hb⟩; have a0 := (hb.cell (p := ⟨W.heap.size, 0, none⟩) hs).trans a0; have a1 := (hb.cell (p := ⟨W.heap.size, 1, none⟩) hs).trans a1; have hs := Nat.lt_of_lt_of_le hs hb.size)
    | (go_at_call 23; refine (field_Get_ok _ _ _ _ (by decide) (by decide)).mono ?_; rw [g1]; rintro e w' ⟨rfl, hb⟩; have a0 := (hb.cell (p := ⟨W.heap.size, 0, none⟩) hs).trans a0; have a1 := (hb.cell (p := ⟨W.heap.size, 1, none⟩) hs).trans a1; have hs := Nat.lt_of_lt_of_le hs hb.size)
    | (go_at_call 26; refine (field_Most _ _ _).mono ?_; rw [m1]; rintro e w' ⟨rfl, hb⟩; have a0 := (hb.cell (p := ⟨W.heap.size, 0, none⟩) hs).trans a0; have a1 := (hb.cell (p := ⟨W.heap.size, 1, none⟩) hs).trans a1; have hs := Nat.lt_of_lt_of_le hs hb.size)
    | (go_at_call 28; refine (field_Check _ _ _).mono ?_; rw [c1]; rintro e w' ⟨rfl, hb⟩; have a0 := (hb.cell (p := ⟨W.heap.size, 0, none⟩) hs).trans a0; have a1 := (hb.cell (p := ⟨W.heap.size, 1, none⟩) hs).trans a1; have hs := Nat.lt_of_lt_of_le hs hb.size)
  go_ret
  exact ⟨rfl, by (repeat' (first | (with_reducible exact Below.refl _ _) | (with_reducible assumption) | (with_reducible refine below_drewN ?_ _) | (with_reducible refine Below.drew ?_) | (with_reducible refine Below.alloc ?_ ?_ _) | (with_reducible refine Below.setCell ?_ ?_ _) | (with_reducible refine below_via (by assumption) ?_ ?_) | go_size))⟩
end Go.Proofs.Ytekiakognpifnaa
