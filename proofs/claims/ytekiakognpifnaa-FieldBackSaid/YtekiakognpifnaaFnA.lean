/- field.Add and field.Top. -/
import Derived.Deep.DeepCutAuto
import Derived.Test.YtekiakognpifnaaFnW
namespace Go.Proofs.Ytekiakognpifnaa
set_option linter.unusedVariables false
set_option linter.unusedSimpArgs false
open Go.RowKit
theorem i64any (n : Int) (h : -9223372036854775808 ≤ n) (h' : n ≤ 9223372036854775807) : IntKind.i64.wrap n = n := by rw [IntKind.wrap_i64]; omega
theorem put_arg {w p b n n' : Int} {W : World} {R : Ending → World → Prop} (h : n = n') (H : Calls Try.prog 31 #[.int .i64 w, .agg #[.int .i64 p, .int .i64 b], .int .i64 n'] W R) : Calls Try.prog 31 #[.int .i64 w, .agg #[.int .i64 p, .int .i64 b], .int .i64 n] W R := by rw [h]; exact H
theorem fGet_bd (w p b : Int) : 0 ≤ fGet w p b ∧ (fMay p b = true → fGet w p b ≤ pw b - 1) := by
  unfold fGet
  have := pw_pos b
  split
  · exact ⟨Int.emod_nonneg _ (by omega), fun _ => by have := Int.emod_lt_of_pos (w / pw p) (pw_pos b); omega⟩
  · exact ⟨Int.le_refl _, fun _ => by omega⟩
theorem pw_b {p b : Int} (h : fMay p b = true) : pw b ≤ 4294967296 := by rw [← pw_32]; exact pw_le (fMay_of h).2.2.1
set_option maxHeartbeats 1000000 in
theorem field_Add (w p b y : Int) (W : World) (hy : -9223372036854775808 ≤ y) (hy' : y ≤ 9223372036854775807) : Calls Try.prog 32 #[.int .i64 w, .agg #[.int .i64 p, .int .i64 b], .int .i64 y] W fun e w' => e = .returned (.tuple #[.int .i64 (fAdd w p b y).1, .int .i64 (fAdd w p b y).2]) ∧ Below W.heap.size W w' := by
  rcases bool_cases (b := fWord w) with hw | hw
  · rcases bool_cases (b := fMay p b) with h | h
    · have h' := Lib.hid h
      have hw' := Lib.hid hw
      obtain ⟨h0, h1, h2, h3⟩ := fMay_of h
      have g0 := (fGet_bd w p b).1
      have g1 := (fGet_bd w p b).2 h
      have g2 := pw_b h
      by_cases c : y < - fGet w p b ∨ pw b - 1 - fGet w p b < y
      · have e := Lib.hid (show fAdd w p b y = (0, 3) by unfold fAdd; rw [if_neg (by simp [hw, h]), if_pos c])
        clear h hw
        rcases c with c | c
        all_goals
          go_enter Try.func32, Try.ntmps32
          go_wp2_with first
            | (go_at_call 34; refine (field_word _ _).mono ?_; rw [hw'.out]; rintro e w' ⟨rfl, rfl⟩)
            | (go_at_call 40; refine (field_may _ _ _).mono ?_; rw [h'.out]; rintro e w1 ⟨rfl, hb1⟩; have hz1 := hb1.size; (try simp only [World.size_alloc, World.size_drew, World.size_setCell, size_drewN] at hz1); have a0 := (hb1.cell (p := ⟨W.heap.size, 0, none⟩) (by simp)).trans (show _ = some (.int .i64 p) by simp); have a1 := (hb1.cell (p := ⟨W.heap.size, 1, none⟩) (by simp)).trans (show _ = some (.int .i64 b) by simp))
            | (go_at_call 23; refine (field_Get_ok _ _ _ _ h'.out hw'.out).mono ?_; rintro e w2 ⟨rfl, hb2⟩; have hz2 := hb2.size; (try simp only [World.size_alloc, World.size_drew, World.size_setCell, size_drewN] at hz2); have a0 := (hb2.cell (p := ⟨W.heap.size, 0, none⟩) (by (try simp); omega)).trans (by first | exact a0 | (simp; exact a0)); have a1 := (hb2.cell (p := ⟨W.heap.size, 1, none⟩) (by (try simp); omega)).trans (by first | exact a1 | (simp; exact a1)))
            | (go_at_call 39; refine (field_most _ _ _ h1 h2).mono ?_; rintro e w3 ⟨rfl, hb3⟩; have hz3 := hb3.size; (try simp only [World.size_alloc, World.size_drew, World.size_setCell, size_drewN] at hz3); have a0 := (hb3.cell (p := ⟨W.heap.size, 0, none⟩) (by (try simp); omega)).trans (by first | exact a0 | (simp; exact a0)); have a1 := (hb3.cell (p := ⟨W.heap.size, 1, none⟩) (by (try simp); omega)).trans (by first | exact a1 | (simp; exact a1)))
          all_goals first | (exfalso; omega) | (go_ret2; exact ⟨by rw [e.out]; rfl, by (repeat' (first | (with_reducible exact Below.refl _ _) | (with_reducible assumption) | (with_reducible refine below_drewN ?_ _) | (with_reducible refine Below.drew ?_) | (with_reducible refine Below.alloc ?_ ?_ _) | (with_reducible refine Below.setCell ?_ ?_ _) | (with_reducible refine below_via (by assumption) ?_ ?_) | go_size))⟩)
      · have c1 : - fGet w p b ≤ y := by omega
        have c2 : y ≤ pw b - 1 - fGet w p b := by omega
        have e := Lib.hid (show fAdd w p b y = fPut w p b (fGet w p b + y) by unfold fAdd; rw [if_neg (by simp [hw, h]), if_neg c])
        clear h hw c
        go_enter Try.func32, Try.ntmps32
        go_wp2_with first
          | (go_at_call 34; refine (field_word _ _).mono ?_; rw [hw'.out]; rintro e w' ⟨rfl, rfl⟩)
          | (go_at_call 40; refine (field_may _ _ _).mono ?_; rw [h'.out]; rintro e w1 ⟨rfl, hb1⟩; have hz1 := hb1.size; (try simp only [World.size_alloc, World.size_drew, World.size_setCell, size_drewN] at hz1); have a0 := (hb1.cell (p := ⟨W.heap.size, 0, none⟩) (by simp)).trans (show _ = some (.int .i64 p) by simp); have a1 := (hb1.cell (p := ⟨W.heap.size, 1, none⟩) (by simp)).trans (show _ = some (.int .i64 b) by simp))
          | (go_at_call 23; refine (field_Get_ok _ _ _ _ h'.out hw'.out).mono ?_; rintro e w2 ⟨rfl, hb2⟩; have hz2 := hb2.size; (try simp only [World.size_alloc, World.size_drew, World.size_setCell, size_drewN] at hz2); have a0 := (hb2.cell (p := ⟨W.heap.size, 0, none⟩) (by (try simp); omega)).trans (by first | exact a0 | (simp; exact a0)); have a1 := (hb2.cell (p := ⟨W.heap.size, 1, none⟩) (by (try simp); omega)).trans (by first | exact a1 | (simp; exact a1)))
          | (go_at_call 39; refine (field_most _ _ _ h1 h2).mono ?_; rintro e w3 ⟨rfl, hb3⟩; have hz3 := hb3.size; (try simp only [World.size_alloc, World.size_drew, World.size_setCell, size_drewN] at hz3); have a0 := (hb3.cell (p := ⟨W.heap.size, 0, none⟩) (by (try simp); omega)).trans (by first | exact a0 | (simp; exact a0)); have a1 := (hb3.cell (p := ⟨W.heap.size, 1, none⟩) (by (try simp); omega)).trans (by first | exact a1 | (simp; exact a1)))
          | (go_at_call 31; refine (field_Put _ _ _ _ _ (by omega) (by omega)).mono ?_; rintro e w4 ⟨rfl, hb4⟩)
        go_ret2
        exact ⟨by rw [e.out]; rfl, by (repeat' (first | (with_reducible exact Below.refl _ _) | (with_reducible assumption) | (with_reducible refine below_drewN ?_ _) | (with_reducible refine Below.drew ?_) | (with_reducible refine Below.alloc ?_ ?_ _) | (with_reducible refine Below.setCell ?_ ?_ _) | (with_reducible refine below_via (by assumption) ?_ ?_) | go_size))⟩
    · have h' := Lib.hid h
      have hw' := Lib.hid hw
      have e := Lib.hid (show fAdd w p b y = (0, 1) by unfold fAdd; rw [if_pos (by simp [h])])
      clear h hw
      go_enter Try.func32, Try.ntmps32
      go_wp2_with first
        | (go_at_call 34; refine (field_word _ _).mono ?_; rw [hw'.out]; rintro e w' ⟨rfl, rfl⟩)
        | (go_at_call 40; refine (field_may _ _ _).mono ?_; rw [h'.out]; rintro e w1 ⟨rfl, hb1⟩; have hz1 := hb1.size; (try simp only [World.size_alloc, World.size_drew, World.size_setCell, size_drewN] at hz1); have a0 := (hb1.cell (p := ⟨W.heap.size, 0, none⟩) (by simp)).trans (show _ = some (.int .i64 p) by simp); have a1 := (hb1.cell (p := ⟨W.heap.size, 1, none⟩) (by simp)).trans (show _ = some (.int .i64 b) by simp))
      go_ret2
      exact ⟨by rw [e.out]; rfl, by (repeat' (first | (with_reducible exact Below.refl _ _) | (with_reducible assumption) | (with_reducible refine below_drewN ?_ _) | (with_reducible refine Below.drew ?_) | (with_reducible refine Below.alloc ?_ ?_ _) | (with_reducible refine Below.setCell ?_ ?_ _) | (with_reducible refine below_via (by assumption) ?_ ?_) | go_size))⟩
  · have hw' := Lib.hid hw
    have e := Lib.hid (show fAdd w p b y = (0, 1) by unfold fAdd; rw [if_pos (by simp [hw])])
    clear hw
    go_enter Try.func32, Try.ntmps32
    go_wp2_with (go_at_call 34; refine (field_word _ _).mono ?_; rw [hw'.out]; rintro e w' ⟨rfl, rfl⟩)
    go_ret2
    exact ⟨by rw [e.out]; rfl, by (repeat' (first | (with_reducible exact Below.refl _ _) | (with_reducible assumption) | (with_reducible refine below_drewN ?_ _) | (with_reducible refine Below.drew ?_) | (with_reducible refine Below.alloc ?_ ?_ _) | (with_reducible refine Below.setCell ?_ ?_ _) | (with_reducible refine below_via (by assumption) ?_ ?_) | go_size))⟩
set_option maxHeartbeats 1000000 in
theorem field_Top_a (w p b y : Int) (W : World) (hy : -9223372036854775808 ≤ y) (hy' : y ≤ 9223372036854775807) (hw : fWord w = true) (h : fMay p b = true) (c : pw b - 1 - fGet w p b < y) : Calls Try.prog 33 #[.int .i64 w, .agg #[.int .i64 p, .int .i64 b], .int .i64 y] W fun e w' => e = .returned (.int .i64 (fTop w p b y)) ∧ Below W.heap.size W w' := by
  have h' := Lib.hid h
  have hw' := Lib.hid hw
  obtain ⟨h0, h1, h2, h3⟩ := fMay_of h
  have g0 := (fGet_bd w p b).1
  have g1 := (fGet_bd w p b).2 h
  have g2 := pw_b h
  have e0 : fTop w p b y = (fPut w p b (if pw b - 1 - fGet w p b < y then pw b - 1 else if - fGet w p b ≤ y then fGet w p b + y else 0)).1 := by unfold fTop; rw [if_neg (by simp [hw, h])]
  have e := Lib.hid (show fTop w p b y = (fPut w p b (fGet w p b + (pw b - 1 - fGet w p b))).1 by rw [e0, if_pos c]; congr 2; omega)
  have hp1 : -9223372036854775808 ≤ fGet w p b + (pw b - 1 - fGet w p b) := by omega
  have hp2 : fGet w p b + (pw b - 1 - fGet w p b) ≤ 9223372036854775807 := by omega
  have wn : IntKind.i64.wrap (- fGet w p b) = - fGet w p b := i64any _ (by omega) (by omega)
  have ws : IntKind.i64.wrap (pw b - 1 - fGet w p b) = pw b - 1 - fGet w p b := i64any _ (by omega) (by omega)
  clear e0 h hw
  go_enter Try.func33, Try.ntmps33
  go_wp2_with first
    | (go_at_call 34; refine (field_word _ _).mono ?_; rw [hw'.out]; rintro e w' ⟨rfl, rfl⟩)
    | (go_at_call 40; refine (field_may _ _ _).mono ?_; rw [h'.out]; rintro e w1 ⟨rfl, hb1⟩; have hz1 := hb1.size; (try simp only [World.size_alloc, World.size_drew, World.size_setCell, size_drewN] at hz1); have a0 := (hb1.cell (p := ⟨W.heap.size, 0, none⟩) (by simp)).trans (show _ = some (.int .i64 p) by simp); have a1 := (hb1.cell (p := ⟨W.heap.size, 1, none⟩) (by simp)).trans (show _ = some (.int .i64 b) by simp))
    | (go_at_call 23; refine (field_Get_ok _ _ _ _ h'.out hw'.out).mono ?_; rintro e w2 ⟨rfl, hb2⟩; have hz2 := hb2.size; (try simp only [World.size_alloc, World.size_drew, World.size_setCell, size_drewN] at hz2); have a0 := (hb2.cell (p := ⟨W.heap.size, 0, none⟩) (by (try simp); omega)).trans (by first | exact a0 | (simp; exact a0)); have a1 := (hb2.cell (p := ⟨W.heap.size, 1, none⟩) (by (try simp); omega)).trans (by first | exact a1 | (simp; exact a1)))
  go_region_held3 (fun w' => w'.cell? ⟨W.heap.size, 0, none⟩ = some (.int .i64 p) ∧ w'.cell? ⟨W.heap.size, 1, none⟩ = some (.int .i64 b)) (first | (clear wn ws hp1 hp2; refine ⟨(hb.cell (by simp; omega)).trans ?_, (hb.cell (by simp; omega)).trans ?_⟩ <;> go_keep) | go_keep) ((first | (go_at_call 39; refine (field_most _ _ _ h1 h2).mono ?_; rintro e w' ⟨rfl, hb⟩; have hz := hb.size; simp only [World.size_drew] at hz) | (go_at_call 31; (first | (with_reducible refine (field_Put _ _ _ _ _ hp1 hp2).mono ?_) | (refine put_arg (n' := fGet w p b + (pw b - 1 - fGet w p b)) (by clear wn ws; rw [IntKind.wrap_i64]; (repeat' split) <;> omega) ?_; (with_reducible refine (field_Put _ _ _ _ _ hp1 hp2).mono ?_))); rintro e w' ⟨rfl, hb⟩; have hz := hb.size; (try simp only [World.size_drew] at hz))))
  all_goals
    clear wn ws
    go_wp2
    go_ret
    exact ⟨ret1 e.out.symm, by (repeat' (first | (with_reducible exact Below.refl _ _) | (with_reducible assumption) | (with_reducible refine below_drewN ?_ _) | (with_reducible refine Below.drew ?_) | (with_reducible refine Below.alloc ?_ ?_ _) | (with_reducible refine Below.setCell ?_ ?_ _) | (with_reducible refine below_via (by assumption) ?_ ?_) | go_size))⟩
set_option maxHeartbeats 1000000 in
theorem field_Top_b (w p b y : Int) (W : World) (hy : -9223372036854775808 ≤ y) (hy' : y ≤ 9223372036854775807) (hw : fWord w = true) (h : fMay p b = true) (c : y ≤ pw b - 1 - fGet w p b) (c' : - fGet w p b ≤ y) : Calls Try.prog 33 #[.int .i64 w, .agg #[.int .i64 p, .int .i64 b], .int .i64 y] W fun e w' => e = .returned (.int .i64 (fTop w p b y)) ∧ Below W.heap.size W w' := by
  have h' := Lib.hid h
  have hw' := Lib.hid hw
  obtain ⟨h0, h1, h2, h3⟩ := fMay_of h
  have g0 := (fGet_bd w p b).1
  have g1 := (fGet_bd w p b).2 h
  have g2 := pw_b h
  have e0 : fTop w p b y = (fPut w p b (if pw b - 1 - fGet w p b < y then pw b - 1 else if - fGet w p b ≤ y then fGet w p b + y else 0)).1 := by unfold fTop; rw [if_neg (by simp [hw, h])]
  have e := Lib.hid (show fTop w p b y = (fPut w p b (fGet w p b + y)).1 by rw [e0, if_neg (by omega), if_pos (by omega)])
  have hp1 : -9223372036854775808 ≤ fGet w p b + y := by omega
  have hp2 : fGet w p b + y ≤ 9223372036854775807 := by omega
  have wn : IntKind.i64.wrap (- fGet w p b) = - fGet w p b := i64any _ (by omega) (by omega)
  have ws : IntKind.i64.wrap (pw b - 1 - fGet w p b) = pw b - 1 - fGet w p b := i64any _ (by omega) (by omega)
  clear e0 h hw
  go_enter Try.func33, Try.ntmps33
  go_wp2_with first
    | (go_at_call 34; refine (field_word _ _).mono ?_; rw [hw'.out]; rintro e w' ⟨rfl, rfl⟩)
    | (go_at_call 40; refine (field_may _ _ _).mono ?_; rw [h'.out]; rintro e w1 ⟨rfl, hb1⟩; have hz1 := hb1.size; (try simp only [World.size_alloc, World.size_drew, World.size_setCell, size_drewN] at hz1); have a0 := (hb1.cell (p := ⟨W.heap.size, 0, none⟩) (by simp)).trans (show _ = some (.int .i64 p) by simp); have a1 := (hb1.cell (p := ⟨W.heap.size, 1, none⟩) (by simp)).trans (show _ = some (.int .i64 b) by simp))
    | (go_at_call 23; refine (field_Get_ok _ _ _ _ h'.out hw'.out).mono ?_; rintro e w2 ⟨rfl, hb2⟩; have hz2 := hb2.size; (try simp only [World.size_alloc, World.size_drew, World.size_setCell, size_drewN] at hz2); have a0 := (hb2.cell (p := ⟨W.heap.size, 0, none⟩) (by (try simp); omega)).trans (by first | exact a0 | (simp; exact a0)); have a1 := (hb2.cell (p := ⟨W.heap.size, 1, none⟩) (by (try simp); omega)).trans (by first | exact a1 | (simp; exact a1)))
  go_region_held3 (fun w' => w'.cell? ⟨W.heap.size, 0, none⟩ = some (.int .i64 p) ∧ w'.cell? ⟨W.heap.size, 1, none⟩ = some (.int .i64 b)) (first | (clear wn ws hp1 hp2; refine ⟨(hb.cell (by simp; omega)).trans ?_, (hb.cell (by simp; omega)).trans ?_⟩ <;> go_keep) | go_keep) ((first | (go_at_call 39; refine (field_most _ _ _ h1 h2).mono ?_; rintro e w' ⟨rfl, hb⟩; have hz := hb.size; simp only [World.size_drew] at hz) | (go_at_call 31; (first | (with_reducible refine (field_Put _ _ _ _ _ hp1 hp2).mono ?_) | (refine put_arg (n' := fGet w p b + y) (by clear wn ws; rw [IntKind.wrap_i64]; (repeat' split) <;> omega) ?_; (with_reducible refine (field_Put _ _ _ _ _ hp1 hp2).mono ?_))); rintro e w' ⟨rfl, hb⟩; have hz := hb.size; (try simp only [World.size_drew] at hz))))
  all_goals
    clear wn ws
    go_wp2
    go_ret
    exact ⟨ret1 e.out.symm, by (repeat' (first | (with_reducible exact Below.refl _ _) | (with_reducible assumption) | (with_reducible refine below_drewN ?_ _) | (with_reducible refine Below.drew ?_) | (with_reducible refine Below.alloc ?_ ?_ _) | (with_reducible refine Below.setCell ?_ ?_ _) | (with_reducible refine below_via (by assumption) ?_ ?_) | go_size))⟩
set_option maxHeartbeats 1000000 in
theorem field_Top_c (w p b y : Int) (W : World) (hy : -9223372036854775808 ≤ y) (hy' : y ≤ 9223372036854775807) (hw : fWord w = true) (h : fMay p b = true) (c : y < - fGet w p b) : Calls Try.prog 33 #[.int .i64 w, .agg #[.int .i64 p, .int .i64 b], .int .i64 y] W fun e w' => e = .returned (.int .i64 (fTop w p b y)) ∧ Below W.heap.size W w' := by
  have h' := Lib.hid h
  have hw' := Lib.hid hw
  obtain ⟨h0, h1, h2, h3⟩ := fMay_of h
  have g0 := (fGet_bd w p b).1
  have g1 := (fGet_bd w p b).2 h
  have g2 := pw_b h
  have e0 : fTop w p b y = (fPut w p b (if pw b - 1 - fGet w p b < y then pw b - 1 else if - fGet w p b ≤ y then fGet w p b + y else 0)).1 := by unfold fTop; rw [if_neg (by simp [hw, h])]
  have e := Lib.hid (show fTop w p b y = (fPut w p b (fGet w p b + - fGet w p b)).1 by rw [e0, if_neg (by omega), if_neg (by omega)]; congr 2; omega)
  have hp1 : -9223372036854775808 ≤ fGet w p b + - fGet w p b := by omega
  have hp2 : fGet w p b + - fGet w p b ≤ 9223372036854775807 := by omega
  have wn : IntKind.i64.wrap (- fGet w p b) = - fGet w p b := i64any _ (by omega) (by omega)
  have ws : IntKind.i64.wrap (pw b - 1 - fGet w p b) = pw b - 1 - fGet w p b := i64any _ (by omega) (by omega)
  clear e0 h hw
  go_enter Try.func33, Try.ntmps33
  go_wp2_with first
    | (go_at_call 34; refine (field_word _ _).mono ?_; rw [hw'.out]; rintro e w' ⟨rfl, rfl⟩)
    | (go_at_call 40; refine (field_may _ _ _).mono ?_; rw [h'.out]; rintro e w1 ⟨rfl, hb1⟩; have hz1 := hb1.size; (try simp only [World.size_alloc, World.size_drew, World.size_setCell, size_drewN] at hz1); have a0 := (hb1.cell (p := ⟨W.heap.size, 0, none⟩) (by simp)).trans (show _ = some (.int .i64 p) by simp); have a1 := (hb1.cell (p := ⟨W.heap.size, 1, none⟩) (by simp)).trans (show _ = some (.int .i64 b) by simp))
    | (go_at_call 23; refine (field_Get_ok _ _ _ _ h'.out hw'.out).mono ?_; rintro e w2 ⟨rfl, hb2⟩; have hz2 := hb2.size; (try simp only [World.size_alloc, World.size_drew, World.size_setCell, size_drewN] at hz2); have a0 := (hb2.cell (p := ⟨W.heap.size, 0, none⟩) (by (try simp); omega)).trans (by first | exact a0 | (simp; exact a0)); have a1 := (hb2.cell (p := ⟨W.heap.size, 1, none⟩) (by (try simp); omega)).trans (by first | exact a1 | (simp; exact a1)))
  go_region_held3 (fun w' => w'.cell? ⟨W.heap.size, 0, none⟩ = some (.int .i64 p) ∧ w'.cell? ⟨W.heap.size, 1, none⟩ = some (.int .i64 b)) (first | (clear wn ws hp1 hp2; refine ⟨(hb.cell (by simp; omega)).trans ?_, (hb.cell (by simp; omega)).trans ?_⟩ <;> go_keep) | go_keep) ((first | (go_at_call 39; refine (field_most _ _ _ h1 h2).mono ?_; rintro e w' ⟨rfl, hb⟩; have hz := hb.size; simp only [World.size_drew] at hz) | (go_at_call 31; (first | (with_reducible refine (field_Put _ _ _ _ _ hp1 hp2).mono ?_) | (refine put_arg (n' := fGet w p b + - fGet w p b) (by clear wn ws; rw [IntKind.wrap_i64]; (repeat' split) <;> omega) ?_; (with_reducible refine (field_Put _ _ _ _ _ hp1 hp2).mono ?_))); rintro e w' ⟨rfl, hb⟩; have hz := hb.size; (try simp only [World.size_drew] at hz))))
  all_goals
    clear wn ws
    go_wp2
    go_ret
    exact ⟨ret1 e.out.symm, by (repeat' (first | (with_reducible exact Below.refl _ _) | (with_reducible assumption) | (with_reducible refine below_drewN ?_ _) | (with_reducible refine Below.drew ?_) | (with_reducible refine Below.alloc ?_ ?_ _) | (with_reducible refine Below.setCell ?_ ?_ _) | (with_reducible refine below_via (by assumption) ?_ ?_) | go_size))⟩
set_option maxHeartbeats 1000000 in
theorem field_Top (w p b y : Int) (W : World) (hy : -9223372036854775808 ≤ y) (hy' : y ≤ 9223372036854775807) : Calls Try.prog 33 #[.int .i64 w, .agg #[.int .i64 p, .int .i64 b], .int .i64 y] W fun e w' => e = .returned (.int .i64 (fTop w p b y)) ∧ Below W.heap.size W w' := by
  rcases bool_cases (b := fWord w) with hw | hw
  · rcases bool_cases (b := fMay p b) with h | h
    · rcases (show pw b - 1 - fGet w p b < y ∨ (y ≤ pw b - 1 - fGet w p b ∧ - fGet w p b ≤ y) ∨ y < - fGet w p b by omega) with c | ⟨c, c'⟩ | c
      · exact field_Top_a w p b y W hy hy' hw h c
      · exact field_Top_b w p b y W hy hy' hw h c c'
      · exact field_Top_c w p b y W hy hy' hw h c
    · have h' := Lib.hid h
      have hw' := Lib.hid hw
      have e := Lib.hid (show fTop w p b y = 0 by unfold fTop; rw [if_pos (by simp [h])])
      clear h hw
      go_enter Try.func33, Try.ntmps33
      go_wp2_with first
        | (go_at_call 34; refine (field_word _ _).mono ?_; rw [hw'.out]; rintro e w' ⟨rfl, rfl⟩)
        | (go_at_call 40; refine (field_may _ _ _).mono ?_; rw [h'.out]; rintro e w1 ⟨rfl, hb1⟩; have hz1 := hb1.size; (try simp only [World.size_alloc, World.size_drew, World.size_setCell, size_drewN] at hz1); have a0 := (hb1.cell (p := ⟨W.heap.size, 0, none⟩) (by simp)).trans (show _ = some (.int .i64 p) by simp); have a1 := (hb1.cell (p := ⟨W.heap.size, 1, none⟩) (by simp)).trans (show _ = some (.int .i64 b) by simp))
      go_ret
      exact ⟨by rw [e.out]; rfl, by (repeat' (first | (with_reducible exact Below.refl _ _) | (with_reducible assumption) | (with_reducible refine below_drewN ?_ _) | (with_reducible refine Below.drew ?_) | (with_reducible refine Below.alloc ?_ ?_ _) | (with_reducible refine Below.setCell ?_ ?_ _) | (with_reducible refine below_via (by assumption) ?_ ?_) | go_size))⟩
  · have hw' := Lib.hid hw
    have e := Lib.hid (show fTop w p b y = 0 by unfold fTop; rw [if_pos (by simp [hw])])
    clear hw
    go_enter Try.func33, Try.ntmps33
    go_wp2_with (go_at_call 34; refine (field_word _ _).mono ?_; rw [hw'.out]; rintro e w' ⟨rfl, rfl⟩)
    go_ret
    exact ⟨by rw [e.out]; rfl, by (repeat' (first | (with_reducible exact Below.refl _ _) | (with_reducible assumption) | (with_reducible refine below_drewN ?_ _) | (with_reducible refine Below.drew ?_) | (with_reducible refine Below.alloc ?_ ?_ _) | (with_reducible refine Below.setCell ?_ ?_ _) | (with_reducible refine below_via (by assumption) ?_ ?_) | go_size))⟩
end Go.Proofs.Ytekiakognpifnaa
