/- The walks of entry's small functions. -/
import Derived.Test.YtmbkkpeepbfgoaaProg
import Derived.Test.YtmbkkpeepbfgoaaEnP
import Derived.Test.YtmbkkpeepbfgoaaFnW
namespace Go.Proofs.Ytmbkkpeepbfgoaa
set_option linter.unusedVariables false
set_option linter.unusedSimpArgs false
open Go.RowKit
set_option maxHeartbeats 400000 in
theorem entry_in (n m : Int) (w : World) : Calls Try.prog 98 #[.int .i64 n, .int .i64 m] w fun e w' => e = .returned (.bool (eIn n m)) ∧ w = w' := by
  by_cases h : 0 ≤ n
  · by_cases h2 : n ≤ m
    · have e := Lib.hid (show eIn n m = true by simp [eIn]; omega)
      go_enter Try.func98, Try.ntmps98
      go_wp2
      go_ret
      exact ⟨by rw [e.out]; (first | rfl | (apply retb; first | rfl | (simp; done) | (simp; omega))), rfl⟩
    · have e := Lib.hid (show eIn n m = false by simp [eIn]; omega)
      have h3 : m < n := by omega
      clear h2
      go_enter Try.func98, Try.ntmps98
      go_wp2
      go_ret
      exact ⟨by rw [e.out]; (first | rfl | (apply retb; first | rfl | (simp; done) | (simp; omega))), rfl⟩
  · have e := Lib.hid (show eIn n m = false by simp [eIn]; omega)
    have h' : n < 0 := by omega
    clear h
    go_enter Try.func98, Try.ntmps98
    go_wp2
    go_ret
    exact ⟨by rw [e.out]; (first | rfl | (apply retb; first | rfl | (simp; done) | (simp; omega))), rfl⟩
set_option maxHeartbeats 400000 in
theorem entry_bit (b : Bool) (w : World) : Calls Try.prog 99 #[.bool b] w fun e w' => e = .returned (.int .i64 (bI b)) ∧ w = w' := by
  cases b
  all_goals
    go_enter Try.func99, Try.ntmps99
    go_wp2
    go_ret
    exact ⟨rfl, rfl⟩
set_option maxHeartbeats 400000 in
theorem entry_fields (w : World) : Calls Try.prog 84 #[] w fun e w' => e = .returned (.agg #[.int .i64 0, .int .i64 20, .int .i64 20, .int .i64 20, .int .i64 40, .int .i64 4, .int .i64 44, .int .i64 4, .int .i64 48, .int .i64 1, .int .i64 49, .int .i64 1]) ∧ Below w.heap.size w w' := by
  go_enter Try.func84, Try.ntmps84
  go_wp2
  exact bodyPost_ret (v := .agg #[.int .i64 0, .int .i64 20, .int .i64 20, .int .i64 20, .int .i64 40, .int .i64 4, .int .i64 44, .int .i64 4, .int .i64 48, .int .i64 1, .int .i64 49, .int .i64 1]) (by simp [results, Try.results84, go_sem]) rfl ⟨rfl, by (repeat' (first | (with_reducible exact Below.refl _ _) | (with_reducible assumption) | (with_reducible refine below_drewN ?_ _) | (with_reducible refine Below.drew ?_) | (with_reducible refine Below.alloc ?_ ?_ _) | (with_reducible refine Below.setCell ?_ ?_ _) | (with_reducible refine below_via (by assumption) ?_ ?_) | go_size))⟩
set_option maxHeartbeats 1000000 in
theorem entry_may_yes (o g p u : Int) (l a : Bool) (w : World) (h : eMay o g p u l a = true) : Calls Try.prog 86 #[.agg #[.int .i64 o, .int .i64 g, .int .i64 p, .int .i64 u, .bool l, .bool a]] w fun e w' => e = .returned (.bool true) ∧ Below w.heap.size w w' := by
  obtain ⟨h1, h2, h3, h4, h5, h6, h7, h8, h9, h10⟩ := eMay_of h
  have e1 := Lib.hid (show eIn o 4096 = true by simp [eIn]; omega)
  have e2 := Lib.hid (show eIn g 1000 = true by simp [eIn]; omega)
  have e3 := Lib.hid (show eIn p 7 = true by simp [eIn]; omega)
  have e4 := Lib.hid (show eIn u 15 = true by simp [eIn]; omega)
  cases l
  · cases a
    · obtain ⟨rfl, rfl, rfl, -⟩ : o = 0 ∧ p = 0 ∧ u = 0 ∧ false = false := by simpa using h10
      clear h9 h10 h
      go_enter Try.func86, Try.ntmps86
      go_wp2_with (go_at_call 98; refine (entry_in _ _ _).mono ?_; (first | rw [e1.out] | rw [e2.out] | rw [e3.out] | rw [e4.out]); rintro e w' ⟨rfl, rfl⟩)
      go_ret
      exact ⟨rfl, by (repeat' (first | (with_reducible exact Below.refl _ _) | (with_reducible assumption) | (with_reducible refine below_drewN ?_ _) | (with_reducible refine Below.drew ?_) | (with_reducible refine Below.alloc ?_ ?_ _) | (with_reducible refine Below.setCell ?_ ?_ _) | (with_reducible refine below_via (by assumption) ?_ ?_) | go_size))⟩
    · clear h9 h10 h
      go_enter Try.func86, Try.ntmps86
      go_wp2_with (go_at_call 98; refine (entry_in _ _ _).mono ?_; (first | rw [e1.out] | rw [e2.out] | rw [e3.out] | rw [e4.out]); rintro e w' ⟨rfl, rfl⟩)
      go_ret
      exact ⟨rfl, by (repeat' (first | (with_reducible exact Below.refl _ _) | (with_reducible assumption) | (with_reducible refine below_drewN ?_ _) | (with_reducible refine Below.drew ?_) | (with_reducible refine Below.alloc ?_ ?_ _) | (with_reducible refine Below.setCell ?_ ?_ _) | (with_reducible refine below_via (by assumption) ?_ ?_) | go_size))⟩
  · have hp : p + u ≤ 0 := h9 rfl
    have ha : a = true := by cases a <;> simp_all
    subst ha
    clear h9 h10 h
    go_enter Try.func86, Try.ntmps86
    go_wp2_with (go_at_call 98; refine (entry_in _ _ _).mono ?_; (first | rw [e1.out] | rw [e2.out] | rw [e3.out] | rw [e4.out]); rintro e w' ⟨rfl, rfl⟩)
    go_ret
    exact ⟨rfl, by (repeat' (first | (with_reducible exact Below.refl _ _) | (with_reducible assumption) | (with_reducible refine below_drewN ?_ _) | (with_reducible refine Below.drew ?_) | (with_reducible refine Below.alloc ?_ ?_ _) | (with_reducible refine Below.setCell ?_ ?_ _) | (with_reducible refine below_via (by assumption) ?_ ?_) | go_size))⟩
theorem eIn_iff {n m : Int} : eIn n m = true ↔ 0 ≤ n ∧ n ≤ m := by simp [eIn]
set_option maxHeartbeats 2000000 in
theorem entry_may_no (o g p u : Int) (l a : Bool) (w : World) (h : eMay o g p u l a = false) : Calls Try.prog 86 #[.agg #[.int .i64 o, .int .i64 g, .int .i64 p, .int .i64 u, .bool l, .bool a]] w fun e w' => e = .returned (.bool false) ∧ Below w.heap.size w w' := by
  have h' : ¬ (0 ≤ o ∧ o ≤ 4096 ∧ 0 ≤ g ∧ g ≤ 1000 ∧ 0 ≤ p ∧ p ≤ 7 ∧ 0 ≤ u ∧ u ≤ 15 ∧ (l = true → p + u ≤ 0) ∧ (a = true ∨ (o = 0 ∧ p = 0 ∧ u = 0 ∧ l = false))) := of_decide_eq_false h
  clear h
  rcases bool_cases (b := eIn o 4096) with x1 | x1
  rotate_left
  · have e1 := Lib.hid x1
    have e2 := Lib.hid (show eIn g 1000 = eIn g 1000 from rfl)
    have e3 := Lib.hid (show eIn p 7 = eIn p 7 from rfl)
    have e4 := Lib.hid (show eIn u 15 = eIn u 15 from rfl)
    clear h' x1
    go_enter Try.func86, Try.ntmps86
    go_wp2_with (go_at_call 98; refine (entry_in _ _ _).mono ?_; (first | rw [e1.out] | rw [e2.out] | rw [e3.out] | rw [e4.out]); rintro e w' ⟨rfl, rfl⟩)
    go_ret
    exact ⟨rfl, by (repeat' (first | (with_reducible exact Below.refl _ _) | (with_reducible assumption) | (with_reducible refine below_drewN ?_ _) | (with_reducible refine Below.drew ?_) | (with_reducible refine Below.alloc ?_ ?_ _) | (with_reducible refine Below.setCell ?_ ?_ _) | (with_reducible refine below_via (by assumption) ?_ ?_) | go_size))⟩
  rcases bool_cases (b := eIn g 1000) with x2 | x2
  rotate_left
  · have e2 := Lib.hid x2
    have e1 := Lib.hid x1
    have e3 := Lib.hid (show eIn p 7 = eIn p 7 from rfl)
    have e4 := Lib.hid (show eIn u 15 = eIn u 15 from rfl)
    clear h' x1 x2
    go_enter Try.func86, Try.ntmps86
    go_wp2_with (go_at_call 98; refine (entry_in _ _ _).mono ?_; (first | rw [e1.out] | rw [e2.out] | rw [e3.out] | rw [e4.out]); rintro e w' ⟨rfl, rfl⟩)
    go_ret
    exact ⟨rfl, by (repeat' (first | (with_reducible exact Below.refl _ _) | (with_reducible assumption) | (with_reducible refine below_drewN ?_ _) | (with_reducible refine Below.drew ?_) | (with_reducible refine Below.alloc ?_ ?_ _) | (with_reducible refine Below.setCell ?_ ?_ _) | (with_reducible refine below_via (by assumption) ?_ ?_) | go_size))⟩
  rcases bool_cases (b := eIn p 7) with x3 | x3
  rotate_left
  · have e3 := Lib.hid x3
    have e1 := Lib.hid x1
    have e2 := Lib.hid x2
    have e4 := Lib.hid (show eIn u 15 = eIn u 15 from rfl)
    clear h' x1 x2 x3
    go_enter Try.func86, Try.ntmps86
    go_wp2_with (go_at_call 98; refine (entry_in _ _ _).mono ?_; (first | rw [e1.out] | rw [e2.out] | rw [e3.out] | rw [e4.out]); rintro e w' ⟨rfl, rfl⟩)
    go_ret
    exact ⟨rfl, by (repeat' (first | (with_reducible exact Below.refl _ _) | (with_reducible assumption) | (with_reducible refine below_drewN ?_ _) | (with_reducible refine Below.drew ?_) | (with_reducible refine Below.alloc ?_ ?_ _) | (with_reducible refine Below.setCell ?_ ?_ _) | (with_reducible refine below_via (by assumption) ?_ ?_) | go_size))⟩
  rcases bool_cases (b := eIn u 15) with x4 | x4
  rotate_left
  · have e4 := Lib.hid x4
    have e1 := Lib.hid x1
    have e2 := Lib.hid x2
    have e3 := Lib.hid x3
    clear h' x1 x2 x3 x4
    go_enter Try.func86, Try.ntmps86
    go_wp2_with (go_at_call 98; refine (entry_in _ _ _).mono ?_; (first | rw [e1.out] | rw [e2.out] | rw [e3.out] | rw [e4.out]); rintro e w' ⟨rfl, rfl⟩)
    go_ret
    exact ⟨rfl, by (repeat' (first | (with_reducible exact Below.refl _ _) | (with_reducible assumption) | (with_reducible refine below_drewN ?_ _) | (with_reducible refine Below.drew ?_) | (with_reducible refine Below.alloc ?_ ?_ _) | (with_reducible refine Below.setCell ?_ ?_ _) | (with_reducible refine below_via (by assumption) ?_ ?_) | go_size))⟩
  have e1 := Lib.hid x1
  have e2 := Lib.hid x2
  have e3 := Lib.hid x3
  have e4 := Lib.hid x4
  obtain ⟨o0, o1⟩ := eIn_iff.1 x1
  obtain ⟨g0, g1⟩ := eIn_iff.1 x2
  obtain ⟨p0, p1⟩ := eIn_iff.1 x3
  obtain ⟨u0, u1⟩ := eIn_iff.1 x4
  clear x1 x2 x3 x4
  cases l
  · cases a
    · have hh : o ≠ 0 ∨ p ≠ 0 ∨ u ≠ 0 := by
        by_cases c1 : o = 0
        · by_cases c2 : p = 0
          · right; right; intro c3; exact h' (by simp [c1, c2, c3]; omega)
          · exact .inr (.inl c2)
        · exact .inl c1
      clear h'
      rcases hh with hh | hh | hh
      · have b1 : (o == 0) = false := by simpa using hh
        clear hh
        go_enter Try.func86, Try.ntmps86
        go_wp2_with (go_at_call 98; refine (entry_in _ _ _).mono ?_; (first | rw [e1.out] | rw [e2.out] | rw [e3.out] | rw [e4.out]); rintro e w' ⟨rfl, rfl⟩)
        go_ret
        exact ⟨rfl, by (repeat' (first | (with_reducible exact Below.refl _ _) | (with_reducible assumption) | (with_reducible refine below_drewN ?_ _) | (with_reducible refine Below.drew ?_) | (with_reducible refine Below.alloc ?_ ?_ _) | (with_reducible refine Below.setCell ?_ ?_ _) | (with_reducible refine below_via (by assumption) ?_ ?_) | go_size))⟩
      · have b1 : (p == 0) = false := by simpa using hh
        clear hh
        go_enter Try.func86, Try.ntmps86
        go_wp2_with (go_at_call 98; refine (entry_in _ _ _).mono ?_; (first | rw [e1.out] | rw [e2.out] | rw [e3.out] | rw [e4.out]); rintro e w' ⟨rfl, rfl⟩)
        go_ret
        exact ⟨rfl, by (repeat' (first | (with_reducible exact Below.refl _ _) | (with_reducible assumption) | (with_reducible refine below_drewN ?_ _) | (with_reducible refine Below.drew ?_) | (with_reducible refine Below.alloc ?_ ?_ _) | (with_reducible refine Below.setCell ?_ ?_ _) | (with_reducible refine below_via (by assumption) ?_ ?_) | go_size))⟩
      · have b1 : (u == 0) = false := by simpa using hh
        clear hh
        go_enter Try.func86, Try.ntmps86
        go_wp2_with (go_at_call 98; refine (entry_in _ _ _).mono ?_; (first | rw [e1.out] | rw [e2.out] | rw [e3.out] | rw [e4.out]); rintro e w' ⟨rfl, rfl⟩)
        go_ret
        exact ⟨rfl, by (repeat' (first | (with_reducible exact Below.refl _ _) | (with_reducible assumption) | (with_reducible refine below_drewN ?_ _) | (with_reducible refine Below.drew ?_) | (with_reducible refine Below.alloc ?_ ?_ _) | (with_reducible refine Below.setCell ?_ ?_ _) | (with_reducible refine below_via (by assumption) ?_ ?_) | go_size))⟩
    · exact absurd (show _ from ⟨o0, o1, g0, g1, p0, p1, u0, u1, (fun x => by cases x), .inl rfl⟩) h'
  · by_cases c : 0 < p + u
    · clear h'
      go_enter Try.func86, Try.ntmps86
      go_wp2_with (go_at_call 98; refine (entry_in _ _ _).mono ?_; (first | rw [e1.out] | rw [e2.out] | rw [e3.out] | rw [e4.out]); rintro e w' ⟨rfl, rfl⟩)
      go_ret
      exact ⟨rfl, by (repeat' (first | (with_reducible exact Below.refl _ _) | (with_reducible assumption) | (with_reducible refine below_drewN ?_ _) | (with_reducible refine Below.drew ?_) | (with_reducible refine Below.alloc ?_ ?_ _) | (with_reducible refine Below.setCell ?_ ?_ _) | (with_reducible refine below_via (by assumption) ?_ ?_) | go_size))⟩
    · cases a
      · have c' : p + u ≤ 0 := by omega
        clear h' c
        go_enter Try.func86, Try.ntmps86
        go_wp2_with (go_at_call 98; refine (entry_in _ _ _).mono ?_; (first | rw [e1.out] | rw [e2.out] | rw [e3.out] | rw [e4.out]); rintro e w' ⟨rfl, rfl⟩)
        go_ret
        exact ⟨rfl, by (repeat' (first | (with_reducible exact Below.refl _ _) | (with_reducible assumption) | (with_reducible refine below_drewN ?_ _) | (with_reducible refine Below.drew ?_) | (with_reducible refine Below.alloc ?_ ?_ _) | (with_reducible refine Below.setCell ?_ ?_ _) | (with_reducible refine below_via (by assumption) ?_ ?_) | go_size))⟩
      · exact absurd (show _ from ⟨o0, o1, g0, g1, p0, p1, u0, u1, (fun _ => by omega), .inl rfl⟩) h'
theorem entry_may (o g p u : Int) (l a : Bool) (w : World) : Calls Try.prog 86 #[.agg #[.int .i64 o, .int .i64 g, .int .i64 p, .int .i64 u, .bool l, .bool a]] w fun e w' => e = .returned (.bool (eMay o g p u l a)) ∧ Below w.heap.size w w' := by
  rcases bool_cases (b := eMay o g p u l a) with h | h
  · rw [h]; exact entry_may_yes o g p u l a w h
  · rw [h]; exact entry_may_no o g p u l a w h
end Go.Proofs.Ytmbkkpeepbfgoaa
