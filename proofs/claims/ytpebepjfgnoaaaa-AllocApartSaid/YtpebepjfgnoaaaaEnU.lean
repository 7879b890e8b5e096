/- What entry's functions tell, as functions of numbers. -/
import Derived.LoopTactic
import Derived.Deep.DeepCutAuto
import Derived.Test.YtpebepjfgnoaaaaFnW
import Derived.Test.YtpebepjfgnoaaaaProg
import Derived.Test.YtpebepjfgnoaaaaBase
namespace Go.Proofs.Ytpebepjfgnoaaaa
set_option linter.unusedVariables false
set_option linter.unusedSimpArgs false
open Go.RowKit
def eIn (n m : Int) : Bool := decide (0 ≤ n ∧ n ≤ m)
def bI (b : Bool) : Int := if b = true then 1 else 0
def eMay (o g p u : Int) (l a : Bool) : Bool :=
  decide (0 ≤ o ∧ o ≤ 4096 ∧ 0 ≤ g ∧ g ≤ 1000 ∧ 0 ≤ p ∧ p ≤ 7 ∧ 0 ≤ u ∧ u ≤ 15 ∧ (l = true → p + u ≤ 0) ∧ (a = true ∨ (o = 0 ∧ p = 0 ∧ u = 0 ∧ l = false)))
def eWord (o g p u : Int) (l a : Bool) : Int := o + 1048576 * g + 1099511627776 * p + 17592186044416 * u + 281474976710656 * bI l + 562949953421312 * bI a
theorem eMay_of {o g p u : Int} {l a : Bool} (h : eMay o g p u l a = true) : 0 ≤ o ∧ o ≤ 4096 ∧ 0 ≤ g ∧ g ≤ 1000 ∧ 0 ≤ p ∧ p ≤ 7 ∧ 0 ≤ u ∧ u ≤ 15 ∧ (l = true → p + u ≤ 0) ∧ (a = true ∨ (o = 0 ∧ p = 0 ∧ u = 0 ∧ l = false)) := of_decide_eq_true h
theorem bI_bd (b : Bool) : 0 ≤ bI b ∧ bI b ≤ 1 := by cases b <;> decide
/-- a field put into a word that has nothing from there on. -/
theorem put_above {w p b n P B : Int} (hP : pw p = P) (hB : pw b = B) (hm : fMay p b = true) (h : 0 ≤ w) (h' : w < P) (hl : P ≤ 562949953421312) (hn : 0 ≤ n) (hn' : n < B) : fPut w p b n = (w + P * n, 0) := by
  have hw : fWord w = true := by simp [fWord]; omega
  rw [fPut, if_neg (by simp [hm, hw, hn]), if_neg (by rw [hB]; omega)]
  have e : fGet w p b = 0 := by
    unfold fGet; rw [if_pos ⟨hw, hm⟩, hP, hB]
    have e0 : w / P = 0 := Int.ediv_eq_zero_of_lt h h'
    rw [e0]; exact Int.zero_emod _
  rw [e, hP, Int.mul_comm n P]
  have : w - 0 * P + P * n = w + P * n := by omega
  rw [this]
/-- the word of an entry, after so many fields. -/
def ePart (o g p u : Int) (l a : Bool) : Nat → Int
  | 0 => 0
  | 1 => o
  | 2 => o + 1048576 * g
  | 3 => o + 1048576 * g + 1099511627776 * p
  | 4 => o + 1048576 * g + 1099511627776 * p + 17592186044416 * u
  | 5 => o + 1048576 * g + 1099511627776 * p + 17592186044416 * u + 281474976710656 * bI l
  | _ => eWord o g p u l a
theorem ePart_put {o g p u : Int} {l a : Bool} (h : 0 ≤ o ∧ o ≤ 4096 ∧ 0 ≤ g ∧ g ≤ 1000 ∧ 0 ≤ p ∧ p ≤ 7 ∧ 0 ≤ u ∧ u ≤ 15) :
    fPut 0 0 20 o = (ePart o g p u l a 1, 0) ∧ fPut (ePart o g p u l a 1) 20 20 g = (ePart o g p u l a 2, 0) ∧ fPut (ePart o g p u l a 2) 40 4 p = (ePart o g p u l a 3, 0) ∧
      fPut (ePart o g p u l a 3) 44 4 u = (ePart o g p u l a 4, 0) ∧ fPut (ePart o g p u l a 4) 48 1 (bI l) = (ePart o g p u l a 5, 0) ∧ fPut (ePart o g p u l a 5) 49 1 (bI a) = (eWord o g p u l a, 0) := by
  have hl := bI_bd l
  have ha := bI_bd a
  refine ⟨?_, ?_, ?_, ?_, ?_, ?_⟩ <;> simp only [ePart]
  · rw [put_above (P := 1) (B := 1048576) (by decide) (by decide) (by decide) (by omega) (by omega) (by omega) (by omega) (by omega)]
    have : 0 + 1 * o = o := by omega
    rw [this]
  · rw [put_above (P := 1048576) (B := 1048576) (by decide) (by decide) (by decide) (by omega) (by omega) (by omega) (by omega) (by omega)]
  · rw [put_above (P := 1099511627776) (B := 16) (by decide) (by decide) (by decide) (by omega) (by omega) (by omega) (by omega) (by omega)]
  · rw [put_above (P := 17592186044416) (B := 16) (by decide) (by decide) (by decide) (by omega) (by omega) (by omega) (by omega) (by omega)]
  · rw [put_above (P := 281474976710656) (B := 2) (by decide) (by decide) (by decide) (by omega) (by omega) (by omega) (by omega) (by omega)]
  · rw [put_above (P := 562949953421312) (B := 2) (by decide) (by decide) (by decide) (by omega) (by omega) (by omega) (by omega) (by omega)]
    rfl
end Go.Proofs.Ytpebepjfgnoaaaa
namespace Go.Proofs.Ytpebepjfgnoaaaa
set_option linter.unusedVariables false
set_option linter.unusedSimpArgs false
open Go.RowKit
set_option maxHeartbeats 400000 in
theorem entry_in (n m : Int) (w : World) : Calls Try.prog 108 #[.int .i64 n, .int .i64 m] w fun e w' => e = .returned (.bool (eIn n m)) ∧ w = w' := by
  by_cases h : 0 ≤ n
  · by_cases h2 : n ≤ m
    · have e := Lib.hid (show eIn n m = true by simp [eIn]; omega)
      go_enter Try.func108, Try.ntmps108
      go_wp2
      go_ret
      exact ⟨by rw [e.out]; (first | rfl | (apply retb; first | rfl | (simp; done) | (simp; omega))), rfl⟩
    · have e := Lib.hid (show eIn n m = false by simp [eIn]; omega)
      have h3 : m < n := by omega
      clear h2
      go_enter Try.func108, Try.ntmps108
      go_wp2
      go_ret
      exact ⟨by rw [e.out]; (first | rfl | (apply retb; first | rfl | (simp; done) | (simp; omega))), rfl⟩
  · have e := Lib.hid (show eIn n m = false by simp [eIn]; omega)
    have h' : n < 0 := by omega
    clear h
    go_enter Try.func108, Try.ntmps108
    go_wp2
    go_ret
    exact ⟨by rw [e.out]; (first | rfl | (apply retb; first | rfl | (simp; done) | (simp; omega))), rfl⟩
set_option maxHeartbeats 400000 in
theorem entry_bit (b : Bool) (w : World) : Calls Try.prog 101 #[.bool b] w fun e w' => e = .returned (.int .i64 (bI b)) ∧ w = w' := by
  cases b
  all_goals
    go_enter Try.func101, Try.ntmps101
    go_wp2
    go_ret
    exact ⟨rfl, rfl⟩
set_option maxHeartbeats 400000 in
theorem entry_fields (w : World) : Calls Try.prog 99 #[] w fun e w' => e = .returned (.agg #[.int .i64 0, .int .i64 20, .int .i64 20, .int .i64 20, .int .i64 40, .int .i64 4, .int .i64 44, .int .i64 4, .int .i64 48, .int .i64 1, .int .i64 49, .int .i64 1]) ∧ Below w.heap.size w w' := by
  go_enter Try.func99, Try.ntmps99
  go_wp2
  exact bodyPost_ret (v := .agg #[.int .i64 0, .int .i64 20, .int .i64 20, .int .i64 20, .int .i64 40, .int .i64 4, .int .i64 44, .int .i64 4, .int .i64 48, .int .i64 1, .int .i64 49, .int .i64 1]) (by simp [results, Try.results99, go_sem]) rfl ⟨rfl, by (repeat' (first | (with_reducible exact Below.refl _ _) | (with_reducible assumption) | (with_reducible refine below_drewN ?_ _) | (with_reducible refine Below.drew ?_) | (with_reducible refine Below.alloc ?_ ?_ _) | (with_reducible refine Below.setCell ?_ ?_ _) | (with_reducible refine below_via (by assumption) ?_ ?_) | go_size))⟩
set_option maxHeartbeats 1000000 in
theorem entry_may_yes (o g p u : Int) (l a : Bool) (w : World) (h : eMay o g p u l a = true) : Calls Try.prog 100 #[.agg #[.int .i64 o, .int .i64 g, .int .i64 p, .int .i64 u, .bool l, .bool a]] w fun e w' => e = .returned (.bool true) ∧ Below w.heap.size w w' := by
  obtain ⟨h1, h2, h3, h4, h5, h6, h7, h8, h9, h10⟩ := eMay_of h
  have e1 := Lib.hid (show eIn o 4096 = true by simp [eIn]; omega)
  have e2 := Lib.hid (show eIn g 1000 = true by simp [eIn]; omega)
  have e3 := Lib.hid (show eIn p 7 = true by simp [eIn]; omega)
  have e4 := Lib.hid (show eIn u 15 = true by simp [eIn]; omega)
  cases l
  · cases a
    · obtain ⟨rfl, rfl, rfl, -⟩ : o = 0 ∧ p = 0 ∧ u = 0 ∧ false = false := by simpa using h10
      clear h9 h10 h
      go_enter Try.func100, Try.ntmps100
      go_wp2_with (go_at_call 108; refine (entry_in _ _ _).mono ?_; (first | rw [e1.out] | rw [e2.out] | rw [e3.out] | rw [e4.out]); rintro e w' ⟨rfl, rfl⟩)
      go_ret
      exact ⟨rfl, by (repeat' (first | (with_reducible exact Below.refl _ _) | (with_reducible assumption) | (with_reducible refine below_drewN ?_ _) | (with_reducible refine Below.drew ?_) | (with_reducible refine Below.alloc ?_ ?_ _) | (with_reducible refine Below.setCell ?_ ?_ _) | (with_reducible refine below_via (by assumption) ?_ ?_) | go_size))⟩
    · clear h9 h10 h
      go_enter Try.func100, Try.ntmps100
      go_wp2_with (go_at_call 108; refine (entry_in _ _ _).mono ?_; (first | rw [e1.out] | rw [e2.out] | rw [e3.out] | rw [e4.out]); rintro e w' ⟨rfl, rfl⟩)
      go_ret
      exact ⟨rfl, by (repeat' (first | (with_reducible exact Below.refl _ _) | (with_reducible assumption) | (with_reducible refine below_drewN ?_ _) | (with_reducible refine Below.drew ?_) | (with_reducible refine Below.alloc ?_ ?_ _) | (with_reducible refine Below.setCell ?_ ?_ _) | (with_reducible refine below_via (by assumption) ?_ ?_) | go_size))⟩
  · have hp : p + u ≤ 0 := h9 rfl
    have ha : a = true := by cases a <;> simp_all
    subst ha
    clear h9 h10 h
    go_enter Try.func100, Try.ntmps100
    go_wp2_with (go_at_call 108; refine (entry_in _ _ _).mono ?_; (first | rw [e1.out] | rw [e2.out] | rw [e3.out] | rw [e4.out]); rintro e w' ⟨rfl, rfl⟩)
    go_ret
    exact ⟨rfl, by (repeat' (first | (with_reducible exact Below.refl _ _) | (with_reducible assumption) | (with_reducible refine below_drewN ?_ _) | (with_reducible refine Below.drew ?_) | (with_reducible refine Below.alloc ?_ ?_ _) | (with_reducible refine Below.setCell ?_ ?_ _) | (with_reducible refine below_via (by assumption) ?_ ?_) | go_size))⟩
theorem eIn_iff {n m : Int} : eIn n m = true ↔ 0 ≤ n ∧ n ≤ m := by simp [eIn]
set_option maxHeartbeats 2000000 in
theorem entry_may_no (o g p u : Int) (l a : Bool) (w : World) (h : eMay o g p u l a = false) : Calls Try.prog 100 #[.agg #[.int .i64 o, .int .i64 g, .int .i64 p, .int .i64 u, .bool l, .bool a]] w fun e w' => e = .returned (.bool false) ∧ Below w.heap.size w w' := by
  have h' : ¬ (0 ≤ o ∧ o ≤ 4096 ∧ 0 ≤ g ∧ g ≤ 1000 ∧ 0 ≤ p ∧ p ≤ 7 ∧ 0 ≤ u ∧ u ≤ 15 ∧ (l = true → p + u ≤ 0) ∧ (a = true ∨ (o = 0 ∧ p = 0 ∧ u = 0 ∧ l = false))) := of_decide_eq_false h
  clear h
  rcases bool_cases (b := eIn o 4096) with x1 | x1
  rotate_left
  · have e1 := Lib.hid x1
    have e2 := Lib.hid (show eIn g 1000 = eIn g 1000 from rfl)
    have e3 := Lib.hid (show eIn p 7 = eIn p 7 from rfl)
    have e4 := Lib.hid (show eIn u 15 = eIn u 15 from rfl)
    clear h' x1
    go_enter Try.func100, Try.ntmps100
    go_wp2_with (go_at_call 108; refine (entry_in _ _ _).mono ?_; (first | rw [e1.out] | rw [e2.out] | rw [e3.out] | rw [e4.out]); rintro e w' ⟨rfl, rfl⟩)
    go_ret
    exact ⟨rfl, by (repeat' (first | (with_reducible exact Below.refl _ _) | (with_reducible assumption) | (with_reducible refine below_drewN ?_ _) | (with_reducible refine Below.drew ?_) | (with_reducible refine Below.alloc ?_ ?_ _) | (with_reducible refine Below.setCell ?_ ?_ _) | (with_reducible refine below_via (by assumption) ?_ ?_) | go_size))⟩
  rcases bool_cases (b := eIn g 1000) with x2 | x2
  rotate_left
  · have e2 := Lib.hid x2
    have e1 := Lib.hid x1
    have e3 := Lib.hid (show eIn p 7 = eIn p 7 from rfl)
    have e4 := Lib.hid (show eIn u 15 = eIn u 15 from rfl)
    clear h' x1 x2
    go_enter Try.func100, Try.ntmps100
    go_wp2_with (go_at_call 108; refine (entry_in _ _ _).mono ?_; (first | rw [e1.out] | rw [e2.out] | rw [e3.out] | rw [e4.out]); rintro e w' ⟨rfl, rfl⟩)
    go_ret
    exact ⟨rfl, by (repeat' (first | (with_reducible exact Below.refl _ _) | (with_reducible assumption) | (with_reducible refine below_drewN ?_ _) | (with_reducible refine Below.drew ?_) | (with_reducible refine Below.alloc ?_ ?_ _) | (with_reducible refine Below.setCell ?_ ?_ _) | (with_reducible refine below_via (by assumption) ?_ ?_) | go_size))⟩
  rcases bool_cases (b := eIn p 7) with x3 | x3
  rotate_left
  · have e3 := Lib.hid x3
    have e1 := Lib.hid x1
    have e2 := Lib.hid x2
    have e4 := Lib.hid (show eIn u 15 = eIn u 15 from rfl)
    clear h' x1 x2 x3
    go_enter Try.func100, Try.ntmps100
    go_wp2_with (go_at_call 108; refine (entry_in _ _ _).mono ?_; (first | rw [e1.out] | rw [e2.out] | rw [e3.out] | rw [e4.out]); rintro e w' ⟨rfl, rfl⟩)
    go_ret
    exact ⟨rfl, by (repeat' (first | (with_reducible exact Below.refl _ _) | (with_reducible assumption) | (with_reducible refine below_drewN ?_ _) | (with_reducible refine Below.drew ?_) | (with_reducible refine Below.alloc ?_ ?_ _) | (with_reducible refine Below.setCell ?_ ?_ _) | (with_reducible refine below_via (by assumption) ?_ ?_) | go_size))⟩
  rcases bool_cases (b := eIn u 15) with x4 | x4
  rotate_left
  · have e4 := Lib.hid x4
    have e1 := Lib.hid x1
    have e2 := Lib.hid x2
    have e3 := Lib.hid x3
    clear h' x1 x2 x3 x4
    go_enter Try.func100, Try.ntmps100
    go_wp2_with (go_at_call 108; refine (entry_in _ _ _).mono ?_; (first | rw [e1.out] | rw [e2.out] | rw [e3.out] | rw [e4.out]); rintro e w' ⟨rfl, rfl⟩)
    go_ret
    exact ⟨rfl, by (repeat' (first | (with_reducible exact Below.refl _ _) | (with_reducible assumption) | (with_reducible refine below_drewN ?_ _) | (with_reducible refine Below.drew ?_) | (with_reducible refine Below.alloc ?_ ?_ _) | (with_reducible refine Below.setCell ?_ ?_ _) | (with_reducible refine below_via (by assumption) ?_ ?_) | go_size))⟩
  have e1 := Lib.hid x1
  have e2 := Lib.hid x2
  have e3 := Lib.hid x3
  have e4 := Lib.hid x4
  obtain ⟨o0, o1⟩ := eIn_iff.1 x1
  obtain ⟨g0, g1⟩ := eIn_iff.1 x2
  obtain ⟨p0, p1⟩ := eIn_iff.1 x3
  obtain ⟨u0, u1⟩ := eIn_iff.1 x4
  clear x1 x2 x3 x4
  cases l
  · cases a
    · have hh : o ≠ 0 ∨ p ≠ 0 ∨ u ≠ 0 := by
        by_cases c1 : o = 0
        · by_cases c2 : p = 0
          · right; right; intro c3; exact h' (by simp [c1, c2, c3]; omega)
          · exact .inr (.inl c2)
        · exact .inl c1
      clear h'
      rcases hh with hh | hh | hh
      · have b1 : (o == 0) = false := by simpa using hh
        clear hh
        go_enter Try.func100, Try.ntmps100
        go_wp2_with (go_at_call 108; refine (entry_in _ _ _).mono ?_; (first | rw [e1.out] | rw [e2.out] | rw [e3.out] | rw [e4.out]); rintro e w' ⟨rfl, rfl⟩)
        go_ret
        exact ⟨rfl, by (repeat' (first | (with_reducible exact Below.refl _ _) | (with_reducible assumption) | (with_reducible refine below_drewN ?_ _) | (with_reducible refine Below.drew ?_) | (with_reducible refine Below.alloc ?_ ?_ _) | (with_reducible refine Below.setCell ?_ ?_ _) | (with_reducible refine below_via (by assumption) ?_ ?_) | go_size))⟩
      · have b1 : (p == 0) = false := by simpa using hh
        clear hh
        go_enter Try.func100, Try.ntmps100
        go_wp2_with (go_at_call 108; refine (entry_in _ _ _).mono ?_; (first | rw [e1.out] | rw [e2.out] | rw [e3.out] | rw [e4.out]); rintro e w' ⟨rfl, rfl⟩)
        go_ret
        exact ⟨rfl, by (repeat' (first | (with_reducible exact Below.refl _ _) | (with_reducible assumption) | (with_reducible refine below_drewN ?_ _) | (with_reducible refine Below.drew ?_) | (with_reducible refine Below.alloc ?_ ?_ _) | (with_reducible refine Below.setCell ?_ ?_ _) | (with_reducible refine below_via (by assumption) ?_ ?_) | go_size))⟩
      · have b1 : (u == 0) = false := by simpa using hh
        clear hh
        go_enter Try.func100, Try.ntmps100
        go_wp2_with (go_at_call 108; refine (entry_in _ _ _).mono ?_; (first | rw [e1.out] | rw [e2.out] | rw [e3.out] | rw [e4.out]); rintro e w' ⟨rfl, rfl⟩)
        go_ret
        exact ⟨rfl, by (repeat' (first | (with_reducible exact Below.refl _ _) | (with_reducible assumption) | (with_reducible refine below_drewN ?_ _) | (with_reducible refine Below.drew ?_) | (with_reducible refine Below.alloc ?_ ?_ _) | (with_reducible refine Below.setCell ?_ ?_ _) | (with_reducible refine below_via (by assumption) ?_ ?_) | go_size))⟩
    · exact absurd (show _ from ⟨o0, o1, g0, g1, p0, p1, u0, u1, (fun x => by cases x), .inl rfl⟩) h'
  · by_cases c : 0 < p + u
    · clear h'
      go_enter Try.func100, Try.ntmps100
      go_wp2_with (go_at_call 108; refine (entry_in _ _ _).mono ?_; (first | rw [e1.out] | rw [e2.out] | rw [e3.out] | rw [e4.out]); rintro e w' ⟨rfl, rfl⟩)
      go_ret
      exact ⟨rfl, by (repeat' (first | (with_reducible exact Below.refl _ _) | (with_reducible assumption) | (with_reducible refine below_drewN ?_ _) | (with_reducible refine Below.drew ?_) | (with_reducible refine Below.alloc ?_ ?_ _) | (with_reducible refine Below.setCell ?_ ?_ _) | (with_reducible refine below_via (by assumption) ?_ ?_) | go_size))⟩
    · cases a
      · have c' : p + u ≤ 0 := by omega
        clear h' c
        go_enter Try.func100, Try.ntmps100
        go_wp2_with (go_at_call 108; refine (entry_in _ _ _).mono ?_; (first | rw [e1.out] | rw [e2.out] | rw [e3.out] | rw [e4.out]); rintro e w' ⟨rfl, rfl⟩)
        go_ret
        exact ⟨rfl, by (repeat' (first | (with_reducible exact Below.refl _ _) | (with_reducible assumption) | (with_reducible refine below_drewN ?_ _) | (with_reducible refine Below.drew ?_) | (with_reducible refine Below.alloc ?_ ?_ _) | (with_reducible refine Below.setCell ?_ ?_ _) | (with_reducible refine below_via (by assumption) ?_ ?_) | go_size))⟩
      · exact absurd (show _ from ⟨o0, o1, g0, g1, p0, p1, u0, u1, (fun _ => by omega), .inl rfl⟩) h'
theorem entry_may (o g p u : Int) (l a : Bool) (w : World) : Calls Try.prog 100 #[.agg #[.int .i64 o, .int .i64 g, .int .i64 p, .int .i64 u, .bool l, .bool a]] w fun e w' => e = .returned (.bool (eMay o g p u l a)) ∧ Below w.heap.size w w' := by
  rcases bool_cases (b := eMay o g p u l a) with h | h
  · rw [h]; exact entry_may_yes o g p u l a w h
  · rw [h]; exact entry_may_no o g p u l a w h
end Go.Proofs.Ytpebepjfgnoaaaa
namespace Go.Proofs.Ytpebepjfgnoaaaa
set_option linter.unusedVariables false
set_option linter.unusedSimpArgs false
open Go.RowKit
theorem ixa0 (x0 x1 x2 x3 x4 x5 : Value) (w : World) : (Instr.index 152 (.agg #[x0, x1, x2, x3, x4, x5]) (.int .i64 0)).run Try.prog w = .ok x0 w := by kernel_rfl
theorem ixa1 (x0 x1 x2 x3 x4 x5 : Value) (w : World) : (Instr.index 152 (.agg #[x0, x1, x2, x3, x4, x5]) (.int .i64 1)).run Try.prog w = .ok x1 w := by kernel_rfl
theorem ixa2 (x0 x1 x2 x3 x4 x5 : Value) (w : World) : (Instr.index 152 (.agg #[x0, x1, x2, x3, x4, x5]) (.int .i64 2)).run Try.prog w = .ok x2 w := by kernel_rfl
theorem ixa3 (x0 x1 x2 x3 x4 x5 : Value) (w : World) : (Instr.index 152 (.agg #[x0, x1, x2, x3, x4, x5]) (.int .i64 3)).run Try.prog w = .ok x3 w := by kernel_rfl
theorem ixa4 (x0 x1 x2 x3 x4 x5 : Value) (w : World) : (Instr.index 152 (.agg #[x0, x1, x2, x3, x4, x5]) (.int .i64 4)).run Try.prog w = .ok x4 w := by kernel_rfl
theorem ixa5 (x0 x1 x2 x3 x4 x5 : Value) (w : World) : (Instr.index 152 (.agg #[x0, x1, x2, x3, x4, x5]) (.int .i64 5)).run Try.prog w = .ok x5 w := by kernel_rfl
theorem ixf0 (w : World) : (Instr.index 153 (.agg #[.int .i64 0, .int .i64 20, .int .i64 20, .int .i64 20, .int .i64 40, .int .i64 4, .int .i64 44, .int .i64 4, .int .i64 48, .int .i64 1, .int .i64 49, .int .i64 1]) (.int .i64 0)).run Try.prog w = .ok (.agg #[.int .i64 0, .int .i64 20]) w := by kernel_rfl
theorem ixf1 (w : World) : (Instr.index 153 (.agg #[.int .i64 0, .int .i64 20, .int .i64 20, .int .i64 20, .int .i64 40, .int .i64 4, .int .i64 44, .int .i64 4, .int .i64 48, .int .i64 1, .int .i64 49, .int .i64 1]) (.int .i64 1)).run Try.prog w = .ok (.agg #[.int .i64 20, .int .i64 20]) w := by kernel_rfl
theorem ixf2 (w : World) : (Instr.index 153 (.agg #[.int .i64 0, .int .i64 20, .int .i64 20, .int .i64 20, .int .i64 40, .int .i64 4, .int .i64 44, .int .i64 4, .int .i64 48, .int .i64 1, .int .i64 49, .int .i64 1]) (.int .i64 2)).run Try.prog w = .ok (.agg #[.int .i64 40, .int .i64 4]) w := by kernel_rfl
theorem ixf3 (w : World) : (Instr.index 153 (.agg #[.int .i64 0, .int .i64 20, .int .i64 20, .int .i64 20, .int .i64 40, .int .i64 4, .int .i64 44, .int .i64 4, .int .i64 48, .int .i64 1, .int .i64 49, .int .i64 1]) (.int .i64 3)).run Try.prog w = .ok (.agg #[.int .i64 44, .int .i64 4]) w := by kernel_rfl
theorem ixf4 (w : World) : (Instr.index 153 (.agg #[.int .i64 0, .int .i64 20, .int .i64 20, .int .i64 20, .int .i64 40, .int .i64 4, .int .i64 44, .int .i64 4, .int .i64 48, .int .i64 1, .int .i64 49, .int .i64 1]) (.int .i64 4)).run Try.prog w = .ok (.agg #[.int .i64 48, .int .i64 1]) w := by kernel_rfl
theorem ixf5 (w : World) : (Instr.index 153 (.agg #[.int .i64 0, .int .i64 20, .int .i64 20, .int .i64 20, .int .i64 40, .int .i64 4, .int .i64 44, .int .i64 4, .int .i64 48, .int .i64 1, .int .i64 49, .int .i64 1]) (.int .i64 5)).run Try.prog w = .ok (.agg #[.int .i64 49, .int .i64 1]) w := by kernel_rfl
attribute [local go_sem] ixa0 ixa1 ixa2 ixa3 ixa4 ixa5 ixf0 ixf1 ixf2 ixf3 ixf4 ixf5
def ePack (o g p u : Int) (l a : Bool) : Int × Int := if eMay o g p u l a = true then (eWord o g p u l a, 0) else (0, 1)
set_option maxHeartbeats 2000000 in
theorem entry_Pack (o g p u : Int) (l a : Bool) (w : World) : Calls Try.prog 90 #[.agg #[.int .i64 o, .int .i64 g, .int .i64 p, .int .i64 u, .bool l, .bool a]] w fun e w' => e = .returned (.tuple #[.int .i64 (ePack o g p u l a).1, .int .i64 (ePack o g p u l a).2]) ∧ Below w.heap.size w w' := by
  rcases bool_cases (b := eMay o g p u l a) with h | h
  · have e := Lib.hid (show ePack o g p u l a = (eWord o g p u l a, 0) by unfold ePack; rw [if_pos h])
    obtain ⟨h1, h2, h3, h4, h5, h6, h7, h8, -, -⟩ := eMay_of h
    obtain ⟨q0, q1, q2, q3, q4, q5⟩ := ePart_put (l := l) (a := a) ⟨h1, h2, h3, h4, h5, h6, h7, h8⟩
    have h' := Lib.hid h
    have Q0 := Lib.hid (show fPut (ePart o g p u l a 0) 0 20 o = _ from q0)
    have Q1 := Lib.hid q1
    have Q2 := Lib.hid q2
    have Q3 := Lib.hid q3
    have Q4 := Lib.hid q4
    have Q5 := Lib.hid q5
    have l0 := bI_bd l
    have a0 := bI_bd a
    clear h q0 q1 q2 q3 q4 q5
    go_enter Try.func90, Try.ntmps90
    go_wp2_with (go_at_call 100; refine (entry_may _ _ _ _ _ _ _).mono ?_; rw [h'.out]; rintro e w1 ⟨rfl, hb1⟩; obtain ⟨hc1, hf1⟩ := bcell hb1; have hz1 := hb1.size; (try simp only [World.size_alloc, World.size_drew, World.size_setCell, size_drewN] at hz1))
    go_quiet ((go_at_call 101; exact Calls.quiet_of_same ((entry_bit _ _).mono fun e w' h => ⟨h.1, h.2.symm⟩)))
    go_wp2_with fail
    have hB1 : Below w.heap.size w (w1.drewN nq) := by (repeat' (first | (with_reducible exact Below.refl _ _) | (with_reducible assumption) | (with_reducible refine below_drewN ?_ _) | (with_reducible refine Below.drew ?_) | (with_reducible refine Below.alloc ?_ ?_ _) | (with_reducible refine Below.setCell ?_ ?_ _) | (with_reducible refine below_via (by assumption) ?_ ?_) | go_size))
    clear hc1 hf1 hb1 hz1
    go_loopw [4, 25] (fun x i wr => ∃ k : Nat, k ≤ 6 ∧ i = .int .i64 k ∧ x = .int .i64 (ePart o g p u l a k) ∧ Below w.heap.size w wr) (fun _ i _ => 6 - (intOf i).toNat)
    case atStart => exact ⟨0, by omega, rfl, rfl, hB1⟩
    case round =>
      obtain ⟨k, hk, rfl, rfl, hB⟩ := hrel
      have hzB := hB.size
      rcases (show k = 0 ∨ k = 1 ∨ k = 2 ∨ k = 3 ∨ k = 4 ∨ k = 5 ∨ k = 6 by omega) with rfl | rfl | rfl | rfl | rfl | rfl | rfl
      · go_wp2_with first
          | (go_at_call 99; refine (entry_fields _).mono ?_; rintro e w2 ⟨rfl, hb2⟩; have hz2 := hb2.size)
          | (go_at_call 98; refine (field_Put _ _ _ _ _ (by omega) (by omega)).mono ?_; rw [Q0.out]; rintro e w3 ⟨rfl, hb3⟩; have hz3 := hb3.size)
        go_roundw
        case rel => exact ⟨1, by omega, rfl, rfl, by (repeat' (first | (with_reducible exact Below.refl _ _) | (with_reducible assumption) | (with_reducible refine below_drewN ?_ _) | (with_reducible refine Below.drew ?_) | (with_reducible refine Below.alloc ?_ ?_ _) | (with_reducible refine Below.setCell ?_ ?_ _) | (with_reducible refine below_via (by assumption) ?_ ?_) | go_size))⟩
        case measure => simp [intOf]
      · go_wp2_with first
          | (go_at_call 99; refine (entry_fields _).mono ?_; rintro e w2 ⟨rfl, hb2⟩; have hz2 := hb2.size)
          | (go_at_call 98; refine (field_Put _ _ _ _ _ (by omega) (by omega)).mono ?_; rw [Q1.out]; rintro e w3 ⟨rfl, hb3⟩; have hz3 := hb3.size)
        go_roundw
        case rel => exact ⟨2, by omega, rfl, rfl, by (repeat' (first | (with_reducible exact Below.refl _ _) | (with_reducible assumption) | (with_reducible refine below_drewN ?_ _) | (with_reducible refine Below.drew ?_) | (with_reducible refine Below.alloc ?_ ?_ _) | (with_reducible refine Below.setCell ?_ ?_ _) | (with_reducible refine below_via (by assumption) ?_ ?_) | go_size))⟩
        case measure => simp [intOf]
      · go_wp2_with first
          | (go_at_call 99; refine (entry_fields _).mono ?_; rintro e w2 ⟨rfl, hb2⟩; have hz2 := hb2.size)
          | (go_at_call 98; refine (field_Put _ _ _ _ _ (by omega) (by omega)).mono ?_; rw [Q2.out]; rintro e w3 ⟨rfl, hb3⟩; have hz3 := hb3.size)
        go_roundw
        case rel => exact ⟨3, by omega, rfl, rfl, by (repeat' (first | (with_reducible exact Below.refl _ _) | (with_reducible assumption) | (with_reducible refine below_drewN ?_ _) | (with_reducible refine Below.drew ?_) | (with_reducible refine Below.alloc ?_ ?_ _) | (with_reducible refine Below.setCell ?_ ?_ _) | (with_reducible refine below_via (by assumption) ?_ ?_) | go_size))⟩
        case measure => simp [intOf]
      · go_wp2_with first
          | (go_at_call 99; refine (entry_fields _).mono ?_; rintro e w2 ⟨rfl, hb2⟩; have hz2 := hb2.size)
          | (go_at_call 98; refine (field_Put _ _ _ _ _ (by omega) (by omega)).mono ?_; rw [Q3.out]; rintro e w3 ⟨rfl, hb3⟩; have hz3 := hb3.size)
        go_roundw
        case rel => exact ⟨4, by omega, rfl, rfl, by (repeat' (first | (with_reducible exact Below.refl _ _) | (with_reducible assumption) | (with_reducible refine below_drewN ?_ _) | (with_reducible refine Below.drew ?_) | (with_reducible refine Below.alloc ?_ ?_ _) | (with_reducible refine Below.setCell ?_ ?_ _) | (with_reducible refine below_via (by assumption) ?_ ?_) | go_size))⟩
        case measure => simp [intOf]
      · go_wp2_with first
          | (go_at_call 99; refine (entry_fields _).mono ?_; rintro e w2 ⟨rfl, hb2⟩; have hz2 := hb2.size)
          | (go_at_call 98; refine (field_Put _ _ _ _ _ (by omega) (by omega)).mono ?_; rw [Q4.out]; rintro e w3 ⟨rfl, hb3⟩; have hz3 := hb3.size)
        go_roundw
        case rel => exact ⟨5, by omega, rfl, rfl, by (repeat' (first | (with_reducible exact Below.refl _ _) | (with_reducible assumption) | (with_reducible refine below_drewN ?_ _) | (with_reducible refine Below.drew ?_) | (with_reducible refine Below.alloc ?_ ?_ _) | (with_reducible refine Below.setCell ?_ ?_ _) | (with_reducible refine below_via (by assumption) ?_ ?_) | go_size))⟩
        case measure => simp [intOf]
      · go_wp2_with first
          | (go_at_call 99; refine (entry_fields _).mono ?_; rintro e w2 ⟨rfl, hb2⟩; have hz2 := hb2.size)
          | (go_at_call 98; refine (field_Put _ _ _ _ _ (by omega) (by omega)).mono ?_; rw [Q5.out]; rintro e w3 ⟨rfl, hb3⟩; have hz3 := hb3.size)
        go_roundw
        case rel => exact ⟨6, by omega, rfl, rfl, by (repeat' (first | (with_reducible exact Below.refl _ _) | (with_reducible assumption) | (with_reducible refine below_drewN ?_ _) | (with_reducible refine Below.drew ?_) | (with_reducible refine Below.alloc ?_ ?_ _) | (with_reducible refine Below.setCell ?_ ?_ _) | (with_reducible refine below_via (by assumption) ?_ ?_) | go_size))⟩
        case measure => simp [intOf]
      · go_wp2_with fail
        go_ret2
        exact ⟨by rw [e.out]; rfl, by (repeat' (first | (with_reducible exact Below.refl _ _) | (with_reducible assumption) | (with_reducible refine below_drewN ?_ _) | (with_reducible refine Below.drew ?_) | (with_reducible refine Below.alloc ?_ ?_ _) | (with_reducible refine Below.setCell ?_ ?_ _) | (with_reducible refine below_via (by assumption) ?_ ?_) | go_size))⟩
  · have e := Lib.hid (show ePack o g p u l a = (0, 1) by unfold ePack; rw [if_neg (by rw [h]; decide)])
    have h' := Lib.hid h
    clear h
    go_enter Try.func90, Try.ntmps90
    go_wp2_with (go_at_call 100; refine (entry_may _ _ _ _ _ _ _).mono ?_; rw [h'.out]; rintro e w1 ⟨rfl, hb1⟩; obtain ⟨hc1, hf1⟩ := bcell hb1; have hz1 := hb1.size; (try simp only [World.size_alloc, World.size_drew, World.size_setCell, size_drewN] at hz1))
    go_ret2
    exact ⟨by rw [e.out]; rfl, by (repeat' (first | (with_reducible exact Below.refl _ _) | (with_reducible assumption) | (with_reducible refine below_drewN ?_ _) | (with_reducible refine Below.drew ?_) | (with_reducible refine Below.alloc ?_ ?_ _) | (with_reducible refine Below.setCell ?_ ?_ _) | (with_reducible refine below_via (by assumption) ?_ ?_) | go_size))⟩
end Go.Proofs.Ytpebepjfgnoaaaa
namespace Go.Proofs.Ytpebepjfgnoaaaa
set_option linter.unusedVariables false
set_option linter.unusedSimpArgs false
open Go.RowKit
attribute [local go_sem] ixf0 ixf1 ixf2 ixf3 ixf4 ixf5
def wO (w : Int) : Int := w % 1048576
def wG (w : Int) : Int := w / 1048576 % 1048576
def wP (w : Int) : Int := w / 1099511627776 % 16
def wU (w : Int) : Int := w / 17592186044416 % 16
def wL (w : Int) : Bool := w / 281474976710656 % 2 == 1
def wA (w : Int) : Bool := w / 562949953421312 % 2 == 1
def eIs (w : Int) : Bool := decide (0 ≤ w ∧ w < 1125899906842624) && eMay (wO w) (wG w) (wP w) (wU w) (wL w) (wA w)
theorem get_all {w : Int} (h : 0 ≤ w) (h' : w < 1125899906842624) : fGet w 0 20 = wO w ∧ fGet w 20 20 = wG w ∧ fGet w 40 4 = wP w ∧ fGet w 44 4 = wU w ∧ fGet w 48 1 = w / 281474976710656 % 2 ∧ fGet w 49 1 = w / 562949953421312 % 2 := by
  have hw : fWord w = true := by simp [fWord]; omega
  have g : ∀ p b P B : Int, pw p = P → pw b = B → fMay p b = true → fGet w p b = w / P % B := by
    intro p b P B hP hB hm; unfold fGet; rw [if_pos ⟨hw, hm⟩, hP, hB]
  refine ⟨?_, ?_, ?_, ?_, ?_, ?_⟩
  · rw [g 0 20 1 1048576 (by decide) (by decide) (by decide), Int.ediv_one]; rfl
  · exact g 20 20 _ _ (by decide) (by decide) (by decide)
  · exact g 40 4 _ _ (by decide) (by decide) (by decide)
  · exact g 44 4 _ _ (by decide) (by decide) (by decide)
  · exact g 48 1 _ _ (by decide) (by decide) (by decide)
  · exact g 49 1 _ _ (by decide) (by decide) (by decide)
def uArr (x : Int) : Nat → Array Value
  | 0 => #[.int .i64 0, .int .i64 0, .int .i64 0, .int .i64 0, .int .i64 0, .int .i64 0]
  | 1 => #[.int .i64 (wO x), .int .i64 0, .int .i64 0, .int .i64 0, .int .i64 0, .int .i64 0]
  | 2 => #[.int .i64 (wO x), .int .i64 (wG x), .int .i64 0, .int .i64 0, .int .i64 0, .int .i64 0]
  | 3 => #[.int .i64 (wO x), .int .i64 (wG x), .int .i64 (wP x), .int .i64 0, .int .i64 0, .int .i64 0]
  | 4 => #[.int .i64 (wO x), .int .i64 (wG x), .int .i64 (wP x), .int .i64 (wU x), .int .i64 0, .int .i64 0]
  | 5 => #[.int .i64 (wO x), .int .i64 (wG x), .int .i64 (wP x), .int .i64 (wU x), .int .i64 (x / 281474976710656 % 2), .int .i64 0]
  | _ => #[.int .i64 (wO x), .int .i64 (wG x), .int .i64 (wP x), .int .i64 (wU x), .int .i64 (x / 281474976710656 % 2), .int .i64 (x / 562949953421312 % 2)]
def uZero : Array Value := #[.int .i64 0, .int .i64 0, .int .i64 0, .int .i64 0, .bool false, .bool false]
set_option maxHeartbeats 2000000 in
theorem entry_Unpack_in (x : Int) (w : World) (h : 0 ≤ x) (h' : x < 1125899906842624) (b : Bool) (hb : eMay (wO x) (wG x) (wP x) (wU x) (wL x) (wA x) = b) : Calls Try.prog 89 #[.int .i64 x] w fun e w' =>
    e = .returned (.tuple #[if b = true then .agg #[.int .i64 (wO x), .int .i64 (wG x), .int .i64 (wP x), .int .i64 (wU x), .bool (wL x), .bool (wA x)] else .agg #[.int .i64 0, .int .i64 0, .int .i64 0, .int .i64 0, .bool false, .bool false], .int .i64 (if b = true then 0 else 2)]) ∧ Below w.heap.size w w' := by
  obtain ⟨q0, q1, q2, q3, q4, q5⟩ := get_all h h'
  have Q0 := Lib.hid q0
  have Q1 := Lib.hid q1
  have Q2 := Lib.hid q2
  have Q3 := Lib.hid q3
  have Q4 := Lib.hid q4
  have Q5 := Lib.hid q5
  have hw := Lib.hid (show fWord x = true by simp [fWord]; omega)
  have HB := Lib.hid hb
  clear q0 q1 q2 q3 q4 q5 hb
  go_enter Try.func89, Try.ntmps89
  go_wp2_with (go_at_call 99; refine (entry_fields _).mono ?_; rintro e w2 ⟨rfl, hb2⟩; have hz2 := hb2.size)
  have hE : w2.heap[w.heap.size]? = some (.cells uZero 141 (0, 0)) := by
    refine blk_below (blk_alloc (blk_new w _) _) hb2 (by simp; omega)
  have hN : w2.heap[w.heap.size + 1]? = some (.cells (uArr x 0) 152 (0, 0)) := by
    refine blk_below ?_ hb2 (by simp)
    have hq := blk_new (w.alloc (.cells uZero 141 (0, 0))) (.cells (uArr x 0) 152 (0, 0))
    rw [World.size_alloc] at hq
    exact hq
  have hB2 : Below w.heap.size w w2 := by (repeat' (first | (with_reducible exact Below.refl _ _) | (with_reducible assumption) | (with_reducible refine below_drewN ?_ _) | (with_reducible refine Below.drew ?_) | (with_reducible refine Below.alloc ?_ ?_ _) | (with_reducible refine Below.setCell ?_ ?_ _) | (with_reducible refine below_via (by assumption) ?_ ?_) | go_size))
  clear hb2 hz2
  go_loopw [16] (fun i wr => ∃ k : Nat, k ≤ 6 ∧ i = .int .i64 k ∧ wr.heap[w.heap.size]? = some (.cells uZero 141 (0, 0)) ∧ wr.heap[w.heap.size + 1]? = some (.cells (uArr x k) 152 (0, 0)) ∧ Below w.heap.size w wr) (fun i _ => 6 - (intOf i).toNat)
  case atStart => exact ⟨0, by omega, rfl, hE, hN, hB2⟩
  case round =>
    clear hE hN hB2
    obtain ⟨k, hk, rfl, hE, hN, hB⟩ := hrel
    have hzB := hB.size
    rcases (show k = 0 ∨ k = 1 ∨ k = 2 ∨ k = 3 ∨ k = 4 ∨ k = 5 ∨ k = 6 by omega) with rfl | rfl | rfl | rfl | rfl | rfl | rfl
    · go_wp2_with fail
      have n1 := blk_alloc hN (Obj.cells #[.int .i64 0, .int .i64 20] 148)
      have m1 := blk_alloc hE (Obj.cells #[.int .i64 0, .int .i64 20] 148)
      have hl := blk_lt hN
      refine (field_Get_ok _ _ _ _ (by decide) hw.out).mono ?_; rw [Q0.out]; rintro e w3 ⟨rfl, hb3⟩
      have hz3 := hb3.size
      have n3 := blk_below n1 hb3 (by rw [World.size_alloc]; omega)
      have m3 := blk_below m1 hb3 (by rw [World.size_alloc]; omega)
      have cN : w3.cell? ⟨w.heap.size + 1, 0, none⟩ = some (.int .i64 0) := by rw [blk_cell n3]; rfl
      have fN := blk_free n3 0
      have hB3 : Below w.heap.size w w3 := by (repeat' (first | (with_reducible exact Below.refl _ _) | (with_reducible assumption) | (with_reducible refine below_drewN ?_ _) | (with_reducible refine Below.drew ?_) | (with_reducible refine Below.alloc ?_ ?_ _) | (with_reducible refine Below.setCell ?_ ?_ _) | (with_reducible refine below_via (by assumption) ?_ ?_) | go_size))
      rw [World.size_alloc] at hz3
      clear n1 m1 hN hE hb3 hB
      go_wp2_with fail
      go_roundw
      case rel => exact ⟨1, by omega, rfl, blk_set_ne m3 (by simp) _, blk_set n3 0 _, hB3.setCell (by simp) _⟩
      case measure => simp [intOf]
    · go_wp2_with fail
      have n1 := blk_alloc hN (Obj.cells #[.int .i64 20, .int .i64 20] 148)
      have m1 := blk_alloc hE (Obj.cells #[.int .i64 20, .int .i64 20] 148)
      have hl := blk_lt hN
      refine (field_Get_ok _ _ _ _ (by decide) hw.out).mono ?_; rw [Q1.out]; rintro e w3 ⟨rfl, hb3⟩
      have hz3 := hb3.size
      have n3 := blk_below n1 hb3 (by rw [World.size_alloc]; omega)
      have m3 := blk_below m1 hb3 (by rw [World.size_alloc]; omega)
      have cN : w3.cell? ⟨w.heap.size + 1, 1, none⟩ = some (.int .i64 0) := by rw [blk_cell n3]; rfl
      have fN := blk_free n3 1
      have hB3 : Below w.heap.size w w3 := by (repeat' (first | (with_reducible exact Below.refl _ _) | (with_reducible assumption) | (with_reducible refine below_drewN ?_ _) | (with_reducible refine Below.drew ?_) | (with_reducible refine Below.alloc ?_ ?_ _) | (with_reducible refine Below.setCell ?_ ?_ _) | (with_reducible refine below_via (by assumption) ?_ ?_) | go_size))
      rw [World.size_alloc] at hz3
      clear n1 m1 hN hE hb3 hB
      go_wp2_with fail
      go_roundw
      case rel => exact ⟨2, by omega, rfl, blk_set_ne m3 (by simp) _, blk_set n3 1 _, hB3.setCell (by simp) _⟩
      case measure => simp [intOf]
    · go_wp2_with fail
      have n1 := blk_alloc hN (Obj.cells #[.int .i64 40, .int .i64 4] 148)
      have m1 := blk_alloc hE (Obj.cells #[.int .i64 40, .int .i64 4] 148)
      have hl := blk_lt hN
      refine (field_Get_ok _ _ _ _ (by decide) hw.out).mono ?_; rw [Q2.out]; rintro e w3 ⟨rfl, hb3⟩
      have hz3 := hb3.size
      have n3 := blk_below n1 hb3 (by rw [World.size_alloc]; omega)
      have m3 := blk_below m1 hb3 (by rw [World.size_alloc]; omega)
      have cN : w3.cell? ⟨w.heap.size + 1, 2, none⟩ = some (.int .i64 0) := by rw [blk_cell n3]; rfl
      have fN := blk_free n3 2
      have hB3 : Below w.heap.size w w3 := by (repeat' (first | (with_reducible exact Below.refl _ _) | (with_reducible assumption) | (with_reducible refine below_drewN ?_ _) | (with_reducible refine Below.drew ?_) | (with_reducible refine Below.alloc ?_ ?_ _) | (with_reducible refine Below.setCell ?_ ?_ _) | (with_reducible refine below_via (by assumption) ?_ ?_) | go_size))
      rw [World.size_alloc] at hz3
      clear n1 m1 hN hE hb3 hB
      go_wp2_with fail
      go_roundw
      case rel => exact ⟨3, by omega, rfl, blk_set_ne m3 (by simp) _, blk_set n3 2 _, hB3.setCell (by simp) _⟩
      case measure => simp [intOf]
    · go_wp2_with fail
      have n1 := blk_alloc hN (Obj.cells #[.int .i64 44, .int .i64 4] 148)
      have m1 := blk_alloc hE (Obj.cells #[.int .i64 44, .int .i64 4] 148)
      have hl := blk_lt hN
      refine (field_Get_ok _ _ _ _ (by decide) hw.out).mono ?_; rw [Q3.out]; rintro e w3 ⟨rfl, hb3⟩
      have hz3 := hb3.size
      have n3 := blk_below n1 hb3 (by rw [World.size_alloc]; omega)
      have m3 := blk_below m1 hb3 (by rw [World.size_alloc]; omega)
      have cN : w3.cell? ⟨w.heap.size + 1, 3, none⟩ = some (.int .i64 0) := by rw [blk_cell n3]; rfl
      have fN := blk_free n3 3
      have hB3 : Below w.heap.size w w3 := by (repeat' (first | (with_reducible exact Below.refl _ _) | (with_reducible assumption) | (with_reducible refine below_drewN ?_ _) | (with_reducible refine Below.drew ?_) | (with_reducible refine Below.alloc ?_ ?_ _) | (with_reducible refine Below.setCell ?_ ?_ _) | (with_reducible refine below_via (by assumption) ?_ ?_) | go_size))
      rw [World.size_alloc] at hz3
      clear n1 m1 hN hE hb3 hB
      go_wp2_with fail
      go_roundw
      case rel => exact ⟨4, by omega, rfl, blk_set_ne m3 (by simp) _, blk_set n3 3 _, hB3.setCell (by simp) _⟩
      case measure => simp [intOf]
    · go_wp2_with fail
      have n1 := blk_alloc hN (Obj.cells #[.int .i64 48, .int .i64 1] 148)
      have m1 := blk_alloc hE (Obj.cells #[.int .i64 48, .int .i64 1] 148)
      have hl := blk_lt hN
      refine (field_Get_ok _ _ _ _ (by decide) hw.out).mono ?_; rw [Q4.out]; rintro e w3 ⟨rfl, hb3⟩
      have hz3 := hb3.size
      have n3 := blk_below n1 hb3 (by rw [World.size_alloc]; omega)
      have m3 := blk_below m1 hb3 (by rw [World.size_alloc]; omega)
      have cN : w3.cell? ⟨w.heap.size + 1, 4, none⟩ = some (.int .i64 0) := by rw [blk_cell n3]; rfl
      have fN := blk_free n3 4
      have hB3 : Below w.heap.size w w3 := by (repeat' (first | (with_reducible exact Below.refl _ _) | (with_reducible assumption) | (with_reducible refine below_drewN ?_ _) | (with_reducible refine Below.drew ?_) | (with_reducible refine Below.alloc ?_ ?_ _) | (with_reducible refine Below.setCell ?_ ?_ _) | (with_reducible refine below_via (by assumption) ?_ ?_) | go_size))
      rw [World.size_alloc] at hz3
      clear n1 m1 hN hE hb3 hB
      go_wp2_with fail
      go_roundw
      case rel => exact ⟨5, by omega, rfl, blk_set_ne m3 (by simp) _, blk_set n3 4 _, hB3.setCell (by simp) _⟩
      case measure => simp [intOf]
    · go_wp2_with fail
      have n1 := blk_alloc hN (Obj.cells #[.int .i64 49, .int .i64 1] 148)
      have m1 := blk_alloc hE (Obj.cells #[.int .i64 49, .int .i64 1] 148)
      have hl := blk_lt hN
      refine (field_Get_ok _ _ _ _ (by decide) hw.out).mono ?_; rw [Q5.out]; rintro e w3 ⟨rfl, hb3⟩
      have hz3 := hb3.size
      have n3 := blk_below n1 hb3 (by rw [World.size_alloc]; omega)
      have m3 := blk_below m1 hb3 (by rw [World.size_alloc]; omega)
      have cN : w3.cell? ⟨w.heap.size + 1, 5, none⟩ = some (.int .i64 0) := by rw [blk_cell n3]; rfl
      have fN := blk_free n3 5
      have hB3 : Below w.heap.size w w3 := by (repeat' (first | (with_reducible exact Below.refl _ _) | (with_reducible assumption) | (with_reducible refine below_drewN ?_ _) | (with_reducible refine Below.drew ?_) | (with_reducible refine Below.alloc ?_ ?_ _) | (with_reducible refine Below.setCell ?_ ?_ _) | (with_reducible refine below_via (by assumption) ?_ ?_) | go_size))
      rw [World.size_alloc] at hz3
      clear n1 m1 hN hE hb3 hB
      go_wp2_with fail
      go_roundw
      case rel => exact ⟨6, by omega, rfl, blk_set_ne m3 (by simp) _, blk_set n3 5 _, hB3.setCell (by simp) _⟩
      case measure => simp [intOf]
    · have c0 : wr.cell? ⟨w.heap.size + 1, 0, none⟩ = some (.int .i64 (wO x)) := by rw [blk_cell hN]; rfl
      have c1 : wr.cell? ⟨w.heap.size + 1, 1, none⟩ = some (.int .i64 (wG x)) := by rw [blk_cell hN]; rfl
      have c2 : wr.cell? ⟨w.heap.size + 1, 2, none⟩ = some (.int .i64 (wP x)) := by rw [blk_cell hN]; rfl
      have c3 : wr.cell? ⟨w.heap.size + 1, 3, none⟩ = some (.int .i64 (wU x)) := by rw [blk_cell hN]; rfl
      have c4 : wr.cell? ⟨w.heap.size + 1, 4, none⟩ = some (.int .i64 (x / 281474976710656 % 2)) := by rw [blk_cell hN]; rfl
      have c5 : wr.cell? ⟨w.heap.size + 1, 5, none⟩ = some (.int .i64 (x / 562949953421312 % 2)) := by rw [blk_cell hN]; rfl
      go_wp2_with fail
      have n1 := blk_new wr (Obj.cells #[.int .i64 (wO x), .int .i64 (wG x), .int .i64 (wP x), .int .i64 (wU x), .bool (wL x), .bool (wA x)] 141)
      have m1 := blk_alloc hE (Obj.cells #[.int .i64 (wO x), .int .i64 (wG x), .int .i64 (wP x), .int .i64 (wU x), .bool (wL x), .bool (wA x)] 141)
      have hl := blk_lt hE
      refine (entry_may _ _ _ _ (wL x) (wA x) _).mono ?_; rw [HB.out]; rintro e w4 ⟨rfl, hb4⟩
      have hz4 := hb4.size
      have n4 := blk_below n1 hb4 (by rw [World.size_alloc]; omega)
      have m4 := blk_below m1 hb4 (by rw [World.size_alloc]; omega)
      have hB4 : Below w.heap.size w w4 := by (repeat' (first | (with_reducible exact Below.refl _ _) | (with_reducible assumption) | (with_reducible refine below_drewN ?_ _) | (with_reducible refine Below.drew ?_) | (with_reducible refine Below.alloc ?_ ?_ _) | (with_reducible refine Below.setCell ?_ ?_ _) | (with_reducible refine below_via (by assumption) ?_ ?_) | go_size))
      rw [World.size_alloc] at hz4
      clear n1 m1 hE hN hb4 hB c0 c1 c2 c3 c4 c5
      have c0 : w4.cell? ⟨wr.heap.size, 0, none⟩ = some (.int .i64 (wO x)) := by rw [blk_cell n4]; rfl
      have d0 : w4.cell? ⟨w.heap.size, 0, none⟩ = some (.int .i64 0) := by rw [blk_cell m4]; rfl
      have f0 := blk_free m4 0
      have c1 : w4.cell? ⟨wr.heap.size, 1, none⟩ = some (.int .i64 (wG x)) := by rw [blk_cell n4]; rfl
      have d1 : w4.cell? ⟨w.heap.size, 1, none⟩ = some (.int .i64 0) := by rw [blk_cell m4]; rfl
      have f1 := blk_free m4 1
      have c2 : w4.cell? ⟨wr.heap.size, 2, none⟩ = some (.int .i64 (wP x)) := by rw [blk_cell n4]; rfl
      have d2 : w4.cell? ⟨w.heap.size, 2, none⟩ = some (.int .i64 0) := by rw [blk_cell m4]; rfl
      have f2 := blk_free m4 2
      have c3 : w4.cell? ⟨wr.heap.size, 3, none⟩ = some (.int .i64 (wU x)) := by rw [blk_cell n4]; rfl
      have d3 : w4.cell? ⟨w.heap.size, 3, none⟩ = some (.int .i64 0) := by rw [blk_cell m4]; rfl
      have f3 := blk_free m4 3
      have c4 : w4.cell? ⟨wr.heap.size, 4, none⟩ = some (.bool (wL x)) := by rw [blk_cell n4]; rfl
      have d4 : w4.cell? ⟨w.heap.size, 4, none⟩ = some (.bool false) := by rw [blk_cell m4]; rfl
      have f4 := blk_free m4 4
      have c5 : w4.cell? ⟨wr.heap.size, 5, none⟩ = some (.bool (wA x)) := by rw [blk_cell n4]; rfl
      have d5 : w4.cell? ⟨w.heap.size, 5, none⟩ = some (.bool false) := by rw [blk_cell m4]; rfl
      have f5 := blk_free m4 5
      clear n4 m4
      cases b
      · go_wp2_with fail
        exact bodyPost_ret (v := .tuple #[.agg #[.int .i64 0, .int .i64 0, .int .i64 0, .int .i64 0, .bool false, .bool false], .int .i64 2]) (by simp [results, Try.results89, go_sem, d0, d1, d2, d3, d4, d5]) rfl ⟨rfl, by (repeat' (first | (with_reducible exact Below.refl _ _) | (with_reducible assumption) | (with_reducible refine below_drewN ?_ _) | (with_reducible refine Below.drew ?_) | (with_reducible refine Below.alloc ?_ ?_ _) | (with_reducible refine Below.setCell ?_ ?_ _) | (with_reducible refine below_via (by assumption) ?_ ?_) | go_size))⟩
      · go_wp2_with fail
        exact bodyPost_ret (v := .tuple #[.agg #[.int .i64 (wO x), .int .i64 (wG x), .int .i64 (wP x), .int .i64 (wU x), .bool (wL x), .bool (wA x)], .int .i64 0]) (by simp [results, Try.results89, go_sem, d0, d1, d2, d3, d4, d5]) rfl ⟨rfl, by (repeat' (first | (with_reducible exact Below.refl _ _) | (with_reducible assumption) | (with_reducible refine below_drewN ?_ _) | (with_reducible refine Below.drew ?_) | (with_reducible refine Below.alloc ?_ ?_ _) | (with_reducible refine Below.setCell ?_ ?_ _) | (with_reducible refine below_via (by assumption) ?_ ?_) | go_size))⟩
def eOk (x : Int) : Int := if eIs x = true then 0 else 2
def uO (x : Int) : Int := if eIs x = true then wO x else 0
def uG (x : Int) : Int := if eIs x = true then wG x else 0
def uP (x : Int) : Int := if eIs x = true then wP x else 0
def uU (x : Int) : Int := if eIs x = true then wU x else 0
def uL (x : Int) : Bool := if eIs x = true then wL x else false
def uA (x : Int) : Bool := if eIs x = true then wA x else false
theorem u_yes {x : Int} (h : eIs x = true) : uO x = wO x ∧ uG x = wG x ∧ uP x = wP x ∧ uU x = wU x ∧ uL x = wL x ∧ uA x = wA x ∧ eOk x = 0 := by
  unfold uO uG uP uU uL uA eOk; simp [h]
theorem u_no {x : Int} (h : eIs x = false) : uO x = 0 ∧ uG x = 0 ∧ uP x = 0 ∧ uU x = 0 ∧ uL x = false ∧ uA x = false ∧ eOk x = 2 := by
  unfold uO uG uP uU uL uA eOk; simp [h]
set_option maxHeartbeats 1000000 in
theorem entry_Unpack (x : Int) (w : World) : Calls Try.prog 89 #[.int .i64 x] w fun e w' =>
    e = .returned (.tuple #[.agg #[.int .i64 (uO x), .int .i64 (uG x), .int .i64 (uP x), .int .i64 (uU x), .bool (uL x), .bool (uA x)], .int .i64 (eOk x)]) ∧ Below w.heap.size w w' := by
  by_cases h : 0 ≤ x ∧ x < 1125899906842624
  · rcases bool_cases (b := eMay (wO x) (wG x) (wP x) (wU x) (wL x) (wA x)) with hb | hb
    · obtain ⟨a1, a2, a3, a4, a5, a6, a7⟩ := u_yes (x := x) (by unfold eIs; simp [h, hb])
      rw [a1, a2, a3, a4, a5, a6, a7]
      exact entry_Unpack_in x w h.1 h.2 true hb
    · obtain ⟨a1, a2, a3, a4, a5, a6, a7⟩ := u_no (x := x) (by unfold eIs; simp [hb])
      rw [a1, a2, a3, a4, a5, a6, a7]
      exact entry_Unpack_in x w h.1 h.2 false hb
  · obtain ⟨a1, a2, a3, a4, a5, a6, a7⟩ := u_no (x := x) (by unfold eIs; simp; intro h1 h2; exact absurd ⟨h1, h2⟩ h)
    rw [a1, a2, a3, a4, a5, a6, a7]
    have hh : x < 0 ∨ (0 ≤ x ∧ 1125899906842624 ≤ x) := by omega
    clear h a1 a2 a3 a4 a5 a6 a7
    rcases hh with hh | ⟨hh, hh'⟩
    all_goals
      go_enter Try.func89, Try.ntmps89
      go_wp2_with fail
      exact bodyPost_ret (v := .tuple #[.agg #[.int .i64 0, .int .i64 0, .int .i64 0, .int .i64 0, .bool false, .bool false], .int .i64 2]) (by simp [results, Try.results89, go_sem]) rfl ⟨rfl, by (repeat' (first | (with_reducible exact Below.refl _ _) | (with_reducible assumption) | (with_reducible refine below_drewN ?_ _) | (with_reducible refine Below.drew ?_) | (with_reducible refine Below.alloc ?_ ?_ _) | (with_reducible refine Below.setCell ?_ ?_ _) | (with_reducible refine below_via (by assumption) ?_ ?_) | go_size))⟩
end Go.Proofs.Ytpebepjfgnoaaaa
