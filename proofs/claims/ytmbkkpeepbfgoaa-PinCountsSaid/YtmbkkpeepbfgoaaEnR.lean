/- The walks of the reference of entry. -/
import Derived.LoopTactic
import Derived.Test.YtmbkkpeepbfgoaaEnN
namespace Go.Proofs.Ytmbkkpeepbfgoaa
set_option linter.unusedVariables false
set_option linter.unusedSimpArgs false
open Go.RowKit
set_option maxHeartbeats 400000 in
theorem ref02_bit (b : Bool) (w : World) : Calls Try.prog 62 #[.bool b] w fun e w' => e = .returned (.int .i64 (bI b)) ∧ w = w' := by
  cases b
  all_goals
    go_enter Try.func62, Try.ntmps62
    go_wp2
    go_ret
    exact ⟨rfl, rfl⟩
set_option maxHeartbeats 4000000 in
theorem ref02_May (o g p u : Int) (l a : Bool) (w : World) : Calls Try.prog 61 #[.agg #[.int .i64 o, .int .i64 g, .int .i64 p, .int .i64 u, .bool l, .bool a]] w fun e w' => e = .returned (.bool (eMay o g p u l a)) ∧ Below w.heap.size w w' := by
  by_cases h0 : o < 0
  · have e := Lib.hid (show eMay o g p u l a = false by unfold eMay; rw [decide_eq_false_iff_not]; omega)
    go_enter Try.func61, Try.ntmps61
    go_wp2_with fail
    go_ret
    exact ⟨by rw [e.out]; (first | rfl | (apply retb; first | rfl | (simp; done) | (simp; omega))), by (repeat' (first | (with_reducible exact Below.refl _ _) | (with_reducible assumption) | (with_reducible refine below_drewN ?_ _) | (with_reducible refine Below.drew ?_) | (with_reducible refine Below.alloc ?_ ?_ _) | (with_reducible refine Below.setCell ?_ ?_ _) | (with_reducible refine below_via (by assumption) ?_ ?_) | go_size))⟩
  by_cases h1 : 4096 < o
  · have e := Lib.hid (show eMay o g p u l a = false by unfold eMay; rw [decide_eq_false_iff_not]; omega)
    go_enter Try.func61, Try.ntmps61
    go_wp2_with fail
    go_ret
    exact ⟨by rw [e.out]; (first | rfl | (apply retb; first | rfl | (simp; done) | (simp; omega))), by (repeat' (first | (with_reducible exact Below.refl _ _) | (with_reducible assumption) | (with_reducible refine below_drewN ?_ _) | (with_reducible refine Below.drew ?_) | (with_reducible refine Below.alloc ?_ ?_ _) | (with_reducible refine Below.setCell ?_ ?_ _) | (with_reducible refine below_via (by assumption) ?_ ?_) | go_size))⟩
  by_cases h2 : g < 0
  · have e := Lib.hid (show eMay o g p u l a = false by unfold eMay; rw [decide_eq_false_iff_not]; omega)
    go_enter Try.func61, Try.ntmps61
    go_wp2_with fail
    go_ret
    exact ⟨by rw [e.out]; (first | rfl | (apply retb; first | rfl | (simp; done) | (simp; omega))), by (repeat' (first | (with_reducible exact Below.refl _ _) | (with_reducible assumption) | (with_reducible refine below_drewN ?_ _) | (with_reducible refine Below.drew ?_) | (with_reducible refine Below.alloc ?_ ?_ _) | (with_reducible refine Below.setCell ?_ ?_ _) | (with_reducible refine below_via (by assumption) ?_ ?_) | go_size))⟩
  by_cases h3 : 1000 < g
  · have e := Lib.hid (show eMay o g p u l a = false by unfold eMay; rw [decide_eq_false_iff_not]; omega)
    go_enter Try.func61, Try.ntmps61
    go_wp2_with fail
    go_ret
    exact ⟨by rw [e.out]; (first | rfl | (apply retb; first | rfl | (simp; done) | (simp; omega))), by (repeat' (first | (with_reducible exact Below.refl _ _) | (with_reducible assumption) | (with_reducible refine below_drewN ?_ _) | (with_reducible refine Below.drew ?_) | (with_reducible refine Below.alloc ?_ ?_ _) | (with_reducible refine Below.setCell ?_ ?_ _) | (with_reducible refine below_via (by assumption) ?_ ?_) | go_size))⟩
  by_cases h4 : p < 0
  · have e := Lib.hid (show eMay o g p u l a = false by unfold eMay; rw [decide_eq_false_iff_not]; omega)
    go_enter Try.func61, Try.ntmps61
    go_wp2_with fail
    go_ret
    exact ⟨by rw [e.out]; (first | rfl | (apply retb; first | rfl | (simp; done) | (simp; omega))), by (repeat' (first | (with_reducible exact Below.refl _ _) | (with_reducible assumption) | (with_reducible refine below_drewN ?_ _) | (with_reducible refine Below.drew ?_) | (with_reducible refine Below.alloc ?_ ?_ _) | (with_reducible refine Below.setCell ?_ ?_ _) | (with_reducible refine below_via (by assumption) ?_ ?_) | go_size))⟩
  by_cases h5 : 7 < p
  · have e := Lib.hid (show eMay o g p u l a = false by unfold eMay; rw [decide_eq_false_iff_not]; omega)
    go_enter Try.func61, Try.ntmps61
    go_wp2_with fail
    go_ret
    exact ⟨by rw [e.out]; (first | rfl | (apply retb; first | rfl | (simp; done) | (simp; omega))), by (repeat' (first | (with_reducible exact Below.refl _ _) | (with_reducible assumption) | (with_reducible refine below_drewN ?_ _) | (with_reducible refine Below.drew ?_) | (with_reducible refine Below.alloc ?_ ?_ _) | (with_reducible refine Below.setCell ?_ ?_ _) | (with_reducible refine below_via (by assumption) ?_ ?_) | go_size))⟩
  by_cases h6 : u < 0
  · have e := Lib.hid (show eMay o g p u l a = false by unfold eMay; rw [decide_eq_false_iff_not]; omega)
    go_enter Try.func61, Try.ntmps61
    go_wp2_with fail
    go_ret
    exact ⟨by rw [e.out]; (first | rfl | (apply retb; first | rfl | (simp; done) | (simp; omega))), by (repeat' (first | (with_reducible exact Below.refl _ _) | (with_reducible assumption) | (with_reducible refine below_drewN ?_ _) | (with_reducible refine Below.drew ?_) | (with_reducible refine Below.alloc ?_ ?_ _) | (with_reducible refine Below.setCell ?_ ?_ _) | (with_reducible refine below_via (by assumption) ?_ ?_) | go_size))⟩
  by_cases h7 : 15 < u
  · have e := Lib.hid (show eMay o g p u l a = false by unfold eMay; rw [decide_eq_false_iff_not]; omega)
    go_enter Try.func61, Try.ntmps61
    go_wp2_with fail
    go_ret
    exact ⟨by rw [e.out]; (first | rfl | (apply retb; first | rfl | (simp; done) | (simp; omega))), by (repeat' (first | (with_reducible exact Below.refl _ _) | (with_reducible assumption) | (with_reducible refine below_drewN ?_ _) | (with_reducible refine Below.drew ?_) | (with_reducible refine Below.alloc ?_ ?_ _) | (with_reducible refine Below.setCell ?_ ?_ _) | (with_reducible refine below_via (by assumption) ?_ ?_) | go_size))⟩
  have m0 : 0 ≤ o ∧ o ≤ 4096 ∧ 0 ≤ g ∧ g ≤ 1000 ∧ 0 ≤ p ∧ p ≤ 7 ∧ 0 ≤ u ∧ u ≤ 15 := by omega
  have m := Lib.hid m0
  clear m0
  cases a
  · by_cases no : o = 0
    rotate_left
    · have bo : (o != 0) = true := by simpa using no
      clear no
      have e := Lib.hid (show eMay o g p u l false = false by unfold eMay; rw [decide_eq_false_iff_not]; rintro ⟨-, -, -, -, -, -, -, -, k1, k2⟩; rcases k2 with k2 | k2; exact absurd k2 (by decide); obtain ⟨j1, j2, j3, -⟩ := k2; simp_all)
      go_enter Try.func61, Try.ntmps61
      go_wp2_with fail
      go_ret
      exact ⟨by rw [e.out]; (first | rfl | (apply retb; first | rfl | (simp; done) | (simp; omega))), by (repeat' (first | (with_reducible exact Below.refl _ _) | (with_reducible assumption) | (with_reducible refine below_drewN ?_ _) | (with_reducible refine Below.drew ?_) | (with_reducible refine Below.alloc ?_ ?_ _) | (with_reducible refine Below.setCell ?_ ?_ _) | (with_reducible refine below_via (by assumption) ?_ ?_) | go_size))⟩
    have bo : (o != 0) = false := by simpa using no
    by_cases np : p = 0
    rotate_left
    · have bp : (p != 0) = true := by simpa using np
      clear np
      have e := Lib.hid (show eMay o g p u l false = false by unfold eMay; rw [decide_eq_false_iff_not]; rintro ⟨-, -, -, -, -, -, -, -, k1, k2⟩; rcases k2 with k2 | k2; exact absurd k2 (by decide); obtain ⟨j1, j2, j3, -⟩ := k2; simp_all)
      clear no
      go_enter Try.func61, Try.ntmps61
      go_wp2_with fail
      go_ret
      exact ⟨by rw [e.out]; (first | rfl | (apply retb; first | rfl | (simp; done) | (simp; omega))), by (repeat' (first | (with_reducible exact Below.refl _ _) | (with_reducible assumption) | (with_reducible refine below_drewN ?_ _) | (with_reducible refine Below.drew ?_) | (with_reducible refine Below.alloc ?_ ?_ _) | (with_reducible refine Below.setCell ?_ ?_ _) | (with_reducible refine below_via (by assumption) ?_ ?_) | go_size))⟩
    have bp : (p != 0) = false := by simpa using np
    by_cases nu : u = 0
    rotate_left
    · have bu : (u != 0) = true := by simpa using nu
      clear nu
      have e := Lib.hid (show eMay o g p u l false = false by unfold eMay; rw [decide_eq_false_iff_not]; rintro ⟨-, -, -, -, -, -, -, -, k1, k2⟩; rcases k2 with k2 | k2; exact absurd k2 (by decide); obtain ⟨j1, j2, j3, -⟩ := k2; simp_all)
      clear no np
      go_enter Try.func61, Try.ntmps61
      go_wp2_with fail
      go_ret
      exact ⟨by rw [e.out]; (first | rfl | (apply retb; first | rfl | (simp; done) | (simp; omega))), by (repeat' (first | (with_reducible exact Below.refl _ _) | (with_reducible assumption) | (with_reducible refine below_drewN ?_ _) | (with_reducible refine Below.drew ?_) | (with_reducible refine Below.alloc ?_ ?_ _) | (with_reducible refine Below.setCell ?_ ?_ _) | (with_reducible refine below_via (by assumption) ?_ ?_) | go_size))⟩
    have bu : (u != 0) = false := by simpa using nu
    cases l
    · have e := Lib.hid (show eMay o g p u false false = true by unfold eMay; rw [decide_eq_true_eq]; have m := m.out; exact ⟨m.1, m.2.1, m.2.2.1, m.2.2.2.1, m.2.2.2.2.1, m.2.2.2.2.2.1, m.2.2.2.2.2.2.1, m.2.2.2.2.2.2.2, fun k => absurd k (by decide), Or.inr ⟨no, np, nu, rfl⟩⟩)
      clear no np nu
      go_enter Try.func61, Try.ntmps61
      go_wp2_with fail
      go_ret
      exact ⟨by rw [e.out]; (first | rfl | (apply retb; first | rfl | (simp; done) | (simp; omega))), by (repeat' (first | (with_reducible exact Below.refl _ _) | (with_reducible assumption) | (with_reducible refine below_drewN ?_ _) | (with_reducible refine Below.drew ?_) | (with_reducible refine Below.alloc ?_ ?_ _) | (with_reducible refine Below.setCell ?_ ?_ _) | (with_reducible refine below_via (by assumption) ?_ ?_) | go_size))⟩
    · have e := Lib.hid (show eMay o g p u true false = false by unfold eMay; rw [decide_eq_false_iff_not]; rintro ⟨-, -, -, -, -, -, -, -, k1, k2⟩; rcases k2 with k2 | k2; exact absurd k2 (by decide); exact absurd k2.2.2.2 (by decide))
      clear no np nu
      go_enter Try.func61, Try.ntmps61
      go_wp2_with fail
      go_ret
      exact ⟨by rw [e.out]; (first | rfl | (apply retb; first | rfl | (simp; done) | (simp; omega))), by (repeat' (first | (with_reducible exact Below.refl _ _) | (with_reducible assumption) | (with_reducible refine below_drewN ?_ _) | (with_reducible refine Below.drew ?_) | (with_reducible refine Below.alloc ?_ ?_ _) | (with_reducible refine Below.setCell ?_ ?_ _) | (with_reducible refine below_via (by assumption) ?_ ?_) | go_size))⟩
  · cases l
    · have e := Lib.hid (show eMay o g p u false true = true by unfold eMay; rw [decide_eq_true_eq]; have m := m.out; exact ⟨m.1, m.2.1, m.2.2.1, m.2.2.2.1, m.2.2.2.2.1, m.2.2.2.2.2.1, m.2.2.2.2.2.2.1, m.2.2.2.2.2.2.2, fun k => absurd k (by decide), Or.inl rfl⟩)
      go_enter Try.func61, Try.ntmps61
      go_wp2_with fail
      go_ret
      exact ⟨by rw [e.out]; (first | rfl | (apply retb; first | rfl | (simp; done) | (simp; omega))), by (repeat' (first | (with_reducible exact Below.refl _ _) | (with_reducible assumption) | (with_reducible refine below_drewN ?_ _) | (with_reducible refine Below.drew ?_) | (with_reducible refine Below.alloc ?_ ?_ _) | (with_reducible refine Below.setCell ?_ ?_ _) | (with_reducible refine below_via (by assumption) ?_ ?_) | go_size))⟩
    · by_cases np : p = 0
      · by_cases nu : u = 0
        · have bp : (p == 0) = true := by simpa using np
          have bu : (u == 0) = true := by simpa using nu
          have e := Lib.hid (show eMay o g p u true true = true by unfold eMay; rw [decide_eq_true_eq]; have m := m.out; exact ⟨m.1, m.2.1, m.2.2.1, m.2.2.2.1, m.2.2.2.2.1, m.2.2.2.2.2.1, m.2.2.2.2.2.2.1, m.2.2.2.2.2.2.2, fun _ => by omega, Or.inl rfl⟩)
          clear np nu
          go_enter Try.func61, Try.ntmps61
          go_wp2_with fail
          go_ret
          exact ⟨by rw [e.out]; (first | rfl | (apply retb; first | rfl | (simp; done) | (simp; omega))), by (repeat' (first | (with_reducible exact Below.refl _ _) | (with_reducible assumption) | (with_reducible refine below_drewN ?_ _) | (with_reducible refine Below.drew ?_) | (with_reducible refine Below.alloc ?_ ?_ _) | (with_reducible refine Below.setCell ?_ ?_ _) | (with_reducible refine below_via (by assumption) ?_ ?_) | go_size))⟩
        · have bp : (p == 0) = true := by simpa using np
          have bu : (u == 0) = false := by simpa using nu
          have e := Lib.hid (show eMay o g p u true true = false by unfold eMay; have m := m.out; rw [decide_eq_false_iff_not]; rintro ⟨-, -, -, -, -, -, -, -, k1, k2⟩; have := k1 rfl; omega)
          clear np nu
          go_enter Try.func61, Try.ntmps61
          go_wp2_with fail
          go_ret
          exact ⟨by rw [e.out]; (first | rfl | (apply retb; first | rfl | (simp; done) | (simp; omega))), by (repeat' (first | (with_reducible exact Below.refl _ _) | (with_reducible assumption) | (with_reducible refine below_drewN ?_ _) | (with_reducible refine Below.drew ?_) | (with_reducible refine Below.alloc ?_ ?_ _) | (with_reducible refine Below.setCell ?_ ?_ _) | (with_reducible refine below_via (by assumption) ?_ ?_) | go_size))⟩
      · have bp : (p == 0) = false := by simpa using np
        have e := Lib.hid (show eMay o g p u true true = false by unfold eMay; have m := m.out; rw [decide_eq_false_iff_not]; rintro ⟨-, -, -, -, -, -, -, -, k1, k2⟩; have := k1 rfl; omega)
        clear np
        go_enter Try.func61, Try.ntmps61
        go_wp2_with fail
        go_ret
        exact ⟨by rw [e.out]; (first | rfl | (apply retb; first | rfl | (simp; done) | (simp; omega))), by (repeat' (first | (with_reducible exact Below.refl _ _) | (with_reducible assumption) | (with_reducible refine below_drewN ?_ _) | (with_reducible refine Below.drew ?_) | (with_reducible refine Below.alloc ?_ ?_ _) | (with_reducible refine Below.setCell ?_ ?_ _) | (with_reducible refine below_via (by assumption) ?_ ?_) | go_size))⟩
end Go.Proofs.Ytmbkkpeepbfgoaa
