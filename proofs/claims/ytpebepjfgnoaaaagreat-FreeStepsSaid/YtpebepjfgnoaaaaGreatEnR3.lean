/- The walks of the reference of entry. -/
import Derived.LoopTactic
import Derived.Deep.RegionHeld3
import Derived.RegionTactic
import Derived.BigRegion
import Derived.Test.YtpebepjfgnoaaaaGreatEnX
import Derived.Test.YtpebepjfgnoaaaaGreatBase
namespace Go.Proofs.YtpebepjfgnoaaaaGreat
set_option linter.unusedVariables false
set_option linter.unusedSimpArgs false
open Go.RowKit
set_option maxHeartbeats 400000 in
theorem ref02_bit (b : Bool) (w : World) : Calls Tryz.prog 111 #[.bool b] w fun e w' => e = .returned (.int .i64 (bI b)) ∧ w = w' := by
  cases b
  all_goals
    go_enter Tryz.func111, Tryz.ntmps111
    go_wp2
    go_ret
    exact ⟨rfl, rfl⟩
set_option maxHeartbeats 4000000 in
theorem ref02_May (o g p u : Int) (l a : Bool) (w : World) : Calls Tryz.prog 110 #[.agg #[.int .i64 o, .int .i64 g, .int .i64 p, .int .i64 u, .bool l, .bool a]] w fun e w' => e = .returned (.bool (eMay o g p u l a)) ∧ Below w.heap.size w w' := by
  by_cases h0 : o < 0
  · have e := Lib.hid (show eMay o g p u l a = false by unfold eMay; rw [decide_eq_false_iff_not]; omega)
    go_enter Tryz.func110, Tryz.ntmps110
    go_wp2_with fail
    go_ret
    exact ⟨by rw [e.out]; (first | rfl | (apply retb; first | rfl | (simp; done) | (simp; omega))), by (repeat' (first | (with_reducible exact Below.refl _ _) | (with_reducible assumption) | (with_reducible refine below_drewN ?_ _) | (with_reducible refine Below.drew ?_) | (with_reducible refine Below.alloc ?_ ?_ _) | (with_reducible refine Below.setCell ?_ ?_ _) | (with_reducible refine below_via (by assumption) ?_ ?_) | go_size))⟩
  by_cases h1 : 4096 < o
  · have e := Lib.hid (show eMay o g p u l a = false by unfold eMay; rw [decide_eq_false_iff_not]; omega)
    go_enter Tryz.func110, Tryz.ntmps110
    go_wp2_with fail
    go_ret
    exact ⟨by rw [e.out]; (first | rfl | (apply retb; first | rfl | (simp; done) | (simp; omega))), by (repeat' (first | (with_reducible exact Below.refl _ _) | (with_reducible assumption) | (with_reducible refine below_drewN ?_ _) | (with_reducible refine Below.drew ?_) | (with_reducible refine Below.alloc ?_ ?_ _) | (with_reducible refine Below.setCell ?_ ?_ _) | (with_reducible refine below_via (by assumption) ?_ ?_) | go_size))⟩
  by_cases h2 : g < 0
  · have e := Lib.hid (show eMay o g p u l a = false by unfold eMay; rw [decide_eq_false_iff_not]; omega)
    go_enter Tryz.func110, Tryz.ntmps110
    go_wp2_with fail
    go_ret
    exact ⟨by rw [e.out]; (first | rfl | (apply retb; first | rfl | (simp; done) | (simp; omega))), by (repeat' (first | (with_reducible exact Below.refl _ _) | (with_reducible assumption) | (with_reducible refine below_drewN ?_ _) | (with_reducible refine Below.drew ?_) | (with_reducible refine Below.alloc ?_ ?_ _) | (with_reducible refine Below.setCell ?_ ?_ _) | (with_reducible refine below_via (by assumption) ?_ ?_) | go_size))⟩
  by_cases h3 : 1000 < g
  · have e := Lib.hid (show eMay o g p u l a = false by unfold eMay; rw [decide_eq_false_iff_not]; omega)
    go_enter Tryz.func110, Tryz.ntmps110
    go_wp2_with fail
    go_ret
    exact ⟨by rw [e.out]; (first | rfl | (apply retb; first | rfl | (simp; done) | (simp; omega))), by (repeat' (first | (with_reducible exact Below.refl _ _) | (with_reducible assumption) | (with_reducible refine below_drewN ?_ _) | (with_reducible refine Below.drew ?_) | (with_reducible refine Below.alloc ?_ ?_ _) | (with_reducible refine Below.setCell ?_ ?_ _) | (with_reducible refine below_via (by assumption) ?_ ?_) | go_size))⟩
  by_cases h4 : p < 0
  · have e := Lib.hid (show eMay o g p u l a = false by unfold eMay; rw [decide_eq_false_iff_not]; omega)
    go_enter Tryz.func110, Tryz.ntmps110
    go_wp2_with fail
    go_ret
    exact ⟨by rw [e.out]; (first | rfl | (apply retb; first | rfl | (simp; done) | (simp; omega))), by (repeat' (first | (with_reducible exact Below.refl _ _) | (with_reducible assumption) | (with_reducible refine below_drewN ?_ _) | (with_reducible refine Below.drew ?_) | (with_reducible refine Below.alloc ?_ ?_ _) | (with_reducible refine Below.setCell ?_ ?_ _) | (with_reducible refine below_via (by assumption) ?_ ?_) | go_size))⟩
  by_cases h5 : 7 < p
  · have e := Lib.hid (show eMay o g p u l a = false by unfold eMay; rw [decide_eq_false_iff_not]; omega)
    go_enter Tryz.func110, Tryz.ntmps110
    go_wp2_with fail
    go_ret
    exact ⟨by rw [e.out]; (first | rfl | (apply retb; first | rfl | (simp; done) | (simp; omega))), by (repeat' (first | (with_reducible exact Below.refl _ _) | (with_reducible assumption) | (with_reducible refine below_drewN ?_ _) | (with_reducible refine Below.drew ?_) | (with_reducible refine Below.alloc ?_ ?_ _) | (with_reducible refine Below.setCell ?_ ?_ _) | (with_reducible refine below_via (by assumption) ?_ ?_) | go_size))⟩
  by_cases h6 : u < 0
  · have e := Lib.hid (show eMay o g p u l a = false by unfold eMay; rw [decide_eq_false_iff_not]; omega)
    go_enter Tryz.func110, Tryz.ntmps110
    go_wp2_with fail
    go_ret
    exact ⟨by rw [e.out]; (first | rfl | (apply retb; first | rfl | (simp; done) | (simp; omega))), by (repeat' (first | (with_reducible exact Below.refl _ _) | (with_reducible assumption) | (with_reducible refine below_drewN ?_ _) | (with_reducible refine Below.drew ?_) | (with_reducible refine Below.alloc ?_ ?_ _) | (with_reducible refine Below.setCell ?_ ?_ _) | (with_reducible refine below_via (by assumption) ?_ ?_) | go_size))⟩
  by_cases h7 : 15 < u
  · have e := Lib.hid (show eMay o g p u l a = false by unfold eMay; rw [decide_eq_false_iff_not]; omega)
    go_enter Tryz.func110, Tryz.ntmps110
    go_wp2_with fail
    go_ret
    exact ⟨by rw [e.out]; (first | rfl | (apply retb; first | rfl | (simp; done) | (simp; omega))), by (repeat' (first | (with_reducible exact Below.refl _ _) | (with_reducible assumption) | (with_reducible refine below_drewN ?_ _) | (with_reducible refine Below.drew ?_) | (with_reducible refine Below.alloc ?_ ?_ _) | (with_reducible refine Below.setCell ?_ ?_ _) | (with_reducible refine below_via (by assumption) ?_ ?_) | go_size))⟩
  have m0 : 0 ≤ o ∧ o ≤ 4096 ∧ 0 ≤ g ∧ g ≤ 1000 ∧ 0 ≤ p ∧ p ≤ 7 ∧ 0 ≤ u ∧ u ≤ 15 := by omega
  have m := Lib.hid m0
  clear m0
  cases a
  · by_cases no : o = 0
    rotate_left
    · have bo : (o != 0) = true := by simpa using no
      clear no
      have e := Lib.hid (show eMay o g p u l false = false by unfold eMay; rw [decide_eq_false_iff_not]; rintro ⟨-, -, -, -, -, -, -, -, k1, k2⟩; rcases k2 with k2 | k2; exact absurd k2 (by decide); obtain ⟨j1, j2, j3, -⟩ := k2; simp_all)
      go_enter Tryz.func110, Tryz.ntmps110
      go_wp2_with fail
      go_ret
      exact ⟨by rw [e.out]; (first | rfl | (apply retb; first | rfl | (simp; done) | (simp; omega))), by (repeat' (first | (with_reducible exact Below.refl _ _) | (with_reducible assumption) | (with_reducible refine below_drewN ?_ _) | (with_reducible refine Below.drew ?_) | (with_reducible refine Below.alloc ?_ ?_ _) | (with_reducible refine Below.setCell ?_ ?_ _) | (with_reducible refine below_via (by assumption) ?_ ?_) | go_size))⟩
    have bo : (o != 0) = false := by simpa using no
    by_cases np : p = 0
    rotate_left
    · have bp : (p != 0) = true := by simpa using np
      clear np
      have e := Lib.hid (show eMay o g p u l false = false by unfold eMay; rw [decide_eq_false_iff_not]; rintro ⟨-, -, -, -, -, -, -, -, k1, k2⟩; rcases k2 with k2 | k2; exact absurd k2 (by decide); obtain ⟨j1, j2, j3, -⟩ := k2; simp_all)
      clear no
      go_enter Tryz.func110, Tryz.ntmps110
      go_wp2_with fail
      go_ret
      exact ⟨by rw [e.out]; (first | rfl | (apply retb; first | rfl | (simp; done) | (simp; omega))), by (repeat' (first | (with_reducible exact Below.refl _ _) | (with_reducible assumption) | (with_reducible refine below_drewN ?_ _) | (with_reducible refine Below.drew ?_) | (with_reducible refine Below.alloc ?_ ?_ _) | (with_reducible refine Below.setCell ?_ ?_ _) | (with_reducible refine below_via (by assumption) ?_ ?_) | go_size))⟩
    have bp : (p != 0) = false := by simpa using np
    by_cases nu : u = 0
    rotate_left
    · have bu : (u != 0) = true := by simpa using nu
      clear nu
      have e := Lib.hid (show eMay o g p u l false = false by unfold eMay; rw [decide_eq_false_iff_not]; rintro ⟨-, -, -, -, -, -, -, -, k1, k2⟩; rcases k2 with k2 | k2; exact absurd k2 (by decide); obtain ⟨j1, j2, j3, -⟩ := k2; simp_all)
      clear no np
      go_enter Tryz.func110, Tryz.ntmps110
      go_wp2_with fail
      go_ret
      exact ⟨by rw [e.out]; (first | rfl | (apply retb; first | rfl | (simp; done) | (simp; omega))), by (repeat' (first | (with_reducible exact Below.refl _ _) | (with_reducible assumption) | (with_reducible refine below_drewN ?_ _) | (with_reducible refine Below.drew ?_) | (with_reducible refine Below.alloc ?_ ?_ _) | (with_reducible refine Below.setCell ?_ ?_ _) | (with_reducible refine below_via (by assumption) ?_ ?_) | go_size))⟩
    have bu : (u != 0) = false := by simpa using nu
    cases l
    · have e := Lib.hid (show eMay o g p u false false = true by unfold eMay; rw [decide_eq_true_eq]; have m := m.out; exact ⟨m.1, m.2.1, m.2.2.1, m.2.2.2.1, m.2.2.2.2.1, m.2.2.2.2.2.1, m.2.2.2.2.2.2.1, m.2.2.2.2.2.2.2, fun k => absurd k (by decide), Or.inr ⟨no, np, nu, rfl⟩⟩)
      clear no np nu
      go_enter Tryz.func110, Tryz.ntmps110
      go_wp2_with fail
      go_ret
      exact ⟨by rw [e.out]; (first | rfl | (apply retb; first | rfl | (simp; done) | (simp; omega))), by (repeat' (first | (with_reducible exact Below.refl _ _) | (with_reducible assumption) | (with_reducible refine below_drewN ?_ _) | (with_reducible refine Below.drew ?_) | (with_reducible refine Below.alloc ?_ ?_ _) | (with_reducible refine Below.setCell ?_ ?_ _) | (with_reducible refine below_via (by assumption) ?_ ?_) | go_size))⟩
    · have e := Lib.hid (show eMay o g p u true false = false by unfold eMay; rw [decide_eq_false_iff_not]; rintro ⟨-, -, -, -, -, -, -, -, k1, k2⟩; rcases k2 with k2 | k2; exact absurd k2 (by decide); exact absurd k2.2.2.2 (by decide))
      clear no np nu
      go_enter Tryz.func110, Tryz.ntmps110
      go_wp2_with fail
      go_ret
      exact ⟨by rw [e.out]; (first | rfl | (apply retb; first | rfl | (simp; done) | (simp; omega))), by (repeat' (first | (with_reducible exact Below.refl _ _) | (with_reducible assumption) | (with_reducible refine below_drewN ?_ _) | (with_reducible refine Below.drew ?_) | (with_reducible refine Below.alloc ?_ ?_ _) | (with_reducible refine Below.setCell ?_ ?_ _) | (with_reducible refine below_via (by assumption) ?_ ?_) | go_size))⟩
  · cases l
    · have e := Lib.hid (show eMay o g p u false true = true by unfold eMay; rw [decide_eq_true_eq]; have m := m.out; exact ⟨m.1, m.2.1, m.2.2.1, m.2.2.2.1, m.2.2.2.2.1, m.2.2.2.2.2.1, m.2.2.2.2.2.2.1, m.2.2.2.2.2.2.2, fun k => absurd k (by decide), Or.inl rfl⟩)
      go_enter Tryz.func110, Tryz.ntmps110
      go_wp2_with fail
      go_ret
      exact ⟨by rw [e.out]; (first | rfl | (apply retb; first | rfl | (simp; done) | (simp; omega))), by (repeat' (first | (with_reducible exact Below.refl _ _) | (with_reducible assumption) | (with_reducible refine below_drewN ?_ _) | (with_reducible refine Below.drew ?_) | (with_reducible refine Below.alloc ?_ ?_ _) | (with_reducible refine Below.setCell ?_ ?_ _) | (with_reducible refine below_via (by assumption) ?_ ?_) | go_size))⟩
    · by_cases np : p = 0
      · by_cases nu : u = 0
        · have bp : (p == 0) = true := by simpa using np
          have bu : (u == 0) = true := by simpa using nu
          have e := Lib.hid (show eMay o g p u true true = true by unfold eMay; rw [decide_eq_true_eq]; have m := m.out; exact ⟨m.1, m.2.1, m.2.2.1, m.2.2.2.1, m.2.2.2.2.1, m.2.2.2.2.2.1, m.2.2.2.2.2.2.1, m.2.2.2.2.2.2.2, fun _ => by omega, Or.inl rfl⟩)
          clear np nu
          go_enter Tryz.func110, Tryz.ntmps110
          go_wp2_with fail
          go_ret
          exact ⟨by rw [e.out]; (first | rfl | (apply retb; first | rfl | (simp; done) | (simp; omega))), by (repeat' (first | (with_reducible exact Below.refl _ _) | (with_reducible assumption) | (with_reducible refine below_drewN ?_ _) | (with_reducible refine Below.drew ?_) | (with_reducible refine Below.alloc ?_ ?_ _) | (with_reducible refine Below.setCell ?_ ?_ _) | (with_reducible refine below_via (by assumption) ?_ ?_) | go_size))⟩
        · have bp : (p == 0) = true := by simpa using np
          have bu : (u == 0) = false := by simpa using nu
          have e := Lib.hid (show eMay o g p u true true = false by unfold eMay; have m := m.out; rw [decide_eq_false_iff_not]; rintro ⟨-, -, -, -, -, -, -, -, k1, k2⟩; have := k1 rfl; omega)
          clear np nu
          go_enter Tryz.func110, Tryz.ntmps110
          go_wp2_with fail
          go_ret
          exact ⟨by rw [e.out]; (first | rfl | (apply retb; first | rfl | (simp; done) | (simp; omega))), by (repeat' (first | (with_reducible exact Below.refl _ _) | (with_reducible assumption) | (with_reducible refine below_drewN ?_ _) | (with_reducible refine Below.drew ?_) | (with_reducible refine Below.alloc ?_ ?_ _) | (with_reducible refine Below.setCell ?_ ?_ _) | (with_reducible refine below_via (by assumption) ?_ ?_) | go_size))⟩
      · have bp : (p == 0) = false := by simpa using np
        have e := Lib.hid (show eMay o g p u true true = false by unfold eMay; have m := m.out; rw [decide_eq_false_iff_not]; rintro ⟨-, -, -, -, -, -, -, -, k1, k2⟩; have := k1 rfl; omega)
        clear np
        go_enter Tryz.func110, Tryz.ntmps110
        go_wp2_with fail
        go_ret
        exact ⟨by rw [e.out]; (first | rfl | (apply retb; first | rfl | (simp; done) | (simp; omega))), by (repeat' (first | (with_reducible exact Below.refl _ _) | (with_reducible assumption) | (with_reducible refine below_drewN ?_ _) | (with_reducible refine Below.drew ?_) | (with_reducible refine Below.alloc ?_ ?_ _) | (with_reducible refine Below.setCell ?_ ?_ _) | (with_reducible refine below_via (by assumption) ?_ ?_) | go_size))⟩
end Go.Proofs.YtpebepjfgnoaaaaGreat
namespace Go.Proofs.YtpebepjfgnoaaaaGreat
set_option linter.unusedVariables false
set_option linter.unusedSimpArgs false
open Go.RowKit
theorem keep6 {W w1 w' : World} {v0 v1 v2 v3 v4 v5 : Value} (h : w1.cell? ⟨W.heap.size, 0, none⟩ = some v0 ∧ w1.cell? ⟨W.heap.size, 1, none⟩ = some v1 ∧ w1.cell? ⟨W.heap.size, 2, none⟩ = some v2 ∧ w1.cell? ⟨W.heap.size, 3, none⟩ = some v3 ∧ w1.cell? ⟨W.heap.size, 4, none⟩ = some v4 ∧ w1.cell? ⟨W.heap.size, 5, none⟩ = some v5 ∧ W.heap.size < w1.heap.size ∧ Below W.heap.size W w1) (hb : Below w1.heap.size w1 w') :
    w'.cell? ⟨W.heap.size, 0, none⟩ = some v0 ∧ w'.cell? ⟨W.heap.size, 1, none⟩ = some v1 ∧ w'.cell? ⟨W.heap.size, 2, none⟩ = some v2 ∧ w'.cell? ⟨W.heap.size, 3, none⟩ = some v3 ∧ w'.cell? ⟨W.heap.size, 4, none⟩ = some v4 ∧ w'.cell? ⟨W.heap.size, 5, none⟩ = some v5 ∧ W.heap.size < w'.heap.size ∧ Below W.heap.size W w' := by
  obtain ⟨h0, h1, h2, h3, h4, h5, s0, hw⟩ := h
  exact ⟨(hb.cell s0).trans h0, (hb.cell s0).trans h1, (hb.cell s0).trans h2, (hb.cell s0).trans h3, (hb.cell s0).trans h4, (hb.cell s0).trans h5, Nat.lt_of_lt_of_le s0 hb.size, hw.trans (hb.mono (Nat.le_of_lt s0))⟩
theorem below_of8 {a b c d e f g : Prop} {B : Nat} {W w' : World} (h : a ∧ b ∧ c ∧ d ∧ e ∧ f ∧ g ∧ Below B W w') : Below B W w' := h.2.2.2.2.2.2.2
theorem pack_wraps {o g p u : Int} {l a : Bool} (h : 0 ≤ o ∧ o ≤ 4096 ∧ 0 ≤ g ∧ g ≤ 1000 ∧ 0 ≤ p ∧ p ≤ 7 ∧ 0 ≤ u ∧ u ≤ 15) :
    IntKind.i64.wrap (IntKind.i64.wrap (IntKind.i64.wrap (IntKind.i64.wrap (IntKind.i64.wrap (o + IntKind.i64.wrap (g * 1048576)) + IntKind.i64.wrap (p * 1099511627776)) + IntKind.i64.wrap (u * 17592186044416)) + IntKind.i64.wrap (bI l * 281474976710656)) + IntKind.i64.wrap (bI a * 562949953421312)) = eWord o g p u l a := by
  have hl := bI_bd l
  have ha := bI_bd a
  obtain ⟨h1, h2, h3, h4, h5, h6, h7, h8⟩ := h
  rw [i64any' (g * 1048576) (by omega) (by omega), i64any' (p * 1099511627776) (by omega) (by omega), i64any' (u * 17592186044416) (by omega) (by omega), i64any' (bI l * 281474976710656) (by omega) (by omega), i64any' (bI a * 562949953421312) (by omega) (by omega),
    i64any' (o + _) (by omega) (by omega), i64any' (o + g * 1048576 + _) (by omega) (by omega), i64any' (o + g * 1048576 + p * 1099511627776 + _) (by omega) (by omega), i64any' (o + g * 1048576 + p * 1099511627776 + u * 17592186044416 + _) (by omega) (by omega), i64any' (o + g * 1048576 + p * 1099511627776 + u * 17592186044416 + bI l * 281474976710656 + _) (by omega) (by omega)]
  unfold eWord
  omega
set_option maxHeartbeats 4000000 in
theorem ref02_Pack (o g p u : Int) (l a : Bool) (W : World) : Calls Tryz.prog 96 #[.agg #[.int .i64 o, .int .i64 g, .int .i64 p, .int .i64 u, .bool l, .bool a]] W fun e w' => e = .returned (.tuple #[.int .i64 (ePack o g p u l a).1, .int .i64 (ePack o g p u l a).2]) ∧ Below W.heap.size W w' := by
  rcases bool_cases (b := eMay o g p u l a) with h | h
  · have e := Lib.hid (show ePack o g p u l a = (eWord o g p u l a, 0) by unfold ePack; rw [if_pos h])
    have h0 := eMay_of h
    have hh := Lib.hid h0
    have M := Lib.hid h
    clear h h0
    go_enter Tryz.func96, Tryz.ntmps96
    go_wp2_with fail
    have a0 : (W.alloc (Obj.cells #[.int .i64 o, .int .i64 g, .int .i64 p, .int .i64 u, .bool l, .bool a] 114)).cell? ⟨W.heap.size, 0, none⟩ = some (.int .i64 o) := by simp
    have a1 : (W.alloc (Obj.cells #[.int .i64 o, .int .i64 g, .int .i64 p, .int .i64 u, .bool l, .bool a] 114)).cell? ⟨W.heap.size, 1, none⟩ = some (.int .i64 g) := by simp
    have a2 : (W.alloc (Obj.cells #[.int .i64 o, .int .i64 g, .int .i64 p, .int .i64 u, .bool l, .bool a] 114)).cell? ⟨W.heap.size, 2, none⟩ = some (.int .i64 p) := by simp
    have a3 : (W.alloc (Obj.cells #[.int .i64 o, .int .i64 g, .int .i64 p, .int .i64 u, .bool l, .bool a] 114)).cell? ⟨W.heap.size, 3, none⟩ = some (.int .i64 u) := by simp
    have a4 : (W.alloc (Obj.cells #[.int .i64 o, .int .i64 g, .int .i64 p, .int .i64 u, .bool l, .bool a] 114)).cell? ⟨W.heap.size, 4, none⟩ = some (.bool l) := by simp
    have a5 : (W.alloc (Obj.cells #[.int .i64 o, .int .i64 g, .int .i64 p, .int .i64 u, .bool l, .bool a] 114)).cell? ⟨W.heap.size, 5, none⟩ = some (.bool a) := by simp
    have hs : W.heap.size < (W.alloc (Obj.cells #[.int .i64 o, .int .i64 g, .int .i64 p, .int .i64 u, .bool l, .bool a] 114)).heap.size := by simp
    go_wp2_with (go_at_call 110; refine (ref02_May _ _ _ _ _ _ _).mono ?_; rw [M.out]; rintro e w' ⟨rfl, hb⟩; have a0 := (hb.cell (p := ⟨W.heap.size, 0, none⟩) hs).trans a0; have a1 := (hb.cell (p := ⟨W.heap.size, 1, none⟩) hs).trans a1; have a2 := (hb.cell (p := ⟨W.heap.size, 2, none⟩) hs).trans a2; have a3 := (hb.cell (p := ⟨W.heap.size, 3, none⟩) hs).trans a3; have a4 := (hb.cell (p := ⟨W.heap.size, 4, none⟩) hs).trans a4; have a5 := (hb.cell (p := ⟨W.heap.size, 5, none⟩) hs).trans a5; have hs := Nat.lt_of_lt_of_le hs hb.size)
    go_region_held3 (fun w1 => w1.cell? ⟨W.heap.size, 0, none⟩ = some (.int .i64 o) ∧ w1.cell? ⟨W.heap.size, 1, none⟩ = some (.int .i64 g) ∧ w1.cell? ⟨W.heap.size, 2, none⟩ = some (.int .i64 p) ∧ w1.cell? ⟨W.heap.size, 3, none⟩ = some (.int .i64 u) ∧ w1.cell? ⟨W.heap.size, 4, none⟩ = some (.bool l) ∧ w1.cell? ⟨W.heap.size, 5, none⟩ = some (.bool a) ∧ W.heap.size < w1.heap.size ∧ Below W.heap.size W w1) (first | assumption | exact keep6 (by assumption) (Below.refl _ _) | exact ⟨a0, a1, a2, a3, a4, a5, (show W.heap.size < w'.drew.heap.size by rw [World.size_drew]; exact hs), by (repeat' (first | (with_reducible exact Below.refl _ _) | (with_reducible assumption) | (with_reducible refine below_drewN ?_ _) | (with_reducible refine Below.drew ?_) | (with_reducible refine Below.alloc ?_ ?_ _) | (with_reducible refine Below.setCell ?_ ?_ _) | (with_reducible refine below_via (by assumption) ?_ ?_) | go_size))⟩) ((go_at_call 111; refine (ref02_bit _ _).mono ?_; rintro e w' ⟨rfl, rfl⟩))
    have B := below_of8 (by assumption)
    have H := hh.out
    have X := Lib.hid (pack_wraps (l := l) (a := a) ⟨H.1, H.2.1, H.2.2.1, H.2.2.2.1, H.2.2.2.2.1, H.2.2.2.2.2.1, H.2.2.2.2.2.2.1, H.2.2.2.2.2.2.2.1⟩)
    clear H
    go_wp2_with fail
    go_ret2
    exact ⟨by rw [e.out, ← X.out]; rfl, B⟩
  · have e := Lib.hid (show ePack o g p u l a = (0, 1) by unfold ePack; rw [if_neg (by rw [h]; decide)])
    have M := Lib.hid h
    clear h
    go_enter Tryz.func96, Tryz.ntmps96
    go_wp2_with (go_at_call 110; refine (ref02_May _ _ _ _ _ _ _).mono ?_; rw [M.out]; rintro e w' ⟨rfl, hb⟩; have hz := hb.size; (try simp only [World.size_alloc, World.size_drew, World.size_setCell, size_drewN] at hz))
    go_ret2
    exact ⟨by rw [e.out]; rfl, by (repeat' (first | (with_reducible exact Below.refl _ _) | (with_reducible assumption) | (with_reducible refine below_drewN ?_ _) | (with_reducible refine Below.drew ?_) | (with_reducible refine Below.alloc ?_ ?_ _) | (with_reducible refine Below.setCell ?_ ?_ _) | (with_reducible refine below_via (by assumption) ?_ ?_) | go_size))⟩
theorem frz_below' {B : Nat} {w w' : World} {p : Addr} (hb : Below B w w') (h : p.block < B) : w'.frozen? p = w.frozen? p := by simp only [World.frozen?, hb.block _ h]
set_option maxHeartbeats 4000000 in
theorem ref02_Unpack (x : Int) (W : World) : Calls Tryz.prog 94 #[.int .i64 x] W fun e w' =>
    e = .returned (.tuple #[.agg #[.int .i64 (uO x), .int .i64 (uG x), .int .i64 (uP x), .int .i64 (uU x), .bool (uL x), .bool (uA x)], .int .i64 (eOk x)]) ∧ Below W.heap.size W w' := by
  by_cases h : 0 ≤ x ∧ x < 1125899906842624
  · obtain ⟨h0, h1⟩ := h
    have hA : (x / 562949953421312 == 1) = wA x := by
      have : x / 562949953421312 % 2 = x / 562949953421312 := by omega
      unfold wA; rw [this]
    have hI : eIs x = eMay (x % 1048576) (x / 1048576 % 1048576) (x / 1099511627776 % 16) (x / 17592186044416 % 16) (x / 281474976710656 % 2 == 1) (x / 562949953421312 == 1) := by
      unfold eIs; rw [hA]; rw [decide_eq_true (show 0 ≤ x ∧ x < 1125899906842624 from ⟨h0, h1⟩)]; rfl
    rcases bool_cases (b := eMay (x % 1048576) (x / 1048576 % 1048576) (x / 1099511627776 % 16) (x / 17592186044416 % 16) (x / 281474976710656 % 2 == 1) (x / 562949953421312 == 1)) with hb0 | hb0
    · have M := Lib.hid hb0
      obtain ⟨u1, u2, u3, u4, u5, u6, u7⟩ := u_yes (hI.trans hb0)
      rw [u1, u2, u3, u4, u5, u6, u7, ← hA]
      clear u1 u2 u3 u4 u5 u6 u7 hb0 hI hA
      go_enter Tryz.func94, Tryz.ntmps94
      go_wp2_with fail
      have BB := blk_new (W.alloc (Obj.cells #[.int .i64 0, .int .i64 0, .int .i64 0, .int .i64 0, .bool false, .bool false] 114)) (Obj.cells #[.int .i64 (x % 1048576), .int .i64 (x / 1048576 % 1048576), .int .i64 (x / 1099511627776 % 16), .int .i64 (x / 17592186044416 % 16), .bool (x / 281474976710656 % 2 == 1), .bool (x / 562949953421312 == 1)] 114)
      rw [show (W.alloc (Obj.cells #[.int .i64 0, .int .i64 0, .int .i64 0, .int .i64 0, .bool false, .bool false] 114)).heap.size = W.heap.size + 1 by simp] at BB
      have a0 : ((W.alloc (Obj.cells #[.int .i64 0, .int .i64 0, .int .i64 0, .int .i64 0, .bool false, .bool false] 114)).alloc (Obj.cells #[.int .i64 (x % 1048576), .int .i64 (x / 1048576 % 1048576), .int .i64 (x / 1099511627776 % 16), .int .i64 (x / 17592186044416 % 16), .bool (x / 281474976710656 % 2 == 1), .bool (x / 562949953421312 == 1)] 114)).cell? ⟨W.heap.size + 1, 0, none⟩ = some (.int .i64 (x % 1048576)) := by rw [blk_cell BB 0]; rfl
      have a1 : ((W.alloc (Obj.cells #[.int .i64 0, .int .i64 0, .int .i64 0, .int .i64 0, .bool false, .bool false] 114)).alloc (Obj.cells #[.int .i64 (x % 1048576), .int .i64 (x / 1048576 % 1048576), .int .i64 (x / 1099511627776 % 16), .int .i64 (x / 17592186044416 % 16), .bool (x / 281474976710656 % 2 == 1), .bool (x / 562949953421312 == 1)] 114)).cell? ⟨W.heap.size + 1, 1, none⟩ = some (.int .i64 (x / 1048576 % 1048576)) := by rw [blk_cell BB 1]; rfl
      have a2 : ((W.alloc (Obj.cells #[.int .i64 0, .int .i64 0, .int .i64 0, .int .i64 0, .bool false, .bool false] 114)).alloc (Obj.cells #[.int .i64 (x % 1048576), .int .i64 (x / 1048576 % 1048576), .int .i64 (x / 1099511627776 % 16), .int .i64 (x / 17592186044416 % 16), .bool (x / 281474976710656 % 2 == 1), .bool (x / 562949953421312 == 1)] 114)).cell? ⟨W.heap.size + 1, 2, none⟩ = some (.int .i64 (x / 1099511627776 % 16)) := by rw [blk_cell BB 2]; rfl
      have a3 : ((W.alloc (Obj.cells #[.int .i64 0, .int .i64 0, .int .i64 0, .int .i64 0, .bool false, .bool false] 114)).alloc (Obj.cells #[.int .i64 (x % 1048576), .int .i64 (x / 1048576 % 1048576), .int .i64 (x / 1099511627776 % 16), .int .i64 (x / 17592186044416 % 16), .bool (x / 281474976710656 % 2 == 1), .bool (x / 562949953421312 == 1)] 114)).cell? ⟨W.heap.size + 1, 3, none⟩ = some (.int .i64 (x / 17592186044416 % 16)) := by rw [blk_cell BB 3]; rfl
      have a4 : ((W.alloc (Obj.cells #[.int .i64 0, .int .i64 0, .int .i64 0, .int .i64 0, .bool false, .bool false] 114)).alloc (Obj.cells #[.int .i64 (x % 1048576), .int .i64 (x / 1048576 % 1048576), .int .i64 (x / 1099511627776 % 16), .int .i64 (x / 17592186044416 % 16), .bool (x / 281474976710656 % 2 == 1), .bool (x / 562949953421312 == 1)] 114)).cell? ⟨W.heap.size + 1, 4, none⟩ = some (.bool (x / 281474976710656 % 2 == 1)) := by rw [blk_cell BB 4]; rfl
      have a5 : ((W.alloc (Obj.cells #[.int .i64 0, .int .i64 0, .int .i64 0, .int .i64 0, .bool false, .bool false] 114)).alloc (Obj.cells #[.int .i64 (x % 1048576), .int .i64 (x / 1048576 % 1048576), .int .i64 (x / 1099511627776 % 16), .int .i64 (x / 17592186044416 % 16), .bool (x / 281474976710656 % 2 == 1), .bool (x / 562949953421312 == 1)] 114)).cell? ⟨W.heap.size + 1, 5, none⟩ = some (.bool (x / 562949953421312 == 1)) := by rw [blk_cell BB 5]; rfl
      have hs : W.heap.size + 1 < ((W.alloc (Obj.cells #[.int .i64 0, .int .i64 0, .int .i64 0, .int .i64 0, .bool false, .bool false] 114)).alloc (Obj.cells #[.int .i64 (x % 1048576), .int .i64 (x / 1048576 % 1048576), .int .i64 (x / 1099511627776 % 16), .int .i64 (x / 17592186044416 % 16), .bool (x / 281474976710656 % 2 == 1), .bool (x / 562949953421312 == 1)] 114)).heap.size := by simp
      have B0 := blk_alloc (blk_new W (Obj.cells #[.int .i64 0, .int .i64 0, .int .i64 0, .int .i64 0, .bool false, .bool false] 114)) (Obj.cells #[.int .i64 (x % 1048576), .int .i64 (x / 1048576 % 1048576), .int .i64 (x / 1099511627776 % 16), .int .i64 (x / 17592186044416 % 16), .bool (x / 281474976710656 % 2 == 1), .bool (x / 562949953421312 == 1)] 114)
      have c0 : ((W.alloc (Obj.cells #[.int .i64 0, .int .i64 0, .int .i64 0, .int .i64 0, .bool false, .bool false] 114)).alloc (Obj.cells #[.int .i64 (x % 1048576), .int .i64 (x / 1048576 % 1048576), .int .i64 (x / 1099511627776 % 16), .int .i64 (x / 17592186044416 % 16), .bool (x / 281474976710656 % 2 == 1), .bool (x / 562949953421312 == 1)] 114)).cell? ⟨W.heap.size, 0, none⟩ = some (.int .i64 0) := by rw [blk_cell B0 0]; rfl
      have f0 : ((W.alloc (Obj.cells #[.int .i64 0, .int .i64 0, .int .i64 0, .int .i64 0, .bool false, .bool false] 114)).alloc (Obj.cells #[.int .i64 (x % 1048576), .int .i64 (x / 1048576 % 1048576), .int .i64 (x / 1099511627776 % 16), .int .i64 (x / 17592186044416 % 16), .bool (x / 281474976710656 % 2 == 1), .bool (x / 562949953421312 == 1)] 114)).frozen? ⟨W.heap.size, 0, none⟩ = false := blk_free B0 0
      have c1 : ((W.alloc (Obj.cells #[.int .i64 0, .int .i64 0, .int .i64 0, .int .i64 0, .bool false, .bool false] 114)).alloc (Obj.cells #[.int .i64 (x % 1048576), .int .i64 (x / 1048576 % 1048576), .int .i64 (x / 1099511627776 % 16), .int .i64 (x / 17592186044416 % 16), .bool (x / 281474976710656 % 2 == 1), .bool (x / 562949953421312 == 1)] 114)).cell? ⟨W.heap.size, 1, none⟩ = some (.int .i64 0) := by rw [blk_cell B0 1]; rfl
      have f1 : ((W.alloc (Obj.cells #[.int .i64 0, .int .i64 0, .int .i64 0, .int .i64 0, .bool false, .bool false] 114)).alloc (Obj.cells #[.int .i64 (x % 1048576), .int .i64 (x / 1048576 % 1048576), .int .i64 (x / 1099511627776 % 16), .int .i64 (x / 17592186044416 % 16), .bool (x / 281474976710656 % 2 == 1), .bool (x / 562949953421312 == 1)] 114)).frozen? ⟨W.heap.size, 1, none⟩ = false := blk_free B0 1
      have c2 : ((W.alloc (Obj.cells #[.int .i64 0, .int .i64 0, .int .i64 0, .int .i64 0, .bool false, .bool false] 114)).alloc (Obj.cells #[.int .i64 (x % 1048576), .int .i64 (x / 1048576 % 1048576), .int .i64 (x / 1099511627776 % 16), .int .i64 (x / 17592186044416 % 16), .bool (x / 281474976710656 % 2 == 1), .bool (x / 562949953421312 == 1)] 114)).cell? ⟨W.heap.size, 2, none⟩ = some (.int .i64 0) := by rw [blk_cell B0 2]; rfl
      have f2 : ((W.alloc (Obj.cells #[.int .i64 0, .int .i64 0, .int .i64 0, .int .i64 0, .bool false, .bool false] 114)).alloc (Obj.cells #[.int .i64 (x % 1048576), .int .i64 (x / 1048576 % 1048576), .int .i64 (x / 1099511627776 % 16), .int .i64 (x / 17592186044416 % 16), .bool (x / 281474976710656 % 2 == 1), .bool (x / 562949953421312 == 1)] 114)).frozen? ⟨W.heap.size, 2, none⟩ = false := blk_free B0 2
      have c3 : ((W.alloc (Obj.cells #[.int .i64 0, .int .i64 0, .int .i64 0, .int .i64 0, .bool false, .bool false] 114)).alloc (Obj.cells #[.int .i64 (x % 1048576), .int .i64 (x / 1048576 % 1048576), .int .i64 (x / 1099511627776 % 16), .int .i64 (x / 17592186044416 % 16), .bool (x / 281474976710656 % 2 == 1), .bool (x / 562949953421312 == 1)] 114)).cell? ⟨W.heap.size, 3, none⟩ = some (.int .i64 0) := by rw [blk_cell B0 3]; rfl
      have f3 : ((W.alloc (Obj.cells #[.int .i64 0, .int .i64 0, .int .i64 0, .int .i64 0, .bool false, .bool false] 114)).alloc (Obj.cells #[.int .i64 (x % 1048576), .int .i64 (x / 1048576 % 1048576), .int .i64 (x / 1099511627776 % 16), .int .i64 (x / 17592186044416 % 16), .bool (x / 281474976710656 % 2 == 1), .bool (x / 562949953421312 == 1)] 114)).frozen? ⟨W.heap.size, 3, none⟩ = false := blk_free B0 3
      have c4 : ((W.alloc (Obj.cells #[.int .i64 0, .int .i64 0, .int .i64 0, .int .i64 0, .bool false, .bool false] 114)).alloc (Obj.cells #[.int .i64 (x % 1048576), .int .i64 (x / 1048576 % 1048576), .int .i64 (x / 1099511627776 % 16), .int .i64 (x / 17592186044416 % 16), .bool (x / 281474976710656 % 2 == 1), .bool (x / 562949953421312 == 1)] 114)).cell? ⟨W.heap.size, 4, none⟩ = some (.bool false) := by rw [blk_cell B0 4]; rfl
      have f4 : ((W.alloc (Obj.cells #[.int .i64 0, .int .i64 0, .int .i64 0, .int .i64 0, .bool false, .bool false] 114)).alloc (Obj.cells #[.int .i64 (x % 1048576), .int .i64 (x / 1048576 % 1048576), .int .i64 (x / 1099511627776 % 16), .int .i64 (x / 17592186044416 % 16), .bool (x / 281474976710656 % 2 == 1), .bool (x / 562949953421312 == 1)] 114)).frozen? ⟨W.heap.size, 4, none⟩ = false := blk_free B0 4
      have c5 : ((W.alloc (Obj.cells #[.int .i64 0, .int .i64 0, .int .i64 0, .int .i64 0, .bool false, .bool false] 114)).alloc (Obj.cells #[.int .i64 (x % 1048576), .int .i64 (x / 1048576 % 1048576), .int .i64 (x / 1099511627776 % 16), .int .i64 (x / 17592186044416 % 16), .bool (x / 281474976710656 % 2 == 1), .bool (x / 562949953421312 == 1)] 114)).cell? ⟨W.heap.size, 5, none⟩ = some (.bool false) := by rw [blk_cell B0 5]; rfl
      have f5 : ((W.alloc (Obj.cells #[.int .i64 0, .int .i64 0, .int .i64 0, .int .i64 0, .bool false, .bool false] 114)).alloc (Obj.cells #[.int .i64 (x % 1048576), .int .i64 (x / 1048576 % 1048576), .int .i64 (x / 1099511627776 % 16), .int .i64 (x / 17592186044416 % 16), .bool (x / 281474976710656 % 2 == 1), .bool (x / 562949953421312 == 1)] 114)).frozen? ⟨W.heap.size, 5, none⟩ = false := blk_free B0 5
      have hr : W.heap.size < ((W.alloc (Obj.cells #[.int .i64 0, .int .i64 0, .int .i64 0, .int .i64 0, .bool false, .bool false] 114)).alloc (Obj.cells #[.int .i64 (x % 1048576), .int .i64 (x / 1048576 % 1048576), .int .i64 (x / 1099511627776 % 16), .int .i64 (x / 17592186044416 % 16), .bool (x / 281474976710656 % 2 == 1), .bool (x / 562949953421312 == 1)] 114)).heap.size := by
        simp only [World.size_alloc]; omega
      clear B0
      go_wp2_with (go_at_call 110; refine (ref02_May _ _ _ _ _ _ _).mono ?_; rw [M.out]; rintro e w' ⟨rfl, hb⟩; have c0 := (hb.cell (p := ⟨W.heap.size, 0, none⟩) hr).trans c0; have f0 := (frz_below' (p := ⟨W.heap.size, 0, none⟩) hb hr).trans f0; have c1 := (hb.cell (p := ⟨W.heap.size, 1, none⟩) hr).trans c1; have f1 := (frz_below' (p := ⟨W.heap.size, 1, none⟩) hb hr).trans f1; have c2 := (hb.cell (p := ⟨W.heap.size, 2, none⟩) hr).trans c2; have f2 := (frz_below' (p := ⟨W.heap.size, 2, none⟩) hb hr).trans f2; have c3 := (hb.cell (p := ⟨W.heap.size, 3, none⟩) hr).trans c3; have f3 := (frz_below' (p := ⟨W.heap.size, 3, none⟩) hb hr).trans f3; have c4 := (hb.cell (p := ⟨W.heap.size, 4, none⟩) hr).trans c4; have f4 := (frz_below' (p := ⟨W.heap.size, 4, none⟩) hb hr).trans f4; have c5 := (hb.cell (p := ⟨W.heap.size, 5, none⟩) hr).trans c5; have f5 := (frz_below' (p := ⟨W.heap.size, 5, none⟩) hb hr).trans f5; have a0 := (hb.cell (p := ⟨W.heap.size + 1, 0, none⟩) hs).trans a0; have a1 := (hb.cell (p := ⟨W.heap.size + 1, 1, none⟩) hs).trans a1; have a2 := (hb.cell (p := ⟨W.heap.size + 1, 2, none⟩) hs).trans a2; have a3 := (hb.cell (p := ⟨W.heap.size + 1, 3, none⟩) hs).trans a3; have a4 := (hb.cell (p := ⟨W.heap.size + 1, 4, none⟩) hs).trans a4; have a5 := (hb.cell (p := ⟨W.heap.size + 1, 5, none⟩) hs).trans a5; have hs := Nat.lt_of_lt_of_le hs hb.size)
      exact bodyPost_ret (v := .tuple #[.agg #[.int .i64 (x % 1048576), .int .i64 (x / 1048576 % 1048576), .int .i64 (x / 1099511627776 % 16), .int .i64 (x / 17592186044416 % 16), .bool (x / 281474976710656 % 2 == 1), .bool (x / 562949953421312 == 1)], .int .i64 0]) (by simp [results, Tryz.results94, go_sem, c0, c1, c2, c3, c4, c5]) rfl ⟨rfl, by (repeat' (first | (with_reducible exact Below.refl _ _) | (with_reducible assumption) | (with_reducible refine below_drewN ?_ _) | (with_reducible refine Below.drew ?_) | (with_reducible refine Below.alloc ?_ ?_ _) | (with_reducible refine Below.setCell ?_ ?_ _) | (with_reducible refine below_via (by assumption) ?_ ?_) | go_size))⟩
    · have M := Lib.hid hb0
      obtain ⟨u1, u2, u3, u4, u5, u6, u7⟩ := u_no (hI.trans hb0)
      rw [u1, u2, u3, u4, u5, u6, u7]
      clear u1 u2 u3 u4 u5 u6 u7 hb0 hI hA
      go_enter Tryz.func94, Tryz.ntmps94
      go_wp2_with fail
      have B0 := blk_alloc (blk_new W (Obj.cells #[.int .i64 0, .int .i64 0, .int .i64 0, .int .i64 0, .bool false, .bool false] 114)) (Obj.cells #[.int .i64 (x % 1048576), .int .i64 (x / 1048576 % 1048576), .int .i64 (x / 1099511627776 % 16), .int .i64 (x / 17592186044416 % 16), .bool (x / 281474976710656 % 2 == 1), .bool (x / 562949953421312 == 1)] 114)
      have c0 : ((W.alloc (Obj.cells #[.int .i64 0, .int .i64 0, .int .i64 0, .int .i64 0, .bool false, .bool false] 114)).alloc (Obj.cells #[.int .i64 (x % 1048576), .int .i64 (x / 1048576 % 1048576), .int .i64 (x / 1099511627776 % 16), .int .i64 (x / 17592186044416 % 16), .bool (x / 281474976710656 % 2 == 1), .bool (x / 562949953421312 == 1)] 114)).cell? ⟨W.heap.size, 0, none⟩ = some (.int .i64 0) := by rw [blk_cell B0 0]; rfl
      have f0 : ((W.alloc (Obj.cells #[.int .i64 0, .int .i64 0, .int .i64 0, .int .i64 0, .bool false, .bool false] 114)).alloc (Obj.cells #[.int .i64 (x % 1048576), .int .i64 (x / 1048576 % 1048576), .int .i64 (x / 1099511627776 % 16), .int .i64 (x / 17592186044416 % 16), .bool (x / 281474976710656 % 2 == 1), .bool (x / 562949953421312 == 1)] 114)).frozen? ⟨W.heap.size, 0, none⟩ = false := blk_free B0 0
      have c1 : ((W.alloc (Obj.cells #[.int .i64 0, .int .i64 0, .int .i64 0, .int .i64 0, .bool false, .bool false] 114)).alloc (Obj.cells #[.int .i64 (x % 1048576), .int .i64 (x / 1048576 % 1048576), .int .i64 (x / 1099511627776 % 16), .int .i64 (x / 17592186044416 % 16), .bool (x / 281474976710656 % 2 == 1), .bool (x / 562949953421312 == 1)] 114)).cell? ⟨W.heap.size, 1, none⟩ = some (.int .i64 0) := by rw [blk_cell B0 1]; rfl
      have f1 : ((W.alloc (Obj.cells #[.int .i64 0, .int .i64 0, .int .i64 0, .int .i64 0, .bool false, .bool false] 114)).alloc (Obj.cells #[.int .i64 (x % 1048576), .int .i64 (x / 1048576 % 1048576), .int .i64 (x / 1099511627776 % 16), .int .i64 (x / 17592186044416 % 16), .bool (x / 281474976710656 % 2 == 1), .bool (x / 562949953421312 == 1)] 114)).frozen? ⟨W.heap.size, 1, none⟩ = false := blk_free B0 1
      have c2 : ((W.alloc (Obj.cells #[.int .i64 0, .int .i64 0, .int .i64 0, .int .i64 0, .bool false, .bool false] 114)).alloc (Obj.cells #[.int .i64 (x % 1048576), .int .i64 (x / 1048576 % 1048576), .int .i64 (x / 1099511627776 % 16), .int .i64 (x / 17592186044416 % 16), .bool (x / 281474976710656 % 2 == 1), .bool (x / 562949953421312 == 1)] 114)).cell? ⟨W.heap.size, 2, none⟩ = some (.int .i64 0) := by rw [blk_cell B0 2]; rfl
      have f2 : ((W.alloc (Obj.cells #[.int .i64 0, .int .i64 0, .int .i64 0, .int .i64 0, .bool false, .bool false] 114)).alloc (Obj.cells #[.int .i64 (x % 1048576), .int .i64 (x / 1048576 % 1048576), .int .i64 (x / 1099511627776 % 16), .int .i64 (x / 17592186044416 % 16), .bool (x / 281474976710656 % 2 == 1), .bool (x / 562949953421312 == 1)] 114)).frozen? ⟨W.heap.size, 2, none⟩ = false := blk_free B0 2
      have c3 : ((W.alloc (Obj.cells #[.int .i64 0, .int .i64 0, .int .i64 0, .int .i64 0, .bool false, .bool false] 114)).alloc (Obj.cells #[.int .i64 (x % 1048576), .int .i64 (x / 1048576 % 1048576), .int .i64 (x / 1099511627776 % 16), .int .i64 (x / 17592186044416 % 16), .bool (x / 281474976710656 % 2 == 1), .bool (x / 562949953421312 == 1)] 114)).cell? ⟨W.heap.size, 3, none⟩ = some (.int .i64 0) := by rw [blk_cell B0 3]; rfl
      have f3 : ((W.alloc (Obj.cells #[.int .i64 0, .int .i64 0, .int .i64 0, .int .i64 0, .bool false, .bool false] 114)).alloc (Obj.cells #[.int .i64 (x % 1048576), .int .i64 (x / 1048576 % 1048576), .int .i64 (x / 1099511627776 % 16), .int .i64 (x / 17592186044416 % 16), .bool (x / 281474976710656 % 2 == 1), .bool (x / 562949953421312 == 1)] 114)).frozen? ⟨W.heap.size, 3, none⟩ = false := blk_free B0 3
      have c4 : ((W.alloc (Obj.cells #[.int .i64 0, .int .i64 0, .int .i64 0, .int .i64 0, .bool false, .bool false] 114)).alloc (Obj.cells #[.int .i64 (x % 1048576), .int .i64 (x / 1048576 % 1048576), .int .i64 (x / 1099511627776 % 16), .int .i64 (x / 17592186044416 % 16), .bool (x / 281474976710656 % 2 == 1), .bool (x / 562949953421312 == 1)] 114)).cell? ⟨W.heap.size, 4, none⟩ = some (.bool false) := by rw [blk_cell B0 4]; rfl
      have f4 : ((W.alloc (Obj.cells #[.int .i64 0, .int .i64 0, .int .i64 0, .int .i64 0, .bool false, .bool false] 114)).alloc (Obj.cells #[.int .i64 (x % 1048576), .int .i64 (x / 1048576 % 1048576), .int .i64 (x / 1099511627776 % 16), .int .i64 (x / 17592186044416 % 16), .bool (x / 281474976710656 % 2 == 1), .bool (x / 562949953421312 == 1)] 114)).frozen? ⟨W.heap.size, 4, none⟩ = false := blk_free B0 4
      have c5 : ((W.alloc (Obj.cells #[.int .i64 0, .int .i64 0, .int .i64 0, .int .i64 0, .bool false, .bool false] 114)).alloc (Obj.cells #[.int .i64 (x % 1048576), .int .i64 (x / 1048576 % 1048576), .int .i64 (x / 1099511627776 % 16), .int .i64 (x / 17592186044416 % 16), .bool (x / 281474976710656 % 2 == 1), .bool (x / 562949953421312 == 1)] 114)).cell? ⟨W.heap.size, 5, none⟩ = some (.bool false) := by rw [blk_cell B0 5]; rfl
      have f5 : ((W.alloc (Obj.cells #[.int .i64 0, .int .i64 0, .int .i64 0, .int .i64 0, .bool false, .bool false] 114)).alloc (Obj.cells #[.int .i64 (x % 1048576), .int .i64 (x / 1048576 % 1048576), .int .i64 (x / 1099511627776 % 16), .int .i64 (x / 17592186044416 % 16), .bool (x / 281474976710656 % 2 == 1), .bool (x / 562949953421312 == 1)] 114)).frozen? ⟨W.heap.size, 5, none⟩ = false := blk_free B0 5
      have hr : W.heap.size < ((W.alloc (Obj.cells #[.int .i64 0, .int .i64 0, .int .i64 0, .int .i64 0, .bool false, .bool false] 114)).alloc (Obj.cells #[.int .i64 (x % 1048576), .int .i64 (x / 1048576 % 1048576), .int .i64 (x / 1099511627776 % 16), .int .i64 (x / 17592186044416 % 16), .bool (x / 281474976710656 % 2 == 1), .bool (x / 562949953421312 == 1)] 114)).heap.size := by
        simp only [World.size_alloc]; omega
      clear B0
      go_wp2_with (go_at_call 110; refine (ref02_May _ _ _ _ _ _ _).mono ?_; rw [M.out]; rintro e w' ⟨rfl, hb⟩; have c0 := (hb.cell (p := ⟨W.heap.size, 0, none⟩) hr).trans c0; have f0 := (frz_below' (p := ⟨W.heap.size, 0, none⟩) hb hr).trans f0; have c1 := (hb.cell (p := ⟨W.heap.size, 1, none⟩) hr).trans c1; have f1 := (frz_below' (p := ⟨W.heap.size, 1, none⟩) hb hr).trans f1; have c2 := (hb.cell (p := ⟨W.heap.size, 2, none⟩) hr).trans c2; have f2 := (frz_below' (p := ⟨W.heap.size, 2, none⟩) hb hr).trans f2; have c3 := (hb.cell (p := ⟨W.heap.size, 3, none⟩) hr).trans c3; have f3 := (frz_below' (p := ⟨W.heap.size, 3, none⟩) hb hr).trans f3; have c4 := (hb.cell (p := ⟨W.heap.size, 4, none⟩) hr).trans c4; have f4 := (frz_below' (p := ⟨W.heap.size, 4, none⟩) hb hr).trans f4; have c5 := (hb.cell (p := ⟨W.heap.size, 5, none⟩) hr).trans c5; have f5 := (frz_below' (p := ⟨W.heap.size, 5, none⟩) hb hr).trans f5; have hz := hb.size; (try simp only [World.size_alloc, World.size_drew, World.size_setCell, size_drewN] at hz))
      exact bodyPost_ret (v := .tuple #[.agg #[.int .i64 0, .int .i64 0, .int .i64 0, .int .i64 0, .bool false, .bool false], .int .i64 2]) (by simp [results, Tryz.results94, go_sem, c0, c1, c2, c3, c4, c5]) rfl ⟨rfl, by (repeat' (first | (with_reducible exact Below.refl _ _) | (with_reducible assumption) | (with_reducible refine below_drewN ?_ _) | (with_reducible refine Below.drew ?_) | (with_reducible refine Below.alloc ?_ ?_ _) | (with_reducible refine Below.setCell ?_ ?_ _) | (with_reducible refine below_via (by assumption) ?_ ?_) | go_size))⟩
  · have hx : eIs x = false := by unfold eIs; rw [decide_eq_false h]; rfl
    obtain ⟨u1, u2, u3, u4, u5, u6, u7⟩ := u_no hx
    rw [u1, u2, u3, u4, u5, u6, u7]
    clear u1 u2 u3 u4 u5 u6 u7 hx
    have hh : x < 0 ∨ (0 ≤ x ∧ 1125899906842624 ≤ x) := by omega
    clear h
    rcases hh with hh | ⟨hh, hh'⟩
    all_goals
      go_enter Tryz.func94, Tryz.ntmps94
      go_wp2_with fail
      exact bodyPost_ret (v := .tuple #[.agg #[.int .i64 0, .int .i64 0, .int .i64 0, .int .i64 0, .bool false, .bool false], .int .i64 2]) (by simp [results, Tryz.results94, go_sem]) rfl ⟨rfl, by (repeat' (first | (with_reducible exact Below.refl _ _) | (with_reducible assumption) | (with_reducible refine below_drewN ?_ _) | (with_reducible refine Below.drew ?_) | (with_reducible refine Below.alloc ?_ ?_ _) | (with_reducible refine Below.setCell ?_ ?_ _) | (with_reducible refine below_via (by assumption) ?_ ?_) | go_size))⟩
end Go.Proofs.YtpebepjfgnoaaaaGreat
namespace Go.Proofs.YtpebepjfgnoaaaaGreat
set_option linter.unusedVariables false
set_option linter.unusedSimpArgs false
open Go.RowKit
theorem ent_set6' {B : Nat} {W w : World} {G : List Grp} {b : Nat} {T : TypeId} {a0 a1 a2 a3 a4 a5 : Value} (h : Owns B W w ([(b, .cells #[a0, a1, a2, a3, a4, a5] T (0, 0))] :: G)) (v0 v1 v2 v3 v4 v5 : Value) :
    Owns B W ((((((w.setCell ⟨b, 0, none⟩ v0).setCell ⟨b, 1, none⟩ v1).setCell ⟨b, 2, none⟩ v2).setCell ⟨b, 3, none⟩ v3).setCell ⟨b, 4, none⟩ v4).setCell ⟨b, 5, none⟩ v5) ([(b, .cells #[v0, v1, v2, v3, v4, v5] T (0, 0))] :: G) := by
  have h0 : Owns B W _ ([(b, .cells #[v0, a1, a2, a3, a4, a5] T (0, 0))] :: G) := h.set 0 0 rfl rfl 0 v0
  have h1 : Owns B W _ ([(b, .cells #[v0, v1, a2, a3, a4, a5] T (0, 0))] :: G) := h0.set 0 0 rfl rfl 1 v1
  have h2 : Owns B W _ ([(b, .cells #[v0, v1, v2, a3, a4, a5] T (0, 0))] :: G) := h1.set 0 0 rfl rfl 2 v2
  have h3 : Owns B W _ ([(b, .cells #[v0, v1, v2, v3, a4, a5] T (0, 0))] :: G) := h2.set 0 0 rfl rfl 3 v3
  have h4 : Owns B W _ ([(b, .cells #[v0, v1, v2, v3, v4, a5] T (0, 0))] :: G) := h3.set 0 0 rfl rfl 4 v4
  exact h4.set 0 0 rfl rfl 5 v5
set_option maxRecDepth 100000 in
set_option maxHeartbeats 2000000 in
theorem ref02_live_key (x o g p u f : Int) (l a b : Bool) (W : World) (hb : (f == 0) = b) (hU : Hid ((uO x, uG x, uP x, uU x, uL x, uA x, eOk x) = (o, g, p, u, l, a, f))) (V : Array Value) (c : Int) (hV : (V, c) = if (b && !a) = true then (#[.int .i64 0, .int .i64 0, .int .i64 0, .int .i64 0, .bool false, .bool false], 1) else (#[.int .i64 o, .int .i64 g, .int .i64 p, .int .i64 u, .bool l, .bool a], f)) :
    Calls Tryz.prog 95 #[.int .i64 x] W fun e w' => e = .returned (.tuple #[.agg V, .int .i64 c]) ∧ Below W.heap.size W w' := by
  have HV := Lib.hid hV
  clear hV
  have HU := Lib.hid (show uO x = o ∧ uG x = g ∧ uP x = p ∧ uU x = u ∧ uL x = l ∧ uA x = a ∧ eOk x = f by have := hU.out; simp only [Prod.mk.injEq] at this; exact this)
  clear hU
  have hO := (Owns.nil W).alloc (.cells #[.int .i64 0, .int .i64 0, .int .i64 0, .int .i64 0, .bool false, .bool false] 114)
  go_enter Tryz.func95, Tryz.ntmps95
  go_wp2_with fail
  generalize W.alloc (.cells #[.int .i64 0, .int .i64 0, .int .i64 0, .int .i64 0, .bool false, .bool false] 114) = w1 at hO ⊢
  generalize hrb : W.heap.size = rb at hO ⊢
  have HRB := Lib.hid hrb
  clear hrb
  refine (ref02_Unpack _ _).mono ?_; rw [HU.out.1, HU.out.2.1, HU.out.2.2.1, HU.out.2.2.2.1, HU.out.2.2.2.2.1, HU.out.2.2.2.2.2.1, HU.out.2.2.2.2.2.2]; rintro e w2 ⟨rfl, hbb⟩
  have hO := (hO.via hbb).alloc (.cells #[.int .i64 o, .int .i64 g, .int .i64 p, .int .i64 u, .bool l, .bool a] 114)
  go_upto_region 2 with fail
  generalize w2.alloc (.cells #[.int .i64 o, .int .i64 g, .int .i64 p, .int .i64 u, .bool l, .bool a] 114) = w3 at hO ⊢
  generalize w2.heap.size = eb at hO ⊢
  have e0 : _ = some (Value.int .i64 o) := hO.cell 0 0 rfl rfl 0
  have e1 : _ = some (Value.int .i64 g) := hO.cell 0 0 rfl rfl 1
  have e2 : _ = some (Value.int .i64 p) := hO.cell 0 0 rfl rfl 2
  have e3 : _ = some (Value.int .i64 u) := hO.cell 0 0 rfl rfl 3
  have e4 : _ = some (Value.bool l) := hO.cell 0 0 rfl rfl 4
  have e5 : _ = some (Value.bool a) := hO.cell 0 0 rfl rfl 5
  have hO := hO.tail
  have r0 : _ = some (Value.int .i64 0) := hO.cell 0 0 rfl rfl 0; have r1 : _ = some (Value.int .i64 0) := hO.cell 0 0 rfl rfl 1; have r2 : _ = some (Value.int .i64 0) := hO.cell 0 0 rfl rfl 2; have r3 : _ = some (Value.int .i64 0) := hO.cell 0 0 rfl rfl 3; have r4 : _ = some (Value.bool false) := hO.cell 0 0 rfl rfl 4; have r5 : _ = some (Value.bool false) := hO.cell 0 0 rfl rfl 5; have rg := hO.get 0 0 rfl rfl; have rz := blk_lt rg; have f0 := blk_free rg 0; have f1 := blk_free rg 1; have f2 := blk_free rg 2; have f3 := blk_free rg 3; have f4 := blk_free rg 4; have f5 := blk_free rg 5; clear rg
  have hP := hO
  cases b
  case false =>
    have h := HV.out
    rw [Bool.false_and, if_neg (by decide)] at h
    obtain ⟨rfl, rfl⟩ := Prod.mk.inj h
    clear h
    go_wp2_with fail
    generalize hw : (((((World.setCell w3 _ _).setCell _ _).setCell _ _).setCell _ _).setCell _ _).setCell _ _ = w4
    have hO4 : Owns rb W w4 ([(rb, .cells #[.int .i64 o, .int .i64 g, .int .i64 p, .int .i64 u, .bool l, .bool a] 114 (0, 0))] :: []) := by rw [← hw]; exact ent_set6' hP (.int .i64 o) (.int .i64 g) (.int .i64 p) (.int .i64 u) (.bool l) (.bool a)
    clear hw
    clear r0 r1 r2 r3 r4 r5 e0 e1 e2 e3 e4 e5
    have e0 := hO4.cell 0 0 rfl rfl 0; have e1 := hO4.cell 0 0 rfl rfl 1; have e2 := hO4.cell 0 0 rfl rfl 2; have e3 := hO4.cell 0 0 rfl rfl 3; have e4 := hO4.cell 0 0 rfl rfl 4; have e5 := hO4.cell 0 0 rfl rfl 5
    exact bodyPost_ret (v := .tuple #[.agg #[.int .i64 o, .int .i64 g, .int .i64 p, .int .i64 u, .bool l, .bool a], .int .i64 c]) (by simp [results, Tryz.results95, go_sem, e0, e1, e2, e3, e4, e5]) rfl ⟨rfl, by rw [HRB.out]; exact hO4.below⟩
  case true =>
    cases a
    case false =>
      have h := HV.out
      rw [Bool.true_and, if_pos (by decide)] at h
      obtain ⟨rfl, rfl⟩ := Prod.mk.inj h
      clear h
      go_wp2_with fail
      generalize hw : (((((World.setCell w3 _ _).setCell _ _).setCell _ _).setCell _ _).setCell _ _).setCell _ _ = w4
      have hO4 : Owns rb W w4 ([(rb, .cells #[.int .i64 0, .int .i64 0, .int .i64 0, .int .i64 0, .bool false, .bool false] 114 (0, 0))] :: []) := by rw [← hw]; exact ent_set6' hP (.int .i64 0) (.int .i64 0) (.int .i64 0) (.int .i64 0) (.bool false) (.bool false)
      clear hw
      clear r0 r1 r2 r3 r4 r5 e0 e1 e2 e3 e4 e5
      have e0 := hO4.cell 0 0 rfl rfl 0; have e1 := hO4.cell 0 0 rfl rfl 1; have e2 := hO4.cell 0 0 rfl rfl 2; have e3 := hO4.cell 0 0 rfl rfl 3; have e4 := hO4.cell 0 0 rfl rfl 4; have e5 := hO4.cell 0 0 rfl rfl 5
      exact bodyPost_ret (v := .tuple #[.agg #[.int .i64 0, .int .i64 0, .int .i64 0, .int .i64 0, .bool false, .bool false], .int .i64 1]) (by simp [results, Tryz.results95, go_sem, e0, e1, e2, e3, e4, e5]) rfl ⟨rfl, by rw [HRB.out]; exact hO4.below⟩
    case true =>
      have h := HV.out
      rw [Bool.true_and, if_neg (by decide)] at h
      obtain ⟨rfl, rfl⟩ := Prod.mk.inj h
      clear h
      go_wp2_with fail
      generalize hw : (((((World.setCell w3 _ _).setCell _ _).setCell _ _).setCell _ _).setCell _ _).setCell _ _ = w4
      have hO4 : Owns rb W w4 ([(rb, .cells #[.int .i64 o, .int .i64 g, .int .i64 p, .int .i64 u, .bool l, .bool true] 114 (0, 0))] :: []) := by rw [← hw]; exact ent_set6' hP (.int .i64 o) (.int .i64 g) (.int .i64 p) (.int .i64 u) (.bool l) (.bool true)
      clear hw
      clear r0 r1 r2 r3 r4 r5 e0 e1 e2 e3 e4 e5
      have e0 := hO4.cell 0 0 rfl rfl 0; have e1 := hO4.cell 0 0 rfl rfl 1; have e2 := hO4.cell 0 0 rfl rfl 2; have e3 := hO4.cell 0 0 rfl rfl 3; have e4 := hO4.cell 0 0 rfl rfl 4; have e5 := hO4.cell 0 0 rfl rfl 5
      exact bodyPost_ret (v := .tuple #[.agg #[.int .i64 o, .int .i64 g, .int .i64 p, .int .i64 u, .bool l, .bool true], .int .i64 c]) (by simp [results, Tryz.results95, go_sem, e0, e1, e2, e3, e4, e5]) rfl ⟨rfl, by rw [HRB.out]; exact hO4.below⟩
theorem ref02_live_bad (x : Int) (W : World) (h : eIs x = false) : Calls Tryz.prog 95 #[.int .i64 x] W fun e w' => e = .returned (.tuple #[.agg #[.int .i64 0, .int .i64 0, .int .i64 0, .int .i64 0, .bool false, .bool false], .int .i64 2]) ∧ Below W.heap.size W w' := by
  obtain ⟨u1, u2, u3, u4, u5, u6, u7⟩ := u_no h
  exact ref02_live_key x 0 0 0 0 2 false false false W rfl (Lib.hid (by rw [u1, u2, u3, u4, u5, u6, u7])) _ _ rfl
theorem ref02_live_dead (x : Int) (W : World) (h : eIs x = true) (ha : wA x = false) : Calls Tryz.prog 95 #[.int .i64 x] W fun e w' => e = .returned (.tuple #[.agg #[.int .i64 0, .int .i64 0, .int .i64 0, .int .i64 0, .bool false, .bool false], .int .i64 1]) ∧ Below W.heap.size W w' := by
  obtain ⟨u1, u2, u3, u4, u5, u6, u7⟩ := u_yes h
  exact ref02_live_key x _ _ _ _ 0 _ false true W rfl (Lib.hid (by rw [u6, u7, ha])) _ _ rfl
theorem ref02_live_yes (x : Int) (W : World) (h : eIs x = true) (ha : wA x = true) : Calls Tryz.prog 95 #[.int .i64 x] W fun e w' => e = .returned (.tuple #[.agg #[.int .i64 (wO x), .int .i64 (wG x), .int .i64 (wP x), .int .i64 (wU x), .bool (wL x), .bool true], .int .i64 0]) ∧ Below W.heap.size W w' := by
  obtain ⟨u1, u2, u3, u4, u5, u6, u7⟩ := u_yes h
  exact ref02_live_key x (wO x) (wG x) (wP x) (wU x) 0 (wL x) true true W rfl (Lib.hid (by rw [u1, u2, u3, u4, u5, u6, u7, ha])) _ _ rfl
end Go.Proofs.YtpebepjfgnoaaaaGreat
