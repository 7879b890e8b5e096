/- entry.Unpack. -/
import Derived.LoopTactic
import Derived.Deep.DeepCutAuto
import Derived.Test.YtmbkkpeepbfgoaaEnK
import Derived.Test.YtmbkkpeepbfgoaaBlk
namespace Go.Proofs.Ytmbkkpeepbfgoaa
set_option linter.unusedVariables false
set_option linter.unusedSimpArgs false
open Go.RowKit
attribute [local go_sem] ixf0 ixf1 ixf2 ixf3 ixf4 ixf5
def wO (w : Int) : Int := w % 1048576
def wG (w : Int) : Int := w / 1048576 % 1048576
def wP (w : Int) : Int := w / 1099511627776 % 16
def wU (w : Int) : Int := w / 17592186044416 % 16
def wL (w : Int) : Bool := w / 281474976710656 % 2 == 1
def wA (w : Int) : Bool := w / 562949953421312 % 2 == 1
def eIs (w : Int) : Bool := decide (0 ≤ w ∧ w < 1125899906842624) && eMay (wO w) (wG w) (wP w) (wU w) (wL w) (wA w)
theorem get_all {w : Int} (h : 0 ≤ w) (h' : w < 1125899906842624) : fGet w 0 20 = wO w ∧ fGet w 20 20 = wG w ∧ fGet w 40 4 = wP w ∧ fGet w 44 4 = wU w ∧ fGet w 48 1 = w / 281474976710656 % 2 ∧ fGet w 49 1 = w / 562949953421312 % 2 := by
  have hw : fWord w = true := by simp [fWord]; omega
  have g : ∀ p b P B : Int, pw p = P → pw b = B → fMay p b = true → fGet w p b = w / P % B := by
    intro p b P B hP hB hm; unfold fGet; rw [if_pos ⟨hw, hm⟩, hP, hB]
  refine ⟨?_, ?_, ?_, ?_, ?_, ?_⟩
  · rw [g 0 20 1 1048576 (by decide) (by decide) (by decide), Int.ediv_one]; rfl
  · exact g 20 20 _ _ (by decide) (by decide) (by decide)
  · exact g 40 4 _ _ (by decide) (by decide) (by decide)
  · exact g 44 4 _ _ (by decide) (by decide) (by decide)
  · exact g 48 1 _ _ (by decide) (by decide) (by decide)
  · exact g 49 1 _ _ (by decide) (by decide) (by decide)
def uArr (x : Int) : Nat → Array Value
  | 0 => #[.int .i64 0, .int .i64 0, .int .i64 0, .int .i64 0, .int .i64 0, .int .i64 0]
  | 1 => #[.int .i64 (wO x), .int .i64 0, .int .i64 0, .int .i64 0, .int .i64 0, .int .i64 0]
  | 2 => #[.int .i64 (wO x), .int .i64 (wG x), .int .i64 0, .int .i64 0, .int .i64 0, .int .i64 0]
  | 3 => #[.int .i64 (wO x), .int .i64 (wG x), .int .i64 (wP x), .int .i64 0, .int .i64 0, .int .i64 0]
  | 4 => #[.int .i64 (wO x), .int .i64 (wG x), .int .i64 (wP x), .int .i64 (wU x), .int .i64 0, .int .i64 0]
  | 5 => #[.int .i64 (wO x), .int .i64 (wG x), .int .i64 (wP x), .int .i64 (wU x), .int .i64 (x / 281474976710656 % 2), .int .i64 0]
  | _ => #[.int .i64 (wO x), .int .i64 (wG x), .int .i64 (wP x), .int .i64 (wU x), .int .i64 (x / 281474976710656 % 2), .int .i64 (x / 562949953421312 % 2)]
def uZero : Array Value := #[.int .i64 0, .int .i64 0, .int .i64 0, .int .i64 0, .bool false, .bool false]
set_option maxHeartbeats 2000000 in
theorem entry_Unpack_in (x : Int) (w : World) (h : 0 ≤ x) (h' : x < 1125899906842624) (b : Bool) (hb : eMay (wO x) (wG x) (wP x) (wU x) (wL x) (wA x) = b) : Calls Try.prog 70 #[.int .i64 x] w fun e w' =>
    e = .returned (.tuple #[if b = true then .agg #[.int .i64 (wO x), .int .i64 (wG x), .int .i64 (wP x), .int .i64 (wU x), .bool (wL x), .bool (wA x)] else .agg #[.int .i64 0, .int .i64 0, .int .i64 0, .int .i64 0, .bool false, .bool false], .int .i64 (if b = true then 0 else 2)]) ∧ Below w.heap.size w w' := by
  obtain ⟨q0, q1, q2, q3, q4, q5⟩ := get_all h h'
  have Q0 := Lib.hid q0
  have Q1 := Lib.hid q1
  have Q2 := Lib.hid q2
  have Q3 := Lib.hid q3
  have Q4 := Lib.hid q4
  have Q5 := Lib.hid q5
  have hw := Lib.hid (show fWord x = true by simp [fWord]; omega)
  have HB := Lib.hid hb
  clear q0 q1 q2 q3 q4 q5 hb
  go_enter Try.func70, Try.ntmps70
  go_wp2_with (go_at_call 84; refine (entry_fields _).mono ?_; rintro e w2 ⟨rfl, hb2⟩; have hz2 := hb2.size)
  have hE : w2.heap[w.heap.size]? = some (.cells uZero 91 (0, 0)) := by
    refine blk_below (blk_alloc (blk_new w _) _) hb2 (by simp; omega)
  have hN : w2.heap[w.heap.size + 1]? = some (.cells (uArr x 0) 128 (0, 0)) := by
    refine blk_below ?_ hb2 (by simp)
    have hq := blk_new (w.alloc (.cells uZero 91 (0, 0))) (.cells (uArr x 0) 128 (0, 0))
    rw [World.size_alloc] at hq
    exact hq
  have hB2 : Below w.heap.size w w2 := by (repeat' (first | (with_reducible exact Below.refl _ _) | (with_reducible assumption) | (with_reducible refine below_drewN ?_ _) | (with_reducible refine Below.drew ?_) | (with_reducible refine Below.alloc ?_ ?_ _) | (with_reducible refine Below.setCell ?_ ?_ _) | (with_reducible refine below_via (by assumption) ?_ ?_) | go_size))
  clear hb2 hz2
  go_loopw [16] (fun i wr => ∃ k : Nat, k ≤ 6 ∧ i = .int .i64 k ∧ wr.heap[w.heap.size]? = some (.cells uZero 91 (0, 0)) ∧ wr.heap[w.heap.size + 1]? = some (.cells (uArr x k) 128 (0, 0)) ∧ Below w.heap.size w wr) (fun i _ => 6 - (intOf i).toNat)
  case atStart => exact ⟨0, by omega, rfl, hE, hN, hB2⟩
  case round =>
    clear hE hN hB2
    obtain ⟨k, hk, rfl, hE, hN, hB⟩ := hrel
    have hzB := hB.size
    rcases (show k = 0 ∨ k = 1 ∨ k = 2 ∨ k = 3 ∨ k = 4 ∨ k = 5 ∨ k = 6 by omega) with rfl | rfl | rfl | rfl | rfl | rfl | rfl
    · go_wp2_with fail
      have n1 := blk_alloc hN (Obj.cells #[.int .i64 0, .int .i64 20] 130)
      have m1 := blk_alloc hE (Obj.cells #[.int .i64 0, .int .i64 20] 130)
      have hl := blk_lt hN
      refine (field_Get_ok _ _ _ _ (by decide) hw.out).mono ?_; rw [Q0.out]; rintro e w3 ⟨rfl, hb3⟩
      have hz3 := hb3.size
      have n3 := blk_below n1 hb3 (by rw [World.size_alloc]; omega)
      have m3 := blk_below m1 hb3 (by rw [World.size_alloc]; omega)
      have cN : w3.cell? ⟨w.heap.size + 1, 0, none⟩ = some (.int .i64 0) := by rw [blk_cell n3]; rfl
      have fN := blk_free n3 0
      have hB3 : Below w.heap.size w w3 := by (repeat' (first | (with_reducible exact Below.refl _ _) | (with_reducible assumption) | (with_reducible refine below_drewN ?_ _) | (with_reducible refine Below.drew ?_) | (with_reducible refine Below.alloc ?_ ?_ _) | (with_reducible refine Below.setCell ?_ ?_ _) | (with_reducible refine below_via (by assumption) ?_ ?_) | go_size))
      rw [World.size_alloc] at hz3
      clear n1 m1 hN hE hb3 hB
      go_wp2_with fail
      go_roundw
      case rel => exact ⟨1, by omega, rfl, blk_set_ne m3 (by simp) _, blk_set n3 0 _, hB3.setCell (by simp) _⟩
      case measure => simp [intOf]
    · go_wp2_with fail
      have n1 := blk_alloc hN (Obj.cells #[.int .i64 20, .int .i64 20] 130)
      have m1 := blk_alloc hE (Obj.cells #[.int .i64 20, .int .i64 20] 130)
      have hl := blk_lt hN
      refine (field_Get_ok _ _ _ _ (by decide) hw.out).mono ?_; rw [Q1.out]; rintro e w3 ⟨rfl, hb3⟩
      have hz3 := hb3.size
      have n3 := blk_below n1 hb3 (by rw [World.size_alloc]; omega)
      have m3 := blk_below m1 hb3 (by rw [World.size_alloc]; omega)
      have cN : w3.cell? ⟨w.heap.size + 1, 1, none⟩ = some (.int .i64 0) := by rw [blk_cell n3]; rfl
      have fN := blk_free n3 1
      have hB3 : Below w.heap.size w w3 := by (repeat' (first | (with_reducible exact Below.refl _ _) | (with_reducible assumption) | (with_reducible refine below_drewN ?_ _) | (with_reducible refine Below.drew ?_) | (with_reducible refine Below.alloc ?_ ?_ _) | (with_reducible refine Below.setCell ?_ ?_ _) | (with_reducible refine below_via (by assumption) ?_ ?_) | go_size))
      rw [World.size_alloc] at hz3
      clear n1 m1 hN hE hb3 hB
      go_wp2_with fail
      go_roundw
      case rel => exact ⟨2, by omega, rfl, blk_set_ne m3 (by simp) _, blk_set n3 1 _, hB3.setCell (by simp) _⟩
      case measure => simp [intOf]
    · go_wp2_with fail
      have n1 := blk_alloc hN (Obj.cells #[.int .i64 40, .int .i64 4] 130)
      have m1 := blk_alloc hE (Obj.cells #[.int .i64 40, .int .i64 4] 130)
      have hl := blk_lt hN
      refine (field_Get_ok _ _ _ _ (by decide) hw.out).mono ?_; rw [Q2.out]; rintro e w3 ⟨rfl, hb3⟩
      have hz3 := hb3.size
      have n3 := blk_below n1 hb3 (by rw [World.size_alloc]; omega)
      have m3 := blk_below m1 hb3 (by rw [World.size_alloc]; omega)
      have cN : w3.cell? ⟨w.heap.size + 1, 2, none⟩ = some (.int .i64 0) := by rw [blk_cell n3]; rfl
      have fN := blk_free n3 2
      have hB3 : Below w.heap.size w w3 := by (repeat' (first | (with_reducible exact Below.refl _ _) | (with_reducible assumption) | (with_reducible refine below_drewN ?_ _) | (with_reducible refine Below.drew ?_) | (with_reducible refine Below.alloc ?_ ?_ _) | (with_reducible refine Below.setCell ?_ ?_ _) | (with_reducible refine below_via (by assumption) ?_ ?_) | go_size))
      rw [World.size_alloc] at hz3
      clear n1 m1 hN hE hb3 hB
      go_wp2_with fail
      go_roundw
      case rel => exact ⟨3, by omega, rfl, blk_set_ne m3 (by simp) _, blk_set n3 2 _, hB3.setCell (by simp) _⟩
      case measure => simp [intOf]
    · go_wp2_with fail
      have n1 := blk_alloc hN (Obj.cells #[.int .i64 44, .int .i64 4] 130)
      have m1 := blk_alloc hE (Obj.cells #[.int .i64 44, .int .i64 4] 130)
      have hl := blk_lt hN
      refine (field_Get_ok _ _ _ _ (by decide) hw.out).mono ?_; rw [Q3.out]; rintro e w3 ⟨rfl, hb3⟩
      have hz3 := hb3.size
      have n3 := blk_below n1 hb3 (by rw [World.size_alloc]; omega)
      have m3 := blk_below m1 hb3 (by rw [World.size_alloc]; omega)
      have cN : w3.cell? ⟨w.heap.size + 1, 3, none⟩ = some (.int .i64 0) := by rw [blk_cell n3]; rfl
      have fN := blk_free n3 3
      have hB3 : Below w.heap.size w w3 := by (repeat' (first | (with_reducible exact Below.refl _ _) | (with_reducible assumption) | (with_reducible refine below_drewN ?_ _) | (with_reducible refine Below.drew ?_) | (with_reducible refine Below.alloc ?_ ?_ _) | (with_reducible refine Below.setCell ?_ ?_ _) | (with_reducible refine below_via (by assumption) ?_ ?_) | go_size))
      rw [World.size_alloc] at hz3
      clear n1 m1 hN hE hb3 hB
      go_wp2_with fail
      go_roundw
      case rel => exact ⟨4, by omega, rfl, blk_set_ne m3 (by simp) _, blk_set n3 3 _, hB3.setCell (by simp) _⟩
      case measure => simp [intOf]
    · go_wp2_with fail
      have n1 := blk_alloc hN (Obj.cells #[.int .i64 48, .int .i64 1] 130)
      have m1 := blk_alloc hE (Obj.cells #[.int .i64 48, .int .i64 1] 130)
      have hl := blk_lt hN
      refine (field_Get_ok _ _ _ _ (by decide) hw.out).mono ?_; rw [Q4.out]; rintro e w3 ⟨rfl, hb3⟩
      have hz3 := hb3.size
      have n3 := blk_below n1 hb3 (by rw [World.size_alloc]; omega)
      have m3 := blk_below m1 hb3 (by rw [World.size_alloc]; omega)
      have cN : w3.cell? ⟨w.heap.size + 1, 4, none⟩ = some (.int .i64 0) := by rw [blk_cell n3]; rfl
      have fN := blk_free n3 4
      have hB3 : Below w.heap.size w w3 := by (repeat' (first | (with_reducible exact Below.refl _ _) | (with_reducible assumption) | (with_reducible refine below_drewN ?_ _) | (with_reducible refine Below.drew ?_) | (with_reducible refine Below.alloc ?_ ?_ _) | (with_reducible refine Below.setCell ?_ ?_ _) | (with_reducible refine below_via (by assumption) ?_ ?_) | go_size))
      rw [World.size_alloc] at hz3
      clear n1 m1 hN hE hb3 hB
      go_wp2_with fail
      go_roundw
      case rel => exact ⟨5, by omega, rfl, blk_set_ne m3 (by simp) _, blk_set n3 4 _, hB3.setCell (by simp) _⟩
      case measure => simp [intOf]
    · go_wp2_with fail
      have n1 := blk_alloc hN (Obj.cells #[.int .i64 49, .int .i64 1] 130)
      have m1 := blk_alloc hE (Obj.cells #[.int .i64 49, .int .i64 1] 130)
      have hl := blk_lt hN
      refine (field_Get_ok _ _ _ _ (by decide) hw.out).mono ?_; rw [Q5.out]; rintro e w3 ⟨rfl, hb3⟩
      have hz3 := hb3.size
      have n3 := blk_below n1 hb3 (by rw [World.size_alloc]; omega)
      have m3 := blk_below m1 hb3 (by rw [World.size_alloc]; omega)
      have cN : w3.cell? ⟨w.heap.size + 1, 5, none⟩ = some (.int .i64 0) := by rw [blk_cell n3]; rfl
      have fN := blk_free n3 5
      have hB3 : Below w.heap.size w w3 := by (repeat' (first | (with_reducible exact Below.refl _ _) | (with_reducible assumption) | (with_reducible refine below_drewN ?_ _) | (with_reducible refine Below.drew ?_) | (with_reducible refine Below.alloc ?_ ?_ _) | (with_reducible refine Below.setCell ?_ ?_ _) | (with_reducible refine below_via (by assumption) ?_ ?_) | go_size))
      rw [World.size_alloc] at hz3
      clear n1 m1 hN hE hb3 hB
      go_wp2_with fail
      go_roundw
      case rel => exact ⟨6, by omega, rfl, blk_set_ne m3 (by simp) _, blk_set n3 5 _, hB3.setCell (by simp) _⟩
      case measure => simp [intOf]
    · have c0 : wr.cell? ⟨w.heap.size + 1, 0, none⟩ = some (.int .i64 (wO x)) := by rw [blk_cell hN]; rfl
      have c1 : wr.cell? ⟨w.heap.size + 1, 1, none⟩ = some (.int .i64 (wG x)) := by rw [blk_cell hN]; rfl
      have c2 : wr.cell? ⟨w.heap.size + 1, 2, none⟩ = some (.int .i64 (wP x)) := by rw [blk_cell hN]; rfl
      have c3 : wr.cell? ⟨w.heap.size + 1, 3, none⟩ = some (.int .i64 (wU x)) := by rw [blk_cell hN]; rfl
      have c4 : wr.cell? ⟨w.heap.size + 1, 4, none⟩ = some (.int .i64 (x / 281474976710656 % 2)) := by rw [blk_cell hN]; rfl
      have c5 : wr.cell? ⟨w.heap.size + 1, 5, none⟩ = some (.int .i64 (x / 562949953421312 % 2)) := by rw [blk_cell hN]; rfl
      go_wp2_with fail
      have n1 := blk_new wr (Obj.cells #[.int .i64 (wO x), .int .i64 (wG x), .int .i64 (wP x), .int .i64 (wU x), .bool (wL x), .bool (wA x)] 91)
      have m1 := blk_alloc hE (Obj.cells #[.int .i64 (wO x), .int .i64 (wG x), .int .i64 (wP x), .int .i64 (wU x), .bool (wL x), .bool (wA x)] 91)
      have hl := blk_lt hE
      refine (entry_may _ _ _ _ (wL x) (wA x) _).mono ?_; rw [HB.out]; rintro e w4 ⟨rfl, hb4⟩
      have hz4 := hb4.size
      have n4 := blk_below n1 hb4 (by rw [World.size_alloc]; omega)
      have m4 := blk_below m1 hb4 (by rw [World.size_alloc]; omega)
      have hB4 : Below w.heap.size w w4 := by (repeat' (first | (with_reducible exact Below.refl _ _) | (with_reducible assumption) | (with_reducible refine below_drewN ?_ _) | (with_reducible refine Below.drew ?_) | (with_reducible refine Below.alloc ?_ ?_ _) | (with_reducible refine Below.setCell ?_ ?_ _) | (with_reducible refine below_via (by assumption) ?_ ?_) | go_size))
      rw [World.size_alloc] at hz4
      clear n1 m1 hE hN hb4 hB c0 c1 c2 c3 c4 c5
      have c0 : w4.cell? ⟨wr.heap.size, 0, none⟩ = some (.int .i64 (wO x)) := by rw [blk_cell n4]; rfl
      have d0 : w4.cell? ⟨w.heap.size, 0, none⟩ = some (.int .i64 0) := by rw [blk_cell m4]; rfl
      have f0 := blk_free m4 0
      have c1 : w4.cell? ⟨wr.heap.size, 1, none⟩ = some (.int .i64 (wG x)) := by rw [blk_cell n4]; rfl
      have d1 : w4.cell? ⟨w.heap.size, 1, none⟩ = some (.int .i64 0) := by rw [blk_cell m4]; rfl
      have f1 := blk_free m4 1
      have c2 : w4.cell? ⟨wr.heap.size, 2, none⟩ = some (.int .i64 (wP x)) := by rw [blk_cell n4]; rfl
      have d2 : w4.cell? ⟨w.heap.size, 2, none⟩ = some (.int .i64 0) := by rw [blk_cell m4]; rfl
      have f2 := blk_free m4 2
      have c3 : w4.cell? ⟨wr.heap.size, 3, none⟩ = some (.int .i64 (wU x)) := by rw [blk_cell n4]; rfl
      have d3 : w4.cell? ⟨w.heap.size, 3, none⟩ = some (.int .i64 0) := by rw [blk_cell m4]; rfl
      have f3 := blk_free m4 3
      have c4 : w4.cell? ⟨wr.heap.size, 4, none⟩ = some (.bool (wL x)) := by rw [blk_cell n4]; rfl
      have d4 : w4.cell? ⟨w.heap.size, 4, none⟩ = some (.bool false) := by rw [blk_cell m4]; rfl
      have f4 := blk_free m4 4
      have c5 : w4.cell? ⟨wr.heap.size, 5, none⟩ = some (.bool (wA x)) := by rw [blk_cell n4]; rfl
      have d5 : w4.cell? ⟨w.heap.size, 5, none⟩ = some (.bool false) := by rw [blk_cell m4]; rfl
      have f5 := blk_free m4 5
      clear n4 m4
      cases b
      · go_wp2_with fail
        exact bodyPost_ret (v := .tuple #[.agg #[.int .i64 0, .int .i64 0, .int .i64 0, .int .i64 0, .bool false, .bool false], .int .i64 2]) (by simp [results, Try.results70, go_sem, d0, d1, d2, d3, d4, d5]) rfl ⟨rfl, by (repeat' (first | (with_reducible exact Below.refl _ _) | (with_reducible assumption) | (with_reducible refine below_drewN ?_ _) | (with_reducible refine Below.drew ?_) | (with_reducible refine Below.alloc ?_ ?_ _) | (with_reducible refine Below.setCell ?_ ?_ _) | (with_reducible refine below_via (by assumption) ?_ ?_) | go_size))⟩
      · go_wp2_with fail
        exact bodyPost_ret (v := .tuple #[.agg #[.int .i64 (wO x), .int .i64 (wG x), .int .i64 (wP x), .int .i64 (wU x), .bool (wL x), .bool (wA x)], .int .i64 0]) (by simp [results, Try.results70, go_sem, d0, d1, d2, d3, d4, d5]) rfl ⟨rfl, by (repeat' (first | (with_reducible exact Below.refl _ _) | (with_reducible assumption) | (with_reducible refine below_drewN ?_ _) | (with_reducible refine Below.drew ?_) | (with_reducible refine Below.alloc ?_ ?_ _) | (with_reducible refine Below.setCell ?_ ?_ _) | (with_reducible refine below_via (by assumption) ?_ ?_) | go_size))⟩
def eOk (x : Int) : Int := if eIs x = true then 0 else 2
def uO (x : Int) : Int := if eIs x = true then wO x else 0
def uG (x : Int) : Int := if eIs x = true then wG x else 0
def uP (x : Int) : Int := if eIs x = true then wP x else 0
def uU (x : Int) : Int := if eIs x = true then wU x else 0
def uL (x : Int) : Bool := if eIs x = true then wL x else false
def uA (x : Int) : Bool := if eIs x = true then wA x else false
theorem u_yes {x : Int} (h : eIs x = true) : uO x = wO x ∧ uG x = wG x ∧ uP x = wP x ∧ uU x = wU x ∧ uL x = wL x ∧ uA x = wA x ∧ eOk x = 0 := by
  unfold uO uG uP uU uL uA eOk; simp [h]
theorem u_no {x : Int} (h : eIs x = false) : uO x = 0 ∧ uG x = 0 ∧ uP x = 0 ∧ uU x = 0 ∧ uL x = false ∧ uA x = false ∧ eOk x = 2 := by
  unfold uO uG uP uU uL uA eOk; simp [h]
set_option maxHeartbeats 1000000 in
theorem entry_Unpack (x : Int) (w : World) : Calls Try.prog 70 #[.int .i64 x] w fun e w' =>
    e = .returned (.tuple #[.agg #[.int .i64 (uO x), .int .i64 (uG x), .int .i64 (uP x), .int .i64 (uU x), .bool (uL x), .bool (uA x)], .int .i64 (eOk x)]) ∧ Below w.heap.size w w' := by
  by_cases h : 0 ≤ x ∧ x < 1125899906842624
  · rcases bool_cases (b := eMay (wO x) (wG x) (wP x) (wU x) (wL x) (wA x)) with hb | hb
    · obtain ⟨a1, a2, a3, a4, a5, a6, a7⟩ := u_yes (x := x) (by unfold eIs; simp [h, hb])
      rw [a1, a2, a3, a4, a5, a6, a7]
      exact entry_Unpack_in x w h.1 h.2 true hb
    · obtain ⟨a1, a2, a3, a4, a5, a6, a7⟩ := u_no (x := x) (by unfold eIs; simp [hb])
      rw [a1, a2, a3, a4, a5, a6, a7]
      exact entry_Unpack_in x w h.1 h.2 false hb
  · obtain ⟨a1, a2, a3, a4, a5, a6, a7⟩ := u_no (x := x) (by unfold eIs; simp; intro h1 h2; exact absurd ⟨h1, h2⟩ h)
    rw [a1, a2, a3, a4, a5, a6, a7]
    have hh : x < 0 ∨ (0 ≤ x ∧ 1125899906842624 ≤ x) := by omega
    clear h a1 a2 a3 a4 a5 a6 a7
    rcases hh with hh | ⟨hh, hh'⟩
    all_goals
      go_enter Try.func70, Try.ntmps70
      go_wp2_with fail
      exact bodyPost_ret (v := .tuple #[.agg #[.int .i64 0, .int .i64 0, .int .i64 0, .int .i64 0, .bool false, .bool false], .int .i64 2]) (by simp [results, Try.results70, go_sem]) rfl ⟨rfl, by (repeat' (first | (with_reducible exact Below.refl _ _) | (with_reducible assumption) | (with_reducible refine below_drewN ?_ _) | (with_reducible refine Below.drew ?_) | (with_reducible refine Below.alloc ?_ ?_ _) | (with_reducible refine Below.setCell ?_ ?_ _) | (with_reducible refine below_via (by assumption) ?_ ?_) | go_size))⟩
end Go.Proofs.Ytmbkkpeepbfgoaa
