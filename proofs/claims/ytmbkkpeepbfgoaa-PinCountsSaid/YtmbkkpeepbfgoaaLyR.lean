/- The walks of layout's reference. -/
import Derived.LoopTactic
import Derived.Outline
import Derived.Test.YtmbkkpeepbfgoaaProg
import Derived.Test.YtmbkkpeepbfgoaaLyW
import Derived.Test.YtmbkkpeepbfgoaaLyQ
import Derived.Test.YtmbkkpeepbfgoaaOwn2
namespace Go.Proofs.Ytmbkkpeepbfgoaa
set_option linter.unusedVariables false
set_option linter.unusedSimpArgs false
open Go.RowKit
set_option maxHeartbeats 2000000 in
theorem ref06_May (a s t : Int) (w : World) : Calls Try.prog 23 #[.agg #[.int .i64 a, .int .i64 s, .int .i64 t]] w fun e w' => e = .returned (.bool (cfgOk a s t)) ∧ Below w.heap.size w w' := by
  by_cases c0 : 8 ≤ a
  rotate_left
  · have e := Lib.hid (show cfgOk a s t = false from decide_eq_false (by omega))
    have n0 : a < 8 := by omega
    clear c0
    go_enter Try.func23, Try.ntmps23
    go_wp2
    go_ret
    exact ⟨by rw [e.out]; (first | rfl | (apply retb; first | rfl | (simp; done) | (simp; omega))), by (repeat' (first | (with_reducible exact Below.refl _ _) | (with_reducible assumption) | (with_reducible refine below_drewN ?_ _) | (with_reducible refine Below.drew ?_) | (with_reducible refine Below.alloc ?_ ?_ _) | (with_reducible refine Below.setCell ?_ ?_ _) | (with_reducible refine below_via (by assumption) ?_ ?_) | go_size))⟩
  by_cases c1 : a ≤ 4096
  rotate_left
  · have e := Lib.hid (show cfgOk a s t = false from decide_eq_false (by omega))
    have n1 : 4096 < a := by omega
    clear c1
    go_enter Try.func23, Try.ntmps23
    go_wp2
    go_ret
    exact ⟨by rw [e.out]; (first | rfl | (apply retb; first | rfl | (simp; done) | (simp; omega))), by (repeat' (first | (with_reducible exact Below.refl _ _) | (with_reducible assumption) | (with_reducible refine below_drewN ?_ _) | (with_reducible refine Below.drew ?_) | (with_reducible refine Below.alloc ?_ ?_ _) | (with_reducible refine Below.setCell ?_ ?_ _) | (with_reducible refine below_via (by assumption) ?_ ?_) | go_size))⟩
  by_cases c2 : a % 8 = 0
  rotate_left
  · have e := Lib.hid (show cfgOk a s t = false from decide_eq_false (by omega))
    have m : (a % 8 == 0) = false := by simpa using c2
    clear c2
    go_enter Try.func23, Try.ntmps23
    go_wp2
    go_ret
    exact ⟨by rw [e.out]; (first | rfl | (apply retb; first | rfl | (simp; done) | (simp; omega))), by (repeat' (first | (with_reducible exact Below.refl _ _) | (with_reducible assumption) | (with_reducible refine below_drewN ?_ _) | (with_reducible refine Below.drew ?_) | (with_reducible refine Below.alloc ?_ ?_ _) | (with_reducible refine Below.setCell ?_ ?_ _) | (with_reducible refine below_via (by assumption) ?_ ?_) | go_size))⟩
  have m : (a % 8 == 0) = true := by simpa using c2
  by_cases c3 : 1 ≤ s
  rotate_left
  · have e := Lib.hid (show cfgOk a s t = false from decide_eq_false (by omega))
    have n3 : s < 1 := by omega
    clear c3
    go_enter Try.func23, Try.ntmps23
    go_wp2
    go_ret
    exact ⟨by rw [e.out]; (first | rfl | (apply retb; first | rfl | (simp; done) | (simp; omega))), by (repeat' (first | (with_reducible exact Below.refl _ _) | (with_reducible assumption) | (with_reducible refine below_drewN ?_ _) | (with_reducible refine Below.drew ?_) | (with_reducible refine Below.alloc ?_ ?_ _) | (with_reducible refine Below.setCell ?_ ?_ _) | (with_reducible refine below_via (by assumption) ?_ ?_) | go_size))⟩
  by_cases c4 : s ≤ 64
  rotate_left
  · have e := Lib.hid (show cfgOk a s t = false from decide_eq_false (by omega))
    have n4 : 64 < s := by omega
    clear c4
    go_enter Try.func23, Try.ntmps23
    go_wp2
    go_ret
    exact ⟨by rw [e.out]; (first | rfl | (apply retb; first | rfl | (simp; done) | (simp; omega))), by (repeat' (first | (with_reducible exact Below.refl _ _) | (with_reducible assumption) | (with_reducible refine below_drewN ?_ _) | (with_reducible refine Below.drew ?_) | (with_reducible refine Below.alloc ?_ ?_ _) | (with_reducible refine Below.setCell ?_ ?_ _) | (with_reducible refine below_via (by assumption) ?_ ?_) | go_size))⟩
  by_cases c5 : 1 ≤ t
  rotate_left
  · have e := Lib.hid (show cfgOk a s t = false from decide_eq_false (by omega))
    have n5 : t < 1 := by omega
    clear c5
    go_enter Try.func23, Try.ntmps23
    go_wp2
    go_ret
    exact ⟨by rw [e.out]; (first | rfl | (apply retb; first | rfl | (simp; done) | (simp; omega))), by (repeat' (first | (with_reducible exact Below.refl _ _) | (with_reducible assumption) | (with_reducible refine below_drewN ?_ _) | (with_reducible refine Below.drew ?_) | (with_reducible refine Below.alloc ?_ ?_ _) | (with_reducible refine Below.setCell ?_ ?_ _) | (with_reducible refine below_via (by assumption) ?_ ?_) | go_size))⟩
  by_cases c6 : t ≤ 4
  rotate_left
  · have e := Lib.hid (show cfgOk a s t = false from decide_eq_false (by omega))
    have n6 : 4 < t := by omega
    clear c6
    go_enter Try.func23, Try.ntmps23
    go_wp2
    go_ret
    exact ⟨by rw [e.out]; (first | rfl | (apply retb; first | rfl | (simp; done) | (simp; omega))), by (repeat' (first | (with_reducible exact Below.refl _ _) | (with_reducible assumption) | (with_reducible refine below_drewN ?_ _) | (with_reducible refine Below.drew ?_) | (with_reducible refine Below.alloc ?_ ?_ _) | (with_reducible refine Below.setCell ?_ ?_ _) | (with_reducible refine below_via (by assumption) ?_ ?_) | go_size))⟩
  have e := Lib.hid (show cfgOk a s t = true from decide_eq_true (by omega))
  clear c2
  go_enter Try.func23, Try.ntmps23
  go_wp2
  go_ret
  exact ⟨by rw [e.out]; (first | rfl | (apply retb; first | rfl | (simp; done) | (simp; omega))), by (repeat' (first | (with_reducible exact Below.refl _ _) | (with_reducible assumption) | (with_reducible refine below_drewN ?_ _) | (with_reducible refine Below.drew ?_) | (with_reducible refine Below.alloc ?_ ?_ _) | (with_reducible refine Below.setCell ?_ ?_ _) | (with_reducible refine below_via (by assumption) ?_ ?_) | go_size))⟩
def rWords (a s t : Int) : Int := lWords (ofT a s t) (ofS a s t)
theorem rWords_yes {a s t : Int} (h : cfgOk a s t = true) : rWords a s t = 4 + t + 3 * s := by
  obtain ⟨h1, h2, -⟩ := of_yes h
  have := cfgOk_of h
  unfold rWords; rw [h1, h2, lWords_ok (by omega)]
theorem rWords_no {a s t : Int} (h : cfgOk a s t = false) : rWords a s t = 0 := by
  obtain ⟨h1, h2, -⟩ := of_no h
  unfold rWords; rw [h1, h2]; rfl
set_option maxHeartbeats 1000000 in
theorem ref06_Words (a s t : Int) (w : World) : Calls Try.prog 39 #[.agg #[.int .i64 a, .int .i64 s, .int .i64 t]] w fun e w' => e = .returned (.int .i64 (rWords a s t)) ∧ Below w.heap.size w w' := by
  rcases bool_cases (b := cfgOk a s t) with h | h
  · have e := Lib.hid (rWords_yes h)
    have H := Lib.hid h
    obtain ⟨h1, h2, h3, h4, h5, h6, h7⟩ := cfgOk_of h
    clear h h3
    go_enter Try.func39, Try.ntmps39
    go_wp2_with fail
    have a1 : (w.alloc (Obj.cells #[.int .i64 a, .int .i64 s, .int .i64 t] 26)).cell? ⟨w.heap.size, 1, none⟩ = some (.int .i64 s) := by simp
    have a2 : (w.alloc (Obj.cells #[.int .i64 a, .int .i64 s, .int .i64 t] 26)).cell? ⟨w.heap.size, 2, none⟩ = some (.int .i64 t) := by simp
    go_wp2_with (go_at_call 23; refine (ref06_May _ _ _ _).mono ?_; rw [H.out]; rintro e w' ⟨rfl, hb⟩; have a1 := (hb.cell (p := ⟨w.heap.size, 1, none⟩) (by simp)).trans a1; have a2 := (hb.cell (p := ⟨w.heap.size, 2, none⟩) (by simp)).trans a2; have hz := hb.size; (try simp only [World.size_alloc, World.size_drew, World.size_setCell, size_drewN] at hz))
    go_ret
    exact ⟨by rw [e.out]; rfl, by (repeat' (first | (with_reducible exact Below.refl _ _) | (with_reducible assumption) | (with_reducible refine below_drewN ?_ _) | (with_reducible refine Below.drew ?_) | (with_reducible refine Below.alloc ?_ ?_ _) | (with_reducible refine Below.setCell ?_ ?_ _) | (with_reducible refine below_via (by assumption) ?_ ?_) | go_size))⟩
  · have e := Lib.hid (rWords_no h)
    have H := Lib.hid h
    clear h
    go_enter Try.func39, Try.ntmps39
    go_wp2_with (go_at_call 23; refine (ref06_May _ _ _ _).mono ?_; rw [H.out]; rintro e w' ⟨rfl, hb⟩; have hz := hb.size; (try simp only [World.size_alloc, World.size_drew, World.size_setCell, size_drewN] at hz))
    go_ret
    exact ⟨by rw [e.out]; rfl, by (repeat' (first | (with_reducible exact Below.refl _ _) | (with_reducible assumption) | (with_reducible refine below_drewN ?_ _) | (with_reducible refine Below.drew ?_) | (with_reducible refine Below.alloc ?_ ?_ _) | (with_reducible refine Below.setCell ?_ ?_ _) | (with_reducible refine below_via (by assumption) ?_ ?_) | go_size))⟩
/-- the place of a kind of word. -/
def rAt (a s t k n : Int) : Int :=
  if cfgOk a s t = true then (if k ≤ 3 then k else if k = 4 then lNote t n else lOf t s n (k - 5)) else -1
set_option maxHeartbeats 2000000 in
theorem ref06_At (a s t k n : Int) (w : World) (k0 : 0 ≤ k) (k1 : k ≤ 7) : Calls Try.prog 58 #[.agg #[.int .i64 a, .int .i64 s, .int .i64 t], .int .i64 k, .int .i64 n] w fun e w' => e = .returned (.int .i64 (rAt a s t k n)) ∧ Below w.heap.size w w' := by
  rcases bool_cases (b := cfgOk a s t) with h | h
  rotate_left
  · have e := Lib.hid (show rAt a s t k n = -1 by unfold rAt; rw [if_neg (by rw [h]; decide)])
    have H := Lib.hid h
    clear h
    go_enter Try.func58, Try.ntmps58
    go_wp2_with (go_at_call 23; refine (ref06_May _ _ _ _).mono ?_; rw [H.out]; rintro e w' ⟨rfl, hb⟩; have hz := hb.size; (try simp only [World.size_alloc, World.size_drew, World.size_setCell, size_drewN] at hz))
    go_ret
    exact ⟨by rw [e.out]; rfl, by (repeat' (first | (with_reducible exact Below.refl _ _) | (with_reducible assumption) | (with_reducible refine below_drewN ?_ _) | (with_reducible refine Below.drew ?_) | (with_reducible refine Below.alloc ?_ ?_ _) | (with_reducible refine Below.setCell ?_ ?_ _) | (with_reducible refine below_via (by assumption) ?_ ?_) | go_size))⟩
  have H := Lib.hid h
  obtain ⟨h1, h2, h3, h4, h5, h6, h7⟩ := cfgOk_of h
  have er : rAt a s t k n = if k ≤ 3 then k else if k = 4 then lNote t n else lOf t s n (k - 5) := by unfold rAt; rw [if_pos h]
  clear h h3
  by_cases c : k ≤ 3
  · have e := Lib.hid (show rAt a s t k n = k by rw [er]; rw [if_pos c])
    clear er 
    go_enter Try.func58, Try.ntmps58
    go_wp2_with fail
    have a1 : (w.alloc (Obj.cells #[.int .i64 a, .int .i64 s, .int .i64 t] 26)).cell? ⟨w.heap.size, 1, none⟩ = some (.int .i64 s) := by simp
    have a2 : (w.alloc (Obj.cells #[.int .i64 a, .int .i64 s, .int .i64 t] 26)).cell? ⟨w.heap.size, 2, none⟩ = some (.int .i64 t) := by simp
    go_wp2_with (go_at_call 23; refine (ref06_May _ _ _ _).mono ?_; rw [H.out]; rintro e w' ⟨rfl, hb⟩; have a1 := (hb.cell (p := ⟨w.heap.size, 1, none⟩) (by simp)).trans a1; have a2 := (hb.cell (p := ⟨w.heap.size, 2, none⟩) (by simp)).trans a2; have hz := hb.size; (try simp only [World.size_alloc, World.size_drew, World.size_setCell, size_drewN] at hz))
    go_ret
    exact ⟨by rw [e.out]; (first | rfl | exact ret1 (by omega)), by (repeat' (first | (with_reducible exact Below.refl _ _) | (with_reducible assumption) | (with_reducible refine below_drewN ?_ _) | (with_reducible refine Below.drew ?_) | (with_reducible refine Below.alloc ?_ ?_ _) | (with_reducible refine Below.setCell ?_ ?_ _) | (with_reducible refine below_via (by assumption) ?_ ?_) | go_size))⟩
  have c' : 3 < k := by omega
  by_cases d : k = 4
  · subst d
    have er2 : rAt a s t 4 n = lNote t n := by rw [er, if_neg c, if_pos rfl]
    clear er
    have er := er2
    clear er2 c
    by_cases f : 0 ≤ n
    · by_cases g : n < t
      · have e := Lib.hid (show rAt a s t 4 n = 4 + n by rw [er]; unfold lNote; rw [if_pos ⟨f, g⟩])
        clear er 
        go_enter Try.func58, Try.ntmps58
        go_wp2_with fail
        have a1 : (w.alloc (Obj.cells #[.int .i64 a, .int .i64 s, .int .i64 t] 26)).cell? ⟨w.heap.size, 1, none⟩ = some (.int .i64 s) := by simp
        have a2 : (w.alloc (Obj.cells #[.int .i64 a, .int .i64 s, .int .i64 t] 26)).cell? ⟨w.heap.size, 2, none⟩ = some (.int .i64 t) := by simp
        go_wp2_with (go_at_call 23; refine (ref06_May _ _ _ _).mono ?_; rw [H.out]; rintro e w' ⟨rfl, hb⟩; have a1 := (hb.cell (p := ⟨w.heap.size, 1, none⟩) (by simp)).trans a1; have a2 := (hb.cell (p := ⟨w.heap.size, 2, none⟩) (by simp)).trans a2; have hz := hb.size; (try simp only [World.size_alloc, World.size_drew, World.size_setCell, size_drewN] at hz))
        go_ret
        exact ⟨by rw [e.out]; (first | rfl | exact ret1 (by omega)), by (repeat' (first | (with_reducible exact Below.refl _ _) | (with_reducible assumption) | (with_reducible refine below_drewN ?_ _) | (with_reducible refine Below.drew ?_) | (with_reducible refine Below.alloc ?_ ?_ _) | (with_reducible refine Below.setCell ?_ ?_ _) | (with_reducible refine below_via (by assumption) ?_ ?_) | go_size))⟩
      · have g' : t ≤ n := by omega
        have e := Lib.hid (show rAt a s t 4 n = -1 by rw [er]; unfold lNote; rw [if_neg (by omega)])
        clear er g
        go_enter Try.func58, Try.ntmps58
        go_wp2_with fail
        have a1 : (w.alloc (Obj.cells #[.int .i64 a, .int .i64 s, .int .i64 t] 26)).cell? ⟨w.heap.size, 1, none⟩ = some (.int .i64 s) := by simp
        have a2 : (w.alloc (Obj.cells #[.int .i64 a, .int .i64 s, .int .i64 t] 26)).cell? ⟨w.heap.size, 2, none⟩ = some (.int .i64 t) := by simp
        go_wp2_with (go_at_call 23; refine (ref06_May _ _ _ _).mono ?_; rw [H.out]; rintro e w' ⟨rfl, hb⟩; have a1 := (hb.cell (p := ⟨w.heap.size, 1, none⟩) (by simp)).trans a1; have a2 := (hb.cell (p := ⟨w.heap.size, 2, none⟩) (by simp)).trans a2; have hz := hb.size; (try simp only [World.size_alloc, World.size_drew, World.size_setCell, size_drewN] at hz))
        go_ret
        exact ⟨by rw [e.out]; (first | rfl | exact ret1 (by omega)), by (repeat' (first | (with_reducible exact Below.refl _ _) | (with_reducible assumption) | (with_reducible refine below_drewN ?_ _) | (with_reducible refine Below.drew ?_) | (with_reducible refine Below.alloc ?_ ?_ _) | (with_reducible refine Below.setCell ?_ ?_ _) | (with_reducible refine below_via (by assumption) ?_ ?_) | go_size))⟩
    · have f' : n < 0 := by omega
      have e := Lib.hid (show rAt a s t 4 n = -1 by rw [er]; unfold lNote; rw [if_neg (by omega)])
      clear er f
      go_enter Try.func58, Try.ntmps58
      go_wp2_with fail
      have a1 : (w.alloc (Obj.cells #[.int .i64 a, .int .i64 s, .int .i64 t] 26)).cell? ⟨w.heap.size, 1, none⟩ = some (.int .i64 s) := by simp
      have a2 : (w.alloc (Obj.cells #[.int .i64 a, .int .i64 s, .int .i64 t] 26)).cell? ⟨w.heap.size, 2, none⟩ = some (.int .i64 t) := by simp
      go_wp2_with (go_at_call 23; refine (ref06_May _ _ _ _).mono ?_; rw [H.out]; rintro e w' ⟨rfl, hb⟩; have a1 := (hb.cell (p := ⟨w.heap.size, 1, none⟩) (by simp)).trans a1; have a2 := (hb.cell (p := ⟨w.heap.size, 2, none⟩) (by simp)).trans a2; have hz := hb.size; (try simp only [World.size_alloc, World.size_drew, World.size_setCell, size_drewN] at hz))
      go_ret
      exact ⟨by rw [e.out]; (first | rfl | exact ret1 (by omega)), by (repeat' (first | (with_reducible exact Below.refl _ _) | (with_reducible assumption) | (with_reducible refine below_drewN ?_ _) | (with_reducible refine Below.drew ?_) | (with_reducible refine Below.alloc ?_ ?_ _) | (with_reducible refine Below.setCell ?_ ?_ _) | (with_reducible refine below_via (by assumption) ?_ ?_) | go_size))⟩
  have er2 : rAt a s t k n = lOf t s n (k - 5) := by rw [er, if_neg c, if_neg d]
  clear er
  have er := er2
  have d' : (k == 4) = false := by simpa using d
  clear er2 c d
  by_cases f : 0 ≤ n
  · by_cases g : n < s
    · have e := Lib.hid (show rAt a s t k n = 4 + t + 3 * n + (k - 5) by rw [er]; unfold lOf; rw [if_pos ⟨f, g⟩])
      clear er 
      go_enter Try.func58, Try.ntmps58
      go_wp2_with fail
      have a1 : (w.alloc (Obj.cells #[.int .i64 a, .int .i64 s, .int .i64 t] 26)).cell? ⟨w.heap.size, 1, none⟩ = some (.int .i64 s) := by simp
      have a2 : (w.alloc (Obj.cells #[.int .i64 a, .int .i64 s, .int .i64 t] 26)).cell? ⟨w.heap.size, 2, none⟩ = some (.int .i64 t) := by simp
      go_wp2_with (go_at_call 23; refine (ref06_May _ _ _ _).mono ?_; rw [H.out]; rintro e w' ⟨rfl, hb⟩; have a1 := (hb.cell (p := ⟨w.heap.size, 1, none⟩) (by simp)).trans a1; have a2 := (hb.cell (p := ⟨w.heap.size, 2, none⟩) (by simp)).trans a2; have hz := hb.size; (try simp only [World.size_alloc, World.size_drew, World.size_setCell, size_drewN] at hz))
      go_ret
      exact ⟨by rw [e.out]; (first | rfl | exact ret1 (by omega)), by (repeat' (first | (with_reducible exact Below.refl _ _) | (with_reducible assumption) | (with_reducible refine below_drewN ?_ _) | (with_reducible refine Below.drew ?_) | (with_reducible refine Below.alloc ?_ ?_ _) | (with_reducible refine Below.setCell ?_ ?_ _) | (with_reducible refine below_via (by assumption) ?_ ?_) | go_size))⟩
    · have g' : s ≤ n := by omega
      have e := Lib.hid (show rAt a s t k n = -1 by rw [er]; unfold lOf; rw [if_neg (by omega)])
      clear er g
      go_enter Try.func58, Try.ntmps58
      go_wp2_with fail
      have a1 : (w.alloc (Obj.cells #[.int .i64 a, .int .i64 s, .int .i64 t] 26)).cell? ⟨w.heap.size, 1, none⟩ = some (.int .i64 s) := by simp
      have a2 : (w.alloc (Obj.cells #[.int .i64 a, .int .i64 s, .int .i64 t] 26)).cell? ⟨w.heap.size, 2, none⟩ = some (.int .i64 t) := by simp
      go_wp2_with (go_at_call 23; refine (ref06_May _ _ _ _).mono ?_; rw [H.out]; rintro e w' ⟨rfl, hb⟩; have a1 := (hb.cell (p := ⟨w.heap.size, 1, none⟩) (by simp)).trans a1; have a2 := (hb.cell (p := ⟨w.heap.size, 2, none⟩) (by simp)).trans a2; have hz := hb.size; (try simp only [World.size_alloc, World.size_drew, World.size_setCell, size_drewN] at hz))
      go_ret
      exact ⟨by rw [e.out]; (first | rfl | exact ret1 (by omega)), by (repeat' (first | (with_reducible exact Below.refl _ _) | (with_reducible assumption) | (with_reducible refine below_drewN ?_ _) | (with_reducible refine Below.drew ?_) | (with_reducible refine Below.alloc ?_ ?_ _) | (with_reducible refine Below.setCell ?_ ?_ _) | (with_reducible refine below_via (by assumption) ?_ ?_) | go_size))⟩
  · have f' : n < 0 := by omega
    have e := Lib.hid (show rAt a s t k n = -1 by rw [er]; unfold lOf; rw [if_neg (by omega)])
    clear er f
    go_enter Try.func58, Try.ntmps58
    go_wp2_with fail
    have a1 : (w.alloc (Obj.cells #[.int .i64 a, .int .i64 s, .int .i64 t] 26)).cell? ⟨w.heap.size, 1, none⟩ = some (.int .i64 s) := by simp
    have a2 : (w.alloc (Obj.cells #[.int .i64 a, .int .i64 s, .int .i64 t] 26)).cell? ⟨w.heap.size, 2, none⟩ = some (.int .i64 t) := by simp
    go_wp2_with (go_at_call 23; refine (ref06_May _ _ _ _).mono ?_; rw [H.out]; rintro e w' ⟨rfl, hb⟩; have a1 := (hb.cell (p := ⟨w.heap.size, 1, none⟩) (by simp)).trans a1; have a2 := (hb.cell (p := ⟨w.heap.size, 2, none⟩) (by simp)).trans a2; have hz := hb.size; (try simp only [World.size_alloc, World.size_drew, World.size_setCell, size_drewN] at hz))
    go_ret
    exact ⟨by rw [e.out]; (first | rfl | exact ret1 (by omega)), by (repeat' (first | (with_reducible exact Below.refl _ _) | (with_reducible assumption) | (with_reducible refine below_drewN ?_ _) | (with_reducible refine Below.drew ?_) | (with_reducible refine Below.alloc ?_ ?_ _) | (with_reducible refine Below.setCell ?_ ?_ _) | (with_reducible refine below_via (by assumption) ?_ ?_) | go_size))⟩
end Go.Proofs.Ytmbkkpeepbfgoaa
