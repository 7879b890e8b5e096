/- The walks of layout's functions. -/
import Derived.Test.YtmbkkpeepbfgoaaProg
import Derived.Test.YtmbkkpeepbfgoaaLyP
import Derived.Test.YtmbkkpeepbfgoaaFnW
namespace Go.Proofs.Ytmbkkpeepbfgoaa
set_option linter.unusedVariables false
set_option linter.unusedSimpArgs false
open Go.RowKit
set_option maxHeartbeats 400000 in
theorem layout_in (n a b : Int) (w : World) : Calls Try.prog 68 #[.int .i64 n, .int .i64 a, .int .i64 b] w fun e w' => e = .returned (.bool (lIn n a b)) ∧ w = w' := by
  by_cases h : a ≤ n
  · by_cases h2 : n ≤ b
    · have e := Lib.hid (show lIn n a b = true by simp [lIn]; omega)
      go_enter Try.func68, Try.ntmps68
      go_wp2
      go_ret
      exact ⟨by rw [e.out]; (first | rfl | (apply retb; first | rfl | (simp; done) | (simp; omega))), rfl⟩
    · have e := Lib.hid (show lIn n a b = false by simp [lIn]; omega)
      have h3 : b < n := by omega
      clear h2
      go_enter Try.func68, Try.ntmps68
      go_wp2
      go_ret
      exact ⟨by rw [e.out]; (first | rfl | (apply retb; first | rfl | (simp; done) | (simp; omega))), rfl⟩
  · have e := Lib.hid (show lIn n a b = false by simp [lIn]; omega)
    have h' : n < a := by omega
    clear h
    go_enter Try.func68, Try.ntmps68
    go_wp2
    go_ret
    exact ⟨by rw [e.out]; (first | rfl | (apply retb; first | rfl | (simp; done) | (simp; omega))), rfl⟩
theorem lIn_iff {n a b : Int} : lIn n a b = true ↔ a ≤ n ∧ n ≤ b := by simp [lIn]
set_option maxHeartbeats 2000000 in
theorem layout_Of (a s t : Int) (w : World) : Calls Try.prog 43 #[.agg #[.int .i64 a, .int .i64 s, .int .i64 t]] w fun e w' =>
    e = .returned (.tuple #[.agg #[.int .i64 (ofT a s t), .int .i64 (ofS a s t)], .int .i64 (ofE a s t)]) ∧ Below w.heap.size w w' := by
  rcases bool_cases (b := cfgOk a s t) with h | h
  · obtain ⟨e1, e2, e3⟩ := of_yes h
    obtain ⟨h1, h2, h3, h4, h5, h6, h7⟩ := cfgOk_of h
    have E1 := Lib.hid e1
    have E2 := Lib.hid e2
    have E3 := Lib.hid e3
    have i1 := Lib.hid (lIn_iff.2 ⟨h1, h2⟩)
    have i2 := Lib.hid (lIn_iff.2 ⟨h4, h5⟩)
    have i3 := Lib.hid (lIn_iff.2 ⟨h6, h7⟩)
    have m : (a % 8 != 0) = false := by rw [h3]; rfl
    clear e1 e2 e3 h
    clear h3
    go_enter Try.func43, Try.ntmps43
    go_wp2_with (go_at_call 68; refine (layout_in _ _ _ _).mono ?_; (first | rw [i1.out] | rw [i2.out] | rw [i3.out]); rintro e w' ⟨rfl, rfl⟩)
    exact bodyPost_ret (v := .tuple #[.agg #[.int .i64 t, .int .i64 s], .int .i64 0]) (by simp [results, Try.results43, go_sem]) rfl ⟨by rw [E1.out, E2.out, E3.out], by (repeat' (first | (with_reducible exact Below.refl _ _) | (with_reducible assumption) | (with_reducible refine below_drewN ?_ _) | (with_reducible refine Below.drew ?_) | (with_reducible refine Below.alloc ?_ ?_ _) | (with_reducible refine Below.setCell ?_ ?_ _) | (with_reducible refine below_via (by assumption) ?_ ?_) | go_size))⟩
  · obtain ⟨e1, e2, e3⟩ := of_no h
    have E1 := Lib.hid e1
    have E2 := Lib.hid e2
    have E3 := Lib.hid e3
    have hn := cfgOk_no h
    clear e1 e2 e3 h
    rcases bool_cases (b := lIn a 8 4096) with i1 | i1
    rotate_left
    · have i1 := Lib.hid i1
      clear hn
      go_enter Try.func43, Try.ntmps43
      go_wp2_with (go_at_call 68; refine (layout_in _ _ _ _).mono ?_; rw [i1.out]; rintro e w' ⟨rfl, rfl⟩)
      exact bodyPost_ret (v := .tuple #[.agg #[.int .i64 0, .int .i64 0], .int .i64 1]) (by simp [results, Try.results43, go_sem]) rfl ⟨by rw [E1.out, E2.out, E3.out], by (repeat' (first | (with_reducible exact Below.refl _ _) | (with_reducible assumption) | (with_reducible refine below_drewN ?_ _) | (with_reducible refine Below.drew ?_) | (with_reducible refine Below.alloc ?_ ?_ _) | (with_reducible refine Below.setCell ?_ ?_ _) | (with_reducible refine below_via (by assumption) ?_ ?_) | go_size))⟩
    obtain ⟨h1, h2⟩ := lIn_iff.1 i1
    have I1 := Lib.hid i1
    clear i1
    by_cases m : a % 8 = 0
    rotate_left
    · have m : (a % 8 != 0) = true := by simpa using m
      clear hn
      go_enter Try.func43, Try.ntmps43
      go_wp2_with (go_at_call 68; refine (layout_in _ _ _ _).mono ?_; rw [I1.out]; rintro e w' ⟨rfl, rfl⟩)
      exact bodyPost_ret (v := .tuple #[.agg #[.int .i64 0, .int .i64 0], .int .i64 1]) (by simp [results, Try.results43, go_sem]) rfl ⟨by rw [E1.out, E2.out, E3.out], by (repeat' (first | (with_reducible exact Below.refl _ _) | (with_reducible assumption) | (with_reducible refine below_drewN ?_ _) | (with_reducible refine Below.drew ?_) | (with_reducible refine Below.alloc ?_ ?_ _) | (with_reducible refine Below.setCell ?_ ?_ _) | (with_reducible refine below_via (by assumption) ?_ ?_) | go_size))⟩
    have m' : (a % 8 != 0) = false := by rw [m]; rfl
    rcases bool_cases (b := lIn s 1 64) with i2 | i2
    rotate_left
    · have i2 := Lib.hid i2
      clear hn m
      go_enter Try.func43, Try.ntmps43
      go_wp2_with (go_at_call 68; refine (layout_in _ _ _ _).mono ?_; (first | rw [I1.out] | rw [i2.out]); rintro e w' ⟨rfl, rfl⟩)
      exact bodyPost_ret (v := .tuple #[.agg #[.int .i64 0, .int .i64 0], .int .i64 1]) (by simp [results, Try.results43, go_sem]) rfl ⟨by rw [E1.out, E2.out, E3.out], by (repeat' (first | (with_reducible exact Below.refl _ _) | (with_reducible assumption) | (with_reducible refine below_drewN ?_ _) | (with_reducible refine Below.drew ?_) | (with_reducible refine Below.alloc ?_ ?_ _) | (with_reducible refine Below.setCell ?_ ?_ _) | (with_reducible refine below_via (by assumption) ?_ ?_) | go_size))⟩
    have i3 : lIn t 1 4 = false := by
      have := lIn_iff.1 i2
      rcases bool_cases (b := lIn t 1 4) with i3 | i3
      · exact absurd ⟨h1, h2, m, this.1, this.2, (lIn_iff.1 i3).1, (lIn_iff.1 i3).2⟩ hn
      · exact i3
    have i2 := Lib.hid i2
    have i3 := Lib.hid i3
    clear hn m
    go_enter Try.func43, Try.ntmps43
    go_wp2_with (go_at_call 68; refine (layout_in _ _ _ _).mono ?_; (first | rw [I1.out] | rw [i2.out] | rw [i3.out]); rintro e w' ⟨rfl, rfl⟩)
    exact bodyPost_ret (v := .tuple #[.agg #[.int .i64 0, .int .i64 0], .int .i64 1]) (by simp [results, Try.results43, go_sem]) rfl ⟨by rw [E1.out, E2.out, E3.out], by (repeat' (first | (with_reducible exact Below.refl _ _) | (with_reducible assumption) | (with_reducible refine below_drewN ?_ _) | (with_reducible refine Below.drew ?_) | (with_reducible refine Below.alloc ?_ ?_ _) | (with_reducible refine Below.setCell ?_ ?_ _) | (with_reducible refine below_via (by assumption) ?_ ?_) | go_size))⟩
set_option maxHeartbeats 400000 in
theorem layout_Words (t s : Int) (w : World) (h : lOk t s) : Calls Try.prog 64 #[.agg #[.int .i64 t, .int .i64 s]] w fun e w' => e = .returned (.int .i64 (lWords t s)) ∧ Below w.heap.size w w' := by
  rcases h with ⟨rfl, rfl⟩ | ⟨h1, h2, h3, h4⟩
  · have e := Lib.hid (show lWords 0 0 = 0 from rfl)
    go_enter Try.func64, Try.ntmps64
    go_wp2
    go_ret
    exact ⟨by rw [e.out]; rfl, by (repeat' (first | (with_reducible exact Below.refl _ _) | (with_reducible assumption) | (with_reducible refine below_drewN ?_ _) | (with_reducible refine Below.drew ?_) | (with_reducible refine Below.alloc ?_ ?_ _) | (with_reducible refine Below.setCell ?_ ?_ _) | (with_reducible refine below_via (by assumption) ?_ ?_) | go_size))⟩
  · have e := Lib.hid (show lWords t s = 4 + t + 3 * s by unfold lWords; rw [if_neg (by omega)])
    have b1 : (t == 0) = false := by simp; omega
    go_enter Try.func64, Try.ntmps64
    go_wp2
    go_ret
    exact ⟨by rw [e.out]; rfl, by (repeat' (first | (with_reducible exact Below.refl _ _) | (with_reducible assumption) | (with_reducible refine below_drewN ?_ _) | (with_reducible refine Below.drew ?_) | (with_reducible refine Below.alloc ?_ ?_ _) | (with_reducible refine Below.setCell ?_ ?_ _) | (with_reducible refine below_via (by assumption) ?_ ?_) | go_size))⟩
set_option maxHeartbeats 400000 in
theorem layout_once (t s n : Int) (w : World) (h : lOk t s) : Calls Try.prog 83 #[.agg #[.int .i64 t, .int .i64 s], .int .i64 n] w fun e w' => e = .returned (.int .i64 (lOnce t n)) ∧ Below w.heap.size w w' := by
  rcases h with ⟨rfl, rfl⟩ | ⟨h1, h2, h3, h4⟩
  · have e := Lib.hid (show lOnce 0 n = -1 from rfl)
    go_enter Try.func83, Try.ntmps83
    go_wp2
    go_ret
    exact ⟨by rw [e.out]; rfl, by (repeat' (first | (with_reducible exact Below.refl _ _) | (with_reducible assumption) | (with_reducible refine below_drewN ?_ _) | (with_reducible refine Below.drew ?_) | (with_reducible refine Below.alloc ?_ ?_ _) | (with_reducible refine Below.setCell ?_ ?_ _) | (with_reducible refine below_via (by assumption) ?_ ?_) | go_size))⟩
  · have e := Lib.hid (show lOnce t n = n by unfold lOnce; rw [if_neg (by omega)])
    have b1 : (t == 0) = false := by simp; omega
    go_enter Try.func83, Try.ntmps83
    go_wp2
    go_ret
    exact ⟨by rw [e.out]; rfl, by (repeat' (first | (with_reducible exact Below.refl _ _) | (with_reducible assumption) | (with_reducible refine below_drewN ?_ _) | (with_reducible refine Below.drew ?_) | (with_reducible refine Below.alloc ?_ ?_ _) | (with_reducible refine Below.setCell ?_ ?_ _) | (with_reducible refine below_via (by assumption) ?_ ?_) | go_size))⟩
set_option maxHeartbeats 400000 in
theorem layout_of (t s n k : Int) (w : World) (h : lOk t s) (k0 : 0 ≤ k) (k1 : k ≤ 2) : Calls Try.prog 71 #[.agg #[.int .i64 t, .int .i64 s], .int .i64 n, .int .i64 k] w fun e w' => e = .returned (.int .i64 (lOf t s n k)) ∧ Below w.heap.size w w' := by
  have ht : 0 ≤ t ∧ t ≤ 4 ∧ 0 ≤ s ∧ s ≤ 64 := by rcases h with h | h <;> omega
  obtain ⟨t0, t1, s0, s1⟩ := ht
  by_cases c : 0 ≤ n ∧ n < s
  · have e := Lib.hid (show lOf t s n k = 4 + t + 3 * n + k by unfold lOf; rw [if_pos c])
    obtain ⟨c0, c1⟩ := c
    have i := Lib.hid (show lIn n 0 (s - 1) = true from lIn_iff.2 ⟨c0, by omega⟩)
    clear h
    go_enter Try.func71, Try.ntmps71
    go_wp2_with (go_at_call 68; refine (layout_in _ _ _ _).mono ?_; rw [i.out]; rintro e w' ⟨rfl, rfl⟩)
    go_ret
    exact ⟨by rw [e.out]; rfl, by (repeat' (first | (with_reducible exact Below.refl _ _) | (with_reducible assumption) | (with_reducible refine below_drewN ?_ _) | (with_reducible refine Below.drew ?_) | (with_reducible refine Below.alloc ?_ ?_ _) | (with_reducible refine Below.setCell ?_ ?_ _) | (with_reducible refine below_via (by assumption) ?_ ?_) | go_size))⟩
  · have e := Lib.hid (show lOf t s n k = -1 by unfold lOf; rw [if_neg c])
    have i := Lib.hid (show lIn n 0 (s - 1) = false by simp [lIn]; omega)
    clear h c
    go_enter Try.func71, Try.ntmps71
    go_wp2_with (go_at_call 68; refine (layout_in _ _ _ _).mono ?_; rw [i.out]; rintro e w' ⟨rfl, rfl⟩)
    go_ret
    exact ⟨by rw [e.out]; rfl, by (repeat' (first | (with_reducible exact Below.refl _ _) | (with_reducible assumption) | (with_reducible refine below_drewN ?_ _) | (with_reducible refine Below.drew ?_) | (with_reducible refine Below.alloc ?_ ?_ _) | (with_reducible refine Below.setCell ?_ ?_ _) | (with_reducible refine below_via (by assumption) ?_ ?_) | go_size))⟩
set_option maxHeartbeats 400000 in
theorem layout_Stack (t s : Int) (w : World) (h : lOk t s) : Calls Try.prog 67 #[.agg #[.int .i64 t, .int .i64 s]] w fun e w' => e = .returned (.int .i64 (lOnce t 1)) ∧ Below w.heap.size w w' := by
  have H := Lib.hid h
  clear h
  go_enter Try.func67, Try.ntmps67
  go_wp2_with (go_at_call 83; refine (layout_once _ _ _ _ H.out).mono ?_; rintro e w' ⟨rfl, hb⟩; have hz := hb.size; (try simp only [World.size_alloc, World.size_drew, World.size_setCell, size_drewN] at hz))
  go_ret
  exact ⟨rfl, by (repeat' (first | (with_reducible exact Below.refl _ _) | (with_reducible assumption) | (with_reducible refine below_drewN ?_ _) | (with_reducible refine Below.drew ?_) | (with_reducible refine Below.alloc ?_ ?_ _) | (with_reducible refine Below.setCell ?_ ?_ _) | (with_reducible refine below_via (by assumption) ?_ ?_) | go_size))⟩
set_option maxHeartbeats 400000 in
theorem layout_Entry (t s n : Int) (w : World) (h : lOk t s) : Calls Try.prog 54 #[.agg #[.int .i64 t, .int .i64 s], .int .i64 n] w fun e w' => e = .returned (.int .i64 (lOf t s n 0)) ∧ Below w.heap.size w w' := by
  have H := Lib.hid h
  clear h
  go_enter Try.func54, Try.ntmps54
  go_wp2_with (go_at_call 71; refine (layout_of _ _ _ _ _ H.out (by decide) (by decide)).mono ?_; rintro e w' ⟨rfl, hb⟩; have hz := hb.size; (try simp only [World.size_alloc, World.size_drew, World.size_setCell, size_drewN] at hz))
  go_ret
  exact ⟨rfl, by (repeat' (first | (with_reducible exact Below.refl _ _) | (with_reducible assumption) | (with_reducible refine below_drewN ?_ _) | (with_reducible refine Below.drew ?_) | (with_reducible refine Below.alloc ?_ ?_ _) | (with_reducible refine Below.setCell ?_ ?_ _) | (with_reducible refine below_via (by assumption) ?_ ?_) | go_size))⟩
set_option maxHeartbeats 400000 in
theorem layout_Size (t s n : Int) (w : World) (h : lOk t s) : Calls Try.prog 47 #[.agg #[.int .i64 t, .int .i64 s], .int .i64 n] w fun e w' => e = .returned (.int .i64 (lOf t s n 1)) ∧ Below w.heap.size w w' := by
  have H := Lib.hid h
  clear h
  go_enter Try.func47, Try.ntmps47
  go_wp2_with (go_at_call 71; refine (layout_of _ _ _ _ _ H.out (by decide) (by decide)).mono ?_; rintro e w' ⟨rfl, hb⟩; have hz := hb.size; (try simp only [World.size_alloc, World.size_drew, World.size_setCell, size_drewN] at hz))
  go_ret
  exact ⟨rfl, by (repeat' (first | (with_reducible exact Below.refl _ _) | (with_reducible assumption) | (with_reducible refine below_drewN ?_ _) | (with_reducible refine Below.drew ?_) | (with_reducible refine Below.alloc ?_ ?_ _) | (with_reducible refine Below.setCell ?_ ?_ _) | (with_reducible refine below_via (by assumption) ?_ ?_) | go_size))⟩
set_option maxHeartbeats 400000 in
theorem layout_Link (t s n : Int) (w : World) (h : lOk t s) : Calls Try.prog 65 #[.agg #[.int .i64 t, .int .i64 s], .int .i64 n] w fun e w' => e = .returned (.int .i64 (lOf t s n 2)) ∧ Below w.heap.size w w' := by
  have H := Lib.hid h
  clear h
  go_enter Try.func65, Try.ntmps65
  go_wp2_with (go_at_call 71; refine (layout_of _ _ _ _ _ H.out (by decide) (by decide)).mono ?_; rintro e w' ⟨rfl, hb⟩; have hz := hb.size; (try simp only [World.size_alloc, World.size_drew, World.size_setCell, size_drewN] at hz))
  go_ret
  exact ⟨rfl, by (repeat' (first | (with_reducible exact Below.refl _ _) | (with_reducible assumption) | (with_reducible refine below_drewN ?_ _) | (with_reducible refine Below.drew ?_) | (with_reducible refine Below.alloc ?_ ?_ _) | (with_reducible refine Below.setCell ?_ ?_ _) | (with_reducible refine below_via (by assumption) ?_ ?_) | go_size))⟩
end Go.Proofs.Ytmbkkpeepbfgoaa
