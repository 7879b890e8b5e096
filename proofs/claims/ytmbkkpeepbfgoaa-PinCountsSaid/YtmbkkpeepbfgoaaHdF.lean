/- The walks of head's exported functions. -/
import Derived.Test.YtmbkkpeepbfgoaaHdW
namespace Go.Proofs.Ytmbkkpeepbfgoaa
set_option linter.unusedVariables false
set_option linter.unusedSimpArgs false
open Go.RowKit
set_option maxHeartbeats 400000 in
theorem head_Pack (t g : Int) (w : World) : Calls Try.prog 66 #[.int .i64 t, .int .i64 g] w fun e w' => e = .returned (.tuple #[.int .i64 (dPack t g).1, .int .i64 (dPack t g).2]) ∧ Below w.heap.size w w' := by
  by_cases h : 0 ≤ t ∧ t ≤ 64 ∧ 0 ≤ g ∧ g ≤ 4294967295
  · have e := Lib.hid (show dPack t g = (t + 1048576 * g, 0) by unfold dPack; rw [if_pos h])
    obtain ⟨h1, h2, h3, h4⟩ := h
    have m := Lib.hid (show dTop t = true by simp [dTop]; omega)
    go_enter Try.func66, Try.ntmps66
    go_wp2_with first
      | (go_at_call 80; refine (head_may _ _).mono ?_; rw [m.out]; rintro e w' ⟨rfl, rfl⟩)
      | (go_at_call 81; refine (head_of _ _ _).mono ?_; rintro e w' ⟨rfl, rfl⟩)
      | (go_at_call 82; refine (head_word _ _ _ h1 (by omega) h3 h4).mono ?_; rintro e w' ⟨rfl, hb⟩; have hz := hb.size)
    go_ret2
    exact ⟨by rw [e.out]; rfl, by (repeat' (first | (with_reducible exact Below.refl _ _) | (with_reducible assumption) | (with_reducible refine below_drewN ?_ _) | (with_reducible refine Below.drew ?_) | (with_reducible refine Below.alloc ?_ ?_ _) | (with_reducible refine Below.setCell ?_ ?_ _) | (with_reducible refine below_via (by assumption) ?_ ?_) | go_size))⟩
  · have e := Lib.hid (show dPack t g = (0, 1) by unfold dPack; rw [if_neg h])
    rcases bool_cases (b := dTop t) with m | m
    · have hh : g < 0 ∨ (0 ≤ g ∧ 4294967295 < g) := by have : 0 ≤ t ∧ t ≤ 64 := by simpa [dTop] using m
                                                       omega
      have m := Lib.hid m
      clear h
      rcases hh with hh | ⟨hh, hh'⟩
      all_goals
        go_enter Try.func66, Try.ntmps66
        go_wp2_with (go_at_call 80; refine (head_may _ _).mono ?_; rw [m.out]; rintro e w' ⟨rfl, rfl⟩)
        go_ret2
        exact ⟨by rw [e.out]; rfl, by (repeat' (first | (with_reducible exact Below.refl _ _) | (with_reducible assumption) | (with_reducible refine below_drewN ?_ _) | (with_reducible refine Below.drew ?_) | (with_reducible refine Below.alloc ?_ ?_ _) | (with_reducible refine Below.setCell ?_ ?_ _) | (with_reducible refine below_via (by assumption) ?_ ?_) | go_size))⟩
    · have m := Lib.hid m
      clear h
      go_enter Try.func66, Try.ntmps66
      go_wp2_with (go_at_call 80; refine (head_may _ _).mono ?_; rw [m.out]; rintro e w' ⟨rfl, rfl⟩)
      go_ret2
      exact ⟨by rw [e.out]; rfl, by (repeat' (first | (with_reducible exact Below.refl _ _) | (with_reducible assumption) | (with_reducible refine below_drewN ?_ _) | (with_reducible refine Below.drew ?_) | (with_reducible refine Below.alloc ?_ ?_ _) | (with_reducible refine Below.setCell ?_ ?_ _) | (with_reducible refine below_via (by assumption) ?_ ?_) | go_size))⟩
theorem un_yes {w : Int} (h : dIs w = true) : dUnTop w = w % 1048576 ∧ dUnTag w = w / 1048576 ∧ dUnErr w = 0 := by
  unfold dUnTop dUnTag dUnErr; simp [h]
theorem un_no {w : Int} (h : dIs w = false) : dUnTop w = 0 ∧ dUnTag w = 0 ∧ dUnErr w = 2 := by
  unfold dUnTop dUnTag dUnErr; simp [h]
def dOlder (w e : Int) : Bool := decide (0 < w ∧ w - 1 < e)
end Go.Proofs.Ytmbkkpeepbfgoaa
