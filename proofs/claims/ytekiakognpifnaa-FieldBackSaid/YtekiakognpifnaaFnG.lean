/- field.Get of any field. -/
import Derived.Test.YtekiakognpifnaaFnW
namespace Go.Proofs.Ytekiakognpifnaa
set_option linter.unusedVariables false
set_option linter.unusedSimpArgs false
open Go.RowKit
set_option maxHeartbeats 1000000 in
theorem field_Get (w p b : Int) (W : World) : Calls Try.prog 23 #[.int .i64 w, .agg #[.int .i64 p, .int .i64 b]] W fun e w' => e = .returned (.int .i64 (fGet w p b)) ∧ Below W.heap.size W w' := by
  rcases bool_cases (b := fWord w) with hw | hw
  · rcases bool_cases (b := fMay p b) with h | h
    · exact field_Get_ok w p b W h hw
    · have h' := Lib.hid h
      have hw' := Lib.hid hw
      have e := Lib.hid (show fGet w p b = 0 by unfold fGet; rw [if_neg (by rw [h]; simp)])
      have ez := get_zero w hw
      clear h hw
      have z0 : ∀ n : Nat, (0 : Int) / 2 ^ n = 0 := fun n => Int.zero_ediv _
      by_cases h0 : 0 ≤ p
      · go_enter Try.func23, Try.ntmps23
        go_wp2_with (go_at_call 34; refine (field_word _ _).mono ?_; rw [hw'.out]; rintro e w' ⟨rfl, rfl⟩)
        go_region_with (go_at_call 35; refine (field_told_no _ _ _ _ _ h'.out).mono ?_; rintro e w' ⟨rfl, hb⟩; obtain ⟨hc, hf⟩ := bcell hb; have hz := hb.size; (try simp only [World.size_alloc, World.size_drew, World.size_setCell, size_drewN] at hz))
        all_goals
          go_wp2
          go_ret
          exact ⟨ret1 (by first | (rw [e.out]; done) | (rw [e.out]; exact z0 _) | (simp [e.out, ez]; done)), by (repeat' (first | (with_reducible exact Below.refl _ _) | (with_reducible assumption) | (with_reducible refine below_drewN ?_ _) | (with_reducible refine Below.drew ?_) | (with_reducible refine Below.alloc ?_ ?_ _) | (with_reducible refine Below.setCell ?_ ?_ _) | (with_reducible refine below_via (by assumption) ?_ ?_) | go_size))⟩
      · have h0' : p < 0 := by omega
        clear h0
        go_enter Try.func23, Try.ntmps23
        go_wp2_with (go_at_call 34; refine (field_word _ _).mono ?_; rw [hw'.out]; rintro e w' ⟨rfl, rfl⟩)
        go_region_held3 (fun w' => w'.cell? ⟨W.heap.size, 0, none⟩ = some (.int .i64 p) ∧ w'.cell? ⟨W.heap.size, 1, none⟩ = some (.int .i64 b)) (first | go_keep | (refine ⟨(hb.cell (by simp)).trans ?_, (hb.cell (by simp)).trans ?_⟩ <;> go_keep)) ((go_at_call 35; refine (field_told_no _ _ _ _ _ h'.out).mono ?_; rintro e w' ⟨rfl, hb⟩))
        all_goals
          go_wp2
          go_ret
          exact ⟨ret1 (by first | (rw [e.out]; done) | (rw [e.out]; exact z0 _) | (simp [e.out, ez]; done)), by (repeat' (first | (with_reducible exact Below.refl _ _) | (with_reducible assumption) | (with_reducible refine below_drewN ?_ _) | (with_reducible refine Below.drew ?_) | (with_reducible refine Below.alloc ?_ ?_ _) | (with_reducible refine Below.setCell ?_ ?_ _) | (with_reducible refine below_via (by assumption) ?_ ?_) | go_size))⟩
  · have hw' := Lib.hid hw
    have e := Lib.hid (show fGet w p b = 0 by unfold fGet; rw [if_neg (by rw [hw]; simp)])
    clear hw
    go_enter Try.func23, Try.ntmps23
    go_wp2_with (go_at_call 34; refine (field_word _ _).mono ?_; rw [hw'.out]; rintro e w' ⟨rfl, rfl⟩)
    go_ret
    exact ⟨ret1 e.out.symm, by (repeat' (first | (with_reducible exact Below.refl _ _) | (with_reducible assumption) | (with_reducible refine below_drewN ?_ _) | (with_reducible refine Below.drew ?_) | (with_reducible refine Below.alloc ?_ ?_ _) | (with_reducible refine Below.setCell ?_ ?_ _) | (with_reducible refine below_via (by assumption) ?_ ?_) | go_size))⟩
end Go.Proofs.Ytekiakognpifnaa
