/- The walks of entry's laws: EntryBack, EntryPins, EntryGuards, EntryMoves. -/
import Derived.Deep.DeepCutAuto
import Derived.Test.YtdmeopiggkbpjaaEnL
import Derived.Test.YtdmeopiggkbpjaaEnX
namespace Go.Proofs.Ytdmeopiggkbpjaa
set_option linter.unusedVariables false
set_option linter.unusedSimpArgs false
open Go.RowKit
set_option maxHeartbeats 1000000 in
theorem EntryPins_walk (x : Int) (W : World) : Calls Try.prog 11 #[.int .i64 x] W fun e w' => e = .returned (.bool true) ∧ Below W.heap.size W w' := by
  by_cases h : (ePin x).2 = 0
  · obtain ⟨v, e1, e2, e3, e4⟩ := pins_all h
    have E1 := Lib.hid e1
    have E2 := Lib.hid e2
    have E3 := Lib.hid e3
    have E4 := Lib.hid e4
    have b1 : (x == x) = true := by simp
    clear h e1 e2 e3 e4
    go_enter Try.func11, Try.ntmps11
    go_wp2_with first
      | (go_at_call 35; refine (entry_Pin _ _).mono ?_; rw [E1.out]; rintro e w' ⟨rfl, hb⟩; have hz := hb.size; (try simp only [World.size_alloc, World.size_drew, World.size_setCell, size_drewN] at hz))
      | (go_at_call 36; refine (entry_Unpin _ _).mono ?_; rw [E2.out]; rintro e w' ⟨rfl, hb⟩; have hz := hb.size; (try simp only [World.size_alloc, World.size_drew, World.size_setCell, size_drewN] at hz))
      | (go_at_call 37; refine (entry_Lock _ _ _).mono ?_; rw [E3.out]; rintro e w' ⟨rfl, hb⟩; have hz := hb.size; (try simp only [World.size_alloc, World.size_drew, World.size_setCell, size_drewN] at hz))
      | (go_at_call 38; refine (entry_Next _ _).mono ?_; rw [E4.out]; rintro e w' ⟨rfl, hb⟩; have hz := hb.size; (try simp only [World.size_alloc, World.size_drew, World.size_setCell, size_drewN] at hz))
      | (go_at_call 34; refine (law02_live _).mono ?_; rintro e w' ⟨rfl, hb⟩; have hz := hb.size; (try simp only [World.size_alloc, World.size_drew, World.size_setCell, size_drewN] at hz))
    go_ret
    exact ⟨rfl, by (repeat' (first | (with_reducible exact Below.refl _ _) | (with_reducible assumption) | (with_reducible refine below_drewN ?_ _) | (with_reducible refine Below.drew ?_) | (with_reducible refine Below.alloc ?_ ?_ _) | (with_reducible refine Below.setCell ?_ ?_ _) | (with_reducible refine below_via (by assumption) ?_ ?_) | go_size))⟩
  · have b1 : ((ePin x).2 != 0) = true := by simpa using h
    have E1 := Lib.hid (show (ePin x).1 = 0 from eTurn_zero h)
    clear h
    go_enter Try.func11, Try.ntmps11
    go_wp2_with first
      | (go_at_call 35; refine (entry_Pin _ _).mono ?_; rw [E1.out]; rintro e w' ⟨rfl, hb⟩; have hz := hb.size; (try simp only [World.size_alloc, World.size_drew, World.size_setCell, size_drewN] at hz))
      | (go_at_call 34; refine (law02_live _).mono ?_; rintro e w' ⟨rfl, hb⟩; have hz := hb.size; (try simp only [World.size_alloc, World.size_drew, World.size_setCell, size_drewN] at hz))
    go_ret
    exact ⟨rfl, by (repeat' (first | (with_reducible exact Below.refl _ _) | (with_reducible assumption) | (with_reducible refine below_drewN ?_ _) | (with_reducible refine Below.drew ?_) | (with_reducible refine Below.alloc ?_ ?_ _) | (with_reducible refine Below.setCell ?_ ?_ _) | (with_reducible refine below_via (by assumption) ?_ ?_) | go_size))⟩
set_option maxHeartbeats 1000000 in
theorem EntryGuards_walk (x n : Int) (W : World) : Calls Try.prog 14 #[.int .i64 x, .int .i64 n] W fun e w' => e = .returned (.bool true) ∧ Below W.heap.size W w' := by
  by_cases h : (eGuard x n).2 = 0
  · obtain ⟨v, e1, e2, n0, n1⟩ := guards_all h
    have E1 := Lib.hid e1
    have E2 := Lib.hid e2
    have b1 : (x == x) = true := by simp
    clear h e1 e2
    go_enter Try.func14, Try.ntmps14
    go_wp2_with first
      | (go_at_call 40; refine (entry_Guard _ _ _).mono ?_; (first | rw [E1.out] | rw [E2.out]); rintro e w' ⟨rfl, hb⟩; have hz := hb.size; (try simp only [World.size_alloc, World.size_drew, World.size_setCell, size_drewN] at hz))
      | (go_at_call 34; refine (law02_live _).mono ?_; rintro e w' ⟨rfl, hb⟩; have hz := hb.size; (try simp only [World.size_alloc, World.size_drew, World.size_setCell, size_drewN] at hz))
    go_ret
    exact ⟨rfl, by (repeat' (first | (with_reducible exact Below.refl _ _) | (with_reducible assumption) | (with_reducible refine below_drewN ?_ _) | (with_reducible refine Below.drew ?_) | (with_reducible refine Below.alloc ?_ ?_ _) | (with_reducible refine Below.setCell ?_ ?_ _) | (with_reducible refine below_via (by assumption) ?_ ?_) | go_size))⟩
  · have b1 : ((eGuard x n).2 != 0) = true := by simpa using h
    have E1 := Lib.hid (show (eGuard x n).1 = 0 from eTurn_zero h)
    clear h
    go_enter Try.func14, Try.ntmps14
    go_wp2_with first
      | (go_at_call 40; refine (entry_Guard _ _ _).mono ?_; rw [E1.out]; rintro e w' ⟨rfl, hb⟩; have hz := hb.size; (try simp only [World.size_alloc, World.size_drew, World.size_setCell, size_drewN] at hz))
      | (go_at_call 34; refine (law02_live _).mono ?_; rintro e w' ⟨rfl, hb⟩; have hz := hb.size; (try simp only [World.size_alloc, World.size_drew, World.size_setCell, size_drewN] at hz))
    go_ret
    exact ⟨rfl, by (repeat' (first | (with_reducible exact Below.refl _ _) | (with_reducible assumption) | (with_reducible refine below_drewN ?_ _) | (with_reducible refine Below.drew ?_) | (with_reducible refine Below.alloc ?_ ?_ _) | (with_reducible refine Below.setCell ?_ ?_ _) | (with_reducible refine below_via (by assumption) ?_ ?_) | go_size))⟩
/-- the second half of EntryBack: any word. -/
theorem back_un (w : Int) : (eOk w = 0 ∧ ePack (uO w) (uG w) (uP w) (uU w) (uL w) (uA w) = (w, 0)) ∨ (eOk w = 2 ∧ uO w = 0 ∧ uG w = 0 ∧ uP w = 0 ∧ uU w = 0 ∧ uL w = false ∧ uA w = false) := by
  rcases bool_cases (b := eIs w) with h | h
  · left
    obtain ⟨a1, a2, a3, a4, a5, a6, a7⟩ := u_yes h
    rw [a1, a2, a3, a4, a5, a6]
    exact ⟨a7, pack_ok h⟩
  · right
    obtain ⟨a1, a2, a3, a4, a5, a6, a7⟩ := u_no h
    exact ⟨a7, a1, a2, a3, a4, a5, a6⟩
end Go.Proofs.Ytdmeopiggkbpjaa
