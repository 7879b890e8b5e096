/- handle's law package: its helper 'live' is true. -/
import Derived.Test.YtekiakognpifnaaHnW
namespace Go.Proofs.Ytekiakognpifnaa
open Go.RowKit
set_option maxHeartbeats 1000000 in
set_option maxRecDepth 100000 in
theorem law03_live (w : World) : Calls Try.prog 22 #[] w fun e w' => e = .returned (.bool true) ∧ w = w' := by
  have m1 : hMake 5 7 = (1099518967813, 0) := by decide
  have m2 : hMake 64 0 = (0, 1) := by decide
  have s1 : hSlot 1099518967813 = 5 := by decide
  have s2 : hGen 1099518967813 = 7 := by decide
  have s3 : decide (hIs 1099518967813) = true := by decide
  have s4 : hSlot 5 = 0 := by decide
  have s5 : hGen 5 = 0 := by decide
  have s6 : decide (hIs 5) = false := by decide
  have o1 : hOf 1099518967813 5 = (0, 0, 4) := by decide
  have o2 : hOf 1099518967813 6 = (5, 7, 0) := by decide
  have q1 : hRound 9 = (16, 0) := by decide
  have q2 : hRound 0 = (0, 9) := by decide
  go_enter Try.func22, Try.ntmps22
  go_wp2_with first
    | (go_at_call 14; refine (handle_make _ _ _).mono ?_; simp only [m1, m2]; rintro e w' ⟨rfl, rfl⟩)
    | (go_at_call 16; refine (handle_split _ _ (by decide) (by decide)).mono ?_; simp only [s1, s2, s3, s4, s5, s6]; rintro e w' ⟨rfl, rfl⟩)
    | (go_at_call 18; refine (handle_of _ _ _ (by decide) (by decide)).mono ?_; simp only [o1, o2]; rintro e w' ⟨rfl, rfl⟩)
    | (go_at_call 20; refine (handle_round _ _).mono ?_; simp only [q1, q2]; rintro e w' ⟨rfl, rfl⟩)
  go_ret
  exact ⟨rfl, rfl⟩
end Go.Proofs.Ytekiakognpifnaa
