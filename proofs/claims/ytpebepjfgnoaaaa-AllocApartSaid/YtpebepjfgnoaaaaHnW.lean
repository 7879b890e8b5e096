/- What the handle's functions tell, as functions of numbers. -/
import Derived.Test.YtpebepjfgnoaaaaBase
import Derived.Test.YtpebepjfgnoaaaaProg
namespace Go.Proofs.Ytpebepjfgnoaaaa
set_option linter.unusedVariables false
set_option linter.unusedSimpArgs false
/-- handle.Make. -/
def hMake (s g : Int) : Int × Int := if 0 ≤ s ∧ s < 64 ∧ 0 ≤ g ∧ g ≤ 1000 then (s + 1048576 * g + 1099511627776, 0) else (0, 1)
/-- is it a handle's number? -/
def hIs (h : Int) : Prop := 1099511627776 ≤ h ∧ (h - 1099511627776) / 1048576 ≤ 1000 ∧ (h - 1099511627776) % 1048576 < 64
instance (h : Int) : Decidable (hIs h) := by unfold hIs; infer_instance
def hSlot (h : Int) : Int := if hIs h then (h - 1099511627776) % 1048576 else 0
def hGen (h : Int) : Int := if hIs h then (h - 1099511627776) / 1048576 else 0
def hRound (n : Int) : Int × Int := if 1 ≤ n ∧ n ≤ 256 then ((n + 7) / 8 * 8, 0) else (0, 9)
def hOf (h slots : Int) : Int × Int × Int := if hIs h ∧ hSlot h < slots then (hSlot h, hGen h, 0) else (0, 0, 4)
theorem hMake_ok {s g : Int} (h : 0 ≤ s ∧ s < 64 ∧ 0 ≤ g ∧ g ≤ 1000) : hMake s g = (s + 1048576 * g + 1099511627776, 0) := by unfold hMake; rw [if_pos h]
theorem hMake_bad {s g : Int} (h : ¬ (0 ≤ s ∧ s < 64 ∧ 0 ≤ g ∧ g ≤ 1000)) : hMake s g = (0, 1) := by unfold hMake; rw [if_neg h]
theorem hSlot_is {h : Int} (i : hIs h) : hSlot h = (h - 1099511627776) % 1048576 := by unfold hSlot; rw [if_pos i]
theorem hGen_is {h : Int} (i : hIs h) : hGen h = (h - 1099511627776) / 1048576 := by unfold hGen; rw [if_pos i]
theorem hSlot_no {h : Int} (i : ¬ hIs h) : hSlot h = 0 := by unfold hSlot; rw [if_neg i]
theorem hGen_no {h : Int} (i : ¬ hIs h) : hGen h = 0 := by unfold hGen; rw [if_neg i]
theorem hIs_make {s g : Int} (h : 0 ≤ s ∧ s < 64 ∧ 0 ≤ g ∧ g ≤ 1000) : hIs (s + 1048576 * g + 1099511627776) := by unfold hIs; omega
end Go.Proofs.Ytpebepjfgnoaaaa
namespace Go.Proofs.Ytpebepjfgnoaaaa
set_option linter.unusedVariables false
set_option linter.unusedSimpArgs false
open Go.RowKit
theorem join3 (s g : Int) (h1 : 0 ≤ s) (h2 : s < 64) (h3 : 0 ≤ g) (h4 : g ≤ 1000) : bits .or .i64 (bits .or .i64 1099511627776 (g * 1048576)) s = s + 1048576 * g + 1099511627776 := by
  rw [or_join 40 (by decide) 1099511627776 (g * 1048576) (by decide) (by decide) (by decide) (by omega) (by omega), or_join 20 (by decide) _ s (by omega) (by omega) (by omega) (by omega) (by omega)]
  omega
set_option maxHeartbeats 400000 in
theorem handle_make (s g : Int) (w : World) :
    Calls Try.prog 64 #[.int .i64 s, .int .i64 g] w fun e w' => e = .returned (.tuple #[.int .i64 (hMake s g).1, .int .i64 (hMake s g).2]) ∧ w = w' := by
  by_cases h : 0 ≤ s ∧ s < 64 ∧ 0 ≤ g ∧ g ≤ 1000
  · obtain ⟨h1, h2, h3, h4⟩ := h
    have hm := Lib.hid (hMake_ok ⟨h1, h2, h3, h4⟩)
    go_enter Try.func64, Try.ntmps64
    go_wp2
    go_ret2
    exact ⟨by rw [hm.out]; exact ret2 (join3 s g h1 h2 h3 h4) rfl, rfl⟩
  · have hm := Lib.hid (hMake_bad h)
    have h' : s < 0 ∨ 64 ≤ s ∨ g < 0 ∨ 1000 < g := by omega
    clear h
    go_enter Try.func64, Try.ntmps64
    go_wp2
    all_goals first | (exfalso; omega) | (go_ret2; exact ⟨by rw [hm.out]; exact ret2 rfl rfl, rfl⟩)
theorem hOf_yes {h n : Int} (i : hIs h) (k : hSlot h < n) : hOf h n = (hSlot h, hGen h, 0) := by unfold hOf; rw [if_pos ⟨i, k⟩]
theorem hOf_no {h n : Int} (i : ¬ (hIs h ∧ hSlot h < n)) : hOf h n = (0, 0, 4) := by unfold hOf; rw [if_neg i]
theorem hRound_ok {n : Int} (h : 1 ≤ n ∧ n ≤ 256) : hRound n = ((n + 7) / 8 * 8, 0) := by unfold hRound; rw [if_pos h]
theorem hRound_bad {n : Int} (h : ¬ (1 ≤ n ∧ n ≤ 256)) : hRound n = (0, 9) := by unfold hRound; rw [if_neg h]
set_option maxHeartbeats 400000 in
theorem handle_round (n : Int) (w : World) :
    Calls Try.prog 66 #[.int .i64 n] w fun e w' => e = .returned (.tuple #[.int .i64 (hRound n).1, .int .i64 (hRound n).2]) ∧ w = w' := by
  by_cases k : 1 ≤ n ∧ n ≤ 256
  · obtain ⟨k1, k2⟩ := k
    have hr := Lib.hid (hRound_ok ⟨k1, k2⟩)
    have bad1 : (decide (n < 1) || decide (256 < n)) = false := by simp; omega
    go_enter Try.func66, Try.ntmps66
    go_wp2_with fail
    refine wp_scope_jumps 0 (fun a' w' => w' = w ∧ ∃ (m : Int) (u4 u5 u6 u7 u8 u9 u10 u11 u12 u13 u14 u15 : Value), a' = { tmps := #[.int .i64 m, undef, .int .i64 0, .int .i64 0, u4, u5, u6, u7, u8, u9, u10, u11, u12, u13, u14, u15], defers := [] } ∧ n ≤ m ∧ m ≤ (n + 7) / 8 * 8) (fun a' _ => (300 - (intOf (a'.tmps.getD 0 undef))).toNat) rfl ?_ ?_
    · by_cases h8 : n % 8 = 0
      · have hb : (n % 8 == 0) = true := by rw [h8]; rfl
        have h8' := Lib.hid h8
        clear h8
        go_wp2
        go_step3
        go_wp2
        simp only [Exit.jump]
        go_ret2
        exact ⟨by rw [hr.out]; exact ret2 (by have := h8'.out; show n = (n + 7) / 8 * 8; omega) rfl, rfl⟩
      · have hb : (n % 8 == 0) = false := by simpa using h8
        go_wp2
        go_step3
        go_wp2
        go_step3
        exact ⟨rfl, rfl, n + 1, _, _, _, _, _, _, _, _, _, _, _, _, rfl, by omega, by omega⟩
    · rintro a' w' ⟨rfl, m, u4, u5, u6, u7, u8, u9, u10, u11, u12, u13, u14, u15, rfl, hm1, hm2⟩
      by_cases h8 : m % 8 = 0
      · have hb : (m % 8 == 0) = true := by rw [h8]; rfl
        have h8' := Lib.hid h8
        clear h8
        go_wp2
        simp only [Exit.jump]
        go_ret2
        exact ⟨by rw [hr.out]; exact ret2 (by have := h8'.out; show m = (n + 7) / 8 * 8; omega) rfl, rfl⟩
      · have hb : (m % 8 == 0) = false := by simpa using h8
        go_wp2
        go_step3
        refine ⟨rfl, ⟨rfl, m + 1, _, _, _, _, _, _, _, _, _, _, _, _, rfl, by omega, by omega⟩, ?_⟩
        simp [intOf]; omega
  · have hr := Lib.hid (hRound_bad k)
    have k' : n < 1 ∨ 256 < n := by omega
    clear k
    go_enter Try.func66, Try.ntmps66
    go_wp2_with fail
    go_step3
    go_wp2_with fail
    all_goals first | (exfalso; omega) | (try rw [Exit.noGoto_ret]); (go_ret2; exact ⟨by rw [hr.out]; exact ret2 rfl rfl, rfl⟩)
end Go.Proofs.Ytpebepjfgnoaaaa
