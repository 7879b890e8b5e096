/- What the handle's functions tell, as functions of numbers. -/
import Derived.Test.YtpebepjfgnoaaaaGreatBase
import Derived.Test.YtpebepjfgnoaaaaGreatProg
namespace Go.Proofs.YtpebepjfgnoaaaaGreat
set_option linter.unusedVariables false
set_option linter.unusedSimpArgs false
/-- handle.Make. -/
def hMake (s g : Int) : Int × Int := if 0 ≤ s ∧ s < 64 ∧ 0 ≤ g ∧ g ≤ 1000 then (s + 1048576 * g + 1099511627776, 0) else (0, 1)
/-- is it a handle's number? -/
def hIs (h : Int) : Prop := 1099511627776 ≤ h ∧ (h - 1099511627776) / 1048576 ≤ 1000 ∧ (h - 1099511627776) % 1048576 < 64
instance (h : Int) : Decidable (hIs h) := by unfold hIs; infer_instance
def hSlot (h : Int) : Int := if hIs h then (h - 1099511627776) % 1048576 else 0
def hGen (h : Int) : Int := if hIs h then (h - 1099511627776) / 1048576 else 0
def hRound (n : Int) : Int × Int := if 1 ≤ n ∧ n ≤ 256 then ((n + 7) / 8 * 8, 0) else (0, 9)
def hOf (h slots : Int) : Int × Int × Int := if hIs h ∧ hSlot h < slots then (hSlot h, hGen h, 0) else (0, 0, 4)
theorem hMake_ok {s g : Int} (h : 0 ≤ s ∧ s < 64 ∧ 0 ≤ g ∧ g ≤ 1000) : hMake s g = (s + 1048576 * g + 1099511627776, 0) := by unfold hMake; rw [if_pos h]
theorem hMake_bad {s g : Int} (h : ¬ (0 ≤ s ∧ s < 64 ∧ 0 ≤ g ∧ g ≤ 1000)) : hMake s g = (0, 1) := by unfold hMake; rw [if_neg h]
theorem hSlot_is {h : Int} (i : hIs h) : hSlot h = (h - 1099511627776) % 1048576 := by unfold hSlot; rw [if_pos i]
theorem hGen_is {h : Int} (i : hIs h) : hGen h = (h - 1099511627776) / 1048576 := by unfold hGen; rw [if_pos i]
theorem hSlot_no {h : Int} (i : ¬ hIs h) : hSlot h = 0 := by unfold hSlot; rw [if_neg i]
theorem hGen_no {h : Int} (i : ¬ hIs h) : hGen h = 0 := by unfold hGen; rw [if_neg i]
theorem hIs_make {s g : Int} (h : 0 ≤ s ∧ s < 64 ∧ 0 ≤ g ∧ g ≤ 1000) : hIs (s + 1048576 * g + 1099511627776) := by unfold hIs; omega
end Go.Proofs.YtpebepjfgnoaaaaGreat
namespace Go.Proofs.YtpebepjfgnoaaaaGreat
set_option linter.unusedVariables false
set_option linter.unusedSimpArgs false
open Go.RowKit
theorem join3 (s g : Int) (h1 : 0 ≤ s) (h2 : s < 64) (h3 : 0 ≤ g) (h4 : g ≤ 1000) : bits .or .i64 (bits .or .i64 1099511627776 (g * 1048576)) s = s + 1048576 * g + 1099511627776 := by
  rw [or_join 40 (by decide) 1099511627776 (g * 1048576) (by decide) (by decide) (by decide) (by omega) (by omega), or_join 20 (by decide) _ s (by omega) (by omega) (by omega) (by omega) (by omega)]
  omega
set_option maxHeartbeats 400000 in
theorem handle_make (s g : Int) (w : World) :
    Calls Tryz.prog 20 #[.int .i64 s, .int .i64 g] w fun e w' => e = .returned (.tuple #[.int .i64 (hMake s g).1, .int .i64 (hMake s g).2]) ∧ w = w' := by
  by_cases h : 0 ≤ s ∧ s < 64 ∧ 0 ≤ g ∧ g ≤ 1000
  · obtain ⟨h1, h2, h3, h4⟩ := h
    have hm := Lib.hid (hMake_ok ⟨h1, h2, h3, h4⟩)
    go_enter Tryz.func20, Tryz.ntmps20
    go_wp2
    go_ret2
    exact ⟨by rw [hm.out]; exact ret2 (join3 s g h1 h2 h3 h4) rfl, rfl⟩
  · have hm := Lib.hid (hMake_bad h)
    have h' : s < 0 ∨ 64 ≤ s ∨ g < 0 ∨ 1000 < g := by omega
    clear h
    go_enter Tryz.func20, Tryz.ntmps20
    go_wp2
    all_goals first | (exfalso; omega) | (go_ret2; exact ⟨by rw [hm.out]; exact ret2 rfl rfl, rfl⟩)
set_option maxHeartbeats 400000 in
theorem ref03_make (s g : Int) (w : World) :
    Calls Tryz.prog 93 #[.int .i64 s, .int .i64 g] w fun e w' => e = .returned (.tuple #[.int .i64 (hMake s g).1, .int .i64 (hMake s g).2]) ∧ w = w' := by
  by_cases h : 0 ≤ s ∧ s < 64 ∧ 0 ≤ g ∧ g ≤ 1000
  · obtain ⟨h1, h2, h3, h4⟩ := h
    have hm := Lib.hid (hMake_ok ⟨h1, h2, h3, h4⟩)
    go_enter Tryz.func93, Tryz.ntmps93
    go_wp2
    go_ret2
    exact ⟨by rw [hm.out]; exact ret2 rfl rfl, rfl⟩
  · have hm := Lib.hid (hMake_bad h)
    have h' : s < 0 ∨ 64 ≤ s ∨ g < 0 ∨ 1000 < g := by omega
    clear h
    go_enter Tryz.func93, Tryz.ntmps93
    go_wp2
    all_goals first | (exfalso; omega) | (go_ret2; exact ⟨by rw [hm.out]; exact ret2 rfl rfl, rfl⟩)
set_option maxHeartbeats 400000 in
theorem handle_split (h : Int) (w : World) (hw : -9223372036854775808 ≤ h) (hw' : h ≤ 9223372036854775807) :
    Calls Tryz.prog 50 #[.int .i64 h] w fun e w' => e = .returned (.tuple #[.int .i64 (hSlot h), .int .i64 (hGen h), .bool (decide (hIs h))]) ∧ w = w' := by
  by_cases i : 1099511627776 ≤ h
  · by_cases j : hIs h
    · have hs := Lib.hid (hSlot_is j)
      have hg := Lib.hid (hGen_is j)
      have hj := Lib.hid j
      have hm := Lib.hid (hMake_ok (s := (h - 1099511627776) % 1048576) (g := (h - 1099511627776) / 1048576) (by unfold hIs at j; omega))
      clear j
      go_enter Tryz.func50, Tryz.ntmps50
      go_wp2_with (go_at_call 20; refine (handle_make _ _ _).mono ?_; rw [hm.out]; rintro e w' ⟨rfl, rfl⟩)
      go_ret3
      exact ⟨by rw [hs.out, hg.out, decide_eq_true hj.out]; rfl, rfl⟩
    · have hs := Lib.hid (hSlot_no j)
      have hg := Lib.hid (hGen_no j)
      have hj := Lib.hid j
      have hm := Lib.hid (hMake_bad (s := (h - 1099511627776) % 1048576) (g := (h - 1099511627776) / 1048576) (by unfold hIs at j; omega))
      clear j
      go_enter Tryz.func50, Tryz.ntmps50
      go_wp2_with (go_at_call 20; refine (handle_make _ _ _).mono ?_; rw [hm.out]; rintro e w' ⟨rfl, rfl⟩)
      go_ret3
      exact ⟨by rw [hs.out, hg.out, decide_eq_false hj.out]; rfl, rfl⟩
  · have j : ¬ hIs h := by unfold hIs; omega
    have hs := Lib.hid (hSlot_no j)
    have hg := Lib.hid (hGen_no j)
    have hj := Lib.hid j
    clear j
    by_cases k : -9223372035755264000 + 1 ≤ h ∧ False
    · exact k.2.elim
    clear k
    by_cases k : -9223370937343148032 ≤ h
    · go_enter Tryz.func50, Tryz.ntmps50
      go_wp2_with fail
      go_ret3
      exact ⟨by rw [hs.out, hg.out, decide_eq_false hj.out]; rfl, rfl⟩
    · have ha : wrap64 (h - 1099511627776) = h - 1099511627776 + 18446744073709551616 := by unfold wrap64; omega
      have hm := Lib.hid (hMake_bad (s := (h - 1099511627776 + 18446744073709551616) % 1048576) (g := (h - 1099511627776 + 18446744073709551616) / 1048576) (by omega))
      go_enter Tryz.func50, Tryz.ntmps50
      go_wp2_with (go_at_call 20; refine (handle_make _ _ _).mono ?_; rw [hm.out]; rintro e w' ⟨rfl, rfl⟩)
      go_ret3
      exact ⟨by rw [hs.out, hg.out, decide_eq_false hj.out]; rfl, rfl⟩
theorem hOf_yes {h n : Int} (i : hIs h) (k : hSlot h < n) : hOf h n = (hSlot h, hGen h, 0) := by unfold hOf; rw [if_pos ⟨i, k⟩]
theorem hOf_no {h n : Int} (i : ¬ (hIs h ∧ hSlot h < n)) : hOf h n = (0, 0, 4) := by unfold hOf; rw [if_neg i]
set_option maxHeartbeats 400000 in
theorem handle_of (h n : Int) (w : World) (hw : -9223372036854775808 ≤ h) (hw' : h ≤ 9223372036854775807) :
    Calls Tryz.prog 28 #[.int .i64 h, .int .i64 n] w fun e w' => e = .returned (.tuple #[.int .i64 (hOf h n).1, .int .i64 (hOf h n).2.1, .int .i64 (hOf h n).2.2]) ∧ w = w' := by
  by_cases i : hIs h
  · have i' := decide_eq_true i
    by_cases k : hSlot h < n
    · have ho := Lib.hid (hOf_yes i k)
      clear i
      go_enter Tryz.func28, Tryz.ntmps28
      go_wp2_with (go_at_call 50; refine (handle_split _ _ hw hw').mono ?_; rw [i']; rintro e w' ⟨rfl, rfl⟩)
      go_ret3
      exact ⟨by rw [ho.out]; rfl, rfl⟩
    · have ho := Lib.hid (hOf_no (h := h) (n := n) (fun x => k x.2))
      clear i
      have k' : n ≤ hSlot h := by omega
      clear k
      go_enter Tryz.func28, Tryz.ntmps28
      go_wp2_with (go_at_call 50; refine (handle_split _ _ hw hw').mono ?_; rw [i']; rintro e w' ⟨rfl, rfl⟩)
      go_ret3
      exact ⟨by rw [ho.out]; rfl, rfl⟩
  · have i' := decide_eq_false i
    have ho := Lib.hid (hOf_no (h := h) (n := n) (fun x => i x.1))
    clear i
    go_enter Tryz.func28, Tryz.ntmps28
    go_wp2_with (go_at_call 50; refine (handle_split _ _ hw hw').mono ?_; rw [i']; rintro e w' ⟨rfl, rfl⟩)
    go_ret3
    exact ⟨by rw [ho.out]; rfl, rfl⟩
set_option maxHeartbeats 400000 in
theorem ref03_split (h : Int) (w : World) (hw : -9223372036854775808 ≤ h) (hw' : h ≤ 9223372036854775807) :
    Calls Tryz.prog 57 #[.int .i64 h] w fun e w' => e = .returned (.tuple #[.int .i64 (hSlot h), .int .i64 (hGen h), .bool (decide (hIs h))]) ∧ w = w' := by
  go_enter Tryz.func57, Tryz.ntmps57
  go_wp2_with fail
  go_loop [5] (fun g => ∃ k : Nat, k ≤ 1001 ∧ (hIs h → (k : Int) ≤ hGen h) ∧ g = .int .i64 k) (fun g => 1001 - (intOf g).toNat)
  case atStart => exact ⟨0, by omega, fun i => by rw [hGen_is i]; unfold hIs at i; omega, rfl⟩
  case round =>
    obtain ⟨k, hk, hno, rfl⟩ := hrel
    by_cases hlt : k ≤ 1000
    · have hm := Lib.hid (hMake_ok (s := 0) (g := (k : Int)) (by omega))
      by_cases hin : 0 + 1048576 * (k : Int) + 1099511627776 ≤ h ∧ h ≤ 0 + 1048576 * (k : Int) + 1099511627776 + 63
      · obtain ⟨hin1, hin2⟩ := hin
        have i : hIs h := by unfold hIs; omega
        have hs := Lib.hid (hSlot_is i)
        have hg := Lib.hid (hGen_is i)
        have hj := Lib.hid i
        clear i hno
        go_wp2_with (go_at_call 93; refine (ref03_make _ _ _).mono ?_; rw [hm.out]; rintro e w' ⟨rfl, rfl⟩)
        go_ret3
        exact ⟨by rw [hs.out, hg.out, decide_eq_true hj.out]; exact ret3b (by omega) (by omega) rfl, rfl⟩
      · have hin' : h < 0 + 1048576 * (k : Int) + 1099511627776 ∨ 0 + 1048576 * (k : Int) + 1099511627776 + 63 < h := by omega
        have hno' := Lib.hid (show hIs h → ((k + 1 : Nat) : Int) ≤ hGen h from fun i => by have := hno i; rw [hGen_is i] at this ⊢; unfold hIs at i; omega)
        clear hin hno
        go_wp2_with (go_at_call 93; refine (ref03_make _ _ _).mono ?_; rw [hm.out]; rintro e w' ⟨rfl, rfl⟩)
        all_goals first | (exfalso; omega) | skip
        all_goals
          go_round
          case rel => exact ⟨k + 1, by omega, hno'.out, by go_num⟩
          case measure => simp [intOf]; omega
    · have i : ¬ hIs h := fun i => by have := hno i; rw [hGen_is i] at this; unfold hIs at i; omega
      have hs := Lib.hid (hSlot_no i)
      have hg := Lib.hid (hGen_no i)
      have hj := Lib.hid i
      clear i hno
      go_wp2_with fail
      go_ret3
      exact ⟨by rw [hs.out, hg.out, decide_eq_false hj.out]; rfl, rfl⟩
set_option maxHeartbeats 400000 in
theorem ref03_of (h n : Int) (w : World) (hw : -9223372036854775808 ≤ h) (hw' : h ≤ 9223372036854775807) :
    Calls Tryz.prog 33 #[.int .i64 h, .int .i64 n] w fun e w' => e = .returned (.tuple #[.int .i64 (hOf h n).1, .int .i64 (hOf h n).2.1, .int .i64 (hOf h n).2.2]) ∧ w = w' := by
  by_cases i : hIs h
  · have i' := decide_eq_true i
    by_cases k : hSlot h < n
    · have ho := Lib.hid (hOf_yes i k)
      clear i
      go_enter Tryz.func33, Tryz.ntmps33
      go_wp2_with (go_at_call 57; refine (ref03_split _ _ hw hw').mono ?_; rw [i']; rintro e w' ⟨rfl, rfl⟩)
      go_ret3
      exact ⟨by rw [ho.out]; rfl, rfl⟩
    · have ho := Lib.hid (hOf_no (h := h) (n := n) (fun x => k x.2))
      clear i
      have k' : n ≤ hSlot h := by omega
      clear k
      go_enter Tryz.func33, Tryz.ntmps33
      go_wp2_with (go_at_call 57; refine (ref03_split _ _ hw hw').mono ?_; rw [i']; rintro e w' ⟨rfl, rfl⟩)
      go_ret3
      exact ⟨by rw [ho.out]; rfl, rfl⟩
  · have i' := decide_eq_false i
    have ho := Lib.hid (hOf_no (h := h) (n := n) (fun x => i x.1))
    clear i
    go_enter Tryz.func33, Tryz.ntmps33
    go_wp2_with (go_at_call 57; refine (ref03_split _ _ hw hw').mono ?_; rw [i']; rintro e w' ⟨rfl, rfl⟩)
    go_ret3
    exact ⟨by rw [ho.out]; rfl, rfl⟩
theorem hRound_ok {n : Int} (h : 1 ≤ n ∧ n ≤ 256) : hRound n = ((n + 7) / 8 * 8, 0) := by unfold hRound; rw [if_pos h]
theorem hRound_bad {n : Int} (h : ¬ (1 ≤ n ∧ n ≤ 256)) : hRound n = (0, 9) := by unfold hRound; rw [if_neg h]
set_option maxHeartbeats 400000 in
theorem handle_round (n : Int) (w : World) :
    Calls Tryz.prog 67 #[.int .i64 n] w fun e w' => e = .returned (.tuple #[.int .i64 (hRound n).1, .int .i64 (hRound n).2]) ∧ w = w' := by
  by_cases k : 1 ≤ n ∧ n ≤ 256
  · obtain ⟨k1, k2⟩ := k
    have hr := Lib.hid (hRound_ok ⟨k1, k2⟩)
    have bad1 : (decide (n < 1) || decide (256 < n)) = false := by simp; omega
    go_enter Tryz.func67, Tryz.ntmps67
    go_wp2_with fail
    refine wp_scope_jumps 0 (fun a' w' => w' = w ∧ ∃ (m : Int) (u4 u5 u6 u7 u8 u9 u10 u11 u12 u13 u14 u15 : Value), a' = { tmps := #[.int .i64 m, undef, .int .i64 0, .int .i64 0, u4, u5, u6, u7, u8, u9, u10, u11, u12, u13, u14, u15], defers := [] } ∧ n ≤ m ∧ m ≤ (n + 7) / 8 * 8) (fun a' _ => (300 - (intOf (a'.tmps.getD 0 undef))).toNat) rfl ?_ ?_
    · by_cases h8 : n % 8 = 0
      · have hb : (n % 8 == 0) = true := by rw [h8]; rfl
        have h8' := Lib.hid h8
        clear h8
        go_wp2
        go_step3
        go_wp2
        simp only [Exit.jump]
        go_ret2
        exact ⟨by rw [hr.out]; exact ret2 (by have := h8'.out; show n = (n + 7) / 8 * 8; omega) rfl, rfl⟩
      · have hb : (n % 8 == 0) = false := by simpa using h8
        go_wp2
        go_step3
        go_wp2
        go_step3
        exact ⟨rfl, rfl, n + 1, _, _, _, _, _, _, _, _, _, _, _, _, rfl, by omega, by omega⟩
    · rintro a' w' ⟨rfl, m, u4, u5, u6, u7, u8, u9, u10, u11, u12, u13, u14, u15, rfl, hm1, hm2⟩
      by_cases h8 : m % 8 = 0
      · have hb : (m % 8 == 0) = true := by rw [h8]; rfl
        have h8' := Lib.hid h8
        clear h8
        go_wp2
        simp only [Exit.jump]
        go_ret2
        exact ⟨by rw [hr.out]; exact ret2 (by have := h8'.out; show m = (n + 7) / 8 * 8; omega) rfl, rfl⟩
      · have hb : (m % 8 == 0) = false := by simpa using h8
        go_wp2
        go_step3
        refine ⟨rfl, ⟨rfl, m + 1, _, _, _, _, _, _, _, _, _, _, _, _, rfl, by omega, by omega⟩, ?_⟩
        simp [intOf]; omega
  · have hr := Lib.hid (hRound_bad k)
    have k' : n < 1 ∨ 256 < n := by omega
    clear k
    go_enter Tryz.func67, Tryz.ntmps67
    go_wp2_with fail
    go_step3
    go_wp2_with fail
    all_goals first | (exfalso; omega) | (try rw [Exit.noGoto_ret]); (go_ret2; exact ⟨by rw [hr.out]; exact ret2 rfl rfl, rfl⟩)
end Go.Proofs.YtpebepjfgnoaaaaGreat
