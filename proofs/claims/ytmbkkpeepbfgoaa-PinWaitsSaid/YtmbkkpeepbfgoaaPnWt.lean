/- The pin law PinWaits. -/
import Derived.LoopTactic
import Derived.Test.YtmbkkpeepbfgoaaPnB0
import Derived.Test.YtmbkkpeepbfgoaaPnLv
namespace Go.Proofs.Ytmbkkpeepbfgoaa
set_option linter.unusedVariables false
set_option linter.unusedSimpArgs false
open Go.RowKit
set_option maxRecDepth 100000 in
set_option maxHeartbeats 8000000 in
theorem PinWaits_far (n : Int) (W : World) (hn : n < 0 ∨ (0 ≤ n ∧ 50 < n)) : Calls Try.prog 9 #[.int .i64 n] W fun e w' => e = .returned (.bool true) ∧ Below W.heap.size W w' := by
  rcases hn with h1 | ⟨h1, h2⟩
  all_goals
    have ck := Lib.hid (show cfgOk 8 1 1 = true by decide); go_enter Try.func9, Try.ntmps9; go_wp2_with fail; have hO := (Owns.nil W).more (.cells #[.int .i64 8, .int .i64 1, .int .i64 1] 26); generalize hcb : W.heap.size = cb at hO ⊢; have HC := Lib.hid hcb; clear hcb; generalize W.alloc (.cells #[.int .i64 8, .int .i64 1, .int .i64 1] 26) = w0 at hO ⊢; refine (law14_start 8 1 1 hO ck.out).mono ?_; rintro e w1 ⟨p, bw, bb, m, rfl, hO'⟩; have hO := hO'; (try simp only [List.set_cons_zero, List.set_cons_succ, List.cons_append, List.nil_append, List.eraseIdx_cons_succ, List.eraseIdx_cons_zero] at hO); have b0 : _ = some (Value.int .i64 8) := hO.cell 1 0 rfl rfl 0; have b1 : _ = some (Value.int .i64 1) := hO.cell 1 0 rfl rfl 1; have b2 : _ = some (Value.int .i64 1) := hO.cell 1 0 rfl rfl 2; have bz := hO.lt 1 0 rfl rfl
    go_wp2_with first
      | (go_at_call 14; refine (handle_make _ _ _).mono ?_; rw [show hMake 0 0 = (1099511627776, 0) by decide]; rintro e w2 ⟨rfl, rfl⟩)
      | (go_at_call 21; refine (law14_live _).mono ?_; rintro e w6 ⟨rfl, hb⟩; have hO := hO.via hb)
    go_ret
    exact ⟨rfl, by rw [HC.out]; exact hO.below⟩
set_option maxRecDepth 100000 in
set_option maxHeartbeats 8000000 in
theorem PinWaits_go (N : Nat) (W : World) (hN : N ≤ 50) : Calls Try.prog 9 #[.int .i64 N] W fun e w' => e = .returned (.bool true) ∧ Below W.heap.size W w' := by
  have d1 : decide ((N : Int) < 0) = false := by rw [decide_eq_false_iff_not]; omega
  have d2 : decide (50 < (N : Int)) = false := by rw [decide_eq_false_iff_not]; omega
  have ck := Lib.hid (show cfgOk 8 1 1 = true by decide); go_enter Try.func9, Try.ntmps9; go_wp2_with fail; have hO := (Owns.nil W).more (.cells #[.int .i64 8, .int .i64 1, .int .i64 1] 26); generalize hcb : W.heap.size = cb at hO ⊢; have HC := Lib.hid hcb; clear hcb; generalize W.alloc (.cells #[.int .i64 8, .int .i64 1, .int .i64 1] 26) = w0 at hO ⊢; refine (law14_start 8 1 1 hO ck.out).mono ?_; rintro e w1 ⟨p, bw, bb, m, rfl, hO'⟩; have hO := hO'; (try simp only [List.set_cons_zero, List.set_cons_succ, List.cons_append, List.nil_append, List.eraseIdx_cons_succ, List.eraseIdx_cons_zero] at hO); have b0 : _ = some (Value.int .i64 8) := hO.cell 1 0 rfl rfl 0; have b1 : _ = some (Value.int .i64 1) := hO.cell 1 0 rfl rfl 1; have b2 : _ = some (Value.int .i64 1) := hO.cell 1 0 rfl rfl 2; have bz := hO.lt 1 0 rfl rfl
  go_wp2_with (go_at_call 14; refine (handle_make _ _ _).mono ?_; rw [show hMake 0 0 = (1099511627776, 0) by decide]; rintro e w2 ⟨rfl, rfl⟩; refine stop_here ?_)
  try unfold Stop
  rw [p14_0, p14_b0] at hO
  go_wp2_with fail
  clear d1 d2
  refine (plain_Store 0 5 _ hO rfl (by decide)).mono ?_; rw [p14V_0]; rintro e w3 ⟨rfl, hO'⟩; have hO := hO'; (try simp only [List.set_cons_zero, List.set_cons_succ, List.cons_append, List.nil_append, List.eraseIdx_cons_succ, List.eraseIdx_cons_zero] at hO); have b0 : _ = some (Value.int .i64 8) := hO.cell 1 0 rfl rfl 0; have b1 : _ = some (Value.int .i64 1) := hO.cell 1 0 rfl rfl 1; have b2 : _ = some (Value.int .i64 1) := hO.cell 1 0 rfl rfl 2; have bz := hO.lt 1 0 rfl rfl
  go_wp2_with fail
  refine (pin_New 8 1 1 _ (by decide) (by decide) hO).mono ?_; rintro e w6 ⟨x, rfl, hO'⟩; rw [p14_n1] at hO'; have hO := hO'.swap; (try simp only [List.set_cons_zero, List.set_cons_succ, List.cons_append, List.nil_append, List.eraseIdx_cons_succ, List.eraseIdx_cons_zero] at hO)
  clear b0 b1 b2 bz
  go_wp2_with fail
  go_loopw [8] (fun i wr => ∃ (k : Nat) (m wd : Int), i = .int .i64 k ∧ k ≤ N ∧ Owns cb W wr [memG p bw bb (p14V 844424930131968) p14B0 m, pnG x 1 1 0 0 false false 1 wd 0, [(cb, Obj.cells #[.int .i64 8, .int .i64 1, .int .i64 1] 26 (0, 0))]]) (fun i _ => N - (intOf i).toNat)
  case atStart => exact ⟨0, _, _, rfl, by omega, hO⟩
  case round =>
    clear hO
    obtain ⟨k, m, wd, rfl, hk, hO⟩ := hrel
    by_cases hlt : k < N
    · have HW := Lib.hid (pn_wait wd)
      go_wp2_with fail
      have hS := pin_Step hO lOk11 (by show 8 ≤ 4096; decide)
      rw [HW.out] at hS
      refine hS.mono ?_; simp only [PnPost, resV]; rintro e w7 ⟨rfl, m1, hO'⟩; have hO := hO'
      go_wp2_with fail
      have hO := hO.via (below_alloc _ (.cells #[.int .i64 0, .int .i64 0] 37))
      refine (plain_Load 0 5 hO rfl (by show 8 ≤ 4096; decide)).mono ?_; rw [p14V_at]; rintro e w9 ⟨rfl, hO'⟩; have hO := hO'; (try simp only [List.set_cons_zero, List.set_cons_succ, List.cons_append, List.nil_append, List.eraseIdx_cons_succ, List.eraseIdx_cons_zero] at hO)
      go_wp2_with fail
      go_roundw
      case rel => exact ⟨k + 1, _, _, by go_num, by omega, by first | exact hO | exact hO.via (by (repeat' (first | (with_reducible exact Below.refl _ _) | (with_reducible assumption) | (with_reducible refine below_drewN ?_ _) | (with_reducible refine Below.drew ?_) | (with_reducible refine Below.alloc ?_ ?_ _) | (with_reducible refine Below.setCell ?_ ?_ _) | (with_reducible refine below_via (by assumption) ?_ ?_) | go_size)))⟩
      case measure => simp [intOf]; omega
    · have hge : decide (k < N) = false := by rw [decide_eq_false_iff_not]; omega
      have hkN : k = N := by omega
      clear hlt
      go_wp2_with fail
      clear hge
      refine (plain_Store 0 5 _ hO rfl (by show 8 ≤ 4096; decide)).mono ?_; rw [p14V_put]; rintro e w8 ⟨rfl, hO'⟩; have hO := hO'; (try simp only [List.set_cons_zero, List.set_cons_succ, List.cons_append, List.nil_append, List.eraseIdx_cons_succ, List.eraseIdx_cons_zero] at hO)
      go_wp2_with fail
      refine (pin_run 10 (by decide) hO lOk11 (by show 8 ≤ 4096; decide) _ (pn_waited wd)).mono ?_; simp only [resN]; rintro e w9 ⟨rfl, m1, hO'⟩; have hO := hO'
      go_wp2_with fail
      have hO := hO.more (.cells #[.int .i64 0, .int .i64 0] 37)
      generalize w9.heap.size = r1 at hO ⊢
      generalize w9.alloc _ = w10 at hO ⊢
      (try simp only [List.set_cons_zero, List.set_cons_succ, List.cons_append, List.nil_append, List.eraseIdx_cons_succ, List.eraseIdx_cons_zero] at hO)
      have ra0 : _ = some (Value.int .i64 0) := hO.cell 3 0 rfl rfl 0
      have ra1 : _ = some (Value.int .i64 0) := hO.cell 3 0 rfl rfl 1
      refine (plain_Load 0 5 hO rfl (by show 8 ≤ 4096; decide)).mono ?_; rw [p14V_at]; rintro e w11 ⟨rfl, hO'⟩; have hO := hO'; (try simp only [List.set_cons_zero, List.set_cons_succ, List.cons_append, List.nil_append, List.eraseIdx_cons_succ, List.eraseIdx_cons_zero] at hO)
      go_wp2_with (go_at_call 21; refine (law14_live _).mono ?_; rintro e w6 ⟨rfl, hb⟩; have hO := hO.via hb)
      go_ret
      exact ⟨rfl, by rw [HC.out]; exact hO.below⟩
theorem PinWaits_walk (n : Int) (W : World) : Calls Try.prog 9 #[.int .i64 n] W fun e w' => e = .returned (.bool true) ∧ Below W.heap.size W w' := by
  by_cases h : 0 ≤ n ∧ n ≤ 50
  · obtain ⟨N, hN⟩ : ∃ N : Nat, n = N := ⟨n.toNat, by omega⟩
    subst hN
    exact PinWaits_go N W (by omega)
  · exact PinWaits_far n W (by omega)
end Go.Proofs.Ytmbkkpeepbfgoaa
