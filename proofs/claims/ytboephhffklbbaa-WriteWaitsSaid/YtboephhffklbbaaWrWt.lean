/- The write law WriteWaits. -/
import Derived.LoopTactic
import Derived.Test.YtboephhffklbbaaWrG0
import Derived.Test.YtboephhffklbbaaWrLv
namespace Go.Proofs.Ytboephhffklbbaa
set_option linter.unusedVariables false
set_option linter.unusedSimpArgs false
open Go.RowKit
set_option maxRecDepth 100000 in
set_option maxHeartbeats 8000000 in
theorem WriteWaits_far (n b : Int) (lk : Bool) (W : World) (hn : n < 0 ∨ (0 ≤ n ∧ 50 < n)) : Calls Try.prog 4 #[.int .i64 n, .int .i64 b, .bool lk] W fun e w' => e = .returned (.bool true) ∧ Below W.heap.size W w' := by
  rcases hn with h1 | ⟨h1, h2⟩
  all_goals
    have ck := Lib.hid (show cfgOk 8 1 1 = true by decide); go_enter Try.func4, Try.ntmps4; go_wp2_with fail; have hP := (Owns.nil W).more (.cells #[.int .i64 8, .int .i64 1, .int .i64 1] 26); generalize hcb : W.heap.size = cb at hP ⊢; have HC := Lib.hid hcb; clear hcb; generalize W.alloc (.cells #[.int .i64 8, .int .i64 1, .int .i64 1] 26) = w0 at hP ⊢; refine (law13_start 8 1 1 hP ck.out).mono ?_; rintro e w1 ⟨p, bw, bb, m, rfl, hO'⟩; clear hP; have hP := hO'; clear hO'; (try simp only [List.set_cons_zero, List.set_cons_succ, List.cons_append, List.nil_append, List.eraseIdx_cons_succ, List.eraseIdx_cons_zero] at hP); have b0 : _ = some (Value.int .i64 8) := hP.cell 1 0 rfl rfl 0; have b1 : _ = some (Value.int .i64 1) := hP.cell 1 0 rfl rfl 1; have b2 : _ = some (Value.int .i64 1) := hP.cell 1 0 rfl rfl 2; have bz := hP.lt 1 0 rfl rfl
    go_wp2_with first
      | (go_at_call 12; refine (handle_make _ _ _).mono ?_; rw [show hMake 0 0 = (1099511627776, 0) by decide]; rintro e w2 ⟨rfl, rfl⟩)
      | (go_at_call 14; refine (law13_live _).mono ?_; rintro e w6 ⟨rfl, hb⟩; have hO := hP.via hb)
    go_ret
    exact ⟨rfl, by rw [HC.out]; exact hO.below⟩
set_option maxRecDepth 100000 in
set_option maxHeartbeats 8000000 in
theorem WriteWaits_go (N : Nat) (b : Int) (lk : Bool) (W : World) (hN : N ≤ 50) : Calls Try.prog 4 #[.int .i64 N, .int .i64 b, .bool lk] W fun e w' => e = .returned (.bool true) ∧ Below W.heap.size W w' := by
  have d1 : decide ((N : Int) < 0) = false := by rw [decide_eq_false_iff_not]; omega
  have d2 : decide (50 < (N : Int)) = false := by rw [decide_eq_false_iff_not]; omega
  obtain ⟨u, hu⟩ : ∃ u, b % 256 = u := ⟨_, rfl⟩
  obtain ⟨t1, t2, t3, t4⟩ := tmod_byte b
  rw [hu] at t1 t2
  have hub : 0 ≤ u ∧ u < 256 := by omega
  have T1 := Lib.hid t1
  have T2 := Lib.hid t2
  have HU := Lib.hid hu
  have HUB := Lib.hid hub
  clear t1 t2 hu hub
  have key : ∀ v : Int, (v = if lk = true then 844424930131968 else 826832744087552) → Calls Try.prog 4 #[.int .i64 N, .int .i64 b, .bool lk] W fun e w' => e = .returned (.bool true) ∧ Below W.heap.size W w' := by
    intro v hv
    have HW : Hid (∀ wd : Int, wrStep (w13C 0 b) (w13V v) w13B0 ⟨1, wd, 0, 0, false⟩ = ⟨w13V v, w13B0, ⟨1, v, 0, 0, false⟩, 0, false⟩) := Lib.hid (fun wd => w13_wait (by rw [hv]; split; exact .inr rfl; exact .inl rfl) b wd)
    have HV := Lib.hid hv
    clear hv
    cases lk
    all_goals
      have ck := Lib.hid (show cfgOk 8 1 1 = true by decide); go_enter Try.func4, Try.ntmps4; go_wp2_with fail; have hP := (Owns.nil W).more (.cells #[.int .i64 8, .int .i64 1, .int .i64 1] 26); generalize hcb : W.heap.size = cb at hP ⊢; have HC := Lib.hid hcb; clear hcb; generalize W.alloc (.cells #[.int .i64 8, .int .i64 1, .int .i64 1] 26) = w0 at hP ⊢; refine (law13_start 8 1 1 hP ck.out).mono ?_; rintro e w1 ⟨p, bw, bb, m, rfl, hO'⟩; clear hP; have hP := hO'; clear hO'; (try simp only [List.set_cons_zero, List.set_cons_succ, List.cons_append, List.nil_append, List.eraseIdx_cons_succ, List.eraseIdx_cons_zero] at hP); have b0 : _ = some (Value.int .i64 8) := hP.cell 1 0 rfl rfl 0; have b1 : _ = some (Value.int .i64 1) := hP.cell 1 0 rfl rfl 1; have b2 : _ = some (Value.int .i64 1) := hP.cell 1 0 rfl rfl 2; have bz := hP.lt 1 0 rfl rfl
      go_wp2_with (go_at_call 12; refine (handle_make _ _ _).mono ?_; rw [show hMake 0 0 = (1099511627776, 0) by decide]; rintro e w2 ⟨rfl, rfl⟩; refine stop_here ?_)
      try unfold Stop
      rw [w13_0, w13_b0] at hP
      first
        | (have hv : v = 844424930131968 := HV.out)
        | (have hv : v = 826832744087552 := HV.out)
      subst hv
      go_wp2_with fail
      clear d1 d2
      refine (plain_Store 0 5 _ hP rfl (by decide)).mono ?_; rintro e w3 ⟨rfl, hO'⟩; clear hP; have hP := hO'; clear hO'; (try simp only [List.set_cons_zero, List.set_cons_succ, List.cons_append, List.nil_append, List.eraseIdx_cons_succ, List.eraseIdx_cons_zero] at hP)
      go_wp2_with fail
      refine (plain_Store 0 6 _ hP rfl (by rw [wPut_len]; decide)).mono ?_; rw [w13_1]; rintro e w4 ⟨rfl, hO'⟩; clear hP; have hP := hO'; clear hO'; clear b0 b1 b2 bz; (try simp only [List.set_cons_zero, List.set_cons_succ, List.cons_append, List.nil_append, List.eraseIdx_cons_succ, List.eraseIdx_cons_zero] at hP); have b0 : _ = some (Value.int .i64 8) := hP.cell 1 0 rfl rfl 0; have b1 : _ = some (Value.int .i64 1) := hP.cell 1 0 rfl rfl 1; have b2 : _ = some (Value.int .i64 1) := hP.cell 1 0 rfl rfl 2; have bz := hP.lt 1 0 rfl rfl
      go_wp2_with fail
      refine (write_New 8 1 1 _ _ _ (by decide) (by decide) hP).mono ?_; rintro e w6 ⟨x, rfl, hO'⟩; rw [w13_n] at hO'; clear hP; have hP := hO'; clear hO'; have hO' := hP.swap; clear hP; have hP := hO'; clear hO'; (try simp only [List.set_cons_zero, List.set_cons_succ, List.cons_append, List.nil_append, List.eraseIdx_cons_succ, List.eraseIdx_cons_zero] at hP); clear b0 b1 b2 bz
      go_wp2_with fail
      go_loopw [13] (fun i wr => ∃ (k : Nat) (m wd : Int), i = .int .i64 k ∧ k ≤ N ∧ Owns cb W wr [memG p bw bb (w13V _) w13B0 m, wrG x (w13C 0 b) ⟨1, wd, 0, 0, false⟩, [(cb, Obj.cells #[.int .i64 8, .int .i64 1, .int .i64 1] 26 (0, 0))]]) (fun i _ => N - (intOf i).toNat)
      case atStart => exact ⟨0, _, _, rfl, by omega, hP⟩
      case round =>
        clear hP
        obtain ⟨k, m, wd, rfl, hk, hP⟩ := hrel
        by_cases hlt : k < N
        · have HS := Lib.hid (HW.out wd)
          go_wp2_with fail
          refine (wr_Step hP lOk11' (by show 8 ≤ 4096; decide) (by decide) (by unfold WrIn; simp) _ HS.out).mono ?_; simp only [WrPost, resV]; rintro e w7 ⟨rfl, m1, hO'⟩; clear hP; have hP := hO'; clear hO'
          go_wp2_with fail
          have hO' := hP.via (below_alloc _ (.cells #[.int .i64 0, .int .i64 0] 41)); clear hP; have hP := hO'; clear hO'
          generalize w7.alloc _ = w8 at hP ⊢
          refine (wr_Guards 1 hP rfl).mono ?_; rintro e w9 ⟨rfl, rfl⟩
          go_wp2_with fail
          refine (plain_Load 0 5 hP rfl (by show 8 ≤ 4096; decide)).mono ?_; rw [w13_at]; rintro e w9 ⟨rfl, hO'⟩; clear hP; have hP := hO'; clear hO'; (try simp only [List.set_cons_zero, List.set_cons_succ, List.cons_append, List.nil_append, List.eraseIdx_cons_succ, List.eraseIdx_cons_zero] at hP)
          go_wp2_with fail
          refine (plain_Byte 0 0 hP rfl (by decide) (by decide)).mono ?_; rw [show wAt w13B0 0 = 0 by decide]; rintro e w10 ⟨rfl, hO'⟩; clear hP; have hP := hO'; clear hO'; (try simp only [List.set_cons_zero, List.set_cons_succ, List.cons_append, List.nil_append, List.eraseIdx_cons_succ, List.eraseIdx_cons_zero] at hP)
          go_wp2_with fail
          go_roundw
          case rel => exact ⟨k + 1, _, _, by go_num, by omega, hP⟩
          case measure => simp [intOf]; omega
        · have hge : decide (k < N) = false := by rw [decide_eq_false_iff_not]; omega
          have hkN : k = N := by omega
          clear hlt
          go_wp2_with fail
          clear hge
          refine (plain_Store 0 5 _ hP rfl (by show 8 ≤ 4096; decide)).mono ?_; rw [w13_put]; rintro e w8 ⟨rfl, hO'⟩; clear hP; have hP := hO'; clear hO'; (try simp only [List.set_cons_zero, List.set_cons_succ, List.cons_append, List.nil_append, List.eraseIdx_cons_succ, List.eraseIdx_cons_zero] at hP)
          go_wp2_with fail
          refine (write_run 10 (by decide) hP lOk11' (by show 8 ≤ 4096; decide) (by decide) (by unfold WrIn; simp) _ (wr_one (by decide) (by decide))).mono ?_; rw [HU.out]; simp only [resN]; rintro e w9 ⟨rfl, m1, hO'⟩; clear hP; have hP := hO'; clear hO'
          go_upto_region 20 with fail
          have hO' := hP.more (.cells #[.int .i64 0, .int .i64 0] 41); clear hP; have hP := hO'; clear hO'
          generalize w9.heap.size = r1 at hP ⊢
          generalize w9.alloc _ = w10 at hP ⊢
          (try simp only [List.set_cons_zero, List.set_cons_succ, List.cons_append, List.nil_append, List.eraseIdx_cons_succ, List.eraseIdx_cons_zero] at hP)
          have ra0 : _ = some (Value.int .i64 0) := hP.cell 3 0 rfl rfl 0
          have ra1 : _ = some (Value.int .i64 0) := hP.cell 3 0 rfl rfl 1
          have HB0 := Lib.hid (show wAt (wPut w13B0 0 u) 0 = u from rfl)
          have HBO := Lib.hid (show ∀ z ∈ wPut w13B0 0 u, 0 ≤ z ∧ z < 256 by intro z hz; unfold wPut w13B0 wIn at hz; simp at hz; have := HUB.out; rcases hz with rfl | rfl <;> omega)
          have t1 := T1.out
          have t2 := T2.out
          go_wp2_with fail
          refine (plain_Byte 0 0 hP rfl (by show 8 ≤ 4096; decide) HBO.out).mono ?_; rw [HB0.out]; rintro e w11 ⟨rfl, hO'⟩; clear hP; have hP := hO'; clear hO'; (try simp only [List.set_cons_zero, List.set_cons_succ, List.cons_append, List.nil_append, List.eraseIdx_cons_succ, List.eraseIdx_cons_zero] at hP)
          go_wp2_with (go_at_call 14; refine (law13_live _).mono ?_; rintro e w6 ⟨rfl, hb⟩; have hO := hP.via hb)
          go_ret
          exact ⟨rfl, by rw [HC.out]; exact hO.below⟩
  exact key _ rfl
theorem WriteWaits_walk (n b : Int) (lk : Bool) (W : World) : Calls Try.prog 4 #[.int .i64 n, .int .i64 b, .bool lk] W fun e w' => e = .returned (.bool true) ∧ Below W.heap.size W w' := by
  by_cases h : 0 ≤ n ∧ n ≤ 50
  · obtain ⟨N, hN⟩ : ∃ N : Nat, n = N := ⟨n.toNat, by omega⟩
    subst hN
    exact WriteWaits_go N b lk W (by omega)
  · exact WriteWaits_far n b lk W (by omega)
end Go.Proofs.Ytboephhffklbbaa
