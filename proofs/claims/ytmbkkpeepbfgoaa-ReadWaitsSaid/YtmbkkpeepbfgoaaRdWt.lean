/- The read law ReadWaits. -/
import Derived.LoopTactic
import Derived.Test.YtmbkkpeepbfgoaaRdG0
import Derived.Test.YtmbkkpeepbfgoaaRdL
namespace Go.Proofs.Ytmbkkpeepbfgoaa
set_option linter.unusedVariables false
set_option linter.unusedSimpArgs false
open Go.RowKit
def wtW0 : List Int := [0, 1, 0, 0, 0, 0, 0, 0]
def wtW1 : List Int := [0, 1, 0, 0, 0, 844424930131968, 0, 0]
def wtW2 : List Int := [0, 1, 0, 0, 0, 844424930131968, 8, 0]
def wtW3 : List Int := [0, 1, 0, 0, 0, 562949953421312, 8, 0]
def wtB0 : List Int := [0, 0, 0, 0, 0, 0, 0, 0]
def wtB (v : Int) : List Int := [v, 0, 0, 0, 0, 0, 0, 0]
theorem wt_0 : initW 1 1 = wtW0 := by decide
theorem wt_b0 : List.replicate (8 : Int).toNat (0 : Int) = wtB0 := by decide
theorem wt_1 : wPut wtW0 5 844424930131968 = wtW1 := by decide
theorem wt_2 : wPut wtW1 6 8 = wtW2 := by decide
theorem wt_3 : wPut wtW2 5 562949953421312 = wtW3 := by decide
theorem wt_b (v : Int) : wPut wtB0 0 v = wtB v := by rfl
theorem wt_ok (v : Int) (h : 0 ≤ v ∧ v < 256) : BOk (wtB v) := by
  unfold BOk wtB
  refine ⟨by simp, fun x hx => ?_⟩
  simp at hx
  rcases hx with rfl | rfl
  · exact h
  · decide
theorem wt_s (v : Int) : rdStep 1 1 0 0 false 0 wtW2 (wtB v) rdN = (rdN, (0, 0), false) := by rfl
theorem wt_r (v : Int) : (mRun (rdF 1 1 0 0 false 0 wtW3 (wtB v)) 10 10 rdN).2 = ((0, v), 4) := by
  have := rd_go (t := 1) (s := 1) (sl := 0) (ge := 0) (off := 0) (ws := wtW3) (bs := wtB v) (v := 562949953421312) (O := 0) (S := 8) (by decide) (by decide) (by decide) (by decide) (by decide) 6
  rw [this, if_neg (by decide), show wrap64 (0 + 0) = 0 by unfold wrap64; rfl]; rfl
theorem wt_n (x : Nat) : rdNews 8 1 1 1099511627776 0 x = rdG x 1 1 0 0 false 0 rdN := by
  have h1 : ofT 8 1 1 = 1 := by decide
  have h2 : ofS 8 1 1 = 1 := by decide
  have h3 : hOf 1099511627776 1 = (0, 0, 0) := by decide
  have h4 : cfgOk 8 1 1 = true := by decide
  unfold rdNews; rw [h1, h2, h3, h4]; rfl
set_option maxRecDepth 100000 in
set_option maxHeartbeats 8000000 in
theorem ReadWaits_far (n b : Int) (W : World) (hn : n < 0 ∨ (0 ≤ n ∧ 50 < n)) : Calls Try.prog 4 #[.int .i64 n, .int .i64 b] W fun e w' => e = .returned (.bool true) ∧ Below W.heap.size W w' := by
  rcases hn with h1 | ⟨h1, h2⟩
  all_goals
    have ck := Lib.hid (show cfgOk 8 1 1 = true by decide); go_enter Try.func4, Try.ntmps4; go_wp2_with fail; have hO := (Owns.nil W).more (.cells #[.int .i64 8, .int .i64 1, .int .i64 1] 26); generalize hcb : W.heap.size = cb at hO ⊢; have HC := Lib.hid hcb; clear hcb; generalize W.alloc (.cells #[.int .i64 8, .int .i64 1, .int .i64 1] 26) = w0 at hO ⊢; refine (law12_start 8 1 1 hO ck.out).mono ?_; rintro e w1 ⟨p, bw, bb, m, rfl, hO'⟩; have hO := hO'.last; (try simp only [List.set_cons_zero, List.set_cons_succ, List.cons_append, List.nil_append] at hO); have b0 : _ = some (Value.int .i64 8) := hO.cell 0 0 rfl rfl 0; have b1 : _ = some (Value.int .i64 1) := hO.cell 0 0 rfl rfl 1; have b2 : _ = some (Value.int .i64 1) := hO.cell 0 0 rfl rfl 2; have bz := hO.lt 0 0 rfl rfl
    go_wp2_with first
      | (go_at_call 14; refine (handle_make _ _ _).mono ?_; rw [show hMake 0 0 = (1099511627776, 0) by decide]; rintro e w2 ⟨rfl, rfl⟩)
      | (go_at_call 15; refine (law12_live _).mono ?_; rintro e w6 ⟨rfl, hb⟩; have hO := hO.via hb)
    go_ret
    exact ⟨rfl, by rw [HC.out]; exact hO.below⟩
set_option maxRecDepth 100000 in
set_option maxHeartbeats 8000000 in
theorem ReadWaits_go (N : Nat) (b : Int) (W : World) (hN : N ≤ 50) : Calls Try.prog 4 #[.int .i64 N, .int .i64 b] W fun e w' => e = .returned (.bool true) ∧ Below W.heap.size W w' := by
  have d1 : decide ((N : Int) < 0) = false := by rw [decide_eq_false_iff_not]; omega
  have d2 : decide (50 < (N : Int)) = false := by rw [decide_eq_false_iff_not]; omega
  obtain ⟨v, hv⟩ : ∃ v, b % 256 = v := ⟨_, rfl⟩
  have hvb : 0 ≤ v ∧ v < 256 := by omega
  obtain ⟨t1, t2, t3, t4⟩ := tmod_byte b
  have HVB := Lib.hid hvb
  have HV := Lib.hid hv
  rw [hv] at t1 t2
  have T1 := Lib.hid t1
  have T2 := Lib.hid t2
  clear t1 t2 hv
  have ck := Lib.hid (show cfgOk 8 1 1 = true by decide); go_enter Try.func4, Try.ntmps4; go_wp2_with fail; have hO := (Owns.nil W).more (.cells #[.int .i64 8, .int .i64 1, .int .i64 1] 26); generalize hcb : W.heap.size = cb at hO ⊢; have HC := Lib.hid hcb; clear hcb; generalize W.alloc (.cells #[.int .i64 8, .int .i64 1, .int .i64 1] 26) = w0 at hO ⊢; refine (law12_start 8 1 1 hO ck.out).mono ?_; rintro e w1 ⟨p, bw, bb, m, rfl, hO'⟩; have hO := hO'.last; (try simp only [List.set_cons_zero, List.set_cons_succ, List.cons_append, List.nil_append] at hO); have b0 : _ = some (Value.int .i64 8) := hO.cell 0 0 rfl rfl 0; have b1 : _ = some (Value.int .i64 1) := hO.cell 0 0 rfl rfl 1; have b2 : _ = some (Value.int .i64 1) := hO.cell 0 0 rfl rfl 2; have bz := hO.lt 0 0 rfl rfl
  go_wp2_with (go_at_call 14; refine (handle_make _ _ _).mono ?_; rw [show hMake 0 0 = (1099511627776, 0) by decide]; rintro e w2 ⟨rfl, rfl⟩; refine stop_here ?_)
  try unfold Stop
  rw [wt_0, wt_b0] at hO
  go_wp2_with fail
  clear d1 d2
  refine (plain_Store 1 5 _ hO rfl (by decide)).mono ?_; rw [wt_1]; rintro e w3 ⟨rfl, hO'⟩; have hO := hO'; (try simp only [List.set_cons_zero, List.set_cons_succ, List.cons_append, List.nil_append] at hO); have b0 : _ = some (Value.int .i64 8) := hO.cell 0 0 rfl rfl 0; have b1 : _ = some (Value.int .i64 1) := hO.cell 0 0 rfl rfl 1; have b2 : _ = some (Value.int .i64 1) := hO.cell 0 0 rfl rfl 2; have bz := hO.lt 0 0 rfl rfl
  go_wp2_with fail
  refine (plain_Store 1 6 _ hO rfl (by decide)).mono ?_; rw [wt_2]; rintro e w4 ⟨rfl, hO'⟩; have hO := hO'; (try simp only [List.set_cons_zero, List.set_cons_succ, List.cons_append, List.nil_append] at hO); have b0 : _ = some (Value.int .i64 8) := hO.cell 0 0 rfl rfl 0; have b1 : _ = some (Value.int .i64 1) := hO.cell 0 0 rfl rfl 1; have b2 : _ = some (Value.int .i64 1) := hO.cell 0 0 rfl rfl 2; have bz := hO.lt 0 0 rfl rfl
  go_wp2_with fail
  refine (plain_SetByte 1 0 _ hO rfl (by decide)).mono ?_; rw [HV.out, wt_b]; rintro e w5 ⟨rfl, hO'⟩; have hO := hO'; (try simp only [List.set_cons_zero, List.set_cons_succ, List.cons_append, List.nil_append] at hO); have b0 : _ = some (Value.int .i64 8) := hO.cell 0 0 rfl rfl 0; have b1 : _ = some (Value.int .i64 1) := hO.cell 0 0 rfl rfl 1; have b2 : _ = some (Value.int .i64 1) := hO.cell 0 0 rfl rfl 2; have bz := hO.lt 0 0 rfl rfl
  go_wp2_with fail
  refine (read_New 8 1 1 _ _ (by decide) (by decide) hO).mono ?_; rintro e w6 ⟨x, rfl, hO'⟩; rw [wt_n] at hO'; have hO := hO'.third; (try simp only [List.set_cons_zero, List.set_cons_succ, List.cons_append, List.nil_append] at hO)
  clear b0 b1 b2 bz
  go_wp2_with fail
  go_loopw [10] (fun i wr => ∃ (k : Nat) (m : Int), i = .int .i64 k ∧ k ≤ N ∧ Owns cb W wr [[(cb, Obj.cells #[.int .i64 8, .int .i64 1, .int .i64 1] 26 (0, 0))], memG p bw bb wtW2 (wtB v) m, rdG x 1 1 0 0 false 0 rdN]) (fun i _ => N - (intOf i).toNat)
  case atStart => exact ⟨0, _, rfl, by omega, hO⟩
  case round =>
    clear hO
    obtain ⟨k, m, rfl, hk, hO⟩ := hrel
    by_cases hlt : k < N
    · go_wp2_with (go_at_call 19; refine (read_Step 1 2 (by decide) hO rfl (.inr (by decide)) (by decide) (wt_ok _ HVB.out) rdN_in rfl).mono ?_; rw [wt_s]; simp only [RdPost, resV]; rintro e w7 ⟨rfl, m1, hO'⟩; have hO := hO')
      go_roundw
      case rel => exact ⟨k + 1, m1, by go_num, by omega, hO.via (by (repeat' (first | (with_reducible exact Below.refl _ _) | (with_reducible assumption) | (with_reducible refine below_drewN ?_ _) | (with_reducible refine Below.drew ?_) | (with_reducible refine Below.alloc ?_ ?_ _) | (with_reducible refine Below.setCell ?_ ?_ _) | (with_reducible refine below_via (by assumption) ?_ ?_) | go_size)))⟩
      case measure => simp [intOf]; omega
    · have hge : decide (k < N) = false := by rw [decide_eq_false_iff_not]; omega
      have hkN : k = N := by omega
      clear hlt
      (try simp only [List.set_cons_zero, List.set_cons_succ, List.cons_append, List.nil_append] at hO); have b0 : _ = some (Value.int .i64 8) := hO.cell 0 0 rfl rfl 0; have b1 : _ = some (Value.int .i64 1) := hO.cell 0 0 rfl rfl 1; have b2 : _ = some (Value.int .i64 1) := hO.cell 0 0 rfl rfl 2; have bz := hO.lt 0 0 rfl rfl
      go_wp2_with fail
      clear hge
      refine (plain_Store 1 5 _ hO rfl (by decide)).mono ?_; rw [wt_3]; rintro e w8 ⟨rfl, hO'⟩; have hO := hO'; (try simp only [List.set_cons_zero, List.set_cons_succ, List.cons_append, List.nil_append] at hO); have b0 : _ = some (Value.int .i64 8) := hO.cell 0 0 rfl rfl 0; have b1 : _ = some (Value.int .i64 1) := hO.cell 0 0 rfl rfl 1; have b2 : _ = some (Value.int .i64 1) := hO.cell 0 0 rfl rfl 2; have bz := hO.lt 0 0 rfl rfl
      go_wp2_with fail
      refine (read_run 10 (by decide) hO (.inr (by decide)) (by decide) (wt_ok _ HVB.out) rdN_in).mono ?_; rw [wt_r]; simp only [resN]; rintro e w9 ⟨rfl, m1, hO'⟩; have hO := hO'; (try simp only [List.set_cons_zero, List.set_cons_succ, List.cons_append, List.nil_append] at hO); have b0 : _ = some (Value.int .i64 8) := hO.cell 0 0 rfl rfl 0; have b1 : _ = some (Value.int .i64 1) := hO.cell 0 0 rfl rfl 1; have b2 : _ = some (Value.int .i64 1) := hO.cell 0 0 rfl rfl 2; have bz := hO.lt 0 0 rfl rfl
      have t1 := T1.out
      have t2 := T2.out
      have hO1 := fun o => hO.via (below_alloc _ o)
      go_wp2_with (go_at_call 15; refine (law12_live _).mono ?_; rintro e w6 ⟨rfl, hb⟩; have hO := (hO1 _).via hb)
      go_ret
      exact ⟨rfl, by rw [HC.out]; exact hO.below⟩
theorem ReadWaits_walk (n b : Int) (W : World) : Calls Try.prog 4 #[.int .i64 n, .int .i64 b] W fun e w' => e = .returned (.bool true) ∧ Below W.heap.size W w' := by
  by_cases h : 0 ≤ n ∧ n ≤ 50
  · obtain ⟨N, hN⟩ : ∃ N : Nat, n = N := ⟨n.toNat, by omega⟩
    subst hN
    exact ReadWaits_go N b W (by omega)
  · exact ReadWaits_far n b W (by omega)
end Go.Proofs.Ytmbkkpeepbfgoaa
