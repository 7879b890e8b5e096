/- The free laws' 'live'. -/
import Derived.RegionTactic
import Derived.BigRegion
import Derived.Deep.RegionHeld3
import Derived.Outline
import Derived.Test.YtpebepjfgnoaaaaGreatFrM
import Derived.Test.YtpebepjfgnoaaaaGreatStF
import Derived.Test.YtpebepjfgnoaaaaGreatEnR3
namespace Go.Proofs.YtpebepjfgnoaaaaGreat
set_option linter.unusedVariables false
set_option linter.unusedSimpArgs false
open Go.RowKit
def p15W0 : List Int := [0, 1, 0, 0, 0, 0, 0, 2, 0, 0, 0]
def p15W1 : List Int := [8, 1048578, 0, 0, 0, 562949953421312, 4, 2, 0, 0, 0]
def p15W2 : List Int := [8, 1048578, 0, 0, 0, 1048576, 4, 2, 0, 0, 0]
def p15W3 : List Int := [8, 2097153, 0, 0, 0, 1048576, 4, 2, 0, 0, 0]
def p15W4 : List Int := [16, 3145730, 0, 0, 0, 562949954469896, 4, 2, 0, 0, 0]
def p15B : List Int := List.replicate 64 0
def p15C : FrC := ⟨1, 2, 0, 0, false, 0⟩
theorem p15_0 : initW 1 2 = p15W0 := by decide
theorem p15_b0 : List.replicate (64 : Int).toNat (0 : Int) = p15B := by decide
theorem p15_c {tk : Nat} : alC0 64 2 1 4 tk = ⟨1, 2, 64, 4, 8, tk, 0⟩ := by
  have h1 : ofT 64 2 1 = 1 := by decide
  have h2 : ofS 64 2 1 = 2 := by decide
  have h3 : (hRound 4).1 = 8 := by decide
  unfold alC0; rw [h1, h2, h3]
theorem p15_n : frNewC 64 2 1 1099511627776 = p15C := by
  have h1 : ofT 64 2 1 = 1 := by decide
  have h2 : ofS 64 2 1 = 2 := by decide
  have h3 : hOf 1099511627776 2 = (0, 0, 0) := by decide
  unfold frNewC; rw [h1, h2, h3]; rfl
theorem p15_x : alNx 64 2 1 = 1 := by decide
theorem p15_m1 (tk : Nat) : ∃ q N, mRun (alF1 ⟨1, 2, 64, 4, 8, tk, 0⟩) 1000 1000 ⟨p15W0, p15B, alV0 1⟩ = (q, (0, 1099511627776), N) ∧ q.ws = p15W1 ∧ q.bs = p15B := ⟨⟨p15W1, p15B, ⟨0, 1, 0, 0, 0, 8, 0, 562949953421312, false, ⟨0, 0, 1, 1048578⟩, none⟩⟩, 20, by kernel_rfl, rfl, rfl⟩
theorem p15_s1 : frStep p15C p15W1 (frV0 1) = ⟨p15W1, ⟨2, 562949953421312, 1048576, true, none⟩, 0, false⟩ := by kernel_rfl
theorem p15_s2 : frStep p15C p15W1 ⟨2, 562949953421312, 1048576, true, none⟩ = ⟨p15W2, ⟨3, 562949953421312, 1048576, true, some ⟨1, 0, 0, 0⟩⟩, 0, false⟩ := by kernel_rfl
theorem p15_r1 : mRun (frF1 p15C) 10 10 ⟨p15W2, ⟨3, 562949953421312, 1048576, true, some ⟨1, 0, 0, 0⟩⟩⟩ = (⟨p15W3, ⟨0, 562949953421312, 1048576, true, some ⟨0, 0, 1048578, 2097153⟩⟩⟩, (0, 0), 3) := by kernel_rfl
theorem p15_r1g (y : Nat) : mRun (frF1 { p15C with gp := y }) 10 10 ⟨p15W2, ⟨3, 562949953421312, 1048576, true, some ⟨1, 0, 0, 0⟩⟩⟩ = (⟨p15W3, ⟨0, 562949953421312, 1048576, true, some ⟨0, 0, 1048578, 2097153⟩⟩⟩, (0, 0), 3) := p15_r1
theorem p15_r2 : mRun (frF1 p15C) 10 10 ⟨p15W3, frV0 1⟩ = (⟨p15W3, ⟨0, 1048576, 0, false, none⟩⟩, (4, 0), 1) := by kernel_rfl
theorem p15_m2 (tk : Nat) : ∃ q N, mRun (alF1 ⟨1, 2, 64, 4, 8, tk, 0⟩) 1000 1000 ⟨p15W3, p15B, alV0 1⟩ = (q, (0, 1099512676352), N) ∧ q.ws = p15W4 ∧ q.bs = p15B := ⟨⟨p15W4, p15B, ⟨0, 1, 0, 0, 8, 8, 1, 562949954469896, false, ⟨0, 0, 2097153, 3145730⟩, none⟩⟩, 20, by kernel_rfl, rfl, rfl⟩
theorem p15_f : freeOf 1 2 p15W4 = [1] := by decide
theorem p15_ok : WOk p15W4 := by unfold WOk; decide
theorem p15_in1 : FrIn (frV0 1) := frV1_in
theorem p15_in2 : FrIn ⟨2, 562949953421312, 1048576, true, none⟩ := ⟨by decide, by decide, fun _ _ => rfl, fun e => absurd e (by decide)⟩
theorem p15_in3 : FrIn ⟨3, 562949953421312, 1048576, true, some ⟨1, 0, 0, 0⟩⟩ := ⟨by decide, by decide, fun _ e => absurd e (by decide), fun _ => ⟨_, rfl⟩⟩
theorem p15_lok (y : Nat) : lOk ({ p15C with gp := y } : FrC).t ({ p15C with gp := y } : FrC).s := .inr (by show 1 ≤ (1 : Int) ∧ (1 : Int) ≤ 4 ∧ 1 ≤ (2 : Int) ∧ (2 : Int) ≤ 64; decide)
set_option maxRecDepth 100000 in
set_option maxHeartbeats 16000000 in
theorem law15_live (W : World) : Calls Tryz.prog 4 #[] W fun e w' => e = .returned (.bool true) ∧ Below W.heap.size W w' := by
  have ck := Lib.hid (show cfgOk 64 2 1 = true by decide)
  go_enter Tryz.func4, Tryz.ntmps4
  go_wp2_with fail
  have hP := (Owns.nil W).more (.cells #[.int .i64 64, .int .i64 2, .int .i64 1] 23)
  generalize hcb : W.heap.size = cb at hP ⊢
  have HC := Lib.hid hcb
  clear hcb
  generalize W.alloc (.cells #[.int .i64 64, .int .i64 2, .int .i64 1] 23) = w0 at hP ⊢
  refine (law15_start 64 2 1 hP ck.out).mono ?_; rintro e w1 ⟨p, bw, bb, m, rfl, hO'⟩; clear hP; have hP := hO'; clear hO'; (try simp only [List.set_cons_zero, List.set_cons_succ, List.cons_append, List.nil_append, List.eraseIdx_cons_succ, List.eraseIdx_cons_zero] at hP); have b0 : _ = some (Value.int .i64 64) := hP.cell 1 0 rfl rfl 0; have b1 : _ = some (Value.int .i64 2) := hP.cell 1 0 rfl rfl 1; have b2 : _ = some (Value.int .i64 1) := hP.cell 1 0 rfl rfl 2; have bz := hP.lt 1 0 rfl rfl
  rw [p15_0, p15_b0] at hP
  go_wp2_with fail
  refine (layout_Of _ _ _ _).mono ?_; rw [show ofT 64 2 1 = 1 by decide, show ofS 64 2 1 = 2 by decide, show ofE 64 2 1 = 0 by decide]; rintro e w2 ⟨rfl, hb⟩; have hO' := hP.via hb; clear hP; have hP := hO'; clear hO'
  clear b0 b1 b2 bz
  go_upto_region 6 with fail
  have hO' := hP.more (.cells #[.int .i64 1, .int .i64 2] 56); clear hP; have hP := hO'; clear hO'
  generalize w2.heap.size = lb at hP ⊢
  generalize w2.alloc _ = w3 at hP ⊢
  (try simp only [List.set_cons_zero, List.set_cons_succ, List.cons_append, List.nil_append, List.eraseIdx_cons_succ, List.eraseIdx_cons_zero] at hP); have b0 : _ = some (Value.int .i64 64) := hP.cell 1 0 rfl rfl 0; have b1 : _ = some (Value.int .i64 2) := hP.cell 1 0 rfl rfl 1; have b2 : _ = some (Value.int .i64 1) := hP.cell 1 0 rfl rfl 2; have bz := hP.lt 1 0 rfl rfl
  go_wp2_with fail
  refine (law15_make1 64 2 1 4 ck.out hP (by decide) (by decide)).mono ?_
  rintro e w4 ⟨tk, r, hr, rfl, m4, hO'⟩
  rw [p15_c] at hr
  obtain ⟨⟨qw, qb, qv⟩, N1, hm, rfl, rfl⟩ := p15_m1 tk
  rw [hm] at hr; subst hr
  simp only at hO'
  clear hP; have hP := hO'; clear hO'
  clear hm
  clear b0 b1 b2 bz
  go_upto_region 7 with fail
  have hO' := hP.more (.cells #[.int .i64 0, .int .i64 1099511627776] 43); clear hP; have hP := hO'; clear hO'
  generalize w4.heap.size = hb at hP ⊢
  generalize w4.alloc _ = w5 at hP ⊢
  (try simp only [List.set_cons_zero, List.set_cons_succ, List.cons_append, List.nil_append, List.eraseIdx_cons_succ, List.eraseIdx_cons_zero] at hP); have b0 : _ = some (Value.int .i64 64) := hP.cell 1 0 rfl rfl 0; have b1 : _ = some (Value.int .i64 2) := hP.cell 1 0 rfl rfl 1; have b2 : _ = some (Value.int .i64 1) := hP.cell 1 0 rfl rfl 2; have bz := hP.lt 1 0 rfl rfl; have h0 : _ = some (Value.int .i64 0) := hP.cell 3 0 rfl rfl 0; have h1 : _ = some (Value.int .i64 1099511627776) := hP.cell 3 0 rfl rfl 1; have hz := hP.lt 3 0 rfl rfl
  go_wp2_with fail
  refine (free_New 64 2 1 1099511627776 (by decide) (by decide) hP).mono ?_; rintro e w6 ⟨x, rfl, hO'⟩; rw [p15_n, p15_x] at hO'; clear hP; have hP := hO'; clear hO'; have hO' := hP.swap; clear hP; have hP := hO'; clear hO'; clear b0 b1 b2 bz h0 h1 hz; (try simp only [List.set_cons_zero, List.set_cons_succ, List.cons_append, List.nil_append, List.eraseIdx_cons_succ, List.eraseIdx_cons_zero] at hP); have b0 : _ = some (Value.int .i64 64) := hP.cell 2 0 rfl rfl 0; have b1 : _ = some (Value.int .i64 2) := hP.cell 2 0 rfl rfl 1; have b2 : _ = some (Value.int .i64 1) := hP.cell 2 0 rfl rfl 2; have bz := hP.lt 2 0 rfl rfl; have h0 : _ = some (Value.int .i64 0) := hP.cell 4 0 rfl rfl 0; have h1 : _ = some (Value.int .i64 1099511627776) := hP.cell 4 0 rfl rfl 1; have hz := hP.lt 4 0 rfl rfl
  go_wp2_with fail
  refine (fr_Step hP (p15_lok 0) (by decide) p15_in1 _ p15_s1).mono ?_; simp only [FrPost, resV]; rintro e w7 ⟨rfl, m7, y7, hO'⟩; clear hP; have hP := hO'; clear hO'; clear b0 b1 b2 bz h0 h1 hz; (try simp only [List.set_cons_zero, List.set_cons_succ, List.cons_append, List.nil_append, List.eraseIdx_cons_succ, List.eraseIdx_cons_zero] at hP); have b0 : _ = some (Value.int .i64 64) := hP.cell 2 0 rfl rfl 0; have b1 : _ = some (Value.int .i64 2) := hP.cell 2 0 rfl rfl 1; have b2 : _ = some (Value.int .i64 1) := hP.cell 2 0 rfl rfl 2; have bz := hP.lt 2 0 rfl rfl; have h0 : _ = some (Value.int .i64 0) := hP.cell 4 0 rfl rfl 0; have h1 : _ = some (Value.int .i64 1099511627776) := hP.cell 4 0 rfl rfl 1; have hz := hP.lt 4 0 rfl rfl
  go_wp2_with fail
  refine (fr_Step hP (p15_lok _) (by decide) p15_in2 _ p15_s2).mono ?_; simp only [FrPost, resV]; rintro e w8 ⟨rfl, m8, y8, hO'⟩; clear hP; have hP := hO'; clear hO'; clear b0 b1 b2 bz h0 h1 hz; (try simp only [List.set_cons_zero, List.set_cons_succ, List.cons_append, List.nil_append, List.eraseIdx_cons_succ, List.eraseIdx_cons_zero] at hP); have b0 : _ = some (Value.int .i64 64) := hP.cell 2 0 rfl rfl 0; have b1 : _ = some (Value.int .i64 2) := hP.cell 2 0 rfl rfl 1; have b2 : _ = some (Value.int .i64 1) := hP.cell 2 0 rfl rfl 2; have bz := hP.lt 2 0 rfl rfl; have h0 : _ = some (Value.int .i64 0) := hP.cell 4 0 rfl rfl 0; have h1 : _ = some (Value.int .i64 1099511627776) := hP.cell 4 0 rfl rfl 1; have hz := hP.lt 4 0 rfl rfl
  go_wp2_with fail
  refine (fr_Gives 1 hP rfl).mono ?_; rintro e w9 ⟨rfl, rfl⟩
  go_wp2_with fail
  refine (free_run 10 (by decide) hP (p15_lok _) (by decide) p15_in3 _ (p15_r1g _)).mono ?_; simp only [resN]; rintro e w10 ⟨rfl, m10, y10, hO'⟩; clear hP; have hP := hO'; clear hO'; clear b0 b1 b2 bz h0 h1 hz; (try simp only [List.set_cons_zero, List.set_cons_succ, List.cons_append, List.nil_append, List.eraseIdx_cons_succ, List.eraseIdx_cons_zero] at hP)
  go_upto_region 12 with fail
  have hO' := hP.more (.cells #[.int .i64 0, .int .i64 0] 43); clear hP; have hP := hO'; clear hO'
  generalize w10.heap.size = ab at hP ⊢
  generalize w10.alloc _ = w11 at hP ⊢
  (try simp only [List.set_cons_zero, List.set_cons_succ, List.cons_append, List.nil_append, List.eraseIdx_cons_succ, List.eraseIdx_cons_zero] at hP); have b0 : _ = some (Value.int .i64 64) := hP.cell 2 0 rfl rfl 0; have b1 : _ = some (Value.int .i64 2) := hP.cell 2 0 rfl rfl 1; have b2 : _ = some (Value.int .i64 1) := hP.cell 2 0 rfl rfl 2; have bz := hP.lt 2 0 rfl rfl; have h0 : _ = some (Value.int .i64 0) := hP.cell 4 0 rfl rfl 0; have h1 : _ = some (Value.int .i64 1099511627776) := hP.cell 4 0 rfl rfl 1; have hz := hP.lt 4 0 rfl rfl
  go_wp2_with fail
  refine (fr_Gives 1 hP rfl).mono ?_; rintro e w12 ⟨rfl, rfl⟩
  have hO' := hP.drop 1; clear hP; have hP := hO'; clear hO'
  clear b0 b1 b2 bz h0 h1 hz
  (try simp only [List.set_cons_zero, List.set_cons_succ, List.cons_append, List.nil_append, List.eraseIdx_cons_succ, List.eraseIdx_cons_zero] at hP); have b0 : _ = some (Value.int .i64 64) := hP.cell 1 0 rfl rfl 0; have b1 : _ = some (Value.int .i64 2) := hP.cell 1 0 rfl rfl 1; have b2 : _ = some (Value.int .i64 1) := hP.cell 1 0 rfl rfl 2; have bz := hP.lt 1 0 rfl rfl; have h0 : _ = some (Value.int .i64 0) := hP.cell 3 0 rfl rfl 0; have h1 : _ = some (Value.int .i64 1099511627776) := hP.cell 3 0 rfl rfl 1; have hz := hP.lt 3 0 rfl rfl
  go_wp2_with fail
  refine (free_New 64 2 1 1099511627776 (by decide) (by decide) hP).mono ?_; rintro e w13 ⟨x2, rfl, hO'⟩; rw [p15_n, p15_x] at hO'; clear hP; have hP := hO'; clear hO'; have hO' := hP.swap; clear hP; have hP := hO'; clear hO'; clear b0 b1 b2 bz h0 h1 hz; (try simp only [List.set_cons_zero, List.set_cons_succ, List.cons_append, List.nil_append, List.eraseIdx_cons_succ, List.eraseIdx_cons_zero] at hP)
  go_wp2_with fail
  refine (free_run 10 (by decide) hP (p15_lok 0) (by decide) p15_in1 _ p15_r2).mono ?_; simp only [resN]; rintro e w14 ⟨rfl, m14, y14, hO'⟩; clear hP; have hP := hO'; clear hO'; have hO' := hP.drop 1; clear hP; have hP := hO'; clear hO'; (try simp only [List.set_cons_zero, List.set_cons_succ, List.cons_append, List.nil_append, List.eraseIdx_cons_succ, List.eraseIdx_cons_zero] at hP)
  go_upto_region 14 with fail
  have hO' := hP.more (.cells #[.int .i64 4, .int .i64 0] 43); clear hP; have hP := hO'; clear hO'
  generalize w14.heap.size = kb at hP ⊢
  generalize w14.alloc _ = w15 at hP ⊢
  (try simp only [List.set_cons_zero, List.set_cons_succ, List.cons_append, List.nil_append, List.eraseIdx_cons_succ, List.eraseIdx_cons_zero] at hP); have b0 : _ = some (Value.int .i64 64) := hP.cell 1 0 rfl rfl 0; have b1 : _ = some (Value.int .i64 2) := hP.cell 1 0 rfl rfl 1; have b2 : _ = some (Value.int .i64 1) := hP.cell 1 0 rfl rfl 2; have bz := hP.lt 1 0 rfl rfl
  go_wp2_with fail
  refine (law15_make1 64 2 1 4 ck.out hP (by decide) (by decide)).mono ?_
  rintro e w16 ⟨tk2, r2, hr, rfl, m16, hO'⟩
  rw [p15_c] at hr
  obtain ⟨⟨qw, qb, qv2⟩, N2, hm, rfl, rfl⟩ := p15_m2 tk2
  rw [hm] at hr; subst hr
  simp only at hO'
  clear hP; have hP := hO'; clear hO'
  clear hm
  clear b0 b1 b2 bz
  (try simp only [List.set_cons_zero, List.set_cons_succ, List.cons_append, List.nil_append, List.eraseIdx_cons_succ, List.eraseIdx_cons_zero] at hP)
  go_upto_region 15 with fail
  have hO' := hP.more (.cells #[.int .i64 0, .int .i64 1099512676352] 43); clear hP; have hP := hO'; clear hO'; (try simp only [List.set_cons_zero, List.set_cons_succ, List.cons_append, List.nil_append, List.eraseIdx_cons_succ, List.eraseIdx_cons_zero] at hP)
  generalize w16.heap.size = gb at hP ⊢
  generalize w16.alloc _ = w17 at hP ⊢
  go_wp2_with fail
  refine (handle_make _ _ _).mono ?_
  rw [show hMake 0 1 = (1099512676352, 0) by decide]
  rintro e w18 ⟨rfl, rfl⟩
  have l0 : _ = some (Value.int .i64 1) := hP.cell 2 0 rfl rfl 0; have l1 : _ = some (Value.int .i64 2) := hP.cell 2 0 rfl rfl 1
  have h0 : _ = some (Value.int .i64 0) := hP.cell 3 0 rfl rfl 0
  have q1 : _ = some (Value.int .i64 0) := hP.cell 4 0 rfl rfl 0; have o1 : _ = some (Value.int .i64 0) := hP.cell 4 0 rfl rfl 1
  have q2 : _ = some (Value.int .i64 4) := hP.cell 5 0 rfl rfl 0; have o2 : _ = some (Value.int .i64 0) := hP.cell 5 0 rfl rfl 1
  have q3 : _ = some (Value.int .i64 0) := hP.cell 6 0 rfl rfl 0; have o3 : _ = some (Value.int .i64 1099512676352) := hP.cell 6 0 rfl rfl 1
  go_wp2_with fail
  refine (stack_Free 0 1 2 hP rfl (by decide) (by decide) (by decide) (by decide) (by decide) p15_ok).mono ?_; rw [p15_f]; rintro e w19 ⟨v, cur, m19, rfl, hr, hO'⟩; clear hP; have hP := hO'; clear hO'; have hO' := hP.last; clear hP; have hP := hO'; clear hO'; (try simp only [List.set_cons_zero, List.set_cons_succ, List.cons_append, List.nil_append, List.eraseIdx_cons_succ, List.eraseIdx_cons_zero] at hP)
  have HR := Lib.hid hr
  clear hr l0 l1 h0 q1 q2 q3 o1 o2 o3
  go_wp2_with fail
  have hO' := hP.more (.cells (intArr [1]) 3); clear hP; have hP := hO'; clear hO'; (try simp only [List.set_cons_zero, List.set_cons_succ, List.cons_append, List.nil_append, List.eraseIdx_cons_succ, List.eraseIdx_cons_zero] at hP)
  have R1 := Reads.row HR.out hP 7 rfl (by decide)
  have R2 := Reads.ints (xs := [1]) (cap := 1) hP 8 0 rfl rfl (by decide)
  refine (ref01_Same _ _ _ _ _ R1 R2).mono ?_; rw [show sameB [1] [1] = true by decide]; rintro e w20 ⟨rfl, hb2⟩; have hO' := hP.via hb2; clear hP; have hP := hO'; clear hO'
  clear R1 R2
  go_wp2_with fail
  go_ret
  exact ⟨rfl, by rw [HC.out]; exact hP.below⟩
end Go.Proofs.YtpebepjfgnoaaaaGreat
