/- The write laws' 'live'. -/
import Derived.RegionTactic
import Derived.BigRegion
import Derived.Deep.RegionHeld3
import Derived.Outline
import Derived.Test.YtboephhffklbbaaWrR
import Derived.Test.YtboephhffklbbaaS13
import Derived.Test.YtboephhffklbbaaEnR3
namespace Go.Proofs.Ytboephhffklbbaa
set_option linter.unusedVariables false
set_option linter.unusedSimpArgs false
open Go.RowKit
set_option maxRecDepth 100000 in
set_option maxHeartbeats 8000000 in
theorem law13_live (W : World) : Calls Try.prog 14 #[] W fun e w' => e = .returned (.bool true) ∧ Below W.heap.size W w' := by
  have ck := Lib.hid (show cfgOk 16 2 1 = true by decide)
  go_enter Try.func14, Try.ntmps14
  go_wp2_with fail
  have hP := (Owns.nil W).more (.cells #[.int .i64 16, .int .i64 2, .int .i64 1] 26)
  generalize hcb : W.heap.size = cb at hP ⊢
  have HC := Lib.hid hcb
  clear hcb
  generalize W.alloc (.cells #[.int .i64 16, .int .i64 2, .int .i64 1] 26) = w0 at hP ⊢
  refine (law13_start 16 2 1 hP ck.out).mono ?_; rintro e w1 ⟨p, bw, bb, m, rfl, hO'⟩; clear hP; have hP := hO'; clear hO'; (try simp only [List.set_cons_zero, List.set_cons_succ, List.cons_append, List.nil_append, List.eraseIdx_cons_succ, List.eraseIdx_cons_zero] at hP); have b0 : _ = some (Value.int .i64 16) := hP.cell 1 0 rfl rfl 0; have b1 : _ = some (Value.int .i64 2) := hP.cell 1 0 rfl rfl 1; have b2 : _ = some (Value.int .i64 1) := hP.cell 1 0 rfl rfl 2; have bz := hP.lt 1 0 rfl rfl
  rw [p13_0, p13_b0] at hP
  go_wp2_with fail
  refine (handle_make _ _ _).mono ?_
  rw [show hMake 1 3 = (1099514773505, 0) by decide]
  rintro e w2 ⟨rfl, rfl⟩
  go_wp2_with fail
  refine (ref02_Pack _ _ _ _ _ _ _).mono ?_
  rw [show ePack 8 3 0 0 false true = (562949956567048, 0) by decide]
  rintro e w2 ⟨rfl, hb⟩; have hO' := hP.via hb; clear hP; have hP := hO'; clear hO'; clear b0 b1 b2 bz; (try simp only [List.set_cons_zero, List.set_cons_succ, List.cons_append, List.nil_append, List.eraseIdx_cons_succ, List.eraseIdx_cons_zero] at hP); have b0 : _ = some (Value.int .i64 16) := hP.cell 1 0 rfl rfl 0; have b1 : _ = some (Value.int .i64 2) := hP.cell 1 0 rfl rfl 1; have b2 : _ = some (Value.int .i64 1) := hP.cell 1 0 rfl rfl 2; have bz := hP.lt 1 0 rfl rfl
  go_wp2_with fail
  refine (plain_Store 0 8 _ hP rfl (by decide)).mono ?_; rw [p13_1]; rintro e w3 ⟨rfl, hO'⟩; clear hP; have hP := hO'; clear hO'; clear b0 b1 b2 bz; (try simp only [List.set_cons_zero, List.set_cons_succ, List.cons_append, List.nil_append, List.eraseIdx_cons_succ, List.eraseIdx_cons_zero] at hP); have b0 : _ = some (Value.int .i64 16) := hP.cell 1 0 rfl rfl 0; have b1 : _ = some (Value.int .i64 2) := hP.cell 1 0 rfl rfl 1; have b2 : _ = some (Value.int .i64 1) := hP.cell 1 0 rfl rfl 2; have bz := hP.lt 1 0 rfl rfl
  go_wp2_with fail
  refine (plain_Store 0 9 _ hP rfl (by decide)).mono ?_; rw [p13_2]; rintro e w4 ⟨rfl, hO'⟩; clear hP; have hP := hO'; clear hO'; clear b0 b1 b2 bz; (try simp only [List.set_cons_zero, List.set_cons_succ, List.cons_append, List.nil_append, List.eraseIdx_cons_succ, List.eraseIdx_cons_zero] at hP); have b0 : _ = some (Value.int .i64 16) := hP.cell 1 0 rfl rfl 0; have b1 : _ = some (Value.int .i64 2) := hP.cell 1 0 rfl rfl 1; have b2 : _ = some (Value.int .i64 1) := hP.cell 1 0 rfl rfl 2; have bz := hP.lt 1 0 rfl rfl
  go_wp2_with fail
  refine (write_New 16 2 1 _ 3 333 (by decide) (by decide) hP).mono ?_; rintro e w5 ⟨x, rfl, hO'⟩; rw [p13_n1] at hO'; clear hP; have hP := hO'; clear hO'; have hO' := hP.swap; clear hP; have hP := hO'; clear hO'; clear b0 b1 b2 bz; (try simp only [List.set_cons_zero, List.set_cons_succ, List.cons_append, List.nil_append, List.eraseIdx_cons_succ, List.eraseIdx_cons_zero] at hP); have b0 : _ = some (Value.int .i64 16) := hP.cell 2 0 rfl rfl 0; have b1 : _ = some (Value.int .i64 2) := hP.cell 2 0 rfl rfl 1; have b2 : _ = some (Value.int .i64 1) := hP.cell 2 0 rfl rfl 2; have bz := hP.lt 2 0 rfl rfl
  go_wp2_with fail
  refine (wr_Guards 1 hP rfl).mono ?_; rw [show wrV1.g = false from rfl]; rintro e w6 ⟨rfl, rfl⟩
  go_wp2_with fail
  refine (wr_Step hP (.inr (by decide)) (by decide) (by decide) wrV1_in _ p13_s1).mono ?_; simp only [WrPost, resV]; rintro e w6 ⟨rfl, m6, hO'⟩; clear hP; have hP := hO'; clear hO'; clear b0 b1 b2 bz; (try simp only [List.set_cons_zero, List.set_cons_succ, List.cons_append, List.nil_append, List.eraseIdx_cons_succ, List.eraseIdx_cons_zero] at hP); have b0 : _ = some (Value.int .i64 16) := hP.cell 2 0 rfl rfl 0; have b1 : _ = some (Value.int .i64 2) := hP.cell 2 0 rfl rfl 1; have b2 : _ = some (Value.int .i64 1) := hP.cell 2 0 rfl rfl 2; have bz := hP.lt 2 0 rfl rfl
  go_wp2_with fail
  refine (wr_Step hP (.inr (by decide)) (by decide) (by decide) (by unfold WrIn; decide) _ p13_s2).mono ?_; simp only [WrPost, resV]; rintro e w7 ⟨rfl, m7, hO'⟩; clear hP; have hP := hO'; clear hO'; clear b0 b1 b2 bz; (try simp only [List.set_cons_zero, List.set_cons_succ, List.cons_append, List.nil_append, List.eraseIdx_cons_succ, List.eraseIdx_cons_zero] at hP); have b0 : _ = some (Value.int .i64 16) := hP.cell 2 0 rfl rfl 0; have b1 : _ = some (Value.int .i64 2) := hP.cell 2 0 rfl rfl 1; have b2 : _ = some (Value.int .i64 1) := hP.cell 2 0 rfl rfl 2; have bz := hP.lt 2 0 rfl rfl
  go_wp2_with fail
  refine (wr_Guards 1 hP rfl).mono ?_; rintro e w8 ⟨rfl, rfl⟩
  go_wp2_with fail
  refine (plain_Load 0 8 hP rfl (by decide)).mono ?_; rw [show wAt p13W3 8 = 580542142611464 by decide]; rintro e w8 ⟨rfl, hO'⟩; clear hP; have hP := hO'; clear hO'; clear b0 b1 b2 bz; (try simp only [List.set_cons_zero, List.set_cons_succ, List.cons_append, List.nil_append, List.eraseIdx_cons_succ, List.eraseIdx_cons_zero] at hP); have b0 : _ = some (Value.int .i64 16) := hP.cell 2 0 rfl rfl 0; have b1 : _ = some (Value.int .i64 2) := hP.cell 2 0 rfl rfl 1; have b2 : _ = some (Value.int .i64 1) := hP.cell 2 0 rfl rfl 2; have bz := hP.lt 2 0 rfl rfl
  go_wp2_with fail
  refine (write_run 100 (by decide) hP (.inr (by decide)) (by decide) (by decide) (by unfold WrIn; decide) _ p13_r1).mono ?_; simp only [resN]; rintro e w9 ⟨rfl, m9, hO'⟩; clear hP; have hP := hO'; clear hO'; clear b0 b1 b2 bz; (try simp only [List.set_cons_zero, List.set_cons_succ, List.cons_append, List.nil_append, List.eraseIdx_cons_succ, List.eraseIdx_cons_zero] at hP); have b0 : _ = some (Value.int .i64 16) := hP.cell 2 0 rfl rfl 0; have b1 : _ = some (Value.int .i64 2) := hP.cell 2 0 rfl rfl 1; have b2 : _ = some (Value.int .i64 1) := hP.cell 2 0 rfl rfl 2; have bz := hP.lt 2 0 rfl rfl
  go_wp2_with fail
  have hO' := hP.more (.cells #[.int .i64 0, .int .i64 0] 41); clear hP; have hP := hO'; clear hO'
  generalize w9.heap.size = r0 at hP ⊢
  generalize w9.alloc _ = z0 at hP ⊢
  clear b0 b1 b2 bz; (try simp only [List.set_cons_zero, List.set_cons_succ, List.cons_append, List.nil_append, List.eraseIdx_cons_succ, List.eraseIdx_cons_zero] at hP); have b0 : _ = some (Value.int .i64 16) := hP.cell 2 0 rfl rfl 0; have b1 : _ = some (Value.int .i64 2) := hP.cell 2 0 rfl rfl 1; have b2 : _ = some (Value.int .i64 1) := hP.cell 2 0 rfl rfl 2; have bz := hP.lt 2 0 rfl rfl
  refine (write_New 16 2 1 _ 4 1 (by decide) (by decide) hP).mono ?_; rintro e v1 ⟨x1, rfl, hO'⟩; rw [p13_n1] at hO'; clear hP; have hP := hO'; clear hO'; have hO' := hP.swap; clear hP; have hP := hO'; clear hO'; (try simp only [List.set_cons_zero, List.set_cons_succ, List.cons_append, List.nil_append, List.eraseIdx_cons_succ, List.eraseIdx_cons_zero] at hP)
  go_wp2_with fail
  refine (write_run 100 (by decide) hP (.inr (by decide)) (by decide) (by decide) wrV1_in _ p13_r2).mono ?_; simp only [resN]; rintro e u1 ⟨rfl, n1, hO'⟩; clear hP; have hP := hO'; clear hO'; have hO' := hP.drop 1; clear hP; have hP := hO'; clear hO'; clear b0 b1 b2 bz; (try simp only [List.set_cons_zero, List.set_cons_succ, List.cons_append, List.nil_append, List.eraseIdx_cons_succ, List.eraseIdx_cons_zero] at hP); have b0 : _ = some (Value.int .i64 16) := hP.cell 2 0 rfl rfl 0; have b1 : _ = some (Value.int .i64 2) := hP.cell 2 0 rfl rfl 1; have b2 : _ = some (Value.int .i64 1) := hP.cell 2 0 rfl rfl 2; have bz := hP.lt 2 0 rfl rfl
  go_wp2_with fail
  have hO' := hP.more (.cells #[.int .i64 5, .int .i64 0] 41); clear hP; have hP := hO'; clear hO'
  generalize u1.heap.size = r1 at hP ⊢
  generalize u1.alloc _ = z1 at hP ⊢
  clear b0 b1 b2 bz; (try simp only [List.set_cons_zero, List.set_cons_succ, List.cons_append, List.nil_append, List.eraseIdx_cons_succ, List.eraseIdx_cons_zero] at hP); have b0 : _ = some (Value.int .i64 16) := hP.cell 2 0 rfl rfl 0; have b1 : _ = some (Value.int .i64 2) := hP.cell 2 0 rfl rfl 1; have b2 : _ = some (Value.int .i64 1) := hP.cell 2 0 rfl rfl 2; have bz := hP.lt 2 0 rfl rfl
  refine (write_New 16 2 1 _ 0 1 (by decide) (by decide) hP).mono ?_; rintro e v2 ⟨x2, rfl, hO'⟩; rw [p13_n3] at hO'; clear hP; have hP := hO'; clear hO'; have hO' := hP.swap; clear hP; have hP := hO'; clear hO'; (try simp only [List.set_cons_zero, List.set_cons_succ, List.cons_append, List.nil_append, List.eraseIdx_cons_succ, List.eraseIdx_cons_zero] at hP)
  go_wp2_with fail
  refine (write_run 100 (by decide) hP (.inr (by decide)) (by decide) (by decide) wrV1_in _ p13_r3).mono ?_; simp only [resN]; rintro e u2 ⟨rfl, n2, hO'⟩; clear hP; have hP := hO'; clear hO'; have hO' := hP.drop 1; clear hP; have hP := hO'; clear hO'; clear b0 b1 b2 bz; (try simp only [List.set_cons_zero, List.set_cons_succ, List.cons_append, List.nil_append, List.eraseIdx_cons_succ, List.eraseIdx_cons_zero] at hP); have b0 : _ = some (Value.int .i64 16) := hP.cell 2 0 rfl rfl 0; have b1 : _ = some (Value.int .i64 2) := hP.cell 2 0 rfl rfl 1; have b2 : _ = some (Value.int .i64 1) := hP.cell 2 0 rfl rfl 2; have bz := hP.lt 2 0 rfl rfl
  go_wp2_with fail
  have hO' := hP.more (.cells #[.int .i64 4, .int .i64 0] 41); clear hP; have hP := hO'; clear hO'
  generalize u2.heap.size = r2 at hP ⊢
  generalize u2.alloc _ = z2 at hP ⊢
  clear b0 b1 b2 bz; (try simp only [List.set_cons_zero, List.set_cons_succ, List.cons_append, List.nil_append, List.eraseIdx_cons_succ, List.eraseIdx_cons_zero] at hP); have b0 : _ = some (Value.int .i64 16) := hP.cell 2 0 rfl rfl 0; have b1 : _ = some (Value.int .i64 2) := hP.cell 2 0 rfl rfl 1; have b2 : _ = some (Value.int .i64 1) := hP.cell 2 0 rfl rfl 2; have bz := hP.lt 2 0 rfl rfl
  refine (write_New 0 0 0 _ 0 1 (by decide) (by decide) hP).mono ?_; rintro e v3 ⟨x3, rfl, hO'⟩; rw [p13_n4] at hO'; clear hP; have hP := hO'; clear hO'; have hO' := hP.swap; clear hP; have hP := hO'; clear hO'; (try simp only [List.set_cons_zero, List.set_cons_succ, List.cons_append, List.nil_append, List.eraseIdx_cons_succ, List.eraseIdx_cons_zero] at hP)
  go_wp2_with fail
  refine (write_run 100 (by decide) hP (.inl (by decide)) (by decide) (by decide) (by unfold WrIn; decide) _ p13_r4).mono ?_; simp only [resN]; rintro e u3 ⟨rfl, n3, hO'⟩; clear hP; have hP := hO'; clear hO'; have hO' := hP.drop 1; clear hP; have hP := hO'; clear hO'; clear b0 b1 b2 bz; (try simp only [List.set_cons_zero, List.set_cons_succ, List.cons_append, List.nil_append, List.eraseIdx_cons_succ, List.eraseIdx_cons_zero] at hP); have b0 : _ = some (Value.int .i64 16) := hP.cell 2 0 rfl rfl 0; have b1 : _ = some (Value.int .i64 2) := hP.cell 2 0 rfl rfl 1; have b2 : _ = some (Value.int .i64 1) := hP.cell 2 0 rfl rfl 2; have bz := hP.lt 2 0 rfl rfl
  go_upto_region 19 with fail
  have hO' := hP.more (.cells #[.int .i64 1, .int .i64 0] 41); clear hP; have hP := hO'; clear hO'; (try simp only [List.set_cons_zero, List.set_cons_succ, List.cons_append, List.nil_append, List.eraseIdx_cons_succ, List.eraseIdx_cons_zero] at hP)
  generalize u3.heap.size = r3 at hP ⊢
  generalize u3.alloc _ = z3 at hP ⊢
  clear b0 b1 b2 bz
  have q0 : _ = some (Value.int .i64 0) := hP.cell 3 0 rfl rfl 0; have p0 : _ = some (Value.int .i64 0) := hP.cell 3 0 rfl rfl 1
  go_wp2_with fail
  refine (plain_Byte 0 11 hP rfl (by decide) (by decide)).mono ?_; rw [show wAt p13B1 11 = 77 by decide]; rintro e y1 ⟨rfl, hO'⟩; clear hP; have hP := hO'; clear hO'; (try simp only [List.set_cons_zero, List.set_cons_succ, List.cons_append, List.nil_append, List.eraseIdx_cons_succ, List.eraseIdx_cons_zero] at hP); clear q0 p0
  go_wp2_with fail
  refine (plain_Load 0 8 hP rfl (by decide)).mono ?_; rw [show wAt p13W2 8 = 562949956567048 by decide]; rintro e y2 ⟨rfl, hO'⟩; clear hP; have hP := hO'; clear hO'; (try simp only [List.set_cons_zero, List.set_cons_succ, List.cons_append, List.nil_append, List.eraseIdx_cons_succ, List.eraseIdx_cons_zero] at hP)
  go_wp2_with fail
  refine (wr_Guards 1 hP rfl).mono ?_; rintro e y3 ⟨rfl, rfl⟩
  have q1 : _ = some (Value.int .i64 5) := hP.cell 4 0 rfl rfl 0; have p1 : _ = some (Value.int .i64 0) := hP.cell 4 0 rfl rfl 1
  have q2 : _ = some (Value.int .i64 4) := hP.cell 5 0 rfl rfl 0; have p2 : _ = some (Value.int .i64 0) := hP.cell 5 0 rfl rfl 1
  have q3 : _ = some (Value.int .i64 1) := hP.cell 6 0 rfl rfl 0; have p3 : _ = some (Value.int .i64 0) := hP.cell 6 0 rfl rfl 1
  go_wp2_with fail
  go_ret
  exact ⟨rfl, by rw [HC.out]; exact hP.below⟩
end Go.Proofs.Ytboephhffklbbaa
