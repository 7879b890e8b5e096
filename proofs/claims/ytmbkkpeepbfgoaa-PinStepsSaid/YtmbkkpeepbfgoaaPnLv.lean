/- The pin laws' 'live'. -/
import Derived.RegionTactic
import Derived.BigRegion
import Derived.Deep.RegionHeld3
import Derived.Outline
import Derived.Test.YtmbkkpeepbfgoaaPnC0
import Derived.Test.YtmbkkpeepbfgoaaS14
namespace Go.Proofs.Ytmbkkpeepbfgoaa
set_option linter.unusedVariables false
set_option linter.unusedSimpArgs false
open Go.RowKit
set_option maxRecDepth 100000 in
set_option maxHeartbeats 8000000 in
theorem law14_live (W : World) : Calls Try.prog 21 #[] W fun e w' => e = .returned (.bool true) ∧ Below W.heap.size W w' := by
  have ck := Lib.hid (show cfgOk 8 1 1 = true by decide)
  go_enter Try.func21, Try.ntmps21
  go_wp2_with fail
  have hO := (Owns.nil W).more (.cells #[.int .i64 8, .int .i64 1, .int .i64 1] 26)
  generalize hcb : W.heap.size = cb at hO ⊢
  have HC := Lib.hid hcb
  clear hcb
  generalize W.alloc (.cells #[.int .i64 8, .int .i64 1, .int .i64 1] 26) = w0 at hO ⊢
  refine (law14_start 8 1 1 hO ck.out).mono ?_; rintro e w1 ⟨p, bw, bb, m, rfl, hO'⟩; have hO := hO'; (try simp only [List.set_cons_zero, List.set_cons_succ, List.cons_append, List.nil_append, List.eraseIdx_cons_succ, List.eraseIdx_cons_zero] at hO); have b0 : _ = some (Value.int .i64 8) := hO.cell 1 0 rfl rfl 0; have b1 : _ = some (Value.int .i64 1) := hO.cell 1 0 rfl rfl 1; have b2 : _ = some (Value.int .i64 1) := hO.cell 1 0 rfl rfl 2; have bz := hO.lt 1 0 rfl rfl
  rw [p14_0, p14_b0] at hO
  go_wp2_with fail
  refine (handle_make _ _ _).mono ?_
  rw [show hMake 0 0 = (1099511627776, 0) by decide]
  rintro e w2 ⟨rfl, rfl⟩
  go_wp2_with fail
  refine (plain_Store 0 5 _ hO rfl (by decide)).mono ?_; rw [p14_1]; rintro e w3 ⟨rfl, hO'⟩; have hO := hO'; (try simp only [List.set_cons_zero, List.set_cons_succ, List.cons_append, List.nil_append, List.eraseIdx_cons_succ, List.eraseIdx_cons_zero] at hO); have b0 : _ = some (Value.int .i64 8) := hO.cell 1 0 rfl rfl 0; have b1 : _ = some (Value.int .i64 1) := hO.cell 1 0 rfl rfl 1; have b2 : _ = some (Value.int .i64 1) := hO.cell 1 0 rfl rfl 2; have bz := hO.lt 1 0 rfl rfl
  go_wp2_with fail
  refine (pin_New 8 1 1 1099511627776 (by decide) (by decide) hO).mono ?_; rintro e v0a ⟨x0, rfl, hO'⟩; rw [p14_n1] at hO'; have hO := hO'.swap; (try simp only [List.set_cons_zero, List.set_cons_succ, List.cons_append, List.nil_append, List.eraseIdx_cons_succ, List.eraseIdx_cons_zero] at hO)
  go_wp2_with fail
  refine (pin_run 10 (by decide) hO (lOk11) (by decide) _ p14_r1).mono ?_; simp only [resN]; rintro e v0b ⟨rfl, m0, hO'⟩; have hO := hO'.drop 1; (try simp only [List.set_cons_zero, List.set_cons_succ, List.cons_append, List.nil_append, List.eraseIdx_cons_succ, List.eraseIdx_cons_zero] at hO); have b0 : _ = some (Value.int .i64 8) := hO.cell 1 0 rfl rfl 0; have b1 : _ = some (Value.int .i64 1) := hO.cell 1 0 rfl rfl 1; have b2 : _ = some (Value.int .i64 1) := hO.cell 1 0 rfl rfl 2; have bz := hO.lt 1 0 rfl rfl
  go_wp2_with fail
  have hO := hO.more (.cells #[.int .i64 0, .int .i64 0] 37)
  generalize v0b.heap.size = r0 at hO ⊢
  generalize v0b.alloc _ = z0 at hO ⊢
  (try simp only [List.set_cons_zero, List.set_cons_succ, List.cons_append, List.nil_append, List.eraseIdx_cons_succ, List.eraseIdx_cons_zero] at hO); have b0 : _ = some (Value.int .i64 8) := hO.cell 1 0 rfl rfl 0; have b1 : _ = some (Value.int .i64 1) := hO.cell 1 0 rfl rfl 1; have b2 : _ = some (Value.int .i64 1) := hO.cell 1 0 rfl rfl 2; have bz := hO.lt 1 0 rfl rfl
  go_wp2_with fail
  refine (plain_Load 0 5 hO rfl (by decide)).mono ?_; rw [show wAt p14W2 5 = 564049465049088 by decide]; rintro e w4 ⟨rfl, hO'⟩; have hO := hO'; (try simp only [List.set_cons_zero, List.set_cons_succ, List.cons_append, List.nil_append, List.eraseIdx_cons_succ, List.eraseIdx_cons_zero] at hO); have b0 : _ = some (Value.int .i64 8) := hO.cell 1 0 rfl rfl 0; have b1 : _ = some (Value.int .i64 1) := hO.cell 1 0 rfl rfl 1; have b2 : _ = some (Value.int .i64 1) := hO.cell 1 0 rfl rfl 2; have bz := hO.lt 1 0 rfl rfl
  go_wp2_with fail
  refine (pin_NewUn 8 1 1 1099511627776 (by decide) (by decide) hO).mono ?_; rintro e v1a ⟨x1, rfl, hO'⟩; rw [p14_n1] at hO'; have hO := hO'.swap; (try simp only [List.set_cons_zero, List.set_cons_succ, List.cons_append, List.nil_append, List.eraseIdx_cons_succ, List.eraseIdx_cons_zero] at hO)
  go_wp2_with fail
  refine (pin_run 10 (by decide) hO (lOk11) (by decide) _ p14_r2).mono ?_; simp only [resN]; rintro e v1b ⟨rfl, m1, hO'⟩; have hO := hO'.drop 1; (try simp only [List.set_cons_zero, List.set_cons_succ, List.cons_append, List.nil_append, List.eraseIdx_cons_succ, List.eraseIdx_cons_zero] at hO); have b0 : _ = some (Value.int .i64 8) := hO.cell 1 0 rfl rfl 0; have b1 : _ = some (Value.int .i64 1) := hO.cell 1 0 rfl rfl 1; have b2 : _ = some (Value.int .i64 1) := hO.cell 1 0 rfl rfl 2; have bz := hO.lt 1 0 rfl rfl
  go_wp2_with fail
  have hO := hO.more (.cells #[.int .i64 0, .int .i64 0] 37)
  generalize v1b.heap.size = r1 at hO ⊢
  generalize v1b.alloc _ = z1 at hO ⊢
  (try simp only [List.set_cons_zero, List.set_cons_succ, List.cons_append, List.nil_append, List.eraseIdx_cons_succ, List.eraseIdx_cons_zero] at hO); have b0 : _ = some (Value.int .i64 8) := hO.cell 1 0 rfl rfl 0; have b1 : _ = some (Value.int .i64 1) := hO.cell 1 0 rfl rfl 1; have b2 : _ = some (Value.int .i64 1) := hO.cell 1 0 rfl rfl 2; have bz := hO.lt 1 0 rfl rfl
  go_wp2_with fail
  refine (pin_NewUn 8 1 1 1099511627776 (by decide) (by decide) hO).mono ?_; rintro e v2a ⟨x2, rfl, hO'⟩; rw [p14_n1] at hO'; have hO := hO'.swap; (try simp only [List.set_cons_zero, List.set_cons_succ, List.cons_append, List.nil_append, List.eraseIdx_cons_succ, List.eraseIdx_cons_zero] at hO)
  go_wp2_with fail
  refine (pin_run 10 (by decide) hO (lOk11) (by decide) _ p14_r3).mono ?_; simp only [resN]; rintro e v2b ⟨rfl, m2, hO'⟩; have hO := hO'.drop 1; (try simp only [List.set_cons_zero, List.set_cons_succ, List.cons_append, List.nil_append, List.eraseIdx_cons_succ, List.eraseIdx_cons_zero] at hO); have b0 : _ = some (Value.int .i64 8) := hO.cell 1 0 rfl rfl 0; have b1 : _ = some (Value.int .i64 1) := hO.cell 1 0 rfl rfl 1; have b2 : _ = some (Value.int .i64 1) := hO.cell 1 0 rfl rfl 2; have bz := hO.lt 1 0 rfl rfl
  go_wp2_with fail
  have hO := hO.more (.cells #[.int .i64 8, .int .i64 0] 37)
  generalize v2b.heap.size = r2 at hO ⊢
  generalize v2b.alloc _ = z2 at hO ⊢
  (try simp only [List.set_cons_zero, List.set_cons_succ, List.cons_append, List.nil_append, List.eraseIdx_cons_succ, List.eraseIdx_cons_zero] at hO); have b0 : _ = some (Value.int .i64 8) := hO.cell 1 0 rfl rfl 0; have b1 : _ = some (Value.int .i64 1) := hO.cell 1 0 rfl rfl 1; have b2 : _ = some (Value.int .i64 1) := hO.cell 1 0 rfl rfl 2; have bz := hO.lt 1 0 rfl rfl
  go_wp2_with fail
  refine (pin_New 8 1 1 1099511627777 (by decide) (by decide) hO).mono ?_; rintro e v3a ⟨x3, rfl, hO'⟩; rw [p14_n2] at hO'; have hO := hO'.swap; (try simp only [List.set_cons_zero, List.set_cons_succ, List.cons_append, List.nil_append, List.eraseIdx_cons_succ, List.eraseIdx_cons_zero] at hO)
  go_wp2_with fail
  refine (pin_run 10 (by decide) hO (lOk11) (by decide) _ p14_r4).mono ?_; simp only [resN]; rintro e v3b ⟨rfl, m3, hO'⟩; have hO := hO'.drop 1; (try simp only [List.set_cons_zero, List.set_cons_succ, List.cons_append, List.nil_append, List.eraseIdx_cons_succ, List.eraseIdx_cons_zero] at hO); have b0 : _ = some (Value.int .i64 8) := hO.cell 1 0 rfl rfl 0; have b1 : _ = some (Value.int .i64 1) := hO.cell 1 0 rfl rfl 1; have b2 : _ = some (Value.int .i64 1) := hO.cell 1 0 rfl rfl 2; have bz := hO.lt 1 0 rfl rfl
  go_wp2_with fail
  have hO := hO.more (.cells #[.int .i64 4, .int .i64 0] 37)
  generalize v3b.heap.size = r3 at hO ⊢
  generalize v3b.alloc _ = z3 at hO ⊢
  (try simp only [List.set_cons_zero, List.set_cons_succ, List.cons_append, List.nil_append, List.eraseIdx_cons_succ, List.eraseIdx_cons_zero] at hO); have b0 : _ = some (Value.int .i64 8) := hO.cell 1 0 rfl rfl 0; have b1 : _ = some (Value.int .i64 1) := hO.cell 1 0 rfl rfl 1; have b2 : _ = some (Value.int .i64 1) := hO.cell 1 0 rfl rfl 2; have bz := hO.lt 1 0 rfl rfl
  go_wp2_with fail
  refine (plain_Store 0 5 _ hO rfl (by decide)).mono ?_; rw [p14_3]; rintro e w5 ⟨rfl, hO'⟩; have hO := hO'; (try simp only [List.set_cons_zero, List.set_cons_succ, List.cons_append, List.nil_append, List.eraseIdx_cons_succ, List.eraseIdx_cons_zero] at hO); have b0 : _ = some (Value.int .i64 8) := hO.cell 1 0 rfl rfl 0; have b1 : _ = some (Value.int .i64 1) := hO.cell 1 0 rfl rfl 1; have b2 : _ = some (Value.int .i64 1) := hO.cell 1 0 rfl rfl 2; have bz := hO.lt 1 0 rfl rfl
  go_wp2_with fail
  refine (pin_New 8 1 1 1099511627776 (by decide) (by decide) hO).mono ?_; rintro e v4a ⟨x4, rfl, hO'⟩; rw [p14_n1] at hO'; have hO := hO'.swap; (try simp only [List.set_cons_zero, List.set_cons_succ, List.cons_append, List.nil_append, List.eraseIdx_cons_succ, List.eraseIdx_cons_zero] at hO)
  go_wp2_with fail
  refine (pin_run 10 (by decide) hO (lOk11) (by decide) _ p14_r5).mono ?_; simp only [resN]; rintro e v4b ⟨rfl, m4, hO'⟩; have hO := hO'.drop 1; (try simp only [List.set_cons_zero, List.set_cons_succ, List.cons_append, List.nil_append, List.eraseIdx_cons_succ, List.eraseIdx_cons_zero] at hO); have b0 : _ = some (Value.int .i64 8) := hO.cell 1 0 rfl rfl 0; have b1 : _ = some (Value.int .i64 1) := hO.cell 1 0 rfl rfl 1; have b2 : _ = some (Value.int .i64 1) := hO.cell 1 0 rfl rfl 2; have bz := hO.lt 1 0 rfl rfl
  go_wp2_with fail
  have hO := hO.more (.cells #[.int .i64 7, .int .i64 0] 37)
  generalize v4b.heap.size = r4 at hO ⊢
  generalize v4b.alloc _ = z4 at hO ⊢
  (try simp only [List.set_cons_zero, List.set_cons_succ, List.cons_append, List.nil_append, List.eraseIdx_cons_succ, List.eraseIdx_cons_zero] at hO); have b0 : _ = some (Value.int .i64 8) := hO.cell 1 0 rfl rfl 0; have b1 : _ = some (Value.int .i64 1) := hO.cell 1 0 rfl rfl 1; have b2 : _ = some (Value.int .i64 1) := hO.cell 1 0 rfl rfl 2; have bz := hO.lt 1 0 rfl rfl
  go_wp2_with fail
  refine (pin_New 0 0 0 1099511627776 (by decide) (by decide) hO).mono ?_; rintro e v5a ⟨x5, rfl, hO'⟩; rw [p14_n3] at hO'; have hO := hO'.swap; (try simp only [List.set_cons_zero, List.set_cons_succ, List.cons_append, List.nil_append, List.eraseIdx_cons_succ, List.eraseIdx_cons_zero] at hO)
  go_wp2_with fail
  refine (pin_run 10 (by decide) hO (lOk00) (by decide) _ p14_r6).mono ?_; simp only [resN]; rintro e v5b ⟨rfl, m5, hO'⟩; have hO := hO'.drop 1; (try simp only [List.set_cons_zero, List.set_cons_succ, List.cons_append, List.nil_append, List.eraseIdx_cons_succ, List.eraseIdx_cons_zero] at hO); have b0 : _ = some (Value.int .i64 8) := hO.cell 1 0 rfl rfl 0; have b1 : _ = some (Value.int .i64 1) := hO.cell 1 0 rfl rfl 1; have b2 : _ = some (Value.int .i64 1) := hO.cell 1 0 rfl rfl 2; have bz := hO.lt 1 0 rfl rfl
  have q0 : _ = some (Value.int .i64 0) := hO.cell 2 0 rfl rfl 0; have p0 : _ = some (Value.int .i64 0) := hO.cell 2 0 rfl rfl 1; have l0 := hO.lt 2 0 rfl rfl
  have q1 : _ = some (Value.int .i64 0) := hO.cell 3 0 rfl rfl 0; have p1 : _ = some (Value.int .i64 0) := hO.cell 3 0 rfl rfl 1; have l1 := hO.lt 3 0 rfl rfl
  have q2 : _ = some (Value.int .i64 8) := hO.cell 4 0 rfl rfl 0; have p2 : _ = some (Value.int .i64 0) := hO.cell 4 0 rfl rfl 1; have l2 := hO.lt 4 0 rfl rfl
  have q3 : _ = some (Value.int .i64 4) := hO.cell 5 0 rfl rfl 0; have p3 : _ = some (Value.int .i64 0) := hO.cell 5 0 rfl rfl 1; have l3 := hO.lt 5 0 rfl rfl
  have q4 : _ = some (Value.int .i64 7) := hO.cell 6 0 rfl rfl 0; have p4 : _ = some (Value.int .i64 0) := hO.cell 6 0 rfl rfl 1; have l4 := hO.lt 6 0 rfl rfl
  have hO1 := fun o => hO.via (below_alloc _ o)
  go_wp2_with fail
  go_ret
  exact ⟨rfl, by rw [HC.out]; first | exact hO.below | exact (hO1 _).below⟩
end Go.Proofs.Ytmbkkpeepbfgoaa
