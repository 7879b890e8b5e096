/- The read laws' 'live'. -/
import Derived.RegionTactic
import Derived.BigRegion
import Derived.Deep.RegionHeld3
import Derived.Outline
import Derived.Test.YtmbkkpeepbfgoaaRdL0
import Derived.Test.YtmbkkpeepbfgoaaS12
import Derived.Test.YtmbkkpeepbfgoaaEnR2
namespace Go.Proofs.Ytmbkkpeepbfgoaa
set_option linter.unusedVariables false
set_option linter.unusedSimpArgs false
open Go.RowKit
set_option maxRecDepth 100000 in
set_option maxHeartbeats 8000000 in
theorem law12_live (W : World) : Calls Try.prog 15 #[] W fun e w' => e = .returned (.bool true) ∧ Below W.heap.size W w' := by
  have ck := Lib.hid (show cfgOk 16 2 1 = true by decide)
  go_enter Try.func15, Try.ntmps15
  go_wp2_with fail
  have hO := (Owns.nil W).more (.cells #[.int .i64 16, .int .i64 2, .int .i64 1] 26)
  generalize hcb : W.heap.size = cb at hO ⊢
  have HC := Lib.hid hcb
  clear hcb
  generalize W.alloc (.cells #[.int .i64 16, .int .i64 2, .int .i64 1] 26) = w0 at hO ⊢
  refine (law12_start 16 2 1 hO ck.out).mono ?_; rintro e w1 ⟨p, bw, bb, m, rfl, hO'⟩; have hO := hO'.last; (try simp only [List.set_cons_zero, List.set_cons_succ, List.cons_append, List.nil_append] at hO); have b0 : _ = some (Value.int .i64 16) := hO.cell 0 0 rfl rfl 0; have b1 : _ = some (Value.int .i64 2) := hO.cell 0 0 rfl rfl 1; have b2 : _ = some (Value.int .i64 1) := hO.cell 0 0 rfl rfl 2; have bz := hO.lt 0 0 rfl rfl
  go_wp2_with fail
  refine (handle_make _ _ _).mono ?_
  rw [show hMake 1 3 = (1099514773505, 0) by decide]
  rintro e w2 ⟨rfl, rfl⟩
  go_wp2_with fail
  refine (ref02_Pack _ _ _ _ _ _ _).mono ?_
  rw [show ePack 8 3 0 0 false true = (562949956567048, 0) by decide]
  rintro e w2 ⟨rfl, hb⟩; have hO := hO.via hb; (try simp only [List.set_cons_zero, List.set_cons_succ, List.cons_append, List.nil_append] at hO); have b0 : _ = some (Value.int .i64 16) := hO.cell 0 0 rfl rfl 0; have b1 : _ = some (Value.int .i64 2) := hO.cell 0 0 rfl rfl 1; have b2 : _ = some (Value.int .i64 1) := hO.cell 0 0 rfl rfl 2; have bz := hO.lt 0 0 rfl rfl
  rw [p12_0, p12_b0] at hO
  go_wp2_with fail
  refine (plain_Store 1 8 _ hO rfl (by decide)).mono ?_; rw [p12_1]; rintro e w3 ⟨rfl, hO'⟩; have hO := hO'; (try simp only [List.set_cons_zero, List.set_cons_succ, List.cons_append, List.nil_append] at hO); have b0 : _ = some (Value.int .i64 16) := hO.cell 0 0 rfl rfl 0; have b1 : _ = some (Value.int .i64 2) := hO.cell 0 0 rfl rfl 1; have b2 : _ = some (Value.int .i64 1) := hO.cell 0 0 rfl rfl 2; have bz := hO.lt 0 0 rfl rfl
  go_wp2_with fail
  refine (plain_Store 1 9 _ hO rfl (by decide)).mono ?_; rw [p12_2]; rintro e w4 ⟨rfl, hO'⟩; have hO := hO'; (try simp only [List.set_cons_zero, List.set_cons_succ, List.cons_append, List.nil_append] at hO); have b0 : _ = some (Value.int .i64 16) := hO.cell 0 0 rfl rfl 0; have b1 : _ = some (Value.int .i64 2) := hO.cell 0 0 rfl rfl 1; have b2 : _ = some (Value.int .i64 1) := hO.cell 0 0 rfl rfl 2; have bz := hO.lt 0 0 rfl rfl
  go_wp2_with fail
  refine (plain_SetByte 1 11 _ hO rfl (by decide)).mono ?_; rw [p12_b]; rintro e w5 ⟨rfl, hO'⟩; have hO := hO'; (try simp only [List.set_cons_zero, List.set_cons_succ, List.cons_append, List.nil_append] at hO); have b0 : _ = some (Value.int .i64 16) := hO.cell 0 0 rfl rfl 0; have b1 : _ = some (Value.int .i64 2) := hO.cell 0 0 rfl rfl 1; have b2 : _ = some (Value.int .i64 1) := hO.cell 0 0 rfl rfl 2; have bz := hO.lt 0 0 rfl rfl
  go_wp2_with fail
  refine (read_New 16 2 1 _ _ (by decide) (by decide) hO).mono ?_; rintro e w6 ⟨x1, rfl, hO'⟩; rw [p12_n1] at hO'; have hO := hO'.third; (try simp only [List.set_cons_zero, List.set_cons_succ, List.cons_append, List.nil_append] at hO); have b0 : _ = some (Value.int .i64 16) := hO.cell 0 0 rfl rfl 0; have b1 : _ = some (Value.int .i64 2) := hO.cell 0 0 rfl rfl 1; have b2 : _ = some (Value.int .i64 1) := hO.cell 0 0 rfl rfl 2; have bz := hO.lt 0 0 rfl rfl
  go_wp2_with fail
  refine (read_run 100 (by decide) hO (.inr (by decide)) (by decide) p12_ok rdN_in).mono ?_; rw [p12_r1]; simp only [resN]; rintro e w7 ⟨rfl, m1, hO'⟩; have hO := hO'.drop 2; (try simp only [List.set_cons_zero, List.set_cons_succ, List.cons_append, List.nil_append] at hO); have b0 : _ = some (Value.int .i64 16) := hO.cell 0 0 rfl rfl 0; have b1 : _ = some (Value.int .i64 2) := hO.cell 0 0 rfl rfl 1; have b2 : _ = some (Value.int .i64 1) := hO.cell 0 0 rfl rfl 2; have bz := hO.lt 0 0 rfl rfl
  go_wp2_with fail
  have hO := hO.more (.cells #[.int .i64 0, .int .i64 77] 37)
  generalize w7.heap.size = r7 at hO ⊢
  generalize w7.alloc _ = v7 at hO ⊢
  (try simp only [List.set_cons_zero, List.set_cons_succ, List.cons_append, List.nil_append] at hO); have b0 : _ = some (Value.int .i64 16) := hO.cell 0 0 rfl rfl 0; have b1 : _ = some (Value.int .i64 2) := hO.cell 0 0 rfl rfl 1; have b2 : _ = some (Value.int .i64 1) := hO.cell 0 0 rfl rfl 2; have bz := hO.lt 0 0 rfl rfl
  refine (read_New 16 2 1 _ _ (by decide) (by decide) hO).mono ?_; rintro e w8 ⟨x2, rfl, hO'⟩; rw [p12_n1] at hO'; have hO := hO'.third; (try simp only [List.set_cons_zero, List.set_cons_succ, List.cons_append, List.nil_append] at hO); have b0 : _ = some (Value.int .i64 16) := hO.cell 0 0 rfl rfl 0; have b1 : _ = some (Value.int .i64 2) := hO.cell 0 0 rfl rfl 1; have b2 : _ = some (Value.int .i64 1) := hO.cell 0 0 rfl rfl 2; have bz := hO.lt 0 0 rfl rfl
  go_wp2_with fail
  refine (read_run 100 (by decide) hO (.inr (by decide)) (by decide) p12_ok rdN_in).mono ?_; rw [p12_r2]; simp only [resN]; rintro e w9 ⟨rfl, m2, hO'⟩; have hO := hO'.drop 2; (try simp only [List.set_cons_zero, List.set_cons_succ, List.cons_append, List.nil_append] at hO); have b0 : _ = some (Value.int .i64 16) := hO.cell 0 0 rfl rfl 0; have b1 : _ = some (Value.int .i64 2) := hO.cell 0 0 rfl rfl 1; have b2 : _ = some (Value.int .i64 1) := hO.cell 0 0 rfl rfl 2; have bz := hO.lt 0 0 rfl rfl
  go_wp2_with fail
  have hO := hO.more (.cells #[.int .i64 5, .int .i64 0] 37)
  generalize w9.heap.size = r9 at hO ⊢
  generalize w9.alloc _ = v9 at hO ⊢
  (try simp only [List.set_cons_zero, List.set_cons_succ, List.cons_append, List.nil_append] at hO); have b0 : _ = some (Value.int .i64 16) := hO.cell 0 0 rfl rfl 0; have b1 : _ = some (Value.int .i64 2) := hO.cell 0 0 rfl rfl 1; have b2 : _ = some (Value.int .i64 1) := hO.cell 0 0 rfl rfl 2; have bz := hO.lt 0 0 rfl rfl
  refine (read_New 16 2 1 _ _ (by decide) (by decide) hO).mono ?_; rintro e w10 ⟨x3, rfl, hO'⟩; rw [p12_n3] at hO'; have hO := hO'.third; (try simp only [List.set_cons_zero, List.set_cons_succ, List.cons_append, List.nil_append] at hO); have b0 : _ = some (Value.int .i64 16) := hO.cell 0 0 rfl rfl 0; have b1 : _ = some (Value.int .i64 2) := hO.cell 0 0 rfl rfl 1; have b2 : _ = some (Value.int .i64 1) := hO.cell 0 0 rfl rfl 2; have bz := hO.lt 0 0 rfl rfl
  go_wp2_with fail
  refine (read_run 100 (by decide) hO (.inr (by decide)) (by decide) p12_ok rdN_in).mono ?_; rw [p12_r3]; simp only [resN]; rintro e w11 ⟨rfl, m3, hO'⟩; have hO := hO'.drop 2; (try simp only [List.set_cons_zero, List.set_cons_succ, List.cons_append, List.nil_append] at hO); have b0 : _ = some (Value.int .i64 16) := hO.cell 0 0 rfl rfl 0; have b1 : _ = some (Value.int .i64 2) := hO.cell 0 0 rfl rfl 1; have b2 : _ = some (Value.int .i64 1) := hO.cell 0 0 rfl rfl 2; have bz := hO.lt 0 0 rfl rfl
  go_wp2_with fail
  have hO := hO.more (.cells #[.int .i64 4, .int .i64 0] 37)
  generalize w11.heap.size = r11 at hO ⊢
  generalize w11.alloc _ = v11 at hO ⊢
  (try simp only [List.set_cons_zero, List.set_cons_succ, List.cons_append, List.nil_append] at hO); have b0 : _ = some (Value.int .i64 16) := hO.cell 0 0 rfl rfl 0; have b1 : _ = some (Value.int .i64 2) := hO.cell 0 0 rfl rfl 1; have b2 : _ = some (Value.int .i64 1) := hO.cell 0 0 rfl rfl 2; have bz := hO.lt 0 0 rfl rfl
  refine (read_New 16 2 1 _ _ (by decide) (by decide) hO).mono ?_; rintro e w12 ⟨x4, rfl, hO'⟩; rw [p12_n4] at hO'; have hO := hO'.third; (try simp only [List.set_cons_zero, List.set_cons_succ, List.cons_append, List.nil_append] at hO); have b0 : _ = some (Value.int .i64 16) := hO.cell 0 0 rfl rfl 0; have b1 : _ = some (Value.int .i64 2) := hO.cell 0 0 rfl rfl 1; have b2 : _ = some (Value.int .i64 1) := hO.cell 0 0 rfl rfl 2; have bz := hO.lt 0 0 rfl rfl
  go_wp2_with fail
  refine (read_run 100 (by decide) hO (.inr (by decide)) (by decide) p12_ok rdN_in).mono ?_; rw [p12_r4]; simp only [resN]; rintro e w13 ⟨rfl, m4, hO'⟩; have hO := hO'.drop 2; (try simp only [List.set_cons_zero, List.set_cons_succ, List.cons_append, List.nil_append] at hO); have b0 : _ = some (Value.int .i64 16) := hO.cell 0 0 rfl rfl 0; have b1 : _ = some (Value.int .i64 2) := hO.cell 0 0 rfl rfl 1; have b2 : _ = some (Value.int .i64 1) := hO.cell 0 0 rfl rfl 2; have bz := hO.lt 0 0 rfl rfl
  go_wp2_with fail
  have hO := hO.more (.cells #[.int .i64 4, .int .i64 0] 37)
  generalize w13.heap.size = r13 at hO ⊢
  generalize w13.alloc _ = v13 at hO ⊢
  (try simp only [List.set_cons_zero, List.set_cons_succ, List.cons_append, List.nil_append] at hO); have b0 : _ = some (Value.int .i64 16) := hO.cell 0 0 rfl rfl 0; have b1 : _ = some (Value.int .i64 2) := hO.cell 0 0 rfl rfl 1; have b2 : _ = some (Value.int .i64 1) := hO.cell 0 0 rfl rfl 2; have bz := hO.lt 0 0 rfl rfl
  refine (read_New 0 0 0 _ _ (by decide) (by decide) hO).mono ?_; rintro e w14 ⟨x5, rfl, hO'⟩; rw [p12_n5] at hO'; have hO := hO'.third; (try simp only [List.set_cons_zero, List.set_cons_succ, List.cons_append, List.nil_append] at hO); have b0 : _ = some (Value.int .i64 16) := hO.cell 0 0 rfl rfl 0; have b1 : _ = some (Value.int .i64 2) := hO.cell 0 0 rfl rfl 1; have b2 : _ = some (Value.int .i64 1) := hO.cell 0 0 rfl rfl 2; have bz := hO.lt 0 0 rfl rfl
  go_wp2_with fail
  refine (read_run 100 (by decide) hO (.inl (by decide)) (by decide) p12_ok (.inl rfl)).mono ?_; rw [p12_r5]; simp only [resN]; rintro e w15 ⟨rfl, m5, hO'⟩; have hO := hO'.drop 2; (try simp only [List.set_cons_zero, List.set_cons_succ, List.cons_append, List.nil_append] at hO); have b0 : _ = some (Value.int .i64 16) := hO.cell 0 0 rfl rfl 0; have b1 : _ = some (Value.int .i64 2) := hO.cell 0 0 rfl rfl 1; have b2 : _ = some (Value.int .i64 1) := hO.cell 0 0 rfl rfl 2; have bz := hO.lt 0 0 rfl rfl
  have ra0 : _ = some (Value.int .i64 0) := hO.cell 2 0 rfl rfl 0
  have ra1 : _ = some (Value.int .i64 77) := hO.cell 2 0 rfl rfl 1
  have rb0 : _ = some (Value.int .i64 5) := hO.cell 3 0 rfl rfl 0
  have rb1 : _ = some (Value.int .i64 0) := hO.cell 3 0 rfl rfl 1
  have rc0 : _ = some (Value.int .i64 4) := hO.cell 4 0 rfl rfl 0
  have rc1 : _ = some (Value.int .i64 0) := hO.cell 4 0 rfl rfl 1
  have rd0 : _ = some (Value.int .i64 4) := hO.cell 5 0 rfl rfl 0
  have rd1 : _ = some (Value.int .i64 0) := hO.cell 5 0 rfl rfl 1
  have za := hO.lt 2 0 rfl rfl
  have zb := hO.lt 3 0 rfl rfl
  have zc := hO.lt 4 0 rfl rfl
  have zd := hO.lt 5 0 rfl rfl
  have hO1 := fun o => hO.via (below_alloc _ o)
  go_wp2_with fail
  go_ret
  exact ⟨rfl, by rw [HC.out]; first | exact hO.below | exact (hO1 _).below⟩
end Go.Proofs.Ytmbkkpeepbfgoaa
