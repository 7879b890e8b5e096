/- The alloc laws' 'live'. -/
import Derived.RegionTactic
import Derived.BigRegion
import Derived.Deep.RegionHeld3
import Derived.Outline
import Derived.Test.YtpebepjfgnoaaaaAlR
import Derived.Test.YtpebepjfgnoaaaaS11
import Derived.Test.YtpebepjfgnoaaaaEnR3
namespace Go.Proofs.Ytpebepjfgnoaaaa
set_option linter.unusedVariables false
set_option linter.unusedSimpArgs false
open Go.RowKit
def p11W0 : List Int := [0, 1, 0, 0, 0, 0, 0, 2, 0, 0, 0]
def p11W1 : List Int := [8, 1048578, 0, 0, 0, 562949953421312, 4, 2, 0, 0, 0]
def p11W2 : List Int := [8, 3145730, 0, 0, 0, 562949953421312, 4, 2, 0, 0, 0]
def p11Z : List Int := [0, 0, 0, 0, 0, 0, 0, 0, 0, 0, 0, 0, 0, 0, 0, 0]
def p11B0 : List Int := [0, 0, 0, 9, 0, 0, 0, 0, 0, 0, 0, 0, 0, 0, 0, 0]
theorem p11_0 : initW 1 2 = p11W0 := by decide
theorem p11_b0 : List.replicate (16 : Int).toNat (0 : Int) = p11Z := by decide
theorem p11_b1 : wPut p11Z 3 (9 % 256) = p11B0 := by decide
theorem p11_c {tk : Nat} (n rn : Int) (h : (hRound n).1 = rn) : alC0 16 2 1 n tk = ⟨1, 2, 16, n, rn, tk, 0⟩ := by
  have h1 : ofT 16 2 1 = 1 := by decide
  have h2 : ofS 16 2 1 = 2 := by decide
  unfold alC0; rw [h1, h2, h]
theorem p11_d {tk : Nat} : alC0 0 0 0 4 tk = ⟨0, 0, 0, 4, 8, tk, 0⟩ := by
  have h1 : ofT 0 0 0 = 0 := by decide
  have h2 : ofS 0 0 0 = 0 := by decide
  have h3 : (hRound 4).1 = 8 := by decide
  unfold alC0; rw [h1, h2, h3]
theorem p11_n : alNx 16 2 1 = 1 := by decide
theorem p11_n0 : alNx 0 0 0 = 0 := by decide
theorem alV1_in : AlIn (alV0 1) := ⟨by decide, by decide, fun _ _ => rfl, fun e => absurd e (by decide)⟩
theorem alV00_in : AlIn (alV0 0) := ⟨by decide, by decide, fun _ _ => rfl, fun e => absurd e (by decide)⟩
theorem p11_r1 (tk : Nat) : mRun (alF1 ⟨1, 2, 16, 4, 8, tk, 0⟩) 100 100 ⟨p11W0, p11B0, alV0 1⟩ = (⟨p11W1, p11Z, ⟨0, 1, 0, 0, 0, 8, 0, 562949953421312, false, ⟨0, 0, 1, 1048578⟩, none⟩⟩, (0, 1099511627776), 20) := by kernel_rfl
theorem p11_r2 (tk : Nat) : mRun (alF1 ⟨1, 2, 16, 9, 16, tk, 0⟩) 100 100 ⟨p11W1, p11Z, alV0 1⟩ = (⟨p11W2, p11Z, ⟨0, 1, 10, 1, 8, 0, 0, 0, false, ⟨0, 1, 1048578, 2097152⟩, some ⟨0, 1, 2097152, 3145730⟩⟩⟩, (10, 0), 11) := by kernel_rfl
theorem p11_r3 (tk : Nat) : mRun (alF1 ⟨1, 2, 16, 0, 0, tk, 0⟩) 100 100 ⟨p11W2, p11Z, alV0 1⟩ = (⟨p11W2, p11Z, alV0 0⟩, (9, 0), 1) := by kernel_rfl
theorem p11_r4 (tk : Nat) : mRun (alF1 ⟨0, 0, 0, 4, 8, tk, 0⟩) 100 100 ⟨p11W2, p11Z, alV0 0⟩ = (⟨p11W2, p11Z, alV0 0⟩, (1, 0), 1) := by kernel_rfl
set_option maxRecDepth 100000 in
set_option maxHeartbeats 8000000 in
theorem law11_live (W : World) : Calls Try.prog 37 #[] W fun e w' => e = .returned (.bool true) ∧ Below W.heap.size W w' := by
  have ck := Lib.hid (show cfgOk 16 2 1 = true by decide)
  go_enter Try.func37, Try.ntmps37
  go_wp2_with fail
  have hP := (Owns.nil W).more (.cells #[.int .i64 16, .int .i64 2, .int .i64 1] 23)
  generalize hcb : W.heap.size = cb at hP ⊢
  have HC := Lib.hid hcb
  clear hcb
  generalize W.alloc (.cells #[.int .i64 16, .int .i64 2, .int .i64 1] 23) = w0 at hP ⊢
  refine (law11_start 16 2 1 hP ck.out).mono ?_; rintro e w1 ⟨p, bw, bb, m, rfl, hO'⟩; clear hP; have hP := hO'; clear hO'; (try simp only [List.set_cons_zero, List.set_cons_succ, List.cons_append, List.nil_append, List.eraseIdx_cons_succ, List.eraseIdx_cons_zero] at hP); have b0 : _ = some (Value.int .i64 16) := hP.cell 1 0 rfl rfl 0; have b1 : _ = some (Value.int .i64 2) := hP.cell 1 0 rfl rfl 1; have b2 : _ = some (Value.int .i64 1) := hP.cell 1 0 rfl rfl 2; have bz := hP.lt 1 0 rfl rfl
  rw [p11_0, p11_b0] at hP
  go_wp2_with fail
  refine (plain_SetByte 0 3 9 hP rfl (by decide)).mono ?_; rw [p11_b1]; rintro e w2 ⟨rfl, hO'⟩; clear hP; have hP := hO'; clear hO'; clear b0 b1 b2 bz; (try simp only [List.set_cons_zero, List.set_cons_succ, List.cons_append, List.nil_append, List.eraseIdx_cons_succ, List.eraseIdx_cons_zero] at hP); have b0 : _ = some (Value.int .i64 16) := hP.cell 1 0 rfl rfl 0; have b1 : _ = some (Value.int .i64 2) := hP.cell 1 0 rfl rfl 1; have b2 : _ = some (Value.int .i64 1) := hP.cell 1 0 rfl rfl 2; have bz := hP.lt 1 0 rfl rfl
  go_wp2_with fail
  refine (alloc_New 16 2 1 4 hP).mono ?_; rintro e w3 ⟨x, tk, rfl, hO'⟩; rw [p11_c 4 8 (by decide), p11_n] at hO'; clear hP; have hP := hO'; clear hO'; have hO' := hP.swap; clear hP; have hP := hO'; clear hO'; clear b0 b1 b2 bz
  go_wp2_with fail
  refine (alloc_run 100 (by decide) hP (show lOk (1 : Int) 2 from .inr (by decide)) (by decide) (by decide) alV1_in _ (p11_r1 tk)).mono ?_; simp only [resN]; rintro e w4 ⟨rfl, m4, y4, hO'⟩; clear hP; have hP := hO'; clear hO'; have hO' := hP.drop 1; clear hP; have hP := hO'; clear hO'; (try simp only [List.set_cons_zero, List.set_cons_succ, List.cons_append, List.nil_append, List.eraseIdx_cons_succ, List.eraseIdx_cons_zero] at hP); have b0 : _ = some (Value.int .i64 16) := hP.cell 1 0 rfl rfl 0; have b1 : _ = some (Value.int .i64 2) := hP.cell 1 0 rfl rfl 1; have b2 : _ = some (Value.int .i64 1) := hP.cell 1 0 rfl rfl 2; have bz := hP.lt 1 0 rfl rfl
  go_upto_region 7 with fail
  have hO' := hP.more (.cells #[.int .i64 0, .int .i64 1099511627776] 79); clear hP; have hP := hO'; clear hO'
  generalize w4.heap.size = r0 at hP ⊢
  generalize w4.alloc _ = z0 at hP ⊢
  clear b0 b1 b2 bz; (try simp only [List.set_cons_zero, List.set_cons_succ, List.cons_append, List.nil_append, List.eraseIdx_cons_succ, List.eraseIdx_cons_zero] at hP); have b0 : _ = some (Value.int .i64 16) := hP.cell 1 0 rfl rfl 0; have b1 : _ = some (Value.int .i64 2) := hP.cell 1 0 rfl rfl 1; have b2 : _ = some (Value.int .i64 1) := hP.cell 1 0 rfl rfl 2; have bz := hP.lt 1 0 rfl rfl
  go_wp2_with fail
  refine (handle_make _ _ _).mono ?_
  rw [show hMake 0 0 = (1099511627776, 0) by decide]
  rintro e w5 ⟨rfl, rfl⟩
  go_wp2_with fail
  refine (alloc_New 16 2 1 9 hP).mono ?_; rintro e w5 ⟨x2, tk2, rfl, hO'⟩; rw [p11_c 9 16 (by decide), p11_n] at hO'; clear hP; have hP := hO'; clear hO'; have hO' := hP.swap; clear hP; have hP := hO'; clear hO'; clear b0 b1 b2 bz
  go_wp2_with fail
  refine (alloc_run 100 (by decide) hP (show lOk (1 : Int) 2 from .inr (by decide)) (by decide) (by decide) alV1_in _ (p11_r2 tk2)).mono ?_; simp only [resN]; rintro e w6 ⟨rfl, m6, y6, hO'⟩; clear hP; have hP := hO'; clear hO'; have hO' := hP.drop 1; clear hP; have hP := hO'; clear hO'; (try simp only [List.set_cons_zero, List.set_cons_succ, List.cons_append, List.nil_append, List.eraseIdx_cons_succ, List.eraseIdx_cons_zero] at hP); have b0 : _ = some (Value.int .i64 16) := hP.cell 1 0 rfl rfl 0; have b1 : _ = some (Value.int .i64 2) := hP.cell 1 0 rfl rfl 1; have b2 : _ = some (Value.int .i64 1) := hP.cell 1 0 rfl rfl 2; have bz := hP.lt 1 0 rfl rfl
  go_upto_region 9 with fail
  have hO' := hP.more (.cells #[.int .i64 10, .int .i64 0] 79); clear hP; have hP := hO'; clear hO'
  generalize w6.heap.size = r1 at hP ⊢
  generalize w6.alloc _ = z1 at hP ⊢
  clear b0 b1 b2 bz; (try simp only [List.set_cons_zero, List.set_cons_succ, List.cons_append, List.nil_append, List.eraseIdx_cons_succ, List.eraseIdx_cons_zero] at hP); have b0 : _ = some (Value.int .i64 16) := hP.cell 1 0 rfl rfl 0; have b1 : _ = some (Value.int .i64 2) := hP.cell 1 0 rfl rfl 1; have b2 : _ = some (Value.int .i64 1) := hP.cell 1 0 rfl rfl 2; have bz := hP.lt 1 0 rfl rfl
  go_wp2_with fail
  refine (alloc_New 16 2 1 0 hP).mono ?_; rintro e w7 ⟨x3, tk3, rfl, hO'⟩; rw [p11_c 0 0 (by decide), p11_n] at hO'; clear hP; have hP := hO'; clear hO'; have hO' := hP.swap; clear hP; have hP := hO'; clear hO'; clear b0 b1 b2 bz
  go_wp2_with fail
  refine (alloc_run 100 (by decide) hP (show lOk (1 : Int) 2 from .inr (by decide)) (by decide) (by decide) alV1_in _ (p11_r3 tk3)).mono ?_; simp only [resN]; rintro e w8 ⟨rfl, m8, y8, hO'⟩; clear hP; have hP := hO'; clear hO'; have hO' := hP.drop 1; clear hP; have hP := hO'; clear hO'; (try simp only [List.set_cons_zero, List.set_cons_succ, List.cons_append, List.nil_append, List.eraseIdx_cons_succ, List.eraseIdx_cons_zero] at hP); have b0 : _ = some (Value.int .i64 16) := hP.cell 1 0 rfl rfl 0; have b1 : _ = some (Value.int .i64 2) := hP.cell 1 0 rfl rfl 1; have b2 : _ = some (Value.int .i64 1) := hP.cell 1 0 rfl rfl 2; have bz := hP.lt 1 0 rfl rfl
  go_upto_region 10 with fail
  have hO' := hP.more (.cells #[.int .i64 9, .int .i64 0] 79); clear hP; have hP := hO'; clear hO'
  generalize w8.heap.size = r2 at hP ⊢
  generalize w8.alloc _ = z2 at hP ⊢
  clear b0 b1 b2 bz; (try simp only [List.set_cons_zero, List.set_cons_succ, List.cons_append, List.nil_append, List.eraseIdx_cons_succ, List.eraseIdx_cons_zero] at hP); have b0 : _ = some (Value.int .i64 16) := hP.cell 1 0 rfl rfl 0; have b1 : _ = some (Value.int .i64 2) := hP.cell 1 0 rfl rfl 1; have b2 : _ = some (Value.int .i64 1) := hP.cell 1 0 rfl rfl 2; have bz := hP.lt 1 0 rfl rfl
  go_wp2_with fail
  refine (alloc_New 0 0 0 4 hP).mono ?_; rintro e w9 ⟨x4, tk4, rfl, hO'⟩; rw [p11_d, p11_n0] at hO'; clear hP; have hP := hO'; clear hO'; have hO' := hP.swap; clear hP; have hP := hO'; clear hO'; clear b0 b1 b2 bz
  go_wp2_with fail
  refine (alloc_run 100 (by decide) hP (show lOk (0 : Int) 0 from .inl (by decide)) (by decide) (by decide) alV00_in _ (p11_r4 tk4)).mono ?_; simp only [resN]; rintro e u1 ⟨rfl, m9, y9, hO'⟩; clear hP; have hP := hO'; clear hO'; have hO' := hP.drop 1; clear hP; have hP := hO'; clear hO'; (try simp only [List.set_cons_zero, List.set_cons_succ, List.cons_append, List.nil_append, List.eraseIdx_cons_succ, List.eraseIdx_cons_zero] at hP)
  go_upto_region 11 with fail
  have hO' := hP.more (.cells #[.int .i64 1, .int .i64 0] 79); clear hP; have hP := hO'; clear hO'; (try simp only [List.set_cons_zero, List.set_cons_succ, List.cons_append, List.nil_append, List.eraseIdx_cons_succ, List.eraseIdx_cons_zero] at hP)
  generalize u1.heap.size = r3 at hP ⊢
  generalize u1.alloc _ = z3 at hP ⊢
  have q0 : _ = some (Value.int .i64 0) := hP.cell 2 0 rfl rfl 0; have o0 : _ = some (Value.int .i64 1099511627776) := hP.cell 2 0 rfl rfl 1
  have q1 : _ = some (Value.int .i64 10) := hP.cell 3 0 rfl rfl 0; have o1 : _ = some (Value.int .i64 0) := hP.cell 3 0 rfl rfl 1
  have q2 : _ = some (Value.int .i64 9) := hP.cell 4 0 rfl rfl 0; have o2 : _ = some (Value.int .i64 0) := hP.cell 4 0 rfl rfl 1
  have q3 : _ = some (Value.int .i64 1) := hP.cell 5 0 rfl rfl 0; have o3 : _ = some (Value.int .i64 0) := hP.cell 5 0 rfl rfl 1
  go_wp2_with fail
  refine (plain_Load 0 0 hP rfl (by decide)).mono ?_; rw [show wAt p11W2 0 = 8 by decide]; rintro e y1 ⟨rfl, hO'⟩; clear hP; have hP := hO'; clear hO'; (try simp only [List.set_cons_zero, List.set_cons_succ, List.cons_append, List.nil_append, List.eraseIdx_cons_succ, List.eraseIdx_cons_zero] at hP); clear q0 q1 q2 q3 o0 o1 o2 o3
  go_wp2_with fail
  refine (plain_Load 0 1 hP rfl (by decide)).mono ?_; rw [show wAt p11W2 1 = 3145730 by decide]; rintro e y1 ⟨rfl, hO'⟩; clear hP; have hP := hO'; clear hO'; (try simp only [List.set_cons_zero, List.set_cons_succ, List.cons_append, List.nil_append, List.eraseIdx_cons_succ, List.eraseIdx_cons_zero] at hP)
  go_wp2_with fail
  refine (plain_Load 0 2 hP rfl (by decide)).mono ?_; rw [show wAt p11W2 2 = 0 by decide]; rintro e y1 ⟨rfl, hO'⟩; clear hP; have hP := hO'; clear hO'; (try simp only [List.set_cons_zero, List.set_cons_succ, List.cons_append, List.nil_append, List.eraseIdx_cons_succ, List.eraseIdx_cons_zero] at hP)
  go_wp2_with fail
  refine (plain_Load 0 5 hP rfl (by decide)).mono ?_; rw [show wAt p11W2 5 = 562949953421312 by decide]; rintro e y1 ⟨rfl, hO'⟩; clear hP; have hP := hO'; clear hO'; (try simp only [List.set_cons_zero, List.set_cons_succ, List.cons_append, List.nil_append, List.eraseIdx_cons_succ, List.eraseIdx_cons_zero] at hP)
  go_wp2_with fail
  refine (plain_Load 0 6 hP rfl (by decide)).mono ?_; rw [show wAt p11W2 6 = 4 by decide]; rintro e y1 ⟨rfl, hO'⟩; clear hP; have hP := hO'; clear hO'; (try simp only [List.set_cons_zero, List.set_cons_succ, List.cons_append, List.nil_append, List.eraseIdx_cons_succ, List.eraseIdx_cons_zero] at hP)
  go_wp2_with fail
  refine (plain_Byte 0 3 hP rfl (by decide) (by decide)).mono ?_; rw [show wAt p11Z 3 = 0 by decide]; rintro e y1 ⟨rfl, hO'⟩; clear hP; have hP := hO'; clear hO'; (try simp only [List.set_cons_zero, List.set_cons_succ, List.cons_append, List.nil_append, List.eraseIdx_cons_succ, List.eraseIdx_cons_zero] at hP)
  go_wp2_with fail
  go_ret
  exact ⟨rfl, by rw [HC.out]; exact hP.below⟩
end Go.Proofs.Ytpebepjfgnoaaaa
