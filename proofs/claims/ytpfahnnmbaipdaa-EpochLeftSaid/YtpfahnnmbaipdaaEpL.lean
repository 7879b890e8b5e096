/- The walk of the epoch laws' 'live'. -/
import Derived.Test.YtpfahnnmbaipdaaEpL0
namespace Go.Proofs.Ytpfahnnmbaipdaa
set_option linter.unusedVariables false
set_option linter.unusedSimpArgs false
open Go.RowKit
set_option maxRecDepth 100000 in
set_option maxHeartbeats 8000000 in
theorem law16_live (W : World) : Calls Try.prog 12 #[] W fun e w' => e = .returned (.bool true) ∧ Below W.heap.size W w' := by
  have ck := Lib.hid (show cfgOk 8 1 3 = true by decide)
  go_enter Try.func12, Try.ntmps12
  go_wp2_with fail
  have hO := (Owns.nil W).more (.cells #[.int .i64 8, .int .i64 1, .int .i64 3] 23)
  generalize hcb : W.heap.size = cb at hO ⊢
  have HC := Lib.hid hcb
  clear hcb
  generalize W.alloc (.cells #[.int .i64 8, .int .i64 1, .int .i64 3] 23) = w0 at hO ⊢
  refine (law16_start 8 1 3 hO ck.out).mono ?_; rintro e w1 ⟨p, bw, bb, m, rfl, hO'⟩; rw [p16_0] at hO'; have hO := hO'.last; (try simp only [List.set_cons_zero, List.set_cons_succ, List.cons_append, List.nil_append] at hO); have b0 : _ = some (Value.int .i64 8) := hO.cell 0 0 rfl rfl 0; have b1 : _ = some (Value.int .i64 1) := hO.cell 0 0 rfl rfl 1; have b2 : _ = some (Value.int .i64 3) := hO.cell 0 0 rfl rfl 2
  go_wp2_with fail
  refine (law16_turn 1 8 1 3 hO rfl (by decide) (by decide) p16_ok0 ck.out).mono ?_; rw [p16_1, p16_e0]; rintro e w2 ⟨is1, n1, m1, rfl, ht, hO'⟩; obtain ⟨rfl, rfl⟩ := p16_t1 ht; have hO := hO'; (try simp only [List.set_cons_zero, List.set_cons_succ, List.cons_append, List.nil_append] at hO); have b0 : _ = some (Value.int .i64 8) := hO.cell 0 0 rfl rfl 0; have b1 : _ = some (Value.int .i64 1) := hO.cell 0 0 rfl rfl 1; have b2 : _ = some (Value.int .i64 3) := hO.cell 0 0 rfl rfl 2
  go_wp2_with fail
  refine (law16_enter 1 8 1 3 1 hO rfl (by decide) ck.out).mono ?_; rw [p16_2]; rintro e w3 ⟨rfl, m2, hO'⟩; have hO := hO'; (try simp only [List.set_cons_zero, List.set_cons_succ, List.cons_append, List.nil_append] at hO); have b0 : _ = some (Value.int .i64 8) := hO.cell 0 0 rfl rfl 0; have b1 : _ = some (Value.int .i64 1) := hO.cell 0 0 rfl rfl 1; have b2 : _ = some (Value.int .i64 3) := hO.cell 0 0 rfl rfl 2
  go_wp2_with fail
  refine (epoch_Inside 1 8 1 3 hO rfl (by decide) p16_ok2 ck.out).mono ?_; rw [show inL p16W2 (3 : Int).toNat = [1] from p16_in1]; rintro e w4 ⟨v, cur, m3, rfl, hr, hO'⟩; have hO := hO'.last; (try simp only [List.set_cons_zero, List.set_cons_succ, List.cons_append, List.nil_append] at hO); have b0 : _ = some (Value.int .i64 8) := hO.cell 0 0 rfl rfl 0; have b1 : _ = some (Value.int .i64 1) := hO.cell 0 0 rfl rfl 1; have b2 : _ = some (Value.int .i64 3) := hO.cell 0 0 rfl rfl 2
  have HR := Lib.hid hr
  clear hr
  go_wp2_with fail
  refine (law16_turn 1 8 1 3 hO rfl (by decide) (by decide) p16_ok2 ck.out).mono ?_; rw [p16_3, p16_e2]; rintro e w5 ⟨is2, n2, m4, rfl, ht, hO'⟩; obtain ⟨rfl, rfl⟩ := p16_t3 ht; have hO := hO'; (try simp only [List.set_cons_zero, List.set_cons_succ, List.cons_append, List.nil_append] at hO); have b0 : _ = some (Value.int .i64 8) := hO.cell 0 0 rfl rfl 0; have b1 : _ = some (Value.int .i64 1) := hO.cell 0 0 rfl rfl 1; have b2 : _ = some (Value.int .i64 3) := hO.cell 0 0 rfl rfl 2
  go_wp2_with fail
  refine (epoch_Exit 1 8 1 3 1 hO rfl (by decide)).mono ?_; rw [p16_4]; rintro e w6 ⟨rfl, m5, hO'⟩; have hO := hO'; (try simp only [List.set_cons_zero, List.set_cons_succ, List.cons_append, List.nil_append] at hO); have b0 : _ = some (Value.int .i64 8) := hO.cell 0 0 rfl rfl 0; have b1 : _ = some (Value.int .i64 1) := hO.cell 0 0 rfl rfl 1; have b2 : _ = some (Value.int .i64 3) := hO.cell 0 0 rfl rfl 2
  go_wp2_with fail
  refine (law16_enter 1 8 1 3 2 hO rfl (by decide) ck.out).mono ?_; rw [p16_5]; rintro e w7 ⟨rfl, m6, hO'⟩; have hO := hO'; (try simp only [List.set_cons_zero, List.set_cons_succ, List.cons_append, List.nil_append] at hO); have b0 : _ = some (Value.int .i64 8) := hO.cell 0 0 rfl rfl 0; have b1 : _ = some (Value.int .i64 1) := hO.cell 0 0 rfl rfl 1; have b2 : _ = some (Value.int .i64 3) := hO.cell 0 0 rfl rfl 2
  go_wp2_with fail
  refine (plain_Load 1 6 hO rfl (by decide)).mono ?_; rw [p16_n]; rintro e w8 ⟨rfl, hO'⟩; have hO := hO'; (try simp only [List.set_cons_zero, List.set_cons_succ, List.cons_append, List.nil_append] at hO); have b0 : _ = some (Value.int .i64 8) := hO.cell 0 0 rfl rfl 0; have b1 : _ = some (Value.int .i64 1) := hO.cell 0 0 rfl rfl 1; have b2 : _ = some (Value.int .i64 3) := hO.cell 0 0 rfl rfl 2
  go_wp2_with fail
  refine (epoch_Exit 1 8 1 3 2 hO rfl (by decide)).mono ?_; rw [p16_6]; rintro e w9 ⟨rfl, m7, hO'⟩; have hO := hO'; (try simp only [List.set_cons_zero, List.set_cons_succ, List.cons_append, List.nil_append] at hO); have b0 : _ = some (Value.int .i64 8) := hO.cell 0 0 rfl rfl 0; have b1 : _ = some (Value.int .i64 1) := hO.cell 0 0 rfl rfl 1; have b2 : _ = some (Value.int .i64 3) := hO.cell 0 0 rfl rfl 2
  go_wp2_with fail
  refine (law16_turn 1 8 1 3 hO rfl (by decide) (by decide) p16_ok4 ck.out).mono ?_; rw [p16_7, p16_e4]; rintro e w10 ⟨is3, n3, m8, rfl, ht, hO'⟩; obtain ⟨rfl, rfl⟩ := p16_t7 ht; have hO := hO'; (try simp only [List.set_cons_zero, List.set_cons_succ, List.cons_append, List.nil_append] at hO); have b0 : _ = some (Value.int .i64 8) := hO.cell 0 0 rfl rfl 0; have b1 : _ = some (Value.int .i64 1) := hO.cell 0 0 rfl rfl 1; have b2 : _ = some (Value.int .i64 3) := hO.cell 0 0 rfl rfl 2
  go_wp2_with fail
  refine (law16_turn_no 1 0 0 0 hO rfl (by decide)).mono ?_; rintro e w11 ⟨rfl, m9, hO'⟩; have hO := hO'; (try simp only [List.set_cons_zero, List.set_cons_succ, List.cons_append, List.nil_append] at hO); have b0 : _ = some (Value.int .i64 8) := hO.cell 0 0 rfl rfl 0; have b1 : _ = some (Value.int .i64 1) := hO.cell 0 0 rfl rfl 1; have b2 : _ = some (Value.int .i64 3) := hO.cell 0 0 rfl rfl 2
  go_wp2_with fail
  have hO := hO.more (.cells (intArr [1]) 3); (try simp only [List.set_cons_zero, List.set_cons_succ, List.cons_append, List.nil_append] at hO)
  have R1 := Reads.row HR.out hO 2 rfl (by decide)
  have R2 := Reads.ints (xs := [1]) (cap := 1) hO 3 0 rfl rfl (by decide)
  refine (ref01_Same _ _ _ _ _ R1 R2).mono ?_; rw [show sameB [1] [1] = true by decide]; rintro e w15 ⟨rfl, hb⟩; have hO := hO.via hb; (try simp only [List.set_cons_zero, List.set_cons_succ, List.cons_append, List.nil_append] at hO); have b0 : _ = some (Value.int .i64 8) := hO.cell 0 0 rfl rfl 0; have b1 : _ = some (Value.int .i64 1) := hO.cell 0 0 rfl rfl 1; have b2 : _ = some (Value.int .i64 3) := hO.cell 0 0 rfl rfl 2
  clear R1 R2
  go_wp2_with fail
  refine (plain_Load 1 3 hO rfl (by decide)).mono ?_; rw [p16_w]; rintro e w16 ⟨rfl, hO'⟩; have hO := hO'; (try simp only [List.set_cons_zero, List.set_cons_succ, List.cons_append, List.nil_append] at hO); have b0 : _ = some (Value.int .i64 8) := hO.cell 0 0 rfl rfl 0; have b1 : _ = some (Value.int .i64 1) := hO.cell 0 0 rfl rfl 1; have b2 : _ = some (Value.int .i64 3) := hO.cell 0 0 rfl rfl 2
  go_wp2_with fail
  refine (epoch_Inside 1 8 1 3 hO rfl (by decide) p16_ok7 ck.out).mono ?_; rw [show inL p16W7 (3 : Int).toNat = [] from p16_in2]; rintro e w17 ⟨v2, cur2, m10, rfl, hr2, hO'⟩; have hO := hO'.last; (try simp only [List.set_cons_zero, List.set_cons_succ, List.cons_append, List.nil_append] at hO)
  have hv2 : ∃ (pa : Option Addr) (cap : Nat), v2 = .slice pa 0 cap := by
    rcases hr2 with ⟨h1, -, -⟩ | ⟨g, cap, h1, -⟩
    · exact ⟨none, 0, h1⟩
    · exact ⟨_, cap, by rw [h1]; rfl⟩
  obtain ⟨pa, cap, rfl⟩ := hv2
  go_wp2_with fail
  go_ret
  exact ⟨rfl, by rw [HC.out]; exact hO.below⟩
end Go.Proofs.Ytpfahnnmbaipdaa
