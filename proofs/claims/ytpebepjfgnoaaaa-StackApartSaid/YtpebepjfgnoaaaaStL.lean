/- The walk of the stack laws' 'live'. -/
import Derived.Test.YtpebepjfgnoaaaaStL0
namespace Go.Proofs.Ytpebepjfgnoaaaa
set_option linter.unusedVariables false
set_option linter.unusedSimpArgs false
open Go.RowKit
set_option maxRecDepth 100000 in
set_option maxHeartbeats 8000000 in
theorem law10_live (W : World) : Calls Try.prog 19 #[] W fun e w' => e = .returned (.bool true) ∧ Below W.heap.size W w' := by
  have L := Lib.hid (show lOk 1 2 by right; omega)
  have ck := Lib.hid (show cfgOk 8 2 1 = true by decide)
  go_enter Try.func19, Try.ntmps19
  go_wp2_with fail
  refine (law10_start 8 2 1 (Owns.nil W) ck.out).mono ?_; rintro e w1 ⟨p, bw, bb, m, rfl, hO'⟩
  rw [s10_0] at hO'
  have hO := (hO'.last).more (.cells #[.int .i64 1, .int .i64 2] 25)
  go_wp2_with fail
  generalize hlb : w1.heap.size = lb at hO ⊢
  have HL := Lib.hid hlb
  clear hlb
  generalize w1.alloc (.cells #[.int .i64 1, .int .i64 2] 25) = w2 at hO ⊢
  refine (stack_NewPop 1 2 hO).mono ?_; rintro e w3 ⟨x, rfl, hO'⟩; have hO := hO'.last; (try simp only [List.set_cons_zero, List.set_cons_succ, List.cons_append, List.nil_append] at hO); have b0 : _ = some (Value.int .i64 1) := hO.cell 1 0 rfl rfl 0; have b1 : _ = some (Value.int .i64 2) := hO.cell 1 0 rfl rfl 1
  go_wp2_with fail
  refine (stack_NewPush 1 2 0 hO).mono ?_; rintro e w4 ⟨y, rfl, hO'⟩; have hO := hO'.last; (try simp only [List.set_cons_zero, List.set_cons_succ, List.cons_append, List.nil_append] at hO); have b0 : _ = some (Value.int .i64 1) := hO.cell 1 0 rfl rfl 0; have b1 : _ = some (Value.int .i64 2) := hO.cell 1 0 rfl rfl 1
  go_wp2_with fail
  refine (pop_Step 0 2 (by decide) hO rfl rfl L.out (by decide)).mono ?_; rw [s10_1]; rintro e w5 ⟨rfl, m1, hO'⟩; have hO := hO'; (try simp only [List.set_cons_zero, List.set_cons_succ, List.cons_append, List.nil_append] at hO); have b0 : _ = some (Value.int .i64 1) := hO.cell 1 0 rfl rfl 0; have b1 : _ = some (Value.int .i64 2) := hO.cell 1 0 rfl rfl 1
  go_wp2_with fail
  refine (pop_Step 0 2 (by decide) hO rfl rfl L.out (by decide)).mono ?_; rw [s10_2]; rintro e w6 ⟨rfl, m2, hO'⟩; have hO := hO'; (try simp only [List.set_cons_zero, List.set_cons_succ, List.cons_append, List.nil_append] at hO); have b0 : _ = some (Value.int .i64 1) := hO.cell 1 0 rfl rfl 0; have b1 : _ = some (Value.int .i64 2) := hO.cell 1 0 rfl rfl 1
  go_wp2_with fail
  refine (pop_Step 0 2 (by decide) hO rfl rfl L.out (by decide)).mono ?_; rw [s10_3]; rintro e w7 ⟨rfl, m3, hO'⟩; have hO := hO'; (try simp only [List.set_cons_zero, List.set_cons_succ, List.cons_append, List.nil_append] at hO); have b0 : _ = some (Value.int .i64 1) := hO.cell 1 0 rfl rfl 0; have b1 : _ = some (Value.int .i64 2) := hO.cell 1 0 rfl rfl 1
  go_wp2_with fail
  refine (pop_Step 0 2 (by decide) hO rfl rfl L.out (by decide)).mono ?_; rw [s10_4]; rintro e w8 ⟨rfl, m4, hO'⟩; have hO := hO'; (try simp only [List.set_cons_zero, List.set_cons_succ, List.cons_append, List.nil_append] at hO); have b0 : _ = some (Value.int .i64 1) := hO.cell 1 0 rfl rfl 0; have b1 : _ = some (Value.int .i64 2) := hO.cell 1 0 rfl rfl 1
  go_wp2_with fail
  refine (stack_Free 0 1 2 hO rfl (by decide) (by decide) (by decide) (by decide) (by decide) s10_ok1).mono ?_; rw [s10_5]; rintro e w9 ⟨v, cur, m5, rfl, hr, hO'⟩; have hO := hO'.last; (try simp only [List.set_cons_zero, List.set_cons_succ, List.cons_append, List.nil_append] at hO); have b0 : _ = some (Value.int .i64 1) := hO.cell 1 0 rfl rfl 0; have b1 : _ = some (Value.int .i64 2) := hO.cell 1 0 rfl rfl 1
  have HR := Lib.hid hr
  clear hr
  go_wp2_with fail
  refine (push_Step 0 3 (by decide) hO rfl rfl L.out (by decide)).mono ?_; rw [s10_6]; rintro e w10 ⟨rfl, m6, hO'⟩; have hO := hO'; (try simp only [List.set_cons_zero, List.set_cons_succ, List.cons_append, List.nil_append] at hO); have b0 : _ = some (Value.int .i64 1) := hO.cell 1 0 rfl rfl 0; have b1 : _ = some (Value.int .i64 2) := hO.cell 1 0 rfl rfl 1
  go_wp2_with fail
  refine (push_Step 0 3 (by decide) hO rfl rfl L.out (by decide)).mono ?_; rw [s10_7]; rintro e w11 ⟨rfl, m7, hO'⟩; have hO := hO'; (try simp only [List.set_cons_zero, List.set_cons_succ, List.cons_append, List.nil_append] at hO); have b0 : _ = some (Value.int .i64 1) := hO.cell 1 0 rfl rfl 0; have b1 : _ = some (Value.int .i64 2) := hO.cell 1 0 rfl rfl 1
  go_wp2_with fail
  refine (push_Step 0 3 (by decide) hO rfl rfl L.out (by decide)).mono ?_; rw [s10_8]; rintro e w12 ⟨rfl, m8, hO'⟩; have hO := hO'; (try simp only [List.set_cons_zero, List.set_cons_succ, List.cons_append, List.nil_append] at hO); have b0 : _ = some (Value.int .i64 1) := hO.cell 1 0 rfl rfl 0; have b1 : _ = some (Value.int .i64 2) := hO.cell 1 0 rfl rfl 1
  go_wp2_with fail
  refine (stack_NewPush 1 2 2 hO).mono ?_; rintro e w13 ⟨z, rfl, hO'⟩; have hO := hO'.last; (try simp only [List.set_cons_zero, List.set_cons_succ, List.cons_append, List.nil_append] at hO); have b0 : _ = some (Value.int .i64 1) := hO.cell 1 0 rfl rfl 0; have b1 : _ = some (Value.int .i64 2) := hO.cell 1 0 rfl rfl 1
  go_wp2_with fail
  refine (push_Step 0 5 (by decide) hO rfl rfl L.out (by decide)).mono ?_; rw [s10_9]; rintro e w14 ⟨rfl, m9, hO'⟩; have hO := hO'; (try simp only [List.set_cons_zero, List.set_cons_succ, List.cons_append, List.nil_append] at hO); have b0 : _ = some (Value.int .i64 1) := hO.cell 1 0 rfl rfl 0; have b1 : _ = some (Value.int .i64 2) := hO.cell 1 0 rfl rfl 1
  go_wp2_with fail
  have hO := hO.more (.cells (intArr [1]) 3); (try simp only [List.set_cons_zero, List.set_cons_succ, List.cons_append, List.nil_append] at hO)
  have R1 := Reads.row HR.out hO 4 rfl (by decide)
  have R2 := Reads.ints (xs := [1]) (cap := 1) hO 6 0 rfl rfl (by decide)
  refine (ref01_Same _ _ _ _ _ R1 R2).mono ?_; rw [show sameB [1] [1] = true by decide]; rintro e w15 ⟨rfl, hb⟩; have hO := hO.via hb; (try simp only [List.set_cons_zero, List.set_cons_succ, List.cons_append, List.nil_append] at hO); have b0 : _ = some (Value.int .i64 1) := hO.cell 1 0 rfl rfl 0; have b1 : _ = some (Value.int .i64 2) := hO.cell 1 0 rfl rfl 1
  clear R1 R2
  go_wp2_with fail
  refine (stack_Free 0 1 2 hO rfl (by decide) (by decide) (by decide) (by decide) (by decide) s10_ok2).mono ?_; rw [s10_10]; rintro e w16 ⟨v2, cur2, m10, rfl, hr2, hO'⟩; have hO := hO'.last; (try simp only [List.set_cons_zero, List.set_cons_succ, List.cons_append, List.nil_append] at hO); have b0 : _ = some (Value.int .i64 1) := hO.cell 1 0 rfl rfl 0; have b1 : _ = some (Value.int .i64 2) := hO.cell 1 0 rfl rfl 1
  have HR2 := Lib.hid hr2
  clear hr2
  go_wp2_with fail
  have hO := hO.more (.cells (intArr [0, 1]) 3); (try simp only [List.set_cons_zero, List.set_cons_succ, List.cons_append, List.nil_append] at hO)
  have R1 := Reads.row HR2.out hO 7 rfl (by decide)
  have R2 := Reads.ints (xs := [0, 1]) (cap := 2) hO 8 0 rfl rfl (by decide)
  refine (ref01_Same _ _ _ _ _ R1 R2).mono ?_; rw [show sameB [0, 1] [0, 1] = true by decide]; rintro e w17 ⟨rfl, hb⟩; have hO := hO.via hb
  clear R1 R2
  go_wp2_with fail
  go_ret
  exact ⟨rfl, hO.below⟩
end Go.Proofs.Ytpebepjfgnoaaaa
