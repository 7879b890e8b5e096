/- The walk of the layout laws' 'live'. -/
import Derived.Test.YtpebepjfgnoaaaaLySn
import Derived.Test.YtpebepjfgnoaaaaIni
import Derived.Test.YtpebepjfgnoaaaaLyL0
namespace Go.Proofs.Ytpebepjfgnoaaaa
set_option linter.unusedVariables false
set_option linter.unusedSimpArgs false
open Go.RowKit
set_option maxRecDepth 100000 in
set_option maxHeartbeats 4000000 in
theorem law06_live (W : World) : Calls Try.prog 9 #[] W fun e w' => e = .returned (.bool true) ∧ Below W.heap.size W w' := by
  have L := Lib.hid (show lOk 2 3 by right; omega)
  have CK := Lib.hid (show cfgOk 64 3 2 = true by decide)
  go_enter Try.func9, Try.ntmps9
  go_wp2_with fail
  have hO := (Owns.nil W).more (.cells #[.int .i64 64, .int .i64 3, .int .i64 2] 23)
  generalize W.alloc (.cells #[.int .i64 64, .int .i64 3, .int .i64 2] 23) = w0 at hO ⊢
  have a0 : _ = some (Value.int .i64 64) := hO.cell 0 0 rfl rfl 0; have a1 : _ = some (Value.int .i64 3) := hO.cell 0 0 rfl rfl 1; have a2 : _ = some (Value.int .i64 2) := hO.cell 0 0 rfl rfl 2
  refine (layout_Of _ _ _ _).mono ?_
  rw [show ofT 64 3 2 = 2 by decide, show ofS 64 3 2 = 3 by decide, show ofE 64 3 2 = 0 by decide]
  rintro e w1 ⟨rfl, hb⟩
  have hO := hO.via hb
  have a0 : _ = some (Value.int .i64 64) := hO.cell 0 0 rfl rfl 0; have a1 : _ = some (Value.int .i64 3) := hO.cell 0 0 rfl rfl 1; have a2 : _ = some (Value.int .i64 2) := hO.cell 0 0 rfl rfl 2
  go_wp2_with fail
  have hO := hO.more (.cells #[.int .i64 2, .int .i64 3] 25)
  generalize w1.alloc (.cells #[.int .i64 2, .int .i64 3] 25) = w2 at hO ⊢
  generalize w1.heap.size = lb at hO ⊢
  have a0 : _ = some (Value.int .i64 64) := hO.cell 0 0 rfl rfl 0; have a1 : _ = some (Value.int .i64 3) := hO.cell 0 0 rfl rfl 1; have a2 : _ = some (Value.int .i64 2) := hO.cell 0 0 rfl rfl 2; have b0 : _ = some (Value.int .i64 2) := hO.cell 1 0 rfl rfl 0; have b1 : _ = some (Value.int .i64 3) := hO.cell 1 0 rfl rfl 1
  refine (cells_New _ _ hO (by decide)).mono ?_
  rintro e w3 ⟨p, bw, bb, rfl, hO'⟩
  have hO := hO'.last
  have a0 : _ = some (Value.int .i64 64) := hO.cell 0 0 rfl rfl 0; have a1 : _ = some (Value.int .i64 3) := hO.cell 0 0 rfl rfl 1; have a2 : _ = some (Value.int .i64 2) := hO.cell 0 0 rfl rfl 2; have b0 : _ = some (Value.int .i64 2) := hO.cell 1 0 rfl rfl 0; have b1 : _ = some (Value.int .i64 3) := hO.cell 1 0 rfl rfl 1
  go_wp2_with fail
  refine (layout_Start_ok 2 64 3 2 hO rfl (by simp) (by simp) (by decide) (by decide) (by decide)).mono ?_
  rintro e w4 ⟨rfl, m, hO'⟩
  rw [show startW 2 3 (List.replicate (Int.toNat 20) 0) = live06W from rfl] at hO'
  have hO := hO'
  have a0 : _ = some (Value.int .i64 64) := hO.cell 0 0 rfl rfl 0; have a1 : _ = some (Value.int .i64 3) := hO.cell 0 0 rfl rfl 1; have a2 : _ = some (Value.int .i64 2) := hO.cell 0 0 rfl rfl 2; have b0 : _ = some (Value.int .i64 2) := hO.cell 1 0 rfl rfl 0; have b1 : _ = some (Value.int .i64 3) := hO.cell 1 0 rfl rfl 1
  go_wp2_with fail
  refine (layout_Of _ _ _ _).mono ?_
  rw [show ofT 0 0 0 = 0 by decide, show ofS 0 0 0 = 0 by decide, show ofE 0 0 0 = 1 by decide]
  rintro e w5 ⟨rfl, hb⟩
  have hO := hO.via hb
  have a0 : _ = some (Value.int .i64 64) := hO.cell 0 0 rfl rfl 0; have a1 : _ = some (Value.int .i64 3) := hO.cell 0 0 rfl rfl 1; have a2 : _ = some (Value.int .i64 2) := hO.cell 0 0 rfl rfl 2; have b0 : _ = some (Value.int .i64 2) := hO.cell 1 0 rfl rfl 0; have b1 : _ = some (Value.int .i64 3) := hO.cell 1 0 rfl rfl 1
  go_wp2_with fail
  have hO := hO.more (.cells #[.int .i64 0, .int .i64 0] 25)
  generalize w5.alloc (.cells #[.int .i64 0, .int .i64 0] 25) = w6 at hO ⊢
  generalize w5.heap.size = lc at hO ⊢
  have a0 : _ = some (Value.int .i64 64) := hO.cell 0 0 rfl rfl 0; have a1 : _ = some (Value.int .i64 3) := hO.cell 0 0 rfl rfl 1; have a2 : _ = some (Value.int .i64 2) := hO.cell 0 0 rfl rfl 2; have b0 : _ = some (Value.int .i64 2) := hO.cell 1 0 rfl rfl 0; have b1 : _ = some (Value.int .i64 3) := hO.cell 1 0 rfl rfl 1
  have hO := hO.drew
  simp only [List.append_eq, List.cons_append, List.nil_append]
  go_region_held3 (fun w => w.cell? ⟨W.heap.size, 0, none⟩ = some (.int .i64 64) ∧ w.cell? ⟨W.heap.size, 1, none⟩ = some (.int .i64 3) ∧ w.cell? ⟨W.heap.size, 2, none⟩ = some (.int .i64 2) ∧ w.cell? ⟨lb, 0, none⟩ = some (.int .i64 2) ∧ w.cell? ⟨lb, 1, none⟩ = some (.int .i64 3)) (first | assumption | exact ⟨hO.cell 0 0 rfl rfl 0, hO.cell 0 0 rfl rfl 1, hO.cell 0 0 rfl rfl 2, hO.cell 1 0 rfl rfl 0, hO.cell 1 0 rfl rfl 1⟩) (first | (go_at_call 13; refine (layout_Words _ _ _ L.out).mono ?_; rw [show lWords 2 3 = 15 by decide]; rintro e w7 ⟨rfl, hb⟩; have hO := hO.via hb) | (go_at_call 10; refine (layout_Entry _ _ _ _ L.out).mono ?_; (first | rw [show lOf 2 3 0 0 = 6 by decide] | rw [show lOf 2 3 3 0 = -1 by decide]); rintro e w7 ⟨rfl, hb⟩; have hO := hO.via hb) | (go_at_call 11; refine (layout_Size _ _ _ _ L.out).mono ?_; rw [show lOf 2 3 1 1 = 10 by decide]; rintro e w7 ⟨rfl, hb⟩; have hO := hO.via hb) | (go_at_call 12; refine (layout_Link _ _ _ _ L.out).mono ?_; (first | rw [show lOf 2 3 2 2 = 14 by decide] | rw [show lOf 2 3 0 2 = 8 by decide]); rintro e w7 ⟨rfl, hb⟩; have hO := hO.via hb) | (go_at_call 14; refine (layout_Note _ _ _ _ L.out).mono ?_; (first | rw [show lNote 2 1 = 5 by decide] | rw [show lNote 2 2 = -1 by decide]); rintro e w7 ⟨rfl, hb⟩; have hO := hO.via hb) | (go_at_call 16; refine (layout_Stack _ _ _ L.out).mono ?_; rw [show lOnce 2 1 = 1 by decide]; rintro e w7 ⟨rfl, hb⟩; have hO := hO.via hb) | (go_at_call 43; refine (plain_Load 2 _ hO rfl live06_le).mono ?_; (first | rw [live06_1] | rw [live06_8] | rw [live06_14]); rintro e w7 ⟨rfl, hO'⟩; have hO := hO') | (go_at_call 45; refine (cells_New _ _ hO (by decide)).mono ?_; rintro e w7 ⟨p2, bw2, bb2, rfl, hO'⟩; have hO := hO'.last) | (go_at_call 46; (first | ((with_reducible refine (layout_Start_nil _ _ _ _ CK.out).mono ?_); rintro e w8 ⟨rfl, hb⟩; have hO := hO.via hb) | (refine (layout_Start_small 4 64 3 2 hO rfl (by simp) (by simp) (by decide) (by decide)).mono ?_; rintro e w8 ⟨rfl, hO'⟩; have hO := hO'))))
  all_goals
    go_wp2_with fail
    go_ret
    exact ⟨rfl, hO.below⟩
end Go.Proofs.Ytpebepjfgnoaaaa
