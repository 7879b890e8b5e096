/- The layout law LayoutTells. -/
import Derived.Deep.DeepCutAuto
import Derived.Deep.RegionWith
import Derived.Deep.RegionHeld3
import Derived.Test.YtdhbncjnlkhkdaaLyL
namespace Go.Proofs.Ytdhbncjnlkhkdaa
set_option linter.unusedVariables false
set_option linter.unusedSimpArgs false
open Go.RowKit
theorem belowA (w : World) (o : Obj) : Below w.heap.size w (w.alloc o) := (Below.refl _ _).alloc (Nat.le_refl _) _
theorem rAt_all (a s t n : Int) : lOnce (ofT a s t) 0 = rAt a s t 0 n ∧ lOnce (ofT a s t) 1 = rAt a s t 1 n ∧ lOnce (ofT a s t) 2 = rAt a s t 2 n ∧ lOnce (ofT a s t) 3 = rAt a s t 3 n ∧ lNote (ofT a s t) n = rAt a s t 4 n ∧
    lOf (ofT a s t) (ofS a s t) n 0 = rAt a s t 5 n ∧ lOf (ofT a s t) (ofS a s t) n 1 = rAt a s t 6 n ∧ lOf (ofT a s t) (ofS a s t) n 2 = rAt a s t 7 n := by
  rcases bool_cases (b := cfgOk a s t) with h | h
  · obtain ⟨e1, e2, -⟩ := of_yes h
    have := cfgOk_of h
    rw [e1, e2]
    unfold rAt lOnce
    rw [if_pos h, if_neg (show ¬ t = 0 by omega)]
    simp [h]
    omega
  · obtain ⟨e1, e2, -⟩ := of_no h
    rw [e1, e2]
    simp [rAt, h, lOnce, lNote, lOf]
    omega
set_option maxRecDepth 100000 in
set_option maxHeartbeats 4000000 in
theorem LayoutTells_walk (a s t n : Int) (W : World) : Calls Try.prog 5 #[.agg #[.int .i64 a, .int .i64 s, .int .i64 t], .int .i64 n] W fun e w' => e = .returned (.bool true) ∧ Below W.heap.size W w' := by
  obtain ⟨g0, g1, g2, g3, g4, g5, g6, g7⟩ := rAt_all a s t n
  have hL := of_lOk a s t
  obtain ⟨T, hT⟩ : ∃ T, ofT a s t = T := ⟨_, rfl⟩
  obtain ⟨Z, hZ⟩ : ∃ Z, ofS a s t = Z := ⟨_, rfl⟩
  obtain ⟨U, hU⟩ : ∃ U, lWords T Z = U := ⟨_, rfl⟩
  have u2 := Lib.hid (show rWords a s t = U by unfold rWords; rw [hT, hZ, hU])
  have u1 := Lib.hid hU
  clear hU
  rw [hT] at g0 g1 g2 g3 g4 g5 g6 g7 hL
  rw [hZ] at g5 g6 g7 hL
  have L := Lib.hid hL
  obtain ⟨f, hf⟩ : ∃ f : Nat → Int, f = fun k : Nat => rAt a s t (k : Int) n := ⟨_, rfl⟩
  have HF := Lib.hid (show ∀ k : Nat, rAt a s t k n = f k by intro k; rw [hf])
  have g0 := Lib.hid (g0.trans (HF.out 0))
  have g1 := Lib.hid (g1.trans (HF.out 1))
  have g2 := Lib.hid (g2.trans (HF.out 2))
  have g3 := Lib.hid (g3.trans (HF.out 3))
  have g4 := Lib.hid (g4.trans (HF.out 4))
  have g5 := Lib.hid (g5.trans (HF.out 5))
  have g6 := Lib.hid (g6.trans (HF.out 6))
  have g7 := Lib.hid (g7.trans (HF.out 7))
  have E1 := Lib.hid hT
  have E2 := Lib.hid hZ
  clear hT hZ hL hf
  have hE : ∃ (b : Bool) (E : Int), cfgOk a s t = b ∧ ofE a s t = E ∧ ((b = true ∧ E = 0) ∨ (b = false ∧ E = 1)) := by
    rcases bool_cases (b := cfgOk a s t) with h | h
    · exact ⟨true, 0, h, (of_yes h).2.2, .inl ⟨rfl, rfl⟩⟩
    · exact ⟨false, 1, h, (of_no h).2.2, .inr ⟨rfl, rfl⟩⟩
  obtain ⟨b, E, hb0, hE0, hcases⟩ := hE
  have CK := Lib.hid hb0
  have E3 := Lib.hid hE0
  clear hb0 hE0
  rcases hcases with ⟨rfl, rfl⟩ | ⟨rfl, rfl⟩
  all_goals
    go_enter Try.func5, Try.ntmps5
    go_wp2_with fail
    have hO := (Owns.nil W).more (.cells #[.int .i64 a, .int .i64 s, .int .i64 t] 23)
    generalize W.alloc (.cells #[.int .i64 a, .int .i64 s, .int .i64 t] 23) = w0 at hO ⊢
    refine (layout_Of _ _ _ _).mono ?_; rw [E1.out, E2.out, E3.out]; rintro e w1 ⟨rfl, hb⟩; have hO := hO.via hb
    have hO := hO.more (.cells #[.int .i64 T, .int .i64 Z] 25)
    go_upto_region 2 with (fail)
    generalize hlb : w1.heap.size = lb at hO ⊢
    have HL := Lib.hid hlb
    clear hlb
    generalize w1.alloc (.cells #[.int .i64 T, .int .i64 Z] 25) = w2 at hO ⊢
    go_cut [33] (fun s33 wx => s33 = .bool false ∧ Owns W.heap.size W wx [[(W.heap.size, Obj.cells #[.int .i64 a, .int .i64 s, .int .i64 t] 23 (0, 0))], [(lb, Obj.cells #[.int .i64 T, .int .i64 Z] 25 (0, 0))]])
    case first =>
      have hO := hO.drew
      have a0 : _ = some (Value.int .i64 a) := hO.cell 0 0 rfl rfl 0; have a1 : _ = some (Value.int .i64 s) := hO.cell 0 0 rfl rfl 1; have a2 : _ = some (Value.int .i64 t) := hO.cell 0 0 rfl rfl 2; have b0 : _ = some (Value.int .i64 T) := hO.cell 1 0 rfl rfl 0; have b1 : _ = some (Value.int .i64 Z) := hO.cell 1 0 rfl rfl 1
      first
        | go_loud (go_region_with (first | (go_at_call 21; refine (ref06_May _ _ _ _).mono ?_; rw [CK.out]; rintro e w7 ⟨rfl, hb⟩; have hO := hO.via hb; have a0 : _ = some (Value.int .i64 a) := hO.cell 0 0 rfl rfl 0; have a1 : _ = some (Value.int .i64 s) := hO.cell 0 0 rfl rfl 1; have a2 : _ = some (Value.int .i64 t) := hO.cell 0 0 rfl rfl 2; have b0 : _ = some (Value.int .i64 T) := hO.cell 1 0 rfl rfl 0; have b1 : _ = some (Value.int .i64 Z) := hO.cell 1 0 rfl rfl 1) | (go_at_call 19; refine (layout_Words _ _ _ L.out).mono ?_; rw [u1.out]; rintro e w7 ⟨rfl, hb⟩; have hO := hO.via hb; have a0 : _ = some (Value.int .i64 a) := hO.cell 0 0 rfl rfl 0; have a1 : _ = some (Value.int .i64 s) := hO.cell 0 0 rfl rfl 1; have a2 : _ = some (Value.int .i64 t) := hO.cell 0 0 rfl rfl 2; have b0 : _ = some (Value.int .i64 T) := hO.cell 1 0 rfl rfl 0; have b1 : _ = some (Value.int .i64 Z) := hO.cell 1 0 rfl rfl 1) | (go_at_call 22; refine (ref06_Words _ _ _ _).mono ?_; rw [u2.out]; rintro e w7 ⟨rfl, hb⟩; have hO := hO.via hb; have a0 : _ = some (Value.int .i64 a) := hO.cell 0 0 rfl rfl 0; have a1 : _ = some (Value.int .i64 s) := hO.cell 0 0 rfl rfl 1; have a2 : _ = some (Value.int .i64 t) := hO.cell 0 0 rfl rfl 2; have b0 : _ = some (Value.int .i64 T) := hO.cell 1 0 rfl rfl 0; have b1 : _ = some (Value.int .i64 Z) := hO.cell 1 0 rfl rfl 1)))
        | fail "with"
      all_goals (go_wp2_with fail; go_meet; exact ⟨rfl, hO⟩)
    clear hO
    obtain ⟨rfl, hO⟩ := hcut
    go_wp2_with fail
    have hO := hO.drew
    first
      | go_loud (go_region_held3 (fun w => w.cell? ⟨W.heap.size, 0, none⟩ = some (.int .i64 a) ∧ w.cell? ⟨W.heap.size, 1, none⟩ = some (.int .i64 s) ∧ w.cell? ⟨W.heap.size, 2, none⟩ = some (.int .i64 t) ∧ w.cell? ⟨lb, 0, none⟩ = some (.int .i64 T) ∧ w.cell? ⟨lb, 1, none⟩ = some (.int .i64 Z)) (first | assumption | exact ⟨hO.cell 0 0 rfl rfl 0, hO.cell 0 0 rfl rfl 1, hO.cell 0 0 rfl rfl 2, hO.cell 1 0 rfl rfl 0, hO.cell 1 0 rfl rfl 1⟩ | exact ⟨(hO.via (belowA _ _)).cell 0 0 rfl rfl 0, (hO.via (belowA _ _)).cell 0 0 rfl rfl 1, (hO.via (belowA _ _)).cell 0 0 rfl rfl 2, (hO.via (belowA _ _)).cell 1 0 rfl rfl 0, (hO.via (belowA _ _)).cell 1 0 rfl rfl 1⟩) (first | (go_at_call 23; refine (layout_Frontier _ _ _ L.out).mono ?_; rw [g0.out]; rintro e w7 ⟨rfl, hb⟩; have hO := hO.via hb) | (go_at_call 14; refine (layout_Stack _ _ _ L.out).mono ?_; rw [g1.out]; rintro e w7 ⟨rfl, hb⟩; have hO := hO.via hb) | (go_at_call 24; refine (layout_Pending _ _ _ L.out).mono ?_; rw [g2.out]; rintro e w7 ⟨rfl, hb⟩; have hO := hO.via hb) | (go_at_call 25; refine (layout_Epoch _ _ _ L.out).mono ?_; rw [g3.out]; rintro e w7 ⟨rfl, hb⟩; have hO := hO.via hb) | (go_at_call 20; refine (layout_Note _ _ _ _ L.out).mono ?_; rw [g4.out]; rintro e w7 ⟨rfl, hb⟩; have hO := hO.via hb) | (go_at_call 17; refine (layout_Entry _ _ _ _ L.out).mono ?_; rw [g5.out]; rintro e w7 ⟨rfl, hb⟩; have hO := hO.via hb) | (go_at_call 18; refine (layout_Size _ _ _ _ L.out).mono ?_; rw [g6.out]; rintro e w7 ⟨rfl, hb⟩; have hO := hO.via hb) | (go_at_call 15; refine (layout_Link _ _ _ _ L.out).mono ?_; rw [g7.out]; rintro e w7 ⟨rfl, hb⟩; have hO := hO.via hb)))
      | fail "held4"
    all_goals
      have hO := hO.more (.cells (intArr (setW f 8)) 3)
      have e8 : intArr (setW f 8) = #[.int .i64 (f 0), .int .i64 (f 1), .int .i64 (f 2), .int .i64 (f 3), .int .i64 (f 4), .int .i64 (f 5), .int .i64 (f 6), .int .i64 (f 7)] := rfl
      rw [← e8]
      clear e8
      generalize hgb : w7.heap.size = gb at hO ⊢
      have HG := Lib.hid hgb
      clear hgb
      generalize w7.alloc (.cells (intArr (setW f 8)) 3) = w8 at hO ⊢
      go_wp2_with fail
      go_loopw [8] (fun kind wr => ∃ (k : Nat), kind = .int .i64 k ∧ k ≤ 8 ∧ Owns W.heap.size W wr [[(W.heap.size, Obj.cells #[.int .i64 a, .int .i64 s, .int .i64 t] 23 (0, 0))], [(lb, Obj.cells #[.int .i64 T, .int .i64 Z] 25 (0, 0))], [(gb, .cells (intArr (setW f 8)) 3 (0, 0))]]) (fun kind _ => 8 - (intOf kind).toNat)
      case atStart => exact ⟨0, rfl, by omega, hO⟩
      case round =>
        clear hO
        obtain ⟨k, rfl, hk, hO⟩ := hrel
        by_cases hlt : k < 8
        · have hk0 : (0 : Int) ≤ (k : Int) := by omega
          have hk8 : (k : Int) < 8 := by omega
          have x : intArr (setW f 8) = intArr (setW f 8) := rfl
          go_wp2_with fail
          have hO := hO.drew
          first
            | go_loud (go_region_held3 (fun w => w.cell? ⟨W.heap.size, 0, none⟩ = some (.int .i64 a) ∧ w.cell? ⟨W.heap.size, 1, none⟩ = some (.int .i64 s) ∧ w.cell? ⟨W.heap.size, 2, none⟩ = some (.int .i64 t) ∧ w.cell? ⟨gb, k, none⟩ = some (.int .i64 (f k))) (first | assumption | exact ⟨hO.cell 0 0 rfl rfl 0, hO.cell 0 0 rfl rfl 1, hO.cell 0 0 rfl rfl 2, (hO.cell 2 0 rfl rfl k).trans ((intArr_get _ k (by rw [setW_len]; exact hlt)).trans (by rw [setW_get _ _ _ hlt]))⟩) ((go_at_call 26; refine (ref06_At _ _ _ _ _ _ hk0 (by omega)).mono ?_; rw [HF.out k]; rintro e w9 ⟨rfl, hb⟩; have hO := hO.via hb)))
            | fail "held8"
          all_goals
            go_wp2_with fail
            go_roundw
            case rel => exact ⟨k + 1, by go_num, by omega, hO⟩
            case measure => simp [intOf]; omega
        · have hge : (8 : Int) ≤ k := by omega
          go_wp2_with (go_at_call 11; refine (law06_live _).mono ?_; rintro e w9 ⟨rfl, hb⟩; have hO := hO.via hb)
          go_ret
          exact ⟨rfl, hO.below⟩
end Go.Proofs.Ytdhbncjnlkhkdaa
