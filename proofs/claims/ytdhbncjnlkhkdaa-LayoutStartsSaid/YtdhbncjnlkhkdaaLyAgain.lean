/- The layout law LayoutAgain. -/
import Derived.Test.YtdhbncjnlkhkdaaLyL
namespace Go.Proofs.Ytdhbncjnlkhkdaa
set_option linter.unusedVariables false
set_option linter.unusedSimpArgs false
open Go.RowKit
theorem startW_eq {t s : Int} {ws vs : List Int} (hl : ws.length = vs.length) (h : ∀ j : Nat, j < vs.length → ¬ (j : Int) < lWords t s → ws.getD j 0 = vs.getD j 0) : startW t s ws = startW t s vs := by
  unfold startW
  rw [hl]
  refine setW_ext fun j hj => ?_
  by_cases c : (j : Int) < lWords t s
  · rw [if_pos c, if_pos c]
  · rw [if_neg c, if_neg c, h j hj c]
theorem startW_get {t s : Int} {ws : List Int} {j : Nat} (hj : j < ws.length) : (startW t s ws).getD j 0 = if (j : Int) < lWords t s then startAt t s j else ws.getD j 0 := by
  unfold startW; rw [setW_get _ _ _ hj]
theorem wPut_get {ws : List Int} {k n : Int} {j : Nat} (hj : j < ws.length) : (wPut ws k n).getD j 0 = if (j : Int) = k then n else ws.getD j 0 := by
  unfold wPut
  by_cases c : wIn ws k = true
  · obtain ⟨c1, c2⟩ := wIn_iff.1 c
    rw [if_pos c, List.getD_eq_getElem?_getD, List.getElem?_set]
    by_cases e : (j : Int) = k
    · have e' : k.toNat = j := by omega
      rw [if_pos e, if_pos e', if_pos (by omega)]; rfl
    · have e' : ¬ k.toNat = j := by omega
      rw [if_neg e, if_neg e', List.getD_eq_getElem?_getD]
  · rw [if_neg c, if_neg]
    intro e; exact c (wIn_iff.2 (by omega))
theorem startW_again {t s : Int} (ws : List Int) (k n : Int) (h : k < lWords t s) : startW t s (wPut (startW t s ws) k n) = startW t s ws := by
  refine startW_eq (by rw [wPut_len, startW_len]) fun j hj hc => ?_
  rw [wPut_get (by rw [startW_len]; exact hj), if_neg (by omega), startW_get hj, if_neg hc]
theorem startW_twice {t s : Int} (ws : List Int) : startW t s (startW t s ws) = startW t s ws := by
  refine startW_eq (startW_len _ _ _) fun j hj hc => ?_
  rw [startW_get hj, if_neg hc]
set_option maxRecDepth 100000 in
set_option maxHeartbeats 4000000 in
theorem LayoutAgain_walk (a s t at_ n : Int) (W : World) : Calls Try.prog 7 #[.agg #[.int .i64 a, .int .i64 s, .int .i64 t], .int .i64 at_, .int .i64 n] W fun e w' => e = .returned (.bool true) ∧ Below W.heap.size W w' := by
  rcases bool_cases (b := cfgOk a s t) with hc | hc
  rotate_left
  · have CK := Lib.hid hc
    clear hc
    go_enter Try.func7, Try.ntmps7
    go_wp2_with fail
    have hO := (Owns.nil W).more (.cells #[.int .i64 a, .int .i64 s, .int .i64 t] 23)
    generalize W.alloc (.cells #[.int .i64 a, .int .i64 s, .int .i64 t] 23) = w0 at hO ⊢
    refine (cells_New _ _ hO (by decide)).mono ?_; rintro e w3 ⟨p, bw, bb, rfl, hO'⟩; have hO := hO'.last; have a0 : _ = some (Value.int .i64 a) := hO.cell 0 0 rfl rfl 0; have a1 : _ = some (Value.int .i64 s) := hO.cell 0 0 rfl rfl 1; have a2 : _ = some (Value.int .i64 t) := hO.cell 0 0 rfl rfl 2
    go_wp2_with first
      | (go_at_call 12; refine (layout_Start_bad _ _ _ _ _ CK.out).mono ?_; rintro e w4 ⟨rfl, hb⟩; have hO := hO.via hb; have a0 : _ = some (Value.int .i64 a) := hO.cell 0 0 rfl rfl 0; have a1 : _ = some (Value.int .i64 s) := hO.cell 0 0 rfl rfl 1; have a2 : _ = some (Value.int .i64 t) := hO.cell 0 0 rfl rfl 2)
      | (go_at_call 21; refine (ref06_May _ _ _ _).mono ?_; rw [CK.out]; rintro e w4 ⟨rfl, hb⟩; have hO := hO.via hb)
      | (go_at_call 11; refine (law06_live _).mono ?_; rintro e w4 ⟨rfl, hb⟩; have hO := hO.via hb)
    go_ret
    exact ⟨rfl, hO.below⟩
  · obtain ⟨e1, e2, e3⟩ := of_yes hc
    have E1 := Lib.hid e1
    have E2 := Lib.hid e2
    have E3 := Lib.hid e3
    have L := Lib.hid (lOk_yes hc)
    obtain ⟨h1, h2, h3, h4, h5, h6, h7⟩ := cfgOk_of hc
    have CK := Lib.hid hc
    obtain ⟨ws, hwse⟩ : ∃ ws, ws = startW t s (List.replicate (Int.toNat 400) 0) := ⟨_, rfl⟩
    have hle := Lib.hid (show ws.length = 400 by rw [hwse, startW_len]; simp)
    have hw2 := Lib.hid (show startW t s ws = ws by rw [hwse]; exact startW_twice _)
    obtain ⟨U, hU⟩ : ∃ U, lWords t s = U := ⟨_, rfl⟩
    have hw3 := Lib.hid (show at_ < U → startW t s (wPut ws at_ n) = ws by intro h; rw [hwse]; exact startW_again _ _ _ (by rw [hU]; exact h))
    have HU := Lib.hid hU
    have hU1 : U ≤ 400 := by rw [← hU, lWords_ok h6]; omega
    have HW := Lib.hid hwse
    clear e1 e2 e3 hc hwse h3 hU
    by_cases hat : at_ < U
    all_goals
      go_enter Try.func7, Try.ntmps7
      go_wp2_with fail
      have hO := (Owns.nil W).more (.cells #[.int .i64 a, .int .i64 s, .int .i64 t] 23)
      generalize W.alloc (.cells #[.int .i64 a, .int .i64 s, .int .i64 t] 23) = w0 at hO ⊢
      refine (cells_New _ _ hO (by decide)).mono ?_; rintro e w3 ⟨p, bw, bb, rfl, hO'⟩; have hO := hO'.last; have a0 : _ = some (Value.int .i64 a) := hO.cell 0 0 rfl rfl 0; have a1 : _ = some (Value.int .i64 s) := hO.cell 0 0 rfl rfl 1; have a2 : _ = some (Value.int .i64 t) := hO.cell 0 0 rfl rfl 2
      go_wp2_with fail
      refine (layout_Start_ok 1 a s t hO rfl (by simp) (by simp) CK.out (by rw [HU.out, List.length_replicate]; omega) (by rw [List.length_replicate]; omega)).mono ?_
      rintro e w4 ⟨rfl, m, hO'⟩
      rw [← HW.out] at hO'
      have hO := hO'
      have a0 : _ = some (Value.int .i64 a) := hO.cell 0 0 rfl rfl 0; have a1 : _ = some (Value.int .i64 s) := hO.cell 0 0 rfl rfl 1; have a2 : _ = some (Value.int .i64 t) := hO.cell 0 0 rfl rfl 2
      go_wp2_with fail
      refine (layout_Of _ _ _ _).mono ?_; rw [E1.out, E2.out, E3.out]; rintro e w1 ⟨rfl, hb⟩; have hO := hO.via hb
      have hO := hO.more (.cells #[.int .i64 t, .int .i64 s] 25)
      go_wp2_with fail
      generalize hlb : w1.heap.size = lb at hO ⊢
      have HL := Lib.hid hlb
      clear hlb
      generalize w1.alloc (.cells #[.int .i64 t, .int .i64 s] 25) = w2 at hO ⊢
      refine (plain_Copy 1 hO rfl (by rw [hle.out]; decide) (by simp) (by rw [hle.out]; decide)).mono ?_
      rintro e w5 ⟨p2, bw2, bb2, rfl, hO'⟩
      have hO := hO'.last
      have a0 : _ = some (Value.int .i64 a) := hO.cell 0 0 rfl rfl 0; have a1 : _ = some (Value.int .i64 s) := hO.cell 0 0 rfl rfl 1; have a2 : _ = some (Value.int .i64 t) := hO.cell 0 0 rfl rfl 2; have b0 : _ = some (Value.int .i64 t) := hO.cell 2 0 rfl rfl 0; have b1 : _ = some (Value.int .i64 s) := hO.cell 2 0 rfl rfl 1
      go_wp2_with first
        | (go_at_call 19; refine (layout_Words _ _ _ L.out).mono ?_; rw [HU.out]; rintro e w6 ⟨rfl, hb⟩; have hO := hO.via hb; have a0 : _ = some (Value.int .i64 a) := hO.cell 0 0 rfl rfl 0; have a1 : _ = some (Value.int .i64 s) := hO.cell 0 0 rfl rfl 1; have a2 : _ = some (Value.int .i64 t) := hO.cell 0 0 rfl rfl 2; have b0 : _ = some (Value.int .i64 t) := hO.cell 2 0 rfl rfl 0; have b1 : _ = some (Value.int .i64 s) := hO.cell 2 0 rfl rfl 1)
        | (go_at_call 28; refine (plain_Store 1 _ _ hO rfl (by rw [hle.out]; decide)).mono ?_; rintro e w6 ⟨rfl, hO'⟩; have hO := hO'; have a0 : _ = some (Value.int .i64 a) := hO.cell 0 0 rfl rfl 0; have a1 : _ = some (Value.int .i64 s) := hO.cell 0 0 rfl rfl 1; have a2 : _ = some (Value.int .i64 t) := hO.cell 0 0 rfl rfl 2; have b0 : _ = some (Value.int .i64 t) := hO.cell 2 0 rfl rfl 0; have b1 : _ = some (Value.int .i64 s) := hO.cell 2 0 rfl rfl 1)
        | (go_at_call 12; refine stop_here ?_)
      unfold Stop
      try rename_i htest
    · refine (layout_Start_ok 1 a s t hO rfl (by rw [wPut_len, hle.out]; decide) (by simp) CK.out (by rw [HU.out, wPut_len, hle.out]; omega) (by rw [List.length_replicate]; omega)).mono ?_
      rintro e w7 ⟨rfl, m', hO'⟩
      rw [hw3.out (by assumption)] at hO'
      have hO := hO'
      go_wp2_with fail
      go_loopw [12] (fun i wr => ∃ (k : Nat) (m1 m2 : Int), i = .int .i64 k ∧ k ≤ 400 ∧ Owns W.heap.size W wr [[(W.heap.size, Obj.cells #[.int .i64 a, .int .i64 s, .int .i64 t] 23 (0, 0))], memG p bw bb ws (List.replicate (Int.toNat 4096) 0) m1, [(lb, Obj.cells #[.int .i64 t, .int .i64 s] 25 (0, 0))], memG p2 bw2 bb2 ws (List.replicate (Int.toNat 4096) 0) m2]) (fun i _ => 400 - (intOf i).toNat)
      case atStart => exact ⟨0, _, _, rfl, by omega, hO⟩
      case round =>
        clear hO
        obtain ⟨k, m1, m2, rfl, hk, hO⟩ := hrel
        by_cases hlt : k < 400
        · have hlt' : (k : Int) < 400 := by omega
          obtain ⟨x, hx⟩ : ∃ x, wAt ws k = x := ⟨_, rfl⟩
          have HX := Lib.hid hx
          clear hx
          go_wp2_with fail
          refine (plain_Load 1 _ hO rfl (by rw [hle.out]; decide)).mono ?_; rw [HX.out]; rintro e w8 ⟨rfl, hO'⟩; have hO := hO'
          go_wp2_with fail
          refine (plain_Load 3 _ hO rfl (by rw [hle.out]; decide)).mono ?_; rw [HX.out]; rintro e w9 ⟨rfl, hO'⟩; have hO := hO'
          go_wp2_with fail
          go_roundw
          case rel => exact ⟨k + 1, _, _, by go_num, by omega, hO⟩
          case measure => simp [intOf]; omega
        · have hge : (400 : Int) ≤ k := by omega
          go_wp2_with (go_at_call 11; refine (law06_live _).mono ?_; rintro e w9 ⟨rfl, hb⟩; have hO := hO.via hb)
          go_ret
          exact ⟨rfl, hO.below⟩
    · refine (layout_Start_ok 1 a s t hO rfl (by rw [hle.out]; decide) (by simp) CK.out (by rw [HU.out, hle.out]; omega) (by rw [List.length_replicate]; omega)).mono ?_
      rintro e w7 ⟨rfl, m', hO'⟩
      rw [hw2.out] at hO'
      have hO := hO'
      go_wp2_with fail
      go_loopw [12] (fun i wr => ∃ (k : Nat) (m1 m2 : Int), i = .int .i64 k ∧ k ≤ 400 ∧ Owns W.heap.size W wr [[(W.heap.size, Obj.cells #[.int .i64 a, .int .i64 s, .int .i64 t] 23 (0, 0))], memG p bw bb ws (List.replicate (Int.toNat 4096) 0) m1, [(lb, Obj.cells #[.int .i64 t, .int .i64 s] 25 (0, 0))], memG p2 bw2 bb2 ws (List.replicate (Int.toNat 4096) 0) m2]) (fun i _ => 400 - (intOf i).toNat)
      case atStart => exact ⟨0, _, _, rfl, by omega, hO⟩
      case round =>
        clear hO
        obtain ⟨k, m1, m2, rfl, hk, hO⟩ := hrel
        by_cases hlt : k < 400
        · have hlt' : (k : Int) < 400 := by omega
          obtain ⟨x, hx⟩ : ∃ x, wAt ws k = x := ⟨_, rfl⟩
          have HX := Lib.hid hx
          clear hx
          go_wp2_with fail
          refine (plain_Load 1 _ hO rfl (by rw [hle.out]; decide)).mono ?_; rw [HX.out]; rintro e w8 ⟨rfl, hO'⟩; have hO := hO'
          go_wp2_with fail
          refine (plain_Load 3 _ hO rfl (by rw [hle.out]; decide)).mono ?_; rw [HX.out]; rintro e w9 ⟨rfl, hO'⟩; have hO := hO'
          go_wp2_with fail
          go_roundw
          case rel => exact ⟨k + 1, _, _, by go_num, by omega, hO⟩
          case measure => simp [intOf]; omega
        · have hge : (400 : Int) ≤ k := by omega
          go_wp2_with (go_at_call 11; refine (law06_live _).mono ?_; rintro e w9 ⟨rfl, hb⟩; have hO := hO.via hb)
          go_ret
          exact ⟨rfl, hO.below⟩
end Go.Proofs.Ytdhbncjnlkhkdaa
