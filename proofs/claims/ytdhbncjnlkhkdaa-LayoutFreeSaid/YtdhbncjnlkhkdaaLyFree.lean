/- The layout law LayoutFree. -/
import Derived.Test.YtdhbncjnlkhkdaaLyL
namespace Go.Proofs.Ytdhbncjnlkhkdaa
set_option linter.unusedVariables false
set_option linter.unusedSimpArgs false
open Go.RowKit
theorem Owns.empty {B : Nat} {W w : World} {G : List Grp} (h : Owns B W w G) : Owns B W w (G ++ [[]]) := by
  have e : (G ++ [[]]).flatten = G.flatten := by simp
  unfold Owns; rw [e]; exact h
theorem below_alloc (w : World) (o : Obj) : Below w.heap.size w (w.alloc o) := (Below.refl _ _).alloc (Nat.le_refl _) _
def topAt (s k : Int) : Int := if k < s then k + 1 else 0
theorem start_top {t s : Int} (h1 : 1 ≤ t) (h2 : t ≤ 4) (h3 : 1 ≤ s) (h4 : s ≤ 64) (ws : List Int) (hw : ws.length = 400) : wAt (startW t s ws) 1 = topAt s 0 := by
  unfold startW; rw [wAt_setW, lWords_ok h1, hw]; unfold topAt startAt; simp; omega
theorem start_link {t s k : Int} (h1 : 1 ≤ t) (h2 : t ≤ 4) (h3 : 1 ≤ s) (h4 : s ≤ 64) (h5 : 0 ≤ k) (h6 : k < s) (ws : List Int) (hw : ws.length = 400) : wAt (startW t s ws) (4 + t + 3 * k + 2) = topAt s (k + 1) := by
  obtain ⟨q, hq⟩ : ∃ q : Nat, 4 + t + 3 * k + 2 = q := ⟨(4 + t + 3 * k + 2).toNat, by omega⟩
  unfold startW; rw [wAt_setW, lWords_ok h1, hw, hq, if_pos (by omega), if_pos (by omega)]; unfold topAt startAt linkAt
  rw [if_neg (by omega)]
  by_cases c : k + 1 < s
  · rw [if_pos c, if_pos (by omega)]; omega
  · rw [if_neg c, if_neg (by omega)]
def upTo (k : Nat) : List Int := (List.range k).map fun (j : Nat) => (j : Int)
theorem upTo_len (k : Nat) : (upTo k).length = k := by simp [upTo]
theorem upTo_succ (k : Nat) : upTo (k + 1) = upTo k ++ [(k : Int)] := by simp [upTo, List.range_succ]
set_option maxRecDepth 100000 in
set_option maxHeartbeats 4000000 in
theorem LayoutFree_walk (a s t : Int) (W : World) : Calls Try.prog 3 #[.agg #[.int .i64 a, .int .i64 s, .int .i64 t]] W fun e w' => e = .returned (.bool true) ∧ Below W.heap.size W w' := by
  rcases bool_cases (b := cfgOk a s t) with hc | hc
  rotate_left
  · obtain ⟨e1, e2, e3⟩ := of_no hc
    have E1 := Lib.hid e1
    have E2 := Lib.hid e2
    have E3 := Lib.hid e3
    clear e1 e2 e3 hc
    go_enter Try.func3, Try.ntmps3
    go_wp2_with fail
    have hO := (Owns.nil W).more (.cells #[.int .i64 a, .int .i64 s, .int .i64 t] 23)
    generalize W.alloc (.cells #[.int .i64 a, .int .i64 s, .int .i64 t] 23) = w0 at hO ⊢
    have a0 : _ = some (Value.int .i64 a) := hO.cell 0 0 rfl rfl 0; have a1 : _ = some (Value.int .i64 s) := hO.cell 0 0 rfl rfl 1; have a2 : _ = some (Value.int .i64 t) := hO.cell 0 0 rfl rfl 2
    refine (layout_Of _ _ _ _).mono ?_; rw [E1.out, E2.out, E3.out]; rintro e w1 ⟨rfl, hb⟩; have hO := hO.via hb; have a0 : _ = some (Value.int .i64 a) := hO.cell 0 0 rfl rfl 0; have a1 : _ = some (Value.int .i64 s) := hO.cell 0 0 rfl rfl 1; have a2 : _ = some (Value.int .i64 t) := hO.cell 0 0 rfl rfl 2
    go_wp2_with fail
    have hO := hO.more (.cells #[.int .i64 0, .int .i64 0] 25)
    generalize w1.alloc (.cells #[.int .i64 0, .int .i64 0] 25) = w2 at hO ⊢
    refine (cells_New _ _ hO (by decide)).mono ?_; rintro e w3 ⟨p, bw, bb, rfl, hO'⟩; have hO := hO'.last; have a0 : _ = some (Value.int .i64 a) := hO.cell 0 0 rfl rfl 0; have a1 : _ = some (Value.int .i64 s) := hO.cell 0 0 rfl rfl 1; have a2 : _ = some (Value.int .i64 t) := hO.cell 0 0 rfl rfl 2
    go_wp2_with (go_at_call 11; refine (law06_live _).mono ?_; rintro e w4 ⟨rfl, hb⟩; have hO := hO.via hb)
    go_ret
    exact ⟨rfl, hO.below⟩
  · obtain ⟨e1, e2, e3⟩ := of_yes hc
    have E1 := Lib.hid e1
    have E2 := Lib.hid e2
    have E3 := Lib.hid e3
    have L := Lib.hid (lOk_yes hc)
    obtain ⟨h1, h2, h3, h4, h5, h6, h7⟩ := cfgOk_of hc
    have CK := Lib.hid hc
    have hws : (startW t s (List.replicate (Int.toNat 400) 0)).length = 400 := by rw [startW_len]; simp
    obtain ⟨ws, hwse⟩ : ∃ ws, ws = startW t s (List.replicate (Int.toNat 400) 0) := ⟨_, rfl⟩
    have HT := Lib.hid (show wAt ws 1 = topAt s 0 by rw [hwse]; exact start_top h6 h7 h4 h5 _ (by simp))
    have HL := Lib.hid (show ∀ k : Int, 0 ≤ k → k < s → wAt ws (4 + t + 3 * k + 2) = topAt s (k + 1) by intro k hk hk'; rw [hwse]; exact start_link h6 h7 h4 h5 hk hk' _ (by simp))
    have hle := Lib.hid (show ws.length = 400 by rw [hwse]; exact hws)
    have HW := Lib.hid hwse
    have on := Lib.hid (show lOnce t 1 = 1 by unfold lOnce; rw [if_neg (by omega)])
    clear e1 e2 e3 hc hws hwse h3
    go_enter Try.func3, Try.ntmps3
    go_wp2_with fail
    have hO := (Owns.nil W).more (.cells #[.int .i64 a, .int .i64 s, .int .i64 t] 23)
    generalize W.alloc (.cells #[.int .i64 a, .int .i64 s, .int .i64 t] 23) = w0 at hO ⊢
    have a0 : _ = some (Value.int .i64 a) := hO.cell 0 0 rfl rfl 0; have a1 : _ = some (Value.int .i64 s) := hO.cell 0 0 rfl rfl 1; have a2 : _ = some (Value.int .i64 t) := hO.cell 0 0 rfl rfl 2
    refine (layout_Of _ _ _ _).mono ?_; rw [E1.out, E2.out, E3.out]; rintro e w1 ⟨rfl, hb⟩; have hO := hO.via hb; have a0 : _ = some (Value.int .i64 a) := hO.cell 0 0 rfl rfl 0; have a1 : _ = some (Value.int .i64 s) := hO.cell 0 0 rfl rfl 1; have a2 : _ = some (Value.int .i64 t) := hO.cell 0 0 rfl rfl 2
    go_wp2_with fail
    have hO := hO.more (.cells #[.int .i64 t, .int .i64 s] 25)
    generalize w1.alloc (.cells #[.int .i64 t, .int .i64 s] 25) = w2 at hO ⊢
    generalize w1.heap.size = lb at hO ⊢
    refine (cells_New _ _ hO (by decide)).mono ?_; rintro e w3 ⟨p, bw, bb, rfl, hO'⟩; have hO := hO'.last; have a0 : _ = some (Value.int .i64 a) := hO.cell 0 0 rfl rfl 0; have a1 : _ = some (Value.int .i64 s) := hO.cell 0 0 rfl rfl 1; have a2 : _ = some (Value.int .i64 t) := hO.cell 0 0 rfl rfl 2; have b0 : _ = some (Value.int .i64 t) := hO.cell 1 0 rfl rfl 0; have b1 : _ = some (Value.int .i64 s) := hO.cell 1 0 rfl rfl 1
    go_wp2_with fail
    refine (layout_Start_ok 2 a s t hO rfl (by simp) (by simp) CK.out (by rw [lWords_ok h6, List.length_replicate]; omega) (by rw [List.length_replicate]; omega)).mono ?_
    rintro e w4 ⟨rfl, m, hO'⟩
    rw [← HW.out] at hO'
    have hO := hO'
    have a0 : _ = some (Value.int .i64 a) := hO.cell 0 0 rfl rfl 0; have a1 : _ = some (Value.int .i64 s) := hO.cell 0 0 rfl rfl 1; have a2 : _ = some (Value.int .i64 t) := hO.cell 0 0 rfl rfl 2; have b0 : _ = some (Value.int .i64 t) := hO.cell 1 0 rfl rfl 0; have b1 : _ = some (Value.int .i64 s) := hO.cell 1 0 rfl rfl 1
    go_wp2_with first
      | (go_at_call 14; refine (layout_Stack _ _ _ L.out).mono ?_; rw [on.out]; rintro e w5 ⟨rfl, hb⟩; have hO := hO.via hb; have a0 : _ = some (Value.int .i64 a) := hO.cell 0 0 rfl rfl 0; have a1 : _ = some (Value.int .i64 s) := hO.cell 0 0 rfl rfl 1; have a2 : _ = some (Value.int .i64 t) := hO.cell 0 0 rfl rfl 2; have b0 : _ = some (Value.int .i64 t) := hO.cell 1 0 rfl rfl 0; have b1 : _ = some (Value.int .i64 s) := hO.cell 1 0 rfl rfl 1)
      | (go_at_call 13; refine (plain_Load 2 _ hO rfl (by rw [hle.out]; decide)).mono ?_; rw [HT.out]; rintro e w5 ⟨rfl, hO'⟩; have hO := hO'; have a0 : _ = some (Value.int .i64 a) := hO.cell 0 0 rfl rfl 0; have a1 : _ = some (Value.int .i64 s) := hO.cell 0 0 rfl rfl 1; have a2 : _ = some (Value.int .i64 t) := hO.cell 0 0 rfl rfl 2; have b0 : _ = some (Value.int .i64 t) := hO.cell 1 0 rfl rfl 0; have b1 : _ = some (Value.int .i64 s) := hO.cell 1 0 rfl rfl 1)
    have hO1 := Owns.empty hO
    obtain ⟨N, hN⟩ : ∃ N : Nat, s = N := ⟨s.toNat, by omega⟩
    subst hN
    go_loopw [6, 7, 8] (fun top got i wr => ∃ (k : Nat) (v : Value) (cur : List Value) (m : Int), i = .int .i64 k ∧ k ≤ N ∧ top = .int .i64 (topAt N k) ∧ got = v ∧ RowOk v ((upTo k).map (Value.int .i64)) cur ∧
      Owns W.heap.size W wr [[(W.heap.size, Obj.cells #[.int .i64 a, .int .i64 N, .int .i64 t] 23 (0, 0))], [(lb, Obj.cells #[.int .i64 t, .int .i64 N] 25 (0, 0))], memG p bw bb ws (List.replicate (Int.toNat 4096) 0) m, rowG 3 v cur]) (fun _ _ i _ => N + 1 - (intOf i).toNat)
    case atStart => exact ⟨0, _, [], _, rfl, by omega, rfl, rfl, RowOk.nil, hO1⟩
    case round =>
      obtain ⟨k, v, cur, m, rfl, hk, rfl, rfl, hr, hO⟩ := hrel
      have HR := Lib.hid hr
      clear hr
      have a0 : _ = some (Value.int .i64 a) := hO.cell 0 0 rfl rfl 0; have a1 : _ = some (Value.int .i64 N) := hO.cell 0 0 rfl rfl 1; have a2 : _ = some (Value.int .i64 t) := hO.cell 0 0 rfl rfl 2; have b0 : _ = some (Value.int .i64 t) := hO.cell 1 0 rfl rfl 0; have b1 : _ = some (Value.int .i64 N) := hO.cell 1 0 rfl rfl 1
      by_cases hlt : k < N
      · have ht1 : topAt N k = k + 1 := by unfold topAt; rw [if_pos (by omega)]
        have ht2 := Lib.hid (HL.out k (by omega) (by omega))
        have el := Lib.hid (show lOf t N k 2 = 4 + t + 3 * k + 2 by unfold lOf; rw [if_pos (by omega)])
        rw [ht1]
        have q : ((k : Int) + 1 != 0) = true := by rw [bne_iff_ne]; omega
        clear ht1
        go_wp2_with first
          | (at_builtin; refine stop_here ?_)
        unfold Stop
        refine wpList_append_row rfl (.tmp 47) (.tmp 50) _ rfl 3 (.int .i64 0) 8 Try.underlying35 info_int rfl (by decide) rfl (hO.via (below_alloc _ _)) 3 rfl HR.out ⟨wr.heap.size, 0, none⟩ 1 1 [.int .i64 k] rfl rfl ?n1 ?n2 (by simp) ?n3 ?_
        case n1 => intro j u hj; cases j with
          | zero => simp at hj; subst hj; refine (blk_cell (blk_new _ _) _).trans ?_; simp; try omega
          | succ j => simp at hj
        case n2 => intro u hu; simp at hu; subst hu; rfl
        case n3 => rw [List.length_map, upTo_len]; simp; omega
        intro v' cur' w' hr' hO'
        have hO := hO'
        have HR := Lib.hid hr'
        clear hr'
        have a0 : _ = some (Value.int .i64 a) := hO.cell 0 0 rfl rfl 0; have a1 : _ = some (Value.int .i64 N) := hO.cell 0 0 rfl rfl 1; have a2 : _ = some (Value.int .i64 t) := hO.cell 0 0 rfl rfl 2; have b0 : _ = some (Value.int .i64 t) := hO.cell 1 0 rfl rfl 0; have b1 : _ = some (Value.int .i64 N) := hO.cell 1 0 rfl rfl 1
        have w1' : IntKind.i64.wrap ((k : Int) + 1 - 1) = k := by rw [i64in _ (by omega) (by omega)]; omega
        go_wp2_with first
          | (go_at_call 15; refine (layout_Link _ _ _ _ L.out).mono ?_; rw [el.out]; rintro e w5 ⟨rfl, hb⟩; have hO := hO.via hb)
          | (go_at_call 13; refine (plain_Load 2 _ hO rfl (by rw [hle.out]; decide)).mono ?_; rw [ht2.out]; rintro e w5 ⟨rfl, hO'⟩; have hO := hO')
        go_roundw
        case rel => exact ⟨k + 1, _, cur', _, by go_num, by omega, rfl, rfl, by rw [upTo_succ, List.map_append]; exact HR.out, hO⟩
        case measure => simp [intOf]; omega
      · have hk' : k = N := by omega
        subst hk'
        have ht1 : topAt (k : Int) k = 0 := by unfold topAt; rw [if_neg (by omega)]
        rw [ht1]
        clear hlt ht1
        go_wp2_with fail
        have hO1 := Owns.empty hO
        go_loopw [9, 10] (fun want i wr => ∃ (q : Nat) (v2 : Value) (cur2 : List Value), i = .int .i64 q ∧ q ≤ k ∧ want = v2 ∧ RowOk v2 ((upTo q).map (Value.int .i64)) cur2 ∧
          Owns W.heap.size W wr [[(W.heap.size, Obj.cells #[.int .i64 a, .int .i64 k, .int .i64 t] 23 (0, 0))], [(lb, Obj.cells #[.int .i64 t, .int .i64 k] 25 (0, 0))], memG p bw bb ws (List.replicate (Int.toNat 4096) 0) m, rowG 3 u7 cur, rowG 3 v2 cur2]) (fun _ i _ => k - (intOf i).toNat)
        case atStart => exact ⟨0, _, [], rfl, by omega, rfl, RowOk.nil, hO1⟩
        case round =>
          clear hO hO1
          obtain ⟨q, v2, cur2, rfl, hq, rfl, hr2, hO⟩ := hrel
          have HR2 := Lib.hid hr2
          clear hr2
          have a0 : _ = some (Value.int .i64 a) := hO.cell 0 0 rfl rfl 0; have a1 : _ = some (Value.int .i64 k) := hO.cell 0 0 rfl rfl 1; have a2 : _ = some (Value.int .i64 t) := hO.cell 0 0 rfl rfl 2; have b0 : _ = some (Value.int .i64 t) := hO.cell 1 0 rfl rfl 0; have b1 : _ = some (Value.int .i64 k) := hO.cell 1 0 rfl rfl 1
          by_cases hlt : q < k
          · go_wp2_with first
              | (at_builtin; refine stop_here ?_)
            unfold Stop
            refine wpList_append_row rfl (.tmp 64) (.tmp 66) _ rfl 3 (.int .i64 0) 8 Try.underlying35 info_int rfl (by decide) rfl (hO.via (below_alloc _ _)) 4 rfl HR2.out ⟨_, 0, none⟩ 1 1 [.int .i64 q] rfl rfl ?n1 ?n2 (by simp) ?n3 ?_
            case n1 => intro j u hj; cases j with
              | zero => simp at hj; subst hj; refine (blk_cell (blk_new _ _) _).trans ?_; simp
              | succ j => simp at hj
            case n2 => intro u hu; simp at hu; subst hu; rfl
            case n3 => rw [List.length_map, upTo_len]; simp; omega
            intro v' cur' w' hr' hO'
            go_wp2_with fail
            go_roundw
            case rel => exact ⟨q + 1, _, cur', by go_num, by omega, rfl, by rw [upTo_succ, List.map_append]; exact hr', hO'⟩
            case measure => simp [intOf]; omega
          · have hq' : q = k := by omega
            subst hq'
            have R1 := Reads.row HR.out hO 3 rfl (by rw [upTo_len]; omega)
            have R2 := Reads.row HR2.out hO 4 rfl (by rw [upTo_len]; omega)
            have sm := Lib.hid (show sameB (upTo q) (upTo q) = true from decide_eq_true rfl)
            clear hlt
            go_wp2_with first
              | (go_at_call 16; refine (ref01_Same _ _ _ _ _ R1 R2).mono ?_; rw [sm.out]; rintro e w5 ⟨rfl, hb⟩; have hO := hO.via hb)
              | (go_at_call 11; refine (law06_live _).mono ?_; rintro e w4 ⟨rfl, hb⟩; have hO := hO.via hb)
            go_ret
            exact ⟨rfl, hO.below⟩
end Go.Proofs.Ytdhbncjnlkhkdaa
