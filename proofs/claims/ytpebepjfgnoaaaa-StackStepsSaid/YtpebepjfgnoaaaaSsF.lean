/- The reference's list of free slots. -/
import Derived.RegionTactic
import Derived.BigRegion
import Derived.Deep.RegionHeld3
import Derived.Outline
import Derived.LoopTactic
import Derived.Deep.DeepCutAuto
import Derived.Test.YtpebepjfgnoaaaaRcS
import Derived.Test.YtpebepjfgnoaaaaHdR
import Derived.Test.YtpebepjfgnoaaaaStF
namespace Go.Proofs.Ytpebepjfgnoaaaa
set_option linter.unusedVariables false
set_option linter.unusedSimpArgs false
open Go.RowKit
def RefFree (B : Nat) (W : World) (G : List Grp) (xs : List Int) (e : Ending) (w' : World) : Prop :=
  ∃ v cur, e = .returned v ∧ RowOk v (xs.map (Value.int .i64)) cur ∧ Owns B W w' (rowG 3 v cur :: G)
set_option maxRecDepth 100000 in
set_option maxHeartbeats 8000000 in
theorem ref10_Free {B : Nat} {W w : World} {G : List Grp} (i : Nat) {p bw : Nat} {ws : List Int} {bv : Value} {n : Int} (a s t : Int) (hO : Owns B W w G) (hi : G[i]? = some (kG p bw ws bv n)) (hl : ws.length ≤ 4096) (hc : cfgOk a s t = true) (hlen : (ws.length : Int) = 4 + t + 3 * s) (hb64 : WOk ws) :
    Calls Try.prog 30 #[.agg #[.int .i64 a, .int .i64 s, .int .i64 t], .pointer (some ⟨p, 0, none⟩)] w (RefFree B W G (freeOf t s ws)) := by
  obtain ⟨-, -, -, s1, s64, t1, t4⟩ := cfgOk_of hc
  have CK := Lib.hid hc
  obtain ⟨top0, htop⟩ : ∃ x, dUnTop (wAt ws 1) = x := ⟨_, rfl⟩
  have hfree := Lib.hid (show freeOf t s ws = freeL t s ws s.toNat top0 by unfold freeOf; rw [show lOnce t 1 = 1 by unfold lOnce; rw [if_neg (by omega)], htop])
  have HT := Lib.hid htop
  have tb := dUnTop_bd (wAt ws 1)
  rw [htop] at tb
  obtain ⟨tb0, tb1⟩ := tb
  have v1 := (wAt_bd hb64 1).2
  have HLEN := Lib.hid hlen
  have x1 : (1 : Int) < (ws.length : Int) := by omega
  have z1 : wAt ws 1 = ws.getD 1 0 := by unfold wAt; rw [if_pos (wIn_iff.2 ⟨by omega, by omega⟩)]; rfl
  have HZ1 := Lib.hid z1
  obtain ⟨w1', hw1'⟩ : ∃ u, wAt ws 1 = u := ⟨_, rfl⟩
  rw [hw1'] at v1 htop
  have HW1 := Lib.hid hw1'
  clear htop hlen z1 hc hw1'
  have hO := hO.alloc (.cells #[.int .i64 a, .int .i64 s, .int .i64 t] 23)
  have hi0 : ∀ x : Grp, (x :: G)[i + 1]? = some (kG p bw ws bv n) := fun x => by simpa using hi
  have hi1 : ∀ x y : Grp, (x :: y :: G)[i + 2]? = some (kG p bw ws bv n) := fun x y => by simpa using hi
  go_enter Try.func30, Try.ntmps30
  go_upto_region 2 with fail
  generalize w.alloc (.cells #[.int .i64 a, .int .i64 s, .int .i64 t] 23) = w0 at hO ⊢
  generalize w.heap.size = lb at hO ⊢
  have a0 : _ = some (Value.int .i64 a) := hO.cell 0 0 rfl rfl 0; have a1 : _ = some (Value.int .i64 s) := hO.cell 0 0 rfl rfl 1; have a2 : _ = some (Value.int .i64 t) := hO.cell 0 0 rfl rfl 2
  go_wp2_with (go_at_call 21; refine (ref06_May _ _ _ _).mono ?_; rw [CK.out]; rintro e w7 ⟨rfl, hb⟩; have hO := hO.via hb; refine stop_here ?_)
  unfold Stop
  have k0 : _ = some (Value.slice (some ⟨bw, 0, none⟩) ws.length ws.length) := hO.cell (i + 1) 0 (hi0 _) rfl 0
  have k1 : w7.cell? ⟨bw, 1, none⟩ = some (.int .i64 w1') := (k_word hO (hi0 _) 1 (by omega)).trans (by rw [← HZ1.out, HW1.out])
  go_wp2_with (go_at_call 56; refine (ref04_Unpack _ _ v1).mono ?_; rw [← HW1.out, HT.out]; rintro e w8 ⟨rfl, rfl⟩)
  have hO1 : Owns B W w7 ([(lb, Obj.cells #[.int .i64 a, .int .i64 s, .int .i64 t] 23 (0, 0))] :: rowG 3 (.slice none 0 0) [] :: G) := (Owns.nothing hO).swap
  clear hO k0 k1
  go_loopw [5, 6, 9] (fun fr top c wr => ∃ (k : Nat) (v : Value) (xs : List Int) (cur : List Value) (tp : Int), c = .int .i64 k ∧ fr = v ∧ top = .int .i64 tp ∧ xs.length = k ∧ (k : Int) ≤ s ∧ RowOk v (xs.map (Value.int .i64)) cur ∧
    xs ++ freeL t s ws (s.toNat - k) tp = freeL t s ws s.toNat top0 ∧ -9223372036854775808 ≤ tp ∧ tp ≤ 9223372036854775807 ∧
    Owns B W wr ([(lb, Obj.cells #[.int .i64 a, .int .i64 s, .int .i64 t] 23 (0, 0))] :: rowG 3 v cur :: G)) (fun _ _ c _ => s.toNat - (intOf c).toNat)
  case atStart => exact ⟨0, _, [], [], top0, rfl, rfl, rfl, rfl, by omega, RowOk.nil, by simp, by omega, by omega, hO1⟩
  case round =>
    clear hO1
    obtain ⟨k, v, xs, cur, tp, rfl, rfl, rfl, hxl, hks, hr, hfr, hp0, hp1, hO⟩ := hrel
    have HR := Lib.hid hr
    have HX := Lib.hid hxl
    clear hr hxl
    have a0 : _ = some (Value.int .i64 a) := hO.cell 0 0 rfl rfl 0; have a1 : _ = some (Value.int .i64 s) := hO.cell 0 0 rfl rfl 1; have a2 : _ = some (Value.int .i64 t) := hO.cell 0 0 rfl rfl 2
    by_cases hc : (k : Int) < s ∧ 1 ≤ tp ∧ tp ≤ s
    · obtain ⟨hc0, hc1, hc2⟩ := hc
      obtain ⟨q, hq⟩ : ∃ q : Nat, (q : Int) = 4 + t + 3 * (tp - 1) + 2 := ⟨(4 + t + 3 * (tp - 1) + 2).toNat, by omega⟩
      have el := Lib.hid (show rAt a s t 7 (tp - 1) = q by
        unfold rAt; rw [if_pos CK.out, if_neg (by decide), if_neg (by decide)]; unfold lOf; rw [if_pos (by omega)]; omega)
      have hql : q < ws.length := by have := HLEN.out; omega
      have hq0 : (0 : Int) ≤ (q : Int) := by omega
      have hq1 : (q : Int) < (ws.length : Int) := by omega
      obtain ⟨y, hy⟩ : ∃ y, ws.getD q 0 = y := ⟨_, rfl⟩
      have hwq : wAt ws q = y := by unfold wAt; rw [if_pos (wIn_iff.2 ⟨by omega, by omega⟩), Int.toNat_natCast, hy]
      have yb : -9223372036854775808 ≤ y ∧ y ≤ 9223372036854775807 := by rw [← hwq]; exact wAt_bd hb64 _
      have hstep := Lib.hid (show freeL t s ws (s.toNat - k) tp = (tp - 1) :: freeL t s ws (s.toNat - (k + 1)) y by
        obtain ⟨f, hf⟩ : ∃ f, s.toNat - k = f + 1 := ⟨s.toNat - k - 1, by omega⟩
        rw [hf, show s.toNat - (k + 1) = f by omega, freeL, if_pos ⟨hc1, hc2⟩, show lOf t s (tp - 1) 2 = q by unfold lOf; rw [if_pos (by omega)]; omega, hwq])
      have HF := Lib.hid hfr
      have HY := Lib.hid hy
      clear hfr hy hwq hq
      have g0 : decide ((1 : Int) ≤ tp) = true := by rw [decide_eq_true_iff]; omega
      have g1 : decide (tp ≤ s) = true := by rw [decide_eq_true_iff]; omega
      go_wp2_with (at_builtin; refine stop_here ?_)
      unfold Stop
      refine wpList_append_row rfl (.tmp 40) (.tmp 43) _ rfl 3 (.int .i64 0) 8 Try.underlying33 info_int rfl (by decide) rfl (hO.via (below_alloc _ _)) 1 rfl HR.out ⟨wr.heap.size, 0, none⟩ 1 1 [.int .i64 (tp - 1)] rfl rfl ?n1 ?n2 (by simp) ?n3 ?_
      case n1 => intro j u hj; cases j with
        | zero => simp at hj; subst hj; refine (blk_cell (blk_new _ _) _).trans ?_; simp; try omega
        | succ j => simp at hj
      case n2 => intro u hu; simp at hu; subst hu; rfl
      case n3 => rw [List.length_map, HX.out]; simp; omega
      intro v' cur' w' hr' hO'
      have hO := hO'
      have HR := Lib.hid hr'
      clear hr' g0 g1
      have a0 : _ = some (Value.int .i64 a) := hO.cell 0 0 rfl rfl 0; have a1 : _ = some (Value.int .i64 s) := hO.cell 0 0 rfl rfl 1; have a2 : _ = some (Value.int .i64 t) := hO.cell 0 0 rfl rfl 2
      go_upto_region 9 with fail
      have hO := hO.drew
      have w64 : IntKind.i64.wrap (tp - 1) = tp - 1 := i64in _ (by omega) (by omega)
      have hi2 : ∀ x y : Grp, ([(lb, Obj.cells #[.int .i64 a, .int .i64 s, .int .i64 t] 23 (0, 0))] :: y :: G)[i + 2]? = some (kG p bw ws bv n) := fun x y => by simpa using hi
      have hks2 : ∀ w2, Owns B W w2 ([(lb, Obj.cells #[.int .i64 a, .int .i64 s, .int .i64 t] 23 (0, 0))] :: rowG 3 v' cur' :: G) → w2.cell? ⟨p, 0, none⟩ = some (.slice (some ⟨bw, 0, none⟩) ws.length ws.length) ∧ w2.cell? ⟨bw, q, none⟩ = some (.int .i64 y) ∧ w2.cell? ⟨lb, 0, none⟩ = some (.int .i64 a) ∧ w2.cell? ⟨lb, 1, none⟩ = some (.int .i64 s) ∧ w2.cell? ⟨lb, 2, none⟩ = some (.int .i64 t) :=
        fun w2 h => ⟨h.cell (i + 2) 0 (hi1 _ _) rfl 0, (k_word h (hi1 _ _) q hql).trans (by rw [HY.out]), h.cell 0 0 rfl rfl 0, h.cell 0 0 rfl rfl 1, h.cell 0 0 rfl rfl 2⟩
      have HK2 := Lib.hid hks2
      clear hks2 a0 a1 a2 hi2
      first
        | go_loud (go_region_held3 (fun w2 => w2.cell? ⟨p, 0, none⟩ = some (.slice (some ⟨bw, 0, none⟩) ws.length ws.length) ∧ w2.cell? ⟨bw, q, none⟩ = some (.int .i64 y) ∧ w2.cell? ⟨lb, 0, none⟩ = some (.int .i64 a) ∧ w2.cell? ⟨lb, 1, none⟩ = some (.int .i64 s) ∧ w2.cell? ⟨lb, 2, none⟩ = some (.int .i64 t)) (exact HK2.out _ hO) ((go_at_call 57; refine (ref06_At _ _ _ _ _ _ (by decide) (by decide)).mono ?_; rw [el.out]; rintro e w8 ⟨rfl, hb⟩; have hO := hO.via hb)))
        | fail "next"
      all_goals
        go_wp2_with fail
        go_roundw
        case rel => exact ⟨k + 1, _, xs ++ [tp - 1], cur', y, by go_num, rfl, rfl, by rw [List.length_append, HX.out]; rfl, by omega, by rw [List.map_append]; exact HR.out, by rw [List.append_assoc, List.singleton_append, ← hstep.out]; exact HF.out, yb.1, yb.2, hO⟩
        case measure => simp [intOf]; omega
    · have hend := Lib.hid (show xs = freeOf t s ws by
        rw [hfree.out, ← hfr]
        have : freeL t s ws (s.toNat - k) tp = [] := by
          cases hsk : s.toNat - k with
          | zero => rfl
          | succ f => rw [freeL, if_neg (by omega)]
        rw [this, List.append_nil])
      clear hfr
      by_cases h0 : (k : Int) < s
      · by_cases h1 : 1 ≤ tp
        · have g0 : decide ((1 : Int) ≤ tp) = true := by rw [decide_eq_true_iff]; omega
          have g1 : decide (tp ≤ s) = false := by rw [decide_eq_false_iff_not]; omega
          clear h1 hc
          go_wp2_with fail
          go_ret
          exact ⟨_, cur, rfl, by rw [← hend.out]; exact HR.out, hO.tail⟩
        · have g0 : decide ((1 : Int) ≤ tp) = false := by rw [decide_eq_false_iff_not]; omega
          clear h1 hc
          go_wp2_with fail
          go_ret
          exact ⟨_, cur, rfl, by rw [← hend.out]; exact HR.out, hO.tail⟩
      · have g0 : decide ((k : Int) < s) = false := by rw [decide_eq_false_iff_not]; omega
        clear h0 hc
        go_wp2_with fail
        go_ret
        exact ⟨_, cur, rfl, by rw [← hend.out]; exact HR.out, hO.tail⟩
end Go.Proofs.Ytpebepjfgnoaaaa
