/- The layout law LayoutApart. -/
import Derived.Deep.RegionHeld3
import Derived.LoopTactic
import Derived.Deep.DeepCutAuto
import Derived.Test.YtpebepjfgnoaaaaLyL
namespace Go.Proofs.Ytpebepjfgnoaaaa
set_option linter.unusedVariables false
set_option linter.unusedSimpArgs false
open Go.RowKit
theorem belowA (w : World) (o : Obj) : Below w.heap.size w (w.alloc o) := (Below.refl _ _).alloc (Nat.le_refl _) _
def upN (k : Nat) : List Int := (List.range k).map fun (j : Nat) => (j : Int)
theorem upN_len (k : Nat) : (upN k).length = k := by simp [upN]
theorem upN_get {k j : Nat} (h : j < k) : ((upN k).map (Value.int .i64))[j]? = some (.int .i64 (j : Int)) := by simp [upN, h]
theorem upN_succ (k : Nat) : upN (k + 1) = upN k ++ [(k : Int)] := by simp [upN, List.range_succ]
theorem upN_3 (k : Nat) : upN (k + 3) = upN k ++ [(k : Int), ((k + 1 : Nat) : Int), ((k + 2 : Nat) : Int)] := by rw [upN_succ, upN_succ, upN_succ]; simp
theorem step_append_row {P : Program} {ops : Array Oper} {o : Oper} {a : Act} {K : Act → World → Prop} {Q : Exit → Act → World → Prop} {E : Prop} {w : World} (hgd : o.guard = none) (s x : Operand) (t : TypeId)
    (ho : o.op = .call { callee := .builtin .append, args := #[s, x], argTypes := #[t, t] }) {B : Nat} {W : World} {G : List Grp} (e : TypeId) (z : Value) (bytes : Nat) (ht : P.underlying t = some (.slice e)) (hinf : (P.info? e).map (fun i => (i.zero, i.size, i.bytes)) = some (some z, 1, bytes)) (hz : z.cells.size = 1) (hby : bytes ≤ 24)
    {v : Value} {xs cur : List Value} (hs : a.eval s = v) (h : Owns B W w G) (i : Nat) (hi : G[i]? = some (rowG e v cur)) (hr : RowOk v xs cur) (ad : Addr) (m c : Nat) (news : List Value) (hx : a.eval x = .slice (some ad) m c) (hm : m = news.length)
    (hnews : ∀ j u, news[j]? = some u → w.cell? (ad.add j) = some u) (h1 : ∀ u ∈ news, u.oneCell' = true) (h0 : 0 < news.length) (hlen : xs.length + news.length ≤ 1000000)
    (hK : ∀ v' cur' w', RowOk v' (xs ++ news) cur' → Owns B W w' (G.set i (rowG e v' cur')) → K (a.put o.dst v') w') : if Region.wanted o (yielded ops a.tmps) = true then Oper.wp P o a w K Q else E := by
  subst hm
  have hw : Region.wanted o (yielded ops a.tmps) = true := by simp [Region.wanted, hgd]
  rw [if_pos hw]
  obtain ⟨v', cur', w', hrun, hr', hO'⟩ := row_append (P := P) t o.type e z bytes ht hinf hz hby h i hi hr ad c news hnews h1 h0 hlen
  unfold Oper.wp execOp
  simp only [ho, resolve, invoke, builtin, Sem.run_bind, Sem.run_pure, Result.andThen_ok, List.map_toArray, List.map_cons, List.map_nil, hs, hx, hrun]
  exact hK _ _ _ hr' hO'
theorem RowOk.at' {v : Value} {xs cur : List Value} (hr : RowOk v xs cur) (hne : xs ≠ []) : ∃ (g cap : Nat), v = .slice (some ⟨g, 0, none⟩) xs.length cap ∧ ∀ (j : Nat) (u : Value), xs[j]? = some u → cur.toArray[j]? = some u := by
  rcases hr with ⟨rfl, rfl, rfl⟩ | ⟨g, cap, rfl, h1, h2, h3, h4⟩
  · exact absurd rfl hne
  · refine ⟨g, cap, rfl, fun j u hj => ?_⟩
    rw [← h4, List.getElem?_take] at hj
    split at hj
    · simpa using hj
    · cases hj
theorem made_intsN (n : Nat) (h1 : n ≤ 4096) (w : World) : (Instr.makeSlice 33 (.int .i64 n) (.int .i64 n)).run Try.prog w = .ok (.slice (some ⟨w.heap.size, 0, none⟩) n n) (w.alloc (.cells (intArr (List.replicate n 0)) 3)) := by
  have := made_ints (n : Int) w (by omega) (by omega)
  rwa [Int.toNat_natCast] at this
def marks (n k : Nat) : List Int := setW (fun j => if j < k then 1 else 0) n
theorem marks_zero (n : Nat) : List.replicate n 0 = marks n 0 := by
  unfold marks setW
  rw [List.map_congr_left (g := fun _ => (0 : Int)) (fun j _ => by simp)]
  rw [List.map_const', List.length_range]
theorem marks_step {n k : Nat} (h : k < n) : (marks n k).set k 1 = marks n (k + 1) := by
  unfold marks setW
  apply List.ext_getElem?
  intro j
  rw [List.getElem?_set]
  by_cases hj : k = j
  · subst hj; simp [h]
  · rw [if_neg hj]
    by_cases hjn : j < n
    · simp only [List.getElem?_map, List.getElem?_range hjn, Option.map_some]
      have : (j < k ↔ j < k + 1) := by omega
      simp [this]
    · rw [List.getElem?_eq_none (by simp; omega), List.getElem?_eq_none (by simp; omega)]
theorem marks_get {n k j : Nat} (h : j < n) : (intArr (marks n k))[j]? = some (.int .i64 (if j < k then 1 else 0)) := by
  refine (intArr_get _ j (by unfold marks; rw [setW_len]; exact h)).trans ?_
  unfold marks; rw [setW_get _ _ _ h]
set_option maxRecDepth 100000 in
set_option maxHeartbeats 4000000 in
theorem LayoutApart_no (a s t : Int) (W : World) (hc : cfgOk a s t = false) : Calls Try.prog 4 #[.agg #[.int .i64 a, .int .i64 s, .int .i64 t]] W fun e w' => e = .returned (.bool true) ∧ Below W.heap.size W w' := by
  obtain ⟨e1, e2, e3⟩ := of_no hc
  have E1 := Lib.hid e1
  have E2 := Lib.hid e2
  have E3 := Lib.hid e3
  have L := Lib.hid (show lOk 0 0 from .inl ⟨rfl, rfl⟩)
  have u1 := Lib.hid (show lWords 0 0 = 0 from rfl)
  have u2 := Lib.hid (show lOnce 0 0 = -1 from rfl)
  clear e1 e2 e3 hc
  go_enter Try.func4, Try.ntmps4
  go_wp2_with fail
  have hO := (Owns.nil W).more (.cells #[.int .i64 a, .int .i64 s, .int .i64 t] 23)
  generalize W.alloc (.cells #[.int .i64 a, .int .i64 s, .int .i64 t] 23) = w0 at hO ⊢
  refine (layout_Of _ _ _ _).mono ?_; rw [E1.out, E2.out, E3.out]; rintro e w1 ⟨rfl, hb⟩; have hO := hO.via hb
  have hO := hO.more (.cells #[.int .i64 0, .int .i64 0] 25)
  go_upto_region 3 with fail
  generalize w1.alloc (.cells #[.int .i64 0, .int .i64 0] 25) = w2 at hO ⊢
  generalize w1.heap.size = lb at hO ⊢
  have b0 : _ = some (Value.int .i64 0) := hO.cell 1 0 rfl rfl 0
  have b1 : _ = some (Value.int .i64 0) := hO.cell 1 0 rfl rfl 1
  go_wp2_with first
    | (go_at_call 13; refine (layout_Words _ _ _ L.out).mono ?_; rw [u1.out]; rintro e w7 ⟨rfl, hb⟩; have hO := hO.via hb; have b0 : _ = some (Value.int .i64 0) := hO.cell 1 0 rfl rfl 0; have b1 : _ = some (Value.int .i64 0) := hO.cell 1 0 rfl rfl 1)
    | (go_at_call 15; refine (layout_Frontier _ _ _ L.out).mono ?_; rw [u2.out]; rintro e w7 ⟨rfl, hb⟩; have hO := hO.via hb)
    | (go_at_call 9; refine (law06_live _).mono ?_; rintro e w4 ⟨rfl, hb⟩; have hO := hO.via hb)
  go_ret
  exact ⟨rfl, hO.below⟩
set_option maxRecDepth 100000 in
set_option maxHeartbeats 8000000 in
theorem LayoutApart_yes (a s t : Int) (W : World) (hc : cfgOk a s t = true) : Calls Try.prog 4 #[.agg #[.int .i64 a, .int .i64 s, .int .i64 t]] W fun e w' => e = .returned (.bool true) ∧ Below W.heap.size W w' := by
  obtain ⟨e1, e2, e3⟩ := of_yes hc
  have E1 := Lib.hid e1
  have E2 := Lib.hid e2
  have E3 := Lib.hid e3
  have L := Lib.hid (lOk_yes hc)
  obtain ⟨h1, h2, h3, s1, s4, t1, t4⟩ := cfgOk_of hc
  obtain ⟨T, hT⟩ : ∃ T : Nat, t = T := ⟨t.toNat, by omega⟩
  obtain ⟨S, hS⟩ : ∃ S : Nat, s = S := ⟨s.toNat, by omega⟩
  obtain ⟨U, hU⟩ : ∃ U : Nat, U = 4 + T + 3 * S := ⟨_, rfl⟩
  have u1 := Lib.hid (show lWords t s = (U : Int) by rw [lWords_ok t1]; omega)
  have o0 := Lib.hid (show lOnce t 0 = 0 by unfold lOnce; rw [if_neg (by omega)])
  have o1 := Lib.hid (show lOnce t 1 = 1 by unfold lOnce; rw [if_neg (by omega)])
  have o2 := Lib.hid (show lOnce t 2 = 2 by unfold lOnce; rw [if_neg (by omega)])
  have o3 := Lib.hid (show lOnce t 3 = 3 by unfold lOnce; rw [if_neg (by omega)])
  have g1 : decide ((U : Int) < t) = false := by rw [decide_eq_false_iff_not]; omega
  have g2 : decide ((U : Int) < s) = false := by rw [decide_eq_false_iff_not]; omega
  have HU := Lib.hid hU
  have HT := Lib.hid hT
  have HS := Lib.hid hS
  have hU2 : U ≤ 200 := by omega
  clear e1 e2 e3 hc h3 hU hT hS
  go_enter Try.func4, Try.ntmps4
  go_wp2_with fail
  have hO := (Owns.nil W).more (.cells #[.int .i64 a, .int .i64 s, .int .i64 t] 23)
  generalize W.alloc (.cells #[.int .i64 a, .int .i64 s, .int .i64 t] 23) = w0 at hO ⊢
  refine (layout_Of _ _ _ _).mono ?_; rw [E1.out, E2.out, E3.out]; rintro e w1 ⟨rfl, hb⟩; have hO := hO.via hb
  have hO := hO.more (.cells #[.int .i64 t, .int .i64 s] 25)
  go_upto_region 4 with fail
  generalize hlb : w1.heap.size = lb at hO ⊢
  have HLB := Lib.hid hlb
  clear hlb
  generalize w1.alloc (.cells #[.int .i64 t, .int .i64 s] 25) = w2 at hO ⊢
  have hO := hO.drew
  first
    | go_loud (go_region_held3 (fun w => w.cell? ⟨W.heap.size, 1, none⟩ = some (.int .i64 s) ∧ w.cell? ⟨W.heap.size, 2, none⟩ = some (.int .i64 t) ∧ w.cell? ⟨lb, 0, none⟩ = some (.int .i64 t) ∧ w.cell? ⟨lb, 1, none⟩ = some (.int .i64 s)) (first | assumption | exact ⟨hO.cell 0 0 rfl rfl 1, hO.cell 0 0 rfl rfl 2, hO.cell 1 0 rfl rfl 0, hO.cell 1 0 rfl rfl 1⟩ | exact ⟨(hO.via (belowA _ _)).cell 0 0 rfl rfl 1, (hO.via (belowA _ _)).cell 0 0 rfl rfl 2, (hO.via (belowA _ _)).cell 1 0 rfl rfl 0, (hO.via (belowA _ _)).cell 1 0 rfl rfl 1⟩) ((go_at_call 13; refine (layout_Words _ _ _ L.out).mono ?_; rw [u1.out]; rintro e w7 ⟨rfl, hb⟩; have hO := hO.via hb)))
    | fail "words"
  all_goals
    clear g1 g2
    go_upto_region 6 with fail
    have hO := hO.drew
    first
      | go_loud (go_region_held3 (fun w => w.cell? ⟨W.heap.size, 1, none⟩ = some (.int .i64 s) ∧ w.cell? ⟨W.heap.size, 2, none⟩ = some (.int .i64 t) ∧ w.cell? ⟨lb, 0, none⟩ = some (.int .i64 t) ∧ w.cell? ⟨lb, 1, none⟩ = some (.int .i64 s)) (first | assumption | exact ⟨hO.cell 0 0 rfl rfl 1, hO.cell 0 0 rfl rfl 2, hO.cell 1 0 rfl rfl 0, hO.cell 1 0 rfl rfl 1⟩ | exact ⟨(hO.via (belowA _ _)).cell 0 0 rfl rfl 1, (hO.via (belowA _ _)).cell 0 0 rfl rfl 2, (hO.via (belowA _ _)).cell 1 0 rfl rfl 0, (hO.via (belowA _ _)).cell 1 0 rfl rfl 1⟩) (first | (go_at_call 15; refine (layout_Frontier _ _ _ L.out).mono ?_; rw [o0.out]; rintro e w7 ⟨rfl, hb⟩; have hO := hO.via hb) | (go_at_call 16; refine (layout_Stack _ _ _ L.out).mono ?_; rw [o1.out]; rintro e w7 ⟨rfl, hb⟩; have hO := hO.via hb) | (go_at_call 17; refine (layout_Pending _ _ _ L.out).mono ?_; rw [o2.out]; rintro e w7 ⟨rfl, hb⟩; have hO := hO.via hb) | (go_at_call 18; refine (layout_Epoch _ _ _ L.out).mono ?_; rw [o3.out]; rintro e w7 ⟨rfl, hb⟩; have hO := hO.via hb)))
      | fail "four"
    all_goals
      have hO := hO.more (.cells ((upN 4).map (Value.int .i64)).toArray 3)
      have e4 : ((upN 4).map (Value.int .i64)).toArray = #[.int .i64 0, .int .i64 1, .int .i64 2, .int .i64 3] := rfl
      rw [← e4]
      clear e4
      generalize hgb : w7.heap.size = gb at hO ⊢
      have HG := Lib.hid hgb
      clear hgb
      generalize w7.alloc (.cells ((upN 4).map (Value.int .i64)).toArray 3) = w8 at hO ⊢
      have hr0 : RowOk (.slice (some ⟨gb, 0, none⟩) 4 4) ((upN 4).map (Value.int .i64)) ((upN 4).map (Value.int .i64)) := .inr ⟨gb, 4, rfl, by decide, by decide, by decide, rfl⟩
      have hO0 : Owns W.heap.size W w8 [[(W.heap.size, Obj.cells #[.int .i64 a, .int .i64 s, .int .i64 t] 23 (0, 0))], [(lb, Obj.cells #[.int .i64 t, .int .i64 s] 25 (0, 0))], rowG 3 (.slice (some ⟨gb, 0, none⟩) 4 4) ((upN 4).map (Value.int .i64))] := hO
      clear hO
      go_wp2_with fail
      go_loopw [5, 6] (fun all i wr => ∃ (k : Nat) (v : Value) (cur : List Value), i = .int .i64 k ∧ k ≤ T ∧ all = v ∧ RowOk v ((upN (4 + k)).map (Value.int .i64)) cur ∧ Owns W.heap.size W wr [[(W.heap.size, Obj.cells #[.int .i64 a, .int .i64 s, .int .i64 t] 23 (0, 0))], [(lb, Obj.cells #[.int .i64 t, .int .i64 s] 25 (0, 0))], rowG 3 v cur]) (fun _ i _ => T - (intOf i).toNat)
      case atStart => exact ⟨0, _, _, rfl, by omega, rfl, hr0, hO0⟩
      case round =>
        clear hO0 hr0
        obtain ⟨k, v, cur, rfl, hk, rfl, hr, hO⟩ := hrel
        have HR := Lib.hid hr
        clear hr
        have a0 : _ = some (Value.int .i64 a) := hO.cell 0 0 rfl rfl 0; have a1 : _ = some (Value.int .i64 s) := hO.cell 0 0 rfl rfl 1; have a2 : _ = some (Value.int .i64 t) := hO.cell 0 0 rfl rfl 2; have b0 : _ = some (Value.int .i64 t) := hO.cell 1 0 rfl rfl 0; have b1 : _ = some (Value.int .i64 s) := hO.cell 1 0 rfl rfl 1
        by_cases hlt : (k : Int) < t
        · have hk2 : k < T := by have := HT.out; omega
          have nk := Lib.hid (show lNote t k = ((4 + k : Nat) : Int) by unfold lNote; rw [if_pos (by omega)]; omega)
          go_wp2_with first
            | (go_at_call 14; refine (layout_Note _ _ _ _ L.out).mono ?_; rw [nk.out]; rintro e w9 ⟨rfl, hb⟩; have hO := hO.via hb; have a0 : _ = some (Value.int .i64 a) := hO.cell 0 0 rfl rfl 0; have a1 : _ = some (Value.int .i64 s) := hO.cell 0 0 rfl rfl 1; have a2 : _ = some (Value.int .i64 t) := hO.cell 0 0 rfl rfl 2; have b0 : _ = some (Value.int .i64 t) := hO.cell 1 0 rfl rfl 0; have b1 : _ = some (Value.int .i64 s) := hO.cell 1 0 rfl rfl 1)
            | (at_builtin; refine stop_here ?_)
          unfold Stop
          refine wpList_append_row rfl (.tmp 56) (.tmp 60) _ rfl 3 (.int .i64 0) 8 Try.underlying33 info_int rfl (by decide) rfl (hO.via (below_alloc _ _)) 2 rfl HR.out ⟨w9.heap.size, 0, none⟩ 1 1 [.int .i64 ((4 + k : Nat) : Int)] rfl rfl ?n1 ?n2 (by simp) ?n3 ?_
          case n1 => intro j u hj; cases j with
            | zero => simp at hj; subst hj; refine (blk_cell (blk_new _ _) _).trans ?_; simp
            | succ j => simp at hj
          case n2 => intro u hu; simp at hu; subst hu; rfl
          case n3 => rw [List.length_map, upN_len]; simp; omega
          intro v' cur' w' hr' hO'
          have hO := hO'
          have HR := Lib.hid hr'
          clear hr'
          have a0 : _ = some (Value.int .i64 a) := hO.cell 0 0 rfl rfl 0; have a1 : _ = some (Value.int .i64 s) := hO.cell 0 0 rfl rfl 1; have a2 : _ = some (Value.int .i64 t) := hO.cell 0 0 rfl rfl 2; have b0 : _ = some (Value.int .i64 t) := hO.cell 1 0 rfl rfl 0; have b1 : _ = some (Value.int .i64 s) := hO.cell 1 0 rfl rfl 1
          go_wp2_with fail
          go_roundw
          case rel => exact ⟨k + 1, _, cur', by go_num, by omega, rfl, by rw [show 4 + (k + 1) = (4 + k) + 1 by omega, upN_succ, List.map_append]; exact HR.out, hO⟩
          case measure => simp [intOf]; omega
        · have hk' : k = T := by have := HT.out; omega
          subst hk'
          go_wp2_with fail
          go_loopw [5, 7] (fun all i wr => ∃ (q : Nat) (v2 : Value) (cur2 : List Value), i = .int .i64 q ∧ q ≤ S ∧ all = v2 ∧ RowOk v2 ((upN (4 + k + 3 * q)).map (Value.int .i64)) cur2 ∧ Owns W.heap.size W wr [[(W.heap.size, Obj.cells #[.int .i64 a, .int .i64 s, .int .i64 t] 23 (0, 0))], [(lb, Obj.cells #[.int .i64 t, .int .i64 s] 25 (0, 0))], rowG 3 v2 cur2]) (fun _ i _ => S - (intOf i).toNat)
          case atStart => exact ⟨0, _, _, rfl, by omega, rfl, HR.out, hO⟩
          case round =>
            clear hO HR hlt
            obtain ⟨q, v2, cur2, rfl, hq, rfl, hr2, hO⟩ := hrel
            have HR2 := Lib.hid hr2
            clear hr2
            clear a0 a1 a2 b0 b1
            have a0 : _ = some (Value.int .i64 a) := hO.cell 0 0 rfl rfl 0; have a1 : _ = some (Value.int .i64 s) := hO.cell 0 0 rfl rfl 1; have a2 : _ = some (Value.int .i64 t) := hO.cell 0 0 rfl rfl 2; have b0 : _ = some (Value.int .i64 t) := hO.cell 1 0 rfl rfl 0; have b1 : _ = some (Value.int .i64 s) := hO.cell 1 0 rfl rfl 1
            by_cases hlt : (q : Int) < s
            · have hq2 : q < S := by have := HS.out; omega
              obtain ⟨M, hM⟩ : ∃ M : Nat, M = 4 + k + 3 * q := ⟨_, rfl⟩
              have hM2 : M ≤ 200 := by have := HT.out; have := HS.out; have := HU.out; omega
              have e0 := Lib.hid (show lOf t s q 0 = (M : Int) by have := HT.out; unfold lOf; rw [if_pos (by omega)]; omega)
              have e1 := Lib.hid (show lOf t s q 1 = ((M + 1 : Nat) : Int) by have := HT.out; unfold lOf; rw [if_pos (by omega)]; omega)
              have e2 := Lib.hid (show lOf t s q 2 = ((M + 2 : Nat) : Int) by have := HT.out; unfold lOf; rw [if_pos (by omega)]; omega)
              rw [← hM] at HR2
              have HM := Lib.hid hM
              clear hM
              go_upto_region 14 with fail
              have hO := hO.drew
              first
                | go_loud (go_region_held3 (fun w => w.cell? ⟨lb, 0, none⟩ = some (.int .i64 t) ∧ w.cell? ⟨lb, 1, none⟩ = some (.int .i64 s)) (first | assumption | exact ⟨hO.cell 1 0 rfl rfl 0, hO.cell 1 0 rfl rfl 1⟩ | exact ⟨(hO.via (belowA _ _)).cell 1 0 rfl rfl 0, (hO.via (belowA _ _)).cell 1 0 rfl rfl 1⟩) (first | (go_at_call 10; refine (layout_Entry _ _ _ _ L.out).mono ?_; rw [e0.out]; rintro e w9 ⟨rfl, hb⟩; have hO := hO.via hb) | (go_at_call 11; refine (layout_Size _ _ _ _ L.out).mono ?_; rw [e1.out]; rintro e w9 ⟨rfl, hb⟩; have hO := hO.via hb) | (go_at_call 12; refine (layout_Link _ _ _ _ L.out).mono ?_; rw [e2.out]; rintro e w9 ⟨rfl, hb⟩; have hO := hO.via hb) | (refine step_append_row rfl (.tmp 68) (.tmp 78) _ rfl 3 (.int .i64 0) 8 Try.underlying33 info_int rfl (by decide) rfl (hO.via (belowA _ _)) 2 rfl HR2.out ⟨w9.heap.size, 0, none⟩ 3 3 [.int .i64 (M : Int), .int .i64 ((M + 1 : Nat) : Int), .int .i64 ((M + 2 : Nat) : Int)] rfl rfl (World.news_of_block (blk_new w9 _)) (by intro u hu; simp at hu; rcases hu with rfl | rfl | rfl <;> rfl) (by simp) (by rw [List.length_map, upN_len]; simp; omega) ?_; intro v' cur' w10 hr' hO'; have hO := hO'; have HR2 := Lib.hid hr')))
                | fail "three"
              all_goals
                clear hr'
                go_wp2_with fail
                go_roundw
                case rel => exact ⟨q + 1, _, cur', by go_num, by omega, rfl, by rw [show 4 + k + 3 * (q + 1) = M + 3 by have := HM.out; omega, upN_3, List.map_append]; exact HR2.out, hO⟩
                case measure => simp [intOf]; omega
            · have hq' : q = S := by have := HS.out; omega
              subst hq'
              rw [show 4 + k + 3 * q = U from HU.out.symm] at HR2
              have k1 := fun w => made_intsN U (by omega) w
              obtain ⟨g, cap, hv, hcs⟩ := HR2.out.at' (by intro h; have := congrArg List.length h; rw [List.length_map, upN_len] at this; simp at this; have := HU.out; omega)
              rw [List.length_map, upN_len] at hv
              subst hv
              have HCS := Lib.hid (show ∀ j : Nat, j < U → cur2.toArray[j]? = some (.int .i64 (j : Int)) from fun j hj => hcs j _ (upN_get hj))
              clear hcs HR2
              go_wp2_with (go_at_call 13; refine (layout_Words _ _ _ L.out).mono ?_; rw [u1.out]; rintro e w7 ⟨rfl, hb⟩; have hO := hO.via hb)
              clear k1 hlt
              have hO := hO.more (.cells (intArr (List.replicate U 0)) 3)
              rw [marks_zero] at hO ⊢
              generalize hsb : w7.heap.size = sb at hO ⊢
              have HSB := Lib.hid hsb
              clear hsb
              generalize w7.alloc (.cells (intArr (marks U 0)) 3) = w8 at hO ⊢
              go_wp2_with fail
              have hO1 : Owns W.heap.size W w8 [[(W.heap.size, Obj.cells #[.int .i64 a, .int .i64 s, .int .i64 t] 23 (0, 0))], [(lb, Obj.cells #[.int .i64 t, .int .i64 s] 25 (0, 0))], [(g, .cells cur2.toArray 3 (0, 0))], [(sb, .cells (intArr (marks U 0)) 3 (0, 0))]] := hO
              clear hO
              go_loopw [9] (fun i wr => ∃ (m : Nat), i = .int .i64 m ∧ m ≤ U ∧ Owns W.heap.size W wr [[(W.heap.size, Obj.cells #[.int .i64 a, .int .i64 s, .int .i64 t] 23 (0, 0))], [(lb, Obj.cells #[.int .i64 t, .int .i64 s] 25 (0, 0))], [(g, .cells cur2.toArray 3 (0, 0))], [(sb, .cells (intArr (marks U m)) 3 (0, 0))]]) (fun i _ => U - (intOf i).toNat)
              case atStart => exact ⟨0, rfl, by omega, hO1⟩
              case round =>
                clear hO1
                obtain ⟨m, rfl, hm, hO⟩ := hrel
                by_cases hlt : (m : Int) < (U : Int)
                · have hm0 : (0 : Int) ≤ (m : Int) := by omega
                  have hmU : m < U := by omega
                  have z1 : _ = some (Value.int .i64 (m : Int)) := (hO.cell 2 0 rfl rfl m).trans (HCS.out m hmU)
                  have z2 : _ = some (Value.int .i64 0) := (hO.cell 3 0 rfl rfl m).trans ((marks_get hmU).trans (by rw [if_neg (Nat.lt_irrefl m)]))
                  have z3 := blk_free (hO.get 3 0 rfl rfl) m
                  have z4 := hO.lt 3 0 rfl rfl
                  have q1 : decide ((m : Int) < 0) = false := by rw [decide_eq_false_iff_not]; omega
                  have q2 : decide ((U : Int) ≤ (m : Int)) = false := by rw [decide_eq_false_iff_not]; omega
                  go_wp2_with fail
                  have hO2 := hO.set 3 0 rfl rfl m (.int .i64 1)
                  rw [intArr_set, marks_step hmU] at hO2
                  go_roundw
                  case rel => exact ⟨m + 1, by go_num, by omega, hO2⟩
                  case measure => simp [intOf]; omega
                · have hm' : m = U := by omega
                  subst hm'
                  go_wp2_with fail
                  go_loopw [10] (fun i wr => ∃ (j : Nat), i = .int .i64 j ∧ j ≤ m ∧ Owns W.heap.size W wr [[(W.heap.size, Obj.cells #[.int .i64 a, .int .i64 s, .int .i64 t] 23 (0, 0))], [(lb, Obj.cells #[.int .i64 t, .int .i64 s] 25 (0, 0))], [(g, .cells cur2.toArray 3 (0, 0))], [(sb, .cells (intArr (marks m m)) 3 (0, 0))]]) (fun i _ => m - (intOf i).toNat)
                  case atStart => exact ⟨0, rfl, by omega, hO⟩
                  case round =>
                    clear hO hlt
                    obtain ⟨j, rfl, hj, hO⟩ := hrel
                    by_cases hlt : (j : Int) < (m : Int)
                    · have hj0 : (0 : Int) ≤ (j : Int) := by omega
                      have hjm : j < m := by omega
                      have z2 : _ = some (Value.int .i64 1) := (hO.cell 3 0 rfl rfl j).trans ((marks_get hjm).trans (by rw [if_pos hjm]))
                      go_wp2_with fail
                      go_roundw
                      case rel => exact ⟨j + 1, by go_num, by omega, hO⟩
                      case measure => simp [intOf]; omega
                    · go_wp2_with (go_at_call 9; refine (law06_live _).mono ?_; rintro e w4 ⟨rfl, hb⟩; have hO := hO.via hb)
                      go_ret
                      exact ⟨rfl, hO.below⟩
theorem LayoutApart_walk (a s t : Int) (W : World) : Calls Try.prog 4 #[.agg #[.int .i64 a, .int .i64 s, .int .i64 t]] W fun e w' => e = .returned (.bool true) ∧ Below W.heap.size W w' := by
  rcases bool_cases (b := cfgOk a s t) with hc | hc
  · exact LayoutApart_yes a s t W hc
  · exact LayoutApart_no a s t W hc
end Go.Proofs.Ytpebepjfgnoaaaa
