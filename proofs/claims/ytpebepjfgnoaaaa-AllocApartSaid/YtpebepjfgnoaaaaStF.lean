/- The walk of stack.Free. -/
import Derived.Deep.RegionHeld3
import Derived.LoopTactic
import Derived.Test.YtpebepjfgnoaaaaStN
import Derived.Test.YtpebepjfgnoaaaaBase
import Derived.Test.YtpebepjfgnoaaaaIni
namespace Go.Proofs.Ytpebepjfgnoaaaa
set_option linter.unusedVariables false
set_option linter.unusedSimpArgs false
open Go.RowKit
def freeL (t s : Int) (ws : List Int) : Nat → Int → List Int
  | 0, _ => []
  | f + 1, top => if 1 ≤ top ∧ top ≤ s then (top - 1) :: freeL t s ws f (wAt ws (lOf t s (top - 1) 2)) else []
/-- the slots that are free, from the stack on. -/
def freeOf (t s : Int) (ws : List Int) : List Int := freeL t s ws s.toNat (dUnTop (wAt ws (lOnce t 1)))
theorem freeL_len (t s : Int) (ws : List Int) : ∀ (f : Nat) (top : Int), (freeL t s ws f top).length ≤ f
  | 0, _ => by simp [freeL]
  | f + 1, top => by
    unfold freeL; split
    · simpa using freeL_len t s ws f _
    · simp
def MadeFree (B : Nat) (W : World) (G : List Grp) (i p bw bb : Nat) (ws bs : List Int) (xs : List Int) (e : Ending) (w' : World) : Prop :=
  ∃ v cur m, e = .returned v ∧ RowOk v (xs.map (Value.int .i64)) cur ∧ Owns B W w' (rowG 3 v cur :: G.set i (memG p bw bb ws bs m))
set_option maxRecDepth 100000 in
set_option maxHeartbeats 8000000 in
theorem stack_Free {B : Nat} {W w : World} {G : List Grp} (i : Nat) {p bw bb : Nat} {ws bs : List Int} {n : Int} (t s : Int) (hO : Owns B W w G) (hi : G[i]? = some (memG p bw bb ws bs n)) (hl : ws.length ≤ 4096) (t1 : 1 ≤ t) (t4 : t ≤ 4) (s1 : 1 ≤ s) (s64 : s ≤ 64) (hb64 : WOk ws) :
    Calls Try.prog 29 #[memI p, .agg #[.int .i64 t, .int .i64 s]] w (MadeFree B W G i p bw bb ws bs (freeOf t s ws)) := by
  have L := Lib.hid (show lOk t s by right; omega)
  have on := Lib.hid (show lOnce t 1 = 1 by unfold lOnce; rw [if_neg (by omega)])
  obtain ⟨N, hN⟩ : ∃ N : Nat, lWords t s = N := ⟨(lWords t s).toNat, by rw [lWords_ok t1]; omega⟩
  have hN2 : s < N := by rw [← hN, lWords_ok t1]; omega
  have hN3 : (N : Int) ≤ 200 := by rw [← hN, lWords_ok t1]; omega
  have HN := Lib.hid hN
  obtain ⟨top0, htop⟩ : ∃ x, dUnTop (wAt ws 1) = x := ⟨_, rfl⟩
  have hfree := Lib.hid (show freeOf t s ws = freeL t s ws s.toNat top0 by unfold freeOf; rw [on.out, htop])
  have HT := Lib.hid htop
  have tb := dUnTop_bd (wAt ws 1)
  rw [htop] at tb
  obtain ⟨tb0, tb1⟩ := tb
  have ns := nil_Load (some ⟨p, 0, none⟩)
  clear hN htop
  go_enter Try.func29, Try.ntmps29
  unfold memI at *
  go_wp2_with fail
  have hO := hO.alloc (.cells #[.int .i64 t, .int .i64 s] 25)
  generalize hlb : w.heap.size = lb at hO ⊢
  have HL := Lib.hid hlb
  clear hlb
  generalize w.alloc (.cells #[.int .i64 t, .int .i64 s] 25) = w0 at hO ⊢
  have hO := hO.drew
  have hi0 : ∀ x : Grp, (x :: G)[i + 1]? = some (memG p bw bb ws bs n) := fun x => by simpa using hi
  first
    | go_loud (go_region_held3 (fun w => w.cell? ⟨lb, 0, none⟩ = some (.int .i64 t) ∧ w.cell? ⟨lb, 1, none⟩ = some (.int .i64 s)) (first | assumption | exact ⟨hO.cell 0 0 rfl rfl 0, hO.cell 0 0 rfl rfl 1⟩) (first | (go_at_call 16; refine (layout_Stack _ _ _ L.out).mono ?_; rw [on.out]; rintro e w7 ⟨rfl, hb⟩; have hO := hO.via hb) | (go_at_call 43; refine (plain_Load (i + 1) _ hO (hi0 _) hl).mono ?_; rintro e w7 ⟨rfl, hO'⟩; have hO := hO') | (go_at_call 55; refine (head_Unpack _ _).mono ?_; rw [HT.out]; rintro e w7 ⟨rfl, hb⟩; have hO := hO.via hb)))
    | fail "top"
  all_goals
    have a0 : _ = some (Value.int .i64 t) := hO.cell 0 0 rfl rfl 0; have a1 : _ = some (Value.int .i64 s) := hO.cell 0 0 rfl rfl 1
    go_wp2_with (go_at_call 13; refine (layout_Words _ _ _ L.out).mono ?_; rw [HN.out]; rintro e w7 ⟨rfl, hb⟩; have hO := hO.via hb; have a0 : _ = some (Value.int .i64 t) := hO.cell 0 0 rfl rfl 0; have a1 : _ = some (Value.int .i64 s) := hO.cell 0 0 rfl rfl 1)
    have hO1 : Owns B W w7 ([(lb, Obj.cells #[.int .i64 t, .int .i64 s] 25 (0, 0))] :: rowG 3 (.slice none 0 0) [] :: G.set i (memG p bw bb ws bs (wrap64 (n + 1)))) :=
      (Owns.nothing (show Owns B W w7 ([(lb, Obj.cells #[.int .i64 t, .int .i64 s] 25 (0, 0))] :: G.set i (memG p bw bb ws bs (wrap64 (n + 1)))) from hO)).swap
    clear hO
    go_loopw [5, 6, 25] (fun fr top c wr => ∃ (k : Nat) (v : Value) (xs : List Int) (cur : List Value) (m tp : Int), c = .int .i64 k ∧ k ≤ N ∧ fr = v ∧ top = .int .i64 tp ∧ xs.length = k ∧ (k : Int) ≤ s ∧ RowOk v (xs.map (Value.int .i64)) cur ∧
      xs ++ freeL t s ws (s.toNat - k) tp = freeL t s ws s.toNat top0 ∧ -9223372036854775808 ≤ tp ∧ tp ≤ 9223372036854775807 ∧
      Owns B W wr ([(lb, Obj.cells #[.int .i64 t, .int .i64 s] 25 (0, 0))] :: rowG 3 v cur :: G.set i (memG p bw bb ws bs m))) (fun _ _ c _ => N - (intOf c).toNat)
    case atStart => exact ⟨0, _, [], [], _, top0, rfl, by omega, rfl, rfl, rfl, by omega, RowOk.nil, by simp, by omega, by omega, hO1⟩
    case round =>
      clear hO1
      obtain ⟨k, v, xs, cur, m, tp, rfl, hk, rfl, rfl, hxl, hks, hr, hfr, hp0, hp1, hO⟩ := hrel
      have HR := Lib.hid hr
      have HX := Lib.hid hxl
      clear hr hxl
      have a0 : _ = some (Value.int .i64 t) := hO.cell 0 0 rfl rfl 0; have a1 : _ = some (Value.int .i64 s) := hO.cell 0 0 rfl rfl 1
      have hkN : (k : Int) < N := by omega
      have vl : ∃ (pa : Option Addr) (cap : Nat), u5 = .slice pa k cap := by
        rcases HR.out with ⟨h1, h2, -⟩ | ⟨g, cap, h1, -⟩
        · have hk0 : xs = [] := by simpa using h2
          have hk1 : k = 0 := by rw [← HX.out, hk0]; rfl
          exact ⟨none, 0, by rw [h1, hk1]⟩
        · exact ⟨_, cap, by rw [h1, List.length_map, HX.out]⟩
      obtain ⟨pa, cap, hv⟩ := vl
      subst hv
      by_cases hc : 1 ≤ tp ∧ tp ≤ s
      · obtain ⟨hc1, hc2⟩ := hc
        by_cases hks2 : (k : Int) < s
        · have el := Lib.hid (show lOf t s (tp - 1) 2 = 4 + t + 3 * (tp - 1) + 2 by unfold lOf; rw [if_pos (by omega)])
          have ee := Lib.hid (show lOf t s k 0 = 4 + t + 3 * k + 0 by unfold lOf; rw [if_pos (by omega)])
          obtain ⟨y, hy⟩ : ∃ y, wAt ws (4 + t + 3 * (tp - 1) + 2) = y := ⟨_, rfl⟩
          have yb : -9223372036854775808 ≤ y ∧ y ≤ 9223372036854775807 := by rw [← hy]; exact wAt_bd hb64 _
          have HY := Lib.hid hy
          have hstep := Lib.hid (show freeL t s ws (s.toNat - k) tp = (tp - 1) :: freeL t s ws (s.toNat - (k + 1)) y by
            obtain ⟨f, hf⟩ : ∃ f, s.toNat - k = f + 1 := ⟨s.toNat - k - 1, by omega⟩
            rw [hf, show s.toNat - (k + 1) = f by omega, freeL, if_pos ⟨hc1, hc2⟩, el.out, hy])
          have HF := Lib.hid hfr
          have k64 : ((k : Int) == 64) = false := by simp; omega
          clear hy hfr
          go_wp2_with first
            | (go_at_call 12; refine (layout_Link _ _ _ _ L.out).mono ?_; rw [el.out]; rintro e w8 ⟨rfl, hb⟩; have hO := hO.via hb; have a0 : _ = some (Value.int .i64 t) := hO.cell 0 0 rfl rfl 0; have a1 : _ = some (Value.int .i64 s) := hO.cell 0 0 rfl rfl 1)
            | (go_at_call 10; refine (layout_Entry _ _ _ _ L.out).mono ?_; rw [ee.out]; rintro e w8 ⟨rfl, hb⟩; have hO := hO.via hb; have a0 : _ = some (Value.int .i64 t) := hO.cell 0 0 rfl rfl 0; have a1 : _ = some (Value.int .i64 s) := hO.cell 0 0 rfl rfl 1)
            | (at_builtin; refine stop_here ?_)
          unfold Stop
          refine wpList_append_row rfl (.tmp 44) (.tmp 47) _ rfl 3 (.int .i64 0) 8 Try.underlying33 info_int rfl (by decide) rfl (hO.via (below_alloc _ _)) 1 rfl HR.out ⟨_, 0, none⟩ 1 1 [.int .i64 (tp - 1)] rfl rfl ?n1 ?n2 (by simp) ?n3 ?_
          case n1 => intro j u hj; cases j with
            | zero => simp at hj; subst hj; refine (blk_cell (blk_new _ _) _).trans ?_; simp
            | succ j => simp at hj
          case n2 => intro u hu; simp at hu; subst hu; rfl
          case n3 => rw [List.length_map, HX.out]; simp; omega
          intro v' cur' w' hr' hO'
          have hO := hO'
          have HR := Lib.hid hr'
          clear hr'
          have a0 : _ = some (Value.int .i64 t) := hO.cell 0 0 rfl rfl 0; have a1 : _ = some (Value.int .i64 s) := hO.cell 0 0 rfl rfl 1
          go_wp2_with fail
          have hO := hO.drew
          have w64 : IntKind.i64.wrap (tp - 1) = tp - 1 := i64in _ (by omega) (by omega)
          first
            | go_loud (go_region_held3 (fun w => w.cell? ⟨lb, 0, none⟩ = some (.int .i64 t) ∧ w.cell? ⟨lb, 1, none⟩ = some (.int .i64 s)) (first | assumption | exact ⟨hO.cell 0 0 rfl rfl 0, hO.cell 0 0 rfl rfl 1⟩) (first | (go_at_call 12; refine (layout_Link _ _ _ _ L.out).mono ?_; rw [el.out]; rintro e w8 ⟨rfl, hb⟩; have hO := hO.via hb) | (go_at_call 43; refine (plain_Load (i + 2) _ hO (by simpa using set_get hi _) hl).mono ?_; rw [HY.out]; rintro e w8 ⟨rfl, hO'⟩; have hO := hO')))
            | fail "next"
          all_goals
            go_wp2_with fail
            go_roundw
            case rel => exact ⟨k + 1, _, xs ++ [tp - 1], cur', wrap64 (m + 1), y, by go_num, by omega, rfl, rfl, by rw [List.length_append, HX.out]; rfl, by omega, by rw [List.map_append]; exact HR.out, by rw [List.append_assoc, List.singleton_append, ← hstep.out]; exact HF.out, yb.1, yb.2, by simpa only [List.set_cons_succ, List.set_set, List.set_cons_zero] using hO⟩
            case measure => simp [intOf]; omega
        · have el := Lib.hid (show lOf t s (tp - 1) 2 = 4 + t + 3 * (tp - 1) + 2 by unfold lOf; rw [if_pos (by omega)])
          have hks3 : (k : Int) = s := by omega
          have ee := Lib.hid (show lOf t s k 0 = -1 by unfold lOf; rw [if_neg (by omega)])
          have hend := Lib.hid (show xs = freeOf t s ws by rw [hfree.out, ← hfr, show s.toNat - k = 0 by omega, freeL, List.append_nil])
          clear hfr hks2 hks3
          by_cases h64 : k = 64
          · have k64 : ((k : Int) == 64) = true := by simp; omega
            clear h64
            go_wp2_with (go_at_call 12; refine (layout_Link _ _ _ _ L.out).mono ?_; rw [el.out]; rintro e w8 ⟨rfl, hb⟩; have hO := hO.via hb; have a0 : _ = some (Value.int .i64 t) := hO.cell 0 0 rfl rfl 0; have a1 : _ = some (Value.int .i64 s) := hO.cell 0 0 rfl rfl 1)
            go_ret
            exact ⟨_, cur, m, rfl, by rw [← hend.out]; exact HR.out, hO.tail⟩
          · have k64 : ((k : Int) == 64) = false := by simp; omega
            clear h64
            go_wp2_with first
              | (go_at_call 12; refine (layout_Link _ _ _ _ L.out).mono ?_; rw [el.out]; rintro e w8 ⟨rfl, hb⟩; have hO := hO.via hb; have a0 : _ = some (Value.int .i64 t) := hO.cell 0 0 rfl rfl 0; have a1 : _ = some (Value.int .i64 s) := hO.cell 0 0 rfl rfl 1)
              | (go_at_call 10; refine (layout_Entry _ _ _ _ L.out).mono ?_; rw [ee.out]; rintro e w8 ⟨rfl, hb⟩; have hO := hO.via hb; have a0 : _ = some (Value.int .i64 t) := hO.cell 0 0 rfl rfl 0; have a1 : _ = some (Value.int .i64 s) := hO.cell 0 0 rfl rfl 1)
            go_ret
            exact ⟨_, cur, m, rfl, by rw [← hend.out]; exact HR.out, hO.tail⟩
      · have el : ∃ y, wrap64 (tp - 1) = y ∧ lOf t s y 2 = -1 := ⟨_, rfl, by unfold lOf wrap64; rw [if_neg (by omega)]⟩
        obtain ⟨y, hy, el⟩ := el
        have el := Lib.hid el
        have hend := Lib.hid (show xs = freeOf t s ws by
          rw [hfree.out, ← hfr]
          have : freeL t s ws (s.toNat - k) tp = [] := by
            cases s.toNat - k with
            | zero => rfl
            | succ f => rw [freeL, if_neg hc]
          rw [this, List.append_nil])
        clear hc hfr hp0 hp1
        go_wp2_with (go_at_call 12; refine (layout_Link _ _ _ _ L.out).mono ?_; rw [el.out]; rintro e w8 ⟨rfl, hb⟩; have hO := hO.via hb; have a0 : _ = some (Value.int .i64 t) := hO.cell 0 0 rfl rfl 0; have a1 : _ = some (Value.int .i64 s) := hO.cell 0 0 rfl rfl 1)
        go_ret
        exact ⟨_, cur, m, rfl, by rw [← hend.out]; exact HR.out, hO.tail⟩
end Go.Proofs.Ytpebepjfgnoaaaa
