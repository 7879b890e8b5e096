/- The walk of epoch.Inside. -/
import Derived.LoopTactic
import Derived.Deep.RegionHeld3
import Derived.Test.YtpfahnnmbaipdaaEpI
namespace Go.Proofs.Ytpfahnnmbaipdaa
set_option linter.unusedVariables false
set_option linter.unusedSimpArgs false
open Go.RowKit
/-- who is inside, of the threads below k. -/
def inL (ws : List Int) : Nat → List Int
  | 0 => []
  | k + 1 => if 0 < wAt ws (4 + k) then inL ws k ++ [(k : Int)] else inL ws k
theorem inL_len (ws : List Int) : ∀ k, (inL ws k).length ≤ k
  | 0 => by simp [inL]
  | k + 1 => by
    unfold inL; split
    · simp; exact inL_len ws k
    · exact Nat.le_succ_of_le (inL_len ws k)
set_option maxRecDepth 100000 in
set_option maxHeartbeats 8000000 in
theorem epoch_Inside {B : Nat} {W w : World} {G : List Grp} (i : Nat) {p bw bb : Nat} {ws bs : List Int} {n : Int} (a s t : Int) (hO : Owns B W w G) (hi : G[i]? = some (memG p bw bb ws bs n)) (hl : ws.length ≤ 4096) (hw : WOk ws) (hc : cfgOk a s t = true) :
    Calls Try.prog 20 #[memI p, .agg #[.int .i64 a, .int .i64 s, .int .i64 t]] w (MadeFree B W G i p bw bb ws bs (inL ws t.toNat)) := by
  have L := Lib.hid (lOk_yes hc)
  obtain ⟨e1, e2, e3⟩ := of_yes hc
  have ET := Lib.hid e1
  have ES := Lib.hid e2
  have EE := Lib.hid e3
  obtain ⟨-, -, -, -, -, t1, t4⟩ := cfgOk_of hc
  obtain ⟨N, hN⟩ : ∃ N : Nat, t = N := ⟨t.toNat, by omega⟩
  subst hN
  have HW := Lib.hid hw
  have ns := nil_Load (some ⟨p, 0, none⟩)
  clear hc e1 e2 e3 hw
  go_enter Try.func20, Try.ntmps20
  unfold memI at *
  go_wp2_with fail
  have hO := hO.alloc (.cells #[.int .i64 a, .int .i64 s, .int .i64 N] 23)
  generalize w.alloc (.cells #[.int .i64 a, .int .i64 s, .int .i64 N] 23) = w0 at hO ⊢
  generalize w.heap.size = cb at hO ⊢
  refine (layout_Of _ _ _ _).mono ?_; rw [ET.out, ES.out, EE.out]; rintro e w1 ⟨rfl, hb⟩; have hO := hO.via hb
  have hO := hO.alloc (.cells #[.int .i64 N, .int .i64 s] 56)
  have c2 := hO.cell 1 0 rfl rfl 2
  go_wp2_with fail
  clear c2
  generalize hlb : w1.heap.size = lb at hO ⊢
  clear hlb
  generalize w1.alloc (.cells #[.int .i64 N, .int .i64 s] 56) = w2 at hO ⊢
  have hO1 : Owns B W w2 ([(lb, Obj.cells #[.int .i64 N, .int .i64 s] 56 (0, 0))] :: rowG 3 (.slice none 0 0) [] :: G.set i (memG p bw bb ws bs n)) := by
    rw [set_same hi]; exact (Owns.nothing (show Owns B W w2 ([(lb, Obj.cells #[.int .i64 N, .int .i64 s] 56 (0, 0))] :: G) from hO.drop 1)).swap
  have hi2 : ∀ (x y : Grp) (m : Int), (x :: y :: G.set i (memG p bw bb ws bs m))[i + 2]? = some (memG p bw bb ws bs m) := fun x y m => by simpa using set_get hi _
  clear hO
  go_loopw [7, 24] (fun fr c wr => ∃ (k : Nat) (v : Value) (cur : List Value) (m : Int), c = .int .i64 k ∧ k ≤ N ∧ fr = v ∧ RowOk v ((inL ws k).map (Value.int .i64)) cur ∧
      Owns B W wr ([(lb, Obj.cells #[.int .i64 N, .int .i64 s] 56 (0, 0))] :: rowG 3 v cur :: G.set i (memG p bw bb ws bs m))) (fun _ c _ => N - (intOf c).toNat)
  case atStart => exact ⟨0, _, [], n, rfl, by omega, rfl, RowOk.nil, hO1⟩
  case round =>
    clear hO1
    obtain ⟨k, v, cur, m, rfl, hk, rfl, hr, hO⟩ := hrel
    have HR := Lib.hid hr
    clear hr
    by_cases hlt : k < N
    · have kN : (k : Int) < N := by omega
      have b0 : wr.cell? ⟨lb, 0, none⟩ = some (Value.int .i64 N) := hO.cell 0 0 rfl rfl 0
      have b1 : wr.cell? ⟨lb, 1, none⟩ = some (Value.int .i64 s) := hO.cell 0 0 rfl rfl 1
      obtain ⟨y, hy⟩ : ∃ y, wAt ws (4 + k) = y := ⟨_, rfl⟩
      have HY := Lib.hid hy
      have yb := Lib.hid (show -9223372036854775808 ≤ y ∧ y ≤ 9223372036854775807 by rw [← hy]; exact wAt_bd HW.out _)
      have NT := Lib.hid (show lNote N k = 4 + k by unfold lNote; rw [if_pos (by omega)])
      have IY := Lib.hid (show 0 < y → inL ws (k + 1) = inL ws k ++ [(k : Int)] by intro h; rw [inL, hy, if_pos h])
      have IN := Lib.hid (show ¬ 0 < y → inL ws (k + 1) = inL ws k by intro h; rw [inL, hy, if_neg h])
      obtain ⟨b, hb⟩ : ∃ b, decide (0 < y) = b := ⟨_, rfl⟩
      have HB := Lib.hid hb
      clear hy hb
      cases b
      case false =>
        go_wp2_with fail
        have hO := hO.drew
        first
          | go_loud (go_region_held3 (fun w => w.cell? ⟨lb, 0, none⟩ = some (.int .i64 N) ∧ w.cell? ⟨lb, 1, none⟩ = some (.int .i64 s)) (first | assumption | exact ⟨hO.cell 0 0 rfl rfl 0, hO.cell 0 0 rfl rfl 1⟩) (first | (go_at_call 46; refine (layout_Note _ _ _ _ L.out).mono ?_; rw [NT.out]; rintro e w7 ⟨rfl, hb⟩; have hO := hO.via hb) | (go_at_call 16; refine (plain_Load (i + 2) _ hO (hi2 _ _ _) hl).mono ?_; rw [HY.out]; rintro e w7 ⟨rfl, hO'⟩; have hO := hO') | (go_at_call 48; refine (head_Inside _ _ yb.out.1 yb.out.2).mono ?_; rw [HB.out]; rintro e w7 ⟨rfl, rfl⟩)))
          | fail "in"
        all_goals
          go_wp2_with fail
          go_roundw
          case rel => exact ⟨k + 1, _, cur, _, by go_num, by omega, rfl, by rw [IN.out (by have := HB.out; simpa using this)]; exact HR.out, by simpa only [List.set_cons_succ, List.set_set, List.set_cons_zero] using hO⟩
          case measure => simp [intOf]; omega
      case true =>
        go_wp2_with fail
        have hO := hO.drew
        first
          | go_loud (go_region_held3 (fun w => w.cell? ⟨lb, 0, none⟩ = some (.int .i64 N) ∧ w.cell? ⟨lb, 1, none⟩ = some (.int .i64 s)) (first | assumption | exact ⟨hO.cell 0 0 rfl rfl 0, hO.cell 0 0 rfl rfl 1⟩) (first | (go_at_call 46; refine (layout_Note _ _ _ _ L.out).mono ?_; rw [NT.out]; rintro e w7 ⟨rfl, hb⟩; have hO := hO.via hb) | (go_at_call 16; refine (plain_Load (i + 2) _ hO (hi2 _ _ _) hl).mono ?_; rw [HY.out]; rintro e w7 ⟨rfl, hO'⟩; have hO := hO') | (go_at_call 48; refine (head_Inside _ _ yb.out.1 yb.out.2).mono ?_; rw [HB.out]; rintro e w7 ⟨rfl, rfl⟩)))
          | fail "in"
        all_goals
          go_wp2_with (at_builtin; refine stop_here ?_)
          unfold Stop
          refine wpList_append_row rfl (.tmp 40) (.tmp 42) _ rfl 3 (.int .i64 0) 8 Try.underlying40 info_int rfl (by decide) rfl (hO.via (below_alloc _ _)) 1 rfl HR.out ⟨_, 0, none⟩ 1 1 [.int .i64 k] rfl rfl ?n1 ?n2 (by simp) ?n3 ?_
          case n1 => intro j u hj; cases j with
            | zero => simp at hj; subst hj; refine (blk_cell (blk_new _ _) _).trans ?_; simp
            | succ j => simp at hj
          case n2 => intro u hu; simp at hu; subst hu; rfl
          case n3 => have := inL_len ws k; rw [List.length_map]; simp; omega
          intro v' cur' w' hr' hO'
          have hO := hO'
          have HR := Lib.hid hr'
          clear hr'
          go_wp2_with fail
          go_roundw
          case rel => exact ⟨k + 1, _, cur', _, by go_num, by omega, rfl, by rw [IY.out (by have := HB.out; simpa using this), List.map_append]; exact HR.out, by simpa only [List.set_cons_succ, List.set_set, List.set_cons_zero] using hO⟩
          case measure => simp [intOf]; omega
    · have kN : (N : Int) ≤ k := by omega
      have hkN : k = N := by omega
      go_wp2_with fail
      go_ret
      exact ⟨_, cur, m, rfl, by rw [Int.toNat_natCast, ← hkN]; exact HR.out, hO.tail⟩
end Go.Proofs.Ytpfahnnmbaipdaa
