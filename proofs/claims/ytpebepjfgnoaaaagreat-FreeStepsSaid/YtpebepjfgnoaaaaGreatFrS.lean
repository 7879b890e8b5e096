/- The walks of free's machine: swap, Step, Gives, New. -/
import Derived.RegionTactic
import Derived.BigRegion
import Derived.Deep.RegionHeld3
import Derived.Outline
import Derived.Deep.DeepCutAuto
import Derived.Deep.QuietTactic
import Derived.BigQuiet
import Derived.Test.YtpebepjfgnoaaaaGreatFrW
namespace Go.Proofs.YtpebepjfgnoaaaaGreat
set_option linter.unusedVariables false
set_option linter.unusedSimpArgs false
open Go.RowKit
theorem own3 {B : Nat} {W w : World} {x y z : Grp} {R : List Grp} (h : Owns B W w (x :: y :: z :: R)) : Owns B W w (z :: x :: y :: R) := h.perm (List.perm_middle (l₁ := [x, y]))
/-- the second one goes to the fourth place. -/
theorem own14 {B : Nat} {W w : World} {a r m f : Grp} {R : List Grp} (h : Owns B W w (a :: r :: m :: f :: R)) : Owns B W w (a :: m :: f :: r :: R) := h.perm (List.Perm.cons a (List.perm_middle (l₁ := [m, f])).symm)
set_option maxRecDepth 100000 in
set_option maxHeartbeats 8000000 in
theorem fr_swap {B : Nat} {W w : World} {R0 : List Grp} {x p bw bb : Nat} {ws bs : List Int} {n : Int} {c : FrC} {v : FrV} (hP : Owns B W w (memG p bw bb ws bs n :: frG x c v :: R0)) (hg : v.gv = none) (hL : lOk c.t c.s) (hl : ws.length ≤ 4096) (ov : Int) (ho : lOf c.t c.s c.sl 0 = ov) (b : Bool) (hb : wCas ws ov v.wd = b) (q : FrR) (hq : q = if b = true then (if v.mo = true then ⟨wCasPut ws ov v.wd v.tw, { v with nx := 3, gv := some ⟨1, c.sl, 0, 0⟩ }, 0, false⟩ else ⟨wCasPut ws ov v.wd v.tw, { v with nx := 0 }, 0, true⟩) else ⟨ws, { v with nx := 1 }, 0, false⟩) :
    Calls Tryz.prog 30 #[.pointer (some ⟨x, 0, none⟩), memI p] w (FrPost B W R0 x p bw bb bs c q) := by
  have ns := nil_Cas (some ⟨p, 0, none⟩)
  obtain ⟨mo, hmo⟩ : ∃ m, v.mo = m := ⟨_, rfl⟩
  have HQ := Lib.hid (show q = if b = true then (if mo = true then ⟨wCasPut ws ov v.wd v.tw, { v with nx := 3, gv := some ⟨1, c.sl, 0, 0⟩ }, 0, false⟩ else ⟨wCasPut ws ov v.wd v.tw, { v with nx := 0 }, 0, true⟩) else ⟨ws, { v with nx := 1 }, 0, false⟩ by rw [← hmo]; exact hq)
  have HO := Lib.hid ho
  have HB := Lib.hid hb
  have HL := Lib.hid hL
  have HG := Lib.hid hg
  clear ho hb hL hq hg
  have hO' := hP.alloc (.cells #[.int .i64 0, .int .i64 0] 43)
  go_enter Tryz.func30, Tryz.ntmps30
  unfold memI at *
  go_upto_region 2 with fail
  clear hP; have hP := hO'; clear hO'
  generalize w.alloc (.cells #[.int .i64 0, .int .i64 0] 43) = w1 at hP ⊢
  generalize w.heap.size = rb at hP ⊢
  go_cut [21] (fun s21 wx => s21 = .bool (!b) ∧ ∃ m, Owns B W wx ([(rb, Obj.cells #[Value.int .i64 0, .int .i64 0] 43 (0, 0))] :: memG p bw bb (wCasPut ws ov v.wd v.tw) bs m :: frG x c v :: R0))
  case first =>
    have hO' := hP.drew; clear hP; have hP := hO'; clear hO'
    obtain ⟨c0, c1, c2, c3, c4, c5, c6, c7, c8, c9, cz⟩ := fr_cells (j := 2) hP rfl
    first
      | go_loud (go_region_held3 (fun w => w.cell? ⟨x, 0, none⟩ = some (.int .i64 c.t) ∧ w.cell? ⟨x, 1, none⟩ = some (.int .i64 c.s) ∧ w.cell? ⟨x, 2, none⟩ = some (.int .i64 c.sl) ∧ w.cell? ⟨x, 6, none⟩ = some (.int .i64 v.wd) ∧ w.cell? ⟨x, 7, none⟩ = some (.int .i64 v.tw)) (exact ⟨c0, c1, c2, c6, c7⟩) (first | (go_at_call 47; refine (layout_Entry _ _ _ _ HL.out).mono ?_; rw [HO.out]; rintro e w7 ⟨rfl, hb⟩; have hO' := hP.via hb; clear hP; have hP := hO'; clear hO'; clear c0 c1 c2 c3 c4 c5 c6 c7 c8 c9 cz; obtain ⟨c0, c1, c2, c3, c4, c5, c6, c7, c8, c9, cz⟩ := fr_cells (j := 2) hP rfl) | (go_at_call 134; refine (plain_Cas 1 _ _ _ hP rfl hl).mono ?_; rw [HB.out]; rintro e w7 ⟨rfl, hO'⟩; clear hP; have hP := hO'; clear hO'; (try simp only [List.set_cons_zero, List.set_cons_succ] at hP); clear c0 c1 c2 c3 c4 c5 c6 c7 c8 c9 cz; obtain ⟨c0, c1, c2, c3, c4, c5, c6, c7, c8, c9, cz⟩ := fr_cells (j := 2) hP rfl)))
      | fail "cas"
    all_goals
      go_wp2_with fail
      go_meet
      first | exact ⟨rfl, _, hP⟩ | exact ⟨by cases b <;> rfl, _, hP⟩
  case rest =>
    obtain ⟨rfl, m, hP'⟩ := hcut
    clear hP
    have hP := hP'
    clear hP'
    cases b
    case false =>
      have e : q = ⟨ws, { v with nx := 1 }, 0, false⟩ := HQ.out
      subst e
      have hC : wCasPut ws ov v.wd v.tw = ws := by unfold wCasPut; rw [HB.out]; rfl
      rw [hC] at hP
      obtain ⟨c0, c1, c2, c3, c4, c5, c6, c7, c8, c9, cz⟩ := fr_cells (j := 2) hP rfl
      have y5 := fr_free (j := 2) hP rfl 5
      go_upto_region 6 with fail
      have hO' := fr_set (j := 2) hP rfl 5 (.int .i64 1) { v with nx := 1 } rfl rfl
      clear y5; clear hP; have hP := hO'; clear hO'; (try simp only [List.set_cons_zero, List.set_cons_succ] at hP)
      clear c0 c1 c2 c3 c4 c5 c6 c7 c8 c9 cz
      generalize World.setCell _ _ _ = w8 at hP ⊢
      have rz := hP.lt 0 0 rfl rfl; have rd0 : _ = some (Value.int .i64 0) := hP.cell 0 0 rfl rfl 0; have rd1 : _ = some (Value.int .i64 0) := hP.cell 0 0 rfl rfl 1; have rf0 := blk_free (hP.get 0 0 rfl rfl) 0; have rf1 := blk_free (hP.get 0 0 rfl rfl) 1
      go_wp2_with fail; generalize hw : World.setCell (World.setCell _ _ _) _ _ = wz; have hO4 : Owns B W wz _ := hw ▸ res_set2 hP (.int .i64 0) (.int .i64 0); clear hw; have e0 := hO4.cell 0 0 rfl rfl 0; have e1 := hO4.cell 0 0 rfl rfl 1; exact bodyPost_ret (v := .tuple #[.agg #[.int .i64 0, .int .i64 0], .bool false]) (by simp [results, Tryz.results30, go_sem, e0, e1]) rfl ⟨rfl, _, c.gp, hO4.tail⟩
    case true =>
      cases mo
      case false =>
        have e : q = ⟨wCasPut ws ov v.wd v.tw, { v with nx := 0 }, 0, true⟩ := HQ.out
        subst e
        have c8 : _ = some (Value.bool false) := (fr_cell (j := 2) hP rfl 8).trans (show some (Value.bool v.mo) = some (Value.bool false) by rw [hmo])
        have cz := fr_lt (j := 2) hP rfl
        go_wp2_with (go_at_call 32; refine (fr_end 2 0 hP rfl).mono ?_; simp only [resV]; rintro e w2 ⟨rfl, hO'⟩; clear hP; have hP := hO'; clear hO'; (try simp only [List.set_cons_zero, List.set_cons_succ] at hP); clear c8 cz; have rz := hP.lt 0 0 rfl rfl; have rd0 : _ = some (Value.int .i64 0) := hP.cell 0 0 rfl rfl 0; have rd1 : _ = some (Value.int .i64 0) := hP.cell 0 0 rfl rfl 1; have rf0 := blk_free (hP.get 0 0 rfl rfl) 0; have rf1 := blk_free (hP.get 0 0 rfl rfl) 1)
        go_wp2_with fail; generalize hw : World.setCell (World.setCell _ _ _) _ _ = wz; have hO4 : Owns B W wz _ := hw ▸ res_set2 hP (.int .i64 0) (.int .i64 0); clear hw; have e0 := hO4.cell 0 0 rfl rfl 0; have e1 := hO4.cell 0 0 rfl rfl 1; exact bodyPost_ret (v := .tuple #[.agg #[.int .i64 0, .int .i64 0], .bool true]) (by simp [results, Tryz.results30, go_sem, e0, e1]) rfl ⟨rfl, _, c.gp, hO4.tail⟩
      case true =>
        have e : q = ⟨wCasPut ws ov v.wd v.tw, { v with nx := 3, gv := some ⟨1, c.sl, 0, 0⟩ }, 0, false⟩ := HQ.out
        subst e
        have c8 : _ = some (Value.bool true) := (fr_cell (j := 2) hP rfl 8).trans (show some (Value.bool v.mo) = some (Value.bool true) by rw [hmo])
        have cz := fr_lt (j := 2) hP rfl
        go_upto_region 1 with fail
        clear c8 cz
        have hO' := hP.drew; clear hP; have hP := hO'; clear hO'
        obtain ⟨c0, c1, c2, c3, c4, c5, c6, c7, c8, c9, cz⟩ := fr_cells (j := 2) hP rfl
        first
          | go_loud (go_region_held3 (fun w => w.cell? ⟨x, 0, none⟩ = some (.int .i64 c.t) ∧ w.cell? ⟨x, 1, none⟩ = some (.int .i64 c.s) ∧ w.cell? ⟨x, 2, none⟩ = some (.int .i64 c.sl)) (first | (with_reducible exact ⟨c0, c1, c2⟩) | exact ⟨(cell_off (by decide)).trans c0, (cell_off (by decide)).trans c1, (cell_off (by decide)).trans c2⟩ | exact ⟨(cell_off (by decide)).trans ((cell_off (by decide)).trans c0), (cell_off (by decide)).trans ((cell_off (by decide)).trans c1), (cell_off (by decide)).trans ((cell_off (by decide)).trans c2)⟩) ((go_at_call 53; refine (stack_NewPush _ _ _ hP).mono ?_; rintro e w7 ⟨y, rfl, hO'⟩; clear hP; have hP := hO'; clear hO'; clear c0 c1 c2 c3 c4 c5 c6 c7 c8 c9 cz; obtain ⟨c0, c1, c2, c3, c4, c5, c6, c7, c8, c9, cz⟩ := fr_cells (j := 3) hP rfl; have y9 := fr_free (j := 3) hP rfl 9; have y5 := fr_free (j := 3) hP rfl 5)))
          | fail "push"
        all_goals
          have hO' : Owns B W w7 (machG 111 y c.t c.s 1 c.sl 0 0 :: memG p bw bb (wCasPut ws ov v.wd v.tw) bs m :: frG x c v :: [(rb, Obj.cells #[Value.int .i64 0, .int .i64 0] 43 (0, 0))] :: R0) := own14 hP; clear hP; have hP := hO'; clear hO'
          have hO' := fr_gv (c := c) (v := v) ⟨1, c.sl, 0, 0⟩ HG.out hP; clear hP; have hP := hO'; clear hO'
          have hO' := fr_set (j := 1) hP rfl 5 (.int .i64 3) { v with nx := 3, gv := some ⟨1, c.sl, 0, 0⟩ } rfl rfl; clear hP; have hP := hO'; clear hO'; (try simp only [List.set_cons_zero, List.set_cons_succ] at hP)
          clear y9 y5
          clear c0 c1 c2 c3 c4 c5 c6 c7 c8 c9 cz
          have hO' := own3 hP; clear hP; have hP := hO'; clear hO'
          generalize World.setCell (World.setCell _ _ _) _ _ = w8 at hP ⊢
          have rz := hP.lt 0 0 rfl rfl; have rd0 : _ = some (Value.int .i64 0) := hP.cell 0 0 rfl rfl 0; have rd1 : _ = some (Value.int .i64 0) := hP.cell 0 0 rfl rfl 1; have rf0 := blk_free (hP.get 0 0 rfl rfl) 0; have rf1 := blk_free (hP.get 0 0 rfl rfl) 1
          go_wp2_with fail; generalize hw : World.setCell (World.setCell _ _ _) _ _ = wz; have hO4 : Owns B W wz _ := hw ▸ res_set2 hP (.int .i64 0) (.int .i64 0); clear hw; have e0 := hO4.cell 0 0 rfl rfl 0; have e1 := hO4.cell 0 0 rfl rfl 1; exact bodyPost_ret (v := .tuple #[.agg #[.int .i64 0, .int .i64 0], .bool false]) (by simp [results, Tryz.results30, go_sem, e0, e1]) rfl ⟨rfl, _, y, hO4.tail⟩
end Go.Proofs.YtpebepjfgnoaaaaGreat
