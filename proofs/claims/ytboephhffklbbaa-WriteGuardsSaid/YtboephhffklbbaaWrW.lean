/- The walks of write's machine: end, load, swap, guard, leave. -/
import Derived.RegionTactic
import Derived.BigRegion
import Derived.Deep.RegionHeld3
import Derived.Outline
import Derived.Deep.DeepCutAuto
import Derived.Test.YtboephhffklbbaaWrP
namespace Go.Proofs.Ytboephhffklbbaa
set_option linter.unusedVariables false
set_option linter.unusedSimpArgs false
open Go.RowKit
set_option maxRecDepth 100000 in
set_option maxHeartbeats 2000000 in
theorem wr_end {B : Nat} {W w : World} {G : List Grp} (j : Nat) {x : Nat} {c : WrC} {v : WrV} (e : Int) (hO : Owns B W w G) (hj : G[j]? = some (wrG x c v)) :
    Calls Try.prog 43 #[.pointer (some ⟨x, 0, none⟩), .int .i64 e] w fun r w' => r = .returned (resV (e, 0) true) ∧ Owns B W w' (G.set j (wrG x c { v with nx := 0, g := false })) := by
  go_enter Try.func43, Try.ntmps43
  have hO1 := hO.alloc (.cells #[.int .i64 0, .int .i64 0] 41)
  have hj1 : ([(w.heap.size, Obj.cells #[.int .i64 0, .int .i64 0] 41 (0, 0))] :: G)[j + 1]? = some (wrG x c v) := by simpa using hj
  obtain ⟨c0, c1, c2, c3, c4, c5, c6, c7, c8, c9, c10, c11, cz, cf⟩ := wr_cells hO1 hj1
  have hf := cf 7
  have hg := cf 11
  have hne := hO1.ne_out 0 (j + 1) 0 0 rfl hj1 rfl rfl (by omega)
  go_upto_region 2 with fail
  have hO2 := wr_g (wr_nx hO1 hj1 0) (set_get hj1 _) false
  rw [List.set_set, List.set_cons_succ] at hO2
  generalize World.setCell (World.setCell _ _ _) _ _ = w3 at hO2 ⊢
  clear c0 c1 c2 c3 c4 c5 c6 c7 c8 c9 c10 c11 cz cf
  clear hf hg hj1 hO1 hO
  generalize hrb : w.heap.size = rb at hO2 ⊢
  have d0 : _ = some (Value.int .i64 0) := hO2.cell 0 0 rfl rfl 0
  have d1 : _ = some (Value.int .i64 0) := hO2.cell 0 0 rfl rfl 1
  have df := blk_free (hO2.get 0 0 rfl rfl) 0
  have dg := blk_free (hO2.get 0 0 rfl rfl) 1
  go_wp2
  have hO4 := res_set2 hO2 (.int .i64 e) (.int .i64 0)
  generalize World.setCell (World.setCell _ _ _) _ _ = w4 at hO4 ⊢
  have e0 : _ = some (Value.int .i64 e) := hO4.cell 0 0 rfl rfl 0
  have e1 : _ = some (Value.int .i64 0) := hO4.cell 0 0 rfl rfl 1
  exact bodyPost_ret (v := .tuple #[.agg #[.int .i64 e, .int .i64 0], .bool true]) (by simp [results, Try.results43, go_sem, e0, e1]) rfl ⟨rfl, hO4.tail⟩
set_option maxRecDepth 100000 in
set_option maxHeartbeats 4000000 in
theorem wr_load {B : Nat} {W w : World} {R0 : List Grp} {x p bw bb : Nat} {ws bs : List Int} {n : Int} {c : WrC} {v : WrV} (hO : Owns B W w (memG p bw bb ws bs n :: wrG x c v :: R0)) (hL : lOk c.t c.s) (hl : ws.length ≤ 4096) (u : Int) (hu : wAt ws (lOf c.t c.s c.sl 0) = u) :
    Calls Try.prog 46 #[.pointer (some ⟨x, 0, none⟩), memI p] w fun r w' => r = .returned (.tuple #[]) ∧ ∃ m, Owns B W w' (memG p bw bb ws bs m :: wrG x c { v with wd := u } :: R0) := by
  have ns := nil_Load (some ⟨p, 0, none⟩)
  obtain ⟨ov, ho⟩ : ∃ v, lOf c.t c.s c.sl 0 = v := ⟨_, rfl⟩
  rw [ho] at hu
  have HOF := Lib.hid ho
  have HU := Lib.hid hu
  have HL := Lib.hid hL
  clear hu ho hL
  go_enter Try.func46, Try.ntmps46
  unfold memI at *
  have hP := hO.drew
  clear hO
  obtain ⟨c0, c1, c2, c3, c4, c5, c6, c7, c8, c9, c10, c11, cz, cf⟩ := wr_cells (j := 1) hP rfl
  first
    | go_loud (go_region_held3 (fun w => w.cell? ⟨x, 0, none⟩ = some (.int .i64 c.t) ∧ w.cell? ⟨x, 1, none⟩ = some (.int .i64 c.s) ∧ w.cell? ⟨x, 2, none⟩ = some (.int .i64 c.sl)) (first | (with_reducible exact ⟨c0, c1, c2⟩) | exact ⟨(cell_off (by decide)).trans c0, (cell_off (by decide)).trans c1, (cell_off (by decide)).trans c2⟩) (first | (go_at_call 71; refine (layout_Entry _ _ _ _ HL.out).mono ?_; rw [HOF.out]; rintro e w7 ⟨rfl, hb⟩; have hO := hP.via hb; clear hP; have hP := hO; clear hO; clear c0 c1 c2 c3 c4 c5 c6 c7 c8 c9 c10 c11 cz cf; obtain ⟨c0, c1, c2, c3, c4, c5, c6, c7, c8, c9, c10, c11, cz, cf⟩ := wr_cells (j := 1) hP rfl) | (go_at_call 20; refine (plain_Load 0 _ hP rfl hl).mono ?_; rw [HU.out]; rintro e w7 ⟨rfl, hO'⟩; clear hP; have hP := hO'; clear hO'; (try simp only [List.set_cons_zero, List.set_cons_succ] at hP); clear c0 c1 c2 c3 c4 c5 c6 c7 c8 c9 c10 c11 cz cf; obtain ⟨c0, c1, c2, c3, c4, c5, c6, c7, c8, c9, c10, c11, cz, cf⟩ := wr_cells (j := 1) hP rfl; have y8 := cf 8)))
    | fail "load"
  all_goals
    go_end0
    exact ⟨rfl, _, wr_wd (j := 1) hP rfl u⟩
set_option maxRecDepth 100000 in
set_option maxHeartbeats 4000000 in
theorem wr_swap {B : Nat} {W w : World} {R0 : List Grp} {x p bw bb : Nat} {ws bs : List Int} {n : Int} {c : WrC} {v : WrV} (to' : Int) (hO : Owns B W w (memG p bw bb ws bs n :: wrG x c v :: R0)) (hL : lOk c.t c.s) (hl : ws.length ≤ 4096) (ov : Int) (ho : lOf c.t c.s c.sl 0 = ov) (b : Bool) (hb : wCas ws ov v.wd = b) :
    Calls Try.prog 69 #[.pointer (some ⟨x, 0, none⟩), memI p, .int .i64 to'] w fun r w' => r = .returned (.bool b) ∧ ∃ m, Owns B W w' (memG p bw bb (wCasPut ws ov v.wd to') bs m :: wrG x c v :: R0) := by
  have ns := nil_Cas (some ⟨p, 0, none⟩)
  have HOF := Lib.hid ho
  have HB := Lib.hid hb
  have HL := Lib.hid hL
  clear ho hL hb
  go_enter Try.func69, Try.ntmps69
  unfold memI at *
  go_upto_region 1 with fail
  have hP := hO.drew
  clear hO
  obtain ⟨c0, c1, c2, c3, c4, c5, c6, c7, c8, c9, c10, c11, cz, cf⟩ := wr_cells (j := 1) hP rfl
  first
    | go_loud (go_region_held3 (fun w => w.cell? ⟨x, 0, none⟩ = some (.int .i64 c.t) ∧ w.cell? ⟨x, 1, none⟩ = some (.int .i64 c.s) ∧ w.cell? ⟨x, 2, none⟩ = some (.int .i64 c.sl) ∧ w.cell? ⟨x, 8, none⟩ = some (.int .i64 v.wd)) (exact ⟨c0, c1, c2, c8⟩) (first | (go_at_call 71; refine (layout_Entry _ _ _ _ HL.out).mono ?_; rw [HOF.out]; rintro e w7 ⟨rfl, hb⟩; have hO := hP.via hb; clear hP; have hP := hO; clear hO; clear c0 c1 c2 c3 c4 c5 c6 c7 c8 c9 c10 c11 cz cf; obtain ⟨c0, c1, c2, c3, c4, c5, c6, c7, c8, c9, c10, c11, cz, cf⟩ := wr_cells (j := 1) hP rfl) | (go_at_call 121; refine (plain_Cas 0 _ _ _ hP rfl hl).mono ?_; rw [HB.out]; rintro e w7 ⟨rfl, hO'⟩; clear hP; have hP := hO'; clear hO'; (try simp only [List.set_cons_zero, List.set_cons_succ] at hP); clear c0 c1 c2 c3 c4 c5 c6 c7 c8 c9 c10 c11 cz cf; obtain ⟨c0, c1, c2, c3, c4, c5, c6, c7, c8, c9, c10, c11, cz, cf⟩ := wr_cells (j := 1) hP rfl)))
    | fail "cas"
  all_goals
    go_wp2_with fail
    go_ret
    exact ⟨rfl, _, hP⟩
set_option maxRecDepth 100000 in
set_option maxHeartbeats 4000000 in
theorem wr_guard {B : Nat} {W w : World} {R0 : List Grp} {x p bw bb : Nat} {ws bs : List Int} {n : Int} {c : WrC} {v : WrV} (hO : Owns B W w (memG p bw bb ws bs n :: wrG x c v :: R0)) (hL : lOk c.t c.s) (hl : ws.length ≤ 4096) (ov : Int) (ho : lOf c.t c.s c.sl 0 = ov) (b : Bool) (hb : wCas ws ov v.wd = b) :
    Calls Try.prog 44 #[.pointer (some ⟨x, 0, none⟩), memI p] w fun r w' => r = .returned (.tuple #[]) ∧ ∃ m, Owns B W w' (memG p bw bb (wCasPut ws ov v.wd (eGuard v.wd 1).1) bs m :: wrG x c { v with nx := if b = true then 3 else 1, g := if b = true then true else v.g } :: R0) := by
  obtain ⟨g1, g2, hg⟩ : ∃ a b, eGuard v.wd 1 = (a, b) := ⟨_, _, rfl⟩
  have HG := Lib.hid hg
  have HL := Lib.hid hL
  have HO := Lib.hid ho
  have HB := Lib.hid hb
  rw [hg]
  clear hg hL ho hb
  obtain ⟨c0, c1, c2, c3, c4, c5, c6, c7, c8, c9, c10, c11, cz, cf⟩ := wr_cells (j := 1) hO rfl
  have y7 := cf 7
  go_enter Try.func44, Try.ntmps44
  unfold memI at *
  go_upto_region 1 with fail
  have hP := wr_nx (j := 1) hO rfl 1
  (try simp only [List.set_cons_zero, List.set_cons_succ] at hP)
  generalize World.setCell w _ _ = w1 at hP ⊢
  clear y7 hO
  clear c0 c1 c2 c3 c4 c5 c6 c7 c8 c9 c10 c11 cz cf
  obtain ⟨c0, c1, c2, c3, c4, c5, c6, c7, c8, c9, c10, c11, cz, cf⟩ := wr_cells (j := 1) hP rfl
  go_wp2_with (go_at_call 68; refine (entry_Guard _ _ _).mono ?_; rw [HG.out]; rintro e w2 ⟨rfl, hb⟩; have hO := hP.via hb; clear hP; have hP := hO; clear hO; clear c0 c1 c2 c3 c4 c5 c6 c7 c8 c9 c10 c11 cz cf; obtain ⟨c0, c1, c2, c3, c4, c5, c6, c7, c8, c9, c10, c11, cz, cf⟩ := wr_cells (j := 1) hP rfl; refine stop_here ?_)
  try unfold Stop
  go_wp2_with fail
  refine (wr_swap g1 hP HL.out hl ov HO.out b HB.out).mono ?_
  rintro e w3 ⟨rfl, m, hO'⟩; clear hP; have hP := hO'; clear hO'; clear c0 c1 c2 c3 c4 c5 c6 c7 c8 c9 c10 c11 cz cf; obtain ⟨c0, c1, c2, c3, c4, c5, c6, c7, c8, c9, c10, c11, cz, cf⟩ := wr_cells (j := 1) hP rfl
  have y7 := cf 7
  have y11 := cf 11
  cases b
  case false =>
    go_wp2_with fail
    go_end0
    exact ⟨rfl, _, hP⟩
  case true =>
    go_wp2_with fail
    go_end0
    have hQ := wr_nx (j := 1) (wr_g (j := 1) hP rfl true) rfl 3
    exact ⟨rfl, _, hQ⟩
set_option maxRecDepth 100000 in
set_option maxHeartbeats 4000000 in
theorem wr_leave {B : Nat} {W w : World} {R0 : List Grp} {x p bw bb : Nat} {ws bs : List Int} {n : Int} {c : WrC} {v : WrV} (hO : Owns B W w (memG p bw bb ws bs n :: wrG x c v :: R0)) (hL : lOk c.t c.s) (hl : ws.length ≤ 4096) (ov : Int) (ho : lOf c.t c.s c.sl 0 = ov) (b : Bool) (hb : wCas ws ov v.wd = b) (g1 g2 : Int) (hg : eGuard v.wd (-1) = (g1, g2)) (d : Bool) (hd : (g2 == 0) = d) :
    Calls Try.prog 47 #[.pointer (some ⟨x, 0, none⟩), memI p] w fun r w' => r = .returned (.bool (!d || b)) ∧ ∃ m, Owns B W w' (memG p bw bb (if d = true then wCasPut ws ov v.wd g1 else ws) bs m :: wrG x c { v with nx := if (!d || b) = true then v.nx else 5 } :: R0) := by
  have HG := Lib.hid hg
  have HL := Lib.hid hL
  have HO := Lib.hid ho
  have HB := Lib.hid hb
  have hd' : (g2 != 0) = !d := by rw [← hd]; rfl
  clear hg hL ho hb
  have hP := hO
  clear hO
  obtain ⟨c0, c1, c2, c3, c4, c5, c6, c7, c8, c9, c10, c11, cz, cf⟩ := wr_cells (j := 1) hP rfl
  cases d
  case false =>
    go_enter Try.func47, Try.ntmps47
    unfold memI at *
    go_wp2_with (go_at_call 68; refine (entry_Guard _ _ _).mono ?_; rw [HG.out]; rintro e w2 ⟨rfl, hb⟩; have hO := hP.via hb; clear hP; have hP := hO; clear hO; clear c0 c1 c2 c3 c4 c5 c6 c7 c8 c9 c10 c11 cz cf; obtain ⟨c0, c1, c2, c3, c4, c5, c6, c7, c8, c9, c10, c11, cz, cf⟩ := wr_cells (j := 1) hP rfl)
    go_ret
    exact ⟨rfl, _, hP⟩
  case true =>
    go_enter Try.func47, Try.ntmps47
    unfold memI at *
    go_wp2_with (go_at_call 68; refine (entry_Guard _ _ _).mono ?_; rw [HG.out]; rintro e w2 ⟨rfl, hb⟩; have hO := hP.via hb; clear hP; have hP := hO; clear hO; clear c0 c1 c2 c3 c4 c5 c6 c7 c8 c9 c10 c11 cz cf; obtain ⟨c0, c1, c2, c3, c4, c5, c6, c7, c8, c9, c10, c11, cz, cf⟩ := wr_cells (j := 1) hP rfl; refine stop_here ?_)
    try unfold Stop
    go_wp2_with fail
    refine (wr_swap g1 hP HL.out hl ov HO.out b HB.out).mono ?_
    rintro e w3 ⟨rfl, m, hO'⟩; clear hP; have hP := hO'; clear hO'; clear c0 c1 c2 c3 c4 c5 c6 c7 c8 c9 c10 c11 cz cf; obtain ⟨c0, c1, c2, c3, c4, c5, c6, c7, c8, c9, c10, c11, cz, cf⟩ := wr_cells (j := 1) hP rfl
    have y7 := cf 7
    cases b
    case false =>
      go_wp2_with fail
      go_ret
      have hQ := wr_nx (j := 1) hP rfl 5
      exact ⟨rfl, _, hQ⟩
    case true =>
      go_wp2_with fail
      go_ret
      exact ⟨rfl, _, hP⟩
end Go.Proofs.Ytboephhffklbbaa
