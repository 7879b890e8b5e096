/- The walks of alloc's machine: front, look. -/
import Derived.RegionTactic
import Derived.BigRegion
import Derived.Deep.RegionHeld3
import Derived.Outline
import Derived.Deep.DeepCutAuto
import Derived.Deep.QuietTactic
import Derived.BigQuiet
import Derived.Test.YtpebepjfgnoaaaaAlW
namespace Go.Proofs.Ytpebepjfgnoaaaa
set_option linter.unusedVariables false
set_option linter.unusedSimpArgs false
open Go.RowKit
/-- the giver laid into the machine. -/
theorem al_gv {B : Nat} {W w : World} {R : List Grp} {m : Grp} {x y : Nat} {c : AlC} {v : AlV} (g : StV) (hv : v.gv = none) (h : Owns B W w (machG 114 y c.t c.s g.nx g.sl g.wd g.tw :: m :: alG x c v :: R)) :
    Owns B W (w.setCell ⟨x, 1, none⟩ (.pointer (some ⟨y, 0, none⟩))) (m :: alG x { c with gp := y } { v with gv := some g } :: R) := by
  have h1 := h.set 2 0 rfl rfl 1 (.pointer (some ⟨y, 0, none⟩))
  refine h1.flat ?_
  simp only [List.set_cons_zero, List.set_cons_succ, List.flatten_cons, alG, machG, hv, gvL, List.cons_append, List.nil_append]
  refine List.Perm.trans List.perm_middle.symm (List.Perm.append_left m ?_)
  exact (List.Perm.swap _ _ _).trans ((List.Perm.swap _ _ _).cons _)
set_option maxRecDepth 100000 in
set_option maxHeartbeats 8000000 in
theorem al_front {B : Nat} {W w : World} {R0 : List Grp} {x p bw bb : Nat} {ws bs : List Int} {n : Int} {c : AlC} {v : AlV} (hP : Owns B W w (memG p bw bb ws bs n :: alG x c v :: R0)) (hg : v.gv = none) (hL : lOk c.t c.s) (hl : ws.length ≤ 4096) (f : Int) (hf : wAt ws (lOnce c.t 0) = f) (R : AlV) (hR : R = alFront c f v) :
    Calls Try.prog 69 #[.pointer (some ⟨x, 0, none⟩), memI p] w fun r w' => r = .returned (.tuple #[]) ∧ ∃ m y, Owns B W w' (memG p bw bb ws bs m :: alG x { c with gp := y } R :: R0) := by
  have ns := nil_Load (some ⟨p, 0, none⟩)
  obtain ⟨ov, ho⟩ : ∃ o, lOnce c.t 0 = o := ⟨_, rfl⟩
  rw [ho] at hf
  obtain ⟨z, hz⟩ : ∃ z, wrap64 (c.ar - c.by') = z := ⟨_, rfl⟩
  have wr := (i64w (c.ar - c.by')).trans hz
  obtain ⟨d1, hd1⟩ : ∃ d, decide (f < 0) = d := ⟨_, rfl⟩
  obtain ⟨d2, hd2⟩ : ∃ d, decide (z < f) = d := ⟨_, rfl⟩
  have HR := Lib.hid (show R = if (d1 || d2) = true then { v with f := f, nx := 6, kp := 10, gv := some ⟨1, v.sl, 0, 0⟩ } else { v with f := f, nx := 5 } by rw [hR]; unfold alFront alNoRoom; rw [hz, hd1, hd2])
  have HO := Lib.hid ho
  have HF := Lib.hid hf
  have HL := Lib.hid hL
  have HG := Lib.hid hg
  clear ho hf hL hR hz hg
  go_enter Try.func69, Try.ntmps69
  unfold memI at *
  go_wp2_with fail
  have hO' := hP.drew; clear hP; have hP := hO'; clear hO'
  obtain ⟨c2, c3, c4, c5, c6, c7, c8, c9, c10, c11, c12, c13, c14, c15, cz⟩ := al_cells (j := 1) hP rfl
  first
    | go_loud (go_region_held3 (fun w => w.cell? ⟨x, 2, none⟩ = some (.int .i64 c.t) ∧ w.cell? ⟨x, 3, none⟩ = some (.int .i64 c.s)) (first | (with_reducible exact ⟨c2, c3⟩) | exact ⟨(cell_off (by decide)).trans c2, (cell_off (by decide)).trans c3⟩ | exact ⟨(cell_off (by decide)).trans ((cell_off (by decide)).trans c2), (cell_off (by decide)).trans ((cell_off (by decide)).trans c3)⟩) (first | (go_at_call 15; refine (layout_Frontier _ _ _ HL.out).mono ?_; rw [HO.out]; rintro e w7 ⟨rfl, hb⟩; have hO' := hP.via hb; clear hP; have hP := hO'; clear hO'; clear c2 c3 c4 c5 c6 c7 c8 c9 c10 c11 c12 c13 c14 c15 cz; obtain ⟨c2, c3, c4, c5, c6, c7, c8, c9, c10, c11, c12, c13, c14, c15, cz⟩ := al_cells (j := 1) hP rfl) | (go_at_call 43; refine (plain_Load 0 _ hP rfl hl).mono ?_; rw [HF.out]; rintro e w7 ⟨rfl, hO'⟩; clear hP; have hP := hO'; clear hO'; (try simp only [List.set_cons_zero, List.set_cons_succ] at hP); clear c2 c3 c4 c5 c6 c7 c8 c9 c10 c11 c12 c13 c14 c15 cz; obtain ⟨c2, c3, c4, c5, c6, c7, c8, c9, c10, c11, c12, c13, c14, c15, cz⟩ := al_cells (j := 1) hP rfl; have y11 := al_free (j := 1) hP rfl 11; have y7 := al_free (j := 1) hP rfl 7)))
    | fail "load"
  all_goals
    have h1 := al_set (j := 1) hP rfl 11 (.int .i64 f) { v with f := f } rfl rfl rfl
    have hO' := al_set (j := 1) h1 rfl 7 (.int .i64 5) { v with f := f, nx := 5 } rfl rfl rfl
    clear h1 y11 y7; clear hP; have hP := hO'; clear hO'; (try simp only [List.set_cons_zero, List.set_cons_succ] at hP)
    clear c2 c3 c4 c5 c6 c7 c8 c9 c10 c11 c12 c13 c14 c15 cz; obtain ⟨c2, c3, c4, c5, c6, c7, c8, c9, c10, c11, c12, c13, c14, c15, cz⟩ := al_cells (j := 1) hP rfl
    generalize World.setCell (World.setCell _ _ _) _ _ = w8 at hP c2 c3 c4 c5 c6 c7 c8 c9 c10 c11 c12 c13 c14 c15 cz ⊢
    cases d1 <;> cases d2
    case false.false =>
      have e : R = { v with f := f, nx := 5 } := HR.out
      subst e
      go_wp2_with fail
      go_quiet (fail)
      have hO' := hP.drewN nq; clear hP; have hP := hO'; clear hO'
      go_wp2_with fail
      go_end0
      exact ⟨rfl, _, c.gp, hP⟩
    all_goals
      have e : R = { v with f := f, nx := 6, kp := 10, gv := some ⟨1, v.sl, 0, 0⟩ } := HR.out
      subst e
      go_wp2_with fail
      go_quiet (fail)
      have hO' := hP.drewN nq; clear hP; have hP := hO'; clear hO'
      generalize World.drewN _ _ = w9 at hP ⊢
      clear c2 c3 c4 c5 c6 c7 c8 c9 c10 c11 c12 c13 c14 c15 cz; obtain ⟨c2, c3, c4, c5, c6, c7, c8, c9, c10, c11, c12, c13, c14, c15, cz⟩ := al_cells (j := 1) hP rfl
      go_wp2_with fail
      have hO' := hP.drew; clear hP; have hP := hO'; clear hO'
      clear c2 c3 c4 c5 c6 c7 c8 c9 c10 c11 c12 c13 c14 c15 cz; obtain ⟨c2, c3, c4, c5, c6, c7, c8, c9, c10, c11, c12, c13, c14, c15, cz⟩ := al_cells (j := 1) hP rfl
      first
        | go_loud (go_region_held3 (fun w => w.cell? ⟨x, 2, none⟩ = some (.int .i64 c.t) ∧ w.cell? ⟨x, 3, none⟩ = some (.int .i64 c.s) ∧ w.cell? ⟨x, 10, none⟩ = some (.int .i64 v.sl)) (first | (with_reducible exact ⟨c2, c3, c10⟩) | exact ⟨(cell_off (by decide)).trans c2, (cell_off (by decide)).trans c3, (cell_off (by decide)).trans c10⟩) ((go_at_call 35; refine (stack_NewPush _ _ _ hP).mono ?_; rintro e w7 ⟨y, rfl, hO'⟩; clear hP; have hP := hO'; clear hO'; clear c2 c3 c4 c5 c6 c7 c8 c9 c10 c11 c12 c13 c14 c15 cz; obtain ⟨c2, c3, c4, c5, c6, c7, c8, c9, c10, c11, c12, c13, c14, c15, cz⟩ := al_cells (j := 2) hP rfl; have c1 := al_cell (j := 2) hP rfl 1; have y1 := al_free (j := 2) hP rfl 1)))
        | fail "push"
      all_goals
        have hO' := al_gv (c := c) (v := { v with f := f, nx := 5 }) ⟨1, v.sl, 0, 0⟩ HG.out hP; clear hP; have hP := hO'; clear hO'
        clear y1 c1
        clear c2 c3 c4 c5 c6 c7 c8 c9 c10 c11 c12 c13 c14 c15 cz
        generalize World.setCell _ _ _ = w8 at hP ⊢
        go_wp2_with (go_at_call 88; refine (al_fail 1 10 6 hP rfl).mono ?_; rintro e w3 ⟨rfl, hO'⟩; clear hP; have hP := hO'; clear hO')
        go_end0
        exact ⟨rfl, _, _, hP⟩
end Go.Proofs.Ytpebepjfgnoaaaa
