/- The walks of free's machine: Step, Gives. -/
import Derived.RegionTactic
import Derived.BigRegion
import Derived.Deep.RegionHeld3
import Derived.Outline
import Derived.Deep.DeepCutAuto
import Derived.Deep.QuietTactic
import Derived.BigQuiet
import Derived.Test.YtpebepjfgnoaaaaGreatFrW
namespace Go.Proofs.YtpebepjfgnoaaaaGreat
set_option linter.unusedVariables false
set_option linter.unusedSimpArgs false
open Go.RowKit
set_option maxRecDepth 100000 in
theorem fr_nil (m : Value) (w : World) : Calls Tryz.prog 10 #[.pointer none, m] w fun e w' => e = .returned (resV (1, 0) true) ∧ Below w.heap.size w w' := by
  go_enter Tryz.func10, Tryz.ntmps10
  go_wp2
  exact bodyPost_ret (v := .tuple #[.agg #[.int .i64 1, .int .i64 0], .bool true]) (by simp [results, Tryz.results10, go_sem]) rfl ⟨rfl, by (repeat' (first | (with_reducible exact Below.refl _ _) | (with_reducible assumption) | (with_reducible refine below_drewN ?_ _) | (with_reducible refine Below.drew ?_) | (with_reducible refine Below.alloc ?_ ?_ _) | (with_reducible refine Below.setCell ?_ ?_ _) | (with_reducible refine below_via (by assumption) ?_ ?_) | go_size))⟩
set_option maxRecDepth 100000 in
theorem fr_none (a : Addr) (w : World) : Calls Tryz.prog 10 #[.pointer (some a), .nilIface] w fun e w' => e = .returned (resV (1, 0) true) ∧ Below w.heap.size w w' := by
  go_enter Tryz.func10, Tryz.ntmps10
  go_wp2
  exact bodyPost_ret (v := .tuple #[.agg #[.int .i64 1, .int .i64 0], .bool true]) (by simp [results, Tryz.results10, go_sem]) rfl ⟨rfl, by (repeat' (first | (with_reducible exact Below.refl _ _) | (with_reducible assumption) | (with_reducible refine below_drewN ?_ _) | (with_reducible refine Below.drew ?_) | (with_reducible refine Below.alloc ?_ ?_ _) | (with_reducible refine Below.setCell ?_ ?_ _) | (with_reducible refine below_via (by assumption) ?_ ?_) | go_size))⟩
theorem fr_Gives_nil (w : World) : Calls Tryz.prog 12 #[.pointer none] w fun e w' => e = .returned (.tuple #[.int .i64 0, .bool false]) ∧ w = w' := by
  go_enter Tryz.func12, Tryz.ntmps12
  go_wp2
  go_ret2
  exact ⟨rfl, rfl⟩
set_option maxHeartbeats 2000000 in
theorem fr_Gives {B : Nat} {W w : World} {G : List Grp} (j : Nat) {x : Nat} {c : FrC} {v : FrV} (hO : Owns B W w G) (hj : G[j]? = some (frG x c v)) : Calls Tryz.prog 12 #[.pointer (some ⟨x, 0, none⟩)] w fun e w' => e = .returned (.tuple #[.int .i64 (if v.nx = 3 then c.sl else 0), .bool (decide (v.nx = 3))]) ∧ w = w' := by
  obtain ⟨c0, c1, c2, c3, c4, c5, c6, c7, c8, c9, cz⟩ := fr_cells hO hj
  by_cases h : v.nx = 3
  · have e : (v.nx != 3) = false := by rw [h]; rfl
    have H := Lib.hid h
    rw [if_pos h, decide_eq_true h]
    clear h
    go_enter Tryz.func12, Tryz.ntmps12
    go_wp2
    go_ret2
    exact ⟨rfl, rfl⟩
  · have e : (v.nx != 3) = true := by simpa using h
    rw [if_neg h, decide_eq_false h]
    clear h
    go_enter Tryz.func12, Tryz.ntmps12
    go_wp2
    go_ret2
    exact ⟨rfl, rfl⟩
set_option maxRecDepth 100000 in
set_option maxHeartbeats 8000000 in
theorem fr_Step_0 {B : Nat} {W w : World} {R0 : List Grp} {x p bw bb : Nat} {ws bs : List Int} {n : Int} {c : FrC} {v : FrV} (hP : Owns B W w (memG p bw bb ws bs n :: frG x c v :: R0)) (hn : v.nx = 0) : Calls Tryz.prog 10 #[.pointer (some ⟨x, 0, none⟩), memI p] w (FrPost B W R0 x p bw bb bs c ⟨ws, v, 1, true⟩) := by
  have e0 : (v.nx == 0) = true := by rw [hn]; rfl
  clear hn
  obtain ⟨c0, c1, c2, c3, c4, c5, c6, c7, c8, c9, cz⟩ := fr_cells (j := 1) hP rfl
  go_enter Tryz.func10, Tryz.ntmps10
  unfold memI at *
  go_wp2
  exact bodyPost_ret (v := .tuple #[.agg #[.int .i64 1, .int .i64 0], .bool true]) (by simp [results, Tryz.results10, go_sem]) rfl ⟨rfl, n, c.gp, hP.via (by (repeat' (first | (with_reducible exact Below.refl _ _) | (with_reducible assumption) | (with_reducible refine below_drewN ?_ _) | (with_reducible refine Below.drew ?_) | (with_reducible refine Below.alloc ?_ ?_ _) | (with_reducible refine Below.setCell ?_ ?_ _) | (with_reducible refine below_via (by assumption) ?_ ?_) | go_size)))⟩
set_option maxRecDepth 100000 in
set_option maxHeartbeats 8000000 in
theorem fr_Step_1 {B : Nat} {W w : World} {R0 : List Grp} {x p bw bb : Nat} {ws bs : List Int} {n : Int} {c : FrC} {v : FrV} (hP : Owns B W w (memG p bw bb ws bs n :: frG x c v :: R0)) (hn : v.nx = 1) (R : FrV × Int × Bool) (ht : ∀ {w2 : World} {R2 : List Grp}, Owns B W w2 (memG p bw bb ws bs n :: frG x c v :: R2) → Calls Tryz.prog 29 #[.pointer (some ⟨x, 0, none⟩), memI p] w2 (FrLook B W R2 x p bw bb ws bs c R)) :
    Calls Tryz.prog 10 #[.pointer (some ⟨x, 0, none⟩), memI p] w (FrPost B W R0 x p bw bb bs c ⟨ws, R.1, R.2.1, R.2.2⟩) := by
  have e0 : (v.nx == 0) = false := by rw [hn]; rfl
  have e1 : (v.nx == 1) = true := by rw [hn]; rfl
  have HT := Lib.hid (fun (w2 : World) (R2 : List Grp) (k : Owns B W w2 (memG p bw bb ws bs n :: frG x c v :: R2)) => ht k)
  obtain ⟨rv, cd, dn⟩ := R
  clear hn ht
  obtain ⟨c0, c1, c2, c3, c4, c5, c6, c7, c8, c9, cz⟩ := fr_cells (j := 1) hP rfl
  go_enter Tryz.func10, Tryz.ntmps10
  unfold memI at *
  go_wp2_with (go_at_call 29; refine stop_here ?_)
  unfold Stop
  have hO' := (hP.alloc (.cells #[.int .i64 0, .int .i64 0] 43)).last; clear hP; have hP := hO'; clear hO'; generalize w.alloc (.cells #[.int .i64 0, .int .i64 0] 43) = w1 at hP ⊢; generalize w.heap.size = rb at hP ⊢; clear c0 c1 c2 c3 c4 c5 c6 c7 c8 c9 cz
  refine (HT.out _ _ hP).mono ?_
  unfold FrLook
  simp only [resV]
  rintro e w2 ⟨rfl, m, hO'⟩; clear hP; have hP := hO'; clear hO'
  have hO' := Owns.perm hP (List.perm_append_singleton _ (_ :: _ :: R0)); clear hP; have hP := hO'; clear hO'
  have rz := hP.lt 0 0 rfl rfl; have rd0 : _ = some (Value.int .i64 0) := hP.cell 0 0 rfl rfl 0; have rd1 : _ = some (Value.int .i64 0) := hP.cell 0 0 rfl rfl 1; have rf0 := blk_free (hP.get 0 0 rfl rfl) 0; have rf1 := blk_free (hP.get 0 0 rfl rfl) 1
  go_wp2_with fail; generalize hw : World.setCell (World.setCell _ _ _) _ _ = wz; have hO4 : Owns B W wz _ := hw ▸ res_set2 hP (.int .i64 cd) (.int .i64 0); clear hw; have e0 := hO4.cell 0 0 rfl rfl 0; have e1 := hO4.cell 0 0 rfl rfl 1; exact bodyPost_ret (v := .tuple #[.agg #[.int .i64 cd, .int .i64 0], .bool dn]) (by simp [results, Tryz.results10, go_sem, e0, e1]) rfl ⟨rfl, _, c.gp, hO4.tail⟩
set_option maxRecDepth 100000 in
set_option maxHeartbeats 8000000 in
theorem fr_Step_2 {B : Nat} {W w : World} {R0 : List Grp} {x p bw bb : Nat} {ws bs : List Int} {n : Int} {c : FrC} {v : FrV} (hP : Owns B W w (memG p bw bb ws bs n :: frG x c v :: R0)) (hn : v.nx = 2) (q : FrR) (ht : ∀ {w2 : World} {R2 : List Grp}, Owns B W w2 (memG p bw bb ws bs n :: frG x c v :: R2) → Calls Tryz.prog 30 #[.pointer (some ⟨x, 0, none⟩), memI p] w2 (FrPost B W R2 x p bw bb bs c q)) :
    Calls Tryz.prog 10 #[.pointer (some ⟨x, 0, none⟩), memI p] w (FrPost B W R0 x p bw bb bs c q) := by
  have e0 : (v.nx == 0) = false := by rw [hn]; rfl
  have e1 : (v.nx == 1) = false := by rw [hn]; rfl
  have e2 : (v.nx == 2) = true := by rw [hn]; rfl
  have HT := Lib.hid (fun (w2 : World) (R2 : List Grp) (k : Owns B W w2 (memG p bw bb ws bs n :: frG x c v :: R2)) => ht k)
  obtain ⟨qws, qv, cd, dn⟩ := q
  clear hn ht
  obtain ⟨c0, c1, c2, c3, c4, c5, c6, c7, c8, c9, cz⟩ := fr_cells (j := 1) hP rfl
  go_enter Tryz.func10, Tryz.ntmps10
  unfold memI at *
  go_wp2_with (go_at_call 30; refine stop_here ?_)
  unfold Stop
  have hO' := (hP.alloc (.cells #[.int .i64 0, .int .i64 0] 43)).last; clear hP; have hP := hO'; clear hO'; generalize w.alloc (.cells #[.int .i64 0, .int .i64 0] 43) = w1 at hP ⊢; generalize w.heap.size = rb at hP ⊢; clear c0 c1 c2 c3 c4 c5 c6 c7 c8 c9 cz
  refine (HT.out _ _ hP).mono ?_
  unfold FrPost
  simp only [resV]
  rintro e w2 ⟨rfl, m, y, hO'⟩; clear hP; have hP := hO'; clear hO'
  have hO' := Owns.perm hP (List.perm_append_singleton _ (_ :: _ :: R0)); clear hP; have hP := hO'; clear hO'
  have rz := hP.lt 0 0 rfl rfl; have rd0 : _ = some (Value.int .i64 0) := hP.cell 0 0 rfl rfl 0; have rd1 : _ = some (Value.int .i64 0) := hP.cell 0 0 rfl rfl 1; have rf0 := blk_free (hP.get 0 0 rfl rfl) 0; have rf1 := blk_free (hP.get 0 0 rfl rfl) 1
  go_wp2_with fail; generalize hw : World.setCell (World.setCell _ _ _) _ _ = wz; have hO4 : Owns B W wz _ := hw ▸ res_set2 hP (.int .i64 cd) (.int .i64 0); clear hw; have e0 := hO4.cell 0 0 rfl rfl 0; have e1 := hO4.cell 0 0 rfl rfl 1; exact bodyPost_ret (v := .tuple #[.agg #[.int .i64 cd, .int .i64 0], .bool dn]) (by simp [results, Tryz.results10, go_sem, e0, e1]) rfl ⟨rfl, _, y, hO4.tail⟩
set_option maxRecDepth 100000 in
set_option maxHeartbeats 8000000 in
theorem fr_Step_3 {B : Nat} {W w : World} {R0 : List Grp} {x p bw bb : Nat} {ws bs : List Int} {n : Int} {c : FrC} {v : FrV} (hP : Owns B W w (memG p bw bb ws bs n :: frG x c v :: R0)) (hn : v.nx = 3) (g : StV) (hg : v.gv = some g) (hL : lOk c.t c.s) (hl : ws.length ≤ 4096) (q : FrR) (hq : q = if (pushStep c.t c.s ws g.nx g.sl g.wd g.tw).done = true then ⟨(pushStep c.t c.s ws g.nx g.sl g.wd g.tw).ws, { v with nx := 0, gv := some ⟨(pushStep c.t c.s ws g.nx g.sl g.wd g.tw).nx, (pushStep c.t c.s ws g.nx g.sl g.wd g.tw).sl, (pushStep c.t c.s ws g.nx g.sl g.wd g.tw).wd, (pushStep c.t c.s ws g.nx g.sl g.wd g.tw).to⟩ }, 0, true⟩ else ⟨(pushStep c.t c.s ws g.nx g.sl g.wd g.tw).ws, { v with gv := some ⟨(pushStep c.t c.s ws g.nx g.sl g.wd g.tw).nx, (pushStep c.t c.s ws g.nx g.sl g.wd g.tw).sl, (pushStep c.t c.s ws g.nx g.sl g.wd g.tw).wd, (pushStep c.t c.s ws g.nx g.sl g.wd g.tw).to⟩ }, 0, false⟩) :
    Calls Tryz.prog 10 #[.pointer (some ⟨x, 0, none⟩), memI p] w (FrPost B W R0 x p bw bb bs c q) := by
  have n0 : (v.nx == 0) = false := by rw [hn]; rfl
  have n1 : (v.nx == 1) = false := by rw [hn]; rfl
  have n2 : (v.nx == 2) = false := by rw [hn]; rfl
  obtain ⟨⟨ws', pnx, psl, pwd, pto, pr, pe, dn⟩, hp⟩ : ∃ q, pushStep c.t c.s ws g.nx g.sl g.wd g.tw = q := ⟨_, rfl⟩
  rw [hp] at hq
  simp only at hq
  have HR := Lib.hid hq
  have HQ := Lib.hid hp
  have HL := Lib.hid hL
  have HG := Lib.hid hg
  have t9 : w.cell? ⟨x, 9, none⟩ = some (.pointer (some ⟨c.gp, 0, none⟩)) := by have := fr_cell (j := 1) hP rfl 9; rw [show (frArr c v)[9]? = some (gvPtr c.gp v.gv) from rfl, hg] at this; exact this
  have t5 : w.cell? ⟨x, 5, none⟩ = some (.int .i64 v.nx) := fr_cell (j := 1) hP rfl 5
  have cz := fr_lt (j := 1) hP rfl
  clear hq hp hL hg hn
  have HT := Lib.hid (fun (w2 : World) (R2 : List Grp) (k : Owns B W w2 (memG p bw bb ws bs n :: frG x c v :: R2)) => (push_Step 0 1 (by decide) ((fr_giver HG.out).1 k) rfl rfl HL.out hl).mono (R' := fun r w' => r = .returned (.tuple #[.int .i64 pe, .bool dn]) ∧ ∃ m, Owns B W w' (memG p bw bb ws' bs m :: frG x c { v with gv := some ⟨pnx, psl, pwd, pto⟩ } :: R2)) (by
    rw [HQ.out]
    rintro r w' ⟨hr, m, hO⟩
    refine ⟨hr, m, (fr_giver (v := { v with gv := some ⟨pnx, psl, pwd, pto⟩ }) rfl).2 ?_⟩
    rw [show frArr c { v with gv := some ⟨pnx, psl, pwd, pto⟩ } = frArr c v by unfold frArr; rw [HG.out]; rfl]
    exact hO))
  go_enter Tryz.func10, Tryz.ntmps10
  unfold memI at *
  go_wp2_with (go_at_call 31; refine stop_here ?_)
  unfold Stop
  clear t5 t9 cz
  have hO' := (hP.alloc (.cells #[.int .i64 0, .int .i64 0] 43)).last; clear hP; have hP := hO'; clear hO'
  generalize w.alloc (.cells #[.int .i64 0, .int .i64 0] 43) = w1 at hP ⊢
  generalize w.heap.size = rb at hP ⊢
  refine (HT.out _ _ hP).mono ?_
  rintro e w2 ⟨rfl, m, hO'⟩; clear hP; have hP := hO'; clear hO'
  have hO' := Owns.perm hP (List.perm_append_singleton _ (_ :: _ :: R0)); clear hP; have hP := hO'; clear hO'
  cases dn
  case false =>
    have e : q = ⟨ws', { v with gv := some ⟨pnx, psl, pwd, pto⟩ }, 0, false⟩ := HR.out
    subst e
    have rz := hP.lt 0 0 rfl rfl; have rd0 : _ = some (Value.int .i64 0) := hP.cell 0 0 rfl rfl 0; have rd1 : _ = some (Value.int .i64 0) := hP.cell 0 0 rfl rfl 1; have rf0 := blk_free (hP.get 0 0 rfl rfl) 0; have rf1 := blk_free (hP.get 0 0 rfl rfl) 1
    go_wp2_with fail; generalize hw : World.setCell (World.setCell _ _ _) _ _ = wz; have hO4 : Owns B W wz _ := hw ▸ res_set2 hP (.int .i64 0) (.int .i64 0); clear hw; have e0 := hO4.cell 0 0 rfl rfl 0; have e1 := hO4.cell 0 0 rfl rfl 1; exact bodyPost_ret (v := .tuple #[.agg #[.int .i64 0, .int .i64 0], .bool false]) (by simp [results, Tryz.results10, go_sem, e0, e1]) rfl ⟨rfl, _, c.gp, hO4.tail⟩
  case true =>
    have e : q = ⟨ws', { v with nx := 0, gv := some ⟨pnx, psl, pwd, pto⟩ }, 0, true⟩ := HR.out
    subst e
    go_wp2_with (go_at_call 32; refine (fr_end 2 0 hP rfl).mono ?_; simp only [resV]; rintro e w3 ⟨rfl, hO'⟩; clear hP; have hP := hO'; clear hO'; (try simp only [List.set_cons_zero, List.set_cons_succ] at hP); have rz := hP.lt 0 0 rfl rfl; have rd0 : _ = some (Value.int .i64 0) := hP.cell 0 0 rfl rfl 0; have rd1 : _ = some (Value.int .i64 0) := hP.cell 0 0 rfl rfl 1; have rf0 := blk_free (hP.get 0 0 rfl rfl) 0; have rf1 := blk_free (hP.get 0 0 rfl rfl) 1)
    go_wp2_with fail; generalize hw : World.setCell (World.setCell _ _ _) _ _ = wz; have hO4 : Owns B W wz _ := hw ▸ res_set2 hP (.int .i64 0) (.int .i64 0); clear hw; have e0 := hO4.cell 0 0 rfl rfl 0; have e1 := hO4.cell 0 0 rfl rfl 1; exact bodyPost_ret (v := .tuple #[.agg #[.int .i64 0, .int .i64 0], .bool true]) (by simp [results, Tryz.results10, go_sem, e0, e1]) rfl ⟨rfl, _, c.gp, hO4.tail⟩
end Go.Proofs.YtpebepjfgnoaaaaGreat
