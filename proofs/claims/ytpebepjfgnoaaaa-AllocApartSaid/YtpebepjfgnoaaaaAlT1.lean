/- The walk of alloc's Step, first half. -/
import Derived.RegionTactic
import Derived.BigRegion
import Derived.Deep.RegionHeld3
import Derived.Outline
import Derived.Deep.DeepCutAuto
import Derived.Deep.QuietTactic
import Derived.BigQuiet
import Derived.Test.YtpebepjfgnoaaaaAlS
import Derived.Test.YtpebepjfgnoaaaaAlF
import Derived.Test.YtpebepjfgnoaaaaAlK
namespace Go.Proofs.Ytpebepjfgnoaaaa
set_option linter.unusedVariables false
set_option linter.unusedSimpArgs false
open Go.RowKit
set_option maxRecDepth 100000 in
set_option maxHeartbeats 8000000 in
theorem al_Step_0 {B : Nat} {W w : World} {R0 : List Grp} {x p bw bb : Nat} {ws bs : List Int} {n : Int} {c : AlC} {v : AlV} (hP : Owns B W w (memG p bw bb ws bs n :: alG x c v :: R0)) (hL : lOk c.t c.s) (hl : ws.length ≤ 4096) (hbl : bs.length ≤ 4096) (hn : v.nx = 0) : Calls Try.prog 40 #[.pointer (some ⟨x, 0, none⟩), memI p] w (AlPost B W R0 x p bw bb c ⟨ws, bs, v, 1, 0, true⟩) := by
  have n0 : (v.nx == 0) = true := by rw [hn]; rfl
  clear hn
  have _u := And.intro hL (And.intro hl hbl)
  obtain ⟨c2, c3, c4, c5, c6, c7, c8, c9, c10, c11, c12, c13, c14, c15, cz⟩ := al_cells (j := 1) hP rfl
  go_enter Try.func40, Try.ntmps40
  unfold memI at *
  go_wp2
  exact bodyPost_ret (v := .tuple #[.agg #[.int .i64 1, .int .i64 0], .bool true]) (by simp [results, Try.results40, go_sem]) rfl ⟨rfl, n, c.gp, hP.via (by (repeat' (first | (with_reducible exact Below.refl _ _) | (with_reducible assumption) | (with_reducible refine below_drewN ?_ _) | (with_reducible refine Below.drew ?_) | (with_reducible refine Below.alloc ?_ ?_ _) | (with_reducible refine Below.setCell ?_ ?_ _) | (with_reducible refine below_via (by assumption) ?_ ?_) | go_size)))⟩
set_option maxRecDepth 100000 in
set_option maxHeartbeats 8000000 in
theorem al_Step_1 {B : Nat} {W w : World} {R0 : List Grp} {x p bw bb : Nat} {ws bs : List Int} {n : Int} {c : AlC} {v : AlV} (hP : Owns B W w (memG p bw bb ws bs n :: alG x c v :: R0)) (hL : lOk c.t c.s) (hl : ws.length ≤ 4096) (hbl : bs.length ≤ 4096) (hn : v.nx = 1) (hb : c.by' = 0) : Calls Try.prog 40 #[.pointer (some ⟨x, 0, none⟩), memI p] w (AlPost B W R0 x p bw bb c ⟨ws, bs, { v with nx := 0 }, 9, 0, true⟩) := by
  have n0 : (v.nx == 0) = false := by rw [hn]; rfl
  have n1 : (v.nx == 1) = true := by rw [hn]; rfl
  clear hn
  have _u := And.intro hL (And.intro hl hbl)
  have hb0 : (c.by' == 0) = true := by rw [hb]; rfl
  clear hb
  obtain ⟨c2, c3, c4, c5, c6, c7, c8, c9, c10, c11, c12, c13, c14, c15, cz⟩ := al_cells (j := 1) hP rfl
  go_enter Try.func40, Try.ntmps40
  unfold memI at *
  go_upto_region 3 with fail
  have hO' := (hP.alloc (.cells #[.int .i64 0, .int .i64 0] 79)); clear hP; have hP := hO'; clear hO'; generalize w.alloc (.cells #[.int .i64 0, .int .i64 0] 79) = w1 at hP ⊢; generalize w.heap.size = rb at hP ⊢; clear c2 c3 c4 c5 c6 c7 c8 c9 c10 c11 c12 c13 c14 c15 cz; obtain ⟨c2, c3, c4, c5, c6, c7, c8, c9, c10, c11, c12, c13, c14, c15, cz⟩ := al_cells (j := 2) hP rfl
  have y7 := al_free (j := 2) hP rfl 7
  go_upto_region 7 with fail
  have hO' := al_set (j := 2) hP rfl 7 (.int .i64 0) { v with nx := 0 } rfl rfl rfl; clear hP; have hP := hO'; clear hO'; (try simp only [List.set_cons_zero, List.set_cons_succ] at hP)
  generalize World.setCell _ _ _ = w8 at hP ⊢
  clear y7
  clear c2 c3 c4 c5 c6 c7 c8 c9 c10 c11 c12 c13 c14 c15 cz
  have rz := hP.lt 0 0 rfl rfl; have rd0 : _ = some (Value.int .i64 0) := hP.cell 0 0 rfl rfl 0; have rd1 : _ = some (Value.int .i64 0) := hP.cell 0 0 rfl rfl 1; have rf0 := blk_free (hP.get 0 0 rfl rfl) 0; have rf1 := blk_free (hP.get 0 0 rfl rfl) 1
  go_wp2_with fail
  generalize hw : World.setCell (World.setCell _ _ _) _ _ = wz
  have hO4 : Owns B W wz _ := hw ▸ res_set2 hP (.int .i64 9) (.int .i64 0)
  clear hw
  have e0 := hO4.cell 0 0 rfl rfl 0
  have e1 := hO4.cell 0 0 rfl rfl 1
  exact bodyPost_ret (v := .tuple #[.agg #[.int .i64 9, .int .i64 0], .bool true]) (by simp [results, Try.results40, go_sem, e0, e1]) rfl ⟨rfl, _, c.gp, hO4.tail⟩
set_option maxRecDepth 100000 in
set_option maxHeartbeats 8000000 in
theorem al_Step_1b {B : Nat} {W w : World} {R0 : List Grp} {x p bw bb : Nat} {ws bs : List Int} {n : Int} {c : AlC} {v : AlV} (hP : Owns B W w (memG p bw bb ws bs n :: alG x c v :: R0)) (hL : lOk c.t c.s) (hl : ws.length ≤ 4096) (hbl : bs.length ≤ 4096) (hn : v.nx = 1) (hb : c.by' ≠ 0) : Calls Try.prog 40 #[.pointer (some ⟨x, 0, none⟩), memI p] w (AlPost B W R0 x p bw bb c ⟨ws, bs, { v with seen := wAt ws (lOnce c.t 2), nx := 2 }, 0, 0, false⟩) := by
  have n0 : (v.nx == 0) = false := by rw [hn]; rfl
  have n1 : (v.nx == 1) = true := by rw [hn]; rfl
  clear hn
  have hb0 : (c.by' == 0) = false := by simpa using hb
  clear hb
  have ns := nil_Load (some ⟨p, 0, none⟩)
  obtain ⟨ov, ho⟩ : ∃ o, lOnce c.t 2 = o := ⟨_, rfl⟩
  obtain ⟨sn, hs⟩ : ∃ o, wAt ws ov = o := ⟨_, rfl⟩
  rw [ho, hs]
  have HO := Lib.hid ho
  have HS := Lib.hid hs
  have HL := Lib.hid hL
  have _u := hbl
  clear ho hs hL
  obtain ⟨c2, c3, c4, c5, c6, c7, c8, c9, c10, c11, c12, c13, c14, c15, cz⟩ := al_cells (j := 1) hP rfl
  go_enter Try.func40, Try.ntmps40
  unfold memI at *
  go_upto_region 3 with fail
  have hO' := (hP.alloc (.cells #[.int .i64 0, .int .i64 0] 79)); clear hP; have hP := hO'; clear hO'; generalize w.alloc (.cells #[.int .i64 0, .int .i64 0] 79) = w1 at hP ⊢; generalize w.heap.size = rb at hP ⊢; clear c2 c3 c4 c5 c6 c7 c8 c9 c10 c11 c12 c13 c14 c15 cz; obtain ⟨c2, c3, c4, c5, c6, c7, c8, c9, c10, c11, c12, c13, c14, c15, cz⟩ := al_cells (j := 2) hP rfl
  go_upto_region 8 with fail
  have hO' := hP.drew; clear hP; have hP := hO'; clear hO'
  clear c2 c3 c4 c5 c6 c7 c8 c9 c10 c11 c12 c13 c14 c15 cz; obtain ⟨c2, c3, c4, c5, c6, c7, c8, c9, c10, c11, c12, c13, c14, c15, cz⟩ := al_cells (j := 2) hP rfl
  first
    | go_loud (go_region_held3 (fun w => w.cell? ⟨x, 2, none⟩ = some (.int .i64 c.t) ∧ w.cell? ⟨x, 3, none⟩ = some (.int .i64 c.s)) (first | (with_reducible exact ⟨c2, c3⟩) | exact ⟨(cell_off (by decide)).trans c2, (cell_off (by decide)).trans c3⟩ | exact ⟨(cell_off (by decide)).trans ((cell_off (by decide)).trans c2), (cell_off (by decide)).trans ((cell_off (by decide)).trans c3)⟩) (first | (go_at_call 17; refine (layout_Pending _ _ _ HL.out).mono ?_; rw [HO.out]; rintro e w7 ⟨rfl, hb⟩; have hO' := hP.via hb; clear hP; have hP := hO'; clear hO'; clear c2 c3 c4 c5 c6 c7 c8 c9 c10 c11 c12 c13 c14 c15 cz; obtain ⟨c2, c3, c4, c5, c6, c7, c8, c9, c10, c11, c12, c13, c14, c15, cz⟩ := al_cells (j := 2) hP rfl) | (go_at_call 43; refine (plain_Load 1 _ hP rfl hl).mono ?_; rw [HS.out]; rintro e w7 ⟨rfl, hO'⟩; clear hP; have hP := hO'; clear hO'; (try simp only [List.set_cons_zero, List.set_cons_succ] at hP); clear c2 c3 c4 c5 c6 c7 c8 c9 c10 c11 c12 c13 c14 c15 cz; obtain ⟨c2, c3, c4, c5, c6, c7, c8, c9, c10, c11, c12, c13, c14, c15, cz⟩ := al_cells (j := 2) hP rfl; have y8 := al_free (j := 2) hP rfl 8; have y7 := al_free (j := 2) hP rfl 7)))
    | fail "seen"
  all_goals
    have h1 := al_set (j := 2) hP rfl 8 (.int .i64 sn) { v with seen := sn } rfl rfl rfl
    have hO' := al_set (j := 2) h1 rfl 7 (.int .i64 2) { v with seen := sn, nx := 2 } rfl rfl rfl
    clear h1 y8 y7; clear hP; have hP := hO'; clear hO'; (try simp only [List.set_cons_zero, List.set_cons_succ] at hP)
    clear c2 c3 c4 c5 c6 c7 c8 c9 c10 c11 c12 c13 c14 c15 cz
    generalize World.setCell (World.setCell _ _ _) _ _ = w8 at hP ⊢
    have rz := hP.lt 0 0 rfl rfl; have rd0 : _ = some (Value.int .i64 0) := hP.cell 0 0 rfl rfl 0; have rd1 : _ = some (Value.int .i64 0) := hP.cell 0 0 rfl rfl 1; have rf0 := blk_free (hP.get 0 0 rfl rfl) 0; have rf1 := blk_free (hP.get 0 0 rfl rfl) 1
    go_wp2_with fail; generalize hw : World.setCell (World.setCell _ _ _) _ _ = wz; have hO4 : Owns B W wz _ := hw ▸ res_set2 hP (.int .i64 0) (.int .i64 0); clear hw; have e0 := hO4.cell 0 0 rfl rfl 0; have e1 := hO4.cell 0 0 rfl rfl 1; exact bodyPost_ret (v := .tuple #[.agg #[.int .i64 0, .int .i64 0], .bool false]) (by simp [results, Try.results40, go_sem, e0, e1]) rfl ⟨rfl, _, c.gp, hO4.tail⟩
set_option maxRecDepth 100000 in
set_option maxHeartbeats 8000000 in
theorem al_Step_2 {B : Nat} {W w : World} {R0 : List Grp} {x p bw bb : Nat} {ws bs : List Int} {n : Int} {c : AlC} {v : AlV} (hP : Owns B W w (memG p bw bb ws bs n :: alG x c v :: R0)) (hL : lOk c.t c.s) (hl : ws.length ≤ 4096) (hbl : bs.length ≤ 4096) (hn : v.nx = 2) (R : List Int × AlV × Bool) (hR : R = alPend c ws v 1 1 3) : Calls Try.prog 40 #[.pointer (some ⟨x, 0, none⟩), memI p] w (AlPost B W R0 x p bw bb c ⟨R.1, bs, R.2.1, 0, 0, false⟩) := by
  have n0 : (v.nx == 0) = false := by rw [hn]; rfl
  have n1 : (v.nx == 1) = false := by rw [hn]; rfl
  have n2 : (v.nx == 2) = true := by rw [hn]; rfl
  clear hn
  have _u := And.intro hL (And.intro hl hbl)
  have HR := Lib.hid hR
  clear hR
  obtain ⟨c2, c3, c4, c5, c6, c7, c8, c9, c10, c11, c12, c13, c14, c15, cz⟩ := al_cells (j := 1) hP rfl
  go_enter Try.func40, Try.ntmps40
  unfold memI at *
  go_wp2_with (go_at_call 67; refine stop_here ?_)
  unfold Stop
  have hO' := (hP.alloc (.cells #[.int .i64 0, .int .i64 0] 79)).last; clear hP; have hP := hO'; clear hO'; generalize w.alloc (.cells #[.int .i64 0, .int .i64 0] 79) = w1 at hP ⊢; generalize w.heap.size = rb at hP ⊢; clear c2 c3 c4 c5 c6 c7 c8 c9 c10 c11 c12 c13 c14 c15 cz
  refine (al_pending hP 1 1 3 hL hl R HR.out).mono ?_
  rintro e w2 ⟨rfl, m, hO'⟩; clear hP; have hP := hO'; clear hO'
  have hO' := Owns.perm hP (List.perm_append_singleton _ (_ :: _ :: R0)); clear hP; have hP := hO'; clear hO'
  have rz := hP.lt 0 0 rfl rfl; have rd0 : _ = some (Value.int .i64 0) := hP.cell 0 0 rfl rfl 0; have rd1 : _ = some (Value.int .i64 0) := hP.cell 0 0 rfl rfl 1; have rf0 := blk_free (hP.get 0 0 rfl rfl) 0; have rf1 := blk_free (hP.get 0 0 rfl rfl) 1
  go_wp2_with fail; generalize hw : World.setCell (World.setCell _ _ _) _ _ = wz; have hO4 : Owns B W wz _ := hw ▸ res_set2 hP (.int .i64 0) (.int .i64 0); clear hw; have e0 := hO4.cell 0 0 rfl rfl 0; have e1 := hO4.cell 0 0 rfl rfl 1; exact bodyPost_ret (v := .tuple #[.agg #[.int .i64 0, .int .i64 0], .bool false]) (by simp [results, Try.results40, go_sem, e0, e1]) rfl ⟨rfl, _, c.gp, hO4.tail⟩
set_option maxRecDepth 100000 in
set_option maxHeartbeats 8000000 in
theorem al_Step_3 {B : Nat} {W w : World} {R0 : List Grp} {x p bw bb : Nat} {ws bs : List Int} {n : Int} {c : AlC} {v : AlV} (hP : Owns B W w (memG p bw bb ws bs n :: alG x c v :: R0)) (hL : lOk c.t c.s) (hl : ws.length ≤ 4096) (hbl : bs.length ≤ 4096) (hn : v.nx = 3) (R : List Int × AlV) (hR : R = alTake c ws v) : Calls Try.prog 40 #[.pointer (some ⟨x, 0, none⟩), memI p] w (AlPost B W R0 x p bw bb c ⟨R.1, bs, R.2, 0, 0, false⟩) := by
  have n0 : (v.nx == 0) = false := by rw [hn]; rfl
  have n1 : (v.nx == 1) = false := by rw [hn]; rfl
  have n2 : (v.nx == 2) = false := by rw [hn]; rfl
  have n3 : (v.nx == 3) = true := by rw [hn]; rfl
  clear hn
  have _u := And.intro hL (And.intro hl hbl)
  have HR := Lib.hid hR
  clear hR
  obtain ⟨c2, c3, c4, c5, c6, c7, c8, c9, c10, c11, c12, c13, c14, c15, cz⟩ := al_cells (j := 1) hP rfl
  go_enter Try.func40, Try.ntmps40
  unfold memI at *
  go_wp2_with (go_at_call 68; refine stop_here ?_)
  unfold Stop
  have hO' := (hP.alloc (.cells #[.int .i64 0, .int .i64 0] 79)).last; clear hP; have hP := hO'; clear hO'; generalize w.alloc (.cells #[.int .i64 0, .int .i64 0] 79) = w1 at hP ⊢; generalize w.heap.size = rb at hP ⊢; clear c2 c3 c4 c5 c6 c7 c8 c9 c10 c11 c12 c13 c14 c15 cz
  refine (al_take hP hL hl R HR.out).mono ?_
  rintro e w2 ⟨rfl, m, hO'⟩; clear hP; have hP := hO'; clear hO'
  have hO' := Owns.perm hP (List.perm_append_singleton _ (_ :: _ :: R0)); clear hP; have hP := hO'; clear hO'
  have rz := hP.lt 0 0 rfl rfl; have rd0 : _ = some (Value.int .i64 0) := hP.cell 0 0 rfl rfl 0; have rd1 : _ = some (Value.int .i64 0) := hP.cell 0 0 rfl rfl 1; have rf0 := blk_free (hP.get 0 0 rfl rfl) 0; have rf1 := blk_free (hP.get 0 0 rfl rfl) 1
  go_wp2_with fail; generalize hw : World.setCell (World.setCell _ _ _) _ _ = wz; have hO4 : Owns B W wz _ := hw ▸ res_set2 hP (.int .i64 0) (.int .i64 0); clear hw; have e0 := hO4.cell 0 0 rfl rfl 0; have e1 := hO4.cell 0 0 rfl rfl 1; exact bodyPost_ret (v := .tuple #[.agg #[.int .i64 0, .int .i64 0], .bool false]) (by simp [results, Try.results40, go_sem, e0, e1]) rfl ⟨rfl, _, c.gp, hO4.tail⟩
set_option maxRecDepth 100000 in
set_option maxHeartbeats 8000000 in
theorem al_Step_4 {B : Nat} {W w : World} {R0 : List Grp} {x p bw bb : Nat} {ws bs : List Int} {n : Int} {c : AlC} {v : AlV} (hP : Owns B W w (memG p bw bb ws bs n :: alG x c v :: R0)) (hL : lOk c.t c.s) (hl : ws.length ≤ 4096) (hbl : bs.length ≤ 4096) (hn : v.nx = 4) (hg : v.gv = none) (R : AlV) (hR : R = alFront c (wAt ws (lOnce c.t 0)) v) : Calls Try.prog 40 #[.pointer (some ⟨x, 0, none⟩), memI p] w (AlPost B W R0 x p bw bb c ⟨ws, bs, R, 0, 0, false⟩) := by
  have n0 : (v.nx == 0) = false := by rw [hn]; rfl
  have n1 : (v.nx == 1) = false := by rw [hn]; rfl
  have n2 : (v.nx == 2) = false := by rw [hn]; rfl
  have n3 : (v.nx == 3) = false := by rw [hn]; rfl
  have n4 : (v.nx == 4) = true := by rw [hn]; rfl
  clear hn
  have _u := And.intro hL (And.intro hl hbl)
  have HR := Lib.hid hR
  have HG := Lib.hid hg
  clear hR hg
  obtain ⟨c2, c3, c4, c5, c6, c7, c8, c9, c10, c11, c12, c13, c14, c15, cz⟩ := al_cells (j := 1) hP rfl
  go_enter Try.func40, Try.ntmps40
  unfold memI at *
  go_wp2_with (go_at_call 69; refine stop_here ?_)
  unfold Stop
  have hO' := (hP.alloc (.cells #[.int .i64 0, .int .i64 0] 79)).last; clear hP; have hP := hO'; clear hO'; generalize w.alloc (.cells #[.int .i64 0, .int .i64 0] 79) = w1 at hP ⊢; generalize w.heap.size = rb at hP ⊢; clear c2 c3 c4 c5 c6 c7 c8 c9 c10 c11 c12 c13 c14 c15 cz
  refine (al_front hP HG.out hL hl _ rfl R HR.out).mono ?_
  rintro e w2 ⟨rfl, m, y, hO'⟩; clear hP; have hP := hO'; clear hO'
  have hO' := Owns.perm hP (List.perm_append_singleton _ (_ :: _ :: R0)); clear hP; have hP := hO'; clear hO'
  have rz := hP.lt 0 0 rfl rfl; have rd0 : _ = some (Value.int .i64 0) := hP.cell 0 0 rfl rfl 0; have rd1 : _ = some (Value.int .i64 0) := hP.cell 0 0 rfl rfl 1; have rf0 := blk_free (hP.get 0 0 rfl rfl) 0; have rf1 := blk_free (hP.get 0 0 rfl rfl) 1
  go_wp2_with fail; generalize hw : World.setCell (World.setCell _ _ _) _ _ = wz; have hO4 : Owns B W wz _ := hw ▸ res_set2 hP (.int .i64 0) (.int .i64 0); clear hw; have e0 := hO4.cell 0 0 rfl rfl 0; have e1 := hO4.cell 0 0 rfl rfl 1; exact bodyPost_ret (v := .tuple #[.agg #[.int .i64 0, .int .i64 0], .bool false]) (by simp [results, Try.results40, go_sem, e0, e1]) rfl ⟨rfl, _, y, hO4.tail⟩
end Go.Proofs.Ytpebepjfgnoaaaa
