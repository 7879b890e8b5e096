/- The walk of alloc's Step, third part. -/
import Derived.RegionTactic
import Derived.BigRegion
import Derived.Deep.RegionHeld3
import Derived.Outline
import Derived.Deep.DeepCutAuto
import Derived.Deep.QuietTactic
import Derived.BigQuiet
import Derived.Test.YtpebepjfgnoaaaaAlS
import Derived.Test.YtpebepjfgnoaaaaAlF
import Derived.Test.YtpebepjfgnoaaaaAlK
namespace Go.Proofs.Ytpebepjfgnoaaaa
set_option linter.unusedVariables false
set_option linter.unusedSimpArgs false
open Go.RowKit
set_option maxRecDepth 100000 in
set_option maxHeartbeats 8000000 in
theorem al_Step_8 {B : Nat} {W w : World} {R0 : List Grp} {x p bw bb : Nat} {ws bs : List Int} {n : Int} {c : AlC} {v : AlV} (hP : Owns B W w (memG p bw bb ws bs n :: alG x c v :: R0)) (hL : lOk c.t c.s) (hl : ws.length ≤ 4096) (hbl : bs.length ≤ 4096) (hn : v.nx = 8) : Calls Try.prog 40 #[.pointer (some ⟨x, 0, none⟩), memI p] w (AlPost B W R0 x p bw bb c ⟨wPut ws (lOf c.t c.s v.sl 1) c.n, bs, { v with nx := 9 }, 0, 0, false⟩) := by
  have n0 : (v.nx == 0) = false := by rw [hn]; rfl
  have n1 : (v.nx == 1) = false := by rw [hn]; rfl
  have n2 : (v.nx == 2) = false := by rw [hn]; rfl
  have n3 : (v.nx == 3) = false := by rw [hn]; rfl
  have n4 : (v.nx == 4) = false := by rw [hn]; rfl
  have n5 : (v.nx == 5) = false := by rw [hn]; rfl
  have n6 : (v.nx == 6) = false := by rw [hn]; rfl
  have n7 : (v.nx == 7) = false := by rw [hn]; rfl
  have n8 : (v.nx == 8) = true := by rw [hn]; rfl
  clear hn
  have ns := nil_Store (some ⟨p, 0, none⟩)
  obtain ⟨ov, ho⟩ : ∃ o, lOf c.t c.s v.sl 1 = o := ⟨_, rfl⟩
  rw [ho]
  have HO := Lib.hid ho
  have HL := Lib.hid hL
  have _u := hbl
  clear ho hL
  obtain ⟨c2, c3, c4, c5, c6, c7, c8, c9, c10, c11, c12, c13, c14, c15, cz⟩ := al_cells (j := 1) hP rfl
  go_enter Try.func40, Try.ntmps40
  unfold memI at *
  go_upto_region 26 with fail
  have hO' := (hP.alloc (.cells #[.int .i64 0, .int .i64 0] 79)); clear hP; have hP := hO'; clear hO'; generalize w.alloc (.cells #[.int .i64 0, .int .i64 0] 79) = w1 at hP ⊢; generalize w.heap.size = rb at hP ⊢; clear c2 c3 c4 c5 c6 c7 c8 c9 c10 c11 c12 c13 c14 c15 cz; obtain ⟨c2, c3, c4, c5, c6, c7, c8, c9, c10, c11, c12, c13, c14, c15, cz⟩ := al_cells (j := 2) hP rfl
  have hO' := hP.drew; clear hP; have hP := hO'; clear hO'
  clear c2 c3 c4 c5 c6 c7 c8 c9 c10 c11 c12 c13 c14 c15 cz; obtain ⟨c2, c3, c4, c5, c6, c7, c8, c9, c10, c11, c12, c13, c14, c15, cz⟩ := al_cells (j := 2) hP rfl
  first
    | go_loud (go_region_held3 (fun w => w.cell? ⟨x, 2, none⟩ = some (.int .i64 c.t) ∧ w.cell? ⟨x, 3, none⟩ = some (.int .i64 c.s) ∧ w.cell? ⟨x, 10, none⟩ = some (.int .i64 v.sl) ∧ w.cell? ⟨x, 5, none⟩ = some (.int .i64 c.n)) (exact ⟨c2, c3, c10, c5⟩) (first | (go_at_call 11; refine (layout_Size _ _ _ _ HL.out).mono ?_; rw [HO.out]; rintro e w7 ⟨rfl, hb⟩; have hO' := hP.via hb; clear hP; have hP := hO'; clear hO'; clear c2 c3 c4 c5 c6 c7 c8 c9 c10 c11 c12 c13 c14 c15 cz; obtain ⟨c2, c3, c4, c5, c6, c7, c8, c9, c10, c11, c12, c13, c14, c15, cz⟩ := al_cells (j := 2) hP rfl) | (go_at_call 24; refine (plain_Store 1 _ _ hP rfl hl).mono ?_; rintro e w7 ⟨rfl, hO'⟩; clear hP; have hP := hO'; clear hO'; (try simp only [List.set_cons_zero, List.set_cons_succ] at hP); clear c2 c3 c4 c5 c6 c7 c8 c9 c10 c11 c12 c13 c14 c15 cz; obtain ⟨c2, c3, c4, c5, c6, c7, c8, c9, c10, c11, c12, c13, c14, c15, cz⟩ := al_cells (j := 2) hP rfl)))
    | fail "size"
  all_goals
    have y7 := al_free (j := 2) hP rfl 7
    go_upto_region 37 with fail
    have hO' := al_set (j := 2) hP rfl 7 (.int .i64 9) { v with nx := 9 } rfl rfl rfl
    clear y7; clear hP; have hP := hO'; clear hO'; (try simp only [List.set_cons_zero, List.set_cons_succ] at hP)
    clear c2 c3 c4 c5 c6 c7 c8 c9 c10 c11 c12 c13 c14 c15 cz
    generalize World.setCell _ _ _ = w8 at hP ⊢
    have rz := hP.lt 0 0 rfl rfl; have rd0 : _ = some (Value.int .i64 0) := hP.cell 0 0 rfl rfl 0; have rd1 : _ = some (Value.int .i64 0) := hP.cell 0 0 rfl rfl 1; have rf0 := blk_free (hP.get 0 0 rfl rfl) 0; have rf1 := blk_free (hP.get 0 0 rfl rfl) 1
    go_wp2_with fail; generalize hw : World.setCell (World.setCell _ _ _) _ _ = wz; have hO4 : Owns B W wz _ := hw ▸ res_set2 hP (.int .i64 0) (.int .i64 0); clear hw; have e0 := hO4.cell 0 0 rfl rfl 0; have e1 := hO4.cell 0 0 rfl rfl 1; exact bodyPost_ret (v := .tuple #[.agg #[.int .i64 0, .int .i64 0], .bool false]) (by simp [results, Try.results40, go_sem, e0, e1]) rfl ⟨rfl, _, c.gp, hO4.tail⟩
set_option maxRecDepth 100000 in
set_option maxHeartbeats 8000000 in
theorem al_Step_9 {B : Nat} {W w : World} {R0 : List Grp} {x p bw bb : Nat} {ws bs : List Int} {n : Int} {c : AlC} {v : AlV} (hP : Owns B W w (memG p bw bb ws bs n :: alG x c v :: R0)) (hL : lOk c.t c.s) (hl : ws.length ≤ 4096) (hbl : bs.length ≤ 4096) (hn : v.nx = 9) (R : AlV) (hR : R = alLook (wAt ws (lOf c.t c.s v.sl 0)) v) : Calls Try.prog 40 #[.pointer (some ⟨x, 0, none⟩), memI p] w (AlPost B W R0 x p bw bb c ⟨ws, bs, R, 0, 0, false⟩) := by
  have n0 : (v.nx == 0) = false := by rw [hn]; rfl
  have n1 : (v.nx == 1) = false := by rw [hn]; rfl
  have n2 : (v.nx == 2) = false := by rw [hn]; rfl
  have n3 : (v.nx == 3) = false := by rw [hn]; rfl
  have n4 : (v.nx == 4) = false := by rw [hn]; rfl
  have n5 : (v.nx == 5) = false := by rw [hn]; rfl
  have n6 : (v.nx == 6) = false := by rw [hn]; rfl
  have n7 : (v.nx == 7) = false := by rw [hn]; rfl
  have n8 : (v.nx == 8) = false := by rw [hn]; rfl
  have n9 : (v.nx == 9) = true := by rw [hn]; rfl
  clear hn
  have _u := And.intro hL (And.intro hl hbl)
  have HR := Lib.hid hR
  clear hR
  obtain ⟨c2, c3, c4, c5, c6, c7, c8, c9, c10, c11, c12, c13, c14, c15, cz⟩ := al_cells (j := 1) hP rfl
  go_enter Try.func40, Try.ntmps40
  unfold memI at *
  go_wp2_with (go_at_call 71; refine stop_here ?_)
  unfold Stop
  have hO' := (hP.alloc (.cells #[.int .i64 0, .int .i64 0] 79)).last; clear hP; have hP := hO'; clear hO'; generalize w.alloc (.cells #[.int .i64 0, .int .i64 0] 79) = w1 at hP ⊢; generalize w.heap.size = rb at hP ⊢; clear c2 c3 c4 c5 c6 c7 c8 c9 c10 c11 c12 c13 c14 c15 cz
  refine (al_look hP hL hl _ rfl R HR.out).mono ?_
  rintro e w2 ⟨rfl, m, hO'⟩; clear hP; have hP := hO'; clear hO'
  have hO' := Owns.perm hP (List.perm_append_singleton _ (_ :: _ :: R0)); clear hP; have hP := hO'; clear hO'
  have rz := hP.lt 0 0 rfl rfl; have rd0 : _ = some (Value.int .i64 0) := hP.cell 0 0 rfl rfl 0; have rd1 : _ = some (Value.int .i64 0) := hP.cell 0 0 rfl rfl 1; have rf0 := blk_free (hP.get 0 0 rfl rfl) 0; have rf1 := blk_free (hP.get 0 0 rfl rfl) 1
  go_wp2_with fail; generalize hw : World.setCell (World.setCell _ _ _) _ _ = wz; have hO4 : Owns B W wz _ := hw ▸ res_set2 hP (.int .i64 0) (.int .i64 0); clear hw; have e0 := hO4.cell 0 0 rfl rfl 0; have e1 := hO4.cell 0 0 rfl rfl 1; exact bodyPost_ret (v := .tuple #[.agg #[.int .i64 0, .int .i64 0], .bool false]) (by simp [results, Try.results40, go_sem, e0, e1]) rfl ⟨rfl, _, c.gp, hO4.tail⟩
set_option maxRecDepth 100000 in
set_option maxHeartbeats 8000000 in
theorem al_Step_10 {B : Nat} {W w : World} {R0 : List Grp} {x p bw bb : Nat} {ws bs : List Int} {n : Int} {c : AlC} {v : AlV} (hP : Owns B W w (memG p bw bb ws bs n :: alG x c v :: R0)) (hL : lOk c.t c.s) (hl : ws.length ≤ 4096) (hbl : bs.length ≤ 4096) (hn : v.nx = 10) (ws' : List Int) (hw : ws' = if v.kp = 0 then wPut ws (lOf c.t c.s v.sl 0) v.wd else ws) : Calls Try.prog 40 #[.pointer (some ⟨x, 0, none⟩), memI p] w (AlPost B W R0 x p bw bb c ⟨ws', bs, { v with cl := false, nx := 11 }, 0, 0, false⟩) := by
  have n0 : (v.nx == 0) = false := by rw [hn]; rfl
  have n1 : (v.nx == 1) = false := by rw [hn]; rfl
  have n2 : (v.nx == 2) = false := by rw [hn]; rfl
  have n3 : (v.nx == 3) = false := by rw [hn]; rfl
  have n4 : (v.nx == 4) = false := by rw [hn]; rfl
  have n5 : (v.nx == 5) = false := by rw [hn]; rfl
  have n6 : (v.nx == 6) = false := by rw [hn]; rfl
  have n7 : (v.nx == 7) = false := by rw [hn]; rfl
  have n8 : (v.nx == 8) = false := by rw [hn]; rfl
  have n9 : (v.nx == 9) = false := by rw [hn]; rfl
  have n10 : (v.nx == 10) = true := by rw [hn]; rfl
  clear hn
  have _u := And.intro hL (And.intro hl hbl)
  have HR := Lib.hid hw
  clear hw
  obtain ⟨c2, c3, c4, c5, c6, c7, c8, c9, c10, c11, c12, c13, c14, c15, cz⟩ := al_cells (j := 1) hP rfl
  go_enter Try.func40, Try.ntmps40
  unfold memI at *
  go_wp2_with (go_at_call 72; refine stop_here ?_)
  unfold Stop
  have hO' := (hP.alloc (.cells #[.int .i64 0, .int .i64 0] 79)).last; clear hP; have hP := hO'; clear hO'; generalize w.alloc (.cells #[.int .i64 0, .int .i64 0] 79) = w1 at hP ⊢; generalize w.heap.size = rb at hP ⊢; clear c2 c3 c4 c5 c6 c7 c8 c9 c10 c11 c12 c13 c14 c15 cz
  refine (al_publish hP hL hl ws' HR.out).mono ?_
  rintro e w2 ⟨rfl, m, hO'⟩; clear hP; have hP := hO'; clear hO'
  have hO' := Owns.perm hP (List.perm_append_singleton _ (_ :: _ :: R0)); clear hP; have hP := hO'; clear hO'
  have rz := hP.lt 0 0 rfl rfl; have rd0 : _ = some (Value.int .i64 0) := hP.cell 0 0 rfl rfl 0; have rd1 : _ = some (Value.int .i64 0) := hP.cell 0 0 rfl rfl 1; have rf0 := blk_free (hP.get 0 0 rfl rfl) 0; have rf1 := blk_free (hP.get 0 0 rfl rfl) 1
  go_wp2_with fail; generalize hw : World.setCell (World.setCell _ _ _) _ _ = wz; have hO4 : Owns B W wz _ := hw ▸ res_set2 hP (.int .i64 0) (.int .i64 0); clear hw; have e0 := hO4.cell 0 0 rfl rfl 0; have e1 := hO4.cell 0 0 rfl rfl 1; exact bodyPost_ret (v := .tuple #[.agg #[.int .i64 0, .int .i64 0], .bool false]) (by simp [results, Try.results40, go_sem, e0, e1]) rfl ⟨rfl, _, c.gp, hO4.tail⟩
set_option maxRecDepth 100000 in
set_option maxHeartbeats 8000000 in
theorem al_Step_11 {B : Nat} {W w : World} {R0 : List Grp} {x p bw bb : Nat} {ws bs : List Int} {n : Int} {c : AlC} {v : AlV} (hP : Owns B W w (memG p bw bb ws bs n :: alG x c v :: R0)) (hL : lOk c.t c.s) (hl : ws.length ≤ 4096) (hbl : bs.length ≤ 4096) (hn : v.nx = 11) : Calls Try.prog 40 #[.pointer (some ⟨x, 0, none⟩), memI p] w (AlPost B W R0 x p bw bb c ⟨ws, bs, { v with seen := wAt ws (lOnce c.t 2), nx := 12 }, 0, 0, false⟩) := by
  have n0 : (v.nx == 0) = false := by rw [hn]; rfl
  have n1 : (v.nx == 1) = false := by rw [hn]; rfl
  have n2 : (v.nx == 2) = false := by rw [hn]; rfl
  have n3 : (v.nx == 3) = false := by rw [hn]; rfl
  have n4 : (v.nx == 4) = false := by rw [hn]; rfl
  have n5 : (v.nx == 5) = false := by rw [hn]; rfl
  have n6 : (v.nx == 6) = false := by rw [hn]; rfl
  have n7 : (v.nx == 7) = false := by rw [hn]; rfl
  have n8 : (v.nx == 8) = false := by rw [hn]; rfl
  have n9 : (v.nx == 9) = false := by rw [hn]; rfl
  have n10 : (v.nx == 10) = false := by rw [hn]; rfl
  have n11 : (v.nx == 11) = true := by rw [hn]; rfl
  clear hn
  have ns := nil_Load (some ⟨p, 0, none⟩)
  obtain ⟨ov, ho⟩ : ∃ o, lOnce c.t 2 = o := ⟨_, rfl⟩
  obtain ⟨sn, hs⟩ : ∃ o, wAt ws ov = o := ⟨_, rfl⟩
  rw [ho, hs]
  have HO := Lib.hid ho
  have HS := Lib.hid hs
  have HL := Lib.hid hL
  have _u := hbl
  clear ho hs hL
  obtain ⟨c2, c3, c4, c5, c6, c7, c8, c9, c10, c11, c12, c13, c14, c15, cz⟩ := al_cells (j := 1) hP rfl
  go_enter Try.func40, Try.ntmps40
  unfold memI at *
  go_upto_region 3 with fail
  have hO' := (hP.alloc (.cells #[.int .i64 0, .int .i64 0] 79)); clear hP; have hP := hO'; clear hO'; generalize w.alloc (.cells #[.int .i64 0, .int .i64 0] 79) = w1 at hP ⊢; generalize w.heap.size = rb at hP ⊢; clear c2 c3 c4 c5 c6 c7 c8 c9 c10 c11 c12 c13 c14 c15 cz; obtain ⟨c2, c3, c4, c5, c6, c7, c8, c9, c10, c11, c12, c13, c14, c15, cz⟩ := al_cells (j := 2) hP rfl
  go_upto_region 33 with fail
  have hO' := hP.drew; clear hP; have hP := hO'; clear hO'
  clear c2 c3 c4 c5 c6 c7 c8 c9 c10 c11 c12 c13 c14 c15 cz; obtain ⟨c2, c3, c4, c5, c6, c7, c8, c9, c10, c11, c12, c13, c14, c15, cz⟩ := al_cells (j := 2) hP rfl
  first
    | go_loud (go_region_held3 (fun w => w.cell? ⟨x, 2, none⟩ = some (.int .i64 c.t) ∧ w.cell? ⟨x, 3, none⟩ = some (.int .i64 c.s)) (first | (with_reducible exact ⟨c2, c3⟩) | exact ⟨(cell_off (by decide)).trans c2, (cell_off (by decide)).trans c3⟩ | exact ⟨(cell_off (by decide)).trans ((cell_off (by decide)).trans c2), (cell_off (by decide)).trans ((cell_off (by decide)).trans c3)⟩) (first | (go_at_call 17; refine (layout_Pending _ _ _ HL.out).mono ?_; rw [HO.out]; rintro e w7 ⟨rfl, hb⟩; have hO' := hP.via hb; clear hP; have hP := hO'; clear hO'; clear c2 c3 c4 c5 c6 c7 c8 c9 c10 c11 c12 c13 c14 c15 cz; obtain ⟨c2, c3, c4, c5, c6, c7, c8, c9, c10, c11, c12, c13, c14, c15, cz⟩ := al_cells (j := 2) hP rfl) | (go_at_call 43; refine (plain_Load 1 _ hP rfl hl).mono ?_; rw [HS.out]; rintro e w7 ⟨rfl, hO'⟩; clear hP; have hP := hO'; clear hO'; (try simp only [List.set_cons_zero, List.set_cons_succ] at hP); clear c2 c3 c4 c5 c6 c7 c8 c9 c10 c11 c12 c13 c14 c15 cz; obtain ⟨c2, c3, c4, c5, c6, c7, c8, c9, c10, c11, c12, c13, c14, c15, cz⟩ := al_cells (j := 2) hP rfl; have y8 := al_free (j := 2) hP rfl 8; have y7 := al_free (j := 2) hP rfl 7)))
    | fail "seen"
  all_goals
    have h1 := al_set (j := 2) hP rfl 8 (.int .i64 sn) { v with seen := sn } rfl rfl rfl
    have hO' := al_set (j := 2) h1 rfl 7 (.int .i64 12) { v with seen := sn, nx := 12 } rfl rfl rfl
    clear h1 y8 y7; clear hP; have hP := hO'; clear hO'; (try simp only [List.set_cons_zero, List.set_cons_succ] at hP)
    clear c2 c3 c4 c5 c6 c7 c8 c9 c10 c11 c12 c13 c14 c15 cz
    generalize World.setCell (World.setCell _ _ _) _ _ = w8 at hP ⊢
    have rz := hP.lt 0 0 rfl rfl; have rd0 : _ = some (Value.int .i64 0) := hP.cell 0 0 rfl rfl 0; have rd1 : _ = some (Value.int .i64 0) := hP.cell 0 0 rfl rfl 1; have rf0 := blk_free (hP.get 0 0 rfl rfl) 0; have rf1 := blk_free (hP.get 0 0 rfl rfl) 1
    go_wp2_with fail; generalize hw : World.setCell (World.setCell _ _ _) _ _ = wz; have hO4 : Owns B W wz _ := hw ▸ res_set2 hP (.int .i64 0) (.int .i64 0); clear hw; have e0 := hO4.cell 0 0 rfl rfl 0; have e1 := hO4.cell 0 0 rfl rfl 1; exact bodyPost_ret (v := .tuple #[.agg #[.int .i64 0, .int .i64 0], .bool false]) (by simp [results, Try.results40, go_sem, e0, e1]) rfl ⟨rfl, _, c.gp, hO4.tail⟩
set_option maxRecDepth 100000 in
set_option maxHeartbeats 8000000 in
theorem al_Step_12 {B : Nat} {W w : World} {R0 : List Grp} {x p bw bb : Nat} {ws bs : List Int} {n : Int} {c : AlC} {v : AlV} (hP : Owns B W w (memG p bw bb ws bs n :: alG x c v :: R0)) (hL : lOk c.t c.s) (hl : ws.length ≤ 4096) (hbl : bs.length ≤ 4096) (hn : v.nx = 12) (R : List Int × AlV × Bool) (hR : R = alPend c ws v (-1) 11 0) (q : AlR) (hq : q = if R.2.2 = true then ⟨R.1, bs, R.2.1, (alRes R.2.1).1, (alRes R.2.1).2, true⟩ else ⟨R.1, bs, R.2.1, 0, 0, false⟩) : Calls Try.prog 40 #[.pointer (some ⟨x, 0, none⟩), memI p] w (AlPost B W R0 x p bw bb c q) := by
  have n0 : (v.nx == 0) = false := by rw [hn]; rfl
  have n1 : (v.nx == 1) = false := by rw [hn]; rfl
  have n2 : (v.nx == 2) = false := by rw [hn]; rfl
  have n3 : (v.nx == 3) = false := by rw [hn]; rfl
  have n4 : (v.nx == 4) = false := by rw [hn]; rfl
  have n5 : (v.nx == 5) = false := by rw [hn]; rfl
  have n6 : (v.nx == 6) = false := by rw [hn]; rfl
  have n7 : (v.nx == 7) = false := by rw [hn]; rfl
  have n8 : (v.nx == 8) = false := by rw [hn]; rfl
  have n9 : (v.nx == 9) = false := by rw [hn]; rfl
  have n10 : (v.nx == 10) = false := by rw [hn]; rfl
  have n11 : (v.nx == 11) = false := by rw [hn]; rfl
  have n12 : (v.nx == 12) = true := by rw [hn]; rfl
  clear hn
  have HR := Lib.hid hR
  have HQ := Lib.hid hq
  have _u := hbl
  obtain ⟨rws, rv, rd⟩ := R
  clear hR hq
  obtain ⟨c2, c3, c4, c5, c6, c7, c8, c9, c10, c11, c12, c13, c14, c15, cz⟩ := al_cells (j := 1) hP rfl
  go_enter Try.func40, Try.ntmps40
  unfold memI at *
  go_wp2_with (go_at_call 67; refine stop_here ?_)
  unfold Stop
  have hO' := (hP.alloc (.cells #[.int .i64 0, .int .i64 0] 79)).last; clear hP; have hP := hO'; clear hO'; generalize w.alloc (.cells #[.int .i64 0, .int .i64 0] 79) = w1 at hP ⊢; generalize w.heap.size = rb at hP ⊢; clear c2 c3 c4 c5 c6 c7 c8 c9 c10 c11 c12 c13 c14 c15 cz
  refine (al_pending hP (-1) 11 0 hL hl _ HR.out).mono ?_
  dsimp only
  rintro e w2 ⟨rfl, m, hO'⟩; clear hP; have hP := hO'; clear hO'
  clear HR
  have hO' := Owns.perm hP (List.perm_append_singleton _ (_ :: _ :: R0)); clear hP; have hP := hO'; clear hO'
  cases rd
  case false =>
    have e : q = ⟨rws, bs, rv, 0, 0, false⟩ := HQ.out
    subst e
    have rz := hP.lt 0 0 rfl rfl; have rd0 : _ = some (Value.int .i64 0) := hP.cell 0 0 rfl rfl 0; have rd1 : _ = some (Value.int .i64 0) := hP.cell 0 0 rfl rfl 1; have rf0 := blk_free (hP.get 0 0 rfl rfl) 0; have rf1 := blk_free (hP.get 0 0 rfl rfl) 1
    go_wp2_with fail; generalize hw : World.setCell (World.setCell _ _ _) _ _ = wz; have hO4 : Owns B W wz _ := hw ▸ res_set2 hP (.int .i64 0) (.int .i64 0); clear hw; have e0 := hO4.cell 0 0 rfl rfl 0; have e1 := hO4.cell 0 0 rfl rfl 1; exact bodyPost_ret (v := .tuple #[.agg #[.int .i64 0, .int .i64 0], .bool false]) (by simp [results, Try.results40, go_sem, e0, e1]) rfl ⟨rfl, _, c.gp, hO4.tail⟩
  case true =>
    obtain ⟨r1, r2, hr⟩ : ∃ a b, alRes rv = (a, b) := ⟨_, _, rfl⟩
    have HA := Lib.hid hr
    have e : q = ⟨rws, bs, rv, r1, r2, true⟩ := by rw [HQ.out]; simp only [if_true]; rw [hr]
    subst e
    clear hr
    go_wp2_with (go_at_call 73; refine (al_result 2 hP rfl).mono ?_; rw [HA.out]; rintro e w3 ⟨rfl, hO'⟩; clear hP; have hP := hO'; clear hO'; have rz := hP.lt 0 0 rfl rfl; have rd0 : _ = some (Value.int .i64 0) := hP.cell 0 0 rfl rfl 0; have rd1 : _ = some (Value.int .i64 0) := hP.cell 0 0 rfl rfl 1; have rf0 := blk_free (hP.get 0 0 rfl rfl) 0; have rf1 := blk_free (hP.get 0 0 rfl rfl) 1)
    generalize hw : World.setCell (World.setCell _ _ _) _ _ = wz
    have hO4 : Owns B W wz _ := hw ▸ res_set2 hP (.int .i64 r1) (.int .i64 r2)
    clear hw
    have e0 := hO4.cell 0 0 rfl rfl 0
    have e1 := hO4.cell 0 0 rfl rfl 1
    exact bodyPost_ret (v := .tuple #[.agg #[.int .i64 r1, .int .i64 r2], .bool true]) (by simp [results, Try.results40, go_sem, e0, e1]) rfl ⟨rfl, _, c.gp, hO4.tail⟩
end Go.Proofs.Ytpebepjfgnoaaaa
