/- The walk of alloc's Step, second half. -/
import Derived.RegionTactic
import Derived.BigRegion
import Derived.Deep.RegionHeld3
import Derived.Outline
import Derived.Deep.DeepCutAuto
import Derived.Deep.QuietTactic
import Derived.BigQuiet
import Derived.Test.YtpebepjfgnoaaaaAlS
import Derived.Test.YtpebepjfgnoaaaaAlF
import Derived.Test.YtpebepjfgnoaaaaAlK
namespace Go.Proofs.Ytpebepjfgnoaaaa
set_option linter.unusedVariables false
set_option linter.unusedSimpArgs false
open Go.RowKit
set_option maxRecDepth 100000 in
set_option maxHeartbeats 8000000 in
theorem al_Step_5 {B : Nat} {W w : World} {R0 : List Grp} {x p bw bb : Nat} {ws bs : List Int} {n : Int} {c : AlC} {v : AlV} (hP : Owns B W w (memG p bw bb ws bs n :: alG x c v :: R0)) (hL : lOk c.t c.s) (hl : ws.length ≤ 4096) (hbl : bs.length ≤ 4096) (hn : v.nx = 5) (b : Bool) (hb : wCas ws (lOnce c.t 0) v.f = b) (q : AlR) (hq : q = if b = true then ⟨wCasPut ws (lOnce c.t 0) v.f (wrap64 (v.f + c.by')), bs, { v with nx := 7, cl := true }, 0, 0, false⟩ else ⟨ws, bs, { v with nx := 4 }, 0, 0, false⟩) : Calls Try.prog 40 #[.pointer (some ⟨x, 0, none⟩), memI p] w (AlPost B W R0 x p bw bb c q) := by
  have n0 : (v.nx == 0) = false := by rw [hn]; rfl
  have n1 : (v.nx == 1) = false := by rw [hn]; rfl
  have n2 : (v.nx == 2) = false := by rw [hn]; rfl
  have n3 : (v.nx == 3) = false := by rw [hn]; rfl
  have n4 : (v.nx == 4) = false := by rw [hn]; rfl
  have n5 : (v.nx == 5) = true := by rw [hn]; rfl
  clear hn
  have ns := nil_Cas (some ⟨p, 0, none⟩)
  obtain ⟨ov, ho⟩ : ∃ o, lOnce c.t 0 = o := ⟨_, rfl⟩
  rw [ho] at hb hq
  obtain ⟨z, hz⟩ : ∃ z, wrap64 (v.f + c.by') = z := ⟨_, rfl⟩
  have wr := (i64w (v.f + c.by')).trans hz
  rw [hz] at hq
  have HQ := Lib.hid hq
  have HO := Lib.hid ho
  have HB := Lib.hid hb
  have HL := Lib.hid hL
  have _u := hbl
  clear ho hb hL hq hz
  obtain ⟨c2, c3, c4, c5, c6, c7, c8, c9, c10, c11, c12, c13, c14, c15, cz⟩ := al_cells (j := 1) hP rfl
  go_enter Try.func40, Try.ntmps40
  unfold memI at *
  go_upto_region 16 with fail
  have hO' := (hP.alloc (.cells #[.int .i64 0, .int .i64 0] 79)); clear hP; have hP := hO'; clear hO'; generalize w.alloc (.cells #[.int .i64 0, .int .i64 0] 79) = w1 at hP ⊢; generalize w.heap.size = rb at hP ⊢; clear c2 c3 c4 c5 c6 c7 c8 c9 c10 c11 c12 c13 c14 c15 cz; obtain ⟨c2, c3, c4, c5, c6, c7, c8, c9, c10, c11, c12, c13, c14, c15, cz⟩ := al_cells (j := 2) hP rfl
  have y7 := al_free (j := 2) hP rfl 7
  go_upto_region 17 with fail
  have hO' := (al_set (j := 2) hP rfl 7 (.int .i64 4) { v with nx := 4 } rfl rfl rfl).drew; clear hP; have hP := hO'; clear hO'; (try simp only [List.set_cons_zero, List.set_cons_succ] at hP)
  generalize World.setCell w1 _ _ = w2 at hP ⊢
  clear y7
  clear c2 c3 c4 c5 c6 c7 c8 c9 c10 c11 c12 c13 c14 c15 cz; obtain ⟨c2, c3, c4, c5, c6, c7, c8, c9, c10, c11, c12, c13, c14, c15, cz⟩ := al_cells (j := 2) hP rfl
  first
    | go_loud (go_region_held3 (fun w => w.cell? ⟨x, 2, none⟩ = some (.int .i64 c.t) ∧ w.cell? ⟨x, 3, none⟩ = some (.int .i64 c.s) ∧ w.cell? ⟨x, 11, none⟩ = some (.int .i64 v.f) ∧ w.cell? ⟨x, 6, none⟩ = some (.int .i64 c.by')) (exact ⟨c2, c3, c11, c6⟩) (first | (go_at_call 15; refine (layout_Frontier _ _ _ HL.out).mono ?_; rw [HO.out]; rintro e w7 ⟨rfl, hb⟩; have hO' := hP.via hb; clear hP; have hP := hO'; clear hO'; clear c2 c3 c4 c5 c6 c7 c8 c9 c10 c11 c12 c13 c14 c15 cz; obtain ⟨c2, c3, c4, c5, c6, c7, c8, c9, c10, c11, c12, c13, c14, c15, cz⟩ := al_cells (j := 2) hP rfl) | (go_at_call 125; refine (plain_Cas 1 _ _ _ hP rfl hl).mono ?_; rw [HB.out]; rintro e w7 ⟨rfl, hO'⟩; clear hP; have hP := hO'; clear hO'; (try simp only [List.set_cons_zero, List.set_cons_succ] at hP); clear c2 c3 c4 c5 c6 c7 c8 c9 c10 c11 c12 c13 c14 c15 cz; obtain ⟨c2, c3, c4, c5, c6, c7, c8, c9, c10, c11, c12, c13, c14, c15, cz⟩ := al_cells (j := 2) hP rfl)))
    | fail "cas"
  all_goals
    cases b
    case false =>
      have e : q = ⟨ws, bs, { v with nx := 4 }, 0, 0, false⟩ := HQ.out
      subst e
      have hC : wCasPut ws ov v.f z = ws := by unfold wCasPut; rw [HB.out]; rfl
      rw [hC] at hP
      clear c2 c3 c4 c5 c6 c7 c8 c9 c10 c11 c12 c13 c14 c15 cz
      have rz := hP.lt 0 0 rfl rfl; have rd0 : _ = some (Value.int .i64 0) := hP.cell 0 0 rfl rfl 0; have rd1 : _ = some (Value.int .i64 0) := hP.cell 0 0 rfl rfl 1; have rf0 := blk_free (hP.get 0 0 rfl rfl) 0; have rf1 := blk_free (hP.get 0 0 rfl rfl) 1
      go_wp2_with fail; generalize hw : World.setCell (World.setCell _ _ _) _ _ = wz; have hO4 : Owns B W wz _ := hw ▸ res_set2 hP (.int .i64 0) (.int .i64 0); clear hw; have e0 := hO4.cell 0 0 rfl rfl 0; have e1 := hO4.cell 0 0 rfl rfl 1; exact bodyPost_ret (v := .tuple #[.agg #[.int .i64 0, .int .i64 0], .bool false]) (by simp [results, Try.results40, go_sem, e0, e1]) rfl ⟨rfl, _, c.gp, hO4.tail⟩
    case true =>
      have e : q = ⟨wCasPut ws ov v.f z, bs, { v with nx := 7, cl := true }, 0, 0, false⟩ := HQ.out
      subst e
      have y7 := al_free (j := 2) hP rfl 7
      have y15 := al_free (j := 2) hP rfl 15
      go_upto_region 37 with fail
      have h1 := al_set (j := 2) hP rfl 15 (.bool true) { v with nx := 4, cl := true } rfl rfl rfl
      have hO' := al_set (j := 2) h1 rfl 7 (.int .i64 7) { v with nx := 7, cl := true } rfl rfl rfl
      clear h1 y15 y7; clear hP; have hP := hO'; clear hO'; (try simp only [List.set_cons_zero, List.set_cons_succ] at hP)
      clear c2 c3 c4 c5 c6 c7 c8 c9 c10 c11 c12 c13 c14 c15 cz
      generalize World.setCell (World.setCell _ _ _) _ _ = w8 at hP ⊢
      have rz := hP.lt 0 0 rfl rfl; have rd0 : _ = some (Value.int .i64 0) := hP.cell 0 0 rfl rfl 0; have rd1 : _ = some (Value.int .i64 0) := hP.cell 0 0 rfl rfl 1; have rf0 := blk_free (hP.get 0 0 rfl rfl) 0; have rf1 := blk_free (hP.get 0 0 rfl rfl) 1
      go_wp2_with fail; generalize hw : World.setCell (World.setCell _ _ _) _ _ = wz; have hO4 : Owns B W wz _ := hw ▸ res_set2 hP (.int .i64 0) (.int .i64 0); clear hw; have e0 := hO4.cell 0 0 rfl rfl 0; have e1 := hO4.cell 0 0 rfl rfl 1; exact bodyPost_ret (v := .tuple #[.agg #[.int .i64 0, .int .i64 0], .bool false]) (by simp [results, Try.results40, go_sem, e0, e1]) rfl ⟨rfl, _, c.gp, hO4.tail⟩
set_option maxRecDepth 100000 in
set_option maxHeartbeats 8000000 in
theorem al_Step_6 {B : Nat} {W w : World} {R0 : List Grp} {x p bw bb : Nat} {ws bs : List Int} {n : Int} {c : AlC} {v : AlV} (hP : Owns B W w (memG p bw bb ws bs n :: alG x c v :: R0)) (hL : lOk c.t c.s) (hl : ws.length ≤ 4096) (hbl : bs.length ≤ 4096) (hn : v.nx = 6) (g : StV) (hg : v.gv = some g) (R : List Int × AlV) (hR : R = alGive c ws v) : Calls Try.prog 40 #[.pointer (some ⟨x, 0, none⟩), memI p] w (AlPost B W R0 x p bw bb c ⟨R.1, bs, R.2, 0, 0, false⟩) := by
  have n0 : (v.nx == 0) = false := by rw [hn]; rfl
  have n1 : (v.nx == 1) = false := by rw [hn]; rfl
  have n2 : (v.nx == 2) = false := by rw [hn]; rfl
  have n3 : (v.nx == 3) = false := by rw [hn]; rfl
  have n4 : (v.nx == 4) = false := by rw [hn]; rfl
  have n5 : (v.nx == 5) = false := by rw [hn]; rfl
  have n6 : (v.nx == 6) = true := by rw [hn]; rfl
  clear hn
  obtain ⟨⟨ws', pnx, psl, pwd, pto, pr, pe, dn⟩, hq⟩ : ∃ q, pushStep c.t c.s ws g.nx g.sl g.wd g.tw = q := ⟨_, rfl⟩
  have HR := Lib.hid (show R = (ws', if dn = true then { v with gv := some ⟨pnx, psl, pwd, pto⟩, nx := 11 } else { v with gv := some ⟨pnx, psl, pwd, pto⟩ }) by rw [hR]; unfold alGive; rw [hg]; simp only []; rw [hq])
  have HQ := Lib.hid hq
  have HL := Lib.hid hL
  have HG := Lib.hid hg
  have _u := hbl
  have t1 : w.cell? ⟨x, 1, none⟩ = some (.pointer (some ⟨c.gp, 0, none⟩)) := by have := (al_ptrs (j := 1) hP rfl).2; rw [hg] at this; exact this
  clear hR hq hL hg
  obtain ⟨c2, c3, c4, c5, c6, c7, c8, c9, c10, c11, c12, c13, c14, c15, cz⟩ := al_cells (j := 1) hP rfl
  have HT := Lib.hid (fun (w2 : World) (R2 : List Grp) (k : Owns B W w2 (memG p bw bb ws bs n :: alG x c v :: R2)) => (push_Step 0 1 (by decide) ((al_giver HG.out).1 k) rfl rfl HL.out hl).mono (R' := fun r w' => r = .returned (.tuple #[.int .i64 pe, .bool dn]) ∧ ∃ m, Owns B W w' (memG p bw bb ws' bs m :: alG x c { v with gv := some ⟨pnx, psl, pwd, pto⟩ } :: R2)) (by
    rw [HQ.out]
    rintro r w' ⟨hr, m, hO⟩
    refine ⟨hr, m, (al_giver (v := { v with gv := some ⟨pnx, psl, pwd, pto⟩ }) rfl).2 ?_⟩
    rw [show alArr c { v with gv := some ⟨pnx, psl, pwd, pto⟩ } = alArr c v by unfold alArr; rw [HG.out]; rfl]
    exact hO))
  go_enter Try.func40, Try.ntmps40
  unfold memI at *
  go_wp2_with (go_at_call 32; refine stop_here ?_)
  unfold Stop
  clear t1
  have hO' := (hP.alloc (.cells #[.int .i64 0, .int .i64 0] 79)).last; clear hP; have hP := hO'; clear hO'; generalize w.alloc (.cells #[.int .i64 0, .int .i64 0] 79) = w1 at hP ⊢; generalize w.heap.size = rb at hP ⊢; clear c2 c3 c4 c5 c6 c7 c8 c9 c10 c11 c12 c13 c14 c15 cz
  refine (HT.out _ _ hP).mono ?_
  rintro e w2 ⟨rfl, m, hO'⟩; clear hP; have hP := hO'; clear hO'
  have hO' := Owns.perm hP (List.perm_append_singleton _ (_ :: _ :: R0)); clear hP; have hP := hO'; clear hO'
  obtain ⟨c2, c3, c4, c5, c6, c7, c8, c9, c10, c11, c12, c13, c14, c15, cz⟩ := al_cells (j := 2) hP rfl
  cases dn
  case false =>
    have e : R = (ws', { v with gv := some ⟨pnx, psl, pwd, pto⟩ }) := HR.out
    subst e
    clear c2 c3 c4 c5 c6 c7 c8 c9 c10 c11 c12 c13 c14 c15 cz
    have rz := hP.lt 0 0 rfl rfl; have rd0 : _ = some (Value.int .i64 0) := hP.cell 0 0 rfl rfl 0; have rd1 : _ = some (Value.int .i64 0) := hP.cell 0 0 rfl rfl 1; have rf0 := blk_free (hP.get 0 0 rfl rfl) 0; have rf1 := blk_free (hP.get 0 0 rfl rfl) 1
    go_wp2_with fail; generalize hw : World.setCell (World.setCell _ _ _) _ _ = wz; have hO4 : Owns B W wz _ := hw ▸ res_set2 hP (.int .i64 0) (.int .i64 0); clear hw; have e0 := hO4.cell 0 0 rfl rfl 0; have e1 := hO4.cell 0 0 rfl rfl 1; exact bodyPost_ret (v := .tuple #[.agg #[.int .i64 0, .int .i64 0], .bool false]) (by simp [results, Try.results40, go_sem, e0, e1]) rfl ⟨rfl, _, c.gp, hO4.tail⟩
  case true =>
    have e : R = (ws', { v with gv := some ⟨pnx, psl, pwd, pto⟩, nx := 11 }) := HR.out
    subst e
    have y7 := al_free (j := 2) hP rfl 7
    go_upto_region 37 with fail
    have hO' := al_set (j := 2) hP rfl 7 (.int .i64 11) { v with gv := some ⟨pnx, psl, pwd, pto⟩, nx := 11 } rfl rfl rfl
    clear y7; clear hP; have hP := hO'; clear hO'; (try simp only [List.set_cons_zero, List.set_cons_succ] at hP)
    clear c2 c3 c4 c5 c6 c7 c8 c9 c10 c11 c12 c13 c14 c15 cz
    generalize World.setCell _ _ _ = w8 at hP ⊢
    have rz := hP.lt 0 0 rfl rfl; have rd0 : _ = some (Value.int .i64 0) := hP.cell 0 0 rfl rfl 0; have rd1 : _ = some (Value.int .i64 0) := hP.cell 0 0 rfl rfl 1; have rf0 := blk_free (hP.get 0 0 rfl rfl) 0; have rf1 := blk_free (hP.get 0 0 rfl rfl) 1
    go_wp2_with fail; generalize hw : World.setCell (World.setCell _ _ _) _ _ = wz; have hO4 : Owns B W wz _ := hw ▸ res_set2 hP (.int .i64 0) (.int .i64 0); clear hw; have e0 := hO4.cell 0 0 rfl rfl 0; have e1 := hO4.cell 0 0 rfl rfl 1; exact bodyPost_ret (v := .tuple #[.agg #[.int .i64 0, .int .i64 0], .bool false]) (by simp [results, Try.results40, go_sem, e0, e1]) rfl ⟨rfl, _, c.gp, hO4.tail⟩
set_option maxRecDepth 100000 in
set_option maxHeartbeats 8000000 in
theorem al_Step_7 {B : Nat} {W w : World} {R0 : List Grp} {x p bw bb : Nat} {ws bs : List Int} {n : Int} {c : AlC} {v : AlV} (hP : Owns B W w (memG p bw bb ws bs n :: alG x c v :: R0)) (hL : lOk c.t c.s) (hl : ws.length ≤ 4096) (hbl : bs.length ≤ 4096) (hn : v.nx = 7) (R : AlV) (hR : R = { v with a := wrap64 (v.a + 1), nx := if wrap64 (v.a + 1) = c.by' then 8 else v.nx }) : Calls Try.prog 40 #[.pointer (some ⟨x, 0, none⟩), memI p] w (AlPost B W R0 x p bw bb c ⟨ws, wPut bs (wrap64 (v.f + v.a)) 0, R, 0, 0, false⟩) := by
  have n0 : (v.nx == 0) = false := by rw [hn]; rfl
  have n1 : (v.nx == 1) = false := by rw [hn]; rfl
  have n2 : (v.nx == 2) = false := by rw [hn]; rfl
  have n3 : (v.nx == 3) = false := by rw [hn]; rfl
  have n4 : (v.nx == 4) = false := by rw [hn]; rfl
  have n5 : (v.nx == 5) = false := by rw [hn]; rfl
  have n6 : (v.nx == 6) = false := by rw [hn]; rfl
  have n7 : (v.nx == 7) = true := by rw [hn]; rfl
  clear hn
  have _u := And.intro hL (And.intro hl hbl)
  have HR := Lib.hid hR
  clear hR
  obtain ⟨c2, c3, c4, c5, c6, c7, c8, c9, c10, c11, c12, c13, c14, c15, cz⟩ := al_cells (j := 1) hP rfl
  go_enter Try.func40, Try.ntmps40
  unfold memI at *
  go_wp2_with (go_at_call 70; refine stop_here ?_)
  unfold Stop
  have hO' := (hP.alloc (.cells #[.int .i64 0, .int .i64 0] 79)).last; clear hP; have hP := hO'; clear hO'; generalize w.alloc (.cells #[.int .i64 0, .int .i64 0] 79) = w1 at hP ⊢; generalize w.heap.size = rb at hP ⊢; clear c2 c3 c4 c5 c6 c7 c8 c9 c10 c11 c12 c13 c14 c15 cz
  refine (al_clear hP hbl R HR.out).mono ?_
  rintro e w2 ⟨rfl, m, hO'⟩; clear hP; have hP := hO'; clear hO'
  have hO' := Owns.perm hP (List.perm_append_singleton _ (_ :: _ :: R0)); clear hP; have hP := hO'; clear hO'
  have rz := hP.lt 0 0 rfl rfl; have rd0 : _ = some (Value.int .i64 0) := hP.cell 0 0 rfl rfl 0; have rd1 : _ = some (Value.int .i64 0) := hP.cell 0 0 rfl rfl 1; have rf0 := blk_free (hP.get 0 0 rfl rfl) 0; have rf1 := blk_free (hP.get 0 0 rfl rfl) 1
  go_wp2_with fail; generalize hw : World.setCell (World.setCell _ _ _) _ _ = wz; have hO4 : Owns B W wz _ := hw ▸ res_set2 hP (.int .i64 0) (.int .i64 0); clear hw; have e0 := hO4.cell 0 0 rfl rfl 0; have e1 := hO4.cell 0 0 rfl rfl 1; exact bodyPost_ret (v := .tuple #[.agg #[.int .i64 0, .int .i64 0], .bool false]) (by simp [results, Try.results40, go_sem, e0, e1]) rfl ⟨rfl, _, c.gp, hO4.tail⟩
end Go.Proofs.Ytpebepjfgnoaaaa
