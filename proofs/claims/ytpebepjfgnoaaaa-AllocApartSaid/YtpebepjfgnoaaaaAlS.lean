/- The walks of alloc's machine: clear, publish, result. -/
import Derived.RegionTactic
import Derived.BigRegion
import Derived.Deep.RegionHeld3
import Derived.Outline
import Derived.Deep.DeepCutAuto
import Derived.Deep.QuietTactic
import Derived.BigQuiet
import Derived.Test.YtpebepjfgnoaaaaAlW
namespace Go.Proofs.Ytpebepjfgnoaaaa
set_option linter.unusedVariables false
set_option linter.unusedSimpArgs false
open Go.RowKit
set_option maxRecDepth 100000 in
set_option maxHeartbeats 4000000 in
theorem al_clear {B : Nat} {W w : World} {R0 : List Grp} {x p bw bb : Nat} {ws bs : List Int} {n : Int} {c : AlC} {v : AlV} (hP : Owns B W w (memG p bw bb ws bs n :: alG x c v :: R0)) (hbl : bs.length ≤ 4096) (R : AlV) (hR : R = { v with a := wrap64 (v.a + 1), nx := if wrap64 (v.a + 1) = c.by' then 8 else v.nx }) :
    Calls Try.prog 70 #[.pointer (some ⟨x, 0, none⟩), memI p] w fun r w' => r = .returned (.tuple #[]) ∧ ∃ m, Owns B W w' (memG p bw bb ws (wPut bs (wrap64 (v.f + v.a)) 0) m :: alG x c R :: R0) := by
  have ns := nil_SetByte (some ⟨p, 0, none⟩)
  have wr := i64w (v.f + v.a)
  obtain ⟨a1, ha1⟩ : ∃ a, wrap64 (v.a + 1) = a := ⟨_, rfl⟩
  have wr1 := (i64w (v.a + 1)).trans ha1
  obtain ⟨b, hb⟩ : ∃ b, (a1 == c.by') = b := ⟨_, rfl⟩
  have HR := Lib.hid (show R = if b = true then { v with a := a1, nx := 8 } else { v with a := a1 } by rw [hR, ha1, ← hb]; simp only [beq_iff_eq]; split <;> rfl)
  clear hR ha1
  go_enter Try.func70, Try.ntmps70
  unfold memI at *
  go_wp2_with fail
  have hO' := hP.drew; clear hP; have hP := hO'; clear hO'
  obtain ⟨c2, c3, c4, c5, c6, c7, c8, c9, c10, c11, c12, c13, c14, c15, cz⟩ := al_cells (j := 1) hP rfl
  first
    | go_loud (go_region_held3 (fun w => w.cell? ⟨x, 11, none⟩ = some (.int .i64 v.f) ∧ w.cell? ⟨x, 12, none⟩ = some (.int .i64 v.a)) (exact ⟨c11, c12⟩) ((go_at_call 63; refine (plain_SetByte 0 _ _ hP rfl hbl).mono ?_; rintro e w7 ⟨rfl, hO'⟩; clear hP; have hP := hO'; clear hO'; (try simp only [List.set_cons_zero, List.set_cons_succ] at hP); clear c2 c3 c4 c5 c6 c7 c8 c9 c10 c11 c12 c13 c14 c15 cz; obtain ⟨c2, c3, c4, c5, c6, c7, c8, c9, c10, c11, c12, c13, c14, c15, cz⟩ := al_cells (j := 1) hP rfl)))
    | fail "byte"
  all_goals
    rw [show (0 : Int) % 256 = 0 from rfl] at hP
    have y12 := al_free (j := 1) hP rfl 12
    go_upto_region 2 with fail
    have hO' := al_set (j := 1) hP rfl 12 (.int .i64 a1) { v with a := a1 } rfl rfl rfl; clear hP; have hP := hO'; clear hO'; (try simp only [List.set_cons_zero, List.set_cons_succ] at hP)
    generalize World.setCell _ _ _ = w8 at hP ⊢
    clear y12
    clear c2 c3 c4 c5 c6 c7 c8 c9 c10 c11 c12 c13 c14 c15 cz; obtain ⟨c2, c3, c4, c5, c6, c7, c8, c9, c10, c11, c12, c13, c14, c15, cz⟩ := al_cells (j := 1) hP rfl
    go_quiet (fail)
    have hO' := hP.drewN nq; clear hP; have hP := hO'; clear hO'
    generalize World.drewN _ _ = w9 at hP ⊢
    clear c2 c3 c4 c5 c6 c7 c8 c9 c10 c11 c12 c13 c14 c15 cz; obtain ⟨c2, c3, c4, c5, c6, c7, c8, c9, c10, c11, c12, c13, c14, c15, cz⟩ := al_cells (j := 1) hP rfl
    have y7 := al_free (j := 1) hP rfl 7
    cases b
    case false =>
      have e : R = { v with a := a1 } := HR.out
      subst e
      go_wp2_with fail
      go_end0
      exact ⟨rfl, _, hP⟩
    case true =>
      have e : R = { v with a := a1, nx := 8 } := HR.out
      subst e
      go_wp2_with fail
      go_end0
      have h1 := al_set (j := 1) hP rfl 7 (.int .i64 8) { v with a := a1, nx := 8 } rfl rfl rfl
      exact ⟨rfl, _, h1⟩
set_option maxRecDepth 100000 in
set_option maxHeartbeats 4000000 in
theorem al_publish {B : Nat} {W w : World} {R0 : List Grp} {x p bw bb : Nat} {ws bs : List Int} {n : Int} {c : AlC} {v : AlV} (hP : Owns B W w (memG p bw bb ws bs n :: alG x c v :: R0)) (hL : lOk c.t c.s) (hl : ws.length ≤ 4096) (ws' : List Int) (hw : ws' = if v.kp = 0 then wPut ws (lOf c.t c.s v.sl 0) v.wd else ws) :
    Calls Try.prog 72 #[.pointer (some ⟨x, 0, none⟩), memI p] w fun r w' => r = .returned (.tuple #[]) ∧ ∃ m, Owns B W w' (memG p bw bb ws' bs m :: alG x c { v with cl := false, nx := 11 } :: R0) := by
  have ns := nil_Store (some ⟨p, 0, none⟩)
  obtain ⟨ov, ho⟩ : ∃ o, lOf c.t c.s v.sl 0 = o := ⟨_, rfl⟩
  obtain ⟨b, hb⟩ : ∃ b, (v.kp == 0) = b := ⟨_, rfl⟩
  have HW := Lib.hid (show ws' = if b = true then wPut ws ov v.wd else ws by rw [hw, ho, ← hb]; simp only [beq_iff_eq])
  have HO := Lib.hid ho
  have HL := Lib.hid hL
  clear ho hL hw
  obtain ⟨c2, c3, c4, c5, c6, c7, c8, c9, c10, c11, c12, c13, c14, c15, cz⟩ := al_cells (j := 1) hP rfl
  go_enter Try.func72, Try.ntmps72
  unfold memI at *
  cases b
  case false =>
    have e : ws' = ws := HW.out
    subst e
    have y7 := al_free (j := 1) hP rfl 7
    have y15 := al_free (j := 1) hP rfl 15
    go_wp2_with fail
    go_end0
    have h1 := al_set (j := 1) hP rfl 15 (.bool false) { v with cl := false } rfl rfl rfl
    have h2 := al_set (j := 1) h1 rfl 7 (.int .i64 11) { v with cl := false, nx := 11 } rfl rfl rfl
    exact ⟨rfl, _, h2⟩
  case true =>
    have e : ws' = wPut ws ov v.wd := HW.out
    subst e
    go_upto_region 1 with fail
    have hO' := hP.drew; clear hP; have hP := hO'; clear hO'
    clear c2 c3 c4 c5 c6 c7 c8 c9 c10 c11 c12 c13 c14 c15 cz; obtain ⟨c2, c3, c4, c5, c6, c7, c8, c9, c10, c11, c12, c13, c14, c15, cz⟩ := al_cells (j := 1) hP rfl
    first
      | go_loud (go_region_held3 (fun w => w.cell? ⟨x, 2, none⟩ = some (.int .i64 c.t) ∧ w.cell? ⟨x, 3, none⟩ = some (.int .i64 c.s) ∧ w.cell? ⟨x, 10, none⟩ = some (.int .i64 v.sl) ∧ w.cell? ⟨x, 14, none⟩ = some (.int .i64 v.wd)) (exact ⟨c2, c3, c10, c14⟩) (first | (go_at_call 10; refine (layout_Entry _ _ _ _ HL.out).mono ?_; rw [HO.out]; rintro e w7 ⟨rfl, hb⟩; have hO' := hP.via hb; clear hP; have hP := hO'; clear hO'; clear c2 c3 c4 c5 c6 c7 c8 c9 c10 c11 c12 c13 c14 c15 cz; obtain ⟨c2, c3, c4, c5, c6, c7, c8, c9, c10, c11, c12, c13, c14, c15, cz⟩ := al_cells (j := 1) hP rfl) | (go_at_call 24; refine (plain_Store 0 _ _ hP rfl hl).mono ?_; rintro e w7 ⟨rfl, hO'⟩; clear hP; have hP := hO'; clear hO'; (try simp only [List.set_cons_zero, List.set_cons_succ] at hP); clear c2 c3 c4 c5 c6 c7 c8 c9 c10 c11 c12 c13 c14 c15 cz; obtain ⟨c2, c3, c4, c5, c6, c7, c8, c9, c10, c11, c12, c13, c14, c15, cz⟩ := al_cells (j := 1) hP rfl)))
      | fail "store"
    all_goals
      have y7 := al_free (j := 1) hP rfl 7
      have y15 := al_free (j := 1) hP rfl 15
      go_wp2_with fail
      go_end0
      have h1 := al_set (j := 1) hP rfl 15 (.bool false) { v with cl := false } rfl rfl rfl
      have h2 := al_set (j := 1) h1 rfl 7 (.int .i64 11) { v with cl := false, nx := 11 } rfl rfl rfl
      exact ⟨rfl, _, h2⟩
set_option maxRecDepth 100000 in
set_option maxHeartbeats 4000000 in
theorem al_result {B : Nat} {W w : World} {G : List Grp} (j : Nat) {x : Nat} {c : AlC} {v : AlV} (hO : Owns B W w G) (hj : G[j]? = some (alG x c v)) :
    Calls Try.prog 73 #[.pointer (some ⟨x, 0, none⟩)] w fun r w' => r = .returned (.agg #[.int .i64 (alRes v).1, .int .i64 (alRes v).2]) ∧ Owns B W w' G := by
  obtain ⟨b, hb⟩ : ∃ b, (v.kp == 0) = b := ⟨_, rfl⟩
  have hb' : (v.kp != 0) = !b := by rw [← hb]; rfl
  have HR := Lib.hid (show alRes v = if b = true then (0, (hMake v.sl v.gen).1) else (v.kp, 0) by unfold alRes; rw [← hb]; simp only [beq_iff_eq])
  have hO1 := hO.alloc (.cells #[.int .i64 0, .int .i64 0] 79)
  have hj1 : ([(w.heap.size, Obj.cells #[.int .i64 0, .int .i64 0] 79 (0, 0))] :: G)[j + 1]? = some (alG x c v) := by simpa using hj
  go_enter Try.func73, Try.ntmps73
  go_upto_region 1 with fail
  generalize w.alloc (.cells #[.int .i64 0, .int .i64 0] 79) = w1 at hO1 ⊢
  generalize w.heap.size = rb at hO1 hj1 ⊢
  obtain ⟨c2, c3, c4, c5, c6, c7, c8, c9, c10, c11, c12, c13, c14, c15, cz⟩ := al_cells hO1 hj1
  have d0 : _ = some (Value.int .i64 0) := hO1.cell 0 0 rfl rfl 0
  have d1 : _ = some (Value.int .i64 0) := hO1.cell 0 0 rfl rfl 1
  have df := blk_free (hO1.get 0 0 rfl rfl) 0
  have dg := blk_free (hO1.get 0 0 rfl rfl) 1
  cases b
  case false =>
    go_wp2_with fail
    have hO4 := res_set2 hO1 (.int .i64 v.kp) (.int .i64 0)
    generalize World.setCell (World.setCell _ _ _) _ _ = wz at hO4 ⊢
    have e0 := hO4.cell 0 0 rfl rfl 0
    have e1 := hO4.cell 0 0 rfl rfl 1
    exact bodyPost_ret (v := .agg #[.int .i64 v.kp, .int .i64 0]) (by simp [results, Try.results73, go_sem, e0, e1]) rfl ⟨by rw [HR.out]; rfl, hO4.tail⟩
  case true =>
    obtain ⟨k, ek, hk⟩ : ∃ k ek, hMake v.sl v.gen = (k, ek) := ⟨_, _, rfl⟩
    have HR2 := Lib.hid (show alRes v = (0, k) by rw [HR.out, hk]; rfl)
    have HK := Lib.hid hk
    clear hk
    go_upto_region 3 with fail
    have hO2 := hO1.drew
    obtain ⟨c2, c3, c4, c5, c6, c7, c8, c9, c10, c11, c12, c13, c14, c15, cz⟩ := al_cells hO2 hj1
    first
      | go_loud (go_region_held3 (fun w => w.cell? ⟨x, 10, none⟩ = some (.int .i64 v.sl) ∧ w.cell? ⟨x, 13, none⟩ = some (.int .i64 v.gen)) (exact ⟨c10, c13⟩) ((go_at_call 64; refine (handle_make _ _ _).mono ?_; rw [HK.out]; rintro e w2 ⟨rfl, rfl⟩)))
      | fail "make"
    all_goals
      have hO3 := hO2
      have d0 : _ = some (Value.int .i64 0) := hO3.cell 0 0 rfl rfl 0
      have d1 : _ = some (Value.int .i64 0) := hO3.cell 0 0 rfl rfl 1
      have df := blk_free (hO3.get 0 0 rfl rfl) 0
      have dg := blk_free (hO3.get 0 0 rfl rfl) 1
      go_wp2_with fail
      have hO4 := (res_set2 hO1 (.int .i64 0) (.int .i64 k)).drew
      generalize World.drew _ = wz at hO4 ⊢
      have e0 := hO4.cell 0 0 rfl rfl 0
      have e1 := hO4.cell 0 0 rfl rfl 1
      exact bodyPost_ret (v := .agg #[.int .i64 0, .int .i64 k]) (by simp [results, Try.results73, go_sem, e0, e1]) rfl ⟨by rw [HR2.out], hO4.tail⟩
end Go.Proofs.Ytpebepjfgnoaaaa
