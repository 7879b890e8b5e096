/- The walks of alloc's machine: look. -/
import Derived.RegionTactic
import Derived.BigRegion
import Derived.Deep.RegionHeld3
import Derived.Outline
import Derived.Deep.DeepCutAuto
import Derived.Deep.QuietTactic
import Derived.BigQuiet
import Derived.Test.YtpebepjfgnoaaaaAlF
namespace Go.Proofs.Ytpebepjfgnoaaaa
set_option linter.unusedVariables false
set_option linter.unusedSimpArgs false
open Go.RowKit
theorem ent_set6 {B : Nat} {W w : World} {G : List Grp} {b : Nat} {T : TypeId} {a0 a1 a2 a3 a4 a5 : Value} (h : Owns B W w ([(b, .cells #[a0, a1, a2, a3, a4, a5] T (0, 0))] :: G)) (v0 v1 v2 v3 v4 v5 : Value) :
    Owns B W ((((((w.setCell ⟨b, 0, none⟩ v0).setCell ⟨b, 1, none⟩ v1).setCell ⟨b, 2, none⟩ v2).setCell ⟨b, 3, none⟩ v3).setCell ⟨b, 4, none⟩ v4).setCell ⟨b, 5, none⟩ v5) ([(b, .cells #[v0, v1, v2, v3, v4, v5] T (0, 0))] :: G) := by
  have h0 : Owns B W _ ([(b, .cells #[v0, a1, a2, a3, a4, a5] T (0, 0))] :: G) := h.set 0 0 rfl rfl 0 v0
  have h1 : Owns B W _ ([(b, .cells #[v0, v1, a2, a3, a4, a5] T (0, 0))] :: G) := h0.set 0 0 rfl rfl 1 v1
  have h2 : Owns B W _ ([(b, .cells #[v0, v1, v2, a3, a4, a5] T (0, 0))] :: G) := h1.set 0 0 rfl rfl 2 v2
  have h3 : Owns B W _ ([(b, .cells #[v0, v1, v2, v3, a4, a5] T (0, 0))] :: G) := h2.set 0 0 rfl rfl 3 v3
  have h4 : Owns B W _ ([(b, .cells #[v0, v1, v2, v3, v4, a5] T (0, 0))] :: G) := h3.set 0 0 rfl rfl 4 v4
  exact h4.set 0 0 rfl rfl 5 v5
set_option maxRecDepth 100000 in
set_option maxHeartbeats 8000000 in
theorem al_look {B : Nat} {W w : World} {R0 : List Grp} {x p bw bb : Nat} {ws bs : List Int} {n : Int} {c : AlC} {v : AlV} (hP : Owns B W w (memG p bw bb ws bs n :: alG x c v :: R0)) (hL : lOk c.t c.s) (hl : ws.length ≤ 4096) (u : Int) (hu : wAt ws (lOf c.t c.s v.sl 0) = u) (R : AlV) (hR : R = alLook u v) :
    Calls Try.prog 71 #[.pointer (some ⟨x, 0, none⟩), memI p] w fun r w' => r = .returned (.tuple #[]) ∧ ∃ m, Owns B W w' (memG p bw bb ws bs m :: alG x c R :: R0) := by
  have ns := nil_Load (some ⟨p, 0, none⟩)
  obtain ⟨ov, ho⟩ : ∃ o, lOf c.t c.s v.sl 0 = o := ⟨_, rfl⟩
  rw [ho] at hu
  have HOF := Lib.hid ho
  have HV := Lib.hid hu
  have HL := Lib.hid hL
  clear ho hu hL
  go_enter Try.func71, Try.ntmps71
  unfold memI at *
  go_upto_region 0 with fail
  go_cut [4, 5] (fun s4 s5 wx => ∃ (eb : Nat) (m : Int), s4 = .pointer (some ⟨eb, 0, none⟩) ∧ s5 = .int .i64 (eOk u) ∧ Owns B W wx ([(eb, Obj.cells #[.int .i64 (uO u), .int .i64 (uG u), .int .i64 (uP u), .int .i64 (uU u), .bool (uL u), .bool (uA u)] 141 (0, 0))] :: memG p bw bb ws bs m :: alG x c v :: R0))
  case first =>
    have hm0 : ∀ (g : Grp) (G : List Grp), (g :: G)[0]? = some g := fun _ _ => rfl
    have hm1 : ∀ (g g' : Grp) (G : List Grp), (g :: g' :: G)[1]? = some g' := fun _ _ _ => rfl
    have hA := fun o => (hP.alloc o).drew
    have hO := hP.drew
    clear hP
    have c0 : _ = some (Value.int .i64 c.t) := al_cell (j := 1) hO rfl 2
    have c1 : _ = some (Value.int .i64 c.s) := al_cell (j := 1) hO rfl 3
    have c2 : _ = some (Value.int .i64 v.sl) := al_cell (j := 1) hO rfl 10
    have cz := al_lt (j := 1) hO rfl
    first
      | go_loud (go_region_held3 (fun w => w.cell? ⟨x, 2, none⟩ = some (.int .i64 c.t) ∧ w.cell? ⟨x, 3, none⟩ = some (.int .i64 c.s) ∧ w.cell? ⟨x, 10, none⟩ = some (.int .i64 v.sl)) (first | (with_reducible exact ⟨c0, c1, c2⟩) | (with_reducible exact ⟨cell_alloc _ c0, cell_alloc _ c1, cell_alloc _ c2⟩) | (refine ⟨?_, ?_, ?_⟩ <;> (repeat (rw [World.cell?_setCell_far _ _ _ _ (by exact nx)])) <;> assumption) | exact ⟨cell_alloc _ c0, cell_alloc _ c1, cell_alloc _ c2⟩) (first | (go_at_call 10; refine (layout_Entry _ _ _ _ HL.out).mono ?_; rw [HOF.out]; rintro e w7 ⟨rfl, hb⟩; (first | ((with_reducible have hO := hO.via hb); have c0 := cell_below hb c0; have c1 := cell_below hb c1; have c2 := cell_below hb c2) | ((with_reducible have hO := (hO.alloc _).via hb); have c0 := cell_below hb (cell_alloc _ c0); have c1 := cell_below hb (cell_alloc _ c1); have c2 := cell_below hb (cell_alloc _ c2)) | ((with_reducible have hO := (hA _).via hb); have c0 := cell_below hb (cell_alloc _ c0); have c1 := cell_below hb (cell_alloc _ c1); have c2 := cell_below hb (cell_alloc _ c2))); (try (have e0 := hO.get 0 0 rfl rfl; have g0 : _ = some (Value.int .i64 0) := blk_cell e0 0; have g1 : _ = some (Value.int .i64 0) := blk_cell e0 1; have g2 : _ = some (Value.int .i64 0) := blk_cell e0 2; have g3 : _ = some (Value.int .i64 0) := blk_cell e0 3; have g4 : _ = some (Value.bool false) := blk_cell e0 4; have g5 : _ = some (Value.bool false) := blk_cell e0 5; have ez := blk_lt e0; have f0 := blk_free e0 0; have f1 := blk_free e0 1; have f2 := blk_free e0 2; have f3 := blk_free e0 3; have f4 := blk_free e0 4; have f5 := blk_free e0 5; clear e0; have nx := hO.ne_out 0 2 0 0 rfl rfl rfl rfl (by decide)))) | (go_at_call 43; (first | ((with_reducible refine (plain_Load 0 _ hO (hm0 _ _) hl).mono ?_); rw [HV.out]; rintro e w7 ⟨rfl, hO'⟩; have hO := hO'; have c0 : _ = some (Value.int .i64 c.t) := al_cell (j := 1) hO rfl 2; have c1 : _ = some (Value.int .i64 c.s) := al_cell (j := 1) hO rfl 3; have c2 : _ = some (Value.int .i64 v.sl) := al_cell (j := 1) hO rfl 10) | ((first | (with_reducible refine (plain_Load 1 _ hO (hm1 _ _ _) hl).mono ?_) | (with_reducible refine (plain_Load 1 _ (hO.alloc _) (hm1 _ _ _) hl).mono ?_)); rw [HV.out]; rintro e w7 ⟨rfl, hO'⟩; have hO := hO'; have c0 : _ = some (Value.int .i64 c.t) := al_cell (j := 2) hO rfl 2; have c1 : _ = some (Value.int .i64 c.s) := al_cell (j := 2) hO rfl 3; have c2 : _ = some (Value.int .i64 v.sl) := al_cell (j := 2) hO rfl 10; (try (have e0 := hO.get 0 0 rfl rfl; have g0 : _ = some (Value.int .i64 0) := blk_cell e0 0; have g1 : _ = some (Value.int .i64 0) := blk_cell e0 1; have g2 : _ = some (Value.int .i64 0) := blk_cell e0 2; have g3 : _ = some (Value.int .i64 0) := blk_cell e0 3; have g4 : _ = some (Value.bool false) := blk_cell e0 4; have g5 : _ = some (Value.bool false) := blk_cell e0 5; have ez := blk_lt e0; have f0 := blk_free e0 0; have f1 := blk_free e0 1; have f2 := blk_free e0 2; have f3 := blk_free e0 3; have f4 := blk_free e0 4; have f5 := blk_free e0 5; clear e0; have nx := hO.ne_out 0 2 0 0 rfl rfl rfl rfl (by decide)))))) | (go_at_call 89; refine (entry_Unpack _ _).mono ?_; rintro e w7 ⟨rfl, hb⟩; (first | ((with_reducible have hO := hO.via hb); have c0 := cell_below hb c0; have c1 := cell_below hb c1; have c2 := cell_below hb c2) | ((with_reducible have hO := (hO.alloc _).via hb); have c0 := cell_below hb (cell_alloc _ c0); have c1 := cell_below hb (cell_alloc _ c1); have c2 := cell_below hb (cell_alloc _ c2)) | ((with_reducible have hO := (hA _).via hb); have c0 := cell_below hb (cell_alloc _ c0); have c1 := cell_below hb (cell_alloc _ c1); have c2 := cell_below hb (cell_alloc _ c2))); (try (have e0 := hO.get 0 0 rfl rfl; have g0 : _ = some (Value.int .i64 0) := blk_cell e0 0; have g1 : _ = some (Value.int .i64 0) := blk_cell e0 1; have g2 : _ = some (Value.int .i64 0) := blk_cell e0 2; have g3 : _ = some (Value.int .i64 0) := blk_cell e0 3; have g4 : _ = some (Value.bool false) := blk_cell e0 4; have g5 : _ = some (Value.bool false) := blk_cell e0 5; have ez := blk_lt e0; have f0 := blk_free e0 0; have f1 := blk_free e0 1; have f2 := blk_free e0 2; have f3 := blk_free e0 3; have f4 := blk_free e0 4; have f5 := blk_free e0 5; clear e0; have nx := hO.ne_out 0 2 0 0 rfl rfl rfl rfl (by decide))))))
      | fail "load"
    all_goals
      go_wp2_with fail
      go_meet
      first
        | (with_reducible exact ⟨_, _, rfl, rfl, hO.alloc _⟩)
        | exact ⟨_, _, rfl, rfl, ent_set6 hO _ _ _ _ _ _⟩
  case rest =>
    obtain ⟨eb, m, rfl, h5, hP⟩ := hcut
    obtain ⟨k0, hk0⟩ : ∃ k, eOk u = k := ⟨_, rfl⟩
    obtain ⟨kA, hkA⟩ : ∃ k, uA u = k := ⟨_, rfl⟩
    obtain ⟨kG, hkG⟩ : ∃ k, uG u = k := ⟨_, rfl⟩
    obtain ⟨b, hb⟩ : ∃ b, (k0 != 0) = b := ⟨_, rfl⟩
    have HR := Lib.hid (show R = if (b || kA) = true then { v with nx := 10, gen := kG, kp := 2 } else { v with nx := 10, gen := kG, wd := (ePack v.f kG 0 0 false true).1 } by rw [hR]; unfold alLook; rw [hk0, hkA, hkG, ← hb]; simp only [Bool.or_eq_true, bne_iff_ne, ne_eq])
    rw [hk0] at h5
    subst h5
    rw [hkA, hkG] at hP
    clear hR hk0 hkA hkG ns
    have nx := hP.ne_out 0 2 0 0 rfl rfl rfl rfl (by decide)
    have nx' := hP.ne_out 2 0 0 0 rfl rfl rfl rfl (by decide)
    go_upto_region 1 with fail
    obtain ⟨c2, c3, c4, c5, c6, c7, c8, c9, c10, c11, c12, c13, c14, c15, cz⟩ := al_cells (j := 2) hP rfl
    have y7 := al_free (j := 2) hP rfl 7
    have y13 := al_free (j := 2) hP rfl 13
    have hA := al_set (j := 2) hP rfl 7 (.int .i64 10) { v with nx := 10 } rfl rfl rfl
    have hB := al_set (j := 2) hA rfl 13 (.int .i64 kG) { v with nx := 10, gen := kG } rfl rfl rfl
    simp only [List.set_cons_zero, List.set_cons_succ] at hB
    have l0 : _ = some (Value.int .i64 kG) := hP.drew.cell 0 0 rfl rfl 1
    have l1 : _ = some (Value.int .i64 kG) := hA.drew.cell 0 0 rfl rfl 1
    have l2 : _ = some (Value.int .i64 kG) := hB.drew.cell 0 0 rfl rfl 1
    first
      | go_loud (go_region_held3 (fun w => w.cell? ⟨eb, 1, none⟩ = some (.int .i64 kG)) (first | (with_reducible exact l0) | (with_reducible exact l1) | (with_reducible exact l2) | exact l1 | exact l2) (fail))
      | fail "two"
    all_goals
      have hO' := hB.drew; clear hP; have hP := hO'; clear hO'
      clear hA hB y13 y7 l0 l1 l2
      clear c2 c3 c4 c5 c6 c7 c8 c9 c10 c11 c12 c13 c14 c15 cz
      generalize World.drew _ = w8 at hP ⊢
      have g1 : _ = some (Value.int .i64 kG) := hP.cell 0 0 rfl rfl 1
      have g5 : _ = some (Value.bool kA) := hP.cell 0 0 rfl rfl 5
      obtain ⟨c2, c3, c4, c5, c6, c7, c8, c9, c10, c11, c12, c13, c14, c15, cz⟩ := al_cells (j := 2) hP rfl
      clear c2 c3 c4 c5 c6 c7 c8 c9 c10 c12 c13 c15
      cases b <;> cases kA
      case false.false =>
        obtain ⟨tv, te, hte⟩ : ∃ a b, ePack v.f kG 0 0 false true = (a, b) := ⟨_, _, rfl⟩
        have HTE := Lib.hid hte
        have e : R = { v with nx := 10, gen := kG, wd := tv } := by rw [HR.out, hte]; rfl
        subst e
        clear hte HR
        go_upto_region 4 with fail
        have hO' := hP.drew; clear hP; have hP := hO'; clear hO'
        clear c11 c14 cz g1 g5
        have c11 : _ = some (Value.int .i64 v.f) := al_cell (j := 2) hP rfl 11
        have c14 : _ = some (Value.int .i64 v.wd) := al_cell (j := 2) hP rfl 14
        have g1 : _ = some (Value.int .i64 kG) := hP.cell 0 0 rfl rfl 1
        have y14 := al_free (j := 2) hP rfl 14
        have cz := al_lt (j := 2) hP rfl
        first
          | go_loud (go_region_held3 (fun w => w.cell? ⟨x, 11, none⟩ = some (.int .i64 v.f) ∧ w.cell? ⟨eb, 1, none⟩ = some (.int .i64 kG)) (first | (with_reducible exact ⟨c11, g1⟩) | exact ⟨(cell_off (by decide)).trans c11, (World.cell?_setCell_far _ _ _ _ (by first | exact nx | exact nx')).trans g1⟩) ((go_at_call 90; refine (entry_Pack _ _ _ _ _ _ _).mono ?_; rw [HTE.out]; rintro e w7 ⟨rfl, hb⟩; have hO' := hP.via hb; clear hP; have hP := hO'; clear hO'; clear c11 c14 g1 y14 cz; have c11 : _ = some (Value.int .i64 v.f) := al_cell (j := 2) hP rfl 11; have c14 : _ = some (Value.int .i64 v.wd) := al_cell (j := 2) hP rfl 14; have g1 : _ = some (Value.int .i64 kG) := hP.cell 0 0 rfl rfl 1; have y14 := al_free (j := 2) hP rfl 14; have cz := al_lt (j := 2) hP rfl)))
          | fail "pack"
        all_goals
          have h1 := al_set (j := 2) hP rfl 14 (.int .i64 tv) { v with nx := 10, gen := kG, wd := tv } rfl rfl rfl
          simp only [List.set_cons_zero, List.set_cons_succ] at h1
          go_wp2_with fail
          go_end0
          first | exact ⟨rfl, _, h1.tail⟩ | exact ⟨rfl, _, h1.drew.tail⟩
      all_goals
        have e : R = { v with nx := 10, gen := kG, kp := 2 } := HR.out
        subst e
        go_wp2_with (go_at_call 88; refine (al_fail 2 2 10 hP rfl).mono ?_; rintro e w3 ⟨rfl, hO'⟩; clear hP; have hP := hO'; clear hO'; (try simp only [List.set_cons_zero, List.set_cons_succ] at hP))
        first | go_ret | exact bodyPost_ret (v := .tuple #[]) rfl rfl ?_ | exact bodyPost_ret (v := .tuple #[]) (by simp [results, Try.results71, go_sem]) rfl ⟨rfl, _, hP.tail⟩
        all_goals exact ⟨rfl, _, hP.tail⟩
end Go.Proofs.Ytpebepjfgnoaaaa
