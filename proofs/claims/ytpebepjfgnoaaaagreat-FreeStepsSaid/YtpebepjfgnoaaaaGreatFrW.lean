/- The walks of free's machine: end, look. -/
import Derived.RegionTactic
import Derived.BigRegion
import Derived.Deep.RegionHeld3
import Derived.Outline
import Derived.Deep.DeepCutAuto
import Derived.Deep.QuietTactic
import Derived.BigQuiet
import Derived.Test.YtpebepjfgnoaaaaGreatFrP
import Derived.Test.YtpebepjfgnoaaaaGreatAlW
namespace Go.Proofs.YtpebepjfgnoaaaaGreat
set_option linter.unusedVariables false
set_option linter.unusedSimpArgs false
open Go.RowKit
set_option maxRecDepth 100000 in
set_option maxHeartbeats 2000000 in
theorem fr_end {B : Nat} {W w : World} {G : List Grp} (j : Nat) {x : Nat} {c : FrC} {v : FrV} (e : Int) (hO : Owns B W w G) (hj : G[j]? = some (frG x c v)) :
    Calls Tryz.prog 32 #[.pointer (some ⟨x, 0, none⟩), .int .i64 e] w fun r w' => r = .returned (resV (e, 0) true) ∧ Owns B W w' (G.set j (frG x c { v with nx := 0 })) := by
  go_enter Tryz.func32, Tryz.ntmps32
  have hO1 := hO.alloc (.cells #[.int .i64 0, .int .i64 0] 43)
  have hj1 : ([(w.heap.size, Obj.cells #[.int .i64 0, .int .i64 0] 43 (0, 0))] :: G)[j + 1]? = some (frG x c v) := by simpa using hj
  obtain ⟨c0, c1, c2, c3, c4, c5, c6, c7, c8, c9, cz⟩ := fr_cells hO1 hj1
  have hf := fr_free hO1 hj1 5
  have hne := hO1.ne_out 0 (j + 1) 0 0 rfl hj1 rfl rfl (by omega)
  go_upto_region 2 with fail
  have hO2 := fr_set hO1 hj1 5 (.int .i64 0) { v with nx := 0 } rfl rfl
  rw [List.set_cons_succ] at hO2
  generalize World.setCell _ _ _ = w3 at hO2 ⊢
  clear c0 c1 c2 c3 c4 c5 c6 c7 c8 c9 cz
  clear hf hj1 hO1 hO
  generalize hrb : w.heap.size = rb at hO2 ⊢
  have d0 : _ = some (Value.int .i64 0) := hO2.cell 0 0 rfl rfl 0
  have d1 : _ = some (Value.int .i64 0) := hO2.cell 0 0 rfl rfl 1
  have df := blk_free (hO2.get 0 0 rfl rfl) 0
  have dg := blk_free (hO2.get 0 0 rfl rfl) 1
  go_wp2
  have hO4 := res_set2 hO2 (.int .i64 e) (.int .i64 0)
  generalize World.setCell (World.setCell _ _ _) _ _ = w4 at hO4 ⊢
  have e0 : _ = some (Value.int .i64 e) := hO4.cell 0 0 rfl rfl 0
  have e1 : _ = some (Value.int .i64 0) := hO4.cell 0 0 rfl rfl 1
  exact bodyPost_ret (v := .tuple #[.agg #[.int .i64 e, .int .i64 0], .bool true]) (by simp [results, Tryz.results32, go_sem, e0, e1]) rfl ⟨rfl, hO4.tail⟩
def FrLook (B : Nat) (W : World) (R0 : List Grp) (x p bw bb : Nat) (ws bs : List Int) (c : FrC) (r : FrV × Int × Bool) (e : Ending) (w' : World) : Prop :=
  e = .returned (resV (r.2.1, 0) r.2.2) ∧ ∃ m, Owns B W w' (memG p bw bb ws bs m :: frG x c r.1 :: R0)
set_option maxRecDepth 100000 in
set_option maxHeartbeats 8000000 in
theorem fr_look_stale {B : Nat} {W w : World} {R0 : List Grp} {x p bw bb : Nat} {ws bs : List Int} {n : Int} {c : FrC} {v : FrV} (hP : Owns B W w (memG p bw bb ws bs n :: frG x c v :: R0)) (hst : c.st = true) : Calls Tryz.prog 29 #[.pointer (some ⟨x, 0, none⟩), memI p] w (FrLook B W R0 x p bw bb ws bs c ({ v with nx := 0 }, 4, true)) := by
  have c4 : w.cell? ⟨x, 4, none⟩ = some (.bool true) := by rw [← hst]; exact fr_cell (j := 1) hP rfl 4
  have cz := fr_lt (j := 1) hP rfl
  have hO1 := hP.alloc (.cells #[.int .i64 0, .int .i64 0] 43)
  clear hst
  go_enter Tryz.func29, Tryz.ntmps29
  go_wp2_with (go_at_call 32; refine (fr_end 2 4 hO1 rfl).mono ?_; simp only [resV]; rintro e w2 ⟨rfl, hO'⟩; clear hP; have hP := hO'; clear hO'; (try simp only [List.set_cons_zero, List.set_cons_succ] at hP); have rz := hP.lt 0 0 rfl rfl; have rd0 : _ = some (Value.int .i64 0) := hP.cell 0 0 rfl rfl 0; have rd1 : _ = some (Value.int .i64 0) := hP.cell 0 0 rfl rfl 1; have rf0 := blk_free (hP.get 0 0 rfl rfl) 0; have rf1 := blk_free (hP.get 0 0 rfl rfl) 1)
  go_wp2_with fail; generalize hw : World.setCell (World.setCell _ _ _) _ _ = wz; have hO4 : Owns B W wz _ := hw ▸ res_set2 hP (.int .i64 4) (.int .i64 0); clear hw; have e0 := hO4.cell 0 0 rfl rfl 0; have e1 := hO4.cell 0 0 rfl rfl 1; exact bodyPost_ret (v := .tuple #[.agg #[.int .i64 4, .int .i64 0], .bool true]) (by simp [results, Tryz.results29, go_sem, e0, e1]) rfl ⟨rfl, _, hO4.tail⟩
set_option maxRecDepth 100000 in
set_option maxHeartbeats 8000000 in
theorem fr_look_live {B : Nat} {W w : World} {R0 : List Grp} {x p bw bb : Nat} {ws bs : List Int} {n : Int} {c : FrC} {v : FrV} (hP : Owns B W w (memG p bw bb ws bs n :: frG x c v :: R0)) (hst : c.st = false) (hL : lOk c.t c.s) (hl : ws.length ≤ 4096) (u : Int) (hu : wAt ws (lOf c.t c.s c.sl 0) = u) (R : FrV × Int × Bool) (HR : Hid (R = frLook c u v)) :
    Calls Tryz.prog 29 #[.pointer (some ⟨x, 0, none⟩), memI p] w (FrLook B W R0 x p bw bb ws bs c R) := by
  have c4 : w.cell? ⟨x, 4, none⟩ = some (.bool false) := by rw [← hst]; exact fr_cell (j := 1) hP rfl 4
  have cz := fr_lt (j := 1) hP rfl
  have ns := nil_Load (some ⟨p, 0, none⟩)
  obtain ⟨ov, ho⟩ : ∃ v, lOf c.t c.s c.sl 0 = v := ⟨_, rfl⟩
  rw [ho] at hu
  have HOF := Lib.hid ho
  have HV := Lib.hid hu
  have HL := Lib.hid hL
  clear hu ho hL hst
  have hO' := hP.alloc (.cells #[.int .i64 0, .int .i64 0] 43)
  go_enter Tryz.func29, Tryz.ntmps29
  unfold memI at *
  go_upto_region 3 with fail
  clear hP; have hP := hO'; clear hO'
  generalize w.alloc (.cells #[.int .i64 0, .int .i64 0] 43) = w1 at hP ⊢
  generalize w.heap.size = rb at hP ⊢
  clear c4 cz
  go_cut [5] (fun s5 wx => s5 = .bool false ∧ ∃ m, Owns B W wx ([(rb, Obj.cells #[Value.int .i64 0, .int .i64 0] 43 (0, 0))] :: memG p bw bb ws bs m :: frG x c { v with wd := u } :: R0))
  case first =>
    have hO' := hP.drew; clear hP; have hP := hO'; clear hO'
    obtain ⟨c0, c1, c2, c3, c4, c5, c6, c7, c8, c9, cz⟩ := fr_cells (j := 2) hP rfl
    first
      | go_loud (go_region_held3 (fun w => w.cell? ⟨x, 0, none⟩ = some (.int .i64 c.t) ∧ w.cell? ⟨x, 1, none⟩ = some (.int .i64 c.s) ∧ w.cell? ⟨x, 2, none⟩ = some (.int .i64 c.sl)) (first | (with_reducible exact ⟨c0, c1, c2⟩) | exact ⟨(cell_off (by decide)).trans c0, (cell_off (by decide)).trans c1, (cell_off (by decide)).trans c2⟩) (first | (go_at_call 47; refine (layout_Entry _ _ _ _ HL.out).mono ?_; rw [HOF.out]; rintro e w7 ⟨rfl, hb⟩; have hO' := hP.via hb; clear hP; have hP := hO'; clear hO'; clear c0 c1 c2 c3 c4 c5 c6 c7 c8 c9 cz; obtain ⟨c0, c1, c2, c3, c4, c5, c6, c7, c8, c9, cz⟩ := fr_cells (j := 2) hP rfl) | (go_at_call 16; refine (plain_Load 1 _ hP rfl hl).mono ?_; rw [HV.out]; rintro e w7 ⟨rfl, hO'⟩; clear hP; have hP := hO'; clear hO'; (try simp only [List.set_cons_zero, List.set_cons_succ] at hP); clear c0 c1 c2 c3 c4 c5 c6 c7 c8 c9 cz; obtain ⟨c0, c1, c2, c3, c4, c5, c6, c7, c8, c9, cz⟩ := fr_cells (j := 2) hP rfl; have y6 := fr_free (j := 2) hP rfl 6)))
      | fail "load"
    all_goals
      go_wp2_with fail
      go_meet
      exact ⟨rfl, _, fr_set (j := 2) hP rfl 6 (.int .i64 u) { v with wd := u } rfl rfl⟩
  case rest =>
    obtain ⟨rfl, m, hP'⟩ := hcut
    clear hP
    have hP := hP'
    clear hP'
    obtain ⟨c0, c1, c2, c3, c4, c5, c6, c7, c8, c9, cz⟩ := fr_cells (j := 2) hP rfl
    go_upto_region 5 with (go_at_call 51; refine (entry_Unpack _ _).mono ?_; rintro e w7 ⟨rfl, hb⟩; have hO' := hP.via hb; clear hP; have hP := hO'; clear hO')
    clear c0 c1 c2 c3 c4 c5 c6 c7 c8 c9 cz
    have hO' := hP.alloc (.cells #[.int .i64 (uO u), .int .i64 (uG u), .int .i64 (uP u), .int .i64 (uU u), .bool (uL u), .bool (uA u)] 102); clear hP; have hP := hO'; clear hO'
    generalize w7.heap.size = eb at hP ⊢
    generalize w7.alloc _ = w8 at hP ⊢
    obtain ⟨k0, hk0⟩ : ∃ k, eOk u = k := ⟨_, rfl⟩
    obtain ⟨kA, hkA⟩ : ∃ k, uA u = k := ⟨_, rfl⟩
    obtain ⟨kG, hkG⟩ : ∃ k, uG u = k := ⟨_, rfl⟩
    obtain ⟨kL, hkL⟩ : ∃ k, uL u = k := ⟨_, rfl⟩
    obtain ⟨kP, hkP⟩ : ∃ k, uP u = k := ⟨_, rfl⟩
    obtain ⟨kU, hkU⟩ : ∃ k, uU u = k := ⟨_, rfl⟩
    obtain ⟨nw, hnw⟩ : ∃ k, (eNext u).1 = k := ⟨_, rfl⟩
    obtain ⟨nm, hnm⟩ : ∃ k, eNextMore u = k := ⟨_, rfl⟩
    obtain ⟨b1, hb1⟩ : ∃ b, (k0 == 0) = b := ⟨_, rfl⟩
    obtain ⟨b3, hb3⟩ : ∃ b, (kG == c.ge) = b := ⟨_, rfl⟩
    obtain ⟨b4, hb4⟩ : ∃ b, decide (0 < kP) = b := ⟨_, rfl⟩
    obtain ⟨b5, hb5⟩ : ∃ b, (kU == 0) = b := ⟨_, rfl⟩
    have FR : fresh u c.ge = (b1 && (kA && b3)) := by unfold fresh; rw [hk0, hkA, hkG, ← hb1, ← hb3]; rfl
    have HQ := Lib.hid (show R = if (b1 && (kA && b3)) = true then (if b4 = true then ({ v with wd := u, nx := 0 }, 6, true) else if (b5 && !kL) = true then ({ v with wd := u, tw := nw, mo := nm, nx := 2 }, 0, false) else ({ v with wd := u }, 0, false)) else ({ v with wd := u, nx := 0 }, 4, true) by
      rw [HR.out]; unfold frLook; rw [FR, hkP, hkU, hkL, hnw, hnm, hb5, ← hb4]; simp only [decide_eq_true_eq])
    have hb1' : (k0 != 0) = !b1 := by rw [← hb1]; rfl
    have hb3' : (kG != c.ge) = !b3 := by rw [← hb3]; rfl
    have HNW := Lib.hid hnw
    have HNM := Lib.hid hnm
    rw [hk0]
    rw [hkA, hkG, hkL, hkP, hkU] at hP
    rw [hkA, hkG, hkL, hkP, hkU]
    clear FR HR hk0 hkA hkG hkL hkP hkU hnw hnm
    obtain ⟨c0, c1, c2, c3, c4, c5, c6, c7, c8, c9, cz⟩ := fr_cells (j := 3) hP rfl
    have g1 : w8.cell? ⟨eb, 1, none⟩ = some (.int .i64 kG) := hP.cell 0 0 rfl rfl 1
    have g2 : w8.cell? ⟨eb, 2, none⟩ = some (.int .i64 kP) := hP.cell 0 0 rfl rfl 2
    have g3 : w8.cell? ⟨eb, 3, none⟩ = some (.int .i64 kU) := hP.cell 0 0 rfl rfl 3
    have g4 : w8.cell? ⟨eb, 4, none⟩ = some (.bool kL) := hP.cell 0 0 rfl rfl 4
    have g5 : w8.cell? ⟨eb, 5, none⟩ = some (.bool kA) := hP.cell 0 0 rfl rfl 5
    cases b1 <;> cases kA <;> cases b3
    case true.true.true =>
      go_quiet (fail)
      have hO' := hP.drewN nq; clear hP; have hP := hO'; clear hO'
      generalize w8.drewN nq = w9 at hP ⊢
      clear c0 c1 c2 c3 c4 c5 c6 c7 c8 c9 cz
      clear g1 g2 g3 g4 g5
      have g2 : w9.cell? ⟨eb, 2, none⟩ = some (.int .i64 kP) := hP.cell 0 0 rfl rfl 2
      have g3 : w9.cell? ⟨eb, 3, none⟩ = some (.int .i64 kU) := hP.cell 0 0 rfl rfl 3
      have g4 : w9.cell? ⟨eb, 4, none⟩ = some (.bool kL) := hP.cell 0 0 rfl rfl 4
      cases b4
      case true =>
        have e : R = ({ v with wd := u, nx := 0 }, 6, true) := HQ.out
        subst e
        go_wp2_with (go_at_call 32; refine (fr_end 3 6 hP rfl).mono ?_; simp only [resV]; rintro e w2 ⟨rfl, hO'⟩; clear hP; have hP := hO'; clear hO'; (try simp only [List.set_cons_zero, List.set_cons_succ] at hP); have hO' := hP.tail; clear hP; have hP := hO'; clear hO'; clear g2 g3 g4; have rz := hP.lt 0 0 rfl rfl; have rd0 : _ = some (Value.int .i64 0) := hP.cell 0 0 rfl rfl 0; have rd1 : _ = some (Value.int .i64 0) := hP.cell 0 0 rfl rfl 1; have rf0 := blk_free (hP.get 0 0 rfl rfl) 0; have rf1 := blk_free (hP.get 0 0 rfl rfl) 1)
        go_wp2_with fail; generalize hw : World.setCell (World.setCell _ _ _) _ _ = wz; have hO4 : Owns B W wz _ := hw ▸ res_set2 hP (.int .i64 6) (.int .i64 0); clear hw; have e0 := hO4.cell 0 0 rfl rfl 0; have e1 := hO4.cell 0 0 rfl rfl 1; exact bodyPost_ret (v := .tuple #[.agg #[.int .i64 6, .int .i64 0], .bool true]) (by simp [results, Tryz.results29, go_sem, e0, e1]) rfl ⟨rfl, _, hO4.tail⟩
      case false =>
        cases b5 <;> cases kL
        case true.false =>
          have e : R = ({ v with wd := u, tw := nw, mo := nm, nx := 2 }, 0, false) := HQ.out
          subst e
          obtain ⟨c0, c1, c2, c3, c4, c5, c6, c7, c8, c9, cz⟩ := fr_cells (j := 3) hP rfl
          go_wp2_with fail
          refine (entry_Next _ _).mono ?_
          rw [HNW.out, HNM.out]
          rintro e w10 ⟨rfl, hb⟩; have hO' := hP.via hb; clear hP; have hP := hO'; clear hO'
          clear g2 g3 g4
          clear c0 c1 c2 c3 c4 c5 c6 c7 c8 c9 cz
          have hO' := hP.tail; clear hP; have hP := hO'; clear hO'
          obtain ⟨c0, c1, c2, c3, c4, c5, c6, c7, c8, c9, cz⟩ := fr_cells (j := 2) hP rfl
          have y7 := fr_free (j := 2) hP rfl 7
          have y8 := fr_free (j := 2) hP rfl 8
          have y5 := fr_free (j := 2) hP rfl 5
          go_upto_region 12 with fail
          have h1 := fr_set (j := 2) hP rfl 7 (.int .i64 nw) { v with wd := u, tw := nw } rfl rfl
          have h2 := fr_set (j := 2) h1 rfl 8 (.bool nm) { v with wd := u, tw := nw, mo := nm } rfl rfl
          have hO' := fr_set (j := 2) h2 rfl 5 (.int .i64 2) { v with wd := u, tw := nw, mo := nm, nx := 2 } rfl rfl
          clear h1 h2 y7 y8 y5; clear hP; have hP := hO'; clear hO'; (try simp only [List.set_cons_zero, List.set_cons_succ] at hP)
          clear c0 c1 c2 c3 c4 c5 c6 c7 c8 c9 cz
          generalize World.setCell (World.setCell (World.setCell _ _ _) _ _) _ _ = w11 at hP ⊢
          have rz := hP.lt 0 0 rfl rfl; have rd0 : _ = some (Value.int .i64 0) := hP.cell 0 0 rfl rfl 0; have rd1 : _ = some (Value.int .i64 0) := hP.cell 0 0 rfl rfl 1; have rf0 := blk_free (hP.get 0 0 rfl rfl) 0; have rf1 := blk_free (hP.get 0 0 rfl rfl) 1
          go_wp2_with fail; generalize hw : World.setCell (World.setCell _ _ _) _ _ = wz; have hO4 : Owns B W wz _ := hw ▸ res_set2 hP (.int .i64 0) (.int .i64 0); clear hw; have e0 := hO4.cell 0 0 rfl rfl 0; have e1 := hO4.cell 0 0 rfl rfl 1; exact bodyPost_ret (v := .tuple #[.agg #[.int .i64 0, .int .i64 0], .bool false]) (by simp [results, Tryz.results29, go_sem, e0, e1]) rfl ⟨rfl, _, hO4.tail⟩
        all_goals
          have e : R = ({ v with wd := u }, 0, false) := HQ.out
          subst e
          go_upto_region 12 with fail
          have hO' := hP.tail; clear hP; have hP := hO'; clear hO'; clear g2 g3 g4; have rz := hP.lt 0 0 rfl rfl; have rd0 : _ = some (Value.int .i64 0) := hP.cell 0 0 rfl rfl 0; have rd1 : _ = some (Value.int .i64 0) := hP.cell 0 0 rfl rfl 1; have rf0 := blk_free (hP.get 0 0 rfl rfl) 0; have rf1 := blk_free (hP.get 0 0 rfl rfl) 1
          go_wp2_with fail; generalize hw : World.setCell (World.setCell _ _ _) _ _ = wz; have hO4 : Owns B W wz _ := hw ▸ res_set2 hP (.int .i64 0) (.int .i64 0); clear hw; have e0 := hO4.cell 0 0 rfl rfl 0; have e1 := hO4.cell 0 0 rfl rfl 1; exact bodyPost_ret (v := .tuple #[.agg #[.int .i64 0, .int .i64 0], .bool false]) (by simp [results, Tryz.results29, go_sem, e0, e1]) rfl ⟨rfl, _, hO4.tail⟩
    all_goals
      have e : R = ({ v with wd := u, nx := 0 }, 4, true) := HQ.out
      subst e
      go_quiet (fail)
      have hO' := hP.drewN nq; clear hP; have hP := hO'; clear hO'
      generalize w8.drewN nq = w9 at hP ⊢
      clear g1 g2 g3 g4 g5
      clear c0 c1 c2 c3 c4 c5 c6 c7 c8 c9 cz
      go_wp2_with (go_at_call 32; refine (fr_end 3 4 hP rfl).mono ?_; simp only [resV]; rintro e w2 ⟨rfl, hO'⟩; clear hP; have hP := hO'; clear hO'; (try simp only [List.set_cons_zero, List.set_cons_succ] at hP); have hO' := hP.tail; clear hP; have hP := hO'; clear hO'; have rz := hP.lt 0 0 rfl rfl; have rd0 : _ = some (Value.int .i64 0) := hP.cell 0 0 rfl rfl 0; have rd1 : _ = some (Value.int .i64 0) := hP.cell 0 0 rfl rfl 1; have rf0 := blk_free (hP.get 0 0 rfl rfl) 0; have rf1 := blk_free (hP.get 0 0 rfl rfl) 1)
      go_wp2_with fail; generalize hw : World.setCell (World.setCell _ _ _) _ _ = wz; have hO4 : Owns B W wz _ := hw ▸ res_set2 hP (.int .i64 4) (.int .i64 0); clear hw; have e0 := hO4.cell 0 0 rfl rfl 0; have e1 := hO4.cell 0 0 rfl rfl 1; exact bodyPost_ret (v := .tuple #[.agg #[.int .i64 4, .int .i64 0], .bool true]) (by simp [results, Tryz.results29, go_sem, e0, e1]) rfl ⟨rfl, _, hO4.tail⟩
end Go.Proofs.YtpebepjfgnoaaaaGreat
