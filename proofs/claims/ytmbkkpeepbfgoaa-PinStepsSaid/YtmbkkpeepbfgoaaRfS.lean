/- The reference's pin machine: end, first. -/
import Derived.RegionTactic
import Derived.BigRegion
import Derived.Deep.RegionHeld3
import Derived.Outline
import Derived.Deep.DeepCutAuto
import Derived.Test.YtmbkkpeepbfgoaaRfF
import Derived.Test.YtmbkkpeepbfgoaaPnS
import Derived.Test.YtmbkkpeepbfgoaaHnW
namespace Go.Proofs.Ytmbkkpeepbfgoaa
set_option linter.unusedVariables false
set_option linter.unusedSimpArgs false
open Go.RowKit
def rpG (x : Nat) (a s t h : Int) (un : Bool) (nx wd tw : Int) : Grp := [(x, .cells #[.int .i64 a, .int .i64 s, .int .i64 t, .int .i64 h, .bool un, .int .i64 nx, .int .i64 wd, .int .i64 tw] 106 (0, 0))]
theorem rp_cells {B : Nat} {W w : World} {G : List Grp} {j x : Nat} {a s t h : Int} {un : Bool} {nx wd tw : Int} (k : Owns B W w G) (hj : G[j]? = some (rpG x a s t h un nx wd tw)) :
    w.cell? ⟨x, 0, none⟩ = some (.int .i64 a) ∧ w.cell? ⟨x, 1, none⟩ = some (.int .i64 s) ∧ w.cell? ⟨x, 2, none⟩ = some (.int .i64 t) ∧ w.cell? ⟨x, 3, none⟩ = some (.int .i64 h) ∧ w.cell? ⟨x, 4, none⟩ = some (.bool un) ∧ w.cell? ⟨x, 5, none⟩ = some (.int .i64 nx) ∧
      w.cell? ⟨x, 6, none⟩ = some (.int .i64 wd) ∧ w.cell? ⟨x, 7, none⟩ = some (.int .i64 tw) ∧ x < w.heap.size ∧ (∀ o, w.frozen? ⟨x, o, none⟩ = false) :=
  ⟨k.cell j 0 hj rfl 0, k.cell j 0 hj rfl 1, k.cell j 0 hj rfl 2, k.cell j 0 hj rfl 3, k.cell j 0 hj rfl 4, k.cell j 0 hj rfl 5, k.cell j 0 hj rfl 6, k.cell j 0 hj rfl 7, k.lt j 0 hj rfl, blk_free (k.get j 0 hj rfl)⟩
theorem rp_nx {B : Nat} {W w : World} {G : List Grp} {j x : Nat} {a s t h : Int} {un : Bool} {nx wd tw : Int} (k : Owns B W w G) (hj : G[j]? = some (rpG x a s t h un nx wd tw)) (v : Int) : Owns B W (w.setCell ⟨x, 5, none⟩ (.int .i64 v)) (G.set j (rpG x a s t h un v wd tw)) := k.set j 0 hj rfl 5 (.int .i64 v)
theorem rp_wd {B : Nat} {W w : World} {G : List Grp} {j x : Nat} {a s t h : Int} {un : Bool} {nx wd tw : Int} (k : Owns B W w G) (hj : G[j]? = some (rpG x a s t h un nx wd tw)) (v : Int) : Owns B W (w.setCell ⟨x, 6, none⟩ (.int .i64 v)) (G.set j (rpG x a s t h un nx v tw)) := k.set j 0 hj rfl 6 (.int .i64 v)
theorem rp_tw {B : Nat} {W w : World} {G : List Grp} {j x : Nat} {a s t h : Int} {un : Bool} {nx wd tw : Int} (k : Owns B W w G) (hj : G[j]? = some (rpG x a s t h un nx wd tw)) (v : Int) : Owns B W (w.setCell ⟨x, 7, none⟩ (.int .i64 v)) (G.set j (rpG x a s t h un nx wd v)) := k.set j 0 hj rfl 7 (.int .i64 v)
set_option maxHeartbeats 2000000 in
theorem ref14_end {B : Nat} {W w : World} {G : List Grp} (j : Nat) {x : Nat} {a s t h : Int} {un : Bool} {nx wd tw : Int} (e : Int) (hO : Owns B W w G) (hj : G[j]? = some (rpG x a s t h un nx wd tw)) :
    Calls Try.prog 57 #[.pointer (some ⟨x, 0, none⟩), .int .i64 e] w fun r w' => r = .returned (resV (e, 0) true) ∧ Owns B W w' (G.set j (rpG x a s t h un 0 wd tw)) := by
  go_enter Try.func57, Try.ntmps57
  have hO1 := hO.alloc (.cells #[.int .i64 0, .int .i64 0] 37)
  have hj1 : ([(w.heap.size, Obj.cells #[.int .i64 0, .int .i64 0] 37 (0, 0))] :: G)[j + 1]? = some (rpG x a s t h un nx wd tw) := by simpa using hj
  obtain ⟨c0, c1, c2, c3, c4, c5, c6, c7, cz, cf⟩ := rp_cells hO1 hj1
  have hf := cf 5
  have hne := hO1.ne_out 0 (j + 1) 0 0 rfl hj1 rfl rfl (by omega)
  go_wp2
  have hO2 := ((rp_nx hO1 hj1 0).set 0 0 rfl rfl 0 (.int .i64 e)).set 0 0 rfl rfl 1 (.int .i64 0)
  generalize hrb : w.heap.size = rb at hO2 ⊢
  generalize World.setCell (World.setCell (World.setCell _ _ _) _ _) _ _ = w3 at hO2 ⊢
  have d0 : _ = some (Value.int .i64 e) := hO2.cell 0 0 rfl rfl 0
  have d1 : _ = some (Value.int .i64 0) := hO2.cell 0 0 rfl rfl 1
  exact bodyPost_ret (v := .tuple #[.agg #[.int .i64 e, .int .i64 0], .bool true]) (by simp [results, Try.results57, go_sem, d0, d1]) rfl ⟨rfl, hO2.tail⟩
def RefLook (B : Nat) (W : World) (R0 : List Grp) (x p bw : Nat) (ws : List Int) (bv : Value) (a s t h : Int) (un : Bool) (v : Int) (r : Int × Int × Int × Bool) (e : Ending) (w' : World) : Prop :=
  e = .returned (resV (r.2.2.1, 0) r.2.2.2) ∧ ∃ m, Owns B W w' (kG p bw ws bv m :: rpG x a s t h un r.1 v r.2.1 :: R0)
set_option maxRecDepth 100000 in
set_option maxHeartbeats 8000000 in
theorem ref14_first {B : Nat} {W w : World} {R0 : List Grp} {x p bw : Nat} {ws : List Int} {bv : Value} {n a s t h : Int} {un : Bool} {nx wd tw : Int} (ge at' : Int) (hO : Owns B W w (kG p bw ws bv n :: rpG x a s t h un nx wd tw :: R0)) (hl : ws.length ≤ 4096) (v : Int) (hv : wAt ws at' = v) (R : Int × Int × Int × Bool) (HR : Hid (R = lookR ge un v nx tw)) :
    Calls Try.prog 59 #[.pointer (some ⟨x, 0, none⟩), .pointer (some ⟨p, 0, none⟩), .int .i64 at', .int .i64 ge] w (RefLook B W R0 x p bw ws bv a s t h un v R) := by
  have HV := Lib.hid hv
  clear hv
  have hO1 := hO.alloc (.cells #[.int .i64 0, .int .i64 0] 37)
  obtain ⟨F, hF⟩ : ∃ F, fresh v ge = F := ⟨_, rfl⟩
  obtain ⟨kL, hkL⟩ : ∃ k, uL v = k := ⟨_, rfl⟩
  have HF := Lib.hid hF
  have HKL := Lib.hid hkL
  clear hF hkL
  go_enter Try.func59, Try.ntmps59
  go_wp2_with fail
  generalize w.alloc (.cells #[.int .i64 0, .int .i64 0] 37) = w1 at hO1 ⊢
  generalize w.heap.size = rb at hO1 ⊢
  clear hO
  refine (ref05_Load 1 _ hO1 rfl hl).mono ?_; rw [HV.out]; rintro e w2 ⟨rfl, hO'⟩; have hO := hO'; simp only [List.set_cons_zero, List.set_cons_succ] at hO
  clear hO' hO1
  obtain ⟨c0, c1, c2, c3, c4, c5, c6, c7, cz, cf⟩ := rp_cells (j := 2) hO rfl
  have cf6 := cf 6
  go_upto_region 2 with fail
  have hO1 := rp_wd (j := 2) hO rfl v
  simp only [List.set_cons_zero, List.set_cons_succ] at hO1
  generalize World.setCell w2 _ _ = w3 at hO1 ⊢
  clear c0 c1 c2 c3 c4 c5 c6 c7 cz cf cf6 hO
  obtain ⟨c0, c1, c2, c3, c4, c5, c6, c7, cz, cf⟩ := rp_cells (j := 2) hO1 rfl
  go_upto_region 3 with (go_at_call 77; refine (ref12_Fresh _ _ _).mono ?_; rw [HF.out, HKL.out]; rintro e w4 ⟨rfl, hb⟩)
  have hO2 := (hO1.via hb).alloc (.cells #[.int .i64 (uO v), .int .i64 (uG v), .int .i64 (uP v), .int .i64 (uU v), .bool kL, .bool (uA v)] 68)
  generalize w4.alloc _ = w5 at hO2 ⊢
  generalize w4.heap.size = eb at hO2 ⊢
  clear c0 c1 c2 c3 c4 c5 c6 c7 cz cf hO1 hb
  cases F
  case false =>
    have HR2 := show R = (0, tw, 4, true) by rw [HR.out]; unfold lookR; rw [HF.out]; rfl
    subst HR2
    have hP := hO2.tail
    clear hO2
    go_wp2_with (go_at_call 57; refine (ref14_end 2 4 hP rfl).mono ?_; simp only [resV]; rintro e w6 ⟨rfl, hO'⟩; have hO := hO'; (try simp only [List.set_cons_zero, List.set_cons_succ] at hO); have rz := hO.lt 0 0 rfl rfl; have rd0 : _ = some (Value.int .i64 0) := hO.cell 0 0 rfl rfl 0; have rd1 : _ = some (Value.int .i64 0) := hO.cell 0 0 rfl rfl 1; have rf0 := blk_free (hO.get 0 0 rfl rfl) 0; have rf1 := blk_free (hO.get 0 0 rfl rfl) 1)
    have hO4 := res_set2 hO (.int .i64 4) (.int .i64 0)
    generalize World.setCell (World.setCell _ _ _) _ _ = wz at hO4 ⊢
    have e0 := hO4.cell 0 0 rfl rfl 0
    have e1 := hO4.cell 0 0 rfl rfl 1
    exact bodyPost_ret (v := .tuple #[.agg #[.int .i64 4, .int .i64 0], .bool true]) (by simp [results, Try.results59, go_sem, e0, e1]) rfl ⟨rfl, _, hO4.tail⟩
  case true =>
    have g4 : w5.cell? ⟨eb, 4, none⟩ = some (.bool kL) := hO2.cell 0 0 rfl rfl 4
    have hP := hO2.tail
    obtain ⟨c0, c1, c2, c3, c4, c5, c6, c7, cz, cf⟩ := rp_cells (j := 2) hP rfl
    clear hO2
    cases kL <;> cases un
    case true.false =>
      have HR2 := show R = (nx, tw, 0, false) by rw [HR.out]; unfold lookR; rw [HF.out, HKL.out]; rfl
      subst HR2
      have hO := hP
      have rz := hO.lt 0 0 rfl rfl; have rd0 : _ = some (Value.int .i64 0) := hO.cell 0 0 rfl rfl 0; have rd1 : _ = some (Value.int .i64 0) := hO.cell 0 0 rfl rfl 1; have rf0 := blk_free (hO.get 0 0 rfl rfl) 0; have rf1 := blk_free (hO.get 0 0 rfl rfl) 1
      go_wp2_with fail
      generalize hw : World.setCell (World.setCell _ _ _) _ _ = wz
      have hO4 : Owns B W wz _ := hw ▸ res_set2 hP (.int .i64 0) (.int .i64 0)
      clear hw
      have e0 := hO4.cell 0 0 rfl rfl 0
      have e1 := hO4.cell 0 0 rfl rfl 1
      exact bodyPost_ret (v := .tuple #[.agg #[.int .i64 0, .int .i64 0], .bool false]) (by simp [results, Try.results59, go_sem, e0, e1]) rfl ⟨rfl, _, hO4.tail⟩
    case false.false =>
      have HR2 := show R = (if (pnTurn false v).2 = 0 then (2, (pnTurn false v).1, 0, false) else (0, tw, (pnTurn false v).2, true)) by rw [HR.out]; unfold lookR; rw [HF.out, HKL.out]; rfl
      obtain ⟨tv, er, hte⟩ : ∃ a b, ePin v = (a, b) := ⟨_, _, rfl⟩
      have HTE := Lib.hid hte
      obtain ⟨b, hb⟩ : ∃ b, (er == 0) = b := ⟨_, rfl⟩
      have hb' : (er != 0) = !b := by rw [← hb]; rfl
      have HR3 := Lib.hid (show R = if b = true then (2, tv, 0, false) else (0, tw, er, true) by rw [HR2]; unfold pnTurn; simp only [if_true, if_false, Bool.false_eq_true, hte, ← hb, beq_iff_eq])
      clear HR2 hte HR
      go_upto_region 10 with (first | (go_at_call 78; refine (ref02_Pin _ _).mono ?_; rw [HTE.out]; rintro e w6 ⟨rfl, hq⟩; have hO := hP.via hq; clear hP; have hP := hO; clear hO c0 c1 c2 c3 c4 c5 c6 c7 cz cf; obtain ⟨c0, c1, c2, c3, c4, c5, c6, c7, cz, cf⟩ := rp_cells (j := 2) hP rfl))
      clear g4
      cases b
      case true =>
        have HR4 := show R = (2, tv, 0, false) from HR3.out
        subst HR4
        have y5 := cf 5
        have y7 := cf 7
        go_upto_region 14 with fail
        have hO := rp_nx (j := 2) (rp_tw (j := 2) hP rfl tv) rfl 2
        simp only [List.set_cons_zero, List.set_cons_succ] at hO
        generalize World.setCell (World.setCell _ _ _) _ _ = wy at hO ⊢
        clear c0 c1 c2 c3 c4 c5 c6 c7 y7 y5 cf cz hP
        have rz := hO.lt 0 0 rfl rfl; have rd0 : _ = some (Value.int .i64 0) := hO.cell 0 0 rfl rfl 0; have rd1 : _ = some (Value.int .i64 0) := hO.cell 0 0 rfl rfl 1; have rf0 := blk_free (hO.get 0 0 rfl rfl) 0; have rf1 := blk_free (hO.get 0 0 rfl rfl) 1
        go_wp2_with fail
        have hO4 := res_set2 hO (.int .i64 0) (.int .i64 0)
        generalize World.setCell (World.setCell _ _ _) _ _ = wz at hO4 ⊢
        have e0 := hO4.cell 0 0 rfl rfl 0
        have e1 := hO4.cell 0 0 rfl rfl 1
        exact bodyPost_ret (v := .tuple #[.agg #[.int .i64 0, .int .i64 0], .bool false]) (by simp [results, Try.results59, go_sem, e0, e1]) rfl ⟨rfl, _, hO4.tail⟩
      case false =>
        have HR4 := show R = (0, tw, er, true) from HR3.out
        subst HR4
        clear c0 c1 c2 c3 c4 c5 c6 c7 cf cz
        go_wp2_with (go_at_call 57; refine (ref14_end 2 er hP rfl).mono ?_; simp only [resV]; rintro e w2 ⟨rfl, hO'⟩; have hO := hO'; (try simp only [List.set_cons_zero, List.set_cons_succ] at hO); have rz := hO.lt 0 0 rfl rfl; have rd0 : _ = some (Value.int .i64 0) := hO.cell 0 0 rfl rfl 0; have rd1 : _ = some (Value.int .i64 0) := hO.cell 0 0 rfl rfl 1; have rf0 := blk_free (hO.get 0 0 rfl rfl) 0; have rf1 := blk_free (hO.get 0 0 rfl rfl) 1)
        have hO4 := res_set2 hO (.int .i64 er) (.int .i64 0)
        generalize World.setCell (World.setCell _ _ _) _ _ = wz at hO4 ⊢
        have e0 := hO4.cell 0 0 rfl rfl 0
        have e1 := hO4.cell 0 0 rfl rfl 1
        exact bodyPost_ret (v := .tuple #[.agg #[.int .i64 er, .int .i64 0], .bool true]) (by simp [results, Try.results59, go_sem, e0, e1]) rfl ⟨rfl, _, hO4.tail⟩
    case false.true =>
      have HR2 := show R = (if (pnTurn true v).2 = 0 then (2, (pnTurn true v).1, 0, false) else (0, tw, (pnTurn true v).2, true)) by rw [HR.out]; unfold lookR; rw [HF.out, HKL.out]; rfl
      obtain ⟨tv, er, hte⟩ : ∃ a b, eUnpin v = (a, b) := ⟨_, _, rfl⟩
      have HTE := Lib.hid hte
      obtain ⟨b, hb⟩ : ∃ b, (er == 0) = b := ⟨_, rfl⟩
      have hb' : (er != 0) = !b := by rw [← hb]; rfl
      have HR3 := Lib.hid (show R = if b = true then (2, tv, 0, false) else (0, tw, er, true) by rw [HR2]; unfold pnTurn; simp only [if_true, if_false, Bool.false_eq_true, hte, ← hb, beq_iff_eq])
      clear HR2 hte HR
      go_upto_region 10 with (first | (go_at_call 78; refine (ref02_Pin _ _).mono ?_; rintro e w6 ⟨rfl, hq⟩; have hO := hP.via hq; clear hP; have hP := hO; clear hO c0 c1 c2 c3 c4 c5 c6 c7 cz cf; obtain ⟨c0, c1, c2, c3, c4, c5, c6, c7, cz, cf⟩ := rp_cells (j := 2) hP rfl) | (go_at_call 79; refine (ref02_Unpin _ _).mono ?_; rw [HTE.out]; rintro e w6 ⟨rfl, hq⟩; have hO := hP.via hq; clear hP; have hP := hO; clear hO c0 c1 c2 c3 c4 c5 c6 c7 cz cf; obtain ⟨c0, c1, c2, c3, c4, c5, c6, c7, cz, cf⟩ := rp_cells (j := 2) hP rfl))
      clear g4
      cases b
      case true =>
        have HR4 := show R = (2, tv, 0, false) from HR3.out
        subst HR4
        have y5 := cf 5
        have y7 := cf 7
        go_upto_region 14 with fail
        have hO := rp_nx (j := 2) (rp_tw (j := 2) hP rfl tv) rfl 2
        simp only [List.set_cons_zero, List.set_cons_succ] at hO
        generalize World.setCell (World.setCell _ _ _) _ _ = wy at hO ⊢
        clear c0 c1 c2 c3 c4 c5 c6 c7 y7 y5 cf cz hP
        have rz := hO.lt 0 0 rfl rfl; have rd0 : _ = some (Value.int .i64 0) := hO.cell 0 0 rfl rfl 0; have rd1 : _ = some (Value.int .i64 0) := hO.cell 0 0 rfl rfl 1; have rf0 := blk_free (hO.get 0 0 rfl rfl) 0; have rf1 := blk_free (hO.get 0 0 rfl rfl) 1
        go_wp2_with fail
        have hO4 := res_set2 hO (.int .i64 0) (.int .i64 0)
        generalize World.setCell (World.setCell _ _ _) _ _ = wz at hO4 ⊢
        have e0 := hO4.cell 0 0 rfl rfl 0
        have e1 := hO4.cell 0 0 rfl rfl 1
        exact bodyPost_ret (v := .tuple #[.agg #[.int .i64 0, .int .i64 0], .bool false]) (by simp [results, Try.results59, go_sem, e0, e1]) rfl ⟨rfl, _, hO4.tail⟩
      case false =>
        have HR4 := show R = (0, tw, er, true) from HR3.out
        subst HR4
        clear c0 c1 c2 c3 c4 c5 c6 c7 cf cz
        go_wp2_with (go_at_call 57; refine (ref14_end 2 er hP rfl).mono ?_; simp only [resV]; rintro e w2 ⟨rfl, hO'⟩; have hO := hO'; (try simp only [List.set_cons_zero, List.set_cons_succ] at hO); have rz := hO.lt 0 0 rfl rfl; have rd0 : _ = some (Value.int .i64 0) := hO.cell 0 0 rfl rfl 0; have rd1 : _ = some (Value.int .i64 0) := hO.cell 0 0 rfl rfl 1; have rf0 := blk_free (hO.get 0 0 rfl rfl) 0; have rf1 := blk_free (hO.get 0 0 rfl rfl) 1)
        have hO4 := res_set2 hO (.int .i64 er) (.int .i64 0)
        generalize World.setCell (World.setCell _ _ _) _ _ = wz at hO4 ⊢
        have e0 := hO4.cell 0 0 rfl rfl 0
        have e1 := hO4.cell 0 0 rfl rfl 1
        exact bodyPost_ret (v := .tuple #[.agg #[.int .i64 er, .int .i64 0], .bool true]) (by simp [results, Try.results59, go_sem, e0, e1]) rfl ⟨rfl, _, hO4.tail⟩
    case true.true =>
      have HR2 := show R = (if (pnTurn true v).2 = 0 then (2, (pnTurn true v).1, 0, false) else (0, tw, (pnTurn true v).2, true)) by rw [HR.out]; unfold lookR; rw [HF.out, HKL.out]; rfl
      obtain ⟨tv, er, hte⟩ : ∃ a b, eUnpin v = (a, b) := ⟨_, _, rfl⟩
      have HTE := Lib.hid hte
      obtain ⟨b, hb⟩ : ∃ b, (er == 0) = b := ⟨_, rfl⟩
      have hb' : (er != 0) = !b := by rw [← hb]; rfl
      have HR3 := Lib.hid (show R = if b = true then (2, tv, 0, false) else (0, tw, er, true) by rw [HR2]; unfold pnTurn; simp only [if_true, if_false, Bool.false_eq_true, hte, ← hb, beq_iff_eq])
      clear HR2 hte HR
      go_upto_region 10 with (first | (go_at_call 78; refine (ref02_Pin _ _).mono ?_; rintro e w6 ⟨rfl, hq⟩; have hO := hP.via hq; clear hP; have hP := hO; clear hO c0 c1 c2 c3 c4 c5 c6 c7 cz cf; obtain ⟨c0, c1, c2, c3, c4, c5, c6, c7, cz, cf⟩ := rp_cells (j := 2) hP rfl) | (go_at_call 79; refine (ref02_Unpin _ _).mono ?_; rw [HTE.out]; rintro e w6 ⟨rfl, hq⟩; have hO := hP.via hq; clear hP; have hP := hO; clear hO c0 c1 c2 c3 c4 c5 c6 c7 cz cf; obtain ⟨c0, c1, c2, c3, c4, c5, c6, c7, cz, cf⟩ := rp_cells (j := 2) hP rfl))
      clear g4
      cases b
      case true =>
        have HR4 := show R = (2, tv, 0, false) from HR3.out
        subst HR4
        have y5 := cf 5
        have y7 := cf 7
        go_upto_region 14 with fail
        have hO := rp_nx (j := 2) (rp_tw (j := 2) hP rfl tv) rfl 2
        simp only [List.set_cons_zero, List.set_cons_succ] at hO
        generalize World.setCell (World.setCell _ _ _) _ _ = wy at hO ⊢
        clear c0 c1 c2 c3 c4 c5 c6 c7 y7 y5 cf cz hP
        have rz := hO.lt 0 0 rfl rfl; have rd0 : _ = some (Value.int .i64 0) := hO.cell 0 0 rfl rfl 0; have rd1 : _ = some (Value.int .i64 0) := hO.cell 0 0 rfl rfl 1; have rf0 := blk_free (hO.get 0 0 rfl rfl) 0; have rf1 := blk_free (hO.get 0 0 rfl rfl) 1
        go_wp2_with fail
        have hO4 := res_set2 hO (.int .i64 0) (.int .i64 0)
        generalize World.setCell (World.setCell _ _ _) _ _ = wz at hO4 ⊢
        have e0 := hO4.cell 0 0 rfl rfl 0
        have e1 := hO4.cell 0 0 rfl rfl 1
        exact bodyPost_ret (v := .tuple #[.agg #[.int .i64 0, .int .i64 0], .bool false]) (by simp [results, Try.results59, go_sem, e0, e1]) rfl ⟨rfl, _, hO4.tail⟩
      case false =>
        have HR4 := show R = (0, tw, er, true) from HR3.out
        subst HR4
        clear c0 c1 c2 c3 c4 c5 c6 c7 cf cz
        go_wp2_with (go_at_call 57; refine (ref14_end 2 er hP rfl).mono ?_; simp only [resV]; rintro e w2 ⟨rfl, hO'⟩; have hO := hO'; (try simp only [List.set_cons_zero, List.set_cons_succ] at hO); have rz := hO.lt 0 0 rfl rfl; have rd0 : _ = some (Value.int .i64 0) := hO.cell 0 0 rfl rfl 0; have rd1 : _ = some (Value.int .i64 0) := hO.cell 0 0 rfl rfl 1; have rf0 := blk_free (hO.get 0 0 rfl rfl) 0; have rf1 := blk_free (hO.get 0 0 rfl rfl) 1)
        have hO4 := res_set2 hO (.int .i64 er) (.int .i64 0)
        generalize World.setCell (World.setCell _ _ _) _ _ = wz at hO4 ⊢
        have e0 := hO4.cell 0 0 rfl rfl 0
        have e1 := hO4.cell 0 0 rfl rfl 1
        exact bodyPost_ret (v := .tuple #[.agg #[.int .i64 er, .int .i64 0], .bool true]) (by simp [results, Try.results59, go_sem, e0, e1]) rfl ⟨rfl, _, hO4.tail⟩
end Go.Proofs.Ytmbkkpeepbfgoaa
namespace Go.Proofs.Ytmbkkpeepbfgoaa
set_option linter.unusedVariables false
set_option linter.unusedSimpArgs false
open Go.RowKit
def RpPost (B : Nat) (W : World) (R0 : List Grp) (x p bw : Nat) (bv : Value) (a s t h : Int) (un : Bool) (q : PinR) (e : Ending) (w' : World) : Prop :=
  e = .returned (resV (q.code, 0) q.done) ∧ ∃ m, Owns B W w' (kG p bw q.ws bv m :: rpG x a s t h un q.nx q.wd q.tw :: R0)
set_option maxRecDepth 100000 in
set_option maxHeartbeats 8000000 in
theorem ref14_Step_0 {B : Nat} {W w : World} {R0 : List Grp} {x p bw : Nat} {ws : List Int} {bv : Value} {n a s t h : Int} {un : Bool} {wd tw : Int} (hO : Owns B W w (kG p bw ws bv n :: rpG x a s t h un 0 wd tw :: R0)) :
    Calls Try.prog 29 #[.pointer (some ⟨x, 0, none⟩), .pointer (some ⟨p, 0, none⟩)] w (RpPost B W R0 x p bw bv a s t h un ⟨ws, 0, wd, tw, 1, true⟩) := by
  have c5 : w.cell? ⟨x, 5, none⟩ = some (.int .i64 0) := hO.cell 1 0 rfl rfl 5
  have hz := hO.lt 1 0 rfl rfl
  go_enter Try.func29, Try.ntmps29
  go_wp2
  exact bodyPost_ret (v := .tuple #[.agg #[.int .i64 1, .int .i64 0], .bool true]) (by simp [results, Try.results29, go_sem]) rfl ⟨rfl, n, hO.via (by (repeat' (first | (with_reducible exact Below.refl _ _) | (with_reducible assumption) | (with_reducible refine below_drewN ?_ _) | (with_reducible refine Below.drew ?_) | (with_reducible refine Below.alloc ?_ ?_ _) | (with_reducible refine Below.setCell ?_ ?_ _) | (with_reducible refine below_via (by assumption) ?_ ?_) | go_size)))⟩
set_option maxRecDepth 100000 in
set_option maxHeartbeats 8000000 in
theorem ref14_Step_key {B : Nat} {W w : World} {R0 : List Grp} {x p bw : Nat} {ws : List Int} {bv : Value} {n a s t h : Int} {un : Bool} {nx wd tw : Int} (hO : Owns B W w (kG p bw ws bv n :: rpG x a s t h un nx wd tw :: R0)) (hl : ws.length ≤ 4096) (hc : cfgOk a s t = true) (lo : -9223372036854775808 ≤ h) (hi : h ≤ 9223372036854775807)
    (sl ge f : Int) (hf : hOf h s = (sl, ge, f)) (fb nb : Bool) (hfb : (f == 0) = fb) (hn0 : (nx == 0) = false) (hnb : (nx == 1) = nb) (q : PinR) (b : Bool) (R : Int × Int × Int × Bool) (ov : Int) (ho : lOf t s sl 0 = ov) (hb : wCas ws ov wd = b) (hR : R = lookR ge un (wAt ws ov) nx tw)
    (hq : q = if fb = false then ⟨ws, 0, wd, tw, 4, true⟩ else if nb = true then ⟨ws, R.1, wAt ws ov, R.2.1, R.2.2.1, R.2.2.2⟩ else if b = true then ⟨wCasPut ws ov wd tw, 0, wd, tw, 0, true⟩ else ⟨ws, 1, wd, tw, 0, false⟩) :
    Calls Try.prog 29 #[.pointer (some ⟨x, 0, none⟩), .pointer (some ⟨p, 0, none⟩)] w (RpPost B W R0 x p bw bv a s t h un q) := by
  have HF := Lib.hid hf
  have HQ := Lib.hid hq
  have HRR := Lib.hid hR
  have HB := Lib.hid hb
  have HAT := Lib.hid (show rAt a s t 5 sl = ov by unfold rAt; rw [if_pos hc, if_neg (by decide), if_neg (by decide)]; exact ho)
  have hfn : (f != 0) = !fb := by rw [← hfb]; rfl
  clear hf hq hR hb hc ho
  have hO1 := hO.alloc (.cells #[.int .i64 0, .int .i64 0] 37)
  obtain ⟨c0, c1, c2, c3, c4, c5, c6, c7, cz, cf⟩ := rp_cells (j := 1) hO rfl
  go_enter Try.func29, Try.ntmps29
  go_upto_region 3 with fail
  generalize w.alloc (.cells #[.int .i64 0, .int .i64 0] 37) = w1 at hO1 ⊢
  generalize w.heap.size = rb at hO1 ⊢
  clear c0 c1 c2 c3 c4 c5 c6 c7 cz cf
  clear hO
  have hP := hO1.drew
  clear hO1
  obtain ⟨c0, c1, c2, c3, c4, c5, c6, c7, cz, cf⟩ := rp_cells (j := 2) hP rfl
  first
    | go_loud (go_region_held3 (fun w => w.cell? ⟨x, 1, none⟩ = some (.int .i64 s) ∧ w.cell? ⟨x, 3, none⟩ = some (.int .i64 h)) (exact ⟨c1, c3⟩) ((go_at_call 56; refine (ref03_of _ _ _ lo hi).mono ?_; rw [HF.out]; rintro e w2 ⟨rfl, rfl⟩)))
    | fail "of"
  all_goals
    cases fb
    case false =>
      have e := show q = ⟨ws, 0, wd, tw, 4, true⟩ by rw [HQ.out]; rfl
      subst e
      clear c0 c1 c2 c3 c4 c5 c6 c7 cz cf
      go_wp2_with (go_at_call 57; refine (ref14_end 2 4 hP rfl).mono ?_; simp only [resV]; rintro e w3 ⟨rfl, hO'⟩; have hO := hO'; (try simp only [List.set_cons_zero, List.set_cons_succ] at hO); have rz := hO.lt 0 0 rfl rfl; have rd0 : _ = some (Value.int .i64 0) := hO.cell 0 0 rfl rfl 0; have rd1 : _ = some (Value.int .i64 0) := hO.cell 0 0 rfl rfl 1; have rf0 := blk_free (hO.get 0 0 rfl rfl) 0; have rf1 := blk_free (hO.get 0 0 rfl rfl) 1)
      have hO4 := res_set2 hO (.int .i64 4) (.int .i64 0)
      generalize World.setCell (World.setCell _ _ _) _ _ = wz at hO4 ⊢
      have e0 := hO4.cell 0 0 rfl rfl 0
      have e1 := hO4.cell 0 0 rfl rfl 1
      exact bodyPost_ret (v := .tuple #[.agg #[.int .i64 4, .int .i64 0], .bool true]) (by simp [results, Try.results29, go_sem, e0, e1]) rfl ⟨rfl, _, hO4.tail⟩
    case true =>
      go_upto_region 7 with (go_at_call 58; refine (ref06_At _ _ _ _ _ _ (by omega) (by omega)).mono ?_; rw [HAT.out]; rintro e w3 ⟨rfl, hb⟩; have hO := hP.via hb; clear hP; have hP := hO; clear hO; clear c0 c1 c2 c3 c4 c5 c6 c7 cz cf; obtain ⟨c0, c1, c2, c3, c4, c5, c6, c7, cz, cf⟩ := rp_cells (j := 2) hP rfl)
      cases nb
      case true =>
        obtain ⟨r0, r1, r2, r3⟩ := R
        have e := show q = ⟨ws, r0, wAt ws ov, r1, r2, r3⟩ by rw [HQ.out]; rfl
        subst e
        have hO1 := Owns.perm hP (List.perm_append_singleton _ (_ :: _ :: R0)).symm
        clear c0 c1 c2 c3 c4 c5 c6 c7 cz cf
        have c5 : _ = some (Value.int .i64 nx) := hP.cell 2 0 rfl rfl 5
        clear hP
        go_wp2_with (go_at_call 59; refine stop_here ?_)
        unfold Stop
        refine (ref14_first _ _ hO1 hl _ rfl _ (Lib.hid HRR.out)).mono ?_
        rintro e w4 ⟨rfl, m, hO'⟩
        unfold resV
        have hO := Owns.perm hO' (List.perm_append_singleton _ (_ :: _ :: R0))
        clear hO1 hO' c5
        have rz := hO.lt 0 0 rfl rfl; have rd0 : _ = some (Value.int .i64 0) := hO.cell 0 0 rfl rfl 0; have rd1 : _ = some (Value.int .i64 0) := hO.cell 0 0 rfl rfl 1; have rf0 := blk_free (hO.get 0 0 rfl rfl) 0; have rf1 := blk_free (hO.get 0 0 rfl rfl) 1
        go_wp2_with fail
        generalize hw : World.setCell (World.setCell _ _ _) _ _ = wz
        have hO4 : Owns B W wz _ := hw ▸ res_set2 hO (.int .i64 r2) (.int .i64 0)
        clear hw
        have e0 := hO4.cell 0 0 rfl rfl 0
        have e1 := hO4.cell 0 0 rfl rfl 1
        exact bodyPost_ret (v := .tuple #[.agg #[.int .i64 r2, .int .i64 0], .bool r3]) (by simp [results, Try.results29, go_sem, e0, e1]) rfl ⟨rfl, m, hO4.tail⟩
      case false =>
        go_upto_region 9 with fail
        have hO := hP.drew
        clear hP
        have hP := hO
        clear hO
        clear c0 c1 c2 c3 c4 c5 c6 c7 cz cf
        obtain ⟨c0, c1, c2, c3, c4, c5, c6, c7, cz, cf⟩ := rp_cells (j := 2) hP rfl
        first
          | go_loud (go_region_held3 (fun w => w.cell? ⟨x, 6, none⟩ = some (.int .i64 wd) ∧ w.cell? ⟨x, 7, none⟩ = some (.int .i64 tw)) (exact ⟨c6, c7⟩) ((go_at_call 60; refine (ref05_Cas 1 _ _ _ hP rfl hl).mono ?_; rw [HB.out]; rintro e w7 ⟨rfl, hO'⟩; have hO := hO'; (try simp only [List.set_cons_zero, List.set_cons_succ] at hO); clear hP hO'; have hP := hO; clear hO; clear c0 c1 c2 c3 c4 c5 c6 c7 cz cf; obtain ⟨c0, c1, c2, c3, c4, c5, c6, c7, cz, cf⟩ := rp_cells (j := 2) hP rfl)))
          | fail "cas"
        all_goals
          cases b
          case true =>
            have e := show q = ⟨wCasPut ws ov wd tw, 0, wd, tw, 0, true⟩ by rw [HQ.out]; rfl
            subst e
            clear c0 c1 c2 c3 c4 c5 c6 c7 cz cf
            go_wp2_with (go_at_call 57; refine (ref14_end 2 0 hP rfl).mono ?_; simp only [resV]; rintro e w3 ⟨rfl, hO'⟩; have hO := hO'; (try simp only [List.set_cons_zero, List.set_cons_succ] at hO); have rz := hO.lt 0 0 rfl rfl; have rd0 : _ = some (Value.int .i64 0) := hO.cell 0 0 rfl rfl 0; have rd1 : _ = some (Value.int .i64 0) := hO.cell 0 0 rfl rfl 1; have rf0 := blk_free (hO.get 0 0 rfl rfl) 0; have rf1 := blk_free (hO.get 0 0 rfl rfl) 1)
            have hO4 := res_set2 hO (.int .i64 0) (.int .i64 0)
            generalize World.setCell (World.setCell _ _ _) _ _ = wz at hO4 ⊢
            have e0 := hO4.cell 0 0 rfl rfl 0
            have e1 := hO4.cell 0 0 rfl rfl 1
            exact bodyPost_ret (v := .tuple #[.agg #[.int .i64 0, .int .i64 0], .bool true]) (by simp [results, Try.results29, go_sem, e0, e1]) rfl ⟨rfl, _, hO4.tail⟩
          case false =>
            have e := show q = ⟨ws, 1, wd, tw, 0, false⟩ by rw [HQ.out]; rfl
            subst e
            have hC : wCasPut ws ov wd tw = ws := by unfold wCasPut; rw [HB.out]; rfl
            rw [hC] at hP
            clear hC
            have y5 := cf 5
            go_upto_region 12 with fail
            have hO := rp_nx (j := 2) hP rfl 1
            simp only [List.set_cons_zero, List.set_cons_succ] at hO
            generalize World.setCell _ _ _ = wy at hO ⊢
            clear y5 hP
            clear c0 c1 c2 c3 c4 c5 c6 c7 cz cf
            have rz := hO.lt 0 0 rfl rfl; have rd0 : _ = some (Value.int .i64 0) := hO.cell 0 0 rfl rfl 0; have rd1 : _ = some (Value.int .i64 0) := hO.cell 0 0 rfl rfl 1; have rf0 := blk_free (hO.get 0 0 rfl rfl) 0; have rf1 := blk_free (hO.get 0 0 rfl rfl) 1
            go_wp2_with fail
            have hO4 := res_set2 hO (.int .i64 0) (.int .i64 0)
            generalize World.setCell (World.setCell _ _ _) _ _ = wz at hO4 ⊢
            have e0 := hO4.cell 0 0 rfl rfl 0
            have e1 := hO4.cell 0 0 rfl rfl 1
            exact bodyPost_ret (v := .tuple #[.agg #[.int .i64 0, .int .i64 0], .bool false]) (by simp [results, Try.results29, go_sem, e0, e1]) rfl ⟨rfl, _, hO4.tail⟩
/-- the reference's step is the machine's. -/
theorem ref14_Step {B : Nat} {W w : World} {R0 : List Grp} {x p bw : Nat} {ws : List Int} {bv : Value} {n a s t h : Int} {un : Bool} {nx wd tw : Int} (hO : Owns B W w (kG p bw ws bv n :: rpG x a s t h un nx wd tw :: R0)) (hl : ws.length ≤ 4096) (hc : cfgOk a s t = true) (lo : -9223372036854775808 ≤ h) (hi : h ≤ 9223372036854775807)
    (hst : (hOf h s).2.2 ≠ 0 → nx = 0 ∨ nx = 1) :
    Calls Try.prog 29 #[.pointer (some ⟨x, 0, none⟩), .pointer (some ⟨p, 0, none⟩)] w (RpPost B W R0 x p bw bv a s t h un (pinStep t s (hOf h s).1 (hOf h s).2.1 ((hOf h s).2.2 != 0) un ws nx wd tw)) := by
  by_cases h0 : nx = 0
  · subst h0
    exact ref14_Step_0 hO
  · refine ref14_Step_key hO hl hc lo hi (hOf h s).1 (hOf h s).2.1 (hOf h s).2.2 rfl _ _ rfl (by simpa using h0) rfl _ _ _ _ rfl rfl rfl ?_
    unfold pinStep
    rw [if_neg h0]
    generalize hOf h s = hf at *
    obtain ⟨sl, ge, f⟩ := hf
    simp only at hst ⊢
    by_cases hf0 : f = 0
    · subst hf0
      by_cases h1 : nx = 1
      · subst h1
        simp only [if_true, beq_self_eq_true, bne_self_eq_false, Bool.false_eq_true, if_false, reduceCtorEq]
        unfold lookR
        split
        · split
          · rfl
          · split <;> rfl
        · rfl
      · have e1 : (nx == 1) = false := by simpa using h1
        simp only [if_neg h1, e1, beq_self_eq_true, Bool.true_eq_false, if_false, Bool.false_eq_true]
    · rcases hst hf0 with e | e
      · exact absurd e h0
      · subst e
        have e1 : (f == 0) = false := by simpa using hf0
        have e2 : (f != 0) = true := by simpa using hf0
        simp [e1, e2]
theorem ref14_New {B : Nat} {W w : World} {G : List Grp} (a s t h : Int) (un : Bool) (hc : cfgOk a s t = true) (hO : Owns B W w G) : Calls Try.prog 27 #[.agg #[.int .i64 a, .int .i64 s, .int .i64 t], .int .i64 h, .bool un] w fun e w' =>
    ∃ x, e = .returned (.pointer (some ⟨x, 0, none⟩)) ∧ Owns B W w' (rpG x a s t h un 1 0 0 :: G) := by
  have HC := Lib.hid hc
  clear hc
  have hO1 := hO.alloc (.cells #[.int .i64 a, .int .i64 s, .int .i64 t] 26)
  go_enter Try.func27, Try.ntmps27
  go_upto_region 2 with fail
  have hO2 := hO1.alloc (.cells #[.int .i64 a, .int .i64 s, .int .i64 t, .int .i64 h, .bool un, .int .i64 1, .int .i64 0, .int .i64 0] 106)
  simp only [World.size_alloc] at hO2
  generalize (World.alloc (World.alloc w _) _) = w1 at hO2 ⊢
  have a0 : _ = some (Value.int .i64 a) := hO2.cell 1 0 rfl rfl 0
  have a1 : _ = some (Value.int .i64 s) := hO2.cell 1 0 rfl rfl 1
  have a2 : _ = some (Value.int .i64 t) := hO2.cell 1 0 rfl rfl 2
  go_wp2_with (go_at_call 23; refine (ref06_May _ _ _ _).mono ?_; rw [HC.out]; rintro e w2 ⟨rfl, hb⟩)
  go_ret
  exact ⟨_, rfl, ((hO2.via hb).drop 1)⟩
end Go.Proofs.Ytmbkkpeepbfgoaa
