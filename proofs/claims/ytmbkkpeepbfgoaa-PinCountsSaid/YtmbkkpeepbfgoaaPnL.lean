/- The walk of pin's look. -/
import Derived.RegionTactic
import Derived.BigRegion
import Derived.Deep.RegionHeld3
import Derived.Outline
import Derived.Deep.DeepCutAuto
import Derived.Test.YtmbkkpeepbfgoaaPnW
namespace Go.Proofs.Ytmbkkpeepbfgoaa
set_option linter.unusedVariables false
set_option linter.unusedSimpArgs false
open Go.RowKit
theorem cell_off {w : World} {x k m : Nat} {v : Value} (h : k ≠ m) : (w.setCell ⟨x, k, none⟩ v).cell? ⟨x, m, none⟩ = w.cell? ⟨x, m, none⟩ := World.cell?_setCell_other _ _ _ _ (by simp [h])
/-- what look comes to: the next step, what is to be, the code, whether that is the end. -/
def lookR (ge : Int) (un : Bool) (v nx tw : Int) : Int × Int × Int × Bool :=
  if fresh v ge = true then
    if (uL v && !un) = true then (nx, tw, 0, false)
    else if (pnTurn un v).2 = 0 then (2, (pnTurn un v).1, 0, false)
    else (0, tw, (pnTurn un v).2, true)
  else (0, tw, 4, true)
def LookPost (B : Nat) (W : World) (R0 : List Grp) (x p bw bb : Nat) (ws bs : List Int) (t s sl ge : Int) (un : Bool) (v : Int) (r : Int × Int × Int × Bool) (e : Ending) (w' : World) : Prop :=
  e = .returned (resV (r.2.2.1, 0) r.2.2.2) ∧ ∃ m, Owns B W w' (memG p bw bb ws bs m :: pnG x t s sl ge false un r.1 v r.2.1 :: R0)
set_option maxRecDepth 100000 in
set_option maxHeartbeats 8000000 in
theorem pin_look_live {B : Nat} {W w : World} {R0 : List Grp} {x p bw bb : Nat} {ws bs : List Int} {n t s sl ge : Int} {un : Bool} {nx wd tw : Int} (hO : Owns B W w (memG p bw bb ws bs n :: pnG x t s sl ge false un nx wd tw :: R0)) (hL : lOk t s) (hl : ws.length ≤ 4096) (v : Int) (hv : wAt ws (lOf t s sl 0) = v) (R : Int × Int × Int × Bool) (HR : Hid (R = lookR ge un v nx tw)) :
    Calls Try.prog 53 #[.pointer (some ⟨x, 0, none⟩), memI p] w (LookPost B W R0 x p bw bb ws bs t s sl ge un v R) := by
  have c4 : w.cell? ⟨x, 4, none⟩ = some (.bool false) := hO.cell 1 0 rfl rfl 4
  have hz := hO.lt 1 0 rfl rfl
  have ns := nil_Load (some ⟨p, 0, none⟩)
  obtain ⟨ov, ho⟩ : ∃ v, lOf t s sl 0 = v := ⟨_, rfl⟩
  rw [ho] at hv
  have HOF := Lib.hid ho
  have HV := Lib.hid hv
  have HL := Lib.hid hL
  clear hv ho hL
  have hO1 := hO.alloc (.cells #[.int .i64 0, .int .i64 0] 37)
  go_enter Try.func53, Try.ntmps53
  unfold memI at *
  go_upto_region 3 with fail
  generalize w.alloc (.cells #[.int .i64 0, .int .i64 0] 37) = w1 at hO1 ⊢
  generalize w.heap.size = rb at hO1 ⊢
  clear hO c4 hz
  go_cut [5] (fun s5 wx => s5 = .bool false ∧ ∃ m, Owns B W wx ([(rb, Obj.cells #[Value.int .i64 0, .int .i64 0] 37 (0, 0))] :: memG p bw bb ws bs m :: pnG x t s sl ge false un nx v tw :: R0))
  case first =>
    have hO := hO1.drew
    have c0 : _ = some (Value.int .i64 t) := hO.cell 2 0 rfl rfl 0
    have c1 : _ = some (Value.int .i64 s) := hO.cell 2 0 rfl rfl 1
    have c2 : _ = some (Value.int .i64 sl) := hO.cell 2 0 rfl rfl 2
    first
      | go_loud (go_region_held3 (fun w => w.cell? ⟨x, 0, none⟩ = some (.int .i64 t) ∧ w.cell? ⟨x, 1, none⟩ = some (.int .i64 s) ∧ w.cell? ⟨x, 2, none⟩ = some (.int .i64 sl)) (first | (with_reducible exact ⟨c0, c1, c2⟩) | exact ⟨(cell_off (by decide)).trans c0, (cell_off (by decide)).trans c1, (cell_off (by decide)).trans c2⟩) (first | (go_at_call 54; refine (layout_Entry _ _ _ _ HL.out).mono ?_; rw [HOF.out]; rintro e w7 ⟨rfl, hb⟩; have hO := hO.via hb; have c0 := cell_below hb c0; have c1 := cell_below hb c1; have c2 := cell_below hb c2) | (go_at_call 32; refine (plain_Load 1 _ hO rfl hl).mono ?_; rw [HV.out]; rintro e w7 ⟨rfl, hO'⟩; have hO := hO'; (try simp only [List.set_cons_zero, List.set_cons_succ] at hO); have c0 : _ = some (Value.int .i64 t) := hO.cell 2 0 rfl rfl 0; have c1 : _ = some (Value.int .i64 s) := hO.cell 2 0 rfl rfl 1; have c2 : _ = some (Value.int .i64 sl) := hO.cell 2 0 rfl rfl 2; have x8 : _ = some (Value.int .i64 wd) := hO.cell 2 0 rfl rfl 8; have xz := hO.lt 2 0 rfl rfl; have y8 := blk_free (hO.get 2 0 rfl rfl) 8)))
      | fail "load"
    all_goals
      go_wp2_with fail
      go_meet
      exact ⟨rfl, _, pn_word (j := 2) hO rfl v⟩
  case rest =>
    obtain ⟨rfl, m, hO⟩ := hcut
    clear hO1
    obtain ⟨c0, c1, c2, c3, c4, c5, c6, c7, c8, c9⟩ := pn_cells (j := 2) hO rfl
    go_upto_region 5 with (go_at_call 70; refine (entry_Unpack _ _).mono ?_; rintro e w7 ⟨rfl, hb⟩; have hO := hO.via hb)
    have hO1 := hO.alloc (.cells #[.int .i64 (uO v), .int .i64 (uG v), .int .i64 (uP v), .int .i64 (uU v), .bool (uL v), .bool (uA v)] 91)
    generalize w7.heap.size = eb at hO1 ⊢
    generalize w7.alloc _ = w8 at hO1 ⊢
    obtain ⟨k0, hk0⟩ : ∃ k, eOk v = k := ⟨_, rfl⟩
    obtain ⟨kA, hkA⟩ : ∃ k, uA v = k := ⟨_, rfl⟩
    obtain ⟨kG, hkG⟩ : ∃ k, uG v = k := ⟨_, rfl⟩
    obtain ⟨kL, hkL⟩ : ∃ k, uL v = k := ⟨_, rfl⟩
    have FR := show fresh v ge = (decide (k0 = 0) && (kA && decide (kG = ge))) by unfold fresh; rw [hk0, hkA, hkG]
    rw [hkA, hkG, hkL] at hO1 ⊢
    rw [hk0]
    obtain ⟨b1, hb1⟩ : ∃ b, (k0 == 0) = b := ⟨_, rfl⟩
    obtain ⟨b3, hb3⟩ : ∃ b, (kG == ge) = b := ⟨_, rfl⟩
    have hb1' : (k0 != 0) = !b1 := by rw [← hb1]; rfl
    have hb3' : (kG != ge) = !b3 := by rw [← hb3]; rfl
    have F2 := Lib.hid (show fresh v ge = (b1 && (kA && b3)) by rw [FR, ← hb1, ← hb3]; rfl)
    have HKL := Lib.hid hkL
    clear FR hk0 hkA hkG hkL c0 c1 c2 c3 c4 c5 c6 c7 c8 c9 hb
    clear hO
    have hO := hO1
    obtain ⟨c0, c1, c2, c3, c4, c5, c6, c7, c8, c9⟩ := pn_cells (j := 3) hO rfl
    have g1 : w8.cell? ⟨eb, 1, none⟩ = some (.int .i64 kG) := hO.cell 0 0 rfl rfl 1
    have g4 : w8.cell? ⟨eb, 4, none⟩ = some (.bool kL) := hO.cell 0 0 rfl rfl 4
    have g5 : w8.cell? ⟨eb, 5, none⟩ = some (.bool kA) := hO.cell 0 0 rfl rfl 5
    cases b1 <;> cases kA <;> cases b3
    case true.true.true =>
      have F3 := F2.out
      go_quiet (fail)
      have hO := hO.drewN nq
      generalize w8.drewN nq = w9 at hO ⊢
      clear hO1 g1 g5 c0 c1 c2 c3 c4 c7 c9 F3
      clear g4 c5 c6 c8
      have g4 : w9.cell? ⟨eb, 4, none⟩ = some (.bool kL) := hO.cell 0 0 rfl rfl 4
      have c6 : w9.cell? ⟨x, 6, none⟩ = some (.bool (!un)) := hO.cell 3 0 rfl rfl 6
      cases kL <;> cases un
      case true.false =>
        have HR2 := show R = (nx, tw, 0, false) by rw [HR.out]; unfold lookR; rw [F2.out, HKL.out]; rfl
        subst HR2
        have hO := hO.tail
        have rz := hO.lt 0 0 rfl rfl; have rd0 : _ = some (Value.int .i64 0) := hO.cell 0 0 rfl rfl 0; have rd1 : _ = some (Value.int .i64 0) := hO.cell 0 0 rfl rfl 1; have rf0 := blk_free (hO.get 0 0 rfl rfl) 0; have rf1 := blk_free (hO.get 0 0 rfl rfl) 1
        go_wp2_with fail
        have hO4 := res_set2 hO (.int .i64 0) (.int .i64 0)
        generalize World.setCell (World.setCell _ _ _) _ _ = wz at hO4 ⊢
        have e0 := hO4.cell 0 0 rfl rfl 0
        have e1 := hO4.cell 0 0 rfl rfl 1
        exact bodyPost_ret (v := .tuple #[.agg #[.int .i64 0, .int .i64 0], .bool false]) (by simp [results, Try.results53, go_sem, e0, e1]) rfl ⟨rfl, m, hO4.tail⟩
      case false.false =>
        have HR2 := show R = (if (pnTurn false v).2 = 0 then (2, (pnTurn false v).1, 0, false) else (0, tw, (pnTurn false v).2, true)) by rw [HR.out]; unfold lookR; rw [F2.out, HKL.out]; rfl
        have c5 : w9.cell? ⟨x, 5, none⟩ = some (.func (.func 51) #[] #[]) := hO.cell 3 0 rfl rfl 5
        have c8 : w9.cell? ⟨x, 8, none⟩ = some (.int .i64 v) := hO.cell 3 0 rfl rfl 8
        obtain ⟨tv, er, hte⟩ : ∃ a b, ePin v = (a, b) := ⟨_, _, rfl⟩
        have HTE := Lib.hid hte
        obtain ⟨b, hb⟩ : ∃ b, (er == 0) = b := ⟨_, rfl⟩
        have hb' : (er != 0) = !b := by rw [← hb]; rfl
        have HR3 := Lib.hid (show R = if b = true then (2, tv, 0, false) else (0, tw, er, true) by rw [HR2]; unfold pnTurn; simp only [if_true, if_false, Bool.false_eq_true, hte, ← hb, beq_iff_eq])
        clear HR2 hte
        go_upto_region 9 with fail
        have hO := hO.drew
        have c5 : _ = some (Value.func (.func 51) #[] #[]) := hO.cell 3 0 rfl rfl 5
        have c8 : _ = some (Value.int .i64 v) := hO.cell 3 0 rfl rfl 8
        first
          | go_loud (go_region_held3 (fun w => w.cell? ⟨x, 5, none⟩ = some (.func (.func 51) #[] #[]) ∧ w.cell? ⟨x, 8, none⟩ = some (.int .i64 v)) (exact ⟨c5, c8⟩) ((go_at_call 51; refine (entry_Pin _ _).mono ?_; rw [HTE.out]; rintro e w7 ⟨rfl, hb⟩; have hO := hO.via hb; have c5 := cell_below hb c5; have c8 := cell_below hb c8)))
          | fail "turn"
        all_goals
          have hO := hO.tail
          clear c5 c6 c8 g4
          cases b
          case true =>
            have HR4 := show R = (2, tv, 0, false) from HR3.out
            subst HR4
            obtain ⟨c0, c1, c2, c3, c4, c5, c6, c7, c8, c9⟩ := pn_cells (j := 2) hO rfl
            have y9 := pn_free (j := 2) hO rfl 9
            have y7 := pn_free (j := 2) hO rfl 7
            go_upto_region 13 with fail
            have hO := pn_next (j := 2) (pn_to (j := 2) hO rfl tv) rfl 2
            simp only [List.set_cons_zero, List.set_cons_succ] at hO
            generalize World.setCell (World.setCell _ _ _) _ _ = wy at hO ⊢
            clear c0 c1 c2 c3 c4 c5 c6 c7 c8 c9 y7 y9
            have rz := hO.lt 0 0 rfl rfl; have rd0 : _ = some (Value.int .i64 0) := hO.cell 0 0 rfl rfl 0; have rd1 : _ = some (Value.int .i64 0) := hO.cell 0 0 rfl rfl 1; have rf0 := blk_free (hO.get 0 0 rfl rfl) 0; have rf1 := blk_free (hO.get 0 0 rfl rfl) 1
            go_wp2_with fail
            have hO4 := res_set2 hO (.int .i64 0) (.int .i64 0)
            generalize World.setCell (World.setCell _ _ _) _ _ = wz at hO4 ⊢
            have e0 := hO4.cell 0 0 rfl rfl 0
            have e1 := hO4.cell 0 0 rfl rfl 1
            exact bodyPost_ret (v := .tuple #[.agg #[.int .i64 0, .int .i64 0], .bool false]) (by simp [results, Try.results53, go_sem, e0, e1]) rfl ⟨rfl, m, hO4.tail⟩
          case false =>
            have HR4 := show R = (0, tw, er, true) from HR3.out
            subst HR4
            go_wp2_with (go_at_call 55; refine (pin_end 2 er hO rfl).mono ?_; rintro e w2 ⟨rfl, hO'⟩; have hO := hO'; (try simp only [List.set_cons_zero, List.set_cons_succ] at hO); have rz := hO.lt 0 0 rfl rfl; have rd0 : _ = some (Value.int .i64 0) := hO.cell 0 0 rfl rfl 0; have rd1 : _ = some (Value.int .i64 0) := hO.cell 0 0 rfl rfl 1; have rf0 := blk_free (hO.get 0 0 rfl rfl) 0; have rf1 := blk_free (hO.get 0 0 rfl rfl) 1)
            have hO4 := res_set2 hO (.int .i64 er) (.int .i64 0)
            generalize World.setCell (World.setCell _ _ _) _ _ = wz at hO4 ⊢
            have e0 := hO4.cell 0 0 rfl rfl 0
            have e1 := hO4.cell 0 0 rfl rfl 1
            exact bodyPost_ret (v := .tuple #[.agg #[.int .i64 er, .int .i64 0], .bool true]) (by simp [results, Try.results53, go_sem, e0, e1]) rfl ⟨rfl, m, hO4.tail⟩
      case false.true =>
        have HR2 := show R = (if (pnTurn true v).2 = 0 then (2, (pnTurn true v).1, 0, false) else (0, tw, (pnTurn true v).2, true)) by rw [HR.out]; unfold lookR; rw [F2.out, HKL.out]; rfl
        have c5 : w9.cell? ⟨x, 5, none⟩ = some (.func (.func 52) #[] #[]) := hO.cell 3 0 rfl rfl 5
        have c8 : w9.cell? ⟨x, 8, none⟩ = some (.int .i64 v) := hO.cell 3 0 rfl rfl 8
        obtain ⟨tv, er, hte⟩ : ∃ a b, eUnpin v = (a, b) := ⟨_, _, rfl⟩
        have HTE := Lib.hid hte
        obtain ⟨b, hb⟩ : ∃ b, (er == 0) = b := ⟨_, rfl⟩
        have hb' : (er != 0) = !b := by rw [← hb]; rfl
        have HR3 := Lib.hid (show R = if b = true then (2, tv, 0, false) else (0, tw, er, true) by rw [HR2]; unfold pnTurn; simp only [if_true, if_false, Bool.false_eq_true, hte, ← hb, beq_iff_eq])
        clear HR2 hte
        go_upto_region 9 with fail
        have hO := hO.drew
        have c5 : _ = some (Value.func (.func 52) #[] #[]) := hO.cell 3 0 rfl rfl 5
        have c8 : _ = some (Value.int .i64 v) := hO.cell 3 0 rfl rfl 8
        first
          | go_loud (go_region_held3 (fun w => w.cell? ⟨x, 5, none⟩ = some (.func (.func 52) #[] #[]) ∧ w.cell? ⟨x, 8, none⟩ = some (.int .i64 v)) (exact ⟨c5, c8⟩) ((go_at_call 52; refine (entry_Unpin _ _).mono ?_; rw [HTE.out]; rintro e w7 ⟨rfl, hb⟩; have hO := hO.via hb; have c5 := cell_below hb c5; have c8 := cell_below hb c8)))
          | fail "turn"
        all_goals
          have hO := hO.tail
          clear c5 c6 c8 g4
          cases b
          case true =>
            have HR4 := show R = (2, tv, 0, false) from HR3.out
            subst HR4
            obtain ⟨c0, c1, c2, c3, c4, c5, c6, c7, c8, c9⟩ := pn_cells (j := 2) hO rfl
            have y9 := pn_free (j := 2) hO rfl 9
            have y7 := pn_free (j := 2) hO rfl 7
            go_upto_region 13 with fail
            have hO := pn_next (j := 2) (pn_to (j := 2) hO rfl tv) rfl 2
            simp only [List.set_cons_zero, List.set_cons_succ] at hO
            generalize World.setCell (World.setCell _ _ _) _ _ = wy at hO ⊢
            clear c0 c1 c2 c3 c4 c5 c6 c7 c8 c9 y7 y9
            have rz := hO.lt 0 0 rfl rfl; have rd0 : _ = some (Value.int .i64 0) := hO.cell 0 0 rfl rfl 0; have rd1 : _ = some (Value.int .i64 0) := hO.cell 0 0 rfl rfl 1; have rf0 := blk_free (hO.get 0 0 rfl rfl) 0; have rf1 := blk_free (hO.get 0 0 rfl rfl) 1
            go_wp2_with fail
            have hO4 := res_set2 hO (.int .i64 0) (.int .i64 0)
            generalize World.setCell (World.setCell _ _ _) _ _ = wz at hO4 ⊢
            have e0 := hO4.cell 0 0 rfl rfl 0
            have e1 := hO4.cell 0 0 rfl rfl 1
            exact bodyPost_ret (v := .tuple #[.agg #[.int .i64 0, .int .i64 0], .bool false]) (by simp [results, Try.results53, go_sem, e0, e1]) rfl ⟨rfl, m, hO4.tail⟩
          case false =>
            have HR4 := show R = (0, tw, er, true) from HR3.out
            subst HR4
            go_wp2_with (go_at_call 55; refine (pin_end 2 er hO rfl).mono ?_; rintro e w2 ⟨rfl, hO'⟩; have hO := hO'; (try simp only [List.set_cons_zero, List.set_cons_succ] at hO); have rz := hO.lt 0 0 rfl rfl; have rd0 : _ = some (Value.int .i64 0) := hO.cell 0 0 rfl rfl 0; have rd1 : _ = some (Value.int .i64 0) := hO.cell 0 0 rfl rfl 1; have rf0 := blk_free (hO.get 0 0 rfl rfl) 0; have rf1 := blk_free (hO.get 0 0 rfl rfl) 1)
            have hO4 := res_set2 hO (.int .i64 er) (.int .i64 0)
            generalize World.setCell (World.setCell _ _ _) _ _ = wz at hO4 ⊢
            have e0 := hO4.cell 0 0 rfl rfl 0
            have e1 := hO4.cell 0 0 rfl rfl 1
            exact bodyPost_ret (v := .tuple #[.agg #[.int .i64 er, .int .i64 0], .bool true]) (by simp [results, Try.results53, go_sem, e0, e1]) rfl ⟨rfl, m, hO4.tail⟩
      case true.true =>
        have HR2 := show R = (if (pnTurn true v).2 = 0 then (2, (pnTurn true v).1, 0, false) else (0, tw, (pnTurn true v).2, true)) by rw [HR.out]; unfold lookR; rw [F2.out, HKL.out]; rfl
        have c5 : w9.cell? ⟨x, 5, none⟩ = some (.func (.func 52) #[] #[]) := hO.cell 3 0 rfl rfl 5
        have c8 : w9.cell? ⟨x, 8, none⟩ = some (.int .i64 v) := hO.cell 3 0 rfl rfl 8
        obtain ⟨tv, er, hte⟩ : ∃ a b, eUnpin v = (a, b) := ⟨_, _, rfl⟩
        have HTE := Lib.hid hte
        obtain ⟨b, hb⟩ : ∃ b, (er == 0) = b := ⟨_, rfl⟩
        have hb' : (er != 0) = !b := by rw [← hb]; rfl
        have HR3 := Lib.hid (show R = if b = true then (2, tv, 0, false) else (0, tw, er, true) by rw [HR2]; unfold pnTurn; simp only [if_true, if_false, Bool.false_eq_true, hte, ← hb, beq_iff_eq])
        clear HR2 hte
        go_upto_region 9 with fail
        have hO := hO.drew
        have c5 : _ = some (Value.func (.func 52) #[] #[]) := hO.cell 3 0 rfl rfl 5
        have c8 : _ = some (Value.int .i64 v) := hO.cell 3 0 rfl rfl 8
        first
          | go_loud (go_region_held3 (fun w => w.cell? ⟨x, 5, none⟩ = some (.func (.func 52) #[] #[]) ∧ w.cell? ⟨x, 8, none⟩ = some (.int .i64 v)) (exact ⟨c5, c8⟩) ((go_at_call 52; refine (entry_Unpin _ _).mono ?_; rw [HTE.out]; rintro e w7 ⟨rfl, hb⟩; have hO := hO.via hb; have c5 := cell_below hb c5; have c8 := cell_below hb c8)))
          | fail "turn"
        all_goals
          have hO := hO.tail
          clear c5 c6 c8 g4
          cases b
          case true =>
            have HR4 := show R = (2, tv, 0, false) from HR3.out
            subst HR4
            obtain ⟨c0, c1, c2, c3, c4, c5, c6, c7, c8, c9⟩ := pn_cells (j := 2) hO rfl
            have y9 := pn_free (j := 2) hO rfl 9
            have y7 := pn_free (j := 2) hO rfl 7
            go_upto_region 13 with fail
            have hO := pn_next (j := 2) (pn_to (j := 2) hO rfl tv) rfl 2
            simp only [List.set_cons_zero, List.set_cons_succ] at hO
            generalize World.setCell (World.setCell _ _ _) _ _ = wy at hO ⊢
            clear c0 c1 c2 c3 c4 c5 c6 c7 c8 c9 y7 y9
            have rz := hO.lt 0 0 rfl rfl; have rd0 : _ = some (Value.int .i64 0) := hO.cell 0 0 rfl rfl 0; have rd1 : _ = some (Value.int .i64 0) := hO.cell 0 0 rfl rfl 1; have rf0 := blk_free (hO.get 0 0 rfl rfl) 0; have rf1 := blk_free (hO.get 0 0 rfl rfl) 1
            go_wp2_with fail
            have hO4 := res_set2 hO (.int .i64 0) (.int .i64 0)
            generalize World.setCell (World.setCell _ _ _) _ _ = wz at hO4 ⊢
            have e0 := hO4.cell 0 0 rfl rfl 0
            have e1 := hO4.cell 0 0 rfl rfl 1
            exact bodyPost_ret (v := .tuple #[.agg #[.int .i64 0, .int .i64 0], .bool false]) (by simp [results, Try.results53, go_sem, e0, e1]) rfl ⟨rfl, m, hO4.tail⟩
          case false =>
            have HR4 := show R = (0, tw, er, true) from HR3.out
            subst HR4
            go_wp2_with (go_at_call 55; refine (pin_end 2 er hO rfl).mono ?_; rintro e w2 ⟨rfl, hO'⟩; have hO := hO'; (try simp only [List.set_cons_zero, List.set_cons_succ] at hO); have rz := hO.lt 0 0 rfl rfl; have rd0 : _ = some (Value.int .i64 0) := hO.cell 0 0 rfl rfl 0; have rd1 : _ = some (Value.int .i64 0) := hO.cell 0 0 rfl rfl 1; have rf0 := blk_free (hO.get 0 0 rfl rfl) 0; have rf1 := blk_free (hO.get 0 0 rfl rfl) 1)
            have hO4 := res_set2 hO (.int .i64 er) (.int .i64 0)
            generalize World.setCell (World.setCell _ _ _) _ _ = wz at hO4 ⊢
            have e0 := hO4.cell 0 0 rfl rfl 0
            have e1 := hO4.cell 0 0 rfl rfl 1
            exact bodyPost_ret (v := .tuple #[.agg #[.int .i64 er, .int .i64 0], .bool true]) (by simp [results, Try.results53, go_sem, e0, e1]) rfl ⟨rfl, m, hO4.tail⟩
    all_goals
      have HR2 := show R = (0, tw, 4, true) by rw [HR.out]; unfold lookR; rw [F2.out]; rfl
      subst HR2
      go_quiet (fail)
      have hO := (hO.drewN nq).tail
      generalize w8.drewN nq = w9 at hO ⊢
      clear hO1 g1 g4 g5 c0 c1 c2 c3 c4 c5 c6 c7 c8 c9
      go_wp2_with (go_at_call 55; refine (pin_end 2 4 hO rfl).mono ?_; rintro e w2 ⟨rfl, hO'⟩; have hO := hO'; (try simp only [List.set_cons_zero, List.set_cons_succ] at hO); have rz := hO.lt 0 0 rfl rfl; have rd0 : _ = some (Value.int .i64 0) := hO.cell 0 0 rfl rfl 0; have rd1 : _ = some (Value.int .i64 0) := hO.cell 0 0 rfl rfl 1; have rf0 := blk_free (hO.get 0 0 rfl rfl) 0; have rf1 := blk_free (hO.get 0 0 rfl rfl) 1)
      have hO4 := res_set2 hO (.int .i64 4) (.int .i64 0)
      generalize World.setCell (World.setCell _ _ _) _ _ = wz at hO4 ⊢
      have e0 := hO4.cell 0 0 rfl rfl 0
      have e1 := hO4.cell 0 0 rfl rfl 1
      exact bodyPost_ret (v := .tuple #[.agg #[.int .i64 4, .int .i64 0], .bool true]) (by simp [results, Try.results53, go_sem, e0, e1]) rfl ⟨rfl, m, hO4.tail⟩
end Go.Proofs.Ytmbkkpeepbfgoaa
