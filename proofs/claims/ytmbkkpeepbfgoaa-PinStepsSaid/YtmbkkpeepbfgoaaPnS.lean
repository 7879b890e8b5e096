/- What pin's machine does, as a function of numbers. -/
import Derived.RegionTactic
import Derived.BigRegion
import Derived.Deep.RegionHeld3
import Derived.Outline
import Derived.Deep.DeepCutAuto
import Derived.Test.YtmbkkpeepbfgoaaIni
import Derived.Test.YtmbkkpeepbfgoaaEnX
import Derived.Test.YtmbkkpeepbfgoaaBase
namespace Go.Proofs.Ytmbkkpeepbfgoaa
set_option linter.unusedVariables false
set_option linter.unusedSimpArgs false
open Go.RowKit
def pnF (un : Bool) : Value := .func (.func (if un = true then 52 else 51)) #[] #[]
def pnObj (t s sl ge : Int) (st un : Bool) (nx wd tw : Int) : Obj :=
  .cells #[.int .i64 t, .int .i64 s, .int .i64 sl, .int .i64 ge, .bool st, pnF un, .bool (!un), .int .i64 nx, .int .i64 wd, .int .i64 tw] 108 (0, 0)
def pnG (x : Nat) (t s sl ge : Int) (st un : Bool) (nx wd tw : Int) : Grp := [(x, pnObj t s sl ge st un nx wd tw)]
def pnTurn (un : Bool) (x : Int) : Int × Int := if un = true then eUnpin x else ePin x
structure PinR where
  ws : List Int
  nx : Int
  wd : Int
  tw : Int
  code : Int
  done : Bool
def pinStep (t s sl ge : Int) (st un : Bool) (ws : List Int) (nx wd tw : Int) : PinR :=
  if nx = 0 then ⟨ws, 0, wd, tw, 1, true⟩
  else if nx = 1 then
    if st = true then ⟨ws, 0, wd, tw, 4, true⟩
    else if fresh (wAt ws (lOf t s sl 0)) ge = true then
      if (uL (wAt ws (lOf t s sl 0)) && !un) = true then ⟨ws, 1, wAt ws (lOf t s sl 0), tw, 0, false⟩
      else if (pnTurn un (wAt ws (lOf t s sl 0))).2 = 0 then ⟨ws, 2, wAt ws (lOf t s sl 0), (pnTurn un (wAt ws (lOf t s sl 0))).1, 0, false⟩
      else ⟨ws, 0, wAt ws (lOf t s sl 0), tw, (pnTurn un (wAt ws (lOf t s sl 0))).2, true⟩
    else ⟨ws, 0, wAt ws (lOf t s sl 0), tw, 4, true⟩
  else if wCas ws (lOf t s sl 0) wd = true then ⟨wCasPut ws (lOf t s sl 0) wd tw, 0, wd, tw, 0, true⟩
  else ⟨ws, 1, wd, tw, 0, false⟩
def PinPost (B : Nat) (W : World) (G : List Grp) (i j x p bw bb : Nat) (bs : List Int) (t s sl ge : Int) (st un : Bool) (q : PinR) (r : Ending) (w' : World) : Prop :=
  r = .returned (.tuple #[.agg #[.int .i64 q.code, .int .i64 0], .bool q.done]) ∧ ∃ m, Owns B W w' ((G.set i (memG p bw bb q.ws bs m)).set j (pnG x t s sl ge st un q.nx q.wd q.tw))
theorem pn_cells {B : Nat} {W w : World} {G : List Grp} {j x : Nat} {t s sl ge : Int} {st un : Bool} {nx wd tw : Int} (h : Owns B W w G) (hj : G[j]? = some (pnG x t s sl ge st un nx wd tw)) :
    w.cell? ⟨x, 0, none⟩ = some (.int .i64 t) ∧ w.cell? ⟨x, 1, none⟩ = some (.int .i64 s) ∧ w.cell? ⟨x, 2, none⟩ = some (.int .i64 sl) ∧ w.cell? ⟨x, 3, none⟩ = some (.int .i64 ge) ∧ w.cell? ⟨x, 4, none⟩ = some (.bool st) ∧ w.cell? ⟨x, 5, none⟩ = some (pnF un) ∧
      w.cell? ⟨x, 6, none⟩ = some (.bool (!un)) ∧ w.cell? ⟨x, 7, none⟩ = some (.int .i64 nx) ∧ w.cell? ⟨x, 8, none⟩ = some (.int .i64 wd) ∧ w.cell? ⟨x, 9, none⟩ = some (.int .i64 tw) :=
  ⟨h.cell j 0 hj rfl 0, h.cell j 0 hj rfl 1, h.cell j 0 hj rfl 2, h.cell j 0 hj rfl 3, h.cell j 0 hj rfl 4, h.cell j 0 hj rfl 5, h.cell j 0 hj rfl 6, h.cell j 0 hj rfl 7, h.cell j 0 hj rfl 8, h.cell j 0 hj rfl 9⟩
theorem pn_free {B : Nat} {W w : World} {G : List Grp} {j x : Nat} {t s sl ge : Int} {st un : Bool} {nx wd tw : Int} (h : Owns B W w G) (hj : G[j]? = some (pnG x t s sl ge st un nx wd tw)) (o : Nat) : w.frozen? ⟨x, o, none⟩ = false := blk_free (h.get j 0 hj rfl) o
theorem pn_next {B : Nat} {W w : World} {G : List Grp} {j x : Nat} {t s sl ge : Int} {st un : Bool} {nx wd tw : Int} (h : Owns B W w G) (hj : G[j]? = some (pnG x t s sl ge st un nx wd tw)) (v : Int) : Owns B W (w.setCell ⟨x, 7, none⟩ (.int .i64 v)) (G.set j (pnG x t s sl ge st un v wd tw)) := h.set j 0 hj rfl 7 (.int .i64 v)
theorem pn_word {B : Nat} {W w : World} {G : List Grp} {j x : Nat} {t s sl ge : Int} {st un : Bool} {nx wd tw : Int} (h : Owns B W w G) (hj : G[j]? = some (pnG x t s sl ge st un nx wd tw)) (v : Int) : Owns B W (w.setCell ⟨x, 8, none⟩ (.int .i64 v)) (G.set j (pnG x t s sl ge st un nx v tw)) := h.set j 0 hj rfl 8 (.int .i64 v)
theorem pn_to {B : Nat} {W w : World} {G : List Grp} {j x : Nat} {t s sl ge : Int} {st un : Bool} {nx wd tw : Int} (h : Owns B W w G) (hj : G[j]? = some (pnG x t s sl ge st un nx wd tw)) (v : Int) : Owns B W (w.setCell ⟨x, 9, none⟩ (.int .i64 v)) (G.set j (pnG x t s sl ge st un nx wd v)) := h.set j 0 hj rfl 9 (.int .i64 v)
set_option maxHeartbeats 2000000 in
theorem pin_end {B : Nat} {W w : World} {G : List Grp} (j : Nat) {x : Nat} {t s sl ge : Int} {st un : Bool} {nx wd tw : Int} (e : Int) (hO : Owns B W w G) (hj : G[j]? = some (pnG x t s sl ge st un nx wd tw)) :
    Calls Try.prog 55 #[.pointer (some ⟨x, 0, none⟩), .int .i64 e] w fun r w' => r = .returned (.tuple #[.agg #[.int .i64 e, .int .i64 0], .bool true]) ∧ Owns B W w' (G.set j (pnG x t s sl ge st un 0 wd tw)) := by
  go_enter Try.func55, Try.ntmps55
  have hO1 := hO.alloc (.cells #[.int .i64 0, .int .i64 0] 37)
  have hj1 : ([(w.heap.size, Obj.cells #[.int .i64 0, .int .i64 0] 37 (0, 0))] :: G)[j + 1]? = some (pnG x t s sl ge st un nx wd tw) := by simpa using hj
  obtain ⟨c0, c1, c2, c3, c4, c5, c6, c7, c8, c9⟩ := pn_cells hO1 hj1
  have hf := pn_free hO1 hj1 7
  have hne := hO1.ne_out 0 (j + 1) 0 0 rfl hj1 rfl rfl (by omega)
  go_wp2
  have hO2 := ((pn_next hO1 hj1 0).set 0 0 rfl rfl 0 (.int .i64 e)).set 0 0 rfl rfl 1 (.int .i64 0)
  generalize hrb : w.heap.size = rb at hO2 ⊢
  generalize World.setCell (World.setCell (World.setCell _ _ _) _ _) _ _ = w3 at hO2 ⊢
  have d0 : _ = some (Value.int .i64 e) := hO2.cell 0 0 rfl rfl 0
  have d1 : _ = some (Value.int .i64 0) := hO2.cell 0 0 rfl rfl 1
  exact bodyPost_ret (v := .tuple #[.agg #[.int .i64 e, .int .i64 0], .bool true]) (by simp [results, Try.results55, go_sem, d0, d1]) rfl ⟨rfl, hO2.tail⟩
end Go.Proofs.Ytmbkkpeepbfgoaa
namespace Go.Proofs.Ytmbkkpeepbfgoaa
set_option linter.unusedVariables false
set_option linter.unusedSimpArgs false
open Go.RowKit
set_option maxRecDepth 100000 in
theorem pin_nil (m : Value) (w : World) : Calls Try.prog 28 #[.pointer none, m] w fun e w' => e = .returned (resV (1, 0) true) ∧ Below w.heap.size w w' := by
  go_enter Try.func28, Try.ntmps28
  go_wp2
  exact bodyPost_ret (v := .tuple #[.agg #[.int .i64 1, .int .i64 0], .bool true]) (by simp [results, Try.results28, go_sem]) rfl ⟨rfl, by (repeat' (first | (with_reducible exact Below.refl _ _) | (with_reducible assumption) | (with_reducible refine below_drewN ?_ _) | (with_reducible refine Below.drew ?_) | (with_reducible refine Below.alloc ?_ ?_ _) | (with_reducible refine Below.setCell ?_ ?_ _) | (with_reducible refine below_via (by assumption) ?_ ?_) | go_size))⟩
set_option maxRecDepth 100000 in
theorem pin_none (a : Addr) (w : World) : Calls Try.prog 28 #[.pointer (some a), .nilIface] w fun e w' => e = .returned (resV (1, 0) true) ∧ Below w.heap.size w w' := by
  go_enter Try.func28, Try.ntmps28
  go_wp2
  exact bodyPost_ret (v := .tuple #[.agg #[.int .i64 1, .int .i64 0], .bool true]) (by simp [results, Try.results28, go_sem]) rfl ⟨rfl, by (repeat' (first | (with_reducible exact Below.refl _ _) | (with_reducible assumption) | (with_reducible refine below_drewN ?_ _) | (with_reducible refine Below.drew ?_) | (with_reducible refine Below.alloc ?_ ?_ _) | (with_reducible refine Below.setCell ?_ ?_ _) | (with_reducible refine below_via (by assumption) ?_ ?_) | go_size))⟩
set_option maxRecDepth 100000 in
set_option maxHeartbeats 8000000 in
theorem pin_look_stale {B : Nat} {W w : World} {G : List Grp} (i j : Nat) {x p bw bb : Nat} {ws bs : List Int} {n t s sl ge : Int} {un : Bool} {nx wd tw : Int} (hO : Owns B W w G) (hi : G[i]? = some (memG p bw bb ws bs n)) (hj : G[j]? = some (pnG x t s sl ge true un nx wd tw)) :
    Calls Try.prog 53 #[.pointer (some ⟨x, 0, none⟩), memI p] w fun e w' => e = .returned (resV (4, 0) true) ∧ Owns B W w' (G.set j (pnG x t s sl ge true un 0 wd tw)) := by
  obtain ⟨c0, c1, c2, c3, c4, c5, c6, c7, c8, c9⟩ := pn_cells hO hj
  have hz := hO.lt j 0 hj rfl
  have _u := hi
  have hO1 := hO.alloc (.cells #[.int .i64 0, .int .i64 0] 37)
  have hj1 := (show ([(w.heap.size, Obj.cells #[Value.int .i64 0, .int .i64 0] 37 (0, 0))] :: G)[j + 1]? = G[j]? from rfl).trans hj
  go_enter Try.func53, Try.ntmps53
  go_wp2_with (go_at_call 55; refine (pin_end (j + 1) 4 hO1 hj1).mono ?_; rintro e w2 ⟨rfl, hO'⟩; have hO := hO'; (try simp only [List.set_cons_succ] at hO); have rz := hO.lt 0 0 rfl rfl; have rd0 : _ = some (Value.int .i64 0) := hO.cell 0 0 rfl rfl 0; have rd1 : _ = some (Value.int .i64 0) := hO.cell 0 0 rfl rfl 1; have rf0 := blk_free (hO.get 0 0 rfl rfl) 0; have rf1 := blk_free (hO.get 0 0 rfl rfl) 1)
  have hO4 := res_set2 hO (.int .i64 4) (.int .i64 0)
  generalize World.setCell (World.setCell _ _ _) _ _ = w9 at hO4 ⊢
  have e0 := hO4.cell 0 0 rfl rfl 0
  have e1 := hO4.cell 0 0 rfl rfl 1
  exact bodyPost_ret (v := .tuple #[.agg #[.int .i64 4, .int .i64 0], .bool true]) (by simp [results, Try.results53, go_sem, e0, e1]) rfl ⟨rfl, hO4.tail⟩
end Go.Proofs.Ytmbkkpeepbfgoaa
namespace Go.Proofs.Ytmbkkpeepbfgoaa
set_option linter.unusedVariables false
set_option linter.unusedSimpArgs false
open Go.RowKit
/-- what look comes to: the next step, what is to be, the code, whether that is the end. -/
def lookR (ge : Int) (un : Bool) (v nx tw : Int) : Int × Int × Int × Bool :=
  if fresh v ge = true then
    if (uL v && !un) = true then (nx, tw, 0, false)
    else if (pnTurn un v).2 = 0 then (2, (pnTurn un v).1, 0, false)
    else (0, tw, (pnTurn un v).2, true)
  else (0, tw, 4, true)
def LookPost (B : Nat) (W : World) (R0 : List Grp) (x p bw bb : Nat) (ws bs : List Int) (t s sl ge : Int) (un : Bool) (v : Int) (r : Int × Int × Int × Bool) (e : Ending) (w' : World) : Prop :=
  e = .returned (resV (r.2.2.1, 0) r.2.2.2) ∧ ∃ m, Owns B W w' (memG p bw bb ws bs m :: pnG x t s sl ge false un r.1 v r.2.1 :: R0)
set_option maxRecDepth 100000 in
set_option maxHeartbeats 8000000 in
theorem pin_look_live {B : Nat} {W w : World} {R0 : List Grp} {x p bw bb : Nat} {ws bs : List Int} {n t s sl ge : Int} {un : Bool} {nx wd tw : Int} (hO : Owns B W w (memG p bw bb ws bs n :: pnG x t s sl ge false un nx wd tw :: R0)) (hL : lOk t s) (hl : ws.length ≤ 4096) (v : Int) (hv : wAt ws (lOf t s sl 0) = v) (R : Int × Int × Int × Bool) (HR : Hid (R = lookR ge un v nx tw)) :
    Calls Try.prog 53 #[.pointer (some ⟨x, 0, none⟩), memI p] w (LookPost B W R0 x p bw bb ws bs t s sl ge un v R) := by
  have c4 : w.cell? ⟨x, 4, none⟩ = some (.bool false) := hO.cell 1 0 rfl rfl 4
  have hz := hO.lt 1 0 rfl rfl
  have ns := nil_Load (some ⟨p, 0, none⟩)
  obtain ⟨ov, ho⟩ : ∃ v, lOf t s sl 0 = v := ⟨_, rfl⟩
  rw [ho] at hv
  have HOF := Lib.hid ho
  have HV := Lib.hid hv
  have HL := Lib.hid hL
  clear hv ho hL
  have hO1 := hO.alloc (.cells #[.int .i64 0, .int .i64 0] 37)
  go_enter Try.func53, Try.ntmps53
  unfold memI at *
  go_upto_region 3 with fail
  generalize w.alloc (.cells #[.int .i64 0, .int .i64 0] 37) = w1 at hO1 ⊢
  generalize w.heap.size = rb at hO1 ⊢
  clear hO c4 hz
  go_cut [5] (fun s5 wx => s5 = .bool false ∧ ∃ m, Owns B W wx ([(rb, Obj.cells #[Value.int .i64 0, .int .i64 0] 37 (0, 0))] :: memG p bw bb ws bs m :: pnG x t s sl ge false un nx v tw :: R0))
  case first =>
    have hO := hO1.drew
    have c0 : _ = some (Value.int .i64 t) := hO.cell 2 0 rfl rfl 0
    have c1 : _ = some (Value.int .i64 s) := hO.cell 2 0 rfl rfl 1
    have c2 : _ = some (Value.int .i64 sl) := hO.cell 2 0 rfl rfl 2
    first
      | go_loud (go_region_held3 (fun w => w.cell? ⟨x, 0, none⟩ = some (.int .i64 t) ∧ w.cell? ⟨x, 1, none⟩ = some (.int .i64 s) ∧ w.cell? ⟨x, 2, none⟩ = some (.int .i64 sl)) (first | (with_reducible exact ⟨c0, c1, c2⟩) | exact ⟨(cell_off (by decide)).trans c0, (cell_off (by decide)).trans c1, (cell_off (by decide)).trans c2⟩) (first | (go_at_call 54; refine (layout_Entry _ _ _ _ HL.out).mono ?_; rw [HOF.out]; rintro e w7 ⟨rfl, hb⟩; have hO := hO.via hb; have c0 := cell_below hb c0; have c1 := cell_below hb c1; have c2 := cell_below hb c2) | (go_at_call 32; refine (plain_Load 1 _ hO rfl hl).mono ?_; rw [HV.out]; rintro e w7 ⟨rfl, hO'⟩; have hO := hO'; (try simp only [List.set_cons_zero, List.set_cons_succ] at hO); have c0 : _ = some (Value.int .i64 t) := hO.cell 2 0 rfl rfl 0; have c1 : _ = some (Value.int .i64 s) := hO.cell 2 0 rfl rfl 1; have c2 : _ = some (Value.int .i64 sl) := hO.cell 2 0 rfl rfl 2; have x8 : _ = some (Value.int .i64 wd) := hO.cell 2 0 rfl rfl 8; have xz := hO.lt 2 0 rfl rfl; have y8 := blk_free (hO.get 2 0 rfl rfl) 8)))
      | fail "load"
    all_goals
      go_wp2_with fail
      go_meet
      exact ⟨rfl, _, pn_word (j := 2) hO rfl v⟩
  case rest =>
    obtain ⟨rfl, m, hO⟩ := hcut
    clear hO1
    obtain ⟨c0, c1, c2, c3, c4, c5, c6, c7, c8, c9⟩ := pn_cells (j := 2) hO rfl
    go_upto_region 5 with (go_at_call 70; refine (entry_Unpack _ _).mono ?_; rintro e w7 ⟨rfl, hb⟩; have hO := hO.via hb)
    have hO1 := hO.alloc (.cells #[.int .i64 (uO v), .int .i64 (uG v), .int .i64 (uP v), .int .i64 (uU v), .bool (uL v), .bool (uA v)] 91)
    generalize w7.heap.size = eb at hO1 ⊢
    generalize w7.alloc _ = w8 at hO1 ⊢
    obtain ⟨k0, hk0⟩ : ∃ k, eOk v = k := ⟨_, rfl⟩
    obtain ⟨kA, hkA⟩ : ∃ k, uA v = k := ⟨_, rfl⟩
    obtain ⟨kG, hkG⟩ : ∃ k, uG v = k := ⟨_, rfl⟩
    obtain ⟨kL, hkL⟩ : ∃ k, uL v = k := ⟨_, rfl⟩
    have FR := show fresh v ge = (decide (k0 = 0) && (kA && decide (kG = ge))) by unfold fresh; rw [hk0, hkA, hkG]
    rw [hkA, hkG, hkL] at hO1 ⊢
    rw [hk0]
    obtain ⟨b1, hb1⟩ : ∃ b, (k0 == 0) = b := ⟨_, rfl⟩
    obtain ⟨b3, hb3⟩ : ∃ b, (kG == ge) = b := ⟨_, rfl⟩
    have hb1' : (k0 != 0) = !b1 := by rw [← hb1]; rfl
    have hb3' : (kG != ge) = !b3 := by rw [← hb3]; rfl
    have F2 := Lib.hid (show fresh v ge = (b1 && (kA && b3)) by rw [FR, ← hb1, ← hb3]; rfl)
    have HKL := Lib.hid hkL
    clear FR hk0 hkA hkG hkL c0 c1 c2 c3 c4 c5 c6 c7 c8 c9 hb
    clear hO
    have hO := hO1
    obtain ⟨c0, c1, c2, c3, c4, c5, c6, c7, c8, c9⟩ := pn_cells (j := 3) hO rfl
    have g1 : w8.cell? ⟨eb, 1, none⟩ = some (.int .i64 kG) := hO.cell 0 0 rfl rfl 1
    have g4 : w8.cell? ⟨eb, 4, none⟩ = some (.bool kL) := hO.cell 0 0 rfl rfl 4
    have g5 : w8.cell? ⟨eb, 5, none⟩ = some (.bool kA) := hO.cell 0 0 rfl rfl 5
    cases b1 <;> cases kA <;> cases b3
    case true.true.true =>
      have F3 := F2.out
      go_quiet (fail)
      have hO := hO.drewN nq
      generalize w8.drewN nq = w9 at hO ⊢
      clear hO1 g1 g5 c0 c1 c2 c3 c4 c7 c9 F3
      clear g4 c5 c6 c8
      have g4 : w9.cell? ⟨eb, 4, none⟩ = some (.bool kL) := hO.cell 0 0 rfl rfl 4
      have c6 : w9.cell? ⟨x, 6, none⟩ = some (.bool (!un)) := hO.cell 3 0 rfl rfl 6
      cases kL <;> cases un
      case true.false =>
        have HR2 := show R = (nx, tw, 0, false) by rw [HR.out]; unfold lookR; rw [F2.out, HKL.out]; rfl
        subst HR2
        have hO := hO.tail
        have rz := hO.lt 0 0 rfl rfl; have rd0 : _ = some (Value.int .i64 0) := hO.cell 0 0 rfl rfl 0; have rd1 : _ = some (Value.int .i64 0) := hO.cell 0 0 rfl rfl 1; have rf0 := blk_free (hO.get 0 0 rfl rfl) 0; have rf1 := blk_free (hO.get 0 0 rfl rfl) 1
        go_wp2_with fail
        have hO4 := res_set2 hO (.int .i64 0) (.int .i64 0)
        generalize World.setCell (World.setCell _ _ _) _ _ = wz at hO4 ⊢
        have e0 := hO4.cell 0 0 rfl rfl 0
        have e1 := hO4.cell 0 0 rfl rfl 1
        exact bodyPost_ret (v := .tuple #[.agg #[.int .i64 0, .int .i64 0], .bool false]) (by simp [results, Try.results53, go_sem, e0, e1]) rfl ⟨rfl, m, hO4.tail⟩
      case false.false =>
        have HR2 := show R = (if (pnTurn false v).2 = 0 then (2, (pnTurn false v).1, 0, false) else (0, tw, (pnTurn false v).2, true)) by rw [HR.out]; unfold lookR; rw [F2.out, HKL.out]; rfl
        have c5 : w9.cell? ⟨x, 5, none⟩ = some (.func (.func 51) #[] #[]) := hO.cell 3 0 rfl rfl 5
        have c8 : w9.cell? ⟨x, 8, none⟩ = some (.int .i64 v) := hO.cell 3 0 rfl rfl 8
        obtain ⟨tv, er, hte⟩ : ∃ a b, ePin v = (a, b) := ⟨_, _, rfl⟩
        have HTE := Lib.hid hte
        obtain ⟨b, hb⟩ : ∃ b, (er == 0) = b := ⟨_, rfl⟩
        have hb' : (er != 0) = !b := by rw [← hb]; rfl
        have HR3 := Lib.hid (show R = if b = true then (2, tv, 0, false) else (0, tw, er, true) by rw [HR2]; unfold pnTurn; simp only [if_true, if_false, Bool.false_eq_true, hte, ← hb, beq_iff_eq])
        clear HR2 hte
        go_upto_region 9 with fail
        have hO := hO.drew
        have c5 : _ = some (Value.func (.func 51) #[] #[]) := hO.cell 3 0 rfl rfl 5
        have c8 : _ = some (Value.int .i64 v) := hO.cell 3 0 rfl rfl 8
        first
          | go_loud (go_region_held3 (fun w => w.cell? ⟨x, 5, none⟩ = some (.func (.func 51) #[] #[]) ∧ w.cell? ⟨x, 8, none⟩ = some (.int .i64 v)) (exact ⟨c5, c8⟩) ((go_at_call 51; refine (entry_Pin _ _).mono ?_; rw [HTE.out]; rintro e w7 ⟨rfl, hb⟩; have hO := hO.via hb; have c5 := cell_below hb c5; have c8 := cell_below hb c8)))
          | fail "turn"
        all_goals
          have hO := hO.tail
          clear c5 c6 c8 g4
          cases b
          case true =>
            have HR4 := show R = (2, tv, 0, false) from HR3.out
            subst HR4
            obtain ⟨c0, c1, c2, c3, c4, c5, c6, c7, c8, c9⟩ := pn_cells (j := 2) hO rfl
            have y9 := pn_free (j := 2) hO rfl 9
            have y7 := pn_free (j := 2) hO rfl 7
            go_upto_region 13 with fail
            have hO := pn_next (j := 2) (pn_to (j := 2) hO rfl tv) rfl 2
            simp only [List.set_cons_zero, List.set_cons_succ] at hO
            generalize World.setCell (World.setCell _ _ _) _ _ = wy at hO ⊢
            clear c0 c1 c2 c3 c4 c5 c6 c7 c8 c9 y7 y9
            have rz := hO.lt 0 0 rfl rfl; have rd0 : _ = some (Value.int .i64 0) := hO.cell 0 0 rfl rfl 0; have rd1 : _ = some (Value.int .i64 0) := hO.cell 0 0 rfl rfl 1; have rf0 := blk_free (hO.get 0 0 rfl rfl) 0; have rf1 := blk_free (hO.get 0 0 rfl rfl) 1
            go_wp2_with fail
            have hO4 := res_set2 hO (.int .i64 0) (.int .i64 0)
            generalize World.setCell (World.setCell _ _ _) _ _ = wz at hO4 ⊢
            have e0 := hO4.cell 0 0 rfl rfl 0
            have e1 := hO4.cell 0 0 rfl rfl 1
            exact bodyPost_ret (v := .tuple #[.agg #[.int .i64 0, .int .i64 0], .bool false]) (by simp [results, Try.results53, go_sem, e0, e1]) rfl ⟨rfl, m, hO4.tail⟩
          case false =>
            have HR4 := show R = (0, tw, er, true) from HR3.out
            subst HR4
            go_wp2_with (go_at_call 55; refine (pin_end 2 er hO rfl).mono ?_; rintro e w2 ⟨rfl, hO'⟩; have hO := hO'; (try simp only [List.set_cons_zero, List.set_cons_succ] at hO); have rz := hO.lt 0 0 rfl rfl; have rd0 : _ = some (Value.int .i64 0) := hO.cell 0 0 rfl rfl 0; have rd1 : _ = some (Value.int .i64 0) := hO.cell 0 0 rfl rfl 1; have rf0 := blk_free (hO.get 0 0 rfl rfl) 0; have rf1 := blk_free (hO.get 0 0 rfl rfl) 1)
            have hO4 := res_set2 hO (.int .i64 er) (.int .i64 0)
            generalize World.setCell (World.setCell _ _ _) _ _ = wz at hO4 ⊢
            have e0 := hO4.cell 0 0 rfl rfl 0
            have e1 := hO4.cell 0 0 rfl rfl 1
            exact bodyPost_ret (v := .tuple #[.agg #[.int .i64 er, .int .i64 0], .bool true]) (by simp [results, Try.results53, go_sem, e0, e1]) rfl ⟨rfl, m, hO4.tail⟩
      case false.true =>
        have HR2 := show R = (if (pnTurn true v).2 = 0 then (2, (pnTurn true v).1, 0, false) else (0, tw, (pnTurn true v).2, true)) by rw [HR.out]; unfold lookR; rw [F2.out, HKL.out]; rfl
        have c5 : w9.cell? ⟨x, 5, none⟩ = some (.func (.func 52) #[] #[]) := hO.cell 3 0 rfl rfl 5
        have c8 : w9.cell? ⟨x, 8, none⟩ = some (.int .i64 v) := hO.cell 3 0 rfl rfl 8
        obtain ⟨tv, er, hte⟩ : ∃ a b, eUnpin v = (a, b) := ⟨_, _, rfl⟩
        have HTE := Lib.hid hte
        obtain ⟨b, hb⟩ : ∃ b, (er == 0) = b := ⟨_, rfl⟩
        have hb' : (er != 0) = !b := by rw [← hb]; rfl
        have HR3 := Lib.hid (show R = if b = true then (2, tv, 0, false) else (0, tw, er, true) by rw [HR2]; unfold pnTurn; simp only [if_true, if_false, Bool.false_eq_true, hte, ← hb, beq_iff_eq])
        clear HR2 hte
        go_upto_region 9 with fail
        have hO := hO.drew
        have c5 : _ = some (Value.func (.func 52) #[] #[]) := hO.cell 3 0 rfl rfl 5
        have c8 : _ = some (Value.int .i64 v) := hO.cell 3 0 rfl rfl 8
        first
          | go_loud (go_region_held3 (fun w => w.cell? ⟨x, 5, none⟩ = some (.func (.func 52) #[] #[]) ∧ w.cell? ⟨x, 8, none⟩ = some (.int .i64 v)) (exact ⟨c5, c8⟩) ((go_at_call 52; refine (entry_Unpin _ _).mono ?_; rw [HTE.out]; rintro e w7 ⟨rfl, hb⟩; have hO := hO.via hb; have c5 := cell_below hb c5; have c8 := cell_below hb c8)))
          | fail "turn"
        all_goals
          have hO := hO.tail
          clear c5 c6 c8 g4
          cases b
          case true =>
            have HR4 := show R = (2, tv, 0, false) from HR3.out
            subst HR4
            obtain ⟨c0, c1, c2, c3, c4, c5, c6, c7, c8, c9⟩ := pn_cells (j := 2) hO rfl
            have y9 := pn_free (j := 2) hO rfl 9
            have y7 := pn_free (j := 2) hO rfl 7
            go_upto_region 13 with fail
            have hO := pn_next (j := 2) (pn_to (j := 2) hO rfl tv) rfl 2
            simp only [List.set_cons_zero, List.set_cons_succ] at hO
            generalize World.setCell (World.setCell _ _ _) _ _ = wy at hO ⊢
            clear c0 c1 c2 c3 c4 c5 c6 c7 c8 c9 y7 y9
            have rz := hO.lt 0 0 rfl rfl; have rd0 : _ = some (Value.int .i64 0) := hO.cell 0 0 rfl rfl 0; have rd1 : _ = some (Value.int .i64 0) := hO.cell 0 0 rfl rfl 1; have rf0 := blk_free (hO.get 0 0 rfl rfl) 0; have rf1 := blk_free (hO.get 0 0 rfl rfl) 1
            go_wp2_with fail
            have hO4 := res_set2 hO (.int .i64 0) (.int .i64 0)
            generalize World.setCell (World.setCell _ _ _) _ _ = wz at hO4 ⊢
            have e0 := hO4.cell 0 0 rfl rfl 0
            have e1 := hO4.cell 0 0 rfl rfl 1
            exact bodyPost_ret (v := .tuple #[.agg #[.int .i64 0, .int .i64 0], .bool false]) (by simp [results, Try.results53, go_sem, e0, e1]) rfl ⟨rfl, m, hO4.tail⟩
          case false =>
            have HR4 := show R = (0, tw, er, true) from HR3.out
            subst HR4
            go_wp2_with (go_at_call 55; refine (pin_end 2 er hO rfl).mono ?_; rintro e w2 ⟨rfl, hO'⟩; have hO := hO'; (try simp only [List.set_cons_zero, List.set_cons_succ] at hO); have rz := hO.lt 0 0 rfl rfl; have rd0 : _ = some (Value.int .i64 0) := hO.cell 0 0 rfl rfl 0; have rd1 : _ = some (Value.int .i64 0) := hO.cell 0 0 rfl rfl 1; have rf0 := blk_free (hO.get 0 0 rfl rfl) 0; have rf1 := blk_free (hO.get 0 0 rfl rfl) 1)
            have hO4 := res_set2 hO (.int .i64 er) (.int .i64 0)
            generalize World.setCell (World.setCell _ _ _) _ _ = wz at hO4 ⊢
            have e0 := hO4.cell 0 0 rfl rfl 0
            have e1 := hO4.cell 0 0 rfl rfl 1
            exact bodyPost_ret (v := .tuple #[.agg #[.int .i64 er, .int .i64 0], .bool true]) (by simp [results, Try.results53, go_sem, e0, e1]) rfl ⟨rfl, m, hO4.tail⟩
      case true.true =>
        have HR2 := show R = (if (pnTurn true v).2 = 0 then (2, (pnTurn true v).1, 0, false) else (0, tw, (pnTurn true v).2, true)) by rw [HR.out]; unfold lookR; rw [F2.out, HKL.out]; rfl
        have c5 : w9.cell? ⟨x, 5, none⟩ = some (.func (.func 52) #[] #[]) := hO.cell 3 0 rfl rfl 5
        have c8 : w9.cell? ⟨x, 8, none⟩ = some (.int .i64 v) := hO.cell 3 0 rfl rfl 8
        obtain ⟨tv, er, hte⟩ : ∃ a b, eUnpin v = (a, b) := ⟨_, _, rfl⟩
        have HTE := Lib.hid hte
        obtain ⟨b, hb⟩ : ∃ b, (er == 0) = b := ⟨_, rfl⟩
        have hb' : (er != 0) = !b := by rw [← hb]; rfl
        have HR3 := Lib.hid (show R = if b = true then (2, tv, 0, false) else (0, tw, er, true) by rw [HR2]; unfold pnTurn; simp only [if_true, if_false, Bool.false_eq_true, hte, ← hb, beq_iff_eq])
        clear HR2 hte
        go_upto_region 9 with fail
        have hO := hO.drew
        have c5 : _ = some (Value.func (.func 52) #[] #[]) := hO.cell 3 0 rfl rfl 5
        have c8 : _ = some (Value.int .i64 v) := hO.cell 3 0 rfl rfl 8
        first
          | go_loud (go_region_held3 (fun w => w.cell? ⟨x, 5, none⟩ = some (.func (.func 52) #[] #[]) ∧ w.cell? ⟨x, 8, none⟩ = some (.int .i64 v)) (exact ⟨c5, c8⟩) ((go_at_call 52; refine (entry_Unpin _ _).mono ?_; rw [HTE.out]; rintro e w7 ⟨rfl, hb⟩; have hO := hO.via hb; have c5 := cell_below hb c5; have c8 := cell_below hb c8)))
          | fail "turn"
        all_goals
          have hO := hO.tail
          clear c5 c6 c8 g4
          cases b
          case true =>
            have HR4 := show R = (2, tv, 0, false) from HR3.out
            subst HR4
            obtain ⟨c0, c1, c2, c3, c4, c5, c6, c7, c8, c9⟩ := pn_cells (j := 2) hO rfl
            have y9 := pn_free (j := 2) hO rfl 9
            have y7 := pn_free (j := 2) hO rfl 7
            go_upto_region 13 with fail
            have hO := pn_next (j := 2) (pn_to (j := 2) hO rfl tv) rfl 2
            simp only [List.set_cons_zero, List.set_cons_succ] at hO
            generalize World.setCell (World.setCell _ _ _) _ _ = wy at hO ⊢
            clear c0 c1 c2 c3 c4 c5 c6 c7 c8 c9 y7 y9
            have rz := hO.lt 0 0 rfl rfl; have rd0 : _ = some (Value.int .i64 0) := hO.cell 0 0 rfl rfl 0; have rd1 : _ = some (Value.int .i64 0) := hO.cell 0 0 rfl rfl 1; have rf0 := blk_free (hO.get 0 0 rfl rfl) 0; have rf1 := blk_free (hO.get 0 0 rfl rfl) 1
            go_wp2_with fail
            have hO4 := res_set2 hO (.int .i64 0) (.int .i64 0)
            generalize World.setCell (World.setCell _ _ _) _ _ = wz at hO4 ⊢
            have e0 := hO4.cell 0 0 rfl rfl 0
            have e1 := hO4.cell 0 0 rfl rfl 1
            exact bodyPost_ret (v := .tuple #[.agg #[.int .i64 0, .int .i64 0], .bool false]) (by simp [results, Try.results53, go_sem, e0, e1]) rfl ⟨rfl, m, hO4.tail⟩
          case false =>
            have HR4 := show R = (0, tw, er, true) from HR3.out
            subst HR4
            go_wp2_with (go_at_call 55; refine (pin_end 2 er hO rfl).mono ?_; rintro e w2 ⟨rfl, hO'⟩; have hO := hO'; (try simp only [List.set_cons_zero, List.set_cons_succ] at hO); have rz := hO.lt 0 0 rfl rfl; have rd0 : _ = some (Value.int .i64 0) := hO.cell 0 0 rfl rfl 0; have rd1 : _ = some (Value.int .i64 0) := hO.cell 0 0 rfl rfl 1; have rf0 := blk_free (hO.get 0 0 rfl rfl) 0; have rf1 := blk_free (hO.get 0 0 rfl rfl) 1)
            have hO4 := res_set2 hO (.int .i64 er) (.int .i64 0)
            generalize World.setCell (World.setCell _ _ _) _ _ = wz at hO4 ⊢
            have e0 := hO4.cell 0 0 rfl rfl 0
            have e1 := hO4.cell 0 0 rfl rfl 1
            exact bodyPost_ret (v := .tuple #[.agg #[.int .i64 er, .int .i64 0], .bool true]) (by simp [results, Try.results53, go_sem, e0, e1]) rfl ⟨rfl, m, hO4.tail⟩
    all_goals
      have HR2 := show R = (0, tw, 4, true) by rw [HR.out]; unfold lookR; rw [F2.out]; rfl
      subst HR2
      go_quiet (fail)
      have hO := (hO.drewN nq).tail
      generalize w8.drewN nq = w9 at hO ⊢
      clear hO1 g1 g4 g5 c0 c1 c2 c3 c4 c5 c6 c7 c8 c9
      go_wp2_with (go_at_call 55; refine (pin_end 2 4 hO rfl).mono ?_; rintro e w2 ⟨rfl, hO'⟩; have hO := hO'; (try simp only [List.set_cons_zero, List.set_cons_succ] at hO); have rz := hO.lt 0 0 rfl rfl; have rd0 : _ = some (Value.int .i64 0) := hO.cell 0 0 rfl rfl 0; have rd1 : _ = some (Value.int .i64 0) := hO.cell 0 0 rfl rfl 1; have rf0 := blk_free (hO.get 0 0 rfl rfl) 0; have rf1 := blk_free (hO.get 0 0 rfl rfl) 1)
      have hO4 := res_set2 hO (.int .i64 4) (.int .i64 0)
      generalize World.setCell (World.setCell _ _ _) _ _ = wz at hO4 ⊢
      have e0 := hO4.cell 0 0 rfl rfl 0
      have e1 := hO4.cell 0 0 rfl rfl 1
      exact bodyPost_ret (v := .tuple #[.agg #[.int .i64 4, .int .i64 0], .bool true]) (by simp [results, Try.results53, go_sem, e0, e1]) rfl ⟨rfl, m, hO4.tail⟩
end Go.Proofs.Ytmbkkpeepbfgoaa
namespace Go.Proofs.Ytmbkkpeepbfgoaa
set_option linter.unusedVariables false
set_option linter.unusedSimpArgs false
open Go.RowKit
def PnPost (B : Nat) (W : World) (R0 : List Grp) (x p bw bb : Nat) (bs : List Int) (t s sl ge : Int) (st un : Bool) (q : PinR) (e : Ending) (w' : World) : Prop :=
  e = .returned (resV (q.code, 0) q.done) ∧ ∃ m, Owns B W w' (memG p bw bb q.ws bs m :: pnG x t s sl ge st un q.nx q.wd q.tw :: R0)
set_option maxRecDepth 100000 in
set_option maxHeartbeats 8000000 in
theorem pin_Step_0 {B : Nat} {W w : World} {R0 : List Grp} {x p bw bb : Nat} {ws bs : List Int} {n t s sl ge : Int} {st un : Bool} {wd tw : Int} (hO : Owns B W w (memG p bw bb ws bs n :: pnG x t s sl ge st un 0 wd tw :: R0)) :
    Calls Try.prog 28 #[.pointer (some ⟨x, 0, none⟩), memI p] w (PnPost B W R0 x p bw bb bs t s sl ge st un (pinStep t s sl ge st un ws 0 wd tw)) := by
  have c7 : w.cell? ⟨x, 7, none⟩ = some (.int .i64 0) := hO.cell 1 0 rfl rfl 7
  have hz := hO.lt 1 0 rfl rfl
  have hQ : pinStep t s sl ge st un ws 0 wd tw = ⟨ws, 0, wd, tw, 1, true⟩ := rfl
  rw [hQ]
  clear hQ
  go_enter Try.func28, Try.ntmps28
  unfold memI at *
  go_wp2
  exact bodyPost_ret (v := .tuple #[.agg #[.int .i64 1, .int .i64 0], .bool true]) (by simp [results, Try.results28, go_sem]) rfl ⟨rfl, n, hO.via (by (repeat' (first | (with_reducible exact Below.refl _ _) | (with_reducible assumption) | (with_reducible refine below_drewN ?_ _) | (with_reducible refine Below.drew ?_) | (with_reducible refine Below.alloc ?_ ?_ _) | (with_reducible refine Below.setCell ?_ ?_ _) | (with_reducible refine below_via (by assumption) ?_ ?_) | go_size)))⟩
set_option maxRecDepth 100000 in
set_option maxHeartbeats 8000000 in
theorem pin_look {B : Nat} {W w : World} {R0 : List Grp} {x p bw bb : Nat} {ws bs : List Int} {n t s sl ge : Int} {st un : Bool} {wd tw : Int} (hO : Owns B W w (memG p bw bb ws bs n :: pnG x t s sl ge st un 1 wd tw :: R0)) (hL : lOk t s) (hl : ws.length ≤ 4096) :
    Calls Try.prog 53 #[.pointer (some ⟨x, 0, none⟩), memI p] w (PnPost B W R0 x p bw bb bs t s sl ge st un (pinStep t s sl ge st un ws 1 wd tw)) := by
  cases st
  case true =>
    refine (pin_look_stale 0 1 hO rfl rfl).mono ?_
    rintro e w' ⟨rfl, h⟩
    exact ⟨rfl, n, h⟩
  case false =>
    refine (pin_look_live hO hL hl _ rfl _ (Lib.hid rfl)).mono ?_
    rintro e w' ⟨rfl, m, h⟩
    generalize hv : wAt ws (lOf t s sl 0) = v at *
    have e1 : pinStep t s sl ge false un ws 1 wd tw = ⟨ws, (lookR ge un v 1 tw).1, v, (lookR ge un v 1 tw).2.1, (lookR ge un v 1 tw).2.2.1, (lookR ge un v 1 tw).2.2.2⟩ := by
      unfold pinStep lookR
      rw [if_neg (by decide), if_pos rfl, if_neg (by decide), hv]
      split
      · split
        · rfl
        · split <;> rfl
      · rfl
    rw [e1]
    exact ⟨rfl, m, h⟩
set_option maxRecDepth 100000 in
set_option maxHeartbeats 8000000 in
theorem pin_Step_1 {B : Nat} {W w : World} {R0 : List Grp} {x p bw bb : Nat} {ws bs : List Int} {n t s sl ge : Int} {st un : Bool} {wd tw : Int} (hO : Owns B W w (memG p bw bb ws bs n :: pnG x t s sl ge st un 1 wd tw :: R0)) (hL : lOk t s) (hl : ws.length ≤ 4096) :
    Calls Try.prog 28 #[.pointer (some ⟨x, 0, none⟩), memI p] w (PnPost B W R0 x p bw bb bs t s sl ge st un (pinStep t s sl ge st un ws 1 wd tw)) := by
  have c7 : w.cell? ⟨x, 7, none⟩ = some (.int .i64 1) := hO.cell 1 0 rfl rfl 7
  have hz := hO.lt 1 0 rfl rfl
  have HL := Lib.hid hL
  obtain ⟨ws', nx', wd', tw', cd, dn, hq⟩ : ∃ a b c d e f, pinStep t s sl ge st un ws 1 wd tw = ⟨a, b, c, d, e, f⟩ := ⟨_, _, _, _, _, _, rfl⟩
  have HQ := Lib.hid hq
  rw [hq]
  clear hq hL
  have hO1 := (hO.alloc (.cells #[.int .i64 0, .int .i64 0] 37)).last
  go_enter Try.func28, Try.ntmps28
  unfold memI at *
  go_wp2_with fail
  generalize w.alloc (.cells #[.int .i64 0, .int .i64 0] 37) = w1 at hO1 ⊢
  generalize w.heap.size = rb at hO1 ⊢
  refine (pin_look hO1 HL.out hl).mono ?_
  rw [HQ.out]
  rintro e w2 ⟨rfl, m, hO'⟩
  unfold resV
  have hO := Owns.perm hO' (List.perm_append_singleton _ (_ :: _ :: R0))
  clear hO1 hO'
  have rz := hO.lt 0 0 rfl rfl; have rd0 : _ = some (Value.int .i64 0) := hO.cell 0 0 rfl rfl 0; have rd1 : _ = some (Value.int .i64 0) := hO.cell 0 0 rfl rfl 1; have rf0 := blk_free (hO.get 0 0 rfl rfl) 0; have rf1 := blk_free (hO.get 0 0 rfl rfl) 1
  go_wp2_with fail
  have hO4 := res_set2 hO (.int .i64 cd) (.int .i64 0)
  generalize World.setCell (World.setCell _ _ _) _ _ = wz at hO4 ⊢
  have e0 := hO4.cell 0 0 rfl rfl 0
  have e1 := hO4.cell 0 0 rfl rfl 1
  exact bodyPost_ret (v := .tuple #[.agg #[.int .i64 cd, .int .i64 0], .bool dn]) (by simp [results, Try.results28, go_sem, e0, e1]) rfl ⟨rfl, m, hO4.tail⟩
set_option maxRecDepth 100000 in
set_option maxHeartbeats 8000000 in
theorem pin_Step_2 {B : Nat} {W w : World} {R0 : List Grp} {x p bw bb : Nat} {ws bs : List Int} {n t s sl ge : Int} {st un : Bool} {nx wd tw : Int} (hO : Owns B W w (memG p bw bb ws bs n :: pnG x t s sl ge st un nx wd tw :: R0)) (hL : lOk t s) (hl : ws.length ≤ 4096) (h0 : (nx == 0) = false) (h1 : (nx == 1) = false) :
    Calls Try.prog 28 #[.pointer (some ⟨x, 0, none⟩), memI p] w (PnPost B W R0 x p bw bb bs t s sl ge st un (pinStep t s sl ge st un ws nx wd tw)) := by
  have c7 : w.cell? ⟨x, 7, none⟩ = some (.int .i64 nx) := hO.cell 1 0 rfl rfl 7
  have hz := hO.lt 1 0 rfl rfl
  have ns := nil_Cas (some ⟨p, 0, none⟩)
  obtain ⟨ov, ho⟩ : ∃ v, lOf t s sl 0 = v := ⟨_, rfl⟩
  obtain ⟨b, hb⟩ : ∃ b, wCas ws ov wd = b := ⟨_, rfl⟩
  obtain ⟨q, hq⟩ : ∃ q, pinStep t s sl ge st un ws nx wd tw = q := ⟨_, rfl⟩
  have HQ := Lib.hid (show q = if b = true then ⟨wCasPut ws ov wd tw, 0, wd, tw, 0, true⟩ else ⟨ws, 1, wd, tw, 0, false⟩ by
    rw [← hq]
    unfold pinStep
    rw [if_neg (by simpa using h0), if_neg (by simpa using h1), ho, hb])
  have HB := Lib.hid hb
  have HOF := Lib.hid ho
  have HL := Lib.hid hL
  clear ho hL hb
  have hO1 := hO.alloc (.cells #[.int .i64 0, .int .i64 0] 37)
  rw [hq]
  clear hq
  go_enter Try.func28, Try.ntmps28
  unfold memI at *
  go_upto_region 5 with fail
  generalize w.alloc (.cells #[.int .i64 0, .int .i64 0] 37) = w1 at hO1 ⊢
  generalize w.heap.size = rb at hO1 ⊢
  clear hO c7 hz
  go_cut [51] (fun s51 wx => s51 = .bool b ∧ ∃ m, Owns B W wx ([(rb, Obj.cells #[Value.int .i64 0, .int .i64 0] 37 (0, 0))] :: memG p bw bb (wCasPut ws ov wd tw) bs m :: pnG x t s sl ge st un nx wd tw :: R0))
  case first =>
    have hO := hO1.drew
    have c0 : _ = some (Value.int .i64 t) := hO.cell 2 0 rfl rfl 0
    have c1 : _ = some (Value.int .i64 s) := hO.cell 2 0 rfl rfl 1
    have c2 : _ = some (Value.int .i64 sl) := hO.cell 2 0 rfl rfl 2
    have c8 : _ = some (Value.int .i64 wd) := hO.cell 2 0 rfl rfl 8
    have c9 : _ = some (Value.int .i64 tw) := hO.cell 2 0 rfl rfl 9
    first
      | go_loud (go_region_held3 (fun w => w.cell? ⟨x, 0, none⟩ = some (.int .i64 t) ∧ w.cell? ⟨x, 1, none⟩ = some (.int .i64 s) ∧ w.cell? ⟨x, 2, none⟩ = some (.int .i64 sl) ∧ w.cell? ⟨x, 8, none⟩ = some (.int .i64 wd) ∧ w.cell? ⟨x, 9, none⟩ = some (.int .i64 tw)) (exact ⟨c0, c1, c2, c8, c9⟩) (first | (go_at_call 54; refine (layout_Entry _ _ _ _ HL.out).mono ?_; rw [HOF.out]; rintro e w7 ⟨rfl, hb⟩; have hO := hO.via hb; have c0 := cell_below hb c0; have c1 := cell_below hb c1; have c2 := cell_below hb c2; have c8 := cell_below hb c8; have c9 := cell_below hb c9) | (go_at_call 119; refine (plain_Cas 1 _ _ _ hO rfl hl).mono ?_; rw [HB.out]; rintro e w7 ⟨rfl, hO'⟩; have hO := hO'; (try simp only [List.set_cons_zero, List.set_cons_succ] at hO); have c0 : _ = some (Value.int .i64 t) := hO.cell 2 0 rfl rfl 0; have c1 : _ = some (Value.int .i64 s) := hO.cell 2 0 rfl rfl 1; have c2 : _ = some (Value.int .i64 sl) := hO.cell 2 0 rfl rfl 2; have c8 : _ = some (Value.int .i64 wd) := hO.cell 2 0 rfl rfl 8; have c9 : _ = some (Value.int .i64 tw) := hO.cell 2 0 rfl rfl 9)))
      | fail "cas"
    all_goals
      go_wp2_with fail
      go_meet
      exact ⟨rfl, _, hO⟩
  case rest =>
    obtain ⟨rfl, m, hO⟩ := hcut
    clear hO1
    cases b
    case true =>
      have hQ : q = ⟨wCasPut ws ov wd tw, 0, wd, tw, 0, true⟩ := HQ.out
      subst hQ
      go_wp2_with (go_at_call 55; refine (pin_end 2 0 hO rfl).mono ?_; rintro e w2 ⟨rfl, hO'⟩; have hO := hO'; (try simp only [List.set_cons_zero, List.set_cons_succ] at hO); have rz := hO.lt 0 0 rfl rfl; have rd0 : _ = some (Value.int .i64 0) := hO.cell 0 0 rfl rfl 0; have rd1 : _ = some (Value.int .i64 0) := hO.cell 0 0 rfl rfl 1; have rf0 := blk_free (hO.get 0 0 rfl rfl) 0; have rf1 := blk_free (hO.get 0 0 rfl rfl) 1)
      have hO4 := res_set2 hO (.int .i64 0) (.int .i64 0)
      generalize World.setCell (World.setCell _ _ _) _ _ = wz at hO4 ⊢
      have e0 := hO4.cell 0 0 rfl rfl 0
      have e1 := hO4.cell 0 0 rfl rfl 1
      exact bodyPost_ret (v := .tuple #[.agg #[.int .i64 0, .int .i64 0], .bool true]) (by simp [results, Try.results28, go_sem, e0, e1]) rfl ⟨rfl, m, hO4.tail⟩
    case false =>
      have hQ : q = ⟨ws, 1, wd, tw, 0, false⟩ := HQ.out
      subst hQ
      have hC : wCasPut ws ov wd tw = ws := by unfold wCasPut; rw [HB.out]; rfl
      rw [hC] at hO
      clear hC
      obtain ⟨c0, c1, c2, c3, c4, c5, c6, c7, c8, c9⟩ := pn_cells (j := 2) hO rfl
      have y7 := pn_free (j := 2) hO rfl 7
      go_upto_region 8 with fail
      have hO := pn_next (j := 2) hO rfl 1
      simp only [List.set_cons_zero, List.set_cons_succ] at hO
      generalize World.setCell _ _ _ = wy at hO ⊢
      clear c0 c1 c2 c3 c4 c5 c6 c7 c8 c9 y7
      have rz := hO.lt 0 0 rfl rfl; have rd0 : _ = some (Value.int .i64 0) := hO.cell 0 0 rfl rfl 0; have rd1 : _ = some (Value.int .i64 0) := hO.cell 0 0 rfl rfl 1; have rf0 := blk_free (hO.get 0 0 rfl rfl) 0; have rf1 := blk_free (hO.get 0 0 rfl rfl) 1
      go_wp2_with fail
      have hO4 := res_set2 hO (.int .i64 0) (.int .i64 0)
      generalize World.setCell (World.setCell _ _ _) _ _ = wz at hO4 ⊢
      have e0 := hO4.cell 0 0 rfl rfl 0
      have e1 := hO4.cell 0 0 rfl rfl 1
      exact bodyPost_ret (v := .tuple #[.agg #[.int .i64 0, .int .i64 0], .bool false]) (by simp [results, Try.results28, go_sem, e0, e1]) rfl ⟨rfl, m, hO4.tail⟩
theorem pin_Step {B : Nat} {W w : World} {R0 : List Grp} {x p bw bb : Nat} {ws bs : List Int} {n t s sl ge : Int} {st un : Bool} {nx wd tw : Int} (hO : Owns B W w (memG p bw bb ws bs n :: pnG x t s sl ge st un nx wd tw :: R0)) (hL : lOk t s) (hl : ws.length ≤ 4096) :
    Calls Try.prog 28 #[.pointer (some ⟨x, 0, none⟩), memI p] w (PnPost B W R0 x p bw bb bs t s sl ge st un (pinStep t s sl ge st un ws nx wd tw)) := by
  by_cases h0 : nx = 0
  · subst h0; exact pin_Step_0 hO
  · by_cases h1 : nx = 1
    · subst h1; exact pin_Step_1 hO hL hl
    · exact pin_Step_2 hO hL hl (by simpa using h0) (by simpa using h1)
end Go.Proofs.Ytmbkkpeepbfgoaa
