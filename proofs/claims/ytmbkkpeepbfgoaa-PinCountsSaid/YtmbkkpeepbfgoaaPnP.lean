/- What pin's machine does, as a function of numbers. -/
import Derived.Test.YtmbkkpeepbfgoaaIni
import Derived.Test.YtmbkkpeepbfgoaaEnF
import Derived.Test.YtmbkkpeepbfgoaaEnX
namespace Go.Proofs.Ytmbkkpeepbfgoaa
set_option linter.unusedVariables false
set_option linter.unusedSimpArgs false
open Go.RowKit
def pnF (un : Bool) : Value := .func (.func (if un = true then 52 else 51)) #[] #[]
def pnObj (t s sl ge : Int) (st un : Bool) (nx wd tw : Int) : Obj :=
  .cells #[.int .i64 t, .int .i64 s, .int .i64 sl, .int .i64 ge, .bool st, pnF un, .bool (!un), .int .i64 nx, .int .i64 wd, .int .i64 tw] 108 (0, 0)
def pnG (x : Nat) (t s sl ge : Int) (st un : Bool) (nx wd tw : Int) : Grp := [(x, pnObj t s sl ge st un nx wd tw)]
def pnTurn (un : Bool) (x : Int) : Int × Int := if un = true then eUnpin x else ePin x
structure PinR where
  ws : List Int
  nx : Int
  wd : Int
  tw : Int
  code : Int
  done : Bool
/-- is it the entry's word of that generation, that is live? -/
def fresh (x ge : Int) : Bool := decide (eOk x = 0) && (uA x && decide (uG x = ge))
def pinStep (t s sl ge : Int) (st un : Bool) (ws : List Int) (nx wd tw : Int) : PinR :=
  if nx = 0 then ⟨ws, 0, wd, tw, 1, true⟩
  else if nx = 1 then
    if st = true then ⟨ws, 0, wd, tw, 4, true⟩
    else if fresh (wAt ws (lOf t s sl 0)) ge = true then
      if (uL (wAt ws (lOf t s sl 0)) && !un) = true then ⟨ws, 1, wAt ws (lOf t s sl 0), tw, 0, false⟩
      else if (pnTurn un (wAt ws (lOf t s sl 0))).2 = 0 then ⟨ws, 2, wAt ws (lOf t s sl 0), (pnTurn un (wAt ws (lOf t s sl 0))).1, 0, false⟩
      else ⟨ws, 0, wAt ws (lOf t s sl 0), tw, (pnTurn un (wAt ws (lOf t s sl 0))).2, true⟩
    else ⟨ws, 0, wAt ws (lOf t s sl 0), tw, 4, true⟩
  else if wCas ws (lOf t s sl 0) wd = true then ⟨wCasPut ws (lOf t s sl 0) wd tw, 0, wd, tw, 0, true⟩
  else ⟨ws, 1, wd, tw, 0, false⟩
def PinPost (B : Nat) (W : World) (G : List Grp) (i j x p bw bb : Nat) (bs : List Int) (t s sl ge : Int) (st un : Bool) (q : PinR) (r : Ending) (w' : World) : Prop :=
  r = .returned (.tuple #[.agg #[.int .i64 q.code, .int .i64 0], .bool q.done]) ∧ ∃ m, Owns B W w' ((G.set i (memG p bw bb q.ws bs m)).set j (pnG x t s sl ge st un q.nx q.wd q.tw))
theorem pn_cells {B : Nat} {W w : World} {G : List Grp} {j x : Nat} {t s sl ge : Int} {st un : Bool} {nx wd tw : Int} (h : Owns B W w G) (hj : G[j]? = some (pnG x t s sl ge st un nx wd tw)) :
    w.cell? ⟨x, 0, none⟩ = some (.int .i64 t) ∧ w.cell? ⟨x, 1, none⟩ = some (.int .i64 s) ∧ w.cell? ⟨x, 2, none⟩ = some (.int .i64 sl) ∧ w.cell? ⟨x, 3, none⟩ = some (.int .i64 ge) ∧ w.cell? ⟨x, 4, none⟩ = some (.bool st) ∧ w.cell? ⟨x, 5, none⟩ = some (pnF un) ∧
      w.cell? ⟨x, 6, none⟩ = some (.bool (!un)) ∧ w.cell? ⟨x, 7, none⟩ = some (.int .i64 nx) ∧ w.cell? ⟨x, 8, none⟩ = some (.int .i64 wd) ∧ w.cell? ⟨x, 9, none⟩ = some (.int .i64 tw) :=
  ⟨h.cell j 0 hj rfl 0, h.cell j 0 hj rfl 1, h.cell j 0 hj rfl 2, h.cell j 0 hj rfl 3, h.cell j 0 hj rfl 4, h.cell j 0 hj rfl 5, h.cell j 0 hj rfl 6, h.cell j 0 hj rfl 7, h.cell j 0 hj rfl 8, h.cell j 0 hj rfl 9⟩
theorem pn_free {B : Nat} {W w : World} {G : List Grp} {j x : Nat} {t s sl ge : Int} {st un : Bool} {nx wd tw : Int} (h : Owns B W w G) (hj : G[j]? = some (pnG x t s sl ge st un nx wd tw)) (o : Nat) : w.frozen? ⟨x, o, none⟩ = false := blk_free (h.get j 0 hj rfl) o
theorem pn_next {B : Nat} {W w : World} {G : List Grp} {j x : Nat} {t s sl ge : Int} {st un : Bool} {nx wd tw : Int} (h : Owns B W w G) (hj : G[j]? = some (pnG x t s sl ge st un nx wd tw)) (v : Int) : Owns B W (w.setCell ⟨x, 7, none⟩ (.int .i64 v)) (G.set j (pnG x t s sl ge st un v wd tw)) := h.set j 0 hj rfl 7 (.int .i64 v)
theorem pn_word {B : Nat} {W w : World} {G : List Grp} {j x : Nat} {t s sl ge : Int} {st un : Bool} {nx wd tw : Int} (h : Owns B W w G) (hj : G[j]? = some (pnG x t s sl ge st un nx wd tw)) (v : Int) : Owns B W (w.setCell ⟨x, 8, none⟩ (.int .i64 v)) (G.set j (pnG x t s sl ge st un nx v tw)) := h.set j 0 hj rfl 8 (.int .i64 v)
theorem pn_to {B : Nat} {W w : World} {G : List Grp} {j x : Nat} {t s sl ge : Int} {st un : Bool} {nx wd tw : Int} (h : Owns B W w G) (hj : G[j]? = some (pnG x t s sl ge st un nx wd tw)) (v : Int) : Owns B W (w.setCell ⟨x, 9, none⟩ (.int .i64 v)) (G.set j (pnG x t s sl ge st un nx wd v)) := h.set j 0 hj rfl 9 (.int .i64 v)
set_option maxHeartbeats 2000000 in
theorem pin_end {B : Nat} {W w : World} {G : List Grp} (j : Nat) {x : Nat} {t s sl ge : Int} {st un : Bool} {nx wd tw : Int} (e : Int) (hO : Owns B W w G) (hj : G[j]? = some (pnG x t s sl ge st un nx wd tw)) :
    Calls Try.prog 55 #[.pointer (some ⟨x, 0, none⟩), .int .i64 e] w fun r w' => r = .returned (.tuple #[.agg #[.int .i64 e, .int .i64 0], .bool true]) ∧ Owns B W w' (G.set j (pnG x t s sl ge st un 0 wd tw)) := by
  go_enter Try.func55, Try.ntmps55
  have hO1 := hO.alloc (.cells #[.int .i64 0, .int .i64 0] 37)
  have hj1 : ([(w.heap.size, Obj.cells #[.int .i64 0, .int .i64 0] 37 (0, 0))] :: G)[j + 1]? = some (pnG x t s sl ge st un nx wd tw) := by simpa using hj
  obtain ⟨c0, c1, c2, c3, c4, c5, c6, c7, c8, c9⟩ := pn_cells hO1 hj1
  have hf := pn_free hO1 hj1 7
  have hne := hO1.ne_out 0 (j + 1) 0 0 rfl hj1 rfl rfl (by omega)
  go_wp2
  have hO2 := ((pn_next hO1 hj1 0).set 0 0 rfl rfl 0 (.int .i64 e)).set 0 0 rfl rfl 1 (.int .i64 0)
  generalize hrb : w.heap.size = rb at hO2 ⊢
  generalize World.setCell (World.setCell (World.setCell _ _ _) _ _) _ _ = w3 at hO2 ⊢
  have d0 : _ = some (Value.int .i64 e) := hO2.cell 0 0 rfl rfl 0
  have d1 : _ = some (Value.int .i64 0) := hO2.cell 0 0 rfl rfl 1
  exact bodyPost_ret (v := .tuple #[.agg #[.int .i64 e, .int .i64 0], .bool true]) (by simp [results, Try.results55, go_sem, d0, d1]) rfl ⟨rfl, hO2.tail⟩
end Go.Proofs.Ytmbkkpeepbfgoaa
