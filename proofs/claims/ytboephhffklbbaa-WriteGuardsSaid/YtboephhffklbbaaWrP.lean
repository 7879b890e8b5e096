/- What write's machine does, as a function of numbers. -/
import Derived.RegionTactic
import Derived.BigRegion
import Derived.Deep.RegionHeld3
import Derived.Outline
import Derived.Deep.DeepCutAuto
import Derived.Test.YtboephhffklbbaaIni
import Derived.Test.YtboephhffklbbaaEnX
import Derived.Test.YtboephhffklbbaaHnW
namespace Go.Proofs.Ytboephhffklbbaa
set_option linter.unusedVariables false
set_option linter.unusedSimpArgs false
open Go.RowKit
structure WrC where
  t : Int
  s : Int
  sl : Int
  ge : Int
  st : Bool
  off : Int
  b : Int
structure WrV where
  nx : Int
  wd : Int
  o : Int
  kp : Int
  g : Bool
def wrG (x : Nat) (c : WrC) (v : WrV) : Grp := [(x, .cells #[.int .i64 c.t, .int .i64 c.s, .int .i64 c.sl, .int .i64 c.ge, .bool c.st, .int .i64 c.off, .int .i64 c.b, .int .i64 v.nx, .int .i64 v.wd, .int .i64 v.o, .int .i64 v.kp, .bool v.g] 87 (0, 0))]
structure WrR where
  ws : List Int
  bs : List Int
  v : WrV
  code : Int
  done : Bool
/-- what look leaves, and whether it is stale. -/
def wrLook (c : WrC) (x : Int) (v : WrV) : WrV × Bool :=
  if fresh x c.ge = true then
    if (!uL x && decide (uU x < 15)) = true then ({ v with wd := x, o := uO x, nx := 2 }, false) else ({ v with wd := x }, false)
  else ({ v with wd := x }, true)
def wrStep (c : WrC) (ws bs : List Int) (v : WrV) : WrR :=
  if v.nx = 0 then ⟨ws, bs, v, 1, true⟩
  else if v.nx = 1 then
    if c.st = true then ⟨ws, bs, { v with nx := 0, g := false }, 4, true⟩
    else if (wrLook c (wAt ws (lOf c.t c.s c.sl 0)) v).2 = true then ⟨ws, bs, { v with wd := wAt ws (lOf c.t c.s c.sl 0), nx := 0, g := false }, 4, true⟩
    else ⟨ws, bs, (wrLook c (wAt ws (lOf c.t c.s c.sl 0)) v).1, 0, false⟩
  else if v.nx = 2 then
    if wCas ws (lOf c.t c.s c.sl 0) v.wd = true then ⟨wCasPut ws (lOf c.t c.s c.sl 0) v.wd (eGuard v.wd 1).1, bs, { v with nx := 3, g := true }, 0, false⟩
    else ⟨ws, bs, { v with nx := 1 }, 0, false⟩
  else if v.nx = 3 then
    if c.off < 0 ∨ wAt ws (lOf c.t c.s c.sl 1) ≤ c.off then ⟨ws, bs, { v with nx := 5, kp := 5 }, 0, false⟩ else ⟨ws, bs, { v with nx := 4 }, 0, false⟩
  else if v.nx = 4 then ⟨ws, wPut bs (wrap64 (v.o + c.off)) (c.b % 256), { v with nx := 5 }, 0, false⟩
  else if v.nx = 5 then ⟨ws, bs, { v with wd := wAt ws (lOf c.t c.s c.sl 0), nx := 6 }, 0, false⟩
  else if v.nx = 6 then
    if (eGuard v.wd (-1)).2 ≠ 0 then ⟨ws, bs, { v with nx := 0, g := false }, v.kp, true⟩
    else if wCas ws (lOf c.t c.s c.sl 0) v.wd = true then ⟨wCasPut ws (lOf c.t c.s c.sl 0) v.wd (eGuard v.wd (-1)).1, bs, { v with nx := 0, g := false }, v.kp, true⟩
    else ⟨ws, bs, { v with nx := 5 }, 0, false⟩
  else ⟨ws, bs, v, 0, false⟩
def WrPost (B : Nat) (W : World) (R0 : List Grp) (x p bw bb : Nat) (c : WrC) (q : WrR) (e : Ending) (w' : World) : Prop :=
  e = .returned (resV (q.code, 0) q.done) ∧ ∃ m, Owns B W w' (memG p bw bb q.ws q.bs m :: wrG x c q.v :: R0)
section
variable {B : Nat} {W w : World} {G : List Grp} {j x : Nat} {c : WrC} {v : WrV} (h : Owns B W w G) (hj : G[j]? = some (wrG x c v))
include h hj
theorem wr_cells : w.cell? ⟨x, 0, none⟩ = some (.int .i64 c.t) ∧ w.cell? ⟨x, 1, none⟩ = some (.int .i64 c.s) ∧ w.cell? ⟨x, 2, none⟩ = some (.int .i64 c.sl) ∧ w.cell? ⟨x, 3, none⟩ = some (.int .i64 c.ge) ∧ w.cell? ⟨x, 4, none⟩ = some (.bool c.st) ∧ w.cell? ⟨x, 5, none⟩ = some (.int .i64 c.off) ∧ w.cell? ⟨x, 6, none⟩ = some (.int .i64 c.b) ∧
    w.cell? ⟨x, 7, none⟩ = some (.int .i64 v.nx) ∧ w.cell? ⟨x, 8, none⟩ = some (.int .i64 v.wd) ∧ w.cell? ⟨x, 9, none⟩ = some (.int .i64 v.o) ∧ w.cell? ⟨x, 10, none⟩ = some (.int .i64 v.kp) ∧ w.cell? ⟨x, 11, none⟩ = some (.bool v.g) ∧ x < w.heap.size ∧ (∀ o, w.frozen? ⟨x, o, none⟩ = false) :=
  ⟨h.cell j 0 hj rfl 0, h.cell j 0 hj rfl 1, h.cell j 0 hj rfl 2, h.cell j 0 hj rfl 3, h.cell j 0 hj rfl 4, h.cell j 0 hj rfl 5, h.cell j 0 hj rfl 6, h.cell j 0 hj rfl 7, h.cell j 0 hj rfl 8, h.cell j 0 hj rfl 9, h.cell j 0 hj rfl 10, h.cell j 0 hj rfl 11, h.lt j 0 hj rfl, blk_free (h.get j 0 hj rfl)⟩
theorem wr_nx (n : Int) : Owns B W (w.setCell ⟨x, 7, none⟩ (.int .i64 n)) (G.set j (wrG x c { v with nx := n })) := h.set j 0 hj rfl 7 (.int .i64 n)
theorem wr_wd (n : Int) : Owns B W (w.setCell ⟨x, 8, none⟩ (.int .i64 n)) (G.set j (wrG x c { v with wd := n })) := h.set j 0 hj rfl 8 (.int .i64 n)
theorem wr_o (n : Int) : Owns B W (w.setCell ⟨x, 9, none⟩ (.int .i64 n)) (G.set j (wrG x c { v with o := n })) := h.set j 0 hj rfl 9 (.int .i64 n)
theorem wr_kp (n : Int) : Owns B W (w.setCell ⟨x, 10, none⟩ (.int .i64 n)) (G.set j (wrG x c { v with kp := n })) := h.set j 0 hj rfl 10 (.int .i64 n)
theorem wr_g (b : Bool) : Owns B W (w.setCell ⟨x, 11, none⟩ (.bool b)) (G.set j (wrG x c { v with g := b })) := h.set j 0 hj rfl 11 (.bool b)
end
end Go.Proofs.Ytboephhffklbbaa
