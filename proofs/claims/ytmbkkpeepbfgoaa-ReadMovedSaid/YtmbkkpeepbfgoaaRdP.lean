/- What read's machine does, as a function of numbers. -/
import Derived.Test.YtmbkkpeepbfgoaaIni
import Derived.Test.YtmbkkpeepbfgoaaEnU
import Derived.Test.YtmbkkpeepbfgoaaEnX
import Derived.Test.YtmbkkpeepbfgoaaHnW
import Derived.Test.YtmbkkpeepbfgoaaMRun
namespace Go.Proofs.Ytmbkkpeepbfgoaa
set_option linter.unusedVariables false
set_option linter.unusedSimpArgs false
open Go.RowKit
structure RdS where
  nx : Int
  o : Int
  g : Int
  p : Int
  u : Int
  l : Bool
  a : Bool
  code : Int
  n : Int
def rdObj (t s sl ge : Int) (st : Bool) (off : Int) (q : RdS) : Obj :=
  .cells #[.int .i64 t, .int .i64 s, .int .i64 sl, .int .i64 ge, .bool st, .int .i64 off, .int .i64 q.nx, .int .i64 q.o, .int .i64 q.g, .int .i64 q.p, .int .i64 q.u, .bool q.l, .bool q.a, .int .i64 q.code, .int .i64 q.n] 93 (0, 0)
def rdG (x : Nat) (t s sl ge : Int) (st : Bool) (off : Int) (q : RdS) : Grp := [(x, rdObj t s sl ge st off q)]
/-- is it the entry's word of that generation, that is live? -/
def fresh (x ge : Int) : Bool := decide (eOk x = 0) && (uA x && decide (uG x = ge))
def rdStep (t s sl ge : Int) (st : Bool) (off : Int) (ws bs : List Int) (q : RdS) : RdS × (Int × Int) × Bool :=
  if q.nx = 0 then (q, (1, 0), true)
  else if q.nx = 1 then
    if st = true then ({ q with nx := 0 }, (4, 0), true)
    else if fresh (wAt ws (lOf t s sl 0)) ge = true then
      if uL (wAt ws (lOf t s sl 0)) = true then (q, (0, 0), false)
      else ({ q with nx := 2, o := uO (wAt ws (lOf t s sl 0)), g := uG (wAt ws (lOf t s sl 0)), p := uP (wAt ws (lOf t s sl 0)), u := uU (wAt ws (lOf t s sl 0)), l := uL (wAt ws (lOf t s sl 0)), a := uA (wAt ws (lOf t s sl 0)) }, (0, 0), false)
    else ({ q with nx := 0 }, (4, 0), true)
  else if q.nx = 2 then
    if off < 0 ∨ wAt ws (lOf t s sl 1) ≤ off then ({ q with nx := 4, code := 5, n := 0 }, (0, 0), false)
    else ({ q with nx := 3, code := 0, n := 0 }, (0, 0), false)
  else if q.nx = 3 then ({ q with nx := 4, n := wAt bs (wrap64 (q.o + off)) }, (0, 0), false)
  else if q.nx = 4 then
    if (fresh (wAt ws (lOf t s sl 0)) ge && (decide (uO (wAt ws (lOf t s sl 0)) = q.o) && !uL (wAt ws (lOf t s sl 0)))) = true then ({ q with nx := 0 }, (q.code, q.n), true)
    else ({ q with nx := 1 }, (0, 0), false)
  else (q, (0, 0), false)
/-- the machine that is made. -/
def rdNew (a s t h : Int) : RdS := ⟨if cfgOk a s t = true then 1 else 0, 0, 0, 0, 0, false, false, 0, 0⟩
section
variable {B : Nat} {W w : World} {G : List Grp} {j x : Nat} {t s sl ge : Int} {st : Bool} {off : Int} {q : RdS} (h : Owns B W w G) (hj : G[j]? = some (rdG x t s sl ge st off q))
include h hj
theorem rd_cell (o : Nat) : w.cell? ⟨x, o, none⟩ = (#[.int .i64 t, .int .i64 s, .int .i64 sl, .int .i64 ge, .bool st, .int .i64 off, .int .i64 q.nx, .int .i64 q.o, .int .i64 q.g, .int .i64 q.p, .int .i64 q.u, .bool q.l, .bool q.a, .int .i64 q.code, .int .i64 q.n] : Array Value)[o]? := h.cell j 0 hj rfl o
theorem rd_free (o : Nat) : w.frozen? ⟨x, o, none⟩ = false := blk_free (h.get j 0 hj rfl) o
theorem rd_nx (v : Int) : Owns B W (w.setCell ⟨x, 6, none⟩ (.int .i64 v)) (G.set j (rdG x t s sl ge st off { q with nx := v })) := h.set j 0 hj rfl 6 (.int .i64 v)
end
end Go.Proofs.Ytmbkkpeepbfgoaa
