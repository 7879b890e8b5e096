/- What free's machine does, as a function of numbers. -/
import Derived.Test.YtpebepjfgnoaaaaGreatIni
import Derived.Test.YtpebepjfgnoaaaaGreatEnX
import Derived.Test.YtpebepjfgnoaaaaGreatHnW
import Derived.Test.YtpebepjfgnoaaaaGreatStS
import Derived.Test.YtpebepjfgnoaaaaGreatStU
import Derived.Test.YtpebepjfgnoaaaaGreatStN
import Derived.Test.YtpebepjfgnoaaaaGreatAlP
namespace Go.Proofs.YtpebepjfgnoaaaaGreat
set_option linter.unusedVariables false
set_option linter.unusedSimpArgs false
open Go.RowKit
structure FrC where
  t : Int
  s : Int
  sl : Int
  ge : Int
  st : Bool
  gp : Nat
structure FrV where
  nx : Int
  wd : Int
  tw : Int
  mo : Bool
  gv : Option StV
def frArr (c : FrC) (v : FrV) : Array Value := #[.int .i64 c.t, .int .i64 c.s, .int .i64 c.sl, .int .i64 c.ge, .bool c.st, .int .i64 v.nx, .int .i64 v.wd, .int .i64 v.tw, .bool v.mo, gvPtr c.gp v.gv]
def frG (x : Nat) (c : FrC) (v : FrV) : Grp := (x, .cells (frArr c v) 75 (0, 0)) :: gvL c.t c.s c.gp v.gv
structure FrR where
  ws : List Int
  v : FrV
  code : Int
  done : Bool
/-- what look comes to, of the entry's word. -/
def frLook (c : FrC) (x : Int) (v : FrV) : FrV × Int × Bool :=
  if fresh x c.ge = true then
    (if 0 < uP x then ({ v with wd := x, nx := 0 }, 6, true)
     else if (uU x == 0 && !uL x) = true then ({ v with wd := x, tw := (eNext x).1, mo := eNextMore x, nx := 2 }, 0, false)
     else ({ v with wd := x }, 0, false))
  else ({ v with wd := x, nx := 0 }, 4, true)
def frStep (c : FrC) (ws : List Int) (v : FrV) : FrR :=
  if v.nx = 0 then ⟨ws, v, 1, true⟩
  else if v.nx = 1 then
    (if c.st = true then ⟨ws, { v with nx := 0 }, 4, true⟩
     else ⟨ws, (frLook c (wAt ws (lOf c.t c.s c.sl 0)) v).1, (frLook c (wAt ws (lOf c.t c.s c.sl 0)) v).2.1, (frLook c (wAt ws (lOf c.t c.s c.sl 0)) v).2.2⟩)
  else if v.nx = 2 then
    (if wCas ws (lOf c.t c.s c.sl 0) v.wd = true then
      (if v.mo = true then ⟨wCasPut ws (lOf c.t c.s c.sl 0) v.wd v.tw, { v with nx := 3, gv := some ⟨1, c.sl, 0, 0⟩ }, 0, false⟩
       else ⟨wCasPut ws (lOf c.t c.s c.sl 0) v.wd v.tw, { v with nx := 0 }, 0, true⟩)
     else ⟨ws, { v with nx := 1 }, 0, false⟩)
  else match v.gv with
    | none => ⟨ws, v, 0, false⟩
    | some g =>
      let r := pushStep c.t c.s ws g.nx g.sl g.wd g.tw
      if r.done = true then ⟨r.ws, { v with nx := 0, gv := some ⟨r.nx, r.sl, r.wd, r.to⟩ }, 0, true⟩ else ⟨r.ws, { v with gv := some ⟨r.nx, r.sl, r.wd, r.to⟩ }, 0, false⟩
def FrPost (B : Nat) (W : World) (R0 : List Grp) (x p bw bb : Nat) (bs : List Int) (c : FrC) (q : FrR) (e : Ending) (w' : World) : Prop :=
  e = .returned (resV (q.code, 0) q.done) ∧ ∃ m y, Owns B W w' (memG p bw bb q.ws bs m :: frG x { c with gp := y } q.v :: R0)
section
variable {B : Nat} {W w : World} {G : List Grp} {j x : Nat} {c : FrC} {v : FrV} (h : Owns B W w G) (hj : G[j]? = some (frG x c v))
include h hj
theorem fr_cell (k : Nat) : w.cell? ⟨x, k, none⟩ = (frArr c v)[k]? := h.cell j 0 hj rfl k
theorem fr_free (k : Nat) : w.frozen? ⟨x, k, none⟩ = false := blk_free (h.get j 0 hj rfl) k
theorem fr_lt : x < w.heap.size := h.lt j 0 hj rfl
theorem fr_set (k : Nat) (u : Value) (v' : FrV) (hg : v'.gv = v.gv) (hq : (frArr c v).setIfInBounds k u = frArr c v') : Owns B W (w.setCell ⟨x, k, none⟩ u) (G.set j (frG x c v')) := by
  have h1 := h.set j 0 hj rfl k u
  rw [hq] at h1
  have e : (frG x c v).set 0 (x, Obj.cells (frArr c v') 75 (0, 0)) = frG x c v' := by unfold frG; rw [hg]; rfl
  rw [e] at h1
  exact h1
theorem fr_cells : w.cell? ⟨x, 0, none⟩ = some (.int .i64 c.t) ∧ w.cell? ⟨x, 1, none⟩ = some (.int .i64 c.s) ∧ w.cell? ⟨x, 2, none⟩ = some (.int .i64 c.sl) ∧ w.cell? ⟨x, 3, none⟩ = some (.int .i64 c.ge) ∧ w.cell? ⟨x, 4, none⟩ = some (.bool c.st) ∧ w.cell? ⟨x, 5, none⟩ = some (.int .i64 v.nx) ∧ w.cell? ⟨x, 6, none⟩ = some (.int .i64 v.wd) ∧ w.cell? ⟨x, 7, none⟩ = some (.int .i64 v.tw) ∧ w.cell? ⟨x, 8, none⟩ = some (.bool v.mo) ∧ w.cell? ⟨x, 9, none⟩ = some (gvPtr c.gp v.gv) ∧ x < w.heap.size :=
  ⟨fr_cell h hj 0, fr_cell h hj 1, fr_cell h hj 2, fr_cell h hj 3, fr_cell h hj 4, fr_cell h hj 5, fr_cell h hj 6, fr_cell h hj 7, fr_cell h hj 8, fr_cell h hj 9, fr_lt h hj⟩
end
theorem fr_giver {B : Nat} {W w : World} {m : Grp} {R : List Grp} {x : Nat} {c : FrC} {v : FrV} {g : StV} (hg : v.gv = some g) : Owns B W w (m :: frG x c v :: R) ↔ Owns B W w (m :: machG 111 c.gp c.t c.s g.nx g.sl g.wd g.tw :: [(x, .cells (frArr c v) 75 (0, 0))] :: R) := by
  have e : (m :: frG x c v :: R).flatten.Perm (m :: machG 111 c.gp c.t c.s g.nx g.sl g.wd g.tw :: [(x, .cells (frArr c v) 75 (0, 0))] :: R).flatten := by
    simp only [List.flatten_cons, frG, machG, hg, gvL, List.cons_append, List.nil_append]
    exact List.Perm.append_left m (List.Perm.swap _ _ _)
  exact ⟨fun h => h.flat e, fun h => h.flat e.symm⟩
/-- the giver laid into the machine. -/
theorem fr_gv {B : Nat} {W w : World} {R : List Grp} {m : Grp} {x y : Nat} {c : FrC} {v : FrV} (g : StV) (hv : v.gv = none) (h : Owns B W w (machG 111 y c.t c.s g.nx g.sl g.wd g.tw :: m :: frG x c v :: R)) :
    Owns B W (w.setCell ⟨x, 9, none⟩ (.pointer (some ⟨y, 0, none⟩))) (m :: frG x { c with gp := y } { v with gv := some g } :: R) := by
  have h1 := h.set 2 0 rfl rfl 9 (.pointer (some ⟨y, 0, none⟩))
  refine h1.flat ?_
  simp only [List.set_cons_zero, List.set_cons_succ, List.flatten_cons, frG, machG, hv, gvL, List.cons_append, List.nil_append]
  refine List.Perm.trans List.perm_middle.symm (List.Perm.append_left m ?_)
  exact List.Perm.swap _ _ _
end Go.Proofs.YtpebepjfgnoaaaaGreat
