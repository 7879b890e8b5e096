/- What alloc's machine does, as a function of numbers. -/
import Derived.RegionTactic
import Derived.BigRegion
import Derived.Deep.RegionHeld3
import Derived.Outline
import Derived.Deep.DeepCutAuto
import Derived.Test.YtpebepjfgnoaaaaIni
import Derived.Test.YtpebepjfgnoaaaaEnX
import Derived.Test.YtpebepjfgnoaaaaHnW
import Derived.Test.YtpebepjfgnoaaaaStS
import Derived.Test.YtpebepjfgnoaaaaStU
import Derived.Test.YtpebepjfgnoaaaaStN
namespace Go.Proofs.Ytpebepjfgnoaaaa
set_option linter.unusedVariables false
set_option linter.unusedSimpArgs false
open Go.RowKit
structure AlC where
  t : Int
  s : Int
  ar : Int
  n : Int
  by' : Int
  tk : Nat
  gp : Nat
/-- a stack's machine. -/
structure StV where
  nx : Int
  sl : Int
  wd : Int
  tw : Int
structure AlV where
  nx : Int
  seen : Int
  kp : Int
  sl : Int
  f : Int
  a : Int
  gen : Int
  wd : Int
  cl : Bool
  p : StV
  gv : Option StV
def gvPtr (y : Nat) : Option StV → Value
  | none => .pointer none
  | some _ => .pointer (some ⟨y, 0, none⟩)
def gvL (t s : Int) (y : Nat) : Option StV → Grp
  | none => []
  | some g => [(y, machObj 114 t s g.nx g.sl g.wd g.tw)]
def alArr (c : AlC) (v : AlV) : Array Value := #[.pointer (some ⟨c.tk, 0, none⟩), gvPtr c.gp v.gv, .int .i64 c.t, .int .i64 c.s, .int .i64 c.ar, .int .i64 c.n, .int .i64 c.by', .int .i64 v.nx, .int .i64 v.seen, .int .i64 v.kp, .int .i64 v.sl, .int .i64 v.f, .int .i64 v.a, .int .i64 v.gen, .int .i64 v.wd, .bool v.cl]
def alG (x : Nat) (c : AlC) (v : AlV) : Grp := (x, .cells (alArr c v) 123 (0, 0)) :: (c.tk, machObj 113 c.t c.s v.p.nx v.p.sl v.p.wd v.p.tw) :: gvL c.t c.s c.gp v.gv
def alGive (c : AlC) (ws : List Int) (v : AlV) : List Int × AlV :=
  match v.gv with
  | none => (ws, v)
  | some g => let r := pushStep c.t c.s ws g.nx g.sl g.wd g.tw; (r.ws, if r.done = true then { v with gv := some ⟨r.nx, r.sl, r.wd, r.to⟩, nx := 11 } else { v with gv := some ⟨r.nx, r.sl, r.wd, r.to⟩ })
structure AlR where
  ws : List Int
  bs : List Int
  v : AlV
  code : Int
  rn : Int
  done : Bool
/-- Pending made more, or less. -/
def alPend (c : AlC) (ws : List Int) (v : AlV) (by' again next : Int) : List Int × AlV × Bool :=
  if wCas ws (lOnce c.t 2) v.seen = true then (wCasPut ws (lOnce c.t 2) v.seen (wrap64 (v.seen + by')), { v with nx := next }, true) else (ws, { v with nx := again }, false)
def alTake (c : AlC) (ws : List Int) (v : AlV) : List Int × AlV :=
  let r := popStep c.t c.s ws v.p.nx v.p.sl v.p.wd v.p.tw
  (r.ws, if r.done = true then (if r.e = 0 then { v with p := ⟨r.nx, r.sl, r.wd, r.to⟩, sl := r.r, nx := 4 } else { v with p := ⟨r.nx, r.sl, r.wd, r.to⟩, kp := r.e, nx := 11 }) else { v with p := ⟨r.nx, r.sl, r.wd, r.to⟩ })
/-- what look leaves. -/
def alLook (x : Int) (v : AlV) : AlV :=
  if eOk x ≠ 0 ∨ uA x = true then { v with nx := 10, gen := uG x, kp := 2 } else { v with nx := 10, gen := uG x, wd := (ePack v.f (uG x) 0 0 false true).1 }
/-- is there no room? -/
def alNoRoom (c : AlC) (f : Int) : Bool := decide (f < 0) || decide (wrap64 (c.ar - c.by') < f)
def alFront (c : AlC) (f : Int) (v : AlV) : AlV :=
  if alNoRoom c f = true then { v with f := f, nx := 6, kp := 10, gv := some ⟨1, v.sl, 0, 0⟩ } else { v with f := f, nx := 5 }
def alRes (v : AlV) : Int × Int := if v.kp = 0 then (0, (hMake v.sl v.gen).1) else (v.kp, 0)
def alStep (c : AlC) (ws bs : List Int) (v : AlV) : AlR :=
  if v.nx = 0 then ⟨ws, bs, v, 1, 0, true⟩
  else if v.nx = 1 then (if c.by' = 0 then ⟨ws, bs, { v with nx := 0 }, 9, 0, true⟩ else ⟨ws, bs, { v with seen := wAt ws (lOnce c.t 2), nx := 2 }, 0, 0, false⟩)
  else if v.nx = 2 then ⟨(alPend c ws v 1 1 3).1, bs, (alPend c ws v 1 1 3).2.1, 0, 0, false⟩
  else if v.nx = 3 then ⟨(alTake c ws v).1, bs, (alTake c ws v).2, 0, 0, false⟩
  else if v.nx = 4 then ⟨ws, bs, alFront c (wAt ws (lOnce c.t 0)) v, 0, 0, false⟩
  else if v.nx = 5 then (if wCas ws (lOnce c.t 0) v.f = true then ⟨wCasPut ws (lOnce c.t 0) v.f (wrap64 (v.f + c.by')), bs, { v with nx := 7, cl := true }, 0, 0, false⟩ else ⟨ws, bs, { v with nx := 4 }, 0, 0, false⟩)
  else if v.nx = 6 then ⟨(alGive c ws v).1, bs, (alGive c ws v).2, 0, 0, false⟩
  else if v.nx = 7 then ⟨ws, wPut bs (wrap64 (v.f + v.a)) 0, { v with a := wrap64 (v.a + 1), nx := if wrap64 (v.a + 1) = c.by' then 8 else v.nx }, 0, 0, false⟩
  else if v.nx = 8 then ⟨wPut ws (lOf c.t c.s v.sl 1) c.n, bs, { v with nx := 9 }, 0, 0, false⟩
  else if v.nx = 9 then ⟨ws, bs, alLook (wAt ws (lOf c.t c.s v.sl 0)) v, 0, 0, false⟩
  else if v.nx = 10 then ⟨if v.kp = 0 then wPut ws (lOf c.t c.s v.sl 0) v.wd else ws, bs, { v with cl := false, nx := 11 }, 0, 0, false⟩
  else if v.nx = 11 then ⟨ws, bs, { v with seen := wAt ws (lOnce c.t 2), nx := 12 }, 0, 0, false⟩
  else if v.nx = 12 then
    (if (alPend c ws v (-1) 11 0).2.2 = true then ⟨(alPend c ws v (-1) 11 0).1, bs, (alPend c ws v (-1) 11 0).2.1, (alRes (alPend c ws v (-1) 11 0).2.1).1, (alRes (alPend c ws v (-1) 11 0).2.1).2, true⟩ else ⟨(alPend c ws v (-1) 11 0).1, bs, (alPend c ws v (-1) 11 0).2.1, 0, 0, false⟩)
  else ⟨ws, bs, v, 0, 0, false⟩
def AlPost (B : Nat) (W : World) (R0 : List Grp) (x p bw bb : Nat) (c : AlC) (q : AlR) (e : Ending) (w' : World) : Prop :=
  e = .returned (resV (q.code, q.rn) q.done) ∧ ∃ m y, Owns B W w' (memG p bw bb q.ws q.bs m :: alG x { c with gp := y } q.v :: R0)
section
variable {B : Nat} {W w : World} {G : List Grp} {j x : Nat} {c : AlC} {v : AlV} (h : Owns B W w G) (hj : G[j]? = some (alG x c v))
include h hj
theorem al_cell (k : Nat) : w.cell? ⟨x, k, none⟩ = (alArr c v)[k]? := h.cell j 0 hj rfl k
theorem al_free (k : Nat) : w.frozen? ⟨x, k, none⟩ = false := blk_free (h.get j 0 hj rfl) k
theorem al_lt : x < w.heap.size := h.lt j 0 hj rfl
theorem al_set (k : Nat) (u : Value) (v' : AlV) (hp : v'.p = v.p) (hg : v'.gv = v.gv) (hq : (alArr c v).setIfInBounds k u = alArr c v') : Owns B W (w.setCell ⟨x, k, none⟩ u) (G.set j (alG x c v')) := by
  have h1 := h.set j 0 hj rfl k u
  rw [hq] at h1
  have e : (alG x c v).set 0 (x, Obj.cells (alArr c v') 123 (0, 0)) = alG x c v' := by unfold alG; rw [hp, hg]; rfl
  rw [e] at h1
  exact h1
theorem al_cells : w.cell? ⟨x, 2, none⟩ = some (.int .i64 c.t) ∧ w.cell? ⟨x, 3, none⟩ = some (.int .i64 c.s) ∧ w.cell? ⟨x, 4, none⟩ = some (.int .i64 c.ar) ∧ w.cell? ⟨x, 5, none⟩ = some (.int .i64 c.n) ∧ w.cell? ⟨x, 6, none⟩ = some (.int .i64 c.by') ∧ w.cell? ⟨x, 7, none⟩ = some (.int .i64 v.nx) ∧ w.cell? ⟨x, 8, none⟩ = some (.int .i64 v.seen) ∧
    w.cell? ⟨x, 9, none⟩ = some (.int .i64 v.kp) ∧ w.cell? ⟨x, 10, none⟩ = some (.int .i64 v.sl) ∧ w.cell? ⟨x, 11, none⟩ = some (.int .i64 v.f) ∧ w.cell? ⟨x, 12, none⟩ = some (.int .i64 v.a) ∧ w.cell? ⟨x, 13, none⟩ = some (.int .i64 v.gen) ∧ w.cell? ⟨x, 14, none⟩ = some (.int .i64 v.wd) ∧ w.cell? ⟨x, 15, none⟩ = some (.bool v.cl) ∧ x < w.heap.size :=
  ⟨al_cell h hj 2, al_cell h hj 3, al_cell h hj 4, al_cell h hj 5, al_cell h hj 6, al_cell h hj 7, al_cell h hj 8, al_cell h hj 9, al_cell h hj 10, al_cell h hj 11, al_cell h hj 12, al_cell h hj 13, al_cell h hj 14, al_cell h hj 15, al_lt h hj⟩
theorem al_ptrs : w.cell? ⟨x, 0, none⟩ = some (.pointer (some ⟨c.tk, 0, none⟩)) ∧ w.cell? ⟨x, 1, none⟩ = some (gvPtr c.gp v.gv) := ⟨al_cell h hj 0, al_cell h hj 1⟩
end
theorem Owns.flat {B : Nat} {W w : World} {G G' : List Grp} (h : Owns B W w G) (hp : G.flatten.Perm G'.flatten) : Owns B W w G' :=
  ⟨h.1, h.2.1, (hp.map _).nodup_iff.1 h.2.2.1, fun x hx => h.2.2.2 x (hp.mem_iff.2 hx)⟩
theorem al_taker {B : Nat} {W w : World} {m : Grp} {R : List Grp} {x : Nat} {c : AlC} {v : AlV} : Owns B W w (m :: alG x c v :: R) ↔ Owns B W w (m :: machG 113 c.tk c.t c.s v.p.nx v.p.sl v.p.wd v.p.tw :: ((x, .cells (alArr c v) 123 (0, 0)) :: gvL c.t c.s c.gp v.gv) :: R) := by
  have e : (m :: alG x c v :: R).flatten.Perm (m :: machG 113 c.tk c.t c.s v.p.nx v.p.sl v.p.wd v.p.tw :: ((x, .cells (alArr c v) 123 (0, 0)) :: gvL c.t c.s c.gp v.gv) :: R).flatten := by
    simp only [List.flatten_cons, alG, machG, List.cons_append, List.nil_append]
    exact (List.Perm.swap _ _ _).append_left m
  exact ⟨fun h => h.flat e, fun h => h.flat e.symm⟩
theorem al_giver {B : Nat} {W w : World} {m : Grp} {R : List Grp} {x : Nat} {c : AlC} {v : AlV} {g : StV} (hg : v.gv = some g) : Owns B W w (m :: alG x c v :: R) ↔ Owns B W w (m :: machG 114 c.gp c.t c.s g.nx g.sl g.wd g.tw :: [(x, .cells (alArr c v) 123 (0, 0)), (c.tk, machObj 113 c.t c.s v.p.nx v.p.sl v.p.wd v.p.tw)] :: R) := by
  have e : (m :: alG x c v :: R).flatten.Perm (m :: machG 114 c.gp c.t c.s g.nx g.sl g.wd g.tw :: [(x, .cells (alArr c v) 123 (0, 0)), (c.tk, machObj 113 c.t c.s v.p.nx v.p.sl v.p.wd v.p.tw)] :: R).flatten := by
    simp only [List.flatten_cons, alG, machG, hg, gvL, List.cons_append, List.nil_append]
    refine List.Perm.append_left m ?_
    exact ((List.Perm.swap _ _ _).cons _).trans (List.Perm.swap _ _ _)
  exact ⟨fun h => h.flat e, fun h => h.flat e.symm⟩
end Go.Proofs.Ytpebepjfgnoaaaa
