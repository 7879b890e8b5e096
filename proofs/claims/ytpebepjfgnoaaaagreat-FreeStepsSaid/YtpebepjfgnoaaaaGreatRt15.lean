/- The reference's free machine (sidingsref15): end, first. -/
import Derived.RegionTactic
import Derived.BigRegion
import Derived.Deep.RegionHeld3
import Derived.Outline
import Derived.Deep.DeepCutAuto
import Derived.Deep.QuietTactic
import Derived.BigQuiet
import Derived.Test.YtpebepjfgnoaaaaGreatRt10c
import Derived.Test.YtpebepjfgnoaaaaGreatRf12
import Derived.Test.YtpebepjfgnoaaaaGreatFrP
namespace Go.Proofs.YtpebepjfgnoaaaaGreat
set_option linter.unusedVariables false
set_option linter.unusedSimpArgs false
open Go.RowKit
structure RfC where
  a : Int
  s : Int
  t : Int
  h : Int
  gp : Nat
structure RfV where
  nx : Int
  wd : Int
  gv : Option StV
def rfArr (c : RfC) (v : RfV) : Array Value := #[.int .i64 c.a, .int .i64 c.s, .int .i64 c.t, .int .i64 c.h, .int .i64 v.nx, .int .i64 v.wd, gvPtr c.gp v.gv]
def rfL (c : RfC) : Option StV → Grp
  | none => []
  | some g => rmG c.gp c.a c.s c.t true g.sl g.nx g.wd g.tw
def rfG (x : Nat) (c : RfC) (v : RfV) : Grp := (x, .cells (rfArr c v) 78 (0, 0)) :: rfL c v.gv
section
variable {B : Nat} {W w : World} {G : List Grp} {j x : Nat} {c : RfC} {v : RfV} (h : Owns B W w G) (hj : G[j]? = some (rfG x c v))
include h hj
theorem rf_cells : w.cell? ⟨x, 0, none⟩ = some (.int .i64 c.a) ∧ w.cell? ⟨x, 1, none⟩ = some (.int .i64 c.s) ∧ w.cell? ⟨x, 2, none⟩ = some (.int .i64 c.t) ∧ w.cell? ⟨x, 3, none⟩ = some (.int .i64 c.h) ∧ w.cell? ⟨x, 4, none⟩ = some (.int .i64 v.nx) ∧ w.cell? ⟨x, 5, none⟩ = some (.int .i64 v.wd) ∧ x < w.heap.size ∧ (∀ o, w.frozen? ⟨x, o, none⟩ = false) :=
  ⟨h.cell j 0 hj rfl 0, h.cell j 0 hj rfl 1, h.cell j 0 hj rfl 2, h.cell j 0 hj rfl 3, h.cell j 0 hj rfl 4, h.cell j 0 hj rfl 5, h.lt j 0 hj rfl, blk_free (h.get j 0 hj rfl)⟩
theorem rf_set (k : Nat) (u : Value) (v' : RfV) (hg : v'.gv = v.gv) (hq : (rfArr c v).setIfInBounds k u = rfArr c v') : Owns B W (w.setCell ⟨x, k, none⟩ u) (G.set j (rfG x c v')) := by
  have h1 := h.set j 0 hj rfl k u
  rw [hq] at h1
  have e : (rfG x c v).set 0 (x, Obj.cells (rfArr c v') 78 (0, 0)) = rfG x c v' := by unfold rfG; rw [hg]; rfl
  rw [e] at h1
  exact h1
end
set_option maxRecDepth 100000 in
set_option maxHeartbeats 2000000 in
theorem ref15_end {B : Nat} {W w : World} {G : List Grp} (j : Nat) {x : Nat} {c : RfC} {v : RfV} (e : Int) (hO : Owns B W w G) (hj : G[j]? = some (rfG x c v)) :
    Calls Tryz.prog 34 #[.pointer (some ⟨x, 0, none⟩), .int .i64 e] w fun r w' => r = .returned (resV (e, 0) true) ∧ Owns B W w' (G.set j (rfG x c { v with nx := 0 })) := by
  go_enter Tryz.func34, Tryz.ntmps34
  have hO1 := hO.alloc (.cells #[.int .i64 0, .int .i64 0] 43)
  have hj1 : ([(w.heap.size, Obj.cells #[.int .i64 0, .int .i64 0] 43 (0, 0))] :: G)[j + 1]? = some (rfG x c v) := by simpa using hj
  obtain ⟨c0, c1, c2, c3, c4, c5, cz, cf⟩ := rf_cells hO1 hj1
  have hf := cf 4
  have hne := hO1.ne_out 0 (j + 1) 0 0 rfl hj1 rfl rfl (by omega)
  go_upto_region 2 with fail
  have hO2 := rf_set hO1 hj1 4 (.int .i64 0) { v with nx := 0 } rfl rfl
  rw [List.set_cons_succ] at hO2
  generalize World.setCell _ _ _ = w3 at hO2 ⊢
  clear c0 c1 c2 c3 c4 c5 cz cf
  clear hf hj1 hO1 hO
  generalize hrb : w.heap.size = rb at hO2 ⊢
  have d0 : _ = some (Value.int .i64 0) := hO2.cell 0 0 rfl rfl 0
  have d1 : _ = some (Value.int .i64 0) := hO2.cell 0 0 rfl rfl 1
  have df := blk_free (hO2.get 0 0 rfl rfl) 0
  have dg := blk_free (hO2.get 0 0 rfl rfl) 1
  go_wp2
  have hO4 := res_set2 hO2 (.int .i64 e) (.int .i64 0)
  generalize World.setCell (World.setCell _ _ _) _ _ = w4 at hO4 ⊢
  have e0 : _ = some (Value.int .i64 e) := hO4.cell 0 0 rfl rfl 0
  have e1 : _ = some (Value.int .i64 0) := hO4.cell 0 0 rfl rfl 1
  exact bodyPost_ret (v := .tuple #[.agg #[.int .i64 e, .int .i64 0], .bool true]) (by simp [results, Tryz.results34, go_sem, e0, e1]) rfl ⟨rfl, hO4.tail⟩
end Go.Proofs.YtpebepjfgnoaaaaGreat
