/- The walks of pin's machine: none, look. -/
import Derived.RegionTactic
import Derived.BigRegion
import Derived.Deep.RegionHeld3
import Derived.Outline
import Derived.Deep.DeepCutAuto
import Derived.Test.YtmbkkpeepbfgoaaPnP
import Derived.Test.YtmbkkpeepbfgoaaMRun
namespace Go.Proofs.Ytmbkkpeepbfgoaa
set_option linter.unusedVariables false
set_option linter.unusedSimpArgs false
open Go.RowKit
theorem cell_below {w w' : World} {a : Addr} {v : Value} (hb : Below w.heap.size w w') (h : w.cell? a = some v) : w'.cell? a = some v := (hb.cell (World.block_lt_of_cell? _ _ h)).trans h
theorem res_set2 {B : Nat} {W w : World} {G : List Grp} {b : Nat} {T : TypeId} {a0 a1 : Value} (h : Owns B W w ([(b, .cells #[a0, a1] T (0, 0))] :: G)) (v0 v1 : Value) :
    Owns B W ((w.setCell ⟨b, 0, none⟩ v0).setCell ⟨b, 1, none⟩ v1) ([(b, .cells #[v0, v1] T (0, 0))] :: G) := by
  have h0 : Owns B W _ ([(b, .cells #[v0, a1] T (0, 0))] :: G) := h.set 0 0 rfl rfl 0 v0
  exact h0.set 0 0 rfl rfl 1 v1
set_option maxRecDepth 100000 in
theorem pin_nil (m : Value) (w : World) : Calls Try.prog 28 #[.pointer none, m] w fun e w' => e = .returned (resV (1, 0) true) ∧ Below w.heap.size w w' := by
  go_enter Try.func28, Try.ntmps28
  go_wp2
  exact bodyPost_ret (v := .tuple #[.agg #[.int .i64 1, .int .i64 0], .bool true]) (by simp [results, Try.results28, go_sem]) rfl ⟨rfl, by (repeat' (first | (with_reducible exact Below.refl _ _) | (with_reducible assumption) | (with_reducible refine below_drewN ?_ _) | (with_reducible refine Below.drew ?_) | (with_reducible refine Below.alloc ?_ ?_ _) | (with_reducible refine Below.setCell ?_ ?_ _) | (with_reducible refine below_via (by assumption) ?_ ?_) | go_size))⟩
set_option maxRecDepth 100000 in
theorem pin_none (a : Addr) (w : World) : Calls Try.prog 28 #[.pointer (some a), .nilIface] w fun e w' => e = .returned (resV (1, 0) true) ∧ Below w.heap.size w w' := by
  go_enter Try.func28, Try.ntmps28
  go_wp2
  exact bodyPost_ret (v := .tuple #[.agg #[.int .i64 1, .int .i64 0], .bool true]) (by simp [results, Try.results28, go_sem]) rfl ⟨rfl, by (repeat' (first | (with_reducible exact Below.refl _ _) | (with_reducible assumption) | (with_reducible refine below_drewN ?_ _) | (with_reducible refine Below.drew ?_) | (with_reducible refine Below.alloc ?_ ?_ _) | (with_reducible refine Below.setCell ?_ ?_ _) | (with_reducible refine below_via (by assumption) ?_ ?_) | go_size))⟩
set_option maxRecDepth 100000 in
set_option maxHeartbeats 8000000 in
theorem pin_look_stale {B : Nat} {W w : World} {G : List Grp} (i j : Nat) {x p bw bb : Nat} {ws bs : List Int} {n t s sl ge : Int} {un : Bool} {nx wd tw : Int} (hO : Owns B W w G) (hi : G[i]? = some (memG p bw bb ws bs n)) (hj : G[j]? = some (pnG x t s sl ge true un nx wd tw)) :
    Calls Try.prog 53 #[.pointer (some ⟨x, 0, none⟩), memI p] w fun e w' => e = .returned (resV (4, 0) true) ∧ Owns B W w' (G.set j (pnG x t s sl ge true un 0 wd tw)) := by
  obtain ⟨c0, c1, c2, c3, c4, c5, c6, c7, c8, c9⟩ := pn_cells hO hj
  have hz := hO.lt j 0 hj rfl
  have _u := hi
  have hO1 := hO.alloc (.cells #[.int .i64 0, .int .i64 0] 37)
  have hj1 := (show ([(w.heap.size, Obj.cells #[Value.int .i64 0, .int .i64 0] 37 (0, 0))] :: G)[j + 1]? = G[j]? from rfl).trans hj
  go_enter Try.func53, Try.ntmps53
  go_wp2_with (go_at_call 55; refine (pin_end (j + 1) 4 hO1 hj1).mono ?_; rintro e w2 ⟨rfl, hO'⟩; have hO := hO'; (try simp only [List.set_cons_succ] at hO); have rz := hO.lt 0 0 rfl rfl; have rd0 : _ = some (Value.int .i64 0) := hO.cell 0 0 rfl rfl 0; have rd1 : _ = some (Value.int .i64 0) := hO.cell 0 0 rfl rfl 1; have rf0 := blk_free (hO.get 0 0 rfl rfl) 0; have rf1 := blk_free (hO.get 0 0 rfl rfl) 1)
  have hO4 := res_set2 hO (.int .i64 4) (.int .i64 0)
  generalize World.setCell (World.setCell _ _ _) _ _ = w9 at hO4 ⊢
  have e0 := hO4.cell 0 0 rfl rfl 0
  have e1 := hO4.cell 0 0 rfl rfl 1
  exact bodyPost_ret (v := .tuple #[.agg #[.int .i64 4, .int .i64 0], .bool true]) (by simp [results, Try.results53, go_sem, e0, e1]) rfl ⟨rfl, hO4.tail⟩
end Go.Proofs.Ytmbkkpeepbfgoaa
