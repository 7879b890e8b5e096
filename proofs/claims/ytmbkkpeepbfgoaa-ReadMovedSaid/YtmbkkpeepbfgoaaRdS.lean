/- The walk of read's Step. -/
import Derived.RegionTactic
import Derived.BigRegion
import Derived.Deep.RegionHeld3
import Derived.Outline
import Derived.Deep.DeepCutAuto
import Derived.Test.YtmbkkpeepbfgoaaRdW
namespace Go.Proofs.Ytmbkkpeepbfgoaa
set_option linter.unusedVariables false
set_option linter.unusedSimpArgs false
open Go.RowKit
def RdPost (B : Nat) (W : World) (G : List Grp) (i j x p bw bb : Nat) (ws bs : List Int) (t s sl ge : Int) (st : Bool) (off : Int) (r : RdS × (Int × Int) × Bool) (e : Ending) (w' : World) : Prop :=
  e = .returned (resV r.2.1 r.2.2) ∧ ∃ m, Owns B W w' ((G.set i (memG p bw bb ws bs m)).set j (rdG x t s sl ge st off r.1))
set_option maxRecDepth 100000 in
set_option maxHeartbeats 8000000 in
theorem read_Step_end {B : Nat} {W w : World} {G : List Grp} (i j : Nat) {x p bw bb : Nat} {ws bs : List Int} {n t s sl ge : Int} {st : Bool} {off : Int} {o g pp u : Int} {l a : Bool} {code nn : Int} (hne : i ≠ j) (hO : Owns B W w G) (hi : G[i]? = some (memG p bw bb ws bs n)) (hL : lOk t s) (hl : ws.length ≤ 4096) (hj : G[j]? = some (rdG x t s sl ge st off ⟨0, o, g, pp, u, l, a, code, nn⟩)) :
    Calls Try.prog 19 #[.pointer (some ⟨x, 0, none⟩), memI p] w (RdPost B W G i j x p bw bb ws bs t s sl ge st off (rdStep t s sl ge st off ws bs ⟨0, o, g, pp, u, l, a, code, nn⟩)) := by
  have c6 : w.cell? ⟨x, 6, none⟩ = some (.int .i64 0) := rd_cell hO hj 6
  have hz := hO.lt j 0 hj rfl
  have Q := Lib.hid (show rdStep t s sl ge st off ws bs ⟨0, o, g, pp, u, l, a, code, nn⟩ = (⟨0, o, g, pp, u, l, a, code, nn⟩, (1, 0), true) from rfl)
  have _u := And.intro hL hl
  have hs : (G.set i (memG p bw bb ws bs n)).set j (rdG x t s sl ge st off ⟨0, o, g, pp, u, l, a, code, nn⟩) = G := by rw [set_same hi, set_same hj]
  have HS := Lib.hid hs
  clear hs
  go_enter Try.func19, Try.ntmps19
  unfold memI at *
  go_wp2
  exact bodyPost_ret (v := .tuple #[.agg #[.int .i64 1, .int .i64 0], .bool true]) (by simp [results, Try.results19, go_sem]) rfl ⟨by rw [Q.out]; rfl, n, by rw [Q.out, HS.out]; exact hO.via (by (repeat' (first | (with_reducible exact Below.refl _ _) | (with_reducible assumption) | (with_reducible refine below_drewN ?_ _) | (with_reducible refine Below.drew ?_) | (with_reducible refine Below.alloc ?_ ?_ _) | (with_reducible refine Below.setCell ?_ ?_ _) | (with_reducible refine below_via (by assumption) ?_ ?_) | go_size)))⟩
theorem res_set2 {B : Nat} {W w : World} {G : List Grp} {b : Nat} {T : TypeId} {a0 a1 : Value} (h : Owns B W w ([(b, .cells #[a0, a1] T (0, 0))] :: G)) (v0 v1 : Value) :
    Owns B W ((w.setCell ⟨b, 0, none⟩ v0).setCell ⟨b, 1, none⟩ v1) ([(b, .cells #[v0, v1] T (0, 0))] :: G) := by
  have h0 : Owns B W _ ([(b, .cells #[v0, a1] T (0, 0))] :: G) := h.set 0 0 rfl rfl 0 v0
  exact h0.set 0 0 rfl rfl 1 v1
section
variable {B : Nat} {W w : World} {G : List Grp} {j x : Nat} {t s sl ge : Int} {st : Bool} {off : Int} {q : RdS} (h : Owns B W w G) (hj : G[j]? = some (rdG x t s sl ge st off q))
include h hj
theorem rd_set (k : Nat) (v : Value) (q' : RdS) (hq : (#[.int .i64 t, .int .i64 s, .int .i64 sl, .int .i64 ge, .bool st, .int .i64 off, .int .i64 q.nx, .int .i64 q.o, .int .i64 q.g, .int .i64 q.p, .int .i64 q.u, .bool q.l, .bool q.a, .int .i64 q.code, .int .i64 q.n] : Array Value).setIfInBounds k v = #[.int .i64 t, .int .i64 s, .int .i64 sl, .int .i64 ge, .bool st, .int .i64 off, .int .i64 q'.nx, .int .i64 q'.o, .int .i64 q'.g, .int .i64 q'.p, .int .i64 q'.u, .bool q'.l, .bool q'.a, .int .i64 q'.code, .int .i64 q'.n]) :
    Owns B W (w.setCell ⟨x, k, none⟩ v) (G.set j (rdG x t s sl ge st off q')) := by
  have := h.set j 0 hj rfl k v
  rw [hq] at this; exact this
theorem rd_look7 (vo vg vp vu : Int) (vl va : Bool) (vn : Int) :
    Owns B W (((((((w.setCell ⟨x, 7, none⟩ (.int .i64 vo)).setCell ⟨x, 8, none⟩ (.int .i64 vg)).setCell ⟨x, 9, none⟩ (.int .i64 vp)).setCell ⟨x, 10, none⟩ (.int .i64 vu)).setCell ⟨x, 11, none⟩ (.bool vl)).setCell ⟨x, 12, none⟩ (.bool va)).setCell ⟨x, 6, none⟩ (.int .i64 vn)) (G.set j (rdG x t s sl ge st off ⟨vn, vo, vg, vp, vu, vl, va, q.code, q.n⟩)) := by
  have h1 := rd_set h hj 7 (.int .i64 vo) { q with o := vo } rfl
  have h2 := rd_set h1 (set_get hj _) 8 (.int .i64 vg) { q with o := vo, g := vg } rfl
  have h3 := rd_set h2 (set_get (set_get hj _) _) 9 (.int .i64 vp) { q with o := vo, g := vg, p := vp } rfl
  simp only [List.set_set] at h3
  have h4 := rd_set h3 (set_get hj _) 10 (.int .i64 vu) { q with o := vo, g := vg, p := vp, u := vu } rfl
  have h5 := rd_set h4 (set_get (set_get hj _) _) 11 (.bool vl) { q with o := vo, g := vg, p := vp, u := vu, l := vl } rfl
  simp only [List.set_set] at h5
  have h6 := rd_set h5 (set_get hj _) 12 (.bool va) { q with o := vo, g := vg, p := vp, u := vu, l := vl, a := va } rfl
  have h7 := rd_set h6 (set_get (set_get hj _) _) 6 (.int .i64 vn) ⟨vn, vo, vg, vp, vu, vl, va, q.code, q.n⟩ rfl
  simp only [List.set_set] at h7
  exact h7
end
set_option maxRecDepth 100000 in
set_option maxHeartbeats 8000000 in
theorem read_Step_stale {B : Nat} {W w : World} {G : List Grp} (i j : Nat) {x p bw bb : Nat} {ws bs : List Int} {n t s sl ge : Int} {st : Bool} {off : Int} {o g pp u : Int} {l a : Bool} {code nn : Int} (hne : i ≠ j) (hO : Owns B W w G) (hi : G[i]? = some (memG p bw bb ws bs n)) (hL : lOk t s) (hl : ws.length ≤ 4096) (hj : G[j]? = some (rdG x t s sl ge true off ⟨1, o, g, pp, u, l, a, code, nn⟩)) :
    Calls Try.prog 19 #[.pointer (some ⟨x, 0, none⟩), memI p] w (RdPost B W G i j x p bw bb ws bs t s sl ge true off (rdStep t s sl ge true off ws bs ⟨1, o, g, pp, u, l, a, code, nn⟩)) := by
  have c6 : w.cell? ⟨x, 6, none⟩ = some (.int .i64 1) := rd_cell hO hj 6
  have c4 : w.cell? ⟨x, 4, none⟩ = some (.bool true) := rd_cell hO hj 4
  have hz := hO.lt j 0 hj rfl
  have Q := Lib.hid (show rdStep t s sl ge true off ws bs ⟨1, o, g, pp, u, l, a, code, nn⟩ = (⟨0, o, g, pp, u, l, a, code, nn⟩, (4, 0), true) from rfl)
  have _u := And.intro hL hl
  have HS := Lib.hid (set_same hi)
  have hO1 := hO.alloc (.cells #[.int .i64 0, .int .i64 0] 37); have hi1 := (show ([(w.heap.size, Obj.cells #[Value.int .i64 0, .int .i64 0] 37 (0, 0))] :: G)[i + 1]? = G[i]? from rfl).trans hi; have hj1 := (show ([(w.heap.size, Obj.cells #[Value.int .i64 0, .int .i64 0] 37 (0, 0))] :: G)[j + 1]? = G[j]? from rfl).trans hj; have hj2 := fun m => (show ([(w.heap.size, Obj.cells #[Value.int .i64 0, .int .i64 0] 37 (0, 0))] :: G.set i (memG p bw bb ws bs m))[j + 1]? = (G.set i (memG p bw bb ws bs m))[j]? from rfl).trans (set_get_ne hj hne _); have hne1 : i + 1 ≠ j + 1 := (by omega)
  go_enter Try.func19, Try.ntmps19
  unfold memI at *
  go_wp2_with (go_at_call 45; refine (read_end (j + 1) 4 0 hO1 hj1).mono ?_; simp only [resV]; rintro e w2 ⟨rfl, hO'⟩; have hO := hO'; (try simp only [List.set_cons_succ] at hO); have rz := hO.lt 0 0 rfl rfl; have rd0 : _ = some (Value.int .i64 0) := hO.cell 0 0 rfl rfl 0; have rd1 : _ = some (Value.int .i64 0) := hO.cell 0 0 rfl rfl 1; have rf0 := blk_free (hO.get 0 0 rfl rfl) 0; have rf1 := blk_free (hO.get 0 0 rfl rfl) 1)
  have hO4 := res_set2 hO (.int .i64 4) (.int .i64 0); generalize World.setCell (World.setCell _ _ _) _ _ = w9 at hO4 ⊢; have e0 := hO4.cell 0 0 rfl rfl 0; have e1 := hO4.cell 0 0 rfl rfl 1
  exact bodyPost_ret (v := .tuple #[.agg #[.int .i64 4, .int .i64 0], .bool true]) (by simp [results, Try.results19, go_sem, e0, e1]) rfl ⟨by rw [Q.out]; rfl, n, by rw [Q.out, HS.out]; exact hO4.tail⟩
set_option maxRecDepth 100000 in
set_option maxHeartbeats 8000000 in
theorem read_Step_look {B : Nat} {W w : World} {G : List Grp} (i j : Nat) {x p bw bb : Nat} {ws bs : List Int} {n t s sl ge : Int} {st : Bool} {off : Int} {o g pp u : Int} {l a : Bool} {code nn : Int} (hne : i ≠ j) (hO : Owns B W w G) (hi : G[i]? = some (memG p bw bb ws bs n)) (hL : lOk t s) (hl : ws.length ≤ 4096) (hj : G[j]? = some (rdG x t s sl ge false off ⟨1, o, g, pp, u, l, a, code, nn⟩)) :
    Calls Try.prog 19 #[.pointer (some ⟨x, 0, none⟩), memI p] w (RdPost B W G i j x p bw bb ws bs t s sl ge false off (rdStep t s sl ge false off ws bs ⟨1, o, g, pp, u, l, a, code, nn⟩)) := by
  have c6 : w.cell? ⟨x, 6, none⟩ = some (.int .i64 1) := rd_cell hO hj 6
  have c4 : w.cell? ⟨x, 4, none⟩ = some (.bool false) := rd_cell hO hj 4
  have hz := hO.lt j 0 hj rfl
  obtain ⟨v, hv⟩ : ∃ v, wAt ws (lOf t s sl 0) = v := ⟨_, rfl⟩
  have HV := Lib.hid hv
  obtain ⟨bf, hbf⟩ : ∃ b, fresh v ge = b := ⟨_, rfl⟩
  have HBF := Lib.hid hbf
  obtain ⟨bl, hbl⟩ : ∃ b, uL v = b := ⟨_, rfl⟩
  have HBL := Lib.hid hbl
  have HL := Lib.hid hL
  have Q := Lib.hid (show rdStep t s sl ge false off ws bs ⟨1, o, g, pp, u, l, a, code, nn⟩ = (if bf = true then (if bl = true then (⟨1, o, g, pp, u, l, a, code, nn⟩, (0, 0), false) else (⟨2, uO v, uG v, uP v, uU v, bl, uA v, code, nn⟩, (0, 0), false)) else (⟨0, o, g, pp, u, l, a, code, nn⟩, (4, 0), true)) by
    unfold rdStep
    simp only [hv, hbf, hbl, if_true, if_false, reduceCtorEq, if_neg (by decide : ¬ (1 : Int) = 0)])
  clear hv hbf hbl hL
  have hO1 := hO.alloc (.cells #[.int .i64 0, .int .i64 0] 37); have hi1 := (show ([(w.heap.size, Obj.cells #[Value.int .i64 0, .int .i64 0] 37 (0, 0))] :: G)[i + 1]? = G[i]? from rfl).trans hi; have hj1 := (show ([(w.heap.size, Obj.cells #[Value.int .i64 0, .int .i64 0] 37 (0, 0))] :: G)[j + 1]? = G[j]? from rfl).trans hj; have hj2 := fun m => (show ([(w.heap.size, Obj.cells #[Value.int .i64 0, .int .i64 0] 37 (0, 0))] :: G.set i (memG p bw bb ws bs m))[j + 1]? = (G.set i (memG p bw bb ws bs m))[j]? from rfl).trans (set_get_ne hj hne _); have hne1 : i + 1 ≠ j + 1 := (by omega)
  cases bf
  case false =>
    go_enter Try.func19, Try.ntmps19
    unfold memI at *
    go_wp2_with first
      | (go_at_call 46; refine (read_load (i + 1) (j + 1) hne1 hO1 hi1 hj1 HL.out hl).mono ?_; rw [HV.out, HBF.out]; rintro e w2 ⟨rfl, m, hO'⟩; have hO := hO'; (try simp only [List.set_cons_succ] at hO); have rz := hO.lt 0 0 rfl rfl; have rd0 : _ = some (Value.int .i64 0) := hO.cell 0 0 rfl rfl 0; have rd1 : _ = some (Value.int .i64 0) := hO.cell 0 0 rfl rfl 1; have rf0 := blk_free (hO.get 0 0 rfl rfl) 0; have rf1 := blk_free (hO.get 0 0 rfl rfl) 1)
      | (go_at_call 45; refine (read_end (j + 1) 4 0 (hO.via (below_alloc _ _)) (hj2 _)).mono ?_; simp only [resV]; rintro e w3 ⟨rfl, hO'⟩; have hO := hO'; (try simp only [List.set_cons_succ] at hO); have rz := hO.lt 0 0 rfl rfl; have rd0 : _ = some (Value.int .i64 0) := hO.cell 0 0 rfl rfl 0; have rd1 : _ = some (Value.int .i64 0) := hO.cell 0 0 rfl rfl 1; have rf0 := blk_free (hO.get 0 0 rfl rfl) 0; have rf1 := blk_free (hO.get 0 0 rfl rfl) 1)
    have hO4 := res_set2 hO (.int .i64 4) (.int .i64 0); generalize World.setCell (World.setCell _ _ _) _ _ = w9 at hO4 ⊢; have e0 := hO4.cell 0 0 rfl rfl 0; have e1 := hO4.cell 0 0 rfl rfl 1
    exact bodyPost_ret (v := .tuple #[.agg #[.int .i64 4, .int .i64 0], .bool true]) (by simp [results, Try.results19, go_sem, e0, e1]) rfl ⟨by rw [Q.out]; rfl, m, by rw [Q.out]; exact hO4.tail⟩
  case true =>
    cases bl
    case true =>
      go_enter Try.func19, Try.ntmps19
      unfold memI at *
      go_wp2_with (go_at_call 46; refine (read_load (i + 1) (j + 1) hne1 hO1 hi1 hj1 HL.out hl).mono ?_; rw [HV.out, HBF.out, HBL.out]; rintro e w2 ⟨rfl, m, hO'⟩; have hO := hO'; (try simp only [List.set_cons_succ] at hO); have rz := hO.lt 0 0 rfl rfl; have rd0 : _ = some (Value.int .i64 0) := hO.cell 0 0 rfl rfl 0; have rd1 : _ = some (Value.int .i64 0) := hO.cell 0 0 rfl rfl 1; have rf0 := blk_free (hO.get 0 0 rfl rfl) 0; have rf1 := blk_free (hO.get 0 0 rfl rfl) 1)
      have hO4 := (res_set2 hO (.int .i64 0) (.int .i64 0)).via (below_alloc _ (.cells #[.int .i64 (uO v), .int .i64 (uG v), .int .i64 (uP v), .int .i64 (uU v), .bool true, .bool (uA v)] 91))
      generalize World.alloc _ _ = w9 at hO4 ⊢
      have e0 := hO4.cell 0 0 rfl rfl 0
      have e1 := hO4.cell 0 0 rfl rfl 1
      exact bodyPost_ret (v := .tuple #[.agg #[.int .i64 0, .int .i64 0], .bool false]) (by simp [results, Try.results19, go_sem, e0, e1]) rfl ⟨by rw [Q.out]; rfl, m, by rw [Q.out]; have h9 := hO4.tail; have hs := set_same (set_get_ne hj hne (memG p bw bb ws bs m)); exact Eq.mpr (congrArg (Owns B W w9) hs) h9⟩
    case false =>
      go_enter Try.func19, Try.ntmps19
      unfold memI at *
      go_upto_region 11 with (go_at_call 46; refine (read_load (i + 1) (j + 1) hne1 hO1 hi1 hj1 HL.out hl).mono ?_; rw [HV.out, HBF.out, HBL.out]; rintro e w2 ⟨rfl, m, hO'⟩; have hO := hO'; (try simp only [List.set_cons_succ] at hO))
      have hO := hO.alloc (.cells #[.int .i64 (uO v), .int .i64 (uG v), .int .i64 (uP v), .int .i64 (uU v), .bool false, .bool (uA v)] 91)
      generalize w2.heap.size = eb at hO ⊢
      generalize w2.alloc _ = w3 at hO ⊢
      have hj3 := (show (G.set i (memG p bw bb ws bs m))[j]? = _ from set_get_ne hj hne _)
      have eg := hO.get 0 0 rfl rfl
      have e0 : _ = some (Value.int .i64 (uO v)) := blk_cell eg 0
      have e1 : _ = some (Value.int .i64 (uG v)) := blk_cell eg 1
      have e2 : _ = some (Value.int .i64 (uP v)) := blk_cell eg 2
      have e3 : _ = some (Value.int .i64 (uU v)) := blk_cell eg 3
      have e4 : _ = some (Value.bool false) := blk_cell eg 4
      have e5 : _ = some (Value.bool (uA v)) := blk_cell eg 5
      have xg := hO.get (j + 2) 0 hj3 rfl
      have y6 := blk_free xg 6
      have y7 := blk_free xg 7
      have y8 := blk_free xg 8
      have y9 := blk_free xg 9
      have y10 := blk_free xg 10
      have y11 := blk_free xg 11
      have y12 := blk_free xg 12
      have x6 : _ = some (Value.int .i64 1) := blk_cell xg 6
      have x7 : _ = some (Value.int .i64 o) := blk_cell xg 7
      have x8 : _ = some (Value.int .i64 g) := blk_cell xg 8
      have x9 : _ = some (Value.int .i64 pp) := blk_cell xg 9
      have x10 : _ = some (Value.int .i64 u) := blk_cell xg 10
      have x11 : _ = some (Value.bool l) := blk_cell xg 11
      have x12 : _ = some (Value.bool a) := blk_cell xg 12
      have HO := Lib.hid hO
      clear hO' hO1 hj1 hj2 hi1 xg eg c4 c6 hz
      go_upto_region 24 with fail
      have hO5 := rd_look7 (j := j + 2) HO.out hj3 (uO v) (uG v) (uP v) (uU v) false (uA v) 2
      generalize (((((((World.setCell _ _ _).setCell _ _).setCell _ _).setCell _ _).setCell _ _).setCell _ _).setCell _ _) = w8 at hO5 ⊢
      simp only [List.set_cons_succ] at hO5
      have hO := hO5.tail
      have rz := hO.lt 0 0 rfl rfl; have rd0 : _ = some (Value.int .i64 0) := hO.cell 0 0 rfl rfl 0; have rd1 : _ = some (Value.int .i64 0) := hO.cell 0 0 rfl rfl 1; have rf0 := blk_free (hO.get 0 0 rfl rfl) 0; have rf1 := blk_free (hO.get 0 0 rfl rfl) 1
      have HO5 := Lib.hid hO
      clear hO5 HO e0 e1 e2 e3 e4 e5 x6 x7 x8 x9 x10 x11 x12 y6 y7 y8 y9 y10 y11 y12 hO
      go_wp2_with fail
      have hO4 := (res_set2 HO5.out (.int .i64 0) (.int .i64 0))
      generalize World.setCell (World.setCell _ _ _) _ _ = w9 at hO4 ⊢
      have e0 := hO4.cell 0 0 rfl rfl 0
      have e1 := hO4.cell 0 0 rfl rfl 1
      exact bodyPost_ret (v := .tuple #[.agg #[.int .i64 0, .int .i64 0], .bool false]) (by simp [results, Try.results19, go_sem, e0, e1]) rfl ⟨by rw [Q.out]; rfl, m, by rw [Q.out]; exact hO4.tail⟩
set_option maxRecDepth 100000 in
set_option maxHeartbeats 8000000 in
theorem read_Step_measure {B : Nat} {W w : World} {G : List Grp} (i j : Nat) {x p bw bb : Nat} {ws bs : List Int} {n t s sl ge : Int} {st : Bool} {off : Int} {o g pp u : Int} {l a : Bool} {code nn : Int} (hne : i ≠ j) (hO : Owns B W w G) (hi : G[i]? = some (memG p bw bb ws bs n)) (hL : lOk t s) (hl : ws.length ≤ 4096) (hj : G[j]? = some (rdG x t s sl ge st off ⟨2, o, g, pp, u, l, a, code, nn⟩)) :
    Calls Try.prog 19 #[.pointer (some ⟨x, 0, none⟩), memI p] w (RdPost B W G i j x p bw bb ws bs t s sl ge st off (rdStep t s sl ge st off ws bs ⟨2, o, g, pp, u, l, a, code, nn⟩)) := by
  have c6 : w.cell? ⟨x, 6, none⟩ = some (.int .i64 2) := rd_cell hO hj 6
  have c13 : w.cell? ⟨x, 13, none⟩ = some (.int .i64 code) := rd_cell hO hj 13
  have c14 : w.cell? ⟨x, 14, none⟩ = some (.int .i64 nn) := rd_cell hO hj 14
  have y6 := rd_free hO hj 6
  have y13 := rd_free hO hj 13
  have y14 := rd_free hO hj 14
  have hz := hO.lt j 0 hj rfl
  have ns := nil_Load (some ⟨p, 0, none⟩)
  obtain ⟨v, hv⟩ : ∃ v, wAt ws (lOf t s sl 1) = v := ⟨_, rfl⟩
  obtain ⟨ov, ho⟩ : ∃ v, lOf t s sl 1 = v := ⟨_, rfl⟩
  have Q := Lib.hid (show rdStep t s sl ge st off ws bs ⟨2, o, g, pp, u, l, a, code, nn⟩ = (if off < 0 ∨ v ≤ off then (⟨4, o, g, pp, u, l, a, 5, 0⟩, (0, 0), false) else (⟨3, o, g, pp, u, l, a, 0, 0⟩, (0, 0), false)) by
    unfold rdStep
    simp only [hv, if_true, if_neg (by decide : ¬ (2 : Int) = 0), if_neg (by decide : ¬ (2 : Int) = 1)])
  rw [ho] at hv
  have HOF := Lib.hid ho
  have HV := Lib.hid hv
  have HL := Lib.hid hL
  clear hv ho hL
  have h1 := rd_set hO hj 13 (.int .i64 0) ⟨2, o, g, pp, u, l, a, 0, nn⟩ rfl
  have h2 := rd_set h1 (set_get hj _) 14 (.int .i64 0) ⟨2, o, g, pp, u, l, a, 0, 0⟩ rfl
  have h3 := rd_set h2 (set_get (set_get hj _) _) 6 (.int .i64 3) ⟨3, o, g, pp, u, l, a, 0, 0⟩ rfl
  simp only [List.set_set] at h3
  have hO1 := h3.alloc (.cells #[.int .i64 0, .int .i64 0] 37)
  clear h1 h2 h3
  have hjj := set_get hj (rdG x t s sl ge st off ⟨3, o, g, pp, u, l, a, 0, 0⟩)
  have hii := set_get_ne hi (Ne.symm hne) (rdG x t s sl ge st off ⟨3, o, g, pp, u, l, a, 0, 0⟩)
  have key : ∀ (b1 b2 : Bool) (R : RdS × (Int × Int) × Bool), decide (off < 0) = b1 → decide (v ≤ off) = b2 → Hid (R = if (b1 || b2) = true then (⟨4, o, g, pp, u, l, a, 5, 0⟩, (0, 0), false) else (⟨3, o, g, pp, u, l, a, 0, 0⟩, (0, 0), false)) → Calls Try.prog 19 #[.pointer (some ⟨x, 0, none⟩), memI p] w (RdPost B W G i j x p bw bb ws bs t s sl ge st off R) := by
    intro b1 b2 R hb1 hb2 HR
    go_enter Try.func19, Try.ntmps19
    unfold memI at *
    go_upto_region 14 with fail
    simp only [World.size_setCell] at hO1
    generalize World.alloc (((World.setCell _ _ _).setCell _ _).setCell _ _) _ = w1 at hO1 ⊢
    generalize w.heap.size = rb at hO1 ⊢
    have hj3 := fun m => set_get_ne hjj hne (memG p bw bb ws bs m)
    have hj4 : ∀ m, ([(rb, Obj.cells #[Value.int .i64 0, .int .i64 0] 37 (0, 0))] :: (G.set j (rdG x t s sl ge st off ⟨3, o, g, pp, u, l, a, 0, 0⟩)).set i (memG p bw bb ws bs m))[j + 1]? = some (rdG x t s sl ge st off ⟨3, o, g, pp, u, l, a, 0, 0⟩) := hj3
    have hO := hO1.drew
    have c0 : _ = some (Value.int .i64 t) := hO.cell (j + 1) 0 hjj rfl 0
    have c1 : _ = some (Value.int .i64 s) := hO.cell (j + 1) 0 hjj rfl 1
    have c2 : _ = some (Value.int .i64 sl) := hO.cell (j + 1) 0 hjj rfl 2
    first
      | go_loud (go_region_held3 (fun w => w.cell? ⟨x, 0, none⟩ = some (.int .i64 t) ∧ w.cell? ⟨x, 1, none⟩ = some (.int .i64 s) ∧ w.cell? ⟨x, 2, none⟩ = some (.int .i64 sl)) (exact ⟨c0, c1, c2⟩) (first | (go_at_call 47; refine (layout_Size _ _ _ _ HL.out).mono ?_; rw [HOF.out]; rintro e w7 ⟨rfl, hb⟩; have hO := hO.via hb; have c0 := cell_below hb c0; have c1 := cell_below hb c1; have c2 := cell_below hb c2) | (go_at_call 32; refine (plain_Load (i + 1) _ hO hii hl).mono ?_; rw [HV.out]; rintro e w7 ⟨rfl, hO'⟩; have hO := hO'; have c0 : _ = some (Value.int .i64 t) := hO.cell (j + 1) 0 (hj3 _) rfl 0; have c1 : _ = some (Value.int .i64 s) := hO.cell (j + 1) 0 (hj3 _) rfl 1; have c2 : _ = some (Value.int .i64 sl) := hO.cell (j + 1) 0 (hj3 _) rfl 2)))
      | fail "size"
    all_goals
      simp only [List.set_cons_succ] at hO
      have xg := hO.get (j + 1) 0 (hj3 _) rfl
      have x5 : _ = some (Value.int .i64 off) := blk_cell xg 5
      have x6 : _ = some (Value.int .i64 3) := blk_cell xg 6
      have x13 : _ = some (Value.int .i64 0) := blk_cell xg 13
      have x14 : _ = some (Value.int .i64 0) := blk_cell xg 14
      have y6 := blk_free xg 6
      have y13 := blk_free xg 13
      have y14 := blk_free xg 14
      have xz := blk_lt xg
      have HO := Lib.hid hO
      clear hO xg c0 c1 c2 hO' hO1
      cases b1
      case false =>
        cases b2
        case false =>
          go_upto_region 24 with fail
          have hO := HO.out
          have rz := hO.lt 0 0 rfl rfl; have rd0 : _ = some (Value.int .i64 0) := hO.cell 0 0 rfl rfl 0; have rd1 : _ = some (Value.int .i64 0) := hO.cell 0 0 rfl rfl 1; have rf0 := blk_free (hO.get 0 0 rfl rfl) 0; have rf1 := blk_free (hO.get 0 0 rfl rfl) 1
          have HO5 := Lib.hid hO
          clear hO HO x5 x6 x13 x14 y6 y13 y14
          go_wp2_with fail; have hO4 := (res_set2 HO5.out (.int .i64 0) (.int .i64 0)); generalize World.setCell (World.setCell _ _ _) _ _ = w9 at hO4 ⊢; have e0 := hO4.cell 0 0 rfl rfl 0; have e1 := hO4.cell 0 0 rfl rfl 1; exact bodyPost_ret (v := .tuple #[.agg #[.int .i64 0, .int .i64 0], .bool false]) (by simp [results, Try.results19, go_sem, e0, e1]) rfl ⟨by rw [HR.out]; rfl, wrap64 (n + 1), by rw [HR.out]; have h9 := hO4.tail; rw [List.set_comm _ _ hne]; first | exact h9 | (rw [List.set_comm _ _ hne, List.set_set] at h9; exact h9)⟩
        case true =>
          go_upto_region 24 with fail
          have h1 := rd_set HO.out (hj4 _) 13 (.int .i64 5) ⟨3, o, g, pp, u, l, a, 5, 0⟩ rfl; have h2 := rd_set h1 (set_get (hj4 _) _) 14 (.int .i64 0) ⟨3, o, g, pp, u, l, a, 5, 0⟩ rfl; have h3 := rd_set h2 (set_get (set_get (hj4 _) _) _) 6 (.int .i64 4) ⟨4, o, g, pp, u, l, a, 5, 0⟩ rfl; simp only [List.set_set, List.set_cons_succ] at h3; generalize ((World.setCell _ _ _).setCell _ _).setCell _ _ = w8 at h3 ⊢; have hO := h3; have rz := hO.lt 0 0 rfl rfl; have rd0 : _ = some (Value.int .i64 0) := hO.cell 0 0 rfl rfl 0; have rd1 : _ = some (Value.int .i64 0) := hO.cell 0 0 rfl rfl 1; have rf0 := blk_free (hO.get 0 0 rfl rfl) 0; have rf1 := blk_free (hO.get 0 0 rfl rfl) 1; have HO5 := Lib.hid hO; clear hO HO h1 h2 h3 x5 x6 x13 x14 y6 y13 y14
          go_wp2_with fail; have hO4 := (res_set2 HO5.out (.int .i64 0) (.int .i64 0)); generalize World.setCell (World.setCell _ _ _) _ _ = w9 at hO4 ⊢; have e0 := hO4.cell 0 0 rfl rfl 0; have e1 := hO4.cell 0 0 rfl rfl 1; exact bodyPost_ret (v := .tuple #[.agg #[.int .i64 0, .int .i64 0], .bool false]) (by simp [results, Try.results19, go_sem, e0, e1]) rfl ⟨by rw [HR.out]; rfl, wrap64 (n + 1), by rw [HR.out]; have h9 := hO4.tail; rw [List.set_comm _ _ hne]; first | exact h9 | (rw [List.set_comm _ _ hne, List.set_set] at h9; exact h9)⟩
      case true =>
        cases b2
        all_goals
          go_upto_region 24 with fail
          have h1 := rd_set HO.out (hj4 _) 13 (.int .i64 5) ⟨3, o, g, pp, u, l, a, 5, 0⟩ rfl; have h2 := rd_set h1 (set_get (hj4 _) _) 14 (.int .i64 0) ⟨3, o, g, pp, u, l, a, 5, 0⟩ rfl; have h3 := rd_set h2 (set_get (set_get (hj4 _) _) _) 6 (.int .i64 4) ⟨4, o, g, pp, u, l, a, 5, 0⟩ rfl; simp only [List.set_set, List.set_cons_succ] at h3; generalize ((World.setCell _ _ _).setCell _ _).setCell _ _ = w8 at h3 ⊢; have hO := h3; have rz := hO.lt 0 0 rfl rfl; have rd0 : _ = some (Value.int .i64 0) := hO.cell 0 0 rfl rfl 0; have rd1 : _ = some (Value.int .i64 0) := hO.cell 0 0 rfl rfl 1; have rf0 := blk_free (hO.get 0 0 rfl rfl) 0; have rf1 := blk_free (hO.get 0 0 rfl rfl) 1; have HO5 := Lib.hid hO; clear hO HO h1 h2 h3 x5 x6 x13 x14 y6 y13 y14
          go_wp2_with fail; have hO4 := (res_set2 HO5.out (.int .i64 0) (.int .i64 0)); generalize World.setCell (World.setCell _ _ _) _ _ = w9 at hO4 ⊢; have e0 := hO4.cell 0 0 rfl rfl 0; have e1 := hO4.cell 0 0 rfl rfl 1; exact bodyPost_ret (v := .tuple #[.agg #[.int .i64 0, .int .i64 0], .bool false]) (by simp [results, Try.results19, go_sem, e0, e1]) rfl ⟨by rw [HR.out]; rfl, wrap64 (n + 1), by rw [HR.out]; have h9 := hO4.tail; rw [List.set_comm _ _ hne]; first | exact h9 | (rw [List.set_comm _ _ hne, List.set_set] at h9; exact h9)⟩
  rw [Q.out]
  refine key _ _ _ rfl rfl (Lib.hid ?_)
  by_cases h1 : off < 0
  · simp [h1]
  · by_cases h2 : v ≤ off <;> simp [h1, h2]
end Go.Proofs.Ytmbkkpeepbfgoaa
