/- The reference's free machine (sidingsref15): second. -/
import Derived.RegionTactic
import Derived.BigRegion
import Derived.Deep.RegionHeld3
import Derived.Outline
import Derived.Deep.DeepCutAuto
import Derived.Deep.QuietTactic
import Derived.BigQuiet
import Derived.Test.YtpebepjfgnoaaaaGreatRt15b
import Derived.Test.YtpebepjfgnoaaaaGreatEnR3
import Derived.Test.YtpebepjfgnoaaaaGreatRt02n
namespace Go.Proofs.YtpebepjfgnoaaaaGreat
set_option linter.unusedVariables false
set_option linter.unusedSimpArgs false
open Go.RowKit
theorem rown3 {B : Nat} {W w : World} {x y z : Grp} {R : List Grp} (h : Owns B W w (x :: y :: z :: R)) : Owns B W w (z :: x :: y :: R) := h.perm (List.perm_middle (l₁ := [x, y]))
theorem rown14 {B : Nat} {W w : World} {a r m f : Grp} {R : List Grp} (h : Owns B W w (a :: r :: m :: f :: R)) : Owns B W w (a :: m :: f :: r :: R) := h.perm (List.Perm.cons a (List.perm_middle (l₁ := [m, f])).symm)
theorem rf_gv {B : Nat} {W w : World} {R : List Grp} {m : Grp} {x y : Nat} {c : RfC} {v : RfV} (g : StV) (hv : v.gv = none) (h : Owns B W w (rmG y c.a c.s c.t true g.sl g.nx g.wd g.tw :: m :: rfG x c v :: R)) :
    Owns B W (w.setCell ⟨x, 6, none⟩ (.pointer (some ⟨y, 0, none⟩))) (m :: rfG x { c with gp := y } { v with gv := some g } :: R) := by
  have h1 := h.set 2 0 rfl rfl 6 (.pointer (some ⟨y, 0, none⟩))
  refine h1.flat ?_
  simp only [List.set_cons_zero, List.set_cons_succ, List.flatten_cons, rfG, rfL, rmG, hv, List.cons_append, List.nil_append]
  refine List.Perm.trans List.perm_middle.symm (List.Perm.append_left m ?_)
  exact List.Perm.swap _ _ _
structure RfR where
  ws : List Int
  v : RfV
  code : Int
  done : Bool
def RfPost (B : Nat) (W : World) (R0 : List Grp) (x p bw : Nat) (bv : Value) (c : RfC) (q : RfR) (e : Ending) (w' : World) : Prop :=
  e = .returned (resV (q.code, 0) q.done) ∧ ∃ m y, Owns B W w' (kG p bw q.ws bv m :: rfG x { c with gp := y } q.v :: R0)
set_option maxRecDepth 100000 in
set_option maxHeartbeats 8000000 in
theorem ref15_second {B : Nat} {W w : World} {R0 : List Grp} {x p bw : Nat} {ws : List Int} {bv : Value} {n : Int} {c : RfC} {v : RfV} (at' sl : Int) (hP : Owns B W w (kG p bw ws bv n :: rfG x c v :: R0)) (hl : ws.length ≤ 4096) (hg : v.gv = none) (b : Bool) (hb : wCas ws at' v.wd = b) (q : RfR)
    (hq : q = if b = true then (if eNextMore v.wd = true then ⟨wCasPut ws at' v.wd (eNext v.wd).1, { v with nx := 3, gv := some ⟨1, sl, 0, 0⟩ }, 0, false⟩ else ⟨wCasPut ws at' v.wd (eNext v.wd).1, { v with nx := 0 }, 0, true⟩) else ⟨ws, { v with nx := 1 }, 0, false⟩) :
    Calls Tryz.prog 37 #[.pointer (some ⟨x, 0, none⟩), .pointer (some ⟨p, 0, none⟩), .int .i64 at', .int .i64 sl] w (RfPost B W R0 x p bw bv c q) := by
  obtain ⟨mo, hmo⟩ : ∃ m, eNextMore v.wd = m := ⟨_, rfl⟩
  obtain ⟨to', hto⟩ : ∃ m, (eNext v.wd).1 = m := ⟨_, rfl⟩
  have HQ := Lib.hid (show q = if b = true then (if mo = true then ⟨wCasPut ws at' v.wd to', { v with nx := 3, gv := some ⟨1, sl, 0, 0⟩ }, 0, false⟩ else ⟨wCasPut ws at' v.wd to', { v with nx := 0 }, 0, true⟩) else ⟨ws, { v with nx := 1 }, 0, false⟩ by rw [hq, hmo, hto])
  have HN := Lib.hid (And.intro hmo hto)
  have HB := Lib.hid hb
  have HG := Lib.hid hg
  clear hq hmo hto hb hg
  have hO' := hP.alloc (.cells #[.int .i64 0, .int .i64 0] 43)
  go_enter Tryz.func37, Tryz.ntmps37
  go_upto_region 1 with fail
  clear hP; have hP := hO'; clear hO'
  generalize w.alloc (.cells #[.int .i64 0, .int .i64 0] 43) = w1 at hP ⊢
  generalize w.heap.size = rb at hP ⊢
  obtain ⟨c0, c1, c2, c3, c4, c5, cz, cf⟩ := rf_cells (j := 2) hP rfl
  go_wp2_with fail
  refine (ref02_Next _ _).mono ?_
  rw [HN.out.1, HN.out.2]
  rintro e w2 ⟨rfl, hb⟩; have hO' := hP.via hb; clear hP; have hP := hO'; clear hO'; clear hb
  clear c0 c1 c2 c3 c4 c5 cz cf; obtain ⟨c0, c1, c2, c3, c4, c5, cz, cf⟩ := rf_cells (j := 2) hP rfl
  go_wp2_with fail
  refine (ref05_Cas 1 _ _ _ hP rfl hl).mono ?_; rw [HB.out]; rintro e w3 ⟨rfl, hO'⟩; clear hP; have hP := hO'; clear hO'; (try simp only [List.set_cons_zero, List.set_cons_succ] at hP)
  clear c0 c1 c2 c3 c4 c5 cz cf; obtain ⟨c0, c1, c2, c3, c4, c5, cz, cf⟩ := rf_cells (j := 2) hP rfl
  cases b
  case false =>
    have e : q = ⟨ws, { v with nx := 1 }, 0, false⟩ := HQ.out
    subst e
    have hC : wCasPut ws at' v.wd to' = ws := by unfold wCasPut; rw [HB.out]; rfl
    rw [hC] at hP
    have y4 := cf 4
    go_upto_region 4 with fail
    have hO' := rf_set (j := 2) hP rfl 4 (.int .i64 1) { v with nx := 1 } rfl rfl; clear hP; have hP := hO'; clear hO'; (try simp only [List.set_cons_zero, List.set_cons_succ] at hP)
    generalize World.setCell _ _ _ = w6 at hP ⊢
    clear y4
    clear c0 c1 c2 c3 c4 c5 cz cf
    have rz := hP.lt 0 0 rfl rfl; have rd0 : _ = some (Value.int .i64 0) := hP.cell 0 0 rfl rfl 0; have rd1 : _ = some (Value.int .i64 0) := hP.cell 0 0 rfl rfl 1; have rf0 := blk_free (hP.get 0 0 rfl rfl) 0; have rf1 := blk_free (hP.get 0 0 rfl rfl) 1
    go_wp2_with fail; generalize hw : World.setCell (World.setCell _ _ _) _ _ = wz; have hO4 : Owns B W wz _ := hw ▸ res_set2 hP (.int .i64 0) (.int .i64 0); clear hw; have e0 := hO4.cell 0 0 rfl rfl 0; have e1 := hO4.cell 0 0 rfl rfl 1; exact bodyPost_ret (v := .tuple #[.agg #[.int .i64 0, .int .i64 0], .bool false]) (by simp [results, Tryz.results37, go_sem, e0, e1]) rfl ⟨rfl, _, c.gp, hO4.tail⟩
  case true =>
    cases mo
    case false =>
      have e : q = ⟨wCasPut ws at' v.wd to', { v with nx := 0 }, 0, true⟩ := HQ.out
      subst e
      clear c0 c1 c2 c3 c4 c5 cz cf
      go_wp2_with (go_at_call 34; refine (ref15_end 2 0 hP rfl).mono ?_; simp only [resV]; rintro e w6 ⟨rfl, hO'⟩; clear hP; have hP := hO'; clear hO'; (try simp only [List.set_cons_zero, List.set_cons_succ] at hP); have rz := hP.lt 0 0 rfl rfl; have rd0 : _ = some (Value.int .i64 0) := hP.cell 0 0 rfl rfl 0; have rd1 : _ = some (Value.int .i64 0) := hP.cell 0 0 rfl rfl 1; have rf0 := blk_free (hP.get 0 0 rfl rfl) 0; have rf1 := blk_free (hP.get 0 0 rfl rfl) 1)
      go_wp2_with fail; generalize hw : World.setCell (World.setCell _ _ _) _ _ = wz; have hO4 : Owns B W wz _ := hw ▸ res_set2 hP (.int .i64 0) (.int .i64 0); clear hw; have e0 := hO4.cell 0 0 rfl rfl 0; have e1 := hO4.cell 0 0 rfl rfl 1; exact bodyPost_ret (v := .tuple #[.agg #[.int .i64 0, .int .i64 0], .bool true]) (by simp [results, Tryz.results37, go_sem, e0, e1]) rfl ⟨rfl, _, c.gp, hO4.tail⟩
    case true =>
      have e : q = ⟨wCasPut ws at' v.wd to', { v with nx := 3, gv := some ⟨1, sl, 0, 0⟩ }, 0, false⟩ := HQ.out
      subst e
      go_wp2_with fail
      refine (ref10_New _ _ _ _ _ hP).mono ?_; rintro e w7 ⟨y, rfl, hO'⟩; clear hP; have hP := hO'; clear hO'
      clear c0 c1 c2 c3 c4 c5 cz cf; obtain ⟨c0, c1, c2, c3, c4, c5, cz, cf⟩ := rf_cells (j := 3) hP rfl
      have y6 := cf 6
      have y4 := cf 4
      have k6 := hP.cell 3 0 rfl rfl 6
      go_upto_region 9 with fail
      have hO' := rown14 hP; clear hP; have hP := hO'; clear hO'
      have hO' := rf_gv (c := c) (v := v) ⟨1, sl, 0, 0⟩ HG.out hP; clear hP; have hP := hO'; clear hO'
      have hO' := rf_set (j := 1) hP rfl 4 (.int .i64 3) { v with nx := 3, gv := some ⟨1, sl, 0, 0⟩ } rfl rfl; clear hP; have hP := hO'; clear hO'; (try simp only [List.set_cons_zero, List.set_cons_succ] at hP)
      clear y6 y4 k6
      clear c0 c1 c2 c3 c4 c5 cz cf
      have hO' := rown3 hP; clear hP; have hP := hO'; clear hO'
      generalize World.setCell (World.setCell _ _ _) _ _ = w8 at hP ⊢
      have rz := hP.lt 0 0 rfl rfl; have rd0 : _ = some (Value.int .i64 0) := hP.cell 0 0 rfl rfl 0; have rd1 : _ = some (Value.int .i64 0) := hP.cell 0 0 rfl rfl 1; have rf0 := blk_free (hP.get 0 0 rfl rfl) 0; have rf1 := blk_free (hP.get 0 0 rfl rfl) 1
      go_wp2_with fail; generalize hw : World.setCell (World.setCell _ _ _) _ _ = wz; have hO4 : Owns B W wz _ := hw ▸ res_set2 hP (.int .i64 0) (.int .i64 0); clear hw; have e0 := hO4.cell 0 0 rfl rfl 0; have e1 := hO4.cell 0 0 rfl rfl 1; exact bodyPost_ret (v := .tuple #[.agg #[.int .i64 0, .int .i64 0], .bool false]) (by simp [results, Tryz.results37, go_sem, e0, e1]) rfl ⟨rfl, _, y, hO4.tail⟩
end Go.Proofs.YtpebepjfgnoaaaaGreat
