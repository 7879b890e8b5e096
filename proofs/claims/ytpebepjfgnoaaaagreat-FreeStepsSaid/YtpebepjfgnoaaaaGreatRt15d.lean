/- The reference's free machine (sidingsref15): Step, Gives, New. -/
import Derived.RegionTactic
import Derived.BigRegion
import Derived.Deep.RegionHeld3
import Derived.Outline
import Derived.Deep.DeepCutAuto
import Derived.Deep.QuietTactic
import Derived.BigQuiet
import Derived.Test.YtpebepjfgnoaaaaGreatRt15c
import Derived.Test.YtpebepjfgnoaaaaGreatHnW
import Derived.Test.YtpebepjfgnoaaaaGreatFrM
namespace Go.Proofs.YtpebepjfgnoaaaaGreat
set_option linter.unusedVariables false
set_option linter.unusedSimpArgs false
open Go.RowKit
theorem rf_open {B : Nat} {W w : World} {R : List Grp} {x1 : Nat × Obj} {rb k rg : Grp} (h : Owns B W w (rb :: k :: (x1 :: rg) :: R)) : Owns B W w (k :: rg :: rb :: [x1] :: R) := by
  have e : (x1 :: rg) = [x1] ++ rg := rfl
  rw [e] at h
  exact h.flat (by (classical exact List.perm_iff_count.2 (fun x => by simp only [List.flatten_cons, List.flatten_nil, List.count_append, List.append_nil]; omega)))
theorem rf_shut {B : Nat} {W w : World} {R : List Grp} {x1 : Nat × Obj} {rb k rg : Grp} (h : Owns B W w (k :: rg :: rb :: [x1] :: R)) : Owns B W w (rb :: k :: (x1 :: rg) :: R) := by
  have e : (x1 :: rg) = [x1] ++ rg := rfl
  rw [e]
  exact h.flat (by (classical exact List.perm_iff_count.2 (fun x => by simp only [List.flatten_cons, List.flatten_nil, List.count_append, List.append_nil]; omega)))
set_option maxRecDepth 100000 in
set_option maxHeartbeats 8000000 in
theorem ref15_Step_0 {B : Nat} {W w : World} {R0 : List Grp} {x p bw : Nat} {ws : List Int} {bv : Value} {n : Int} {c : RfC} {v : RfV} (hn : v.nx = 0) (hO : Owns B W w (kG p bw ws bv n :: rfG x c v :: R0)) :
    Calls Tryz.prog 11 #[.pointer (some ⟨x, 0, none⟩), .pointer (some ⟨p, 0, none⟩)] w (RfPost B W R0 x p bw bv c ⟨ws, v, 1, true⟩) := by
  have c5 : w.cell? ⟨x, 4, none⟩ = some (.int .i64 0) := by have := hO.cell 1 0 rfl rfl 4; rw [this]; unfold rfArr; rw [hn]; rfl
  have hz := hO.lt 1 0 rfl rfl
  clear hn
  go_enter Tryz.func11, Tryz.ntmps11
  go_wp2
  exact bodyPost_ret (v := .tuple #[.agg #[.int .i64 1, .int .i64 0], .bool true]) (by simp [results, Tryz.results11, go_sem]) rfl ⟨rfl, n, c.gp, hO.via (by (repeat' (first | (with_reducible exact Below.refl _ _) | (with_reducible assumption) | (with_reducible refine below_drewN ?_ _) | (with_reducible refine Below.drew ?_) | (with_reducible refine Below.alloc ?_ ?_ _) | (with_reducible refine Below.setCell ?_ ?_ _) | (with_reducible refine below_via (by assumption) ?_ ?_) | go_size)))⟩
set_option maxRecDepth 100000 in
set_option maxHeartbeats 8000000 in
theorem ref15_Step_key {B : Nat} {W w : World} {R0 : List Grp} {x p bw : Nat} {ws : List Int} {bv : Value} {n : Int} {c : RfC} {v : RfV} (hO : Owns B W w (kG p bw ws bv n :: rfG x c v :: R0)) (hl : ws.length ≤ 4096) (hc : cfgOk c.a c.s c.t = true) (lo : -9223372036854775808 ≤ c.h) (hi : c.h ≤ 9223372036854775807)
    (sl ge f : Int) (hf : hOf c.h c.s = (sl, ge, f)) (fb n1 n2 : Bool) (hfb : (f == 0) = fb) (hn0 : (v.nx == 0) = false) (hn1 : (v.nx == 1) = n1) (hn2 : (v.nx == 2) = n2) (q : RfR) (ov : Int) (ho : lOf c.t c.s sl 0 = ov)
    (H0 : fb = false → q = ⟨ws, { v with nx := 0 }, 4, true⟩)
    (H1 : fb = true → n1 = true → ∃ Rv Rc Rd, (Rv, Rc, Rd) = rfLook ge (wAt ws ov) v ∧ q = ⟨ws, Rv, Rc, Rd⟩)
    (H2 : n2 = true → v.gv = none ∧ q = if wCas ws ov v.wd = true then (if eNextMore v.wd = true then ⟨wCasPut ws ov v.wd (eNext v.wd).1, { v with nx := 3, gv := some ⟨1, sl, 0, 0⟩ }, 0, false⟩ else ⟨wCasPut ws ov v.wd (eNext v.wd).1, { v with nx := 0 }, 0, true⟩) else ⟨ws, { v with nx := 1 }, 0, false⟩)
    (H3 : fb = true → n1 = false → n2 = false → ∃ g r, v.gv = some g ∧ WOk ws ∧ g.wd ≤ 9223372036854775807 ∧ pushStep c.t c.s ws g.nx g.sl g.wd g.tw = r ∧ q = if r.done = true then ⟨r.ws, { v with nx := 0, gv := some ⟨r.nx, r.sl, r.wd, r.to⟩ }, 0, true⟩ else ⟨r.ws, { v with gv := some ⟨r.nx, r.sl, r.wd, r.to⟩ }, 0, false⟩) :
    Calls Tryz.prog 11 #[.pointer (some ⟨x, 0, none⟩), .pointer (some ⟨p, 0, none⟩)] w (RfPost B W R0 x p bw bv c q) := by
  have HF := Lib.hid hf
  have HH0 := Lib.hid H0
  have HH1 := Lib.hid H1
  have HH2 := Lib.hid H2
  have HH3 := Lib.hid H3
  have HAT := Lib.hid (show rAt c.a c.s c.t 5 sl = ov by unfold rAt; rw [if_pos hc, if_neg (by decide), if_neg (by decide)]; exact ho)
  have CK := Lib.hid hc
  have hfn : (f != 0) = !fb := by rw [← hfb]; rfl
  clear hf H0 H1 H2 H3 hc ho
  have hO1 := hO.alloc (.cells #[.int .i64 0, .int .i64 0] 43)
  obtain ⟨c0, c1, c2, c3, c4, c5, cz, cf⟩ := rf_cells (j := 1) hO rfl
  go_enter Tryz.func11, Tryz.ntmps11
  go_upto_region 3 with fail
  generalize w.alloc (.cells #[.int .i64 0, .int .i64 0] 43) = w1 at hO1 ⊢
  generalize w.heap.size = rb at hO1 ⊢
  clear c0 c1 c2 c3 c4 c5 cz cf
  clear hO
  have hP := hO1.drew
  clear hO1
  obtain ⟨c0, c1, c2, c3, c4, c5, cz, cf⟩ := rf_cells (j := 2) hP rfl
  first
    | go_loud (go_region_held3 (fun w => w.cell? ⟨x, 1, none⟩ = some (.int .i64 c.s) ∧ w.cell? ⟨x, 3, none⟩ = some (.int .i64 c.h)) (exact ⟨c1, c3⟩) ((go_at_call 33; refine (ref03_of _ _ _ lo hi).mono ?_; rw [HF.out]; rintro e w2 ⟨rfl, rfl⟩)))
    | fail "of"
  all_goals
    cases fb
    case false =>
      have e := HH0.out rfl
      subst e
      clear c0 c1 c2 c3 c4 c5 cz cf
      go_wp2_with (go_at_call 34; refine (ref15_end 2 4 hP rfl).mono ?_; simp only [resV]; rintro e w3 ⟨rfl, hO'⟩; clear hP; have hP := hO'; clear hO'; (try simp only [List.set_cons_zero, List.set_cons_succ] at hP); have rz := hP.lt 0 0 rfl rfl; have rd0 : _ = some (Value.int .i64 0) := hP.cell 0 0 rfl rfl 0; have rd1 : _ = some (Value.int .i64 0) := hP.cell 0 0 rfl rfl 1; have rf0 := blk_free (hP.get 0 0 rfl rfl) 0; have rf1 := blk_free (hP.get 0 0 rfl rfl) 1)
      go_wp2_with fail; generalize hw : World.setCell (World.setCell _ _ _) _ _ = wz; have hO4 : Owns B W wz _ := hw ▸ res_set2 hP (.int .i64 4) (.int .i64 0); clear hw; have e0 := hO4.cell 0 0 rfl rfl 0; have e1 := hO4.cell 0 0 rfl rfl 1; exact bodyPost_ret (v := .tuple #[.agg #[.int .i64 4, .int .i64 0], .bool true]) (by simp [results, Tryz.results11, go_sem, e0, e1]) rfl ⟨rfl, _, c.gp, hO4.tail⟩
    case true =>
      go_upto_region 7 with (go_at_call 35; refine (ref06_At _ _ _ _ _ _ (by omega) (by omega)).mono ?_; rw [HAT.out]; rintro e w3 ⟨rfl, hb⟩; have hO' := hP.via hb; clear hP; have hP := hO'; clear hO'; clear c0 c1 c2 c3 c4 c5 cz cf; obtain ⟨c0, c1, c2, c3, c4, c5, cz, cf⟩ := rf_cells (j := 2) hP rfl)
      cases n1
      case true =>
        obtain ⟨Rv, Rc, Rd, hR, e⟩ := HH1.out (by simp) (by simp)
        subst e
        have HR := Lib.hid hR
        clear hR HH0 HH1 HH2 HH3
        have hO1 := Owns.perm hP (List.perm_append_singleton _ (_ :: _ :: R0)).symm
        clear c0 c1 c2 c3 c4 c5 cz cf
        have c4 : _ = some (Value.int .i64 v.nx) := hP.cell 2 0 rfl rfl 4
        clear hP
        go_wp2_with (go_at_call 36; refine stop_here ?_)
        unfold Stop
        refine (ref15_first _ _ hO1 hl _ rfl _ HR).mono ?_
        rintro e w4 ⟨rfl, m, hO'⟩
        unfold resV
        dsimp only at hO' ⊢
        have hP := Owns.perm hO' (List.perm_append_singleton _ (_ :: _ :: R0))
        clear hO1 hO' c4
        have rz := hP.lt 0 0 rfl rfl; have rd0 : _ = some (Value.int .i64 0) := hP.cell 0 0 rfl rfl 0; have rd1 : _ = some (Value.int .i64 0) := hP.cell 0 0 rfl rfl 1; have rf0 := blk_free (hP.get 0 0 rfl rfl) 0; have rf1 := blk_free (hP.get 0 0 rfl rfl) 1
        go_wp2_with fail; generalize hw : World.setCell (World.setCell _ _ _) _ _ = wz; have hO4 : Owns B W wz _ := hw ▸ res_set2 hP (.int .i64 Rc) (.int .i64 0); clear hw; have e0 := hO4.cell 0 0 rfl rfl 0; have e1 := hO4.cell 0 0 rfl rfl 1; exact bodyPost_ret (v := .tuple #[.agg #[.int .i64 Rc, .int .i64 0], .bool Rd]) (by simp [results, Tryz.results11, go_sem, e0, e1]) rfl ⟨rfl, _, c.gp, hO4.tail⟩
      case false =>
        cases n2
        case true =>
          obtain ⟨hg, hq⟩ := HH2.out (by simp)
          have HG := Lib.hid hg
          have HQ := Lib.hid hq
          clear hg hq HH0 HH1 HH2 HH3
          have hO1 := Owns.perm hP (List.perm_append_singleton _ (_ :: _ :: R0)).symm
          clear c0 c1 c2 c3 c4 c5 cz cf
          have c4 : _ = some (Value.int .i64 v.nx) := hP.cell 2 0 rfl rfl 4
          clear hP
          go_wp2_with (go_at_call 37; refine stop_here ?_)
          unfold Stop
          refine (ref15_second _ _ hO1 hl HG.out _ rfl q HQ.out).mono ?_
          obtain ⟨qws, qv, qc, qd⟩ := q
          rintro e w4 ⟨rfl, m, y, hO'⟩
          unfold resV
          dsimp only at hO' ⊢
          have hP := Owns.perm hO' (List.perm_append_singleton _ (_ :: _ :: R0))
          clear hO1 hO' c4
          have rz := hP.lt 0 0 rfl rfl; have rd0 : _ = some (Value.int .i64 0) := hP.cell 0 0 rfl rfl 0; have rd1 : _ = some (Value.int .i64 0) := hP.cell 0 0 rfl rfl 1; have rf0 := blk_free (hP.get 0 0 rfl rfl) 0; have rf1 := blk_free (hP.get 0 0 rfl rfl) 1
          go_wp2_with fail; generalize hw : World.setCell (World.setCell _ _ _) _ _ = wz; have hO4 : Owns B W wz _ := hw ▸ res_set2 hP (.int .i64 qc) (.int .i64 0); clear hw; have e0 := hO4.cell 0 0 rfl rfl 0; have e1 := hO4.cell 0 0 rfl rfl 1; exact bodyPost_ret (v := .tuple #[.agg #[.int .i64 qc, .int .i64 0], .bool qd]) (by simp [results, Tryz.results11, go_sem, e0, e1]) rfl ⟨rfl, _, y, hO4.tail⟩
        case false =>
          obtain ⟨g, r, hg, hw, hgw, hr, hq⟩ := HH3.out (by simp) (by simp) (by simp)
          have HR := Lib.hid hr
          have HQ := Lib.hid hq
          clear hr hq HH0 HH1 HH2 HH3
          clear c0 c1 c2 c3 c4 c5 cz cf
          have c4 : _ = some (Value.int .i64 v.nx) := hP.cell 2 0 rfl rfl 4
          have c6 : _ = some (Value.pointer (some ⟨c.gp, 0, none⟩)) := (hP.cell 2 0 rfl rfl 6).trans (by unfold rfArr; rw [hg]; rfl)
          obtain ⟨vnx, vwd, vgv⟩ := v
          dsimp only at hg
          subst hg
          have hO1 := rf_open hP
          go_wp2_with (go_at_call 38; refine stop_here ?_)
          unfold Stop
          refine (ref10_Step hO1 CK.out hl hw hgw r (by rw [← HR.out]; rfl)).mono ?_
          obtain ⟨rws, rnx, rsl, rwd, rto, rr, re, rd⟩ := r
          unfold RmPost
          dsimp only
          rintro e w4 ⟨rfl, m, hO'⟩
          clear hP hO1 c4 c6
          have hP := rf_shut hO'
          clear hO'
          cases rd
          case true =>
            have e := show q = ⟨rws, ⟨0, vwd, some ⟨rnx, rsl, rwd, rto⟩⟩, 0, true⟩ from HQ.out
            subst e
            have hP : Owns B W w4 ([(rb, Obj.cells #[.int .i64 0, .int .i64 0] 43 (0, 0))] :: kG p bw rws bv m :: rfG x c ⟨vnx, vwd, some ⟨rnx, rsl, rwd, rto⟩⟩ :: R0) := hP
            go_wp2_with (go_at_call 34; refine (ref15_end 2 0 hP rfl).mono ?_; simp only [resV]; rintro e w3 ⟨rfl, hO'⟩; clear hP; have hP := hO'; clear hO'; (try simp only [List.set_cons_zero, List.set_cons_succ] at hP); have rz := hP.lt 0 0 rfl rfl; have rd0 : _ = some (Value.int .i64 0) := hP.cell 0 0 rfl rfl 0; have rd1 : _ = some (Value.int .i64 0) := hP.cell 0 0 rfl rfl 1; have rf0 := blk_free (hP.get 0 0 rfl rfl) 0; have rf1 := blk_free (hP.get 0 0 rfl rfl) 1)
            go_wp2_with fail; generalize hw : World.setCell (World.setCell _ _ _) _ _ = wz; have hO4 : Owns B W wz _ := hw ▸ res_set2 hP (.int .i64 0) (.int .i64 0); clear hw; have e0 := hO4.cell 0 0 rfl rfl 0; have e1 := hO4.cell 0 0 rfl rfl 1; exact bodyPost_ret (v := .tuple #[.agg #[.int .i64 0, .int .i64 0], .bool true]) (by simp [results, Tryz.results11, go_sem, e0, e1]) rfl ⟨rfl, _, c.gp, hO4.tail⟩
          case false =>
            have e := show q = ⟨rws, ⟨vnx, vwd, some ⟨rnx, rsl, rwd, rto⟩⟩, 0, false⟩ from HQ.out
            subst e
            have hP : Owns B W w4 ([(rb, Obj.cells #[.int .i64 0, .int .i64 0] 43 (0, 0))] :: kG p bw rws bv m :: rfG x c ⟨vnx, vwd, some ⟨rnx, rsl, rwd, rto⟩⟩ :: R0) := hP
            have rz := hP.lt 0 0 rfl rfl; have rd0 : _ = some (Value.int .i64 0) := hP.cell 0 0 rfl rfl 0; have rd1 : _ = some (Value.int .i64 0) := hP.cell 0 0 rfl rfl 1; have rf0 := blk_free (hP.get 0 0 rfl rfl) 0; have rf1 := blk_free (hP.get 0 0 rfl rfl) 1
            go_wp2_with fail; generalize hw : World.setCell (World.setCell _ _ _) _ _ = wz; have hO4 : Owns B W wz _ := hw ▸ res_set2 hP (.int .i64 0) (.int .i64 0); clear hw; have e0 := hO4.cell 0 0 rfl rfl 0; have e1 := hO4.cell 0 0 rfl rfl 1; exact bodyPost_ret (v := .tuple #[.agg #[.int .i64 0, .int .i64 0], .bool false]) (by simp [results, Tryz.results11, go_sem, e0, e1]) rfl ⟨rfl, _, c.gp, hO4.tail⟩
set_option maxRecDepth 100000 in
set_option maxHeartbeats 2000000 in
theorem ref15_Gives {B : Nat} {W w : World} {G : List Grp} (j : Nat) {x : Nat} {c : RfC} {v : RfV} (hO : Owns B W w G) (hj : G[j]? = some (rfG x c v)) (lo : -9223372036854775808 ≤ c.h) (hi : c.h ≤ 9223372036854775807) (r : Int) (b : Bool) (hb : (v.nx == 3) = b) (hr : r = if b = true then (hOf c.h c.s).1 else 0) :
    Calls Tryz.prog 13 #[.pointer (some ⟨x, 0, none⟩)] w fun e w' => e = .returned (.tuple #[.int .i64 r, .bool b]) ∧ Owns B W w' G := by
  have hbn : (v.nx != 3) = !b := by rw [← hb]; rfl
  obtain ⟨sl, ge, f, hf⟩ : ∃ sl ge f, hOf c.h c.s = (sl, ge, f) := ⟨_, _, _, rfl⟩
  have HF := Lib.hid hf
  rw [hf] at hr
  have HR := Lib.hid hr
  clear hf hb hr
  obtain ⟨c0, c1, c2, c3, c4, c5, cz, cf⟩ := rf_cells hO hj
  cases b
  · have e := show r = 0 from HR.out
    subst e
    go_enter Tryz.func13, Tryz.ntmps13
    go_wp2_with fail
    go_ret2
    exact ⟨rfl, hO⟩
  · have e := show r = sl from HR.out
    subst e
    go_enter Tryz.func13, Tryz.ntmps13
    go_upto_region 3 with fail
    clear c0 c1 c2 c3 c4 c5 cz cf
    have hP := hO.drew
    obtain ⟨c0, c1, c2, c3, c4, c5, cz, cf⟩ := rf_cells hP hj
    first
      | go_loud (go_region_held3 (fun w => w.cell? ⟨x, 1, none⟩ = some (.int .i64 c.s) ∧ w.cell? ⟨x, 3, none⟩ = some (.int .i64 c.h)) (exact ⟨c1, c3⟩) ((go_at_call 33; refine (ref03_of _ _ _ lo hi).mono ?_; rw [HF.out]; rintro e w2 ⟨rfl, rfl⟩)))
      | fail "of"
    all_goals
      go_wp2_with fail
      go_ret2
      exact ⟨rfl, hP⟩
set_option maxRecDepth 100000 in
set_option maxHeartbeats 2000000 in
theorem ref15_New {B : Nat} {W w : World} {G : List Grp} (a s t h : Int) (hc : cfgOk a s t = true) (hO : Owns B W w G) : Calls Tryz.prog 9 #[.agg #[.int .i64 a, .int .i64 s, .int .i64 t], .int .i64 h] w fun e w' =>
    ∃ x, e = .returned (.pointer (some ⟨x, 0, none⟩)) ∧ Owns B W w' (rfG x ⟨a, s, t, h, 0⟩ ⟨1, 0, none⟩ :: G) := by
  have HC := Lib.hid hc
  clear hc
  have hO1 := hO.alloc (.cells #[.int .i64 a, .int .i64 s, .int .i64 t] 23)
  go_enter Tryz.func9, Tryz.ntmps9
  go_upto_region 2 with fail
  have hO2 := hO1.alloc (.cells #[.int .i64 a, .int .i64 s, .int .i64 t, .int .i64 h, .int .i64 1, .int .i64 0, .pointer none] 78)
  simp only [World.size_alloc] at hO2
  generalize (World.alloc (World.alloc w _) _) = w1 at hO2 ⊢
  have a0 : _ = some (Value.int .i64 a) := hO2.cell 1 0 rfl rfl 0
  have a1 : _ = some (Value.int .i64 s) := hO2.cell 1 0 rfl rfl 1
  have a2 : _ = some (Value.int .i64 t) := hO2.cell 1 0 rfl rfl 2
  go_wp2_with (go_at_call 6; refine (ref06_May _ _ _ _).mono ?_; rw [HC.out]; rintro e w2 ⟨rfl, hb⟩)
  go_ret
  exact ⟨_, rfl, ((hO2.via hb).drop 1)⟩
end Go.Proofs.YtpebepjfgnoaaaaGreat
