/- The reference's free machine (sidingsref15): first. -/
import Derived.RegionTactic
import Derived.BigRegion
import Derived.Deep.RegionHeld3
import Derived.Outline
import Derived.Deep.DeepCutAuto
import Derived.Deep.QuietTactic
import Derived.BigQuiet
import Derived.Test.YtpebepjfgnoaaaaGreatRt15
namespace Go.Proofs.YtpebepjfgnoaaaaGreat
set_option linter.unusedVariables false
set_option linter.unusedSimpArgs false
open Go.RowKit
def rfLook (ge x : Int) (v : RfV) : RfV × Int × Bool :=
  if fresh x ge = true then
    (if 0 < uP x then ({ v with wd := x, nx := 0 }, 6, true)
     else if (uU x == 0 && !uL x) = true then ({ v with wd := x, nx := 2 }, 0, false)
     else ({ v with wd := x }, 0, false))
  else ({ v with wd := x, nx := 0 }, 4, true)
def RfLook (B : Nat) (W : World) (R0 : List Grp) (x p bw : Nat) (ws : List Int) (bv : Value) (c : RfC) (r : RfV × Int × Bool) (e : Ending) (w' : World) : Prop :=
  e = .returned (resV (r.2.1, 0) r.2.2) ∧ ∃ m, Owns B W w' (kG p bw ws bv m :: rfG x c r.1 :: R0)
set_option maxRecDepth 100000 in
set_option maxHeartbeats 8000000 in
theorem ref15_first {B : Nat} {W w : World} {R0 : List Grp} {x p bw : Nat} {ws : List Int} {bv : Value} {n : Int} {c : RfC} {v : RfV} (ge at' : Int) (hP : Owns B W w (kG p bw ws bv n :: rfG x c v :: R0)) (hl : ws.length ≤ 4096) (u : Int) (hu : wAt ws at' = u) (R : RfV × Int × Bool) (HR : Hid (R = rfLook ge u v)) :
    Calls Tryz.prog 36 #[.pointer (some ⟨x, 0, none⟩), .pointer (some ⟨p, 0, none⟩), .int .i64 at', .int .i64 ge] w (RfLook B W R0 x p bw ws bv c R) := by
  have HV := Lib.hid hu
  clear hu
  obtain ⟨F, hF⟩ : ∃ F, fresh u ge = F := ⟨_, rfl⟩
  obtain ⟨kL, hkL⟩ : ∃ k, uL u = k := ⟨_, rfl⟩
  obtain ⟨kP, hkP⟩ : ∃ k, uP u = k := ⟨_, rfl⟩
  obtain ⟨kU, hkU⟩ : ∃ k, uU u = k := ⟨_, rfl⟩
  obtain ⟨b4, hb4⟩ : ∃ b, decide (0 < kP) = b := ⟨_, rfl⟩
  obtain ⟨b5, hb5⟩ : ∃ b, (kU == 0) = b := ⟨_, rfl⟩
  have HQ := Lib.hid (show R = if F = true then (if b4 = true then ({ v with wd := u, nx := 0 }, 6, true) else if (b5 && !kL) = true then ({ v with wd := u, nx := 2 }, 0, false) else ({ v with wd := u }, 0, false)) else ({ v with wd := u, nx := 0 }, 4, true) by
    rw [HR.out]; unfold rfLook; rw [hF, hkP, hkU, hkL, hb5, ← hb4]; simp only [decide_eq_true_eq])
  have HF := Lib.hid hF
  have HK := Lib.hid (And.intro hkL (And.intro hkP hkU))
  clear hF hkL hkP hkU HR
  have hO' := hP.alloc (.cells #[.int .i64 0, .int .i64 0] 43)
  go_enter Tryz.func36, Tryz.ntmps36
  go_wp2_with fail
  clear hP; have hP := hO'; clear hO'
  generalize w.alloc (.cells #[.int .i64 0, .int .i64 0] 43) = w1 at hP ⊢
  generalize w.heap.size = rb at hP ⊢
  refine (ref05_Load 1 _ hP rfl hl).mono ?_; rw [HV.out]; rintro e w2 ⟨rfl, hO'⟩; clear hP; have hP := hO'; clear hO'; (try simp only [List.set_cons_zero, List.set_cons_succ] at hP)
  obtain ⟨c0, c1, c2, c3, c4, c5, cz, cf⟩ := rf_cells (j := 2) hP rfl
  have y5 := cf 5
  go_upto_region 2 with fail
  have hO' := rf_set (j := 2) hP rfl 5 (.int .i64 u) { v with wd := u } rfl rfl; clear hP; have hP := hO'; clear hO'; (try simp only [List.set_cons_zero, List.set_cons_succ] at hP)
  generalize World.setCell w2 _ _ = w3 at hP ⊢
  clear y5
  clear c0 c1 c2 c3 c4 c5 cz cf; obtain ⟨c0, c1, c2, c3, c4, c5, cz, cf⟩ := rf_cells (j := 2) hP rfl
  go_upto_region 3 with (go_at_call 59; refine (ref12_Fresh _ _ _).mono ?_; rw [HF.out, HK.out.1, HK.out.2.1, HK.out.2.2]; rintro e w4 ⟨rfl, hb⟩)
  have hO' := (hP.via hb).alloc (.cells #[.int .i64 (uO u), .int .i64 (uG u), .int .i64 kP, .int .i64 kU, .bool kL, .bool (uA u)] 114); clear hP; have hP := hO'; clear hO'
  generalize w4.alloc _ = w5 at hP ⊢
  generalize w4.heap.size = eb at hP ⊢
  clear hb
  clear c0 c1 c2 c3 c4 c5 cz cf
  cases F
  case false =>
    have e : R = ({ v with wd := u, nx := 0 }, 4, true) := HQ.out
    subst e
    have hO' := hP.tail; clear hP; have hP := hO'; clear hO'
    go_wp2_with (go_at_call 34; refine (ref15_end 2 4 hP rfl).mono ?_; simp only [resV]; rintro e w6 ⟨rfl, hO'⟩; clear hP; have hP := hO'; clear hO'; (try simp only [List.set_cons_zero, List.set_cons_succ] at hP); have rz := hP.lt 0 0 rfl rfl; have rd0 : _ = some (Value.int .i64 0) := hP.cell 0 0 rfl rfl 0; have rd1 : _ = some (Value.int .i64 0) := hP.cell 0 0 rfl rfl 1; have rf0 := blk_free (hP.get 0 0 rfl rfl) 0; have rf1 := blk_free (hP.get 0 0 rfl rfl) 1)
    go_wp2_with fail; generalize hw : World.setCell (World.setCell _ _ _) _ _ = wz; have hO4 : Owns B W wz _ := hw ▸ res_set2 hP (.int .i64 4) (.int .i64 0); clear hw; have e0 := hO4.cell 0 0 rfl rfl 0; have e1 := hO4.cell 0 0 rfl rfl 1; exact bodyPost_ret (v := .tuple #[.agg #[.int .i64 4, .int .i64 0], .bool true]) (by simp [results, Tryz.results36, go_sem, e0, e1]) rfl ⟨rfl, _, hO4.tail⟩
  case true =>
    have g2 : w5.cell? ⟨eb, 2, none⟩ = some (.int .i64 kP) := hP.cell 0 0 rfl rfl 2
    have g3 : w5.cell? ⟨eb, 3, none⟩ = some (.int .i64 kU) := hP.cell 0 0 rfl rfl 3
    have g4 : w5.cell? ⟨eb, 4, none⟩ = some (.bool kL) := hP.cell 0 0 rfl rfl 4
    have hO' := hP.tail; clear hP; have hP := hO'; clear hO'
    cases b4
    case true =>
      have e : R = ({ v with wd := u, nx := 0 }, 6, true) := HQ.out
      subst e
      go_wp2_with (go_at_call 34; refine (ref15_end 2 6 hP rfl).mono ?_; simp only [resV]; rintro e w6 ⟨rfl, hO'⟩; clear hP; have hP := hO'; clear hO'; (try simp only [List.set_cons_zero, List.set_cons_succ] at hP); clear g2 g3 g4; have rz := hP.lt 0 0 rfl rfl; have rd0 : _ = some (Value.int .i64 0) := hP.cell 0 0 rfl rfl 0; have rd1 : _ = some (Value.int .i64 0) := hP.cell 0 0 rfl rfl 1; have rf0 := blk_free (hP.get 0 0 rfl rfl) 0; have rf1 := blk_free (hP.get 0 0 rfl rfl) 1)
      go_wp2_with fail; generalize hw : World.setCell (World.setCell _ _ _) _ _ = wz; have hO4 : Owns B W wz _ := hw ▸ res_set2 hP (.int .i64 6) (.int .i64 0); clear hw; have e0 := hO4.cell 0 0 rfl rfl 0; have e1 := hO4.cell 0 0 rfl rfl 1; exact bodyPost_ret (v := .tuple #[.agg #[.int .i64 6, .int .i64 0], .bool true]) (by simp [results, Tryz.results36, go_sem, e0, e1]) rfl ⟨rfl, _, hO4.tail⟩
    case false =>
      cases b5 <;> cases kL
      case true.false =>
        have e : R = ({ v with wd := u, nx := 2 }, 0, false) := HQ.out
        subst e
        obtain ⟨c0, c1, c2, c3, c4, c5, cz, cf⟩ := rf_cells (j := 2) hP rfl
        have y4 := cf 4
        go_upto_region 9 with fail
        have hO' := rf_set (j := 2) hP rfl 4 (.int .i64 2) { v with wd := u, nx := 2 } rfl rfl; clear hP; have hP := hO'; clear hO'; (try simp only [List.set_cons_zero, List.set_cons_succ] at hP)
        generalize World.setCell _ _ _ = w6 at hP ⊢
        clear y4 g2 g3 g4
        clear c0 c1 c2 c3 c4 c5 cz cf
        have rz := hP.lt 0 0 rfl rfl; have rd0 : _ = some (Value.int .i64 0) := hP.cell 0 0 rfl rfl 0; have rd1 : _ = some (Value.int .i64 0) := hP.cell 0 0 rfl rfl 1; have rf0 := blk_free (hP.get 0 0 rfl rfl) 0; have rf1 := blk_free (hP.get 0 0 rfl rfl) 1
        go_wp2_with fail; generalize hw : World.setCell (World.setCell _ _ _) _ _ = wz; have hO4 : Owns B W wz _ := hw ▸ res_set2 hP (.int .i64 0) (.int .i64 0); clear hw; have e0 := hO4.cell 0 0 rfl rfl 0; have e1 := hO4.cell 0 0 rfl rfl 1; exact bodyPost_ret (v := .tuple #[.agg #[.int .i64 0, .int .i64 0], .bool false]) (by simp [results, Tryz.results36, go_sem, e0, e1]) rfl ⟨rfl, _, hO4.tail⟩
      all_goals
        have e : R = ({ v with wd := u }, 0, false) := HQ.out
        subst e
        go_upto_region 9 with fail
        clear g2 g3 g4
        have rz := hP.lt 0 0 rfl rfl; have rd0 : _ = some (Value.int .i64 0) := hP.cell 0 0 rfl rfl 0; have rd1 : _ = some (Value.int .i64 0) := hP.cell 0 0 rfl rfl 1; have rf0 := blk_free (hP.get 0 0 rfl rfl) 0; have rf1 := blk_free (hP.get 0 0 rfl rfl) 1
        go_wp2_with fail; generalize hw : World.setCell (World.setCell _ _ _) _ _ = wz; have hO4 : Owns B W wz _ := hw ▸ res_set2 hP (.int .i64 0) (.int .i64 0); clear hw; have e0 := hO4.cell 0 0 rfl rfl 0; have e1 := hO4.cell 0 0 rfl rfl 1; exact bodyPost_ret (v := .tuple #[.agg #[.int .i64 0, .int .i64 0], .bool false]) (by simp [results, Tryz.results36, go_sem, e0, e1]) rfl ⟨rfl, _, hO4.tail⟩
end Go.Proofs.YtpebepjfgnoaaaaGreat
