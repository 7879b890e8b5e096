/- The reference's stack machine (sidingsref10): end, first, second, Step, New. -/
import Derived.RegionTactic
import Derived.BigRegion
import Derived.Deep.RegionHeld3
import Derived.Outline
import Derived.Deep.DeepCutAuto
import Derived.Deep.QuietTactic
import Derived.BigQuiet
import Derived.Test.YtpebepjfgnoaaaaRcS
import Derived.Test.YtpebepjfgnoaaaaHdR
import Derived.Test.YtpebepjfgnoaaaaStS
import Derived.Test.YtpebepjfgnoaaaaStU
import Derived.Test.YtpebepjfgnoaaaaStN
namespace Go.Proofs.Ytpebepjfgnoaaaa
set_option linter.unusedVariables false
set_option linter.unusedSimpArgs false
open Go.RowKit
def rmG (x : Nat) (a s t : Int) (pu : Bool) (sl nx wd tw : Int) : Grp := [(x, .cells #[.int .i64 a, .int .i64 s, .int .i64 t, .bool pu, .int .i64 sl, .int .i64 nx, .int .i64 wd, .int .i64 tw] 130 (0, 0))]
def rmStep (pu : Bool) (t s : Int) (ws : List Int) (nx sl wd tw : Int) : StepR := if pu = true then pushStep t s ws nx sl wd tw else popStep t s ws nx sl wd tw
def RmPost (B : Nat) (W : World) (R0 : List Grp) (x p bw : Nat) (bv : Value) (a s t : Int) (pu : Bool) (q : StepR) (e : Ending) (w' : World) : Prop :=
  e = .returned (.tuple #[.int .i64 q.r, .int .i64 q.e, .bool q.done]) ∧ ∃ m, Owns B W w' (kG p bw q.ws bv m :: rmG x a s t pu q.sl q.nx q.wd q.to :: R0)
section
variable {B : Nat} {W w : World} {G : List Grp} {j x : Nat} {a s t : Int} {pu : Bool} {sl nx wd tw : Int} (k : Owns B W w G) (hj : G[j]? = some (rmG x a s t pu sl nx wd tw))
include k hj
theorem rm_cells : w.cell? ⟨x, 0, none⟩ = some (.int .i64 a) ∧ w.cell? ⟨x, 1, none⟩ = some (.int .i64 s) ∧ w.cell? ⟨x, 2, none⟩ = some (.int .i64 t) ∧ w.cell? ⟨x, 3, none⟩ = some (.bool pu) ∧ w.cell? ⟨x, 4, none⟩ = some (.int .i64 sl) ∧ w.cell? ⟨x, 5, none⟩ = some (.int .i64 nx) ∧
      w.cell? ⟨x, 6, none⟩ = some (.int .i64 wd) ∧ w.cell? ⟨x, 7, none⟩ = some (.int .i64 tw) ∧ x < w.heap.size ∧ (∀ o, w.frozen? ⟨x, o, none⟩ = false) :=
  ⟨k.cell j 0 hj rfl 0, k.cell j 0 hj rfl 1, k.cell j 0 hj rfl 2, k.cell j 0 hj rfl 3, k.cell j 0 hj rfl 4, k.cell j 0 hj rfl 5, k.cell j 0 hj rfl 6, k.cell j 0 hj rfl 7, k.lt j 0 hj rfl, blk_free (k.get j 0 hj rfl)⟩
theorem rm_sl (v : Int) : Owns B W (w.setCell ⟨x, 4, none⟩ (.int .i64 v)) (G.set j (rmG x a s t pu v nx wd tw)) := k.set j 0 hj rfl 4 (.int .i64 v)
theorem rm_nx (v : Int) : Owns B W (w.setCell ⟨x, 5, none⟩ (.int .i64 v)) (G.set j (rmG x a s t pu sl v wd tw)) := k.set j 0 hj rfl 5 (.int .i64 v)
theorem rm_wd (v : Int) : Owns B W (w.setCell ⟨x, 6, none⟩ (.int .i64 v)) (G.set j (rmG x a s t pu sl nx v tw)) := k.set j 0 hj rfl 6 (.int .i64 v)
theorem rm_tw (v : Int) : Owns B W (w.setCell ⟨x, 7, none⟩ (.int .i64 v)) (G.set j (rmG x a s t pu sl nx wd v)) := k.set j 0 hj rfl 7 (.int .i64 v)
set_option maxHeartbeats 2000000 in
theorem ref10_end (r e : Int) : Calls Try.prog 79 #[.pointer (some ⟨x, 0, none⟩), .int .i64 r, .int .i64 e] w fun v w' => v = .returned (.tuple #[.int .i64 r, .int .i64 e, .bool true]) ∧ Owns B W w' (G.set j (rmG x a s t pu sl 0 wd tw)) := by
  obtain ⟨c0, c1, c2, c3, c4, c5, c6, c7, cz, cf⟩ := rm_cells k hj
  have hf := cf 5
  go_enter Try.func79, Try.ntmps79
  go_wp2
  go_ret3
  exact ⟨rfl, rm_nx k hj 0⟩
end
theorem rAt_1 {a s t : Int} (hc : cfgOk a s t = true) : rAt a s t 1 0 = lOnce t 1 := by
  have := cfgOk_of hc
  unfold rAt lOnce
  rw [if_pos hc, if_neg (show ¬ t = 0 by omega)]
  simp
theorem rAt_7 {a s t : Int} (hc : cfgOk a s t = true) (sl : Int) : rAt a s t 7 sl = lOf t s sl 2 := by
  have := cfgOk_of hc
  unfold rAt lOf
  rw [if_pos hc]
  simp
  try (split <;> omega)
set_option maxRecDepth 100000 in
set_option maxHeartbeats 8000000 in
/-- step 1, behind the test of the slot. -/
theorem ref10_first {B : Nat} {W w : World} {R0 : List Grp} {x p bw : Nat} {ws : List Int} {bv : Value} {n a s t : Int} {pu : Bool} {sl nx wd tw : Int} (hP : Owns B W w (kG p bw ws bv n :: rmG x a s t pu sl nx wd tw :: R0)) (hc : cfgOk a s t = true) (hl : ws.length ≤ 4096) (hw : WOk ws) (q : StepR) (hq : q = rmStep pu t s ws 1 sl wd tw) : Calls Try.prog 76 #[.pointer (some ⟨x, 0, none⟩), .pointer (some ⟨p, 0, none⟩)] w (RmPost B W R0 x p bw bv a s t pu q) := by
  obtain ⟨v, hv⟩ : ∃ v, wAt ws (lOnce t 1) = v := ⟨_, rfl⟩
  have vb := wAt_bd hw (lOnce t 1)
  rw [hv] at vb
  have tb := dUnTop_bd v
  obtain ⟨T, hT⟩ : ∃ T, dUnTop v = T := ⟨_, rfl⟩
  rw [hT] at tb
  obtain ⟨o1, ho1⟩ : ∃ o, lOnce t 1 = o := ⟨_, rfl⟩
  obtain ⟨o7, ho7⟩ : ∃ o, lOf t s sl 2 = o := ⟨_, rfl⟩
  have HV := Lib.hid (show wAt ws o1 = v by rw [← ho1, hv])
  have HT := Lib.hid hT
  have HA1 := Lib.hid ((rAt_1 hc).trans ho1)
  have HA7 := Lib.hid ((rAt_7 hc sl).trans ho7)
  obtain ⟨D, hD⟩ : ∃ D, dIs v = D := ⟨_, rfl⟩
  have HE := Lib.hid (show dUnErr v = if D = true then 0 else 2 by unfold dUnErr; rw [hD])
  obtain ⟨z, hz⟩ : ∃ z, (T == 0) = z := ⟨_, rfl⟩
  have HQ := Lib.hid (show q = if pu = true then (if o7 < 0 then ⟨ws, 0, sl, wd, tw, 0, 1, true⟩ else if D = true then ⟨ws, 2, sl, v, tw, 0, 0, false⟩ else ⟨ws, 0, sl, v, tw, 0, 2, true⟩) else (if D = true then (if z = true then ⟨ws, 0, sl, v, tw, 0, 11, true⟩ else ⟨ws, 2, T - 1, v, tw, 0, 0, false⟩) else ⟨ws, 0, sl, v, tw, 0, 2, true⟩) by
    rw [hq]; unfold rmStep pushStep popStep
    rw [hv, hT, hD, ho7, ← hz]
    simp only [if_true, beq_iff_eq])
  clear hq hD hv hT ho1 ho7 hc hw
  cases pu
  case false =>
    obtain ⟨c0, c1, c2, c3, c4, c5, c6, c7, cz, cf⟩ := rm_cells (j := 1) hP rfl
    go_enter Try.func76, Try.ntmps76
    go_upto_region 1 with fail
    go_quiet (fail)
    have hO' := hP.drewN nq; clear hP; have hP := hO'; clear hO'
    generalize World.drewN _ _ = w1 at hP ⊢
    clear c0 c1 c2 c3 c4 c5 c6 c7 cz cf; obtain ⟨c0, c1, c2, c3, c4, c5, c6, c7, cz, cf⟩ := rm_cells (j := 1) hP rfl
    go_wp2_with (go_at_call 57; refine (ref06_At _ _ _ _ _ _ (by decide) (by decide)).mono ?_; (first | rw [HA7.out] | rw [HA1.out]); rintro e w7 ⟨rfl, hb⟩; have hO' := hP.via hb; clear hP; have hP := hO'; clear hO'; clear c0 c1 c2 c3 c4 c5 c6 c7 cz cf; obtain ⟨c0, c1, c2, c3, c4, c5, c6, c7, cz, cf⟩ := rm_cells (j := 1) hP rfl)
    refine (ref05_Load 0 _ hP rfl hl).mono ?_; rw [HV.out]; rintro e w2 ⟨rfl, hO'⟩; clear hP; have hP := hO'; clear hO'; (try simp only [List.set_cons_zero, List.set_cons_succ] at hP); clear c0 c1 c2 c3 c4 c5 c6 c7 cz cf; obtain ⟨c0, c1, c2, c3, c4, c5, c6, c7, cz, cf⟩ := rm_cells (j := 1) hP rfl
    have y6 := cf 6
    go_upto_region 4 with fail
    have hO' := rm_wd (j := 1) hP rfl v; clear hP; have hP := hO'; clear hO'; (try simp only [List.set_cons_zero, List.set_cons_succ] at hP)
    generalize World.setCell _ _ _ = w3 at hP ⊢
    clear y6
    clear c0 c1 c2 c3 c4 c5 c6 c7 cz cf; obtain ⟨c0, c1, c2, c3, c4, c5, c6, c7, cz, cf⟩ := rm_cells (j := 1) hP rfl
    cases D
    case false =>
      have e : q = ⟨ws, 0, sl, v, tw, 0, 2, true⟩ := HQ.out
      subst e
      go_wp2_with first
        | (go_at_call 56; refine (ref04_Unpack _ _ vb.2).mono ?_; rw [HE.out]; rintro e w4 ⟨rfl, rfl⟩)
        | (go_at_call 79; refine (ref10_end (j := 1) hP rfl 0 2).mono ?_; rintro e w5 ⟨rfl, hO'⟩; clear hP; have hP := hO'; clear hO'; (try simp only [List.set_cons_zero, List.set_cons_succ] at hP); clear c0 c1 c2 c3 c4 c5 c6 c7 cz cf)
      go_ret3
      exact ⟨rfl, _, hP⟩
    case true =>
      cases z
      case true =>
        have e : q = ⟨ws, 0, sl, v, tw, 0, 11, true⟩ := HQ.out
        subst e
        go_wp2_with first
          | (go_at_call 56; refine (ref04_Unpack _ _ vb.2).mono ?_; rw [HE.out, HT.out]; rintro e w4 ⟨rfl, rfl⟩)
          | (go_at_call 79; refine (ref10_end (j := 1) hP rfl 0 11).mono ?_; rintro e w5 ⟨rfl, hO'⟩; clear hP; have hP := hO'; clear hO'; (try simp only [List.set_cons_zero, List.set_cons_succ] at hP); clear c0 c1 c2 c3 c4 c5 c6 c7 cz cf)
        go_ret3
        exact ⟨rfl, _, hP⟩
      case false =>
        have e : q = ⟨ws, 2, T - 1, v, tw, 0, 0, false⟩ := HQ.out
        subst e
        have y4 := cf 4
        have y5 := cf 5
        obtain ⟨t0, t1⟩ := tb
        have hz' : T ≠ 0 := by simpa using hz
        go_upto_region 12 with (go_at_call 56; refine (ref04_Unpack _ _ vb.2).mono ?_; rw [HE.out, HT.out]; rintro e w4 ⟨rfl, rfl⟩)
        have h1 := rm_sl (j := 1) hP rfl (T - 1)
        have hO' := rm_nx (j := 1) h1 rfl 2
        clear h1 y4 y5; clear hP; have hP := hO'; clear hO'; (try simp only [List.set_cons_zero, List.set_cons_succ] at hP)
        clear c0 c1 c2 c3 c4 c5 c6 c7 cz cf
        generalize World.setCell (World.setCell _ _ _) _ _ = w5 at hP ⊢
        go_wp2_with fail
        go_ret3
        exact ⟨rfl, _, hP⟩
  case true =>
    obtain ⟨bl, hbl⟩ : ∃ b, decide (o7 < 0) = b := ⟨_, rfl⟩
    have HQ2 := Lib.hid (show q = if bl = true then ⟨ws, 0, sl, wd, tw, 0, 1, true⟩ else if D = true then ⟨ws, 2, sl, v, tw, 0, 0, false⟩ else ⟨ws, 0, sl, v, tw, 0, 2, true⟩ by rw [HQ.out, if_pos rfl, ← hbl]; simp only [decide_eq_true_eq])
    go_enter Try.func76, Try.ntmps76
    go_upto_region 1 with fail
    have hO' := hP.drew; clear hP; have hP := hO'; clear hO'
    obtain ⟨c0, c1, c2, c3, c4, c5, c6, c7, cz, cf⟩ := rm_cells (j := 1) hP rfl
    first
      | go_loud (go_region_held3 (fun w => w.cell? ⟨x, 0, none⟩ = some (.int .i64 a) ∧ w.cell? ⟨x, 1, none⟩ = some (.int .i64 s) ∧ w.cell? ⟨x, 2, none⟩ = some (.int .i64 t) ∧ w.cell? ⟨x, 3, none⟩ = some (.bool true) ∧ w.cell? ⟨x, 4, none⟩ = some (.int .i64 sl)) (exact ⟨c0, c1, c2, c3, c4⟩) ((go_at_call 57; refine (ref06_At _ _ _ _ _ _ (by decide) (by decide)).mono ?_; (first | rw [HA7.out] | rw [HA1.out]); rintro e w7 ⟨rfl, hb⟩; have hO' := hP.via hb; clear hP; have hP := hO'; clear hO'; clear c0 c1 c2 c3 c4 c5 c6 c7 cz cf; obtain ⟨c0, c1, c2, c3, c4, c5, c6, c7, cz, cf⟩ := rm_cells (j := 1) hP rfl)))
      | fail "slot"
    all_goals
      cases bl
      case true =>
        have e : q = ⟨ws, 0, sl, wd, tw, 0, 1, true⟩ := HQ2.out
        subst e
        go_wp2_with (go_at_call 79; refine (ref10_end (j := 1) hP rfl 0 1).mono ?_; rintro e w5 ⟨rfl, hO'⟩; clear hP; have hP := hO'; clear hO'; (try simp only [List.set_cons_zero, List.set_cons_succ] at hP); clear c0 c1 c2 c3 c4 c5 c6 c7 cz cf)
        go_ret3
        exact ⟨rfl, _, hP⟩
      case false =>
        go_wp2_with (go_at_call 57; refine (ref06_At _ _ _ _ _ _ (by decide) (by decide)).mono ?_; (first | rw [HA7.out] | rw [HA1.out]); rintro e w7 ⟨rfl, hb⟩; have hO' := hP.via hb; clear hP; have hP := hO'; clear hO'; clear c0 c1 c2 c3 c4 c5 c6 c7 cz cf; obtain ⟨c0, c1, c2, c3, c4, c5, c6, c7, cz, cf⟩ := rm_cells (j := 1) hP rfl)
        refine (ref05_Load 0 _ hP rfl hl).mono ?_; rw [HV.out]; rintro e w2 ⟨rfl, hO'⟩; clear hP; have hP := hO'; clear hO'; (try simp only [List.set_cons_zero, List.set_cons_succ] at hP); clear c0 c1 c2 c3 c4 c5 c6 c7 cz cf; obtain ⟨c0, c1, c2, c3, c4, c5, c6, c7, cz, cf⟩ := rm_cells (j := 1) hP rfl
        have y6 := cf 6
        go_upto_region 4 with fail
        have hO' := rm_wd (j := 1) hP rfl v; clear hP; have hP := hO'; clear hO'; (try simp only [List.set_cons_zero, List.set_cons_succ] at hP)
        generalize World.setCell _ _ _ = w3 at hP ⊢
        clear y6
        clear c0 c1 c2 c3 c4 c5 c6 c7 cz cf; obtain ⟨c0, c1, c2, c3, c4, c5, c6, c7, cz, cf⟩ := rm_cells (j := 1) hP rfl
        cases D
        case false =>
          have e : q = ⟨ws, 0, sl, v, tw, 0, 2, true⟩ := HQ2.out
          subst e
          go_wp2_with first
            | (go_at_call 56; refine (ref04_Unpack _ _ vb.2).mono ?_; rw [HE.out]; rintro e w4 ⟨rfl, rfl⟩)
            | (go_at_call 79; refine (ref10_end (j := 1) hP rfl 0 2).mono ?_; rintro e w5 ⟨rfl, hO'⟩; clear hP; have hP := hO'; clear hO'; (try simp only [List.set_cons_zero, List.set_cons_succ] at hP); clear c0 c1 c2 c3 c4 c5 c6 c7 cz cf)
          go_ret3
          exact ⟨rfl, _, hP⟩
        case true =>
          have e : q = ⟨ws, 2, sl, v, tw, 0, 0, false⟩ := HQ2.out
          subst e
          have y5 := cf 5
          go_upto_region 12 with (go_at_call 56; refine (ref04_Unpack _ _ vb.2).mono ?_; rw [HE.out, HT.out]; rintro e w4 ⟨rfl, rfl⟩)
          have hO' := rm_nx (j := 1) hP rfl 2
          clear y5; clear hP; have hP := hO'; clear hO'; (try simp only [List.set_cons_zero, List.set_cons_succ] at hP)
          clear c0 c1 c2 c3 c4 c5 c6 c7 cz cf
          generalize World.setCell _ _ _ = w5 at hP ⊢
          go_wp2_with fail
          go_ret3
          exact ⟨rfl, _, hP⟩
end Go.Proofs.Ytpebepjfgnoaaaa
