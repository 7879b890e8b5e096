/- The reference's stack machine (sidingsref10): second, Step. -/
import Derived.RegionTactic
import Derived.BigRegion
import Derived.Deep.RegionHeld3
import Derived.Outline
import Derived.Deep.DeepCutAuto
import Derived.Deep.QuietTactic
import Derived.BigQuiet
import Derived.Test.YtpebepjfgnoaaaaRt10
namespace Go.Proofs.Ytpebepjfgnoaaaa
set_option linter.unusedVariables false
set_option linter.unusedSimpArgs false
open Go.RowKit
set_option maxRecDepth 100000 in
set_option maxHeartbeats 8000000 in
theorem ref10_second {B : Nat} {W w : World} {R0 : List Grp} {x p bw : Nat} {ws : List Int} {bv : Value} {n a s t : Int} {pu : Bool} {sl nx wd tw : Int} (hP : Owns B W w (kG p bw ws bv n :: rmG x a s t pu sl nx wd tw :: R0)) (hc : cfgOk a s t = true) (hl : ws.length ≤ 4096) (hwd : wd ≤ 9223372036854775807) (q : StepR) (hq : q = rmStep pu t s ws 2 sl wd tw) : Calls Try.prog 77 #[.pointer (some ⟨x, 0, none⟩), .pointer (some ⟨p, 0, none⟩)] w (RmPost B W R0 x p bw bv a s t pu q) := by
  obtain ⟨o7, ho7⟩ : ∃ o, lOf t s sl 2 = o := ⟨_, rfl⟩
  have HA7 := Lib.hid ((rAt_7 hc sl).trans ho7)
  have HA1 := HA7
  obtain ⟨lk, hlk⟩ : ∃ o, wAt ws o7 = o := ⟨_, rfl⟩
  obtain ⟨u1, u2, u3, hu⟩ : ∃ a b c, dPush wd sl = (a, b, c) := ⟨_, _, _, rfl⟩
  obtain ⟨v1, v2, v3, hv⟩ : ∃ a b c, dPop wd lk = (a, b, c) := ⟨_, _, _, rfl⟩
  obtain ⟨z, hz⟩ : ∃ z, (v3 == 0) = z := ⟨_, rfl⟩
  have hz' : (v3 != 0) = !z := by rw [← hz]; rfl
  have HQ := Lib.hid (show q = if pu = true then ⟨wPut ws o7 u2, 3, sl, wd, u1, 0, 0, false⟩ else (if z = true then ⟨ws, 3, sl, wd, v1, 0, 0, false⟩ else ⟨ws, 0, sl, wd, tw, 0, 2, true⟩) by
    rw [hq]; unfold rmStep pushStep popStep
    rw [ho7, hlk, hu, hv, ← hz]
    simp only [if_true, beq_iff_eq]; rfl)
  have HU := Lib.hid hu
  have HV := Lib.hid hv
  have HK := Lib.hid hlk
  clear hq ho7 hlk hu hv hc
  go_enter Try.func77, Try.ntmps77
  go_upto_region 1 with fail
  have hO' := hP.drew; clear hP; have hP := hO'; clear hO'
  obtain ⟨c0, c1, c2, c3, c4, c5, c6, c7, cz, cf⟩ := rm_cells (j := 1) hP rfl
  first
    | go_loud (go_region_held3 (fun w => w.cell? ⟨x, 0, none⟩ = some (.int .i64 a) ∧ w.cell? ⟨x, 1, none⟩ = some (.int .i64 s) ∧ w.cell? ⟨x, 2, none⟩ = some (.int .i64 t) ∧ w.cell? ⟨x, 4, none⟩ = some (.int .i64 sl)) (exact ⟨c0, c1, c2, c4⟩) ((go_at_call 57; refine (ref06_At _ _ _ _ _ _ (by decide) (by decide)).mono ?_; (first | rw [HA7.out] | rw [HA1.out]); rintro e w7 ⟨rfl, hb⟩; have hO' := hP.via hb; clear hP; have hP := hO'; clear hO'; clear c0 c1 c2 c3 c4 c5 c6 c7 cz cf; obtain ⟨c0, c1, c2, c3, c4, c5, c6, c7, cz, cf⟩ := rm_cells (j := 1) hP rfl)))
    | fail "at"
  all_goals
    cases pu
    case true =>
      have e : q = ⟨wPut ws o7 u2, 3, sl, wd, u1, 0, 0, false⟩ := HQ.out
      subst e
      go_upto_region 3 with fail
      have hO' := hP.drew; clear hP; have hP := hO'; clear hO'
      clear c0 c1 c2 c3 c4 c5 c6 c7 cz cf; obtain ⟨c0, c1, c2, c3, c4, c5, c6, c7, cz, cf⟩ := rm_cells (j := 1) hP rfl
      first
        | go_loud (go_region_held3 (fun w => w.cell? ⟨x, 4, none⟩ = some (.int .i64 sl) ∧ w.cell? ⟨x, 6, none⟩ = some (.int .i64 wd)) (exact ⟨c4, c6⟩) ((go_at_call 93; refine (ref04_Push _ _ _ hwd).mono ?_; rw [HU.out]; rintro e w7 ⟨rfl, rfl⟩)))
        | fail "push"
      all_goals
        go_wp2_with fail
        refine (ref05_Store 0 _ _ hP rfl hl).mono ?_; rintro e w8 ⟨rfl, hO'⟩; clear hP; have hP := hO'; clear hO'; (try simp only [List.set_cons_zero, List.set_cons_succ] at hP); clear c0 c1 c2 c3 c4 c5 c6 c7 cz cf; obtain ⟨c0, c1, c2, c3, c4, c5, c6, c7, cz, cf⟩ := rm_cells (j := 1) hP rfl
        have y7 := cf 7
        have y5 := cf 5
        go_upto_region 11 with fail
        have h1 := rm_tw (j := 1) hP rfl u1
        have hO' := rm_nx (j := 1) h1 rfl 3
        clear h1 y7 y5; clear hP; have hP := hO'; clear hO'; (try simp only [List.set_cons_zero, List.set_cons_succ] at hP)
        clear c0 c1 c2 c3 c4 c5 c6 c7 cz cf
        generalize World.setCell (World.setCell _ _ _) _ _ = w5 at hP ⊢
        go_wp2_with fail
        go_ret3
        exact ⟨rfl, _, hP⟩
    case false =>
      go_upto_region 6 with fail
      have hO' := hP.drew; clear hP; have hP := hO'; clear hO'
      clear c0 c1 c2 c3 c4 c5 c6 c7 cz cf; obtain ⟨c0, c1, c2, c3, c4, c5, c6, c7, cz, cf⟩ := rm_cells (j := 1) hP rfl
      first
        | go_loud (go_region_held3 (fun w => w.cell? ⟨x, 6, none⟩ = some (.int .i64 wd)) (exact c6) (first | (go_at_call 92; refine (ref05_Load 0 _ hP rfl hl).mono ?_; rw [HK.out]; rintro e w7 ⟨rfl, hO'⟩; clear hP; have hP := hO'; clear hO'; (try simp only [List.set_cons_zero, List.set_cons_succ] at hP); clear c0 c1 c2 c3 c4 c5 c6 c7 cz cf; obtain ⟨c0, c1, c2, c3, c4, c5, c6, c7, cz, cf⟩ := rm_cells (j := 1) hP rfl) | (go_at_call 94; refine (ref04_Pop _ _ _ hwd).mono ?_; rw [HV.out]; rintro e w8 ⟨rfl, rfl⟩)))
        | fail "pop"
      all_goals
        cases z
        case false =>
          have e : q = ⟨ws, 0, sl, wd, tw, 0, 2, true⟩ := HQ.out
          subst e
          go_wp2_with (go_at_call 79; refine (ref10_end (j := 1) hP rfl 0 2).mono ?_; rintro e w5 ⟨rfl, hO'⟩; clear hP; have hP := hO'; clear hO'; (try simp only [List.set_cons_zero, List.set_cons_succ] at hP); clear c0 c1 c2 c3 c4 c5 c6 c7 cz cf)
          go_ret3
          exact ⟨rfl, _, hP⟩
        case true =>
          have e : q = ⟨ws, 3, sl, wd, v1, 0, 0, false⟩ := HQ.out
          subst e
          have y7 := cf 7
          have y5 := cf 5
          go_upto_region 11 with fail
          have h1 := rm_tw (j := 1) hP rfl v1
          have hO' := rm_nx (j := 1) h1 rfl 3
          clear h1 y7 y5; clear hP; have hP := hO'; clear hO'; (try simp only [List.set_cons_zero, List.set_cons_succ] at hP)
          clear c0 c1 c2 c3 c4 c5 c6 c7 cz cf
          generalize World.setCell (World.setCell _ _ _) _ _ = w5 at hP ⊢
          go_wp2_with fail
          go_ret3
          exact ⟨rfl, _, hP⟩
end Go.Proofs.Ytpebepjfgnoaaaa
