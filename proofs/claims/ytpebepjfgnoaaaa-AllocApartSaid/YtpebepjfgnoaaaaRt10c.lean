/- The reference's stack machine (sidingsref10): Step, New. -/
import Derived.RegionTactic
import Derived.BigRegion
import Derived.Deep.RegionHeld3
import Derived.Outline
import Derived.Deep.DeepCutAuto
import Derived.Deep.QuietTactic
import Derived.BigQuiet
import Derived.Test.YtpebepjfgnoaaaaRt10b
namespace Go.Proofs.Ytpebepjfgnoaaaa
set_option linter.unusedVariables false
set_option linter.unusedSimpArgs false
open Go.RowKit
set_option maxRecDepth 100000 in
set_option maxHeartbeats 8000000 in
theorem ref10_Step_3 {B : Nat} {W w : World} {R0 : List Grp} {x p bw : Nat} {ws : List Int} {bv : Value} {n a s t : Int} {pu : Bool} {sl nx wd tw : Int} (hP : Owns B W w (kG p bw ws bv n :: rmG x a s t pu sl nx wd tw :: R0)) (hc : cfgOk a s t = true) (hl : ws.length ≤ 4096) (hn : nx = 3) (q : StepR) (hq : q = rmStep pu t s ws 3 sl wd tw) : Calls Try.prog 54 #[.pointer (some ⟨x, 0, none⟩), .pointer (some ⟨p, 0, none⟩)] w (RmPost B W R0 x p bw bv a s t pu q) := by
  subst hn
  obtain ⟨o1, ho1⟩ : ∃ o, lOnce t 1 = o := ⟨_, rfl⟩
  have HA1 := Lib.hid ((rAt_1 hc).trans ho1)
  have HA7 := HA1
  obtain ⟨b, hb⟩ : ∃ b, wCas ws o1 wd = b := ⟨_, rfl⟩
  have HB := Lib.hid hb
  have HQ := Lib.hid (show q = if b = true then ⟨wCasPut ws o1 wd tw, 0, sl, wd, tw, if pu = true then 0 else sl, 0, true⟩ else ⟨ws, 1, sl, wd, tw, 0, 0, false⟩ by
    rw [hq]; unfold rmStep pushStep popStep
    rw [ho1, hb]
    cases pu <;> rfl)
  clear hq ho1 hb hc
  have c5 : w.cell? ⟨x, 5, none⟩ = some (.int .i64 3) := hP.cell 1 0 rfl rfl 5
  have cz := hP.lt 1 0 rfl rfl
  go_enter Try.func54, Try.ntmps54
  go_upto_region 7 with fail
  clear c5 cz
  have hO' := hP.drew; clear hP; have hP := hO'; clear hO'
  obtain ⟨c0, c1, c2, c3, c4, c5, c6, c7, cz, cf⟩ := rm_cells (j := 1) hP rfl
  first
    | go_loud (go_region_held3 (fun w => w.cell? ⟨x, 0, none⟩ = some (.int .i64 a) ∧ w.cell? ⟨x, 1, none⟩ = some (.int .i64 s) ∧ w.cell? ⟨x, 2, none⟩ = some (.int .i64 t) ∧ w.cell? ⟨x, 6, none⟩ = some (.int .i64 wd) ∧ w.cell? ⟨x, 7, none⟩ = some (.int .i64 tw)) (exact ⟨c0, c1, c2, c6, c7⟩) (first | (go_at_call 57; refine (ref06_At _ _ _ _ _ _ (by decide) (by decide)).mono ?_; (first | rw [HA7.out] | rw [HA1.out]); rintro e w7 ⟨rfl, hb⟩; have hO' := hP.via hb; clear hP; have hP := hO'; clear hO'; clear c0 c1 c2 c3 c4 c5 c6 c7 cz cf; obtain ⟨c0, c1, c2, c3, c4, c5, c6, c7, cz, cf⟩ := rm_cells (j := 1) hP rfl) | (go_at_call 78; refine (ref05_Cas 0 _ _ _ hP rfl hl).mono ?_; rw [HB.out]; rintro e w8 ⟨rfl, hO'⟩; clear hP; have hP := hO'; clear hO'; (try simp only [List.set_cons_zero, List.set_cons_succ] at hP); clear c0 c1 c2 c3 c4 c5 c6 c7 cz cf; obtain ⟨c0, c1, c2, c3, c4, c5, c6, c7, cz, cf⟩ := rm_cells (j := 1) hP rfl)))
    | fail "cas"
  all_goals
    cases b
    case false =>
      have e : q = ⟨ws, 1, sl, wd, tw, 0, 0, false⟩ := HQ.out
      subst e
      have hC : wCasPut ws o1 wd tw = ws := by unfold wCasPut; rw [HB.out]; rfl
      rw [hC] at hP
      have y5 := cf 5
      go_upto_region 12 with fail
      have hO' := rm_nx (j := 1) hP rfl 1
      clear y5; clear hP; have hP := hO'; clear hO'; (try simp only [List.set_cons_zero, List.set_cons_succ] at hP)
      clear c0 c1 c2 c3 c4 c5 c6 c7 cz cf
      generalize World.setCell _ _ _ = w5 at hP ⊢
      go_wp2_with fail
      go_ret3
      exact ⟨rfl, _, hP⟩
    case true =>
      cases pu
      case true =>
        have e : q = ⟨wCasPut ws o1 wd tw, 0, sl, wd, tw, 0, 0, true⟩ := HQ.out
        subst e
        go_wp2_with (go_at_call 79; refine (ref10_end (j := 1) hP rfl 0 0).mono ?_; rintro e w5 ⟨rfl, hO'⟩; clear hP; have hP := hO'; clear hO'; (try simp only [List.set_cons_zero, List.set_cons_succ] at hP); clear c0 c1 c2 c3 c4 c5 c6 c7 cz cf)
        go_ret3
        exact ⟨rfl, _, hP⟩
      case false =>
        have e : q = ⟨wCasPut ws o1 wd tw, 0, sl, wd, tw, sl, 0, true⟩ := HQ.out
        subst e
        go_wp2_with (go_at_call 79; refine (ref10_end (j := 1) hP rfl sl 0).mono ?_; rintro e w5 ⟨rfl, hO'⟩; clear hP; have hP := hO'; clear hO'; (try simp only [List.set_cons_zero, List.set_cons_succ] at hP); clear c0 c1 c2 c3 c4 c5 c6 c7 cz cf)
        go_ret3
        exact ⟨rfl, _, hP⟩
set_option maxRecDepth 100000 in
set_option maxHeartbeats 8000000 in
theorem ref10_Step_else {B : Nat} {W w : World} {R0 : List Grp} {x p bw : Nat} {ws : List Int} {bv : Value} {n a s t : Int} {pu : Bool} {sl nx wd tw : Int} (hP : Owns B W w (kG p bw ws bv n :: rmG x a s t pu sl nx wd tw :: R0)) (hc : cfgOk a s t = true) (hl : ws.length ≤ 4096) (h1 : nx ≠ 1) (h2 : nx ≠ 2) (h3 : nx ≠ 3) : Calls Try.prog 54 #[.pointer (some ⟨x, 0, none⟩), .pointer (some ⟨p, 0, none⟩)] w (RmPost B W R0 x p bw bv a s t pu ⟨ws, nx, sl, wd, tw, 0, 1, true⟩) := by
  have e1 : (nx == 1) = false := by simpa using h1
  have e2 : (nx == 2) = false := by simpa using h2
  have e3 : (nx == 3) = false := by simpa using h3
  have _u := And.intro hc hl
  clear h1 h2 h3
  have c5 : w.cell? ⟨x, 5, none⟩ = some (.int .i64 nx) := hP.cell 1 0 rfl rfl 5
  have cz := hP.lt 1 0 rfl rfl
  go_enter Try.func54, Try.ntmps54
  go_wp2_with fail
  go_ret3
  exact ⟨rfl, _, hP⟩
set_option maxRecDepth 100000 in
set_option maxHeartbeats 8000000 in
theorem ref10_Step_in {B : Nat} {W w : World} {R0 : List Grp} {x p bw : Nat} {ws : List Int} {bv : Value} {n a s t : Int} {pu : Bool} {sl nx wd tw : Int} (hP : Owns B W w (kG p bw ws bv n :: rmG x a s t pu sl nx wd tw :: R0)) (hc : cfgOk a s t = true) (hl : ws.length ≤ 4096) (k : Int) (hk : k = 1 ∨ k = 2) (hn : nx = k) (q : StepR) (H1 : k = 1 → Calls Try.prog 76 #[.pointer (some ⟨x, 0, none⟩), .pointer (some ⟨p, 0, none⟩)] w (RmPost B W R0 x p bw bv a s t pu q)) (H2 : k = 2 → Calls Try.prog 77 #[.pointer (some ⟨x, 0, none⟩), .pointer (some ⟨p, 0, none⟩)] w (RmPost B W R0 x p bw bv a s t pu q)) :
    Calls Try.prog 54 #[.pointer (some ⟨x, 0, none⟩), .pointer (some ⟨p, 0, none⟩)] w (RmPost B W R0 x p bw bv a s t pu q) := by
  obtain ⟨qws, qnx, qsl, qwd, qto, qr, qe, qd⟩ := q
  have _u := And.intro hc hl
  subst hn
  rcases hk with rfl | rfl
  · have HT := Lib.hid (H1 rfl)
    clear H1 H2
    have c5 : w.cell? ⟨x, 5, none⟩ = some (.int .i64 1) := hP.cell 1 0 rfl rfl 5
    have cz := hP.lt 1 0 rfl rfl
    go_enter Try.func54, Try.ntmps54
    go_wp2_with fail
    refine HT.out.mono ?_
    unfold RmPost
    dsimp only
    rintro e w2 ⟨rfl, m, hO'⟩
    go_wp2_with fail
    go_ret3
    exact ⟨rfl, m, hO'⟩
  · have HT := Lib.hid (H2 rfl)
    clear H1 H2
    have c5 : w.cell? ⟨x, 5, none⟩ = some (.int .i64 2) := hP.cell 1 0 rfl rfl 5
    have cz := hP.lt 1 0 rfl rfl
    go_enter Try.func54, Try.ntmps54
    go_wp2_with fail
    refine HT.out.mono ?_
    unfold RmPost
    dsimp only
    rintro e w2 ⟨rfl, m, hO'⟩
    go_wp2_with fail
    go_ret3
    exact ⟨rfl, m, hO'⟩
theorem ref10_Step {B : Nat} {W w : World} {R0 : List Grp} {x p bw : Nat} {ws : List Int} {bv : Value} {n a s t : Int} {pu : Bool} {sl nx wd tw : Int} (hP : Owns B W w (kG p bw ws bv n :: rmG x a s t pu sl nx wd tw :: R0)) (hc : cfgOk a s t = true) (hl : ws.length ≤ 4096) (hw : WOk ws) (hwd : wd ≤ 9223372036854775807) (q : StepR) (hq : q = rmStep pu t s ws nx sl wd tw) : Calls Try.prog 54 #[.pointer (some ⟨x, 0, none⟩), .pointer (some ⟨p, 0, none⟩)] w (RmPost B W R0 x p bw bv a s t pu q) := by
  by_cases h1 : nx = 1
  · exact ref10_Step_in hP hc hl 1 (.inl rfl) h1 q (fun _ => ref10_first hP hc hl hw q (by rw [← h1]; exact hq)) (fun e => absurd e (by decide))
  · by_cases h2 : nx = 2
    · exact ref10_Step_in hP hc hl 2 (.inr rfl) h2 q (fun e => absurd e (by decide)) (fun _ => ref10_second hP hc hl hwd q (by rw [← h2]; exact hq))
    · by_cases h3 : nx = 3
      · exact ref10_Step_3 hP hc hl h3 q (by rw [← h3]; exact hq)
      · have e : q = ⟨ws, nx, sl, wd, tw, 0, 1, true⟩ := by
          rw [hq]; unfold rmStep pushStep popStep
          rw [if_neg h1, if_neg h2, if_neg h3, if_neg h1, if_neg h2, if_neg h3]
          split <;> rfl
        rw [e]
        exact ref10_Step_else hP hc hl h1 h2 h3
set_option maxHeartbeats 1000000 in
theorem ref10_New {B : Nat} {W w : World} {G : List Grp} (a s t : Int) (pu : Bool) (sl : Int) (hO : Owns B W w G) : Calls Try.prog 52 #[.agg #[.int .i64 a, .int .i64 s, .int .i64 t], .bool pu, .int .i64 sl] w fun e w' => ∃ x, e = .returned (.pointer (some ⟨x, 0, none⟩)) ∧ Owns B W w' (rmG x a s t pu sl 1 0 0 :: G) := by
  go_enter Try.func52, Try.ntmps52
  go_wp2
  go_ret
  refine ⟨w.heap.size + 1, rfl, ?_⟩
  have := (hO.alloc (.cells #[.int .i64 a, .int .i64 s, .int .i64 t] 23)).tail.alloc (.cells #[.int .i64 a, .int .i64 s, .int .i64 t, .bool pu, .int .i64 sl, .int .i64 1, .int .i64 0, .int .i64 0] 130)
  simp only [World.size_alloc] at this
  exact this
end Go.Proofs.Ytpebepjfgnoaaaa
