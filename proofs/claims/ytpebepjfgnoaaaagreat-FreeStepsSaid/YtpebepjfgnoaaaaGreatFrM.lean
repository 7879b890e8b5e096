/- free's Step, whole; law 15's make1; New. -/
import Derived.LoopTactic
import Derived.Outline
import Derived.RegionTactic
import Derived.BigRegion
import Derived.Deep.RegionHeld3
import Derived.Deep.DeepCutAuto
import Derived.Test.YtpebepjfgnoaaaaGreatFrT
import Derived.Test.YtpebepjfgnoaaaaGreatFrS
import Derived.Test.YtpebepjfgnoaaaaGreatAlR
import Derived.Test.YtpebepjfgnoaaaaGreatS15
import Derived.Test.YtpebepjfgnoaaaaGreatRun15
namespace Go.Proofs.YtpebepjfgnoaaaaGreat
set_option linter.unusedVariables false
set_option linter.unusedSimpArgs false
open Go.RowKit
def FrIn (v : FrV) : Prop := 0 ≤ v.nx ∧ v.nx ≤ 3 ∧ (1 ≤ v.nx → v.nx ≤ 2 → v.gv = none) ∧ (v.nx = 3 → ∃ g, v.gv = some g)
theorem frStep0 {c : FrC} {ws : List Int} {v : FrV} (h : v.nx = 0) : frStep c ws v = ⟨ws, v, 1, true⟩ := by unfold frStep; rw [if_pos h]
theorem frStep1s {c : FrC} {ws : List Int} {v : FrV} (h : v.nx = 1) (hs : c.st = true) : frStep c ws v = ⟨ws, { v with nx := 0 }, 4, true⟩ := by unfold frStep; rw [if_neg (by omega), if_pos h, if_pos hs]
theorem frStep1 {c : FrC} {ws : List Int} {v : FrV} {x : Int} (h : v.nx = 1) (hs : c.st = false) (hx : wAt ws (lOf c.t c.s c.sl 0) = x) : frStep c ws v = ⟨ws, (frLook c x v).1, (frLook c x v).2.1, (frLook c x v).2.2⟩ := by unfold frStep; rw [if_neg (by omega), if_pos h, if_neg (by rw [hs]; decide), hx]
theorem frStep2 {c : FrC} {ws : List Int} {v : FrV} (h : v.nx = 2) : frStep c ws v = (if wCas ws (lOf c.t c.s c.sl 0) v.wd = true then (if v.mo = true then ⟨wCasPut ws (lOf c.t c.s c.sl 0) v.wd v.tw, { v with nx := 3, gv := some ⟨1, c.sl, 0, 0⟩ }, 0, false⟩ else ⟨wCasPut ws (lOf c.t c.s c.sl 0) v.wd v.tw, { v with nx := 0 }, 0, true⟩) else ⟨ws, { v with nx := 1 }, 0, false⟩) := by
  unfold frStep; rw [if_neg (by omega), if_neg (by omega), if_pos h]
theorem frStep3 {c : FrC} {ws : List Int} {v : FrV} {g : StV} (h : v.nx = 3) (hg : v.gv = some g) {r : StepR} (hr : pushStep c.t c.s ws g.nx g.sl g.wd g.tw = r) : frStep c ws v = if r.done = true then ⟨r.ws, { v with nx := 0, gv := some ⟨r.nx, r.sl, r.wd, r.to⟩ }, 0, true⟩ else ⟨r.ws, { v with gv := some ⟨r.nx, r.sl, r.wd, r.to⟩ }, 0, false⟩ := by
  unfold frStep; rw [if_neg (by omega), if_neg (by omega), if_neg (by omega), hg]; dsimp only; rw [hr]
theorem fr_Step {B : Nat} {W w : World} {R0 : List Grp} {x p bw bb : Nat} {ws bs : List Int} {n : Int} {c : FrC} {v : FrV} (hP : Owns B W w (memG p bw bb ws bs n :: frG x c v :: R0)) (hL : lOk c.t c.s) (hl : ws.length ≤ 4096) (hv : FrIn v) (q : FrR) (hq : frStep c ws v = q) :
    Calls Tryz.prog 10 #[.pointer (some ⟨x, 0, none⟩), memI p] w (FrPost B W R0 x p bw bb bs c q) := by
  subst hq
  obtain ⟨n0, n3, n2, n4⟩ := hv
  have hc : v.nx = 0 ∨ v.nx = 1 ∨ v.nx = 2 ∨ v.nx = 3 := by omega
  rcases hc with h | h | h | h
  · rw [frStep0 h]; exact fr_Step_0 hP h
  · cases hs : c.st
    · rw [frStep1 h hs rfl]; exact fr_Step_1 hP h _ (fun k => fr_look_live k hs hL hl _ rfl _ (Lib.hid rfl))
    · rw [frStep1s h hs]; exact fr_Step_1 hP h ({ v with nx := 0 }, 4, true) (fun k => fr_look_stale k hs)
  · rw [frStep2 h]; exact fr_Step_2 hP h _ (fun k => fr_swap k (n2 (by omega) (by omega)) hL hl _ rfl _ rfl _ rfl)
  · obtain ⟨g, hg⟩ := n4 h
    rw [frStep3 h hg rfl]; exact fr_Step_3 hP h g hg hL hl _ rfl
theorem frLook_in (c : FrC) (x : Int) (v : FrV) (h : v.nx = 1) (hg : v.gv = none) : FrIn (frLook c x v).1 := by
  have A : ∀ v' : FrV, v'.gv = none → 0 ≤ v'.nx → v'.nx ≤ 2 → FrIn v' := fun v' a b d => ⟨b, by omega, fun _ _ => a, fun e => by omega⟩
  unfold frLook
  split
  · split
    · exact A _ hg (show (0 : Int) ≤ 0 by decide) (show (0 : Int) ≤ 2 by decide)
    · split
      · exact A _ hg (show (0 : Int) ≤ 2 by decide) (show (2 : Int) ≤ 2 by decide)
      · exact A _ hg (show 0 ≤ v.nx by omega) (show v.nx ≤ 2 by omega)
  · exact A _ hg (show (0 : Int) ≤ 0 by decide) (show (0 : Int) ≤ 2 by decide)
theorem frStep_in (c : FrC) (ws : List Int) (v : FrV) (hv : FrIn v) : FrIn (frStep c ws v).v := by
  have A : ∀ v' : FrV, v'.gv = none → 0 ≤ v'.nx → v'.nx ≤ 2 → FrIn v' := fun v' a b d => ⟨b, by omega, fun _ _ => a, fun e => by omega⟩
  have Z : ∀ v' : FrV, v'.nx = 0 → FrIn v' := fun v' a => ⟨by omega, by omega, fun _ _ => by omega, fun e => by omega⟩
  have T : ∀ (v' : FrV) (g : StV), v'.nx = 3 → v'.gv = some g → FrIn v' := fun v' g a b => ⟨by omega, by omega, fun _ _ => by omega, fun _ => ⟨g, b⟩⟩
  have hv0 := hv
  obtain ⟨n0, n3, n2, n4⟩ := hv
  have hc : v.nx = 0 ∨ v.nx = 1 ∨ v.nx = 2 ∨ v.nx = 3 := by omega
  rcases hc with h | h | h | h
  · rw [frStep0 h]; exact hv0
  · cases hs : c.st
    · rw [frStep1 h hs rfl]; exact frLook_in c _ v h (n2 (by omega) (by omega))
    · rw [frStep1s h hs]; exact Z _ rfl
  · rw [frStep2 h]; split
    · split
      · exact T _ _ rfl rfl
      · exact Z _ rfl
    · exact A _ (n2 (by omega) (by omega)) (show (0 : Int) ≤ 1 by decide) (show (1 : Int) ≤ 2 by decide)
  · obtain ⟨g, hg⟩ := n4 h
    rw [frStep3 h hg rfl]; split
    · exact Z _ rfl
    · exact T _ _ h rfl
theorem frStep_len (c : FrC) (ws : List Int) (v : FrV) (hv : FrIn v) : (frStep c ws v).ws.length = ws.length := by
  obtain ⟨n0, n3, n2, n4⟩ := hv
  have hc : v.nx = 0 ∨ v.nx = 1 ∨ v.nx = 2 ∨ v.nx = 3 := by omega
  rcases hc with h | h | h | h
  · rw [frStep0 h]
  · cases hs : c.st
    · rw [frStep1 h hs rfl]
    · rw [frStep1s h hs]
  · rw [frStep2 h]; split
    · split <;> exact wCasPut_len _ _ _ _
    · rfl
  · obtain ⟨g, hg⟩ := n4 h
    rw [frStep3 h hg rfl]; split <;> exact pushStep_len _ _ _ _ _ _ _
structure FrQ where
  ws : List Int
  v : FrV
def frF1 (c : FrC) (q : FrQ) : FrQ × (Int × Int) × Bool :=
  let r := frStep c q.ws q.v
  (⟨r.ws, r.v⟩, (r.code, 0), r.done)
set_option maxHeartbeats 1000000 in
theorem free_run {B : Nat} {W w : World} {R : List Grp} {x p bw bb : Nat} {ws bs : List Int} {n : Int} {c : FrC} {v : FrV} (most : Nat) (hm : most ≤ 1000000) (hO : Owns B W w (memG p bw bb ws bs n :: frG x c v :: R)) (hL : lOk c.t c.s) (hl : ws.length ≤ 4096) (hv : FrIn v) (r : FrQ × (Int × Int) × Int) (hr : mRun (frF1 c) most most ⟨ws, v⟩ = r) :
    Calls Tryz.prog 19 #[.pointer (some ⟨p, 0, none⟩), .pointer (some ⟨x, 0, none⟩), .int .i64 most] w fun e w' => e = .returned (resN r.2.1 r.2.2) ∧
      ∃ m y, Owns B W w' (memG p bw bb r.1.ws bs m :: frG x { c with gp := y } r.1.v :: R) := by
  subst hr
  refine (law15_run (frF1 c) (fun q (m : Int × Nat) => memG p bw bb q.ws bs m.1 :: frG x { c with gp := m.2 } q.v :: R) (fun q => q.ws.length ≤ 4096 ∧ FrIn q.v) (fun q hq => ⟨by show (frStep _ _ _).ws.length ≤ 4096; rw [frStep_len _ _ _ hq.2]; exact hq.1, frStep_in _ _ _ hq.2⟩) x p ?_ most hm ⟨ws, v⟩ (n, c.gp) w hO ⟨hl, hv⟩).mono ?_
  · intro q m G w hq hO
    refine (fr_Step hO hL hq.1 hq.2 _ rfl).mono ?_
    rintro e w' ⟨he, m', y', hO'⟩
    exact ⟨he, (m', y'), hO'⟩
  · rintro e w' ⟨he, m', hO'⟩
    exact ⟨he, m'.1, m'.2, hO'⟩
def frNewC (a s t h : Int) : FrC := ⟨ofT a s t, ofS a s t, (hOf h s).1, (hOf h s).2.1, (hOf h s).2.2 != 0, 0⟩
def frV0 (nx : Int) : FrV := ⟨nx, 0, 0, false, none⟩
theorem frV0_in (a s t : Int) : FrIn (frV0 (alNx a s t)) := by unfold alNx; split <;> exact ⟨by decide, by decide, fun _ _ => rfl, fun e => absurd e (by decide)⟩
theorem frV1_in : FrIn (frV0 1) := ⟨by decide, by decide, fun _ _ => rfl, fun e => absurd e (by decide)⟩
set_option maxRecDepth 100000 in
set_option maxHeartbeats 4000000 in
theorem free_New {B : Nat} {W w : World} {G : List Grp} (a s t h : Int) (l : -9223372036854775808 ≤ h) (u : h ≤ 9223372036854775807) (hO : Owns B W w G) : Calls Tryz.prog 8 #[.agg #[.int .i64 a, .int .i64 s, .int .i64 t], .int .i64 h] w fun e w' =>
    ∃ x, e = .returned (.pointer (some ⟨x, 0, none⟩)) ∧ Owns B W w' (frG x (frNewC a s t h) (frV0 (alNx a s t)) :: G) := by
  obtain ⟨T, hT⟩ : ∃ T, ofT a s t = T := ⟨_, rfl⟩
  obtain ⟨S, hS⟩ : ∃ S, ofS a s t = S := ⟨_, rfl⟩
  obtain ⟨sl, ge, f, hf⟩ : ∃ sl ge f, hOf h s = (sl, ge, f) := ⟨_, _, _, rfl⟩
  have HT := Lib.hid hT
  have HS := Lib.hid hS
  have HF := Lib.hid hf
  unfold frNewC
  rw [hT, hS, hf]
  clear hT hS hf
  have key : ∀ (E N : Int) (b c : Bool), ofE a s t = E → (E == 0) = b → alNx a s t = N → (N = if b = true then 1 else 0) → (f != 0) = c → Calls Tryz.prog 8 #[.agg #[.int .i64 a, .int .i64 s, .int .i64 t], .int .i64 h] w fun e w' =>
      ∃ x, e = .returned (.pointer (some ⟨x, 0, none⟩)) ∧ Owns B W w' (frG x ⟨T, S, sl, ge, c, 0⟩ (frV0 N) :: G) := by
    intro E N b c hE hb hN hNb hc
    have HE := Lib.hid hE
    have hbn : (E != 0) = !b := by rw [← hb]; rfl
    have HNB := Lib.hid hNb
    clear hE hN hNb
    cases b <;> cases c
    all_goals
      go_enter Tryz.func8, Tryz.ntmps8
      go_wp2_with fail
      have hO := hO.alloc (.cells #[.int .i64 a, .int .i64 s, .int .i64 t] 23)
      generalize hcb : w.heap.size = cb at hO ⊢
      clear hcb
      generalize w.alloc (.cells #[.int .i64 a, .int .i64 s, .int .i64 t] 23) = w0 at hO ⊢
      refine (layout_Of _ _ _ _).mono ?_; rw [HT.out, HS.out, HE.out]; rintro e w1 ⟨rfl, hb⟩; have hO := hO.via hb
      have a1 : w1.cell? ⟨cb, 1, none⟩ = some (Value.int .i64 s) := hO.cell 0 0 rfl rfl 1
      have hz := hO.lt 0 0 rfl rfl
      go_wp2_with (go_at_call 28; refine (handle_of _ _ _ l u).mono ?_; rw [HF.out]; rintro e w2 ⟨rfl, rfl⟩)
      go_ret
      refine ⟨_, rfl, ?_⟩
      rw [HNB.out]
      have hO := (hO.drop 0).alloc (.cells #[.int .i64 T, .int .i64 S] 56)
      first
        | (have h2 := hO.alloc (.cells (frArr ⟨T, S, sl, ge, false, 0⟩ (frV0 0)) 75); simp only [World.size_alloc] at h2; exact h2.swap.tail)
        | (have h2 := hO.alloc (.cells (frArr ⟨T, S, sl, ge, true, 0⟩ (frV0 0)) 75); simp only [World.size_alloc] at h2; exact h2.swap.tail)
        | (have h2 := hO.alloc (.cells (frArr ⟨T, S, sl, ge, false, 0⟩ (frV0 1)) 75); simp only [World.size_alloc] at h2; exact h2.swap.tail)
        | (have h2 := hO.alloc (.cells (frArr ⟨T, S, sl, ge, true, 0⟩ (frV0 1)) 75); simp only [World.size_alloc] at h2; exact h2.swap.tail)
  exact key _ _ _ _ rfl rfl rfl (by unfold ofE alNx; cases cfgOk a s t <;> rfl) rfl
def Made1 (B : Nat) (W : World) (R : List Grp) (p bw bb : Nat) (ws bs : List Int) (a s t n : Int) (e : Ending) (w' : World) : Prop :=
  ∃ tk r, mRun (alF1 (alC0 a s t n tk)) 1000 1000 ⟨ws, bs, alV0 1⟩ = r ∧ e = .returned (.agg #[.int .i64 r.2.1.1, .int .i64 r.2.1.2]) ∧ ∃ m, Owns B W w' (memG p bw bb r.1.ws r.1.bs m :: R)
theorem alOne_in : AlIn (alV0 1) := ⟨by decide, by decide, fun _ _ => rfl, fun e => absurd e (by decide)⟩
set_option maxRecDepth 100000 in
set_option maxHeartbeats 8000000 in
theorem law15_make1 {B : Nat} {W w : World} {R : List Grp} {p bw bb : Nat} {ws bs : List Int} {n0 : Int} (a s t n : Int) (hc : cfgOk a s t = true) (hP : Owns B W w (memG p bw bb ws bs n0 :: R)) (hl : ws.length ≤ 4096) (hb : bs.length ≤ 4096) :
    Calls Tryz.prog 18 #[.pointer (some ⟨p, 0, none⟩), .agg #[.int .i64 a, .int .i64 s, .int .i64 t], .int .i64 n] w (Made1 B W R p bw bb ws bs a s t n) := by
  have CK := Lib.hid hc
  have hn1 : alNx a s t = 1 := by unfold alNx; rw [if_pos hc]
  have N1 := Lib.hid hn1
  have LO := Lib.hid (fun tk => show lOk (alC0 a s t n tk).t (alC0 a s t n tk).s by unfold alC0; obtain ⟨e1, e2, -⟩ := of_yes hc; rw [e1, e2]; exact lOk_yes hc)
  have HLB := Lib.hid (And.intro hl hb)
  clear hc hn1 hl hb
  go_enter Tryz.func18, Tryz.ntmps18
  go_upto_region 1 with fail
  have hO' := (hP.alloc (.cells #[.int .i64 a, .int .i64 s, .int .i64 t] 23)).alloc (.cells #[.int .i64 0, .int .i64 0] 43); clear hP; have hP := hO'; clear hO'
  simp only [World.size_alloc] at hP
  generalize hcb : w.heap.size = cb at hP ⊢
  clear hcb
  generalize hrb : cb + 1 = rb at hP ⊢
  clear hrb
  generalize World.alloc (World.alloc w _) _ = w0 at hP ⊢
  have a0 : w0.cell? ⟨cb, 0, none⟩ = some (Value.int .i64 a) := hP.cell 1 0 rfl rfl 0
  have a1 : w0.cell? ⟨cb, 1, none⟩ = some (Value.int .i64 s) := hP.cell 1 0 rfl rfl 1
  have a2 : w0.cell? ⟨cb, 2, none⟩ = some (Value.int .i64 t) := hP.cell 1 0 rfl rfl 2
  go_wp2_with fail
  clear a0 a1 a2
  refine (alloc_New a s t n hP).mono ?_; rintro e w1 ⟨x, tk, rfl, hO'⟩; rw [N1.out] at hO'; clear hP; have hP := hO'; clear hO'
  have hO' : Owns B W w1 (memG p bw bb ws bs n0 :: alG x (alC0 a s t n tk) (alV0 1) :: [(rb, Obj.cells #[.int .i64 0, .int .i64 0] 43 (0, 0))] :: R) := by
    have h := hP.drop 2
    exact own3 h
  clear hP; have hP := hO'; clear hO'
  obtain ⟨c, hc⟩ : ∃ c, alC0 a s t n tk = c := ⟨_, rfl⟩
  have HC := Lib.hid hc
  have LO2 := Lib.hid (LO.out tk)
  rw [hc] at hP LO2
  clear hc LO
  go_wp2_with fail
  have hm := fun (q : AlQ) (h : AlIn q.v) => alStep_len c q.ws q.bs q.v h
  have HM := Lib.hid hm
  clear hm
  go_loopw [8] (fun i wr => ∃ (j k : Nat) (q2 : AlQ) (m2 : Int) (y2 : Nat), i = .int .i64 j ∧ j + k = 1000 ∧ (q2.ws.length ≤ 4096 ∧ q2.bs.length ≤ 4096 ∧ AlIn q2.v) ∧ mRun (alF1 c) 1000 k q2 = mRun (alF1 c) 1000 1000 ⟨ws, bs, alV0 1⟩ ∧ Owns B W wr (memG p bw bb q2.ws q2.bs m2 :: alG x { c with gp := y2 } q2.v :: [(rb, Obj.cells #[.int .i64 0, .int .i64 0] 43 (0, 0))] :: R)) (fun i _ => 1000 - (intOf i).toNat)
  case atStart => exact ⟨0, 1000, ⟨ws, bs, alV0 1⟩, _, c.gp, rfl, by omega, ⟨HLB.out.1, HLB.out.2, alOne_in⟩, rfl, hP⟩
  case round =>
    clear hP
    obtain ⟨j, k, q2, m2, y2, rfl, hjk, hi2, heq, hP⟩ := hrel
    have HQ := Lib.hid heq
    have HI := Lib.hid hi2
    clear heq hi2
    cases k with
    | zero =>
      have hjm : ¬ (j : Int) < 1000 := by omega
      have e := HQ.out
      rw [show mRun (alF1 c) 1000 0 q2 = (q2, (-1, 0), 1000) from rfl] at e
      have d0 := hP.cell 2 0 rfl rfl 0
      have d1 := hP.cell 2 0 rfl rfl 1
      have f0 := blk_free (hP.get 2 0 rfl rfl) 0
      have f1 := blk_free (hP.get 2 0 rfl rfl) 1
      have hO2 := (hP.set 2 0 rfl rfl 0 (.int .i64 (-1))).set 2 0 rfl rfl 1 (.int .i64 0)
      go_wp2_with fail
      generalize (World.setCell (World.setCell _ _ _) _ _) = w5 at hO2 ⊢
      have e0 := hO2.cell 2 0 rfl rfl 0
      have e1 := hO2.cell 2 0 rfl rfl 1
      exact bodyPost_ret (v := .agg #[.int .i64 (-1), .int .i64 0]) (by simp [results, Tryz.results18, go_sem, e0, e1]) rfl ⟨tk, (q2, (-1, 0), 1000), by rw [HC.out]; exact e.symm, rfl, _, (hO2.drop 2).drop 1⟩
    | succ k =>
      have hjm : (j : Int) < 1000 := by omega
      obtain ⟨⟨ws3, bs3, v3⟩, ⟨cd, rn⟩, b, hf⟩ : ∃ q3 r b, alF1 c q2 = (q3, r, b) := ⟨_, _, _, rfl⟩
      have hs := al_Step hP LO2.out HI.out.1 HI.out.2.1 HI.out.2.2 ⟨ws3, bs3, v3, cd, rn, b⟩ (by unfold alF1 at hf; simp only [Prod.mk.injEq, AlQ.mk.injEq] at hf; obtain ⟨⟨h1, h2, h3⟩, ⟨h4, h5⟩, h6⟩ := hf; show alStep c _ _ _ = _; cases hq : alStep c q2.ws q2.bs q2.v; rw [hq] at h1 h2 h3 h4 h5 h6; simp only at h1 h2 h3 h4 h5 h6; subst h1 h2 h3 h4 h5 h6; rfl)
      have hi3 : ws3.length ≤ 4096 ∧ bs3.length ≤ 4096 ∧ AlIn v3 := by
        have e1 : (alF1 c q2).1 = ⟨ws3, bs3, v3⟩ := by rw [hf]
        have l := HM.out q2 HI.out.2.2
        have i := alStep_in c q2.ws q2.bs q2.v HI.out.2.2
        unfold alF1 at e1
        simp only [AlQ.mk.injEq] at e1
        obtain ⟨h1, h2, h3⟩ := e1
        rw [← h1, ← h2, ← h3, l.1, l.2]
        exact ⟨HI.out.1, HI.out.2.1, i⟩
      have HS := Lib.hid hs
      have HF := Lib.hid hf
      clear hs hf
      cases b with
      | true =>
        have e := HQ.out
        rw [mRun_done (by rw [HF.out]), HF.out] at e
        go_wp2_with (go_at_call 42; go_loud (refine HS.out.mono ?_; unfold AlPost resV; rintro e w1 ⟨rfl, m3, y3, hO'⟩; clear hP; have hP := hO'; clear hO'; have hz := hP.lt 2 0 rfl rfl; have d0 := hP.cell 2 0 rfl rfl 0; have d1 := hP.cell 2 0 rfl rfl 1; have f0 := blk_free (hP.get 2 0 rfl rfl) 0; have f1 := blk_free (hP.get 2 0 rfl rfl) 1))
        have hO2 := ((hP.set 2 0 rfl rfl 0 (.int .i64 cd)).set 2 0 rfl rfl 1 (.int .i64 rn)).via (below_alloc _ (.cells #[.int .i64 cd, .int .i64 rn] 43))
        generalize World.alloc _ _ = w5 at hO2 ⊢
        have e0 := hO2.cell 2 0 rfl rfl 0
        have e1 := hO2.cell 2 0 rfl rfl 1
        exact bodyPost_ret (v := .agg #[.int .i64 cd, .int .i64 rn]) (by simp [results, Tryz.results18, go_sem, e0, e1]) rfl ⟨tk, (⟨ws3, bs3, v3⟩, (cd, rn), ((1000 - k : Nat) : Int)), by rw [HC.out]; exact e.symm, rfl, _, (hO2.drop 2).drop 1⟩
      | false =>
        go_wp2_with (go_at_call 42; refine HS.out.mono ?_; unfold AlPost resV; rintro e w1 ⟨rfl, m3, y3, hO'⟩; clear hP; have hP := hO'; clear hO')
        go_roundw
        case rel => exact ⟨j + 1, k, ⟨ws3, bs3, v3⟩, m3, y3, by go_num, by omega, hi3, by rw [← HQ.out, mRun_more (by rw [HF.out]), HF.out], hP.via (below_alloc _ _)⟩
        case measure => simp [intOf]; omega
end Go.Proofs.YtpebepjfgnoaaaaGreat
