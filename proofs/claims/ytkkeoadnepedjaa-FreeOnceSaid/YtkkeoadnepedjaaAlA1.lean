/- An alloc alone, in numbers: no room; an object made. -/
import Derived.Test.YtkkeoadnepedjaaAlA0
namespace Go.Proofs.Ytkkeoadnepedjaa
set_option linter.unusedVariables false
set_option linter.unusedSimpArgs false
open Go.RowKit
theorem dNext_in {g : Int} (h : 0 ≤ g) (h' : g ≤ 4294967295) : 0 ≤ dNext g ∧ dNext g ≤ 4294967295 := by unfold dNext; split <;> omega
section
variable {c : AlC} {ws bs : List Int} {k top g : Int} (P : AlPre c ws bs k top g)
include P
theorem al_room (b1 : 1 ≤ c.by') (b2 : c.by' ≤ 256) : alNoRoom c top = decide (c.ar - c.by' < top) := by
  have := P.p0; have := P.a8; have := P.a4
  unfold alNoRoom
  rw [wr_in (by omega) (by omega), show decide (top < 0) = false from decide_eq_false (by omega), Bool.false_or]
/-- no room. -/
theorem al_noroom (b1 : 1 ≤ c.by') (b2 : c.by' ≤ 256) (hk : k < c.s) (hr : c.ar - c.by' < top) : ∃ q N, mRun (alF1 c) 1000 1000 ⟨ws, bs, alV0 1⟩ = (q, (10, 0), N) ∧ q.bs = bs ∧ q.ws.length = ws.length ∧ ∀ j, wAt q.ws j = if j = 1 then topAt c.s k + 1048576 * dNext (dNext g) else wAt ws j := by
  obtain ⟨o0, o1, o2⟩ := al_o0 P
  have t1 := P.t1; have s1 := P.s1; have k0 := P.k0; have s64 := P.s64
  obtain ⟨v, ws2, hg2, hv, L2, A2⟩ := al_took P (by omega) hk
  have len := P.len
  have hl := al_lof (c := c) (q := 2) k0 hk
  have tb' := topAt_bd (k := k + 1) (by omega) P.s64
  obtain ⟨n0, n1⟩ := dNext_in P.g0 P.g1
  obtain ⟨d1, d2, d3, d4⟩ := head_is tb'.1 tb'.2 n0 n1
  obtain ⟨pp, hpp⟩ : ∃ x, v.p = x := ⟨_, rfl⟩
  rw [hpp] at hv
  subst hv
  have h1 := goes.one (g4r (c := c) (ws := ws2) (bs := bs) (v := { alV0 1 with nx := 4, sl := k, p := pp }) (f := top) rfl (by rw [o0, A2, if_neg (by omega), if_neg (by omega), P.fr]) (by rw [al_room P b1 b2, decide_eq_true_eq]; exact hr))
  have hw2 : wAt ws2 1 = topAt c.s (k + 1) + 1048576 * dNext g := by rw [A2, if_pos rfl]
  have hp1 : pushStep c.t c.s ws2 1 k 0 0 = ⟨ws2, 2, k, topAt c.s (k + 1) + 1048576 * dNext g, 0, 0, 0, false⟩ := by
    unfold pushStep
    rw [if_pos rfl, hl, if_neg (by omega), o1, hw2, if_pos d1]
  have hd : dPush (topAt c.s (k + 1) + 1048576 * dNext g) k = (k + 1 + 1048576 * dNext (dNext g), topAt c.s (k + 1), 0) := by
    unfold dPush
    rw [if_pos d1, if_pos (by omega), d3, d4]
  obtain ⟨ws3, e3⟩ : ∃ x, wPut ws2 (4 + c.t + 3 * k + 2) (topAt c.s (k + 1)) = x := ⟨_, rfl⟩
  have L3 : ws3.length = ws.length := by rw [← e3, wPut_len, L2]
  have hp2 : pushStep c.t c.s ws2 2 k (topAt c.s (k + 1) + 1048576 * dNext g) 0 = ⟨ws3, 3, k, topAt c.s (k + 1) + 1048576 * dNext g, k + 1 + 1048576 * dNext (dNext g), 0, 0, false⟩ := by
    unfold pushStep
    rw [if_neg (by decide), if_pos rfl, hl, hd, e3]
  have A3 : ∀ j, wAt ws3 j = wAt ws2 j := by
    intro j
    rw [← e3, wAt_put (wIn_len (by rw [L2, len]) (by omega) (by omega))]
    split
    · rename_i e; rw [e, A2, if_neg (by omega), if_neg (by omega), P.lk k (by omega) hk]
    · rfl
  have I3 : wIn ws3 1 = true := wIn_len (by rw [L3, len]) (by omega) (by omega)
  have hcas : wCas ws3 1 (topAt c.s (k + 1) + 1048576 * dNext g) = true := by unfold wCas; rw [I3, A3, hw2]; simp
  obtain ⟨ws4, e4⟩ : ∃ x, wPut ws3 1 (k + 1 + 1048576 * dNext (dNext g)) = x := ⟨_, rfl⟩
  have L4 : ws4.length = ws.length := by rw [← e4, wPut_len, L3]
  have A4 : ∀ j, wAt ws4 j = if j = 1 then k + 1 + 1048576 * dNext (dNext g) else wAt ws3 j := fun j => by rw [← e4, wAt_put I3]
  have hp3 : pushStep c.t c.s ws3 3 k (topAt c.s (k + 1) + 1048576 * dNext g) (k + 1 + 1048576 * dNext (dNext g)) = ⟨ws4, 0, k, topAt c.s (k + 1) + 1048576 * dNext g, k + 1 + 1048576 * dNext (dNext g), 0, 0, true⟩ := by
    unfold pushStep wCasPut
    rw [if_neg (by decide), if_neg (by decide), if_pos rfl, o1, if_pos hcas, if_pos hcas, e4]
  have h2 := goes.one (g6 (c := c) (ws := ws2) (bs := bs) (v := { alV0 1 with nx := 6, sl := k, p := pp, f := top, kp := 10, gv := some ⟨1, k, 0, 0⟩ }) rfl rfl hp1)
  have h3 := goes.one (g6 (c := c) (ws := ws2) (bs := bs) (v := { alV0 1 with nx := 6, sl := k, p := pp, f := top, kp := 10, gv := some ⟨2, k, topAt c.s (k + 1) + 1048576 * dNext g, 0⟩ }) rfl rfl hp2)
  have h4 := goes.one (g6d (c := c) (ws := ws3) (bs := bs) (v := { alV0 1 with nx := 6, sl := k, p := pp, f := top, kp := 10, gv := some ⟨3, k, topAt c.s (k + 1) + 1048576 * dNext g, k + 1 + 1048576 * dNext (dNext g)⟩ }) rfl rfl hp3)
  have I4 : wIn ws4 2 = true := wIn_len (by rw [L4, len]) (by omega) (by omega)
  obtain ⟨h5, h6⟩ := al_leave (c := c) (ws := ws4) (bs := bs) (v := { alV0 1 with nx := 11, sl := k, p := pp, f := top, kp := 10, gv := some ⟨0, k, topAt c.s (k + 1) + 1048576 * dNext g, k + 1 + 1048576 * dNext (dNext g)⟩ }) t1 I4 (by rw [A4, if_neg (by omega), A3, A2, if_neg (by omega), if_pos rfl]) rfl
  obtain ⟨N, hN⟩ := (((((hg2.trans h1).trans h2).trans h3).trans h4).trans h5).fin h6 (most := 1000) (by decide)
  refine ⟨_, N, hN, rfl, by show (wPut ws4 2 0).length = _; rw [wPut_len, L4], fun j => ?_⟩
  show wAt (wPut ws4 2 0) j = _
  have hz : topAt c.s k = k + 1 := by unfold topAt; rw [if_pos hk]
  rw [wAt_put I4, A4, A3, A2, hz]
  by_cases j1 : j = 1
  · rw [if_pos j1, if_neg (by omega), if_pos j1]
  · rw [if_neg j1, if_neg j1, if_neg j1]
    by_cases j2 : j = 2
    · rw [if_pos j2, j2, P.pe]
    · rw [if_neg j2, if_neg j2]
end
/-- the bytes, j of them cleared from top on. -/
def clr (bs : List Int) (top : Int) : Nat → List Int
  | 0 => bs
  | j + 1 => wPut (clr bs top j) (top + j) 0
theorem clr_len (bs : List Int) (top : Int) : ∀ j, (clr bs top j).length = bs.length
  | 0 => rfl
  | j + 1 => by rw [clr, wPut_len, clr_len bs top j]
theorem clr_at {bs : List Int} {top : Int} (h0 : 0 ≤ top) : ∀ (j : Nat), top + j ≤ bs.length → ∀ i, wAt (clr bs top j) i = if top ≤ i ∧ i < top + j then 0 else wAt bs i
  | 0, _, i => by rw [clr, if_neg (by omega)]
  | j + 1, h, i => by
    rw [clr, wAt_put (by rw [wIn_iff, clr_len]; omega), clr_at h0 j (by omega)]
    by_cases e : i = top + j
    · rw [if_pos e, if_pos (by omega)]
    · rw [if_neg e]
      by_cases e2 : top ≤ i ∧ i < top + j
      · rw [if_pos e2, if_pos (by omega)]
      · rw [if_neg e2, if_neg (by omega)]
def WB (bs : List Int) : Prop := ∀ x ∈ bs, 0 ≤ x ∧ x < 256
theorem WB.put {bs : List Int} (h : WB bs) (k : Int) {n : Int} (h0 : 0 ≤ n) (h1 : n < 256) : WB (wPut bs k n) := by
  intro x hx
  unfold wPut at hx
  split at hx
  · rcases List.mem_or_eq_of_mem_set hx with hx | hx
    · exact h x hx
    · subst hx; exact ⟨h0, h1⟩
  · exact h x hx
theorem WB.clr {bs : List Int} (h : WB bs) (top : Int) : ∀ j, WB (clr bs top j)
  | 0 => h
  | j + 1 => (WB.clr h top j).put _ (by decide) (by decide)
theorem al_cleared {c : AlC} {ws bs : List Int} {v : AlV} (h7 : v.nx = 7) (ha : v.a = 0) (b2 : c.by' ≤ 256) (f0 : 0 ≤ v.f) (f1 : v.f ≤ 4096) : ∀ (j : Nat), (j : Int) < c.by' → goes (alF1 c) j ⟨ws, bs, v⟩ ⟨ws, clr bs v.f j, { v with a := j }⟩
  | 0, _ => fun most k => by
    rw [show ({ v with a := ((0 : Nat) : Int) } : AlV) = v by cases v; simp only at ha; subst ha; rfl]; rfl
  | j + 1, hj => by
    have ih := al_cleared (c := c) (ws := ws) (bs := bs) h7 ha b2 f0 f1 j (by omega)
    have e1 : wrap64 ((j : Int) + 1) = ((j + 1 : Nat) : Int) := by rw [wr_in (by omega) (by omega)]; omega
    have h := goes.one (g7 (c := c) (ws := ws) (bs := clr bs v.f j) (v := { v with a := j }) h7 (by dsimp only; rw [e1]; omega))
    dsimp only at h
    rw [e1, wr_in (n := v.f + j) (by omega) (by omega)] at h
    have := ih.trans h
    rw [Nat.add_comm] at this
    exact this
end Go.Proofs.Ytkkeoadnepedjaa
