/- An alloc alone, in numbers, into a slot whose entry has any generation. -/
import Derived.Test.YtkkeoadnepedjaaAlA2
namespace Go.Proofs.Ytkkeoadnepedjaa
set_option linter.unusedVariables false
set_option linter.unusedSimpArgs false
open Go.RowKit
structure AlPg (c : AlC) (ws bs : List Int) (k top g x G : Int) : Prop where
  t1 : 1 ≤ c.t
  t4 : c.t ≤ 4
  s1 : 1 ≤ c.s
  s64 : c.s ≤ 64
  a8 : 8 ≤ c.ar
  a4 : c.ar ≤ 4096
  len : ws.length = (4 + c.t + 3 * c.s).toNat
  bl : bs.length = c.ar.toNat
  fr : wAt ws 0 = top
  st : wAt ws 1 = topAt c.s k + 1048576 * g
  g0 : 0 ≤ g
  g1 : g ≤ 4294967295
  pe : wAt ws 2 = 0
  lk : ∀ i, k ≤ i → i < c.s → wAt ws (4 + c.t + 3 * i + 2) = topAt c.s (i + 1)
  ek : wAt ws (4 + c.t + 3 * k) = x
  k0 : 0 ≤ k
  ks : k < c.s
  p0 : 0 ≤ top
  pa : top ≤ c.ar
  x0 : eOk x = 0
  xA : uA x = false
  xG : uG x = G
section
variable {c : AlC} {ws bs : List Int} {k top g x G : Int} (P : AlPg c ws bs k top g x G)
include P
theorem pg_o0 : lOnce c.t 0 = 0 ∧ lOnce c.t 1 = 1 ∧ lOnce c.t 2 = 2 := by
  have := P.t1
  unfold lOnce; rw [if_neg (by omega), if_neg (by omega), if_neg (by omega)]; exact ⟨rfl, rfl, rfl⟩
theorem pg_cnt (hb : c.by' ≠ 0) : goes (alF1 c) 2 ⟨ws, bs, alV0 1⟩ ⟨wPut ws 2 1, bs, { alV0 1 with nx := 3 }⟩ := by
  obtain ⟨-, -, o2⟩ := pg_o0 P
  have i2 : wIn ws 2 = true := wIn_len P.len (by omega) (by have := P.t1; have := P.s1; omega)
  have h1 := goes.one (r := (0, 0)) (g1 (c := c) (ws := ws) (bs := bs) (v := alV0 1) (sn := 0) rfl hb (by rw [o2]; exact P.pe))
  have h2 := goes.one (g2 (c := c) (ws := ws) (bs := bs) (v := { alV0 1 with seen := 0, nx := 2 }) rfl (by rw [o2]; unfold wCas; rw [i2, P.pe]; rfl))
  rw [o2, show wrap64 ((0 : Int) + 1) = 1 by unfold wrap64; omega] at h2
  exact h1.trans h2
/-- no slot is left. -/
theorem pg_took (hb : c.by' ≠ 0) : ∃ v ws2, goes (alF1 c) 5 ⟨ws, bs, alV0 1⟩ ⟨ws2, bs, v⟩ ∧ v = { alV0 1 with nx := 4, sl := k, p := v.p } ∧ ws2.length = ws.length ∧ ∀ j, wAt ws2 j = if j = 1 then topAt c.s (k + 1) + 1048576 * dNext g else if j = 2 then 1 else wAt ws j := by
  obtain ⟨o0, o1, o2⟩ := pg_o0 P
  have hk := P.ks; have t1 := P.t1; have s1 := P.s1; have k0 := P.k0; have s64 := P.s64
  have i2 : wIn ws 2 = true := wIn_len P.len (by omega) (by omega)
  have i1 : wIn ws 1 = true := wIn_len P.len (by omega) (by omega)
  obtain ⟨ws1, e1⟩ : ∃ x, wPut ws 2 1 = x := ⟨_, rfl⟩
  have A1 : ∀ j, wAt ws1 j = if j = 2 then 1 else wAt ws j := fun j => by rw [← e1, wAt_put i2]
  have L1 : ws1.length = ws.length := by rw [← e1, wPut_len]
  have I1 : wIn ws1 1 = true := by rw [← e1, wIn_put]; exact i1
  have h0 := pg_cnt P hb
  rw [e1] at h0
  have tb := topAt_bd P.k0 P.s64
  have tb' := topAt_bd (k := k + 1) (by omega) P.s64
  obtain ⟨d1, d2, d3, d4⟩ := head_is tb.1 tb.2 P.g0 P.g1
  have hw : wAt ws1 1 = topAt c.s k + 1048576 * g := by rw [A1, if_neg (by omega), P.st]
  have hz : topAt c.s k = k + 1 := by unfold topAt; rw [if_pos hk]
  have hp : popStep c.t c.s ws1 1 0 0 0 = ⟨ws1, 2, k, topAt c.s k + 1048576 * g, 0, 0, 0, false⟩ := by
    unfold popStep
    rw [if_pos rfl, o1, hw, if_pos d1, d2, if_neg (by omega)]
    congr 1; omega
  have hd : dPop (topAt c.s k + 1048576 * g) (topAt c.s (k + 1)) = (topAt c.s (k + 1) + 1048576 * dNext g, k, 0) := by
    unfold dPop
    rw [if_pos d1, if_pos (by unfold dTop; rw [decide_eq_true_eq]; exact tb'), d3, if_neg (by omega), d4]
    congr 2; omega
  have hlk : wAt ws1 (lOf c.t c.s k 2) = topAt c.s (k + 1) := by rw [al_lof k0 hk, A1, if_neg (by omega)]; exact P.lk k (by omega) hk
  have hp2 : popStep c.t c.s ws1 2 k (topAt c.s k + 1048576 * g) 0 = ⟨ws1, 3, k, topAt c.s k + 1048576 * g, topAt c.s (k + 1) + 1048576 * dNext g, 0, 0, false⟩ := by
    unfold popStep
    rw [if_neg (by decide), if_pos rfl, hlk, hd, if_pos rfl]
  have hcas : wCas ws1 1 (topAt c.s k + 1048576 * g) = true := by unfold wCas; rw [I1, hw]; simp
  have hp3 : popStep c.t c.s ws1 3 k (topAt c.s k + 1048576 * g) (topAt c.s (k + 1) + 1048576 * dNext g) = ⟨wPut ws1 1 (topAt c.s (k + 1) + 1048576 * dNext g), 0, k, topAt c.s k + 1048576 * g, topAt c.s (k + 1) + 1048576 * dNext g, k, 0, true⟩ := by
    unfold popStep wCasPut
    rw [if_neg (by decide), if_neg (by decide), if_pos rfl, o1, if_pos hcas, if_pos hcas]
  have h1 := goes.one (g3 (c := c) (ws := ws1) (bs := bs) (v := { alV0 1 with nx := 3 }) rfl hp)
  have h2 := goes.one (g3 (c := c) (ws := ws1) (bs := bs) (v := { alV0 1 with nx := 3, p := ⟨2, k, topAt c.s k + 1048576 * g, 0⟩ }) rfl hp2)
  have h3 := goes.one (g3d (c := c) (ws := ws1) (bs := bs) (v := { alV0 1 with nx := 3, p := ⟨3, k, topAt c.s k + 1048576 * g, topAt c.s (k + 1) + 1048576 * dNext g⟩ }) rfl hp3)
  refine ⟨_, _, (((h0.trans h1).trans h2).trans h3), rfl, by rw [wPut_len, L1], fun j => ?_⟩
  rw [wAt_put I1, A1]
theorem pg_room (b1 : 1 ≤ c.by') (b2 : c.by' ≤ 256) : alNoRoom c top = decide (c.ar - c.by' < top) := by
  have := P.p0; have := P.a8; have := P.a4
  unfold alNoRoom
  rw [wr_in (by omega) (by omega), show decide (top < 0) = false from decide_eq_false (by omega), Bool.false_or]
/-- no room. -/
theorem pg_made (b1 : 1 ≤ c.by') (b2 : c.by' ≤ 256) (hr : top ≤ c.ar - c.by') : ∃ q N, mRun (alF1 c) 1000 1000 ⟨ws, bs, alV0 1⟩ = (q, (0, (hMake k G).1), N) ∧ q.bs = clr bs top c.by'.toNat ∧ q.ws.length = ws.length ∧
    ∀ j, wAt q.ws j = if j = 0 then top + c.by' else if j = 1 then topAt c.s (k + 1) + 1048576 * dNext g else if j = 4 + c.t + 3 * k then (ePack top G 0 0 false true).1 else if j = 4 + c.t + 3 * k + 1 then c.n else wAt ws j := by
  obtain ⟨o0, o1, o2⟩ := pg_o0 P
  have hk := P.ks; have t1 := P.t1; have s1 := P.s1; have k0 := P.k0; have s64 := P.s64; have p0 := P.p0; have a4 := P.a4
  obtain ⟨v, ws2, hg2, hv, L2, A2⟩ := pg_took P (by omega)
  have len := P.len
  have hl0 := al_lof (c := c) (q := 0) k0 hk
  have hl1 := al_lof (c := c) (q := 1) k0 hk
  obtain ⟨pp, hpp⟩ : ∃ x, v.p = x := ⟨_, rfl⟩
  rw [hpp] at hv
  subst hv
  have f2 : wAt ws2 0 = top := by rw [A2, if_neg (by omega), if_neg (by omega), P.fr]
  have h1 := goes.one (g4 (c := c) (ws := ws2) (bs := bs) (v := { alV0 1 with nx := 4, sl := k, p := pp }) (f := top) rfl (by rw [o0, f2]) (by rw [pg_room P b1 b2, decide_eq_false_iff_not]; omega))
  have i20 : wIn ws2 0 = true := wIn_len (by rw [L2, len]) (by omega) (by omega)
  obtain ⟨ws3, e3⟩ : ∃ x, wPut ws2 0 (top + c.by') = x := ⟨_, rfl⟩
  have L3 : ws3.length = ws.length := by rw [← e3, wPut_len, L2]
  have A3 : ∀ j, wAt ws3 j = if j = 0 then top + c.by' else wAt ws2 j := fun j => by rw [← e3, wAt_put i20]
  have h2 := goes.one (g5 (c := c) (ws := ws2) (bs := bs) (v := { alV0 1 with nx := 5, sl := k, p := pp, f := top }) rfl (by rw [o0]; unfold wCas; rw [i20, f2]; simp))
  rw [o0, wr_in (n := top + c.by') (by omega) (by omega), e3] at h2
  have h4 := al_clr_all (c := c) (ws := ws3) (bs := bs) (v := { alV0 1 with nx := 7, sl := k, p := pp, f := top, cl := true }) rfl rfl b1 b2 p0 (by dsimp only; omega)
  dsimp only at h4
  obtain ⟨bs', hbs'⟩ : ∃ x, clr bs top c.by'.toNat = x := ⟨_, rfl⟩
  rw [hbs'] at h4 ⊢
  have i3 : wIn ws3 (4 + c.t + 3 * k + 1) = true := wIn_len (by rw [L3, len]) (by omega) (by omega)
  obtain ⟨ws4, e4⟩ : ∃ x, wPut ws3 (4 + c.t + 3 * k + 1) c.n = x := ⟨_, rfl⟩
  have L4 : ws4.length = ws.length := by rw [← e4, wPut_len, L3]
  have A4 : ∀ j, wAt ws4 j = if j = 4 + c.t + 3 * k + 1 then c.n else wAt ws3 j := fun j => by rw [← e4, wAt_put i3]
  have h5 := goes.one (g8 (c := c) (ws := ws3) (bs := bs') (v := { alV0 1 with nx := 8, sl := k, p := pp, f := top, cl := true, a := c.by' }) rfl)
  dsimp only at h5
  rw [hl1, e4] at h5
  have x4 : wAt ws4 (4 + c.t + 3 * k + 0) = x := by
    rw [A4, if_neg (by omega), A3, if_neg (by omega), A2, if_neg (by omega), if_neg (by omega), Int.add_zero]; exact P.ek
  have h6 := goes.one (g9 (c := c) (ws := ws4) (bs := bs') (v := { alV0 1 with nx := 9, sl := k, p := pp, f := top, cl := true, a := c.by' }) (x := x) rfl (by dsimp only; rw [hl0]; exact x4) P.x0 P.xA)
  dsimp only at h6
  rw [P.xG] at h6
  obtain ⟨E, hE⟩ : ∃ x, (ePack top G 0 0 false true).1 = x := ⟨_, rfl⟩
  rw [hE] at h6 ⊢
  have i4 : wIn ws4 (4 + c.t + 3 * k + 0) = true := wIn_len (by rw [L4, len]) (by omega) (by omega)
  obtain ⟨ws5, e5⟩ : ∃ x, wPut ws4 (4 + c.t + 3 * k + 0) E = x := ⟨_, rfl⟩
  have L5 : ws5.length = ws.length := by rw [← e5, wPut_len, L4]
  have A5 : ∀ j, wAt ws5 j = if j = 4 + c.t + 3 * k + 0 then E else wAt ws4 j := fun j => by rw [← e5, wAt_put i4]
  have h7 := goes.one (g10 (c := c) (ws := ws4) (bs := bs') (v := { alV0 1 with nx := 10, sl := k, p := pp, f := top, cl := true, a := c.by', gen := G, wd := E }) rfl rfl)
  dsimp only at h7
  rw [hl0, e5] at h7
  have I5 : wIn ws5 2 = true := wIn_len (by rw [L5, len]) (by omega) (by omega)
  obtain ⟨h8, h9⟩ := al_leave (c := c) (ws := ws5) (bs := bs') (v := { alV0 1 with nx := 11, sl := k, p := pp, f := top, cl := false, a := c.by', gen := G, wd := E }) t1 I5 (by rw [A5, if_neg (by omega), A4, if_neg (by omega), A3, if_neg (by omega), A2, if_neg (by omega), if_pos rfl]) rfl
  have hres : alRes { alV0 1 with nx := 11, sl := k, p := pp, f := top, cl := false, a := c.by', gen := G, wd := E } = (0, (hMake k G).1) := by
    rfl
  rw [hres] at h9
  obtain ⟨N, hN⟩ := (((((((hg2.trans h1).trans h2).trans h4).trans h5).trans h6).trans h7).trans h8).fin h9 (most := 1000) (by omega)
  refine ⟨_, N, hN, rfl, by show (wPut ws5 2 0).length = _; rw [wPut_len, L5], fun j => ?_⟩
  show wAt (wPut ws5 2 0) j = _
  rw [wAt_put I5, A5, A4, A3, A2]
  by_cases j2 : j = 2
  · subst j2
    rw [if_pos rfl, if_neg (by omega), if_neg (by omega), if_neg (by omega), if_neg (by omega), P.pe]
  · rw [if_neg j2]
    by_cases j0 : j = 0
    · subst j0; rw [if_neg (by omega), if_neg (by omega), if_pos rfl, if_pos rfl]
    · by_cases j1 : j = 1
      · subst j1; rw [if_neg (by omega), if_neg (by omega), if_neg (by omega), if_pos rfl, if_neg (by omega), if_pos rfl]
      · rw [if_neg j0, if_neg j1, if_neg j2, if_neg j0, if_neg j1]
        by_cases ja : j = 4 + c.t + 3 * k + 0
        · rw [if_pos ja, if_pos (by omega)]
        · rw [if_neg ja]
          rw [if_neg (show ¬ j = 4 + c.t + 3 * k by omega)]
end
end Go.Proofs.Ytkkeoadnepedjaa
