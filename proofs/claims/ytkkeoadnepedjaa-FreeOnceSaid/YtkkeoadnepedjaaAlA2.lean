/- An alloc alone, in numbers: an object made; the three ways. -/
import Derived.Test.YtkkeoadnepedjaaAlA1
namespace Go.Proofs.Ytkkeoadnepedjaa
set_option linter.unusedVariables false
set_option linter.unusedSimpArgs false
open Go.RowKit
theorem al_clr_all {c : AlC} {ws bs : List Int} {v : AlV} (h7 : v.nx = 7) (ha : v.a = 0) (b1 : 1 ≤ c.by') (b2 : c.by' ≤ 256) (f0 : 0 ≤ v.f) (f1 : v.f ≤ 4096) : goes (alF1 c) c.by'.toNat ⟨ws, bs, v⟩ ⟨ws, clr bs v.f c.by'.toNat, { v with a := c.by', nx := 8 }⟩ := by
  obtain ⟨J, hJ⟩ : ∃ J : Nat, c.by'.toNat = J + 1 := ⟨c.by'.toNat - 1, by omega⟩
  have ih := al_cleared (c := c) (ws := ws) (bs := bs) h7 ha b2 f0 f1 J (by omega)
  have e1 : wrap64 ((J : Int) + 1) = c.by' := by unfold wrap64; omega
  have e2 : wrap64 (v.f + (J : Int)) = v.f + J := by unfold wrap64; omega
  have h : goes (alF1 c) 1 ⟨ws, clr bs v.f J, { v with a := J }⟩ ⟨ws, clr bs v.f (J + 1), { v with a := c.by', nx := 8 }⟩ := by
    refine goes.one (r := (0, 0)) ?_
    have := g7d (c := c) (ws := ws) (bs := clr bs v.f J) (v := { v with a := J }) h7 e1
    simp only [e1, e2] at this
    exact this
  have := ih.trans h
  rw [Nat.add_comm] at this
  rw [hJ]
  exact this
section
variable {c : AlC} {ws bs : List Int} {k top g : Int} (P : AlPre c ws bs k top g)
include P
theorem al_made (b1 : 1 ≤ c.by') (b2 : c.by' ≤ 256) (hk : k < c.s) (hr : top ≤ c.ar - c.by') : ∃ q N, mRun (alF1 c) 1000 1000 ⟨ws, bs, alV0 1⟩ = (q, (0, k + 1099511627776), N) ∧ q.bs = clr bs top c.by'.toNat ∧ q.ws.length = ws.length ∧
    ∀ j, wAt q.ws j = if j = 0 then top + c.by' else if j = 1 then topAt c.s (k + 1) + 1048576 * dNext g else if j = 4 + c.t + 3 * k then (ePack top 0 0 0 false true).1 else if j = 4 + c.t + 3 * k + 1 then c.n else wAt ws j := by
  obtain ⟨o0, o1, o2⟩ := al_o0 P
  have t1 := P.t1; have s1 := P.s1; have k0 := P.k0; have s64 := P.s64; have p0 := P.p0; have a4 := P.a4
  obtain ⟨v, ws2, hg2, hv, L2, A2⟩ := al_took P (by omega) hk
  have len := P.len
  have hl0 := al_lof (c := c) (q := 0) k0 hk
  have hl1 := al_lof (c := c) (q := 1) k0 hk
  obtain ⟨pp, hpp⟩ : ∃ x, v.p = x := ⟨_, rfl⟩
  rw [hpp] at hv
  subst hv
  have f2 : wAt ws2 0 = top := by rw [A2, if_neg (by omega), if_neg (by omega), P.fr]
  have h1 := goes.one (g4 (c := c) (ws := ws2) (bs := bs) (v := { alV0 1 with nx := 4, sl := k, p := pp }) (f := top) rfl (by rw [o0, f2]) (by rw [al_room P b1 b2, decide_eq_false_iff_not]; omega))
  have i20 : wIn ws2 0 = true := wIn_len (by rw [L2, len]) (by omega) (by omega)
  obtain ⟨ws3, e3⟩ : ∃ x, wPut ws2 0 (top + c.by') = x := ⟨_, rfl⟩
  have L3 : ws3.length = ws.length := by rw [← e3, wPut_len, L2]
  have A3 : ∀ j, wAt ws3 j = if j = 0 then top + c.by' else wAt ws2 j := fun j => by rw [← e3, wAt_put i20]
  have h2 := goes.one (g5 (c := c) (ws := ws2) (bs := bs) (v := { alV0 1 with nx := 5, sl := k, p := pp, f := top }) rfl (by rw [o0]; unfold wCas; rw [i20, f2]; simp))
  rw [o0, wr_in (n := top + c.by') (by omega) (by omega), e3] at h2
  have h4 := al_clr_all (c := c) (ws := ws3) (bs := bs) (v := { alV0 1 with nx := 7, sl := k, p := pp, f := top, cl := true }) rfl rfl b1 b2 p0 (by dsimp only; omega)
  dsimp only at h4
  obtain ⟨bs', hbs'⟩ : ∃ x, clr bs top c.by'.toNat = x := ⟨_, rfl⟩
  rw [hbs'] at h4 ⊢
  have i3 : wIn ws3 (4 + c.t + 3 * k + 1) = true := wIn_len (by rw [L3, len]) (by omega) (by omega)
  obtain ⟨ws4, e4⟩ : ∃ x, wPut ws3 (4 + c.t + 3 * k + 1) c.n = x := ⟨_, rfl⟩
  have L4 : ws4.length = ws.length := by rw [← e4, wPut_len, L3]
  have A4 : ∀ j, wAt ws4 j = if j = 4 + c.t + 3 * k + 1 then c.n else wAt ws3 j := fun j => by rw [← e4, wAt_put i3]
  have h5 := goes.one (g8 (c := c) (ws := ws3) (bs := bs') (v := { alV0 1 with nx := 8, sl := k, p := pp, f := top, cl := true, a := c.by' }) rfl)
  dsimp only at h5
  rw [hl1, e4] at h5
  have x4 : wAt ws4 (4 + c.t + 3 * k + 0) = 0 := by
    rw [A4, if_neg (by omega), A3, if_neg (by omega), A2, if_neg (by omega), if_neg (by omega), Int.add_zero]; exact P.en k (by omega) hk
  have h6 := goes.one (g9 (c := c) (ws := ws4) (bs := bs') (v := { alV0 1 with nx := 9, sl := k, p := pp, f := top, cl := true, a := c.by' }) (x := 0) rfl (by dsimp only; rw [hl0]; exact x4) (by decide) (by decide))
  dsimp only at h6
  rw [show uG 0 = 0 by decide] at h6
  obtain ⟨E, hE⟩ : ∃ x, (ePack top 0 0 0 false true).1 = x := ⟨_, rfl⟩
  rw [hE] at h6 ⊢
  have i4 : wIn ws4 (4 + c.t + 3 * k + 0) = true := wIn_len (by rw [L4, len]) (by omega) (by omega)
  obtain ⟨ws5, e5⟩ : ∃ x, wPut ws4 (4 + c.t + 3 * k + 0) E = x := ⟨_, rfl⟩
  have L5 : ws5.length = ws.length := by rw [← e5, wPut_len, L4]
  have A5 : ∀ j, wAt ws5 j = if j = 4 + c.t + 3 * k + 0 then E else wAt ws4 j := fun j => by rw [← e5, wAt_put i4]
  have h7 := goes.one (g10 (c := c) (ws := ws4) (bs := bs') (v := { alV0 1 with nx := 10, sl := k, p := pp, f := top, cl := true, a := c.by', gen := 0, wd := E }) rfl rfl)
  dsimp only at h7
  rw [hl0, e5] at h7
  have I5 : wIn ws5 2 = true := wIn_len (by rw [L5, len]) (by omega) (by omega)
  obtain ⟨h8, h9⟩ := al_leave (c := c) (ws := ws5) (bs := bs') (v := { alV0 1 with nx := 11, sl := k, p := pp, f := top, cl := false, a := c.by', gen := 0, wd := E }) t1 I5 (by rw [A5, if_neg (by omega), A4, if_neg (by omega), A3, if_neg (by omega), A2, if_neg (by omega), if_pos rfl]) rfl
  have hres : alRes { alV0 1 with nx := 11, sl := k, p := pp, f := top, cl := false, a := c.by', gen := 0, wd := E } = (0, k + 1099511627776) := by
    show (0, (hMake k 0).1) = _
    rw [hMake_ok (by omega)]
    simp
  rw [hres] at h9
  obtain ⟨N, hN⟩ := (((((((hg2.trans h1).trans h2).trans h4).trans h5).trans h6).trans h7).trans h8).fin h9 (most := 1000) (by omega)
  refine ⟨_, N, hN, rfl, by show (wPut ws5 2 0).length = _; rw [wPut_len, L5], fun j => ?_⟩
  show wAt (wPut ws5 2 0) j = _
  rw [wAt_put I5, A5, A4, A3, A2]
  by_cases j2 : j = 2
  · subst j2
    rw [if_pos rfl, if_neg (by omega), if_neg (by omega), if_neg (by omega), if_neg (by omega), P.pe]
  · rw [if_neg j2]
    by_cases j0 : j = 0
    · subst j0; rw [if_neg (by omega), if_neg (by omega), if_pos rfl, if_pos rfl]
    · by_cases j1 : j = 1
      · subst j1; rw [if_neg (by omega), if_neg (by omega), if_neg (by omega), if_pos rfl, if_neg (by omega), if_pos rfl]
      · rw [if_neg j0, if_neg j1, if_neg j2, if_neg j0, if_neg j1]
        by_cases ja : j = 4 + c.t + 3 * k + 0
        · rw [if_pos ja, if_pos (by omega)]
        · rw [if_neg ja]
          rw [if_neg (show ¬ j = 4 + c.t + 3 * k by omega)]
theorem al_pre_same {ws' : List Int} (hl : ws'.length = ws.length) (hw : ∀ j, wAt ws' j = wAt ws j) : AlPre c ws' bs k top g :=
  ⟨P.t1, P.t4, P.s1, P.s64, P.a8, P.a4, by rw [hl]; exact P.len, P.bl, by rw [hw]; exact P.fr, by rw [hw]; exact P.st, P.g0, P.g1, by rw [hw]; exact P.pe, fun i a b => by rw [hw]; exact P.lk i a b, fun i a b => by rw [hw]; exact P.en i a b, P.k0, P.ks, P.p0, P.pa⟩
theorem al_pre_tag {ws' : List Int} {g' : Int} (h0 : 0 ≤ g') (h1 : g' ≤ 4294967295) (hl : ws'.length = ws.length) (hw : ∀ j, wAt ws' j = if j = 1 then topAt c.s k + 1048576 * g' else wAt ws j) : AlPre c ws' bs k top g' := by
  have t1 := P.t1; have k0 := P.k0
  exact ⟨P.t1, P.t4, P.s1, P.s64, P.a8, P.a4, by rw [hl]; exact P.len, P.bl, by rw [hw, if_neg (by omega)]; exact P.fr, by rw [hw, if_pos rfl], h0, h1, by rw [hw, if_neg (by omega)]; exact P.pe, fun i a b => by rw [hw, if_neg (by omega)]; exact P.lk i a b, fun i a b => by rw [hw, if_neg (by omega)]; exact P.en i a b, P.k0, P.ks, P.p0, P.pa⟩
theorem al_pre_made {ws' bs' : List Int} {E : Int} (b1 : 1 ≤ c.by') (hk : k < c.s) (hr : top ≤ c.ar - c.by') (hb : bs'.length = bs.length) (hl : ws'.length = ws.length)
    (hw : ∀ j, wAt ws' j = if j = 0 then top + c.by' else if j = 1 then topAt c.s (k + 1) + 1048576 * dNext g else if j = 4 + c.t + 3 * k then E else if j = 4 + c.t + 3 * k + 1 then c.n else wAt ws j) : AlPre c ws' bs' (k + 1) (top + c.by') (dNext g) := by
  have t1 := P.t1; have k0 := P.k0; have p0 := P.p0
  obtain ⟨n0, n1⟩ := dNext_in P.g0 P.g1
  exact ⟨P.t1, P.t4, P.s1, P.s64, P.a8, P.a4, by rw [hl]; exact P.len, by rw [hb]; exact P.bl, by rw [hw, if_pos rfl], by rw [hw, if_neg (by omega), if_pos rfl], n0, n1,
    by rw [hw, if_neg (by omega), if_neg (by omega), if_neg (by omega), if_neg (by omega)]; exact P.pe,
    fun i a b => by rw [hw, if_neg (by omega), if_neg (by omega), if_neg (by omega), if_neg (by omega)]; exact P.lk i (by omega) b,
    fun i a b => by rw [hw, if_neg (by omega), if_neg (by omega), if_neg (by omega), if_neg (by omega)]; exact P.en i (by omega) b, by omega, by omega, by omega, by omega⟩
end
/-- AlPre knows nothing of what a machine asks. -/
theorem AlPre.of {c c' : AlC} {ws bs : List Int} {k top g : Int} (h : AlPre c ws bs k top g) (ht : c'.t = c.t) (hs : c'.s = c.s) (ha : c'.ar = c.ar) : AlPre c' ws bs k top g := by
  obtain ⟨a1, a2, a3, a4, a5, a6, a7, a8, a9, a10, a11, a12, a13, a14, a15, a16, a17, a18, a19⟩ := h
  constructor <;> (try rw [ht]) <;> (try rw [hs]) <;> (try rw [ha]) <;> assumption
theorem hRound_by (n : Int) : ((hRound n).1 = 0 ∧ (hRound n).2 = 9) ∨ ((hRound n).2 = 0 ∧ 8 ≤ (hRound n).1 ∧ (hRound n).1 ≤ 256) := by
  by_cases h : 1 ≤ n ∧ n ≤ 256
  · right; rw [hRound_ok h]; exact ⟨rfl, by dsimp only; omega, by dsimp only; omega⟩
  · left; rw [hRound_bad h]; exact ⟨rfl, rfl⟩
end Go.Proofs.Ytkkeoadnepedjaa
