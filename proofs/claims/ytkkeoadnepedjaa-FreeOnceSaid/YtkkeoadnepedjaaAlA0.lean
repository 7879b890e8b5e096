/- An alloc alone, in numbers. -/
import Derived.Test.YtkkeoadnepedjaaAlR
namespace Go.Proofs.Ytkkeoadnepedjaa
set_option linter.unusedVariables false
set_option linter.unusedSimpArgs false
open Go.RowKit
def goes {σ : Type} (f : σ → σ × (Int × Int) × Bool) (n : Nat) (q q' : σ) : Prop := ∀ most k, mRun f most (k + n) q = mRun f most k q'
theorem goes.one {σ : Type} {f : σ → σ × (Int × Int) × Bool} {q q' : σ} {r : Int × Int} (h : f q = (q', r, false)) : goes f 1 q q' := fun most k => by rw [mRun_more (by rw [h]), h]
theorem goes.trans {σ : Type} {f : σ → σ × (Int × Int) × Bool} {a b : Nat} {q q' q'' : σ} (h : goes f a q q') (h' : goes f b q' q'') : goes f (b + a) q q'' := fun most k => by rw [← Nat.add_assoc, h, h']
theorem goes.fin {σ : Type} {f : σ → σ × (Int × Int) × Bool} {n : Nat} {q q' q'' : σ} {r : Int × Int} (h : goes f n q q') (hd : f q' = (q'', r, true)) {most : Nat} (hm : n < most) : ∃ N, mRun f most most q = (q'', r, N) := by
  obtain ⟨k, rfl⟩ : ∃ k, most = (k + 1) + n := ⟨most - n - 1, by omega⟩
  refine ⟨((k + 1 + n - k : Nat) : Int), ?_⟩
  rw [h, mRun_done (by rw [hd]), hd]
section
variable {c : AlC} {ws bs : List Int} {v : AlV}
theorem g1 {sn : Int} (h : v.nx = 1) (hb : c.by' ≠ 0) (hs : wAt ws (lOnce c.t 2) = sn) : alF1 c ⟨ws, bs, v⟩ = (⟨ws, bs, { v with seen := sn, nx := 2 }⟩, (0, 0), false) := by
  unfold alF1; dsimp only; rw [als1 h, if_neg hb, hs]
theorem g1e (h : v.nx = 1) (hb : c.by' = 0) : alF1 c ⟨ws, bs, v⟩ = (⟨ws, bs, { v with nx := 0 }⟩, (9, 0), true) := by
  unfold alF1; dsimp only; rw [als1 h, if_pos hb]
theorem g2 (h : v.nx = 2) (hc : wCas ws (lOnce c.t 2) v.seen = true) : alF1 c ⟨ws, bs, v⟩ = (⟨wPut ws (lOnce c.t 2) (wrap64 (v.seen + 1)), bs, { v with nx := 3 }⟩, (0, 0), false) := by
  unfold alF1; dsimp only; rw [als2 h]; unfold alPend wCasPut; rw [if_pos hc, if_pos hc]
theorem g3 {ws' : List Int} {nx sl wd tw r e : Int} (h : v.nx = 3) (hp : popStep c.t c.s ws v.p.nx v.p.sl v.p.wd v.p.tw = ⟨ws', nx, sl, wd, tw, r, e, false⟩) : alF1 c ⟨ws, bs, v⟩ = (⟨ws', bs, { v with p := ⟨nx, sl, wd, tw⟩ }⟩, (0, 0), false) := by
  unfold alF1; dsimp only; rw [als3 h]; unfold alTake; rw [hp]; rfl
theorem g3d {ws' : List Int} {nx sl wd tw r : Int} (h : v.nx = 3) (hp : popStep c.t c.s ws v.p.nx v.p.sl v.p.wd v.p.tw = ⟨ws', nx, sl, wd, tw, r, 0, true⟩) : alF1 c ⟨ws, bs, v⟩ = (⟨ws', bs, { v with p := ⟨nx, sl, wd, tw⟩, sl := r, nx := 4 }⟩, (0, 0), false) := by
  unfold alF1; dsimp only; rw [als3 h]; unfold alTake; rw [hp]; rfl
theorem g3e {ws' : List Int} {nx sl wd tw r e : Int} (h : v.nx = 3) (he : e ≠ 0) (hp : popStep c.t c.s ws v.p.nx v.p.sl v.p.wd v.p.tw = ⟨ws', nx, sl, wd, tw, r, e, true⟩) : alF1 c ⟨ws, bs, v⟩ = (⟨ws', bs, { v with p := ⟨nx, sl, wd, tw⟩, kp := e, nx := 11 }⟩, (0, 0), false) := by
  unfold alF1; dsimp only; rw [als3 h]; unfold alTake; rw [hp]; dsimp only; rw [if_pos rfl, if_neg he]
theorem g4 {f : Int} (h : v.nx = 4) (hf : wAt ws (lOnce c.t 0) = f) (hn : alNoRoom c f = false) : alF1 c ⟨ws, bs, v⟩ = (⟨ws, bs, { v with f := f, nx := 5 }⟩, (0, 0), false) := by
  unfold alF1; dsimp only; rw [als4 h]; unfold alFront; rw [hf, hn]; rfl
theorem g4r {f : Int} (h : v.nx = 4) (hf : wAt ws (lOnce c.t 0) = f) (hn : alNoRoom c f = true) : alF1 c ⟨ws, bs, v⟩ = (⟨ws, bs, { v with f := f, nx := 6, kp := 10, gv := some ⟨1, v.sl, 0, 0⟩ }⟩, (0, 0), false) := by
  unfold alF1; dsimp only; rw [als4 h]; unfold alFront; rw [hf, if_pos hn]
theorem g5 (h : v.nx = 5) (hc : wCas ws (lOnce c.t 0) v.f = true) : alF1 c ⟨ws, bs, v⟩ = (⟨wPut ws (lOnce c.t 0) (wrap64 (v.f + c.by')), bs, { v with nx := 7, cl := true }⟩, (0, 0), false) := by
  unfold alF1; dsimp only; rw [als5 h, if_pos hc]; unfold wCasPut; rw [if_pos hc]
theorem g6 {g : StV} {ws' : List Int} {nx sl wd tw r e : Int} (h : v.nx = 6) (hg : v.gv = some g) (hp : pushStep c.t c.s ws g.nx g.sl g.wd g.tw = ⟨ws', nx, sl, wd, tw, r, e, false⟩) : alF1 c ⟨ws, bs, v⟩ = (⟨ws', bs, { v with gv := some ⟨nx, sl, wd, tw⟩ }⟩, (0, 0), false) := by
  unfold alF1; dsimp only; rw [als6 h]; unfold alGive; rw [hg]; dsimp only; rw [hp]; rfl
theorem g6d {g : StV} {ws' : List Int} {nx sl wd tw r e : Int} (h : v.nx = 6) (hg : v.gv = some g) (hp : pushStep c.t c.s ws g.nx g.sl g.wd g.tw = ⟨ws', nx, sl, wd, tw, r, e, true⟩) : alF1 c ⟨ws, bs, v⟩ = (⟨ws', bs, { v with gv := some ⟨nx, sl, wd, tw⟩, nx := 11 }⟩, (0, 0), false) := by
  unfold alF1; dsimp only; rw [als6 h]; unfold alGive; rw [hg]; dsimp only; rw [hp]; rfl
theorem g7 (h : v.nx = 7) (hn : wrap64 (v.a + 1) ≠ c.by') : alF1 c ⟨ws, bs, v⟩ = (⟨ws, wPut bs (wrap64 (v.f + v.a)) 0, { v with a := wrap64 (v.a + 1) }⟩, (0, 0), false) := by
  unfold alF1; dsimp only; rw [als7 h, if_neg hn]
theorem g7d (h : v.nx = 7) (hn : wrap64 (v.a + 1) = c.by') : alF1 c ⟨ws, bs, v⟩ = (⟨ws, wPut bs (wrap64 (v.f + v.a)) 0, { v with a := wrap64 (v.a + 1), nx := 8 }⟩, (0, 0), false) := by
  unfold alF1; dsimp only; rw [als7 h, if_pos hn]
theorem g8 (h : v.nx = 8) : alF1 c ⟨ws, bs, v⟩ = (⟨wPut ws (lOf c.t c.s v.sl 1) c.n, bs, { v with nx := 9 }⟩, (0, 0), false) := by
  unfold alF1; dsimp only; rw [als8 h]
theorem g9 {x : Int} (h : v.nx = 9) (hx : wAt ws (lOf c.t c.s v.sl 0) = x) (h1 : eOk x = 0) (h2 : uA x = false) : alF1 c ⟨ws, bs, v⟩ = (⟨ws, bs, { v with nx := 10, gen := uG x, wd := (ePack v.f (uG x) 0 0 false true).1 }⟩, (0, 0), false) := by
  unfold alF1; dsimp only; rw [als9 h]; unfold alLook; rw [hx, if_neg (by rw [h1, h2]; simp)]
theorem g10 (h : v.nx = 10) (hk : v.kp = 0) : alF1 c ⟨ws, bs, v⟩ = (⟨wPut ws (lOf c.t c.s v.sl 0) v.wd, bs, { v with cl := false, nx := 11 }⟩, (0, 0), false) := by
  unfold alF1; dsimp only; rw [als10 h, if_pos hk]
theorem g10e (h : v.nx = 10) (hk : v.kp ≠ 0) : alF1 c ⟨ws, bs, v⟩ = (⟨ws, bs, { v with cl := false, nx := 11 }⟩, (0, 0), false) := by
  unfold alF1; dsimp only; rw [als10 h, if_neg hk]
theorem g11 {sn : Int} (h : v.nx = 11) (hs : wAt ws (lOnce c.t 2) = sn) : alF1 c ⟨ws, bs, v⟩ = (⟨ws, bs, { v with seen := sn, nx := 12 }⟩, (0, 0), false) := by
  unfold alF1; dsimp only; rw [als11 h, hs]
theorem g12 (h : v.nx = 12) (hc : wCas ws (lOnce c.t 2) v.seen = true) : alF1 c ⟨ws, bs, v⟩ = (⟨wPut ws (lOnce c.t 2) (wrap64 (v.seen + -1)), bs, { v with nx := 0 }⟩, alRes { v with nx := 0 }, true) := by
  unfold alF1; dsimp only; rw [als12 h]; unfold alPend wCasPut; rw [if_pos hc, if_pos hc]; rfl
end
def topAt (s k : Int) : Int := if k < s then k + 1 else 0
theorem wAt_put {ws : List Int} {k n : Int} (h : wIn ws k = true) (j : Int) : wAt (wPut ws k n) j = if j = k then n else wAt ws j := by
  split
  · rename_i e; subst e; exact wAt_put_same h
  · rename_i e; exact wAt_put_ne e
theorem wIn_len {ws : List Int} {N k : Int} (h : ws.length = N.toNat) (h0 : 0 ≤ k) (h1 : k < N) : wIn ws k = true := by rw [wIn_iff]; omega
theorem wr_in {n : Int} (h : -9223372036854775808 ≤ n) (h' : n ≤ 9223372036854775807) : wrap64 n = n := by unfold wrap64; omega
structure AlPre (c : AlC) (ws bs : List Int) (k top g : Int) : Prop where
  t1 : 1 ≤ c.t
  t4 : c.t ≤ 4
  s1 : 1 ≤ c.s
  s64 : c.s ≤ 64
  a8 : 8 ≤ c.ar
  a4 : c.ar ≤ 4096
  len : ws.length = (4 + c.t + 3 * c.s).toNat
  bl : bs.length = c.ar.toNat
  fr : wAt ws 0 = top
  st : wAt ws 1 = topAt c.s k + 1048576 * g
  g0 : 0 ≤ g
  g1 : g ≤ 4294967295
  pe : wAt ws 2 = 0
  lk : ∀ i, k ≤ i → i < c.s → wAt ws (4 + c.t + 3 * i + 2) = topAt c.s (i + 1)
  en : ∀ i, k ≤ i → i < c.s → wAt ws (4 + c.t + 3 * i) = 0
  k0 : 0 ≤ k
  ks : k ≤ c.s
  p0 : 0 ≤ top
  pa : top ≤ c.ar
theorem topAt_bd {s k : Int} (h0 : 0 ≤ k) (h1 : s ≤ 64) : 0 ≤ topAt s k ∧ topAt s k ≤ 64 := by unfold topAt; split <;> omega
theorem head_is {T g : Int} (h0 : 0 ≤ T) (h1 : T ≤ 64) (g0 : 0 ≤ g) (g1 : g ≤ 4294967295) : dIs (T + 1048576 * g) = true ∧ dUnTop (T + 1048576 * g) = T ∧ (T + 1048576 * g) % 1048576 = T ∧ (T + 1048576 * g) / 1048576 = g := by
  have e1 : (T + 1048576 * g) % 1048576 = T := by omega
  have e2 : (T + 1048576 * g) / 1048576 = g := by omega
  have e3 : dIs (T + 1048576 * g) = true := by unfold dIs; rw [decide_eq_true_eq, e1]; omega
  exact ⟨e3, by unfold dUnTop; rw [if_pos e3, e1], e1, e2⟩
/-- the leaving. -/
theorem al_leave {c : AlC} {ws bs : List Int} {v : AlV} (t1 : 1 ≤ c.t) (hl : wIn ws 2 = true) (hp : wAt ws 2 = 1) (h : v.nx = 11) :
    goes (alF1 c) 1 ⟨ws, bs, v⟩ ⟨ws, bs, { v with seen := 1, nx := 12 }⟩ ∧ alF1 c ⟨ws, bs, { v with seen := 1, nx := 12 }⟩ = (⟨wPut ws 2 0, bs, { v with seen := 1, nx := 0 }⟩, alRes v, true) := by
  have o2 : lOnce c.t 2 = 2 := by unfold lOnce; rw [if_neg (by omega)]
  refine ⟨goes.one (r := (0, 0)) (g11 h (by rw [o2]; exact hp)), ?_⟩
  rw [g12 rfl (by rw [o2]; unfold wCas; rw [hl, hp]; rfl), o2]
  rw [show wrap64 ((1 : Int) + -1) = 0 by unfold wrap64; omega]
  rfl
section
variable {c : AlC} {ws bs : List Int} {k top g : Int} (P : AlPre c ws bs k top g)
include P
theorem al_o0 : lOnce c.t 0 = 0 ∧ lOnce c.t 1 = 1 ∧ lOnce c.t 2 = 2 := by
  have := P.t1
  unfold lOnce; rw [if_neg (by omega), if_neg (by omega), if_neg (by omega)]; exact ⟨rfl, rfl, rfl⟩
omit P in
theorem al_lof {i q : Int} (h0 : 0 ≤ i) (h1 : i < c.s) : lOf c.t c.s i q = 4 + c.t + 3 * i + q := by unfold lOf; rw [if_pos ⟨h0, h1⟩]
theorem al_cnt (hb : c.by' ≠ 0) : goes (alF1 c) 2 ⟨ws, bs, alV0 1⟩ ⟨wPut ws 2 1, bs, { alV0 1 with nx := 3 }⟩ := by
  obtain ⟨-, -, o2⟩ := al_o0 P
  have i2 : wIn ws 2 = true := wIn_len P.len (by omega) (by have := P.t1; have := P.s1; omega)
  have h1 := goes.one (r := (0, 0)) (g1 (c := c) (ws := ws) (bs := bs) (v := alV0 1) (sn := 0) rfl hb (by rw [o2]; exact P.pe))
  have h2 := goes.one (g2 (c := c) (ws := ws) (bs := bs) (v := { alV0 1 with seen := 0, nx := 2 }) rfl (by rw [o2]; unfold wCas; rw [i2, P.pe]; rfl))
  rw [o2, show wrap64 ((0 : Int) + 1) = 1 by unfold wrap64; omega] at h2
  exact h1.trans h2
/-- no slot is left. -/
theorem al_noslot (hb : c.by' ≠ 0) (hk : k = c.s) : ∃ q N, mRun (alF1 c) 1000 1000 ⟨ws, bs, alV0 1⟩ = (q, (11, 0), N) ∧ q.bs = bs ∧ q.ws.length = ws.length ∧ ∀ j, wAt q.ws j = wAt ws j := by
  obtain ⟨o0, o1, o2⟩ := al_o0 P
  have t1 := P.t1; have s1 := P.s1
  have i2 : wIn ws 2 = true := wIn_len P.len (by omega) (by omega)
  obtain ⟨ws1, e1⟩ : ∃ x, wPut ws 2 1 = x := ⟨_, rfl⟩
  have A1 : ∀ j, wAt ws1 j = if j = 2 then 1 else wAt ws j := fun j => by rw [← e1, wAt_put i2]
  have L1 : ws1.length = ws.length := by rw [← e1, wPut_len]
  have I1 : wIn ws1 2 = true := by rw [← e1, wIn_put]; exact i2
  have h0 := al_cnt P hb
  rw [e1] at h0
  have tb := topAt_bd P.k0 P.s64
  obtain ⟨d1, d2, -, -⟩ := head_is tb.1 tb.2 P.g0 P.g1
  have hw : wAt ws1 1 = topAt c.s k + 1048576 * g := by rw [A1, if_neg (by omega), P.st]
  have hz : topAt c.s k = 0 := by unfold topAt; rw [if_neg (by omega)]
  have hp : popStep c.t c.s ws1 1 0 0 0 = ⟨ws1, 0, 0, topAt c.s k + 1048576 * g, 0, 0, 11, true⟩ := by
    unfold popStep
    rw [if_pos rfl, o1, hw, if_pos d1, d2, if_pos hz]
  have h1 := goes.one (g3e (c := c) (ws := ws1) (bs := bs) (v := { alV0 1 with nx := 3 }) rfl (by decide) hp)
  obtain ⟨h2, h3⟩ := al_leave (c := c) (ws := ws1) (bs := bs) (v := { alV0 1 with nx := 11, p := ⟨0, 0, topAt c.s k + 1048576 * g, 0⟩, kp := 11 }) t1 I1 (by rw [A1, if_pos rfl]) rfl
  obtain ⟨N, hN⟩ := ((h0.trans h1).trans h2).fin h3 (most := 1000) (by decide)
  refine ⟨_, N, hN, rfl, by show (wPut ws1 2 0).length = _; rw [wPut_len, L1], fun j => ?_⟩
  show wAt (wPut ws1 2 0) j = _
  rw [wAt_put I1, A1]
  split
  · rename_i e; rw [e, P.pe]
  · rfl
/-- a slot taken. -/
theorem al_took (hb : c.by' ≠ 0) (hk : k < c.s) : ∃ v ws2, goes (alF1 c) 5 ⟨ws, bs, alV0 1⟩ ⟨ws2, bs, v⟩ ∧ v = { alV0 1 with nx := 4, sl := k, p := v.p } ∧ ws2.length = ws.length ∧ ∀ j, wAt ws2 j = if j = 1 then topAt c.s (k + 1) + 1048576 * dNext g else if j = 2 then 1 else wAt ws j := by
  obtain ⟨o0, o1, o2⟩ := al_o0 P
  have t1 := P.t1; have s1 := P.s1; have k0 := P.k0; have s64 := P.s64
  have i2 : wIn ws 2 = true := wIn_len P.len (by omega) (by omega)
  have i1 : wIn ws 1 = true := wIn_len P.len (by omega) (by omega)
  obtain ⟨ws1, e1⟩ : ∃ x, wPut ws 2 1 = x := ⟨_, rfl⟩
  have A1 : ∀ j, wAt ws1 j = if j = 2 then 1 else wAt ws j := fun j => by rw [← e1, wAt_put i2]
  have L1 : ws1.length = ws.length := by rw [← e1, wPut_len]
  have I1 : wIn ws1 1 = true := by rw [← e1, wIn_put]; exact i1
  have h0 := al_cnt P hb
  rw [e1] at h0
  have tb := topAt_bd P.k0 P.s64
  have tb' := topAt_bd (k := k + 1) (by omega) P.s64
  obtain ⟨d1, d2, d3, d4⟩ := head_is tb.1 tb.2 P.g0 P.g1
  have hw : wAt ws1 1 = topAt c.s k + 1048576 * g := by rw [A1, if_neg (by omega), P.st]
  have hz : topAt c.s k = k + 1 := by unfold topAt; rw [if_pos hk]
  have hp : popStep c.t c.s ws1 1 0 0 0 = ⟨ws1, 2, k, topAt c.s k + 1048576 * g, 0, 0, 0, false⟩ := by
    unfold popStep
    rw [if_pos rfl, o1, hw, if_pos d1, d2, if_neg (by omega)]
    congr 1; omega
  have hd : dPop (topAt c.s k + 1048576 * g) (topAt c.s (k + 1)) = (topAt c.s (k + 1) + 1048576 * dNext g, k, 0) := by
    unfold dPop
    rw [if_pos d1, if_pos (by unfold dTop; rw [decide_eq_true_eq]; exact tb'), d3, if_neg (by omega), d4]
    congr 2; omega
  have hlk : wAt ws1 (lOf c.t c.s k 2) = topAt c.s (k + 1) := by rw [al_lof k0 hk, A1, if_neg (by omega)]; exact P.lk k (by omega) hk
  have hp2 : popStep c.t c.s ws1 2 k (topAt c.s k + 1048576 * g) 0 = ⟨ws1, 3, k, topAt c.s k + 1048576 * g, topAt c.s (k + 1) + 1048576 * dNext g, 0, 0, false⟩ := by
    unfold popStep
    rw [if_neg (by decide), if_pos rfl, hlk, hd, if_pos rfl]
  have hcas : wCas ws1 1 (topAt c.s k + 1048576 * g) = true := by unfold wCas; rw [I1, hw]; simp
  have hp3 : popStep c.t c.s ws1 3 k (topAt c.s k + 1048576 * g) (topAt c.s (k + 1) + 1048576 * dNext g) = ⟨wPut ws1 1 (topAt c.s (k + 1) + 1048576 * dNext g), 0, k, topAt c.s k + 1048576 * g, topAt c.s (k + 1) + 1048576 * dNext g, k, 0, true⟩ := by
    unfold popStep wCasPut
    rw [if_neg (by decide), if_neg (by decide), if_pos rfl, o1, if_pos hcas, if_pos hcas]
  have h1 := goes.one (g3 (c := c) (ws := ws1) (bs := bs) (v := { alV0 1 with nx := 3 }) rfl hp)
  have h2 := goes.one (g3 (c := c) (ws := ws1) (bs := bs) (v := { alV0 1 with nx := 3, p := ⟨2, k, topAt c.s k + 1048576 * g, 0⟩ }) rfl hp2)
  have h3 := goes.one (g3d (c := c) (ws := ws1) (bs := bs) (v := { alV0 1 with nx := 3, p := ⟨3, k, topAt c.s k + 1048576 * g, topAt c.s (k + 1) + 1048576 * dNext g⟩ }) rfl hp3)
  refine ⟨_, _, (((h0.trans h1).trans h2).trans h3), rfl, by rw [wPut_len, L1], fun j => ?_⟩
  rw [wAt_put I1, A1]
end
end Go.Proofs.Ytkkeoadnepedjaa
