/- A free alone, in numbers. -/
import Derived.Test.YtkkeoadnepedjaaFrM
import Derived.Test.YtkkeoadnepedjaaAlA2
namespace Go.Proofs.Ytkkeoadnepedjaa
set_option linter.unusedVariables false
set_option linter.unusedSimpArgs false
open Go.RowKit
theorem eNext_word {o g : Int} (hm : eMay o g 0 0 false true = true) : (eNext (eWord o g 0 0 false true)).1 = eWord 0 (if g < 1000 then g + 1 else g) 0 0 false false ∧ eNextMore (eWord o g 0 0 false true) = decide (g < 1000) := by
  obtain ⟨i, x1, x2, x3, x4, x5, x6⟩ := un_pack hm
  have hg : 0 ≤ g ∧ g ≤ 1000 := by unfold eMay at hm; simp at hm; omega
  have hc : nextCode (eWord o g 0 0 false true) = 0 := by unfold nextCode; rw [x3, x4, x5]; rfl
  have hb : g + bI (decide (g < 1000)) = if g < 1000 then g + 1 else g := by
    by_cases h : g < 1000
    · rw [if_pos h, decide_eq_true h]; rfl
    · rw [if_neg h, decide_eq_false h]; show g + 0 = g; omega
  constructor
  · unfold eNext
    rw [if_pos hc, eTurn_live i x6, x2, hb]
    unfold eChg ePack
    rw [if_pos rfl, if_pos (by unfold eMay; simp; split <;> omega)]
  · unfold eNextMore nextMore
    rw [if_pos i, if_pos x6, if_pos hc, x2]
theorem word_live {o g : Int} (hm : eMay o g 0 0 false true = true) : fresh (eWord o g 0 0 false true) g = true ∧ uP (eWord o g 0 0 false true) = 0 ∧ uU (eWord o g 0 0 false true) = 0 ∧ uL (eWord o g 0 0 false true) = false := by
  obtain ⟨i, x1, x2, x3, x4, x5, x6⟩ := un_pack hm
  obtain ⟨u1, u2, u3, u4, u5, u6, u7⟩ := u_yes i
  refine ⟨by rw [fresh_word hm]; simp, by rw [u3, x3], by rw [u4, x4], by rw [u5, x5]⟩
section
variable {c : FrC} {ws : List Int} {v : FrV}
theorem f1s (h : v.nx = 1) (hs : c.st = true) : frF1 c ⟨ws, v⟩ = (⟨ws, { v with nx := 0 }⟩, (4, 0), true) := by unfold frF1; dsimp only; rw [frStep1s h hs]
theorem f1 {x : Int} (h : v.nx = 1) (hs : c.st = false) (hx : wAt ws (lOf c.t c.s c.sl 0) = x) : frF1 c ⟨ws, v⟩ = (⟨ws, (frLook c x v).1⟩, ((frLook c x v).2.1, 0), (frLook c x v).2.2) := by unfold frF1; dsimp only; rw [frStep1 h hs hx]
theorem f1dead {x : Int} (h : v.nx = 1) (hs : c.st = false) (hx : wAt ws (lOf c.t c.s c.sl 0) = x) (hf : fresh x c.ge = false) : frF1 c ⟨ws, v⟩ = (⟨ws, { v with wd := x, nx := 0 }⟩, (4, 0), true) := by
  rw [f1 h hs hx]; unfold frLook; rw [if_neg (by rw [hf]; decide)]
theorem f1pin {x : Int} (h : v.nx = 1) (hs : c.st = false) (hx : wAt ws (lOf c.t c.s c.sl 0) = x) (hf : fresh x c.ge = true) (hp : 0 < uP x) : frF1 c ⟨ws, v⟩ = (⟨ws, { v with wd := x, nx := 0 }⟩, (6, 0), true) := by
  rw [f1 h hs hx]; unfold frLook; rw [if_pos hf, if_pos hp]
theorem f1live {x : Int} (h : v.nx = 1) (hs : c.st = false) (hx : wAt ws (lOf c.t c.s c.sl 0) = x) (hf : fresh x c.ge = true) (hp : uP x = 0) (hu : uU x = 0) (hl : uL x = false) : frF1 c ⟨ws, v⟩ = (⟨ws, { v with wd := x, tw := (eNext x).1, mo := eNextMore x, nx := 2 }⟩, (0, 0), false) := by
  rw [f1 h hs hx]; unfold frLook; rw [if_pos hf, if_neg (by omega), if_pos (by rw [hu, hl]; rfl)]
theorem f2 (h : v.nx = 2) (hc : wCas ws (lOf c.t c.s c.sl 0) v.wd = true) (hm : v.mo = true) : frF1 c ⟨ws, v⟩ = (⟨wPut ws (lOf c.t c.s c.sl 0) v.tw, { v with nx := 3, gv := some ⟨1, c.sl, 0, 0⟩ }⟩, (0, 0), false) := by
  unfold frF1; dsimp only; rw [frStep2 h, if_pos hc, if_pos hm]; unfold wCasPut; rw [if_pos hc]
theorem f2d (h : v.nx = 2) (hc : wCas ws (lOf c.t c.s c.sl 0) v.wd = true) (hm : v.mo = false) : frF1 c ⟨ws, v⟩ = (⟨wPut ws (lOf c.t c.s c.sl 0) v.tw, { v with nx := 0 }⟩, (0, 0), true) := by
  unfold frF1; dsimp only; rw [frStep2 h, if_pos hc, if_neg (by rw [hm]; decide)]; unfold wCasPut; rw [if_pos hc]
theorem f3 {g : StV} {ws' : List Int} {nx sl wd tw r e : Int} (h : v.nx = 3) (hg : v.gv = some g) (hp : pushStep c.t c.s ws g.nx g.sl g.wd g.tw = ⟨ws', nx, sl, wd, tw, r, e, false⟩) : frF1 c ⟨ws, v⟩ = (⟨ws', { v with gv := some ⟨nx, sl, wd, tw⟩ }⟩, (0, 0), false) := by
  unfold frF1; dsimp only; rw [frStep3 h hg hp]; rfl
theorem f3d {g : StV} {ws' : List Int} {nx sl wd tw r e : Int} (h : v.nx = 3) (hg : v.gv = some g) (hp : pushStep c.t c.s ws g.nx g.sl g.wd g.tw = ⟨ws', nx, sl, wd, tw, r, e, true⟩) : frF1 c ⟨ws, v⟩ = (⟨ws', { v with nx := 0, gv := some ⟨nx, sl, wd, tw⟩ }⟩, (0, 0), true) := by
  unfold frF1; dsimp only; rw [frStep3 h hg hp]; rfl
end
theorem goes.fin10 {σ : Type} {f : σ → σ × (Int × Int) × Bool} {n : Nat} {q q' q'' : σ} {r : Int × Int} (h : goes f n q q') (hd : f q' = (q'', r, true)) (hm : n < 10) : mRun f 10 10 q = (q'', r, ((n + 1 : Nat) : Int)) := by
  have e : (10 : Nat) = (9 - n + 1) + n := by omega
  have := h 10 (9 - n + 1)
  rw [← e] at this
  rw [this, mRun_done (by rw [hd]), hd]
  congr 2
  omega
section
variable {t s sl g : Int} {y : Nat} {ws : List Int} (t1 : 1 ≤ t) (t4 : t ≤ 4) (s1 : 1 ≤ s) (s64 : s ≤ 64) (l0 : 0 ≤ sl) (l1 : sl < s) (len : ws.length = (4 + t + 3 * s).toNat)
include t1 t4 s1 s64 l0 l1 len
theorem fr_alone {o T tag : Int} (hm : eMay o g 0 0 false true = true) (hx : wAt ws (4 + t + 3 * sl) = eWord o g 0 0 false true) (hg : g < 1000) (hh : wAt ws 1 = T + 1048576 * tag) (T0 : 0 ≤ T) (T1 : T ≤ 64) (a0 : 0 ≤ tag) (a1 : tag ≤ 4294967295) :
    ∃ q, mRun (frF1 ⟨t, s, sl, g, false, y⟩) 10 10 ⟨ws, frV0 1⟩ = (q, (0, 0), 5) ∧ q.ws.length = ws.length ∧ ∀ j, wAt q.ws j = if j = 1 then sl + 1 + 1048576 * dNext tag else if j = 4 + t + 3 * sl then eWord 0 (g + 1) 0 0 false false else if j = 4 + t + 3 * sl + 2 then T else wAt ws j := by
  obtain ⟨x, ex⟩ : ∃ x, eWord o g 0 0 false true = x := ⟨_, rfl⟩
  obtain ⟨n1, n2⟩ := eNext_word hm
  obtain ⟨w1, w2, w3, w4⟩ := word_live hm
  rw [if_pos hg] at n1
  rw [decide_eq_true hg] at n2
  rw [ex] at hx n1 n2 w1 w2 w3 w4
  obtain ⟨E, hE⟩ : ∃ E, eWord 0 (g + 1) 0 0 false false = E := ⟨_, rfl⟩
  rw [hE] at n1 ⊢
  have lo0 : lOf t s sl 0 = 4 + t + 3 * sl := by unfold lOf; rw [if_pos ⟨l0, l1⟩, Int.add_zero]
  have lo2 : lOf t s sl 2 = 4 + t + 3 * sl + 2 := by unfold lOf; rw [if_pos ⟨l0, l1⟩]
  have o1 : lOnce t 1 = 1 := by unfold lOnce; rw [if_neg (by omega)]
  have i0 : wIn ws (4 + t + 3 * sl) = true := wIn_len len (by omega) (by omega)
  have h1 := goes.one (f1live (c := ⟨t, s, sl, g, false, y⟩) (ws := ws) (v := frV0 1) rfl rfl (by show wAt ws (lOf t s sl 0) = x; rw [lo0, hx]) w1 w2 w3 w4)
  rw [n1, n2] at h1
  obtain ⟨ws1, e1⟩ : ∃ z, wPut ws (4 + t + 3 * sl) E = z := ⟨_, rfl⟩
  have A1 : ∀ j, wAt ws1 j = if j = 4 + t + 3 * sl then E else wAt ws j := fun j => by rw [← e1, wAt_put i0]
  have L1 : ws1.length = ws.length := by rw [← e1, wPut_len]
  have h2 := goes.one (f2 (c := ⟨t, s, sl, g, false, y⟩) (ws := ws) (v := { frV0 1 with wd := x, tw := E, mo := true, nx := 2 }) rfl (by show wCas ws (lOf t s sl 0) x = true; rw [lo0]; unfold wCas; rw [i0, hx]; simp) rfl)
  dsimp only at h2
  rw [lo0, e1] at h2
  obtain ⟨d1, d2, d3, d4⟩ := head_is T0 T1 a0 a1
  have hw1 : wAt ws1 1 = T + 1048576 * tag := by rw [A1, if_neg (by omega), hh]
  have p1 : pushStep t s ws1 1 sl 0 0 = ⟨ws1, 2, sl, T + 1048576 * tag, 0, 0, 0, false⟩ := by
    unfold pushStep
    rw [if_pos rfl, lo2, if_neg (by omega), o1, hw1, if_pos d1]
  have hd : dPush (T + 1048576 * tag) sl = (sl + 1 + 1048576 * dNext tag, T, 0) := by
    unfold dPush
    rw [if_pos d1, if_pos (by omega), d3, d4]
  have i2 : wIn ws1 (4 + t + 3 * sl + 2) = true := wIn_len (by rw [L1, len]) (by omega) (by omega)
  obtain ⟨ws2, e2⟩ : ∃ z, wPut ws1 (4 + t + 3 * sl + 2) T = z := ⟨_, rfl⟩
  have A2 : ∀ j, wAt ws2 j = if j = 4 + t + 3 * sl + 2 then T else wAt ws1 j := fun j => by rw [← e2, wAt_put i2]
  have L2 : ws2.length = ws.length := by rw [← e2, wPut_len, L1]
  have p2 : pushStep t s ws1 2 sl (T + 1048576 * tag) 0 = ⟨ws2, 3, sl, T + 1048576 * tag, sl + 1 + 1048576 * dNext tag, 0, 0, false⟩ := by
    unfold pushStep
    rw [if_neg (by decide), if_pos rfl, lo2, hd, e2]
  have I2 : wIn ws2 1 = true := wIn_len (by rw [L2, len]) (by omega) (by omega)
  have hcas : wCas ws2 1 (T + 1048576 * tag) = true := by unfold wCas; rw [I2, A2, if_neg (by omega), hw1]; simp
  obtain ⟨ws3, e3⟩ : ∃ z, wPut ws2 1 (sl + 1 + 1048576 * dNext tag) = z := ⟨_, rfl⟩
  have A3 : ∀ j, wAt ws3 j = if j = 1 then sl + 1 + 1048576 * dNext tag else wAt ws2 j := fun j => by rw [← e3, wAt_put I2]
  have L3 : ws3.length = ws.length := by rw [← e3, wPut_len, L2]
  have p3 : pushStep t s ws2 3 sl (T + 1048576 * tag) (sl + 1 + 1048576 * dNext tag) = ⟨ws3, 0, sl, T + 1048576 * tag, sl + 1 + 1048576 * dNext tag, 0, 0, true⟩ := by
    unfold pushStep wCasPut
    rw [if_neg (by decide), if_neg (by decide), if_pos rfl, o1, if_pos hcas, if_pos hcas, e3]
  have h3 := goes.one (f3 (c := ⟨t, s, sl, g, false, y⟩) (ws := ws1) (v := { frV0 1 with wd := x, tw := E, mo := true, nx := 3, gv := some ⟨1, sl, 0, 0⟩ }) rfl rfl p1)
  have h4 := goes.one (f3 (c := ⟨t, s, sl, g, false, y⟩) (ws := ws1) (v := { frV0 1 with wd := x, tw := E, mo := true, nx := 3, gv := some ⟨2, sl, T + 1048576 * tag, 0⟩ }) rfl rfl p2)
  have h5 := f3d (c := ⟨t, s, sl, g, false, y⟩) (ws := ws2) (v := { frV0 1 with wd := x, tw := E, mo := true, nx := 3, gv := some ⟨3, sl, T + 1048576 * tag, sl + 1 + 1048576 * dNext tag⟩ }) rfl rfl p3
  refine ⟨_, (((h1.trans h2).trans h3).trans h4).fin10 h5 (by decide), L3, fun j => ?_⟩
  show wAt ws3 j = _
  rw [A3, A2, A1]
  by_cases j1 : j = 1
  · rw [if_pos j1, if_pos j1]
  · rw [if_neg j1, if_neg j1]
    by_cases j2 : j = 4 + t + 3 * sl + 2
    · rw [if_pos j2, if_neg (by omega), if_pos j2]
    · rw [if_neg j2]
      by_cases j3 : j = 4 + t + 3 * sl
      · rw [if_pos j3, if_pos j3]
      · rw [if_neg j3, if_neg j3, if_neg j2]
theorem fr_last {o : Int} (hm : eMay o 1000 0 0 false true = true) (hx : wAt ws (4 + t + 3 * sl) = eWord o 1000 0 0 false true) :
    ∃ q, mRun (frF1 ⟨t, s, sl, 1000, false, y⟩) 10 10 ⟨ws, frV0 1⟩ = (q, (0, 0), 2) ∧ q.ws.length = ws.length ∧ ∀ j, wAt q.ws j = if j = 4 + t + 3 * sl then eWord 0 1000 0 0 false false else wAt ws j := by
  obtain ⟨x, ex⟩ : ∃ x, eWord o 1000 0 0 false true = x := ⟨_, rfl⟩
  obtain ⟨n1, n2⟩ := eNext_word hm
  obtain ⟨w1, w2, w3, w4⟩ := word_live hm
  rw [if_neg (by decide)] at n1
  rw [show decide ((1000 : Int) < 1000) = false by decide] at n2
  rw [ex] at hx n1 n2 w1 w2 w3 w4
  obtain ⟨E, hE⟩ : ∃ E, eWord 0 1000 0 0 false false = E := ⟨_, rfl⟩
  rw [hE] at n1 ⊢
  have lo0 : lOf t s sl 0 = 4 + t + 3 * sl := by unfold lOf; rw [if_pos ⟨l0, l1⟩, Int.add_zero]
  have i0 : wIn ws (4 + t + 3 * sl) = true := wIn_len len (by omega) (by omega)
  have h1 := goes.one (f1live (c := ⟨t, s, sl, 1000, false, y⟩) (ws := ws) (v := frV0 1) rfl rfl (by show wAt ws (lOf t s sl 0) = x; rw [lo0, hx]) w1 w2 w3 w4)
  rw [n1, n2] at h1
  have h2 := f2d (c := ⟨t, s, sl, 1000, false, y⟩) (ws := ws) (v := { frV0 1 with wd := x, tw := E, mo := false, nx := 2 }) rfl (by show wCas ws (lOf t s sl 0) x = true; rw [lo0]; unfold wCas; rw [i0, hx]; simp) rfl
  refine ⟨_, h1.fin10 h2 (by decide), ?_, fun j => ?_⟩
  · show (wPut ws (lOf t s sl 0) E).length = _; rw [wPut_len]
  · show wAt (wPut ws (lOf t s sl 0) E) j = _
    rw [lo0, wAt_put i0]
end
theorem fr_stale {c : FrC} {ws : List Int} (h : c.st = true) : mRun (frF1 c) 10 10 ⟨ws, frV0 1⟩ = (⟨ws, frV0 0⟩, (4, 0), 1) := by
  have := f1s (c := c) (ws := ws) (v := frV0 1) rfl h
  rw [show (10 : Nat) = 9 + 1 from rfl, mRun_done (by rw [this]), this]; rfl
theorem fr_dead {c : FrC} {ws : List Int} {x : Int} (h : c.st = false) (hx : wAt ws (lOf c.t c.s c.sl 0) = x) (hf : fresh x c.ge = false) : ∃ v, mRun (frF1 c) 10 10 ⟨ws, frV0 1⟩ = (⟨ws, v⟩, (4, 0), 1) := by
  have := f1dead (c := c) (ws := ws) (v := frV0 1) rfl h hx hf
  exact ⟨_, by rw [show (10 : Nat) = 9 + 1 from rfl, mRun_done (by rw [this]), this]; rfl⟩
theorem fr_pinned {c : FrC} {ws : List Int} {x : Int} (h : c.st = false) (hx : wAt ws (lOf c.t c.s c.sl 0) = x) (hf : fresh x c.ge = true) (hp : 0 < uP x) : ∃ v, mRun (frF1 c) 10 10 ⟨ws, frV0 1⟩ = (⟨ws, v⟩, (6, 0), 1) := by
  have := f1pin (c := c) (ws := ws) (v := frV0 1) rfl h hx hf hp
  exact ⟨_, by rw [show (10 : Nat) = 9 + 1 from rfl, mRun_done (by rw [this]), this]; rfl⟩
end Go.Proofs.Ytkkeoadnepedjaa
