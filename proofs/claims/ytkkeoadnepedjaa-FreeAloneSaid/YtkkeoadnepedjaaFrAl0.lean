/- Numbers of FreeAlone. -/
import Derived.Test.YtkkeoadnepedjaaFrA0
import Derived.Test.YtkkeoadnepedjaaStF
namespace Go.Proofs.Ytkkeoadnepedjaa
set_option linter.unusedVariables false
set_option linter.unusedSimpArgs false
open Go.RowKit
theorem wAt_ext {ws ws' : List Int} (hl : ws.length = ws'.length) (h : ∀ j : Int, wAt ws j = wAt ws' j) : ws = ws' := by
  apply List.ext_getElem?
  intro j
  by_cases hj : j < ws.length
  · have := h j
    unfold wAt at this
    rw [if_pos (by rw [wIn_iff]; omega), if_pos (by rw [wIn_iff]; omega)] at this
    rw [List.getD_eq_getElem?_getD, List.getD_eq_getElem?_getD] at this
    simp only [Int.toNat_natCast] at this
    rw [List.getElem?_eq_getElem hj, List.getElem?_eq_getElem (by omega)] at this ⊢
    simpa using this
  · rw [List.getElem?_eq_none (by omega), List.getElem?_eq_none (by omega)]
def faW (v : Int) : List Int := [0, 2, 0, 0, 0, v, 0, 2, 0, 0, 0]
def faX (v : Int) : List Int := [0, 1048577, 0, 0, 0, v, 0, 2, 0, 0, 0]
theorem fa_0 : initW 1 2 = [0, 1, 0, 0, 0, 0, 0, 2, 0, 0, 0] := by decide
theorem fa_1 (v : Int) : wPut (wPut [0, 1, 0, 0, 0, 0, 0, 2, 0, 0, 0] 1 2) 5 v = faW v := rfl
theorem fa_5 (v : Int) : wAt (faW v) 5 = v := rfl
theorem fa_5x (v : Int) : wAt (faX v) 5 = v := rfl
theorem fa_put (v w : Int) : wPut (faW v) 5 w = faW w := rfl
theorem fa_putX (v w : Int) : wPut (wPut (wPut (faW v) 5 w) 7 2) 1 1048577 = faX w := rfl
theorem fa_free (v : Int) : freeOf 1 2 (faW v) = [1] := by
  have e1 : wAt (faW v) (lOnce 1 1) = 2 := by rw [show lOnce 1 1 = 1 by decide]; rfl
  unfold freeOf
  rw [e1, show dUnTop 2 = 2 by decide]
  show freeL 1 2 (faW v) 2 2 = [1]
  rw [freeL, if_pos (by decide), show lOf 1 2 (2 - 1) 2 = 10 by decide, show wAt (faW v) 10 = 0 from rfl, freeL, if_neg (by decide)]
  rfl
theorem fa_freeX (v : Int) : freeOf 1 2 (faX v) = [0, 1] := by
  have e1 : wAt (faX v) (lOnce 1 1) = 1048577 := by rw [show lOnce 1 1 = 1 by decide]; rfl
  unfold freeOf
  rw [e1, show dUnTop 1048577 = 1 by decide]
  show freeL 1 2 (faX v) 2 1 = [0, 1]
  rw [freeL, if_pos (by decide), show lOf 1 2 (1 - 1) 2 = 7 by decide, show wAt (faX v) 7 = 2 from rfl, freeL, if_pos (by decide), freeL]
  rfl
theorem fa_ok {v : Int} (h : -9223372036854775808 ≤ v) (h' : v ≤ 9223372036854775807) : WOk (faW v) := by
  intro x hx
  unfold faW at hx
  simp only [List.mem_cons, List.not_mem_nil, or_false] at hx
  omega
theorem fa_okX {v : Int} (h : -9223372036854775808 ≤ v) (h' : v ≤ 9223372036854775807) : WOk (faX v) := by
  intro x hx
  unfold faX at hx
  simp only [List.mem_cons, List.not_mem_nil, or_false] at hx
  omega
def faWay (o g p : Int) (a : Bool) (h : Int) (ws : List Int) (code n : Int) : Prop :=
  ((a = false ∨ h ≠ (hMake 0 g).1) ∧ code = 4 ∧ n = 1 ∧ ws = faW (eWord o g p 0 false a)) ∨
  (a = true ∧ h = (hMake 0 g).1 ∧ 0 < p ∧ code = 6 ∧ n = 1 ∧ ws = faW (eWord o g p 0 false a)) ∨
  (a = true ∧ h = (hMake 0 g).1 ∧ p = 0 ∧ g = 1000 ∧ code = 0 ∧ n = 2 ∧ ws = faW (eWord 0 1000 0 0 false false)) ∨
  (a = true ∧ h = (hMake 0 g).1 ∧ p = 0 ∧ g < 1000 ∧ code = 0 ∧ n = 5 ∧ ws = faX (eWord 0 (g + 1) 0 0 false false))
theorem fa_way {o g p : Int} {a : Bool} (hm : eMay o g p 0 false a = true) (h : Int) : ∃ q code n, mRun (frF1 (frNewC 8 2 1 h)) 10 10 ⟨faW (eWord o g p 0 false a), frV0 1⟩ = (q, (code, 0), n) ∧ faWay o g p a h q.ws code n := by
  obtain ⟨o0, o1, g0, g1, p0, p1, -, -, -, -⟩ := eMay_of hm
  have hmk : (hMake 0 g).1 = 1048576 * g + 1099511627776 := by rw [hMake_ok (by omega)]; simp
  have T : ofT 8 2 1 = 1 := by decide
  have S : ofS 8 2 1 = 2 := by decide
  by_cases hs : hIs h ∧ hSlot h < 2
  rotate_left
  · have e : frNewC 8 2 1 h = ⟨1, 2, 0, 0, true, 0⟩ := by unfold frNewC; rw [T, S, hOf_no hs]; rfl
    rw [e]
    refine ⟨_, 4, 1, fr_stale rfl, .inl ⟨.inr ?_, rfl, rfl, rfl⟩⟩
    rw [hmk]; intro e
    exact hs (by have i : hIs h := by unfold hIs; omega
                 exact ⟨i, by rw [hSlot_is i]; omega⟩)
  obtain ⟨hi, hsl⟩ := hs
  have hsl' := hSlot_is hi
  have hge' := hGen_is hi
  obtain ⟨sl, esl⟩ : ∃ x, hSlot h = x := ⟨_, rfl⟩
  obtain ⟨ge, ege⟩ : ∃ x, hGen h = x := ⟨_, rfl⟩
  have e : frNewC 8 2 1 h = ⟨1, 2, sl, ge, false, 0⟩ := by unfold frNewC; rw [T, S, hOf_yes hi hsl, esl, ege]; rfl
  rw [e]
  rw [esl] at hsl' hsl; rw [ege] at hge'
  unfold hIs at hi
  by_cases s1 : sl = 1
  · subst s1
    obtain ⟨v, hv⟩ := fr_dead (c := ⟨1, 2, 1, ge, false, 0⟩) (ws := faW (eWord o g p 0 false a)) (x := 0) rfl rfl (by unfold fresh; rw [show uA 0 = false by decide]; simp)
    exact ⟨_, 4, 1, hv, .inl ⟨.inr (by rw [hmk]; intro e; omega), rfl, rfl, rfl⟩⟩
  have s0 : sl = 0 := by omega
  subst s0
  have hfr : fresh (eWord o g p 0 false a) ge = (a && decide (g = ge)) := fresh_word hm
  by_cases hf : a = true ∧ g = ge
  rotate_left
  · have hf0 : fresh (eWord o g p 0 false a) ge = false := by rw [hfr]; cases a; rfl; simp; intro e; exact hf ⟨rfl, e⟩
    obtain ⟨v, hv⟩ := fr_dead (c := ⟨1, 2, 0, ge, false, 0⟩) (ws := faW (eWord o g p 0 false a)) (x := eWord o g p 0 false a) rfl rfl hf0
    refine ⟨_, 4, 1, hv, .inl ⟨?_, rfl, rfl, rfl⟩⟩
    cases a
    · exact .inl rfl
    · right; rw [hmk]; intro e; exact hf ⟨rfl, by omega⟩
  obtain ⟨ha, hgg⟩ := hf
  subst ha hgg
  have hown : h = (hMake 0 g).1 := by rw [hmk]; omega
  have hf1 : fresh (eWord o g p 0 false true) g = true := by rw [hfr]; simp
  obtain ⟨i, x1, x2, x3, x4, x5, x6⟩ := un_pack hm
  obtain ⟨u1, u2, u3, u4, u5, u6, u7⟩ := u_yes i
  by_cases hp : 0 < p
  · obtain ⟨v, hv⟩ := fr_pinned (c := ⟨1, 2, 0, g, false, 0⟩) (ws := faW (eWord o g p 0 false true)) (x := eWord o g p 0 false true) rfl rfl hf1 (by rw [u3, x3]; exact hp)
    exact ⟨_, 6, 1, hv, .inr (.inl ⟨rfl, hown, hp, rfl, rfl, rfl⟩)⟩
  have hp0 : p = 0 := by omega
  subst hp0
  by_cases hg : g = 1000
  · subst hg
    obtain ⟨q, hr, hl, hw⟩ := fr_last (t := 1) (s := 2) (sl := 0) (y := 0) (ws := faW (eWord o 1000 0 0 false true)) (by decide) (by decide) (by decide) (by decide) (by decide) (by decide) rfl hm rfl
    refine ⟨q, 0, 2, hr, .inr (.inr (.inl ⟨rfl, hown, rfl, rfl, rfl, rfl, ?_⟩))⟩
    rw [← fa_put (eWord o 1000 0 0 false true)]
    refine wAt_ext (by rw [hl, wPut_len]) fun j => ?_
    rw [hw, wAt_put rfl]; rfl
  · obtain ⟨q, hr, hl, hw⟩ := fr_alone (t := 1) (s := 2) (sl := 0) (g := g) (y := 0) (ws := faW (eWord o g 0 0 false true)) (by decide) (by decide) (by decide) (by decide) (by decide) (by decide) rfl (T := 2) (tag := 0) hm rfl (by omega) rfl (by decide) (by decide) (by decide) (by decide)
    refine ⟨q, 0, 5, hr, .inr (.inr (.inr ⟨rfl, hown, rfl, by omega, rfl, rfl, ?_⟩))⟩
    rw [← fa_putX (eWord o g 0 0 false true)]
    refine wAt_ext (by rw [hl, wPut_len, wPut_len, wPut_len]) fun j => ?_
    rw [hw, wAt_put (by rw [wIn_put, wIn_put]; rfl), wAt_put (by rw [wIn_put]; rfl), wAt_put rfl]
    rw [show dNext 0 = 1 by decide]
    by_cases j1 : j = 1
    · rw [if_pos j1, if_pos j1]; rfl
    · rw [if_neg j1, if_neg j1]
      by_cases j5 : j = 5
      · rw [if_pos (by omega), if_neg (by omega), if_pos j5]
      · rw [if_neg (by omega)]
        by_cases j7 : j = 7
        · rw [if_pos (by omega), if_pos j7]
        · rw [if_neg (by omega), if_neg j7, if_neg j5]
end Go.Proofs.Ytkkeoadnepedjaa
