/- A pin, or an unpin, alone: in numbers. -/
import Derived.Test.YtmbkkpeepbfgoaaPnR
namespace Go.Proofs.Ytmbkkpeepbfgoaa
set_option linter.unusedVariables false
set_option linter.unusedSimpArgs false
open Go.RowKit
def p14A0 : List Int := [0, 1, 0, 0, 0, 0, 0, 2, 0, 0, 0]
def p14A (v : Int) : List Int := [0, 1, 0, 0, 0, 0, 0, 2, v, 0, 0]
theorem p14_a0 : initW 1 2 = p14A0 := by decide
theorem p14_a1 (v : Int) : wPut p14A0 8 v = p14A v := rfl
/-- by how much. -/
def pnBy (un : Bool) : Int := if un = true then -1 else 1
/-- the code that the words tell. -/
def pnCode (p : Int) (a b un : Bool) : Int := if (!a || b) = true then 4 else if (un && p == 0) = true then 8 else if (!un && p == 7) = true then 7 else 0
theorem pn_turn {o g p u : Int} {a un : Bool} (h : eMay o g p u false a = true) (ha : a = true) (b : Bool) (hb : b = false) :
    pnTurn un (eWord o g p u false a) = if pnCode p a b un = 0 then (eWord o g (p + pnBy un) u false a, 0) else (0, pnCode p a b un) := by
  obtain ⟨i, x1, x2, x3, x4, x5, x6⟩ := un_pack h
  obtain ⟨h1, h2, h3, h4, h5, h6, h7, h8, h9, h10⟩ := eMay_of h
  subst ha hb
  have hm : ∀ q : Int, 0 ≤ q → q ≤ 7 → eMay o g q u false true = true := by intro q h0 h1'; unfold eMay; simp; omega
  unfold pnTurn ePin eUnpin pinCode unpinCode pnCode pnBy
  rw [eTurn_live i x6, eTurn_live i x6, x1, x2, x3, x4, x5]
  unfold eChg ePack
  cases un
  · by_cases hp : p = 7
    · subst hp; simp
    · have hm' := hm (p + 1) (by omega) (by omega)
      simp [hp, hm']
  · by_cases hp : p = 0
    · subst hp; simp
    · have hm' := hm (p - 1) (by omega) (by omega)
      have e : p + -1 = p - 1 := by omega
      simp [hp, hm', e]
theorem p14A_same (v w : Int) (k : Nat) (h : k ≠ 8) : wAt (p14A v) k = wAt (p14A w) k := by
  rw [← p14_a1, ← p14_a1, wAt_put_ne (by omega), wAt_put_ne (by omega)]
theorem p14A_at (v : Int) : wAt (p14A v) 8 = v := rfl
theorem p14A_at5 (v : Int) : wAt (p14A v) 5 = 0 := rfl
theorem p14A_cas (v : Int) : wCas (p14A v) 8 v = true := by
  show (true && (v == v)) = true
  simp
theorem p14A_put (v n : Int) : wCasPut (p14A v) 8 v n = p14A n := by
  unfold wCasPut; rw [if_pos (p14A_cas v)]; rfl
theorem lOf121 : lOf 1 2 1 0 = 8 := by decide
theorem lOf120 : lOf 1 2 0 0 = 5 := by decide
theorem own_of {g h : Int} (hg : 0 ≤ g ∧ g ≤ 1000) (hh : h = (hMake 1 g).1) : hOf h 2 = (1, g, 0) := by
  rw [hMake_ok ⟨by omega, by omega, hg.1, hg.2⟩] at hh
  have e : h = 1 + 1048576 * g + 1099511627776 := hh
  have i := hIs_make (s := 1) (g := g) ⟨by omega, by omega, hg.1, hg.2⟩
  rw [← e] at i
  have s1 : hSlot h = 1 := by rw [hSlot_is i]; omega
  have g1 : hGen h = g := by rw [hGen_is i]; omega
  unfold hOf
  rw [if_pos ⟨i, by rw [s1]; omega⟩, s1, g1]
theorem not_own {g h : Int} (hg : 0 ≤ g ∧ g ≤ 1000) (hh : h ≠ (hMake 1 g).1) : (hOf h 2).2.2 = 4 ∨ ((hOf h 2).2.2 = 0 ∧ ((hOf h 2).1 = 0 ∨ ((hOf h 2).1 = 1 ∧ (hOf h 2).2.1 ≠ g))) := by
  unfold hOf
  split
  · rename_i hc
    obtain ⟨i, s2⟩ := hc
    right
    refine ⟨rfl, ?_⟩
    have e1 := hSlot_is i
    have e2 := hGen_is i
    obtain ⟨i1, i2, i3⟩ := i
    rw [hMake_ok ⟨by omega, by omega, hg.1, hg.2⟩] at hh
    simp only at hh ⊢
    omega
  · exact .inl rfl
/-- what a machine alone comes to. -/
def AlonePn (o g p u : Int) (a b un : Bool) (r : PnQ × (Int × Int) × Int) : Prop :=
  ∃ nx wd tw n p', r = (⟨p14A (eWord o g p' u false a), nx, wd, tw⟩, (pnCode p a b un, 0), n) ∧ eMay o g p' u false a = true ∧ p' = (if pnCode p a b un = 0 then p + pnBy un else p) ∧ (pnCode p a b un = 0 → n = 2)
theorem pnTurn_two {o g p u : Int} {un : Bool} (h : eMay o g p u false true = true) (hc : pnCode p true false un = 0) : eMay o g (p + pnBy un) u false true = true := by
  obtain ⟨h1, h2, h3, h4, h5, h6, h7, h8, h9, h10⟩ := eMay_of h
  have : 0 ≤ p + pnBy un ∧ p + pnBy un ≤ 7 := by
    unfold pnCode at hc
    unfold pnBy
    cases un
    · by_cases hp : p = 7
      · subst hp; simp at hc
      · simp; omega
    · by_cases hp : p = 0
      · subst hp; simp at hc
      · simp; omega
  unfold eMay; simp; omega
theorem fresh_word {o g p u ge : Int} {a : Bool} (h : eMay o g p u false a = true) : fresh (eWord o g p u false a) ge = (a && decide (g = ge)) := by
  obtain ⟨i, x1, x2, x3, x4, x5, x6⟩ := un_pack h
  obtain ⟨u1, u2, u3, u4, u5, u6, u7⟩ := u_yes i
  unfold fresh; rw [u7, u6, u2, x2, x6]; simp
theorem lock_word {o g p u : Int} {a : Bool} (h : eMay o g p u false a = true) : uL (eWord o g p u false a) = false := by
  obtain ⟨i, x1, x2, x3, x4, x5, x6⟩ := un_pack h
  obtain ⟨u1, u2, u3, u4, u5, u6, u7⟩ := u_yes i
  rw [u5, x5]
theorem pn_alone {o g p u h : Int} {a b un : Bool} (hm : eMay o g p u false a = true) (hb : (h != (hMake 1 g).1) = b) :
    AlonePn o g p u a b un (mRun (pnF1 1 2 (hOf h 2).1 (hOf h 2).2.1 ((hOf h 2).2.2 != 0) un) 10 10 ⟨p14A (eWord o g p u false a), 1, 0, 0⟩) := by
  obtain ⟨h1, h2, h3, h4, h5, h6, h7, h8, h9, h10⟩ := eMay_of hm
  obtain ⟨v, hv⟩ : ∃ v, eWord o g p u false a = v := ⟨_, rfl⟩
  cases b
  case false =>
    have hh : h = (hMake 1 g).1 := by simpa using hb
    rw [own_of ⟨h3, h4⟩ hh]
    have fr := fresh_word (ge := g) hm
    have fl := lock_word hm
    rw [hv] at fr fl
    cases a
    case false =>
      refine ⟨0, v, 0, 1, p, ?_, hm, rfl, fun h => absurd h (by unfold pnCode; simp)⟩
      have e1 : pnF1 1 2 1 g ((0 : Int) != 0) un ⟨p14A v, 1, 0, 0⟩ = (⟨p14A v, 0, v, 0⟩, (4, 0), true) := by
        unfold pnF1 pinStep
        simp only [lOf121, p14A_at, fr]
        rfl
      rw [hv, mRun_done (by rw [e1]), e1]
      rfl
    case true =>
      have tn := pn_turn (un := un) hm rfl false rfl
      rw [hv] at tn
      by_cases hc : pnCode p true false un = 0
      · rw [if_pos hc] at tn
        refine ⟨0, v, eWord o g (p + pnBy un) u false true, 2, p + pnBy un, ?_, pnTurn_two hm hc, by rw [if_pos hc], fun _ => rfl⟩
        have e1 : pnF1 1 2 1 g ((0 : Int) != 0) un ⟨p14A v, 1, 0, 0⟩ = (⟨p14A v, 2, v, eWord o g (p + pnBy un) u false true⟩, (0, 0), false) := by
          unfold pnF1 pinStep
          simp only [lOf121, p14A_at, fr, fl, tn]
          simp
        have e2 : pnF1 1 2 1 g ((0 : Int) != 0) un ⟨p14A v, 2, v, eWord o g (p + pnBy un) u false true⟩ = (⟨p14A (eWord o g (p + pnBy un) u false true), 0, v, eWord o g (p + pnBy un) u false true⟩, (0, 0), true) := by
          unfold pnF1 pinStep
          simp only [lOf121, p14A_cas, p14A_put]
          simp
        rw [hv, mRun_more (by rw [e1]), e1, mRun_done (by rw [e2]), e2, hc]
        rfl
      · rw [if_neg hc] at tn
        refine ⟨0, v, 0, 1, p, ?_, hm, by rw [if_neg hc], fun h => absurd h hc⟩
        have e1 : pnF1 1 2 1 g ((0 : Int) != 0) un ⟨p14A v, 1, 0, 0⟩ = (⟨p14A v, 0, v, 0⟩, (pnCode p true false un, 0), true) := by
          unfold pnF1 pinStep
          simp only [lOf121, p14A_at, fr, fl, tn, hc]
          simp
        rw [hv, mRun_done (by rw [e1]), e1]
        rfl
  case true =>
    have hh : h ≠ (hMake 1 g).1 := by simpa using hb
    have hcode : pnCode p a true un = 4 := by unfold pnCode; simp
    have fin : ∀ wd, pnF1 1 2 (hOf h 2).1 (hOf h 2).2.1 ((hOf h 2).2.2 != 0) un ⟨p14A v, 1, 0, 0⟩ = (⟨p14A v, 0, wd, 0⟩, (4, 0), true) → AlonePn o g p u a true un (mRun (pnF1 1 2 (hOf h 2).1 (hOf h 2).2.1 ((hOf h 2).2.2 != 0) un) 10 10 ⟨p14A (eWord o g p u false a), 1, 0, 0⟩) := by
      intro wd e1
      refine ⟨0, wd, 0, 1, p, ?_, hm, by rw [hcode, if_neg (by decide)], fun h => absurd h (by rw [hcode]; decide)⟩
      rw [hv, mRun_done (by rw [e1]), e1, hcode]
      rfl
    rcases not_own ⟨h3, h4⟩ hh with e | ⟨e, e' | ⟨e', e''⟩⟩
    · refine fin 0 ?_
      unfold pnF1 pinStep
      rw [e]
      rfl
    · refine fin 0 ?_
      unfold pnF1 pinStep
      rw [e, e']
      simp only [lOf120, p14A_at5]
      have f0 : fresh 0 (hOf h 2).2.1 = false := by unfold fresh; rw [show uA 0 = false by decide]; simp
      simp [f0]
    · refine fin v ?_
      have fr := fresh_word (ge := (hOf h 2).2.1) hm
      have f0 : fresh v (hOf h 2).2.1 = false := by rw [← hv, fr]; simp; intro _ h; exact e'' h.symm
      unfold pnF1 pinStep
      rw [e, e']
      simp only [lOf121, p14A_at, f0]
      simp
end Go.Proofs.Ytmbkkpeepbfgoaa
