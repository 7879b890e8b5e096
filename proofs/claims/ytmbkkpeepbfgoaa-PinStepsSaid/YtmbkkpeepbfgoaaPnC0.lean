/- A pin's machine, alone; numbers of the pin laws' 'live'. -/
import Derived.Test.YtmbkkpeepbfgoaaPnS
import Derived.Test.YtmbkkpeepbfgoaaPnN
import Derived.Test.YtmbkkpeepbfgoaaRun14
import Derived.Test.YtmbkkpeepbfgoaaArr
import Derived.Test.YtmbkkpeepbfgoaaFlat
namespace Go.Proofs.Ytmbkkpeepbfgoaa
set_option linter.unusedVariables false
set_option linter.unusedSimpArgs false
open Go.RowKit
structure PnQ where
  ws : List Int
  nx : Int
  wd : Int
  tw : Int
def pnF1 (t s sl ge : Int) (st un : Bool) (q : PnQ) : PnQ × (Int × Int) × Bool :=
  let r := pinStep t s sl ge st un q.ws q.nx q.wd q.tw
  (⟨r.ws, r.nx, r.wd, r.tw⟩, (r.code, 0), r.done)
theorem wCasPut_len (ws : List Int) (k o m : Int) : (wCasPut ws k o m).length = ws.length := by unfold wCasPut; split; exact wPut_len _ _ _; rfl
theorem pinStep_len (t s sl ge : Int) (st un : Bool) (ws : List Int) (nx wd tw : Int) : (pinStep t s sl ge st un ws nx wd tw).ws.length = ws.length := by
  unfold pinStep
  repeat' split
  all_goals first | rfl | exact wCasPut_len _ _ _ _
set_option maxHeartbeats 1000000 in
theorem pin_run {B : Nat} {W w : World} {R : List Grp} {x p bw bb : Nat} {ws bs : List Int} {n t s sl ge : Int} {st un : Bool} {nx wd tw : Int} (most : Nat) (hm : most ≤ 1000000) (hO : Owns B W w (memG p bw bb ws bs n :: pnG x t s sl ge st un nx wd tw :: R)) (hL : lOk t s) (hl : ws.length ≤ 4096) (r : PnQ × (Int × Int) × Int) (hr : mRun (pnF1 t s sl ge st un) most most ⟨ws, nx, wd, tw⟩ = r) :
    Calls Try.prog 34 #[.pointer (some ⟨p, 0, none⟩), .pointer (some ⟨x, 0, none⟩), .int .i64 most] w fun e w' => e = .returned (resN r.2.1 r.2.2) ∧
      ∃ m, Owns B W w' (memG p bw bb r.1.ws bs m :: pnG x t s sl ge st un r.1.nx r.1.wd r.1.tw :: R) := by
  subst hr
  refine law14_run (pnF1 t s sl ge st un) (fun q m => memG p bw bb q.ws bs m :: pnG x t s sl ge st un q.nx q.wd q.tw :: R) (fun q => q.ws.length ≤ 4096) (fun q hq => by show (pinStep _ _ _ _ _ _ _ _ _ _).ws.length ≤ 4096; rw [pinStep_len]; exact hq) x p ?_ most hm ⟨ws, nx, wd, tw⟩ n w hO hl
  intro q m G w hq hO
  refine (pin_Step hO hL hq).mono ?_
  rintro e w' ⟨he, m', hO'⟩
  exact ⟨he, m', hO'⟩
def p14W0 : List Int := [0, 1, 0, 0, 0, 0, 0, 0]
def p14W1 : List Int := [0, 1, 0, 0, 0, 562949953421312, 0, 0]
def p14W2 : List Int := [0, 1, 0, 0, 0, 564049465049088, 0, 0]
def p14W3 : List Int := [0, 1, 0, 0, 0, 570646534815744, 0, 0]
def p14B0 : List Int := [0, 0, 0, 0, 0, 0, 0, 0]
theorem p14_0 : initW 1 1 = p14W0 := by decide
theorem p14_b0 : List.replicate (8 : Int).toNat (0 : Int) = p14B0 := by decide
theorem p14_1 : wPut p14W0 5 562949953421312 = p14W1 := by decide
theorem p14_r1 : mRun (pnF1 1 1 0 0 false false) 10 10 ⟨p14W1, 1, 0, 0⟩ = (⟨p14W2, 0, 562949953421312, 564049465049088⟩, (0, 0), 2) := by kernel_rfl
theorem p14_r2 : mRun (pnF1 1 1 0 0 false true) 10 10 ⟨p14W2, 1, 0, 0⟩ = (⟨p14W1, 0, 564049465049088, 562949953421312⟩, (0, 0), 2) := by kernel_rfl
theorem p14_r3 : mRun (pnF1 1 1 0 0 false true) 10 10 ⟨p14W1, 1, 0, 0⟩ = (⟨p14W1, 0, 562949953421312, 0⟩, (8, 0), 1) := by kernel_rfl
theorem p14_r4 : mRun (pnF1 1 1 0 0 true false) 10 10 ⟨p14W1, 1, 0, 0⟩ = (⟨p14W1, 0, 0, 0⟩, (4, 0), 1) := by kernel_rfl
theorem p14_3 : wPut p14W1 5 570646534815744 = p14W3 := by decide
theorem p14_r5 : mRun (pnF1 1 1 0 0 false false) 10 10 ⟨p14W3, 1, 0, 0⟩ = (⟨p14W3, 0, 570646534815744, 0⟩, (7, 0), 1) := by kernel_rfl
theorem p14_r6 : mRun (pnF1 0 0 0 0 true false) 10 10 ⟨p14W3, 0, 0, 0⟩ = (⟨p14W3, 0, 0, 0⟩, (1, 0), 1) := by kernel_rfl
theorem p14_n1 (un : Bool) (x : Nat) : pnNews 8 1 1 1099511627776 un x = pnG x 1 1 0 0 false un 1 0 0 := by
  have h1 : ofT 8 1 1 = 1 := by decide
  have h2 : ofS 8 1 1 = 1 := by decide
  have h3 : hOf 1099511627776 1 = (0, 0, 0) := by decide
  have h4 : cfgOk 8 1 1 = true := by decide
  unfold pnNews; rw [h1, h2, h3, h4]; rfl
theorem p14_n2 (un : Bool) (x : Nat) : pnNews 8 1 1 1099511627777 un x = pnG x 1 1 0 0 true un 1 0 0 := by
  have h1 : ofT 8 1 1 = 1 := by decide
  have h2 : ofS 8 1 1 = 1 := by decide
  have h3 : hOf 1099511627777 1 = (0, 0, 4) := by decide
  have h4 : cfgOk 8 1 1 = true := by decide
  unfold pnNews; rw [h1, h2, h3, h4]; rfl
theorem p14_n3 (un : Bool) (x : Nat) : pnNews 0 0 0 1099511627776 un x = pnG x 0 0 0 0 true un 0 0 0 := by
  have h1 : ofT 0 0 0 = 0 := by decide
  have h2 : ofS 0 0 0 = 0 := by decide
  have h3 : hOf 1099511627776 0 = (0, 0, 4) := by decide
  have h4 : cfgOk 0 0 0 = false := by decide
  unfold pnNews; rw [h1, h2, h3, h4]; rfl
theorem lOk11 : lOk 1 1 := .inr (by decide)
theorem lOk00 : lOk 0 0 := .inl (by decide)
end Go.Proofs.Ytmbkkpeepbfgoaa
namespace Go.Proofs.Ytmbkkpeepbfgoaa
set_option linter.unusedVariables false
set_option linter.unusedSimpArgs false
open Go.RowKit
def p14A0 : List Int := [0, 1, 0, 0, 0, 0, 0, 2, 0, 0, 0]
def p14A (v : Int) : List Int := [0, 1, 0, 0, 0, 0, 0, 2, v, 0, 0]
theorem p14_a0 : initW 1 2 = p14A0 := by decide
theorem p14_a1 (v : Int) : wPut p14A0 8 v = p14A v := rfl
/-- by how much. -/
def pnBy (un : Bool) : Int := if un = true then -1 else 1
/-- the code that the words tell. -/
def pnCode (p : Int) (a b un : Bool) : Int := if (!a || b) = true then 4 else if (un && p == 0) = true then 8 else if (!un && p == 7) = true then 7 else 0
theorem pn_turn {o g p u : Int} {a un : Bool} (h : eMay o g p u false a = true) (ha : a = true) (b : Bool) (hb : b = false) :
    pnTurn un (eWord o g p u false a) = if pnCode p a b un = 0 then (eWord o g (p + pnBy un) u false a, 0) else (0, pnCode p a b un) := by
  obtain ⟨i, x1, x2, x3, x4, x5, x6⟩ := un_pack h
  obtain ⟨h1, h2, h3, h4, h5, h6, h7, h8, h9, h10⟩ := eMay_of h
  subst ha hb
  have hm : ∀ q : Int, 0 ≤ q → q ≤ 7 → eMay o g q u false true = true := by intro q h0 h1'; unfold eMay; simp; omega
  unfold pnTurn ePin eUnpin pinCode unpinCode pnCode pnBy
  rw [eTurn_live i x6, eTurn_live i x6, x1, x2, x3, x4, x5]
  unfold eChg ePack
  cases un
  · by_cases hp : p = 7
    · subst hp; simp
    · have hm' := hm (p + 1) (by omega) (by omega)
      simp [hp, hm']
  · by_cases hp : p = 0
    · subst hp; simp
    · have hm' := hm (p - 1) (by omega) (by omega)
      have e : p + -1 = p - 1 := by omega
      simp [hp, hm', e]
theorem p14A_same (v w : Int) (k : Nat) (h : k ≠ 8) : wAt (p14A v) k = wAt (p14A w) k := by
  rw [← p14_a1, ← p14_a1, wAt_put_ne (by omega), wAt_put_ne (by omega)]
theorem p14A_at (v : Int) : wAt (p14A v) 8 = v := rfl
theorem p14A_at5 (v : Int) : wAt (p14A v) 5 = 0 := rfl
theorem p14A_cas (v : Int) : wCas (p14A v) 8 v = true := by
  show (true && (v == v)) = true
  simp
theorem p14A_put (v n : Int) : wCasPut (p14A v) 8 v n = p14A n := by
  unfold wCasPut; rw [if_pos (p14A_cas v)]; rfl
theorem lOf121 : lOf 1 2 1 0 = 8 := by decide
theorem lOf120 : lOf 1 2 0 0 = 5 := by decide
theorem own_of {g h : Int} (hg : 0 ≤ g ∧ g ≤ 1000) (hh : h = (hMake 1 g).1) : hOf h 2 = (1, g, 0) := by
  rw [hMake_ok ⟨by omega, by omega, hg.1, hg.2⟩] at hh
  have e : h = 1 + 1048576 * g + 1099511627776 := hh
  have i := hIs_make (s := 1) (g := g) ⟨by omega, by omega, hg.1, hg.2⟩
  rw [← e] at i
  have s1 : hSlot h = 1 := by rw [hSlot_is i]; omega
  have g1 : hGen h = g := by rw [hGen_is i]; omega
  unfold hOf
  rw [if_pos ⟨i, by rw [s1]; omega⟩, s1, g1]
theorem not_own {g h : Int} (hg : 0 ≤ g ∧ g ≤ 1000) (hh : h ≠ (hMake 1 g).1) : (hOf h 2).2.2 = 4 ∨ ((hOf h 2).2.2 = 0 ∧ ((hOf h 2).1 = 0 ∨ ((hOf h 2).1 = 1 ∧ (hOf h 2).2.1 ≠ g))) := by
  unfold hOf
  split
  · rename_i hc
    obtain ⟨i, s2⟩ := hc
    right
    refine ⟨rfl, ?_⟩
    have e1 := hSlot_is i
    have e2 := hGen_is i
    obtain ⟨i1, i2, i3⟩ := i
    rw [hMake_ok ⟨by omega, by omega, hg.1, hg.2⟩] at hh
    simp only at hh ⊢
    omega
  · exact .inl rfl
/-- what a machine alone comes to. -/
def AlonePn (o g p u : Int) (a b un : Bool) (r : PnQ × (Int × Int) × Int) : Prop :=
  ∃ nx wd tw n p', r = (⟨p14A (eWord o g p' u false a), nx, wd, tw⟩, (pnCode p a b un, 0), n) ∧ eMay o g p' u false a = true ∧ p' = (if pnCode p a b un = 0 then p + pnBy un else p) ∧ (pnCode p a b un = 0 → n = 2)
theorem pnTurn_two {o g p u : Int} {un : Bool} (h : eMay o g p u false true = true) (hc : pnCode p true false un = 0) : eMay o g (p + pnBy un) u false true = true := by
  obtain ⟨h1, h2, h3, h4, h5, h6, h7, h8, h9, h10⟩ := eMay_of h
  have : 0 ≤ p + pnBy un ∧ p + pnBy un ≤ 7 := by
    unfold pnCode at hc
    unfold pnBy
    cases un
    · by_cases hp : p = 7
      · subst hp; simp at hc
      · simp; omega
    · by_cases hp : p = 0
      · subst hp; simp at hc
      · simp; omega
  unfold eMay; simp; omega
theorem pn_alone {o g p u h : Int} {a b un : Bool} (hm : eMay o g p u false a = true) (hb : (h != (hMake 1 g).1) = b) :
    AlonePn o g p u a b un (mRun (pnF1 1 2 (hOf h 2).1 (hOf h 2).2.1 ((hOf h 2).2.2 != 0) un) 10 10 ⟨p14A (eWord o g p u false a), 1, 0, 0⟩) := by
  obtain ⟨h1, h2, h3, h4, h5, h6, h7, h8, h9, h10⟩ := eMay_of hm
  obtain ⟨v, hv⟩ : ∃ v, eWord o g p u false a = v := ⟨_, rfl⟩
  cases b
  case false =>
    have hh : h = (hMake 1 g).1 := by simpa using hb
    rw [own_of ⟨h3, h4⟩ hh]
    have fr := fresh_word (ge := g) hm
    have fl := lock_word hm
    rw [hv] at fr fl
    cases a
    case false =>
      refine ⟨0, v, 0, 1, p, ?_, hm, rfl, fun h => absurd h (by unfold pnCode; simp)⟩
      have e1 : pnF1 1 2 1 g ((0 : Int) != 0) un ⟨p14A v, 1, 0, 0⟩ = (⟨p14A v, 0, v, 0⟩, (4, 0), true) := by
        unfold pnF1 pinStep
        simp only [lOf121, p14A_at, fr]
        rfl
      rw [hv, mRun_done (by rw [e1]), e1]
      rfl
    case true =>
      have tn := pn_turn (un := un) hm rfl false rfl
      rw [hv] at tn
      by_cases hc : pnCode p true false un = 0
      · rw [if_pos hc] at tn
        refine ⟨0, v, eWord o g (p + pnBy un) u false true, 2, p + pnBy un, ?_, pnTurn_two hm hc, by rw [if_pos hc], fun _ => rfl⟩
        have e1 : pnF1 1 2 1 g ((0 : Int) != 0) un ⟨p14A v, 1, 0, 0⟩ = (⟨p14A v, 2, v, eWord o g (p + pnBy un) u false true⟩, (0, 0), false) := by
          unfold pnF1 pinStep
          simp only [lOf121, p14A_at, fr, fl, tn]
          simp
        have e2 : pnF1 1 2 1 g ((0 : Int) != 0) un ⟨p14A v, 2, v, eWord o g (p + pnBy un) u false true⟩ = (⟨p14A (eWord o g (p + pnBy un) u false true), 0, v, eWord o g (p + pnBy un) u false true⟩, (0, 0), true) := by
          unfold pnF1 pinStep
          simp only [lOf121, p14A_cas, p14A_put]
          simp
        rw [hv, mRun_more (by rw [e1]), e1, mRun_done (by rw [e2]), e2, hc]
        rfl
      · rw [if_neg hc] at tn
        refine ⟨0, v, 0, 1, p, ?_, hm, by rw [if_neg hc], fun h => absurd h hc⟩
        have e1 : pnF1 1 2 1 g ((0 : Int) != 0) un ⟨p14A v, 1, 0, 0⟩ = (⟨p14A v, 0, v, 0⟩, (pnCode p true false un, 0), true) := by
          unfold pnF1 pinStep
          simp only [lOf121, p14A_at, fr, fl, tn, hc]
          simp
        rw [hv, mRun_done (by rw [e1]), e1]
        rfl
  case true =>
    have hh : h ≠ (hMake 1 g).1 := by simpa using hb
    have hcode : pnCode p a true un = 4 := by unfold pnCode; simp
    have fin : ∀ wd, pnF1 1 2 (hOf h 2).1 (hOf h 2).2.1 ((hOf h 2).2.2 != 0) un ⟨p14A v, 1, 0, 0⟩ = (⟨p14A v, 0, wd, 0⟩, (4, 0), true) → AlonePn o g p u a true un (mRun (pnF1 1 2 (hOf h 2).1 (hOf h 2).2.1 ((hOf h 2).2.2 != 0) un) 10 10 ⟨p14A (eWord o g p u false a), 1, 0, 0⟩) := by
      intro wd e1
      refine ⟨0, wd, 0, 1, p, ?_, hm, by rw [hcode, if_neg (by decide)], fun h => absurd h (by rw [hcode]; decide)⟩
      rw [hv, mRun_done (by rw [e1]), e1, hcode]
      rfl
    rcases not_own ⟨h3, h4⟩ hh with e | ⟨e, e' | ⟨e', e''⟩⟩
    · refine fin 0 ?_
      unfold pnF1 pinStep
      rw [e]
      rfl
    · refine fin 0 ?_
      unfold pnF1 pinStep
      rw [e, e']
      simp only [lOf120, p14A_at5]
      have f0 : fresh 0 (hOf h 2).2.1 = false := by unfold fresh; rw [show uA 0 = false by decide]; simp
      simp [f0]
    · refine fin v ?_
      have fr := fresh_word (ge := (hOf h 2).2.1) hm
      have f0 : fresh v (hOf h 2).2.1 = false := by rw [← hv, fr]; simp; intro _ h; exact e'' h.symm
      unfold pnF1 pinStep
      rw [e, e']
      simp only [lOf121, p14A_at, f0]
      simp
end Go.Proofs.Ytmbkkpeepbfgoaa
namespace Go.Proofs.Ytmbkkpeepbfgoaa
set_option linter.unusedVariables false
set_option linter.unusedSimpArgs false
open Go.RowKit
theorem pn_go {t s sl ge k v v' wd tw : Int} {un : Bool} {ws : List Int} (most : Nat) (hk : lOf t s sl 0 = k) (hw : wAt ws k = v) (hf : fresh v ge = true) (hl : (uL v && !un) = false) (ht : pnTurn un v = (v', 0)) (hc : wCas ws k v = true) :
    mRun (pnF1 t s sl ge false un) (most + 2) (most + 2) ⟨ws, 1, wd, tw⟩ = (⟨wCasPut ws k v v', 0, v, v'⟩, (0, 0), 2) := by
  have e1 : pnF1 t s sl ge false un ⟨ws, 1, wd, tw⟩ = (⟨ws, 2, v, v'⟩, (0, 0), false) := by
    unfold pnF1 pinStep
    simp only [hk, hw, hf, hl, ht]
    simp
  have e2 : pnF1 t s sl ge false un ⟨ws, 2, v, v'⟩ = (⟨wCasPut ws k v v', 0, v, v'⟩, (0, 0), true) := by
    unfold pnF1 pinStep
    simp only [hk, hc]
    simp
  rw [mRun_more (by rw [e1]), e1, mRun_done (by rw [e2]), e2]
  simp only [Prod.mk.injEq, true_and]
  omega
def p14V (v : Int) : List Int := [0, 1, 0, 0, 0, v, 0, 0]
theorem p14V_0 (v : Int) : wPut p14W0 5 v = p14V v := rfl
theorem p14V_put (v w : Int) : wPut (p14V v) 5 w = p14V w := rfl
theorem p14V_at (v : Int) : wAt (p14V v) 5 = v := rfl
theorem p14V_cas (v : Int) : wCas (p14V v) 5 v = true := by
  show (true && (v == v)) = true
  simp
theorem p14V_casPut (v n : Int) : wCasPut (p14V v) 5 v n = p14V n := by
  unfold wCasPut; rw [if_pos (p14V_cas v)]; rfl
theorem lOf110 : lOf 1 1 0 0 = 5 := by decide
theorem pn_wait (wd : Int) : pinStep 1 1 0 0 false false (p14V 844424930131968) 1 wd 0 = ⟨p14V 844424930131968, 1, 844424930131968, 0, 0, false⟩ := by
  unfold pinStep
  simp only [lOf110, p14V_at]
  rw [if_neg (by decide), if_pos (by decide), if_neg (by decide), if_pos (by decide), if_pos (by decide)]
theorem pn_waited (wd : Int) : mRun (pnF1 1 1 0 0 false false) 10 10 ⟨p14V 562949953421312, 1, wd, 0⟩ = (⟨p14V 564049465049088, 0, 562949953421312, 564049465049088⟩, (0, 0), 2) := by
  rw [pn_go 8 lOf110 (p14V_at _) (v := 562949953421312) (v' := 564049465049088) (by decide) (by decide) (by decide) (p14V_cas _), p14V_casPut]
theorem own0_of {g : Int} (hg : 0 ≤ g ∧ g ≤ 1000) : hOf (hMake 0 g).1 1 = (0, g, 0) ∧ -9223372036854775808 ≤ (hMake 0 g).1 ∧ (hMake 0 g).1 ≤ 9223372036854775807 := by
  rw [hMake_ok ⟨by omega, by omega, hg.1, hg.2⟩]
  have i := hIs_make (s := 0) (g := g) ⟨by omega, by omega, hg.1, hg.2⟩
  have s1 : hSlot (0 + 1048576 * g + 1099511627776) = 0 := by rw [hSlot_is i]; omega
  have g1 : hGen (0 + 1048576 * g + 1099511627776) = g := by rw [hGen_is i]; omega
  refine ⟨?_, by simp only; omega, by simp only; omega⟩
  unfold hOf
  rw [if_pos ⟨i, by simp only; rw [s1]; omega⟩]
  simp only
  rw [s1, g1]
theorem pn_back {o g u q wd tw : Int} (un : Bool) (h : eMay o g q u false true = true) (h' : eMay o g (q + pnBy un) u false true = true) :
    mRun (pnF1 1 1 0 g false un) 10 10 ⟨p14V (eWord o g q u false true), 1, wd, tw⟩ = (⟨p14V (eWord o g (q + pnBy un) u false true), 0, eWord o g q u false true, eWord o g (q + pnBy un) u false true⟩, (0, 0), 2) := by
  have hc : pnCode q true false un = 0 := by
    obtain ⟨h1, h2, h3, h4, h5, h6, h7, h8, h9, h10⟩ := eMay_of h'
    unfold pnBy at h5 h6
    unfold pnCode
    cases un
    · have : q ≠ 7 := by simp at h6; omega
      simp [this]
    · have : q ≠ 0 := by simp at h5; omega
      simp [this]
  have tn := pn_turn (un := un) h rfl false rfl
  rw [if_pos hc] at tn
  have fl := lock_word h
  rw [pn_go 8 lOf110 (p14V_at _) (by rw [fresh_word h]; simp) (by rw [fl]; rfl) tn (p14V_cas _), p14V_casPut]
end Go.Proofs.Ytmbkkpeepbfgoaa
namespace Go.Proofs.Ytmbkkpeepbfgoaa
set_option linter.unusedVariables false
set_option linter.unusedSimpArgs false
open Go.RowKit
theorem perm_pull {α : Type} : ∀ (L : List α) (k : Nat) (g : α), L[k]? = some g → L.Perm (g :: L.eraseIdx k)
  | [], _, _, h => by simp at h
  | x :: L, 0, g, h => by
    simp at h; subst h; exact List.Perm.refl _
  | x :: L, k + 1, g, h => by
    rw [List.eraseIdx_cons_succ]
    exact ((perm_pull L k g (by simpa using h)).cons x).trans (List.Perm.swap g x _)
theorem Owns.pull {B : Nat} {W w : World} {a g : Grp} {L : List Grp} (h : Owns B W w (a :: L)) (k : Nat) (hk : L[k]? = some g) : Owns B W w (a :: g :: L.eraseIdx k) :=
  h.perm ((perm_pull L k g hk).cons a)
theorem erase_set' {α : Type} : ∀ (L : List α) (k : Nat) (g : α), (L.set k g).eraseIdx k = L.eraseIdx k
  | [], _, _ => rfl
  | x :: L, 0, g => rfl
  | x :: L, k + 1, g => by rw [List.set_cons_succ, List.eraseIdx_cons_succ, List.eraseIdx_cons_succ, erase_set' L k g]
theorem Owns.push {B : Nat} {W w : World} {a g : Grp} {L : List Grp} (k : Nat) (hl : k < L.length) (h : Owns B W w (a :: g :: L.eraseIdx k)) : Owns B W w (a :: L.set k g) := by
  refine h.perm (List.Perm.cons a ?_)
  have h3 := perm_pull (L.set k g) k g (by rw [List.getElem?_set_self hl])
  rw [erase_set'] at h3
  exact h3.symm
structure PnM where
  x : Nat
  un : Bool
  nx : Int
  wd : Int
  tw : Int
def pmG (t s sl ge : Int) (st : Bool) (q : PnM) : Grp := pnG q.x t s sl ge st q.un q.nx q.wd q.tw
def pmF (t s sl ge : Int) (st : Bool) (Q : Nat → PnM) : Nat → Grp := fun j => pmG t s sl ge st (Q j)
def pmP (Q : Nat → PnM) : Nat → Value := fun j => .pointer (some ⟨(Q j).x, 0, none⟩)
theorem pmF_upd (t s sl ge : Int) (st : Bool) (Q : Nat → PnM) (q : Nat) (m : PnM) : upd (pmF t s sl ge st Q) q (pmG t s sl ge st m) = pmF t s sl ge st (upd Q q m) := by
  funext j; unfold pmF upd; split <;> rfl
theorem pmP_upd (Q : Nat → PnM) (q : Nat) (m : PnM) : upd (pmP Q) q (.pointer (some ⟨m.x, 0, none⟩)) = pmP (upd Q q m) := by
  funext j; unfold pmP upd; split <;> rfl
theorem pmP_same (Q : Nat → PnM) (q : Nat) (m : PnM) (h : m.x = (Q q).x) : pmP (upd Q q m) = pmP Q := by
  funext j; unfold pmP upd
  split
  · rename_i e; subst e; rw [h]
  · rfl
def cW (c : Int) : Int := eWord 0 0 c 0 false true
theorem cW_may {c : Int} (h : 0 ≤ c ∧ c ≤ 7) : eMay 0 0 c 0 false true = true := by unfold eMay; simp; omega
theorem cW_inj {c k : Int} (hc : 0 ≤ c ∧ c ≤ 7) (hk : 0 ≤ k ∧ k ≤ 7) (h : cW c = cW k) : c = k := by
  have h1 := (un_pack (cW_may hc)).2.2.2.1
  have h2 := (un_pack (cW_may hk)).2.2.2.1
  unfold cW at h
  rw [h, h2] at h1
  exact h1.symm
def MOk (q : PnM) : Prop := q.nx = 1 ∨ (q.nx = 2 ∧ ∃ k, 0 ≤ k ∧ k ≤ 7 ∧ 0 ≤ k + pnBy q.un ∧ k + pnBy q.un ≤ 7 ∧ q.wd = cW k ∧ q.tw = cW (k + pnBy q.un))
theorem cas_cW (c k : Int) : wCas (p14V c) 5 k = (c == k) := by
  show (true && (c == k)) = _
  simp
theorem cnt_step {c : Int} {q : PnM} (hc : 0 ≤ c ∧ c ≤ 7) (h : MOk q) :
    ∃ nx' wd' tw' code c', ∃ dn : Bool, pinStep 1 1 0 0 false q.un (p14V (cW c)) q.nx q.wd q.tw = ⟨p14V (cW c'), nx', wd', tw', code, dn⟩ ∧ 0 ≤ c' ∧ c' ≤ 7 ∧ c' = (if (dn && code == 0) = true then c + pnBy q.un else c) ∧ (dn = false → MOk ⟨q.x, q.un, nx', wd', tw'⟩) := by
  obtain ⟨x, un, nx, wd, tw⟩ := q
  rcases h with h | ⟨h, k, k0, k7, b0, b7, hw, ht⟩
  · simp only at h
    subst h
    have hm := cW_may hc
    have fr : fresh (cW c) 0 = true := by unfold cW; rw [fresh_word hm]; rfl
    have fl : uL (cW c) = false := lock_word hm
    have tn : pnTurn un (cW c) = _ := pn_turn (un := un) hm rfl false rfl
    by_cases hk : pnCode c true false un = 0
    · rw [if_pos hk] at tn
      refine ⟨2, cW c, cW (c + pnBy un), 0, c, false, ?_, hc.1, hc.2, rfl, fun _ => .inr ⟨rfl, c, hc.1, hc.2, ?_, ?_, rfl, rfl⟩⟩
      · unfold pinStep
        simp only [lOf110, p14V_at, fr, fl, tn]
        simp [cW]
      · have := (eMay_of (pnTurn_two hm hk)).2.2.2.2.1; exact this
      · have := (eMay_of (pnTurn_two hm hk)).2.2.2.2.2.1; exact this
    · rw [if_neg hk] at tn
      refine ⟨0, cW c, tw, pnCode c true false un, c, true, ?_, hc.1, hc.2, ?_, fun h => by cases h⟩
      · unfold pinStep
        simp only [lOf110, p14V_at, fr, fl, tn]
        simp [hk]
      · have : (true && pnCode c true false un == 0) = false := by simpa using hk
        rw [this]; rfl
  · simp only at h hw ht b0 b7
    subst h hw ht
    by_cases e : c = k
    · subst e
      refine ⟨0, cW c, cW (c + pnBy un), 0, c + pnBy un, true, ?_, b0, b7, by simp, fun h => by cases h⟩
      unfold pinStep
      simp only [lOf110, p14V_cas, p14V_casPut]
      simp
    · refine ⟨1, cW k, cW (k + pnBy un), 0, c, false, ?_, hc.1, hc.2, by simp, fun _ => .inl rfl⟩
      have : (cW c == cW k) = false := by
        rw [beq_eq_false_iff_ne]; exact fun he => e (cW_inj hc ⟨k0, k7⟩ he)
      unfold pinStep
      simp only [lOf110, cas_cW, this]
      simp
theorem cW_un {c : Int} (h : 0 ≤ c ∧ c ≤ 7) : uO (cW c) = 0 ∧ uG (cW c) = 0 ∧ uP (cW c) = c ∧ uU (cW c) = 0 ∧ uL (cW c) = false ∧ uA (cW c) = true ∧ eOk (cW c) = 0 := by
  obtain ⟨i, x1, x2, x3, x4, x5, x6⟩ := un_pack (cW_may h)
  obtain ⟨u1, u2, u3, u4, u5, u6, u7⟩ := u_yes i
  unfold cW
  exact ⟨u1.trans x1, u2.trans x2, u3.trans x3, u4.trans x4, u5.trans x5, u6.trans x6, u7⟩
theorem fam3_at {a b c : Grp} {F : Nat → Grp} {q : Nat} (h : q < 3) : (a :: b :: c :: fam F 3)[q + 3]? = some (F q) := by simpa using fam_get F h
theorem pin_Step_fam {B : Nat} {W w : World} {a b c : Grp} {p bw bb : Nat} {ws bs : List Int} {n t s sl ge : Int} {Q : Nat → PnM} {q : Nat} (hq : q < 3) (hO : Owns B W w (memG p bw bb ws bs n :: a :: b :: c :: fam (pmF t s sl ge false Q) 3)) (hL : lOk t s) (hl : ws.length ≤ 4096)
    {ws' : List Int} {nx' wd' tw' code : Int} {dn : Bool} (hr : pinStep t s sl ge false (Q q).un ws (Q q).nx (Q q).wd (Q q).tw = ⟨ws', nx', wd', tw', code, dn⟩) :
    Calls Try.prog 28 #[.pointer (some ⟨(Q q).x, 0, none⟩), memI p] w fun e w' => e = .returned (resV (code, 0) dn) ∧ ∃ m, Owns B W w' (memG p bw bb ws' bs m :: a :: b :: c :: fam (pmF t s sl ge false (upd Q q ⟨(Q q).x, (Q q).un, nx', wd', tw'⟩)) 3) := by
  have h1 := hO.pull (q + 3) (fam3_at hq)
  have h2 := pin_Step h1 hL hl
  rw [hr] at h2
  refine h2.mono ?_
  rintro e w' ⟨he, m, h3⟩
  refine ⟨he, m, ?_⟩
  have h4 := Owns.push (L := a :: b :: c :: fam (pmF t s sl ge false Q) 3) (q + 3) (by simp [fam_len]; omega) h3
  rw [List.set_cons_succ, List.set_cons_succ, List.set_cons_succ, fam_set] at h4
  rw [← pmF_upd]
  exact h4
theorem pin_New_app {B : Nat} {W w : World} {G : List Grp} (a s t h : Int) (l : -9223372036854775808 ≤ h) (u : h ≤ 9223372036854775807) (hO : Owns B W w G) : Calls Try.prog 25 #[.agg #[.int .i64 a, .int .i64 s, .int .i64 t], .int .i64 h] w fun e w' =>
    ∃ x, e = .returned (.pointer (some ⟨x, 0, none⟩)) ∧ Below w.heap.size w w' ∧ Owns B W w' (pnNews a s t h false x :: G) :=
  (pin_New a s t h l u (Owns.nil w)).mono fun _ _ ⟨x, he, h⟩ => ⟨x, he, h.1, hO.app h⟩
theorem pin_NewUn_app {B : Nat} {W w : World} {G : List Grp} (a s t h : Int) (l : -9223372036854775808 ≤ h) (u : h ≤ 9223372036854775807) (hO : Owns B W w G) : Calls Try.prog 26 #[.agg #[.int .i64 a, .int .i64 s, .int .i64 t], .int .i64 h] w fun e w' =>
    ∃ x, e = .returned (.pointer (some ⟨x, 0, none⟩)) ∧ Below w.heap.size w w' ∧ Owns B W w' (pnNews a s t h true x :: G) :=
  (pin_NewUn a s t h l u (Owns.nil w)).mono fun _ _ ⟨x, he, h⟩ => ⟨x, he, h.1, hO.app h⟩
theorem law14_one_app {B : Nat} {W w : World} {G : List Grp} (a s t h : Int) (un : Bool) (l : -9223372036854775808 ≤ h) (u : h ≤ 9223372036854775807) (hO : Owns B W w G) : Calls Try.prog 30 #[.agg #[.int .i64 a, .int .i64 s, .int .i64 t], .int .i64 h, .bool un] w fun e w' =>
    ∃ x, e = .returned (.pointer (some ⟨x, 0, none⟩)) ∧ Below w.heap.size w w' ∧ Owns B W w' (pnNews a s t h un x :: G) :=
  (law14_one a s t h un l u (Owns.nil w)).mono fun _ _ ⟨x, he, h⟩ => ⟨x, he, h.1, hO.app h⟩
def pmU (Q : Nat → PnM) : Nat → Value := fun j => .bool (Q j).un
theorem pmU_upd (Q : Nat → PnM) (q : Nat) (m : PnM) : upd (pmU Q) q (.bool m.un) = pmU (upd Q q m) := by
  funext j; unfold pmU upd; split <;> rfl
theorem pmU_same (Q : Nat → PnM) (q : Nat) (m : PnM) (h : m.un = (Q q).un) : pmU (upd Q q m) = pmU Q := by
  funext j; unfold pmU upd
  split
  · rename_i e; subst e; rw [h]
  · rfl
theorem upd_twice {α : Type} (E : Nat → α) (t : Nat) (g g' : α) : upd (upd E t g) t g' = upd E t g' := by
  funext j; unfold upd; split <;> rfl
theorem pmF_twice (t s sl ge : Int) (st : Bool) (Q : Nat → PnM) (q : Nat) (m m' : PnM) : upd (pmF t s sl ge st (upd Q q m)) q (pmG t s sl ge st m') = pmF t s sl ge st (upd Q q m') := by
  rw [pmF_upd, upd_twice]
theorem MOk_upd {Q : Nat → PnM} (h : ∀ j, MOk (Q j)) (q : Nat) {m : PnM} (hm : MOk m) : ∀ j, MOk (upd Q q m j) := by
  intro j; unfold upd; split
  · exact hm
  · exact h j
end Go.Proofs.Ytmbkkpeepbfgoaa
