/- Alloc's Step, whole; New. -/
import Derived.RegionTactic
import Derived.BigRegion
import Derived.Deep.RegionHeld3
import Derived.Outline
import Derived.Deep.DeepCutAuto
import Derived.Deep.QuietTactic
import Derived.BigQuiet
import Derived.Test.YtpebepjfgnoaaaaAlT1
import Derived.Test.YtpebepjfgnoaaaaAlT2
import Derived.Test.YtpebepjfgnoaaaaAlT3
namespace Go.Proofs.Ytpebepjfgnoaaaa
set_option linter.unusedVariables false
set_option linter.unusedSimpArgs false
open Go.RowKit
def AlIn (v : AlV) : Prop := 0 ≤ v.nx ∧ v.nx ≤ 12 ∧ (1 ≤ v.nx → v.nx ≤ 5 → v.gv = none) ∧ (v.nx = 6 → ∃ g, v.gv = some g)
theorem al_Step {B : Nat} {W w : World} {R0 : List Grp} {x p bw bb : Nat} {ws bs : List Int} {n : Int} {c : AlC} {v : AlV} (hP : Owns B W w (memG p bw bb ws bs n :: alG x c v :: R0)) (hL : lOk c.t c.s) (hl : ws.length ≤ 4096) (hbl : bs.length ≤ 4096) (hv : AlIn v) (q : AlR) (hq : alStep c ws bs v = q) :
    Calls Try.prog 40 #[.pointer (some ⟨x, 0, none⟩), memI p] w (AlPost B W R0 x p bw bb c q) := by
  subst hq
  obtain ⟨n0, n12, n5, n6⟩ := hv
  have hc : v.nx = 0 ∨ v.nx = 1 ∨ v.nx = 2 ∨ v.nx = 3 ∨ v.nx = 4 ∨ v.nx = 5 ∨ v.nx = 6 ∨ v.nx = 7 ∨ v.nx = 8 ∨ v.nx = 9 ∨ v.nx = 10 ∨ v.nx = 11 ∨ v.nx = 12 := by omega
  unfold alStep
  rcases hc with h | h | h | h | h | h | h | h | h | h | h | h | h
  · rw [if_pos h]; exact al_Step_0 hP hL hl hbl h
  all_goals rw [if_neg (by omega)]
  · rw [if_pos h]
    by_cases hb : c.by' = 0
    · rw [if_pos hb]; exact al_Step_1 hP hL hl hbl h hb
    · rw [if_neg hb]; exact al_Step_1b hP hL hl hbl h hb
  all_goals rw [if_neg (by omega)]
  · rw [if_pos h]; exact al_Step_2 hP hL hl hbl h _ rfl
  all_goals rw [if_neg (by omega)]
  · rw [if_pos h]; exact al_Step_3 hP hL hl hbl h _ rfl
  all_goals rw [if_neg (by omega)]
  · rw [if_pos h]; exact al_Step_4 hP hL hl hbl h (n5 (by omega) (by omega)) _ rfl
  all_goals rw [if_neg (by omega)]
  · rw [if_pos h]; exact al_Step_5 hP hL hl hbl h _ rfl _ rfl
  all_goals rw [if_neg (by omega)]
  · rw [if_pos h]; obtain ⟨g, hg⟩ := n6 h; exact al_Step_6 hP hL hl hbl h g hg _ rfl
  all_goals rw [if_neg (by omega)]
  · rw [if_pos h]; exact al_Step_7 hP hL hl hbl h _ rfl
  all_goals rw [if_neg (by omega)]
  · rw [if_pos h]; exact al_Step_8 hP hL hl hbl h
  all_goals rw [if_neg (by omega)]
  · rw [if_pos h]; exact al_Step_9 hP hL hl hbl h _ rfl
  all_goals rw [if_neg (by omega)]
  · rw [if_pos h]; exact al_Step_10 hP hL hl hbl h _ rfl
  all_goals rw [if_neg (by omega)]
  · rw [if_pos h]; exact al_Step_11 hP hL hl hbl h
  all_goals rw [if_neg (by omega)]
  · rw [if_pos h]; exact al_Step_12 hP hL hl hbl h _ rfl _ rfl
theorem als0 {c : AlC} {ws bs : List Int} {v : AlV} (h : v.nx = 0) : alStep c ws bs v = ⟨ws, bs, v, 1, 0, true⟩ := by
  unfold alStep
  rw [if_pos h]
theorem als1 {c : AlC} {ws bs : List Int} {v : AlV} (h : v.nx = 1) : alStep c ws bs v = (if c.by' = 0 then ⟨ws, bs, { v with nx := 0 }, 9, 0, true⟩ else ⟨ws, bs, { v with seen := wAt ws (lOnce c.t 2), nx := 2 }, 0, 0, false⟩) := by
  unfold alStep
  rw [if_neg (by omega)]; rw [if_pos h]
theorem als2 {c : AlC} {ws bs : List Int} {v : AlV} (h : v.nx = 2) : alStep c ws bs v = ⟨(alPend c ws v 1 1 3).1, bs, (alPend c ws v 1 1 3).2.1, 0, 0, false⟩ := by
  unfold alStep
  rw [if_neg (by omega)]; rw [if_neg (by omega)]; rw [if_pos h]
theorem als3 {c : AlC} {ws bs : List Int} {v : AlV} (h : v.nx = 3) : alStep c ws bs v = ⟨(alTake c ws v).1, bs, (alTake c ws v).2, 0, 0, false⟩ := by
  unfold alStep
  rw [if_neg (by omega)]; rw [if_neg (by omega)]; rw [if_neg (by omega)]; rw [if_pos h]
theorem als4 {c : AlC} {ws bs : List Int} {v : AlV} (h : v.nx = 4) : alStep c ws bs v = ⟨ws, bs, alFront c (wAt ws (lOnce c.t 0)) v, 0, 0, false⟩ := by
  unfold alStep
  rw [if_neg (by omega)]; rw [if_neg (by omega)]; rw [if_neg (by omega)]; rw [if_neg (by omega)]; rw [if_pos h]
theorem als5 {c : AlC} {ws bs : List Int} {v : AlV} (h : v.nx = 5) : alStep c ws bs v = (if wCas ws (lOnce c.t 0) v.f = true then ⟨wCasPut ws (lOnce c.t 0) v.f (wrap64 (v.f + c.by')), bs, { v with nx := 7, cl := true }, 0, 0, false⟩ else ⟨ws, bs, { v with nx := 4 }, 0, 0, false⟩) := by
  unfold alStep
  rw [if_neg (by omega)]; rw [if_neg (by omega)]; rw [if_neg (by omega)]; rw [if_neg (by omega)]; rw [if_neg (by omega)]; rw [if_pos h]
theorem als6 {c : AlC} {ws bs : List Int} {v : AlV} (h : v.nx = 6) : alStep c ws bs v = ⟨(alGive c ws v).1, bs, (alGive c ws v).2, 0, 0, false⟩ := by
  unfold alStep
  rw [if_neg (by omega)]; rw [if_neg (by omega)]; rw [if_neg (by omega)]; rw [if_neg (by omega)]; rw [if_neg (by omega)]; rw [if_neg (by omega)]; rw [if_pos h]
theorem als7 {c : AlC} {ws bs : List Int} {v : AlV} (h : v.nx = 7) : alStep c ws bs v = ⟨ws, wPut bs (wrap64 (v.f + v.a)) 0, { v with a := wrap64 (v.a + 1), nx := if wrap64 (v.a + 1) = c.by' then 8 else v.nx }, 0, 0, false⟩ := by
  unfold alStep
  rw [if_neg (by omega)]; rw [if_neg (by omega)]; rw [if_neg (by omega)]; rw [if_neg (by omega)]; rw [if_neg (by omega)]; rw [if_neg (by omega)]; rw [if_neg (by omega)]; rw [if_pos h]
theorem als8 {c : AlC} {ws bs : List Int} {v : AlV} (h : v.nx = 8) : alStep c ws bs v = ⟨wPut ws (lOf c.t c.s v.sl 1) c.n, bs, { v with nx := 9 }, 0, 0, false⟩ := by
  unfold alStep
  rw [if_neg (by omega)]; rw [if_neg (by omega)]; rw [if_neg (by omega)]; rw [if_neg (by omega)]; rw [if_neg (by omega)]; rw [if_neg (by omega)]; rw [if_neg (by omega)]; rw [if_neg (by omega)]; rw [if_pos h]
theorem als9 {c : AlC} {ws bs : List Int} {v : AlV} (h : v.nx = 9) : alStep c ws bs v = ⟨ws, bs, alLook (wAt ws (lOf c.t c.s v.sl 0)) v, 0, 0, false⟩ := by
  unfold alStep
  rw [if_neg (by omega)]; rw [if_neg (by omega)]; rw [if_neg (by omega)]; rw [if_neg (by omega)]; rw [if_neg (by omega)]; rw [if_neg (by omega)]; rw [if_neg (by omega)]; rw [if_neg (by omega)]; rw [if_neg (by omega)]; rw [if_pos h]
theorem als10 {c : AlC} {ws bs : List Int} {v : AlV} (h : v.nx = 10) : alStep c ws bs v = ⟨if v.kp = 0 then wPut ws (lOf c.t c.s v.sl 0) v.wd else ws, bs, { v with cl := false, nx := 11 }, 0, 0, false⟩ := by
  unfold alStep
  rw [if_neg (by omega)]; rw [if_neg (by omega)]; rw [if_neg (by omega)]; rw [if_neg (by omega)]; rw [if_neg (by omega)]; rw [if_neg (by omega)]; rw [if_neg (by omega)]; rw [if_neg (by omega)]; rw [if_neg (by omega)]; rw [if_neg (by omega)]; rw [if_pos h]
theorem als11 {c : AlC} {ws bs : List Int} {v : AlV} (h : v.nx = 11) : alStep c ws bs v = ⟨ws, bs, { v with seen := wAt ws (lOnce c.t 2), nx := 12 }, 0, 0, false⟩ := by
  unfold alStep
  rw [if_neg (by omega)]; rw [if_neg (by omega)]; rw [if_neg (by omega)]; rw [if_neg (by omega)]; rw [if_neg (by omega)]; rw [if_neg (by omega)]; rw [if_neg (by omega)]; rw [if_neg (by omega)]; rw [if_neg (by omega)]; rw [if_neg (by omega)]; rw [if_neg (by omega)]; rw [if_pos h]
theorem als12 {c : AlC} {ws bs : List Int} {v : AlV} (h : v.nx = 12) : alStep c ws bs v = (if (alPend c ws v (-1) 11 0).2.2 = true then ⟨(alPend c ws v (-1) 11 0).1, bs, (alPend c ws v (-1) 11 0).2.1, (alRes (alPend c ws v (-1) 11 0).2.1).1, (alRes (alPend c ws v (-1) 11 0).2.1).2, true⟩ else ⟨(alPend c ws v (-1) 11 0).1, bs, (alPend c ws v (-1) 11 0).2.1, 0, 0, false⟩) := by
  unfold alStep
  rw [if_neg (by omega)]; rw [if_neg (by omega)]; rw [if_neg (by omega)]; rw [if_neg (by omega)]; rw [if_neg (by omega)]; rw [if_neg (by omega)]; rw [if_neg (by omega)]; rw [if_neg (by omega)]; rw [if_neg (by omega)]; rw [if_neg (by omega)]; rw [if_neg (by omega)]; rw [if_neg (by omega)]; rw [if_pos h]
theorem AlIn_none (v : AlV) (h : v.gv = none) (a : 0 ≤ v.nx) (b : v.nx ≤ 5) : AlIn v := ⟨a, by omega, fun _ _ => h, fun e => by omega⟩
theorem AlIn_hi (v : AlV) (a : v.nx = 0 ∨ 7 ≤ v.nx ∧ v.nx ≤ 12) : AlIn v := ⟨by omega, by omega, fun _ _ => by omega, fun e => by omega⟩
theorem AlIn_six (v : AlV) (g : StV) (h : v.gv = some g) (a : v.nx = 6) : AlIn v := ⟨by omega, by omega, fun _ _ => by omega, fun _ => ⟨g, h⟩⟩
theorem alPend_v (c : AlC) (ws : List Int) (v : AlV) (b a n : Int) : (alPend c ws v b a n).2.1 = { v with nx := n } ∨ (alPend c ws v b a n).2.1 = { v with nx := a } := by
  unfold alPend; split
  · exact .inl rfl
  · exact .inr rfl
theorem alStep_in (c : AlC) (ws bs : List Int) (v : AlV) (h : AlIn v) : AlIn (alStep c ws bs v).v := by
  have hv := h
  obtain ⟨n0, n12, n5, n6⟩ := h
  have hc : v.nx = 0 ∨ v.nx = 1 ∨ v.nx = 2 ∨ v.nx = 3 ∨ v.nx = 4 ∨ v.nx = 5 ∨ v.nx = 6 ∨ v.nx = 7 ∨ v.nx = 8 ∨ v.nx = 9 ∨ v.nx = 10 ∨ v.nx = 11 ∨ v.nx = 12 := by omega
  rcases hc with h | h | h | h | h | h | h | h | h | h | h | h | h
  · rw [als0 h]; exact hv
  · have g := n5 (by omega) (by omega)
    rw [als1 h]; split
    · exact AlIn_none _ g (show (0 : Int) ≤ 0 by decide) (show (0 : Int) ≤ 5 by decide)
    · exact AlIn_none _ g (show (0 : Int) ≤ 2 by decide) (show (2 : Int) ≤ 5 by decide)
  · have g := n5 (by omega) (by omega)
    rw [als2 h]; show AlIn (alPend c ws v 1 1 3).2.1
    rcases alPend_v c ws v 1 1 3 with e | e <;> rw [e]
    · exact AlIn_none _ g (show (0 : Int) ≤ 3 by decide) (show (3 : Int) ≤ 5 by decide)
    · exact AlIn_none _ g (show (0 : Int) ≤ 1 by decide) (show (1 : Int) ≤ 5 by decide)
  · have g := n5 (by omega) (by omega)
    rw [als3 h]; show AlIn (alTake c ws v).2
    unfold alTake; dsimp only
    split
    · split
      · exact AlIn_none _ g (show (0 : Int) ≤ 4 by decide) (show (4 : Int) ≤ 5 by decide)
      · exact AlIn_hi _ (.inr ⟨show (7 : Int) ≤ 11 by decide, show (11 : Int) ≤ 12 by decide⟩)
    · exact AlIn_none _ g (show (0 : Int) ≤ v.nx by omega) (show v.nx ≤ 5 by omega)
  · have g := n5 (by omega) (by omega)
    rw [als4 h]; show AlIn (alFront c _ v)
    unfold alFront; split
    · exact AlIn_six _ _ rfl rfl
    · exact AlIn_none _ g (show (0 : Int) ≤ 5 by decide) (show (5 : Int) ≤ 5 by decide)
  · have g := n5 (by omega) (by omega)
    rw [als5 h]; split
    · exact AlIn_hi _ (.inr ⟨show (7 : Int) ≤ 7 by decide, show (7 : Int) ≤ 12 by decide⟩)
    · exact AlIn_none _ g (show (0 : Int) ≤ 4 by decide) (show (4 : Int) ≤ 5 by decide)
  · obtain ⟨g, hg⟩ := n6 h
    rw [als6 h]; show AlIn (alGive c ws v).2
    unfold alGive; rw [hg]; dsimp only
    split
    · exact AlIn_hi _ (.inr ⟨show (7 : Int) ≤ 11 by decide, show (11 : Int) ≤ 12 by decide⟩)
    · exact AlIn_six _ _ rfl h
  · rw [als7 h]
    refine AlIn_hi _ (.inr ?_)
    dsimp only
    split <;> omega
  · rw [als8 h]; exact AlIn_hi _ (.inr ⟨show (7 : Int) ≤ 9 by decide, show (9 : Int) ≤ 12 by decide⟩)
  · rw [als9 h]; show AlIn (alLook _ v)
    unfold alLook; split
    · exact AlIn_hi _ (.inr ⟨show (7 : Int) ≤ 10 by decide, show (10 : Int) ≤ 12 by decide⟩)
    · exact AlIn_hi _ (.inr ⟨show (7 : Int) ≤ 10 by decide, show (10 : Int) ≤ 12 by decide⟩)
  · rw [als10 h]; exact AlIn_hi _ (.inr ⟨show (7 : Int) ≤ 11 by decide, show (11 : Int) ≤ 12 by decide⟩)
  · rw [als11 h]; exact AlIn_hi _ (.inr ⟨show (7 : Int) ≤ 12 by decide, show (12 : Int) ≤ 12 by decide⟩)
  · rw [als12 h]
    have k : AlIn (alPend c ws v (-1) 11 0).2.1 := by
      rcases alPend_v c ws v (-1) 11 0 with e | e <;> rw [e]
      · exact AlIn_hi _ (.inl rfl)
      · exact AlIn_hi _ (.inr ⟨show (7 : Int) ≤ 11 by decide, show (11 : Int) ≤ 12 by decide⟩)
    split <;> exact k
theorem wCasPut_len (ws : List Int) (k o m : Int) : (wCasPut ws k o m).length = ws.length := by unfold wCasPut; split; exact wPut_len _ _ _; rfl
theorem popStep_len (t s : Int) (ws : List Int) (nx sl wd tw : Int) : (popStep t s ws nx sl wd tw).ws.length = ws.length := by
  unfold popStep; repeat' split
  all_goals first | rfl | exact wCasPut_len _ _ _ _
theorem pushStep_len (t s : Int) (ws : List Int) (nx sl wd tw : Int) : (pushStep t s ws nx sl wd tw).ws.length = ws.length := by
  unfold pushStep; repeat' split
  all_goals first | rfl | exact wCasPut_len _ _ _ _ | exact wPut_len _ _ _
theorem alPend_len (c : AlC) (ws : List Int) (v : AlV) (b a n : Int) : (alPend c ws v b a n).1.length = ws.length := by
  unfold alPend; split
  · exact wCasPut_len _ _ _ _
  · rfl
theorem alGive_len (c : AlC) (ws : List Int) (v : AlV) : (alGive c ws v).1.length = ws.length := by
  unfold alGive; split
  · rfl
  · exact pushStep_len _ _ _ _ _ _ _
theorem alStep_len (c : AlC) (ws bs : List Int) (v : AlV) (h : AlIn v) : (alStep c ws bs v).ws.length = ws.length ∧ (alStep c ws bs v).bs.length = bs.length := by
  obtain ⟨n0, n12, n5, n6⟩ := h
  have hc : v.nx = 0 ∨ v.nx = 1 ∨ v.nx = 2 ∨ v.nx = 3 ∨ v.nx = 4 ∨ v.nx = 5 ∨ v.nx = 6 ∨ v.nx = 7 ∨ v.nx = 8 ∨ v.nx = 9 ∨ v.nx = 10 ∨ v.nx = 11 ∨ v.nx = 12 := by omega
  rcases hc with h | h | h | h | h | h | h | h | h | h | h | h | h
  · rw [als0 h]; exact ⟨rfl, rfl⟩
  · rw [als1 h]; split <;> exact ⟨rfl, rfl⟩
  · rw [als2 h]; exact ⟨alPend_len _ _ _ _ _ _, rfl⟩
  · rw [als3 h]; exact ⟨popStep_len _ _ _ _ _ _ _, rfl⟩
  · rw [als4 h]; exact ⟨rfl, rfl⟩
  · rw [als5 h]; split
    · exact ⟨wCasPut_len _ _ _ _, rfl⟩
    · exact ⟨rfl, rfl⟩
  · rw [als6 h]; exact ⟨alGive_len _ _ _, rfl⟩
  · rw [als7 h]; exact ⟨rfl, wPut_len _ _ _⟩
  · rw [als8 h]; exact ⟨wPut_len _ _ _, rfl⟩
  · rw [als9 h]; exact ⟨rfl, rfl⟩
  · rw [als10 h]; dsimp only; split
    · exact ⟨wPut_len _ _ _, rfl⟩
    · exact ⟨rfl, rfl⟩
  · rw [als11 h]; exact ⟨rfl, rfl⟩
  · rw [als12 h]; split <;> exact ⟨alPend_len _ _ _ _ _ _, rfl⟩
end Go.Proofs.Ytpebepjfgnoaaaa
