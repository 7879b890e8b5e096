/- Machines of alloc that step in any order: each kind of step. -/
import Derived.Test.YtpebepjfgnoaaaaAaP2
namespace Go.Proofs.Ytpebepjfgnoaaaa
set_option linter.unusedVariables false
set_option linter.unusedSimpArgs false
open Go.RowKit
theorem en_put {k v : Int} {ws : List Int} {t s : Int} (hk : ∀ x, 0 ≤ x → x < s → ent t x ≠ k) : ∀ x, 0 ≤ x → x < s → wAt (wPut ws k v) (ent t x) = wAt ws (ent t x) := fun x x0 x1 => wAt_put_ne (hk x x0 x1)
theorem aOne_yes {v : AlV} (h : 3 ≤ v.nx ∧ v.nx ≤ 12) : ((aOne v).length : Int) = 1 := by unfold aOne; rw [if_pos h]; rfl
theorem aOne_no {v : AlV} (h : ¬ (3 ≤ v.nx ∧ v.nx ≤ 12)) : ((aOne v).length : Int) = 0 := by unfold aOne; rw [if_neg h]; rfl
theorem aHold_none {v : AlV} (h : ¬ (v.nx = 4 ∨ v.nx = 5 ∨ (7 ≤ v.nx ∧ v.nx ≤ 10) ∨ ((v.nx = 11 ∨ v.nx = 12) ∧ v.kp = 0))) : aHold v = false := by unfold aHold; rw [decide_eq_false_iff_not]; exact h
theorem aHd_none {v : AlV} (h : ¬ (v.nx = 4 ∨ v.nx = 5 ∨ (7 ≤ v.nx ∧ v.nx ≤ 10) ∨ ((v.nx = 11 ∨ v.nx = 12) ∧ v.kp = 0))) : aHd v = [] := by unfold aHd; rw [if_neg (by rw [aHold_none h]; decide)]
theorem aHold_some {v : AlV} (h : v.nx = 4 ∨ v.nx = 5 ∨ (7 ≤ v.nx ∧ v.nx ≤ 10) ∨ ((v.nx = 11 ∨ v.nx = 12) ∧ v.kp = 0)) : aHold v = true := by unfold aHold; rw [decide_eq_true_eq]; exact h
theorem aHd_some {v : AlV} (h : v.nx = 4 ∨ v.nx = 5 ∨ (7 ≤ v.nx ∧ v.nx ≤ 10) ∨ ((v.nx = 11 ∨ v.nx = 12) ∧ v.kp = 0)) : aHd v = [v.sl] := by unfold aHd; rw [if_pos (aHold_some h)]
section
variable {t s ar : Int} {base : List Int} {cb : Nat → Int} {ws : List Int} {F g : Int} {L TD : List Int} {V : Nat → AlV} {j : Nat} {c : AlC}
structure AaPre (t s ar : Int) (base : List Int) (cb : Nat → Int) (ws : List Int) (F g : Int) (L TD : List Int) (V : Nat → AlV) (j : Nat) (c : AlC) : Prop where
  hb : Base s base
  t1 : 1 ≤ t
  s1 : 1 ≤ s
  s64 : s ≤ 64
  hg : g ≤ 900000
  har : ar ≤ 4096
  h : AaInv t s ar base cb ws F g L TD V
  hj : j < 4
  ct : c.t = t
  cs : c.s = s
  ca : c.ar = ar
  cbj : c.by' = cb j
  cn : I64 c.n
theorem AaPre.e0 (P : AaPre t s ar base cb ws F g L TD V j c) : lOnce c.t 0 = 0 ∧ lOnce c.t 1 = 1 ∧ lOnce c.t 2 = 2 := by
  have := P.t1; have := P.ct
  exact ⟨by unfold lOnce; rw [if_neg (by omega)], by unfold lOnce; rw [if_neg (by omega)], by unfold lOnce; rw [if_neg (by omega)]⟩
theorem AaPre.win (P : AaPre t s ar base cb ws F g L TD V j c) {k : Int} (k0 : 0 ≤ k) (k1 : k < 4 + t + 3 * s) : wIn ws k = true := by rw [wIn_iff]; have := P.h.sa.len; omega
theorem AaPre.cl0 (P : AaPre t s ar base cb ws F g L TD V j c) (e : ¬ (7 ≤ (V j).nx ∧ (V j).nx ≤ 10)) : (V j).cl = false := by rw [(P.h.lv j P.hj).cl, decide_eq_false_iff_not]; exact e
theorem AaPre.cl1 (P : AaPre t s ar base cb ws F g L TD V j c) (e : 7 ≤ (V j).nx ∧ (V j).nx ≤ 10) : (V j).cl = true := by rw [(P.h.lv j P.hj).cl, decide_eq_true_eq]; exact e
theorem AaPre.put2 (P : AaPre t s ar base cb ws F g L TD V j c) {k v : Int} (hk : k = 0 ∨ k = 2) (hv : I64 v) : SaInv t s base (wPut ws k v) g L (TD ++ held V) (fun i => aPr (V i)) :=
  P.h.sa.putK P.hb (by omega) (fun x x0 x1 => by have := P.t1; unfold lnk; omega) hv
theorem AaPre.en2 (P : AaPre t s ar base cb ws F g L TD V j c) {k v : Int} (hk : k = 0 ∨ k = 1 ∨ k = 2) : ∀ x, 0 ≤ x → x < s → wAt (wPut ws k v) (ent t x) = wAt ws (ent t x) := en_put (fun x x0 x1 => by have := P.t1; unfold ent; omega)
theorem n5of {v : AlV} (h : AlIn v) (k0 : 1 ≤ v.nx) (k : v.nx ≤ 5) : v.gv = none := by
  obtain ⟨n0, n12, n5, n6⟩ := h
  exact n5 k0 k
theorem pushStep_slA {t s nx sl wd tw : Int} {ws : List Int} {r : StepR} (h : pushStep t s ws nx sl wd tw = r) : r.sl = sl := by
  subst h
  unfold pushStep
  split
  · split
    · rfl
    · split <;> rfl
  · split
    · rfl
    · split
      · split <;> rfl
      · rfl
theorem ePack_bdA (o g p u : Int) (l a : Bool) : I64 (ePack o g p u l a).1 := by
  unfold ePack; split
  · rename_i h
    have := eMay_of h
    have h1 := bI_bd l
    have h2 := bI_bd a
    unfold eWord I64; simp only; omega
  · exact (⟨by decide, by decide⟩ : I64 0)
theorem aa_0 (P : AaPre t s ar base cb ws F g L TD V j c) (e : (V j).nx = 0) (bs : List Int) : AaPost t s ar base cb F g L TD V j (alStep c ws bs (V j)) := by
  obtain ⟨hb, t1, s1, s64, hg, har, h, hj, ct, cs, ca, cbj, cn⟩ := id P
  have hlv := h.lv j hj
  have hal := alStep_in c ws bs (V j) hlv.al
  obtain ⟨e0, e1, e2⟩ := P.e0
  have hcnt := cnt_bd V
  have hF := h.f0
  have hfr := h.fr
  have hpd := h.pd
  have hbb := hlv.b0
  rw [als0 e] at hal ⊢
  have hcl0 := P.cl0 (by omega)
  refine ⟨fun k => (by simp at k), fun _ => ?_⟩
  show AaEnd t s ar base cb F g L TD V j ws 1 0 (V j).cl
  rw [hcl0]
  exact aa_end hb h hj (TD' := TD) (by omega) (fun v' hf => AaInv.sa0 hb h.sa hj v' (by omega) (by have := hf.1; omega) (.inl (by have := hf.1; omega))) (.inr ⟨by decide, rfl⟩) (by rw [aHd_none (v := V j) (by omega), List.append_nil]) hfr (by rw [hpd, aOne_no (v := V j) (by omega)]; omega) (fun _ _ _ => rfl)
theorem aa_1 (P : AaPre t s ar base cb ws F g L TD V j c) (e : (V j).nx = 1) (bs : List Int) : AaPost t s ar base cb F g L TD V j (alStep c ws bs (V j)) := by
  obtain ⟨hb, t1, s1, s64, hg, har, h, hj, ct, cs, ca, cbj, cn⟩ := id P
  have hlv := h.lv j hj
  have hal := alStep_in c ws bs (V j) hlv.al
  obtain ⟨e0, e1, e2⟩ := P.e0
  have hcnt := cnt_bd V
  have hF := h.f0
  have hfr := h.fr
  have hpd := h.pd
  have hbb := hlv.b0
  rw [als1 e] at hal ⊢
  have hcl0 := P.cl0 (by omega)
  by_cases hby : c.by' = 0
  · rw [if_pos hby]
    refine ⟨fun k => (by simp at k), fun _ => ?_⟩
    show AaEnd t s ar base cb F g L TD V j ws 9 0 (V j).cl
    rw [hcl0]
    exact aa_end hb h hj (TD' := TD) (by omega) (fun v' hf => AaInv.sa0 hb h.sa hj v' (by omega) (by have := hf.1; omega) (.inl (by have := hf.1; omega))) (.inr ⟨by decide, rfl⟩) (by rw [aHd_none (v := V j) (by omega), List.append_nil]) hfr (by rw [hpd, aOne_no (v := V j) (by omega)]; omega) (fun _ _ _ => rfl)
  · rw [if_neg hby] at hal ⊢
    have hk0 := hlv.kp (by omega)
    have hp1 := hlv.p1 (by omega)
    have ha0 := hlv.aa (by omega)
    have hb1 : 1 ≤ cb j := by omega
    refine ⟨fun _ => aa_next hb h hj (h.stay hj _ (cb j) (AaInv.sa0 hb h.sa hj _ (by omega) (by dsimp only; omega) (.inl (by dsimp only; omega))) (by rw [aHd_none (v := V j) (by omega)]; exact aHd_none (by dsimp only; omega)) hfr hF (by rw [hpd, aOne_no (v := V j) (by omega), aOne_no (by dsimp only; omega)]; omega) (fun _ _ _ => rfl) (fun a => by rw [aHold_none (v := V j) (by omega)] at a; cases a) ?_) (by omega) (.inr ⟨rfl, fun k => k⟩), fun k => (by simp at k)⟩
    (refine ⟨hlv.b0, hal, ?_, ?_, ?_, ?_, ?_, ?_, ?_, ?_, ?_, ?_, ?_⟩ <;> (try intro k) <;> (try dsimp only at k) <;> (try dsimp only) <;> first | assumption | exact hlv.cl | (exfalso; omega) | omega | (rw [hcl0]; rfl) | (exact hlv.kp (by omega)) | (exact hlv.bb (by omega)) | (exact hlv.gn (by omega)) | (intro k2; first | (exfalso; omega) | exact hlv.gn (by omega) (by omega)))
theorem aa_2 (P : AaPre t s ar base cb ws F g L TD V j c) (e : (V j).nx = 2) (bs : List Int) : AaPost t s ar base cb F g L TD V j (alStep c ws bs (V j)) := by
  obtain ⟨hb, t1, s1, s64, hg, har, h, hj, ct, cs, ca, cbj, cn⟩ := id P
  have hlv := h.lv j hj
  have hal := alStep_in c ws bs (V j) hlv.al
  obtain ⟨e0, e1, e2⟩ := P.e0
  have hcnt := cnt_bd V
  have hF := h.f0
  have hfr := h.fr
  have hpd := h.pd
  have hbb := hlv.b0
  rw [als2 e] at hal ⊢
  have hcl0 := P.cl0 (by omega)
  have hk0 := hlv.kp (by omega)
  have hp1 := hlv.p1 (by omega)
  have ha0 := hlv.aa (by omega)
  have hb1 := hlv.bb (by omega)
  unfold alPend at hal ⊢
  rw [e2] at hal ⊢
  by_cases hc : wCas ws 2 (V j).seen = true
  · rw [if_pos hc] at hal ⊢
    have hseen : (V j).seen = cnt V := by unfold wCas at hc; rw [Bool.and_eq_true] at hc; have := hc.2; rw [hpd] at this; simpa using (beq_iff_eq.1 this).symm
    have hput : wCasPut ws 2 (V j).seen (wrap64 ((V j).seen + 1)) = wPut ws 2 (cnt V + 1) := by unfold wCasPut; rw [if_pos hc, hseen, wrap_id (by omega) (by omega)]
    dsimp only at hal ⊢
    rw [hput]
    refine ⟨fun _ => aa_next hb h hj (h.stay hj _ (cb j) (AaInv.sa0 hb (P.put2 (.inr rfl) (by unfold I64; omega)) hj _ (by omega) (by dsimp only; omega) (.inr hp1)) (by rw [aHd_none (v := V j) (by omega)]; exact aHd_none (by dsimp only; omega)) (by rw [wAt_put_ne (by decide)]; exact hfr) hF (by rw [wAt_put_same (P.win (by omega) (by omega)), aOne_no (v := V j) (by omega), aOne_yes (by dsimp only; omega)]; omega) (P.en2 (.inr (.inr rfl))) (fun a => by rw [aHold_none (v := V j) (by omega)] at a; cases a) ?_) (by omega) (.inr ⟨rfl, fun k => k⟩), fun k => (by simp at k)⟩
    (refine ⟨hlv.b0, hal, ?_, ?_, ?_, ?_, ?_, ?_, ?_, ?_, ?_, ?_, ?_⟩ <;> (try intro k) <;> (try dsimp only at k) <;> (try dsimp only) <;> first | assumption | exact hlv.cl | (exfalso; omega) | omega | (rw [hcl0]; rfl) | (exact hlv.kp (by omega)) | (exact hlv.bb (by omega)) | (exact hlv.gn (by omega)) | (intro k2; first | (exfalso; omega) | exact hlv.gn (by omega) (by omega)))
  · rw [if_neg hc] at hal ⊢
    dsimp only at hal ⊢
    refine ⟨fun _ => aa_next hb h hj (h.stay hj _ (cb j) (AaInv.sa0 hb h.sa hj _ (by omega) (by dsimp only; omega) (.inl (by dsimp only; omega))) (by rw [aHd_none (v := V j) (by omega)]; exact aHd_none (by dsimp only; omega)) hfr hF (by rw [hpd, aOne_no (v := V j) (by omega), aOne_no (by dsimp only; omega)]; omega) (fun _ _ _ => rfl) (fun a => by rw [aHold_none (v := V j) (by omega)] at a; cases a) ?_) (by omega) (.inr ⟨rfl, fun k => k⟩), fun k => (by simp at k)⟩
    (refine ⟨hlv.b0, hal, ?_, ?_, ?_, ?_, ?_, ?_, ?_, ?_, ?_, ?_, ?_⟩ <;> (try intro k) <;> (try dsimp only at k) <;> (try dsimp only) <;> first | assumption | exact hlv.cl | (exfalso; omega) | omega | (rw [hcl0]; rfl) | (exact hlv.kp (by omega)) | (exact hlv.bb (by omega)) | (exact hlv.gn (by omega)) | (intro k2; first | (exfalso; omega) | exact hlv.gn (by omega) (by omega)))
theorem aa_3 (P : AaPre t s ar base cb ws F g L TD V j c) (e : (V j).nx = 3) (bs : List Int) : AaPost t s ar base cb F g L TD V j (alStep c ws bs (V j)) := by
  obtain ⟨hb, t1, s1, s64, hg, har, h, hj, ct, cs, ca, cbj, cn⟩ := id P
  have hlv := h.lv j hj
  have hal := alStep_in c ws bs (V j) hlv.al
  obtain ⟨e0, e1, e2⟩ := P.e0
  have hcnt := cnt_bd V
  have hF := h.f0
  have hfr := h.fr
  have hpd := h.pd
  have hbb := hlv.b0
  rw [als3 e] at hal ⊢
  have hcl0 := P.cl0 (by omega)
  have hk0 := hlv.kp (by omega)
  have ha0 := hlv.aa (by omega)
  have hb1 := hlv.bb (by omega)
  have hgv := n5of hlv.al (by omega) (by omega)
  unfold alTake at hal ⊢
  rw [ct, cs] at hal ⊢
  obtain ⟨r, hr⟩ : ∃ r, popStep t s ws (V j).p.nx (V j).p.sl (V j).p.wd (V j).p.tw = r := ⟨_, rfl⟩
  rw [hr] at hal ⊢
  dsimp only at hal ⊢
  have hp : popStep t s ws (aPr (V j)).p.nx (aPr (V j)).p.sl (aPr (V j)).p.wd (aPr (V j)).p.tw = r := by unfold aPr; rw [if_pos e]; exact hr
  have hS := h.sa.popS hb t1 s64 (by omega) hj r hp (aPr_q (by omega))
  have hw := popStep_ws t1 hr
  have hfr' : wAt r.ws 0 = F ∧ wAt r.ws 2 = cnt V ∧ ∀ x, 0 ≤ x → x < s → wAt r.ws (ent t x) = wAt ws (ent t x) := by
    rcases hw with hw | ⟨v, hw⟩
    · rw [hw]; exact ⟨hfr, hpd, fun _ _ _ => rfl⟩
    · rw [hw]; exact ⟨by rw [wAt_put_ne (by decide)]; exact hfr, by rw [wAt_put_ne (by decide)]; exact hpd, P.en2 (.inr (.inl rfl))⟩
  obtain ⟨hf1, hf2, hf3⟩ := hfr'
  cases hd : r.done
  · rw [hd, if_neg (by decide)] at hal
    rw [if_neg (by decide)]
    refine ⟨fun _ => aa_next hb h hj (h.stay hj _ (cb j) ?_ (by rw [aHd_none (v := V j) (by omega)]; exact aHd_none (by dsimp only; omega)) hf1 hF (by rw [hf2, aOne_yes (v := V j) (by omega), aOne_yes (by dsimp only; omega)]; omega) hf3 (fun a => by rw [aHold_none (v := V j) (by omega)] at a; cases a) ?_) (by omega) (.inr ⟨rfl, fun k => k⟩), fun k => (by simp at k)⟩
    · have k := hS.1 hd
      have e9 : aPr { (V j) with p := ⟨r.nx, r.sl, r.wd, r.to⟩ } = ⟨⟨(aPr (V j)).p.x, r.nx, r.sl, r.wd, r.to⟩, none⟩ := by unfold aPr; dsimp only; rw [if_pos e, if_neg (show ¬ (V j).nx = 6 by omega)]
      rw [e9]; exact k
    (refine ⟨hlv.b0, hal, ?_, ?_, ?_, ?_, ?_, ?_, ?_, ?_, ?_, ?_, ?_⟩ <;> (try intro k) <;> (try dsimp only at k) <;> (try dsimp only) <;> first | assumption | exact hlv.cl | (exfalso; omega) | omega | (rw [hcl0]; rfl) | (exact hlv.kp (by omega)) | (exact hlv.bb (by omega)) | (exact hlv.gn (by omega)) | (intro k2; first | (exfalso; omega) | exact hlv.gn (by omega) (by omega)))
  · rw [hd, if_pos rfl] at hal
    rw [if_pos rfl]
    by_cases he : r.e = 0
    · rw [if_pos he] at hal ⊢
      obtain ⟨L', hL, hm⟩ := hS.2.2 hd he
      have hrm : r.r ∈ L := by rw [hL]; simp
      have hrb := h.sa.bdL hb _ hrm
      refine ⟨fun _ => aa_next hb h hj (h.step hj _ (cb j) (hm (aPr { (V j) with p := ⟨r.nx, r.sl, r.wd, r.to⟩, sl := r.r, nx := 4 }) (aPr_p (by dsimp only; omega)) (aPr_q (by dsimp only; omega))) (fun R h1 h2 => ?_) hf1 hF (by rw [hf2, aOne_yes (v := V j) (by omega), aOne_yes (by dsimp only; omega)]; omega) (fun x x0 x1 hx ha hh => ?_) ?_) (by omega) (.inr ⟨rfl, fun k => k⟩), fun k => (by simp at k)⟩
      · rw [aHd_none (v := V j) (by omega)] at h1
        rw [show aHd { (V j) with p := ⟨r.nx, r.sl, r.wd, r.to⟩, sl := r.r, nx := 4 } = [r.r] from aHd_some (by dsimp only; omega)] at h2
        rw [List.append_assoc]
        refine List.Perm.append_left TD ?_
        exact ((List.Perm.append_right _ h1).trans (List.perm_append_comm)).trans h2.symm
      · rw [hf3 x x0 x1]
        refine h.en x x0 x1 hx (fun i hi k1 k2 => ?_)
        by_cases ei : i = j
        · subst ei; rw [aHold_none (v := V i) (by omega)] at k1; cases k1
        · exact hh i hi ei k1 k2
      (refine ⟨hlv.b0, hal, ?_, ?_, ?_, ?_, ?_, ?_, ?_, ?_, ?_, ?_, ?_⟩ <;> (try intro k) <;> (try dsimp only at k) <;> (try dsimp only) <;> first | assumption | exact hlv.cl | (exfalso; omega) | omega | (rw [hcl0]; rfl) | (exact hlv.kp (by omega)) | (exact hlv.bb (by omega)) | (exact hlv.gn (by omega)) | (intro k2; first | (exfalso; omega) | exact hlv.gn (by omega) (by omega)))
    · rw [if_neg he] at hal ⊢
      refine ⟨fun _ => aa_next hb h hj (h.stay hj _ (cb j) (AaInv.sa0 hb (hS.2.1 hd he) hj _ (by omega) (by dsimp only; omega) (.inl (by dsimp only; omega))) (by rw [aHd_none (v := V j) (by omega)]; exact aHd_none (by dsimp only; omega)) hf1 hF (by rw [hf2, aOne_yes (v := V j) (by omega), aOne_yes (by dsimp only; omega)]; omega) hf3 (fun a => by rw [aHold_none (v := V j) (by omega)] at a; cases a) ?_) (by omega) (.inr ⟨rfl, fun k => k⟩), fun k => (by simp at k)⟩
      (refine ⟨hlv.b0, hal, ?_, ?_, ?_, ?_, ?_, ?_, ?_, ?_, ?_, ?_, ?_⟩ <;> (try intro k) <;> (try dsimp only at k) <;> (try dsimp only) <;> first | assumption | exact hlv.cl | (exfalso; omega) | omega | (rw [hcl0]; rfl) | (exact hlv.kp (by omega)) | (exact hlv.bb (by omega)) | (exact hlv.gn (by omega)) | (intro k2; first | (exfalso; omega) | exact hlv.gn (by omega) (by omega)))
theorem aa_4 (P : AaPre t s ar base cb ws F g L TD V j c) (e : (V j).nx = 4) (bs : List Int) : AaPost t s ar base cb F g L TD V j (alStep c ws bs (V j)) := by
  obtain ⟨hb, t1, s1, s64, hg, har, h, hj, ct, cs, ca, cbj, cn⟩ := id P
  have hlv := h.lv j hj
  have hal := alStep_in c ws bs (V j) hlv.al
  obtain ⟨e0, e1, e2⟩ := P.e0
  have hcnt := cnt_bd V
  have hF := h.f0
  have hfr := h.fr
  have hpd := h.pd
  have hbb := hlv.b0
  rw [als4 e] at hal ⊢
  have hcl0 := P.cl0 (by omega)
  have hk0 := hlv.kp (by omega)
  have ha0 := hlv.aa (by omega)
  have hb1 := hlv.bb (by omega)
  have hgv := n5of hlv.al (by omega) (by omega)
  rw [e0, hfr] at hal ⊢
  unfold alFront at hal ⊢
  by_cases hn : alNoRoom c F = true
  · rw [if_pos hn] at hal ⊢
    obtain ⟨R, r1, r2⟩ := held_split V hj
    rw [aHd_some (v := V j) (by omega)] at r1
    have hT : (TD ++ held V).Perm ((V j).sl :: (TD ++ R)) := (List.Perm.append_left TD r1).trans List.perm_middle
    have hS := (h.sa.permT hT).begins hb hj (aPr { (V j) with f := F, nx := 6, kp := 10, gv := some ⟨1, (V j).sl, 0, 0⟩ }) (r := ⟨0, 1, (V j).sl, 0, 0⟩) rfl (aPr_q (by omega)) rfl rfl rfl (aPr_p (by dsimp only; omega))
    refine ⟨fun _ => aa_next hb h hj (h.step hj _ (cb j) hS (fun R' _ _ => ?_) hfr hF (by rw [hpd, aOne_yes (v := V j) (by omega), aOne_yes (by dsimp only; omega)]; omega) (fun x x0 x1 hx ha hh => ?_) ?_) (by omega) (.inr ⟨rfl, fun k => k⟩), fun k => (by simp at k)⟩
    · have := r2 { (V j) with f := F, nx := 6, kp := 10, gv := some ⟨1, (V j).sl, 0, 0⟩ }
      rw [show aHd { (V j) with f := F, nx := 6, kp := 10, gv := some ⟨1, (V j).sl, 0, 0⟩ } = [] from aHd_none (by dsimp only; omega)] at this
      exact List.Perm.append_left TD this.symm
    · refine h.en x x0 x1 hx (fun i hi k1 k2 => ?_)
      by_cases ei : i = j
      · subst ei; exfalso; omega
      · exact hh i hi ei k1 k2
    · refine ⟨hlv.b0, hal, ?_, ?_, ?_, ?_, ?_, ?_, ?_, ?_, ?_, ?_, ?_⟩ <;> (try intro k) <;> (try dsimp only at k) <;> (try dsimp only) <;> first | assumption | (exfalso; omega) | omega | (rw [hcl0]; rfl) | (intro g' hg'; cases hg'; rfl) | (intro k2; exfalso; omega)
  · rw [if_neg hn] at hal ⊢
    have hroom : 0 ≤ F ∧ F ≤ ar - cb j := by
      unfold alNoRoom at hn
      rw [Bool.or_eq_true, not_or, decide_eq_true_eq, decide_eq_true_eq, wrap_id (by omega) (by omega)] at hn
      omega
    refine ⟨fun _ => aa_next hb h hj (h.stay hj _ (cb j) (AaInv.sa0 hb h.sa hj _ (by omega) (by dsimp only; omega) (.inl (by dsimp only; omega))) (by rw [aHd_some (v := V j) (by omega)]; exact aHd_some (by dsimp only; omega)) hfr hF (by rw [hpd, aOne_yes (v := V j) (by omega), aOne_yes (by dsimp only; omega)]; omega) (fun _ _ _ => rfl) (fun _ b => by exfalso; omega) ?_) (by omega) (.inr ⟨rfl, fun k => k⟩), fun k => (by simp at k)⟩
    (refine ⟨hlv.b0, hal, ?_, ?_, ?_, ?_, ?_, ?_, ?_, ?_, ?_, ?_, ?_⟩ <;> (try intro k) <;> (try dsimp only at k) <;> (try dsimp only) <;> first | assumption | exact hlv.cl | (exfalso; omega) | omega | (rw [hcl0]; rfl) | (exact hlv.kp (by omega)) | (exact hlv.bb (by omega)) | (exact hlv.gn (by omega)) | (intro k2; first | (exfalso; omega) | exact hlv.gn (by omega) (by omega)))
theorem aa_5 (P : AaPre t s ar base cb ws F g L TD V j c) (e : (V j).nx = 5) (bs : List Int) : AaPost t s ar base cb F g L TD V j (alStep c ws bs (V j)) := by
  obtain ⟨hb, t1, s1, s64, hg, har, h, hj, ct, cs, ca, cbj, cn⟩ := id P
  have hlv := h.lv j hj
  have hal := alStep_in c ws bs (V j) hlv.al
  obtain ⟨e0, e1, e2⟩ := P.e0
  have hcnt := cnt_bd V
  have hF := h.f0
  have hfr := h.fr
  have hpd := h.pd
  have hbb := hlv.b0
  rw [als5 e] at hal ⊢
  have hcl0 := P.cl0 (by omega)
  have hk0 := hlv.kp (by omega)
  have ha0 := hlv.aa (by omega)
  have hb1 := hlv.bb (by omega)
  have hff := hlv.ff (by omega)
  have hgv := n5of hlv.al (by omega) (by omega)
  rw [e0] at hal ⊢
  by_cases hc : wCas ws 0 (V j).f = true
  · rw [if_pos hc] at hal ⊢
    have hseen : (V j).f = F := by unfold wCas at hc; rw [Bool.and_eq_true] at hc; have := hc.2; rw [hfr] at this; simpa using (beq_iff_eq.1 this).symm
    have hput : wCasPut ws 0 (V j).f (wrap64 ((V j).f + c.by')) = wPut ws 0 (F + cb j) := by unfold wCasPut; rw [if_pos hc, hseen, wrap_id (by omega) (by omega), cbj]
    rw [hput]
    refine ⟨fun _ => aa_next hb h hj (h.stay hj _ (cb j) (AaInv.sa0 hb (P.put2 (.inl rfl) (by unfold I64; omega)) hj _ (by omega) (by dsimp only; omega) (.inl (by dsimp only; omega))) (by rw [aHd_some (v := V j) (by omega)]; exact aHd_some (by dsimp only; omega)) (wAt_put_same (P.win (by omega) (by omega))) (by omega) (by rw [wAt_put_ne (by decide), hpd, aOne_yes (v := V j) (by omega), aOne_yes (by dsimp only; omega)]; omega) (P.en2 (.inl rfl)) (fun _ b => by exfalso; omega) ?_) (by omega) (.inl ⟨rfl, hcl0, rfl, hseen, hb1⟩), fun k => (by simp at k)⟩
    refine ⟨hlv.b0, hal, ?_, ?_, ?_, ?_, ?_, ?_, ?_, ?_, ?_, ?_, ?_⟩ <;> (try intro k) <;> (try dsimp only at k) <;> (try dsimp only) <;> first | assumption | (exfalso; omega) | omega | rfl | (intro k2; exfalso; omega)
  · rw [if_neg hc] at hal ⊢
    refine ⟨fun _ => aa_next hb h hj (h.stay hj _ (cb j) (AaInv.sa0 hb h.sa hj _ (by omega) (by dsimp only; omega) (.inl (by dsimp only; omega))) (by rw [aHd_some (v := V j) (by omega)]; exact aHd_some (by dsimp only; omega)) hfr hF (by rw [hpd, aOne_yes (v := V j) (by omega), aOne_yes (by dsimp only; omega)]; omega) (fun _ _ _ => rfl) (fun _ b => by exfalso; omega) ?_) (by omega) (.inr ⟨rfl, fun k => k⟩), fun k => (by simp at k)⟩
    (refine ⟨hlv.b0, hal, ?_, ?_, ?_, ?_, ?_, ?_, ?_, ?_, ?_, ?_, ?_⟩ <;> (try intro k) <;> (try dsimp only at k) <;> (try dsimp only) <;> first | assumption | exact hlv.cl | (exfalso; omega) | omega | (rw [hcl0]; rfl) | (exact hlv.kp (by omega)) | (exact hlv.bb (by omega)) | (exact hlv.gn (by omega)) | (intro k2; first | (exfalso; omega) | exact hlv.gn (by omega) (by omega)))
theorem aa_6 (P : AaPre t s ar base cb ws F g L TD V j c) (e : (V j).nx = 6) (bs : List Int) : AaPost t s ar base cb F g L TD V j (alStep c ws bs (V j)) := by
  obtain ⟨hb, t1, s1, s64, hg, har, h, hj, ct, cs, ca, cbj, cn⟩ := id P
  have hlv := h.lv j hj
  have hal := alStep_in c ws bs (V j) hlv.al
  obtain ⟨e0, e1, e2⟩ := P.e0
  have hcnt := cnt_bd V
  have hF := h.f0
  have hfr := h.fr
  have hpd := h.pd
  have hbb := hlv.b0
  rw [als6 e] at hal ⊢
  have hcl0 := P.cl0 (by omega)
  have hk6 := hlv.k6 (by omega)
  have ha0 := hlv.aa (by omega)
  have hb1 := hlv.bb (by omega)
  obtain ⟨gq, hgq⟩ := (show ∃ g, (V j).gv = some g from hlv.al.2.2.2 e)
  have hgs := hlv.gs e gq hgq
  unfold alGive at hal ⊢
  rw [hgq, ct, cs] at hal ⊢
  dsimp only at hal ⊢
  obtain ⟨r, hr⟩ : ∃ r, pushStep t s ws gq.nx gq.sl gq.wd gq.tw = r := ⟨_, rfl⟩
  rw [hr] at hal ⊢
  have hq0 : (aPr (V j)).q = some (aQ gq) := by unfold aPr; rw [if_pos e, hgq]; rfl
  have hS := h.sa.pushS hb t1 s64 (by omega) hj hq0 r hr
  have hsl := pushStep_slA hr
  have hbd := h.sa.bdU hb _ (h.sa.slot hb hj hq0)
  have hbd : 0 ≤ gq.sl ∧ gq.sl < s := hbd
  have hw := pushStep_ws t1 hr
  have hfr' : wAt r.ws 0 = F ∧ wAt r.ws 2 = cnt V ∧ ∀ x, 0 ≤ x → x < s → wAt r.ws (ent t x) = wAt ws (ent t x) := by
    rcases hw with hw | ⟨k, v, hw, hk⟩
    · rw [hw]; exact ⟨hfr, hpd, fun _ _ _ => rfl⟩
    · have hk' : k = 1 ∨ k = lnk t gq.sl := by
        rcases hk with hk | hk
        · exact .inl hk
        · right; rw [hk]; unfold lOf lnk; rw [if_pos hbd]
      rw [hw]
      refine ⟨by rw [wAt_put_ne (by unfold lnk at hk'; omega)]; exact hfr, by rw [wAt_put_ne (by unfold lnk at hk'; omega)]; exact hpd, en_put (fun x x0 x1 => by unfold ent; unfold lnk at hk'; omega)⟩
  obtain ⟨hf1, hf2, hf3⟩ := hfr'
  cases hd : r.done
  · rw [hd, if_neg (by decide)] at hal
    rw [if_neg (by decide)]
    refine ⟨fun _ => aa_next hb h hj (h.stay hj _ (cb j) ?_ (by rw [aHd_none (v := V j) (by omega)]; exact aHd_none (by dsimp only; omega)) hf1 hF (by rw [hf2, aOne_yes (v := V j) (by omega), aOne_yes (by dsimp only; omega)]; omega) hf3 (fun _ b => by exfalso; omega) ?_) (by omega) (.inr ⟨rfl, fun k => k⟩), fun k => (by simp at k)⟩
    · have k := hS.1 hd
      have e9 : aPr { (V j) with gv := some ⟨r.nx, r.sl, r.wd, r.to⟩ } = ⟨(aPr (V j)).p, some ⟨(aQ gq).x, r.nx, r.sl, r.wd, r.to⟩⟩ := by unfold aPr; dsimp only; rw [if_pos e]; rfl
      rw [e9]; exact k
    refine ⟨hlv.b0, hal, ?_, ?_, ?_, ?_, ?_, ?_, ?_, ?_, ?_, ?_, ?_⟩ <;> (try intro k) <;> (try dsimp only at k) <;> (try dsimp only) <;> first | assumption | (exfalso; omega) | omega | (rw [hcl0, e]; rfl) | (intro g' hg'; cases hg'; exact hsl.trans hgs) | (intro k2; exfalso; omega)
  · rw [hd, if_pos rfl] at hal
    rw [if_pos rfl]
    obtain ⟨-, hm⟩ := hS.2 hd
    refine ⟨fun _ => aa_next hb h hj (h.step hj _ (cb j) (hm (aPr { (V j) with gv := some ⟨r.nx, r.sl, r.wd, r.to⟩, nx := 11 }) (aPr_p (by dsimp only; omega)) (aPr_q (by dsimp only; omega))) (fun R h1 h2 => ?_) hf1 hF (by rw [hf2, aOne_yes (v := V j) (by omega), aOne_yes (by dsimp only; omega)]; omega) (fun x x0 x1 hx ha hh => ?_) ?_) (by omega) (.inr ⟨rfl, fun k => k⟩), fun k => (by simp at k)⟩
    · rw [aHd_none (v := V j) (by omega)] at h1
      rw [show aHd { (V j) with gv := some ⟨r.nx, r.sl, r.wd, r.to⟩, nx := 11 } = [] from aHd_none (by dsimp only; omega)] at h2
      exact List.Perm.append_left TD (h1.trans h2.symm)
    · rw [hf3 x x0 x1]
      refine h.en x x0 x1 hx (fun i hi k1 k2 => ?_)
      by_cases ei : i = j
      · subst ei; exfalso; omega
      · exact hh i hi ei k1 k2
    · refine ⟨hlv.b0, hal, ?_, ?_, ?_, ?_, ?_, ?_, ?_, ?_, ?_, ?_, ?_⟩ <;> (try intro k) <;> (try dsimp only at k) <;> (try dsimp only) <;> first | assumption | (exfalso; omega) | omega | (rw [hcl0]; rfl) | (intro k2; exfalso; omega)
end
end Go.Proofs.Ytpebepjfgnoaaaa
