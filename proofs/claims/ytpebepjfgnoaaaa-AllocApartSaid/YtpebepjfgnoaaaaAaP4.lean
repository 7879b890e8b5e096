/- Machines of alloc that step in any order: the later steps; all. -/
import Derived.Test.YtpebepjfgnoaaaaAaP3
namespace Go.Proofs.Ytpebepjfgnoaaaa
set_option linter.unusedVariables false
set_option linter.unusedSimpArgs false
open Go.RowKit
section
variable {t s ar : Int} {base : List Int} {cb : Nat → Int} {ws : List Int} {F g : Int} {L TD : List Int} {V : Nat → AlV} {j : Nat} {c : AlC}
theorem aa_7 (P : AaPre t s ar base cb ws F g L TD V j c) (e : (V j).nx = 7) (bs : List Int) : AaPost t s ar base cb F g L TD V j (alStep c ws bs (V j)) := by
  obtain ⟨hb, t1, s1, s64, hg, har, h, hj, ct, cs, ca, cbj, cn⟩ := id P
  have hlv := h.lv j hj
  have hal := alStep_in c ws bs (V j) hlv.al
  obtain ⟨e0, e1, e2⟩ := P.e0
  have hcnt := cnt_bd V
  have hF := h.f0
  have hfr := h.fr
  have hpd := h.pd
  have hbb := hlv.b0
  rw [als7 e] at hal ⊢
  have hcl1 := P.cl1 (by omega)
  have hk0 := hlv.kp (by omega)
  have ha7 := hlv.a7 (by omega)
  have hb1 := hlv.bb (by omega)
  have hwr : wrap64 ((V j).a + 1) = (V j).a + 1 := wrap_id (by omega) (by omega)
  rw [hwr] at hal ⊢
  by_cases hA : (V j).a + 1 = c.by'
  · rw [if_pos hA] at hal ⊢
    refine ⟨fun _ => aa_next hb h hj (h.stay hj _ (cb j) (AaInv.sa0 hb h.sa hj _ (by omega) (by dsimp only; omega) (.inl (by dsimp only; omega))) (by rw [aHd_some (v := V j) (by omega)]; exact aHd_some (by dsimp only; omega)) hfr hF (by rw [hpd, aOne_yes (v := V j) (by omega), aOne_yes (by dsimp only; omega)]; omega) (fun _ _ _ => rfl) (fun _ b => by exfalso; omega) ?_) (by omega) (.inr ⟨rfl, fun k => hcl1⟩), fun k => (by simp at k)⟩
    refine ⟨hlv.b0, hal, ?_, ?_, ?_, ?_, ?_, ?_, ?_, ?_, ?_, ?_, ?_⟩ <;> (try intro k) <;> (try dsimp only at k) <;> (try dsimp only) <;> first | assumption | (exfalso; omega) | omega | (rw [hcl1]; rfl) | (intro k2; exfalso; omega)
  · rw [if_neg hA] at hal ⊢
    refine ⟨fun _ => aa_next hb h hj (h.stay hj _ (cb j) (AaInv.sa0 hb h.sa hj _ (by omega) (by dsimp only; omega) (.inl (by dsimp only; omega))) (by rw [aHd_some (v := V j) (by omega)]; exact aHd_some (by dsimp only; omega)) hfr hF (by rw [hpd, aOne_yes (v := V j) (by omega), aOne_yes (by dsimp only; omega)]; omega) (fun _ _ _ => rfl) (fun _ b => by exfalso; omega) ?_) (by omega) (.inr ⟨rfl, fun k => hcl1⟩), fun k => (by simp at k)⟩
    refine ⟨hlv.b0, hal, ?_, ?_, ?_, ?_, ?_, ?_, ?_, ?_, ?_, ?_, ?_⟩ <;> (try intro k) <;> (try dsimp only at k) <;> (try dsimp only) <;> first | assumption | (exfalso; omega) | omega | (rw [hcl1, e]; rfl) | (intro k2; exfalso; omega)
theorem aa_8 (P : AaPre t s ar base cb ws F g L TD V j c) (e : (V j).nx = 8) (bs : List Int) : AaPost t s ar base cb F g L TD V j (alStep c ws bs (V j)) := by
  obtain ⟨hb, t1, s1, s64, hg, har, h, hj, ct, cs, ca, cbj, cn⟩ := id P
  have hlv := h.lv j hj
  have hal := alStep_in c ws bs (V j) hlv.al
  obtain ⟨e0, e1, e2⟩ := P.e0
  have hcnt := cnt_bd V
  have hF := h.f0
  have hfr := h.fr
  have hpd := h.pd
  have hbb := hlv.b0
  rw [als8 e] at hal ⊢
  have hcl1 := P.cl1 (by omega)
  have hk0 := hlv.kp (by omega)
  have hb1 := hlv.bb (by omega)
  have hhold := aHold_some (v := V j) (by omega)
  obtain ⟨hbd, hnTD, hne⟩ := h.slotT hb hj hhold
  have hix : lOf c.t c.s (V j).sl 1 = ent t (V j).sl + 1 := by rw [ct, cs]; unfold lOf ent; rw [if_pos hbd]
  rw [hix]
  refine ⟨fun _ => aa_next hb h hj (h.stay hj _ (cb j) (AaInv.sa0 hb (h.sa.putK hb (by unfold ent; omega) (fun x x0 x1 => by unfold ent lnk; omega) cn) hj _ (by omega) (by dsimp only; omega) (.inl (by dsimp only; omega))) (by rw [aHd_some (v := V j) (by omega)]; exact aHd_some (by dsimp only; omega)) (by rw [wAt_put_ne (by unfold ent; omega)]; exact hfr) hF (by rw [wAt_put_ne (by unfold ent; omega), hpd, aOne_yes (v := V j) (by omega), aOne_yes (by dsimp only; omega)]; omega) (en_put (fun x x0 x1 => by unfold ent; omega)) (fun _ b => by exfalso; omega) ?_) (by omega) (.inr ⟨rfl, fun k => hcl1⟩), fun k => (by simp at k)⟩
  refine ⟨hlv.b0, hal, ?_, ?_, ?_, ?_, ?_, ?_, ?_, ?_, ?_, ?_, ?_⟩ <;> (try intro k) <;> (try dsimp only at k) <;> (try dsimp only) <;> first | assumption | (exfalso; omega) | omega | (rw [hcl1]; rfl) | (intro k2; exfalso; omega)
theorem aa_9 (P : AaPre t s ar base cb ws F g L TD V j c) (e : (V j).nx = 9) (bs : List Int) : AaPost t s ar base cb F g L TD V j (alStep c ws bs (V j)) := by
  obtain ⟨hb, t1, s1, s64, hg, har, h, hj, ct, cs, ca, cbj, cn⟩ := id P
  have hlv := h.lv j hj
  have hal := alStep_in c ws bs (V j) hlv.al
  obtain ⟨e0, e1, e2⟩ := P.e0
  have hcnt := cnt_bd V
  have hF := h.f0
  have hfr := h.fr
  have hpd := h.pd
  have hbb := hlv.b0
  rw [als9 e] at hal ⊢
  have hcl1 := P.cl1 (by omega)
  have hk0 := hlv.kp (by omega)
  have hb1 := hlv.bb (by omega)
  have hhold := aHold_some (v := V j) (by omega)
  obtain ⟨hbd, hnTD, hne⟩ := h.slotT hb hj hhold
  have hix : lOf c.t c.s (V j).sl 0 = ent t (V j).sl := by rw [ct, cs]; unfold lOf ent; rw [if_pos hbd]; omega
  have hx0 : wAt ws (ent t (V j).sl) = 0 := h.en _ hbd.1 hbd.2 hnTD (fun i hi k1 k2 => by
    by_cases ei : i = j
    · subst ei; exfalso; omega
    · exact hne i hi ei k1)
  rw [hix, hx0] at hal ⊢
  unfold alLook at hal ⊢
  rw [if_neg (by decide), show uG 0 = 0 by decide] at hal ⊢
  refine ⟨fun _ => aa_next hb h hj (h.stay hj _ (cb j) (AaInv.sa0 hb h.sa hj _ (by omega) (by dsimp only; omega) (.inl (by dsimp only; omega))) (by rw [aHd_some (v := V j) (by omega)]; exact aHd_some (by dsimp only; omega)) hfr hF (by rw [hpd, aOne_yes (v := V j) (by omega), aOne_yes (by dsimp only; omega)]; omega) (fun _ _ _ => rfl) (fun _ b => by exfalso; omega) ?_) (by omega) (.inr ⟨rfl, fun k => hcl1⟩), fun k => (by simp at k)⟩
  refine ⟨hlv.b0, hal, ?_, ?_, ?_, ?_, ?_, ?_, ?_, ?_, ?_, ?_, ?_⟩ <;> (try intro k) <;> (try dsimp only at k) <;> (try dsimp only) <;> first | assumption | (exfalso; omega) | omega | (rw [hcl1]; rfl) | (intro k2; rfl) | exact ePack_bdA _ _ _ _ _ _
theorem aa_10 (P : AaPre t s ar base cb ws F g L TD V j c) (e : (V j).nx = 10) (bs : List Int) : AaPost t s ar base cb F g L TD V j (alStep c ws bs (V j)) := by
  obtain ⟨hb, t1, s1, s64, hg, har, h, hj, ct, cs, ca, cbj, cn⟩ := id P
  have hlv := h.lv j hj
  have hal := alStep_in c ws bs (V j) hlv.al
  obtain ⟨e0, e1, e2⟩ := P.e0
  have hcnt := cnt_bd V
  have hF := h.f0
  have hfr := h.fr
  have hpd := h.pd
  have hbb := hlv.b0
  rw [als10 e] at hal ⊢
  have hcl1 := P.cl1 (by omega)
  have hk0 := hlv.kp (by omega)
  have hb1 := hlv.bb (by omega)
  have hgn := hlv.gn (by omega) hk0
  have hwd := hlv.wd e
  have hhold := aHold_some (v := V j) (by omega)
  obtain ⟨hbd, hnTD, hne⟩ := h.slotT hb hj hhold
  have hix : lOf c.t c.s (V j).sl 0 = ent t (V j).sl := by rw [ct, cs]; unfold lOf ent; rw [if_pos hbd]; omega
  rw [if_pos hk0, hix]
  refine ⟨fun _ => aa_next hb h hj (h.step hj _ (cb j) (AaInv.sa0 hb (h.sa.putK hb (by unfold ent; omega) (fun x x0 x1 => by unfold ent lnk; omega) hwd) hj _ (by omega) (by dsimp only; omega) (.inl (by dsimp only; omega))) (fun R h1 h2 => ?_) (by rw [wAt_put_ne (by unfold ent; omega)]; exact hfr) hF (by rw [wAt_put_ne (by unfold ent; omega), hpd, aOne_yes (v := V j) (by omega), aOne_yes (by dsimp only; omega)]; omega) (fun x x0 x1 hx ha hh => ?_) ?_) (by omega) (.inr ⟨rfl, fun k => by cases k⟩), fun k => (by simp at k)⟩
  · rw [aHd_some (v := V j) (by omega)] at h1
    rw [show aHd { (V j) with cl := false, nx := 11 } = [(V j).sl] from aHd_some (by dsimp only; omega)] at h2
    exact List.Perm.append_left TD (h1.trans h2.symm)
  · have hne2 : x ≠ (V j).sl := ha (aHold_some (by dsimp only; omega)) (by dsimp only; omega)
    rw [wAt_put_ne (by unfold ent; omega)]
    refine h.en x x0 x1 hx (fun i hi k1 k2 => ?_)
    by_cases ei : i = j
    · subst ei; exfalso; omega
    · exact hh i hi ei k1 k2
  · refine ⟨hlv.b0, hal, ?_, ?_, ?_, ?_, ?_, ?_, ?_, ?_, ?_, ?_, ?_⟩ <;> (try intro k) <;> (try dsimp only at k) <;> (try dsimp only) <;> first | assumption | (exfalso; omega) | omega | rfl | (intro k2; exact hgn)
theorem aa_11 (P : AaPre t s ar base cb ws F g L TD V j c) (e : (V j).nx = 11) (bs : List Int) : AaPost t s ar base cb F g L TD V j (alStep c ws bs (V j)) := by
  obtain ⟨hb, t1, s1, s64, hg, har, h, hj, ct, cs, ca, cbj, cn⟩ := id P
  have hlv := h.lv j hj
  have hal := alStep_in c ws bs (V j) hlv.al
  obtain ⟨e0, e1, e2⟩ := P.e0
  have hcnt := cnt_bd V
  have hF := h.f0
  have hfr := h.fr
  have hpd := h.pd
  have hbb := hlv.b0
  rw [als11 e] at hal ⊢
  have hcl0 := P.cl0 (by omega)
  have hb1 := hlv.bb (by omega)
  have hgn := hlv.gn (by omega)
  refine ⟨fun _ => aa_next hb h hj (h.stay hj _ (cb j) (AaInv.sa0 hb h.sa hj _ (by omega) (by dsimp only; omega) (.inl (by dsimp only; omega))) (by by_cases hkk : (V j).kp = 0; (rw [aHd_some (v := V j) (by omega)]; exact aHd_some (by dsimp only; omega)); (rw [aHd_none (v := V j) (by omega)]; exact aHd_none (by dsimp only; omega))) hfr hF (by rw [hpd, aOne_yes (v := V j) (by omega), aOne_yes (by dsimp only; omega)]; omega) (fun _ _ _ => rfl) (fun a _ => ⟨by unfold aHold at a ⊢; rw [decide_eq_true_eq] at a ⊢; dsimp only; omega, by dsimp only; omega, rfl⟩) ?_) (by omega) (.inr ⟨rfl, fun k => k⟩), fun k => (by simp at k)⟩
  refine ⟨hlv.b0, hal, ?_, ?_, ?_, ?_, ?_, ?_, ?_, ?_, ?_, ?_, ?_⟩ <;> (try intro k) <;> (try dsimp only at k) <;> (try dsimp only) <;> first | assumption | (exfalso; omega) | omega | (rw [hcl0]; rfl)
theorem aa_12 (P : AaPre t s ar base cb ws F g L TD V j c) (e : (V j).nx = 12) (bs : List Int) : AaPost t s ar base cb F g L TD V j (alStep c ws bs (V j)) := by
  obtain ⟨hb, t1, s1, s64, hg, har, h, hj, ct, cs, ca, cbj, cn⟩ := id P
  have hlv := h.lv j hj
  have hal := alStep_in c ws bs (V j) hlv.al
  obtain ⟨e0, e1, e2⟩ := P.e0
  have hcnt := cnt_bd V
  have hF := h.f0
  have hfr := h.fr
  have hpd := h.pd
  have hbb := hlv.b0
  rw [als12 e] at hal ⊢
  have hcl0 := P.cl0 (by omega)
  have hb1 := hlv.bb (by omega)
  have hgn := hlv.gn (by omega)
  unfold alPend at hal ⊢
  rw [e2] at hal ⊢
  by_cases hc : wCas ws 2 (V j).seen = true
  · rw [if_pos hc] at hal ⊢
    have hseen : (V j).seen = cnt V := by unfold wCas at hc; rw [Bool.and_eq_true] at hc; have := hc.2; rw [hpd] at this; simpa using (beq_iff_eq.1 this).symm
    have hput : wCasPut ws 2 (V j).seen (wrap64 ((V j).seen + -1)) = wPut ws 2 (cnt V - 1) := by unfold wCasPut; rw [if_pos hc, hseen, wrap_id (by omega) (by omega)]; rfl
    rw [if_pos rfl] at hal ⊢
    dsimp only at hal ⊢
    rw [hput]
    refine ⟨fun k => (by simp at k), fun _ => ?_⟩
    show AaEnd t s ar base cb F g L TD V j (wPut ws 2 (cnt V - 1)) (alRes { (V j) with nx := 0 }).1 (alRes { (V j) with nx := 0 }).2 (V j).cl
    rw [hcl0]
    by_cases hk : (V j).kp = 0
    · have hhold := aHold_some (v := V j) (by omega)
      obtain ⟨hbd, hnTD, hne⟩ := h.slotT hb hj hhold
      refine aa_end hb h hj (TD' := TD ++ [(V j).sl]) (by omega) (fun v' hf => AaInv.sa0 hb (P.put2 (.inr rfl) (by unfold I64; omega)) hj v' (by omega) (by have := hf.1; omega) (.inl (by have := hf.1; omega))) (.inl ⟨?_, (V j).sl, ?_, hbd.1, hbd.2, hnTD, rfl⟩) (by rw [aHd_some (v := V j) (by omega)]) (by rw [wAt_put_ne (by decide)]; exact hfr) (by rw [wAt_put_same (P.win (by omega) (by omega)), aOne_yes (v := V j) (by omega)]) (P.en2 (.inr (.inr rfl)))
      · unfold alRes; dsimp only; rw [if_pos hk]
      · unfold alRes; dsimp only; rw [if_pos hk, hgn hk]
    · refine aa_end hb h hj (TD' := TD) (by omega) (fun v' hf => AaInv.sa0 hb (P.put2 (.inr rfl) (by unfold I64; omega)) hj v' (by omega) (by have := hf.1; omega) (.inl (by have := hf.1; omega))) (.inr ⟨?_, rfl⟩) (by rw [aHd_none (v := V j) (by omega), List.append_nil]) (by rw [wAt_put_ne (by decide)]; exact hfr) (by rw [wAt_put_same (P.win (by omega) (by omega)), aOne_yes (v := V j) (by omega)]) (P.en2 (.inr (.inr rfl)))
      unfold alRes; dsimp only; rw [if_neg hk]; exact hk
  · rw [if_neg hc] at hal ⊢
    dsimp only at hal ⊢
    rw [if_neg (by decide)] at hal ⊢
    refine ⟨fun _ => aa_next hb h hj (h.stay hj _ (cb j) (AaInv.sa0 hb h.sa hj _ (by omega) (by dsimp only; omega) (.inl (by dsimp only; omega))) (by by_cases hkk : (V j).kp = 0; (rw [aHd_some (v := V j) (by omega)]; exact aHd_some (by dsimp only; omega)); (rw [aHd_none (v := V j) (by omega)]; exact aHd_none (by dsimp only; omega))) hfr hF (by rw [hpd, aOne_yes (v := V j) (by omega), aOne_yes (by dsimp only; omega)]; omega) (fun _ _ _ => rfl) (fun a _ => ⟨by unfold aHold at a ⊢; rw [decide_eq_true_eq] at a ⊢; dsimp only; omega, by dsimp only; omega, rfl⟩) ?_) (by omega) (.inr ⟨rfl, fun k => k⟩), fun k => (by simp at k)⟩
    refine ⟨hlv.b0, hal, ?_, ?_, ?_, ?_, ?_, ?_, ?_, ?_, ?_, ?_, ?_⟩ <;> (try intro k) <;> (try dsimp only at k) <;> (try dsimp only) <;> first | assumption | (exfalso; omega) | omega | (rw [hcl0]; rfl)
theorem aa_go (P : AaPre t s ar base cb ws F g L TD V j c) (bs : List Int) : AaPost t s ar base cb F g L TD V j (alStep c ws bs (V j)) := by
  obtain ⟨n0, n12, -⟩ := (P.h.lv j P.hj).al
  have hc : (V j).nx = 0 ∨ (V j).nx = 1 ∨ (V j).nx = 2 ∨ (V j).nx = 3 ∨ (V j).nx = 4 ∨ (V j).nx = 5 ∨ (V j).nx = 6 ∨ (V j).nx = 7 ∨ (V j).nx = 8 ∨ (V j).nx = 9 ∨ (V j).nx = 10 ∨ (V j).nx = 11 ∨ (V j).nx = 12 := by omega
  rcases hc with e | e | e | e | e | e | e | e | e | e | e | e | e
  · exact aa_0 P e bs
  · exact aa_1 P e bs
  · exact aa_2 P e bs
  · exact aa_3 P e bs
  · exact aa_4 P e bs
  · exact aa_5 P e bs
  · exact aa_6 P e bs
  · exact aa_7 P e bs
  · exact aa_8 P e bs
  · exact aa_9 P e bs
  · exact aa_10 P e bs
  · exact aa_11 P e bs
  · exact aa_12 P e bs
end
end Go.Proofs.Ytpebepjfgnoaaaa
