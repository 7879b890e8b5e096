/- Machines of alloc that step in any order: at first; a machine that runs alone ends. -/
import Derived.Test.YtpebepjfgnoaaaaAaP4
import Derived.Test.YtpebepjfgnoaaaaAlR
namespace Go.Proofs.Ytpebepjfgnoaaaa
set_option linter.unusedVariables false
set_option linter.unusedSimpArgs false
open Go.RowKit
theorem AaInv.first {t ar : Int} {s : Nat} (t1 : 1 ≤ t) (t4 : t ≤ 4) (s1 : 1 ≤ s) (s64 : s ≤ 64) (ha : 0 ≤ ar) (cb : Nat → Int) (hcb : ∀ j, 0 ≤ cb j ∧ cb j ≤ 256) (V : Nat → AlV) (hV : ∀ j, Fresh (V j)) : AaInv t s ar (upF 0 s) cb (initW t s) 0 0 (upF 0 s) [] V := by
  have hn : ∀ j, (V j).nx = 0 ∨ (V j).nx = 1 := fun j => (hV j).1
  have hh : held V = [] := by
    unfold held flat4
    rw [List.flatten_eq_nil_iff]
    intro l hl
    obtain ⟨j, -, rfl⟩ := List.mem_map.1 hl
    exact aHd_none (by have := hn j; omega)
  have hc : cnt V = 0 := by
    have : flat4 (fun j => aOne (V j)) = [] := by
      unfold flat4
      rw [List.flatten_eq_nil_iff]
      intro l hl
      obtain ⟨j, -, rfl⟩ := List.mem_map.1 hl
      unfold aOne; rw [if_neg (by have := hn j; omega)]
    unfold cnt; rw [this]; rfl
  have h0 := SaInv.first t1 t4 s1 s64 (fun j => aPr (V j)) (fun j => aPr_p (by have := hn j; omega)) (fun j => aPr_q (by have := hn j; omega))
  refine ⟨by rw [hh]; exact h0, ?_, ⟨Int.le_refl _, ha⟩, ?_, ?_, fun j _ => (hV j).lv (hcb j)⟩
  · rw [initW_at t1 0 (by omega) (by omega)]; unfold startAt linkAt; rw [if_neg (by decide), if_neg (by omega)]
  · rw [initW_at t1 2 (by omega) (by omega), hc]; unfold startAt linkAt; rw [if_neg (by decide), if_neg (by omega)]
  · intro x x0 x1 _ _
    rw [initW_at t1 (ent t x) (by unfold ent; omega) (by unfold ent; omega)]; unfold startAt linkAt ent; rw [if_neg (by omega), if_neg (by omega)]
def rkS (nx wd cur : Int) : Nat := if nx = 1 then 3 else if nx = 2 then (if wd = cur then 2 else 5) else if nx = 3 then (if wd = cur then 1 else 4) else 0
theorem rkS_bd (nx wd cur : Int) : rkS nx wd cur ≤ 5 := by unfold rkS; split <;> (try split) <;> (try split) <;> (try split) <;> omega
theorem pop_rk {t s nx sl wd tw : Int} {ws : List Int} {r : StepR} (t1 : 1 ≤ t) (hin : wIn ws 1 = true) (hn : nx = 1 ∨ nx = 2 ∨ nx = 3) (h : popStep t s ws nx sl wd tw = r) : (r.done = false → rkS r.nx r.wd (wAt r.ws 1) + 1 ≤ rkS nx wd (wAt ws 1)) ∧ 1 ≤ rkS nx wd (wAt ws 1) := by
  have e1 : lOnce t 1 = 1 := by unfold lOnce; rw [if_neg (by omega)]
  refine ⟨fun hd => ?_, ?_⟩
  · subst h
    unfold popStep at hd ⊢
    rw [e1] at hd ⊢
    rcases hn with rfl | rfl | rfl
    · rw [if_pos rfl] at hd ⊢
      split at hd
      · split at hd
        · cases hd
        · rename_i h1 h2; rw [if_pos h1, if_neg h2]; simp [rkS]
      · cases hd
    · rw [if_neg (by decide), if_pos rfl] at hd ⊢
      split at hd
      · rename_i h1; rw [if_pos h1]; simp only [rkS]; by_cases hk : wd = wAt ws 1 <;> simp [hk]
      · cases hd
    · rw [if_neg (by decide), if_neg (by decide), if_pos rfl] at hd ⊢
      split at hd
      · cases hd
      · rename_i h1
        rw [if_neg h1]
        have : wd ≠ wAt ws 1 := by
          intro e; apply h1; unfold wCas; rw [hin, e]; simp
        simp [rkS, this]
  · unfold rkS
    rcases hn with rfl | rfl | rfl
    · simp
    · simp; split <;> omega
    · simp; split <;> omega
theorem push_rk {t s nx sl wd tw : Int} {ws : List Int} {r : StepR} (t1 : 1 ≤ t) (hs : 0 ≤ sl ∧ sl < s) (hin : wIn ws 1 = true) (hn : nx = 1 ∨ nx = 2 ∨ nx = 3) (h : pushStep t s ws nx sl wd tw = r) : (r.done = false → rkS r.nx r.wd (wAt r.ws 1) + 1 ≤ rkS nx wd (wAt ws 1)) ∧ 1 ≤ rkS nx wd (wAt ws 1) := by
  have e1 : lOnce t 1 = 1 := by unfold lOnce; rw [if_neg (by omega)]
  have e2 : lOf t s sl 2 = lnk t sl := by unfold lOf lnk; rw [if_pos hs]
  refine ⟨fun hd => ?_, ?_⟩
  · subst h
    unfold pushStep at hd ⊢
    rw [e1, e2] at hd ⊢
    rcases hn with rfl | rfl | rfl
    · rw [if_pos rfl] at hd ⊢
      split at hd
      · cases hd
      · split at hd
        · rename_i h1 h2; rw [if_neg h1, if_pos h2]; simp [rkS]
        · cases hd
    · rw [if_neg (by decide), if_pos rfl]
      simp only [rkS]
      rw [wAt_put_ne (show (1 : Int) ≠ lnk t sl by unfold lnk; omega)]
      by_cases hk : wd = wAt ws 1 <;> simp [hk]
    · rw [if_neg (by decide), if_neg (by decide), if_pos rfl] at hd ⊢
      split at hd
      · cases hd
      · rename_i h1
        rw [if_neg h1]
        have : wd ≠ wAt ws 1 := by
          intro e; apply h1; unfold wCas; rw [hin, e]; simp
        simp [rkS, this]
  · unfold rkS
    rcases hn with rfl | rfl | rfl
    · simp
    · simp; split <;> omega
    · simp; split <;> omega
def pot (B : Int) (ws : List Int) (v : AlV) : Nat :=
  if v.nx = 1 then 12 + B.toNat
  else if v.nx = 2 then (if v.seen = wAt ws 2 then 11 + B.toNat else 13 + B.toNat)
  else if v.nx = 3 then rkS v.p.nx v.p.wd (wAt ws 1) + 7 + B.toNat
  else if v.nx = 4 then 7 + B.toNat
  else if v.nx = 5 then (if v.f = wAt ws 0 then 6 + B.toNat else 8 + B.toNat)
  else if v.nx = 6 then (match v.gv with | none => 3 | some g => rkS g.nx g.wd (wAt ws 1) + 2)
  else if v.nx = 7 then 5 + (B - v.a).toNat
  else if v.nx = 8 then 5
  else if v.nx = 9 then 4
  else if v.nx = 10 then 3
  else if v.nx = 11 then 2
  else if v.nx = 12 then (if v.seen = wAt ws 2 then 1 else 3)
  else 0
theorem pot_bd {B : Int} {ws : List Int} {v : AlV} (h : B ≤ 256) (h0 : v.nx = 7 → 0 ≤ v.a) : pot B ws v ≤ 400 := by
  unfold pot
  have := rkS_bd v.p.nx v.p.wd (wAt ws 1)
  have k : (match v.gv with | none => 3 | some g => rkS g.nx g.wd (wAt ws 1) + 2) ≤ 7 := by
    cases v.gv with
    | none => simp
    | some g => have := rkS_bd g.nx g.wd (wAt ws 1); simp only; omega
  by_cases h1 : v.nx = 1
  · rw [if_pos h1]; omega
  rw [if_neg h1]
  by_cases h2 : v.nx = 2
  · rw [if_pos h2]; split <;> omega
  rw [if_neg h2]
  by_cases h3 : v.nx = 3
  · rw [if_pos h3]; omega
  rw [if_neg h3]
  by_cases h4 : v.nx = 4
  · rw [if_pos h4]; omega
  rw [if_neg h4]
  by_cases h5 : v.nx = 5
  · rw [if_pos h5]; split <;> omega
  rw [if_neg h5]
  by_cases h6 : v.nx = 6
  · rw [if_pos h6]; omega
  rw [if_neg h6]
  by_cases h7 : v.nx = 7
  · rw [if_pos h7]; have := h0 h7; omega
  rw [if_neg h7]
  by_cases h8 : v.nx = 8
  · rw [if_pos h8]; omega
  rw [if_neg h8]
  by_cases h9 : v.nx = 9
  · rw [if_pos h9]; omega
  rw [if_neg h9]
  by_cases h10 : v.nx = 10
  · rw [if_pos h10]; omega
  rw [if_neg h10]
  by_cases h11 : v.nx = 11
  · rw [if_pos h11]; omega
  rw [if_neg h11]
  by_cases h12 : v.nx = 12
  · rw [if_pos h12]; split <;> omega
  rw [if_neg h12]
  omega
section
variable {t s ar : Int} {base : List Int} {cb : Nat → Int} {ws : List Int} {F g : Int} {L TD : List Int} {V : Nat → AlV} {j : Nat} {c : AlC}
theorem pot_step (P : AaPre t s ar base cb ws F g L TD V j c) (bs : List Int) (hd : (alStep c ws bs (V j)).done = false) : pot (cb j) (alStep c ws bs (V j)).ws (alStep c ws bs (V j)).v + 1 ≤ pot (cb j) ws (V j) := by
  obtain ⟨e0, e1, e2⟩ := P.e0
  have hlv := P.h.lv j P.hj
  obtain ⟨n0, n12, -⟩ := hlv.al
  have hin1 := P.win (k := 1) (by omega) (by have := P.t1; have := P.s1; omega)
  have hin2 := P.win (k := 2) (by omega) (by have := P.t1; have := P.s1; omega)
  have hin0 := P.win (k := 0) (by omega) (by have := P.t1; have := P.s1; omega)
  have hcb := P.cbj
  have hc : (V j).nx = 0 ∨ (V j).nx = 1 ∨ (V j).nx = 2 ∨ (V j).nx = 3 ∨ (V j).nx = 4 ∨ (V j).nx = 5 ∨ (V j).nx = 6 ∨ (V j).nx = 7 ∨ (V j).nx = 8 ∨ (V j).nx = 9 ∨ (V j).nx = 10 ∨ (V j).nx = 11 ∨ (V j).nx = 12 := by omega
  rcases hc with e | e | e | e | e | e | e | e | e | e | e | e | e
  · rw [als0 e] at hd; cases hd
  · rw [als1 e] at hd ⊢
    split at hd
    · cases hd
    · rename_i k; rw [if_neg k, e2]; simp [pot, e] <;> omega
  · rw [als2 e]
    unfold alPend
    rw [e2]
    split
    · rename_i k
      have hs : (V j).seen = wAt ws 2 := by unfold wCas at k; rw [Bool.and_eq_true] at k; exact (beq_iff_eq.1 k.2).symm
      have hp1 := hlv.p1 (by omega)
      have hk : rkS (V j).p.nx (V j).p.wd (wAt (wCasPut ws 2 (V j).seen (wrap64 ((V j).seen + 1))) 1) = 3 := by unfold rkS; rw [if_pos hp1]
      simp [pot, e, hs] at hk ⊢ <;> omega
    · rename_i k
      have hs : ¬ (V j).seen = wAt ws 2 := by intro h; apply k; unfold wCas; rw [hin2, h]; simp
      simp [pot, e, hs] <;> omega
  · rw [als3 e]
    unfold alTake
    obtain ⟨r, hr⟩ : ∃ r, popStep c.t c.s ws (V j).p.nx (V j).p.sl (V j).p.wd (V j).p.tw = r := ⟨_, rfl⟩
    rw [hr]
    have hpn : (V j).p.nx = 1 ∨ (V j).p.nx = 2 ∨ (V j).p.nx = 3 := by
      have := P.h.sa.pops j P.hj
      unfold popIn aPr at this
      simp only [e] at this
      rcases this with k | ⟨k, -⟩
      · exact .inl k
      · exact .inr k
    have hrk := pop_rk (by have := P.t1; have := P.ct; omega) hin1 hpn hr
    have hb := hlv.bb (by omega)
    dsimp only
    cases hdd : r.done
    · rw [if_neg (by decide)]
      have := hrk.1 hdd
      simp [pot, e] <;> omega
    · rw [if_pos rfl]
      have := hrk.2
      split
      · simp [pot, e] <;> omega
      · simp [pot, e] <;> omega
  · rw [als4 e, e0]
    unfold alFront
    have hb := hlv.bb (by omega)
    split
    · simp [pot, e, rkS] <;> omega
    · simp [pot, e] <;> omega
  · rw [als5 e, e0]
    have hb := hlv.bb (by omega)
    have ha := hlv.aa (by omega)
    split
    · rename_i k
      have hs : (V j).f = wAt ws 0 := by unfold wCas at k; rw [Bool.and_eq_true] at k; exact (beq_iff_eq.1 k.2).symm
      simp [pot, e, hs, ha] <;> omega
    · rename_i k
      have hs : ¬ (V j).f = wAt ws 0 := by intro h; apply k; unfold wCas; rw [hin0, h]; simp
      simp [pot, e, hs] <;> omega
  · rw [als6 e]
    obtain ⟨gq, hgq⟩ := (show ∃ g, (V j).gv = some g from hlv.al.2.2.2 e)
    have hq0 : (aPr (V j)).q = some (aQ gq) := by unfold aPr; rw [if_pos e, hgq]; rfl
    have hbd : 0 ≤ gq.sl ∧ gq.sl < s := P.h.sa.bdU P.hb _ (P.h.sa.slot P.hb P.hj hq0)
    have hpn : gq.nx = 1 ∨ gq.nx = 2 ∨ gq.nx = 3 := by
      rcases P.h.sa.pushes j P.hj _ hq0 with k | ⟨k, -⟩
      · exact .inl k
      · exact .inr k
    unfold alGive
    rw [hgq]
    dsimp only
    obtain ⟨r, hr⟩ : ∃ r, pushStep c.t c.s ws gq.nx gq.sl gq.wd gq.tw = r := ⟨_, rfl⟩
    rw [hr]
    have hrk := push_rk (by have := P.t1; have := P.ct; omega) (by rw [P.cs]; exact hbd) hin1 hpn hr
    cases hdd : r.done
    · rw [if_neg (by decide)]
      have := hrk.1 hdd
      simp [pot, e, hgq] <;> omega
    · rw [if_pos rfl]
      have := hrk.2
      simp [pot, e, hgq] <;> omega
  · rw [als7 e]
    have ha := hlv.a7 e
    have hb := hlv.b0
    rw [wrap_id (show -9223372036854775808 ≤ (V j).a + 1 by omega) (by omega), hcb]
    split
    · simp [pot, e] <;> omega
    · simp [pot, e] <;> omega
  · rw [als8 e]; simp [pot, e] <;> omega
  · rw [als9 e]; unfold alLook; split <;> (simp [pot, e] <;> omega)
  · rw [als10 e]; simp [pot, e] <;> omega
  · rw [als11 e, e2]; simp [pot, e] <;> omega
  · rw [als12 e] at hd ⊢
    unfold alPend at hd ⊢
    rw [e2] at hd ⊢
    by_cases kk : wCas ws 2 (V j).seen = true
    · rw [if_pos kk] at hd; simp at hd
    · have hs : ¬ (V j).seen = wAt ws 2 := by intro h; apply kk; unfold wCas; rw [hin2, h]; simp
      rw [if_neg kk]
      simp [pot, e, hs] <;> omega
end
theorem mRun_ends {σ : Type} {f : σ → σ × (Int × Int) × Bool} (I : σ → Prop) (p : σ → Nat) (J : σ → Prop) (hs : ∀ q, I q → (f q).2.2 = false → I (f q).1 ∧ p (f q).1 + 1 ≤ p q) (he : ∀ q, I q → (f q).2.2 = true → J (f q).1) (most : Nat) : ∀ (k : Nat) (q : σ), I q → p q < k → J (mRun f most k q).1
  | 0, q, _, h => by omega
  | k + 1, q, hI, h => by
    rw [mRun]
    cases hd : (f q).2.2
    · rw [if_neg (by decide)]
      have := hs q hI hd
      exact mRun_ends I p J hs he most k _ this.1 (by omega)
    · rw [if_pos rfl]
      exact he q hI hd
/-- a machine alone comes to its end. -/
theorem aa_run {t s ar : Int} {base : List Int} {cb : Nat → Int} {ws bs : List Int} {F g : Int} {L TD : List Int} {V : Nat → AlV} {j : Nat} {c : AlC} (P : AaPre t s ar base cb ws F g L TD V j c) (hg : g ≤ 800000) (v0 : AlV) (h0 : Fresh v0) :
    ∃ F' g' L' TD', g' ≤ g + 500 ∧ AaInv t s ar base cb (mRun (alF1 c) 1000 1000 ⟨ws, bs, V j⟩).1.ws F' g' L' TD' (upd V j v0) := by
  have hb256 := (P.h.lv j P.hj).b0
  have hp0 : pot (cb j) ws (V j) ≤ 400 := pot_bd hb256.2 (fun e => ((P.h.lv j P.hj).a7 e).1)
  refine mRun_ends (f := alF1 c) (fun q => ∃ F' g' L', AaInv t s ar base cb q.ws F' g' L' TD (upd V j q.v) ∧ g' + pot (cb j) q.ws q.v ≤ g + 400) (fun q => pot (cb j) q.ws q.v) (fun q => ∃ F' g' L' TD', g' ≤ g + 500 ∧ AaInv t s ar base cb q.ws F' g' L' TD' (upd V j v0)) ?_ ?_ 1000 1000 ⟨ws, bs, V j⟩ ⟨F, g, L, by rw [upd_self]; exact P.h, by dsimp only; omega⟩ (by dsimp only; omega)
  · rintro ⟨qw, qb, qv⟩ ⟨F', g', L', hI, hg'⟩ hd
    dsimp only at hI hg'
    have P' : AaPre t s ar base cb qw F' g' L' TD (upd V j qv) j c := ⟨P.hb, P.t1, P.s1, P.s64, by omega, P.har, hI, P.hj, P.ct, P.cs, P.ca, P.cbj, P.cn⟩
    have hgo := aa_go P' qb
    have hpt := pot_step P' qb
    rw [upd_same] at hgo hpt
    obtain ⟨F2, g2, L2, k, kg, -⟩ := (hgo.1 hd).out
    have e : upd (upd V j qv) j (alStep c qw qb qv).v = upd V j (alStep c qw qb qv).v := by funext i; unfold upd; split <;> rfl
    rw [e] at k
    have := hpt hd
    exact ⟨⟨F2, g2, L2, k, by show g2 + (pot (cb j) (alStep c qw qb qv).ws (alStep c qw qb qv).v : Nat) ≤ g + 400; omega⟩, this⟩
  · rintro ⟨qw, qb, qv⟩ ⟨F', g', L', hI, hg'⟩ hd
    dsimp only at hI hg'
    have P' : AaPre t s ar base cb qw F' g' L' TD (upd V j qv) j c := ⟨P.hb, P.t1, P.s1, P.s64, by omega, P.har, hI, P.hj, P.ct, P.cs, P.ca, P.cbj, P.cn⟩
    have hgo := aa_go P' qb
    rw [upd_same] at hgo
    obtain ⟨TD', -, hm⟩ := (hgo.2 hd).out
    have k := hm v0 (cb j) h0 hb256
    have e : upd (upd V j qv) j v0 = upd V j v0 := by funext i; unfold upd; split <;> rfl
    rw [e, upd_self] at k
    exact ⟨F', g', L', TD', by omega, k⟩
end Go.Proofs.Ytpebepjfgnoaaaa
