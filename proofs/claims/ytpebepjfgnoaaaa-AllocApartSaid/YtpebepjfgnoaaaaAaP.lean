/- Machines of alloc that step in any order: what stays, in numbers. -/
import Derived.Test.YtpebepjfgnoaaaaSaP2
import Derived.Test.YtpebepjfgnoaaaaAlT
namespace Go.Proofs.Ytpebepjfgnoaaaa
set_option linter.unusedVariables false
set_option linter.unusedSimpArgs false
open Go.RowKit
def ent (t x : Int) : Int := 4 + t + 3 * x
def aHold (v : AlV) : Bool := decide (v.nx = 4 ∨ v.nx = 5 ∨ (7 ≤ v.nx ∧ v.nx ≤ 10) ∨ ((v.nx = 11 ∨ v.nx = 12) ∧ v.kp = 0))
def aHd (v : AlV) : List Int := if aHold v = true then [v.sl] else []
def aOne (v : AlV) : List Int := if 3 ≤ v.nx ∧ v.nx ≤ 12 then [0] else []
def aQ (g : StV) : SaQ := ⟨0, g.nx, g.sl, g.wd, g.tw⟩
def aPr (v : AlV) : SaM := ⟨⟨0, if v.nx = 3 then v.p.nx else 1, v.p.sl, v.p.wd, v.p.tw⟩, if v.nx = 6 then v.gv.map aQ else none⟩
def flat4 (E : Nat → List Int) : List Int := (fam E 4).flatten
theorem flat4_split (E : Nat → List Int) {j : Nat} (hj : j < 4) : ∃ R, (flat4 E).Perm (E j ++ R) ∧ ∀ l, (flat4 (upd E j l)).Perm (l ++ R) := by
  have hp := perm_erase (fam E 4) j (E j) (fam_get _ hj)
  refine ⟨((fam E 4).eraseIdx j).flatten, ?_, fun l => ?_⟩
  · have := hp.flatten
    rw [List.flatten_cons] at this
    exact this
  · unfold flat4
    rw [← fam_set]
    have hq := perm_erase ((fam E 4).set j l) j l (List.getElem?_set_self (by rw [fam_len]; exact hj))
    rw [erase_set] at hq
    have := hq.flatten
    rw [List.flatten_cons] at this
    exact this
def held (V : Nat → AlV) : List Int := flat4 fun j => aHd (V j)
def cnt (V : Nat → AlV) : Int := ((flat4 fun j => aOne (V j)).length : Int)
theorem held_split (V : Nat → AlV) {j : Nat} (hj : j < 4) : ∃ R, (held V).Perm (aHd (V j) ++ R) ∧ ∀ v, (held (upd V j v)).Perm (aHd v ++ R) := by
  obtain ⟨R, h1, h2⟩ := flat4_split (fun j => aHd (V j)) hj
  refine ⟨R, h1, fun v => ?_⟩
  have e : (fun i => aHd (upd V j v i)) = upd (fun i => aHd (V i)) j (aHd v) := by funext i; unfold upd; split <;> rfl
  unfold held; rw [e]; exact h2 _
theorem cnt_upd (V : Nat → AlV) {j : Nat} (hj : j < 4) (v : AlV) : cnt (upd V j v) = cnt V - (aOne (V j)).length + (aOne v).length := by
  obtain ⟨R, h1, h2⟩ := flat4_split (fun j => aOne (V j)) hj
  have e : (fun i => aOne (upd V j v i)) = upd (fun i => aOne (V i)) j (aOne v) := by funext i; unfold upd; split <;> rfl
  unfold cnt
  rw [e, (h2 _).length_eq, h1.length_eq, List.length_append, List.length_append]
  omega
theorem cnt_bd (V : Nat → AlV) : 0 ≤ cnt V ∧ cnt V ≤ 4 := by
  have h : ∀ n, ((fam (fun j => aOne (V j)) n).flatten).length ≤ n := by
    intro n
    induction n with
    | zero => simp [fam]
    | succ n ih =>
      have : fam (fun j => aOne (V j)) (n + 1) = fam (fun j => aOne (V j)) n ++ [aOne (V n)] := by unfold fam; rw [List.range_succ, List.map_append]; rfl
      rw [this, List.flatten_append, List.length_append]
      have : (aOne (V n)).length ≤ 1 := by unfold aOne; split <;> simp
      simp only [List.flatten_cons, List.flatten_nil, List.append_nil]; omega
  unfold cnt flat4
  have := h 4
  omega
structure LV (ar by' : Int) (v : AlV) : Prop where
  b0 : 0 ≤ by' ∧ by' ≤ 256
  al : AlIn v
  kp : v.nx ≤ 5 ∨ (7 ≤ v.nx ∧ v.nx ≤ 10) → v.kp = 0
  k6 : v.nx = 6 → v.kp = 10
  p1 : v.nx ≤ 2 → v.p.nx = 1
  bb : 2 ≤ v.nx → 1 ≤ by'
  ff : v.nx = 5 → 0 ≤ v.f ∧ v.f ≤ ar - by'
  aa : v.nx ≤ 6 → v.a = 0
  a7 : v.nx = 7 → 0 ≤ v.a ∧ v.a < by'
  gn : 10 ≤ v.nx → v.kp = 0 → v.gen = 0
  gs : v.nx = 6 → ∀ g, v.gv = some g → g.sl = v.sl
  cl : v.cl = decide (7 ≤ v.nx ∧ v.nx ≤ 10)
  wd : v.nx = 10 → I64 v.wd
def Fresh (v : AlV) : Prop := (v.nx = 0 ∨ v.nx = 1) ∧ v.kp = 0 ∧ v.p.nx = 1 ∧ v.gv = none ∧ v.a = 0 ∧ v.cl = false
theorem Fresh.lv {ar b : Int} {v : AlV} (h : Fresh v) (hb : 0 ≤ b ∧ b ≤ 256) : LV ar b v := by
  obtain ⟨h1, h2, h3, h4, h5, h6⟩ := h
  refine ⟨hb, AlIn_none v h4 (by omega) (by omega), fun _ => h2, fun k => by omega, fun _ => h3, fun k => by omega, fun k => by omega, fun _ => h5, fun k => by omega, fun k => by omega, fun k => by omega, ?_, fun k => by omega⟩
  rw [h6]; symm; rw [decide_eq_false_iff_not]; omega
structure AaInv (t s ar : Int) (base : List Int) (cb : Nat → Int) (ws : List Int) (F g : Int) (L TD : List Int) (V : Nat → AlV) : Prop where
  sa : SaInv t s base ws g L (TD ++ held V) (fun j => aPr (V j))
  fr : wAt ws 0 = F
  f0 : 0 ≤ F ∧ F ≤ ar
  pd : wAt ws 2 = cnt V
  en : ∀ x, 0 ≤ x → x < s → x ∉ TD → (∀ j, j < 4 → aHold (V j) = true → 11 ≤ (V j).nx → x ≠ (V j).sl) → wAt ws (ent t x) = 0
  lv : ∀ j, j < 4 → LV ar (cb j) (V j)
theorem SaInv.permT {t s g : Int} {base ws L T T' : List Int} {Q : Nat → SaM} (h : SaInv t s base ws g L T Q) (hp : T.Perm T') : SaInv t s base ws g L T' Q :=
  ⟨h.len, h.ok, h.cur, h.g0, h.chain, ((List.Perm.append_right _ (List.Perm.append_left L hp)).symm).trans h.part, h.pops, h.pushes⟩
/-- a word that is neither the stack's nor a link. -/
theorem SaInv.putK {t s g : Int} {base ws L T : List Int} {Q : Nat → SaM} (hb : Base s base) (h : SaInv t s base ws g L T Q) {k v : Int} (h1 : k ≠ 1) (h2 : ∀ x, 0 ≤ x → x < s → lnk t x ≠ k) (hv : I64 v) : SaInv t s base (wPut ws k v) g L T Q := by
  refine ⟨by rw [wPut_len]; exact h.len, wPut_okI h.ok _ hv, by rw [wAt_put_ne (fun e => h1 e.symm)]; exact h.cur, h.g0, h.chain.put (fun x hx => ?_), h.part, h.pops, ?_⟩
  · have := h.bdL hb x hx
    exact h2 x this.1 this.2
  · intro i hi q hq
    have := h.bdU hb _ (h.slot hb hi hq)
    exact (h.pushes i hi q hq).put (wAt_put_ne (h2 _ this.1 this.2))
theorem popStep_ws {t s nx sl wd tw : Int} {ws : List Int} {r : StepR} (t1 : 1 ≤ t) (h : popStep t s ws nx sl wd tw = r) : r.ws = ws ∨ ∃ v, r.ws = wPut ws 1 v := by
  have e1 : lOnce t 1 = 1 := by unfold lOnce; rw [if_neg (by omega)]
  subst h
  unfold popStep
  rw [e1]
  split
  · split
    · split <;> exact .inl rfl
    · exact .inl rfl
  · split
    · split <;> exact .inl rfl
    · split
      · split
        · rename_i hc; right; exact ⟨tw, by show wCasPut ws 1 wd tw = _; unfold wCasPut; rw [if_pos hc]⟩
        · exact .inl rfl
      · exact .inl rfl
theorem pushStep_ws {t s nx sl wd tw : Int} {ws : List Int} {r : StepR} (t1 : 1 ≤ t) (h : pushStep t s ws nx sl wd tw = r) : r.ws = ws ∨ ∃ k v, r.ws = wPut ws k v ∧ (k = 1 ∨ k = lOf t s sl 2) := by
  have e1 : lOnce t 1 = 1 := by unfold lOnce; rw [if_neg (by omega)]
  subst h
  unfold pushStep
  rw [e1]
  split
  · split
    · exact .inl rfl
    · split <;> exact .inl rfl
  · split
    · exact .inr ⟨_, _, rfl, .inr rfl⟩
    · split
      · split
        · rename_i hc; right; exact ⟨1, tw, by show wCasPut ws 1 wd tw = _; unfold wCasPut; rw [if_pos hc], .inl rfl⟩
        · exact .inl rfl
      · exact .inl rfl
section
variable {t s ar : Int} {base : List Int} {cb : Nat → Int} {ws : List Int} {F g : Int} {L TD : List Int} {V : Nat → AlV} {j : Nat}
theorem AaInv.step (h : AaInv t s ar base cb ws F g L TD V) (hj : j < 4) (v' : AlV) (b' : Int) {ws' L' TD' T' : List Int} {F' g' : Int} (sa' : SaInv t s base ws' g' L' T' (upd (fun i => aPr (V i)) j (aPr v'))) (hT : ∀ R, (held V).Perm (aHd (V j) ++ R) → (held (upd V j v')).Perm (aHd v' ++ R) → T'.Perm (TD' ++ held (upd V j v')))
    (fr' : wAt ws' 0 = F') (f0' : 0 ≤ F' ∧ F' ≤ ar) (pd' : wAt ws' 2 = cnt V - (aOne (V j)).length + (aOne v').length)
    (en' : ∀ x, 0 ≤ x → x < s → x ∉ TD' → (aHold v' = true → 11 ≤ v'.nx → x ≠ v'.sl) → (∀ i, i < 4 → i ≠ j → aHold (V i) = true → 11 ≤ (V i).nx → x ≠ (V i).sl) → wAt ws' (ent t x) = 0) (lv' : LV ar b' v') : AaInv t s ar base (upd cb j b') ws' F' g' L' TD' (upd V j v') := by
  obtain ⟨R, h1, h2⟩ := held_split V hj
  refine ⟨?_, fr', f0', by rw [cnt_upd V hj]; exact pd', ?_, ?_⟩
  · have e : (fun i => aPr (upd V j v' i)) = upd (fun i => aPr (V i)) j (aPr v') := by funext i; unfold upd; split <;> rfl
    rw [e]
    exact sa'.permT (hT R h1 (h2 v'))
  · intro x x0 x1 hx hh
    refine en' x x0 x1 hx (fun a b => ?_) (fun i hi hne a b => ?_)
    · have := hh j hj; rw [upd_same] at this; exact this a b
    · have := hh i hi; rw [upd_ne _ _ hne] at this; exact this a b
  · intro i hi
    unfold upd
    split
    · exact lv'
    · exact h.lv i hi
/-- what a step that leaves the slots where they are needs. -/
theorem AaInv.stay (h : AaInv t s ar base cb ws F g L TD V) (hj : j < 4) (v' : AlV) (b' : Int) {ws' : List Int} {F' : Int} (sa' : SaInv t s base ws' g L (TD ++ held V) (upd (fun i => aPr (V i)) j (aPr v'))) (hH : aHd v' = aHd (V j))
    (fr' : wAt ws' 0 = F') (f0' : 0 ≤ F' ∧ F' ≤ ar) (pd' : wAt ws' 2 = cnt V - (aOne (V j)).length + (aOne v').length) (hE : ∀ x, 0 ≤ x → x < s → wAt ws' (ent t x) = wAt ws (ent t x)) (hO : aHold (V j) = true → 11 ≤ (V j).nx → aHold v' = true ∧ 11 ≤ v'.nx ∧ v'.sl = (V j).sl)
    (lv' : LV ar b' v') : AaInv t s ar base (upd cb j b') ws' F' g L TD (upd V j v') := by
  refine h.step hj v' b' sa' (fun R h1 h2 => ?_) fr' f0' pd' ?_ lv'
  · exact List.Perm.append_left TD (h1.trans (by rw [← hH]; exact h2.symm))
  · intro x x0 x1 hx ha hb
    rw [hE x x0 x1]
    refine h.en x x0 x1 hx (fun i hi k1 k2 => ?_)
    by_cases e : i = j
    · subst e
      obtain ⟨a1, a2, a3⟩ := hO k1 k2
      have := ha a1 a2
      rw [a3] at this; exact this
    · exact hb i hi e k1 k2
end
end Go.Proofs.Ytpebepjfgnoaaaa
