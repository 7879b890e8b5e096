/- Machines of alloc that step in any order: a step. -/
import Derived.Test.YtpebepjfgnoaaaaAaP
namespace Go.Proofs.Ytpebepjfgnoaaaa
set_option linter.unusedVariables false
set_option linter.unusedSimpArgs false
open Go.RowKit
theorem upd_self {α : Type} (E : Nat → α) (j : Nat) : upd E j (E j) = E := by funext i; unfold upd; split <;> simp_all
theorem wrap_id {x : Int} (h : -9223372036854775808 ≤ x) (h' : x ≤ 9223372036854775807) : wrap64 x = x := by unfold wrap64; omega
section
variable {t s ar : Int} {base : List Int} {cb : Nat → Int} {ws : List Int} {F g : Int} {L TD : List Int} {V : Nat → AlV} {j : Nat}
theorem held_mem (hj : j < 4) (hh : aHold (V j) = true) : (V j).sl ∈ held V := by
  obtain ⟨R, h1, -⟩ := held_split V hj
  exact h1.mem_iff.2 (by unfold aHd; rw [if_pos hh]; simp)
theorem AaInv.slotT (hb : Base s base) (h : AaInv t s ar base cb ws F g L TD V) (hj : j < 4) (hh : aHold (V j) = true) : (0 ≤ (V j).sl ∧ (V j).sl < s) ∧ (V j).sl ∉ TD ∧ ∀ i, i < 4 → i ≠ j → aHold (V i) = true → (V j).sl ≠ (V i).sl := by
  have hm := held_mem hj hh
  have hn := h.sa.nodup hb
  rw [List.nodup_append, List.nodup_append, List.nodup_append] at hn
  refine ⟨h.sa.bdT hb _ (by simp [hm]), fun hx => hn.1.2.1.2.2 _ hx _ hm rfl, ?_⟩
  intro i hi hne hhi e
  obtain ⟨R, h1, h2⟩ := held_split V hj
  have hu := h1.nodup_iff.1 hn.1.2.1.2.1
  rw [show aHd (V j) = [(V j).sl] by unfold aHd; rw [if_pos hh], List.singleton_append, List.nodup_cons] at hu
  have v0 : AlV := ⟨0, 0, 0, 0, 0, 0, 0, 0, false, ⟨1, 0, 0, 0⟩, none⟩
  have k := h2 ⟨0, 0, 0, 0, 0, 0, 0, 0, false, ⟨1, 0, 0, 0⟩, none⟩
  have k2 : (V i).sl ∈ held (upd V j ⟨0, 0, 0, 0, 0, 0, 0, 0, false, ⟨1, 0, 0, 0⟩, none⟩) := by
    have := held_mem (V := upd V j ⟨0, 0, 0, 0, 0, 0, 0, 0, false, ⟨1, 0, 0, 0⟩, none⟩) hi (by rw [upd_ne _ _ hne]; exact hhi)
    rwa [upd_ne _ _ hne] at this
  have k3 := k.mem_iff.1 k2
  rw [show aHd (⟨0, 0, 0, 0, 0, 0, 0, 0, false, ⟨1, 0, 0, 0⟩, none⟩ : AlV) = [] by rfl, List.nil_append] at k3
  exact hu.1 (e ▸ k3)
theorem aPr_q {v : AlV} (h : v.nx ≠ 6) : (aPr v).q = none := by unfold aPr; rw [if_neg h]
theorem aPr_p {v : AlV} (h : v.nx ≠ 3) : (aPr v).p.nx = 1 := by unfold aPr; rw [if_neg h]
/-- a machine that neither takes nor gives, before and after. -/
theorem AaInv.sa0 (hb : Base s base) {ws' : List Int} {T : List Int} {g : Int} {L : List Int} (h : SaInv t s base ws' g L T (fun i => aPr (V i))) (hj : j < 4) (v' : AlV) (h1 : (V j).nx ≠ 6) (h2 : v'.nx ≠ 6) (h3 : v'.nx ≠ 3 ∨ v'.p.nx = 1) : SaInv t s base ws' g L T (upd (fun i => aPr (V i)) j (aPr v')) := by
  refine h.fresh hb hj (aPr v') ?_ (aPr_q h2) (aPr_q h1)
  unfold aPr
  rcases h3 with h3 | h3
  · simp [h3]
  · simp [h3]
structure AaNext (t s ar : Int) (base : List Int) (cb : Nat → Int) (F g : Int) (TD : List Int) (V : Nat → AlV) (j : Nat) (ws' : List Int) (v' : AlV) : Prop where
  out : ∃ F' g' L', AaInv t s ar base cb ws' F' g' L' TD (upd V j v') ∧ g' ≤ g + 1 ∧ ((v'.cl = true ∧ (V j).cl = false ∧ F' = F + cb j ∧ v'.f = F ∧ 1 ≤ cb j) ∨ (F' = F ∧ (v'.cl = true → (V j).cl = true)))
structure AaEnd (t s ar : Int) (base : List Int) (cb : Nat → Int) (F g : Int) (L TD : List Int) (V : Nat → AlV) (j : Nat) (ws' : List Int) (code rn : Int) (cl : Bool) : Prop where
  cl : cl = false
  out : ∃ TD', ((code = 0 ∧ ∃ sl, rn = (hMake sl 0).1 ∧ 0 ≤ sl ∧ sl < s ∧ sl ∉ TD ∧ TD' = TD ++ [sl]) ∨ (code ≠ 0 ∧ TD' = TD)) ∧ ∀ v' b', Fresh v' → (0 ≤ b' ∧ b' ≤ 256) → AaInv t s ar base (upd cb j b') ws' F g L TD' (upd V j v')
def AaPost (t s ar : Int) (base : List Int) (cb : Nat → Int) (F g : Int) (L TD : List Int) (V : Nat → AlV) (j : Nat) (q : AlR) : Prop :=
  (q.done = false → AaNext t s ar base cb F g TD V j q.ws q.v) ∧ (q.done = true → AaEnd t s ar base cb F g L TD V j q.ws q.code q.rn q.v.cl)
variable (hb : Base s base) (t1 : 1 ≤ t) (s64 : s ≤ 64) (hg : g ≤ 900000) (har : ar ≤ 4096) (h : AaInv t s ar base cb ws F g L TD V) (hj : j < 4)
include hb h hj
theorem aa_next {ws' : List Int} {F' g' : Int} {L' : List Int} {v' : AlV} (k : AaInv t s ar base (upd cb j (cb j)) ws' F' g' L' TD (upd V j v')) (hg' : g' ≤ g + 1) (hc : (v'.cl = true ∧ (V j).cl = false ∧ F' = F + cb j ∧ v'.f = F ∧ 1 ≤ cb j) ∨ (F' = F ∧ (v'.cl = true → (V j).cl = true))) : AaNext t s ar base cb F g TD V j ws' v' := by
  have _u := And.intro hb (And.intro h hj)
  rw [upd_self] at k
  exact ⟨_, _, _, k, hg', hc⟩
/-- a machine that has ended, where none of its things are left. -/
theorem aa_end {ws' : List Int} {code rn : Int} {TD' : List Int} (hx6 : (V j).nx ≠ 6) (sa' : ∀ v', Fresh v' → SaInv t s base ws' g L (TD ++ held V) (upd (fun i => aPr (V i)) j (aPr v'))) (hcode : (code = 0 ∧ ∃ sl, rn = (hMake sl 0).1 ∧ 0 ≤ sl ∧ sl < s ∧ sl ∉ TD ∧ TD' = TD ++ [sl]) ∨ (code ≠ 0 ∧ TD' = TD))
    (hT : TD' = TD ++ aHd (V j)) (fr' : wAt ws' 0 = F) (pd' : wAt ws' 2 = cnt V - (aOne (V j)).length) (hE : ∀ x, 0 ≤ x → x < s → wAt ws' (ent t x) = wAt ws (ent t x)) :
    AaEnd t s ar base cb F g L TD V j ws' code rn false := by
  have _u := And.intro hb hx6
  refine ⟨rfl, TD', hcode, fun v' b' hf hb' => ?_⟩
  have e1 : aHd v' = [] := by unfold aHd aHold; rw [if_neg]; rw [decide_eq_true_eq]; obtain ⟨k, -⟩ := hf; omega
  have e2 : aOne v' = [] := by unfold aOne; rw [if_neg]; obtain ⟨k, -⟩ := hf; omega
  have e3 : aHold v' = false := by unfold aHold; rw [decide_eq_false_iff_not]; obtain ⟨k, -⟩ := hf; omega
  refine h.step hj v' b' (sa' v' hf) (fun R h1 h2 => ?_) fr' h.f0 (by rw [pd', e2]; simp) ?_ (hf.lv hb')
  · rw [hT, List.append_assoc]
    refine List.Perm.append_left TD (h1.trans ?_)
    refine List.Perm.append_left _ ?_
    rw [e1] at h2
    exact h2.symm
  · intro x x0 x1 hx ha hh
    rw [hE x x0 x1]
    refine h.en x x0 x1 (fun k => hx (by rw [hT]; simp [k])) (fun i hi k1 k2 => ?_)
    by_cases e : i = j
    · subst e
      intro ee
      exact hx (by rw [hT]; unfold aHd; rw [if_pos k1, ee]; simp)
    · exact hh i hi e k1 k2
end
end Go.Proofs.Ytpebepjfgnoaaaa
