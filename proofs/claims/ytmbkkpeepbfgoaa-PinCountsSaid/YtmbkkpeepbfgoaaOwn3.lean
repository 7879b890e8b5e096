/- Families of groups: machines in an array. -/
import Derived.Test.YtmbkkpeepbfgoaaOwn2
namespace Go.Proofs.Ytmbkkpeepbfgoaa
set_option linter.unusedVariables false
set_option linter.unusedSimpArgs false
open Go.RowKit
def upd {α : Type} (E : Nat → α) (t : Nat) (g : α) : Nat → α := fun j => if j = t then g else E j
theorem upd_same {α : Type} (E : Nat → α) (t : Nat) (g : α) : upd E t g t = g := if_pos rfl
theorem upd_ne {α : Type} (E : Nat → α) {t j : Nat} (g : α) (h : j ≠ t) : upd E t g j = E j := if_neg h
def fam {α : Type} (E : Nat → α) (n : Nat) : List α := (List.range n).map E
theorem fam_len {α : Type} (E : Nat → α) (n : Nat) : (fam E n).length = n := by simp [fam]
theorem fam_get {α : Type} (E : Nat → α) {n t : Nat} (h : t < n) : (fam E n)[t]? = some (E t) := by simp [fam, h]
theorem fam_set {α : Type} (E : Nat → α) (n t : Nat) (g : α) : (fam E n).set t g = fam (upd E t g) n := by
  apply List.ext_getElem?
  intro j
  rw [List.getElem?_set]
  by_cases hj : j < n
  · rw [fam_get _ hj, fam_len]
    by_cases e : t = j
    · subst e; rw [fam_get _ hj]; simp [upd, hj]
    · have e' : ¬ j = t := fun h => e h.symm
      simp [upd, e, e', fam_get _ hj]
  · have h1 : (fam (upd E t g) n)[j]? = none := List.getElem?_eq_none (by rw [fam_len]; omega)
    have h2 : (fam E n)[j]? = none := List.getElem?_eq_none (by rw [fam_len]; omega)
    rw [h1, h2]
    split
    · rename_i e; subst e; rw [fam_len, if_neg hj]
    · rfl
/-- cells in a row, by place. -/
def rowA (P : Nat → Value) (n : Nat) : Array Value := (fam P n).toArray
theorem rowA_get (P : Nat → Value) {n t : Nat} (h : t < n) : (rowA P n)[t]? = some (P t) := by simp [rowA, fam_get P h]
theorem rowA_set (P : Nat → Value) (n t : Nat) (v : Value) : (rowA P n).setIfInBounds t v = rowA (upd P t v) n := by
  unfold rowA; rw [List.setIfInBounds_toArray, fam_set]
theorem set_perm {α : Type} : ∀ (G : List α) (i : Nat) (g : α), ∃ M L : List α, (g :: G).Perm M ∧ L.Sublist M ∧ L.Perm (G.set i g)
  | [], i, g => ⟨[g], [], List.Perm.refl _, List.nil_sublist _, by simp⟩
  | a :: G, 0, g => ⟨g :: a :: G, g :: G, List.Perm.refl _, (List.sublist_cons_self a G).cons_cons g, by simp⟩
  | a :: G, i + 1, g => by
    obtain ⟨M, L, h1, h2, h3⟩ := set_perm G i g
    refine ⟨a :: M, a :: L, (List.Perm.swap a g G).trans (h1.cons a), h2.cons_cons a, ?_⟩
    rw [List.set_cons_succ]; exact h3.cons a
/-- a group that is new takes another's place. -/
theorem Owns.place {B : Nat} {W w : World} {G : List Grp} {g : Grp} (h : Owns B W w (g :: G)) (i : Nat) : Owns B W w (G.set i g) := by
  obtain ⟨M, L, h1, h2, h3⟩ := set_perm G i g
  exact ((h.perm h1).sub h2).perm h3
/-- what a group held is given up. -/
theorem Owns.none {B : Nat} {W w : World} {G : List Grp} (h : Owns B W w G) (i : Nat) : Owns B W w (G.set i []) := by
  have e : ([] :: G : List Grp).flatten = G.flatten := by simp
  have h' : Owns B W w ([] :: G) := by unfold Owns; rw [e]; exact h
  exact h'.place i
theorem Owns.nil1 {B : Nat} {W w : World} {G : List Grp} (h : Owns B W w G) : Owns B W w ([] :: G) := by
  have e : ([] :: G : List Grp).flatten = G.flatten := by simp
  unfold Owns; rw [e]; exact h
theorem fam_nil_flat (n : Nat) : (fam (fun _ => ([] : Grp)) n).flatten = [] := by
  rw [List.flatten_eq_nil_iff]
  intro l hl
  obtain ⟨j, -, rfl⟩ := List.mem_map.1 hl
  rfl
theorem Owns.nils {B : Nat} {W w : World} {G : List Grp} (h : Owns B W w G) (n : Nat) : Owns B W w (G ++ fam (fun _ => []) n) := by
  have e : (G ++ fam (fun _ => ([] : Grp)) n).flatten = G.flatten := by rw [List.flatten_append, fam_nil_flat, List.append_nil]
  unfold Owns; rw [e]; exact h
end Go.Proofs.Ytmbkkpeepbfgoaa
