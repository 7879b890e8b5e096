/- The epoch law EpochLeft, in numbers: what holds between its steps. -/
import Derived.Test.YtpfahnnmbaipdaaEpA0
import Derived.Test.YtpfahnnmbaipdaaOwn3
namespace Go.Proofs.Ytpfahnnmbaipdaa
set_option linter.unusedVariables false
set_option linter.unusedSimpArgs false
open Go.RowKit
/-- what holds of the epoch E, the notes N, the machines A that come in (each behind its look), the turn's step, its epoch, whom it asks, whether it has begun, and who is old. -/
def LInv (t E : Int) (N : Nat → Int) (A : Nat → Option Int) (nx ep ak : Int) (begun : Bool) (old : Nat → Bool) : Prop :=
  0 ≤ E ∧ (∀ j : Nat, (j : Int) < t → 0 ≤ N j ∧ N j ≤ E + 1) ∧ (∀ j : Nat, (j : Int) < t → ∀ q, A j = some q → N j = 0 ∧ 0 ≤ q ∧ q ≤ E) ∧
  (∀ j : Nat, old j = true → (j : Int) < t ∧ 0 < N j) ∧
  ((nx = 1 ∧ ep = 0 ∧ ak = 0 ∧ begun = false) ∨ (nx = 2 ∧ ep = E ∧ ak = 0 ∧ begun = true) ∨ (nx = 3 ∧ ep + 1 = E ∧ begun = true ∧ 0 ≤ ak ∧ ak < t ∧ ∀ j : Nat, old j = true → N j ≤ E ∧ ak ≤ j))
theorem LInv.init (t : Int) : LInv t 0 (fun _ => 0) (fun _ => none) 1 0 0 false (fun _ => false) :=
  ⟨by omega, fun j _ => by simp, fun j _ q h => by simp at h, fun j h => by simp at h, .inl ⟨rfl, rfl, rfl, rfl⟩⟩
section
variable {t E : Int} {N : Nat → Int} {A : Nat → Option Int} {nx ep ak : Int} {begun : Bool} {old : Nat → Bool} (h : LInv t E N A nx ep ak begun old)
include h
theorem LInv.look (k : Nat) (hk : (k : Int) < t) (h0 : N k = 0) : LInv t E N (upd A k (some E)) nx ep ak begun old := by
  obtain ⟨h1, h2, h3, h4, h5⟩ := h
  refine ⟨h1, h2, fun j hj q hq => ?_, h4, h5⟩
  by_cases e : j = k
  · subst e; rw [upd_same] at hq; cases hq; exact ⟨h0, h1, Int.le_refl _⟩
  · rw [upd_ne _ _ e] at hq; exact h3 j hj q hq
theorem LInv.put (k : Nat) (hk : (k : Int) < t) (q : Int) (hq : A k = some q) : LInv t E (fun j => if (j : Int) = k then q + 1 else N j) (upd A k none) nx ep ak begun old := by
  obtain ⟨h1, h2, h3, h4, h5⟩ := h
  obtain ⟨n0, q0, q1⟩ := h3 k hk q hq
  have ho : old k = false := by
    cases ho : old k with
    | false => rfl
    | true => have := (h4 k ho).2; omega
  have hne : ∀ j : Nat, old j = true → ¬ (j : Int) = k := fun j hj e => by
    have : j = k := by omega
    rw [this, ho] at hj; cases hj
  refine ⟨h1, fun j hj => ?_, fun j hj p hp => ?_, fun j hj => ?_, ?_⟩
  · by_cases e : (j : Int) = k
    · simp only [if_pos e]; omega
    · simp only [if_neg e]; exact h2 j hj
  · by_cases e : j = k
    · subst e; rw [upd_same] at hp; cases hp
    · rw [upd_ne _ _ e] at hp
      have := h3 j hj p hp
      have e' : ¬ (j : Int) = k := by omega
      simp only [if_neg e']; exact this
  · simp only [if_neg (hne j hj)]; exact h4 j hj
  · rcases h5 with h5 | h5 | ⟨c1, c2, c3, c4, c5, c6⟩
    · exact .inl h5
    · exact .inr (.inl h5)
    · exact .inr (.inr ⟨c1, c2, c3, c4, c5, fun j hj => by simp only [if_neg (hne j hj)]; exact c6 j hj⟩)
theorem LInv.exit (k : Nat) (hk : (k : Int) < t) : LInv t E (fun j => if (j : Int) = k then 0 else N j) A nx ep ak begun (upd old k false) := by
  obtain ⟨h1, h2, h3, h4, h5⟩ := h
  have hne : ∀ j : Nat, upd old k false j = true → ¬ (j : Int) = k ∧ old j = true := fun j hj => by
    by_cases e : j = k
    · subst e; rw [upd_same] at hj; cases hj
    · rw [upd_ne _ _ e] at hj; exact ⟨by omega, hj⟩
  refine ⟨h1, fun j hj => ?_, fun j hj p hp => ?_, fun j hj => ?_, ?_⟩
  · by_cases e : (j : Int) = k
    · simp only [if_pos e]; omega
    · simp only [if_neg e]; exact h2 j hj
  · by_cases e : (j : Int) = k
    · simp only [if_pos e]; exact ⟨trivial, (h3 j hj p hp).2⟩
    · simp only [if_neg e]; exact h3 j hj p hp
  · obtain ⟨e, ho⟩ := hne j hj
    simp only [if_neg e]; exact h4 j ho
  · rcases h5 with h5 | h5 | ⟨c1, c2, c3, c4, c5, c6⟩
    · exact .inl h5
    · exact .inr (.inl h5)
    · exact .inr (.inr ⟨c1, c2, c3, c4, c5, fun j hj => by obtain ⟨e, ho⟩ := hne j hj; simp only [if_neg e]; exact c6 j ho⟩)
theorem LInv.begin (hb : begun = false) : nx = 1 ∧ ep = 0 ∧ ak = 0 := by
  obtain ⟨-, -, -, -, h5⟩ := h
  rcases h5 with ⟨a, b, c, -⟩ | ⟨-, -, -, e⟩ | ⟨-, -, e, -⟩
  · exact ⟨a, b, c⟩
  · rw [hb] at e; cases e
  · rw [hb] at e; cases e
theorem LInv.starts (old' : Nat → Bool) (ho : ∀ j : Nat, old' j = true → (j : Int) < t ∧ 0 < N j) : LInv t E N A 2 E 0 true old' := by
  obtain ⟨h1, h2, h3, h4, h5⟩ := h
  exact ⟨h1, h2, h3, ho, .inr (.inl ⟨rfl, rfl, rfl, rfl⟩)⟩
theorem LInv.cases (hb : begun = true) : (nx = 2 ∧ ep = E ∧ ak = 0) ∨ (nx = 3 ∧ ep + 1 = E ∧ 0 ≤ ak ∧ ak < t) := by
  obtain ⟨-, -, -, -, h5⟩ := h
  rcases h5 with ⟨a, b, c, e⟩ | ⟨a, b, c, e⟩ | ⟨a, b, e, c, d, -⟩
  · rw [hb] at e; cases e
  · exact .inl ⟨a, b, c⟩
  · exact .inr ⟨a, b, c, d⟩
theorem LInv.swap (t1 : 1 ≤ t) (hn : nx = 2) (hb : begun = true) : LInv t (E + 1) N A 3 E 0 true old := by
  obtain ⟨h1, h2, h3, h4, h5⟩ := h
  have _u := And.intro hn hb
  refine ⟨by omega, fun j hj => by have := h2 j hj; omega, fun j hj q hq => by have := h3 j hj q hq; omega, h4, .inr (.inr ⟨rfl, rfl, rfl, by omega, by omega, fun j hj => ?_⟩)⟩
  have := h4 j hj; have := h2 j this.1; omega
theorem LInv.fresh : LInv t E N A 1 0 0 false old := by
  obtain ⟨h1, h2, h3, h4, h5⟩ := h
  exact ⟨h1, h2, h3, h4, .inl ⟨rfl, rfl, rfl, rfl⟩⟩
theorem LInv.asked (hn : nx = 3) (k : Nat) (hk : ak = k) (ho : dOlder (N k) E = false) : (∀ j : Nat, old j = true → ak + 1 ≤ j) ∧ (ak + 1 < t → LInv t E N A 3 ep (ak + 1) true old) ∧ (ak + 1 = t → ∀ j : Nat, old j = false) := by
  obtain ⟨h1, h2, h3, h4, h5⟩ := h
  rcases h5 with ⟨c1, -⟩ | ⟨c1, -⟩ | ⟨c1, c2, c3, c4, c5, c6⟩
  · omega
  · omega
  have key : ∀ j : Nat, old j = true → ak + 1 ≤ j := fun j hj => by
    have a := c6 j hj
    by_cases e : (j : Int) = ak
    · have hjk : j = k := by omega
      subst hjk
      have b := h4 j hj
      have : dOlder (N j) E = true := by unfold dOlder; rw [decide_eq_true_eq]; omega
      rw [this] at ho; cases ho
    · omega
  refine ⟨key, fun hl => ⟨h1, h2, h3, h4, .inr (.inr ⟨rfl, c2, rfl, by omega, hl, fun j hj => ⟨(c6 j hj).1, key j hj⟩⟩)⟩, fun he j => ?_⟩
  cases hj : old j with
  | false => rfl
  | true => have := key j hj; have := (h4 j hj).1; omega
end
end Go.Proofs.Ytpfahnnmbaipdaa
