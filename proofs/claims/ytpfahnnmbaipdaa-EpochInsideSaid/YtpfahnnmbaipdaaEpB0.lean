/- The epoch law EpochInside, in numbers. -/
import Derived.Test.YtpfahnnmbaipdaaEpA0
import Derived.Test.YtpfahnnmbaipdaaOwn3
namespace Go.Proofs.Ytpfahnnmbaipdaa
set_option linter.unusedVariables false
set_option linter.unusedSimpArgs false
open Go.RowKit
def wantL (I : Nat → Bool) : Nat → List Int
  | 0 => []
  | k + 1 => if I k = true then wantL I k ++ [(k : Int)] else wantL I k
theorem wantL_len (I : Nat → Bool) : ∀ k, (wantL I k).length ≤ k
  | 0 => by simp [wantL]
  | k + 1 => by
    unfold wantL; split
    · simp; exact wantL_len I k
    · exact Nat.le_succ_of_le (wantL_len I k)
def noteB (I : Nat → Bool) (j : Nat) : Int := if I j = true then 1 else 0
def bSt (t : Int) (ws : List Int) (I : Nat → Bool) : Prop := EpSt t ws 0 (noteB I) ∧ ∀ j : Nat, t ≤ j → I j = false
/-- who is inside behind an op of a thread. -/
def bNext (t th : Int) (b : Bool) (I : Nat → Bool) : Nat → Bool := if 0 ≤ th ∧ th < t then upd I th.toNat b else I
theorem bSt.init {t s : Int} (h1 : 1 ≤ t) (h4 : t ≤ 4) (s1 : 1 ≤ s) (s4 : s ≤ 64) : bSt t (initW t s) (fun _ => false) :=
  ⟨(EpSt.init h1 h4 s1 s4).same 0 _ (fun j _ => by simp [noteB]), fun _ _ => rfl⟩
theorem bSt.enter {t th : Int} {ws : List Int} {I : Nat → Bool} (h : bSt t ws I) : bSt t (enterW t ws th) (bNext t th true I) := by
  refine ⟨(h.1.enter (Int.le_refl _) (by omega) th).same 0 _ (fun j hj => ?_), fun j hj => ?_⟩
  · unfold noteB bNext
    by_cases e : (j : Int) = th
    · subst e; simp [hj, upd_same]
    · rw [if_neg e]
      split
      · rw [upd_ne _ _ (by omega)]
      · rfl
  · unfold bNext
    split
    · rw [upd_ne _ _ (by omega)]; exact h.2 j hj
    · exact h.2 j hj
theorem bSt.exit {t th : Int} {ws : List Int} {I : Nat → Bool} (h : bSt t ws I) : bSt t (exitW t ws th) (bNext t th false I) := by
  refine ⟨(h.1.exit th).same 0 _ (fun j hj => ?_), fun j hj => ?_⟩
  · unfold noteB bNext
    by_cases e : (j : Int) = th
    · subst e; simp [hj, upd_same]
    · rw [if_neg e]
      split
      · rw [upd_ne _ _ (by omega)]
      · rfl
  · unfold bNext
    split
    · rw [upd_ne _ _ (by omega)]; exact h.2 j hj
    · exact h.2 j hj
theorem bSt.inside {t : Int} {ws : List Int} {I : Nat → Bool} (h : bSt t ws I) (h4 : t ≤ 4) : inL ws t.toNat = wantL I 4 := by
  have h1 : ∀ k : Nat, (k : Int) ≤ t → inL ws k = wantL I k := by
    intro k
    induction k with
    | zero => intro _; rfl
    | succ k ih =>
      intro hk
      rw [inL, wantL, ih (by omega), h.1.2.2.2.2.2 k (by omega)]
      unfold noteB
      cases hI : I k <;> simp
  have h2 : ∀ d k : Nat, t ≤ k → wantL I (k + d) = wantL I k := by
    intro d
    induction d with
    | zero => intro k _; rfl
    | succ d ih => intro k hk; rw [← Nat.add_assoc, wantL, h.2 (k + d) (by omega), ih k hk]; simp
  by_cases ht : 0 ≤ t
  · rw [h1 _ (by omega)]
    have := h2 (4 - t.toNat) t.toNat (by omega)
    rw [show t.toNat + (4 - t.toNat) = 4 by omega] at this
    exact this.symm
  · have := h2 4 0 (by omega)
    rw [show 0 + 4 = 4 from rfl] at this
    rw [this, show t.toNat = 0 by omega]; rfl
theorem bPack {B : Nat} {W w : World} {g : Grp} {t : Int} {p bw bb nb : Nat} {ws bs : List Int} {m : Int} {I : Nat → Bool} (hB : bSt t ws I) (hO : Owns B W w [g, memG p bw bb ws bs m, [(nb, Obj.cells (rowA (fun j => Value.bool (I j)) 4) 4 (0, 0))]]) :
    ∃ ws2 I2 m2, bSt t ws2 I2 ∧ Owns B W w [g, memG p bw bb ws2 bs m2, [(nb, Obj.cells (rowA (fun j => Value.bool (I2 j)) 4) 4 (0, 0))], rowG 3 (.slice none 0 0) []] := ⟨ws, I, m, hB, hO.nil1.last⟩
theorem upd_bool (I : Nat → Bool) (q : Nat) (b : Bool) : upd (fun j => Value.bool (I j)) q (.bool b) = fun j => .bool (upd I q b j) := by
  funext j; unfold upd; split <;> rfl
theorem bNext_in {t : Int} {q : Nat} (b : Bool) (I : Nat → Bool) (h : (q : Int) < t) : bNext t q b I = upd I q b := by unfold bNext; rw [if_pos (by omega), Int.toNat_natCast]
theorem bNext_out {t th : Int} (b : Bool) (I : Nat → Bool) (h : ¬ (0 ≤ th ∧ th < t)) : bNext t th b I = I := by unfold bNext; rw [if_neg h]
end Go.Proofs.Ytpfahnnmbaipdaa
