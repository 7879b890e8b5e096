/- The epoch's words, as an epoch and notes. -/
import Derived.Test.YtpfahnnmbaipdaaEpL
import Derived.Test.YtpfahnnmbaipdaaStA0
namespace Go.Proofs.Ytpfahnnmbaipdaa
set_option linter.unusedVariables false
set_option linter.unusedSimpArgs false
open Go.RowKit
/-- words that say: the epoch is e, the notes are N. -/
def EpSt (t : Int) (ws : List Int) (e : Int) (N : Nat → Int) : Prop := 8 ≤ ws.length ∧ 4 + t ≤ ws.length ∧ ws.length ≤ 4096 ∧ WOk ws ∧ wAt ws 3 = e ∧ ∀ j : Nat, (j : Int) < t → wAt ws (4 + j) = N j
theorem wPut_ok {ws : List Int} (h : WOk ws) (k n : Int) : WOk (wPut ws k (wrap64 n)) := by
  unfold wPut
  split
  · intro x hx
    rcases List.mem_or_eq_of_mem_set hx with hx | hx
    · exact h x hx
    · subst hx; unfold wrap64; omega
  · exact h
theorem wPut_ok0 {ws : List Int} (h : WOk ws) (k : Int) : WOk (wPut ws k 0) := by
  have := wPut_ok h k 0; rwa [show wrap64 0 = 0 by unfold wrap64; rfl] at this
theorem initW_ok (t s : Int) (h1 : 1 ≤ t) (h4 : s ≤ 64) : WOk (initW t s) := by
  unfold initW startW setW
  intro x hx
  obtain ⟨j, -, rfl⟩ := List.mem_map.1 hx
  split
  · unfold startAt linkAt
    split
    · omega
    · split <;> omega
  · rw [List.getD_eq_getElem?_getD]
    cases h : (List.replicate (lWords t s).toNat (0 : Int))[j]? with
    | none => simp
    | some y => have := List.mem_of_getElem? h; rw [List.mem_replicate] at this; simp [this.2]
theorem EpSt.init {t s : Int} (h1 : 1 ≤ t) (h4 : t ≤ 4) (s1 : 1 ≤ s) (s4 : s ≤ 64) : EpSt t (initW t s) 0 (fun _ => 0) := by
  have hl : (initW t s).length = (4 + t + 3 * s).toNat := by rw [initW_len, lWords_ok h1]
  refine ⟨by omega, by omega, by omega, initW_ok t s h1 s4, ?_, fun j hj => ?_⟩
  · rw [initW_at h1 3 (by omega) (by omega)]; unfold startAt linkAt; rw [if_neg (by omega), if_neg (by omega)]
  · rw [initW_at h1 _ (by omega) (by omega)]; unfold startAt linkAt; rw [if_neg (by omega), if_neg (by omega)]
section
variable {t : Int} {ws : List Int} {e : Int} {N : Nat → Int} (h : EpSt t ws e N)
include h
theorem EpSt.turn (h0 : 0 ≤ e) (h2 : e ≤ 1000000) : EpSt t (turnW ws) (e + 1) N := by
  obtain ⟨h1, h2', h3, h4, h5, h6⟩ := h
  have in3 : wIn ws 3 = true := by rw [wIn_iff]; omega
  refine ⟨by rw [turnW_len]; exact h1, by rw [turnW_len]; exact h2', by rw [turnW_len]; exact h3, turnW_ok h4, ?_, fun j hj => ?_⟩
  · unfold turnW; rw [wAt_put_same in3, h5]; unfold wrap64; omega
  · unfold turnW; rw [wAt_put_ne (by omega)]; exact h6 j hj
theorem EpSt.note (k v : Int) (hv : WOk (wPut ws (4 + k) v)) (k0 : 0 ≤ k) (k1 : k < t) : EpSt t (wPut ws (4 + k) v) e (fun j => if (j : Int) = k then v else N j) := by
  obtain ⟨h1, h2', h3, h4, h5, h6⟩ := h
  have ink : wIn ws (4 + k) = true := by rw [wIn_iff]; omega
  refine ⟨by rw [wPut_len]; exact h1, by rw [wPut_len]; exact h2', by rw [wPut_len]; exact h3, hv, by rw [wAt_put_ne (by omega)]; exact h5, fun j hj => ?_⟩
  by_cases hk : (j : Int) = k
  · simp only [hk, if_true]; exact wAt_put_same ink
  · rw [wAt_put_ne (by omega)]; simp only [if_neg hk]; exact h6 j hj
theorem EpSt.same (k : Int) (M : Nat → Int) (hM : ∀ j : Nat, (j : Int) < t → M j = N j) : EpSt t ws e M := by
  have _u := k
  obtain ⟨h1, h2', h3, h4, h5, h6⟩ := h
  exact ⟨h1, h2', h3, h4, h5, fun j hj => by rw [hM j hj]; exact h6 j hj⟩
theorem EpSt.enter (h0 : 0 ≤ e) (h2 : e ≤ 1000000) (k : Int) : EpSt t (enterW t ws k) e (fun j => if (j : Int) = k then e + 1 else N j) := by
  unfold enterW lNote
  by_cases hk : 0 ≤ k ∧ k < t
  · have o3 : lOnce t 3 = 3 := by unfold lOnce; rw [if_neg (by omega)]
    rw [if_pos hk, if_neg (by omega), o3, h.2.2.2.2.1]
    have he : wrap64 (e + 1) = e + 1 := by unfold wrap64; omega
    have := h.note k (wrap64 (e + 1)) (wPut_ok h.2.2.2.1 _ _) hk.1 hk.2
    rw [he] at this ⊢; exact this
  · rw [if_neg hk, if_pos (by omega)]
    exact h.same 0 _ (fun j hj => by rw [if_neg (by omega)])
theorem EpSt.exit (k : Int) : EpSt t (exitW t ws k) e (fun j => if (j : Int) = k then 0 else N j) := by
  unfold exitW lNote
  by_cases hk : 0 ≤ k ∧ k < t
  · rw [if_pos hk, if_neg (by omega)]
    exact h.note k 0 (wPut_ok0 h.2.2.2.1 _) hk.1 hk.2
  · rw [if_neg hk, if_pos (by omega)]
    exact h.same 0 _ (fun j hj => by rw [if_neg (by omega)])
end
/-- of no note that is older, a turn tells true. -/
theorem TurnOut.yes {t : Int} {ws : List Int} {e : Int} {N : Nat → Int} {is : Bool} {c e1 : Int} (h : EpSt t ws e N) (ho : TurnOut t ws e1 is c) (hn : ∀ j : Nat, (j : Int) < t → dOlder (N j) e1 = false) : is = true ∧ c = 2 + t := by
  rcases ho with ⟨h1, h2, -⟩ | ⟨-, j, hj, -, ho, -⟩
  · exact ⟨h1, h2⟩
  · rw [h.2.2.2.2.2 j hj, hn j hj] at ho; cases ho
theorem TurnOut.no {t : Int} {ws : List Int} {e : Int} {N : Nat → Int} {is : Bool} {c e1 : Int} (h : EpSt t ws e N) (ho : TurnOut t ws e1 is c) (j : Nat) (hj : (j : Int) < t) (hn : dOlder (N j) e1 = true) : is = false := by
  rcases ho with ⟨-, -, h3⟩ | ⟨h1, -⟩
  · have := h3 j hj; rw [h.2.2.2.2.2 j hj, hn] at this; cases this
  · exact h1
section
variable {t n : Int} {X : Nat → Int}
/-- behind k of those that come in, alone. -/
def A2 (t n : Int) (X : Nat → Int) (k : Nat) (ws : List Int) (b : Bool) : Prop := ∃ Nf, EpSt t ws n Nf ∧ (∀ j : Nat, (j : Int) < t → (Nf j = 0 ∨ (Nf j = n + 1 ∧ ∃ i, i < k ∧ X i = j))) ∧ (b = true → ∀ j : Nat, (j : Int) < t → Nf j = 0) ∧ (b = false → ∃ j : Nat, (j : Int) < t ∧ Nf j = n + 1)
def A3 (t n : Int) (X : Nat → Int) (L k : Nat) (ws : List Int) : Prop := ∃ Nf, EpSt t ws (n + 1) Nf ∧ ∀ j : Nat, (j : Int) < t → (Nf j = 0 ∨ ∃ i, k ≤ i ∧ i < L ∧ X i = j)
theorem A2.init {ws : List Int} (h : EpSt t ws n (fun _ => 0)) : A2 t n X 0 ws true := ⟨_, h, fun j _ => .inl rfl, fun _ j _ => rfl, (fun h => by cases h)⟩
theorem A2.inr {k : Nat} {ws : List Int} {b : Bool} (h : A2 t n X k ws b) (n0 : 0 ≤ n) (n1 : n ≤ 10) (x0 : 0 ≤ X k) (x1 : X k < t) : A2 t n X (k + 1) (enterW t ws (X k)) false := by
  obtain ⟨Nf, h1, h2, h3, h4⟩ := h
  refine ⟨_, h1.enter n0 (by omega) (X k), fun j hj => ?_, (fun h => by cases h), fun _ => ⟨(X k).toNat, by omega, ?_⟩⟩
  · by_cases e : (j : Int) = X k
    · right; simp only [if_pos e]; exact ⟨trivial, k, by omega, e.symm⟩
    · simp only [if_neg e]
      rcases h2 j hj with h | ⟨h, i, hi, hx⟩
      · exact .inl h
      · exact .inr ⟨h, i, by omega, hx⟩
  · have e : ((X k).toNat : Int) = X k := by omega
    simp only [if_pos e]
theorem A2.out {k : Nat} {ws : List Int} {b : Bool} (h : A2 t n X k ws b) (n0 : 0 ≤ n) (n1 : n ≤ 10) (hx : ¬ (0 ≤ X k ∧ X k < t)) : A2 t n X (k + 1) (enterW t ws (X k)) b := by
  obtain ⟨Nf, h1, h2, h3, h4⟩ := h
  refine ⟨Nf, (h1.enter n0 (by omega) (X k)).same 0 _ (fun j hj => by rw [if_neg (by omega)]), fun j hj => ?_, h3, h4⟩
  rcases h2 j hj with h | ⟨h, i, hi, hx⟩
  · exact .inl h
  · exact .inr ⟨h, i, by omega, hx⟩
theorem A2.turn {k : Nat} {ws : List Int} {b : Bool} (h : A2 t n X k ws b) (n0 : 0 ≤ n) (n1 : n ≤ 10) {is : Bool} {c : Int} (ho : TurnOut t (turnW ws) (wrap64 (wAt ws 3 + 1)) is c) : is = b ∧ A3 t n X k 0 (turnW ws) := by
  obtain ⟨Nf, h1, h2, h3, h4⟩ := h
  have ht := h1.turn n0 (by omega)
  have e1 : wrap64 (wAt ws 3 + 1) = n + 1 := by rw [h1.2.2.2.2.1]; unfold wrap64; omega
  rw [e1] at ho
  refine ⟨?_, Nf, ht, fun j hj => ?_⟩
  · cases b with
    | true => exact (TurnOut.yes ht ho (fun j hj => by rw [h3 rfl j hj]; unfold dOlder; rw [decide_eq_false_iff_not]; omega)).1
    | false =>
      obtain ⟨j, hj, hN⟩ := h4 rfl
      exact TurnOut.no ht ho j hj (by rw [hN]; unfold dOlder; rw [decide_eq_true_eq]; omega)
  · rcases h2 j hj with h | ⟨-, i, hi, hx⟩
    · exact .inl h
    · exact .inr ⟨i, by omega, hi, hx⟩
theorem A3.step {L k : Nat} {ws : List Int} (h : A3 t n X L k ws) : A3 t n X L (k + 1) (exitW t ws (X k)) := by
  obtain ⟨Nf, h1, h2⟩ := h
  refine ⟨_, h1.exit (X k), fun j hj => ?_⟩
  by_cases e : (j : Int) = X k
  · left; simp only [if_pos e]
  · simp only [if_neg e]
    rcases h2 j hj with h | ⟨i, hi, hl, hx⟩
    · exact .inl h
    · refine .inr ⟨i, ?_, hl, hx⟩
      by_cases e' : i = k
      · subst e'; exact absurd hx.symm e
      · omega
theorem A3.last {L : Nat} {ws : List Int} (h : A3 t n X L L ws) : EpSt t ws (n + 1) (fun _ => 0) := by
  obtain ⟨Nf, h1, h2⟩ := h
  refine h1.same 0 _ (fun j hj => ?_)
  rcases h2 j hj with h | ⟨i, hi, hl, -⟩
  · exact h.symm
  · omega
end
theorem dOlder_zero (e : Int) : dOlder 0 e = false := by unfold dOlder; rw [decide_eq_false_iff_not]; omega
end Go.Proofs.Ytpfahnnmbaipdaa
