/- Reads alone, in numbers. -/
import Derived.Test.YtmbkkpeepbfgoaaRdL0
namespace Go.Proofs.Ytmbkkpeepbfgoaa
set_option linter.unusedVariables false
set_option linter.unusedSimpArgs false
open Go.RowKit
theorem tmod_byte (b : Int) : (b.tmod 256 + 256).tmod 256 = b % 256 ∧ (b.tmod 256 + 256) % 256 = b % 256 ∧ -256 < b.tmod 256 ∧ b.tmod 256 < 256 := by
  have h0 := Int.mul_tdiv_add_tmod b 256
  have h1 : b.tmod 256 < 256 := Int.tmod_lt_of_pos b (by decide)
  have h2 : -256 < b.tmod 256 := by
    have := Int.tmod_lt_of_pos (-b) (show (0 : Int) < 256 by decide)
    rw [Int.neg_tmod] at this; omega
  generalize b.tmod 256 = r at *
  generalize b.tdiv 256 = q at *
  have h3 : (r + 256) % 256 = b % 256 := by omega
  exact ⟨by rw [Int.tmod_eq_emod_of_nonneg (by omega)]; exact h3, h3, h2, h1⟩
section
variable {t s sl ge off v O S : Int} {ws bs : List Int} (hv : wAt ws (lOf t s sl 0) = v) (hf : fresh v ge = true) (hl : uL v = false) (ho : uO v = O) (hs : wAt ws (lOf t s sl 1) = S)
include hv hf hl ho
theorem rd_1 : rdF t s sl ge false off ws bs rdN = (⟨2, O, uG v, uP v, uU v, false, uA v, 0, 0⟩, (0, 0), false) := by
  unfold rdF rdStep rdN
  simp only [hv, hf, hl, ho, if_true, if_false, reduceCtorEq, if_neg (by decide : ¬ (1 : Int) = 0), Bool.false_eq_true]
include hs
theorem rd_go (k : Nat) : (mRun (rdF t s sl ge false off ws bs) (k + 4) (k + 4) rdN).2 = if off < 0 ∨ S ≤ off then ((5, 0), 3) else ((0, wAt bs (wrap64 (O + off))), 4) := by
  have e1 := rd_1 (off := off) (bs := bs) hv hf hl ho
  rw [mRun_more (by rw [e1]), e1]
  have e2 : ∀ (a b c d e f g : Int) (x y : Bool), rdF t s sl ge false off ws bs ⟨2, O, a, b, c, x, y, d, e⟩ = (if off < 0 ∨ S ≤ off then (⟨4, O, a, b, c, x, y, 5, 0⟩, (0, 0), false) else (⟨3, O, a, b, c, x, y, 0, 0⟩, (0, 0), false)) := by
    intro a b c d e f g x y
    unfold rdF rdStep
    simp only [hs, if_true, if_neg (by decide : ¬ (2 : Int) = 0), if_neg (by decide : ¬ (2 : Int) = 1)]
  have e3 : ∀ (a b c d e : Int) (x y : Bool), rdF t s sl ge false off ws bs ⟨3, O, a, b, c, x, y, d, e⟩ = (⟨4, O, a, b, c, x, y, d, wAt bs (wrap64 (O + off))⟩, (0, 0), false) := by
    intro a b c d e x y
    unfold rdF rdStep
    simp only [if_true, if_neg (by decide : ¬ (3 : Int) = 0), if_neg (by decide : ¬ (3 : Int) = 1), if_neg (by decide : ¬ (3 : Int) = 2)]
  have e4 : ∀ (a b c d e : Int) (x y : Bool), rdF t s sl ge false off ws bs ⟨4, O, a, b, c, x, y, d, e⟩ = (⟨0, O, a, b, c, x, y, d, e⟩, (d, e), true) := by
    intro a b c d e x y
    unfold rdF rdStep
    simp only [hv, hf, hl, ho, if_true, if_neg (by decide : ¬ (4 : Int) = 0), if_neg (by decide : ¬ (4 : Int) = 1), if_neg (by decide : ¬ (4 : Int) = 2), if_neg (by decide : ¬ (4 : Int) = 3), decide_true, Bool.not_false, Bool.and_self]
  by_cases hc : off < 0 ∨ S ≤ off
  · have e2' := e2 (uG v) (uP v) (uU v) 0 0 0 0 false (uA v)
    rw [if_pos hc] at e2'
    rw [if_pos hc, mRun_more (by rw [e2']), e2', mRun_done (by rw [e4]), e4]
    simp only [Prod.mk.injEq, true_and]
    omega
  · have e2' := e2 (uG v) (uP v) (uU v) 0 0 0 0 false (uA v)
    rw [if_neg hc] at e2'
    rw [if_neg hc, mRun_more (by rw [e2']), e2', mRun_more (by rw [e3]), e3, mRun_done (by rw [e4]), e4]
    simp only [Prod.mk.injEq, true_and]
    omega
end
end Go.Proofs.Ytmbkkpeepbfgoaa
