/- A machine alone, step by step: a general run. -/
import Derived.Test.YtmbkkpeepbfgoaaBase
namespace Go.Proofs.Ytmbkkpeepbfgoaa
set_option linter.unusedVariables false
set_option linter.unusedSimpArgs false
open Go.RowKit
/-- so many steps at most; what it comes to, and by how many. -/
def mRun {σ : Type} (f : σ → σ × (Int × Int) × Bool) (most : Nat) : Nat → σ → σ × (Int × Int) × Int
  | 0, q => (q, (-1, 0), most)
  | k + 1, q => if (f q).2.2 = true then ((f q).1, (f q).2.1, ((most - k : Nat) : Int)) else mRun f most k (f q).1
theorem mRun_done {σ : Type} {f : σ → σ × (Int × Int) × Bool} {most k : Nat} {q : σ} (h : (f q).2.2 = true) : mRun f most (k + 1) q = ((f q).1, (f q).2.1, ((most - k : Nat) : Int)) := by rw [mRun, if_pos h]
theorem mRun_more {σ : Type} {f : σ → σ × (Int × Int) × Bool} {most k : Nat} {q : σ} (h : (f q).2.2 = false) : mRun f most (k + 1) q = mRun f most k (f q).1 := by rw [mRun, if_neg (by rw [h]; decide)]
/-- the value of a result and whether it is the end. -/
def resV (r : Int × Int) (b : Bool) : Value := .tuple #[.agg #[.int .i64 r.1, .int .i64 r.2], .bool b]
def resN (r : Int × Int) (n : Int) : Value := .tuple #[.agg #[.int .i64 r.1, .int .i64 r.2], .int .i64 n]
theorem erase_last {α : Type} (l : List α) (a : α) : (l ++ [a]).eraseIdx l.length = l := by
  rw [List.eraseIdx_append_of_length_le (Nat.le_refl _)]; simp
end Go.Proofs.Ytmbkkpeepbfgoaa
