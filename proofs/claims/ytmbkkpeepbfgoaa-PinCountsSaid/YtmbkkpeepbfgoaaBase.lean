/- Small helpers for walks: endings, bits of words, what calls leave of memory. -/
import Derived.Deep.QuietTactic
import Derived.BigQuiet
import Derived.WalkKit
import Derived.KernelRfl
import Derived.Lib.Hide
import Derived.Handy
import Derived.Laws.BitsLemmas
namespace Go.Proofs.Ytmbkkpeepbfgoaa
set_option linter.unusedVariables false
set_option linter.unusedSimpArgs false
open Go.RowKit
theorem ret1 {k : IntKind} {a b : Int} (h : a = b) : Ending.returned (.int k a) = .returned (.int k b) := by rw [h]
theorem retb {a b : Bool} (h : a = b) : Ending.returned (.bool a) = .returned (.bool b) := by rw [h]
theorem ret2 {j k : IntKind} {a b c d : Int} (h : a = c) (h' : b = d) : Ending.returned (.tuple #[.int j a, .int k b]) = .returned (.tuple #[.int j c, .int k d]) := by rw [h, h']
theorem ret2b {j : IntKind} {a c : Int} {b d : Bool} (h : a = c) (h' : b = d) : Ending.returned (.tuple #[.int j a, .bool b]) = .returned (.tuple #[.int j c, .bool d]) := by rw [h, h']
theorem ret3 {j k l : IntKind} {a b c d e f : Int} (h : a = d) (h' : b = e) (h'' : c = f) : Ending.returned (.tuple #[.int j a, .int k b, .int l c]) = .returned (.tuple #[.int j d, .int k e, .int l f]) := by rw [h, h', h'']
theorem ret3b {j k : IntKind} {a b d e : Int} {c f : Bool} (h : a = d) (h' : b = e) (h'' : c = f) : Ending.returned (.tuple #[.int j a, .int k b, .bool c]) = .returned (.tuple #[.int j d, .int k e, .bool f]) := by rw [h, h', h'']
theorem i64small (n : Int) (h₀ : 0 ≤ n) (h₁ : n < 2 ^ 63) : IntKind.i64.wrap n = n := by rw [IntKind.wrap_i64]; omega
theorem or_join (i : Nat) (hi : i ≤ 63) (x y : Int) (hx : 0 ≤ x) (hm : x % 2 ^ i = 0) (hx1 : x < 2 ^ 63) (hy : 0 ≤ y) (hy1 : y < 2 ^ i) : bits .or .i64 x y = x + y := by
  have h2 : (2 : Int) ^ i ≤ 2 ^ 63 := by exact_mod_cast Nat.pow_le_pow_right (by decide) hi
  exact bits_join .i64 63 (by decide) i64small i x y hx hm hx1 hy hy1 (by omega)
theorem and_mask (i : Nat) (hi : i ≤ 63) (x : Int) (h₀ : 0 ≤ x) (h₁ : x < 2 ^ 63) : bits .and .i64 x (2 ^ i - 1) = x % 2 ^ i :=
  bits_mask .i64 63 (by decide) i64small i hi x h₀ h₁
theorem below_drewN {B : Nat} {a w : World} (h : Below B a w) (n : Nat) : Below B a (w.drewN n) := ⟨h.os, h.tape, h.output, h.size, h.block⟩
theorem below_drewN2 {B : Nat} {a w : World} (h : Below B a w) (n : Nat) : Below B a { w with drawn := n } := ⟨h.os, h.tape, h.output, h.size, h.block⟩
theorem keep2 {W w1 w' : World} {x y : Value} (h : w1.cell? ⟨W.heap.size, 0, none⟩ = some x ∧ w1.cell? ⟨W.heap.size, 1, none⟩ = some y ∧ W.heap.size < w1.heap.size ∧ Below W.heap.size W w1) (hb : Below w1.heap.size w1 w') :
    w'.cell? ⟨W.heap.size, 0, none⟩ = some x ∧ w'.cell? ⟨W.heap.size, 1, none⟩ = some y ∧ W.heap.size < w'.heap.size ∧ Below W.heap.size W w' :=
  ⟨(hb.cell h.2.2.1).trans h.1, (hb.cell h.2.2.1).trans h.2.1, Nat.lt_of_lt_of_le h.2.2.1 hb.size, h.2.2.2.trans (hb.mono (Nat.le_of_lt h.2.2.1))⟩
theorem below_of {a b c : Prop} {B : Nat} {W w' : World} (h : a ∧ b ∧ c ∧ Below B W w') : Below B W w' := h.2.2.2
theorem size_drewN (w : World) (n : Nat) : (w.drewN n).heap.size = w.heap.size := rfl
theorem below_via {B B' : Nat} {a b c : World} (k : Below B' b c) (h : Below B a b) (hB : B ≤ B') : Below B a c := h.trans (k.mono hB)
end Go.Proofs.Ytmbkkpeepbfgoaa
