/- The walks of the reference of entry. -/
import Derived.LoopTactic
import Derived.Deep.RegionHeld3
import Derived.RegionTactic
import Derived.BigRegion
import Derived.Test.YtpebepjfgnoaaaaEnX
import Derived.Test.YtpebepjfgnoaaaaBase
namespace Go.Proofs.Ytpebepjfgnoaaaa
set_option linter.unusedVariables false
set_option linter.unusedSimpArgs false
open Go.RowKit
end Go.Proofs.Ytpebepjfgnoaaaa
namespace Go.Proofs.Ytpebepjfgnoaaaa
set_option linter.unusedVariables false
set_option linter.unusedSimpArgs false
open Go.RowKit
theorem keep6 {W w1 w' : World} {v0 v1 v2 v3 v4 v5 : Value} (h : w1.cell? ⟨W.heap.size, 0, none⟩ = some v0 ∧ w1.cell? ⟨W.heap.size, 1, none⟩ = some v1 ∧ w1.cell? ⟨W.heap.size, 2, none⟩ = some v2 ∧ w1.cell? ⟨W.heap.size, 3, none⟩ = some v3 ∧ w1.cell? ⟨W.heap.size, 4, none⟩ = some v4 ∧ w1.cell? ⟨W.heap.size, 5, none⟩ = some v5 ∧ W.heap.size < w1.heap.size ∧ Below W.heap.size W w1) (hb : Below w1.heap.size w1 w') :
    w'.cell? ⟨W.heap.size, 0, none⟩ = some v0 ∧ w'.cell? ⟨W.heap.size, 1, none⟩ = some v1 ∧ w'.cell? ⟨W.heap.size, 2, none⟩ = some v2 ∧ w'.cell? ⟨W.heap.size, 3, none⟩ = some v3 ∧ w'.cell? ⟨W.heap.size, 4, none⟩ = some v4 ∧ w'.cell? ⟨W.heap.size, 5, none⟩ = some v5 ∧ W.heap.size < w'.heap.size ∧ Below W.heap.size W w' := by
  obtain ⟨h0, h1, h2, h3, h4, h5, s0, hw⟩ := h
  exact ⟨(hb.cell s0).trans h0, (hb.cell s0).trans h1, (hb.cell s0).trans h2, (hb.cell s0).trans h3, (hb.cell s0).trans h4, (hb.cell s0).trans h5, Nat.lt_of_lt_of_le s0 hb.size, hw.trans (hb.mono (Nat.le_of_lt s0))⟩
theorem below_of8 {a b c d e f g : Prop} {B : Nat} {W w' : World} (h : a ∧ b ∧ c ∧ d ∧ e ∧ f ∧ g ∧ Below B W w') : Below B W w' := h.2.2.2.2.2.2.2
theorem pack_wraps {o g p u : Int} {l a : Bool} (h : 0 ≤ o ∧ o ≤ 4096 ∧ 0 ≤ g ∧ g ≤ 1000 ∧ 0 ≤ p ∧ p ≤ 7 ∧ 0 ≤ u ∧ u ≤ 15) :
    IntKind.i64.wrap (IntKind.i64.wrap (IntKind.i64.wrap (IntKind.i64.wrap (IntKind.i64.wrap (o + IntKind.i64.wrap (g * 1048576)) + IntKind.i64.wrap (p * 1099511627776)) + IntKind.i64.wrap (u * 17592186044416)) + IntKind.i64.wrap (bI l * 281474976710656)) + IntKind.i64.wrap (bI a * 562949953421312)) = eWord o g p u l a := by
  have hl := bI_bd l
  have ha := bI_bd a
  obtain ⟨h1, h2, h3, h4, h5, h6, h7, h8⟩ := h
  rw [i64any' (g * 1048576) (by omega) (by omega), i64any' (p * 1099511627776) (by omega) (by omega), i64any' (u * 17592186044416) (by omega) (by omega), i64any' (bI l * 281474976710656) (by omega) (by omega), i64any' (bI a * 562949953421312) (by omega) (by omega),
    i64any' (o + _) (by omega) (by omega), i64any' (o + g * 1048576 + _) (by omega) (by omega), i64any' (o + g * 1048576 + p * 1099511627776 + _) (by omega) (by omega), i64any' (o + g * 1048576 + p * 1099511627776 + u * 17592186044416 + _) (by omega) (by omega), i64any' (o + g * 1048576 + p * 1099511627776 + u * 17592186044416 + bI l * 281474976710656 + _) (by omega) (by omega)]
  unfold eWord
  omega
theorem frz_below' {B : Nat} {w w' : World} {p : Addr} (hb : Below B w w') (h : p.block < B) : w'.frozen? p = w.frozen? p := by simp only [World.frozen?, hb.block _ h]
end Go.Proofs.Ytpebepjfgnoaaaa
namespace Go.Proofs.Ytpebepjfgnoaaaa
set_option linter.unusedVariables false
set_option linter.unusedSimpArgs false
open Go.RowKit
theorem ent_set6' {B : Nat} {W w : World} {G : List Grp} {b : Nat} {T : TypeId} {a0 a1 a2 a3 a4 a5 : Value} (h : Owns B W w ([(b, .cells #[a0, a1, a2, a3, a4, a5] T (0, 0))] :: G)) (v0 v1 v2 v3 v4 v5 : Value) :
    Owns B W ((((((w.setCell ⟨b, 0, none⟩ v0).setCell ⟨b, 1, none⟩ v1).setCell ⟨b, 2, none⟩ v2).setCell ⟨b, 3, none⟩ v3).setCell ⟨b, 4, none⟩ v4).setCell ⟨b, 5, none⟩ v5) ([(b, .cells #[v0, v1, v2, v3, v4, v5] T (0, 0))] :: G) := by
  have h0 : Owns B W _ ([(b, .cells #[v0, a1, a2, a3, a4, a5] T (0, 0))] :: G) := h.set 0 0 rfl rfl 0 v0
  have h1 : Owns B W _ ([(b, .cells #[v0, v1, a2, a3, a4, a5] T (0, 0))] :: G) := h0.set 0 0 rfl rfl 1 v1
  have h2 : Owns B W _ ([(b, .cells #[v0, v1, v2, a3, a4, a5] T (0, 0))] :: G) := h1.set 0 0 rfl rfl 2 v2
  have h3 : Owns B W _ ([(b, .cells #[v0, v1, v2, v3, a4, a5] T (0, 0))] :: G) := h2.set 0 0 rfl rfl 3 v3
  have h4 : Owns B W _ ([(b, .cells #[v0, v1, v2, v3, v4, a5] T (0, 0))] :: G) := h3.set 0 0 rfl rfl 4 v4
  exact h4.set 0 0 rfl rfl 5 v5
end Go.Proofs.Ytpebepjfgnoaaaa
