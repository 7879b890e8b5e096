/- A block of memory known whole: what its cells are, and what becomes of it. -/
import Derived.Test.YtmbkkpeepbfgoaaBase
namespace Go.Proofs.Ytmbkkpeepbfgoaa
set_option linter.unusedVariables false
set_option linter.unusedSimpArgs false
open Go.RowKit
theorem blk_cell {w : World} {b : Nat} {c : Array Value} {t : TypeId} {f : Nat × Nat} (h : w.heap[b]? = some (.cells c t f)) (o : Nat) : w.cell? ⟨b, o, none⟩ = c[o]? := by simp [World.cell?, h]
theorem blk_free {w : World} {b : Nat} {c : Array Value} {t : TypeId} (h : w.heap[b]? = some (.cells c t (0, 0))) (o : Nat) : w.frozen? ⟨b, o, none⟩ = false := by simp [World.frozen?, h]
theorem blk_lt {w : World} {b : Nat} {x : Obj} (h : w.heap[b]? = some x) : b < w.heap.size := by
  rcases Nat.lt_or_ge b w.heap.size with h' | h'
  · exact h'
  · rw [Array.getElem?_eq_none h'] at h; cases h
theorem blk_set {w : World} {b : Nat} {c : Array Value} {t : TypeId} {f : Nat × Nat} (h : w.heap[b]? = some (.cells c t f)) (o : Nat) (v : Value) : (w.setCell ⟨b, o, none⟩ v).heap[b]? = some (.cells (c.setIfInBounds o v) t f) := by
  simp [World.setCell, Array.getElem?_modify, h]
theorem blk_set_ne {w : World} {b : Nat} {a : Addr} {x : Option Obj} (h : w.heap[b]? = x) (hn : b ≠ a.block) (v : Value) : (w.setCell a v).heap[b]? = x := by
  rw [← h]; simp [World.setCell, Array.getElem?_modify]; intro he; exact absurd he.symm hn
theorem blk_alloc {w : World} {b : Nat} {x : Obj} (h : w.heap[b]? = some x) (o : Obj) : (w.alloc o).heap[b]? = some x := by
  rw [← h]; exact Below.heap_alloc w o b (blk_lt h)
theorem blk_new (w : World) (o : Obj) : (w.alloc o).heap[w.heap.size]? = some o := by show (w.heap.push o)[w.heap.size]? = some o; simp
theorem blk_below {w w' : World} {b B : Nat} {x : Option Obj} (h : w.heap[b]? = x) (hb : Below B w w') (hB : b < B) : w'.heap[b]? = x := by rw [hb.block b hB]; exact h
theorem blk_drewN {w : World} {b : Nat} {x : Option Obj} (h : w.heap[b]? = x) (n : Nat) : (w.drewN n).heap[b]? = x := h
theorem blk_drew {w : World} {b : Nat} {x : Option Obj} (h : w.heap[b]? = x) : w.drew.heap[b]? = x := h
theorem blk6 {w : World} {b : Nat} {t : TypeId} {f : Nat × Nat} {a0 a1 a2 a3 a4 a5 : Value} (h : w.heap[b]? = some (.cells #[a0, a1, a2, a3, a4, a5] t f)) (v0 v1 v2 v3 v4 v5 : Value) :
    ((((((w.setCell ⟨b, 0, none⟩ v0).setCell ⟨b, 1, none⟩ v1).setCell ⟨b, 2, none⟩ v2).setCell ⟨b, 3, none⟩ v3).setCell ⟨b, 4, none⟩ v4).setCell ⟨b, 5, none⟩ v5).heap[b]? = some (.cells #[v0, v1, v2, v3, v4, v5] t f) := by
  rw [blk_set (blk_set (blk_set (blk_set (blk_set (blk_set h 0 v0) 1 v1) 2 v2) 3 v3) 4 v4) 5 v5]
  rfl
theorem blk6_ne {w : World} {b c : Nat} {x : Option Obj} (h : w.heap[c]? = x) (hn : c ≠ b) (v0 v1 v2 v3 v4 v5 : Value) :
    ((((((w.setCell ⟨b, 0, none⟩ v0).setCell ⟨b, 1, none⟩ v1).setCell ⟨b, 2, none⟩ v2).setCell ⟨b, 3, none⟩ v3).setCell ⟨b, 4, none⟩ v4).setCell ⟨b, 5, none⟩ v5).heap[c]? = x :=
  blk_set_ne (blk_set_ne (blk_set_ne (blk_set_ne (blk_set_ne (blk_set_ne h (a := ⟨b, 0, none⟩) hn v0) (a := ⟨b, 1, none⟩) hn v1) (a := ⟨b, 2, none⟩) hn v2) (a := ⟨b, 3, none⟩) hn v3) (a := ⟨b, 4, none⟩) hn v4) (a := ⟨b, 5, none⟩) hn v5
theorem below6 {w w' : World} {b c : Nat} (h : Below c w' w) (hn : c ≤ b) (v0 v1 v2 v3 v4 v5 : Value) :
    Below c w' ((((((w.setCell ⟨b, 0, none⟩ v0).setCell ⟨b, 1, none⟩ v1).setCell ⟨b, 2, none⟩ v2).setCell ⟨b, 3, none⟩ v3).setCell ⟨b, 4, none⟩ v4).setCell ⟨b, 5, none⟩ v5) :=
  (((((h.setCell (p := ⟨b, 0, none⟩) hn _).setCell (p := ⟨b, 1, none⟩) hn _).setCell (p := ⟨b, 2, none⟩) hn _).setCell (p := ⟨b, 3, none⟩) hn _).setCell (p := ⟨b, 4, none⟩) hn _).setCell (p := ⟨b, 5, none⟩) hn _
end Go.Proofs.Ytmbkkpeepbfgoaa
