/- Plain cells in memory. -/
import Derived.Test.YtmbkkpeepbfgoaaProg
import Derived.Test.YtmbkkpeepbfgoaaOwn
namespace Go.Proofs.Ytmbkkpeepbfgoaa
set_option linter.unusedVariables false
set_option linter.unusedSimpArgs false
open Go.RowKit
def intArr (ws : List Int) : Array Value := (ws.map (Value.int .i64)).toArray
def byteArr (bs : List Int) : Array Value := (bs.map (Value.int .u8)).toArray
def plainObj (bw bb nw nb : Nat) (n : Int) : Obj := .cells #[.slice (some ⟨bw, 0, none⟩) nw nw, .slice (some ⟨bb, 0, none⟩) nb nb, .int .i64 n] 86 (0, 0)
def memG (p bw bb : Nat) (ws bs : List Int) (n : Int) : Grp := [(p, plainObj bw bb ws.length bs.length n), (bw, .cells (intArr ws) 3 (0, 0)), (bb, .cells (byteArr bs) 5 (0, 0))]
theorem intArr_get (ws : List Int) (k : Nat) (h : k < ws.length) : (intArr ws)[k]? = some (.int .i64 (ws.getD k 0)) := by
  simp [intArr, List.getElem?_eq_getElem h, List.getD]
theorem byteArr_get (ws : List Int) (k : Nat) (h : k < ws.length) : (byteArr ws)[k]? = some (.int .u8 (ws.getD k 0)) := by
  simp [byteArr, List.getElem?_eq_getElem h, List.getD]
theorem intArr_set (ws : List Int) (k : Nat) (n : Int) : (intArr ws).setIfInBounds k (.int .i64 n) = intArr (ws.set k n) := by
  simp [intArr, List.map_set]
theorem byteArr_set (ws : List Int) (k : Nat) (n : Int) : (byteArr ws).setIfInBounds k (.int .u8 n) = byteArr (ws.set k n) := by
  simp [byteArr, List.map_set]
theorem plain_step (bw bb nw nb : Nat) (n m : Int) : plainObj bw bb nw nb m = .cells ((#[.slice (some ⟨bw, 0, none⟩) nw nw, .slice (some ⟨bb, 0, none⟩) nb nb, .int .i64 n] : Array Value).setIfInBounds 2 (.int .i64 m)) 86 (0, 0) := rfl
/-- what a word is. -/
def wIn (ws : List Int) (k : Int) : Bool := decide (0 ≤ k ∧ k < ws.length)
def wAt (ws : List Int) (k : Int) : Int := if wIn ws k = true then ws.getD k.toNat 0 else 0
def wPut (ws : List Int) (k n : Int) : List Int := if wIn ws k = true then ws.set k.toNat n else ws
def wCas (ws : List Int) (k old : Int) : Bool := wIn ws k && wAt ws k == old
def wCasPut (ws : List Int) (k old m : Int) : List Int := if wCas ws k old = true then wPut ws k m else ws
theorem wIn_iff {ws : List Int} {k : Int} : wIn ws k = true ↔ 0 ≤ k ∧ k < ws.length := by simp [wIn]
theorem wIn_no {ws : List Int} {k : Int} : wIn ws k = false ↔ ¬ (0 ≤ k ∧ k < ws.length) := by simp [wIn]
theorem wPut_len (ws : List Int) (k n : Int) : (wPut ws k n).length = ws.length := by unfold wPut; split <;> simp
theorem wIn_put (ws : List Int) (k n j : Int) : wIn (wPut ws k n) j = wIn ws j := by unfold wIn; rw [wPut_len]
theorem set_get {α : Type} {G : List α} {i : Nat} {g : α} (hi : G[i]? = some g) (x : α) : (G.set i x)[i]? = some x := List.getElem?_set_self (List.getElem?_eq_some_iff.1 hi).1
theorem set_get_ne {α : Type} {G : List α} {i j : Nat} {g : α} (hj : G[j]? = some g) (hne : i ≠ j) (x : α) : (G.set i x)[j]? = some g := by rw [List.getElem?_set_ne hne]; exact hj
theorem mem_cells {B : Nat} {W w : World} {G : List Grp} {i : Nat} {p bw bb : Nat} {ws bs : List Int} {n : Int} (h : Owns B W w G) (hi : G[i]? = some (memG p bw bb ws bs n)) :
    w.cell? ⟨p, 0, none⟩ = some (.slice (some ⟨bw, 0, none⟩) ws.length ws.length) ∧ w.cell? ⟨p, 1, none⟩ = some (.slice (some ⟨bb, 0, none⟩) bs.length bs.length) ∧ w.cell? ⟨p, 2, none⟩ = some (.int .i64 n) :=
  ⟨blk_cell (h.get i 0 hi rfl) 0, blk_cell (h.get i 0 hi rfl) 1, blk_cell (h.get i 0 hi rfl) 2⟩
theorem mem_word {B : Nat} {W w : World} {G : List Grp} {i : Nat} {p bw bb : Nat} {ws bs : List Int} {n : Int} (h : Owns B W w G) (hi : G[i]? = some (memG p bw bb ws bs n)) (q : Nat) (hq : q < ws.length) :
    w.cell? ⟨bw, q, none⟩ = some (.int .i64 (ws.getD q 0)) := (blk_cell (h.get i 1 hi rfl) q).trans (intArr_get ws q hq)
theorem mem_byte {B : Nat} {W w : World} {G : List Grp} {i : Nat} {p bw bb : Nat} {ws bs : List Int} {n : Int} (h : Owns B W w G) (hi : G[i]? = some (memG p bw bb ws bs n)) (q : Nat) (hq : q < bs.length) :
    w.cell? ⟨bb, q, none⟩ = some (.int .u8 (bs.getD q 0)) := (blk_cell (h.get i 2 hi rfl) q).trans (byteArr_get bs q hq)
theorem mem_step {B : Nat} {W w : World} {G : List Grp} {i : Nat} {p bw bb : Nat} {ws bs : List Int} {n : Int} (h : Owns B W w G) (hi : G[i]? = some (memG p bw bb ws bs n)) (m : Int) :
    Owns B W (w.setCell ⟨p, 2, none⟩ (.int .i64 m)) (G.set i (memG p bw bb ws bs m)) := h.set i 0 hi rfl 2 (.int .i64 m)
theorem mem_put {B : Nat} {W w : World} {G : List Grp} {i : Nat} {p bw bb : Nat} {ws bs : List Int} {n : Int} (h : Owns B W w G) (hi : G[i]? = some (memG p bw bb ws bs n)) (q : Nat) (m : Int) :
    Owns B W (w.setCell ⟨bw, q, none⟩ (.int .i64 m)) (G.set i (memG p bw bb (ws.set q m) bs n)) := by
  have := h.set i 1 hi rfl q (.int .i64 m)
  rw [intArr_set] at this
  have e : memG p bw bb (ws.set q m) bs n = (memG p bw bb ws bs n).set 1 (bw, .cells (intArr (ws.set q m)) 3 (0, 0)) := by simp [memG]
  rw [e]; exact this
theorem mem_putb {B : Nat} {W w : World} {G : List Grp} {i : Nat} {p bw bb : Nat} {ws bs : List Int} {n : Int} (h : Owns B W w G) (hi : G[i]? = some (memG p bw bb ws bs n)) (q : Nat) (m : Int) :
    Owns B W (w.setCell ⟨bb, q, none⟩ (.int .u8 m)) (G.set i (memG p bw bb ws (bs.set q m) n)) := by
  have := h.set i 2 hi rfl q (.int .u8 m)
  rw [byteArr_set] at this
  have e : memG p bw bb ws (bs.set q m) n = (memG p bw bb ws bs n).set 2 (bb, .cells (byteArr (bs.set q m)) 5 (0, 0)) := by simp [memG]
  rw [e]; exact this
end Go.Proofs.Ytmbkkpeepbfgoaa
