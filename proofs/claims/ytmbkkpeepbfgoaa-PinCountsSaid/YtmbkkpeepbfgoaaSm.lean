/- sidingsref01.Same: two lists of whole numbers compared. -/
import Derived.LoopTactic
import Derived.Outline
import Derived.Test.YtmbkkpeepbfgoaaProg
import Derived.Test.YtmbkkpeepbfgoaaOwn2
import Derived.Test.YtmbkkpeepbfgoaaLyQ
import Derived.Test.YtmbkkpeepbfgoaaFnW
namespace Go.Proofs.Ytmbkkpeepbfgoaa
set_option linter.unusedVariables false
set_option linter.unusedSimpArgs false
open Go.RowKit
/-- a slice that reads as a list of whole numbers. -/
def Reads (w : World) (v : Value) (xs : List Int) : Prop :=
  ∃ (p : Option Addr) (cap : Nat), v = .slice p xs.length cap ∧ xs.length ≤ 1000000 ∧ ∀ j, j < xs.length → ∃ b, p = some ⟨b, 0, none⟩ ∧ w.cell? ⟨b, j, none⟩ = some (.int .i64 (xs.getD j 0))
theorem Reads.row {B : Nat} {W w : World} {G : List Grp} {e : TypeId} {v : Value} {xs : List Int} {cur : List Value} (hr : RowOk v (xs.map (Value.int .i64)) cur) (h : Owns B W w G) (i : Nat) (hi : G[i]? = some (rowG e v cur)) (hl : xs.length ≤ 1000000) : Reads w v xs := by
  by_cases hne : xs = []
  · subst hne
    rcases hr with ⟨rfl, -, -⟩ | ⟨g, cap, rfl, h1⟩
    · exact ⟨none, 0, rfl, by simp, fun j hj => by simp at hj⟩
    · exact ⟨_, cap, rfl, by simp, fun j hj => by simp at hj⟩
  · obtain ⟨g, cap, hv, hc⟩ := hr.cells h i hi (by simpa using hne)
    refine ⟨some ⟨g, 0, none⟩, cap, by simpa using hv, hl, fun j hj => ⟨g, rfl, hc j _ ?_⟩⟩
    rw [List.getElem?_map, List.getElem?_eq_getElem hj]; simp [List.getD, hj]
theorem Reads.ints {B : Nat} {W w : World} {G : List Grp} {t : TypeId} {b cap : Nat} {xs : List Int} (h : Owns B W w G) (i j : Nat) {g : Grp} (hi : G[i]? = some g) (hj : g[j]? = some (b, .cells (intArr xs) t (0, 0))) (hl : xs.length ≤ 1000000) : Reads w (.slice (some ⟨b, 0, none⟩) xs.length cap) xs :=
  ⟨_, cap, rfl, hl, fun k hk => ⟨b, rfl, (blk_cell (h.get i j hi hj) k).trans (intArr_get xs k hk)⟩⟩
theorem Reads.nil (w : World) : Reads w (.slice none 0 0) [] := ⟨none, 0, rfl, by simp, fun j hj => by simp at hj⟩
def sameB (xs ys : List Int) : Bool := decide (xs = ys)
theorem list_ext_getD {xs ys : List Int} (hl : xs.length = ys.length) (h : ∀ j, j < xs.length → xs.getD j 0 = ys.getD j 0) : xs = ys := by
  rw [list_setW xs, list_setW ys, ← hl]; exact setW_ext h
end Go.Proofs.Ytmbkkpeepbfgoaa
