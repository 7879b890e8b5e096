/- Cells as they are at first, and words by place (for seats without the stack's laws). -/
import Derived.Test.YtmbkkpeepbfgoaaLyS
import Derived.Test.YtmbkkpeepbfgoaaLyR
import Derived.Test.YtmbkkpeepbfgoaaClN
import Derived.Test.YtmbkkpeepbfgoaaSm
namespace Go.Proofs.Ytmbkkpeepbfgoaa
set_option linter.unusedVariables false
set_option linter.unusedSimpArgs false
open Go.RowKit
/-- cells as they are at first. -/
def initW (t s : Int) : List Int := startW t s (List.replicate (lWords t s).toNat 0)
theorem initW_len (t s : Int) : (initW t s).length = (lWords t s).toNat := by unfold initW; rw [startW_len]; simp
def WOk (ws : List Int) : Prop := ∀ x ∈ ws, -9223372036854775808 ≤ x ∧ x ≤ 9223372036854775807
theorem wAt_bd {ws : List Int} (h : WOk ws) (k : Int) : -9223372036854775808 ≤ wAt ws k ∧ wAt ws k ≤ 9223372036854775807 := by
  unfold wAt; split
  · rename_i hk
    have := (wIn_iff.1 hk)
    rw [List.getD_eq_getElem?_getD, List.getElem?_eq_getElem (by omega)]
    exact h _ (List.getElem_mem _)
  · omega
theorem below_alloc (w : World) (o : Obj) : Below w.heap.size w (w.alloc o) := (Below.refl _ _).alloc (Nat.le_refl _) _
theorem wAt_put_same {ws : List Int} {k n : Int} (h : wIn ws k = true) : wAt (wPut ws k n) k = n := by
  unfold wAt; rw [wIn_put, if_pos h]
  obtain ⟨h0, h1⟩ := wIn_iff.1 h
  unfold wPut; rw [if_pos h, List.getD_eq_getElem?_getD, List.getElem?_set_self (by omega)]; rfl
theorem wAt_put_ne {ws : List Int} {k j n : Int} (h : j ≠ k) : wAt (wPut ws k n) j = wAt ws j := by
  unfold wAt; rw [wIn_put]
  by_cases hj : wIn ws j = true
  · rw [if_pos hj, if_pos hj]
    obtain ⟨h0, h1⟩ := wIn_iff.1 hj
    unfold wPut; split
    · rename_i hk
      obtain ⟨k0, k1⟩ := wIn_iff.1 hk
      rw [List.getD_eq_getElem?_getD, List.getElem?_set_ne (by omega), ← List.getD_eq_getElem?_getD]
    · rfl
  · rw [if_neg hj, if_neg hj]
theorem initW_at {t s : Int} (h1 : 1 ≤ t) (j : Int) (h0 : 0 ≤ j) (hj : j < 4 + t + 3 * s) : wAt (initW t s) j = startAt t s j := by
  unfold initW startW
  rw [wAt_setW, List.length_replicate, lWords_ok h1, if_pos (by omega), if_pos (by omega)]
  rw [Int.toNat_of_nonneg h0]
theorem initW_in {t s : Int} (h1 : 1 ≤ t) (j : Int) (h0 : 0 ≤ j) (hj : j < 4 + t + 3 * s) : wIn (initW t s) j = true := by
  rw [wIn_iff, initW_len, lWords_ok h1]; omega
theorem set_same {α : Type} {l : List α} {i : Nat} {x : α} (h : l[i]? = some x) : l.set i x = l := List.set_of_getElem? h
theorem Owns.nothing {B : Nat} {W w : World} {G : List Grp} (h : Owns B W w G) : Owns B W w ([] :: G) := by
  have e : ([] :: G : List Grp).flatten = G.flatten := by simp
  unfold Owns; rw [e]; exact h
theorem wPut_ok {ws : List Int} (h : WOk ws) (k n : Int) : WOk (wPut ws k (wrap64 n)) := by
  unfold wPut
  split
  · intro x hx
    rcases List.mem_or_eq_of_mem_set hx with hx | hx
    · exact h x hx
    · subst hx; unfold wrap64; omega
  · exact h
theorem initW_ok (t s : Int) (h1 : 1 ≤ t) (h4 : s ≤ 64) : WOk (initW t s) := by
  unfold initW startW setW
  intro x hx
  obtain ⟨j, -, rfl⟩ := List.mem_map.1 hx
  split
  · unfold startAt linkAt
    split
    · omega
    · split <;> omega
  · rw [List.getD_eq_getElem?_getD]
    cases h : (List.replicate (lWords t s).toNat (0 : Int))[j]? with
    | none => simp
    | some y => have := List.mem_of_getElem? h; rw [List.mem_replicate] at this; simp [this.2]
theorem nil_Load (a : Option Addr) (w : World) : (nilAhead 256 27 (.pointer a) "Load").run Try.prog w = .ok (some false) w := by kernel_rfl
theorem nil_Cas (a : Option Addr) (w : World) : (nilAhead 256 27 (.pointer a) "Cas").run Try.prog w = .ok (some false) w := by kernel_rfl
theorem nil_Byte (a : Option Addr) (w : World) : (nilAhead 256 27 (.pointer a) "Byte").run Try.prog w = .ok (some false) w := by kernel_rfl
theorem nil_SetByte (a : Option Addr) (w : World) : (nilAhead 256 27 (.pointer a) "SetByte").run Try.prog w = .ok (some false) w := by kernel_rfl
end Go.Proofs.Ytmbkkpeepbfgoaa
