/- The epoch law EpochLeft: machines and pointers in rows. -/
import Derived.Test.YtpfahnnmbaipdaaEpF0
import Derived.Test.YtpfahnnmbaipdaaFlat
import Derived.Test.YtpfahnnmbaipdaaArr
namespace Go.Proofs.Ytpfahnnmbaipdaa
set_option linter.unusedVariables false
set_option linter.unusedSimpArgs false
open Go.RowKit
def aPtr : Option Int → Nat → Value
  | none, _ => .pointer none
  | some _, x => .pointer (some ⟨x, 0, none⟩)
def aGrp (t s : Int) (j : Nat) : Option Int → Nat → Grp
  | none, _ => []
  | some ep, x => entG x t s (4 + j) 2 ep
def aRow (A : Nat → Option Int) (X : Nat → Nat) : Nat → Value := fun j => aPtr (A j) (X j)
def aFam (t s : Int) (A : Nat → Option Int) (X : Nat → Nat) : Nat → Grp := fun j => aGrp t s j (A j) (X j)
theorem upd_upd {α : Type} (E : Nat → α) (t : Nat) (g g' : α) : upd (upd E t g) t g' = upd E t g' := by
  funext j; unfold upd; split <;> rfl
theorem aRow_some (A : Nat → Option Int) (X : Nat → Nat) (q x : Nat) (e : Int) : upd (aRow A X) q (.pointer (some ⟨x, 0, none⟩)) = aRow (upd A q (some e)) (upd X q x) := by
  funext j; unfold aRow upd; by_cases h : j = q <;> simp [h, aPtr]
theorem aRow_none (A : Nat → Option Int) (X : Nat → Nat) (q : Nat) : upd (aRow A X) q (.pointer none) = aRow (upd A q none) X := by
  funext j; unfold aRow upd; by_cases h : j = q <;> simp [h, aPtr]
theorem aFam_some (t s : Int) (A : Nat → Option Int) (X : Nat → Nat) (q x : Nat) (e : Int) : upd (aFam t s A X) q (entG x t s (4 + q) 2 e) = aFam t s (upd A q (some e)) (upd X q x) := by
  funext j; unfold aFam upd; by_cases h : j = q
  · subst h; simp [aGrp]
  · simp [h]
theorem aFam_none (t s : Int) (A : Nat → Option Int) (X : Nat → Nat) (q : Nat) : upd (aFam t s A X) q [] = aFam t s (upd A q none) X := by
  funext j; unfold aFam upd; by_cases h : j = q <;> simp [h, aGrp]
theorem upd_boolr (I : Nat → Bool) (q : Nat) (b : Bool) : upd (fun j => Value.bool (I j)) q (.bool b) = fun j => .bool (upd I q b j) := by
  funext j; unfold upd; split <;> rfl
def clr (k : Nat) (old : Nat → Bool) : Nat → Bool := fun i => if i < k then false else old i
theorem clr_step (k : Nat) (old : Nat → Bool) : upd (clr k old) k false = clr (k + 1) old := by
  funext j; unfold upd clr
  by_cases h : j = k
  · subst h; simp
  · by_cases h2 : j < k
    · simp [h, h2, show j < k + 1 by omega]
    · simp [h, h2, show ¬ j < k + 1 by omega]
theorem clr_all {t : Int} {N : Nat → Int} {old : Nat → Bool} (h4 : t ≤ 4) (h : ∀ j : Nat, old j = true → (j : Int) < t ∧ 0 < N j) : clr 4 old = fun _ => false := by
  funext j; unfold clr
  by_cases hj : j < 4
  · simp [hj]
  · simp only [if_neg hj]
    cases ho : old j with
    | false => rfl
    | true => have := (h j ho).1; omega
theorem inL_mem {ws : List Int} : ∀ {k : Nat} {e : Int}, e ∈ inL ws k → ∃ q : Nat, e = q ∧ q < k ∧ 0 < wAt ws (4 + q)
  | 0, e, h => by simp [inL] at h
  | k + 1, e, h => by
    unfold inL at h
    split at h
    · rename_i hp
      rw [List.mem_append] at h
      rcases h with h | h
      · obtain ⟨q, h1, h2, h3⟩ := inL_mem h; exact ⟨q, h1, by omega, h3⟩
      · simp at h; exact ⟨k, h, by omega, hp⟩
    · obtain ⟨q, h1, h2, h3⟩ := inL_mem h; exact ⟨q, h1, by omega, h3⟩
theorem info_pent : (Try.prog.info? 35).map (fun i => (i.zero, i.size, i.bytes)) = some (some (.pointer none), 1, 8) := by kernel_rfl
theorem made_pents (n : Nat) (k : Int) (hk : k = n) (hn : n ≤ 4096) (w : World) : (Instr.makeSlice 29 (.int .i64 k) (.int .i64 k)).run Try.prog w = .ok (.slice (some ⟨w.heap.size, 0, none⟩) n n) (w.alloc (.cells (rowA (fun _ => .pointer none) n) 35)) :=
  made_row 29 35 (.pointer none) 8 Try.underlying29 info_pent rfl (by decide) n k hk hn w
/-- the steps of the turn, in numbers. -/
theorem tstep_look {t E : Int} {ws : List Int} {N : Nat → Int} (h : EpSt t ws E N) (t1 : 1 ≤ t) : turnStep t ws t 1 0 0 = ⟨ws, 2, E, 0, false, false⟩ := by
  have o3 : lOnce t 3 = 3 := by unfold lOnce; rw [if_neg (by omega)]
  unfold turnStep; rw [o3, h.2.2.2.2.1]; rfl
theorem tstep_swap {t E : Int} {ws : List Int} {N : Nat → Int} (h : EpSt t ws E N) (t1 : 1 ≤ t) : turnStep t ws t 2 E 0 = ⟨turnW ws, 3, E, 0, false, false⟩ := by
  have o3 : lOnce t 3 = 3 := by unfold lOnce; rw [if_neg (by omega)]
  have in3 : wIn ws 3 = true := by rw [wIn_iff]; have := h.1; omega
  have hcas : wCas ws 3 E = true := by unfold wCas; rw [in3, h.2.2.2.2.1]; simp
  unfold turnStep
  rw [if_neg (by decide), if_neg (by decide), if_pos rfl, o3, if_pos hcas]
  unfold wCasPut
  rw [if_pos hcas]; unfold turnW; rw [h.2.2.2.2.1]
section
variable {t E ep : Int} {ws : List Int} {N : Nat → Int} (h : EpSt t ws E N) (h4 : t ≤ 4) (he : ep + 1 = E) (e0 : 0 ≤ E) (e1 : E ≤ 1000000) (j : Nat) (hj : (j : Int) < t)
include h h4 he e0 e1 hj
theorem tstep_note : wAt ws (lNote t j) = N j ∧ wrap64 (ep + 1) = E ∧ wrap64 ((j : Int) + 1) = j + 1 := by
  refine ⟨?_, by unfold wrap64; omega, by unfold wrap64; omega⟩
  unfold lNote; rw [if_pos (by omega)]; exact h.2.2.2.2.2 j hj
theorem tstep_older (ho : dOlder (N j) E = true) : turnStep t ws t 3 ep j = ⟨ws, 0, ep, j + 1, false, true⟩ := by
  obtain ⟨a, b, c⟩ := tstep_note h h4 he e0 e1 j hj
  unfold turnStep
  rw [if_neg (by decide), if_neg (by decide), if_neg (by decide), if_pos rfl, a, b, if_pos ho, c]
theorem tstep_last (ho : dOlder (N j) E = false) (hl : (j : Int) + 1 = t) : turnStep t ws t 3 ep j = ⟨ws, 0, ep, j + 1, true, true⟩ := by
  obtain ⟨a, b, c⟩ := tstep_note h h4 he e0 e1 j hj
  unfold turnStep
  rw [if_neg (by decide), if_neg (by decide), if_neg (by decide), if_pos rfl, a, b, if_neg (by rw [ho]; decide), c, if_pos hl]
theorem tstep_more (ho : dOlder (N j) E = false) (hl : ¬ (j : Int) + 1 = t) : turnStep t ws t 3 ep j = ⟨ws, 3, ep, j + 1, false, false⟩ := by
  obtain ⟨a, b, c⟩ := tstep_note h h4 he e0 e1 j hj
  unfold turnStep
  rw [if_neg (by decide), if_neg (by decide), if_neg (by decide), if_pos rfl, a, b, if_neg (by rw [ho]; decide), c, if_neg hl]
end
theorem fam_at5 {a b c d e : Grp} {F : Nat → Grp} {q : Nat} (h : q < 4) : (a :: b :: c :: d :: e :: fam F 4)[q + 5]? = some (F q) := by simpa using fam_get F h
theorem fam_at6 {r a b c d e : Grp} {F : Nat → Grp} {q : Nat} (h : q < 4) : (r :: a :: b :: c :: d :: e :: fam F 4)[q + 6]? = some (F q) := by simpa using fam_get F h
theorem entNew_in {t s : Int} {q : Nat} (x : Nat) (h : (q : Int) < t) : entNew t s q x = entG x t s (4 + q) 1 0 := by
  unfold entNew lNote; rw [if_pos (by omega), if_neg (by omega)]
theorem estep_look {t E : Int} {ws : List Int} {N : Nat → Int} (h : EpSt t ws E N) (t1 : 1 ≤ t) (nt : Int) : entStep t ws nt 1 0 = ⟨ws, 2, E, false⟩ := by
  have o3 : lOnce t 3 = 3 := by unfold lOnce; rw [if_neg (by omega)]
  unfold entStep; rw [o3, h.2.2.2.2.1]; rfl
theorem estep_put (t nt e : Int) (ws : List Int) : entStep t ws nt 2 e = ⟨wPut ws nt (wrap64 (e + 1)), 0, e, true⟩ := by unfold entStep; rfl
theorem RowOk.form {v : Value} {xs cur : List Value} (hr : RowOk v xs cur) : ∃ pa cap, v = .slice pa xs.length cap ∧ ∀ j u, xs[j]? = some u → ∃ g, pa = some ⟨g, 0, none⟩ ∧
    ∀ (B : Nat) (W w : World) (G : List Grp) (e : TypeId) (i : Nat), Owns B W w G → G[i]? = some (rowG e v cur) → w.cell? ⟨g, j, none⟩ = some u := by
  rcases hr with ⟨rfl, rfl, rfl⟩ | ⟨g, cap, rfl, h1, h2, h3, h4⟩
  · exact ⟨none, 0, rfl, fun j u h => by simp at h⟩
  · refine ⟨_, cap, rfl, fun j u hj => ⟨g, rfl, fun B W w G e i h hi => ?_⟩⟩
    rw [blk_cell (h.get i 0 hi (b := g) (o := .cells cur.toArray e (0, 0)) rfl) j]
    rw [← h4, List.getElem?_take] at hj
    split at hj
    · simpa using hj
    · cases hj
theorem tmod_in (th t : Int) (h1 : 1 ≤ t) (h : 0 ≤ th.tmod t) : th.tmod t < t := Int.tmod_lt_of_pos th (by omega)
end Go.Proofs.Ytpfahnnmbaipdaa
