/- Walks for the stack law StackApart: has, without. -/
import Derived.RegionTactic
import Derived.BigRegion
import Derived.Deep.RegionHeld3
import Derived.Outline
import Derived.LoopTactic
import Derived.Deep.DeepCutAuto
import Derived.Test.YtpebepjfgnoaaaaSaP2
import Derived.Test.YtpebepjfgnoaaaaStN
import Derived.Test.YtpebepjfgnoaaaaArr
namespace Go.Proofs.Ytpebepjfgnoaaaa
set_option linter.unusedVariables false
set_option linter.unusedSimpArgs false
open Go.RowKit
set_option maxRecDepth 100000 in
set_option maxHeartbeats 4000000 in
theorem law10_has (v : Value) (xs : List Int) (n : Int) (w : World) (h : Reads w v xs) (b : Bool) (hb : decide (n ∈ xs) = b) : Calls Try.prog 34 #[v, .int .i64 n] w fun e w' => e = .returned (.bool b) ∧ w = w' := by
  obtain ⟨pa, cap, rfl, hl, hx⟩ := h
  have HX := Lib.hid hx
  have HB := Lib.hid hb
  clear hx hb
  go_enter Try.func34, Try.ntmps34
  go_wp2_with fail
  go_loopw [5] (fun i wr => wr = w ∧ ∃ k : Nat, i = .int .i64 k ∧ k ≤ xs.length ∧ Hid (∀ j, j < k → xs.getD j 0 ≠ n)) (fun i _ => xs.length - (intOf i).toNat)
  case atStart => exact ⟨rfl, 0, rfl, by omega, Lib.hid (fun j hj => by omega)⟩
  case round =>
    obtain ⟨rfl, k, rfl, hk, hno⟩ := hrel
    by_cases hlt : k < xs.length
    · obtain ⟨g, rfl, hc⟩ := HX.out k hlt
      have hk0 : (0 : Int) ≤ (k : Int) := by omega
      have hk1 : (k : Int) < (xs.length : Int) := by omega
      obtain ⟨u, hu⟩ : ∃ u, xs.getD k 0 = u := ⟨_, rfl⟩
      rw [hu] at hc
      have HU := Lib.hid hu
      clear hu
      by_cases e : u = n
      · have eb : (u == n) = true := by simpa using e
        have e2 := Lib.hid (show b = true by
          rw [← HB.out, decide_eq_true_eq, ← e, ← HU.out, List.getD_eq_getElem?_getD, List.getElem?_eq_getElem hlt]
          exact List.getElem_mem hlt)
        clear e
        go_wp2_with fail
        go_ret
        exact ⟨by rw [e2.out]; rfl, rfl⟩
      · have eb : (u == n) = false := by simpa using e
        have HE := Lib.hid e
        clear e
        go_wp2_with fail
        go_roundw
        case rel =>
          refine ⟨trivial, k + 1, by go_num, by omega, Lib.hid (fun j hj => ?_)⟩
          by_cases ej : j = k
          · subst ej; rw [HU.out]; exact HE.out
          · exact hno.out j (by omega)
        case measure => simp [intOf]; omega
    · have hge : ¬ (k : Int) < (xs.length : Int) := by omega
      have e2 := Lib.hid (show b = false by
        rw [← HB.out, decide_eq_false_iff_not]
        intro hm
        obtain ⟨j, hj, e⟩ := List.getElem_of_mem hm
        refine hno.out j (by omega) ?_
        rw [List.getD_eq_getElem?_getD, List.getElem?_eq_getElem hj]; exact e)
      clear hlt
      go_wp2_with fail
      go_ret
      exact ⟨by rw [e2.out]; rfl, rfl⟩
def MadeRowV (B : Nat) (W : World) (G : List Grp) (xs : List Int) (e : Ending) (w' : World) : Prop :=
  ∃ v cur, e = .returned v ∧ RowOk v (xs.map (Value.int .i64)) cur ∧ Owns B W w' (rowG 3 v cur :: G)
set_option maxRecDepth 100000 in
set_option maxHeartbeats 4000000 in
theorem law10_without {B : Nat} {W w : World} {G : List Grp} (i : Nat) {v : Value} {cur : List Value} {y : Int} {r : List Int} (hO : Owns B W w G) (hi : G[i]? = some (rowG 3 v cur)) (hr : RowOk v ((y :: r).map (Value.int .i64)) cur) (hl : r.length ≤ 100000) :
    Calls Try.prog 36 #[v] w (MadeRowV B W G r) := by
  rcases hr with ⟨rfl, h2, -⟩ | ⟨g, cap, rfl, h1, h2, h3, h4⟩
  · simp at h2
  have hcell : ∀ j u, (r.map (Value.int .i64))[j]? = some u → w.cell? ⟨g, 1 + j, none⟩ = some u := by
    intro j u hj
    have hb := hO.get i 0 hi (b := g) (o := .cells cur.toArray 3 (0, 0)) rfl
    rw [blk_cell hb (1 + j)]
    have e : (cur.take ((y :: r).map (Value.int .i64)).length)[1 + j]? = some u := by rw [h4, List.map_cons, Nat.add_comm, List.getElem?_cons_succ]; exact hj
    rw [List.getElem?_take] at e
    split at e
    · simpa using e
    · cases e
  have HC := Lib.hid hcell
  simp only [List.map_cons, List.length_cons, List.length_map] at h1 ⊢
  have hl1 : (1 : Int) ≤ ((r.length + 1 : Nat) : Int) := by omega
  have hl2 : ((r.length + 1 : Nat) : Int) ≤ (cap : Int) := by omega
  clear hcell h4 h3
  cases r with
  | nil =>
    go_enter Try.func36, Try.ntmps36
    go_wp2_with fail
    all_goals
      go_ret
      exact ⟨_, [], rfl, RowOk.nil, hO.nothing⟩
  | cons z r' =>
    go_enter Try.func36, Try.ntmps36
    go_wp2_with (at_builtin; refine stop_here ?_)
    all_goals unfold Stop
    all_goals try (exfalso; simp only [List.length_cons] at h1; omega)
    refine wpList_append_row rfl (.tmp 4) (.tmp 6) _ rfl 3 (.int .i64 0) 8 Try.underlying33 info_int rfl (by decide) (v := .slice none 0 0) (xs := []) (cur := []) rfl hO.nothing 0 rfl RowOk.nil ⟨g, 1, none⟩ _ _ ((z :: r').map (Value.int .i64)) rfl ?n0 ?n1 ?n2 (by simp) ?n3 ?_
    case n0 => simp
    case n1 =>
      intro j u hj
      have e : (⟨g, 1, none⟩ : Addr).add j = ⟨g, 1 + j, none⟩ := by unfold Addr.add; split <;> simp_all
      rw [e]; exact HC.out j u hj
    case n2 => intro u hu; rw [List.mem_map] at hu; obtain ⟨n, -, rfl⟩ := hu; rfl
    case n3 => simp at hl ⊢; omega
    intro v' cur' w' hr' hO'
    go_wp2_with fail
    go_ret
    exact ⟨_, cur', rfl, hr', hO'⟩
end Go.Proofs.Ytpebepjfgnoaaaa
