/- The epoch law's turn, alone. -/
import Derived.LoopTactic
import Derived.Test.YtpfahnnmbaipdaaEpE
namespace Go.Proofs.Ytpfahnnmbaipdaa
set_option linter.unusedVariables false
set_option linter.unusedSimpArgs false
open Go.RowKit
/-- what a turn tells alone, of the words that it leaves and its epoch. -/
def TurnOut (t : Int) (ws : List Int) (e1 : Int) (is : Bool) (c : Int) : Prop :=
  (is = true ∧ c = 2 + t ∧ ∀ j : Nat, (j : Int) < t → dOlder (wAt ws (4 + j)) e1 = false) ∨
  (is = false ∧ ∃ j : Nat, (j : Int) < t ∧ c = 3 + j ∧ dOlder (wAt ws (4 + j)) e1 = true ∧ ∀ i : Nat, i < j → dOlder (wAt ws (4 + i)) e1 = false)
/-- the words behind a turn. -/
def turnW (ws : List Int) : List Int := wPut ws 3 (wrap64 (wAt ws 3 + 1))
theorem turnW_len (ws : List Int) : (turnW ws).length = ws.length := wPut_len _ _ _
theorem turnW_ok {ws : List Int} (h : WOk ws) : WOk (turnW ws) := by
  unfold turnW wPut
  split
  · intro x hx
    rcases List.mem_or_eq_of_mem_set hx with hx | hx
    · exact h x hx
    · subst hx; unfold wrap64; omega
  · exact h
set_option maxRecDepth 100000 in
set_option maxHeartbeats 4000000 in
theorem law16_turn {B : Nat} {W w : World} {G : List Grp} (i : Nat) {p bw bb : Nat} {ws bs : List Int} {n : Int} (a s t : Int) (hO : Owns B W w G) (hi : G[i]? = some (memG p bw bb ws bs n)) (hl : ws.length ≤ 4096) (h8 : 8 ≤ ws.length) (hw : WOk ws) (hc : cfgOk a s t = true) :
    Calls Try.prog 22 #[.pointer (some ⟨p, 0, none⟩), .agg #[.int .i64 a, .int .i64 s, .int .i64 t]] w fun e w' => ∃ is c m, e = .returned (.tuple #[.bool is, .int .i64 c]) ∧ TurnOut t (turnW ws) (wrap64 (wAt ws 3 + 1)) is c ∧ Owns B W w' (G.set i (memG p bw bb (turnW ws) bs m)) := by
  have L := Lib.hid (lOk_yes hc)
  have ET := Lib.hid (of_yes hc).1
  have ES := Lib.hid (of_yes hc).2.1
  have NX := Lib.hid (show tNext a s t = 1 by unfold tNext; rw [if_pos hc])
  obtain ⟨-, -, -, -, -, t1, t4⟩ := cfgOk_of hc
  have T1 := Lib.hid t1
  have T4 := Lib.hid t4
  clear hc t1 t4
  have o3 : lOnce t 3 = 3 := by unfold lOnce; rw [if_neg (by have := T1.out; omega)]
  obtain ⟨v, hv⟩ : ∃ v, wAt ws 3 = v := ⟨_, rfl⟩
  obtain ⟨v1, hv1⟩ : ∃ v1, wrap64 (v + 1) = v1 := ⟨_, rfl⟩
  obtain ⟨ws1, hws1⟩ : ∃ x, turnW ws = x := ⟨_, rfl⟩
  have in3 : wIn ws 3 = true := by rw [wIn_iff]; omega
  have E1 := Lib.hid (show turnStep t ws t 1 0 0 = ⟨ws, 2, v, 0, false, false⟩ by unfold turnStep; rw [o3, hv]; rfl)
  have E2 := Lib.hid (show turnStep t ws t 2 v 0 = ⟨ws1, 3, v, 0, false, false⟩ by
    have hcas : wCas ws 3 v = true := by unfold wCas; rw [in3, hv]; simp
    unfold turnStep
    rw [if_neg (by decide), if_neg (by decide), if_pos rfl, o3, if_pos hcas]
    unfold wCasPut
    rw [if_pos hcas, ← hws1]; unfold turnW; rw [hv])
  have NT := Lib.hid (show ∀ j : Nat, (j : Int) < t → lNote t j = 4 + j from fun j hj => by unfold lNote; rw [if_pos (by omega)])
  have E3 := Lib.hid (show ∀ j : Nat, (j : Int) < t → dOlder (wAt ws1 (4 + j)) v1 = true → turnStep t ws1 t 3 v j = ⟨ws1, 0, v, j + 1, false, true⟩ from fun j hj ho => by
    unfold turnStep
    rw [if_neg (by decide), if_neg (by decide), if_neg (by decide), if_pos rfl, NT.out j hj, hv1, if_pos ho, show wrap64 ((j : Int) + 1) = j + 1 by have := T4.out; unfold wrap64; omega])
  have E4 := Lib.hid (show ∀ j : Nat, (j : Int) < t → dOlder (wAt ws1 (4 + j)) v1 = false → (j : Int) + 1 = t → turnStep t ws1 t 3 v j = ⟨ws1, 0, v, j + 1, true, true⟩ from fun j hj ho he => by
    unfold turnStep
    rw [if_neg (by decide), if_neg (by decide), if_neg (by decide), if_pos rfl, NT.out j hj, hv1, if_neg (by rw [ho]; decide), show wrap64 ((j : Int) + 1) = j + 1 by have := T4.out; unfold wrap64; omega, if_pos he])
  have E5 := Lib.hid (show ∀ j : Nat, (j : Int) < t → dOlder (wAt ws1 (4 + j)) v1 = false → ¬ (j : Int) + 1 = t → turnStep t ws1 t 3 v j = ⟨ws1, 3, v, j + 1, false, false⟩ from fun j hj ho he => by
    unfold turnStep
    rw [if_neg (by decide), if_neg (by decide), if_neg (by decide), if_pos rfl, NT.out j hj, hv1, if_neg (by rw [ho]; decide), show wrap64 ((j : Int) + 1) = j + 1 by have := T4.out; unfold wrap64; omega, if_neg he])
  have hl1 : ws1.length ≤ 4096 := by rw [← hws1, turnW_len]; exact hl
  have hw1 : WOk ws1 := by rw [← hws1]; exact turnW_ok hw
  rw [hv, hv1, hws1]
  have HW := Lib.hid hw
  have HW1 := Lib.hid hw1
  clear hv hv1 hws1 in3 o3 hw hw1
  go_enter Try.func22, Try.ntmps22
  go_wp2_with fail
  have hO := hO.alloc (.cells #[.int .i64 a, .int .i64 s, .int .i64 t] 23)
  generalize w.alloc (.cells #[.int .i64 a, .int .i64 s, .int .i64 t] 23) = w0 at hO ⊢
  generalize w.heap.size = cb at hO ⊢
  refine (epoch_NewTurn a s t hO).mono ?_; unfold turnNew; rw [ET.out, ES.out, NX.out]; rintro e w1 ⟨x, rfl, hO'⟩; have hO := hO'.swap.tail
  clear hO'
  have hi1 : ∀ (y : Grp) (z : List Int) (m : Int), (y :: G.set i (memG p bw bb z bs m))[i + 1]? = some (memG p bw bb z bs m) := fun y z m => by simpa using set_get hi _
  go_wp2_with fail
  go_loopw [7] (fun c wr => ∃ (j : Nat) (m : Int), c = .int .i64 j ∧ ((j = 1 ∧ Owns B W wr (machG 93 x t s t 1 0 0 :: G.set i (memG p bw bb ws bs m))) ∨ (j = 2 ∧ Owns B W wr (machG 93 x t s t 2 v 0 :: G.set i (memG p bw bb ws bs m))) ∨
    (∃ q : Nat, j = 3 + q ∧ (q : Int) < t ∧ (∀ r : Nat, r < q → dOlder (wAt ws1 (4 + r)) v1 = false) ∧ Owns B W wr (machG 93 x t s t 3 v q :: G.set i (memG p bw bb ws1 bs m))))) (fun c _ => 20 - (intOf c).toNat)
  case atStart => exact ⟨1, n, rfl, .inl ⟨rfl, by rw [set_same hi]; exact hO⟩⟩
  case round =>
    clear hO
    obtain ⟨j, m, rfl, hr⟩ := hrel
    rcases hr with ⟨rfl, hO⟩ | ⟨rfl, hO⟩ | ⟨q, rfl, hq, hno, hO⟩
    · go_wp2_with (go_at_call 21; refine (turn_Step_look (i + 1) 0 (by omega) hO (hi1 _ _ _) rfl L.out hl).mono ?_; rw [E1.out]; rintro e w5 ⟨rfl, m1, hO'⟩)
      go_roundw
      case rel => exact ⟨2, m1, by go_num, .inr (.inl ⟨rfl, by simpa only [List.set_cons_succ, List.set_cons_zero, List.set_set] using hO'⟩)⟩
      case measure => simp [intOf]
    · go_wp2_with (go_at_call 21; refine (turn_Step_swap (i + 1) 0 (by omega) hO (hi1 _ _ _) rfl L.out hl).mono ?_; rw [E2.out]; rintro e w5 ⟨rfl, m1, hO'⟩)
      go_roundw
      case rel => exact ⟨3, m1, by go_num, .inr (.inr ⟨0, rfl, by have := T1.out; omega, by intro r hr; omega, by rw [show ((0 : Nat) : Int) = 0 from rfl]; simpa only [List.set_cons_succ, List.set_cons_zero, List.set_set] using hO'⟩)⟩
      case measure => simp [intOf]
    · have j20 : ((3 + q : Nat) : Int) < 20 := by have := T4.out; omega
      have HN := Lib.hid hno
      have HQ := Lib.hid hq
      clear hno
      rcases bool_cases (b := dOlder (wAt ws1 (4 + q)) v1) with ho | ho
      · have EE := Lib.hid (E3.out q hq ho)
        have HO := Lib.hid ho
        clear ho hq
        go_wp2_with (go_at_call 21; refine (turn_Step_ask (i + 1) 0 (by omega) hO (hi1 _ _ _) rfl L.out hl1 HW1.out).mono ?_; rw [EE.out]; rintro e w5 ⟨rfl, m1, hO'⟩)
        go_ret2
        simp only [List.set_cons_succ, List.set_cons_zero, List.set_set] at hO'
        exact ⟨_, _, m1, rfl, .inr ⟨rfl, q, HQ.out, by omega, HO.out, HN.out⟩, hO'.tail⟩
      · by_cases he : (q : Int) + 1 = t
        · have EE := Lib.hid (E4.out q hq ho he)
          have HE := Lib.hid he
          have HO := Lib.hid ho
          clear ho hq he
          go_wp2_with (go_at_call 21; refine (turn_Step_ask (i + 1) 0 (by omega) hO (hi1 _ _ _) rfl L.out hl1 HW1.out).mono ?_; rw [EE.out]; rintro e w5 ⟨rfl, m1, hO'⟩)
          go_ret2
          simp only [List.set_cons_succ, List.set_cons_zero, List.set_set] at hO'
          exact ⟨_, _, m1, rfl, .inl ⟨rfl, by have := HE.out; omega, fun r hr => by
            by_cases h : r = q
            · rw [h]; exact HO.out
            · exact HN.out r (by have := HE.out; omega)⟩, hO'.tail⟩
        · have EE := Lib.hid (E5.out q hq ho he)
          have HE := Lib.hid he
          have HO := Lib.hid ho
          clear ho hq he
          go_wp2_with (go_at_call 21; refine (turn_Step_ask (i + 1) 0 (by omega) hO (hi1 _ _ _) rfl L.out hl1 HW1.out).mono ?_; rw [EE.out]; rintro e w5 ⟨rfl, m1, hO'⟩)
          go_roundw
          case rel => exact ⟨3 + (q + 1), m1, by go_num, .inr (.inr ⟨q + 1, rfl, by have := HE.out; have := HQ.out; omega, fun r hr => by
            by_cases h : r = q
            · rw [h]; exact HO.out
            · exact HN.out r (by omega), by rw [show ((q + 1 : Nat) : Int) = (q : Int) + 1 by omega]; simpa only [List.set_cons_succ, List.set_cons_zero, List.set_set] using hO'⟩)⟩
          case measure => simp [intOf]; omega
end Go.Proofs.Ytpfahnnmbaipdaa
