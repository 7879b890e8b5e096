/- The epoch law's enter, alone. -/
import Derived.LoopTactic
import Derived.Test.YtpfahnnmbaipdaaEpS
namespace Go.Proofs.Ytpfahnnmbaipdaa
set_option linter.unusedVariables false
set_option linter.unusedSimpArgs false
open Go.RowKit
/-- the words behind an enter. -/
def enterW (T : Int) (ws : List Int) (k : Int) : List Int := if lNote T k < 0 then ws else wPut ws (lNote T k) (wrap64 (wAt ws (lOnce T 3) + 1))
set_option maxRecDepth 100000 in
set_option maxHeartbeats 4000000 in
theorem law16_enter {B : Nat} {W w : World} {G : List Grp} (i : Nat) {p bw bb : Nat} {ws bs : List Int} {n : Int} (a s t k : Int) (hO : Owns B W w G) (hi : G[i]? = some (memG p bw bb ws bs n)) (hl : ws.length ≤ 4096) (hc : cfgOk a s t = true) :
    Calls Try.prog 23 #[.pointer (some ⟨p, 0, none⟩), .agg #[.int .i64 a, .int .i64 s, .int .i64 t], .int .i64 k] w fun e w' => e = .returned (.tuple #[]) ∧ ∃ m, Owns B W w' (G.set i (memG p bw bb (enterW t ws k) bs m)) := by
  have L := Lib.hid (lOk_yes hc)
  have ET := Lib.hid (of_yes hc).1
  have ES := Lib.hid (of_yes hc).2.1
  clear hc
  go_enter Try.func23, Try.ntmps23
  go_wp2_with fail
  have hO := hO.alloc (.cells #[.int .i64 a, .int .i64 s, .int .i64 t] 23)
  generalize w.alloc (.cells #[.int .i64 a, .int .i64 s, .int .i64 t] 23) = w0 at hO ⊢
  generalize w.heap.size = cb at hO ⊢
  refine (epoch_NewEnter a s t k hO).mono ?_; rw [ET.out, ES.out]; rintro e w1 ⟨x, rfl, hO'⟩; have hO := hO'.swap.tail
  clear hO'
  obtain ⟨q, hq⟩ : ∃ q, lNote t k = q := ⟨_, rfl⟩
  obtain ⟨v, hv⟩ : ∃ v, wAt ws (lOnce t 3) = v := ⟨_, rfl⟩
  have XY := Lib.hid (show q < 0 → enterW t ws k = ws by intro h; unfold enterW; rw [hq, if_pos (by omega)])
  have XN := Lib.hid (show 0 ≤ q → enterW t ws k = wPut ws q (wrap64 (v + 1)) by intro h; unfold enterW; rw [hq, hv, if_neg (by omega)])
  have E0 := Lib.hid (show ∀ ep, entStep t ws q 0 ep = ⟨ws, 0, ep, true⟩ from fun ep => by unfold entStep; rfl)
  have E1 := Lib.hid (show entStep t ws q 1 0 = ⟨ws, 2, v, false⟩ by unfold entStep; rw [hv]; rfl)
  have E2 := Lib.hid (show entStep t ws q 2 v = ⟨wPut ws q (wrap64 (v + 1)), 0, v, true⟩ by unfold entStep; rfl)
  have NW := Lib.hid (show entNew t s k x = entG x t s q (if q < 0 then 0 else 1) 0 by unfold entNew; rw [hq])
  clear hq hv
  have hi1 : ∀ (y : Grp) (m : Int), (y :: G.set i (memG p bw bb ws bs m))[i + 1]? = some (memG p bw bb ws bs m) := fun y m => by simpa using set_get hi _
  go_wp2_with fail
  go_loopw [7] (fun c wr => ∃ (j : Nat) (m : Int), c = .int .i64 j ∧ ((j = 0 ∧ Owns B W wr (entG x t s q (if q < 0 then 0 else 1) 0 :: G.set i (memG p bw bb ws bs m))) ∨ (j = 1 ∧ 0 ≤ q ∧ Owns B W wr (entG x t s q 2 v :: G.set i (memG p bw bb ws bs m))))) (fun c _ => 5 - (intOf c).toNat)
  case atStart => exact ⟨0, n, rfl, .inl ⟨rfl, by rw [← NW.out, set_same hi]; exact hO⟩⟩
  case round =>
    clear hO
    obtain ⟨j, m, rfl, hr⟩ := hrel
    rcases hr with ⟨rfl, hO⟩ | ⟨rfl, h0, hO⟩
    · by_cases h0 : 0 ≤ q
      · rw [if_neg (by omega)] at hO
        go_wp2_with (go_at_call 18; refine (enter_Step_look (i + 1) 0 (by omega) hO (hi1 _ _) rfl L.out hl).mono ?_; rw [E1.out]; rintro e w5 ⟨rfl, m1, hO'⟩)
        go_roundw
        case rel => exact ⟨1, m1, by go_num, .inr ⟨rfl, h0, by simpa only [List.set_cons_succ, List.set_cons_zero, List.set_set] using hO'⟩⟩
        case measure => simp [intOf]
      · rw [if_pos (by omega)] at hO
        go_wp2_with (go_at_call 18; refine (enter_Step_end (i + 1) 0 hO (hi1 _ _) rfl).mono ?_; rw [E0.out]; rintro e w5 ⟨rfl, m1, hO'⟩)
        refine bodyPost_ret (v := .tuple #[]) (by simp [results, Try.results23, go_sem]) rfl ⟨rfl, m1, ?_⟩
        rw [XY.out (by omega)]
        simp only [List.set_cons_succ, List.set_cons_zero, List.set_set] at hO'
        exact hO'.tail
    · go_wp2_with (go_at_call 18; refine (enter_Step_put (i + 1) 0 (by omega) hO (hi1 _ _) rfl hl).mono ?_; rw [E2.out]; rintro e w5 ⟨rfl, m1, hO'⟩)
      refine bodyPost_ret (v := .tuple #[]) (by simp [results, Try.results23, go_sem]) rfl ⟨rfl, m1, ?_⟩
      rw [XN.out h0]
      simp only [List.set_cons_succ, List.set_cons_zero, List.set_set] at hO'
      exact hO'.tail
end Go.Proofs.Ytpfahnnmbaipdaa
