/- The epoch law's turn of no config; Inside. -/
import Derived.LoopTactic
import Derived.Deep.RegionHeld3
import Derived.Test.YtpfahnnmbaipdaaEpU
import Derived.Test.YtpfahnnmbaipdaaOwn2
import Derived.Test.YtpfahnnmbaipdaaSm
namespace Go.Proofs.Ytpfahnnmbaipdaa
set_option linter.unusedVariables false
set_option linter.unusedSimpArgs false
open Go.RowKit
set_option maxRecDepth 100000 in
set_option maxHeartbeats 4000000 in
theorem law16_turn_no {B : Nat} {W w : World} {G : List Grp} (i : Nat) {p bw bb : Nat} {ws bs : List Int} {n : Int} (a s t : Int) (hO : Owns B W w G) (hi : G[i]? = some (memG p bw bb ws bs n)) (hc : cfgOk a s t = false) :
    Calls Try.prog 22 #[.pointer (some ⟨p, 0, none⟩), .agg #[.int .i64 a, .int .i64 s, .int .i64 t]] w fun e w' => e = .returned (.tuple #[.bool false, .int .i64 1]) ∧ ∃ m, Owns B W w' (G.set i (memG p bw bb ws bs m)) := by
  have NX := Lib.hid (show tNext a s t = 0 by unfold tNext; rw [hc]; rfl)
  have E1 := Lib.hid (show turnStep (ofT a s t) ws t 0 0 0 = ⟨ws, 0, 0, 0, false, true⟩ by unfold turnStep; rfl)
  clear hc
  go_enter Try.func22, Try.ntmps22
  go_wp2_with fail
  have hO := hO.alloc (.cells #[.int .i64 a, .int .i64 s, .int .i64 t] 23)
  generalize w.alloc (.cells #[.int .i64 a, .int .i64 s, .int .i64 t] 23) = w0 at hO ⊢
  generalize w.heap.size = cb at hO ⊢
  refine (epoch_NewTurn a s t hO).mono ?_; unfold turnNew; rw [NX.out]; rintro e w1 ⟨x, rfl, hO'⟩; have hO := hO'.swap.tail
  clear hO'
  have hi1 : ∀ (y : Grp) (m : Int), (y :: G.set i (memG p bw bb ws bs m))[i + 1]? = some (memG p bw bb ws bs m) := fun y m => by simpa using set_get hi _
  go_wp2_with fail
  go_loopw [7] (fun c wr => ∃ m, c = .int .i64 1 ∧ Owns B W wr (machG 93 x (ofT a s t) (ofS a s t) t 0 0 0 :: G.set i (memG p bw bb ws bs m))) (fun c _ => 20 - (intOf c).toNat)
  case atStart => exact ⟨n, rfl, by rw [set_same hi]; exact hO⟩
  case round =>
    clear hO
    obtain ⟨m, rfl, hO⟩ := hrel
    go_wp2_with (go_at_call 21; refine (turn_Step_end (i + 1) 0 hO (hi1 _ _) rfl).mono ?_; rw [E1.out]; rintro e w5 ⟨rfl, m1, hO'⟩)
    go_ret2
    simp only [List.set_cons_succ, List.set_cons_zero, List.set_set] at hO'
    exact ⟨rfl, m1, hO'.tail⟩
set_option maxRecDepth 100000 in
theorem inside_none (a s t : Int) (w : World) : Calls Try.prog 20 #[.nilIface, .agg #[.int .i64 a, .int .i64 s, .int .i64 t]] w fun e w' => e = .returned (.slice none 0 0) ∧ Below w.heap.size w w' := by
  have hO := Owns.nil w
  obtain ⟨T, hT⟩ : ∃ T, ofT a s t = T := ⟨_, rfl⟩
  obtain ⟨S, hS⟩ : ∃ S, ofS a s t = S := ⟨_, rfl⟩
  obtain ⟨E, hE⟩ : ∃ E, ofE a s t = E := ⟨_, rfl⟩
  have HT := Lib.hid hT
  have HS := Lib.hid hS
  have HE := Lib.hid hE
  clear hT hS hE
  have key : ∀ b : Bool, (E == 0) = b → Calls Try.prog 20 #[.nilIface, .agg #[.int .i64 a, .int .i64 s, .int .i64 t]] w fun e w' => e = .returned (.slice none 0 0) ∧ Below w.heap.size w w' := by
    intro b hb
    cases b
    all_goals
      go_enter Try.func20, Try.ntmps20
      go_wp2_with fail
      have hO := hO.alloc (.cells #[.int .i64 a, .int .i64 s, .int .i64 t] 23)
      generalize hw0 : w.alloc (.cells #[.int .i64 a, .int .i64 s, .int .i64 t] 23) = w0 at hO ⊢
      refine (layout_Of _ _ _ _).mono ?_; rw [HT.out, HS.out, HE.out]; rintro e w1 ⟨rfl, hb⟩; have hO := hO.via hb
      have hO := hO.alloc (.cells #[.int .i64 T, .int .i64 S] 56)
      go_wp2_with fail
      all_goals (go_ret; exact ⟨rfl, hO.below⟩)
  exact key _ rfl
end Go.Proofs.Ytpfahnnmbaipdaa
