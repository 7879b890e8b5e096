/- The epoch's machines: Turn.Step, asking. -/
import Derived.Deep.RegionHeld3
import Derived.Outline
import Derived.LoopTactic
import Derived.Test.YtpfahnnmbaipdaaEpT
namespace Go.Proofs.Ytpfahnnmbaipdaa
set_option linter.unusedVariables false
set_option linter.unusedSimpArgs false
open Go.RowKit
theorem set_again {B : Nat} {W w : World} {G : List Grp} {j : Nat} {a b : Grp} (h : Owns B W w ((G.set j a).set j b)) : Owns B W w (G.set j b) := by rwa [List.set_set] at h
set_option maxRecDepth 100000 in
set_option maxHeartbeats 4000000 in
theorem turn_Step_ask {B : Nat} {W w : World} {G : List Grp} (i j : Nat) {x p bw bb : Nat} {ws bs : List Int} {n t s th ep ak : Int} (hne : i ≠ j) (hO : Owns B W w G) (hi : G[i]? = some (memG p bw bb ws bs n)) (hj : G[j]? = some (machG 93 x t s th 3 ep ak)) (hL : lOk t s) (hl : ws.length ≤ 4096) (hw : WOk ws) :
    Calls Try.prog 21 #[.pointer (some ⟨x, 0, none⟩), memI p] w (TurnPost B W G i j x p bw bb bs t s th (turnStep t ws th 3 ep ak)) := by
  have L := Lib.hid hL
  obtain ⟨c0, c1, c2, c3, c4, c5⟩ := mach_cells hO hj
  obtain ⟨q, hq⟩ : ∃ q, lNote t ak = q := ⟨_, rfl⟩
  have HQ := Lib.hid hq
  obtain ⟨v, hv⟩ : ∃ v, wAt ws q = v := ⟨_, rfl⟩
  have HV := Lib.hid hv
  have VB := Lib.hid (show -9223372036854775808 ≤ v ∧ v ≤ 9223372036854775807 by rw [← hv]; exact wAt_bd hw q)
  have ns := nil_Load (some ⟨p, 0, none⟩)
  obtain ⟨e1, he1⟩ : ∃ e1, wrap64 (ep + 1) = e1 := ⟨_, rfl⟩
  have EW := Lib.hid (show IntKind.i64.wrap (ep + 1) = e1 by rw [IntKind.wrap_i64, ← he1]; unfold wrap64; omega)
  obtain ⟨k1, hk1⟩ : ∃ k1, wrap64 (ak + 1) = k1 := ⟨_, rfl⟩
  have KW : IntKind.i64.wrap (ak + 1) = k1 := by rw [IntKind.wrap_i64, ← hk1]; unfold wrap64; omega
  have KW' : wrap64 (ak + 1) = k1 := hk1
  obtain ⟨b, hb⟩ : ∃ b, dOlder v e1 = b := ⟨_, rfl⟩
  have HB := Lib.hid hb
  have hQ := Lib.hid (show turnStep t ws th 3 ep ak = (if b = true then ⟨ws, 0, ep, k1, false, true⟩ else if k1 = th then ⟨ws, 0, ep, k1, true, true⟩ else ⟨ws, 3, ep, k1, false, false⟩) by
    unfold turnStep
    rw [hq, hv, he1, hb, hk1, if_neg (by decide), if_neg (by decide), if_neg (by decide), if_pos rfl])
  clear hq hb hL hv he1 hk1 hw
  unfold memI
  have key : ∀ (c : Bool), (k1 == th) = c → Calls Try.prog 21 #[.pointer (some ⟨x, 0, none⟩), .iface 26 (.pointer (some ⟨p, 0, none⟩))] w (TurnPost B W G i j x p bw bb bs t s th (turnStep t ws th 3 ep ak)) := by
    intro c hc
    cases b <;> cases c
    all_goals
      go_enter Try.func21, Try.ntmps21
      go_wp2_with fail
      have hO := hO.drew
      first
        | go_loud (go_region_held3 (fun w => w.cell? ⟨x, 0, none⟩ = some (.int .i64 t) ∧ w.cell? ⟨x, 1, none⟩ = some (.int .i64 s) ∧ w.cell? ⟨x, 4, none⟩ = some (.int .i64 ep) ∧ w.cell? ⟨x, 5, none⟩ = some (.int .i64 ak)) (first | assumption | exact ⟨hO.cell j 0 hj rfl 0, hO.cell j 0 hj rfl 1, hO.cell j 0 hj rfl 4, hO.cell j 0 hj rfl 5⟩ | exact ⟨hO.cell j 0 (set_get_ne hj hne _) rfl 0, hO.cell j 0 (set_get_ne hj hne _) rfl 1, hO.cell j 0 (set_get_ne hj hne _) rfl 4, hO.cell j 0 (set_get_ne hj hne _) rfl 5⟩) (first | (go_at_call 46; refine (layout_Note _ _ _ _ L.out).mono ?_; rw [HQ.out]; rintro e w7 ⟨rfl, hb⟩; have hO := hO.via hb) | (go_at_call 16; refine (plain_Load i _ hO hi hl).mono ?_; rw [HV.out]; rintro e w7 ⟨rfl, hO'⟩; have hO := hO') | (go_at_call 49; refine (head_Older _ _ _ VB.out.1 VB.out.2).mono ?_; try rw [EW.out]; rw [HB.out]; rintro e w7 ⟨rfl, rfl⟩)))
        | fail "ask"
      all_goals
        have hf3 := mach_free hO (set_get_ne hj hne _) 3
        have hf5 := mach_free hO (set_get_ne hj hne _) 5
        obtain ⟨c0, c1, c2, c3, c4, c5⟩ := mach_cells hO (set_get_ne hj hne _)
        go_wp2_with fail
        have hO := mach_to hO (set_get_ne hj hne _) k1
        generalize World.setCell _ _ _ = w8 at hO ⊢
        have hjj := set_get (set_get_ne hj hne (memG p bw bb ws bs (wrap64 (n + 1)))) (machG 93 x t s th 3 ep k1)
        obtain ⟨c0, c1, c2, c3, c4, c5⟩ := mach_cells hO hjj
        have hf3 := mach_free hO hjj 3
        go_quiet (fail)
        go_wp2_with fail
        go_ret2
        first
          | (rw [hQ.out, if_pos (by decide)]; exact ⟨rfl, _, set_again (mach_slot (hO.drewN _) hjj 0)⟩)
          | (have hk : k1 = th := by simpa using hc
             rw [hQ.out, if_neg (by decide), if_pos hk]; exact ⟨rfl, _, set_again (mach_slot (hO.drewN _) hjj 0)⟩)
          | (have hk : k1 ≠ th := by simpa using hc
             rw [hQ.out, if_neg (by decide), if_neg hk]; exact ⟨rfl, _, hO.drewN _⟩)
  exact key _ rfl
end Go.Proofs.Ytpfahnnmbaipdaa
