/- The epoch's machines: Turn.Step. -/
import Derived.Deep.RegionHeld3
import Derived.Outline
import Derived.LoopTactic
import Derived.Test.YtpfahnnmbaipdaaEpW
namespace Go.Proofs.Ytpfahnnmbaipdaa
set_option linter.unusedVariables false
set_option linter.unusedSimpArgs false
open Go.RowKit
set_option maxRecDepth 100000 in
set_option maxHeartbeats 4000000 in
theorem turn_Step_end {B : Nat} {W w : World} {G : List Grp} (i j : Nat) {x p bw bb : Nat} {ws bs : List Int} {n t s th ep ak : Int} (hO : Owns B W w G) (hi : G[i]? = some (memG p bw bb ws bs n)) (hj : G[j]? = some (machG 93 x t s th 0 ep ak)) :
    Calls Try.prog 21 #[.pointer (some ⟨x, 0, none⟩), memI p] w (TurnPost B W G i j x p bw bb bs t s th (turnStep t ws th 0 ep ak)) := by
  obtain ⟨c0, c1, c2, c3, c4, c5⟩ := mach_cells hO hj
  have Q := Lib.hid (show turnStep t ws th 0 ep ak = ⟨ws, 0, ep, ak, false, true⟩ by unfold turnStep; rfl)
  go_enter Try.func21, Try.ntmps21
  unfold memI at *
  go_wp2
  go_ret2; rw [Q.out]; exact ⟨rfl, n, by rw [List.set_of_getElem? hi, List.set_of_getElem? hj]; exact hO⟩
set_option maxRecDepth 100000 in
set_option maxHeartbeats 4000000 in
theorem turn_Step_look {B : Nat} {W w : World} {G : List Grp} (i j : Nat) {x p bw bb : Nat} {ws bs : List Int} {n t s th ep ak : Int} (hne : i ≠ j) (hO : Owns B W w G) (hi : G[i]? = some (memG p bw bb ws bs n)) (hj : G[j]? = some (machG 93 x t s th 1 ep ak)) (hL : lOk t s) (hl : ws.length ≤ 4096) :
    Calls Try.prog 21 #[.pointer (some ⟨x, 0, none⟩), memI p] w (TurnPost B W G i j x p bw bb bs t s th (turnStep t ws th 1 ep ak)) := by
  have L := Lib.hid hL
  obtain ⟨c0, c1, c2, c3, c4, c5⟩ := mach_cells hO hj
  obtain ⟨v, hv⟩ : ∃ v, wAt ws (lOnce t 3) = v := ⟨_, rfl⟩
  have V := Lib.hid hv
  have Q := Lib.hid (show turnStep t ws th 1 ep ak = ⟨ws, 2, v, ak, false, false⟩ by unfold turnStep; rw [hv]; rfl)
  have ns := nil_Load (some ⟨p, 0, none⟩)
  clear hL hv
  go_enter Try.func21, Try.ntmps21
  unfold memI at *
  go_wp2_with fail
  have hO := hO.drew
  first
    | go_loud (go_region_held3 (fun w => w.cell? ⟨x, 0, none⟩ = some (.int .i64 t) ∧ w.cell? ⟨x, 1, none⟩ = some (.int .i64 s)) (first | assumption | exact ⟨hO.cell j 0 hj rfl 0, hO.cell j 0 hj rfl 1⟩ | exact ⟨hO.cell j 0 (set_get_ne hj hne _) rfl 0, hO.cell j 0 (set_get_ne hj hne _) rfl 1⟩ | exact ⟨(mach_word hO (set_get_ne hj hne _) v).cell j 0 (set_get (set_get_ne hj hne _) _) rfl 0, (mach_word hO (set_get_ne hj hne _) v).cell j 0 (set_get (set_get_ne hj hne _) _) rfl 1⟩ | exact ⟨(mach_slot (mach_word hO (set_get_ne hj hne _) v) (set_get (set_get_ne hj hne _) _) 2).cell j 0 (set_get (set_get (set_get_ne hj hne _) _) _) rfl 0, (mach_slot (mach_word hO (set_get_ne hj hne _) v) (set_get (set_get_ne hj hne _) _) 2).cell j 0 (set_get (set_get (set_get_ne hj hne _) _) _) rfl 1⟩) (first | (go_at_call 47; refine (layout_Epoch _ _ _ L.out).mono ?_; rintro e w7 ⟨rfl, hb⟩; have hO := hO.via hb) | (go_at_call 16; refine (plain_Load i _ hO hi hl).mono ?_; rw [V.out]; rintro e w7 ⟨rfl, hO'⟩; have hO := hO'; have hf := mach_free hO (set_get_ne hj hne _) 4; have hf3 := mach_free hO (set_get_ne hj hne _) 3; have k4 := hO.cell j 0 (set_get_ne hj hne _) rfl 4; have k3 := hO.cell j 0 (set_get_ne hj hne _) rfl 3)))
    | fail "look"
  all_goals
    have hO := mach_slot (mach_word hO (set_get_ne hj hne _) v) (set_get (set_get_ne hj hne _) _) 2
    go_wp2_with fail
    go_ret2; rw [Q.out]; exact ⟨rfl, wrap64 (n + 1), by simpa only [List.set_set] using hO⟩
set_option maxRecDepth 100000 in
set_option maxHeartbeats 4000000 in
theorem turn_Step_swap {B : Nat} {W w : World} {G : List Grp} (i j : Nat) {x p bw bb : Nat} {ws bs : List Int} {n t s th ep ak : Int} (hne : i ≠ j) (hO : Owns B W w G) (hi : G[i]? = some (memG p bw bb ws bs n)) (hj : G[j]? = some (machG 93 x t s th 2 ep ak)) (hL : lOk t s) (hl : ws.length ≤ 4096) :
    Calls Try.prog 21 #[.pointer (some ⟨x, 0, none⟩), memI p] w (TurnPost B W G i j x p bw bb bs t s th (turnStep t ws th 2 ep ak)) := by
  have L := Lib.hid hL
  obtain ⟨c0, c1, c2, c3, c4, c5⟩ := mach_cells hO hj
  obtain ⟨q, hq⟩ : ∃ q, lOnce t 3 = q := ⟨_, rfl⟩
  have HQ := Lib.hid hq
  have ns := nil_Cas (some ⟨p, 0, none⟩)
  obtain ⟨b, hb⟩ : ∃ b, wCas ws q ep = b := ⟨_, rfl⟩
  have HB := Lib.hid hb
  have Q := Lib.hid (show turnStep t ws th 2 ep ak = (if b = true then ⟨wCasPut ws q ep (wrap64 (ep + 1)), 3, ep, ak, false, false⟩ else ⟨wCasPut ws q ep (wrap64 (ep + 1)), 1, ep, ak, false, false⟩) by
    unfold turnStep
    rw [hq, if_neg (by decide), if_neg (by decide), if_pos rfl, hb]
    cases b
    · rw [if_neg (by decide), if_neg (by decide)]; unfold wCasPut; rw [hb]; rfl
    · rfl)
  have EW := Lib.hid (show IntKind.i64.wrap (ep + 1) = wrap64 (ep + 1) by rw [IntKind.wrap_i64]; unfold wrap64; omega)
  have hf3 := mach_free hO hj 3
  have hjj := set_get hj (machG 93 x t s th 1 ep ak)
  have hii := set_get_ne hi (Ne.symm hne) (machG 93 x t s th 1 ep ak)
  clear hq hb hL
  unfold memI
  cases b
  all_goals
    go_enter Try.func21, Try.ntmps21
    go_wp2_with fail
    have hO := mach_slot hO hj 1
    generalize World.setCell _ _ _ = w1 at hO ⊢
    have hO := hO.drew
    obtain ⟨c0, c1, c2, c3, c4, c5⟩ := mach_cells hO hjj
    first
      | go_loud (go_region_held3 (fun w => w.cell? ⟨x, 0, none⟩ = some (.int .i64 t) ∧ w.cell? ⟨x, 1, none⟩ = some (.int .i64 s) ∧ w.cell? ⟨x, 4, none⟩ = some (.int .i64 ep)) (first | assumption | exact ⟨hO.cell j 0 hjj rfl 0, hO.cell j 0 hjj rfl 1, hO.cell j 0 hjj rfl 4⟩ | exact ⟨hO.cell j 0 (set_get_ne hjj hne _) rfl 0, hO.cell j 0 (set_get_ne hjj hne _) rfl 1, hO.cell j 0 (set_get_ne hjj hne _) rfl 4⟩) (first | (go_at_call 47; refine (layout_Epoch _ _ _ L.out).mono ?_; rw [HQ.out]; rintro e w7 ⟨rfl, hb⟩; have hO := hO.via hb) | (go_at_call 112; refine (plain_Cas i _ _ _ hO hii hl).mono ?_; try rw [EW.out]; rw [HB.out]; rintro e w7 ⟨rfl, hO'⟩; have hO := hO')))
      | fail "swap"
    all_goals
      have hf3 := mach_free hO (set_get_ne hjj hne _) 3
      have k3 := hO.cell j 0 (set_get_ne hjj hne _) rfl 3
      go_wp2_with fail
      go_ret2
      first
        | (rw [Q.out, if_neg (by decide)]; exact ⟨rfl, _, by rw [List.set_comm _ _ hne]; exact hO⟩)
        | (rw [Q.out, if_pos (by decide)]; exact ⟨rfl, _, by have hO := mach_slot hO (set_get_ne hjj hne _) 3; rw [List.set_comm _ _ (Ne.symm hne), List.set_set] at hO; exact hO⟩)
end Go.Proofs.Ytpfahnnmbaipdaa
