/- The walks of the stack's machines' steps: Push. -/
import Derived.Deep.RegionHeld3
import Derived.Outline
import Derived.LoopTactic
import Derived.Test.YtpebepjfgnoaaaaStP
namespace Go.Proofs.Ytpebepjfgnoaaaa
set_option linter.unusedVariables false
set_option linter.unusedSimpArgs false
open Go.RowKit
set_option maxRecDepth 100000 in
set_option maxHeartbeats 8000000 in
theorem push_Step_look {B : Nat} {W w : World} {G : List Grp} (i j : Nat) {T : TypeId} {x p bw bb : Nat} {ws bs : List Int} {n t s sl wd to : Int} (hne : i ≠ j) (hO : Owns B W w G) (hi : G[i]? = some (memG p bw bb ws bs n)) (hj : G[j]? = some (machG T x t s 1 sl wd to)) (hL : lOk t s) (hl : ws.length ≤ 4096) :
    Calls Try.prog 32 #[.pointer (some ⟨x, 0, none⟩), memI p] w (PushPost B W G i j T x p bw bb bs t s (pushStep t s ws 1 sl wd to)) := by
  have L := Lib.hid hL
  obtain ⟨c0, c1, c2, c3, c4, c5⟩ := mach_cells hO hj
  obtain ⟨k, hk⟩ : ∃ k, lOf t s sl 2 = k := ⟨_, rfl⟩
  obtain ⟨v, hv⟩ : ∃ v, wAt ws (lOnce t 1) = v := ⟨_, rfl⟩
  have V := Lib.hid hv
  have K := Lib.hid hk
  have hq : pushStep t s ws 1 sl wd to = (if k < 0 then ⟨ws, 0, sl, wd, to, 0, 1, true⟩ else if dIs v = true then ⟨ws, 2, sl, v, to, 0, 0, false⟩ else ⟨ws, 0, sl, v, to, 0, 2, true⟩) := by unfold pushStep; rw [hv, hk]; rfl
  clear hL hv hk
  by_cases h0 : k < 0
  · have Q := Lib.hid (hq.trans (if_pos h0))
    clear hq
    go_enter Try.func32, Try.ntmps32
    unfold memI at *
    go_wp2_with fail
    have hO := hO.drew
    first
      | go_loud (go_region_held3 (fun w => w.cell? ⟨x, 0, none⟩ = some (.int .i64 t) ∧ w.cell? ⟨x, 1, none⟩ = some (.int .i64 s) ∧ w.cell? ⟨x, 3, none⟩ = some (.int .i64 sl) ∧ w.cell? ⟨x, 4, none⟩ = some (.int .i64 wd)) (first | assumption | exact ⟨hO.cell j 0 hj rfl 0, hO.cell j 0 hj rfl 1, hO.cell j 0 hj rfl 3, hO.cell j 0 hj rfl 4⟩ | exact ⟨hO.cell j 0 (set_get_ne hj hne _) rfl 0, hO.cell j 0 (set_get_ne hj hne _) rfl 1, hO.cell j 0 (set_get_ne hj hne _) rfl 3, hO.cell j 0 (set_get_ne hj hne _) rfl 4⟩) ((go_at_call 12; refine (layout_Link _ _ _ _ L.out).mono ?_; rw [K.out]; rintro e w7 ⟨rfl, hb⟩; have hO := hO.via hb)))
      | fail "link"
    all_goals
      obtain ⟨c0, c1, c2, c3, c4, c5⟩ := mach_cells hO hj
      have hf2 := mach_free hO hj 2
      have hO := mach_next hO hj 0
      go_wp2_with fail
      go_ret2; rw [Q.out]; exact ⟨rfl, n, by rw [List.set_of_getElem? hi]; exact hO⟩
  · have h0' : 0 ≤ k := by omega
    have hq := hq.trans (if_neg h0)
    clear h0
    rcases bool_cases (b := dIs v) with hd | hd
    · have D := Lib.hid hd
      have Q := Lib.hid (hq.trans (if_pos hd))
      clear hd hq
      go_enter Try.func32, Try.ntmps32
      unfold memI at *
      go_wp2_with fail
      have hO := hO.drew
      first
        | go_loud (go_region_held3 (fun w => w.cell? ⟨x, 0, none⟩ = some (.int .i64 t) ∧ w.cell? ⟨x, 1, none⟩ = some (.int .i64 s) ∧ w.cell? ⟨x, 3, none⟩ = some (.int .i64 sl) ∧ w.cell? ⟨x, 4, none⟩ = some (.int .i64 wd)) (first | assumption | exact ⟨hO.cell j 0 hj rfl 0, hO.cell j 0 hj rfl 1, hO.cell j 0 hj rfl 3, hO.cell j 0 hj rfl 4⟩ | exact ⟨hO.cell j 0 (set_get_ne hj hne _) rfl 0, hO.cell j 0 (set_get_ne hj hne _) rfl 1, hO.cell j 0 (set_get_ne hj hne _) rfl 3, hO.cell j 0 (set_get_ne hj hne _) rfl 4⟩) ((go_at_call 12; refine (layout_Link _ _ _ _ L.out).mono ?_; rw [K.out]; rintro e w7 ⟨rfl, hb⟩; have hO := hO.via hb)))
        | fail "link"
      all_goals
        go_wp2_with (go_at_call 58; refine (mach_look i j hne hO hi hj L.out hl).mono ?_; rw [V.out, D.out]; rintro e' w1 ⟨rfl, hO'⟩; have hO := hO'; obtain ⟨c0, c1, c2, c3, c4, c5⟩ := mach_cells hO (set_get (set_get_ne hj hne _) _); have hf2 := mach_free hO (set_get (set_get_ne hj hne _) _) 2)
        have hO := mach_next hO (set_get (set_get_ne hj hne _) _) 2
        go_ret2; rw [Q.out]; exact ⟨rfl, wrap64 (n + 1), by simpa only [List.set_set] using hO⟩
    · have D := Lib.hid hd
      have Q := Lib.hid (hq.trans (if_neg (by rw [hd]; decide)))
      clear hd hq
      go_enter Try.func32, Try.ntmps32
      unfold memI at *
      go_wp2_with fail
      have hO := hO.drew
      first
        | go_loud (go_region_held3 (fun w => w.cell? ⟨x, 0, none⟩ = some (.int .i64 t) ∧ w.cell? ⟨x, 1, none⟩ = some (.int .i64 s) ∧ w.cell? ⟨x, 3, none⟩ = some (.int .i64 sl) ∧ w.cell? ⟨x, 4, none⟩ = some (.int .i64 wd)) (first | assumption | exact ⟨hO.cell j 0 hj rfl 0, hO.cell j 0 hj rfl 1, hO.cell j 0 hj rfl 3, hO.cell j 0 hj rfl 4⟩ | exact ⟨hO.cell j 0 (set_get_ne hj hne _) rfl 0, hO.cell j 0 (set_get_ne hj hne _) rfl 1, hO.cell j 0 (set_get_ne hj hne _) rfl 3, hO.cell j 0 (set_get_ne hj hne _) rfl 4⟩) ((go_at_call 12; refine (layout_Link _ _ _ _ L.out).mono ?_; rw [K.out]; rintro e w7 ⟨rfl, hb⟩; have hO := hO.via hb)))
        | fail "link"
      all_goals
        go_wp2_with (go_at_call 58; refine (mach_look i j hne hO hi hj L.out hl).mono ?_; rw [V.out, D.out]; rintro e' w1 ⟨rfl, hO'⟩; have hO := hO'; obtain ⟨c0, c1, c2, c3, c4, c5⟩ := mach_cells hO (set_get (set_get_ne hj hne _) _); have hf2 := mach_free hO (set_get (set_get_ne hj hne _) _) 2)
        have hO := mach_next hO (set_get (set_get_ne hj hne _) _) 0
        go_ret2; rw [Q.out]; exact ⟨rfl, wrap64 (n + 1), by simpa only [List.set_set] using hO⟩
set_option maxRecDepth 100000 in
set_option maxHeartbeats 8000000 in
theorem push_Step_link {B : Nat} {W w : World} {G : List Grp} (i j : Nat) {T : TypeId} {x p bw bb : Nat} {ws bs : List Int} {n t s sl wd to : Int} (hne : i ≠ j) (hO : Owns B W w G) (hi : G[i]? = some (memG p bw bb ws bs n)) (hj : G[j]? = some (machG T x t s 2 sl wd to)) (hL : lOk t s) (hl : ws.length ≤ 4096) :
    Calls Try.prog 32 #[.pointer (some ⟨x, 0, none⟩), memI p] w (PushPost B W G i j T x p bw bb bs t s (pushStep t s ws 2 sl wd to)) := by
  have L := Lib.hid hL
  obtain ⟨c0, c1, c2, c3, c4, c5⟩ := mach_cells hO hj
  obtain ⟨k, hk⟩ : ∃ k, lOf t s sl 2 = k := ⟨_, rfl⟩
  obtain ⟨r1, hr1⟩ : ∃ r, (dPush wd sl).1 = r := ⟨_, rfl⟩
  obtain ⟨r2, hr2⟩ : ∃ r, (dPush wd sl).2.1 = r := ⟨_, rfl⟩
  obtain ⟨r3, hr3⟩ : ∃ r, (dPush wd sl).2.2 = r := ⟨_, rfl⟩
  have Q := Lib.hid (show pushStep t s ws 2 sl wd to = ⟨wPut ws k r2, 3, sl, wd, r1, 0, 0, false⟩ by unfold pushStep; rw [hk, hr1, hr2]; rfl)
  have K := Lib.hid hk
  have R1 := Lib.hid hr1
  have R2 := Lib.hid hr2
  have R3 := Lib.hid hr3
  have ns := nil_Store (some ⟨p, 0, none⟩)
  clear hL hk hr1 hr2 hr3
  go_enter Try.func32, Try.ntmps32
  unfold memI at *
  go_wp2_with fail
  have hO := hO.drew
  first
    | go_loud (go_region_held3 (fun w => w.cell? ⟨x, 0, none⟩ = some (.int .i64 t) ∧ w.cell? ⟨x, 1, none⟩ = some (.int .i64 s) ∧ w.cell? ⟨x, 3, none⟩ = some (.int .i64 sl) ∧ w.cell? ⟨x, 4, none⟩ = some (.int .i64 wd)) (first | assumption | exact ⟨hO.cell j 0 hj rfl 0, hO.cell j 0 hj rfl 1, hO.cell j 0 hj rfl 3, hO.cell j 0 hj rfl 4⟩ | exact ⟨hO.cell j 0 (set_get_ne hj hne _) rfl 0, hO.cell j 0 (set_get_ne hj hne _) rfl 1, hO.cell j 0 (set_get_ne hj hne _) rfl 3, hO.cell j 0 (set_get_ne hj hne _) rfl 4⟩) ((go_at_call 59; refine (head_Push _ _ _).mono ?_; rw [R1.out, R2.out, R3.out]; rintro e w7 ⟨rfl, hb⟩; have hO := hO.via hb)))
    | fail "push"
  all_goals
    obtain ⟨c0, c1, c2, c3, c4, c5⟩ := mach_cells hO hj
    go_wp2_with fail
    have hO := hO.drew
    first
      | go_loud (go_region_held3 (fun w => w.cell? ⟨x, 0, none⟩ = some (.int .i64 t) ∧ w.cell? ⟨x, 1, none⟩ = some (.int .i64 s) ∧ w.cell? ⟨x, 3, none⟩ = some (.int .i64 sl) ∧ w.cell? ⟨x, 4, none⟩ = some (.int .i64 wd)) (first | assumption | exact ⟨hO.cell j 0 hj rfl 0, hO.cell j 0 hj rfl 1, hO.cell j 0 hj rfl 3, hO.cell j 0 hj rfl 4⟩ | exact ⟨hO.cell j 0 (set_get_ne hj hne _) rfl 0, hO.cell j 0 (set_get_ne hj hne _) rfl 1, hO.cell j 0 (set_get_ne hj hne _) rfl 3, hO.cell j 0 (set_get_ne hj hne _) rfl 4⟩) (first | (go_at_call 12; refine (layout_Link _ _ _ _ L.out).mono ?_; rw [K.out]; rintro e w7 ⟨rfl, hb⟩; have hO := hO.via hb) | (go_at_call 24; refine (plain_Store i _ _ hO hi hl).mono ?_; rintro e w8 ⟨rfl, hO'⟩; have hO := hO')))
      | fail "store"
    all_goals
      obtain ⟨c0, c1, c2, c3, c4, c5⟩ := mach_cells hO (set_get_ne hj hne _)
      have hf2 := mach_free hO (set_get_ne hj hne _) 2
      have hf5 := mach_free hO (set_get_ne hj hne _) 5
      have hO := mach_next (mach_to hO (set_get_ne hj hne _) r1) (set_get (set_get_ne hj hne _) _) 3
      go_wp2_with fail
      go_ret2; rw [Q.out]; exact ⟨rfl, wrap64 (n + 1), by simpa only [List.set_set] using hO⟩
set_option maxRecDepth 100000 in
set_option maxHeartbeats 4000000 in
theorem push_Step_swap {B : Nat} {W w : World} {G : List Grp} (i j : Nat) {T : TypeId} {x p bw bb : Nat} {ws bs : List Int} {n t s sl wd to : Int} (hne : i ≠ j) (hO : Owns B W w G) (hi : G[i]? = some (memG p bw bb ws bs n)) (hj : G[j]? = some (machG T x t s 3 sl wd to)) (hL : lOk t s) (hl : ws.length ≤ 4096) :
    Calls Try.prog 32 #[.pointer (some ⟨x, 0, none⟩), memI p] w (PushPost B W G i j T x p bw bb bs t s (pushStep t s ws 3 sl wd to)) := by
  have L := Lib.hid hL
  obtain ⟨c0, c1, c2, c3, c4, c5⟩ := mach_cells hO hj
  clear hL
  rcases bool_cases (b := wCas ws (lOnce t 1) wd) with hc | hc
  · have C := Lib.hid hc
    have Q := Lib.hid (show pushStep t s ws 3 sl wd to = ⟨wCasPut ws (lOnce t 1) wd to, 0, sl, wd, to, 0, 0, true⟩ by unfold pushStep; rw [if_neg (by decide), if_neg (by decide), if_pos rfl, if_pos hc])
    clear hc
    go_enter Try.func32, Try.ntmps32
    unfold memI at *
    go_wp2_with (go_at_call 60; refine (mach_swap i j hne hO hi hj L.out hl).mono ?_; rw [C.out]; rintro e' w1 ⟨rfl, hO'⟩; have hO := hO'; obtain ⟨c0, c1, c2, c3, c4, c5⟩ := mach_cells hO (set_get (set_get_ne hj hne _) _))
    rw [show bI' true = 0 from rfl] at hO
    go_ret2; rw [Q.out]; exact ⟨rfl, wrap64 (n + 1), by simpa only [List.set_set] using hO⟩
  · have C := Lib.hid hc
    have Q := Lib.hid (show pushStep t s ws 3 sl wd to = ⟨ws, 1, sl, wd, to, 0, 0, false⟩ by unfold pushStep; rw [if_neg (by decide), if_neg (by decide), if_pos rfl, if_neg (by rw [hc]; decide)])
    have P := Lib.hid (show wCasPut ws (lOnce t 1) wd to = ws by unfold wCasPut; rw [if_neg (by rw [hc]; decide)])
    clear hc
    go_enter Try.func32, Try.ntmps32
    unfold memI at *
    go_wp2_with (go_at_call 60; refine (mach_swap i j hne hO hi hj L.out hl).mono ?_; rw [C.out]; rintro e' w1 ⟨rfl, hO'⟩; have hO := hO'; obtain ⟨c0, c1, c2, c3, c4, c5⟩ := mach_cells hO (set_get (set_get_ne hj hne _) _))
    rw [P.out, show bI' false = 1 from rfl] at hO
    go_ret2; rw [Q.out]; exact ⟨rfl, wrap64 (n + 1), by simpa only [List.set_set] using hO⟩
set_option maxRecDepth 100000 in
set_option maxHeartbeats 4000000 in
theorem push_Step_else {B : Nat} {W w : World} {G : List Grp} (i j : Nat) {T : TypeId} {x p bw bb : Nat} {ws bs : List Int} {n t s nx sl wd to : Int} (hne : i ≠ j) (hO : Owns B W w G) (hi : G[i]? = some (memG p bw bb ws bs n)) (hj : G[j]? = some (machG T x t s nx sl wd to)) (h1 : nx ≠ 1) (h2 : nx ≠ 2) (h3 : nx ≠ 3) :
    Calls Try.prog 32 #[.pointer (some ⟨x, 0, none⟩), memI p] w (PushPost B W G i j T x p bw bb bs t s (pushStep t s ws nx sl wd to)) := by
  obtain ⟨c0, c1, c2, c3, c4, c5⟩ := mach_cells hO hj
  have Q := Lib.hid (show pushStep t s ws nx sl wd to = ⟨ws, nx, sl, wd, to, 0, 1, true⟩ by unfold pushStep; rw [if_neg h1, if_neg h2, if_neg h3])
  have b1 : (nx == 1) = false := by simpa using h1
  have b2 : (nx == 2) = false := by simpa using h2
  have b3 : (nx == 3) = false := by simpa using h3
  clear h1 h2 h3
  go_enter Try.func32, Try.ntmps32
  unfold memI at *
  go_wp2
  go_ret2
  rw [Q.out]
  exact ⟨rfl, n, by rw [List.set_of_getElem? hi, List.set_of_getElem? hj]; exact hO⟩
theorem push_Step {B : Nat} {W w : World} {G : List Grp} (i j : Nat) {T : TypeId} {x p bw bb : Nat} {ws bs : List Int} {n t s nx sl wd to : Int} (hne : i ≠ j) (hO : Owns B W w G) (hi : G[i]? = some (memG p bw bb ws bs n)) (hj : G[j]? = some (machG T x t s nx sl wd to)) (hL : lOk t s) (hl : ws.length ≤ 4096) :
    Calls Try.prog 32 #[.pointer (some ⟨x, 0, none⟩), memI p] w (PushPost B W G i j T x p bw bb bs t s (pushStep t s ws nx sl wd to)) := by
  by_cases h1 : nx = 1
  · subst h1; exact push_Step_look i j hne hO hi hj hL hl
  by_cases h2 : nx = 2
  · subst h2; exact push_Step_link i j hne hO hi hj hL hl
  by_cases h3 : nx = 3
  · subst h3; exact push_Step_swap i j hne hO hi hj hL hl
  exact push_Step_else i j hne hO hi hj h1 h2 h3
end Go.Proofs.Ytpebepjfgnoaaaa
