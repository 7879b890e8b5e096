/- The epoch's machines: what their steps do. -/
import Derived.Deep.RegionHeld3
import Derived.Outline
import Derived.LoopTactic
import Derived.Test.YtpfahnnmbaipdaaStF
namespace Go.Proofs.Ytpfahnnmbaipdaa
set_option linter.unusedVariables false
set_option linter.unusedSimpArgs false
open Go.RowKit
def entObj (t s nt nx ep : Int) : Obj := .cells #[.int .i64 t, .int .i64 s, .int .i64 nt, .int .i64 nx, .int .i64 ep] 99 (0, 0)
def entG (x : Nat) (t s nt nx ep : Int) : Grp := [(x, entObj t s nt nx ep)]
section
variable {B : Nat} {W w : World} {G : List Grp} {j x : Nat} {t s nt nx ep : Int} (h : Owns B W w G) (hj : G[j]? = some (entG x t s nt nx ep))
include h hj
theorem ent_cells :
    w.cell? ⟨x, 0, none⟩ = some (.int .i64 t) ∧ w.cell? ⟨x, 1, none⟩ = some (.int .i64 s) ∧ w.cell? ⟨x, 2, none⟩ = some (.int .i64 nt) ∧ w.cell? ⟨x, 3, none⟩ = some (.int .i64 nx) ∧ w.cell? ⟨x, 4, none⟩ = some (.int .i64 ep) :=
  ⟨h.cell j 0 hj rfl 0, h.cell j 0 hj rfl 1, h.cell j 0 hj rfl 2, h.cell j 0 hj rfl 3, h.cell j 0 hj rfl 4⟩
theorem ent_free (o : Nat) : w.frozen? ⟨x, o, none⟩ = false := blk_free (h.get j 0 hj rfl) o
theorem ent_next (v : Int) : Owns B W (w.setCell ⟨x, 3, none⟩ (.int .i64 v)) (G.set j (entG x t s nt v ep)) := h.set j 0 hj rfl 3 (.int .i64 v)
theorem ent_epoch (v : Int) : Owns B W (w.setCell ⟨x, 4, none⟩ (.int .i64 v)) (G.set j (entG x t s nt nx v)) := h.set j 0 hj rfl 4 (.int .i64 v)
end
structure EntR where
  ws : List Int
  nx : Int
  ep : Int
  done : Bool
def entStep (t : Int) (ws : List Int) (nt nx ep : Int) : EntR :=
  if nx = 0 then ⟨ws, nx, ep, true⟩
  else if nx = 1 then ⟨ws, 2, wAt ws (lOnce t 3), false⟩
  else ⟨wPut ws nt (wrap64 (ep + 1)), 0, ep, true⟩
structure TurnR where
  ws : List Int
  nx : Int
  ep : Int
  ak : Int
  is : Bool
  done : Bool
def turnStep (t : Int) (ws : List Int) (th nx ep ak : Int) : TurnR :=
  if nx = 0 then ⟨ws, nx, ep, ak, false, true⟩
  else if nx = 1 then ⟨ws, 2, wAt ws (lOnce t 3), ak, false, false⟩
  else if nx = 2 then
    if wCas ws (lOnce t 3) ep = true then ⟨wCasPut ws (lOnce t 3) ep (wrap64 (ep + 1)), 3, ep, ak, false, false⟩
    else ⟨ws, 1, ep, ak, false, false⟩
  else if nx = 3 then
    if dOlder (wAt ws (lNote t ak)) (wrap64 (ep + 1)) = true then ⟨ws, 0, ep, wrap64 (ak + 1), false, true⟩
    else if wrap64 (ak + 1) = th then ⟨ws, 0, ep, wrap64 (ak + 1), true, true⟩
    else ⟨ws, nx, ep, wrap64 (ak + 1), false, false⟩
  else ⟨ws, nx, ep, ak, false, false⟩
def EntPost (B : Nat) (W : World) (G : List Grp) (i j : Nat) (x p bw bb : Nat) (bs : List Int) (t s nt : Int) (q : EntR) (r : Ending) (w' : World) : Prop :=
  r = .returned (.bool q.done) ∧ ∃ m, Owns B W w' ((G.set i (memG p bw bb q.ws bs m)).set j (entG x t s nt q.nx q.ep))
def TurnPost (B : Nat) (W : World) (G : List Grp) (i j : Nat) (x p bw bb : Nat) (bs : List Int) (t s th : Int) (q : TurnR) (r : Ending) (w' : World) : Prop :=
  r = .returned (.tuple #[.bool q.is, .bool q.done]) ∧ ∃ m, Owns B W w' ((G.set i (memG p bw bb q.ws bs m)).set j (machG 93 x t s th q.nx q.ep q.ak))
set_option maxRecDepth 100000 in
theorem enter_nil (m : Value) (w : World) : Calls Try.prog 18 #[.pointer none, m] w fun e w' => e = .returned (.bool true) ∧ w = w' := by
  go_enter Try.func18, Try.ntmps18
  go_wp2
  go_ret
  exact ⟨rfl, rfl⟩
set_option maxRecDepth 100000 in
theorem enter_none (a : Addr) (w : World) : Calls Try.prog 18 #[.pointer (some a), .nilIface] w fun e w' => e = .returned (.bool true) ∧ w = w' := by
  go_enter Try.func18, Try.ntmps18
  go_wp2
  go_ret
  exact ⟨rfl, rfl⟩
set_option maxRecDepth 100000 in
theorem turn_nil (m : Value) (w : World) : Calls Try.prog 21 #[.pointer none, m] w fun e w' => e = .returned (.tuple #[.bool false, .bool true]) ∧ w = w' := by
  go_enter Try.func21, Try.ntmps21
  go_wp2
  go_ret2
  exact ⟨rfl, rfl⟩
set_option maxRecDepth 100000 in
theorem turn_none (a : Addr) (w : World) : Calls Try.prog 21 #[.pointer (some a), .nilIface] w fun e w' => e = .returned (.tuple #[.bool false, .bool true]) ∧ w = w' := by
  go_enter Try.func21, Try.ntmps21
  go_wp2
  go_ret2
  exact ⟨rfl, rfl⟩
set_option maxRecDepth 100000 in
set_option maxHeartbeats 4000000 in
theorem enter_Step_look {B : Nat} {W w : World} {G : List Grp} (i j : Nat) {x p bw bb : Nat} {ws bs : List Int} {n t s nt ep : Int} (hne : i ≠ j) (hO : Owns B W w G) (hi : G[i]? = some (memG p bw bb ws bs n)) (hj : G[j]? = some (entG x t s nt 1 ep)) (hL : lOk t s) (hl : ws.length ≤ 4096) :
    Calls Try.prog 18 #[.pointer (some ⟨x, 0, none⟩), memI p] w (EntPost B W G i j x p bw bb bs t s nt (entStep t ws nt 1 ep)) := by
  have L := Lib.hid hL
  obtain ⟨c0, c1, c2, c3, c4⟩ := ent_cells hO hj
  obtain ⟨v, hv⟩ : ∃ v, wAt ws (lOnce t 3) = v := ⟨_, rfl⟩
  have V := Lib.hid hv
  have Q := Lib.hid (show entStep t ws nt 1 ep = ⟨ws, 2, v, false⟩ by unfold entStep; rw [hv]; rfl)
  have ns := nil_Load (some ⟨p, 0, none⟩)
  clear hL hv
  go_enter Try.func18, Try.ntmps18
  unfold memI at *
  go_wp2_with fail
  have hO := hO.drew
  first
    | go_loud (go_region_held3 (fun w => w.cell? ⟨x, 0, none⟩ = some (.int .i64 t) ∧ w.cell? ⟨x, 1, none⟩ = some (.int .i64 s)) (first | assumption | exact ⟨hO.cell j 0 hj rfl 0, hO.cell j 0 hj rfl 1⟩ | exact ⟨hO.cell j 0 (set_get_ne hj hne _) rfl 0, hO.cell j 0 (set_get_ne hj hne _) rfl 1⟩ | exact ⟨(ent_epoch hO (set_get_ne hj hne _) v).cell j 0 (set_get (set_get_ne hj hne _) _) rfl 0, (ent_epoch hO (set_get_ne hj hne _) v).cell j 0 (set_get (set_get_ne hj hne _) _) rfl 1⟩ | exact ⟨(ent_next (ent_epoch hO (set_get_ne hj hne _) v) (set_get (set_get_ne hj hne _) _) 2).cell j 0 (set_get (set_get (set_get_ne hj hne _) _) _) rfl 0, (ent_next (ent_epoch hO (set_get_ne hj hne _) v) (set_get (set_get_ne hj hne _) _) 2).cell j 0 (set_get (set_get (set_get_ne hj hne _) _) _) rfl 1⟩) (first | (go_at_call 47; refine (layout_Epoch _ _ _ L.out).mono ?_; rintro e w7 ⟨rfl, hb⟩; have hO := hO.via hb) | (go_at_call 16; refine (plain_Load i _ hO hi hl).mono ?_; rw [V.out]; rintro e w7 ⟨rfl, hO'⟩; have hO := hO'; have hf := ent_free hO (set_get_ne hj hne _) 4; have hf3 := ent_free hO (set_get_ne hj hne _) 3; have k4 := hO.cell j 0 (set_get_ne hj hne _) rfl 4; have k3 := hO.cell j 0 (set_get_ne hj hne _) rfl 3)))
    | fail "look"
  all_goals
    have hO := ent_next (ent_epoch hO (set_get_ne hj hne _) v) (set_get (set_get_ne hj hne _) _) 2
    go_wp2_with fail
    go_ret; rw [Q.out]; exact ⟨rfl, wrap64 (n + 1), by simpa only [List.set_set] using hO⟩
set_option maxRecDepth 100000 in
set_option maxHeartbeats 4000000 in
theorem enter_Step_put {B : Nat} {W w : World} {G : List Grp} (i j : Nat) {x p bw bb : Nat} {ws bs : List Int} {n t s nt ep : Int} (hne : i ≠ j) (hO : Owns B W w G) (hi : G[i]? = some (memG p bw bb ws bs n)) (hj : G[j]? = some (entG x t s nt 2 ep)) (hl : ws.length ≤ 4096) :
    Calls Try.prog 18 #[.pointer (some ⟨x, 0, none⟩), memI p] w (EntPost B W G i j x p bw bb bs t s nt (entStep t ws nt 2 ep)) := by
  obtain ⟨c0, c1, c2, c3, c4⟩ := ent_cells hO hj
  have Q := Lib.hid (show entStep t ws nt 2 ep = ⟨wPut ws nt (wrap64 (ep + 1)), 0, ep, true⟩ by unfold entStep; rfl)
  have ns := nil_Store (some ⟨p, 0, none⟩)
  have ew : IntKind.i64.wrap (ep + 1) = wrap64 (ep + 1) := by rw [IntKind.wrap_i64]; unfold wrap64; omega
  have EW := Lib.hid ew
  clear ew
  go_enter Try.func18, Try.ntmps18
  unfold memI at *
  go_wp2_with fail
  have hO := hO.drew
  first
    | go_loud (go_region_held3 (fun w => w.cell? ⟨x, 2, none⟩ = some (.int .i64 nt) ∧ w.cell? ⟨x, 4, none⟩ = some (.int .i64 ep)) (first | assumption | exact ⟨hO.cell j 0 hj rfl 2, hO.cell j 0 hj rfl 4⟩ | exact ⟨hO.cell j 0 (set_get_ne hj hne _) rfl 2, hO.cell j 0 (set_get_ne hj hne _) rfl 4⟩) ((go_at_call 29; refine (plain_Store i _ _ hO hi hl).mono ?_; try rw [EW.out]; rintro e w7 ⟨rfl, hO'⟩; have hO := hO'; have hf3 := ent_free hO (set_get_ne hj hne _) 3; have k3 := hO.cell j 0 (set_get_ne hj hne _) rfl 3)))
    | fail "put"
  all_goals
    have hO := ent_next hO (set_get_ne hj hne _) 0
    go_wp2_with fail
    go_ret; rw [Q.out]; exact ⟨rfl, _, by simpa only [List.set_set] using hO⟩
set_option maxRecDepth 100000 in
set_option maxHeartbeats 4000000 in
theorem enter_Step_end {B : Nat} {W w : World} {G : List Grp} (i j : Nat) {x p bw bb : Nat} {ws bs : List Int} {n t s nt ep : Int} (hO : Owns B W w G) (hi : G[i]? = some (memG p bw bb ws bs n)) (hj : G[j]? = some (entG x t s nt 0 ep)) :
    Calls Try.prog 18 #[.pointer (some ⟨x, 0, none⟩), memI p] w (EntPost B W G i j x p bw bb bs t s nt (entStep t ws nt 0 ep)) := by
  obtain ⟨c0, c1, c2, c3, c4⟩ := ent_cells hO hj
  have Q := Lib.hid (show entStep t ws nt 0 ep = ⟨ws, 0, ep, true⟩ by unfold entStep; rfl)
  go_enter Try.func18, Try.ntmps18
  unfold memI at *
  go_wp2
  go_ret; rw [Q.out]; exact ⟨rfl, n, by rw [List.set_of_getElem? hi, List.set_of_getElem? hj]; exact hO⟩
end Go.Proofs.Ytpfahnnmbaipdaa
