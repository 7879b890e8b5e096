/- The walks of the stack's machines: their parts. -/
import Derived.Deep.RegionHeld3
import Derived.Outline
import Derived.LoopTactic
import Derived.Test.YtpebepjfgnoaaaaIni
import Derived.Test.YtpebepjfgnoaaaaHdF
namespace Go.Proofs.Ytpebepjfgnoaaaa
set_option linter.unusedVariables false
set_option linter.unusedSimpArgs false
open Go.RowKit
def machObj (T : TypeId) (t s nx sl wd to : Int) : Obj := .cells #[.int .i64 t, .int .i64 s, .int .i64 nx, .int .i64 sl, .int .i64 wd, .int .i64 to] T (0, 0)
def bI' (b : Bool) : Int := if b = true then 0 else 1
def machG (T : TypeId) (x : Nat) (t s nx sl wd to : Int) : Grp := [(x, machObj T t s nx sl wd to)]
theorem mach_cells {B : Nat} {W w : World} {G : List Grp} {T : TypeId} {j x : Nat} {t s nx sl wd to : Int} (h : Owns B W w G) (hj : G[j]? = some (machG T x t s nx sl wd to)) :
    w.cell? ⟨x, 0, none⟩ = some (.int .i64 t) ∧ w.cell? ⟨x, 1, none⟩ = some (.int .i64 s) ∧ w.cell? ⟨x, 2, none⟩ = some (.int .i64 nx) ∧ w.cell? ⟨x, 3, none⟩ = some (.int .i64 sl) ∧ w.cell? ⟨x, 4, none⟩ = some (.int .i64 wd) ∧ w.cell? ⟨x, 5, none⟩ = some (.int .i64 to) :=
  ⟨h.cell j 0 hj rfl 0, h.cell j 0 hj rfl 1, h.cell j 0 hj rfl 2, h.cell j 0 hj rfl 3, h.cell j 0 hj rfl 4, h.cell j 0 hj rfl 5⟩
theorem mach_free {B : Nat} {W w : World} {G : List Grp} {T : TypeId} {j x : Nat} {t s nx sl wd to : Int} (h : Owns B W w G) (hj : G[j]? = some (machG T x t s nx sl wd to)) (o : Nat) : w.frozen? ⟨x, o, none⟩ = false := blk_free (h.get j 0 hj rfl) o
theorem mach_next {B : Nat} {W w : World} {G : List Grp} {T : TypeId} {j x : Nat} {t s nx sl wd to : Int} (h : Owns B W w G) (hj : G[j]? = some (machG T x t s nx sl wd to)) (v : Int) : Owns B W (w.setCell ⟨x, 2, none⟩ (.int .i64 v)) (G.set j (machG T x t s v sl wd to)) := h.set j 0 hj rfl 2 (.int .i64 v)
theorem mach_slot {B : Nat} {W w : World} {G : List Grp} {T : TypeId} {j x : Nat} {t s nx sl wd to : Int} (h : Owns B W w G) (hj : G[j]? = some (machG T x t s nx sl wd to)) (v : Int) : Owns B W (w.setCell ⟨x, 3, none⟩ (.int .i64 v)) (G.set j (machG T x t s nx v wd to)) := h.set j 0 hj rfl 3 (.int .i64 v)
theorem mach_word {B : Nat} {W w : World} {G : List Grp} {T : TypeId} {j x : Nat} {t s nx sl wd to : Int} (h : Owns B W w G) (hj : G[j]? = some (machG T x t s nx sl wd to)) (v : Int) : Owns B W (w.setCell ⟨x, 4, none⟩ (.int .i64 v)) (G.set j (machG T x t s nx sl v to)) := h.set j 0 hj rfl 4 (.int .i64 v)
theorem mach_to {B : Nat} {W w : World} {G : List Grp} {T : TypeId} {j x : Nat} {t s nx sl wd to : Int} (h : Owns B W w G) (hj : G[j]? = some (machG T x t s nx sl wd to)) (v : Int) : Owns B W (w.setCell ⟨x, 5, none⟩ (.int .i64 v)) (G.set j (machG T x t s nx sl wd v)) := h.set j 0 hj rfl 5 (.int .i64 v)
set_option maxHeartbeats 2000000 in
theorem mach_end {B : Nat} {W w : World} {G : List Grp} (j : Nat) {T : TypeId} {x : Nat} {t s nx sl wd to : Int} (e : Int) (hO : Owns B W w G) (hj : G[j]? = some (machG T x t s nx sl wd to)) :
    Calls Try.prog 61 #[.pointer (some ⟨x, 0, none⟩), .int .i64 e] w fun r w' => r = .returned (.tuple #[.int .i64 0, .int .i64 e, .bool true]) ∧ Owns B W w' (G.set j (machG T x t s 0 sl wd to)) := by
  obtain ⟨c0, c1, c2, c3, c4, c5⟩ := mach_cells hO hj
  have hf := mach_free hO hj 2
  go_enter Try.func61, Try.ntmps61
  go_wp2
  go_ret3
  exact ⟨rfl, mach_next hO hj 0⟩
set_option maxHeartbeats 4000000 in
theorem mach_look {B : Nat} {W w : World} {G : List Grp} (i j : Nat) {T : TypeId} {x p bw bb : Nat} {ws bs : List Int} {n t s nx sl wd to : Int} (hne : i ≠ j) (hO : Owns B W w G) (hi : G[i]? = some (memG p bw bb ws bs n)) (hj : G[j]? = some (machG T x t s nx sl wd to)) (hL : lOk t s) (hl : ws.length ≤ 4096) :
    Calls Try.prog 58 #[.pointer (some ⟨x, 0, none⟩), memI p] w fun r w' => r = .returned (.tuple #[.int .i64 (dUnTop (wAt ws (lOnce t 1))), .bool (dIs (wAt ws (lOnce t 1)))]) ∧
      Owns B W w' ((G.set i (memG p bw bb ws bs (wrap64 (n + 1)))).set j (machG T x t s nx sl (wAt ws (lOnce t 1)) to)) := by
  have L := Lib.hid hL
  clear hL
  obtain ⟨c0, c1, c2, c3, c4, c5⟩ := mach_cells hO hj
  have ns := nil_Load (some ⟨p, 0, none⟩)
  unfold memI
  obtain ⟨v, hv⟩ : ∃ v, wAt ws (lOnce t 1) = v := ⟨_, rfl⟩
  have HV := Lib.hid hv
  rw [hv]
  clear hv
  go_enter Try.func58, Try.ntmps58
  go_wp2_with fail
  have hO := hO.drew
  first
    | go_loud (go_region_held3 (fun w => w.cell? ⟨x, 0, none⟩ = some (.int .i64 t) ∧ w.cell? ⟨x, 1, none⟩ = some (.int .i64 s)) (first | assumption | exact ⟨hO.cell j 0 hj rfl 0, hO.cell j 0 hj rfl 1⟩ | exact ⟨hO.cell j 0 (set_get_ne hj hne _) rfl 0, hO.cell j 0 (set_get_ne hj hne _) rfl 1⟩ | exact ⟨(mach_word hO (set_get_ne hj hne _) v).cell j 0 (set_get (set_get_ne hj hne _) _) rfl 0, (mach_word hO (set_get_ne hj hne _) v).cell j 0 (set_get (set_get_ne hj hne _) _) rfl 1⟩) (first | (go_at_call 16; refine (layout_Stack _ _ _ L.out).mono ?_; rintro e w7 ⟨rfl, hb⟩; have hO := hO.via hb) | (go_at_call 43; refine (plain_Load i _ hO hi hl).mono ?_; rw [HV.out]; rintro e w7 ⟨rfl, hO'⟩; have hO := hO'; have hf := mach_free hO (set_get_ne hj hne _) 4; have k4 := hO.cell j 0 (set_get_ne hj hne _) rfl 4)))
    | fail "look"
  all_goals
    have hO := mach_word hO (set_get_ne hj hne _) v
    generalize World.setCell _ _ _ = w8 at hO ⊢
    have k4 := hO.cell j 0 (set_get (set_get_ne hj hne _) _) rfl 4
    have k4' : w8.cell? ⟨x, 4, none⟩ = some (.int .i64 v) := k4
    clear k4
    rcases bool_cases (b := dIs v) with hd | hd
    · have E := Lib.hid (show dUnErr v = 0 by unfold dUnErr; rw [if_pos hd])
      have D := Lib.hid hd
      clear hd
      go_wp2_with (go_at_call 55; refine (head_Unpack _ _).mono ?_; rw [E.out]; rintro e w9 ⟨rfl, hb⟩; have hO := hO.via hb)
      go_ret2
      exact ⟨by rw [D.out]; rfl, hO⟩
    · have E := Lib.hid (show dUnErr v = 2 by unfold dUnErr; rw [if_neg (by rw [hd]; decide)])
      have D := Lib.hid hd
      clear hd
      go_wp2_with (go_at_call 55; refine (head_Unpack _ _).mono ?_; rw [E.out]; rintro e w9 ⟨rfl, hb⟩; have hO := hO.via hb)
      go_ret2
      exact ⟨by rw [D.out]; rfl, hO⟩
set_option maxHeartbeats 4000000 in
theorem mach_swap {B : Nat} {W w : World} {G : List Grp} (i j : Nat) {T : TypeId} {x p bw bb : Nat} {ws bs : List Int} {n t s nx sl wd to : Int} (hne : i ≠ j) (hO : Owns B W w G) (hi : G[i]? = some (memG p bw bb ws bs n)) (hj : G[j]? = some (machG T x t s nx sl wd to)) (hL : lOk t s) (hl : ws.length ≤ 4096) :
    Calls Try.prog 60 #[.pointer (some ⟨x, 0, none⟩), memI p] w fun r w' => r = .returned (.bool (wCas ws (lOnce t 1) wd)) ∧
      Owns B W w' ((G.set i (memG p bw bb (wCasPut ws (lOnce t 1) wd to) bs (wrap64 (n + 1)))).set j (machG T x t s (bI' (wCas ws (lOnce t 1) wd)) sl wd to)) := by
  have L := Lib.hid hL
  clear hL
  obtain ⟨c0, c1, c2, c3, c4, c5⟩ := mach_cells hO hj
  have ns := nil_Cas (some ⟨p, 0, none⟩)
  unfold memI
  obtain ⟨q, hq⟩ : ∃ q, lOnce t 1 = q := ⟨_, rfl⟩
  have HQ := Lib.hid hq
  rw [hq]
  clear hq
  obtain ⟨b, hb⟩ : ∃ b, wCas ws q wd = b := ⟨_, rfl⟩
  have HB := Lib.hid hb
  rw [hb]
  clear hb
  cases b
  all_goals
    go_enter Try.func60, Try.ntmps60
    go_wp2_with fail
    have hO := hO.drew
    first
      | go_loud (go_region_held3 (fun w => w.cell? ⟨x, 0, none⟩ = some (.int .i64 t) ∧ w.cell? ⟨x, 1, none⟩ = some (.int .i64 s) ∧ w.cell? ⟨x, 4, none⟩ = some (.int .i64 wd) ∧ w.cell? ⟨x, 5, none⟩ = some (.int .i64 to)) (first | assumption | exact ⟨hO.cell j 0 hj rfl 0, hO.cell j 0 hj rfl 1, hO.cell j 0 hj rfl 4, hO.cell j 0 hj rfl 5⟩ | exact ⟨hO.cell j 0 (set_get_ne hj hne _) rfl 0, hO.cell j 0 (set_get_ne hj hne _) rfl 1, hO.cell j 0 (set_get_ne hj hne _) rfl 4, hO.cell j 0 (set_get_ne hj hne _) rfl 5⟩) (first | (go_at_call 16; refine (layout_Stack _ _ _ L.out).mono ?_; rw [HQ.out]; rintro e w7 ⟨rfl, hb⟩; have hO := hO.via hb) | (go_at_call 125; refine (plain_Cas i _ _ _ hO hi hl).mono ?_; rw [HB.out]; rintro e w7 ⟨rfl, hO'⟩; have hO := hO')))
      | fail "swap"
    all_goals
      have hf := mach_free hO (set_get_ne hj hne _) 2
      have k2 : w7.cell? ⟨x, 2, none⟩ = some (.int .i64 nx) := hO.cell j 0 (set_get_ne hj hne _) rfl 2
      go_wp2_with fail
      go_ret
      exact ⟨rfl, mach_next hO (set_get_ne hj hne _) _⟩
end Go.Proofs.Ytpebepjfgnoaaaa
