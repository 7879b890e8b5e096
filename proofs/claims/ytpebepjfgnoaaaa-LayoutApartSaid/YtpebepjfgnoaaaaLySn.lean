/- The walk of layout.Start where it does nothing. -/
import Derived.Deep.RegionHeld3
import Derived.Outline
import Derived.LoopTactic
import Derived.Deep.RegionWith
import Derived.Test.YtpebepjfgnoaaaaIni
namespace Go.Proofs.Ytpebepjfgnoaaaa
set_option linter.unusedVariables false
set_option linter.unusedSimpArgs false
open Go.RowKit
set_option maxHeartbeats 2000000 in
theorem layout_Start_bad (m : Value) (a s t : Int) (w : World) (hc : cfgOk a s t = false) :
    Calls Try.prog 46 #[m, .agg #[.int .i64 a, .int .i64 s, .int .i64 t]] w fun e w' => e = .returned (.int .i64 1) ∧ Below w.heap.size w w' := by
  obtain ⟨e1, e2, e3⟩ := of_no hc
  have E1 := Lib.hid e1
  have E2 := Lib.hid e2
  have E3 := Lib.hid e3
  clear e1 e2 e3 hc
  go_enter Try.func46, Try.ntmps46
  go_wp2_with (go_at_call 8; refine (layout_Of _ _ _ _).mono ?_; rw [E1.out, E2.out, E3.out]; rintro e w1 ⟨rfl, hb⟩; have hz := hb.size; (try simp only [World.size_alloc, World.size_drew, World.size_setCell, size_drewN] at hz))
  go_quiet (fail)
  go_wp2
  go_ret
  exact ⟨rfl, by (repeat' (first | (with_reducible exact Below.refl _ _) | (with_reducible assumption) | (with_reducible refine below_drewN ?_ _) | (with_reducible refine Below.drew ?_) | (with_reducible refine Below.alloc ?_ ?_ _) | (with_reducible refine Below.setCell ?_ ?_ _) | (with_reducible refine below_via (by assumption) ?_ ?_) | go_size))⟩
set_option maxHeartbeats 2000000 in
theorem layout_Start_nil (a s t : Int) (w : World) (hc : cfgOk a s t = true) :
    Calls Try.prog 46 #[.nilIface, .agg #[.int .i64 a, .int .i64 s, .int .i64 t]] w fun e w' => e = .returned (.int .i64 1) ∧ Below w.heap.size w w' := by
  obtain ⟨e1, e2, e3⟩ := of_yes hc
  have E1 := Lib.hid e1
  have E2 := Lib.hid e2
  have E3 := Lib.hid e3
  clear e1 e2 e3 hc
  go_enter Try.func46, Try.ntmps46
  go_wp2_with (go_at_call 8; refine (layout_Of _ _ _ _).mono ?_; rw [E1.out, E2.out, E3.out]; rintro e w1 ⟨rfl, hb⟩; have hz := hb.size; (try simp only [World.size_alloc, World.size_drew, World.size_setCell, size_drewN] at hz))
  go_quiet (fail)
  go_wp2
  go_ret
  exact ⟨rfl, by (repeat' (first | (with_reducible exact Below.refl _ _) | (with_reducible assumption) | (with_reducible refine below_drewN ?_ _) | (with_reducible refine Below.drew ?_) | (with_reducible refine Below.alloc ?_ ?_ _) | (with_reducible refine Below.setCell ?_ ?_ _) | (with_reducible refine below_via (by assumption) ?_ ?_) | go_size))⟩
set_option maxHeartbeats 4000000 in
theorem layout_Start_small {B : Nat} {W w : World} {G : List Grp} (i : Nat) {p bw bb : Nat} {ws bs : List Int} {n : Int} (a s t : Int) (hO : Owns B W w G) (hi : G[i]? = some (memG p bw bb ws bs n)) (hl : ws.length ≤ 4096) (hl' : bs.length ≤ 4096)
    (hc : cfgOk a s t = true) (hw : ¬ (lWords t s ≤ ws.length ∧ a ≤ bs.length)) :
    Calls Try.prog 46 #[memI p, .agg #[.int .i64 a, .int .i64 s, .int .i64 t]] w fun e w' => e = .returned (.int .i64 1) ∧ Owns B W w' G := by
  obtain ⟨e1, e2, e3⟩ := of_yes hc
  have E1 := Lib.hid e1
  have E2 := Lib.hid e2
  have E3 := Lib.hid e3
  clear e1 e2 e3
  unfold memI
  go_enter Try.func46, Try.ntmps46
  go_wp2_with (go_at_call 8; refine (layout_Of _ _ _ _).mono ?_; rw [E1.out, E2.out, E3.out]; rintro e w1 ⟨rfl, hb⟩; have hz := hb.size; (try simp only [World.size_alloc, World.size_drew, World.size_setCell, size_drewN] at hz))
  have hO2 := ((hO.alloc (.cells #[.int .i64 a, .int .i64 s, .int .i64 t] 23)).via hb).alloc (.cells #[.int .i64 t, .int .i64 s] 25)
  clear hb hz
  generalize w1.alloc (.cells #[.int .i64 t, .int .i64 s] 25) = w2 at hO2 ⊢
  generalize w1.heap.size = lb at hO2 ⊢
  generalize w.heap.size = cb at hO2 ⊢
  have d0 := startS hO2
  have L := Lib.hid (lOk_yes hc)
  have hi2 : ([(lb, Obj.cells #[.int .i64 t, .int .i64 s] 25 (0, 0))] :: [(cb, Obj.cells #[.int .i64 a, .int .i64 s, .int .i64 t] 23 (0, 0))] :: G)[i + 2]? = some (memG p bw bb ws bs n) := by simpa using hi
  by_cases hw1 : lWords t s ≤ ws.length
  · have b1 : decide ((ws.length : Int) < lWords t s) = false := by simpa using hw1
    have b2 : decide ((bs.length : Int) < a) = true := by simp; omega
    clear hw
    go_region_held3 (StartS B W lb cb t s a G) (first | assumption | exact startS (hO2.drew) | exact startS ((by assumption : StartS B W lb cb t s a G _).2.2.2.via hb)) (first | (go_at_call 126; refine (plain_Words (i + 2) (by assumption : StartS B W lb cb t s a G _).2.2.2 hi2 hl).mono ?_; rintro e w' ⟨rfl, rfl⟩) | (go_at_call 124; refine (plain_Bytes (i + 2) (by assumption : StartS B W lb cb t s a G _).2.2.2 hi2 hl').mono ?_; rintro e w' ⟨rfl, rfl⟩) | (go_at_call 13; refine (layout_Words _ _ _ L.out).mono ?_; rintro e w' ⟨rfl, hb⟩))
    all_goals
      have hO3 := hO2.drew.via hb
      go_wp2
      go_ret
      exact ⟨rfl, hO3.tail.tail⟩
  · have b1 : decide ((ws.length : Int) < lWords t s) = true := by simp; omega
    clear hw
    obtain ⟨l0, l1, c0, -⟩ := startS hO2.drew
    first
      | go_loud (go_region_with (first | (go_at_call 126; refine (plain_Words (i + 2) hO2.drew hi2 hl).mono ?_; rintro e w' ⟨rfl, rfl⟩) | (go_at_call 13; refine (layout_Words _ _ _ L.out).mono ?_; rintro e w' ⟨rfl, hb⟩)))
      | fail "with"
    all_goals
      have hO3 := hO2.drew.via hb
      go_wp2
      go_ret
      exact ⟨rfl, hO3.tail.tail⟩
end Go.Proofs.Ytpebepjfgnoaaaa
