/- The walks of write's machine: look, New, Guards, none. -/
import Derived.RegionTactic
import Derived.BigRegion
import Derived.Deep.RegionHeld3
import Derived.Outline
import Derived.Deep.DeepCutAuto
import Derived.Test.YtboephhffklbbaaWrW
namespace Go.Proofs.Ytboephhffklbbaa
set_option linter.unusedVariables false
set_option linter.unusedSimpArgs false
open Go.RowKit
set_option maxRecDepth 100000 in
theorem wr_nil (m : Value) (w : World) : Calls Try.prog 17 #[.pointer none, m] w fun e w' => e = .returned (resV (1, 0) true) ∧ Below w.heap.size w w' := by
  go_enter Try.func17, Try.ntmps17
  go_wp2
  exact bodyPost_ret (v := .tuple #[.agg #[.int .i64 1, .int .i64 0], .bool true]) (by simp [results, Try.results17, go_sem]) rfl ⟨rfl, by (repeat' (first | (with_reducible exact Below.refl _ _) | (with_reducible assumption) | (with_reducible refine below_drewN ?_ _) | (with_reducible refine Below.drew ?_) | (with_reducible refine Below.alloc ?_ ?_ _) | (with_reducible refine Below.setCell ?_ ?_ _) | (with_reducible refine below_via (by assumption) ?_ ?_) | go_size))⟩
set_option maxRecDepth 100000 in
theorem wr_none (a : Addr) (w : World) : Calls Try.prog 17 #[.pointer (some a), .nilIface] w fun e w' => e = .returned (resV (1, 0) true) ∧ Below w.heap.size w w' := by
  go_enter Try.func17, Try.ntmps17
  go_wp2
  exact bodyPost_ret (v := .tuple #[.agg #[.int .i64 1, .int .i64 0], .bool true]) (by simp [results, Try.results17, go_sem]) rfl ⟨rfl, by (repeat' (first | (with_reducible exact Below.refl _ _) | (with_reducible assumption) | (with_reducible refine below_drewN ?_ _) | (with_reducible refine Below.drew ?_) | (with_reducible refine Below.alloc ?_ ?_ _) | (with_reducible refine Below.setCell ?_ ?_ _) | (with_reducible refine below_via (by assumption) ?_ ?_) | go_size))⟩
theorem wr_Guards_nil (w : World) : Calls Try.prog 18 #[.pointer none] w fun e w' => e = .returned (.bool false) ∧ w = w' := by
  go_enter Try.func18, Try.ntmps18
  go_wp2
  go_ret
  exact ⟨rfl, rfl⟩
theorem wr_Guards {B : Nat} {W w : World} {G : List Grp} (j : Nat) {x : Nat} {c : WrC} {v : WrV} (hO : Owns B W w G) (hj : G[j]? = some (wrG x c v)) : Calls Try.prog 18 #[.pointer (some ⟨x, 0, none⟩)] w fun e w' => e = .returned (.bool v.g) ∧ w = w' := by
  obtain ⟨c0, c1, c2, c3, c4, c5, c6, c7, c8, c9, c10, c11, cz, cf⟩ := wr_cells hO hj
  go_enter Try.func18, Try.ntmps18
  go_wp2
  go_ret
  exact ⟨rfl, rfl⟩
set_option maxRecDepth 100000 in
set_option maxHeartbeats 8000000 in
theorem wr_look_live {B : Nat} {W w : World} {R0 : List Grp} {x p bw bb : Nat} {ws bs : List Int} {n : Int} {c : WrC} {v : WrV} (hO : Owns B W w (memG p bw bb ws bs n :: wrG x c v :: R0)) (hL : lOk c.t c.s) (hl : ws.length ≤ 4096) (hst : c.st = false) (u : Int) (hu : wAt ws (lOf c.t c.s c.sl 0) = u) (R : WrV × Bool) (hR : R = wrLook c u v) :
    Calls Try.prog 42 #[.pointer (some ⟨x, 0, none⟩), memI p] w fun r w' => r = .returned (.bool R.2) ∧ ∃ m, Owns B W w' (memG p bw bb ws bs m :: wrG x c R.1 :: R0) := by
  have HL := Lib.hid hL
  have HU := Lib.hid hu
  obtain ⟨k0, hk0⟩ : ∃ k, eOk u = k := ⟨_, rfl⟩
  obtain ⟨kA, hkA⟩ : ∃ k, uA u = k := ⟨_, rfl⟩
  obtain ⟨kG, hkG⟩ : ∃ k, uG u = k := ⟨_, rfl⟩
  obtain ⟨kL, hkL⟩ : ∃ k, uL u = k := ⟨_, rfl⟩
  obtain ⟨kU, hkU⟩ : ∃ k, uU u = k := ⟨_, rfl⟩
  obtain ⟨b1, hb1⟩ : ∃ b, (k0 == 0) = b := ⟨_, rfl⟩
  obtain ⟨b3, hb3⟩ : ∃ b, (kG == c.ge) = b := ⟨_, rfl⟩
  obtain ⟨b15, hb15⟩ : ∃ b, decide (kU < 15) = b := ⟨_, rfl⟩
  have hb1' : (k0 != 0) = !b1 := by rw [← hb1]; rfl
  have hb3' : (kG != c.ge) = !b3 := by rw [← hb3]; rfl
  have F2 := Lib.hid (show fresh u c.ge = (b1 && (kA && b3)) by unfold fresh; rw [hk0, hkA, hkG, ← hb1, ← hb3]; rfl)
  have HR := Lib.hid (show R = if (b1 && (kA && b3)) = true then (if (!kL && b15) = true then ({ v with wd := u, o := uO u, nx := 2 }, false) else ({ v with wd := u }, false)) else ({ v with wd := u }, true) by rw [hR]; unfold wrLook; rw [F2.out, hkL, hkU, hb15])
  have HK := Lib.hid (And.intro hk0 (And.intro hkA (And.intro hkG (And.intro hkL hkU))))
  clear hL hu hR hk0 hkA hkG hkL hkU
  have hP := hO
  clear hO
  obtain ⟨c0, c1, c2, c3, c4, c5, c6, c7, c8, c9, c10, c11, cz, cf⟩ := wr_cells (j := 1) hP rfl
  rw [hst] at c4
  go_enter Try.func42, Try.ntmps42
  unfold memI at *
  go_wp2_with (go_at_call 46; refine stop_here ?_)
  try unfold Stop
  refine (wr_load hP HL.out hl u HU.out).mono ?_
  rintro e w2 ⟨rfl, m, hO'⟩; clear hP; have hP := hO'; clear hO'; clear c0 c1 c2 c3 c4 c5 c6 c7 c8 c9 c10 c11 cz cf; obtain ⟨c0, c1, c2, c3, c4, c5, c6, c7, c8, c9, c10, c11, cz, cf⟩ := wr_cells (j := 1) hP rfl
  go_upto_region 5 with (go_at_call 67; refine (entry_Unpack _ _).mono ?_; rw [HK.out.1, HK.out.2.1, HK.out.2.2.1, HK.out.2.2.2.1, HK.out.2.2.2.2]; rintro e w3 ⟨rfl, hb⟩; have hO := hP.via hb; clear hP; have hP := hO; clear hO; clear c0 c1 c2 c3 c4 c5 c6 c7 c8 c9 c10 c11 cz cf)
  have hO := hP.alloc (.cells #[.int .i64 (uO u), .int .i64 kG, .int .i64 (uP u), .int .i64 kU, .bool kL, .bool kA] 107)
  clear hP
  generalize w3.heap.size = eb at hO ⊢
  generalize w3.alloc _ = w4 at hO ⊢
  have hP := hO
  clear hO
  obtain ⟨c0, c1, c2, c3, c4, c5, c6, c7, c8, c9, c10, c11, cz, cf⟩ := wr_cells (j := 2) hP rfl
  have g0 : w4.cell? ⟨eb, 0, none⟩ = some (.int .i64 (uO u)) := hP.cell 0 0 rfl rfl 0
  have g1 : w4.cell? ⟨eb, 1, none⟩ = some (.int .i64 kG) := hP.cell 0 0 rfl rfl 1
  have g3 : w4.cell? ⟨eb, 3, none⟩ = some (.int .i64 kU) := hP.cell 0 0 rfl rfl 3
  have g4 : w4.cell? ⟨eb, 4, none⟩ = some (.bool kL) := hP.cell 0 0 rfl rfl 4
  have g5 : w4.cell? ⟨eb, 5, none⟩ = some (.bool kA) := hP.cell 0 0 rfl rfl 5
  cases b1 <;> cases kA <;> cases b3
  case true.true.true =>
    go_quiet (fail)
    have hO := (hP.drewN nq)
    clear hP
    generalize w4.drewN nq = w9 at hO ⊢
    have hP := hO
    clear hO g0 g1 g3 g4 g5
    clear c0 c1 c2 c3 c4 c5 c6 c7 c8 c9 c10 c11 cz cf
    obtain ⟨c0, c1, c2, c3, c4, c5, c6, c7, c8, c9, c10, c11, cz, cf⟩ := wr_cells (j := 2) hP rfl
    have g0 : w9.cell? ⟨eb, 0, none⟩ = some (.int .i64 (uO u)) := hP.cell 0 0 rfl rfl 0
    have g3 : w9.cell? ⟨eb, 3, none⟩ = some (.int .i64 kU) := hP.cell 0 0 rfl rfl 3
    have g4 : w9.cell? ⟨eb, 4, none⟩ = some (.bool kL) := hP.cell 0 0 rfl rfl 4
    have nb := hP.ne_out 0 2 0 0 rfl rfl rfl rfl (by decide)
    have y7 := cf 7
    have y9 := cf 9
    cases kL <;> cases b15
    case false.true =>
      have hr := show R = ({ v with wd := u, o := uO u, nx := 2 }, false) by rw [HR.out]; rfl
      subst hr
      go_wp2_with fail
      go_ret
      have hQ := wr_nx (j := 1) (wr_o (j := 1) hP.tail rfl (uO u)) rfl 2
      exact ⟨rfl, m, hQ⟩
    all_goals
      have hr := show R = ({ v with wd := u }, false) by rw [HR.out]; rfl
      subst hr
      go_wp2_with fail
      go_ret
      exact ⟨rfl, m, hP.tail⟩
  all_goals
    have hr := show R = ({ v with wd := u }, true) by rw [HR.out]; rfl
    subst hr
    go_quiet (fail)
    have hO := (hP.drewN nq)
    generalize w4.drewN nq = w9 at hO ⊢
    go_wp2_with fail
    go_ret
    exact ⟨rfl, m, hO.tail⟩
theorem wr_look_stale {B : Nat} {W w : World} {R0 : List Grp} {x p bw bb : Nat} {ws bs : List Int} {n : Int} {c : WrC} {v : WrV} (hO : Owns B W w (memG p bw bb ws bs n :: wrG x c v :: R0)) (hst : c.st = true) :
    Calls Try.prog 42 #[.pointer (some ⟨x, 0, none⟩), memI p] w fun r w' => r = .returned (.bool true) ∧ w = w' := by
  have hP := hO
  obtain ⟨c0, c1, c2, c3, c4, c5, c6, c7, c8, c9, c10, c11, cz, cf⟩ := wr_cells (j := 1) hP rfl
  rw [hst] at c4
  clear hO
  go_enter Try.func42, Try.ntmps42
  go_wp2
  go_ret
  exact ⟨rfl, rfl⟩
end Go.Proofs.Ytboephhffklbbaa
