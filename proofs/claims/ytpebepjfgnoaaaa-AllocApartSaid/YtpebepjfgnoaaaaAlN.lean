/- Alloc's New. -/
import Derived.RegionTactic
import Derived.BigRegion
import Derived.Deep.RegionHeld3
import Derived.Outline
import Derived.Deep.DeepCutAuto
import Derived.Deep.QuietTactic
import Derived.BigQuiet
import Derived.Test.YtpebepjfgnoaaaaAlT
namespace Go.Proofs.Ytpebepjfgnoaaaa
set_option linter.unusedVariables false
set_option linter.unusedSimpArgs false
open Go.RowKit
def alV0 (nx : Int) : AlV := ⟨nx, 0, 0, 0, 0, 0, 0, 0, false, ⟨1, 0, 0, 0⟩, none⟩
def alC0 (a s t n : Int) (tk : Nat) : AlC := ⟨ofT a s t, ofS a s t, a, n, (hRound n).1, tk, 0⟩
def alNx (a s t : Int) : Int := if cfgOk a s t = true then 1 else 0
theorem alV0_in (a s t : Int) : AlIn (alV0 (alNx a s t)) := by
  unfold alNx; split <;> exact ⟨by decide, by decide, fun _ _ => rfl, fun e => absurd e (by decide)⟩
set_option maxRecDepth 100000 in
set_option maxHeartbeats 8000000 in
theorem alloc_New {B : Nat} {W w : World} {G : List Grp} (a s t n : Int) (hP : Owns B W w G) : Calls Try.prog 39 #[.agg #[.int .i64 a, .int .i64 s, .int .i64 t], .int .i64 n] w fun e w' =>
    ∃ x tk, e = .returned (.pointer (some ⟨x, 0, none⟩)) ∧ Owns B W w' (alG x (alC0 a s t n tk) (alV0 (alNx a s t)) :: G) := by
  obtain ⟨T, hT⟩ : ∃ T, ofT a s t = T := ⟨_, rfl⟩
  obtain ⟨S, hS⟩ : ∃ S, ofS a s t = S := ⟨_, rfl⟩
  obtain ⟨E, hE⟩ : ∃ S, ofE a s t = S := ⟨_, rfl⟩
  obtain ⟨rn, re, hr⟩ : ∃ x y, hRound n = (x, y) := ⟨_, _, rfl⟩
  obtain ⟨b, hb⟩ : ∃ b, (E != 0) = b := ⟨_, rfl⟩
  have hN : alNx a s t = if b = true then 0 else 1 := by unfold alNx; rw [← hb, ← hE]; unfold ofE; cases cfgOk a s t <;> rfl
  unfold alC0
  rw [hT, hS, hr, hN]
  have HT := Lib.hid hT
  have HS := Lib.hid hS
  have HE := Lib.hid hE
  have HR := Lib.hid hr
  clear hT hS hE hr hN
  go_enter Try.func39, Try.ntmps39
  go_upto_region 1 with fail
  have hO' := hP.alloc (.cells #[.int .i64 a, .int .i64 s, .int .i64 t] 23); clear hP; have hP := hO'; clear hO'
  generalize hcb : w.heap.size = cb at hP ⊢
  clear hcb
  generalize w.alloc (.cells #[.int .i64 a, .int .i64 s, .int .i64 t] 23) = w0 at hP ⊢
  have b0 : w0.cell? ⟨cb, 0, none⟩ = some (Value.int .i64 a) := hP.cell 0 0 rfl rfl 0
  have b1 : w0.cell? ⟨cb, 1, none⟩ = some (Value.int .i64 s) := hP.cell 0 0 rfl rfl 1
  have b2 : w0.cell? ⟨cb, 2, none⟩ = some (Value.int .i64 t) := hP.cell 0 0 rfl rfl 2
  go_wp2_with fail
  clear b0 b1 b2
  refine (layout_Of _ _ _ _).mono ?_; rw [HT.out, HS.out, HE.out]; rintro e w1 ⟨rfl, hb1⟩; have hO' := hP.via hb1; clear hP; have hP := hO'; clear hO'; clear hb1
  have a0 : w1.cell? ⟨cb, 0, none⟩ = some (Value.int .i64 a) := hP.cell 0 0 rfl rfl 0
  have hO' := hP.alloc (.cells #[.int .i64 T, .int .i64 S] 25); clear hP; have hP := hO'; clear hO'
  go_upto_region 2 with fail
  generalize w1.heap.size = lb at hP ⊢
  generalize w1.alloc _ = w2 at hP ⊢
  clear a0
  have hO' := hP.drew; clear hP; have hP := hO'; clear hO'
  have a0 : _ = some (Value.int .i64 a) := hP.cell 1 0 rfl rfl 0
  have l0 : _ = some (Value.int .i64 T) := hP.cell 0 0 rfl rfl 0
  have l1 : _ = some (Value.int .i64 S) := hP.cell 0 0 rfl rfl 1
  first
    | go_loud (go_region_held3 (fun w => w.cell? ⟨lb, 0, none⟩ = some (.int .i64 T) ∧ w.cell? ⟨lb, 1, none⟩ = some (.int .i64 S) ∧ w.cell? ⟨cb, 0, none⟩ = some (.int .i64 a)) (first | (with_reducible exact ⟨l0, l1, a0⟩) | exact ⟨cell_alloc _ l0, cell_alloc _ l1, cell_alloc _ a0⟩) ((go_at_call 31; refine (stack_NewPop _ _ hP).mono ?_; rintro e w7 ⟨tk, rfl, hO'⟩; clear hP; have hP := hO'; clear hO'; clear a0 l0 l1; have a0 : _ = some (Value.int .i64 a) := hP.cell 2 0 rfl rfl 0; have l0 : _ = some (Value.int .i64 T) := hP.cell 1 0 rfl rfl 0; have l1 : _ = some (Value.int .i64 S) := hP.cell 1 0 rfl rfl 1)))
    | fail "pop"
  all_goals
    have hO' := hP.alloc (.cells #[.pointer (some ⟨tk, 0, none⟩), .pointer none, .int .i64 T, .int .i64 S, .int .i64 a, .int .i64 n, .int .i64 0, .int .i64 1, .int .i64 0, .int .i64 0, .int .i64 0, .int .i64 0, .int .i64 0, .int .i64 0, .int .i64 0, .bool false] 123)
    clear hP; have hP := ((hO'.drop 2).drop 2); clear hO'
    clear a0 l0 l1
    generalize w7.heap.size = x at hP ⊢
    generalize w7.alloc _ = w8 at hP ⊢
    have hO' : Owns B W w8 (alG x ⟨T, S, a, n, 0, tk, 0⟩ (alV0 1) :: G) := hP.flat (List.Perm.refl _); clear hP; have hP := hO'; clear hO'
    have c6 := al_cell (j := 0) hP rfl 6
    have y6 := al_free (j := 0) hP rfl 6
    have hO' : Owns B W (w8.setCell ⟨x, 6, none⟩ (.int .i64 rn)) (alG x ⟨T, S, a, n, rn, tk, 0⟩ (alV0 1) :: G) := hP.set 0 0 rfl rfl 6 (.int .i64 rn)
    go_upto_region 4 with (go_at_call 66; refine (handle_round _ _).mono ?_; rw [HR.out]; rintro e w9 ⟨rfl, rfl⟩)
    clear hP; have hP := hO'; clear hO'
    clear c6 y6
    generalize World.setCell _ _ _ = w9 at hP ⊢
    have c7 := al_cell (j := 0) hP rfl 7
    have y7 := al_free (j := 0) hP rfl 7
    cases b
    case false =>
      go_wp2_with fail
      go_ret
      exact ⟨x, rfl, tk, hP⟩
    case true =>
      have hO' : Owns B W (w9.setCell ⟨x, 7, none⟩ (.int .i64 0)) (alG x ⟨T, S, a, n, rn, tk, 0⟩ (alV0 0) :: G) := hP.set 0 0 rfl rfl 7 (.int .i64 0)
      go_wp2_with fail
      go_ret
      exact ⟨x, rfl, tk, hO'⟩
theorem alloc_New_app {B : Nat} {W w : World} {G : List Grp} (a s t n : Int) (hP : Owns B W w G) : Calls Try.prog 39 #[.agg #[.int .i64 a, .int .i64 s, .int .i64 t], .int .i64 n] w fun e w' =>
    ∃ x tk, e = .returned (.pointer (some ⟨x, 0, none⟩)) ∧ Below w.heap.size w w' ∧ Owns B W w' (alG x (alC0 a s t n tk) (alV0 (alNx a s t)) :: G) :=
  (alloc_New a s t n (Owns.nil w)).mono fun _ _ ⟨x, tk, he, h⟩ => ⟨x, tk, he, h.1, hP.app h⟩
end Go.Proofs.Ytpebepjfgnoaaaa
