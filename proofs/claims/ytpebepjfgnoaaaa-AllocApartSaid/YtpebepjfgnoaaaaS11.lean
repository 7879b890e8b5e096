/- A law's start. -/
import Derived.RegionTactic
import Derived.BigRegion
import Derived.Deep.RegionHeld3
import Derived.Test.YtpebepjfgnoaaaaIni
namespace Go.Proofs.Ytpebepjfgnoaaaa
set_option linter.unusedVariables false
set_option linter.unusedSimpArgs false
open Go.RowKit
def Begun11 (B : Nat) (W : World) (G : List Grp) (a s t : Int) (e : Ending) (w' : World) : Prop :=
  ∃ p bw bb m, e = .returned (.pointer (some ⟨p, 0, none⟩)) ∧ Owns B W w' (memG p bw bb (initW t s) (List.replicate a.toNat 0) m :: G)
set_option maxRecDepth 100000 in
set_option maxHeartbeats 4000000 in
theorem law11_start_no (a s t : Int) (w : World) (hc : cfgOk a s t = false) : Calls Try.prog 38 #[.agg #[.int .i64 a, .int .i64 s, .int .i64 t]] w fun e w' => e = .returned (.pointer none) ∧ Below w.heap.size w w' := by
  have RU := Lib.hid (rWords_no hc)
  have cm := Lib.hid (show cMay 0 a = false by unfold cMay; rw [decide_eq_false_iff_not]; omega)
  clear hc
  go_enter Try.func38, Try.ntmps38
  go_wp2_with fail
  have hO := (Owns.nil w).more (.cells #[.int .i64 a, .int .i64 s, .int .i64 t] 23)
  generalize w.alloc (.cells #[.int .i64 a, .int .i64 s, .int .i64 t] 23) = w0 at hO ⊢
  generalize hcb : w.heap.size = cb at hO ⊢
  have HC := Lib.hid hcb
  clear hcb
  have hO := hO.drew
  first
    | go_loud (go_region_held3 (fun w => w.cell? ⟨cb, 0, none⟩ = some (.int .i64 a) ∧ w.cell? ⟨cb, 1, none⟩ = some (.int .i64 s) ∧ w.cell? ⟨cb, 2, none⟩ = some (.int .i64 t)) (first | assumption | exact ⟨hO.cell 0 0 rfl rfl 0, hO.cell 0 0 rfl rfl 1, hO.cell 0 0 rfl rfl 2⟩) (first | (go_at_call 49; refine (ref06_Words _ _ _ _).mono ?_; rw [RU.out]; rintro e w7 ⟨rfl, hb⟩; have hO := hO.via hb) | (go_at_call 45; refine (cells_New_no _ _ _ cm.out).mono ?_; rintro e w7 ⟨rfl, rfl⟩)))
    | fail "new"
  all_goals
    go_wp2_with fail
    go_ret
    exact ⟨rfl, by rw [HC.out]; exact hO.below⟩
set_option maxRecDepth 100000 in
set_option maxHeartbeats 4000000 in
theorem law11_start {B : Nat} {W w : World} {G : List Grp} (a s t : Int) (hO : Owns B W w G) (hc : cfgOk a s t = true) : Calls Try.prog 38 #[.agg #[.int .i64 a, .int .i64 s, .int .i64 t]] w (Begun11 B W G a s t) := by
  obtain ⟨h1, h2, h3, h4, h5, h6, h7⟩ := cfgOk_of hc
  obtain ⟨N, hN⟩ : ∃ N : Nat, lWords t s = N := ⟨(lWords t s).toNat, by rw [lWords_ok h6]; omega⟩
  have hN2 : N ≤ 200 ∧ 8 ≤ N := by have := lWords_ok (s := s) h6; omega
  have RU := Lib.hid (show rWords a s t = N by rw [rWords_yes hc, ← lWords_ok h6, hN])
  have HN := Lib.hid hN
  have CK := Lib.hid hc
  have cm := Lib.hid (show cMay N a = true by unfold cMay; rw [decide_eq_true_eq]; omega)
  have hi := Lib.hid (show startW t s (List.replicate N 0) = initW t s by unfold initW; rw [hN]; rfl)
  clear hc h3 hN
  go_enter Try.func38, Try.ntmps38
  go_wp2_with fail
  have hO := hO.alloc (.cells #[.int .i64 a, .int .i64 s, .int .i64 t] 23)
  generalize w.alloc (.cells #[.int .i64 a, .int .i64 s, .int .i64 t] 23) = w0 at hO ⊢
  generalize hcb : w.heap.size = cb at hO ⊢
  have HC := Lib.hid hcb
  clear hcb
  have hO := hO.drew
  first
    | go_loud (go_region_held3 (fun w => w.cell? ⟨cb, 0, none⟩ = some (.int .i64 a) ∧ w.cell? ⟨cb, 1, none⟩ = some (.int .i64 s) ∧ w.cell? ⟨cb, 2, none⟩ = some (.int .i64 t)) (first | assumption | exact ⟨hO.cell 0 0 rfl rfl 0, hO.cell 0 0 rfl rfl 1, hO.cell 0 0 rfl rfl 2⟩ | exact ⟨hO.cell 1 0 rfl rfl 0, hO.cell 1 0 rfl rfl 1, hO.cell 1 0 rfl rfl 2⟩) (first | (go_at_call 49; refine (ref06_Words _ _ _ _).mono ?_; rw [RU.out]; rintro e w7 ⟨rfl, hb⟩; have hO := hO.via hb) | (go_at_call 45; refine (cells_New _ _ hO cm.out).mono ?_; rintro e w7 ⟨p, bw, bb, rfl, hO'⟩; have hO := hO')))
    | fail "new"
  all_goals
    have a0 : _ = some (Value.int .i64 a) := hO.cell 1 0 rfl rfl 0
    have a1 : _ = some (Value.int .i64 s) := hO.cell 1 0 rfl rfl 1
    have a2 : _ = some (Value.int .i64 t) := hO.cell 1 0 rfl rfl 2
    go_wp2_with (go_at_call 46; refine stop_here ?_)
    unfold Stop
    refine (layout_Start_ok 0 a s t hO rfl (by rw [List.length_replicate]; omega) (by rw [List.length_replicate]; omega) CK.out (by rw [HN.out, List.length_replicate]; omega) (by rw [List.length_replicate]; omega)).mono ?_
    rintro e w8 ⟨rfl, m, hO'⟩
    rw [Int.toNat_natCast, hi.out] at hO'
    have hO := hO'
    go_wp2_with fail
    go_ret
    exact ⟨p, bw, bb, m, rfl, hO.drop 1⟩
end Go.Proofs.Ytpebepjfgnoaaaa
