/- The epoch: Exit. -/
import Derived.RegionTactic
import Derived.BigRegion
import Derived.Deep.RegionHeld3
import Derived.Test.YtpfahnnmbaipdaaEpN
namespace Go.Proofs.Ytpfahnnmbaipdaa
set_option linter.unusedVariables false
set_option linter.unusedSimpArgs false
open Go.RowKit
/-- the words behind an Exit. -/
def exitW (T : Int) (ws : List Int) (k : Int) : List Int := if lNote T k < 0 then ws else wPut ws (lNote T k) 0
set_option maxRecDepth 100000 in
set_option maxHeartbeats 2000000 in
theorem exit_none (a s t k : Int) (w : World) : Calls Try.prog 19 #[.nilIface, .agg #[.int .i64 a, .int .i64 s, .int .i64 t], .int .i64 k] w fun e w' => e = .returned (.tuple #[]) ∧ Below w.heap.size w w' := by
  have hO := Owns.nil w
  obtain ⟨T, hT⟩ : ∃ T, ofT a s t = T := ⟨_, rfl⟩
  obtain ⟨S, hS⟩ : ∃ S, ofS a s t = S := ⟨_, rfl⟩
  obtain ⟨q, hq⟩ : ∃ q, lNote T k = q := ⟨_, rfl⟩
  have HT := Lib.hid hT
  have HS := Lib.hid hS
  have HQ := Lib.hid hq
  have L := Lib.hid (show lOk T S by have := of_lOk a s t; rwa [hT, hS] at this)
  clear hT hS hq
  by_cases hn : 0 ≤ q
  all_goals
    go_enter Try.func19, Try.ntmps19
    go_wp2_with fail
    have hO := hO.alloc (.cells #[.int .i64 a, .int .i64 s, .int .i64 t] 23)
    generalize hw0 : w.alloc (.cells #[.int .i64 a, .int .i64 s, .int .i64 t] 23) = w0 at hO ⊢
    refine (layout_Of _ _ _ _).mono ?_; rw [HT.out, HS.out]; rintro e w1 ⟨rfl, hb⟩; have hO := hO.via hb
    have hO := hO.alloc (.cells #[.int .i64 T, .int .i64 S] 56)
    go_wp2_with fail
    generalize w1.heap.size = lb at hO ⊢
    generalize w1.alloc (.cells #[.int .i64 T, .int .i64 S] 56) = w2 at hO ⊢
    have l0 : w2.cell? ⟨lb, 0, none⟩ = some (.int .i64 T) := hO.cell 0 0 rfl rfl 0
    have l1 : w2.cell? ⟨lb, 1, none⟩ = some (.int .i64 S) := hO.cell 0 0 rfl rfl 1
    go_wp2_with (go_at_call 46; refine (layout_Note _ _ _ _ L.out).mono ?_; rw [HQ.out]; rintro e w7 ⟨rfl, hb⟩; have hO := hO.via hb)
    go_end0
    exact ⟨rfl, hO.below⟩
set_option maxRecDepth 100000 in
set_option maxHeartbeats 2000000 in
theorem epoch_Exit {B : Nat} {W w : World} {G : List Grp} (i : Nat) {p bw bb : Nat} {ws bs : List Int} {n : Int} (a s t k : Int) (hO : Owns B W w G) (hi : G[i]? = some (memG p bw bb ws bs n)) (hl : ws.length ≤ 4096) : Calls Try.prog 19 #[memI p, .agg #[.int .i64 a, .int .i64 s, .int .i64 t], .int .i64 k] w fun e w' => e = .returned (.tuple #[]) ∧ ∃ m, Owns B W w' (G.set i (memG p bw bb (exitW (ofT a s t) ws k) bs m)) := by
  obtain ⟨T, hT⟩ : ∃ T, ofT a s t = T := ⟨_, rfl⟩
  obtain ⟨S, hS⟩ : ∃ S, ofS a s t = S := ⟨_, rfl⟩
  obtain ⟨q, hq⟩ : ∃ q, lNote T k = q := ⟨_, rfl⟩
  have HT := Lib.hid hT
  have HS := Lib.hid hS
  have HQ := Lib.hid hq
  have L := Lib.hid (show lOk T S by have := of_lOk a s t; rwa [hT, hS] at this)
  have XY := Lib.hid (show q < 0 → exitW (ofT a s t) ws k = ws by intro h; unfold exitW; rw [hT, hq, if_pos (by omega)])
  have XN := Lib.hid (show 0 ≤ q → exitW (ofT a s t) ws k = wPut ws q 0 by intro h; unfold exitW; rw [hT, hq, if_neg (by omega)])
  have ns := nil_Store (some ⟨p, 0, none⟩)
  clear hT hS hq
  unfold memI
  have hi2 : ∀ x y : Grp, (x :: y :: G)[i + 2]? = some (memG p bw bb ws bs n) := fun x y => by simpa using hi
  by_cases hn : 0 ≤ q
  · go_enter Try.func19, Try.ntmps19
    go_wp2_with fail
    have hO := hO.alloc (.cells #[.int .i64 a, .int .i64 s, .int .i64 t] 23)
    generalize w.alloc (.cells #[.int .i64 a, .int .i64 s, .int .i64 t] 23) = w0 at hO ⊢
    refine (layout_Of _ _ _ _).mono ?_; rw [HT.out, HS.out]; rintro e w1 ⟨rfl, hb⟩; have hO := hO.via hb
    have hO := hO.alloc (.cells #[.int .i64 T, .int .i64 S] 56)
    go_wp2_with fail
    generalize w1.heap.size = lb at hO ⊢
    generalize w1.alloc (.cells #[.int .i64 T, .int .i64 S] 56) = w2 at hO ⊢
    have l0 : w2.cell? ⟨lb, 0, none⟩ = some (.int .i64 T) := hO.cell 0 0 rfl rfl 0
    have l1 : w2.cell? ⟨lb, 1, none⟩ = some (.int .i64 S) := hO.cell 0 0 rfl rfl 1
    go_wp2_with first
      | (go_at_call 46; refine (layout_Note _ _ _ _ L.out).mono ?_; rw [HQ.out]; rintro e w7 ⟨rfl, hb⟩; have hO := hO.via hb)
      | (go_at_call 29; refine (plain_Store (i + 2) _ _ hO (hi2 _ _) hl).mono ?_; rintro e w8 ⟨rfl, hO'⟩; have hO := hO')
    go_end0
    refine ⟨rfl, wrap64 (n + 1), ?_⟩
    rw [XN.out (by omega)]
    simp only [List.set_cons_succ] at hO
    exact (hO.drop 0).drop 0
  · go_enter Try.func19, Try.ntmps19
    go_wp2_with fail
    have hO := hO.alloc (.cells #[.int .i64 a, .int .i64 s, .int .i64 t] 23)
    generalize w.alloc (.cells #[.int .i64 a, .int .i64 s, .int .i64 t] 23) = w0 at hO ⊢
    refine (layout_Of _ _ _ _).mono ?_; rw [HT.out, HS.out]; rintro e w1 ⟨rfl, hb⟩; have hO := hO.via hb
    have hO := hO.alloc (.cells #[.int .i64 T, .int .i64 S] 56)
    go_wp2_with fail
    generalize w1.heap.size = lb at hO ⊢
    generalize w1.alloc (.cells #[.int .i64 T, .int .i64 S] 56) = w2 at hO ⊢
    have l0 : w2.cell? ⟨lb, 0, none⟩ = some (.int .i64 T) := hO.cell 0 0 rfl rfl 0
    have l1 : w2.cell? ⟨lb, 1, none⟩ = some (.int .i64 S) := hO.cell 0 0 rfl rfl 1
    go_wp2_with (go_at_call 46; refine (layout_Note _ _ _ _ L.out).mono ?_; rw [HQ.out]; rintro e w7 ⟨rfl, hb⟩; have hO := hO.via hb)
    go_end0
    refine ⟨rfl, n, ?_⟩
    rw [XY.out (by omega), set_same hi]
    exact (hO.drop 0).drop 0
end Go.Proofs.Ytpfahnnmbaipdaa
