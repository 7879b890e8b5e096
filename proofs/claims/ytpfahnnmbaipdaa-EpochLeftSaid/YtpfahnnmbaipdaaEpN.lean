/- The epoch's machines made; Exit; none. -/
import Derived.RegionTactic
import Derived.BigRegion
import Derived.Deep.RegionHeld3
import Derived.Test.YtpfahnnmbaipdaaEpT2
namespace Go.Proofs.Ytpfahnnmbaipdaa
set_option linter.unusedVariables false
set_option linter.unusedSimpArgs false
open Go.RowKit
/-- the Enter that is made. -/
def entNew (T S k : Int) (x : Nat) : Grp := entG x T S (lNote T k) (if lNote T k < 0 then 0 else 1) 0
set_option maxRecDepth 100000 in
set_option maxHeartbeats 2000000 in
theorem epoch_NewEnter {B : Nat} {W w : World} {G : List Grp} (a s t k : Int) (hO : Owns B W w G) : Calls Try.prog 17 #[.agg #[.int .i64 a, .int .i64 s, .int .i64 t], .int .i64 k] w fun e w' =>
    ∃ x, e = .returned (.pointer (some ⟨x, 0, none⟩)) ∧ Owns B W w' (entNew (ofT a s t) (ofS a s t) k x :: G) := by
  obtain ⟨T, hT⟩ : ∃ T, ofT a s t = T := ⟨_, rfl⟩
  obtain ⟨S, hS⟩ : ∃ S, ofS a s t = S := ⟨_, rfl⟩
  obtain ⟨q, hq⟩ : ∃ q, lNote T k = q := ⟨_, rfl⟩
  have HT := Lib.hid hT
  have HS := Lib.hid hS
  have HQ := Lib.hid hq
  have L := Lib.hid (show lOk T S by have := of_lOk a s t; rwa [hT, hS] at this)
  clear hT hS hq
  rw [HT.out, HS.out]
  by_cases hn : q < 0
  all_goals
    go_enter Try.func17, Try.ntmps17
    go_wp2_with fail
    have hO := hO.alloc (.cells #[.int .i64 a, .int .i64 s, .int .i64 t] 23)
    generalize w.alloc (.cells #[.int .i64 a, .int .i64 s, .int .i64 t] 23) = w0 at hO ⊢
    refine (layout_Of _ _ _ _).mono ?_; rw [HT.out, HS.out]; rintro e w1 ⟨rfl, hb⟩; have hO := hO.via hb
    have hO := hO.alloc (.cells #[.int .i64 T, .int .i64 S] 56)
    go_wp2_with fail
    generalize hlb : w1.heap.size = lb at hO ⊢
    have HL := Lib.hid hlb
    clear hlb
    generalize w1.alloc (.cells #[.int .i64 T, .int .i64 S] 56) = w2 at hO ⊢
    have hO := hO.drew
    first
      | go_loud (go_region_held3 (fun w => w.cell? ⟨lb, 0, none⟩ = some (.int .i64 T) ∧ w.cell? ⟨lb, 1, none⟩ = some (.int .i64 S)) (first | assumption | exact ⟨hO.cell 0 0 rfl rfl 0, hO.cell 0 0 rfl rfl 1⟩ | exact ⟨(hO.alloc _).cell 1 0 rfl rfl 0, (hO.alloc _).cell 1 0 rfl rfl 1⟩) ((go_at_call 46; refine (layout_Note _ _ _ _ L.out).mono ?_; rw [HQ.out]; rintro e w7 ⟨rfl, hb⟩; have hO := hO.via hb)))
      | fail "new"
    all_goals
      have hO := hO.alloc (.cells #[.int .i64 T, .int .i64 S, .int .i64 q, .int .i64 1, .int .i64 0] 99)
      generalize hxb : w7.heap.size = xb at hO ⊢
      clear hxb
      generalize World.alloc w7 _ = w8 at hO ⊢
      have k2 : w8.cell? ⟨xb, 2, none⟩ = some (.int .i64 q) := hO.cell 0 0 rfl rfl 2
      have k3 : w8.cell? ⟨xb, 3, none⟩ = some (.int .i64 1) := hO.cell 0 0 rfl rfl 3
      have hf3 := blk_free (hO.get 0 0 rfl rfl) 3
      go_wp2_with fail
      go_ret
      refine ⟨xb, rfl, ?_⟩
      unfold entNew
      rw [HQ.out]
      first
        | (rw [if_pos hn]; exact ((hO.set 0 0 rfl rfl 3 (.int .i64 0)).drop 1).drop 1)
        | (rw [if_neg (by omega)]; exact (hO.drop 1).drop 1)
def tNext (a s t : Int) : Int := if cfgOk a s t = true then 1 else 0
/-- the Turn that is made. -/
def turnNew (a s t : Int) (x : Nat) : Grp := machG 93 x (ofT a s t) (ofS a s t) t (tNext a s t) 0 0
set_option maxRecDepth 100000 in
set_option maxHeartbeats 2000000 in
theorem epoch_NewTurn {B : Nat} {W w : World} {G : List Grp} (a s t : Int) (hO : Owns B W w G) : Calls Try.prog 15 #[.agg #[.int .i64 a, .int .i64 s, .int .i64 t]] w fun e w' =>
    ∃ x, e = .returned (.pointer (some ⟨x, 0, none⟩)) ∧ Owns B W w' (turnNew a s t x :: G) := by
  obtain ⟨T, hT⟩ : ∃ T, ofT a s t = T := ⟨_, rfl⟩
  obtain ⟨S, hS⟩ : ∃ S, ofS a s t = S := ⟨_, rfl⟩
  have HT := Lib.hid hT
  have HS := Lib.hid hS
  unfold turnNew
  rw [hT, hS]
  clear hT hS
  rcases bool_cases (b := cfgOk a s t) with hc | hc
  · have HE := Lib.hid (of_yes hc).2.2
    have HC := Lib.hid (show tNext a s t = 1 by unfold tNext; rw [hc]; rfl)
    clear hc
    go_enter Try.func15, Try.ntmps15
    go_wp2_with fail
    have hO := hO.alloc (.cells #[.int .i64 a, .int .i64 s, .int .i64 t] 23)
    generalize hcb : w.heap.size = cb at hO ⊢
    clear hcb
    generalize w.alloc (.cells #[.int .i64 a, .int .i64 s, .int .i64 t] 23) = w0 at hO ⊢
    refine (layout_Of _ _ _ _).mono ?_; rw [HT.out, HS.out, HE.out]; rintro e w1 ⟨rfl, hb⟩; have hO := hO.via hb
    have hO := hO.alloc (.cells #[.int .i64 T, .int .i64 S] 56)
    have a2 := hO.cell 1 0 rfl rfl 2
    go_wp2_with fail
    go_ret
    have hO := hO.alloc (machObj 93 T S t 1 0 0)
    refine ⟨_, rfl, ?_⟩
    rw [HC.out]
    simp only [World.size_alloc] at hO
    exact (hO.drop 1).drop 1
  · have HE := Lib.hid (of_no hc).2.2
    have HC := Lib.hid (show tNext a s t = 0 by unfold tNext; rw [hc]; rfl)
    clear hc
    go_enter Try.func15, Try.ntmps15
    go_wp2_with fail
    have hO := hO.alloc (.cells #[.int .i64 a, .int .i64 s, .int .i64 t] 23)
    generalize hcb : w.heap.size = cb at hO ⊢
    clear hcb
    generalize w.alloc (.cells #[.int .i64 a, .int .i64 s, .int .i64 t] 23) = w0 at hO ⊢
    refine (layout_Of _ _ _ _).mono ?_; rw [HT.out, HS.out, HE.out]; rintro e w1 ⟨rfl, hb⟩; have hO := hO.via hb
    have hO := hO.alloc (.cells #[.int .i64 T, .int .i64 S] 56)
    have a2 := hO.cell 1 0 rfl rfl 2
    go_wp2_with fail
    go_ret
    have hO := hO.alloc (machObj 93 T S t 0 0 0)
    refine ⟨_, rfl, ?_⟩
    rw [HC.out]
    simp only [World.size_alloc] at hO
    exact (hO.drop 1).drop 1
end Go.Proofs.Ytpfahnnmbaipdaa
