/- The stack's machines made; none of them; cells as they are at first. -/
import Derived.RegionTactic
import Derived.BigRegion
import Derived.Deep.RegionHeld3
import Derived.Test.YtpebepjfgnoaaaaStS
import Derived.Test.YtpebepjfgnoaaaaStU
import Derived.Test.YtpebepjfgnoaaaaIni
import Derived.Test.YtpebepjfgnoaaaaClN
namespace Go.Proofs.Ytpebepjfgnoaaaa
set_option linter.unusedVariables false
set_option linter.unusedSimpArgs false
open Go.RowKit
def MadeMach (T : TypeId) (B : Nat) (W : World) (G : List Grp) (t s sl : Int) (e : Ending) (w' : World) : Prop :=
  ∃ x, e = .returned (.pointer (some ⟨x, 0, none⟩)) ∧ Owns B W w' (machG T x t s 1 sl 0 0 :: G)
set_option maxHeartbeats 1000000 in
theorem stack_NewPop {B : Nat} {W w : World} {G : List Grp} (t s : Int) (hO : Owns B W w G) : Calls Try.prog 31 #[.agg #[.int .i64 t, .int .i64 s]] w (MadeMach 113 B W G t s 0) := by
  go_enter Try.func31, Try.ntmps31
  go_wp2
  go_ret
  refine ⟨w.heap.size + 1, rfl, ?_⟩
  have := (hO.alloc (.cells #[.int .i64 t, .int .i64 s] 25)).tail.alloc (machObj 113 t s 1 0 0 0)
  simp only [World.size_alloc] at this
  exact this
set_option maxHeartbeats 1000000 in
theorem stack_NewPush {B : Nat} {W w : World} {G : List Grp} (t s k : Int) (hO : Owns B W w G) : Calls Try.prog 35 #[.agg #[.int .i64 t, .int .i64 s], .int .i64 k] w (MadeMach 114 B W G t s k) := by
  go_enter Try.func35, Try.ntmps35
  go_wp2
  go_ret
  refine ⟨w.heap.size + 1, rfl, ?_⟩
  have := (hO.alloc (.cells #[.int .i64 t, .int .i64 s] 25)).tail.alloc (machObj 114 t s 1 k 0 0)
  simp only [World.size_alloc] at this
  exact this
set_option maxRecDepth 100000 in
theorem pop_nil (m : Value) (w : World) : Calls Try.prog 33 #[.pointer none, m] w fun e w' => e = .returned (.tuple #[.int .i64 0, .int .i64 1, .bool true]) ∧ w = w' := by
  go_enter Try.func33, Try.ntmps33
  go_wp2
  go_ret3
  exact ⟨rfl, rfl⟩
set_option maxRecDepth 100000 in
theorem pop_none (a : Addr) (w : World) : Calls Try.prog 33 #[.pointer (some a), .nilIface] w fun e w' => e = .returned (.tuple #[.int .i64 0, .int .i64 1, .bool true]) ∧ w = w' := by
  go_enter Try.func33, Try.ntmps33
  go_wp2
  go_ret3
  exact ⟨rfl, rfl⟩
set_option maxRecDepth 100000 in
theorem push_nil (m : Value) (w : World) : Calls Try.prog 32 #[.pointer none, m] w fun e w' => e = .returned (.tuple #[.int .i64 1, .bool true]) ∧ w = w' := by
  go_enter Try.func32, Try.ntmps32
  go_wp2
  go_ret2
  exact ⟨rfl, rfl⟩
set_option maxRecDepth 100000 in
theorem push_none (a : Addr) (w : World) : Calls Try.prog 32 #[.pointer (some a), .nilIface] w fun e w' => e = .returned (.tuple #[.int .i64 1, .bool true]) ∧ w = w' := by
  go_enter Try.func32, Try.ntmps32
  go_wp2
  go_ret2
  exact ⟨rfl, rfl⟩
set_option maxRecDepth 100000 in
theorem free_none (t s : Int) (w : World) : Calls Try.prog 29 #[.nilIface, .agg #[.int .i64 t, .int .i64 s]] w fun e w' => e = .returned (.slice none 0 0) ∧ Below w.heap.size w w' := by
  go_enter Try.func29, Try.ntmps29
  go_wp2
  go_ret
  exact ⟨rfl, by (repeat' (first | (with_reducible exact Below.refl _ _) | (with_reducible assumption) | (with_reducible refine below_drewN ?_ _) | (with_reducible refine Below.drew ?_) | (with_reducible refine Below.alloc ?_ ?_ _) | (with_reducible refine Below.setCell ?_ ?_ _) | (with_reducible refine below_via (by assumption) ?_ ?_) | go_size))⟩
def Begun (B : Nat) (W : World) (G : List Grp) (a s t : Int) (e : Ending) (w' : World) : Prop :=
  ∃ p bw bb m, e = .returned (.tuple #[.pointer (some ⟨p, 0, none⟩), .agg #[.int .i64 t, .int .i64 s]]) ∧ Owns B W w' (memG p bw bb (initW t s) (List.replicate a.toNat 0) m :: G)
set_option maxRecDepth 100000 in
set_option maxHeartbeats 4000000 in
theorem law10_start_no (a s t : Int) (w : World) (hc : cfgOk a s t = false) : Calls Try.prog 20 #[.agg #[.int .i64 a, .int .i64 s, .int .i64 t]] w fun e w' => e = .returned (.tuple #[.pointer none, .agg #[.int .i64 0, .int .i64 0]]) ∧ Below w.heap.size w w' := by
  obtain ⟨e1, e2, e3⟩ := of_no hc
  have E1 := Lib.hid e1
  have E2 := Lib.hid e2
  have E3 := Lib.hid e3
  have RU := Lib.hid (rWords_no hc)
  have cm := Lib.hid (show cMay 0 a = false by unfold cMay; rw [decide_eq_false_iff_not]; omega)
  clear e1 e2 e3 hc
  go_enter Try.func20, Try.ntmps20
  go_wp2_with fail
  have hO := ((Owns.nil w).more (.cells #[.int .i64 a, .int .i64 s, .int .i64 t] 23)).more (.cells #[.int .i64 0, .int .i64 0] 25)
  simp only [World.size_alloc] at hO
  generalize hcb : w.heap.size = cb at hO ⊢
  have HC := Lib.hid hcb
  clear hcb
  generalize (w.alloc (.cells #[.int .i64 a, .int .i64 s, .int .i64 t] 23)).alloc (.cells #[.int .i64 0, .int .i64 0] 25) = w0 at hO ⊢
  refine (layout_Of _ _ _ _).mono ?_; rw [E1.out, E2.out, E3.out]; rintro e w1 ⟨rfl, hb⟩; have hO := hO.via hb
  have hO := hO.more (.cells #[.int .i64 0, .int .i64 0] 25)
  go_wp2_with fail
  generalize hlb : w1.heap.size = lb at hO ⊢
  have HL := Lib.hid hlb
  clear hlb
  generalize w1.alloc (.cells #[.int .i64 0, .int .i64 0] 25) = w2 at hO ⊢
  have hO := hO.drew
  first
    | go_loud (go_region_held3 (fun w => w.cell? ⟨cb, 0, none⟩ = some (.int .i64 a) ∧ w.cell? ⟨cb, 1, none⟩ = some (.int .i64 s) ∧ w.cell? ⟨cb, 2, none⟩ = some (.int .i64 t)) (first | assumption | exact ⟨hO.cell 0 0 rfl rfl 0, hO.cell 0 0 rfl rfl 1, hO.cell 0 0 rfl rfl 2⟩) (first | (go_at_call 49; refine (ref06_Words _ _ _ _).mono ?_; rw [RU.out]; rintro e w7 ⟨rfl, hb⟩; have hO := hO.via hb) | (go_at_call 45; refine (cells_New_no _ _ _ cm.out).mono ?_; rintro e w7 ⟨rfl, rfl⟩)))
    | fail "new"
  all_goals
    have b0 : _ = some (Value.int .i64 0) := hO.cell 2 0 rfl rfl 0
    have b1 : _ = some (Value.int .i64 0) := hO.cell 2 0 rfl rfl 1
    have d0 : _ = some (Value.int .i64 0) := hO.cell 1 0 rfl rfl 0
    have d1 : _ = some (Value.int .i64 0) := hO.cell 1 0 rfl rfl 1
    have hf0 := blk_free (hO.get 1 0 rfl rfl) 0
    have hf1 := blk_free (hO.get 1 0 rfl rfl) 1
    have hne := hO.ne_out 1 2 0 0 rfl rfl rfl rfl (by decide)
    go_wp2_with fail
    go_region
    all_goals
      have hO := ((hO.set 1 0 rfl rfl 0 (.int .i64 0)).set 1 0 rfl rfl 1 (.int .i64 0)).drew
      generalize ((World.setCell _ _ _).setCell _ _).drew = w8 at hO ⊢
      have d0 : _ = some (Value.int .i64 0) := hO.cell 1 0 rfl rfl 0
      have d1 : _ = some (Value.int .i64 0) := hO.cell 1 0 rfl rfl 1
      go_wp2_with fail
      exact bodyPost_ret (v := .tuple #[.pointer none, .agg #[.int .i64 0, .int .i64 0]]) (by simp [results, Try.results20, go_sem, d0, d1]) rfl ⟨rfl, by rw [HC.out]; exact hO.below⟩
set_option maxRecDepth 100000 in
set_option maxHeartbeats 4000000 in
theorem law10_start {B : Nat} {W w : World} {G : List Grp} (a s t : Int) (hO : Owns B W w G) (hc : cfgOk a s t = true) : Calls Try.prog 20 #[.agg #[.int .i64 a, .int .i64 s, .int .i64 t]] w (Begun B W G a s t) := by
  obtain ⟨e1, e2, e3⟩ := of_yes hc
  have E1 := Lib.hid e1
  have E2 := Lib.hid e2
  have E3 := Lib.hid e3
  obtain ⟨h1, h2, h3, h4, h5, h6, h7⟩ := cfgOk_of hc
  obtain ⟨N, hN⟩ : ∃ N : Nat, lWords t s = N := ⟨(lWords t s).toNat, by rw [lWords_ok h6]; omega⟩
  have hN2 : N ≤ 200 ∧ 8 ≤ N := by have := lWords_ok (s := s) h6; omega
  have RU := Lib.hid (show rWords a s t = N by rw [rWords_yes hc, ← lWords_ok h6, hN])
  have HN := Lib.hid hN
  have CK := Lib.hid hc
  have cm := Lib.hid (show cMay N a = true by unfold cMay; rw [decide_eq_true_eq]; omega)
  have hi := Lib.hid (show startW t s (List.replicate N 0) = initW t s by unfold initW; rw [hN]; rfl)
  clear e1 e2 e3 hc h3 hN
  go_enter Try.func20, Try.ntmps20
  go_wp2_with fail
  have hO := (hO.alloc (.cells #[.int .i64 a, .int .i64 s, .int .i64 t] 23)).alloc (.cells #[.int .i64 0, .int .i64 0] 25)
  simp only [World.size_alloc] at hO
  generalize hcb : w.heap.size = cb at hO ⊢
  have HC := Lib.hid hcb
  clear hcb
  generalize (w.alloc (.cells #[.int .i64 a, .int .i64 s, .int .i64 t] 23)).alloc (.cells #[.int .i64 0, .int .i64 0] 25) = w0 at hO ⊢
  refine (layout_Of _ _ _ _).mono ?_; rw [E1.out, E2.out, E3.out]; rintro e w1 ⟨rfl, hb⟩; have hO := hO.via hb
  have hO := hO.alloc (.cells #[.int .i64 t, .int .i64 s] 25)
  go_wp2_with fail
  generalize hlb : w1.heap.size = lb at hO ⊢
  have HL := Lib.hid hlb
  clear hlb
  generalize w1.alloc (.cells #[.int .i64 t, .int .i64 s] 25) = w2 at hO ⊢
  have hO := hO.drew
  first
    | go_loud (go_region_held3 (fun w => w.cell? ⟨cb, 0, none⟩ = some (.int .i64 a) ∧ w.cell? ⟨cb, 1, none⟩ = some (.int .i64 s) ∧ w.cell? ⟨cb, 2, none⟩ = some (.int .i64 t)) (first | assumption | exact ⟨hO.cell 2 0 rfl rfl 0, hO.cell 2 0 rfl rfl 1, hO.cell 2 0 rfl rfl 2⟩ | exact ⟨hO.cell 3 0 rfl rfl 0, hO.cell 3 0 rfl rfl 1, hO.cell 3 0 rfl rfl 2⟩) (first | (go_at_call 49; refine (ref06_Words _ _ _ _).mono ?_; rw [RU.out]; rintro e w7 ⟨rfl, hb⟩; have hO := hO.via hb) | (go_at_call 45; refine (cells_New _ _ hO cm.out).mono ?_; rintro e w7 ⟨p, bw, bb, rfl, hO'⟩; have hO := hO')))
    | fail "new"
  all_goals
    have a0 : _ = some (Value.int .i64 a) := hO.cell 3 0 rfl rfl 0
    have a1 : _ = some (Value.int .i64 s) := hO.cell 3 0 rfl rfl 1
    have a2 : _ = some (Value.int .i64 t) := hO.cell 3 0 rfl rfl 2
    go_wp2_with (go_at_call 46; refine stop_here ?_)
    unfold Stop
    refine (layout_Start_ok 0 a s t hO rfl (by rw [List.length_replicate]; omega) (by rw [List.length_replicate]; omega) CK.out (by rw [HN.out, List.length_replicate]; omega) (by rw [List.length_replicate]; omega)).mono ?_
    rintro e w8 ⟨rfl, m, hO'⟩
    rw [Int.toNat_natCast, hi.out] at hO'
    have hO := hO'
    have b0 : _ = some (Value.int .i64 t) := hO.cell 1 0 rfl rfl 0
    have b1 : _ = some (Value.int .i64 s) := hO.cell 1 0 rfl rfl 1
    have d0 : _ = some (Value.int .i64 0) := hO.cell 2 0 rfl rfl 0
    have d1 : _ = some (Value.int .i64 0) := hO.cell 2 0 rfl rfl 1
    have hf0 := blk_free (hO.get 2 0 rfl rfl) 0
    have hf1 := blk_free (hO.get 2 0 rfl rfl) 1
    have hne := hO.ne_out 2 1 0 0 rfl rfl rfl rfl (by decide)
    go_wp2_with fail
    go_region
    all_goals
      have hO := ((hO.set 2 0 rfl rfl 0 (.int .i64 t)).set 2 0 rfl rfl 1 (.int .i64 s)).drew
      generalize ((World.setCell _ _ _).setCell _ _).drew = w9 at hO ⊢
      have d0 : _ = some (Value.int .i64 t) := hO.cell 2 0 rfl rfl 0
      have d1 : _ = some (Value.int .i64 s) := hO.cell 2 0 rfl rfl 1
      go_wp2_with fail
      exact bodyPost_ret (v := .tuple #[.pointer (some ⟨p, 0, none⟩), .agg #[.int .i64 t, .int .i64 s]]) (by simp [results, Try.results20, go_sem, d0, d1]) rfl ⟨p, bw, bb, m, rfl, ((hO.drop 1).drop 1).drop 1⟩
end Go.Proofs.Ytpebepjfgnoaaaa
