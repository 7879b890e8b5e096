/- The pin law PinBack. -/
import Derived.LoopTactic
import Derived.Test.YtmbkkpeepbfgoaaPnB0
import Derived.Test.YtmbkkpeepbfgoaaPnLv
import Derived.Test.YtmbkkpeepbfgoaaEnR2
namespace Go.Proofs.Ytmbkkpeepbfgoaa
set_option linter.unusedVariables false
set_option linter.unusedSimpArgs false
open Go.RowKit
set_option maxRecDepth 100000 in
set_option maxHeartbeats 8000000 in
theorem PinBack_no1 (o g p u : Int) (l a : Bool) (n : Int) (W : World) (x f : Int) (hp : ePack o g p u l a = (x, f)) (hf : (f != 0) = true) : Calls Try.prog 11 #[.agg #[.int .i64 o, .int .i64 g, .int .i64 p, .int .i64 u, .bool l, .bool a], .int .i64 n] W fun e w' => e = .returned (.bool true) ∧ Below W.heap.size W w' := by
    have HP := Lib.hid hp
    clear hp
    have ck := Lib.hid (show cfgOk 8 1 1 = true by decide); go_enter Try.func11, Try.ntmps11; go_wp2_with fail; have hO := ((Owns.nil W).more (.cells #[.int .i64 o, .int .i64 g, .int .i64 p, .int .i64 u, .bool l, .bool a] 68)).more (.cells #[.int .i64 8, .int .i64 1, .int .i64 1] 26); simp only [World.size_alloc] at hO; generalize hcb : W.heap.size = cb at hO ⊢; have HC := Lib.hid hcb; clear hcb; generalize (W.alloc (.cells #[.int .i64 o, .int .i64 g, .int .i64 p, .int .i64 u, .bool l, .bool a] 68)).alloc (.cells #[.int .i64 8, .int .i64 1, .int .i64 1] 26) = w0 at hO ⊢; refine (ref02_Pack _ _ _ _ _ _ _).mono ?_; rw [HP.out]; rintro e wa ⟨rfl, hb⟩; have hO := hO.via hb; have b0 : _ = some (Value.int .i64 8) := hO.cell 1 0 rfl rfl 0; have b1 : _ = some (Value.int .i64 1) := hO.cell 1 0 rfl rfl 1; have b2 : _ = some (Value.int .i64 1) := hO.cell 1 0 rfl rfl 2; go_wp2_with fail; refine (law14_start 8 1 1 hO ck.out).mono ?_; rintro e w1 ⟨pm, bw, bb, m, rfl, hO'⟩; have hO := hO'; (try simp only [List.set_cons_zero, List.set_cons_succ, List.cons_append, List.nil_append, List.eraseIdx_cons_succ, List.eraseIdx_cons_zero] at hO); have e0 : _ = some (Value.int .i64 o) := hO.cell 1 0 rfl rfl 0; have e1 : _ = some (Value.int .i64 g) := hO.cell 1 0 rfl rfl 1; have e2 : _ = some (Value.int .i64 p) := hO.cell 1 0 rfl rfl 2; have e3 : _ = some (Value.int .i64 u) := hO.cell 1 0 rfl rfl 3; have e4 : _ = some (Value.bool l) := hO.cell 1 0 rfl rfl 4; have e5 : _ = some (Value.bool a) := hO.cell 1 0 rfl rfl 5; have ez := hO.lt 1 0 rfl rfl; have b0 : _ = some (Value.int .i64 8) := hO.cell 2 0 rfl rfl 0; have b1 : _ = some (Value.int .i64 1) := hO.cell 2 0 rfl rfl 1; have b2 : _ = some (Value.int .i64 1) := hO.cell 2 0 rfl rfl 2; have bz := hO.lt 2 0 rfl rfl
    go_wp2_with (go_at_call 21; refine (law14_live _).mono ?_; rintro e w6 ⟨rfl, hb⟩; have hO := hO.via hb)
    go_ret
    exact ⟨rfl, by rw [HC.out]; exact hO.below⟩
set_option maxRecDepth 100000 in
set_option maxHeartbeats 8000000 in
theorem PinBack_no2 (o g p u : Int) (l a : Bool) (n : Int) (W : World) (x f : Int) (hp : ePack o g p u l a = (x, f)) (hf : (f != 0) = false) (ha : a = false) : Calls Try.prog 11 #[.agg #[.int .i64 o, .int .i64 g, .int .i64 p, .int .i64 u, .bool l, .bool a], .int .i64 n] W fun e w' => e = .returned (.bool true) ∧ Below W.heap.size W w' := by
    have HP := Lib.hid hp
    have HA := Lib.hid ha
    clear hp ha
    have ck := Lib.hid (show cfgOk 8 1 1 = true by decide); go_enter Try.func11, Try.ntmps11; go_wp2_with fail; have hO := ((Owns.nil W).more (.cells #[.int .i64 o, .int .i64 g, .int .i64 p, .int .i64 u, .bool l, .bool a] 68)).more (.cells #[.int .i64 8, .int .i64 1, .int .i64 1] 26); simp only [World.size_alloc] at hO; generalize hcb : W.heap.size = cb at hO ⊢; have HC := Lib.hid hcb; clear hcb; generalize (W.alloc (.cells #[.int .i64 o, .int .i64 g, .int .i64 p, .int .i64 u, .bool l, .bool a] 68)).alloc (.cells #[.int .i64 8, .int .i64 1, .int .i64 1] 26) = w0 at hO ⊢; refine (ref02_Pack _ _ _ _ _ _ _).mono ?_; rw [HP.out]; rintro e wa ⟨rfl, hb⟩; have hO := hO.via hb; have b0 : _ = some (Value.int .i64 8) := hO.cell 1 0 rfl rfl 0; have b1 : _ = some (Value.int .i64 1) := hO.cell 1 0 rfl rfl 1; have b2 : _ = some (Value.int .i64 1) := hO.cell 1 0 rfl rfl 2; go_wp2_with fail; refine (law14_start 8 1 1 hO ck.out).mono ?_; rintro e w1 ⟨pm, bw, bb, m, rfl, hO'⟩; have hO := hO'; (try simp only [List.set_cons_zero, List.set_cons_succ, List.cons_append, List.nil_append, List.eraseIdx_cons_succ, List.eraseIdx_cons_zero] at hO); have e0 : _ = some (Value.int .i64 o) := hO.cell 1 0 rfl rfl 0; have e1 : _ = some (Value.int .i64 g) := hO.cell 1 0 rfl rfl 1; have e2 : _ = some (Value.int .i64 p) := hO.cell 1 0 rfl rfl 2; have e3 : _ = some (Value.int .i64 u) := hO.cell 1 0 rfl rfl 3; have e4 : _ = some (Value.bool l) := hO.cell 1 0 rfl rfl 4; have e5 : _ = some (Value.bool a) := hO.cell 1 0 rfl rfl 5; have ez := hO.lt 1 0 rfl rfl; have b0 : _ = some (Value.int .i64 8) := hO.cell 2 0 rfl rfl 0; have b1 : _ = some (Value.int .i64 1) := hO.cell 2 0 rfl rfl 1; have b2 : _ = some (Value.int .i64 1) := hO.cell 2 0 rfl rfl 2; have bz := hO.lt 2 0 rfl rfl
    have ha := HA.out
    subst ha
    go_wp2_with (go_at_call 21; refine (law14_live _).mono ?_; rintro e w6 ⟨rfl, hb⟩; have hO := hO.via hb)
    go_ret
    exact ⟨rfl, by rw [HC.out]; exact hO.below⟩
set_option maxRecDepth 100000 in
set_option maxHeartbeats 8000000 in
theorem PinBack_no3 (o g p u : Int) (l a : Bool) (n : Int) (W : World) (x f : Int) (hp : ePack o g p u l a = (x, f)) (hf : (f != 0) = false) (ha : a = true) (hl : l = true) : Calls Try.prog 11 #[.agg #[.int .i64 o, .int .i64 g, .int .i64 p, .int .i64 u, .bool l, .bool a], .int .i64 n] W fun e w' => e = .returned (.bool true) ∧ Below W.heap.size W w' := by
    have HP := Lib.hid hp
    have HA := Lib.hid ha
    have HLL := Lib.hid hl
    clear hp ha hl
    have ck := Lib.hid (show cfgOk 8 1 1 = true by decide); go_enter Try.func11, Try.ntmps11; go_wp2_with fail; have hO := ((Owns.nil W).more (.cells #[.int .i64 o, .int .i64 g, .int .i64 p, .int .i64 u, .bool l, .bool a] 68)).more (.cells #[.int .i64 8, .int .i64 1, .int .i64 1] 26); simp only [World.size_alloc] at hO; generalize hcb : W.heap.size = cb at hO ⊢; have HC := Lib.hid hcb; clear hcb; generalize (W.alloc (.cells #[.int .i64 o, .int .i64 g, .int .i64 p, .int .i64 u, .bool l, .bool a] 68)).alloc (.cells #[.int .i64 8, .int .i64 1, .int .i64 1] 26) = w0 at hO ⊢; refine (ref02_Pack _ _ _ _ _ _ _).mono ?_; rw [HP.out]; rintro e wa ⟨rfl, hb⟩; have hO := hO.via hb; have b0 : _ = some (Value.int .i64 8) := hO.cell 1 0 rfl rfl 0; have b1 : _ = some (Value.int .i64 1) := hO.cell 1 0 rfl rfl 1; have b2 : _ = some (Value.int .i64 1) := hO.cell 1 0 rfl rfl 2; go_wp2_with fail; refine (law14_start 8 1 1 hO ck.out).mono ?_; rintro e w1 ⟨pm, bw, bb, m, rfl, hO'⟩; have hO := hO'; (try simp only [List.set_cons_zero, List.set_cons_succ, List.cons_append, List.nil_append, List.eraseIdx_cons_succ, List.eraseIdx_cons_zero] at hO); have e0 : _ = some (Value.int .i64 o) := hO.cell 1 0 rfl rfl 0; have e1 : _ = some (Value.int .i64 g) := hO.cell 1 0 rfl rfl 1; have e2 : _ = some (Value.int .i64 p) := hO.cell 1 0 rfl rfl 2; have e3 : _ = some (Value.int .i64 u) := hO.cell 1 0 rfl rfl 3; have e4 : _ = some (Value.bool l) := hO.cell 1 0 rfl rfl 4; have e5 : _ = some (Value.bool a) := hO.cell 1 0 rfl rfl 5; have ez := hO.lt 1 0 rfl rfl; have b0 : _ = some (Value.int .i64 8) := hO.cell 2 0 rfl rfl 0; have b1 : _ = some (Value.int .i64 1) := hO.cell 2 0 rfl rfl 1; have b2 : _ = some (Value.int .i64 1) := hO.cell 2 0 rfl rfl 2; have bz := hO.lt 2 0 rfl rfl
    have ha := HA.out
    subst ha
    have hl := HLL.out
    subst hl
    go_wp2_with (go_at_call 21; refine (law14_live _).mono ?_; rintro e w6 ⟨rfl, hb⟩; have hO := hO.via hb)
    go_ret
    exact ⟨rfl, by rw [HC.out]; exact hO.below⟩
set_option maxRecDepth 100000 in
set_option maxHeartbeats 8000000 in
theorem PinBack_no4 (o g p u : Int) (l a : Bool) (n : Int) (W : World) (x f : Int) (hp : ePack o g p u l a = (x, f)) (hf : (f != 0) = false) (ha : a = true) (hl : l = false) (p0 : 0 ≤ p) (p7 : p ≤ 7) (hn : decide (n < 0) = true ∨ (decide (n < 0) = false ∧ decide (7 - p < n) = true)) : Calls Try.prog 11 #[.agg #[.int .i64 o, .int .i64 g, .int .i64 p, .int .i64 u, .bool l, .bool a], .int .i64 n] W fun e w' => e = .returned (.bool true) ∧ Below W.heap.size W w' := by
  have HP := Lib.hid hp
  have HA := Lib.hid ha
  have HLL := Lib.hid hl
  clear hp ha hl
  rcases hn with hn | ⟨hn, hn'⟩
  all_goals
    have ck := Lib.hid (show cfgOk 8 1 1 = true by decide); go_enter Try.func11, Try.ntmps11; go_wp2_with fail; have hO := ((Owns.nil W).more (.cells #[.int .i64 o, .int .i64 g, .int .i64 p, .int .i64 u, .bool l, .bool a] 68)).more (.cells #[.int .i64 8, .int .i64 1, .int .i64 1] 26); simp only [World.size_alloc] at hO; generalize hcb : W.heap.size = cb at hO ⊢; have HC := Lib.hid hcb; clear hcb; generalize (W.alloc (.cells #[.int .i64 o, .int .i64 g, .int .i64 p, .int .i64 u, .bool l, .bool a] 68)).alloc (.cells #[.int .i64 8, .int .i64 1, .int .i64 1] 26) = w0 at hO ⊢; refine (ref02_Pack _ _ _ _ _ _ _).mono ?_; rw [HP.out]; rintro e wa ⟨rfl, hb⟩; have hO := hO.via hb; have b0 : _ = some (Value.int .i64 8) := hO.cell 1 0 rfl rfl 0; have b1 : _ = some (Value.int .i64 1) := hO.cell 1 0 rfl rfl 1; have b2 : _ = some (Value.int .i64 1) := hO.cell 1 0 rfl rfl 2; go_wp2_with fail; refine (law14_start 8 1 1 hO ck.out).mono ?_; rintro e w1 ⟨pm, bw, bb, m, rfl, hO'⟩; have hO := hO'; (try simp only [List.set_cons_zero, List.set_cons_succ, List.cons_append, List.nil_append, List.eraseIdx_cons_succ, List.eraseIdx_cons_zero] at hO); have e0 : _ = some (Value.int .i64 o) := hO.cell 1 0 rfl rfl 0; have e1 : _ = some (Value.int .i64 g) := hO.cell 1 0 rfl rfl 1; have e2 : _ = some (Value.int .i64 p) := hO.cell 1 0 rfl rfl 2; have e3 : _ = some (Value.int .i64 u) := hO.cell 1 0 rfl rfl 3; have e4 : _ = some (Value.bool l) := hO.cell 1 0 rfl rfl 4; have e5 : _ = some (Value.bool a) := hO.cell 1 0 rfl rfl 5; have ez := hO.lt 1 0 rfl rfl; have b0 : _ = some (Value.int .i64 8) := hO.cell 2 0 rfl rfl 0; have b1 : _ = some (Value.int .i64 1) := hO.cell 2 0 rfl rfl 1; have b2 : _ = some (Value.int .i64 1) := hO.cell 2 0 rfl rfl 2; have bz := hO.lt 2 0 rfl rfl
    have ha := HA.out
    subst ha
    have hl := HLL.out
    subst hl
    go_wp2_with (go_at_call 21; refine (law14_live _).mono ?_; rintro e w6 ⟨rfl, hb⟩; have hO := hO.via hb)
    go_ret
    exact ⟨rfl, by rw [HC.out]; exact hO.below⟩
set_option maxRecDepth 100000 in
set_option maxHeartbeats 8000000 in
theorem PinBack_go (o g p u : Int) (l a : Bool) (N : Nat) (W : World) (hm : eMay o g p u false true = true) (ha : a = true) (hl : l = false) (hn : (N : Int) ≤ 7 - p) : Calls Try.prog 11 #[.agg #[.int .i64 o, .int .i64 g, .int .i64 p, .int .i64 u, .bool l, .bool a], .int .i64 N] W fun e w' => e = .returned (.bool true) ∧ Below W.heap.size W w' := by
  obtain ⟨h1, h2, h3, h4, p0, p7, h7, h8, h9, h10⟩ := eMay_of hm
  have HMS := Lib.hid (fun (q : Int) (h0 : 0 ≤ q) (h1' : q ≤ 7) => (show eMay o g q u false true = true by unfold eMay; simp; omega))
  obtain ⟨own, hown⟩ : ∃ v, (hMake 0 g).1 = v := ⟨_, rfl⟩
  obtain ⟨f2, hf2⟩ : ∃ v, (hMake 0 g).2 = v := ⟨_, rfl⟩
  have HMK := Lib.hid (show hMake 0 g = (own, f2) by rw [← hown, ← hf2])
  have HOW := Lib.hid (own0_of ⟨h3, h4⟩)
  rw [hown] at HOW
  obtain ⟨v, hv⟩ : ∃ v, eWord o g p u false true = v := ⟨_, rfl⟩
  have HP := Lib.hid (show ePack o g p u l a = (v, 0) by unfold ePack; rw [ha, hl, if_pos hm, hv])
  have HV := Lib.hid hv
  have HA := Lib.hid ha
  have HLL := Lib.hid hl
  have d1 : decide ((N : Int) < 0) = false := by rw [decide_eq_false_iff_not]; omega
  have d2 : decide (7 - p < (N : Int)) = false := by rw [decide_eq_false_iff_not]; omega
  clear hv hown hf2 hm h9 h10 ha hl h1 h2 h3 h4 h7 h8
  have ck := Lib.hid (show cfgOk 8 1 1 = true by decide); go_enter Try.func11, Try.ntmps11; go_wp2_with fail; have hO := ((Owns.nil W).more (.cells #[.int .i64 o, .int .i64 g, .int .i64 p, .int .i64 u, .bool l, .bool a] 68)).more (.cells #[.int .i64 8, .int .i64 1, .int .i64 1] 26); simp only [World.size_alloc] at hO; generalize hcb : W.heap.size = cb at hO ⊢; have HC := Lib.hid hcb; clear hcb; generalize (W.alloc (.cells #[.int .i64 o, .int .i64 g, .int .i64 p, .int .i64 u, .bool l, .bool a] 68)).alloc (.cells #[.int .i64 8, .int .i64 1, .int .i64 1] 26) = w0 at hO ⊢; refine (ref02_Pack _ _ _ _ _ _ _).mono ?_; rw [HP.out]; rintro e wa ⟨rfl, hb⟩; have hO := hO.via hb; have b0 : _ = some (Value.int .i64 8) := hO.cell 1 0 rfl rfl 0; have b1 : _ = some (Value.int .i64 1) := hO.cell 1 0 rfl rfl 1; have b2 : _ = some (Value.int .i64 1) := hO.cell 1 0 rfl rfl 2; go_wp2_with fail; refine (law14_start 8 1 1 hO ck.out).mono ?_; rintro e w1 ⟨pm, bw, bb, m, rfl, hO'⟩; have hO := hO'; (try simp only [List.set_cons_zero, List.set_cons_succ, List.cons_append, List.nil_append, List.eraseIdx_cons_succ, List.eraseIdx_cons_zero] at hO); have e0 : _ = some (Value.int .i64 o) := hO.cell 1 0 rfl rfl 0; have e1 : _ = some (Value.int .i64 g) := hO.cell 1 0 rfl rfl 1; have e2 : _ = some (Value.int .i64 p) := hO.cell 1 0 rfl rfl 2; have e3 : _ = some (Value.int .i64 u) := hO.cell 1 0 rfl rfl 3; have e4 : _ = some (Value.bool l) := hO.cell 1 0 rfl rfl 4; have e5 : _ = some (Value.bool a) := hO.cell 1 0 rfl rfl 5; have ez := hO.lt 1 0 rfl rfl; have b0 : _ = some (Value.int .i64 8) := hO.cell 2 0 rfl rfl 0; have b1 : _ = some (Value.int .i64 1) := hO.cell 2 0 rfl rfl 1; have b2 : _ = some (Value.int .i64 1) := hO.cell 2 0 rfl rfl 2; have bz := hO.lt 2 0 rfl rfl
  have ha := HA.out
  subst ha
  have hl := HLL.out
  subst hl
  rw [p14_0, p14_b0] at hO
  go_wp2_with (go_at_call 14; refine (handle_make _ _ _).mono ?_; rw [HMK.out]; rintro e w2 ⟨rfl, rfl⟩; refine stop_here ?_)
  try unfold Stop
  go_wp2_with fail
  clear d1 d2
  refine (plain_Store 0 5 _ hO rfl (by decide)).mono ?_; rw [p14V_0, ← HV.out]; rintro e w3 ⟨rfl, hO'⟩; have hO := hO'; (try simp only [List.set_cons_zero, List.set_cons_succ, List.cons_append, List.nil_append, List.eraseIdx_cons_succ, List.eraseIdx_cons_zero] at hO)
  clear e0 e1 e2 e3 e4 e5 b0 b1 b2 ez bz
  go_wp2_with fail
  go_loopw [11] (fun i wr => ∃ (k : Nat) (m1 : Int), i = .int .i64 k ∧ k ≤ N ∧ Owns cb W wr (memG pm bw bb (p14V (eWord o g (p + k) u false true)) (List.replicate (Int.toNat 8) 0) m1 :: [[(cb, Obj.cells #[Value.int .i64 o, .int .i64 g, .int .i64 p, .int .i64 u, .bool false, .bool true] 68 (0, 0))], [(cb + 1, Obj.cells #[Value.int .i64 8, .int .i64 1, .int .i64 1] 26 (0, 0))]])) (fun i _ => N - (intOf i).toNat)
  case atStart => exact ⟨0, _, rfl, by omega, by rw [show p + ((0 : Nat) : Int) = p by omega]; exact hO⟩
  case round =>
    clear hO
    obtain ⟨k, m1, rfl, hk, hO⟩ := hrel
    by_cases hlt : k < N
    · (try simp only [List.set_cons_zero, List.set_cons_succ, List.cons_append, List.nil_append, List.eraseIdx_cons_succ, List.eraseIdx_cons_zero] at hO); have e0 : _ = some (Value.int .i64 o) := hO.cell 1 0 rfl rfl 0; have e1 : _ = some (Value.int .i64 g) := hO.cell 1 0 rfl rfl 1; have e2 : _ = some (Value.int .i64 p) := hO.cell 1 0 rfl rfl 2; have e3 : _ = some (Value.int .i64 u) := hO.cell 1 0 rfl rfl 3; have e4 : _ = some (Value.bool false) := hO.cell 1 0 rfl rfl 4; have e5 : _ = some (Value.bool true) := hO.cell 1 0 rfl rfl 5; have ez := hO.lt 1 0 rfl rfl; have b0 : _ = some (Value.int .i64 8) := hO.cell 2 0 rfl rfl 0; have b1 : _ = some (Value.int .i64 1) := hO.cell 2 0 rfl rfl 1; have b2 : _ = some (Value.int .i64 1) := hO.cell 2 0 rfl rfl 2; have bz := hO.lt 2 0 rfl rfl
      have HB := Lib.hid (pn_back (wd := 0) (tw := 0) false (HMS.out (p + k) (by omega) (by omega)) (HMS.out (p + k + pnBy false) (by unfold pnBy; simp; omega) (by unfold pnBy; simp; omega)))
      go_wp2_with fail
      refine (pin_New 8 1 1 own HOW.out.2.1 HOW.out.2.2 hO).mono ?_; rintro e w4 ⟨x, rfl, hO'⟩; have hO := hO'.swap; unfold pnNews at hO; rw [show ofT 8 1 1 = 1 by decide, show ofS 8 1 1 = 1 by decide, if_pos ck.out, HOW.out.1] at hO
      go_wp2_with fail
      refine (pin_run 10 (by decide) hO lOk11 (by show 8 ≤ 4096; decide) _ HB.out).mono ?_; simp only [resN]; rintro e w5 ⟨rfl, m5, hO'⟩; have hO := hO'.drop 1; (try simp only [List.set_cons_zero, List.set_cons_succ, List.cons_append, List.nil_append, List.eraseIdx_cons_succ, List.eraseIdx_cons_zero] at hO); have e0 : _ = some (Value.int .i64 o) := hO.cell 1 0 rfl rfl 0; have e1 : _ = some (Value.int .i64 g) := hO.cell 1 0 rfl rfl 1; have e2 : _ = some (Value.int .i64 p) := hO.cell 1 0 rfl rfl 2; have e3 : _ = some (Value.int .i64 u) := hO.cell 1 0 rfl rfl 3; have e4 : _ = some (Value.bool false) := hO.cell 1 0 rfl rfl 4; have e5 : _ = some (Value.bool true) := hO.cell 1 0 rfl rfl 5; have ez := hO.lt 1 0 rfl rfl; have b0 : _ = some (Value.int .i64 8) := hO.cell 2 0 rfl rfl 0; have b1 : _ = some (Value.int .i64 1) := hO.cell 2 0 rfl rfl 1; have b2 : _ = some (Value.int .i64 1) := hO.cell 2 0 rfl rfl 2; have bz := hO.lt 2 0 rfl rfl
      go_wp2_with fail
      go_roundw
      case rel => exact ⟨k + 1, _, by go_num, by omega, by have hO := hO.via (below_alloc _ (.cells #[.int .i64 0, .int .i64 0] 37)); rw [show p + ((k + 1 : Nat) : Int) = p + k + pnBy false by unfold pnBy; simp; omega]; exact hO⟩
      case measure => simp [intOf]; omega
    · have hge : decide (k < N) = false := by rw [decide_eq_false_iff_not]; omega
      have hkN : k = N := by omega
      subst hkN
      clear hlt
      go_wp2_with fail
      clear hge
      go_loopw [14] (fun i wr => ∃ (j : Nat) (m1 : Int), i = .int .i64 j ∧ j ≤ k ∧ Owns cb W wr (memG pm bw bb (p14V (eWord o g (p + k - j) u false true)) (List.replicate (Int.toNat 8) 0) m1 :: [[(cb, Obj.cells #[Value.int .i64 o, .int .i64 g, .int .i64 p, .int .i64 u, .bool false, .bool true] 68 (0, 0))], [(cb + 1, Obj.cells #[Value.int .i64 8, .int .i64 1, .int .i64 1] 26 (0, 0))]])) (fun i _ => k - (intOf i).toNat)
      case atStart => exact ⟨0, _, rfl, by omega, by rw [show p + (k : Int) - ((0 : Nat) : Int) = p + k by omega]; exact hO⟩
      case round =>
        clear hO
        obtain ⟨j, m1, rfl, hj, hO⟩ := hrel
        by_cases hlt : j < k
        · (try simp only [List.set_cons_zero, List.set_cons_succ, List.cons_append, List.nil_append, List.eraseIdx_cons_succ, List.eraseIdx_cons_zero] at hO); have e0 : _ = some (Value.int .i64 o) := hO.cell 1 0 rfl rfl 0; have e1 : _ = some (Value.int .i64 g) := hO.cell 1 0 rfl rfl 1; have e2 : _ = some (Value.int .i64 p) := hO.cell 1 0 rfl rfl 2; have e3 : _ = some (Value.int .i64 u) := hO.cell 1 0 rfl rfl 3; have e4 : _ = some (Value.bool false) := hO.cell 1 0 rfl rfl 4; have e5 : _ = some (Value.bool true) := hO.cell 1 0 rfl rfl 5; have ez := hO.lt 1 0 rfl rfl; have b0 : _ = some (Value.int .i64 8) := hO.cell 2 0 rfl rfl 0; have b1 : _ = some (Value.int .i64 1) := hO.cell 2 0 rfl rfl 1; have b2 : _ = some (Value.int .i64 1) := hO.cell 2 0 rfl rfl 2; have bz := hO.lt 2 0 rfl rfl
          have HB := Lib.hid (pn_back (wd := 0) (tw := 0) true (HMS.out (p + k - j) (by omega) (by omega)) (HMS.out (p + k - j + pnBy true) (by unfold pnBy; simp; omega) (by unfold pnBy; simp; omega)))
          go_wp2_with fail
          refine (pin_NewUn 8 1 1 own HOW.out.2.1 HOW.out.2.2 hO).mono ?_; rintro e w4 ⟨x, rfl, hO'⟩; have hO := hO'.swap; unfold pnNews at hO; rw [show ofT 8 1 1 = 1 by decide, show ofS 8 1 1 = 1 by decide, if_pos ck.out, HOW.out.1] at hO
          go_wp2_with fail
          refine (pin_run 10 (by decide) hO lOk11 (by show 8 ≤ 4096; decide) _ HB.out).mono ?_; simp only [resN]; rintro e w5 ⟨rfl, m5, hO'⟩; have hO := hO'.drop 1; (try simp only [List.set_cons_zero, List.set_cons_succ, List.cons_append, List.nil_append, List.eraseIdx_cons_succ, List.eraseIdx_cons_zero] at hO); have e0 : _ = some (Value.int .i64 o) := hO.cell 1 0 rfl rfl 0; have e1 : _ = some (Value.int .i64 g) := hO.cell 1 0 rfl rfl 1; have e2 : _ = some (Value.int .i64 p) := hO.cell 1 0 rfl rfl 2; have e3 : _ = some (Value.int .i64 u) := hO.cell 1 0 rfl rfl 3; have e4 : _ = some (Value.bool false) := hO.cell 1 0 rfl rfl 4; have e5 : _ = some (Value.bool true) := hO.cell 1 0 rfl rfl 5; have ez := hO.lt 1 0 rfl rfl; have b0 : _ = some (Value.int .i64 8) := hO.cell 2 0 rfl rfl 0; have b1 : _ = some (Value.int .i64 1) := hO.cell 2 0 rfl rfl 1; have b2 : _ = some (Value.int .i64 1) := hO.cell 2 0 rfl rfl 2; have bz := hO.lt 2 0 rfl rfl
          go_wp2_with fail
          go_roundw
          case rel => exact ⟨j + 1, _, by go_num, by omega, by have hO := hO.via (below_alloc _ (.cells #[.int .i64 0, .int .i64 0] 37)); rw [show p + (k : Int) - ((j + 1 : Nat) : Int) = p + k - j + pnBy true by unfold pnBy; simp; omega]; exact hO⟩
          case measure => simp [intOf]; omega
        · have hge : decide (j < k) = false := by rw [decide_eq_false_iff_not]; omega
          have hkN : j = k := by omega
          subst hkN
          clear hlt
          rw [show p + (j : Int) - j = p by omega] at hO
          generalize eWord o g p u false true = v3 at hO ⊢
          go_wp2_with fail
          refine (plain_Load 0 5 hO rfl (by show 8 ≤ 4096; decide)).mono ?_; rw [p14V_at]; rintro e w9 ⟨rfl, hO'⟩; have hO := hO'; (try simp only [List.set_cons_zero, List.set_cons_succ, List.cons_append, List.nil_append, List.eraseIdx_cons_succ, List.eraseIdx_cons_zero] at hO)
          go_wp2_with (go_at_call 21; refine (law14_live _).mono ?_; rintro e w6 ⟨rfl, hb⟩; have hO := hO.via hb)
          go_ret
          exact ⟨rfl, by rw [HC.out]; exact hO.below⟩
theorem PinBack_walk (o g p u : Int) (l a : Bool) (n : Int) (W : World) : Calls Try.prog 11 #[.agg #[.int .i64 o, .int .i64 g, .int .i64 p, .int .i64 u, .bool l, .bool a], .int .i64 n] W fun e w' => e = .returned (.bool true) ∧ Below W.heap.size W w' := by
  cases hm : eMay o g p u l a
  · exact PinBack_no1 o g p u l a n W 0 1 (by unfold ePack; rw [hm]; rfl) rfl
  · have hp : ePack o g p u l a = (eWord o g p u l a, 0) := by unfold ePack; rw [hm]; rfl
    cases a
    · exact PinBack_no2 o g p u l false n W _ 0 hp rfl rfl
    · cases l
      · obtain ⟨h1, h2, h3, h4, p0, p7, h7, h8, h9, h10⟩ := eMay_of hm
        by_cases hn : n < 0
        · exact PinBack_no4 o g p u false true n W _ 0 hp rfl rfl rfl p0 p7 (.inl (by simpa using hn))
        · by_cases hn' : 7 - p < n
          · exact PinBack_no4 o g p u false true n W _ 0 hp rfl rfl rfl p0 p7 (.inr ⟨by simpa using hn, by simpa using hn'⟩)
          · obtain ⟨N, rfl⟩ : ∃ N : Nat, n = N := ⟨n.toNat, by omega⟩
            exact PinBack_go o g p u false true N W hm rfl rfl (by omega)
      · exact PinBack_no3 o g p u true true n W _ 0 hp rfl rfl rfl
end Go.Proofs.Ytmbkkpeepbfgoaa
