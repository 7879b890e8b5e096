/- The read law ReadMoved. -/
import Derived.LoopTactic
import Derived.Deep.RegionHeld3
import Derived.Outline
import Derived.Test.YtmbkkpeepbfgoaaRdMv0
import Derived.Test.YtmbkkpeepbfgoaaRdL
namespace Go.Proofs.Ytmbkkpeepbfgoaa
set_option linter.unusedVariables false
set_option linter.unusedSimpArgs false
open Go.RowKit
set_option maxRecDepth 100000 in
set_option maxHeartbeats 8000000 in
theorem ReadMoved_go (k0 : Nat) (off y0 y1 : Int) (gone : Bool) (W : World) (hk : k0 ≤ 4) (h0 : 0 ≤ off) (h1 : off ≤ 7) : Calls Try.prog 3 #[.agg #[.int .i64 k0, .int .i64 off, .int .i64 y0, .int .i64 y1, .bool gone]] W fun e w' => e = .returned (.bool true) ∧ Below W.heap.size W w' := by
  have ck := Lib.hid (show cfgOk 32 1 1 = true by decide)
  have d1 : decide ((k0 : Int) < 0) = false := by rw [decide_eq_false_iff_not]; omega
  have d2 : decide (4 < (k0 : Int)) = false := by rw [decide_eq_false_iff_not]; omega
  have d3 : decide (off < 0) = false := by rw [decide_eq_false_iff_not]; omega
  have d4 : decide (7 < off) = false := by rw [decide_eq_false_iff_not]; omega
  go_enter Try.func3, Try.ntmps3
  go_wp2_with fail
  have hO := (Owns.nil W).more (.cells #[.int .i64 k0, .int .i64 off, .int .i64 y0, .int .i64 y1, .bool gone] 24)
  generalize hvb : W.heap.size = vb at hO ⊢
  have HC := Lib.hid hvb
  clear hvb
  generalize W.alloc (.cells #[.int .i64 k0, .int .i64 off, .int .i64 y0, .int .i64 y1, .bool gone] 24) = w0 at hO ⊢
  have hO2 := fun o => (hO.more o).drew
  have hO := hO.drew
  have c0 : _ = some (Value.int .i64 k0) := hO.cell 0 0 rfl rfl 0
  have c1 : _ = some (Value.int .i64 off) := hO.cell 0 0 rfl rfl 1
  have c2 : _ = some (Value.int .i64 y0) := hO.cell 0 0 rfl rfl 2
  have c3 : _ = some (Value.int .i64 y1) := hO.cell 0 0 rfl rfl 3
  have c4 : _ = some (Value.bool gone) := hO.cell 0 0 rfl rfl 4
  have DD := Lib.hid (And.intro d1 (And.intro d2 (And.intro d3 d4)))
  clear d1 d2 d3 d4
  first
    | go_loud (go_region_held3 (fun w => w.cell? ⟨vb, 0, none⟩ = some (.int .i64 k0) ∧ w.cell? ⟨vb, 1, none⟩ = some (.int .i64 off) ∧ w.cell? ⟨vb, 2, none⟩ = some (.int .i64 y0) ∧ w.cell? ⟨vb, 3, none⟩ = some (.int .i64 y1) ∧ w.cell? ⟨vb, 4, none⟩ = some (.bool gone)) (first | (with_reducible exact ⟨c0, c1, c2, c3, c4⟩) | exact ⟨cell_alloc _ c0, cell_alloc _ c1, cell_alloc _ c2, cell_alloc _ c3, cell_alloc _ c4⟩) (fail))
    | fail "args"
  have hO := hO2 (.cells #[.int .i64 y0, .int .i64 y1] 22)
  generalize w0.heap.size = yb at hO ⊢
  generalize (w0.alloc _).drew = w1 at hO ⊢
  clear c0 c1 c2 c3 c4 hO2
  go_wp2_with (go_at_call 13; refine stop_here ?_)
  try unfold Stop
  have hO := hO.more (.cells #[.int .i64 32, .int .i64 1, .int .i64 1] 26)
  generalize w1.heap.size = cb at hO ⊢
  generalize w1.alloc (.cells #[.int .i64 32, .int .i64 1, .int .i64 1] 26) = w2 at hO ⊢
  refine (law12_start 32 1 1 hO ck.out).mono ?_; rintro e w3 ⟨p, bw, bb, m, rfl, hO'⟩
  have hO := Owns.third (Owns.third (show Owns vb W w3 [memG p bw bb (initW 1 1) (List.replicate (Int.toNat 32) 0) m, [(yb, Obj.cells #[.int .i64 y0, .int .i64 y1] 22 (0, 0))], [(cb, Obj.cells #[.int .i64 32, .int .i64 1, .int .i64 1] 26 (0, 0))]] from hO'.drop 1))
  (try simp only [List.set_cons_zero, List.set_cons_succ, List.cons_append, List.nil_append] at hO); have b0 : _ = some (Value.int .i64 32) := hO.cell 0 0 rfl rfl 0; have b1 : _ = some (Value.int .i64 1) := hO.cell 0 0 rfl rfl 1; have b2 : _ = some (Value.int .i64 1) := hO.cell 0 0 rfl rfl 2; have bz := hO.lt 0 0 rfl rfl
  rw [mv_0, mv_b0] at hO
  obtain ⟨d1, d2, d3, d4⟩ := DD.out
  have z0 : _ = some (Value.int .i64 y0) := hO.cell 2 0 rfl rfl 0
  have z1 : _ = some (Value.int .i64 y1) := hO.cell 2 0 rfl rfl 1
  have yz := hO.lt 2 0 rfl rfl
  go_wp2_with (go_at_call 14; refine (handle_make _ _ _).mono ?_; rw [show hMake 0 0 = (1099511627776, 0) by decide]; rintro e w4 ⟨rfl, rfl⟩)
  clear d1 d2 d3 d4
  refine (plain_Store 1 5 _ hO rfl (by decide)).mono ?_; rw [mv_1]; rintro e w5 ⟨rfl, hO'⟩; have hO := hO'; (try simp only [List.set_cons_zero, List.set_cons_succ, List.cons_append, List.nil_append] at hO); have b0 : _ = some (Value.int .i64 32) := hO.cell 0 0 rfl rfl 0; have b1 : _ = some (Value.int .i64 1) := hO.cell 0 0 rfl rfl 1; have b2 : _ = some (Value.int .i64 1) := hO.cell 0 0 rfl rfl 2; have bz := hO.lt 0 0 rfl rfl
  go_wp2_with fail
  refine (plain_Store 1 6 _ hO rfl (by decide)).mono ?_; rw [mv_2]; rintro e w6 ⟨rfl, hO'⟩; have hO := hO'; (try simp only [List.set_cons_zero, List.set_cons_succ, List.cons_append, List.nil_append] at hO); have b0 : _ = some (Value.int .i64 32) := hO.cell 0 0 rfl rfl 0; have b1 : _ = some (Value.int .i64 1) := hO.cell 0 0 rfl rfl 1; have b2 : _ = some (Value.int .i64 1) := hO.cell 0 0 rfl rfl 2; have bz := hO.lt 0 0 rfl rfl
  have z0 : _ = some (Value.int .i64 y0) := hO.cell 2 0 rfl rfl 0
  go_wp2_with fail
  refine (plain_SetByte 1 (16 + off) y0 hO rfl (by decide)).mono ?_; rintro e w7 ⟨rfl, hO'⟩; have hO := hO'; (try simp only [List.set_cons_zero, List.set_cons_succ, List.cons_append, List.nil_append] at hO); have b0 : _ = some (Value.int .i64 32) := hO.cell 0 0 rfl rfl 0; have b1 : _ = some (Value.int .i64 1) := hO.cell 0 0 rfl rfl 1; have b2 : _ = some (Value.int .i64 1) := hO.cell 0 0 rfl rfl 2; have bz := hO.lt 0 0 rfl rfl
  go_wp2_with fail
  refine (read_New 32 1 1 _ off (by decide) (by decide) hO).mono ?_; rintro e w8 ⟨x, rfl, hO'⟩; rw [mv_n] at hO'; have hO := hO'.third; (try simp only [List.set_cons_zero, List.set_cons_succ, List.cons_append, List.nil_append] at hO)
  clear b0 b1 b2 bz z0 z1 yz
  go_wp2_with fail
  obtain ⟨v, hv⟩ : ∃ v, y0 % 256 = v := ⟨_, rfl⟩
  have HV := Lib.hid hv
  have HVB := Lib.hid (show 0 ≤ v ∧ v < 256 by omega)
  rw [hv] at hO
  have hO : Owns vb W _ [[(cb, Obj.cells #[.int .i64 32, .int .i64 1, .int .i64 1] 26 (0, 0))], memG p bw bb mvW2 (mvB1 off v) _, rdG x 1 1 0 0 false off (mvQ v 0), [(yb, Obj.cells #[.int .i64 y0, .int .i64 y1] 22 (0, 0))]] := hO
  clear hv
  go_loopw [12] (fun i wr => ∃ (k : Nat) (m : Int), i = .int .i64 k ∧ k ≤ k0 ∧ k < 4 ∧ Owns vb W wr [[(cb, Obj.cells #[.int .i64 32, .int .i64 1, .int .i64 1] 26 (0, 0))], memG p bw bb mvW2 (mvB1 off v) m, rdG x 1 1 0 0 false off (mvQ v k), [(yb, Obj.cells #[.int .i64 y0, .int .i64 y1] 22 (0, 0))]]) (fun i _ => k0 - (intOf i).toNat)
  case atStart => exact ⟨0, _, rfl, by omega, by decide, hO⟩
  case round =>
    clear hO
    obtain ⟨k, m, rfl, hk1, hk4, hO⟩ := hrel
    have BK := Lib.hid (bok_put mvB0_ok (16 + off) v HVB.out : BOk (mvB1 off v))
    by_cases hlt : k < k0
    · by_cases h3 : k < 3
      · have SE := Lib.hid (mv_step (v := v) h0 h1 k h3)
        go_wp2_with (go_at_call 19; refine (read_Step 1 2 (by decide) hO rfl (.inr (by decide)) (by decide) BK.out (mvQ_in v k) rfl).mono ?_; rw [SE.out]; simp only [RdPost, resV]; rintro e w7 ⟨rfl, m1, hO'⟩; have hO := hO')
        go_roundw
        case rel => exact ⟨k + 1, m1, by go_num, by omega, by omega, hO.via (by (repeat' (first | (with_reducible exact Below.refl _ _) | (with_reducible assumption) | (with_reducible refine below_drewN ?_ _) | (with_reducible refine Below.drew ?_) | (with_reducible refine Below.alloc ?_ ?_ _) | (with_reducible refine Below.setCell ?_ ?_ _) | (with_reducible refine below_via (by assumption) ?_ ?_) | go_size)))⟩
        case measure => simp [intOf]; omega
      · have hk3 : k = 3 := by omega
        subst hk3
        clear h3
        obtain ⟨t1, t2, t3, t4⟩ := tmod_byte y0
        rw [HV.out] at t1 t2
        have SE := Lib.hid (mv_last (off := off) (v := v))
        go_wp2_with first
          | (go_at_call 19; refine (read_Step 1 2 (by decide) hO rfl (.inr (by decide)) (by decide) BK.out (mvQ_in v 3) rfl).mono ?_; rw [SE.out]; simp only [RdPost, resV]; rintro e w7 ⟨rfl, m1, hO'⟩; have hO := hO'; (try simp only [List.set_cons_zero, List.set_cons_succ, List.cons_append, List.nil_append] at hO); have b0 : _ = some (Value.int .i64 32) := hO.cell 0 0 rfl rfl 0; have b1 : _ = some (Value.int .i64 1) := hO.cell 0 0 rfl rfl 1; have b2 : _ = some (Value.int .i64 1) := hO.cell 0 0 rfl rfl 2; have bz := hO.lt 0 0 rfl rfl; have z0 : _ = some (Value.int .i64 y0) := hO.cell 3 0 rfl rfl 0; have yz := hO.lt 3 0 rfl rfl; have hO1 := fun o => hO.via (below_alloc _ o))
          | (go_at_call 15; refine (law12_live _).mono ?_; rintro e w8 ⟨rfl, hb⟩; have hO := (hO1 _).via hb)
        go_ret
        exact ⟨rfl, by rw [HC.out]; exact hO.below⟩
    · have hkk : k = k0 := by omega
      have hge : decide (k < k0) = false := by rw [decide_eq_false_iff_not]; omega
      clear hlt
      (try simp only [List.set_cons_zero, List.set_cons_succ, List.cons_append, List.nil_append] at hO); have b0 : _ = some (Value.int .i64 32) := hO.cell 0 0 rfl rfl 0; have b1 : _ = some (Value.int .i64 1) := hO.cell 0 0 rfl rfl 1; have b2 : _ = some (Value.int .i64 1) := hO.cell 0 0 rfl rfl 2; have bz := hO.lt 0 0 rfl rfl
      have z0 : _ = some (Value.int .i64 y0) := hO.cell 3 0 rfl rfl 0
      have z1 : _ = some (Value.int .i64 y1) := hO.cell 3 0 rfl rfl 1
      obtain ⟨u, hu⟩ : ∃ u, y1 % 256 = u := ⟨_, rfl⟩
      have HU := Lib.hid hu
      have HUB := Lib.hid (show 0 ≤ u ∧ u < 256 by omega)
      have BK3 := Lib.hid (bok_put (bok_put BK.out off v HVB.out) (16 + off) u HUB.out : BOk (mvB3 off v u))
      have RUN := Lib.hid (mv_run (u := u) (v := v) h0 h1 k hk4)
      have GON := Lib.hid (mv_gone (u := u) (v := v) h0 h1 k hk4)
      obtain ⟨t1, t2, t3, t4⟩ := tmod_byte y0
      rw [HV.out] at t1 t2
      have T := Lib.hid (And.intro t1 t2)
      clear hu t1 t2
      have BK2 := Lib.hid (bok_put BK.out off v HVB.out : BOk (mvB2 off v))
      have HBG := Lib.hid (rfl : gone = gone)
      go_wp2_with fail
      refine (plain_SetByte 1 off y0 hO rfl BK.out.1).mono ?_; rw [HV.out]; rintro e w7 ⟨rfl, hO'⟩; have hO := hO'; (try simp only [List.set_cons_zero, List.set_cons_succ, List.cons_append, List.nil_append] at hO); have b0 : _ = some (Value.int .i64 32) := hO.cell 0 0 rfl rfl 0; have b1 : _ = some (Value.int .i64 1) := hO.cell 0 0 rfl rfl 1; have b2 : _ = some (Value.int .i64 1) := hO.cell 0 0 rfl rfl 2; have bz := hO.lt 0 0 rfl rfl
      have z0 : _ = some (Value.int .i64 y0) := hO.cell 3 0 rfl rfl 0
      have z1 : _ = some (Value.int .i64 y1) := hO.cell 3 0 rfl rfl 1
      go_wp2_with fail
      refine (plain_SetByte 1 (16 + off) y1 hO rfl BK2.out.1).mono ?_; rw [HU.out]; rintro e w8 ⟨rfl, hO'⟩; have hO := hO'; (try simp only [List.set_cons_zero, List.set_cons_succ, List.cons_append, List.nil_append] at hO); have b0 : _ = some (Value.int .i64 32) := hO.cell 0 0 rfl rfl 0; have b1 : _ = some (Value.int .i64 1) := hO.cell 0 0 rfl rfl 1; have b2 : _ = some (Value.int .i64 1) := hO.cell 0 0 rfl rfl 2; have bz := hO.lt 0 0 rfl rfl
      go_wp2_with fail
      refine (plain_Store 1 5 _ hO rfl (by decide)).mono ?_; rw [mv_3]; rintro e w9 ⟨rfl, hO'⟩; have hO := hO'; (try simp only [List.set_cons_zero, List.set_cons_succ, List.cons_append, List.nil_append] at hO); have b0 : _ = some (Value.int .i64 32) := hO.cell 0 0 rfl rfl 0; have b1 : _ = some (Value.int .i64 1) := hO.cell 0 0 rfl rfl 1; have b2 : _ = some (Value.int .i64 1) := hO.cell 0 0 rfl rfl 2; have bz := hO.lt 0 0 rfl rfl
      have hQ := hO
      cases gone
      case' false =>
        have hO := hQ
        go_wp2_with fail
        refine (read_run 10 (by decide) hO (.inr (by decide)) (by decide) BK3.out (mvQ_in v k)).mono ?_
        rw [show (mRun (rdF 1 1 0 0 false off mvW3 (wPut (wPut (mvB1 off v) off v) (16 + off) u)) 10 10 (mvQ v k)).2.1 = (0, v) from RUN.out]
        simp only [resN]; rintro e v1 ⟨rfl, m1, hO'⟩; have hO := hO'; (try simp only [List.set_cons_zero, List.set_cons_succ, List.cons_append, List.nil_append] at hO); have b0 : _ = some (Value.int .i64 32) := hO.cell 0 0 rfl rfl 0; have b1 : _ = some (Value.int .i64 1) := hO.cell 0 0 rfl rfl 1; have b2 : _ = some (Value.int .i64 1) := hO.cell 0 0 rfl rfl 2; have bz := hO.lt 0 0 rfl rfl
      case' true =>
        have hO := hQ
        go_wp2_with fail
        refine (plain_Store 1 5 _ hO rfl (by decide)).mono ?_; rw [mv_4]; rintro e w10 ⟨rfl, hO'⟩; have hO := hO'; (try simp only [List.set_cons_zero, List.set_cons_succ, List.cons_append, List.nil_append] at hO); have b0 : _ = some (Value.int .i64 32) := hO.cell 0 0 rfl rfl 0; have b1 : _ = some (Value.int .i64 1) := hO.cell 0 0 rfl rfl 1; have b2 : _ = some (Value.int .i64 1) := hO.cell 0 0 rfl rfl 2; have bz := hO.lt 0 0 rfl rfl
        go_wp2_with fail
        refine (read_run 10 (by decide) hO (.inr (by decide)) (by decide) BK3.out (mvQ_in v k)).mono ?_
        rw [show (mRun (rdF 1 1 0 0 false off mvW4 (wPut (wPut (mvB1 off v) off v) (16 + off) u)) 10 10 (mvQ v k)).2.1 = (4, 0) from GON.out]
        simp only [resN]; rintro e v1 ⟨rfl, m1, hO'⟩; have hO := hO'; (try simp only [List.set_cons_zero, List.set_cons_succ, List.cons_append, List.nil_append] at hO); have b0 : _ = some (Value.int .i64 32) := hO.cell 0 0 rfl rfl 0; have b1 : _ = some (Value.int .i64 1) := hO.cell 0 0 rfl rfl 1; have b2 : _ = some (Value.int .i64 1) := hO.cell 0 0 rfl rfl 2; have bz := hO.lt 0 0 rfl rfl
      all_goals
        have z0 : _ = some (Value.int .i64 y0) := hO.cell 3 0 rfl rfl 0
        have yz := hO.lt 3 0 rfl rfl
        have t1 := T.out.1
        have t2 := T.out.2
        have hO1 := fun o => hO.via (below_alloc _ o)
        go_wp2_with (go_at_call 15; refine (law12_live _).mono ?_; rintro e w11 ⟨rfl, hb⟩; have hO := (hO1 _).via hb)
        go_ret
        exact ⟨rfl, by rw [HC.out]; exact hO.below⟩
set_option maxRecDepth 100000 in
set_option maxHeartbeats 8000000 in
theorem ReadMoved_far (at0 off y0 y1 : Int) (gone : Bool) (W : World) (hf : at0 < 0 ∨ (0 ≤ at0 ∧ 4 < at0) ∨ (0 ≤ at0 ∧ at0 ≤ 4 ∧ off < 0) ∨ (0 ≤ at0 ∧ at0 ≤ 4 ∧ 0 ≤ off ∧ 7 < off)) : Calls Try.prog 3 #[.agg #[.int .i64 at0, .int .i64 off, .int .i64 y0, .int .i64 y1, .bool gone]] W fun e w' => e = .returned (.bool true) ∧ Below W.heap.size W w' := by
  have ck := Lib.hid (show cfgOk 32 1 1 = true by decide)
  go_enter Try.func3, Try.ntmps3
  go_wp2_with fail
  have hO := (Owns.nil W).more (.cells #[.int .i64 at0, .int .i64 off, .int .i64 y0, .int .i64 y1, .bool gone] 24)
  generalize hvb : W.heap.size = vb at hO ⊢
  have HC := Lib.hid hvb
  clear hvb
  generalize W.alloc (.cells #[.int .i64 at0, .int .i64 off, .int .i64 y0, .int .i64 y1, .bool gone] 24) = w0 at hO ⊢
  have hO2 := fun o => (hO.more o).drew
  have hO := hO.drew
  have c0 : _ = some (Value.int .i64 at0) := hO.cell 0 0 rfl rfl 0
  have c1 : _ = some (Value.int .i64 off) := hO.cell 0 0 rfl rfl 1
  have c2 : _ = some (Value.int .i64 y0) := hO.cell 0 0 rfl rfl 2
  have c3 : _ = some (Value.int .i64 y1) := hO.cell 0 0 rfl rfl 3
  have c4 : _ = some (Value.bool gone) := hO.cell 0 0 rfl rfl 4
  first
    | go_loud (go_region_held3 (fun w => w.cell? ⟨vb, 0, none⟩ = some (.int .i64 at0) ∧ w.cell? ⟨vb, 1, none⟩ = some (.int .i64 off) ∧ w.cell? ⟨vb, 2, none⟩ = some (.int .i64 y0) ∧ w.cell? ⟨vb, 3, none⟩ = some (.int .i64 y1) ∧ w.cell? ⟨vb, 4, none⟩ = some (.bool gone)) (first | (with_reducible exact ⟨c0, c1, c2, c3, c4⟩) | exact ⟨cell_alloc _ c0, cell_alloc _ c1, cell_alloc _ c2, cell_alloc _ c3, cell_alloc _ c4⟩) (fail))
    | fail "args"
  have hO := hO2 (.cells #[.int .i64 y0, .int .i64 y1] 22)
  generalize w0.heap.size = yb at hO ⊢
  generalize (w0.alloc _).drew = w1 at hO ⊢
  clear c0 c1 c2 c3 c4 hO2
  go_wp2_with (go_at_call 13; refine stop_here ?_)
  try unfold Stop
  have hO := hO.more (.cells #[.int .i64 32, .int .i64 1, .int .i64 1] 26)
  generalize w1.heap.size = cb at hO ⊢
  generalize w1.alloc (.cells #[.int .i64 32, .int .i64 1, .int .i64 1] 26) = w2 at hO ⊢
  refine (law12_start 32 1 1 hO ck.out).mono ?_; rintro e w3 ⟨p, bw, bb, m, rfl, hO'⟩
  have hO := Owns.third (Owns.third (show Owns vb W w3 [memG p bw bb (initW 1 1) (List.replicate (Int.toNat 32) 0) m, [(yb, Obj.cells #[.int .i64 y0, .int .i64 y1] 22 (0, 0))], [(cb, Obj.cells #[.int .i64 32, .int .i64 1, .int .i64 1] 26 (0, 0))]] from hO'.drop 1))
  (try simp only [List.set_cons_zero, List.set_cons_succ, List.cons_append, List.nil_append] at hO); have b0 : _ = some (Value.int .i64 32) := hO.cell 0 0 rfl rfl 0; have b1 : _ = some (Value.int .i64 1) := hO.cell 0 0 rfl rfl 1; have b2 : _ = some (Value.int .i64 1) := hO.cell 0 0 rfl rfl 2; have bz := hO.lt 0 0 rfl rfl
  rw [mv_0, mv_b0] at hO
  rcases hf with q1 | ⟨q1, q2⟩ | ⟨q1, q2, q3⟩ | ⟨q1, q2, q3, q4⟩
  all_goals
    go_wp2_with first
      | (go_at_call 14; refine (handle_make _ _ _).mono ?_; rw [show hMake 0 0 = (1099511627776, 0) by decide]; rintro e w4 ⟨rfl, rfl⟩)
      | (go_at_call 15; refine (law12_live _).mono ?_; rintro e w6 ⟨rfl, hb⟩; have hO := hO.via hb)
    go_ret
    exact ⟨rfl, by rw [HC.out]; exact hO.below⟩
theorem ReadMoved_walk (at0 off y0 y1 : Int) (gone : Bool) (W : World) : Calls Try.prog 3 #[.agg #[.int .i64 at0, .int .i64 off, .int .i64 y0, .int .i64 y1, .bool gone]] W fun e w' => e = .returned (.bool true) ∧ Below W.heap.size W w' := by
  by_cases h : 0 ≤ at0 ∧ at0 ≤ 4 ∧ 0 ≤ off ∧ off ≤ 7
  · obtain ⟨N, hN⟩ : ∃ N : Nat, at0 = N := ⟨at0.toNat, by omega⟩
    subst hN
    exact ReadMoved_go N off y0 y1 gone W (by omega) h.2.2.1 h.2.2.2
  · exact ReadMoved_far at0 off y0 y1 gone W (by omega)
end Go.Proofs.Ytmbkkpeepbfgoaa
