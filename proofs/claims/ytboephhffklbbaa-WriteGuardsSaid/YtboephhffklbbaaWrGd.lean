/- The write law WriteGuards. -/
import Derived.LoopTactic
import Derived.Deep.RegionHeld3
import Derived.Deep.QuietTactic
import Derived.BigQuiet
import Derived.Test.YtboephhffklbbaaWrGd0
import Derived.Test.YtboephhffklbbaaWrLv
import Derived.Test.YtboephhffklbbaaFlat
namespace Go.Proofs.Ytboephhffklbbaa
set_option linter.unusedVariables false
set_option linter.unusedSimpArgs false
open Go.RowKit
set_option maxRecDepth 100000 in
set_option maxHeartbeats 8000000 in
theorem WriteGuards_far (v : Value) (xs : List (List Value)) (fi se gu : Int) (W : World) (hs : SArg W [true] v xs) (x f : Int) (hp : ePack 0 0 0 gu false true = (x, f)) (hn : ¬ xs.length ≤ 100 ∨ (xs.length ≤ 100 ∧ (f != 0) = true) ∨ (xs.length ≤ 100 ∧ (f != 0) = false ∧ 13 < gu)) : Calls Try.prog 3 #[.agg #[v, .int .i64 fi, .int .i64 se, .int .i64 gu]] W fun e w' => e = .returned (.bool true) ∧ Below W.heap.size W w' := by
  obtain ⟨pa, cap, rfl, hl, hx⟩ := hs.form
  have HP := Lib.hid hp
  clear hx hs hp
  rcases hn with h1 | ⟨h1, h2⟩ | ⟨h1, h2, h3⟩
  · have h1' : 100 < xs.length := by omega
    clear h1
    have ck := Lib.hid (show cfgOk 8 1 2 = true by decide); go_enter Try.func3, Try.ntmps3; go_wp2_with fail; go_quiet (fail); have hP := (((Owns.nil W).more (.cells #[.slice pa xs.length cap, .int .i64 fi, .int .i64 se, .int .i64 gu] 24)).drewN nq).more (.cells #[.int .i64 8, .int .i64 1, .int .i64 2] 26); simp only [size_drewN, World.size_alloc] at hP; go_wp2_with (go_at_call 11; refine stop_here ?_); (try unfold Stop); generalize hcb : W.heap.size = c0 at hP ⊢; have HC := Lib.hid hcb; clear hcb; have hO' := hP.drop 0; clear hP; have hP := hO'; clear hO'; (try simp only [List.set_cons_zero, List.set_cons_succ, List.cons_append, List.nil_append, List.eraseIdx_cons_succ, List.eraseIdx_cons_zero, fam_set, fam_len] at hP); generalize c0 + 1 = cb at hP ⊢; generalize World.alloc _ (.cells #[.int .i64 8, .int .i64 1, .int .i64 2] 26 (0, 0)) = w0 at hP ⊢; refine (law13_start 8 1 2 hP ck.out).mono ?_; rintro e w1 ⟨p, bw, bb, m, rfl, hO'⟩; clear hP; have hP := hO'; clear hO'; (try simp only [List.set_cons_zero, List.set_cons_succ, List.cons_append, List.nil_append, List.eraseIdx_cons_succ, List.eraseIdx_cons_zero, fam_set, fam_len] at hP); have b0 : _ = some (Value.int .i64 8) := hP.cell 1 0 rfl rfl 0; have b1 : _ = some (Value.int .i64 1) := hP.cell 1 0 rfl rfl 1; have b2 : _ = some (Value.int .i64 2) := hP.cell 1 0 rfl rfl 2; have bz := hP.lt 1 0 rfl rfl; go_wp2_with (go_at_call 12; refine (handle_make _ _ _).mono ?_; rw [show hMake 0 0 = (1099511627776, 0) by decide]; rintro e w2 ⟨rfl, rfl⟩; refine stop_here ?_); (try unfold Stop); go_wp2_with fail; refine (ref02_Pack _ _ _ _ _ _ _).mono ?_; rw [HP.out]; rintro e w3 ⟨rfl, hb⟩; have hO' := hP.via hb; clear hP; have hP := hO'; clear hO'; clear b0 b1 b2 bz; (try simp only [List.set_cons_zero, List.set_cons_succ, List.cons_append, List.nil_append, List.eraseIdx_cons_succ, List.eraseIdx_cons_zero, fam_set, fam_len] at hP); have b0 : _ = some (Value.int .i64 8) := hP.cell 1 0 rfl rfl 0; have b1 : _ = some (Value.int .i64 1) := hP.cell 1 0 rfl rfl 1; have b2 : _ = some (Value.int .i64 2) := hP.cell 1 0 rfl rfl 2; have bz := hP.lt 1 0 rfl rfl
    go_wp2_with (go_at_call 14; refine (law13_live _).mono ?_; rintro e w2 ⟨rfl, hb⟩; have hO := hP.via hb)
    go_ret
    exact ⟨rfl, by rw [HC.out]; exact hO.below⟩
  · have d1 : decide (100 < (xs.length : Int)) = false := by rw [decide_eq_false_iff_not]; omega
    have ck := Lib.hid (show cfgOk 8 1 2 = true by decide); go_enter Try.func3, Try.ntmps3; go_wp2_with fail; go_quiet (fail); have hP := (((Owns.nil W).more (.cells #[.slice pa xs.length cap, .int .i64 fi, .int .i64 se, .int .i64 gu] 24)).drewN nq).more (.cells #[.int .i64 8, .int .i64 1, .int .i64 2] 26); simp only [size_drewN, World.size_alloc] at hP; go_wp2_with (go_at_call 11; refine stop_here ?_); (try unfold Stop); generalize hcb : W.heap.size = c0 at hP ⊢; have HC := Lib.hid hcb; clear hcb; have hO' := hP.drop 0; clear hP; have hP := hO'; clear hO'; (try simp only [List.set_cons_zero, List.set_cons_succ, List.cons_append, List.nil_append, List.eraseIdx_cons_succ, List.eraseIdx_cons_zero, fam_set, fam_len] at hP); generalize c0 + 1 = cb at hP ⊢; generalize World.alloc _ (.cells #[.int .i64 8, .int .i64 1, .int .i64 2] 26 (0, 0)) = w0 at hP ⊢; refine (law13_start 8 1 2 hP ck.out).mono ?_; rintro e w1 ⟨p, bw, bb, m, rfl, hO'⟩; clear hP; have hP := hO'; clear hO'; (try simp only [List.set_cons_zero, List.set_cons_succ, List.cons_append, List.nil_append, List.eraseIdx_cons_succ, List.eraseIdx_cons_zero, fam_set, fam_len] at hP); have b0 : _ = some (Value.int .i64 8) := hP.cell 1 0 rfl rfl 0; have b1 : _ = some (Value.int .i64 1) := hP.cell 1 0 rfl rfl 1; have b2 : _ = some (Value.int .i64 2) := hP.cell 1 0 rfl rfl 2; have bz := hP.lt 1 0 rfl rfl; go_wp2_with (go_at_call 12; refine (handle_make _ _ _).mono ?_; rw [show hMake 0 0 = (1099511627776, 0) by decide]; rintro e w2 ⟨rfl, rfl⟩; refine stop_here ?_); (try unfold Stop); go_wp2_with fail; refine (ref02_Pack _ _ _ _ _ _ _).mono ?_; rw [HP.out]; rintro e w3 ⟨rfl, hb⟩; have hO' := hP.via hb; clear hP; have hP := hO'; clear hO'; clear b0 b1 b2 bz; (try simp only [List.set_cons_zero, List.set_cons_succ, List.cons_append, List.nil_append, List.eraseIdx_cons_succ, List.eraseIdx_cons_zero, fam_set, fam_len] at hP); have b0 : _ = some (Value.int .i64 8) := hP.cell 1 0 rfl rfl 0; have b1 : _ = some (Value.int .i64 1) := hP.cell 1 0 rfl rfl 1; have b2 : _ = some (Value.int .i64 2) := hP.cell 1 0 rfl rfl 2; have bz := hP.lt 1 0 rfl rfl
    go_wp2_with (go_at_call 14; refine (law13_live _).mono ?_; rintro e w2 ⟨rfl, hb⟩; have hO := hP.via hb)
    go_ret
    exact ⟨rfl, by rw [HC.out]; exact hO.below⟩
  · have d1 : decide (100 < (xs.length : Int)) = false := by rw [decide_eq_false_iff_not]; omega
    have ck := Lib.hid (show cfgOk 8 1 2 = true by decide); go_enter Try.func3, Try.ntmps3; go_wp2_with fail; go_quiet (fail); have hP := (((Owns.nil W).more (.cells #[.slice pa xs.length cap, .int .i64 fi, .int .i64 se, .int .i64 gu] 24)).drewN nq).more (.cells #[.int .i64 8, .int .i64 1, .int .i64 2] 26); simp only [size_drewN, World.size_alloc] at hP; go_wp2_with (go_at_call 11; refine stop_here ?_); (try unfold Stop); generalize hcb : W.heap.size = c0 at hP ⊢; have HC := Lib.hid hcb; clear hcb; have hO' := hP.drop 0; clear hP; have hP := hO'; clear hO'; (try simp only [List.set_cons_zero, List.set_cons_succ, List.cons_append, List.nil_append, List.eraseIdx_cons_succ, List.eraseIdx_cons_zero, fam_set, fam_len] at hP); generalize c0 + 1 = cb at hP ⊢; generalize World.alloc _ (.cells #[.int .i64 8, .int .i64 1, .int .i64 2] 26 (0, 0)) = w0 at hP ⊢; refine (law13_start 8 1 2 hP ck.out).mono ?_; rintro e w1 ⟨p, bw, bb, m, rfl, hO'⟩; clear hP; have hP := hO'; clear hO'; (try simp only [List.set_cons_zero, List.set_cons_succ, List.cons_append, List.nil_append, List.eraseIdx_cons_succ, List.eraseIdx_cons_zero, fam_set, fam_len] at hP); have b0 : _ = some (Value.int .i64 8) := hP.cell 1 0 rfl rfl 0; have b1 : _ = some (Value.int .i64 1) := hP.cell 1 0 rfl rfl 1; have b2 : _ = some (Value.int .i64 2) := hP.cell 1 0 rfl rfl 2; have bz := hP.lt 1 0 rfl rfl; go_wp2_with (go_at_call 12; refine (handle_make _ _ _).mono ?_; rw [show hMake 0 0 = (1099511627776, 0) by decide]; rintro e w2 ⟨rfl, rfl⟩; refine stop_here ?_); (try unfold Stop); go_wp2_with fail; refine (ref02_Pack _ _ _ _ _ _ _).mono ?_; rw [HP.out]; rintro e w3 ⟨rfl, hb⟩; have hO' := hP.via hb; clear hP; have hP := hO'; clear hO'; clear b0 b1 b2 bz; (try simp only [List.set_cons_zero, List.set_cons_succ, List.cons_append, List.nil_append, List.eraseIdx_cons_succ, List.eraseIdx_cons_zero, fam_set, fam_len] at hP); have b0 : _ = some (Value.int .i64 8) := hP.cell 1 0 rfl rfl 0; have b1 : _ = some (Value.int .i64 1) := hP.cell 1 0 rfl rfl 1; have b2 : _ = some (Value.int .i64 2) := hP.cell 1 0 rfl rfl 2; have bz := hP.lt 1 0 rfl rfl
    go_wp2_with (go_at_call 14; refine (law13_live _).mono ?_; rintro e w2 ⟨rfl, hb⟩; have hO := hP.via hb)
    go_ret
    exact ⟨rfl, by rw [HC.out]; exact hO.below⟩
set_option maxRecDepth 100000 in
set_option maxHeartbeats 8000000 in
theorem WriteGuards_go (v : Value) (xs : List (List Value)) (fi se gu : Int) (W : World) (hs : SArg W [true] v xs) (hG : 0 ≤ gu ∧ gu ≤ 13) (hx100 : xs.length ≤ 100) : Calls Try.prog 3 #[.agg #[v, .int .i64 fi, .int .i64 se, .int .i64 gu]] W fun e w' => e = .returned (.bool true) ∧ Below W.heap.size W w' := by
  obtain ⟨pa, cap, rfl, hl, hx⟩ := hs.form
  have HX := Lib.hid hx
  have HP := Lib.hid (show ePack 0 0 0 gu false true = (gW gu, 0) by unfold ePack gW; rw [if_pos (gW_may (by omega))])
  have HGG := Lib.hid hG
  obtain ⟨g0, g13⟩ := hG
  have d1 : decide (100 < (xs.length : Int)) = false := by rw [decide_eq_false_iff_not]; omega
  clear hx hs
  have ck := Lib.hid (show cfgOk 8 1 2 = true by decide); go_enter Try.func3, Try.ntmps3; go_wp2_with fail; go_quiet (fail); have hP := (((Owns.nil W).more (.cells #[.slice pa xs.length cap, .int .i64 fi, .int .i64 se, .int .i64 gu] 24)).drewN nq).more (.cells #[.int .i64 8, .int .i64 1, .int .i64 2] 26); simp only [size_drewN, World.size_alloc] at hP; go_wp2_with (go_at_call 11; refine stop_here ?_); (try unfold Stop); generalize hcb : W.heap.size = c0 at hP ⊢; have HC := Lib.hid hcb; clear hcb; have hO' := hP.drop 0; clear hP; have hP := hO'; clear hO'; (try simp only [List.set_cons_zero, List.set_cons_succ, List.cons_append, List.nil_append, List.eraseIdx_cons_succ, List.eraseIdx_cons_zero, fam_set, fam_len] at hP); generalize c0 + 1 = cb at hP ⊢; generalize World.alloc _ (.cells #[.int .i64 8, .int .i64 1, .int .i64 2] 26 (0, 0)) = w0 at hP ⊢; refine (law13_start 8 1 2 hP ck.out).mono ?_; rintro e w1 ⟨p, bw, bb, m, rfl, hO'⟩; clear hP; have hP := hO'; clear hO'; (try simp only [List.set_cons_zero, List.set_cons_succ, List.cons_append, List.nil_append, List.eraseIdx_cons_succ, List.eraseIdx_cons_zero, fam_set, fam_len] at hP); have b0 : _ = some (Value.int .i64 8) := hP.cell 1 0 rfl rfl 0; have b1 : _ = some (Value.int .i64 1) := hP.cell 1 0 rfl rfl 1; have b2 : _ = some (Value.int .i64 2) := hP.cell 1 0 rfl rfl 2; have bz := hP.lt 1 0 rfl rfl; go_wp2_with (go_at_call 12; refine (handle_make _ _ _).mono ?_; rw [show hMake 0 0 = (1099511627776, 0) by decide]; rintro e w2 ⟨rfl, rfl⟩; refine stop_here ?_); (try unfold Stop); go_wp2_with fail; refine (ref02_Pack _ _ _ _ _ _ _).mono ?_; rw [HP.out]; rintro e w3 ⟨rfl, hb⟩; have hO' := hP.via hb; clear hP; have hP := hO'; clear hO'; clear b0 b1 b2 bz; (try simp only [List.set_cons_zero, List.set_cons_succ, List.cons_append, List.nil_append, List.eraseIdx_cons_succ, List.eraseIdx_cons_zero, fam_set, fam_len] at hP); have b0 : _ = some (Value.int .i64 8) := hP.cell 1 0 rfl rfl 0; have b1 : _ = some (Value.int .i64 1) := hP.cell 1 0 rfl rfl 1; have b2 : _ = some (Value.int .i64 2) := hP.cell 1 0 rfl rfl 2; have bz := hP.lt 1 0 rfl rfl
  rw [w21_0, w13_b0] at hP
  go_wp2_with fail
  clear d1
  refine (plain_Store 0 6 _ hP rfl (by decide)).mono ?_; rintro e w4 ⟨rfl, hO'⟩; clear hP; have hP := hO'; clear hO'; (try simp only [List.set_cons_zero, List.set_cons_succ, List.cons_append, List.nil_append, List.eraseIdx_cons_succ, List.eraseIdx_cons_zero, fam_set, fam_len] at hP)
  go_wp2_with fail
  refine (plain_Store 0 7 _ hP rfl (by rw [wPut_len]; decide)).mono ?_; rw [w21_1]; rintro e w5 ⟨rfl, hO'⟩; clear hP; have hP := hO'; clear hO'; clear b0 b1 b2 bz; (try simp only [List.set_cons_zero, List.set_cons_succ, List.cons_append, List.nil_append, List.eraseIdx_cons_succ, List.eraseIdx_cons_zero, fam_set, fam_len] at hP); have b0 : _ = some (Value.int .i64 8) := hP.cell 1 0 rfl rfl 0; have b1 : _ = some (Value.int .i64 1) := hP.cell 1 0 rfl rfl 1; have b2 : _ = some (Value.int .i64 2) := hP.cell 1 0 rfl rfl 2; have bz := hP.lt 1 0 rfl rfl
  go_wp2_with fail
  have hO' := hP.drew; clear hP; have hP := hO'; clear hO'; clear b0 b1 b2 bz; (try simp only [List.set_cons_zero, List.set_cons_succ, List.cons_append, List.nil_append, List.eraseIdx_cons_succ, List.eraseIdx_cons_zero, fam_set, fam_len] at hP); have b0 : _ = some (Value.int .i64 8) := hP.cell 1 0 rfl rfl 0; have b1 : _ = some (Value.int .i64 1) := hP.cell 1 0 rfl rfl 1; have b2 : _ = some (Value.int .i64 2) := hP.cell 1 0 rfl rfl 2; have bz := hP.lt 1 0 rfl rfl
  first
    | go_loud (go_region_held3 (fun w => w.cell? ⟨cb, 0, none⟩ = some (.int .i64 8) ∧ w.cell? ⟨cb, 1, none⟩ = some (.int .i64 1) ∧ w.cell? ⟨cb, 2, none⟩ = some (.int .i64 2)) (first | (with_reducible exact ⟨b0, b1, b2⟩) | exact ⟨cell_alloc _ b0, cell_alloc _ b1, cell_alloc _ b2⟩) ((go_at_call 16; refine (write_New_app 8 1 2 _ _ _ (by decide) (by decide) hP).mono ?_; rintro e w7 ⟨x, rfl, hb, hO'⟩; rw [w21_n] at hO'; clear hP; have hP := hO'; clear hO'; have b0 := cell_below hb b0; have b1 := cell_below hb b1; have b2 := cell_below hb b2)))
    | fail "machines"
  all_goals
    obtain ⟨X, hO'⟩ := pack_gd hP; clear hP; have hP := hO'; clear hO'
    generalize World.alloc w7 _ = w8 at hP ⊢
    generalize w7.heap.size = ab at hP ⊢
    clear b0 b1 b2 bz
    have HI := Lib.hid (GAll.init (G := gu) (fi := fi) (se := se) (V := fun _ => wrV1) (fun _ => rfl))
    go_wp2_with fail
    go_loopw [14] (fun i wr => ∃ (k : Nat) (m N : Int) (bs : List Int) (V : Nat → WrV), i = .int .i64 k ∧ k ≤ xs.length ∧ GAll gu fi se N bs V ∧ Owns c0 W wr (memG p bw bb (gV (gW N)) bs m :: [(cb, Obj.cells #[Value.int .i64 8, .int .i64 1, .int .i64 2] 26 (0, 0))] :: [(ab, Obj.cells (rowA (gP X) 2) 37 (0, 0))] :: fam (gF (gCs fi se) X V) 2)) (fun i _ => xs.length - (intOf i).toNat)
    case atStart => exact ⟨0, _, gu, _, _, rfl, by omega, HI.out, hP⟩
    case round =>
      clear hP HI
      obtain ⟨k, m, N, bs, V, rfl, hk, hA, hP⟩ := hrel
      have HA := Lib.hid hA
      have hbl := Lib.hid (show bs.length ≤ 4096 by rw [hA.2.1]; decide)
      clear hA
      by_cases hlt : k < xs.length
      · obtain ⟨ib, io, rfl, hib, hI, -⟩ := HX.out k hlt
        have i0 := (hI 0 rfl).1
        obtain ⟨x0, x1⟩ := (hI 0 rfl).2
        simp only [List.length_cons, List.length_nil, Nat.add_zero, Nat.zero_add, Nat.mul_one] at i0
        obtain ⟨th, hth⟩ : ∃ d, getI xs k 0 = d := ⟨_, rfl⟩
        rw [hth] at i0 x0 x1
        have k0 : wr.cell? ⟨ib, io + k, none⟩ = some (.int .i64 th) := (hP.below.cell (p := ⟨ib, io + k, none⟩) (by rw [← HC.out]; exact hib)).trans i0
        clear hI hth i0 hib
        by_cases hq0 : 0 ≤ th.tmod 2
        rotate_left
        · have hq1 : th.tmod 2 < 0 := by omega
          clear hq0
          go_wp2_with (go_at_call 14; refine (law13_live _).mono ?_; rintro e w2 ⟨rfl, hb⟩; have hO := hP.via hb)
          go_ret
          exact ⟨rfl, by rw [HC.out]; exact hO.below⟩
        obtain ⟨q, hq⟩ : ∃ q : Nat, th.tmod 2 = q := ⟨(th.tmod 2).toNat, by omega⟩
        have hq2 : q < 2 := by have := Int.tmod_lt_of_pos th (show (0 : Int) < 2 by decide); omega
        clear hq0
        obtain ⟨N', bs', v', code, dn, hst, hA'⟩ := HA.out.step HGG.out hq2
        have HS := Lib.hid hst
        have HA' := Lib.hid hA'
        have hv := Lib.hid (HA.out.in6 hq2)
        clear hst hA'
        have g := rowA_cell hP 2 0 rfl rfl q hq2
        unfold gP at g
        go_wp2_with fail
        refine (gd_Step hq2 hP (lOkgC fi se q) (by show 9 ≤ 4096; decide) hbl.out hv.out HS.out).mono ?_; simp only [resV]; rintro e w9 ⟨rfl, m2, hO'⟩; clear hP; have hP := hO'; clear hO'
        clear g k0
        obtain ⟨V', hV'⟩ : ∃ V', upd V q v' = V' := ⟨_, rfl⟩
        rw [hV'] at hP HA'
        clear hV'
        have hbd := HA'.out.bd HGG.out
        go_wp2_with fail
        go_loop [16, 17] (fun hv kv => ∃ (j : Nat), kv = .int .i64 j ∧ j ≤ 2 ∧ hv = .int .i64 (gCnt gu V' j)) (fun _ kv => 2 - (intOf kv).toNat)
        case atStart => exact ⟨0, rfl, by omega, rfl⟩
        case round =>
          obtain ⟨j, rfl, hj, rfl⟩ := hrel
          have hc0 : gu ≤ gCnt gu V' j ∧ gCnt gu V' j ≤ gu + 2 := by
            rcases (show j = 0 ∨ j = 1 ∨ j = 2 by omega) with rfl | rfl | rfl
            · show gu ≤ gu ∧ gu ≤ gu + 2; omega
            · have := bI_two (V' 0).g
              show gu ≤ gu + bI (V' 0).g ∧ gu + bI (V' 0).g ≤ gu + 2; omega
            · have := bI_two (V' 0).g
              have := bI_two (V' 1).g
              show gu ≤ gu + bI (V' 0).g + bI (V' 1).g ∧ gu + bI (V' 0).g + bI (V' 1).g ≤ gu + 2; omega
          by_cases hlt2 : j < 2
          · have g := rowA_cell hP 2 0 rfl rfl j hlt2
            unfold gP at g
            have HN := Lib.hid (show gCnt gu V' (j + 1) = gCnt gu V' j + bI (V' j).g from rfl)
            obtain ⟨gb, hgb⟩ : ∃ b, (V' j).g = b := ⟨_, rfl⟩
            have HGB := Lib.hid hgb
            rw [hgb] at HN
            clear hgb
            generalize gCnt gu V' j = cj at hc0 HN ⊢
            cases gb
            case false =>
              go_wp2_with (go_at_call 18; refine (wr_Guards (j + 3) hP (gF_at hlt2)).mono ?_; rw [HGB.out]; rintro e w10 ⟨rfl, rfl⟩)
              go_round
              case rel => exact ⟨j + 1, by go_num, by omega, by rw [HN.out]; show _ = Value.int .i64 (cj + 0); rw [Int.add_zero]⟩
              case measure => simp [intOf]; omega
            case true =>
              go_wp2_with (go_at_call 18; refine (wr_Guards (j + 3) hP (gF_at hlt2)).mono ?_; rw [HGB.out]; rintro e w10 ⟨rfl, rfl⟩)
              go_round
              case rel => exact ⟨j + 1, by go_num, by omega, by rw [HN.out]; rfl⟩
              case measure => simp [intOf]; omega
          · have hj2 : j = 2 := by omega
            subst hj2
            have HNN := Lib.hid (show gCnt gu V' 2 = N' from HA'.out.1.symm)
            rw [HNN.out]
            clear hlt2 hc0
            go_wp2_with fail
            refine (plain_Load 0 6 hP rfl (by show 9 ≤ 4096; decide)).mono ?_; rw [gV_at]; rintro e w11 ⟨rfl, hO'⟩; clear hP; have hP := hO'; clear hO'; (try simp only [List.set_cons_zero, List.set_cons_succ, List.cons_append, List.nil_append, List.eraseIdx_cons_succ, List.eraseIdx_cons_zero, fam_set, fam_len] at hP)
            have HU := Lib.hid (gW_un hbd)
            go_wp2_with fail
            refine (ref02_Unpack _ _).mono ?_; rw [HU.out.1, HU.out.2.1, HU.out.2.2.1, HU.out.2.2.2.1, HU.out.2.2.2.2.1, HU.out.2.2.2.2.2.1, HU.out.2.2.2.2.2.2]; rintro e w12 ⟨rfl, hb⟩; have hO' := (hP.via hb).via (below_alloc _ (.cells #[.int .i64 0, .int .i64 0, .int .i64 0, .int .i64 N', .bool false, .bool true] 34)); clear hP; have hP := hO'; clear hO'
            go_wp2_with fail
            go_roundw
            case rel => exact ⟨k + 1, _, N', bs', V', by go_num, by omega, HA'.out, hP⟩
            case measure => simp [intOf]; omega
      · have hge : decide (k < xs.length) = false := by rw [decide_eq_false_iff_not]; omega
        clear hlt
        obtain ⟨N1, bs1, v1, hs1, hn1, hA1⟩ := HA.out.run HGG.out (q := 0) (by omega)
        obtain ⟨V1, hV1⟩ : ∃ V1, upd V 0 v1 = V1 := ⟨_, rfl⟩
        have e10 : (V1 0).nx = 0 := by rw [← hV1, upd_same]; exact hn1
        rw [hV1] at hA1
        have hbl1 := Lib.hid (show bs1.length ≤ 4096 by rw [hA1.2.1]; decide)
        obtain ⟨N2, bs2, v2, hs2, hn2, hA2⟩ := hA1.run HGG.out (q := 1) (by omega)
        obtain ⟨V2, hV2⟩ : ∃ V2, upd V1 1 v2 = V2 := ⟨_, rfl⟩
        have e20 : (V2 0).nx = 0 := by rw [← hV2, upd_ne _ _ (by omega)]; exact e10
        have e21 : (V2 1).nx = 0 := by rw [← hV2, upd_same]; exact hn2
        rw [hV2] at hA2
        obtain ⟨hN2, f1, f2⟩ := hA2.ended e20 e21
        have hbl2 := Lib.hid (show bs2.length ≤ 4096 by rw [hA2.2.1]; decide)
        have HBO := Lib.hid (hA2.2.2.1)
        have HF1 := Lib.hid f1
        have HF2 := Lib.hid f2
        have HS1 := Lib.hid hs1
        have HS2 := Lib.hid hs2
        have hv0 := Lib.hid (HA.out.in6 (q := 0) (by omega))
        have hv1 := Lib.hid (hA1.in6 (q := 1) (by omega))
        have HN2 := Lib.hid hN2
        have HV1 := Lib.hid hV1
        have HV2 := Lib.hid hV2
        clear hs1 hs2 hn1 hn2 hA1 hA2 e10 e20 e21 f1 f2 hN2 hV1 hV2
        have g := rowA_cell hP 2 0 rfl rfl 0 (by omega)
        unfold gP at g
        go_wp2_with fail
        refine (gd_Run (q := 0) (by omega) hP (lOkgC fi se 0) (by show 9 ≤ 4096; decide) hbl.out hv0.out HS1.out).mono ?_; simp only [resN]; rintro e w20 ⟨u1, y1, rfl, m1, hO'⟩; clear hP; have hP := hO'; clear hO'
        rw [HV1.out] at hP
        clear g
        have g := rowA_cell hP 2 0 rfl rfl 1 (by omega)
        unfold gP at g
        go_wp2_with fail
        refine (gd_Run (q := 1) (by omega) hP (lOkgC fi se 1) (by show 9 ≤ 4096; decide) hbl1.out hv1.out HS2.out).mono ?_; simp only [resN]; rintro e w21 ⟨u2, y2, rfl, m3, hO'⟩; clear hP; have hP := hO'; clear hO'
        rw [HV2.out, HN2.out] at hP
        clear g hge
        go_wp2_with fail
        refine (plain_Load 0 6 hP rfl (by show 9 ≤ 4096; decide)).mono ?_; rw [gV_at]; rintro e w22 ⟨rfl, hO'⟩; clear hP; have hP := hO'; clear hO'; (try simp only [List.set_cons_zero, List.set_cons_succ, List.cons_append, List.nil_append, List.eraseIdx_cons_succ, List.eraseIdx_cons_zero, fam_set, fam_len] at hP)
        generalize gW gu = gwu at hP ⊢
        have key1 : fi < 0 ∨ (0 ≤ fi ∧ 7 < fi) ∨ (0 ≤ fi ∧ fi ≤ 7) := by omega
        have key2 : se < 0 ∨ (0 ≤ se ∧ 7 < se) ∨ (0 ≤ se ∧ se ≤ 7) := by omega
        by_cases hfs : fi = se
        · have q1 : (fi == se) = true := by simpa using hfs
          have q2 : (se == fi) = true := by simpa using hfs.symm
          clear hfs
          rcases key1 with h1 | ⟨h1, h2⟩ | ⟨h1, h2⟩ <;> rcases key2 with h3 | ⟨h3, h4⟩ | ⟨h3, h4⟩
          all_goals
            go_wp2_with (go_at_call 14; refine (law13_live _).mono ?_; rintro e w2 ⟨rfl, hb⟩; have hO := hP.via hb)
            go_ret
            exact ⟨rfl, by rw [HC.out]; exact hO.below⟩
        · have q1 : (fi == se) = false := by simpa using hfs
          have q2 : (se == fi) = false := by rw [beq_eq_false_iff_ne]; exact fun h => hfs h.symm
          have HFS := Lib.hid hfs
          clear hfs
          rcases key1 with h1 | ⟨h1, h2⟩ | ⟨h1, h2⟩ <;> rcases key2 with h3 | ⟨h3, h4⟩ | ⟨h3, h4⟩
          case inr.inr.inr.inr =>
            have B1 := Lib.hid (HF1.out HFS.out h1 (by omega))
            have B2 := Lib.hid (HF2.out HFS.out h3 (by omega))
            go_wp2_with fail
            refine (plain_Byte 0 _ hP rfl hbl2.out HBO.out).mono ?_; rw [B1.out]; rintro e w23 ⟨rfl, hO'⟩; clear hP; have hP := hO'; clear hO'; (try simp only [List.set_cons_zero, List.set_cons_succ, List.cons_append, List.nil_append, List.eraseIdx_cons_succ, List.eraseIdx_cons_zero, fam_set, fam_len] at hP)
            go_wp2_with fail
            refine (plain_Byte 0 _ hP rfl hbl2.out HBO.out).mono ?_; rw [B2.out]; rintro e w24 ⟨rfl, hO'⟩; clear hP; have hP := hO'; clear hO'; (try simp only [List.set_cons_zero, List.set_cons_succ, List.cons_append, List.nil_append, List.eraseIdx_cons_succ, List.eraseIdx_cons_zero, fam_set, fam_len] at hP)
            go_wp2_with (go_at_call 14; refine (law13_live _).mono ?_; rintro e w2 ⟨rfl, hb⟩; have hO := hP.via hb)
            go_ret
            exact ⟨rfl, by rw [HC.out]; exact hO.below⟩
          case inr.inr.inl | inr.inr.inr.inl =>
            have B1 := Lib.hid (HF1.out HFS.out h1 (by omega))
            go_wp2_with fail
            refine (plain_Byte 0 _ hP rfl hbl2.out HBO.out).mono ?_; rw [B1.out]; rintro e w23 ⟨rfl, hO'⟩; clear hP; have hP := hO'; clear hO'; (try simp only [List.set_cons_zero, List.set_cons_succ, List.cons_append, List.nil_append, List.eraseIdx_cons_succ, List.eraseIdx_cons_zero, fam_set, fam_len] at hP)
            go_wp2_with (go_at_call 14; refine (law13_live _).mono ?_; rintro e w2 ⟨rfl, hb⟩; have hO := hP.via hb)
            go_ret
            exact ⟨rfl, by rw [HC.out]; exact hO.below⟩
          case inl.inr.inr | inr.inl.inr.inr =>
            have B2 := Lib.hid (HF2.out HFS.out h3 (by omega))
            go_wp2_with fail
            refine (plain_Byte 0 _ hP rfl hbl2.out HBO.out).mono ?_; rw [B2.out]; rintro e w24 ⟨rfl, hO'⟩; clear hP; have hP := hO'; clear hO'; (try simp only [List.set_cons_zero, List.set_cons_succ, List.cons_append, List.nil_append, List.eraseIdx_cons_succ, List.eraseIdx_cons_zero, fam_set, fam_len] at hP)
            go_wp2_with (go_at_call 14; refine (law13_live _).mono ?_; rintro e w2 ⟨rfl, hb⟩; have hO := hP.via hb)
            go_ret
            exact ⟨rfl, by rw [HC.out]; exact hO.below⟩
          all_goals
            go_wp2_with (go_at_call 14; refine (law13_live _).mono ?_; rintro e w2 ⟨rfl, hb⟩; have hO := hP.via hb)
            go_ret
            exact ⟨rfl, by rw [HC.out]; exact hO.below⟩
theorem WriteGuards_walk (v : Value) (xs : List (List Value)) (fi se gu : Int) (W : World) (hs : SArg W [true] v xs) : Calls Try.prog 3 #[.agg #[v, .int .i64 fi, .int .i64 se, .int .i64 gu]] W fun e w' => e = .returned (.bool true) ∧ Below W.heap.size W w' := by
  by_cases h1 : xs.length ≤ 100
  · cases hm : eMay 0 0 0 gu false true
    · exact WriteGuards_far v xs fi se gu W hs 0 1 (by unfold ePack; rw [hm]; rfl) (.inr (.inl ⟨h1, rfl⟩))
    · have hb := eMay_of hm
      by_cases h2 : gu ≤ 13
      · exact WriteGuards_go v xs fi se gu W hs ⟨hb.2.2.2.2.2.2.1, h2⟩ h1
      · exact WriteGuards_far v xs fi se gu W hs _ 0 (by unfold ePack; rw [hm]; rfl) (.inr (.inr ⟨h1, rfl, by omega⟩))
  · by_cases hm : eMay 0 0 0 gu false true = true
    · exact WriteGuards_far v xs fi se gu W hs _ 0 (by unfold ePack; rw [if_pos hm]) (.inl h1)
    · exact WriteGuards_far v xs fi se gu W hs _ 1 (by unfold ePack; rw [if_neg hm]) (.inl h1)
end Go.Proofs.Ytboephhffklbbaa
