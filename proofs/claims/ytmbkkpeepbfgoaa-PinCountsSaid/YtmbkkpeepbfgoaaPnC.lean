/- The pin law PinCounts. -/
import Derived.LoopTactic
import Derived.Deep.RegionHeld3
import Derived.Deep.DeepCutAuto
import Derived.Test.YtmbkkpeepbfgoaaPnC0
import Derived.Test.YtmbkkpeepbfgoaaPnLv
import Derived.Test.YtmbkkpeepbfgoaaEnR2
namespace Go.Proofs.Ytmbkkpeepbfgoaa
set_option linter.unusedVariables false
set_option linter.unusedSimpArgs false
open Go.RowKit
set_option maxRecDepth 100000 in
set_option maxHeartbeats 8000000 in
theorem PinCounts_far (v : Value) (xs : List (List Value)) (W : World) (hs : SArg W [false, true, false, true, true] v xs) (hn : ¬ xs.length ≤ 100) : Calls Try.prog 8 #[v] W fun e w' => e = .returned (.bool true) ∧ Below W.heap.size W w' := by
  obtain ⟨pa, cap, rfl, hl, hx⟩ := hs.form
  have hn' : 100 < xs.length := by omega
  clear hx hs hn
  have ck := Lib.hid (show cfgOk 8 1 1 = true by decide); go_enter Try.func8, Try.ntmps8; go_wp2_with fail; have hO := (Owns.nil W).more (.cells #[.int .i64 8, .int .i64 1, .int .i64 1] 26); generalize W.alloc (.cells #[.int .i64 8, .int .i64 1, .int .i64 1] 26) = w0 at hO ⊢; refine (law14_start 8 1 1 hO ck.out).mono ?_; rintro e w1 ⟨p, bw, bb, m, rfl, hO'⟩; have hO := hO'; (try simp only [List.set_cons_zero, List.set_cons_succ, List.cons_append, List.nil_append, List.eraseIdx_cons_succ, List.eraseIdx_cons_zero, fam_set, fam_len] at hO); have b0 : _ = some (Value.int .i64 8) := hO.cell 1 0 rfl rfl 0; have b1 : _ = some (Value.int .i64 1) := hO.cell 1 0 rfl rfl 1; have b2 : _ = some (Value.int .i64 1) := hO.cell 1 0 rfl rfl 2; have bz := hO.lt 1 0 rfl rfl
  go_wp2_with first
    | (go_at_call 14; refine (handle_make _ _ _).mono ?_; rw [show hMake 0 0 = (1099511627776, 0) by decide]; rintro e w2 ⟨rfl, rfl⟩)
    | (go_at_call 21; refine (law14_live _).mono ?_; rintro e w2 ⟨rfl, hb⟩; have hO := hO.via hb)
  go_ret
  exact ⟨rfl, hO.below⟩
def cP (x0 x1 x2 : Nat) : Nat → PnM := fun j => ⟨if j = 0 then x0 else if j = 1 then x1 else x2, false, 1, 0, 0⟩
theorem made_ptrs (x0 x1 x2 : Nat) : (#[.pointer (some ⟨x0, 0, none⟩), .pointer (some ⟨x1, 0, none⟩), .pointer (some ⟨x2, 0, none⟩)] : Array Value) = rowA (pmP (cP x0 x1 x2)) 3 := rfl
theorem made_fam (x0 x1 x2 : Nat) : [pnG x0 1 1 0 0 false false 1 0 0, pnG x1 1 1 0 0 false false 1 0 0, pnG x2 1 1 0 0 false false 1 0 0] = fam (pmF 1 1 0 0 false (cP x0 x1 x2)) 3 := rfl
theorem pack3 {B : Nat} {W w : World} {a b c : Nat} {m1 g1 : Grp} (hO : Owns B W w [pnG c 1 1 0 0 false false 1 0 0, pnG b 1 1 0 0 false false 1 0 0, pnG a 1 1 0 0 false false 1 0 0, m1, g1]) :
    ∃ Q : Nat → PnM, ((∀ j, MOk (Q j)) ∧ ∀ j, (Q j).un = false) ∧ Owns B W (w.alloc (.cells #[.pointer (some ⟨a, 0, none⟩), .pointer (some ⟨b, 0, none⟩), .pointer (some ⟨c, 0, none⟩)] 51)) ([m1, g1, [(w.heap.size, Obj.cells (rowA (pmP Q) 3) 51 (0, 0))]] ++ fam (pmF 1 1 0 0 false Q) 3) := by
  refine ⟨cP a b c, ⟨fun j => .inl rfl, fun j => rfl⟩, ?_⟩
  rw [← made_fam, ← made_ptrs]
  refine (hO.alloc (.cells #[.pointer (some ⟨a, 0, none⟩), .pointer (some ⟨b, 0, none⟩), .pointer (some ⟨c, 0, none⟩)] 51)).perm ?_
  generalize [(w.heap.size, Obj.cells #[.pointer (some ⟨a, 0, none⟩), .pointer (some ⟨b, 0, none⟩), .pointer (some ⟨c, 0, none⟩)] 51 (0, 0))] = A
  generalize pnG a 1 1 0 0 false false 1 0 0 = x
  generalize pnG b 1 1 0 0 false false 1 0 0 = y
  generalize pnG c 1 1 0 0 false false 1 0 0 = z
  show [A, z, y, x, m1, g1].Perm [m1, g1, A, x, y, z]
  have e := List.reverse_perm [m1, g1, A, x, y, z]
  refine List.Perm.trans ?_ e
  show [A, z, y, x, m1, g1].Perm [z, y, x, A, g1, m1]
  have e1 : [A, z, y, x, m1, g1].Perm ([z, y, x] ++ A :: [m1, g1]) := (List.perm_middle (a := A) (l₁ := [z, y, x]) (l₂ := [m1, g1])).symm
  exact e1.trans ((((List.Perm.swap g1 m1 []).cons A).append_left [z, y, x]))
set_option maxRecDepth 100000 in
set_option maxHeartbeats 8000000 in
theorem PinCounts_go (v : Value) (xs : List (List Value)) (W : World) (hs : SArg W [false, true, false, true, true] v xs) (hx100 : xs.length ≤ 100) : Calls Try.prog 8 #[v] W fun e w' => e = .returned (.bool true) ∧ Below W.heap.size W w' := by
  obtain ⟨pa, cap, rfl, hl, hx⟩ := hs.form
  have HX := Lib.hid hx
  have d3 : decide (100 < (xs.length : Int)) = false := by rw [decide_eq_false_iff_not]; omega
  have mk := made_bools 3 3 rfl (by decide)
  clear hx hs
  have ck := Lib.hid (show cfgOk 8 1 1 = true by decide); go_enter Try.func8, Try.ntmps8; go_wp2_with fail; have hO := (Owns.nil W).more (.cells #[.int .i64 8, .int .i64 1, .int .i64 1] 26); generalize W.alloc (.cells #[.int .i64 8, .int .i64 1, .int .i64 1] 26) = w0 at hO ⊢; refine (law14_start 8 1 1 hO ck.out).mono ?_; rintro e w1 ⟨p, bw, bb, m, rfl, hO'⟩; have hO := hO'; (try simp only [List.set_cons_zero, List.set_cons_succ, List.cons_append, List.nil_append, List.eraseIdx_cons_succ, List.eraseIdx_cons_zero, fam_set, fam_len] at hO); have b0 : _ = some (Value.int .i64 8) := hO.cell 1 0 rfl rfl 0; have b1 : _ = some (Value.int .i64 1) := hO.cell 1 0 rfl rfl 1; have b2 : _ = some (Value.int .i64 1) := hO.cell 1 0 rfl rfl 2; have bz := hO.lt 1 0 rfl rfl
  rw [p14_0, p14_b0] at hO
  go_wp2_with (go_at_call 14; refine (handle_make _ _ _).mono ?_; rw [show hMake 0 0 = (1099511627776, 0) by decide]; rintro e w2 ⟨rfl, rfl⟩; refine stop_here ?_)
  try unfold Stop
  go_wp2_with fail
  refine (plain_Store 0 5 _ hO rfl (by decide)).mono ?_; rw [p14V_0, show (562949953421312 : Int) = cW 0 by decide]; rintro e w3 ⟨rfl, hO'⟩; have hO := hO'; (try simp only [List.set_cons_zero, List.set_cons_succ, List.cons_append, List.nil_append, List.eraseIdx_cons_succ, List.eraseIdx_cons_zero, fam_set, fam_len] at hO); have b0 : _ = some (Value.int .i64 8) := hO.cell 1 0 rfl rfl 0; have b1 : _ = some (Value.int .i64 1) := hO.cell 1 0 rfl rfl 1; have b2 : _ = some (Value.int .i64 1) := hO.cell 1 0 rfl rfl 2; have bz := hO.lt 1 0 rfl rfl
  go_wp2_with fail
  have hO := hO.drew
  have b0 : _ = some (Value.int .i64 8) := hO.cell 1 0 rfl rfl 0
  have b1 : _ = some (Value.int .i64 1) := hO.cell 1 0 rfl rfl 1
  have b2 : _ = some (Value.int .i64 1) := hO.cell 1 0 rfl rfl 2
  first
    | go_loud (go_region_held3 (fun w => w.cell? ⟨W.heap.size, 0, none⟩ = some (.int .i64 8) ∧ w.cell? ⟨W.heap.size, 1, none⟩ = some (.int .i64 1) ∧ w.cell? ⟨W.heap.size, 2, none⟩ = some (.int .i64 1)) (first | (with_reducible exact ⟨b0, b1, b2⟩) | exact ⟨cell_alloc _ b0, cell_alloc _ b1, cell_alloc _ b2⟩) ((go_at_call 25; refine (pin_New_app 8 1 1 _ (by decide) (by decide) hO).mono ?_; rintro e w7 ⟨x, rfl, hb, hO'⟩; rw [p14_n1] at hO'; have hO := hO'; have b0 := cell_below hb b0; have b1 := cell_below hb b1; have b2 := cell_below hb b2)))
    | fail "machines"
  all_goals
    obtain ⟨Q, hQ, hO⟩ := pack3 hO
    generalize World.alloc _ _ = w8 at hO ⊢
    generalize w7.heap.size = ab at hO ⊢
    clear b0 b1 b2 bz
    have HQ0 := Lib.hid hQ
    clear hQ
    go_wp2_with fail
    have hO : Owns W.heap.size W (w8.alloc (.cells (rowA (fun _ => Value.bool false) 3) 4)) (memG p bw bb (p14V (cW 0)) p14B0 (wrap64 (m + 1)) :: [(W.heap.size, Obj.cells #[Value.int .i64 8, .int .i64 1, .int .i64 1] 26 (0, 0))] :: [(ab, Obj.cells (rowA (pmP Q) 3) 51 (0, 0))] :: [(w8.heap.size, Obj.cells (rowA (pmU Q) 3) 4 (0, 0))] :: fam (pmF 1 1 0 0 false Q) 3) := by
      have e : pmU Q = fun _ => Value.bool false := by funext j; unfold pmU; rw [HQ0.out.2 j]
      rw [e]
      exact (hO.alloc (.cells (rowA (fun _ => Value.bool false) 3) 4)).perm (List.perm_middle (l₁ := [_, _, _])).symm
    generalize w8.heap.size = ub at hO ⊢
    generalize w8.alloc _ = w9 at hO ⊢
    clear d3 mk
    go_loopw [9, 10] (fun cv i wr => ∃ (k : Nat) (m c : Int) (Q : Nat → PnM), i = .int .i64 k ∧ cv = .int .i64 c ∧ k ≤ xs.length ∧ 0 ≤ c ∧ c ≤ 7 ∧ (∀ j, MOk (Q j)) ∧ Owns W.heap.size W wr (memG p bw bb (p14V (cW c)) p14B0 m :: [(W.heap.size, Obj.cells #[Value.int .i64 8, .int .i64 1, .int .i64 1] 26 (0, 0))] :: [(ab, Obj.cells (rowA (pmP Q) 3) 51 (0, 0))] :: [(ub, Obj.cells (rowA (pmU Q) 3) 4 (0, 0))] :: fam (pmF 1 1 0 0 false Q) 3)) (fun _ i _ => xs.length - (intOf i).toNat)
    case atStart => exact ⟨0, _, 0, Q, rfl, rfl, by omega, by omega, by omega, HQ0.out.1, hO⟩
    case round =>
      clear hO HQ0
      obtain ⟨k, m, c, Q, rfl, rfl, hk, c0, c7, hQ, hO⟩ := hrel
      have HQ := Lib.hid hQ
      clear hQ
      by_cases hlt : k < xs.length
      · obtain ⟨ib, io, rfl, hib, hI, hI2⟩ := HX.out k hlt
        have i1 := (hI 1 rfl).1
        obtain ⟨x0, x1⟩ := (hI 1 rfl).2
        have i2 := hI2 2 rfl
        simp only [List.length_cons, List.length_nil, Nat.add_zero, Nat.zero_add] at i1 i2
        obtain ⟨th, hth⟩ : ∃ d, getI xs k 1 = d := ⟨_, rfl⟩
        obtain ⟨un, hun⟩ : ∃ d, getB xs k 2 = d := ⟨_, rfl⟩
        rw [hth] at i1 x0 x1
        rw [hun] at i2
        have I1 := Lib.hid i1
        have I2 := Lib.hid i2
        have HIB := Lib.hid hib
        have k1 : wr.cell? ⟨ib, io + k * 5 + 1, none⟩ = some (.int .i64 th) := (hO.below.cell (p := ⟨ib, io + k * 5 + 1, none⟩) hib).trans i1
        clear hI hI2 hth hun i1 i2
        by_cases hq0 : 0 ≤ th.tmod 3
        rotate_left
        · have hq1 : th.tmod 3 < 0 := by omega
          clear hq0
          go_wp2_with (go_at_call 21; refine (law14_live _).mono ?_; rintro e w2 ⟨rfl, hb⟩; have hO := hO.via hb)
          go_ret
          exact ⟨rfl, hO.below⟩
        obtain ⟨q, hq⟩ : ∃ q : Nat, th.tmod 3 = q := ⟨(th.tmod 3).toNat, by omega⟩
        have hq3 : q < 3 := by have := Int.tmod_lt_of_pos th (show (0 : Int) < 3 by decide); omega
        clear hq0
        obtain ⟨nx', wd', tw', code, c', dn, hstep, c0', c7', hc', hok⟩ := cnt_step ⟨c0, c7⟩ (HQ.out q)
        obtain ⟨unq, hunq⟩ : ∃ b, (Q q).un = b := ⟨_, rfl⟩
        have HS := Lib.hid hstep
        have HOK := Lib.hid hok
        have HC' := Lib.hid hc'
        have HUQ := Lib.hid hunq
        have g := rowA_cell hO 2 0 rfl rfl q hq3
        unfold pmP at g
        clear hstep hok hc' hunq
        go_wp2_with fail
        refine (pin_Step_fam hq3 hO lOk11 (by show 8 ≤ 4096; decide) HS.out).mono ?_; simp only [resV]; rintro e w10 ⟨rfl, m2, hO'⟩; clear hO; have hO := hO'; clear hO'
        clear g k1
        go_upto_region 17 with fail
        have hOr := hO.alloc (.cells #[.int .i64 code, .int .i64 0] 37)
        generalize w10.heap.size = rb at hOr ⊢
        generalize w10.alloc _ = wq at hOr ⊢
        have r0 : wq.cell? ⟨rb, 0, none⟩ = some (.int .i64 code) := hOr.cell 0 0 rfl rfl 0
        have rz := hOr.lt 0 0 rfl rfl
        have hO2 := hOr.tail
        clear hO hOr
        have hO := hO2
        clear hO2
        have HUP := Lib.hid (cW_un ⟨c0', c7'⟩)
        have g2 : wq.cell? ⟨ub, q, none⟩ = some (.bool unq) := by have g3 := rowA_cell hO 3 0 rfl rfl q hq3; rw [g3]; unfold pmU; rw [HUQ.out]
        cases dn
        case false =>
          have hc := HC'.out
          rw [Bool.false_and, if_neg (by decide)] at hc
          subst hc
          have HMK := Lib.hid (HOK.out rfl)
          go_wp2_with fail
          clear r0 g2 rz
          refine (plain_Load 0 5 hO rfl (by show 8 ≤ 4096; decide)).mono ?_; rw [p14V_at]; rintro e v1 ⟨rfl, hO'⟩; have hO := hO'; (try simp only [List.set_cons_zero, List.set_cons_succ, List.cons_append, List.nil_append, List.eraseIdx_cons_succ, List.eraseIdx_cons_zero, fam_set, fam_len] at hO)
          go_wp2_with fail
          refine (ref02_Unpack _ _).mono ?_; rw [HUP.out.1, HUP.out.2.1, HUP.out.2.2.1, HUP.out.2.2.2.1, HUP.out.2.2.2.2.1, HUP.out.2.2.2.2.2.1, HUP.out.2.2.2.2.2.2]; rintro e v2 ⟨rfl, hb⟩; have hO := (hO.via hb).via (below_alloc _ (.cells #[.int .i64 0, .int .i64 0, .int .i64 (c'), .int .i64 0, .bool false, .bool true] 68))
          go_wp2_with fail
          go_roundw
          case rel => exact ⟨k + 1, _, c', upd Q q ⟨(Q q).x, (Q q).un, nx', wd', tw'⟩, by go_num, rfl, by omega, c0', c7', MOk_upd HQ.out q HMK.out, by rw [pmP_same Q q ⟨(Q q).x, (Q q).un, nx', wd', tw'⟩ rfl, pmU_same Q q ⟨(Q q).x, (Q q).un, nx', wd', tw'⟩ rfl]; exact hO⟩
          case measure => simp [intOf]; omega
        case true =>
          obtain ⟨cz, hcz⟩ : ∃ b, (code == 0) = b := ⟨_, rfl⟩
          have HZ := Lib.hid hcz
          cases cz
          case false =>
            have hc := HC'.out
            rw [HZ.out, Bool.true_and, if_neg (by decide)] at hc
            subst hc
            go_upto_region 22 with fail
            have k2 : wq.cell? ⟨ib, io + k * 5 + 2, none⟩ = some (.bool un) := (hO.below.cell (p := ⟨ib, io + k * 5 + 2, none⟩) HIB.out).trans I2.out
            have gf := blk_free (hO.get 3 0 rfl rfl) q
            go_upto_region 23 with fail
            have hO := rowA_put hO 3 rfl q (.bool un)
            (try simp only [List.set_cons_zero, List.set_cons_succ, List.cons_append, List.nil_append, List.eraseIdx_cons_succ, List.eraseIdx_cons_zero, fam_set, fam_len] at hO)
            generalize World.setCell wq _ _ = wu at hO ⊢
            clear g2 gf k2 r0 rz
            have hO := hO.drew
            have g2 := rowA_cell hO 3 0 rfl rfl q hq3
            rw [upd_same] at g2
            have b0 : _ = some (Value.int .i64 8) := hO.cell 1 0 rfl rfl 0
            have b1 : _ = some (Value.int .i64 1) := hO.cell 1 0 rfl rfl 1
            have b2 : _ = some (Value.int .i64 1) := hO.cell 1 0 rfl rfl 2
            have n1 := hO.ne_out 2 1 0 0 rfl rfl rfl rfl (by decide)
            have n2 := hO.ne_out 2 3 0 0 rfl rfl rfl rfl (by decide)
            have q0 : (0 : Int) ≤ (q : Int) := by omega
            have q3 : (q : Int) < 3 := by omega
            first
              | go_loud (go_region_held3 (fun w => w.cell? ⟨W.heap.size, 0, none⟩ = some (.int .i64 8) ∧ w.cell? ⟨W.heap.size, 1, none⟩ = some (.int .i64 1) ∧ w.cell? ⟨W.heap.size, 2, none⟩ = some (.int .i64 1) ∧ w.cell? ⟨ub, q, none⟩ = some (.bool un)) (first | (with_reducible exact ⟨b0, b1, b2, g2⟩) | exact ⟨(World.cell?_setCell_far _ _ _ _ n1).trans b0, (World.cell?_setCell_far _ _ _ _ n1).trans b1, (World.cell?_setCell_far _ _ _ _ n1).trans b2, (World.cell?_setCell_far _ _ _ _ n2).trans g2⟩) ((go_at_call 30; refine (law14_one_app 8 1 1 _ _ (by decide) (by decide) hO).mono ?_; rintro e w7 ⟨x, rfl, hb, hO'⟩; rw [p14_n1] at hO'; have hO := hO'; have b0 := cell_below hb b0; have b1 := cell_below hb b1; have b2 := cell_below hb b2; have g2 := cell_below hb g2; have az := hO.lt 3 0 rfl rfl; have ag := rowA_cell hO 3 0 rfl rfl q hq3; have af := blk_free (hO.get 3 0 rfl rfl) q)))
              | fail "one"
            all_goals
              have hO := rowA_put hO 3 rfl q (.pointer (some ⟨x, 0, none⟩))
              generalize World.setCell w7 _ _ = wv at hO ⊢
              simp only [List.set_cons_succ, List.set_cons_zero] at hO
              have hO : Owns W.heap.size W wv (memG p bw bb (p14V (cW (c'))) p14B0 m2 :: [(W.heap.size, Obj.cells #[Value.int .i64 8, .int .i64 1, .int .i64 1] 26 (0, 0))] :: [(ab, Obj.cells (rowA (pmP (upd Q q ⟨x, un, 1, 0, 0⟩)) 3) 51 (0, 0))] :: [(ub, Obj.cells (rowA (pmU (upd Q q ⟨x, un, 1, 0, 0⟩)) 3) 4 (0, 0))] :: fam (pmF 1 1 0 0 false (upd Q q ⟨x, un, 1, 0, 0⟩)) 3) := by
                have h2 := hO.place (q + 4)
                simp only [List.set_cons_succ, fam_set] at h2
                rw [show pnG x 1 1 0 0 false un 1 0 0 = pmG 1 1 0 0 false ⟨x, un, 1, 0, 0⟩ from rfl, pmF_twice, pmP_upd Q q ⟨x, un, 1, 0, 0⟩, pmU_upd Q q ⟨x, un, 1, 0, 0⟩] at h2
                exact h2
              clear b0 b1 b2 g2
              go_wp2_with fail
              refine (plain_Load 0 5 hO rfl (by show 8 ≤ 4096; decide)).mono ?_; rw [p14V_at]; rintro e v1 ⟨rfl, hO'⟩; have hO := hO'; (try simp only [List.set_cons_zero, List.set_cons_succ, List.cons_append, List.nil_append, List.eraseIdx_cons_succ, List.eraseIdx_cons_zero, fam_set, fam_len] at hO)
              go_wp2_with fail
              refine (ref02_Unpack _ _).mono ?_; rw [HUP.out.1, HUP.out.2.1, HUP.out.2.2.1, HUP.out.2.2.2.1, HUP.out.2.2.2.2.1, HUP.out.2.2.2.2.2.1, HUP.out.2.2.2.2.2.2]; rintro e v2 ⟨rfl, hb⟩; have hO := (hO.via hb).via (below_alloc _ (.cells #[.int .i64 0, .int .i64 0, .int .i64 (c'), .int .i64 0, .bool false, .bool true] 68))
              go_wp2_with fail
              go_roundw
              case rel => exact ⟨k + 1, _, c', upd Q q ⟨x, un, 1, 0, 0⟩, by go_num, by first | rfl | go_num, by omega, c0', c7', MOk_upd HQ.out q (.inl rfl), hO⟩
              case measure => simp [intOf]; omega
          case true =>
            cases unq
            case false =>
              have hc : c' = c + 1 := by have h := HC'.out; rw [HZ.out, Bool.true_and, if_pos rfl, HUQ.out] at h; exact h
              subst hc
              go_upto_region 22 with fail
              have k2 : wq.cell? ⟨ib, io + k * 5 + 2, none⟩ = some (.bool un) := (hO.below.cell (p := ⟨ib, io + k * 5 + 2, none⟩) HIB.out).trans I2.out
              have gf := blk_free (hO.get 3 0 rfl rfl) q
              go_upto_region 23 with fail
              have hO := rowA_put hO 3 rfl q (.bool un)
              (try simp only [List.set_cons_zero, List.set_cons_succ, List.cons_append, List.nil_append, List.eraseIdx_cons_succ, List.eraseIdx_cons_zero, fam_set, fam_len] at hO)
              generalize World.setCell wq _ _ = wu at hO ⊢
              clear g2 gf k2 r0 rz
              have hO := hO.drew
              have g2 := rowA_cell hO 3 0 rfl rfl q hq3
              rw [upd_same] at g2
              have b0 : _ = some (Value.int .i64 8) := hO.cell 1 0 rfl rfl 0
              have b1 : _ = some (Value.int .i64 1) := hO.cell 1 0 rfl rfl 1
              have b2 : _ = some (Value.int .i64 1) := hO.cell 1 0 rfl rfl 2
              have n1 := hO.ne_out 2 1 0 0 rfl rfl rfl rfl (by decide)
              have n2 := hO.ne_out 2 3 0 0 rfl rfl rfl rfl (by decide)
              have q0 : (0 : Int) ≤ (q : Int) := by omega
              have q3 : (q : Int) < 3 := by omega
              first
                | go_loud (go_region_held3 (fun w => w.cell? ⟨W.heap.size, 0, none⟩ = some (.int .i64 8) ∧ w.cell? ⟨W.heap.size, 1, none⟩ = some (.int .i64 1) ∧ w.cell? ⟨W.heap.size, 2, none⟩ = some (.int .i64 1) ∧ w.cell? ⟨ub, q, none⟩ = some (.bool un)) (first | (with_reducible exact ⟨b0, b1, b2, g2⟩) | exact ⟨(World.cell?_setCell_far _ _ _ _ n1).trans b0, (World.cell?_setCell_far _ _ _ _ n1).trans b1, (World.cell?_setCell_far _ _ _ _ n1).trans b2, (World.cell?_setCell_far _ _ _ _ n2).trans g2⟩) ((go_at_call 30; refine (law14_one_app 8 1 1 _ _ (by decide) (by decide) hO).mono ?_; rintro e w7 ⟨x, rfl, hb, hO'⟩; rw [p14_n1] at hO'; have hO := hO'; have b0 := cell_below hb b0; have b1 := cell_below hb b1; have b2 := cell_below hb b2; have g2 := cell_below hb g2; have az := hO.lt 3 0 rfl rfl; have ag := rowA_cell hO 3 0 rfl rfl q hq3; have af := blk_free (hO.get 3 0 rfl rfl) q)))
                | fail "one"
              all_goals
                have hO := rowA_put hO 3 rfl q (.pointer (some ⟨x, 0, none⟩))
                generalize World.setCell w7 _ _ = wv at hO ⊢
                simp only [List.set_cons_succ, List.set_cons_zero] at hO
                have hO : Owns W.heap.size W wv (memG p bw bb (p14V (cW (c + 1))) p14B0 m2 :: [(W.heap.size, Obj.cells #[Value.int .i64 8, .int .i64 1, .int .i64 1] 26 (0, 0))] :: [(ab, Obj.cells (rowA (pmP (upd Q q ⟨x, un, 1, 0, 0⟩)) 3) 51 (0, 0))] :: [(ub, Obj.cells (rowA (pmU (upd Q q ⟨x, un, 1, 0, 0⟩)) 3) 4 (0, 0))] :: fam (pmF 1 1 0 0 false (upd Q q ⟨x, un, 1, 0, 0⟩)) 3) := by
                  have h2 := hO.place (q + 4)
                  simp only [List.set_cons_succ, fam_set] at h2
                  rw [show pnG x 1 1 0 0 false un 1 0 0 = pmG 1 1 0 0 false ⟨x, un, 1, 0, 0⟩ from rfl, pmF_twice, pmP_upd Q q ⟨x, un, 1, 0, 0⟩, pmU_upd Q q ⟨x, un, 1, 0, 0⟩] at h2
                  exact h2
                clear b0 b1 b2 g2
                go_wp2_with fail
                refine (plain_Load 0 5 hO rfl (by show 8 ≤ 4096; decide)).mono ?_; rw [p14V_at]; rintro e v1 ⟨rfl, hO'⟩; have hO := hO'; (try simp only [List.set_cons_zero, List.set_cons_succ, List.cons_append, List.nil_append, List.eraseIdx_cons_succ, List.eraseIdx_cons_zero, fam_set, fam_len] at hO)
                go_wp2_with fail
                refine (ref02_Unpack _ _).mono ?_; rw [HUP.out.1, HUP.out.2.1, HUP.out.2.2.1, HUP.out.2.2.2.1, HUP.out.2.2.2.2.1, HUP.out.2.2.2.2.2.1, HUP.out.2.2.2.2.2.2]; rintro e v2 ⟨rfl, hb⟩; have hO := (hO.via hb).via (below_alloc _ (.cells #[.int .i64 0, .int .i64 0, .int .i64 (c + 1), .int .i64 0, .bool false, .bool true] 68))
                go_wp2_with fail
                go_roundw
                case rel => exact ⟨k + 1, _, c + 1, upd Q q ⟨x, un, 1, 0, 0⟩, by go_num, by first | rfl | go_num, by omega, c0', c7', MOk_upd HQ.out q (.inl rfl), hO⟩
                case measure => simp [intOf]; omega
            case true =>
              have hc : c' = c - 1 := by have h := HC'.out; rw [HZ.out, Bool.true_and, if_pos rfl, HUQ.out] at h; exact h
              subst hc
              go_upto_region 22 with fail
              have k2 : wq.cell? ⟨ib, io + k * 5 + 2, none⟩ = some (.bool un) := (hO.below.cell (p := ⟨ib, io + k * 5 + 2, none⟩) HIB.out).trans I2.out
              have gf := blk_free (hO.get 3 0 rfl rfl) q
              go_upto_region 23 with fail
              have hO := rowA_put hO 3 rfl q (.bool un)
              (try simp only [List.set_cons_zero, List.set_cons_succ, List.cons_append, List.nil_append, List.eraseIdx_cons_succ, List.eraseIdx_cons_zero, fam_set, fam_len] at hO)
              generalize World.setCell wq _ _ = wu at hO ⊢
              clear g2 gf k2 r0 rz
              have hO := hO.drew
              have g2 := rowA_cell hO 3 0 rfl rfl q hq3
              rw [upd_same] at g2
              have b0 : _ = some (Value.int .i64 8) := hO.cell 1 0 rfl rfl 0
              have b1 : _ = some (Value.int .i64 1) := hO.cell 1 0 rfl rfl 1
              have b2 : _ = some (Value.int .i64 1) := hO.cell 1 0 rfl rfl 2
              have n1 := hO.ne_out 2 1 0 0 rfl rfl rfl rfl (by decide)
              have n2 := hO.ne_out 2 3 0 0 rfl rfl rfl rfl (by decide)
              have q0 : (0 : Int) ≤ (q : Int) := by omega
              have q3 : (q : Int) < 3 := by omega
              first
                | go_loud (go_region_held3 (fun w => w.cell? ⟨W.heap.size, 0, none⟩ = some (.int .i64 8) ∧ w.cell? ⟨W.heap.size, 1, none⟩ = some (.int .i64 1) ∧ w.cell? ⟨W.heap.size, 2, none⟩ = some (.int .i64 1) ∧ w.cell? ⟨ub, q, none⟩ = some (.bool un)) (first | (with_reducible exact ⟨b0, b1, b2, g2⟩) | exact ⟨(World.cell?_setCell_far _ _ _ _ n1).trans b0, (World.cell?_setCell_far _ _ _ _ n1).trans b1, (World.cell?_setCell_far _ _ _ _ n1).trans b2, (World.cell?_setCell_far _ _ _ _ n2).trans g2⟩) ((go_at_call 30; refine (law14_one_app 8 1 1 _ _ (by decide) (by decide) hO).mono ?_; rintro e w7 ⟨x, rfl, hb, hO'⟩; rw [p14_n1] at hO'; have hO := hO'; have b0 := cell_below hb b0; have b1 := cell_below hb b1; have b2 := cell_below hb b2; have g2 := cell_below hb g2; have az := hO.lt 3 0 rfl rfl; have ag := rowA_cell hO 3 0 rfl rfl q hq3; have af := blk_free (hO.get 3 0 rfl rfl) q)))
                | fail "one"
              all_goals
                have hO := rowA_put hO 3 rfl q (.pointer (some ⟨x, 0, none⟩))
                generalize World.setCell w7 _ _ = wv at hO ⊢
                simp only [List.set_cons_succ, List.set_cons_zero] at hO
                have hO : Owns W.heap.size W wv (memG p bw bb (p14V (cW (c - 1))) p14B0 m2 :: [(W.heap.size, Obj.cells #[Value.int .i64 8, .int .i64 1, .int .i64 1] 26 (0, 0))] :: [(ab, Obj.cells (rowA (pmP (upd Q q ⟨x, un, 1, 0, 0⟩)) 3) 51 (0, 0))] :: [(ub, Obj.cells (rowA (pmU (upd Q q ⟨x, un, 1, 0, 0⟩)) 3) 4 (0, 0))] :: fam (pmF 1 1 0 0 false (upd Q q ⟨x, un, 1, 0, 0⟩)) 3) := by
                  have h2 := hO.place (q + 4)
                  simp only [List.set_cons_succ, fam_set] at h2
                  rw [show pnG x 1 1 0 0 false un 1 0 0 = pmG 1 1 0 0 false ⟨x, un, 1, 0, 0⟩ from rfl, pmF_twice, pmP_upd Q q ⟨x, un, 1, 0, 0⟩, pmU_upd Q q ⟨x, un, 1, 0, 0⟩] at h2
                  exact h2
                clear b0 b1 b2 g2
                go_wp2_with fail
                refine (plain_Load 0 5 hO rfl (by show 8 ≤ 4096; decide)).mono ?_; rw [p14V_at]; rintro e v1 ⟨rfl, hO'⟩; have hO := hO'; (try simp only [List.set_cons_zero, List.set_cons_succ, List.cons_append, List.nil_append, List.eraseIdx_cons_succ, List.eraseIdx_cons_zero, fam_set, fam_len] at hO)
                go_wp2_with fail
                refine (ref02_Unpack _ _).mono ?_; rw [HUP.out.1, HUP.out.2.1, HUP.out.2.2.1, HUP.out.2.2.2.1, HUP.out.2.2.2.2.1, HUP.out.2.2.2.2.2.1, HUP.out.2.2.2.2.2.2]; rintro e v2 ⟨rfl, hb⟩; have hO := (hO.via hb).via (below_alloc _ (.cells #[.int .i64 0, .int .i64 0, .int .i64 (c - 1), .int .i64 0, .bool false, .bool true] 68))
                go_wp2_with fail
                go_roundw
                case rel => exact ⟨k + 1, _, c - 1, upd Q q ⟨x, un, 1, 0, 0⟩, by go_num, by first | rfl | go_num, by omega, c0', c7', MOk_upd HQ.out q (.inl rfl), hO⟩
                case measure => simp [intOf]; omega
      · have hge : decide (k < xs.length) = false := by rw [decide_eq_false_iff_not]; omega
        clear hlt
        go_wp2_with (go_at_call 21; refine (law14_live _).mono ?_; rintro e w2 ⟨rfl, hb⟩; have hO := hO.via hb)
        go_ret
        exact ⟨rfl, hO.below⟩
theorem PinCounts_walk (v : Value) (xs : List (List Value)) (W : World) (hs : SArg W [false, true, false, true, true] v xs) : Calls Try.prog 8 #[v] W fun e w' => e = .returned (.bool true) ∧ Below W.heap.size W w' := by
  by_cases h : xs.length ≤ 100
  · exact PinCounts_go v xs W hs h
  · exact PinCounts_far v xs W hs h
end Go.Proofs.Ytmbkkpeepbfgoaa
