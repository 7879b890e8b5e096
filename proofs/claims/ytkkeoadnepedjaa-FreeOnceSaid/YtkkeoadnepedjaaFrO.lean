/- The free law FreeOnce. -/
import Derived.RegionTactic
import Derived.BigRegion
import Derived.Deep.RegionHeld3
import Derived.Outline
import Derived.Deep.DeepCutAuto
import Derived.Deep.QuietTactic
import Derived.BigQuiet
import Derived.Test.YtkkeoadnepedjaaFrO1
import Derived.Test.YtkkeoadnepedjaaFrLv
import Derived.Test.YtkkeoadnepedjaaFlat
namespace Go.Proofs.Ytkkeoadnepedjaa
set_option linter.unusedVariables false
set_option linter.unusedSimpArgs false
open Go.RowKit
theorem free_New_app {B : Nat} {W w : World} {G : List Grp} (a s t h : Int) (l : -9223372036854775808 ≤ h) (u : h ≤ 9223372036854775807) (hO : Owns B W w G) : Calls Try.prog 17 #[.agg #[.int .i64 a, .int .i64 s, .int .i64 t], .int .i64 h] w fun e w' =>
    ∃ x, e = .returned (.pointer (some ⟨x, 0, none⟩)) ∧ Below w.heap.size w w' ∧ Owns B W w' (frG x (frNewC a s t h) (frV0 (alNx a s t)) :: G) :=
  (free_New a s t h l u (Owns.nil w)).mono fun _ _ ⟨x, he, h⟩ => ⟨x, he, h.1, hO.app h⟩
theorem fo_x : alNx 64 3 1 = 1 := by decide
set_option maxRecDepth 100000 in
set_option maxHeartbeats 8000000 in
theorem FreeOnce_far (v : Value) (xs : List (List Value)) (W : World) (hs : SArg W [true] v xs) (hn : 60 < xs.length) : Calls Try.prog 4 #[v] W fun e w' => e = .returned (.bool true) ∧ Below W.heap.size W w' := by
  obtain ⟨pa, cap, rfl, hl, hx⟩ := hs.form
  have ck := Lib.hid (show cfgOk 64 3 1 = true by decide)
  clear hx hs
  go_enter Try.func4, Try.ntmps4
  go_wp2_with fail
  have hP := (Owns.nil W).more (.cells #[.int .i64 64, .int .i64 3, .int .i64 1] 25)
  generalize W.alloc (.cells #[.int .i64 64, .int .i64 3, .int .i64 1] 25) = w0 at hP ⊢
  refine (law15_start 64 3 1 hP ck.out).mono ?_; rintro e w1 ⟨p, bw, bb, m, rfl, hO'⟩; clear hP; have hP := hO'; clear hO'
  go_wp2_with (go_at_call 11; refine (law15_live _).mono ?_; rintro e w20 ⟨rfl, hb⟩; have hO' := hP.via hb; clear hP; have hP := hO'; clear hO')
  go_ret
  exact ⟨rfl, hP.below⟩
set_option maxRecDepth 100000 in
set_option maxHeartbeats 16000000 in
theorem FreeOnce_go (v : Value) (xs : List (List Value)) (W : World) (hs : SArg W [true] v xs) (hn : xs.length ≤ 60) : Calls Try.prog 4 #[v] W fun e w' => e = .returned (.bool true) ∧ Below W.heap.size W w' := by
  obtain ⟨pa, cap, rfl, hl, hx⟩ := hs.form
  have HX := Lib.hid hx
  have ck := Lib.hid (show cfgOk 64 3 1 = true by decide)
  have d3 : decide (60 < xs.length) = false := by rw [decide_eq_false_iff_not]; omega
  clear hx hs
  go_enter Try.func4, Try.ntmps4
  go_wp2_with fail
  have hP := (Owns.nil W).more (.cells #[.int .i64 64, .int .i64 3, .int .i64 1] 25)
  generalize hcb : W.heap.size = cb at hP ⊢
  have HC := Lib.hid hcb
  clear hcb
  generalize W.alloc (.cells #[.int .i64 64, .int .i64 3, .int .i64 1] 25) = w0 at hP ⊢
  refine (law15_start 64 3 1 hP ck.out).mono ?_; rintro e w1 ⟨p, bw, bb, m, rfl, hO'⟩; clear hP; have hP := hO'; clear hO'; (try simp only [List.set_cons_zero, List.set_cons_succ, List.cons_append, List.nil_append, List.eraseIdx_cons_succ, List.eraseIdx_cons_zero] at hP); have b0 : _ = some (Value.int .i64 64) := hP.cell 1 0 rfl rfl 0; have b1 : _ = some (Value.int .i64 3) := hP.cell 1 0 rfl rfl 1; have b2 : _ = some (Value.int .i64 1) := hP.cell 1 0 rfl rfl 2; have bz := hP.lt 1 0 rfl rfl
  rw [foA_0, fo_b0] at hP
  go_wp2_with fail
  refine (law15_make1 64 3 1 8 ck.out hP (by decide) (by decide)).mono ?_
  rintro e w4 ⟨tk, r, hr, rfl, m4, hO'⟩
  rw [fo_c] at hr
  obtain ⟨⟨qw, qb, qv⟩, N1, hm, rfl, rfl⟩ := fo_m tk
  rw [hm] at hr; subst hr
  simp only at hO'
  clear hP; have hP := hO'; clear hO'
  clear hm d3
  clear b0 b1 b2 bz
  go_upto_region 6 with fail
  have hO' := hP.more (.cells #[.int .i64 0, .int .i64 1099511627776] 41); clear hP; have hP := hO'; clear hO'; (try simp only [List.set_cons_zero, List.set_cons_succ, List.cons_append, List.nil_append, List.eraseIdx_cons_succ, List.eraseIdx_cons_zero] at hP)
  generalize w4.heap.size = hb at hP ⊢
  generalize w4.alloc _ = w5 at hP ⊢
  have hO' := hP.drew; clear hP; have hP := hO'; clear hO'
  (try simp only [List.set_cons_zero, List.set_cons_succ, List.cons_append, List.nil_append, List.eraseIdx_cons_succ, List.eraseIdx_cons_zero] at hP); have b0 : _ = some (Value.int .i64 64) := hP.cell 1 0 rfl rfl 0; have b1 : _ = some (Value.int .i64 3) := hP.cell 1 0 rfl rfl 1; have b2 : _ = some (Value.int .i64 1) := hP.cell 1 0 rfl rfl 2; have bz := hP.lt 1 0 rfl rfl
  have h1 : _ = some (Value.int .i64 1099511627776) := hP.cell 2 0 rfl rfl 1
  first
    | go_loud (go_region_held3 (fun w => w.cell? ⟨cb, 0, none⟩ = some (.int .i64 64) ∧ w.cell? ⟨cb, 1, none⟩ = some (.int .i64 3) ∧ w.cell? ⟨cb, 2, none⟩ = some (.int .i64 1) ∧ w.cell? ⟨hb, 1, none⟩ = some (.int .i64 1099511627776)) (first | (with_reducible exact ⟨b0, b1, b2, h1⟩) | exact ⟨cell_alloc _ b0, cell_alloc _ b1, cell_alloc _ b2, cell_alloc _ h1⟩) ((go_at_call 17; refine (free_New_app 64 3 1 _ (by decide) (by decide) hP).mono ?_; rintro e w7 ⟨x, rfl, hbb, hO'⟩; rw [fo_n, fo_x] at hO'; clear hP; have hP := hO'; clear hO'; have b0 := cell_below hbb b0; have b1 := cell_below hbb b1; have b2 := cell_below hbb b2; have h1 := cell_below hbb h1)))
    | fail "machines"
  all_goals
    obtain ⟨Q, hQ, hO'⟩ := fo_pack hP; clear hP; have hP := hO'; clear hO'
    generalize World.alloc _ _ = w8 at hP ⊢
    generalize w7.heap.size = ab at hP ⊢
    clear b0 b1 b2 bz h1
    (try simp only [List.set_cons_zero, List.set_cons_succ, List.cons_append, List.nil_append, List.eraseIdx_cons_succ, List.eraseIdx_cons_zero] at hP)
    have HQ0 := Lib.hid hQ
    clear hQ
    go_upto_region 10 with fail
    have hO' : Owns cb W (w8.alloc (.cells #[.bool false, .bool false, .bool false] 54)) (memG p bw bb (foW 0) foZ m4 :: [(cb, Obj.cells #[.int .i64 64, .int .i64 3, .int .i64 1] 25 (0, 0))] :: [(hb, Obj.cells #[.int .i64 0, .int .i64 1099511627776] 41 (0, 0))] :: [(ab, Obj.cells (rowA (foP Q) 3) 44 (0, 0))] :: [(w8.heap.size, Obj.cells (rowA (foD' Q) 3) 54 (0, 0))] :: fam (foF Q) 3) := by
      have e : foD' Q = fun _ => Value.bool false := by funext j; unfold foD'; rw [HQ0.out j]; rfl
      rw [e]
      exact (hP.alloc (.cells #[.bool false, .bool false, .bool false] 54)).perm (List.perm_middle (l₁ := [_, _, _, _])).symm
    clear hP; have hP := hO'; clear hO'
    generalize w8.heap.size = ub at hP ⊢
    generalize w8.alloc _ = w9 at hP ⊢
    go_wp2_with fail
    go_loopw [7, 8, 10] (fun ov sv iv wr => ∃ (i : Nat) (m : Int) (ph : Nat) (Q : Nat → FoM), iv = .int .i64 i ∧ ov = .int .i64 (foOkN Q) ∧ sv = .int .i64 (foStN Q) ∧ i ≤ xs.length + 30 ∧ ph < 3 ∧ ((∀ j, (Q j).a < 9) ∧ foInv ph (Q 0).a (Q 1).a (Q 2).a = true ∧ (∀ j, j < 3 → foPot (Q j).a ≤ 5 - vis xs.length j (i - xs.length))) ∧ Owns cb W wr (memG p bw bb (foW ph) foZ m :: [(cb, Obj.cells #[.int .i64 64, .int .i64 3, .int .i64 1] 25 (0, 0))] :: [(hb, Obj.cells #[.int .i64 0, .int .i64 1099511627776] 41 (0, 0))] :: [(ab, Obj.cells (rowA (foP Q) 3) 44 (0, 0))] :: [(ub, Obj.cells (rowA (foD' Q) 3) 54 (0, 0))] :: fam (foF Q) 3)) (fun _ _ iv _ => xs.length + 30 - (intOf iv).toNat)
    case atStart => exact ⟨0, _, 0, Q, rfl, by unfold foOkN; rw [HQ0.out 0, HQ0.out 1, HQ0.out 2]; rfl, by unfold foStN; rw [HQ0.out 0, HQ0.out 1, HQ0.out 2]; rfl, by omega, by decide, ⟨fun j => by rw [HQ0.out j]; decide, by rw [HQ0.out 0, HQ0.out 1, HQ0.out 2]; decide, fun j _ => by rw [show 0 - xs.length = 0 by omega]; exact fo_pot5 _⟩, hP⟩
    case round =>
      clear hP HQ0 Q
      obtain ⟨i, m, ph, Q, rfl, rfl, rfl, hi, hph, hpure, hP⟩ := hrel
      have HPU := Lib.hid hpure
      clear hpure
      by_cases hlt : i < xs.length + 30
      · have hlt2 : (i : Int) < (xs.length : Int) + 30 := by omega
        go_upto_region 14 with fail
        go_cut [11, 59] (fun s11 s59 wx => wx = wr ∧ s11 = .int .i64 ((i : Int) % 3) ∧ s59 = .bool (decide (i < xs.length)))
        case first =>
          go_wp2_with fail
          go_meet
          first | exact ⟨rfl, rfl, rfl⟩ | (refine ⟨rfl, rfl, ?_⟩; congr 1; simp)
        obtain ⟨rfl, rfl, rfl⟩ := hcut
        have hm : (i : Int) % 3 = ((i % 3 : Nat) : Int) := by omega
        have hz : ∃ z : Int, (z < 0 ∨ ∃ q : Nat, q < 3 ∧ z = q ∧ (xs.length ≤ i → i % 3 = q)) ∧ (i < xs.length → (getI xs i 0).tmod 3 = z) ∧ (xs.length ≤ i → (i : Int) % 3 = z) := by
          by_cases hil : i < xs.length
          · refine ⟨(getI xs i 0).tmod 3, ?_, fun _ => rfl, fun h => by omega⟩
            by_cases hq0 : (getI xs i 0).tmod 3 < 0
            · exact .inl hq0
            · right
              have := Int.tmod_lt_of_pos (getI xs i 0) (show (0 : Int) < 3 by decide)
              exact ⟨((getI xs i 0).tmod 3).toNat, by omega, by omega, fun h => by omega⟩
          · exact ⟨(i : Int) % 3, .inr ⟨i % 3, by omega, hm, fun _ => rfl⟩, fun h => by omega, fun _ => rfl⟩
        obtain ⟨z, hz, hzA, hzB⟩ := hz
        have HZ := Lib.hid hz
        clear hm hz
        rcases HZ.out with hz | ⟨q, hq3, rfl, hpick⟩
        · clear HZ
          by_cases hil : i < xs.length
          obtain ⟨ib, io, rfl, hib, hI, -⟩ := HX.out i hil
          have ckk := (hI 0 rfl).1
          simp only [List.length_cons, List.length_nil, Nat.mul_one, Nat.add_zero, Nat.zero_add] at ckk
          have e3 := hzA hil
          obtain ⟨x, hx⟩ : ∃ x, getI xs i 0 = x := ⟨_, rfl⟩
          rw [hx] at ckk e3
          have ckk : wc.cell? ⟨ib, io + i, none⟩ = some (.int .i64 x) := (hP.below.cell (p := ⟨ib, io + i, none⟩) (show ib < cb by rw [← HC.out]; exact hib)).trans ckk
          clear hI hx hib hzA hzB
          rotate_left
          have e3 := hzB (by omega)
          have hil2 : decide (i < xs.length) = false := by rw [decide_eq_false_iff_not]; omega
          rw [e3]
          clear hzA hzB
          all_goals
            go_wp2_with (go_at_call 11; refine (law15_live _).mono ?_; rintro e w20 ⟨rfl, hb⟩; have hO' := hP.via hb; clear hP; have hP := hO'; clear hO')
          all_goals
            go_ret
            exact ⟨rfl, by rw [HC.out]; exact hP.below⟩
        · clear HZ
          have HPK := Lib.hid hpick
          have q0 : (0 : Int) ≤ (q : Int) := by omega
          have q3 : (q : Int) < 3 := by omega
          have g := rowA_cell hP 3 0 rfl rfl q hq3
          unfold foP at g
          have gd := rowA_cell hP 4 0 rfl rfl q hq3
          unfold foD' at gd
          clear hpick
          by_cases h6 : 6 ≤ (Q q).a
          · have e6 : decide (6 ≤ (Q q).a) = true := decide_eq_true h6
            rw [e6] at gd
            by_cases hil : i < xs.length
            obtain ⟨ib, io, rfl, hib, hI, -⟩ := HX.out i hil
            have ckk := (hI 0 rfl).1
            simp only [List.length_cons, List.length_nil, Nat.mul_one, Nat.add_zero, Nat.zero_add] at ckk
            have e3 := hzA hil
            obtain ⟨x, hx⟩ : ∃ x, getI xs i 0 = x := ⟨_, rfl⟩
            rw [hx] at ckk e3
            have ckk : wc.cell? ⟨ib, io + i, none⟩ = some (.int .i64 x) := (hP.below.cell (p := ⟨ib, io + i, none⟩) (show ib < cb by rw [← HC.out]; exact hib)).trans ckk
            clear hI hx hib hzA hzB
            rotate_left
            have e3 := hzB (by omega)
            have hil2 : decide (i < xs.length) = false := by rw [decide_eq_false_iff_not]; omega
            rw [e3]
            clear hzA hzB
            all_goals
              go_wp2_with fail
              go_roundw
              case rel => exact ⟨i + 1, _, ph, Q, by go_num, rfl, rfl, by omega, hph, ⟨HPU.out.1, HPU.out.2.1, fo_pots HPU.out.2.2 HPK.out (fun _ _ => rfl) (by rw [fo_pot6 h6]; omega)⟩, hP⟩
              case measure => simp [intOf]; omega
          · have e6 : decide (6 ≤ (Q q).a) = false := decide_eq_false h6
            rw [e6] at gd
            have hk := (fo_inv hph HPU.out.1 HPU.out.2.1 hq3 (by omega) 0 0).1
            have hinv := fun (x y : Nat) => (fo_inv hph HPU.out.1 HPU.out.2.1 hq3 (by omega) x y).2
            obtain ⟨k1, k2, k3, k4, k5⟩ := fo_bd hph (by omega) hk
            obtain ⟨⟨ph', a', code, dn⟩, hnx⟩ : ∃ r, foNx ph (Q q).a = r := ⟨_, rfl⟩
            have hst := fo_Step hq3 hP hk
            simp only [hnx] at hinv
            rw [hnx] at k1 k2 k3 k4 k5 hst
            simp only at k1 k2 k3 k4 k5 hst
            have HST := Lib.hid hst
            have HIV := Lib.hid hinv
            have HK := Lib.hid (And.intro k2 (And.intro k3 (And.intro k4 k5)))
            clear hk hinv hnx hst k2 k3 k4 k5
            by_cases hil : i < xs.length
            obtain ⟨ib, io, rfl, hib, hI, -⟩ := HX.out i hil
            have ckk := (hI 0 rfl).1
            simp only [List.length_cons, List.length_nil, Nat.mul_one, Nat.add_zero, Nat.zero_add] at ckk
            have e3 := hzA hil
            obtain ⟨x, hx⟩ : ∃ x, getI xs i 0 = x := ⟨_, rfl⟩
            rw [hx] at ckk e3
            have ckk : wc.cell? ⟨ib, io + i, none⟩ = some (.int .i64 x) := (hP.below.cell (p := ⟨ib, io + i, none⟩) (show ib < cb by rw [← HC.out]; exact hib)).trans ckk
            clear hI hx hib hzA hzB
            rotate_left
            have e3 := hzB (by omega)
            have hil2 : decide (i < xs.length) = false := by rw [decide_eq_false_iff_not]; omega
            rw [e3]
            clear hzA hzB
            all_goals
              go_wp2_with fail
              refine HST.out.mono ?_
              simp only [resV]
              rintro e w10 ⟨rfl, m2, y2, hO'⟩; clear hP; have hP := hO'; clear hO'
              clear g gd
              go_upto_region 20 with fail
              have hO' := hP.alloc (.cells #[.int .i64 code, .int .i64 0] 41); clear hP; have hP := hO'; clear hO'
              generalize w10.heap.size = rb at hP ⊢
              generalize w10.alloc _ = w11 at hP ⊢
              have gf := blk_free (hP.get 5 0 rfl rfl) q
              have gd := rowA_cell hP 5 0 rfl rfl q hq3
              have gz := hP.lt 5 0 rfl rfl
              go_upto_region 21 with fail
              have hO' := rowA_put hP 5 rfl q (.bool dn); clear hP; have hP := hO'; clear hO'; (try simp only [List.set_cons_zero, List.set_cons_succ, List.cons_append, List.nil_append, List.eraseIdx_cons_succ, List.eraseIdx_cons_zero] at hP)
              generalize World.setCell w11 _ _ = w12 at hP ⊢
              clear gf gd gz
              have r0 : _ = some (Value.int .i64 code) := hP.cell 0 0 rfl rfl 0
              have rz := hP.lt 0 0 rfl rfl
              have hO' := hP.tail; clear hP; have hP := hO'; clear hO'
              have hcn := fo_cnt (Q := Q) hq3 ⟨(Q q).x, y2, a'⟩ (by omega)
              have HCN := Lib.hid hcn
              have hbd : ∀ j, (upd Q q ⟨(Q q).x, y2, a'⟩ j).a < 9 := by
                intro j; unfold upd; split
                · exact HK.out.1
                · exact HPU.out.1 j
              have hfin : Owns cb W w12 (memG p bw bb (foW ph') foZ m2 :: [(cb, Obj.cells #[.int .i64 64, .int .i64 3, .int .i64 1] 25 (0, 0))] :: [(hb, Obj.cells #[.int .i64 0, .int .i64 1099511627776] 41 (0, 0))] :: [(ab, Obj.cells (rowA (foP (upd Q q ⟨(Q q).x, y2, a'⟩)) 3) 44 (0, 0))] :: [(ub, Obj.cells (rowA (foD' (upd Q q ⟨(Q q).x, y2, a'⟩)) 3) 54 (0, 0))] :: fam (foF (upd Q q ⟨(Q q).x, y2, a'⟩)) 3) := by
                have e1 := foD_upd Q q ⟨(Q q).x, y2, a'⟩
                rw [← HK.out.2.2.1] at e1
                rw [foP_same Q q ⟨(Q q).x, y2, a'⟩ rfl, ← e1]
                exact hP
              have hpo := fo_pots (Q' := upd Q q ⟨(Q q).x, y2, a'⟩) HPU.out.2.2 HPK.out (fun j hj => by rw [upd_ne Q _ hj]) (by rw [upd_same]; have := HK.out.2.1; show foPot a' ≤ _; omega)
              have HFN := Lib.hid (And.intro hbd (And.intro hpo hfin))
              clear hbd hpo hfin hcn
              have HI2 := Lib.hid (HIV.out (Q q).x y2)
              have hok3 : foOkN Q ≤ 3 := by unfold foOkN foOne; split <;> split <;> split <;> omega
              have hst3 : foStN Q ≤ 3 := by unfold foStN foTwo; split <;> split <;> split <;> omega
              cases dn
              case false =>
                have ha : ¬ 6 ≤ a' := by have := HK.out.2.2.1; simpa using this
                have o1 : foOne a' = 0 := by unfold foOne; rw [if_neg (by omega)]
                have o2 : foTwo a' = 0 := by unfold foTwo; rw [if_neg (by omega)]
                have p1 : foOkN (upd Q q ⟨(Q q).x, y2, a'⟩) = foOkN Q := by rw [HCN.out.1]; show _ + foOne a' = _; rw [o1, Nat.add_zero]
                have p2 : foStN (upd Q q ⟨(Q q).x, y2, a'⟩) = foStN Q := by rw [HCN.out.2]; show _ + foTwo a' = _; rw [o2, Nat.add_zero]
                have P12 := Lib.hid (And.intro p1 p2)
                clear ha o1 o2 p1 p2
                go_wp2_with fail
                go_roundw
                case rel => exact ⟨i + 1, m2, ph', _, by go_num, by rw [P12.out.1], by rw [P12.out.2], by omega, k1, ⟨HFN.out.1, HI2.out, HFN.out.2.1⟩, HFN.out.2.2⟩
                case measure => simp [intOf]; omega
              case true =>
                rcases HK.out.2.2.2 rfl with ⟨rfl, rfl⟩ | ⟨rfl, ha⟩
                · have p1 : foOkN (upd Q q ⟨(Q q).x, y2, 6⟩) = foOkN Q + 1 := HCN.out.1
                  have p2 : foStN (upd Q q ⟨(Q q).x, y2, 6⟩) = foStN Q := HCN.out.2
                  have P12 := Lib.hid (And.intro p1 p2)
                  clear p1 p2
                  go_wp2_with fail
                  go_roundw
                  case rel => exact ⟨i + 1, m2, ph', _, by go_num, by rw [P12.out.1]; go_num, by rw [P12.out.2], by omega, k1, ⟨HFN.out.1, HI2.out, HFN.out.2.1⟩, HFN.out.2.2⟩
                  case measure => simp [intOf]; omega
                · have o1 : foOne a' = 0 := by unfold foOne; rw [if_neg (by omega)]
                  have o2 : foTwo a' = 1 := by unfold foTwo; rw [if_pos ha]
                  have p1 : foOkN (upd Q q ⟨(Q q).x, y2, a'⟩) = foOkN Q := by rw [HCN.out.1]; show _ + foOne a' = _; rw [o1, Nat.add_zero]
                  have p2 : foStN (upd Q q ⟨(Q q).x, y2, a'⟩) = foStN Q + 1 := by rw [HCN.out.2]; show _ + foTwo a' = _; rw [o2]
                  have P12 := Lib.hid (And.intro p1 p2)
                  clear ha o1 o2 p1 p2
                  go_wp2_with fail
                  go_roundw
                  case rel => exact ⟨i + 1, m2, ph', _, by go_num, by rw [P12.out.1], by rw [P12.out.2]; go_num, by omega, k1, ⟨HFN.out.1, HI2.out, HFN.out.2.1⟩, HFN.out.2.2⟩
                  case measure => simp [intOf]; omega
      · have hie : i = xs.length + 30 := by omega
        have hv : ∀ j, j < 3 → foPot (Q j).a = 0 := fun j hj => by
          have h1 := HPU.out.2.2 j hj
          have h2 := vis_30 xs.length hj
          rw [hie, show xs.length + 30 - xs.length = 30 by omega] at h1
          omega
        obtain ⟨rfl, h1, h2⟩ := fo_end hph (HPU.out.1 0) (HPU.out.1 1) (HPU.out.1 2) HPU.out.2.1 (hv 0 (by decide)) (hv 1 (by decide)) (hv 2 (by decide))
        rw [show foOkN Q = 1 from h1, show foStN Q = 2 from h2]
        have hge : ¬ ((i : Int) < (xs.length : Int) + 30) := by omega
        clear hv h1 h2 hlt
        (try simp only [List.set_cons_zero, List.set_cons_succ, List.cons_append, List.nil_append, List.eraseIdx_cons_succ, List.eraseIdx_cons_zero] at hP); have b0 : _ = some (Value.int .i64 64) := hP.cell 1 0 rfl rfl 0; have b1 : _ = some (Value.int .i64 3) := hP.cell 1 0 rfl rfl 1; have b2 : _ = some (Value.int .i64 1) := hP.cell 1 0 rfl rfl 2; have bz := hP.lt 1 0 rfl rfl
        go_wp2_with fail
        refine (layout_Of _ _ _ _).mono ?_; rw [show ofT 64 3 1 = 1 by decide, show ofS 64 3 1 = 3 by decide, show ofE 64 3 1 = 0 by decide]; rintro e w2 ⟨rfl, hbb⟩; have hO' := hP.via hbb; clear hP; have hP := hO'; clear hO'
        clear b0 b1 b2 bz
        go_upto_region 26 with fail
        have hO' := hP.alloc (.cells #[.int .i64 1, .int .i64 3] 27); clear hP; have hP := hO'; clear hO'
        generalize w2.heap.size = lb at hP ⊢
        generalize w2.alloc _ = w3 at hP ⊢
        have l0 : _ = some (Value.int .i64 1) := hP.cell 0 0 rfl rfl 0; have l1 : _ = some (Value.int .i64 3) := hP.cell 0 0 rfl rfl 1
        have h0 : _ = some (Value.int .i64 0) := hP.cell 3 0 rfl rfl 0
        go_wp2_with fail
        refine (stack_Free 1 1 3 hP rfl (by decide) (by decide) (by decide) (by decide) (by decide) fo_ok).mono ?_; rw [show foW 2 = foD from rfl, fo_free]; rintro e w16 ⟨sv, cur, m16, rfl, hr, hO'⟩; clear hP; have hP := hO'; clear hO'
        have HRO := Lib.hid hr
        clear hr l0 l1 h0
        go_wp2_with fail
        have hO' := hP.alloc (.cells (intArr [0, 1, 2]) 3); clear hP; have hP := hO'; clear hO'
        have R1 := Reads.row HRO.out hP 1 rfl (by decide)
        have R2 := Reads.ints (xs := [0, 1, 2]) (cap := 3) hP 0 0 rfl rfl (by decide)
        refine (ref01_Same _ _ _ _ _ R1 R2).mono ?_; rw [show sameB [0, 1, 2] [0, 1, 2] = true by decide]; rintro e w19 ⟨rfl, hb2⟩; have hO' := hP.via hb2; clear hP; have hP := hO'; clear hO'
        clear R1 R2
        go_wp2_with (go_at_call 11; refine (law15_live _).mono ?_; rintro e w20 ⟨rfl, hb⟩; have hO' := hP.via hb; clear hP; have hP := hO'; clear hO')
        go_ret
        exact ⟨rfl, by rw [HC.out]; exact hP.below⟩
theorem FreeOnce_walk (v : Value) (xs : List (List Value)) (W : World) (hs : SArg W [true] v xs) : Calls Try.prog 4 #[v] W fun e w' => e = .returned (.bool true) ∧ Below W.heap.size W w' := by
  by_cases hn : 60 < xs.length
  · exact FreeOnce_far v xs W hs hn
  · exact FreeOnce_go v xs W hs (by omega)
end Go.Proofs.Ytkkeoadnepedjaa
