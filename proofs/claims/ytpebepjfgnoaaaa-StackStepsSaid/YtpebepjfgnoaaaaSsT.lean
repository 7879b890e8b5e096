/- The stack law StackSteps. -/
import Derived.RegionTactic
import Derived.BigRegion
import Derived.Deep.RegionHeld3
import Derived.Outline
import Derived.LoopTactic
import Derived.Deep.DeepCutAuto
import Derived.Test.YtpebepjfgnoaaaaSsT0
import Derived.Test.YtpebepjfgnoaaaaSsW
import Derived.Test.YtpebepjfgnoaaaaSsF
import Derived.Test.YtpebepjfgnoaaaaStL
import Derived.Test.YtpebepjfgnoaaaaFlat
import Derived.Test.YtpebepjfgnoaaaaArr
namespace Go.Proofs.Ytpebepjfgnoaaaa
set_option linter.unusedVariables false
set_option linter.unusedSimpArgs false
open Go.RowKit
set_option maxRecDepth 100000 in
set_option maxHeartbeats 8000000 in
theorem StackSteps_go (a s t : Int) (v : Value) (xs : List (List Value)) (at' k0 k1 : Int) (W : World) (lo : -9223372036854775808 ≤ k1) (hi : k1 ≤ 9223372036854775807) (hs : SArg W [true, false, true] v xs) (hn : xs.length ≤ 100) (hc : cfgOk a s t = true) : Calls Try.prog 5 #[.agg #[.int .i64 a, .int .i64 s, .int .i64 t, v, .int .i64 at', .int .i64 k0, .int .i64 k1]] W fun e w' => e = .returned (.bool true) ∧ Below W.heap.size W w' := by
  obtain ⟨pa, cap, rfl, hl, hx⟩ := hs.form
  have hn' : ¬ (100 : Int) < (xs.length : Int) := by omega
  have CK := Lib.hid hc
  have HX := Lib.hid hx
  obtain ⟨-, -, -, s1, s4, t1, t4⟩ := cfgOk_of hc
  have HLEN := Lib.hid (show ((initW t s).length : Int) = 4 + t + 3 * s by rw [initW_len, lWords_ok t1]; omega)
  have HOK := Lib.hid (initW_ok t s t1 s4)
  have HI := Lib.hid (show I64 k1 from ⟨lo, hi⟩)
  clear hx hs hc lo hi
  go_enter Try.func5, Try.ntmps5
  go_upto_region 1 with fail
  have hO := (Owns.nil W).more (Obj.cells #[.int .i64 a, .int .i64 s, .int .i64 t, .slice pa xs.length cap, .int .i64 at', .int .i64 k0, .int .i64 k1] 38)
  generalize W.alloc (Obj.cells #[.int .i64 a, .int .i64 s, .int .i64 t, .slice pa xs.length cap, .int .i64 at', .int .i64 k0, .int .i64 k1] 38) = w0 at hO ⊢
  have v0 : _ = some (Value.int .i64 a) := hO.cell 0 0 rfl rfl 0
  have v1 : _ = some (Value.int .i64 s) := hO.cell 0 0 rfl rfl 1
  have v2 : _ = some (Value.int .i64 t) := hO.cell 0 0 rfl rfl 2
  have v3 : _ = some (Value.slice pa xs.length cap) := hO.cell 0 0 rfl rfl 3
  have v4 : _ = some (Value.int .i64 at') := hO.cell 0 0 rfl rfl 4
  have v5 : _ = some (Value.int .i64 k0) := hO.cell 0 0 rfl rfl 5
  have v6 : _ = some (Value.int .i64 k1) := hO.cell 0 0 rfl rfl 6
  have hz := hO.lt 0 0 rfl rfl
  go_cut [3, 4, 5, 6] (fun s3 s4 s5 s6 wx => ∃ cb sp, s3 = .pointer (some ⟨cb, 0, none⟩) ∧ s4 = .slice pa xs.length cap ∧ s5 = .int .i64 at' ∧ s6 = .pointer (some ⟨sp, 0, none⟩) ∧ Owns W.heap.size W wx [[(cb, Obj.cells #[Value.int .i64 a, .int .i64 s, .int .i64 t] 23 (0, 0))], [(sp, Obj.cells #[Value.int .i64 k0, .int .i64 k1] 36 (0, 0))]])
  case first =>
    go_region
    all_goals
      go_wp2_with fail
      go_meet
      refine ⟨_, _, rfl, rfl, rfl, rfl, ?_⟩
      first
        | (have h := ((hO.drop 0).alloc (.cells #[Value.int .i64 a, .int .i64 s, .int .i64 t] 23)).alloc (.cells #[Value.int .i64 k0, .int .i64 k1] 36); simp only [World.size_alloc] at h; exact h.swap.drew)
        | (have h := ((hO.drop 0).alloc (.cells #[Value.int .i64 k0, .int .i64 k1] 36)).alloc (.cells #[Value.int .i64 a, .int .i64 s, .int .i64 t] 23); simp only [World.size_alloc] at h; exact h.drew)
  clear hO v0 v1 v2 v3 v4 v5 v6 hz
  obtain ⟨cb, sp, rfl, rfl, rfl, rfl, hO⟩ := hcut
  have a0 : _ = some (Value.int .i64 a) := hO.cell 0 0 rfl rfl 0
  have a1 : _ = some (Value.int .i64 s) := hO.cell 0 0 rfl rfl 1
  have a2 : _ = some (Value.int .i64 t) := hO.cell 0 0 rfl rfl 2
  go_wp2_with fail
  refine (law10_start a s t hO CK.out).mono ?_; rintro e w1 ⟨p, bw, bb, m, rfl, hO'⟩
  clear hO a0 a1 a2 hn'
  have hO := hO'.more (.cells #[.int .i64 t, .int .i64 s] 25)
  clear hO'
  (try simp only [List.set_cons_zero, List.set_cons_succ, List.cons_append, List.nil_append, List.eraseIdx_cons_succ, List.eraseIdx_cons_zero] at hO)
  go_upto_region 7 with fail
  generalize w1.alloc (.cells #[.int .i64 t, .int .i64 s] 25) = w3 at hO ⊢
  generalize w1.heap.size = lb at hO ⊢
  have a0 : _ = some (Value.int .i64 a) := hO.cell 1 0 rfl rfl 0
  have a1 : _ = some (Value.int .i64 s) := hO.cell 1 0 rfl rfl 1
  have a2 : _ = some (Value.int .i64 t) := hO.cell 1 0 rfl rfl 2
  go_wp2_with fail
  refine (ref10_Start a s t CK.out hO).mono ?_; rintro e w4 ⟨kp, kw, bv, rfl, hO'⟩
  clear hO a0 a1 a2
  have hO := hO'.swap
  clear hO'
  go_upto_region 8 with fail
  have hO := hO.drew
  have a0 : _ = some (Value.int .i64 a) := hO.cell 2 0 rfl rfl 0
  have a1 : _ = some (Value.int .i64 s) := hO.cell 2 0 rfl rfl 1
  have a2 : _ = some (Value.int .i64 t) := hO.cell 2 0 rfl rfl 2
  have b0 : _ = some (Value.int .i64 t) := hO.cell 4 0 rfl rfl 0
  have b1 : _ = some (Value.int .i64 s) := hO.cell 4 0 rfl rfl 1
  first
    | go_loud (go_region_held3 (fun w => w.cell? ⟨cb, 0, none⟩ = some (.int .i64 a) ∧ w.cell? ⟨cb, 1, none⟩ = some (.int .i64 s) ∧ w.cell? ⟨cb, 2, none⟩ = some (.int .i64 t) ∧ w.cell? ⟨lb, 0, none⟩ = some (.int .i64 t) ∧ w.cell? ⟨lb, 1, none⟩ = some (.int .i64 s)) (first | (with_reducible exact ⟨a0, a1, a2, b0, b1⟩) | exact ⟨cell_alloc _ a0, cell_alloc _ a1, cell_alloc _ a2, cell_alloc _ b0, cell_alloc _ b1⟩) ((go_at_call 23; refine (law10_begin_app a s t _ _ hO).mono ?_; rintro e w7 ⟨pb, px, py, rfl, hb, hO'⟩; have hO := hO'; have a0 := cell_below hb a0; have a1 := cell_below hb a1; have a2 := cell_below hb a2; have b0 := cell_below hb b0; have b1 := cell_below hb b1)))
    | fail "four"
  all_goals
    obtain ⟨Q, hQ, hO⟩ := pack_four hO
    generalize World.alloc w7 _ = w8 at hO ⊢
    generalize w7.heap.size = ab at hO ⊢
    have HQ0 := Lib.hid hQ
    clear hQ a0 a1 a2 b0 b1
    go_wp2_with fail
    go_loopw [11] (fun i wr => ∃ (k : Nat) (mm nn : Int) (ws : List Int) (Q : Nat → PrM), i = .int .i64 k ∧ k ≤ xs.length ∧ (ws.length : Int) = 4 + t + 3 * s ∧ WOk ws ∧ (∀ j, PrOk (Q j)) ∧ Owns W.heap.size W wr (memG p bw bb ws (List.replicate a.toNat 0) mm :: kG kp kw ws bv nn :: [(cb, Obj.cells #[Value.int .i64 a, .int .i64 s, .int .i64 t] 23 (0, 0))] :: [(sp, Obj.cells #[Value.int .i64 k0, .int .i64 k1] 36 (0, 0))] :: [(lb, Obj.cells #[Value.int .i64 t, .int .i64 s] 25 (0, 0))] :: [(ab, Obj.cells (rowA (prPt Q) 4) 44 (0, 0))] :: fam (prF a s t Q) 4)) (fun i _ => xs.length - (intOf i).toNat)
    case atStart => exact ⟨0, _, _, _, Q, rfl, by omega, HLEN.out, HOK.out, HQ0.out, hO⟩
    case round =>
      clear hO HQ0
      obtain ⟨k, mm, nn, ws, Q, rfl, hk, hws, hok, hQ, hO⟩ := hrel
      have HWS := Lib.hid (And.intro hws (And.intro hok hQ))
      have hwl : ws.length ≤ 4096 := by omega
      clear hws hok hQ
      by_cases hlt : k < xs.length
      · obtain ⟨ib, io, rfl, hib, hI, hB⟩ := HX.out k hlt
        have i0 := (hI 0 rfl).1
        have i1 := hB 1 rfl
        have i2 := (hI 2 rfl).1
        have p0 := (hI 0 rfl).2
        simp only [List.length_cons, List.length_nil, Nat.add_zero, Nat.zero_add] at i0 i1 i2
        obtain ⟨pk, hpk⟩ : ∃ d, getI xs k 0 = d := ⟨_, rfl⟩
        obtain ⟨pu, hpu⟩ : ∃ d, getB xs k 1 = d := ⟨_, rfl⟩
        obtain ⟨sl, hsl⟩ : ∃ d, getI xs k 2 = d := ⟨_, rfl⟩
        rw [hpk] at i0 p0
        rw [hpu] at i1
        rw [hsl] at i2
        obtain ⟨p0a, p0b⟩ := p0
        have IC := Lib.hid (show ∀ wq, Below W.heap.size W wq → wq.cell? ⟨ib, io + k * 3, none⟩ = some (.int .i64 pk) ∧ wq.cell? ⟨ib, io + k * 3 + 1, none⟩ = some (.bool pu) ∧ wq.cell? ⟨ib, io + k * 3 + 2, none⟩ = some (.int .i64 sl) from
          fun wq h => ⟨(h.cell (p := ⟨ib, io + k * 3, none⟩) hib).trans i0, (h.cell (p := ⟨ib, io + k * 3 + 1, none⟩) hib).trans i1, (h.cell (p := ⟨ib, io + k * 3 + 2, none⟩) hib).trans i2⟩)
        clear hI hB hpk hpu hsl i0 i1 i2 hib
        have hlti : (k : Int) < (xs.length : Int) := by omega
        have hk0 : (0 : Int) ≤ (k : Int) := by omega
        go_upto_if 65 with (fail)
        go_cut [11] (fun s11 wx => s11 = .int .i64 k ∧ ∃ (ws2 : List Int) (mm2 nn2 : Int), (ws2.length : Int) = 4 + t + 3 * s ∧ WOk ws2 ∧ Owns W.heap.size W wx (memG p bw bb ws2 (List.replicate a.toNat 0) mm2 :: kG kp kw ws2 bv nn2 :: [(cb, Obj.cells #[Value.int .i64 a, .int .i64 s, .int .i64 t] 23 (0, 0))] :: [(sp, Obj.cells #[Value.int .i64 k0, .int .i64 k1] 36 (0, 0))] :: [(lb, Obj.cells #[Value.int .i64 t, .int .i64 s] 25 (0, 0))] :: [(ab, Obj.cells (rowA (prPt Q) 4) 44 (0, 0))] :: fam (prF a s t Q) 4))
        case first =>
          by_cases hka : (k : Int) = at'
          · have hb : ((k : Int) == at') = true := by simpa using hka
            have f0 : _ = some (Value.int .i64 k0) := hO.cell 3 0 rfl rfl 0
            have f1 : _ = some (Value.int .i64 k1) := hO.cell 3 0 rfl rfl 1
            clear hka
            go_wp2_with fail
            refine (plain_Store 0 _ _ hO rfl hwl).mono ?_; rintro e w9 ⟨rfl, hO'⟩; clear hO f0 f1; have hO := hO'; clear hO'; (try simp only [List.set_cons_zero, List.set_cons_succ, List.cons_append, List.nil_append, List.eraseIdx_cons_succ, List.eraseIdx_cons_zero] at hO)
            have f0 : _ = some (Value.int .i64 k0) := hO.cell 3 0 rfl rfl 0
            have f1 : _ = some (Value.int .i64 k1) := hO.cell 3 0 rfl rfl 1
            go_wp2_with fail
            refine (ref05_Store 1 _ _ hO rfl hwl).mono ?_; rintro e w10 ⟨rfl, hO'⟩; clear hO f0 f1; have hO := hO'; clear hO'; (try simp only [List.set_cons_zero, List.set_cons_succ, List.cons_append, List.nil_append, List.eraseIdx_cons_succ, List.eraseIdx_cons_zero] at hO)
            go_wp2_with fail
            go_meet
            exact ⟨rfl, _, _, _, by rw [wPut_len]; exact HWS.out.1, wPut_okI HWS.out.2.1 _ HI.out, hO⟩
          · have hb : ((k : Int) == at') = false := by simpa using hka
            clear hka
            go_wp2_with fail
            go_meet
            exact ⟨rfl, _, _, _, HWS.out.1, HWS.out.2.1, hO⟩
        clear hO
        obtain ⟨rfl, ws2, mm2, nn2, hws2, hok2, hO⟩ := hcut
        have hwl2 : ws2.length ≤ 4096 := by omega
        have j0 := (IC.out _ hO.below).1
        by_cases hq0 : 0 ≤ pk.tmod 4
        rotate_left
        · have hq1 : decide (pk.tmod 4 < 0) = true := by rw [decide_eq_true_iff]; omega
          clear hq0
          go_wp2_with (go_at_call 19; refine (law10_live _).mono ?_; rintro e w2 ⟨rfl, hb⟩; have hO := hO.via hb)
          go_ret
          exact ⟨rfl, hO.below⟩
        obtain ⟨q, hq⟩ : ∃ q : Nat, pk.tmod 4 = q := ⟨(pk.tmod 4).toNat, by omega⟩
        have hq4 : q < 4 := by have := Int.tmod_lt_of_pos pk (show (0 : Int) < 4 by decide); omega
        have hq1 : decide ((q : Int) < 0) = false := by rw [decide_eq_false_iff_not]; omega
        have hq2 : (0 : Int) ≤ (q : Int) := by omega
        have hq3 : (q : Int) < 4 := by omega
        clear hq0
        have g : _ = some (Value.pointer (some ⟨(Q q).b, 0, none⟩)) := rowA_cell hO 5 0 rfl rfl q hq4
        go_wp2_with fail
        refine (pair_stepB hq4 hO CK.out hwl2 hok2 HWS.out.2.2).mono ?_; rintro e w12 ⟨r1, e1, d1, ws3, Q3, mm3, nn3, rfl, hl3, hok3, hQ3, hO'⟩
        clear hO g HWS j0
        have hO := hO'
        clear hO'
        have hws3 : (ws3.length : Int) = 4 + t + 3 * s := by rw [hl3]; exact hws2
        have hwl3 : ws3.length ≤ 4096 := by omega
        have H3 := Lib.hid (And.intro hws3 (And.intro hok3 hQ3))
        clear hws2 hok2 hl3 hws3 hok3 hQ3 hwl2
        go_wp2_with fail
        refine (law10_same hO hwl3).mono ?_; rintro e w13 ⟨rfl, mm4, hO'⟩
        clear hO
        have hO := hO'
        clear hO'
        cases d1
        case false =>
          go_wp2_with fail
          go_roundw
          case rel => exact ⟨k + 1, _, _, ws3, Q3, by go_num, by omega, H3.out.1, H3.out.2.1, H3.out.2.2, hO⟩
          case measure => simp [intOf]; omega
        case true =>
          have g : _ = some (Value.pointer (some ⟨(Q3 q).b, 0, none⟩)) := rowA_cell hO 5 0 rfl rfl q hq4
          go_wp2_with fail
          refine (pair_stepB hq4 hO CK.out hwl3 H3.out.2.1 H3.out.2.2).mono ?_; rintro e w14 ⟨r2, e2, d2, ws4, Q4, mm5, nn5, rfl, hl4, hok4, hQ4, hO'⟩
          clear hO g
          have hO := hO'
          clear hO'
          have H4 := Lib.hid (And.intro (show (ws4.length : Int) = 4 + t + 3 * s by rw [hl4]; exact H3.out.1) (And.intro hok4 hQ4))
          clear hok4 hQ4 hl4 hwl3
          go_upto_region 25 with fail
          have hP := hO.drew
          clear hO
          have HK1 := Lib.hid (show ∀ (wq : World) (g1 g2 g3 : Grp) (R : List Grp), Owns W.heap.size W wq (g1 :: g2 :: [(cb, Obj.cells #[Value.int .i64 a, .int .i64 s, .int .i64 t] 23 (0, 0))] :: g3 :: [(lb, Obj.cells #[Value.int .i64 t, .int .i64 s] 25 (0, 0))] :: R) → wq.cell? ⟨ib, io + k * 3 + 1, none⟩ = some (.bool pu) ∧ wq.cell? ⟨ib, io + k * 3 + 2, none⟩ = some (.int .i64 sl) ∧ wq.cell? ⟨cb, 0, none⟩ = some (.int .i64 a) ∧ wq.cell? ⟨cb, 1, none⟩ = some (.int .i64 s) ∧ wq.cell? ⟨cb, 2, none⟩ = some (.int .i64 t) ∧ wq.cell? ⟨lb, 0, none⟩ = some (.int .i64 t) ∧ wq.cell? ⟨lb, 1, none⟩ = some (.int .i64 s) from
            fun wq g1 g2 g3 R h => ⟨(IC.out _ h.below).2.1, (IC.out _ h.below).2.2, h.cell 2 0 rfl rfl 0, h.cell 2 0 rfl rfl 1, h.cell 2 0 rfl rfl 2, h.cell 4 0 rfl rfl 0, h.cell 4 0 rfl rfl 1⟩)
          first
            | go_loud (go_region_held3 (fun wq => wq.cell? ⟨ib, io + k * 3 + 1, none⟩ = some (.bool pu) ∧ wq.cell? ⟨ib, io + k * 3 + 2, none⟩ = some (.int .i64 sl) ∧ wq.cell? ⟨cb, 0, none⟩ = some (.int .i64 a) ∧ wq.cell? ⟨cb, 1, none⟩ = some (.int .i64 s) ∧ wq.cell? ⟨cb, 2, none⟩ = some (.int .i64 t) ∧ wq.cell? ⟨lb, 0, none⟩ = some (.int .i64 t) ∧ wq.cell? ⟨lb, 1, none⟩ = some (.int .i64 s)) (first | (with_reducible exact HK1.out _ _ _ _ _ hP) | (with_reducible exact HK1.out _ _ _ _ _ hP.tail) | exact HK1.out _ _ _ _ _ (rowA_put hP 6 rfl q _).tail) ((go_at_call 23; refine (law10_begin a s t _ _ hP).mono ?_; rintro e w15 ⟨pb, px, py, rfl, hO'⟩; clear hP; have hP := hO'; clear hO'; have az : _ = some (Value.pointer (some ⟨(Q4 q).b, 0, none⟩)) := rowA_cell hP 6 0 rfl rfl q hq4; have ay := hP.lt 6 0 rfl rfl; have af := blk_free (hP.get 6 0 rfl rfl) q)))
            | fail "begin"
          all_goals
            have hO2 := (rowA_put hP 6 rfl q (.pointer (some ⟨pb, 0, none⟩)))
            simp only [List.set_cons_succ, List.set_cons_zero] at hO2
            have hO3 := hO2.place (q + 6)
            simp only [List.set_cons_succ] at hO3
            rw [fam_set, prF_upd, show upd (prPt Q4) q (.pointer (some ⟨pb, 0, none⟩)) = prPt (upd Q4 q (prNew pu pb px py sl)) from prPt_upd Q4 q (prNew pu pb px py sl)] at hO3
            clear hP hO2 az ay af
            generalize World.setCell w15 _ _ = w17 at hO3 ⊢
            go_wp2_with fail
            go_roundw
            case rel => exact ⟨k + 1, _, _, ws4, _, by go_num, by omega, H4.out.1, H4.out.2.1, upd_all H4.out.2.2 q (prNew_ok _ _ _ _ _), hO3⟩
            case measure => simp [intOf]; omega
      · have hge : ¬ (k : Int) < (xs.length : Int) := by omega
        have hfl := Lib.hid (show (freeOf t s ws).length ≤ 1000000 by have := freeL_len t s ws s.toNat (dUnTop (wAt ws (lOnce t 1))); unfold freeOf; omega)
        clear hlt
        go_upto_region 26 with fail
        have hP := hO.drew
        clear hO hge
        have HK := Lib.hid (show ∀ (wq : World) (g1 g2 g3 : Grp) (R : List Grp), Owns W.heap.size W wq (g1 :: g2 :: [(cb, Obj.cells #[Value.int .i64 a, .int .i64 s, .int .i64 t] 23 (0, 0))] :: g3 :: [(lb, Obj.cells #[Value.int .i64 t, .int .i64 s] 25 (0, 0))] :: R) → wq.cell? ⟨cb, 0, none⟩ = some (.int .i64 a) ∧ wq.cell? ⟨cb, 1, none⟩ = some (.int .i64 s) ∧ wq.cell? ⟨cb, 2, none⟩ = some (.int .i64 t) ∧ wq.cell? ⟨lb, 0, none⟩ = some (.int .i64 t) ∧ wq.cell? ⟨lb, 1, none⟩ = some (.int .i64 s) from
          fun wq g1 g2 g3 R h => ⟨h.cell 2 0 rfl rfl 0, h.cell 2 0 rfl rfl 1, h.cell 2 0 rfl rfl 2, h.cell 4 0 rfl rfl 0, h.cell 4 0 rfl rfl 1⟩)
        first
          | go_loud (go_region_held3 (fun w => w.cell? ⟨cb, 0, none⟩ = some (.int .i64 a) ∧ w.cell? ⟨cb, 1, none⟩ = some (.int .i64 s) ∧ w.cell? ⟨cb, 2, none⟩ = some (.int .i64 t) ∧ w.cell? ⟨lb, 0, none⟩ = some (.int .i64 t) ∧ w.cell? ⟨lb, 1, none⟩ = some (.int .i64 s)) (first | (with_reducible exact HK.out _ _ _ _ _ hP) | (with_reducible exact HK.out _ _ _ _ _ hP.tail) | (with_reducible exact HK.out _ _ _ _ _ hP.tail.tail)) (first | (go_at_call 29; refine (stack_Free 0 t s hP rfl hwl t1 t4 s1 s4 HWS.out.2.1).mono ?_; rintro e w7 ⟨f1, cur1, m1, rfl, hr1, hO'⟩; clear hP; have hP := hO'; clear hO'; simp only [List.set_cons_zero] at hP; have HR1 := Lib.hid hr1; clear hr1) | (go_at_call 30; refine (ref10_Free 2 a s t hP rfl hwl CK.out HWS.out.1 HWS.out.2.1).mono ?_; rintro e w8 ⟨f2, cur2, rfl, hr2, hO'⟩; clear hP; have hP := hO'; clear hO'; have HR2 := Lib.hid hr2; clear hr2) | (go_at_call 28; refine (ref01_Same _ _ _ _ _ (Reads.row HR1.out hP 1 rfl hfl.out) (Reads.row HR2.out hP 0 rfl hfl.out)).mono ?_; rw [sameB_self]; rintro e w9 ⟨rfl, hb⟩; have hO' := hP.via hb; clear hP; have hP := hO'; clear hO') | (go_at_call 19; refine (law10_live _).mono ?_; rintro e w10 ⟨rfl, hb⟩; have hO' := hP.via hb; clear hP; have hP := hO'; clear hO')))
          | fail "last"
        all_goals
          go_wp2_with fail
          go_ret
          exact ⟨rfl, hP.below⟩
theorem StackSteps_walk (a s t : Int) (v : Value) (xs : List (List Value)) (at' k0 k1 : Int) (W : World) (lo : -9223372036854775808 ≤ k1) (hi : k1 ≤ 9223372036854775807) (hs : SArg W [true, false, true] v xs) : Calls Try.prog 5 #[.agg #[.int .i64 a, .int .i64 s, .int .i64 t, v, .int .i64 at', .int .i64 k0, .int .i64 k1]] W fun e w' => e = .returned (.bool true) ∧ Below W.heap.size W w' := by
  by_cases hn : xs.length ≤ 100
  · rcases bool_cases (b := cfgOk a s t) with hc | hc
    · exact StackSteps_go a s t v xs at' k0 k1 W lo hi hs hn hc
    · exact StackSteps_no a s t v xs at' k0 k1 W hs hn hc
  · exact StackSteps_far a s t v xs at' k0 k1 W hs hn
end Go.Proofs.Ytpebepjfgnoaaaa
