/- The free law FreeSteps. -/
import Derived.RegionTactic
import Derived.BigRegion
import Derived.Deep.RegionHeld3
import Derived.Outline
import Derived.LoopTactic
import Derived.Deep.DeepCutAuto
import Derived.Test.YtpebepjfgnoaaaaGreatFsT1
import Derived.Test.YtpebepjfgnoaaaaGreatFsT0
import Derived.Test.YtpebepjfgnoaaaaGreatFlat
import Derived.Test.YtpebepjfgnoaaaaGreatArr
namespace Go.Proofs.YtpebepjfgnoaaaaGreat
set_option linter.unusedVariables false
set_option linter.unusedSimpArgs false
open Go.RowKit
set_option maxRecDepth 100000 in
set_option maxHeartbeats 8000000 in
theorem FreeSteps_go (a s t h1 h2 : Int) (v : Value) (xs : List (List Value)) (W : World) (hs : SArg W [false, true, true, true] v xs) (hn : xs.length ≤ 60) (hc : cfgOk a s t = true) (lo1 : -9223372036854775808 ≤ h1) (hi1 : h1 ≤ 9223372036854775807) (lo2 : -9223372036854775808 ≤ h2) (hi2 : h2 ≤ 9223372036854775807) : Calls Tryz.prog 3 #[.agg #[.int .i64 a, .int .i64 s, .int .i64 t, .int .i64 h1, .int .i64 h2, v]] W fun e w' => e = .returned (.bool true) ∧ Below W.heap.size W w' := by
  obtain ⟨pa, cap, rfl, hl, hx⟩ := hs.form
  have hn' : ¬ (60 : Int) < (xs.length : Int) := by omega
  have CK := Lib.hid hc
  have HX := Lib.hid hx
  obtain ⟨-, -, -, s1, s4, t1, t4⟩ := cfgOk_of hc
  have HLEN := Lib.hid (show ((initW t s).length : Int) = 4 + t + 3 * s by rw [initW_len, lWords_ok t1]; omega)
  have HOK := Lib.hid (initW_ok t s t1 s4)
  have HA := Lib.hid (show alNx a s t = 1 by unfold alNx; rw [if_pos hc])
  have HLO := Lib.hid (show ∀ j, -9223372036854775808 ≤ hh2 h1 h2 j ∧ hh2 h1 h2 j ≤ 9223372036854775807 by intro j; unfold hh2; split <;> exact ⟨by assumption, by assumption⟩)
  clear hx hs hc
  go_enter Tryz.func3, Tryz.ntmps3
  go_upto_region 1 with fail
  have hO := (Owns.nil W).more (Obj.cells #[.int .i64 a, .int .i64 s, .int .i64 t, .int .i64 h1, .int .i64 h2, .slice pa xs.length cap] 26)
  generalize W.alloc (Obj.cells #[.int .i64 a, .int .i64 s, .int .i64 t, .int .i64 h1, .int .i64 h2, .slice pa xs.length cap] 26) = w0 at hO ⊢
  have v0 : _ = some (Value.int .i64 a) := hO.cell 0 0 rfl rfl 0
  have v1 : _ = some (Value.int .i64 s) := hO.cell 0 0 rfl rfl 1
  have v2 : _ = some (Value.int .i64 t) := hO.cell 0 0 rfl rfl 2
  have v3 : _ = some (Value.int .i64 h1) := hO.cell 0 0 rfl rfl 3
  have v4 : _ = some (Value.int .i64 h2) := hO.cell 0 0 rfl rfl 4
  have v5 : _ = some (Value.slice pa xs.length cap) := hO.cell 0 0 rfl rfl 5
  have hz := hO.lt 0 0 rfl rfl
  go_cut [3, 4, 5, 6] (fun s3 s4 s5 s6 wx => ∃ cb, s3 = .pointer (some ⟨cb, 0, none⟩) ∧ s4 = .int .i64 h1 ∧ s5 = .int .i64 h2 ∧ s6 = .slice pa xs.length cap ∧ Owns W.heap.size W wx [[(cb, Obj.cells #[Value.int .i64 a, .int .i64 s, .int .i64 t] 23 (0, 0))]])
  case first =>
    go_region
    all_goals
      go_wp2_with fail
      go_meet
      exact ⟨_, rfl, rfl, rfl, rfl, ((hO.drop 0).alloc (.cells #[Value.int .i64 a, .int .i64 s, .int .i64 t] 23)).drew⟩
  clear hO v0 v1 v2 v3 v4 v5 hz
  obtain ⟨cb, rfl, rfl, rfl, rfl, hO⟩ := hcut
  have a0 : _ = some (Value.int .i64 a) := hO.cell 0 0 rfl rfl 0
  have a1 : _ = some (Value.int .i64 s) := hO.cell 0 0 rfl rfl 1
  have a2 : _ = some (Value.int .i64 t) := hO.cell 0 0 rfl rfl 2
  go_wp2_with fail
  refine (law15_start a s t hO CK.out).mono ?_; rintro e w1 ⟨p, bw, bb, m, rfl, hO'⟩
  clear hO a0 a1 a2 hn'
  have hO := hO'
  clear hO'
  have a0 : _ = some (Value.int .i64 a) := hO.cell 1 0 rfl rfl 0
  have a1 : _ = some (Value.int .i64 s) := hO.cell 1 0 rfl rfl 1
  have a2 : _ = some (Value.int .i64 t) := hO.cell 1 0 rfl rfl 2
  go_wp2_with fail
  refine (ref10_Start a s t CK.out hO).mono ?_; rintro e w4 ⟨kp, kw, bv, rfl, hO'⟩
  clear hO a0 a1 a2
  have hO := hO'.swap
  clear hO'
  go_upto_region 8 with fail
  have hO := hO.drew
  have a0 : _ = some (Value.int .i64 a) := hO.cell 2 0 rfl rfl 0
  have a1 : _ = some (Value.int .i64 s) := hO.cell 2 0 rfl rfl 1
  have a2 : _ = some (Value.int .i64 t) := hO.cell 2 0 rfl rfl 2
  first
    | go_loud (go_region_held3 (fun w => w.cell? ⟨cb, 0, none⟩ = some (.int .i64 a) ∧ w.cell? ⟨cb, 1, none⟩ = some (.int .i64 s) ∧ w.cell? ⟨cb, 2, none⟩ = some (.int .i64 t)) (first | (with_reducible exact ⟨a0, a1, a2⟩) | exact ⟨cell_alloc _ a0, cell_alloc _ a1, cell_alloc _ a2⟩) ((go_at_call 8; (first | (with_reducible refine (free_New_app a s t h1 lo1 hi1 hO).mono ?_) | (with_reducible refine (free_New_app a s t h2 lo2 hi2 hO).mono ?_)); rw [HA.out]; rintro e w7 ⟨x, rfl, hb, hO'⟩; have hO := hO'; have a0 := cell_below hb a0; have a1 := cell_below hb a1; have a2 := cell_below hb a2)))
    | fail "machines"
  all_goals
    go_upto_region 9 with fail
    have hP := fs_row 33 hO
    clear hO
    generalize World.alloc w7 _ = w8 at hP ⊢
    generalize w7.heap.size = ab at hP ⊢
    have hO' := hP.drew; clear hP; have hP := hO'; clear hO'
    clear a0 a1 a2
    have a0 : _ = some (Value.int .i64 a) := hP.cell 5 0 rfl rfl 0
    have a1 : _ = some (Value.int .i64 s) := hP.cell 5 0 rfl rfl 1
    have a2 : _ = some (Value.int .i64 t) := hP.cell 5 0 rfl rfl 2
    first
      | go_loud (go_region_held3 (fun w => w.cell? ⟨cb, 0, none⟩ = some (.int .i64 a) ∧ w.cell? ⟨cb, 1, none⟩ = some (.int .i64 s) ∧ w.cell? ⟨cb, 2, none⟩ = some (.int .i64 t)) (first | (with_reducible exact ⟨a0, a1, a2⟩) | exact ⟨cell_alloc _ a0, cell_alloc _ a1, cell_alloc _ a2⟩) ((go_at_call 9; refine (ref15_New_app a s t _ CK.out hP).mono ?_; rintro e w9 ⟨y, rfl, hb, hO'⟩; clear hP; have hP := hO'; clear hO'; have a0 := cell_below hb a0; have a1 := cell_below hb a1; have a2 := cell_below hb a2)))
      | fail "refs"
    all_goals
      obtain ⟨Q, hQ, hO⟩ := fs_pack (T2 := 36) hP
      generalize World.alloc w9 _ = w10 at hO ⊢
      generalize w9.heap.size = db at hO ⊢
      have HQ0 := Lib.hid hQ
      clear hQ hP a0 a1 a2
      go_wp2_with fail
      go_loopw [11] (fun i wr => ∃ (k : Nat) (mm nn : Int) (ws : List Int) (Q : Nat → FsM), i = .int .i64 k ∧ k ≤ xs.length ∧ (ws.length : Int) = 4 + t + 3 * s ∧ WOk ws ∧ (∀ j, FsIn (frNewC a s t (hh2 h1 h2 j)) (Q j).v) ∧ Owns W.heap.size W wr (memG p bw bb ws (List.replicate a.toNat 0) mm :: kG kp kw ws bv nn :: [(cb, Obj.cells #[Value.int .i64 a, .int .i64 s, .int .i64 t] 23 (0, 0))] :: [(ab, Obj.cells (rowA (fsA Q) 2) 33 (0, 0))] :: [(db, Obj.cells (rowA (fsB Q) 2) 36 (0, 0))] :: [] :: fam (fsF a s t (hh2 h1 h2) Q) 2)) (fun i _ => xs.length - (intOf i).toNat)
      case atStart => exact ⟨0, _, _, _, Q, rfl, by omega, HLEN.out, HOK.out, HQ0.out, hO⟩
      case round =>
        clear hO HQ0
        obtain ⟨k, mm, nn, ws, Q, rfl, hk, hws, hok, hQ, hO⟩ := hrel
        have HWS := Lib.hid (And.intro hws (And.intro hok hQ))
        have hwl : ws.length ≤ 4096 := by omega
        clear hws hok hQ
        by_cases hlt : k < xs.length
        · obtain ⟨ib, io, rfl, hib, hI, hB⟩ := HX.out k hlt
          have i0 := hB 0 rfl
          have i1 := (hI 1 rfl).1
          have i2 := (hI 2 rfl).1
          have i3 := (hI 3 rfl).1
          obtain ⟨x0, x1⟩ := (hI 1 rfl).2
          have z3 := (hI 3 rfl).2
          simp only [List.length_cons, List.length_nil, Nat.add_zero, Nat.zero_add] at i0 i1 i2 i3
          obtain ⟨sb, hsb⟩ : ∃ d, getB xs k 0 = d := ⟨_, rfl⟩
          obtain ⟨th, hth⟩ : ∃ d, getI xs k 1 = d := ⟨_, rfl⟩
          obtain ⟨wi, hwi⟩ : ∃ d, getI xs k 2 = d := ⟨_, rfl⟩
          obtain ⟨wt, hwt⟩ : ∃ d, getI xs k 3 = d := ⟨_, rfl⟩
          rw [hsb] at i0
          rw [hth] at i1 x0 x1
          rw [hwi] at i2
          rw [hwt] at i3 z3
          have k0 : wr.cell? ⟨ib, io + k * 4, none⟩ = some (.bool sb) := (hO.below.cell (p := ⟨ib, io + k * 4, none⟩) hib).trans i0
          have k1 : wr.cell? ⟨ib, io + k * 4 + 1, none⟩ = some (.int .i64 th) := (hO.below.cell (p := ⟨ib, io + k * 4 + 1, none⟩) hib).trans i1
          have k2 : wr.cell? ⟨ib, io + k * 4 + 2, none⟩ = some (.int .i64 wi) := (hO.below.cell (p := ⟨ib, io + k * 4 + 2, none⟩) hib).trans i2
          have k3 : wr.cell? ⟨ib, io + k * 4 + 3, none⟩ = some (.int .i64 wt) := (hO.below.cell (p := ⟨ib, io + k * 4 + 3, none⟩) hib).trans i3
          have HZ3 := Lib.hid (show I64 wt from z3)
          clear hI hB hth hwi hwt hsb i0 i1 i2 i3 hib z3
          have hlti : (k : Int) < (xs.length : Int) := by omega
          have hk0 : (0 : Int) ≤ (k : Int) := by omega
          go_upto_region 14 with fail
          have hP := ((hO.alloc (.cells #[.bool sb, .int .i64 th, .int .i64 wi, .int .i64 wt] 40)).drop 6).mid
          clear hO k0 k1 k2 k3
          generalize wr.alloc _ = w11 at hP ⊢
          generalize wr.heap.size = ob at hP ⊢
          simp only [List.eraseIdx_cons_zero] at hP
          have o0 : w11.cell? ⟨ob, 0, none⟩ = some (.bool sb) := hP.cell 5 0 rfl rfl 0
          have o1 : w11.cell? ⟨ob, 1, none⟩ = some (.int .i64 th) := hP.cell 5 0 rfl rfl 1
          have o2 : w11.cell? ⟨ob, 2, none⟩ = some (.int .i64 wi) := hP.cell 5 0 rfl rfl 2
          have o3 : w11.cell? ⟨ob, 3, none⟩ = some (.int .i64 wt) := hP.cell 5 0 rfl rfl 3
          by_cases hq0 : 0 ≤ th.tmod 2
          rotate_left
          · have hq1 : th.tmod 2 < 0 := by omega
            have hO := hP
            clear hq0
            go_wp2_with (go_at_call 4; refine (law15_live _).mono ?_; rintro e w2 ⟨rfl, hb⟩; have hO := hO.via hb)
            go_ret
            exact ⟨rfl, hO.below⟩
          obtain ⟨q, hq⟩ : ∃ q : Nat, th.tmod 2 = q := ⟨(th.tmod 2).toNat, by omega⟩
          have hq2 : q < 2 := by have := Int.tmod_lt_of_pos th (show (0 : Int) < 2 by decide); omega
          clear hq0
          cases sb
          case false =>
            go_wp2_with fail
            refine (plain_Store 0 _ _ hP rfl hwl).mono ?_; rintro e w12 ⟨rfl, hO'⟩; clear hP; have hP := hO'; clear hO'; (try simp only [List.set_cons_zero, List.set_cons_succ, List.cons_append, List.nil_append, List.eraseIdx_cons_succ, List.eraseIdx_cons_zero] at hP)
            clear o0 o1 o2 o3
            have o2 : _ = some (Value.int .i64 wi) := hP.cell 5 0 rfl rfl 2
            have o3 : _ = some (Value.int .i64 wt) := hP.cell 5 0 rfl rfl 3
            go_wp2_with fail
            refine (ref05_Store 1 _ _ hP rfl hwl).mono ?_; rintro e w13 ⟨rfl, hO'⟩; clear hP; have hP := hO'; clear hO'; (try simp only [List.set_cons_zero, List.set_cons_succ, List.cons_append, List.nil_append, List.eraseIdx_cons_succ, List.eraseIdx_cons_zero] at hP)
            clear o2 o3
            go_wp2_with fail
            go_roundw
            case rel => exact ⟨k + 1, _, _, _, Q, by go_num, by omega, by rw [wPut_len]; exact HWS.out.1, wPut_okI HWS.out.2.1 _ HZ3.out, HWS.out.2.2, hP.none 5⟩
            case measure => simp [intOf]; omega
          case true =>
            obtain ⟨r, hr⟩ : ∃ r, frStep (frNewC a s t (hh2 h1 h2 q)) ws (Q q).v = r := ⟨_, rfl⟩
            have hN := frStep_fs (HWS.out.2.2 q) HWS.out.2.1
            have hLn := frStep_len (frNewC a s t (hh2 h1 h2 q)) ws (Q q).v (HWS.out.2.2 q).1
            rw [hr] at hN hLn
            have HR := Lib.hid hr
            have HN := Lib.hid (And.intro hN hLn)
            clear hr hN hLn
            have g : _ = some (Value.pointer (some ⟨(Q q).x, 0, none⟩)) := rowA_cell hP 3 0 rfl rfl q hq2
            clear o0 o1 o2 o3
            have o0 : w11.cell? ⟨ob, 0, none⟩ = some (.bool true) := hP.cell 5 0 rfl rfl 0
            have o1 : w11.cell? ⟨ob, 1, none⟩ = some (.int .i64 th) := hP.cell 5 0 rfl rfl 1
            go_wp2_with fail
            refine (fs_stepA hq2 hP CK.out hwl (HWS.out.2.2 q) r HR.out).mono ?_; simp only [resV]; rintro e w12 ⟨rfl, m2, yy, hO'⟩; clear hP; have hP := hO'; clear hO'
            clear o0 o1 g
            go_upto_region 19 with fail
            have hO' := (hP.alloc (.cells #[.int .i64 r.code, .int .i64 0] 43)).glue; clear hP; have hP := hO'; clear hO'; simp only [List.cons_append, List.nil_append] at hP
            generalize w12.alloc _ = w13 at hP ⊢
            generalize w12.heap.size = rb at hP ⊢
            have g : _ = some (Value.pointer (some ⟨(Q q).y, 0, none⟩)) := rowA_cell hP 4 0 rfl rfl q hq2
            go_wp2_with fail
            refine (fs_stepB hq2 r HR.out hP CK.out (HLO.out q).1 (HLO.out q).2 hwl (HWS.out.2.2 q) HWS.out.2.1).mono ?_; simp only [resV]; rintro e w14 ⟨rfl, m3, zz, hO'⟩; clear hP; have hP := hO'; clear hO'
            clear g
            go_upto_region 20 with fail
            have hO' := (hP.alloc (.cells #[.int .i64 r.code, .int .i64 0] 43)).glue; clear hP; have hP := hO'; clear hO'; simp only [List.cons_append, List.nil_append] at hP
            generalize w14.alloc _ = w15 at hP ⊢
            generalize w14.heap.size = sbk at hP ⊢
            obtain ⟨M, hM⟩ : ∃ M : FsM, M = ⟨(Q q).x, (Q q).y, yy, zz, r.v⟩ := ⟨_, rfl⟩
            have hMx : M.x = (Q q).x := by rw [hM]
            have hMy : M.y = (Q q).y := by rw [hM]
            have hMv : M.v = r.v := by rw [hM]
            rw [← hM, ← fsA_same Q q M hMx, ← fsB_same Q q M hMy] at hP
            have HQ1 := Lib.hid (show ∀ j, FsIn (frNewC a s t (hh2 h1 h2 j)) (upd Q q M j).v by
              intro j
              unfold upd
              split
              · rename_i e; subst e; rw [hMv]; exact HN.out.1.1
              · exact HWS.out.2.2 j)
            have HW1 := Lib.hid (And.intro (show (r.ws.length : Int) = 4 + t + 3 * s by rw [HN.out.2]; exact HWS.out.1) HN.out.1.2)
            clear hM hMx hMy hMv HN HR HWS
            generalize upd Q q M = Q1 at hP HQ1
            obtain ⟨rws, rv, rc, rd⟩ := r
            dsimp only at hP HW1 ⊢
            have g : _ = some (Value.pointer (some ⟨(Q1 q).x, 0, none⟩)) := rowA_cell hP 3 0 rfl rfl q hq2
            go_wp2_with fail
            obtain ⟨gr, hgr⟩ : ∃ gr, fsGive a s t (hh2 h1 h2 q) (Q1 q) = gr := ⟨_, rfl⟩
            obtain ⟨gb, hgb⟩ : ∃ gb, decide ((Q1 q).v.nx = 3) = gb := ⟨_, rfl⟩
            have HG := Lib.hid (And.intro hgr hgb)
            clear hgr hgb
            refine (fs_givesA hq2 hP).mono ?_; rw [HG.out.1, HG.out.2]; rintro e w16 ⟨rfl, rfl⟩
            clear g
            have g : _ = some (Value.pointer (some ⟨(Q1 q).y, 0, none⟩)) := rowA_cell hP 4 0 rfl rfl q hq2
            go_wp2_with fail
            refine (fs_givesB hq2 hP (HLO.out q).1 (HLO.out q).2).mono ?_; rw [HG.out.1, HG.out.2]; rintro e w17 ⟨rfl, hO'⟩; clear hP; have hP := hO'; clear hO'
            clear g HG
            have s0 : _ = some (Value.int .i64 rc) := hP.cell 5 0 rfl rfl 0
            have s1 : _ = some (Value.int .i64 0) := hP.cell 5 0 rfl rfl 1
            have r0 : _ = some (Value.int .i64 rc) := hP.cell 5 1 rfl rfl 0
            have r1 : _ = some (Value.int .i64 0) := hP.cell 5 1 rfl rfl 1
            go_wp2_with fail
            clear s0 s1 r0 r1
            go_roundw
            case rel => exact ⟨k + 1, _, _, rws, Q1, by go_num, by omega, HW1.out.1, HW1.out.2, HQ1.out, hP.none 5⟩
            case measure => simp [intOf]; omega
        · have hge : decide (k < xs.length) = false := by rw [decide_eq_false_iff_not]; omega
          clear hlt
          go_wp2_with fail
          clear hge
          go_loopw [22] (fun i wr => ∃ (j : Nat) (mm : Int), i = .int .i64 j ∧ j ≤ ws.length ∧ Owns W.heap.size W wr (memG p bw bb ws (List.replicate a.toNat 0) mm :: kG kp kw ws bv nn :: [(cb, Obj.cells #[Value.int .i64 a, .int .i64 s, .int .i64 t] 23 (0, 0))] :: [(ab, Obj.cells (rowA (fsA Q) 2) 33 (0, 0))] :: [(db, Obj.cells (rowA (fsB Q) 2) 36 (0, 0))] :: [] :: fam (fsF a s t (hh2 h1 h2) Q) 2)) (fun i _ => ws.length - (intOf i).toNat)
          case atStart => exact ⟨0, _, rfl, by omega, hO⟩
          case round =>
            clear hO
            obtain ⟨j, mm, rfl, hj, hO⟩ := hrel
            have k0 : _ = some (Value.slice (some ⟨kw, 0, none⟩) ws.length ws.length) := hO.cell 1 0 rfl rfl 0
            have kz := hO.lt 1 0 rfl rfl
            by_cases hlt : j < ws.length
            · obtain ⟨v, hv⟩ : ∃ v, ws.getD j 0 = v := ⟨_, rfl⟩
              have k1 := k_word (i := 1) hO rfl j hlt
              rw [hv] at k1
              have HV := Lib.hid (show wAt ws j = v by unfold wAt; rw [if_pos (wIn_iff.2 ⟨by omega, by omega⟩), Int.toNat_natCast, hv])
              clear hv
              have j0 : (0 : Int) ≤ (j : Int) := by omega
              have j1 : (j : Int) < (ws.length : Int) := by omega
              go_upto_region 29 with fail
              have hP := hO.drew
              clear k0 k1 hO
              have k0 : _ = some (Value.slice (some ⟨kw, 0, none⟩) ws.length ws.length) := hP.cell 1 0 rfl rfl 0
              have k1 : _ = some (Value.int .i64 v) := (k_word (i := 1) hP rfl j hlt).trans (by rw [← HV.out]; unfold wAt; rw [if_pos (wIn_iff.2 ⟨by omega, by omega⟩), Int.toNat_natCast])
              first
                | go_loud (go_region_held3 (fun w => w.cell? ⟨kp, 0, none⟩ = some (.slice (some ⟨kw, 0, none⟩) ws.length ws.length) ∧ w.cell? ⟨kw, j, none⟩ = some (.int .i64 v)) (exact ⟨k0, k1⟩) ((go_at_call 16; refine (plain_Load 0 _ hP rfl hwl).mono ?_; rw [HV.out]; rintro e w12 ⟨rfl, hO'⟩; clear hP; have hP := hO'; clear hO'; simp only [List.set_cons_zero] at hP; have k0 : _ = some (Value.slice (some ⟨kw, 0, none⟩) ws.length ws.length) := hP.cell 1 0 rfl rfl 0; have k1 : _ = some (Value.int .i64 v) := (k_word (i := 1) hP rfl j hlt).trans (by rw [← HV.out]; unfold wAt; rw [if_pos (wIn_iff.2 ⟨by omega, by omega⟩), Int.toNat_natCast]))))
                | fail "word"
              all_goals
                go_wp2_with fail
                go_roundw
                case rel => exact ⟨j + 1, _, by go_num, by omega, hP⟩
                case measure => simp [intOf]; omega
            · have hge : decide (j < ws.length) = false := by rw [decide_eq_false_iff_not]; omega
              clear hlt
              go_wp2_with (go_at_call 4; refine (law15_live _).mono ?_; rintro e w2 ⟨rfl, hb⟩; have hO := hO.via hb)
              go_ret
              exact ⟨rfl, hO.below⟩
theorem FreeSteps_walk (a s t h1 h2 : Int) (v : Value) (xs : List (List Value)) (W : World) (lo1 : -9223372036854775808 ≤ h1) (hi1 : h1 ≤ 9223372036854775807) (lo2 : -9223372036854775808 ≤ h2) (hi2 : h2 ≤ 9223372036854775807) (hs : SArg W [false, true, true, true] v xs) : Calls Tryz.prog 3 #[.agg #[.int .i64 a, .int .i64 s, .int .i64 t, .int .i64 h1, .int .i64 h2, v]] W fun e w' => e = .returned (.bool true) ∧ Below W.heap.size W w' := by
  by_cases hn : xs.length ≤ 60
  · rcases bool_cases (b := cfgOk a s t) with hc | hc
    · exact FreeSteps_go a s t h1 h2 v xs W hs hn hc lo1 hi1 lo2 hi2
    · exact FreeSteps_no a s t h1 h2 v xs W hs hn hc
  · exact FreeSteps_far a s t h1 h2 v xs W hs hn
end Go.Proofs.YtpebepjfgnoaaaaGreat
