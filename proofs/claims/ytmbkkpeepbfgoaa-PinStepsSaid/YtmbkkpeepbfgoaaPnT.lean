/- The pin law PinSteps. -/
import Derived.LoopTactic
import Derived.Deep.RegionHeld3
import Derived.Deep.DeepCutAuto
import Derived.Test.YtmbkkpeepbfgoaaPnT0
import Derived.Test.YtmbkkpeepbfgoaaPnLv
import Derived.Test.YtmbkkpeepbfgoaaFlat
namespace Go.Proofs.Ytmbkkpeepbfgoaa
set_option linter.unusedVariables false
set_option linter.unusedSimpArgs false
open Go.RowKit
set_option maxRecDepth 100000 in
set_option maxHeartbeats 8000000 in
theorem PinSteps_far (a s t h : Int) (v : Value) (xs : List (List Value)) (W : World) (hs : SArg W [false, true, false, true, true] v xs) (hn : ¬ xs.length ≤ 60) : Calls Try.prog 7 #[.agg #[.int .i64 a, .int .i64 s, .int .i64 t], .int .i64 h, v] W fun e w' => e = .returned (.bool true) ∧ Below W.heap.size W w' := by
  obtain ⟨pa, cap, rfl, hl, hx⟩ := hs.form
  have hn' : 60 < xs.length := by omega
  clear hx hs hn
  have hO := (Owns.nil W).more (.cells #[.int .i64 a, .int .i64 s, .int .i64 t] 26)
  go_enter Try.func7, Try.ntmps7
  go_wp2_with (go_at_call 21; refine (law14_live _).mono ?_; rintro e w2 ⟨rfl, hb⟩; have hO := hO.via hb)
  go_ret
  exact ⟨rfl, hO.below⟩
set_option maxRecDepth 100000 in
set_option maxHeartbeats 8000000 in
theorem PinSteps_no (a s t h : Int) (v : Value) (xs : List (List Value)) (W : World) (hs : SArg W [false, true, false, true, true] v xs) (hn : xs.length ≤ 60) (hc : cfgOk a s t = false) : Calls Try.prog 7 #[.agg #[.int .i64 a, .int .i64 s, .int .i64 t], .int .i64 h, v] W fun e w' => e = .returned (.bool true) ∧ Below W.heap.size W w' := by
  obtain ⟨pa, cap, rfl, hl, hx⟩ := hs.form
  have CK := Lib.hid hc
  clear hx hs hc
  have hO := (Owns.nil W).more (.cells #[.int .i64 a, .int .i64 s, .int .i64 t] 26)
  go_enter Try.func7, Try.ntmps7
  go_wp2_with fail
  generalize W.alloc (.cells #[.int .i64 a, .int .i64 s, .int .i64 t] 26) = w0 at hO ⊢
  refine (law14_start_no a s t _ CK.out).mono ?_; rintro e w1 ⟨rfl, hb⟩; have hO := hO.via hb
  have a0 : _ = some (Value.int .i64 a) := hO.cell 0 0 rfl rfl 0; have a1 : _ = some (Value.int .i64 s) := hO.cell 0 0 rfl rfl 1; have a2 : _ = some (Value.int .i64 t) := hO.cell 0 0 rfl rfl 2
  go_wp2_with first
    | (go_at_call 21; refine (law14_live _).mono ?_; rintro e w2 ⟨rfl, hb⟩; have hO := hO.via hb)
    | (go_at_call 23; refine (ref06_May _ _ _ _).mono ?_; rw [CK.out]; rintro e w4 ⟨rfl, hb⟩; have hO := hO.via hb)
  go_ret
  exact ⟨rfl, hO.below⟩
set_option maxRecDepth 100000 in
set_option maxHeartbeats 8000000 in
theorem PinSteps_go (a s t h : Int) (v : Value) (xs : List (List Value)) (W : World) (hs : SArg W [false, true, false, true, true] v xs) (hx60 : xs.length ≤ 60) (hc : cfgOk a s t = true) (lo : -9223372036854775808 ≤ h) (hi : h ≤ 9223372036854775807) : Calls Try.prog 7 #[.agg #[.int .i64 a, .int .i64 s, .int .i64 t], .int .i64 h, v] W fun e w' => e = .returned (.bool true) ∧ Below W.heap.size W w' := by
  obtain ⟨pa, cap, rfl, hl, hx⟩ := hs.form
  have CK := Lib.hid hc
  have HX := Lib.hid hx
  have ET := Lib.hid (of_yes hc).1
  have ES := Lib.hid (of_yes hc).2.1
  have HL := Lib.hid (lOk_yes hc)
  have HLEN := Lib.hid (show (initW t s).length ≤ 4096 by obtain ⟨-, -, -, s1, s4, t1, t4⟩ := cfgOk_of hc; rw [initW_len, lWords_ok t1]; omega)
  obtain ⟨sl, ge, f, hf⟩ : ∃ sl ge f, hOf h s = (sl, ge, f) := ⟨_, _, _, rfl⟩
  have HF := Lib.hid hf
  have NEW : Hid (∀ (un : Bool) (x : Nat), pnNews a s t h un x = pnG x t s sl ge (f != 0) un 1 0 0) := Lib.hid (fun un x => by unfold pnNews; rw [ET.out, ES.out, HF.out, if_pos CK.out])
  clear hx hs hc hf
  have hO := (Owns.nil W).more (.cells #[.int .i64 a, .int .i64 s, .int .i64 t] 26)
  go_enter Try.func7, Try.ntmps7
  go_wp2_with fail
  generalize W.alloc (.cells #[.int .i64 a, .int .i64 s, .int .i64 t] 26) = w0 at hO ⊢
  refine (law14_start a s t hO CK.out).mono ?_; rintro e w1 ⟨p, bw, bb, m, rfl, hO'⟩; have hO := hO'; (try simp only [List.set_cons_zero, List.set_cons_succ, List.cons_append, List.nil_append, List.eraseIdx_cons_succ, List.eraseIdx_cons_zero] at hO); have a0 : _ = some (Value.int .i64 a) := hO.cell 1 0 rfl rfl 0; have a1 : _ = some (Value.int .i64 s) := hO.cell 1 0 rfl rfl 1; have a2 : _ = some (Value.int .i64 t) := hO.cell 1 0 rfl rfl 2
  go_wp2_with fail
  refine (ref10_Start a s t CK.out hO).mono ?_; rintro e w3 ⟨kp, kw, bv, rfl, hO'⟩; have hO := hO'.third; (try simp only [List.set_cons_zero, List.set_cons_succ, List.cons_append, List.nil_append, List.eraseIdx_cons_succ, List.eraseIdx_cons_zero] at hO); have a0 : _ = some (Value.int .i64 a) := hO.cell 1 0 rfl rfl 0; have a1 : _ = some (Value.int .i64 s) := hO.cell 1 0 rfl rfl 1; have a2 : _ = some (Value.int .i64 t) := hO.cell 1 0 rfl rfl 2
  go_wp2_with fail
  clear hO'
  have hO := hO.drew
  have a0 : _ = some (Value.int .i64 a) := hO.cell 1 0 rfl rfl 0; have a1 : _ = some (Value.int .i64 s) := hO.cell 1 0 rfl rfl 1; have a2 : _ = some (Value.int .i64 t) := hO.cell 1 0 rfl rfl 2
  first
    | go_loud (go_region_held3 (fun w => w.cell? ⟨W.heap.size, 0, none⟩ = some (.int .i64 a) ∧ w.cell? ⟨W.heap.size, 1, none⟩ = some (.int .i64 s) ∧ w.cell? ⟨W.heap.size, 2, none⟩ = some (.int .i64 t)) (first | (with_reducible exact ⟨a0, a1, a2⟩) | exact ⟨cell_alloc _ a0, cell_alloc _ a1, cell_alloc _ a2⟩) (first | (go_at_call 25; refine (pin_New_app a s t h lo hi hO).mono ?_; rintro e w7 ⟨x, rfl, hb, hO'⟩; rw [NEW.out] at hO'; have hO := hO'; have a0 := cell_below hb a0; have a1 := cell_below hb a1; have a2 := cell_below hb a2) | (go_at_call 26; refine (pin_NewUn_app a s t h lo hi hO).mono ?_; rintro e w7 ⟨x, rfl, hb, hO'⟩; rw [NEW.out] at hO'; have hO := hO'; have a0 := cell_below hb a0; have a1 := cell_below hb a1; have a2 := cell_below hb a2)))
    | fail "machines"
  all_goals
    obtain ⟨Q, hQ, hO⟩ := packA hO
    generalize World.alloc w7 _ = w8 at hO ⊢
    generalize w7.heap.size = ab at hO ⊢
    have HQ := Lib.hid hQ
    clear hQ a0 a1 a2
    go_wp2_with fail
    have hO := hO.drew
    have a0 : _ = some (Value.int .i64 a) := hO.cell 1 0 rfl rfl 0; have a1 : _ = some (Value.int .i64 s) := hO.cell 1 0 rfl rfl 1; have a2 : _ = some (Value.int .i64 t) := hO.cell 1 0 rfl rfl 2
    first
      | go_loud (go_region_held3 (fun w => w.cell? ⟨W.heap.size, 0, none⟩ = some (.int .i64 a) ∧ w.cell? ⟨W.heap.size, 1, none⟩ = some (.int .i64 s) ∧ w.cell? ⟨W.heap.size, 2, none⟩ = some (.int .i64 t)) (first | (with_reducible exact ⟨a0, a1, a2⟩) | exact ⟨cell_alloc _ a0, cell_alloc _ a1, cell_alloc _ a2⟩) ((go_at_call 27; refine (ref14_New_app a s t h _ CK.out hO).mono ?_; rintro e w9 ⟨y, rfl, hb, hO'⟩; have hO := hO'; have a0 := cell_below hb a0; have a1 := cell_below hb a1; have a2 := cell_below hb a2)))
      | fail "refs"
    all_goals
      obtain ⟨Y, hO⟩ := packC HQ.out hO
      generalize World.alloc w9 _ = w10 at hO ⊢
      generalize w9.heap.size = cb at hO ⊢
      have HQ1 := Lib.hid HQ.out.1
      clear HQ a0 a1 a2
      have HS0 := Lib.hid (show SOk (f != 0) Q from fun _ j => .inr (HQ1.out j))
      go_wp2_with fail
      go_loopw [11] (fun i wr => ∃ (k : Nat) (mm nn : Int) (ws : List Int) (Q : Nat → PnM) (Y : Nat → Nat), i = .int .i64 k ∧ k ≤ xs.length ∧ ws.length ≤ 4096 ∧ SOk (f != 0) Q ∧ Owns W.heap.size W wr (memG p bw bb ws (List.replicate a.toNat 0) mm :: [(W.heap.size, Obj.cells #[Value.int .i64 a, .int .i64 s, .int .i64 t] 26 (0, 0))] :: kG kp kw ws bv nn :: [(ab, Obj.cells (rowA (pmP Q) 2) 51 (0, 0))] :: [(cb, Obj.cells (rowA (rpP Y) 2) 54 (0, 0))] :: [] :: (fam (pmF t s sl ge (f != 0) Q) 2 ++ fam (rpF a s t h Y Q) 2))) (fun i _ => xs.length - (intOf i).toNat)
      case atStart => exact ⟨0, _, _, _, Q, Y, rfl, by omega, HLEN.out, HS0.out, hO⟩
      case round =>
        clear hO HS0 HQ1 HLEN
        obtain ⟨k, mm, nn, ws, Q, Y, rfl, hk, hws, hS, hO⟩ := hrel
        have HS := Lib.hid hS
        clear hS
        by_cases hlt : k < xs.length
        · obtain ⟨ib, io, rfl, hib, hI, hB⟩ := HX.out k hlt
          have i1 := (hI 1 rfl).1
          obtain ⟨x0, x1⟩ := (hI 1 rfl).2
          have i3 := (hI 3 rfl).1
          have i4 := (hI 4 rfl).1
          have i0 := hB 0 rfl
          have i2 := hB 2 rfl
          simp only [List.length_cons, List.length_nil, Nat.add_zero, Nat.zero_add] at i0 i1 i2 i3 i4
          obtain ⟨th, hth⟩ : ∃ d, getI xs k 1 = d := ⟨_, rfl⟩
          obtain ⟨wi, hwi⟩ : ∃ d, getI xs k 3 = d := ⟨_, rfl⟩
          obtain ⟨wt, hwt⟩ : ∃ d, getI xs k 4 = d := ⟨_, rfl⟩
          obtain ⟨sb, hsb⟩ : ∃ d, getB xs k 0 = d := ⟨_, rfl⟩
          obtain ⟨un, hun⟩ : ∃ d, getB xs k 2 = d := ⟨_, rfl⟩
          rw [hth] at i1 x0 x1
          rw [hwi] at i3
          rw [hwt] at i4
          rw [hsb] at i0
          rw [hun] at i2
          have k0 : wr.cell? ⟨ib, io + k * 5, none⟩ = some (.bool sb) := (hO.below.cell (p := ⟨ib, io + k * 5, none⟩) hib).trans i0
          have k1 : wr.cell? ⟨ib, io + k * 5 + 1, none⟩ = some (.int .i64 th) := (hO.below.cell (p := ⟨ib, io + k * 5 + 1, none⟩) hib).trans i1
          have k2 : wr.cell? ⟨ib, io + k * 5 + 2, none⟩ = some (.bool un) := (hO.below.cell (p := ⟨ib, io + k * 5 + 2, none⟩) hib).trans i2
          have k3 : wr.cell? ⟨ib, io + k * 5 + 3, none⟩ = some (.int .i64 wi) := (hO.below.cell (p := ⟨ib, io + k * 5 + 3, none⟩) hib).trans i3
          have k4 : wr.cell? ⟨ib, io + k * 5 + 4, none⟩ = some (.int .i64 wt) := (hO.below.cell (p := ⟨ib, io + k * 5 + 4, none⟩) hib).trans i4
          clear hI hB hth hwi hwt hsb hun i0 i1 i2 i3 i4 hib
          go_upto_region 13 with fail
          have hP := ((hO.alloc (.cells #[.bool sb, .int .i64 th, .bool un, .int .i64 wi, .int .i64 wt] 58)).drop 6).mid
          clear hO k0 k1 k2 k3 k4
          generalize wr.alloc _ = w11 at hP ⊢
          generalize wr.heap.size = ob at hP ⊢
          simp only [List.eraseIdx_cons_zero] at hP
          have o0 : w11.cell? ⟨ob, 0, none⟩ = some (.bool sb) := hP.cell 5 0 rfl rfl 0
          have o1 : w11.cell? ⟨ob, 1, none⟩ = some (.int .i64 th) := hP.cell 5 0 rfl rfl 1
          have o2 : w11.cell? ⟨ob, 2, none⟩ = some (.bool un) := hP.cell 5 0 rfl rfl 2
          have o3 : w11.cell? ⟨ob, 3, none⟩ = some (.int .i64 wi) := hP.cell 5 0 rfl rfl 3
          have o4 : w11.cell? ⟨ob, 4, none⟩ = some (.int .i64 wt) := hP.cell 5 0 rfl rfl 4
          by_cases hq0 : 0 ≤ th.tmod 2
          rotate_left
          · have hq1 : th.tmod 2 < 0 := by omega
            have hO := hP
            clear hq0
            go_wp2_with (go_at_call 21; refine (law14_live _).mono ?_; rintro e w2 ⟨rfl, hb⟩; have hO := hO.via hb)
            go_ret
            exact ⟨rfl, hO.below⟩
          obtain ⟨q, hq⟩ : ∃ q : Nat, th.tmod 2 = q := ⟨(th.tmod 2).toNat, by omega⟩
          have hq2 : q < 2 := by have := Int.tmod_lt_of_pos th (show (0 : Int) < 2 by decide); omega
          clear hq0
          have g := rowA_cell hP 3 0 rfl rfl q hq2
          unfold pmP at g
          cases sb
          case false =>
            go_wp2_with fail
            refine (plain_Store 0 _ _ hP rfl hws).mono ?_; rintro e w12 ⟨rfl, hO'⟩; clear hP; have hP := hO'; clear hO'; simp only [List.set_cons_zero, List.set_cons_succ, List.eraseIdx_cons_zero, List.eraseIdx_cons_succ, List.cons_append, List.nil_append] at hP
            have o3 : _ = some (Value.int .i64 wi) := hP.cell 5 0 rfl rfl 3
            have o4 : _ = some (Value.int .i64 wt) := hP.cell 5 0 rfl rfl 4
            go_wp2_with fail
            refine (ref05_Store 2 _ _ hP rfl hws).mono ?_; rintro e w13 ⟨rfl, hO'⟩; clear hP; have hP := hO'; clear hO'; simp only [List.set_cons_zero, List.set_cons_succ, List.eraseIdx_cons_zero, List.eraseIdx_cons_succ, List.cons_append, List.nil_append] at hP
            clear o0 o1 o2 o3 o4 g
            go_wp2_with fail
            go_roundw
            case rel => exact ⟨k + 1, _, _, wPut ws wi wt, Q, Y, by go_num, by omega, by rw [wPut_len]; exact hws, HS.out, hP.none 5⟩
            case measure => simp [intOf]; omega
          case true =>
            obtain ⟨r, hr⟩ : ∃ r, pinStep t s sl ge (f != 0) (Q q).un ws (Q q).nx (Q q).wd (Q q).tw = r := ⟨_, rfl⟩
            have HR := Lib.hid hr
            have hws' := Lib.hid (show r.ws.length ≤ 4096 by rw [← hr, pinStep_len]; exact hws)
            have HSN := Lib.hid (show f != 0 → (r.nx = 0 ∨ r.nx = 1) from fun hf => by rw [← hr]; exact pinStep_st hf (HS.out hf q))
            clear hr
            obtain ⟨ws2, nx2, wd2, tw2, code, dn⟩ := r
            simp only at hws' HSN
            go_wp2_with fail
            refine (stepA hq2 hP HL.out hws HR.out).mono ?_; simp only [resV]; rintro e w12 ⟨rfl, m2, hO'⟩; clear hP; have hP := hO'; clear hO'
            clear o0 o1 o2 o3 o4 g
            go_upto_region 18 with fail
            have hO' := (hP.alloc (.cells #[.int .i64 code, .int .i64 0] 37)).glue; clear hP; have hP := hO'; clear hO'; simp only [List.cons_append, List.nil_append] at hP
            generalize w12.alloc _ = w13 at hP ⊢
            generalize w12.heap.size = rb at hP ⊢
            have g := rowA_cell hP 4 0 rfl rfl q hq2
            unfold rpP at g
            go_wp2_with fail
            refine (stepC' HF.out hq2 hP hws CK.out lo hi HS.out HR.out).mono ?_; simp only [resV]; rintro e w14 ⟨rfl, m3, hO'⟩; clear hP; have hP := hO'; clear hO' g
            go_upto_region 19 with fail
            have hO' := (hP.alloc (.cells #[.int .i64 code, .int .i64 0] 37)).glue; clear hP; have hP := hO'; clear hO'; simp only [List.cons_append, List.nil_append] at hP
            generalize w14.alloc _ = w15 at hP ⊢
            generalize w14.heap.size = sbk at hP ⊢
            have s0 : _ = some (Value.int .i64 code) := hP.cell 5 0 rfl rfl 0
            have s1 : _ = some (Value.int .i64 0) := hP.cell 5 0 rfl rfl 1
            have r0 : _ = some (Value.int .i64 code) := hP.cell 5 1 rfl rfl 0
            have r1 : _ = some (Value.int .i64 0) := hP.cell 5 1 rfl rfl 1
            cases dn
            case false =>
              go_wp2_with fail
              clear s0 s1 r0 r1
              go_roundw
              case rel => exact ⟨k + 1, _, _, ws2, upd Q q ⟨(Q q).x, (Q q).un, nx2, wd2, tw2⟩, Y, by go_num, by omega, hws'.out, HS.out.upd q _ HSN.out, by rw [pmP_same Q q ⟨(Q q).x, (Q q).un, nx2, wd2, tw2⟩ rfl]; exact hP.none 5⟩
              case measure => simp [intOf]; omega
            case true =>
              have o2 : _ = some (Value.bool un) := hP.cell 5 2 rfl rfl 2
              have a0 : _ = some (Value.int .i64 a) := hP.cell 1 0 rfl rfl 0
              have a1 : _ = some (Value.int .i64 s) := hP.cell 1 0 rfl rfl 1
              have a2 : _ = some (Value.int .i64 t) := hP.cell 1 0 rfl rfl 2
              go_wp2_with fail
              refine (law14_one a s t h un lo hi hP).mono ?_; rintro e w16 ⟨x, rfl, hO'⟩; rw [NEW.out] at hO'
              have hO2 := hO'.place (q + 6); clear hO' hP; have hP := hO2; clear hO2
              rw [fA_set hq2, show pnG x t s sl ge (f != 0) un 1 0 0 = pmG t s sl ge (f != 0) ⟨x, un, 1, 0, 0⟩ from rfl, pmF_twice] at hP
              clear s0 s1 r0 r1 o2 a0 a1 a2
              have az := hP.lt 3 0 rfl rfl
              have ag := rowA_cell hP 3 0 rfl rfl q hq2
              have af := blk_free (hP.get 3 0 rfl rfl) q
              go_upto_region 23 with fail
              have hO2 := rowA_put hP 3 rfl q (.pointer (some ⟨x, 0, none⟩)); clear hP; have hP := hO2; clear hO2
              simp only [List.set_cons_zero, List.set_cons_succ] at hP
              rw [pmP_upd Q q ⟨x, un, 1, 0, 0⟩] at hP
              generalize World.setCell w16 _ _ = w17 at hP ⊢
              clear az ag af
              have o2 : _ = some (Value.bool un) := hP.cell 5 2 rfl rfl 2
              have a0 : _ = some (Value.int .i64 a) := hP.cell 1 0 rfl rfl 0
              have a1 : _ = some (Value.int .i64 s) := hP.cell 1 0 rfl rfl 1
              have a2 : _ = some (Value.int .i64 t) := hP.cell 1 0 rfl rfl 2
              go_wp2_with fail
              refine (ref14_New a s t h un CK.out hP).mono ?_; rintro e w18 ⟨y, rfl, hO'⟩
              have hO2 := hO'.place (q + 2 + 6); clear hO' hP; have hP := hO2; clear hO2
              rw [fC_set, rpF_new (m' := ⟨x, un, 1, 0, 0⟩)] at hP
              clear o2 a0 a1 a2
              have az := hP.lt 4 0 rfl rfl
              have ag := rowA_cell hP 4 0 rfl rfl q hq2
              have af := blk_free (hP.get 4 0 rfl rfl) q
              go_wp2_with fail
              have hO2 := rowA_put hP 4 rfl q (.pointer (some ⟨y, 0, none⟩)); clear hP; have hP := hO2; clear hO2
              simp only [List.set_cons_zero, List.set_cons_succ] at hP
              rw [rpP_upd] at hP
              generalize World.setCell w18 _ _ = w19 at hP ⊢
              clear az ag af
              go_roundw
              case rel => exact ⟨k + 1, _, _, ws2, upd Q q ⟨x, un, 1, 0, 0⟩, upd Y q y, by go_num, by omega, hws'.out, HS.out.upd q _ (fun _ => .inr rfl), hP.none 5⟩
              case measure => simp [intOf]; omega
        · have hge : decide (k < xs.length) = false := by rw [decide_eq_false_iff_not]; omega
          clear hlt
          go_wp2_with fail
          clear hge
          go_loopw [18] (fun i wr => ∃ (j : Nat) (mm : Int), i = .int .i64 j ∧ j ≤ ws.length ∧ Owns W.heap.size W wr (memG p bw bb ws (List.replicate a.toNat 0) mm :: [(W.heap.size, Obj.cells #[Value.int .i64 a, .int .i64 s, .int .i64 t] 26 (0, 0))] :: kG kp kw ws bv nn :: [(ab, Obj.cells (rowA (pmP Q) 2) 51 (0, 0))] :: [(cb, Obj.cells (rowA (rpP Y) 2) 54 (0, 0))] :: [] :: (fam (pmF t s sl ge (f != 0) Q) 2 ++ fam (rpF a s t h Y Q) 2))) (fun i _ => ws.length - (intOf i).toNat)
          case atStart => exact ⟨0, _, rfl, by omega, hO⟩
          case round =>
            clear hO
            obtain ⟨j, mm, rfl, hj, hO⟩ := hrel
            have k0 : _ = some (Value.slice (some ⟨kw, 0, none⟩) ws.length ws.length) := hO.cell 2 0 rfl rfl 0
            have kz := hO.lt 2 0 rfl rfl
            by_cases hlt : j < ws.length
            · obtain ⟨v, hv⟩ : ∃ v, ws.getD j 0 = v := ⟨_, rfl⟩
              have k1 := k_word (i := 2) hO rfl j hlt
              rw [hv] at k1
              have HV := Lib.hid (show wAt ws j = v by unfold wAt; rw [if_pos (wIn_iff.2 ⟨by omega, by omega⟩), Int.toNat_natCast, hv])
              clear hv
              have j0 : (0 : Int) ≤ (j : Int) := by omega
              have j1 : (j : Int) < (ws.length : Int) := by omega
              go_upto_region 29 with fail
              have hP := hO.drew
              clear k0 k1 hO
              have k0 : _ = some (Value.slice (some ⟨kw, 0, none⟩) ws.length ws.length) := hP.cell 2 0 rfl rfl 0
              have k1 : _ = some (Value.int .i64 v) := (k_word (i := 2) hP rfl j hlt).trans (by rw [← HV.out]; unfold wAt; rw [if_pos (wIn_iff.2 ⟨by omega, by omega⟩), Int.toNat_natCast])
              first
                | go_loud (go_region_held3 (fun w => w.cell? ⟨kp, 0, none⟩ = some (.slice (some ⟨kw, 0, none⟩) ws.length ws.length) ∧ w.cell? ⟨kw, j, none⟩ = some (.int .i64 v)) (exact ⟨k0, k1⟩) ((go_at_call 32; refine (plain_Load 0 _ hP rfl hws).mono ?_; rw [HV.out]; rintro e w12 ⟨rfl, hO'⟩; clear hP; have hP := hO'; clear hO'; simp only [List.set_cons_zero] at hP; have k0 : _ = some (Value.slice (some ⟨kw, 0, none⟩) ws.length ws.length) := hP.cell 2 0 rfl rfl 0; have k1 : _ = some (Value.int .i64 v) := (k_word (i := 2) hP rfl j hlt).trans (by rw [← HV.out]; unfold wAt; rw [if_pos (wIn_iff.2 ⟨by omega, by omega⟩), Int.toNat_natCast]))))
                | fail "word"
              all_goals
                go_wp2_with fail
                go_roundw
                case rel => exact ⟨j + 1, _, by go_num, by omega, hP⟩
                case measure => simp [intOf]; omega
            · have hge : decide (j < ws.length) = false := by rw [decide_eq_false_iff_not]; omega
              clear hlt
              go_wp2_with (go_at_call 21; refine (law14_live _).mono ?_; rintro e w2 ⟨rfl, hb⟩; have hO := hO.via hb)
              go_ret
              exact ⟨rfl, hO.below⟩
theorem PinSteps_walk (a s t h : Int) (v : Value) (xs : List (List Value)) (W : World) (lo : -9223372036854775808 ≤ h) (hi : h ≤ 9223372036854775807) (hs : SArg W [false, true, false, true, true] v xs) : Calls Try.prog 7 #[.agg #[.int .i64 a, .int .i64 s, .int .i64 t], .int .i64 h, v] W fun e w' => e = .returned (.bool true) ∧ Below W.heap.size W w' := by
  by_cases hn : xs.length ≤ 60
  · rcases bool_cases (b := cfgOk a s t) with hc | hc
    · exact PinSteps_go a s t h v xs W hs hn hc lo hi
    · exact PinSteps_no a s t h v xs W hs hn hc
  · exact PinSteps_far a s t h v xs W hs hn
end Go.Proofs.Ytmbkkpeepbfgoaa
