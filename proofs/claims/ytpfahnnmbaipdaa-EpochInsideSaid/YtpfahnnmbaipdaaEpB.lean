/- The epoch law EpochInside. -/
import Derived.Test.YtpfahnnmbaipdaaEpB0
import Derived.Test.YtpfahnnmbaipdaaFlat
import Derived.Test.YtpfahnnmbaipdaaArr
namespace Go.Proofs.Ytpfahnnmbaipdaa
set_option linter.unusedVariables false
set_option linter.unusedSimpArgs false
open Go.RowKit
set_option maxRecDepth 100000 in
set_option maxHeartbeats 8000000 in
theorem EpochInside_no (a s t : Int) (v : Value) (xs : List (List Value)) (W : World) (hs : SArg W [true, true, true] v xs) (hc : cfgOk a s t = false) : Calls Try.prog 6 #[.agg #[.int .i64 a, .int .i64 s, .int .i64 t], v] W fun e w' => e = .returned (.bool true) ∧ Below W.heap.size W w' := by
  obtain ⟨pa, cap, rfl, hl, hx⟩ := hs.form
  have CK := Lib.hid hc
  clear hc hx hs
  go_enter Try.func6, Try.ntmps6; go_wp2_with fail; have hO := (Owns.nil W).more (.cells #[.int .i64 a, .int .i64 s, .int .i64 t] 23); generalize W.alloc (.cells #[.int .i64 a, .int .i64 s, .int .i64 t] 23) = w0 at hO ⊢
  refine (law16_start_no a s t _ CK.out).mono ?_; rintro e w1 ⟨rfl, hb⟩
  have hO := hO.via hb; (try simp only [List.set_cons_zero, List.set_cons_succ, List.cons_append, List.nil_append] at hO); have a0 : _ = some (Value.int .i64 a) := hO.cell 0 0 rfl rfl 0; have a1 : _ = some (Value.int .i64 s) := hO.cell 0 0 rfl rfl 1; have a2 : _ = some (Value.int .i64 t) := hO.cell 0 0 rfl rfl 2
  go_wp2_with first
    | (go_at_call 12; refine (law16_live _).mono ?_; rintro e w2 ⟨rfl, hb⟩; have hO := hO.via hb)
    | (go_at_call 14; refine (ref06_May _ _ _ _).mono ?_; rw [CK.out]; rintro e w4 ⟨rfl, hb⟩; have hO := hO.via hb)
  go_ret
  exact ⟨rfl, hO.below⟩
set_option maxRecDepth 100000 in
set_option maxHeartbeats 8000000 in
theorem EpochInside_far (a s t : Int) (v : Value) (xs : List (List Value)) (W : World) (hs : SArg W [true, true, true] v xs) (hc : cfgOk a s t = true) (hn : ¬ xs.length ≤ 20) : Calls Try.prog 6 #[.agg #[.int .i64 a, .int .i64 s, .int .i64 t], v] W fun e w' => e = .returned (.bool true) ∧ Below W.heap.size W w' := by
  obtain ⟨pa, cap, rfl, hl, hx⟩ := hs.form
  have CK := Lib.hid hc
  have hn' : 20 < xs.length := by omega
  clear hc hx hs hn
  go_enter Try.func6, Try.ntmps6; go_wp2_with fail; have hO := (Owns.nil W).more (.cells #[.int .i64 a, .int .i64 s, .int .i64 t] 23); generalize W.alloc (.cells #[.int .i64 a, .int .i64 s, .int .i64 t] 23) = w0 at hO ⊢
  refine (law16_start a s t hO CK.out).mono ?_; rintro e w1 ⟨p, bw, bb, m, rfl, hO'⟩
  have hO := hO'.last; (try simp only [List.set_cons_zero, List.set_cons_succ, List.cons_append, List.nil_append] at hO); have a0 : _ = some (Value.int .i64 a) := hO.cell 0 0 rfl rfl 0; have a1 : _ = some (Value.int .i64 s) := hO.cell 0 0 rfl rfl 1; have a2 : _ = some (Value.int .i64 t) := hO.cell 0 0 rfl rfl 2
  go_wp2_with (go_at_call 12; refine (law16_live _).mono ?_; rintro e w2 ⟨rfl, hb⟩; have hO := hO.via hb)
  go_ret
  exact ⟨rfl, hO.below⟩
set_option maxRecDepth 100000 in
set_option maxHeartbeats 8000000 in
theorem EpochInside_go (a s t : Int) (v : Value) (xs : List (List Value)) (W : World) (hs : SArg W [true, true, true] v xs) (hc : cfgOk a s t = true) (hx20 : xs.length ≤ 20) : Calls Try.prog 6 #[.agg #[.int .i64 a, .int .i64 s, .int .i64 t], v] W fun e w' => e = .returned (.bool true) ∧ Below W.heap.size W w' := by
  obtain ⟨pa, cap, rfl, hl, hx⟩ := hs.form
  have CK := Lib.hid hc
  obtain ⟨-, -, -, s1, s4, t1, t4⟩ := cfgOk_of hc
  have HX := Lib.hid hx
  have d3 : decide (20 < (xs.length : Int)) = false := by rw [decide_eq_false_iff_not]; omega
  have mk := made_bools 4 4 rfl (by decide)
  clear hc hx hs
  go_enter Try.func6, Try.ntmps6; go_wp2_with fail; have hO := (Owns.nil W).more (.cells #[.int .i64 a, .int .i64 s, .int .i64 t] 23); generalize W.alloc (.cells #[.int .i64 a, .int .i64 s, .int .i64 t] 23) = w0 at hO ⊢
  refine (law16_start a s t hO CK.out).mono ?_; rintro e w1 ⟨p, bw, bb, m, rfl, hO'⟩
  have hO := hO'.last; (try simp only [List.set_cons_zero, List.set_cons_succ, List.cons_append, List.nil_append] at hO); have a0 : _ = some (Value.int .i64 a) := hO.cell 0 0 rfl rfl 0; have a1 : _ = some (Value.int .i64 s) := hO.cell 0 0 rfl rfl 1; have a2 : _ = some (Value.int .i64 t) := hO.cell 0 0 rfl rfl 2
  have H0 := Lib.hid (bSt.init t1 t4 s1 s4)
  go_wp2_with fail
  have hO := hO.more (.cells (rowA (fun _ => Value.bool false) 4) 4); (try simp only [List.set_cons_zero, List.set_cons_succ, List.cons_append, List.nil_append] at hO)
  clear a0 a1 a2 d3 mk
  generalize hnb : w1.heap.size = nb at hO ⊢
  clear hnb
  generalize w1.alloc (.cells (rowA (fun _ => Value.bool false) 4) 4) = w2 at hO ⊢
  go_loopw [7] (fun i wr => ∃ (k : Nat) (m : Int) (ws : List Int) (I : Nat → Bool), i = .int .i64 k ∧ k ≤ xs.length ∧ bSt t ws I ∧ Owns W.heap.size W wr [[(W.heap.size, Obj.cells #[.int .i64 a, .int .i64 s, .int .i64 t] 23 (0, 0))], memG p bw bb ws (List.replicate a.toNat 0) m, [(nb, Obj.cells (rowA (fun j => Value.bool (I j)) 4) 4 (0, 0))]]) (fun i _ => xs.length - (intOf i).toNat)
  case atStart => exact ⟨0, m, _, _, rfl, by omega, H0.out, hO⟩
  case round =>
    clear hO H0
    obtain ⟨k, m, ws, I, rfl, hk, hB, hO⟩ := hrel
    (try simp only [List.set_cons_zero, List.set_cons_succ, List.cons_append, List.nil_append] at hO); have a0 : _ = some (Value.int .i64 a) := hO.cell 0 0 rfl rfl 0; have a1 : _ = some (Value.int .i64 s) := hO.cell 0 0 rfl rfl 1; have a2 : _ = some (Value.int .i64 t) := hO.cell 0 0 rfl rfl 2
    have HB := Lib.hid hB
    have HE := Lib.hid (show ws.length ≤ 4096 from hB.1.2.2.1)
    have ET := Lib.hid (of_yes CK.out).1
    clear hB
    by_cases hlt : k < xs.length
    · obtain ⟨ib, io, rfl, hib, hI, -⟩ := HX.out k hlt
      have c0 := (hI 0 rfl).1
      have c1 := (hI 1 rfl).1
      obtain ⟨x0, x1⟩ := (hI 1 rfl).2
      simp only [List.length_cons, List.length_nil, Nat.add_zero, Nat.zero_add] at c0 c1
      obtain ⟨d, hd⟩ : ∃ d, getI xs k 0 = d := ⟨_, rfl⟩
      obtain ⟨th, hth⟩ : ∃ d, getI xs k 1 = d := ⟨_, rfl⟩
      rw [hd] at c0
      rw [hth] at c1 x0 x1
      have C0 := Lib.hid c0
      have C1 := Lib.hid c1
      have HIB := Lib.hid hib
      have k0 : wr.cell? ⟨ib, io + k * 3, none⟩ = some (.int .i64 d) := (hO.below.cell (p := ⟨ib, io + k * 3, none⟩) hib).trans c0
      have k1 : wr.cell? ⟨ib, io + k * 3 + 1, none⟩ = some (.int .i64 th) := (hO.below.cell (p := ⟨ib, io + k * 3 + 1, none⟩) hib).trans c1
      clear hI hd hth c0 c1
      obtain ⟨bd, hbd⟩ : ∃ q, (d == 0) = q := ⟨_, rfl⟩
      by_cases h1 : 0 ≤ th ∧ th < t
      case' pos =>
        obtain ⟨h0, h1⟩ := h1
        obtain ⟨q, hq⟩ : ∃ q : Nat, th = q := ⟨th.toNat, by omega⟩
        subst hq
        have hq4 : q < 4 := by omega
        have BY := Lib.hid (HB.out.enter (th := q))
        have BN := Lib.hid (HB.out.exit (th := q))
        rw [bNext_in _ _ h1] at BY BN
        cases bd
        case' false =>
          go_wp2_with (first | (go_at_call 23; refine (law16_enter 1 a s t _ hO rfl HE.out CK.out).mono ?_; rintro e w7 ⟨rfl, m1, hO'⟩; have hO := hO'; refine stop_here ?_) | (go_at_call 19; refine (epoch_Exit 1 a s t _ hO rfl HE.out).mono ?_; rw [ET.out]; rintro e w7 ⟨rfl, m1, hO'⟩; have hO := hO'; refine stop_here ?_)); unfold Stop; (try simp only [List.set_cons_zero, List.set_cons_succ, List.cons_append, List.nil_append] at hO); have a0 : _ = some (Value.int .i64 a) := hO.cell 0 0 rfl rfl 0; have a1 : _ = some (Value.int .i64 s) := hO.cell 0 0 rfl rfl 1; have a2 : _ = some (Value.int .i64 t) := hO.cell 0 0 rfl rfl 2; have k0 : _ = some (Value.int .i64 d) := (hO.below.cell (p := ⟨ib, io + k * 3, none⟩) HIB.out).trans C0.out; have g := rowA_cell hO 2 0 rfl rfl q hq4; have gf := blk_free (hO.get 2 0 rfl rfl) q; go_wp2_with fail
          have hO := rowA_put hO 2 rfl q (.bool false)
          generalize World.setCell _ _ _ = w5 at hO ⊢
          rw [upd_bool] at hO
          have HB := BN
        case' true =>
          go_wp2_with (first | (go_at_call 23; refine (law16_enter 1 a s t _ hO rfl HE.out CK.out).mono ?_; rintro e w7 ⟨rfl, m1, hO'⟩; have hO := hO'; refine stop_here ?_) | (go_at_call 19; refine (epoch_Exit 1 a s t _ hO rfl HE.out).mono ?_; rw [ET.out]; rintro e w7 ⟨rfl, m1, hO'⟩; have hO := hO'; refine stop_here ?_)); unfold Stop; (try simp only [List.set_cons_zero, List.set_cons_succ, List.cons_append, List.nil_append] at hO); have a0 : _ = some (Value.int .i64 a) := hO.cell 0 0 rfl rfl 0; have a1 : _ = some (Value.int .i64 s) := hO.cell 0 0 rfl rfl 1; have a2 : _ = some (Value.int .i64 t) := hO.cell 0 0 rfl rfl 2; have k0 : _ = some (Value.int .i64 d) := (hO.below.cell (p := ⟨ib, io + k * 3, none⟩) HIB.out).trans C0.out; have g := rowA_cell hO 2 0 rfl rfl q hq4; have gf := blk_free (hO.get 2 0 rfl rfl) q; go_wp2_with fail
          have hO := rowA_put hO 2 rfl q (.bool true)
          generalize World.setCell _ _ _ = w5 at hO ⊢
          rw [upd_bool] at hO
          have HB := BY
      case' neg =>
        have BY := Lib.hid (HB.out.enter (th := th))
        have BN := Lib.hid (HB.out.exit (th := th))
        rw [bNext_out _ _ h1] at BY BN
        rcases (show th < 0 ∨ (0 ≤ th ∧ t ≤ th) by omega) with h2 | ⟨h2, h3⟩
        all_goals
          clear h1
          cases bd
          case' false =>
            go_wp2_with (first | (go_at_call 23; refine (law16_enter 1 a s t _ hO rfl HE.out CK.out).mono ?_; rintro e w7 ⟨rfl, m1, hO'⟩; have hO := hO'; refine stop_here ?_) | (go_at_call 19; refine (epoch_Exit 1 a s t _ hO rfl HE.out).mono ?_; rw [ET.out]; rintro e w7 ⟨rfl, m1, hO'⟩; have hO := hO'; refine stop_here ?_)); unfold Stop
            (try simp only [List.set_cons_zero, List.set_cons_succ, List.cons_append, List.nil_append] at hO); have a0 : _ = some (Value.int .i64 a) := hO.cell 0 0 rfl rfl 0; have a1 : _ = some (Value.int .i64 s) := hO.cell 0 0 rfl rfl 1; have a2 : _ = some (Value.int .i64 t) := hO.cell 0 0 rfl rfl 2
            go_wp2_with fail
            have HB := BN
          case' true =>
            go_wp2_with (first | (go_at_call 23; refine (law16_enter 1 a s t _ hO rfl HE.out CK.out).mono ?_; rintro e w7 ⟨rfl, m1, hO'⟩; have hO := hO'; refine stop_here ?_) | (go_at_call 19; refine (epoch_Exit 1 a s t _ hO rfl HE.out).mono ?_; rw [ET.out]; rintro e w7 ⟨rfl, m1, hO'⟩; have hO := hO'; refine stop_here ?_)); unfold Stop
            (try simp only [List.set_cons_zero, List.set_cons_succ, List.cons_append, List.nil_append] at hO); have a0 : _ = some (Value.int .i64 a) := hO.cell 0 0 rfl rfl 0; have a1 : _ = some (Value.int .i64 s) := hO.cell 0 0 rfl rfl 1; have a2 : _ = some (Value.int .i64 t) := hO.cell 0 0 rfl rfl 2
            go_wp2_with fail
            have HB := BY
      all_goals
        obtain ⟨ws2, I2, m2, hB2, hO2⟩ := bPack HB.out hO
        have hO := hO2
        have hB2' := Lib.hid hB2
        clear HB hO2 hB2 a0 a1 a2
        go_loopw [9, 10] (fun v i wr => ∃ (k2 : Nat) (cur : List Value), i = .int .i64 k2 ∧ k2 ≤ 4 ∧ RowOk v ((wantL I2 k2).map (Value.int .i64)) cur ∧ Owns W.heap.size W wr [[(W.heap.size, Obj.cells #[.int .i64 a, .int .i64 s, .int .i64 t] 23 (0, 0))], memG p bw bb ws2 (List.replicate a.toNat 0) m2, [(nb, Obj.cells (rowA (fun j => Value.bool (I2 j)) 4) 4 (0, 0))], rowG 3 v cur]) (fun _ i _ => 4 - (intOf i).toNat)
        case atStart => exact ⟨0, [], rfl, by omega, RowOk.nil, hO⟩
        case round =>
          clear hO
          obtain ⟨k2, cur, rfl, hk2, hr, hO⟩ := hrel
          have HR := Lib.hid hr
          clear hr
          by_cases hlt2 : k2 < 4
          · have g := rowA_cell hO 2 0 rfl rfl k2 hlt2
            obtain ⟨b2, hb2⟩ : ∃ b, I2 k2 = b := ⟨_, rfl⟩
            simp only [hb2] at g
            have HB3 := Lib.hid hb2
            clear hb2
            cases b2
            case false =>
              go_wp2_with fail
              go_roundw
              case rel => exact ⟨k2 + 1, cur, by go_num, by omega, by rw [wantL, HB3.out]; exact HR.out, hO⟩
              case measure => simp [intOf]; omega
            case true =>
              go_wp2_with (at_builtin; refine stop_here ?_)
              unfold Stop
              refine wpList_append_row rfl (.tmp 82) (.tmp 84) _ rfl 3 (.int .i64 0) 8 Try.underlying40 info_int rfl (by decide) rfl (hO.via (below_alloc _ _)) 3 rfl HR.out ⟨_, 0, none⟩ 1 1 [.int .i64 k2] rfl rfl ?n1 ?n2 (by simp) ?n3 ?_
              case n1 => intro j u hj; cases j with
                | zero => simp at hj; subst hj; refine (blk_cell (blk_new _ _) _).trans ?_; simp
                | succ j => simp at hj
              case n2 => intro u hu; simp at hu; subst hu; rfl
              case n3 => have := wantL_len I2 k2; rw [List.length_map]; simp; omega
              intro v' cur' w' hr' hO'
              have hO := hO'
              have HR := Lib.hid hr'
              clear hr'
              go_wp2_with fail
              go_roundw
              case rel => exact ⟨k2 + 1, cur', by go_num, by omega, by rw [wantL, HB3.out, if_pos rfl, List.map_append]; exact HR.out, by simpa only [List.set_cons_succ, List.set_cons_zero] using hO⟩
              case measure => simp [intOf]; omega
          · have hk4 : k2 = 4 := by omega
            subst hk4
            (try simp only [List.set_cons_zero, List.set_cons_succ, List.cons_append, List.nil_append] at hO); have a0 : _ = some (Value.int .i64 a) := hO.cell 0 0 rfl rfl 0; have a1 : _ = some (Value.int .i64 s) := hO.cell 0 0 rfl rfl 1; have a2 : _ = some (Value.int .i64 t) := hO.cell 0 0 rfl rfl 2
            have HIN := Lib.hid (hB2'.out.inside t4)
            have HE2 := Lib.hid (And.intro hB2'.out.1.2.2.1 hB2'.out.1.2.2.2.1)
            clear hlt2
            go_wp2_with fail
            refine (epoch_Inside 1 a s t hO rfl HE2.out.1 HE2.out.2 CK.out).mono ?_; rw [HIN.out]; rintro e w8 ⟨v8, cur8, m8, rfl, hr8, hO'⟩
            have hO := hO'.last; (try simp only [List.set_cons_zero, List.set_cons_succ, List.cons_append, List.nil_append] at hO); have a0 : _ = some (Value.int .i64 a) := hO.cell 0 0 rfl rfl 0; have a1 : _ = some (Value.int .i64 s) := hO.cell 0 0 rfl rfl 1; have a2 : _ = some (Value.int .i64 t) := hO.cell 0 0 rfl rfl 2
            have R1 := Reads.row hr8 hO 4 rfl (by have := wantL_len I2 4; omega)
            have R2 := Reads.row HR.out hO 3 rfl (by have := wantL_len I2 4; omega)
            have HR8 := Lib.hid hr8
            clear hr8
            go_wp2_with fail
            refine (ref01_Same _ _ _ _ _ R1 R2).mono ?_; rw [show sameB (wantL I2 4) (wantL I2 4) = true from decide_eq_true rfl]; rintro e w9 ⟨rfl, hb⟩; have hO := hO.via hb; (try simp only [List.set_cons_zero, List.set_cons_succ, List.cons_append, List.nil_append] at hO); have a0 : _ = some (Value.int .i64 a) := hO.cell 0 0 rfl rfl 0; have a1 : _ = some (Value.int .i64 s) := hO.cell 0 0 rfl rfl 1; have a2 : _ = some (Value.int .i64 t) := hO.cell 0 0 rfl rfl 2
            clear R1 R2
            go_wp2_with fail
            go_roundw
            case rel => exact ⟨k + 1, m8, ws2, I2, by go_num, by omega, hB2'.out, (hO.drop 4).drop 3⟩
            case measure => simp [intOf]; omega
    · have hge : decide (k < xs.length) = false := by rw [decide_eq_false_iff_not]; omega
      clear hlt
      go_wp2_with (go_at_call 12; refine (law16_live _).mono ?_; rintro e w2 ⟨rfl, hb⟩; have hO := hO.via hb)
      go_ret
      exact ⟨rfl, hO.below⟩
set_option maxRecDepth 100000 in
theorem EpochInside_walk (a s t : Int) (v : Value) (xs : List (List Value)) (W : World) (hs : SArg W [true, true, true] v xs) : Calls Try.prog 6 #[.agg #[.int .i64 a, .int .i64 s, .int .i64 t], v] W fun e w' => e = .returned (.bool true) ∧ Below W.heap.size W w' := by
  rcases bool_cases (b := cfgOk a s t) with hc | hc
  · by_cases hn : xs.length ≤ 20
    · exact EpochInside_go a s t v xs W hs hc hn
    · exact EpochInside_far a s t v xs W hs hc hn
  · exact EpochInside_no a s t v xs W hs hc
end Go.Proofs.Ytpfahnnmbaipdaa
