/- The epoch law EpochAlone. -/
import Derived.Test.YtpfahnnmbaipdaaEpA0
import Derived.Test.YtpfahnnmbaipdaaFlat
namespace Go.Proofs.Ytpfahnnmbaipdaa
set_option linter.unusedVariables false
set_option linter.unusedSimpArgs false
open Go.RowKit
set_option maxRecDepth 100000 in
set_option maxHeartbeats 8000000 in
theorem EpochAlone_no (a s t : Int) (v : Value) (xs : List (List Value)) (n : Int) (W : World) (hs : SArg W [true] v xs) (hc : cfgOk a s t = false) : Calls Try.prog 4 #[.agg #[.int .i64 a, .int .i64 s, .int .i64 t], v, .int .i64 n] W fun e w' => e = .returned (.bool true) ∧ Below W.heap.size W w' := by
  obtain ⟨pa, cap, rfl, hl, hx⟩ := hs.form
  have CK := Lib.hid hc
  clear hc hx hs
  go_enter Try.func4, Try.ntmps4; go_wp2_with fail; have hO := (Owns.nil W).more (.cells #[.int .i64 a, .int .i64 s, .int .i64 t] 23); generalize W.alloc (.cells #[.int .i64 a, .int .i64 s, .int .i64 t] 23) = w0 at hO ⊢
  refine (law16_start_no a s t _ CK.out).mono ?_; rintro e w1 ⟨rfl, hb⟩
  have hO := hO.via hb; (try simp only [List.set_cons_zero, List.set_cons_succ, List.cons_append, List.nil_append] at hO); have a0 : _ = some (Value.int .i64 a) := hO.cell 0 0 rfl rfl 0; have a1 : _ = some (Value.int .i64 s) := hO.cell 0 0 rfl rfl 1; have a2 : _ = some (Value.int .i64 t) := hO.cell 0 0 rfl rfl 2
  go_wp2_with first
    | (go_at_call 12; refine (law16_live _).mono ?_; rintro e w2 ⟨rfl, hb⟩; have hO := hO.via hb)
    | (go_at_call 14; refine (ref06_May _ _ _ _).mono ?_; rw [CK.out]; rintro e w4 ⟨rfl, hb⟩; have hO := hO.via hb)
  go_ret
  exact ⟨rfl, hO.below⟩
set_option maxRecDepth 100000 in
set_option maxHeartbeats 8000000 in
theorem EpochAlone_far (a s t : Int) (v : Value) (xs : List (List Value)) (n : Int) (W : World) (hs : SArg W [true] v xs) (hc : cfgOk a s t = true) (hn : ¬ (0 ≤ n ∧ n ≤ 10 ∧ xs.length ≤ 10)) : Calls Try.prog 4 #[.agg #[.int .i64 a, .int .i64 s, .int .i64 t], v, .int .i64 n] W fun e w' => e = .returned (.bool true) ∧ Below W.heap.size W w' := by
  obtain ⟨pa, cap, rfl, hl, hx⟩ := hs.form
  have CK := Lib.hid hc
  have hn' : n < 0 ∨ (0 ≤ n ∧ 10 < n) ∨ (0 ≤ n ∧ n ≤ 10 ∧ 10 < xs.length) := by omega
  clear hc hx hs hn
  rcases hn' with q1 | ⟨q1, q2⟩ | ⟨q1, q2, q3⟩
  all_goals
    go_enter Try.func4, Try.ntmps4; go_wp2_with fail; have hO := (Owns.nil W).more (.cells #[.int .i64 a, .int .i64 s, .int .i64 t] 23); generalize W.alloc (.cells #[.int .i64 a, .int .i64 s, .int .i64 t] 23) = w0 at hO ⊢
    refine (law16_start a s t hO CK.out).mono ?_; rintro e w1 ⟨p, bw, bb, m, rfl, hO'⟩
    have hO := hO'.last; (try simp only [List.set_cons_zero, List.set_cons_succ, List.cons_append, List.nil_append] at hO); have a0 : _ = some (Value.int .i64 a) := hO.cell 0 0 rfl rfl 0; have a1 : _ = some (Value.int .i64 s) := hO.cell 0 0 rfl rfl 1; have a2 : _ = some (Value.int .i64 t) := hO.cell 0 0 rfl rfl 2
    go_wp2_with (go_at_call 12; refine (law16_live _).mono ?_; rintro e w2 ⟨rfl, hb⟩; have hO := hO.via hb)
    go_ret
    exact ⟨rfl, hO.below⟩
set_option maxRecDepth 100000 in
set_option maxHeartbeats 8000000 in
theorem EpochAlone_go (a s t : Int) (v : Value) (xs : List (List Value)) (n : Int) (W : World) (hs : SArg W [true] v xs) (hc : cfgOk a s t = true) (n0 : 0 ≤ n) (n1 : n ≤ 10) (hx10 : xs.length ≤ 10) : Calls Try.prog 4 #[.agg #[.int .i64 a, .int .i64 s, .int .i64 t], v, .int .i64 n] W fun e w' => e = .returned (.bool true) ∧ Below W.heap.size W w' := by
  obtain ⟨pa, cap, rfl, hl, hx⟩ := hs.form
  have CK := Lib.hid hc
  obtain ⟨-, -, -, s1, s4, t1, t4⟩ := cfgOk_of hc
  have HX := Lib.hid hx
  obtain ⟨N, hN⟩ : ∃ N : Nat, n = N := ⟨n.toNat, by omega⟩
  subst hN
  have n1' : N ≤ 10 := by omega
  have d1 : decide ((N : Int) < 0) = false := by rw [decide_eq_false_iff_not]; omega
  have d2 : decide (10 < (N : Int)) = false := by rw [decide_eq_false_iff_not]; omega
  have d3 : decide (10 < (xs.length : Int)) = false := by rw [decide_eq_false_iff_not]; omega
  clear hc hx hs
  go_enter Try.func4, Try.ntmps4; go_wp2_with fail; have hO := (Owns.nil W).more (.cells #[.int .i64 a, .int .i64 s, .int .i64 t] 23); generalize W.alloc (.cells #[.int .i64 a, .int .i64 s, .int .i64 t] 23) = w0 at hO ⊢
  refine (law16_start a s t hO CK.out).mono ?_; rintro e w1 ⟨p, bw, bb, m, rfl, hO'⟩
  have hO := hO'.last; (try simp only [List.set_cons_zero, List.set_cons_succ, List.cons_append, List.nil_append] at hO); have a0 : _ = some (Value.int .i64 a) := hO.cell 0 0 rfl rfl 0; have a1 : _ = some (Value.int .i64 s) := hO.cell 0 0 rfl rfl 1; have a2 : _ = some (Value.int .i64 t) := hO.cell 0 0 rfl rfl 2
  have H0 := Lib.hid (EpSt.init t1 t4 s1 s4)
  go_wp2_with fail
  clear a0 a1 a2 d1 d2 d3
  go_loopw [8] (fun i wr => ∃ (k : Nat) (m : Int) (ws : List Int), i = .int .i64 k ∧ k ≤ N ∧ EpSt t ws k (fun _ => 0) ∧ Owns W.heap.size W wr [[(W.heap.size, Obj.cells #[.int .i64 a, .int .i64 s, .int .i64 t] 23 (0, 0))], memG p bw bb ws (List.replicate a.toNat 0) m]) (fun i _ => N - (intOf i).toNat)
  case atStart => exact ⟨0, m, _, rfl, by omega, H0.out, hO⟩
  case round =>
    clear hO
    obtain ⟨k, m, ws, rfl, hk, hE, hO⟩ := hrel
    (try simp only [List.set_cons_zero, List.set_cons_succ, List.cons_append, List.nil_append] at hO); have a0 : _ = some (Value.int .i64 a) := hO.cell 0 0 rfl rfl 0; have a1 : _ = some (Value.int .i64 s) := hO.cell 0 0 rfl rfl 1; have a2 : _ = some (Value.int .i64 t) := hO.cell 0 0 rfl rfl 2
    have HE := Lib.hid hE
    clear hE
    by_cases hlt : k < N
    · go_wp2_with fail
      refine (law16_turn 1 a s t hO rfl HE.out.2.2.1 HE.out.1 HE.out.2.2.2.1 CK.out).mono ?_; rintro e w2 ⟨is, c, m1, rfl, ht, hO'⟩
      have HE1 := Lib.hid (HE.out.turn (by omega) (by omega))
      obtain ⟨rfl, rfl⟩ := TurnOut.yes HE1.out ht (fun j _ => dOlder_zero _)
      clear ht
      have hO := hO'; (try simp only [List.set_cons_zero, List.set_cons_succ, List.cons_append, List.nil_append] at hO); have a0 : _ = some (Value.int .i64 a) := hO.cell 0 0 rfl rfl 0; have a1 : _ = some (Value.int .i64 s) := hO.cell 0 0 rfl rfl 1; have a2 : _ = some (Value.int .i64 t) := hO.cell 0 0 rfl rfl 2
      go_wp2_with fail
      go_roundw
      case rel => exact ⟨k + 1, m1, _, by go_num, by omega, by have := HE1.out; simpa using this, hO⟩
      case measure => simp [intOf]; omega
    · have hkN : k = N := by omega
      have H2 := Lib.hid (show A2 t N (fun i => getI xs i 0) 0 ws true from A2.init (by have := HE.out; rwa [hkN] at this))
      have hge : decide (k < N) = false := by rw [decide_eq_false_iff_not]; omega
      clear hkN hlt
      go_wp2_with fail
      clear hge
      clear a0 a1 a2
      clear HE hO'
      go_loopw [11, 12] (fun v i wr => ∃ (k : Nat) (m : Int) (ws : List Int) (b : Bool), i = .int .i64 k ∧ v = .bool b ∧ k ≤ xs.length ∧ A2 t N (fun i => getI xs i 0) k ws b ∧ Owns W.heap.size W wr [[(W.heap.size, Obj.cells #[.int .i64 a, .int .i64 s, .int .i64 t] 23 (0, 0))], memG p bw bb ws (List.replicate a.toNat 0) m]) (fun _ i _ => xs.length - (intOf i).toNat)
      case atStart => exact ⟨0, m, ws, true, rfl, rfl, by omega, H2.out, hO⟩
      case round =>
        clear hO H2 m ws
        obtain ⟨k, m, ws, b, rfl, rfl, hk, hA, hO⟩ := hrel
        (try simp only [List.set_cons_zero, List.set_cons_succ, List.cons_append, List.nil_append] at hO); have a0 : _ = some (Value.int .i64 a) := hO.cell 0 0 rfl rfl 0; have a1 : _ = some (Value.int .i64 s) := hO.cell 0 0 rfl rfl 1; have a2 : _ = some (Value.int .i64 t) := hO.cell 0 0 rfl rfl 2
        have HA := Lib.hid hA
        have hE := hA.choose_spec.1
        have HE := Lib.hid (show ws.length ≤ 4096 ∧ 8 ≤ ws.length ∧ WOk ws from ⟨hE.2.2.1, hE.1, hE.2.2.2.1⟩)
        clear hA hE
        by_cases hlt : k < xs.length
        · obtain ⟨ib, io, rfl, hib, hI, -⟩ := HX.out k hlt
          have ck := (hI 0 rfl).1
          simp only [List.length_cons, List.length_nil, Nat.mul_one, Nat.add_zero, Nat.zero_add] at ck
          obtain ⟨x, hx⟩ : ∃ x, getI xs k 0 = x := ⟨_, rfl⟩
          rw [hx] at ck
          have hxb : -9223372036854775808 ≤ x ∧ x ≤ 9223372036854775807 := by rw [← hx]; exact (hI 0 rfl).2
          obtain ⟨x0, x1⟩ := hxb
          have HXX := Lib.hid hx
          have CW := Lib.hid ck
          have HIB := Lib.hid hib
          have ck : wr.cell? ⟨ib, io + k, none⟩ = some (.int .i64 x) := (hO.below.cell (p := ⟨ib, io + k, none⟩) hib).trans ck
          clear hI hx
          go_wp2_with fail
          have hO := hO.drew
          first
            | go_loud (go_region_held3 (fun w => w.cell? ⟨W.heap.size, 0, none⟩ = some (.int .i64 a) ∧ w.cell? ⟨W.heap.size, 1, none⟩ = some (.int .i64 s) ∧ w.cell? ⟨W.heap.size, 2, none⟩ = some (.int .i64 t) ∧ w.cell? ⟨ib, io + k, none⟩ = some (.int .i64 x)) (first | assumption | exact ⟨hO.cell 0 0 rfl rfl 0, hO.cell 0 0 rfl rfl 1, hO.cell 0 0 rfl rfl 2, (hO.below.cell (p := ⟨ib, io + k, none⟩) HIB.out).trans CW.out⟩) ((go_at_call 23; refine (law16_enter 1 a s t x hO rfl HE.out.1 CK.out).mono ?_; rintro e w7 ⟨rfl, m1, hO'⟩; have hO := hO')))
            | fail "enter"
          all_goals
            (try simp only [List.set_cons_zero, List.set_cons_succ, List.cons_append, List.nil_append] at hO); have a0 : _ = some (Value.int .i64 a) := hO.cell 0 0 rfl rfl 0; have a1 : _ = some (Value.int .i64 s) := hO.cell 0 0 rfl rfl 1; have a2 : _ = some (Value.int .i64 t) := hO.cell 0 0 rfl rfl 2
            have ck : w7.cell? ⟨ib, io + k, none⟩ = some (.int .i64 x) := (hO.below.cell (p := ⟨ib, io + k, none⟩) HIB.out).trans CW.out
            obtain ⟨q1, hq1⟩ : ∃ q, decide (x < 0) = q := ⟨_, rfl⟩
            obtain ⟨q2, hq2⟩ : ∃ q, decide (t ≤ x) = q := ⟨_, rfl⟩
            have Q := Lib.hid (And.intro hq1 hq2)
            cases b <;> cases q1 <;> cases q2
          all_goals
            try (exfalso; have h1 := of_decide_eq_true hq1; have h2 := of_decide_eq_true hq2; omega)
          all_goals
            go_wp2_with fail
            go_quiet (fail)
            go_wp2_with fail
            go_roundw
            case rel =>
              refine ⟨k + 1, m1, _, _, by go_num, rfl, by omega, ?_, hO.drewN _⟩
              first
                | (have := HA.out.out (by omega) (by omega) (by show ¬ (0 ≤ getI xs k 0 ∧ getI xs k 0 < t); rw [HXX.out]; have := Q.out; simp at this; omega); rw [← HXX.out]; exact this)
                | (have := HA.out.inr (by omega) (by omega) (by show 0 ≤ getI xs k 0; rw [HXX.out]; have := Q.out; simp at this; omega) (by show getI xs k 0 < t; rw [HXX.out]; have := Q.out; simp at this; omega); rw [← HXX.out]; exact this)
            case measure => simp [intOf]; omega
        · have hkl : k = xs.length := by omega
          have hge : decide (k < xs.length) = false := by rw [decide_eq_false_iff_not]; omega
          clear hlt
          go_wp2_with fail
          clear hge
          refine (law16_turn 1 a s t hO rfl HE.out.1 HE.out.2.1 HE.out.2.2 CK.out).mono ?_; rintro e w2 ⟨is, c, m1, rfl, ht, hO'⟩
          obtain ⟨rfl, hA3⟩ := HA.out.turn (by omega) (by omega) ht
          rw [hkl] at hA3
          have HA3 := Lib.hid hA3
          clear ht hA3 hkl
          have hO := hO'; (try simp only [List.set_cons_zero, List.set_cons_succ, List.cons_append, List.nil_append] at hO); have a0 : _ = some (Value.int .i64 a) := hO.cell 0 0 rfl rfl 0; have a1 : _ = some (Value.int .i64 s) := hO.cell 0 0 rfl rfl 1; have a2 : _ = some (Value.int .i64 t) := hO.cell 0 0 rfl rfl 2
          go_wp2_with fail
          clear a0 a1 a2
          clear hO' HE HA
          go_loopw [15] (fun i wr => ∃ (k : Nat) (m : Int) (ws : List Int), i = .int .i64 k ∧ k ≤ xs.length ∧ A3 t N (fun i => getI xs i 0) xs.length k ws ∧ Owns W.heap.size W wr [[(W.heap.size, Obj.cells #[.int .i64 a, .int .i64 s, .int .i64 t] 23 (0, 0))], memG p bw bb ws (List.replicate a.toNat 0) m]) (fun i _ => xs.length - (intOf i).toNat)
          case atStart => exact ⟨0, m1, _, rfl, by omega, HA3.out, hO⟩
          case round =>
            clear hO HA3
            obtain ⟨k, m, ws, rfl, hk, hA, hO⟩ := hrel
            (try simp only [List.set_cons_zero, List.set_cons_succ, List.cons_append, List.nil_append] at hO); have a0 : _ = some (Value.int .i64 a) := hO.cell 0 0 rfl rfl 0; have a1 : _ = some (Value.int .i64 s) := hO.cell 0 0 rfl rfl 1; have a2 : _ = some (Value.int .i64 t) := hO.cell 0 0 rfl rfl 2
            have HA := Lib.hid hA
            have hE := hA.choose_spec.1
            have HE := Lib.hid (show ws.length ≤ 4096 ∧ 8 ≤ ws.length ∧ WOk ws from ⟨hE.2.2.1, hE.1, hE.2.2.2.1⟩)
            clear hA hE
            by_cases hlt : k < xs.length
            · obtain ⟨ib, io, rfl, hib, hI, -⟩ := HX.out k hlt
              have ck := (hI 0 rfl).1
              simp only [List.length_cons, List.length_nil, Nat.mul_one, Nat.add_zero, Nat.zero_add] at ck
              obtain ⟨x, hx⟩ : ∃ x, getI xs k 0 = x := ⟨_, rfl⟩
              rw [hx] at ck
              have HXX := Lib.hid hx
              have CW := Lib.hid ck
              have HIB := Lib.hid hib
              have ck : wr.cell? ⟨ib, io + k, none⟩ = some (.int .i64 x) := (hO.below.cell (p := ⟨ib, io + k, none⟩) hib).trans ck
              have ET := Lib.hid (of_yes CK.out).1
              clear hI hx
              go_wp2_with fail
              have hO := hO.drew
              first
                | go_loud (go_region_held3 (fun w => w.cell? ⟨W.heap.size, 0, none⟩ = some (.int .i64 a) ∧ w.cell? ⟨W.heap.size, 1, none⟩ = some (.int .i64 s) ∧ w.cell? ⟨W.heap.size, 2, none⟩ = some (.int .i64 t) ∧ w.cell? ⟨ib, io + k, none⟩ = some (.int .i64 x)) (first | assumption | exact ⟨hO.cell 0 0 rfl rfl 0, hO.cell 0 0 rfl rfl 1, hO.cell 0 0 rfl rfl 2, (hO.below.cell (p := ⟨ib, io + k, none⟩) HIB.out).trans CW.out⟩) ((go_at_call 19; refine (epoch_Exit 1 a s t x hO rfl HE.out.1).mono ?_; rw [ET.out]; rintro e w7 ⟨rfl, m1, hO'⟩; have hO := hO')))
                | fail "exit"
              all_goals
                go_wp2_with fail
                go_roundw
                case rel => exact ⟨k + 1, m1, _, by go_num, by omega, by have := HA.out.step; rw [← HXX.out]; exact this, hO⟩
                case measure => simp [intOf]; omega
            · have hkl : k = xs.length := by omega
              have hE := (show A3 t N (fun i => getI xs i 0) xs.length xs.length ws by rw [← hkl]; exact hkl ▸ HA.out).last
              have HA4 := Lib.hid hE
              have HA5 := Lib.hid (hE.turn (by omega) (by omega))
              have hge : decide (k < xs.length) = false := by rw [decide_eq_false_iff_not]; omega
              clear hlt hE hkl
              go_wp2_with fail
              clear hge
              refine (law16_turn 1 a s t hO rfl HE.out.1 HE.out.2.1 HE.out.2.2 CK.out).mono ?_; rintro e w2 ⟨is2, c2, m1, rfl, ht, hO'⟩
              obtain ⟨rfl, rfl⟩ := TurnOut.yes HA5.out ht (fun j _ => dOlder_zero _)
              clear ht
              have hO := hO'; (try simp only [List.set_cons_zero, List.set_cons_succ, List.cons_append, List.nil_append] at hO); have a0 : _ = some (Value.int .i64 a) := hO.cell 0 0 rfl rfl 0; have a1 : _ = some (Value.int .i64 s) := hO.cell 0 0 rfl rfl 1; have a2 : _ = some (Value.int .i64 t) := hO.cell 0 0 rfl rfl 2
              have L3 := Lib.hid (show wAt (turnW ws) 3 = N + 2 by have := HA5.out.2.2.2.2.1; omega)
              have HL3 := Lib.hid HA5.out.2.2.1
              cases is
              all_goals
                go_wp2_with first
                  | (go_at_call 12; refine (law16_live _).mono ?_; rintro e w2 ⟨rfl, hb⟩; have hO := hO.via hb)
                  | (go_at_call 16; refine (plain_Load 1 3 hO rfl HL3.out).mono ?_; rw [L3.out]; rintro e w8 ⟨rfl, hO'⟩; have hO := hO')
                go_ret
                exact ⟨rfl, hO.below⟩
set_option maxRecDepth 100000 in
theorem EpochAlone_walk (a s t : Int) (v : Value) (xs : List (List Value)) (n : Int) (W : World) (hs : SArg W [true] v xs) : Calls Try.prog 4 #[.agg #[.int .i64 a, .int .i64 s, .int .i64 t], v, .int .i64 n] W fun e w' => e = .returned (.bool true) ∧ Below W.heap.size W w' := by
  rcases bool_cases (b := cfgOk a s t) with hc | hc
  · by_cases hn : 0 ≤ n ∧ n ≤ 10 ∧ xs.length ≤ 10
    · exact EpochAlone_go a s t v xs n W hs hc hn.1 hn.2.1 hn.2.2
    · exact EpochAlone_far a s t v xs n W hs hc hn
  · exact EpochAlone_no a s t v xs n W hs hc
end Go.Proofs.Ytpfahnnmbaipdaa
