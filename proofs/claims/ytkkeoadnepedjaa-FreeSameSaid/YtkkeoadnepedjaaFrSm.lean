/- The free law FreeSame. -/
import Derived.Test.YtkkeoadnepedjaaFrA0
import Derived.Test.YtkkeoadnepedjaaAlI
import Derived.Test.YtkkeoadnepedjaaFrLv
import Derived.Test.YtkkeoadnepedjaaFlat
import Derived.Test.YtkkeoadnepedjaaSA15
namespace Go.Proofs.Ytkkeoadnepedjaa
set_option linter.unusedVariables false
set_option linter.unusedSimpArgs false
open Go.RowKit
/-- what the first object of all comes to. -/
theorem fr_first {a s t n : Int} (hc : cfgOk a s t = true) (tk : Nat) : ∃ q code rn N, mRun (alF1 (alC0 a s t n tk)) 1000 1000 ⟨initW t s, List.replicate a.toNat 0, alV0 1⟩ = (q, (code, rn), N) ∧ q.ws.length = (4 + t + 3 * s).toNat ∧ q.bs.length = a.toNat ∧ WB q.bs ∧
    (((code == 0) = false ∧ rn = 0) ∨ (code = 0 ∧ rn = 1099511627776 ∧ wAt q.ws (4 + t) = eWord 0 0 0 0 false true ∧ wAt q.ws 1 = topAt s 1 + 1048576)) := by
  rw [alC0_yes hc]
  have P := al_pre_init hc
  have P' : AlPre ⟨t, s, a, n, (hRound n).1, tk, 0⟩ (initW t s) (List.replicate a.toNat 0) 0 0 0 := P.of rfl rfl rfl
  have s1 : 1 ≤ s := P.s1
  have len : (initW t s).length = (4 + t + 3 * s).toNat := P.len
  have wz : WB (List.replicate a.toNat (0 : Int)) := fun x hx => by rw [List.eq_of_mem_replicate hx]; exact ⟨by decide, by decide⟩
  rcases hRound_by n with ⟨h0, -⟩ | ⟨-, h1, h2⟩
  · refine ⟨⟨initW t s, List.replicate a.toNat 0, alV0 0⟩, 9, 0, 1, ?_, len, by simp, wz, .inl ⟨rfl, rfl⟩⟩
    have := g1e (c := ⟨t, s, a, n, (hRound n).1, tk, 0⟩) (ws := initW t s) (bs := List.replicate a.toNat 0) (v := alV0 1) rfl h0
    rw [mRun_done (by rw [this]), this]
    rfl
  · by_cases hr : a - (hRound n).1 < 0
    · obtain ⟨q, N, e, b, l, w⟩ := al_noroom P' (by show 1 ≤ (hRound n).1; omega) h2 (by show 0 < s; omega) hr
      exact ⟨q, 10, 0, N, e, by rw [l, len], by rw [b]; simp, by rw [b]; exact wz, .inl ⟨rfl, rfl⟩⟩
    · obtain ⟨q, N, e, b, l, w⟩ := al_made P' (by show 1 ≤ (hRound n).1; omega) h2 (by show 0 < s; omega) (by show 0 ≤ a - (hRound n).1; omega)
      refine ⟨q, 0, _, N, e, by rw [l, len], by rw [b, clr_len]; simp, by rw [b]; exact wz.clr _ _, .inr ⟨rfl, rfl, ?_, ?_⟩⟩
      · have t1 : 1 ≤ t := P.t1
        have := w (4 + t)
        rw [if_neg (by omega), if_neg (by omega), if_pos (by show 4 + t = 4 + t + 3 * 0; omega)] at this
        rw [this]; decide
      · have := w 1
        rw [if_neg (by omega), if_pos rfl] at this
        rw [this]
        show topAt s (0 + 1) + 1048576 * dNext 0 = _
        rw [show dNext 0 = 1 by decide]; rfl
set_option maxRecDepth 100000 in
set_option maxHeartbeats 8000000 in
theorem FreeSame_no (a s t n : Int) (W : World) (hc : cfgOk a s t = false) : Calls Try.prog 7 #[.agg #[.int .i64 a, .int .i64 s, .int .i64 t], .int .i64 n] W fun e w' => e = .returned (.bool true) ∧ Below W.heap.size W w' := by
  have CK := Lib.hid hc
  clear hc
  go_enter Try.func7, Try.ntmps7
  go_wp2_with fail
  have hP := (Owns.nil W).more (.cells #[.int .i64 a, .int .i64 s, .int .i64 t] 25)
  generalize W.alloc (.cells #[.int .i64 a, .int .i64 s, .int .i64 t] 25) = w0 at hP ⊢
  refine (law15_start_no a s t _ CK.out).mono ?_; rintro e w1 ⟨rfl, hb⟩
  have hO' := hP.via hb; clear hP; have hP := hO'; clear hO'
  have a0 : _ = some (Value.int .i64 a) := hP.cell 0 0 rfl rfl 0; have a1 : _ = some (Value.int .i64 s) := hP.cell 0 0 rfl rfl 1; have a2 : _ = some (Value.int .i64 t) := hP.cell 0 0 rfl rfl 2
  go_wp2_with first
    | (go_at_call 25; refine (ref06_May _ _ _ _).mono ?_; rw [CK.out]; rintro e w4 ⟨rfl, hb⟩; have hO' := hP.via hb; clear hP; have hP := hO'; clear hO')
    | (go_at_call 11; refine (law15_live _).mono ?_; rintro e w2 ⟨rfl, hb⟩; have hO' := hP.via hb; clear hP; have hP := hO'; clear hO')
  go_ret
  exact ⟨rfl, hP.below⟩
set_option maxRecDepth 100000 in
set_option maxHeartbeats 8000000 in
theorem FreeSame_far (a s t n : Int) (W : World) (hc : cfgOk a s t = true) (ha : 300 < a) : Calls Try.prog 7 #[.agg #[.int .i64 a, .int .i64 s, .int .i64 t], .int .i64 n] W fun e w' => e = .returned (.bool true) ∧ Below W.heap.size W w' := by
  have CK := Lib.hid hc
  clear hc
  go_enter Try.func7, Try.ntmps7
  go_wp2_with fail
  have hP := (Owns.nil W).more (.cells #[.int .i64 a, .int .i64 s, .int .i64 t] 25)
  generalize W.alloc (.cells #[.int .i64 a, .int .i64 s, .int .i64 t] 25) = w0 at hP ⊢
  refine (law15_start a s t hP CK.out).mono ?_; rintro e w1 ⟨p, bw, bb, m, rfl, hO'⟩; clear hP; have hP := hO'; clear hO'; (try simp only [List.set_cons_zero, List.set_cons_succ, List.cons_append, List.nil_append, List.eraseIdx_cons_succ, List.eraseIdx_cons_zero] at hP)
  have a0 : _ = some (Value.int .i64 a) := hP.cell 1 0 rfl rfl 0
  go_wp2_with first
    | (go_at_call 11; refine (law15_live _).mono ?_; rintro e w2 ⟨rfl, hb⟩; have hO' := hP.via hb; clear hP; have hP := hO'; clear hO')
  go_ret
  exact ⟨rfl, hP.below⟩
set_option maxRecDepth 100000 in
set_option maxHeartbeats 16000000 in
theorem FreeSame_go (a s t n : Int) (W : World) (hc : cfgOk a s t = true) (ha : a ≤ 300) : Calls Try.prog 7 #[.agg #[.int .i64 a, .int .i64 s, .int .i64 t], .int .i64 n] W fun e w' => e = .returned (.bool true) ∧ Below W.heap.size W w' := by
  have CK := Lib.hid hc
  obtain ⟨A0, A1, -, S0, S1, T1, T4⟩ := cfgOk_of hc
  have hi0 := (al_pre_init hc).lens
  have HI := Lib.hid hi0
  obtain ⟨A, hA⟩ : ∃ A : Nat, a = A := ⟨a.toNat, by omega⟩
  subst hA
  have d3 : decide ((300 : Int) < A) = false := by rw [decide_eq_false_iff_not]; omega
  have LOK := Lib.hid (show ∀ st, lOk (⟨t, s, 0, 0, st, 0⟩ : FrC).t (⟨t, s, 0, 0, st, 0⟩ : FrC).s from fun st => lOk_yes hc)
  have HNX := Lib.hid (alNx_yes hc)
  have HN0 := Lib.hid (show frNewC A s t 0 = ⟨t, s, 0, 0, true, 0⟩ by
    obtain ⟨h1, h2, -⟩ := of_yes hc
    unfold frNewC; rw [h1, h2, hOf_no (by unfold hIs; omega)]; rfl)
  have HN1 := Lib.hid (show frNewC A s t 1099511627776 = ⟨t, s, 0, 0, false, 0⟩ by
    obtain ⟨h1, h2, -⟩ := of_yes hc
    have hi : hIs 1099511627776 := by unfold hIs; omega
    unfold frNewC; rw [h1, h2, hOf_yes hi (by rw [hSlot_is hi]; omega), hSlot_is hi, hGen_is hi]; rfl)
  clear hc hi0
  go_enter Try.func7, Try.ntmps7
  go_wp2_with fail
  have hP := (Owns.nil W).more (.cells #[.int .i64 (A : Int), .int .i64 s, .int .i64 t] 25)
  generalize hcb : W.heap.size = cb at hP ⊢
  have HC := Lib.hid hcb
  clear hcb
  generalize W.alloc (.cells #[.int .i64 (A : Int), .int .i64 s, .int .i64 t] 25) = w0 at hP ⊢
  refine (law15_start A s t hP CK.out).mono ?_; rintro e w1 ⟨p, bw, bb, m, rfl, hO'⟩; clear hP; have hP := hO'; clear hO'; (try simp only [List.set_cons_zero, List.set_cons_succ, List.cons_append, List.nil_append, List.eraseIdx_cons_succ, List.eraseIdx_cons_zero] at hP)
  have a0 : _ = some (Value.int .i64 (A : Int)) := hP.cell 1 0 rfl rfl 0; have a1 : _ = some (Value.int .i64 s) := hP.cell 1 0 rfl rfl 1; have a2 : _ = some (Value.int .i64 t) := hP.cell 1 0 rfl rfl 2; have az := hP.lt 1 0 rfl rfl
  go_wp2_with fail
  refine (law15_make1 A s t n CK.out hP HI.out.1 HI.out.2.1).mono ?_
  rintro e w2 ⟨tk, r, hr, rfl, m2, hO'⟩; clear hP; have hP := hO'; clear hO'; (try simp only [List.set_cons_zero, List.set_cons_succ, List.cons_append, List.nil_append, List.eraseIdx_cons_succ, List.eraseIdx_cons_zero] at hP)
  obtain ⟨q, code, rn, N, he, hwl, hbl, hwb, hway⟩ := fr_first (n := n) CK.out tk
  rw [he] at hr
  subst hr
  simp only at hP
  clear he
  clear a0 a1 a2 az
  have HWB := Lib.hid hwb
  have l1 : q.ws.length ≤ 4096 := by omega
  have l2 : q.bs.length ≤ 4096 := by omega
  have l3 : 1 ≤ q.ws.length := by omega
  have HWL := Lib.hid hwl
  have HBL := Lib.hid hbl
  have HWAY := Lib.hid hway
  clear hwl hbl hwb hway
  have a0 : _ = some (Value.int .i64 (A : Int)) := hP.cell 1 0 rfl rfl 0; have a1 : _ = some (Value.int .i64 s) := hP.cell 1 0 rfl rfl 1; have a2 : _ = some (Value.int .i64 t) := hP.cell 1 0 rfl rfl 2; have az := hP.lt 1 0 rfl rfl
  go_upto_region 5 with fail
  have hO' := hP.more (.cells #[.int .i64 code, .int .i64 rn] 41); clear hP; have hP := hO'; clear hO'; (try simp only [List.set_cons_zero, List.set_cons_succ, List.cons_append, List.nil_append, List.eraseIdx_cons_succ, List.eraseIdx_cons_zero] at hP)
  generalize w2.heap.size = hb at hP ⊢
  generalize w2.alloc _ = w3 at hP ⊢
  clear a0 a1 a2 az
  go_wp2_with fail
  refine (plain_Copy 0 hP rfl l1 l2 l3).mono ?_; rintro e w4 ⟨p2, bw2, bb2, rfl, hO'⟩; clear hP; have hP := hO'; clear hO'
  have a0 : _ = some (Value.int .i64 (A : Int)) := hP.cell 2 0 rfl rfl 0; have a1 : _ = some (Value.int .i64 s) := hP.cell 2 0 rfl rfl 1; have a2 : _ = some (Value.int .i64 t) := hP.cell 2 0 rfl rfl 2; have az := hP.lt 2 0 rfl rfl
  have h1 : _ = some (Value.int .i64 rn) := hP.cell 3 0 rfl rfl 1
  have h0 : _ = some (Value.int .i64 code) := hP.cell 3 0 rfl rfl 0
  rcases HWAY.out with ⟨hcode, rfl⟩ | ⟨rfl, rfl, hx, hh⟩
  · go_wp2_with fail
    refine (free_New A s t 0 (by decide) (by decide) hP).mono ?_; rintro e w5 ⟨x, rfl, hO'⟩; rw [HN0.out, HNX.out] at hO'; clear hP; have hP := hO'; clear hO'; have hO' := own3 hP; clear hP; have hP := hO'; clear hO'
    clear h0 h1
    clear a0 a1 a2 az
    go_wp2_with fail
    refine (free_run 10 (by decide) hP (LOK.out true) l1 frV1_in _ (fr_stale rfl)).mono ?_; simp only [resN]; rintro e w6 ⟨rfl, m6, y6, hO'⟩; clear hP; have hP := hO'; clear hO'; have hO' := hP.drop 1; clear hP; have hP := hO'; clear hO'; (try simp only [List.set_cons_zero, List.set_cons_succ, List.cons_append, List.nil_append, List.eraseIdx_cons_succ, List.eraseIdx_cons_zero] at hP)
    have h0 : _ = some (Value.int .i64 code) := hP.cell 3 0 rfl rfl 0
    go_upto_region 7 with fail
    have hO' := hP.more (.cells #[.int .i64 4, .int .i64 0] 41); clear hP; have hP := hO'; clear hO'; (try simp only [List.set_cons_zero, List.set_cons_succ, List.cons_append, List.nil_append, List.eraseIdx_cons_succ, List.eraseIdx_cons_zero] at hP)
    generalize w6.heap.size = rb at hP ⊢
    generalize w6.alloc _ = w7 at hP ⊢
    clear h0
    have h0 : _ = some (Value.int .i64 code) := hP.cell 3 0 rfl rfl 0
    have r0 : _ = some (Value.int .i64 4) := hP.cell 4 0 rfl rfl 0
    have hcode' : (code != 0) = true := by simpa using hcode
    go_wp2_with (go_at_call 11; refine (law15_live _).mono ?_; rintro e w2 ⟨rfl, hb⟩; have hO' := hP.via hb; clear hP; have hP := hO'; clear hO')
    go_ret
    exact ⟨rfl, by rw [HC.out]; exact hP.below⟩
  · have hmay : eMay 0 0 0 0 false true = true := by decide
    have tb := topAt_bd (s := s) (k := 1) (by decide) S1
    obtain ⟨q1, hrun, hl1, hw1⟩ := fr_alone (g := 0) (y := 0) T1 T4 S0 S1 (by decide : (0 : Int) ≤ 0) (by omega : (0 : Int) < s) HWL.out (o := 0) (T := topAt s 1) (tag := 1) hmay (by rw [show 4 + t + 3 * 0 = 4 + t by omega]; exact hx) (by decide) (by rw [hh]; rfl) tb.1 tb.2 (by decide) (by decide)
    have HRUN := Lib.hid hrun
    have HW := Lib.hid (show ∀ j : Int, j ≠ 1 → j ≠ 4 + t → j ≠ 6 + t → wAt q1.ws j = wAt q.ws j from fun j j1 j2 j3 => by rw [hw1, if_neg j1, if_neg (by omega), if_neg (by omega)])
    obtain ⟨L, hL⟩ : ∃ L, q.ws.length = L := ⟨_, rfl⟩
    have l4 : q1.ws.length ≤ 4096 := by omega
    have l5 : L ≤ 4096 := by omega
    have HL1 := Lib.hid (hl1.trans hL)
    clear hrun hw1 hx hh hmay tb hl1
    go_wp2_with fail
    refine (free_New A s t 1099511627776 (by decide) (by decide) hP).mono ?_; rintro e w5 ⟨x, rfl, hO'⟩; rw [HN1.out, HNX.out] at hO'; clear hP; have hP := hO'; clear hO'; have hO' := own3 hP; clear hP; have hP := hO'; clear hO'
    clear h0 h1
    clear a0 a1 a2 az
    go_wp2_with fail
    refine (free_run 10 (by decide) hP (LOK.out false) l1 frV1_in _ HRUN.out).mono ?_; simp only [resN]; rintro e w6 ⟨rfl, m6, y6, hO'⟩; clear hP; have hP := hO'; clear hO'; have hO' := hP.drop 1; clear hP; have hP := hO'; clear hO'; (try simp only [List.set_cons_zero, List.set_cons_succ, List.cons_append, List.nil_append, List.eraseIdx_cons_succ, List.eraseIdx_cons_zero] at hP)
    have h0 : _ = some (Value.int .i64 0) := hP.cell 3 0 rfl rfl 0
    go_upto_region 7 with fail
    have hO' := hP.more (.cells #[.int .i64 0, .int .i64 0] 41); clear hP; have hP := hO'; clear hO'; (try simp only [List.set_cons_zero, List.set_cons_succ, List.cons_append, List.nil_append, List.eraseIdx_cons_succ, List.eraseIdx_cons_zero] at hP)
    generalize w6.heap.size = rb at hP ⊢
    generalize w6.alloc _ = w7 at hP ⊢
    clear h0
    have h0 : _ = some (Value.int .i64 0) := hP.cell 3 0 rfl rfl 0
    have hz := hP.lt 3 0 rfl rfl
    go_wp2_with fail
    clear h0 hz hL
    go_loopw [10] (fun i wr => ∃ (j : Nat) (m1 m2 : Int), i = .int .i64 j ∧ j ≤ L ∧ Owns cb W wr [memG p bw bb q1.ws q.bs m1, memG p2 bw2 bb2 q.ws q.bs m2, [(cb, Obj.cells #[.int .i64 (A : Int), .int .i64 s, .int .i64 t] 25 (0, 0))], [(hb, Obj.cells #[.int .i64 0, .int .i64 1099511627776] 41 (0, 0))], [(rb, Obj.cells #[.int .i64 0, .int .i64 0] 41 (0, 0))]]) (fun i _ => L - (intOf i).toNat)
    case atStart => exact ⟨0, _, _, rfl, by omega, hP⟩
    case round =>
      clear hP
      obtain ⟨j, m1, m2, rfl, hj, hP⟩ := hrel
      have a0 : _ = some (Value.int .i64 (A : Int)) := hP.cell 2 0 rfl rfl 0; have a1 : _ = some (Value.int .i64 s) := hP.cell 2 0 rfl rfl 1; have a2 : _ = some (Value.int .i64 t) := hP.cell 2 0 rfl rfl 2; have az := hP.lt 2 0 rfl rfl
      go_wp2_with fail
      refine (plain_Words 0 hP rfl l4).mono ?_; rw [HL1.out]; rintro e w6 ⟨rfl, rfl⟩
      by_cases hlt : j < L
      · by_cases j1 : (j : Int) = 1
        · have e1 : ((j : Int) != 1) = false := by rw [j1]; rfl
          clear j1
          go_wp2_with fail
          go_roundw
          case rel => exact ⟨j + 1, _, _, by go_num, by omega, hP⟩
          case measure => simp [intOf]; omega
        · have e1 : ((j : Int) != 1) = true := by simpa using j1
          by_cases j2 : (j : Int) = 4 + t
          · have e2 : ((j : Int) != 4 + t) = false := by rw [j2]; simp
            clear j1 j2
            go_wp2_with fail
            go_roundw
            case rel => exact ⟨j + 1, _, _, by go_num, by omega, hP⟩
            case measure => simp [intOf]; omega
          · have e2 : ((j : Int) != 4 + t) = true := by simpa using j2
            by_cases j3 : (j : Int) = 6 + t
            · have e3 : ((j : Int) != 6 + t) = false := by rw [j3]; simp
              clear j1 j2 j3
              go_wp2_with fail
              go_roundw
              case rel => exact ⟨j + 1, _, _, by go_num, by omega, hP⟩
              case measure => simp [intOf]; omega
            · have e3 : ((j : Int) != 6 + t) = true := by simpa using j3
              obtain ⟨v, hv⟩ : ∃ v, wAt q.ws j = v := ⟨_, rfl⟩
              have V1 := Lib.hid ((HW.out j j1 j2 j3).trans hv)
              have V2 := Lib.hid hv
              have ev : (v != v) = false := by simp
              clear j1 j2 j3 hv
              go_wp2_with fail
              refine (plain_Load 0 j hP rfl l4).mono ?_; rw [V1.out]; rintro e w7 ⟨rfl, hO'⟩; clear hP; have hP := hO'; clear hO'; (try simp only [List.set_cons_zero, List.set_cons_succ, List.cons_append, List.nil_append, List.eraseIdx_cons_succ, List.eraseIdx_cons_zero] at hP)
              clear a0 a1 a2 az
              go_wp2_with fail
              refine (plain_Load 1 j hP rfl l1).mono ?_; rw [V2.out]; rintro e w8 ⟨rfl, hO'⟩; clear hP; have hP := hO'; clear hO'; (try simp only [List.set_cons_zero, List.set_cons_succ, List.cons_append, List.nil_append, List.eraseIdx_cons_succ, List.eraseIdx_cons_zero] at hP)
              go_wp2_with fail
              go_roundw
              case rel => exact ⟨j + 1, _, _, by go_num, by omega, hP⟩
              case measure => simp [intOf]; omega
      · have hge : decide (j < L) = false := by rw [decide_eq_false_iff_not]; omega
        clear hlt
        go_wp2_with fail
        clear hge a0 a1 a2 az
        go_loopw [11] (fun i wr => ∃ (z : Nat) (m1 m2 : Int), i = .int .i64 z ∧ z ≤ A ∧ Owns cb W wr [memG p bw bb q1.ws q.bs m1, memG p2 bw2 bb2 q.ws q.bs m2, [(cb, Obj.cells #[.int .i64 (A : Int), .int .i64 s, .int .i64 t] 25 (0, 0))], [(hb, Obj.cells #[.int .i64 0, .int .i64 1099511627776] 41 (0, 0))], [(rb, Obj.cells #[.int .i64 0, .int .i64 0] 41 (0, 0))]]) (fun i _ => A - (intOf i).toNat)
        case atStart => exact ⟨0, _, _, rfl, by omega, hP⟩
        case round =>
          clear hP
          obtain ⟨z, m3, m4, rfl, hz, hP⟩ := hrel
          have a0 : _ = some (Value.int .i64 (A : Int)) := hP.cell 2 0 rfl rfl 0; have a1 : _ = some (Value.int .i64 s) := hP.cell 2 0 rfl rfl 1; have a2 : _ = some (Value.int .i64 t) := hP.cell 2 0 rfl rfl 2; have az := hP.lt 2 0 rfl rfl
          by_cases hlt : z < A
          · obtain ⟨v, hv⟩ : ∃ v, wAt q.bs z = v := ⟨_, rfl⟩
            have V2 := Lib.hid hv
            have ev : (v != v) = false := by simp
            clear hv
            go_wp2_with fail
            refine (plain_Byte 0 z hP rfl l2 HWB.out).mono ?_; rw [V2.out]; rintro e w7 ⟨rfl, hO'⟩; clear hP; have hP := hO'; clear hO'; (try simp only [List.set_cons_zero, List.set_cons_succ, List.cons_append, List.nil_append, List.eraseIdx_cons_succ, List.eraseIdx_cons_zero] at hP)
            clear a0 a1 a2 az
            go_wp2_with fail
            refine (plain_Byte 1 z hP rfl l2 HWB.out).mono ?_; rw [V2.out]; rintro e w8 ⟨rfl, hO'⟩; clear hP; have hP := hO'; clear hO'; (try simp only [List.set_cons_zero, List.set_cons_succ, List.cons_append, List.nil_append, List.eraseIdx_cons_succ, List.eraseIdx_cons_zero] at hP)
            go_wp2_with fail
            go_roundw
            case rel => exact ⟨z + 1, _, _, by go_num, by omega, hP⟩
            case measure => simp [intOf]; omega
          · have hge : decide (z < A) = false := by rw [decide_eq_false_iff_not]; omega
            have r0 : _ = some (Value.int .i64 0) := hP.cell 4 0 rfl rfl 0
            have r1 : _ = some (Value.int .i64 0) := hP.cell 4 0 rfl rfl 1
            clear hlt
            go_wp2_with (go_at_call 11; refine (law15_live _).mono ?_; rintro e w2 ⟨rfl, hb⟩; have hO' := hP.via hb; clear hP; have hP := hO'; clear hO')
            go_ret
            exact ⟨rfl, by rw [HC.out]; exact hP.below⟩
theorem FreeSame_walk (a s t n : Int) (W : World) : Calls Try.prog 7 #[.agg #[.int .i64 a, .int .i64 s, .int .i64 t], .int .i64 n] W fun e w' => e = .returned (.bool true) ∧ Below W.heap.size W w' := by
  rcases bool_cases (b := cfgOk a s t) with hc | hc
  · by_cases ha : 300 < a
    · exact FreeSame_far a s t n W hc ha
    · exact FreeSame_go a s t n W hc (by omega)
  · exact FreeSame_no a s t n W hc
end Go.Proofs.Ytkkeoadnepedjaa
