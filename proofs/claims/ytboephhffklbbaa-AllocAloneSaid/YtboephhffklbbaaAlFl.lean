/- The alloc law AllocFull. -/
import Derived.Test.YtboephhffklbbaaAlA2
import Derived.Test.YtboephhffklbbaaAlLv
import Derived.Test.YtboephhffklbbaaFlat
import Derived.Test.YtboephhffklbbaaSA11
namespace Go.Proofs.Ytboephhffklbbaa
set_option linter.unusedVariables false
set_option linter.unusedSimpArgs false
open Go.RowKit
def alK (a s t : Int) : AlC := ⟨t, s, a, 0, 0, 0, 0⟩
theorem own3 {B : Nat} {W w : World} {x y z : Grp} {R : List Grp} (h : Owns B W w (x :: y :: z :: R)) : Owns B W w (z :: x :: y :: R) := h.perm (List.perm_middle (l₁ := [x, y]))
theorem alC0_yes {a s t n : Int} {tk : Nat} (hc : cfgOk a s t = true) : alC0 a s t n tk = ⟨t, s, a, n, (hRound n).1, tk, 0⟩ := by
  obtain ⟨h1, h2, -⟩ := of_yes hc
  unfold alC0; rw [h1, h2]
theorem al_pre_init {a s t : Int} (hc : cfgOk a s t = true) : AlPre (alK a s t) (initW t s) (List.replicate a.toNat 0) 0 0 0 := by
  obtain ⟨h1, h2, h3, h4, h5, h6, h7⟩ := cfgOk_of hc
  refine ⟨h6, h7, h4, h5, h1, h2, by rw [initW_len, lWords_ok h6]; rfl, by simp [alK], ?_, ?_, by omega, by omega, ?_, fun i i0 i1 => ?_, fun i i0 i1 => ?_, by omega, by show (0 : Int) ≤ s; omega, by omega, by show (0 : Int) ≤ a; omega⟩
  · rw [initW_at h6 _ (by omega) (by omega)]; unfold startAt linkAt; rw [if_neg (by omega), if_neg (by omega)]
  · rw [initW_at h6 _ (by omega) (by omega)]; unfold startAt topAt; rw [if_pos rfl, if_pos (by show (0 : Int) < s; omega)]; rfl
  · rw [initW_at h6 _ (by omega) (by omega)]; unfold startAt linkAt; rw [if_neg (by omega), if_neg (by omega)]
  · have i1 : i < s := i1
    show wAt (initW t s) (4 + t + 3 * i + 2) = topAt s (i + 1)
    rw [initW_at h6 _ (by omega) (by omega)]; unfold startAt linkAt topAt
    rw [if_neg (by omega)]
    by_cases c : i + 1 < s
    · rw [if_pos c, if_pos (by omega)]; omega
    · rw [if_neg c, if_neg (by omega)]
  · have i1 : i < s := i1
    show wAt (initW t s) (4 + t + 3 * i) = 0
    rw [initW_at h6 _ (by omega) (by omega)]; unfold startAt linkAt
    rw [if_neg (by omega), if_neg (by omega)]
theorem tmod64 {T g : Int} (h0 : 0 ≤ T) (g0 : 0 ≤ g) : (T + 1048576 * g).tmod 64 = T % 64 := by
  rw [Int.tmod_eq_emod_of_nonneg (by omega)]; omega
/-- what an alloc alone comes to, for AllocFull. -/
theorem al_full {a s t n : Int} {ws bs : List Int} {k top g : Int} (hc : cfgOk a s t = true) (P : AlPre (alK a s t) ws bs k top g) (tk : Nat) : ∃ q code rn N, mRun (alF1 (alC0 a s t n tk)) 1000 1000 ⟨ws, bs, alV0 1⟩ = (q, (code, rn), N) ∧
    ((code = 0 ∧ k < s ∧ ∃ top' g', AlPre (alK a s t) q.ws q.bs (k + 1) top' g') ∨ ((code == 0) = false ∧ q.bs = bs ∧ q.ws.length = ws.length ∧ (∀ j, j ≠ 1 → wAt q.ws j = wAt ws j) ∧ (wAt q.ws 1).tmod 64 = (wAt ws 1).tmod 64)) := by
  rw [alC0_yes hc]
  have P' : AlPre ⟨t, s, a, n, (hRound n).1, tk, 0⟩ ws bs k top g := P.of rfl rfl rfl
  rcases hRound_by n with ⟨h0, -⟩ | ⟨-, h1, h2⟩
  · refine ⟨⟨ws, bs, alV0 0⟩, 9, 0, 1, ?_, .inr ⟨rfl, rfl, rfl, fun _ _ => rfl, rfl⟩⟩
    have := g1e (c := ⟨t, s, a, n, (hRound n).1, tk, 0⟩) (ws := ws) (bs := bs) (v := alV0 1) rfl h0
    rw [mRun_done (by rw [this]), this]
    rfl
  · by_cases hk : k = s
    · obtain ⟨q, N, e, b, l, w⟩ := al_noslot P' (by show (hRound n).1 ≠ 0; omega) hk
      exact ⟨q, 11, 0, N, e, .inr ⟨rfl, b, l, fun j _ => w j, by rw [w]⟩⟩
    · have hk' : k < s := by have := P.ks; have : k ≤ s := this; omega
      by_cases hr : a - (hRound n).1 < top
      · obtain ⟨q, N, e, b, l, w⟩ := al_noroom P' (by show 1 ≤ (hRound n).1; omega) h2 hk' hr
        have tb : 0 ≤ topAt s k ∧ topAt s k ≤ 64 := topAt_bd P.k0 P.s64
        have := dNext_in P.g0 P.g1
        have := dNext_in this.1 this.2
        exact ⟨q, 10, 0, N, e, .inr ⟨rfl, b, l, fun j hj => by rw [w, if_neg hj], by rw [w, if_pos rfl, P'.st]; show (topAt s k + 1048576 * dNext (dNext g)).tmod 64 = (topAt s k + 1048576 * g).tmod 64; rw [tmod64 tb.1 this.1, tmod64 tb.1 P.g0]⟩⟩
      · obtain ⟨q, N, e, b, l, w⟩ := al_made P' (by show 1 ≤ (hRound n).1; omega) h2 hk' (by show top ≤ a - (hRound n).1; omega)
        exact ⟨q, 0, _, N, e, .inl ⟨rfl, hk', _, _, (al_pre_made P' (by show 1 ≤ (hRound n).1; omega) hk' (by show top ≤ a - (hRound n).1; omega) (by rw [b, clr_len]) l w).of rfl rfl rfl⟩⟩
theorem AlPre.lens {a s t : Int} {ws bs : List Int} {k top g : Int} (P : AlPre (alK a s t) ws bs k top g) : ws.length ≤ 4096 ∧ bs.length ≤ 4096 ∧ 1 ≤ ws.length := by
  have h1 := P.len; have h2 := P.bl; have h3 := P.a4; have h4 := P.t1; have h5 := P.s1; have h6 := P.t4; have h7 := P.s64
  omega
theorem AlPre.lok {a s t : Int} {ws bs : List Int} {k top g : Int} (P : AlPre (alK a s t) ws bs k top g) : lOk t s := .inr ⟨P.t1, P.t4, P.s1, P.s64⟩
theorem alNx_yes {a s t : Int} (hc : cfgOk a s t = true) : alNx a s t = 1 := by unfold alNx; rw [if_pos hc]
set_option maxRecDepth 100000 in
set_option maxHeartbeats 8000000 in
theorem AllocFull_no (a s t n : Int) (W : World) (hc : cfgOk a s t = false) : Calls Try.prog 10 #[.agg #[.int .i64 a, .int .i64 s, .int .i64 t], .int .i64 n] W fun e w' => e = .returned (.bool true) ∧ Below W.heap.size W w' := by
  have CK := Lib.hid hc
  clear hc
  go_enter Try.func10, Try.ntmps10
  go_wp2_with fail
  have hO := (Owns.nil W).more (.cells #[.int .i64 a, .int .i64 s, .int .i64 t] 26)
  generalize W.alloc (.cells #[.int .i64 a, .int .i64 s, .int .i64 t] 26) = w0 at hO ⊢
  refine (law11_start_no a s t _ CK.out).mono ?_; rintro e w1 ⟨rfl, hb⟩
  have hO := hO.via hb
  have a0 : _ = some (Value.int .i64 a) := hO.cell 0 0 rfl rfl 0; have a1 : _ = some (Value.int .i64 s) := hO.cell 0 0 rfl rfl 1; have a2 : _ = some (Value.int .i64 t) := hO.cell 0 0 rfl rfl 2
  go_wp2_with first
    | (go_at_call 24; refine (ref06_May _ _ _ _).mono ?_; rw [CK.out]; rintro e w4 ⟨rfl, hb⟩; have hO := hO.via hb)
    | (go_at_call 25; refine (law11_live _).mono ?_; rintro e w2 ⟨rfl, hb⟩; have hO := hO.via hb)
  go_ret
  exact ⟨rfl, hO.below⟩
set_option maxRecDepth 100000 in
set_option maxHeartbeats 16000000 in
theorem AllocFull_go (a s t n : Int) (W : World) (hc : cfgOk a s t = true) : Calls Try.prog 10 #[.agg #[.int .i64 a, .int .i64 s, .int .i64 t], .int .i64 n] W fun e w' => e = .returned (.bool true) ∧ Below W.heap.size W w' := by
  have CK := Lib.hid hc
  have P0 := Lib.hid (al_pre_init hc)
  have s0 : 0 ≤ s := by have := cfgOk_of hc; omega
  have s64 : s ≤ 64 := by have := cfgOk_of hc; omega
  clear hc
  go_enter Try.func10, Try.ntmps10
  go_wp2_with fail
  have hP := (Owns.nil W).more (.cells #[.int .i64 a, .int .i64 s, .int .i64 t] 26)
  generalize hcb : W.heap.size = cb at hP ⊢
  have HC := Lib.hid hcb
  clear hcb
  generalize W.alloc (.cells #[.int .i64 a, .int .i64 s, .int .i64 t] 26) = w0 at hP ⊢
  refine (law11_start a s t hP CK.out).mono ?_; rintro e w1 ⟨p, bw, bb, m, rfl, hO'⟩; clear hP; have hP := hO'; clear hO'; (try simp only [List.set_cons_zero, List.set_cons_succ, List.cons_append, List.nil_append, List.eraseIdx_cons_succ, List.eraseIdx_cons_zero] at hP)
  go_wp2_with fail
  go_loopw [6] (fun i wr => ∃ (k : Nat) (m : Int) (ws bs : List Int) (top g : Int), i = .int .i64 k ∧ (k : Int) ≤ s ∧ AlPre (alK a s t) ws bs k top g ∧ Owns cb W wr [memG p bw bb ws bs m, [(cb, Obj.cells #[.int .i64 a, .int .i64 s, .int .i64 t] 26 (0, 0))]]) (fun i _ => s.toNat + 1 - (intOf i).toNat)
  case atStart => exact ⟨0, _, _, _, _, _, rfl, by omega, P0.out, hP⟩
  case round =>
    clear hP
    obtain ⟨k, m, ws, bs, top, g, rfl, hk, hpre, hP⟩ := hrel
    have PR := Lib.hid hpre
    obtain ⟨hl, hbl, hl0⟩ := hpre.lens
    clear hpre
    (try simp only [List.set_cons_zero, List.set_cons_succ, List.cons_append, List.nil_append, List.eraseIdx_cons_succ, List.eraseIdx_cons_zero] at hP); have a0 : _ = some (Value.int .i64 a) := hP.cell 1 0 rfl rfl 0; have a1 : _ = some (Value.int .i64 s) := hP.cell 1 0 rfl rfl 1; have a2 : _ = some (Value.int .i64 t) := hP.cell 1 0 rfl rfl 2; have az := hP.lt 1 0 rfl rfl
    go_wp2_with fail
    refine (plain_Copy 0 hP rfl hl hbl hl0).mono ?_; rintro e w2 ⟨p2, bw2, bb2, rfl, hO'⟩; clear hP; have hP := hO'; clear hO'; clear a0 a1 a2 az; (try simp only [List.set_cons_zero, List.set_cons_succ, List.cons_append, List.nil_append, List.eraseIdx_cons_succ, List.eraseIdx_cons_zero] at hP); have a0 : _ = some (Value.int .i64 a) := hP.cell 2 0 rfl rfl 0; have a1 : _ = some (Value.int .i64 s) := hP.cell 2 0 rfl rfl 1; have a2 : _ = some (Value.int .i64 t) := hP.cell 2 0 rfl rfl 2; have az := hP.lt 2 0 rfl rfl
    go_wp2_with fail
    refine (alloc_New a s t n hP).mono ?_; rintro e w3 ⟨x, tk, rfl, hO'⟩; rw [alNx_yes CK.out] at hO'; clear hP; have hP := hO'; clear hO'; have hO' := own3 hP; clear hP; have hP := hO'; clear hO'; clear a0 a1 a2 az
    obtain ⟨q, code, rn, N, he, hway⟩ := al_full (n := n) CK.out PR.out tk
    have HE := Lib.hid he
    have HW := Lib.hid hway
    clear he hway
    have hlok : lOk (alC0 a s t n tk).t (alC0 a s t n tk).s := by rw [alC0_yes CK.out]; exact PR.out.lok
    have HL := Lib.hid hlok
    clear hlok
    go_wp2_with fail
    refine (alloc_run 1000 (by decide) hP HL.out hl hbl alV1_in _ HE.out).mono ?_; simp only [resN]; rintro e w4 ⟨rfl, m4, y4, hO'⟩; clear hP; have hP := hO'; clear hO'; have hO' := hP.drop 1; clear hP; have hP := hO'; clear hO'; (try simp only [List.set_cons_zero, List.set_cons_succ, List.cons_append, List.nil_append, List.eraseIdx_cons_succ, List.eraseIdx_cons_zero] at hP)
    clear HL HE
    go_upto_region 9 with fail
    have hO' := hP.more (.cells #[.int .i64 code, .int .i64 rn] 41); clear hP; have hP := hO'; clear hO'; (try simp only [List.set_cons_zero, List.set_cons_succ, List.cons_append, List.nil_append, List.eraseIdx_cons_succ, List.eraseIdx_cons_zero] at hP); have a0 : _ = some (Value.int .i64 a) := hP.cell 2 0 rfl rfl 0; have a1 : _ = some (Value.int .i64 s) := hP.cell 2 0 rfl rfl 1; have a2 : _ = some (Value.int .i64 t) := hP.cell 2 0 rfl rfl 2; have az := hP.lt 2 0 rfl rfl
    have r0 : _ = some (Value.int .i64 code) := hP.cell 3 0 rfl rfl 0
    have rz := hP.lt 3 0 rfl rfl
    generalize w4.heap.size = rb at hP r0 rz ⊢
    generalize w4.alloc _ = w5 at hP a0 a1 a2 az r0 rz ⊢
    rcases HW.out with ⟨rfl, hks, top', g', hpre'⟩ | ⟨hcode, hb, hlen, hsame, htm⟩
    · have PR' := Lib.hid hpre'
      clear hpre' HW PR
      go_wp2_with fail
      go_roundw
      case rel => exact ⟨k + 1, _, _, _, _, _, by go_num, by push_cast; omega, by push_cast; exact PR'.out, (hP.drop 3).drop 1⟩
      case measure => simp [intOf]; omega
    · have HS := Lib.hid hsame
      have HT := Lib.hid htm
      obtain ⟨L, hL⟩ : ∃ L, ws.length = L := ⟨_, rfl⟩
      have HL1 := Lib.hid (hlen.trans hL)
      have HL2 := Lib.hid hL
      have l1 : q.ws.length ≤ 4096 := by omega
      have l2 : L ≤ 4096 := by omega
      clear hsame htm HW PR hb hlen hL
      go_wp2_with fail
      clear a0 a1 a2 az r0 rz hk hcode
      go_loopw [10] (fun i wr => ∃ (j : Nat) (m1 m2 : Int), i = .int .i64 j ∧ j ≤ L ∧ Owns cb W wr [memG p bw bb q.ws q.bs m1, memG p2 bw2 bb2 ws bs m2, [(cb, Obj.cells #[.int .i64 a, .int .i64 s, .int .i64 t] 26 (0, 0))], [(rb, Obj.cells #[.int .i64 code, .int .i64 rn] 41 (0, 0))]]) (fun i _ => L - (intOf i).toNat)
      case atStart => exact ⟨0, _, _, rfl, by omega, hP⟩
      case round =>
        clear hP
        obtain ⟨j, m1, m2, rfl, hj, hP⟩ := hrel
        go_wp2_with fail
        refine (plain_Words 0 hP rfl l1).mono ?_; rw [HL1.out]; rintro e w6 ⟨rfl, rfl⟩
        by_cases hlt : j < L
        · by_cases j1 : (j : Int) = 1
          · have e1 : ((j : Int) != 1) = false := by rw [j1]; rfl
            clear j1
            go_wp2_with fail
            go_roundw
            case rel => exact ⟨j + 1, _, _, by go_num, by omega, hP⟩
            case measure => simp [intOf]; omega
          · have e1 : ((j : Int) != 1) = true := by simpa using j1
            obtain ⟨v, hv⟩ : ∃ v, wAt ws j = v := ⟨_, rfl⟩
            have V1 := Lib.hid ((HS.out j j1).trans hv)
            have V2 := Lib.hid hv
            have ev : (v != v) = false := by simp
            clear j1 hv
            go_wp2_with fail
            refine (plain_Load 0 j hP rfl l1).mono ?_; rw [V1.out]; rintro e w7 ⟨rfl, hO'⟩; clear hP; have hP := hO'; clear hO'; (try simp only [List.set_cons_zero, List.set_cons_succ, List.cons_append, List.nil_append, List.eraseIdx_cons_succ, List.eraseIdx_cons_zero] at hP)
            go_wp2_with fail
            refine (plain_Load 1 j hP rfl hl).mono ?_; rw [V2.out]; rintro e w8 ⟨rfl, hO'⟩; clear hP; have hP := hO'; clear hO'; (try simp only [List.set_cons_zero, List.set_cons_succ, List.cons_append, List.nil_append, List.eraseIdx_cons_succ, List.eraseIdx_cons_zero] at hP)
            go_wp2_with fail
            go_roundw
            case rel => exact ⟨j + 1, _, _, by go_num, by omega, hP⟩
            case measure => simp [intOf]; omega
        · have hge : decide (j < L) = false := by rw [decide_eq_false_iff_not]; omega
          obtain ⟨z, hz⟩ : ∃ z, (wAt ws 1).tmod 64 = z := ⟨_, rfl⟩
          obtain ⟨v1, hv1⟩ : ∃ v, wAt q.ws 1 = v := ⟨_, rfl⟩
          obtain ⟨v2, hv2⟩ : ∃ v, wAt ws 1 = v := ⟨_, rfl⟩
          have q1 : v1.tmod 64 = z := by rw [← hv1, HT.out, hz]
          have q2 : v2.tmod 64 = z := by rw [← hv2, hz]
          have V1 := Lib.hid hv1
          have V2 := Lib.hid hv2
          have ez : (z == z) = true := by simp
          clear hlt hz hv1 hv2
          go_wp2_with fail
          refine (plain_Load 0 1 hP rfl l1).mono ?_; rw [V1.out]; rintro e w7 ⟨rfl, hO'⟩; clear hP; have hP := hO'; clear hO'; (try simp only [List.set_cons_zero, List.set_cons_succ, List.cons_append, List.nil_append, List.eraseIdx_cons_succ, List.eraseIdx_cons_zero] at hP)
          go_wp2_with fail
          refine (plain_Load 1 1 hP rfl hl).mono ?_; rw [V2.out]; rintro e w8 ⟨rfl, hO'⟩; clear hP; have hP := hO'; clear hO'; (try simp only [List.set_cons_zero, List.set_cons_succ, List.cons_append, List.nil_append, List.eraseIdx_cons_succ, List.eraseIdx_cons_zero] at hP)
          go_wp2_with (go_at_call 25; refine (law11_live _).mono ?_; rintro e w9 ⟨rfl, hb⟩; have hO' := hP.via hb; clear hP; have hP := hO'; clear hO')
          go_ret
          exact ⟨rfl, by rw [HC.out]; exact hP.below⟩
theorem AllocFull_walk (a s t n : Int) (W : World) : Calls Try.prog 10 #[.agg #[.int .i64 a, .int .i64 s, .int .i64 t], .int .i64 n] W fun e w' => e = .returned (.bool true) ∧ Below W.heap.size W w' := by
  rcases bool_cases (b := cfgOk a s t) with hc | hc
  · exact AllocFull_go a s t n W hc
  · exact AllocFull_no a s t n W hc
end Go.Proofs.Ytboephhffklbbaa
