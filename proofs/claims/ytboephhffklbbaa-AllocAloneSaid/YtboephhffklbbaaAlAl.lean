/- The alloc law AllocAlone. -/
import Derived.RegionTactic
import Derived.BigRegion
import Derived.Deep.RegionHeld3
import Derived.Outline
import Derived.Deep.DeepCutAuto
import Derived.Test.YtboephhffklbbaaAlFl
namespace Go.Proofs.Ytboephhffklbbaa
set_option linter.unusedVariables false
set_option linter.unusedSimpArgs false
open Go.RowKit
theorem alloc_run1k {B : Nat} {W w : World} {R : List Grp} {x p bw bb : Nat} {ws bs : List Int} {n : Int} {c : AlC} {v : AlV} (hO : Owns B W w (memG p bw bb ws bs n :: alG x c v :: R)) (hL : lOk c.t c.s) (hl : ws.length ≤ 4096) (hb : bs.length ≤ 4096) (hv : AlIn v) (r : AlQ × (Int × Int) × Int) (hr : mRun (alF1 c) 1000 1000 ⟨ws, bs, v⟩ = r) :
    Calls Try.prog 27 #[.pointer (some ⟨p, 0, none⟩), .pointer (some ⟨x, 0, none⟩), .int .i64 1000] w fun e w' => e = .returned (resN r.2.1 r.2.2) ∧
      ∃ m y, Owns B W w' (memG p bw bb r.1.ws r.1.bs m :: alG x { c with gp := y } r.1.v :: R) := alloc_run 1000 (by decide) hO hL hl hb hv r hr
theorem own3' {B : Nat} {W w : World} {x y z : Grp} {R : List Grp} (h : Owns B W w (x :: y :: z :: R)) : Owns B W w (y :: z :: x :: R) := h.perm (List.perm_middle (l₁ := [y, z])).symm
theorem AlPre.bytes {c : AlC} {ws bs bs' : List Int} {k top g : Int} (P : AlPre c ws bs k top g) (h : bs'.length = bs.length) : AlPre c ws bs' k top g := by
  obtain ⟨a1, a2, a3, a4, a5, a6, a7, a8, a9, a10, a11, a12, a13, a14, a15, a16, a17, a18, a19⟩ := P
  exact ⟨a1, a2, a3, a4, a5, a6, a7, by rw [h]; exact a8, a9, a10, a11, a12, a13, a14, a15, a16, a17, a18, a19⟩
/-- what an alloc alone comes to, for AllocAlone. -/
def AlWay (a s t n : Int) (ws bs : List Int) (k top : Int) (q : AlQ) (code rn : Int) : Prop :=
  (∃ g', AlPre (alK a s t) q.ws q.bs k top g' ∧ q.bs = bs ∧ rn = 0 ∧
    (((hRound n).2 = 9 ∧ code = 9) ∨ ((hRound n).2 = 0 ∧ 0 ≤ (hRound n).1 ∧ (hRound n).1 ≤ 256 ∧ k = s ∧ code = 11) ∨ ((hRound n).2 = 0 ∧ 0 ≤ (hRound n).1 ∧ (hRound n).1 ≤ 256 ∧ k < s ∧ a < top + (hRound n).1 ∧ code = 10))) ∨
  (∃ g', AlPre (alK a s t) q.ws q.bs (k + 1) (top + (hRound n).1) g' ∧ (hRound n).2 = 0 ∧ 0 ≤ (hRound n).1 ∧ (hRound n).1 ≤ 256 ∧ k < s ∧ top + (hRound n).1 ≤ a ∧ code = 0 ∧ rn = k + 1099511627776 ∧ (∀ i, top ≤ i → i < top + (hRound n).1 → wAt q.bs i = 0) ∧ (WB bs → WB q.bs))
theorem al_each {a s t n : Int} {ws bs : List Int} {k top g : Int} (hc : cfgOk a s t = true) (P : AlPre (alK a s t) ws bs k top g) (tk : Nat) : ∃ q code rn N, mRun (alF1 (alC0 a s t n tk)) 1000 1000 ⟨ws, bs, alV0 1⟩ = (q, (code, rn), N) ∧ AlWay a s t n ws bs k top q code rn := by
  rw [alC0_yes hc]
  have P' : AlPre ⟨t, s, a, n, (hRound n).1, tk, 0⟩ ws bs k top g := P.of rfl rfl rfl
  rcases hRound_by n with ⟨h0, h9⟩ | ⟨h9, h1, h2⟩
  · refine ⟨⟨ws, bs, alV0 0⟩, 9, 0, 1, ?_, .inl ⟨g, P, rfl, rfl, .inl ⟨h9, rfl⟩⟩⟩
    have := g1e (c := ⟨t, s, a, n, (hRound n).1, tk, 0⟩) (ws := ws) (bs := bs) (v := alV0 1) rfl h0
    rw [mRun_done (by rw [this]), this]
    rfl
  · by_cases hk : k = s
    · obtain ⟨q, N, e, b, l, w⟩ := al_noslot P' (by show (hRound n).1 ≠ 0; omega) hk
      exact ⟨q, 11, 0, N, e, .inl ⟨g, (al_pre_same P l w).bytes (by rw [b]), b, rfl, .inr (.inl ⟨h9, by omega, h2, hk, rfl⟩)⟩⟩
    · have hk' : k < s := by have := P.ks; have : k ≤ s := this; omega
      by_cases hr : a - (hRound n).1 < top
      · obtain ⟨q, N, e, b, l, w⟩ := al_noroom P' (by show 1 ≤ (hRound n).1; omega) h2 hk' hr
        have h3 := dNext_in P.g0 P.g1
        have h3 := dNext_in h3.1 h3.2
        exact ⟨q, 10, 0, N, e, .inl ⟨_, (al_pre_tag P h3.1 h3.2 l w).bytes (by rw [b]), b, rfl, .inr (.inr ⟨h9, by omega, h2, hk', by omega, rfl⟩)⟩⟩
      · obtain ⟨q, N, e, b, l, w⟩ := al_made P' (by show 1 ≤ (hRound n).1; omega) h2 hk' (by show top ≤ a - (hRound n).1; omega)
        have bl : bs.length = a.toNat := P.bl
        have p0 := P.p0
        refine ⟨q, 0, _, N, e, .inr ⟨_, (al_pre_made P' (by show 1 ≤ (hRound n).1; omega) hk' (by show top ≤ a - (hRound n).1; omega) (by rw [b, clr_len]) l w).of rfl rfl rfl, h9, by omega, h2, hk', by omega, rfl, rfl, fun i i0 i1 => ?_, fun hw => ?_⟩⟩
        · rw [b]
          show wAt (clr bs top (hRound n).1.toNat) i = 0
          rw [clr_at p0 _ (by omega), if_pos (by omega)]
        · rw [b]; exact hw.clr _ _
theorem WB.zero (n : Nat) : WB (List.replicate n 0) := fun x hx => by rw [List.eq_of_mem_replicate hx]; exact ⟨by decide, by decide⟩
set_option maxRecDepth 100000 in
set_option maxHeartbeats 8000000 in
theorem AllocAlone_no (a s t : Int) (v : Value) (xs : List (List Value)) (junk : Int) (W : World) (hs : SArg W [true] v xs) (hc : cfgOk a s t = false) : Calls Try.prog 7 #[.agg #[.int .i64 a, .int .i64 s, .int .i64 t], v, .int .i64 junk] W fun e w' => e = .returned (.bool true) ∧ Below W.heap.size W w' := by
  obtain ⟨pa, cap, rfl, hl, hx⟩ := hs.form
  have CK := Lib.hid hc
  clear hc hx hs
  go_enter Try.func7, Try.ntmps7
  go_wp2_with fail
  have hP := (Owns.nil W).more (.cells #[.int .i64 a, .int .i64 s, .int .i64 t] 26)
  generalize W.alloc (.cells #[.int .i64 a, .int .i64 s, .int .i64 t] 26) = w0 at hP ⊢
  refine (law11_start_no a s t _ CK.out).mono ?_; rintro e w1 ⟨rfl, hb⟩
  have hO' := hP.via hb; clear hP; have hP := hO'; clear hO'
  have a0 : _ = some (Value.int .i64 a) := hP.cell 0 0 rfl rfl 0; have a1 : _ = some (Value.int .i64 s) := hP.cell 0 0 rfl rfl 1; have a2 : _ = some (Value.int .i64 t) := hP.cell 0 0 rfl rfl 2
  go_wp2_with first
    | (go_at_call 24; refine (ref06_May _ _ _ _).mono ?_; rw [CK.out]; rintro e w4 ⟨rfl, hb⟩; have hO' := hP.via hb; clear hP; have hP := hO'; clear hO')
    | (go_at_call 25; refine (law11_live _).mono ?_; rintro e w2 ⟨rfl, hb⟩; have hO' := hP.via hb; clear hP; have hP := hO'; clear hO')
  go_ret
  exact ⟨rfl, hP.below⟩
set_option maxRecDepth 100000 in
set_option maxHeartbeats 8000000 in
theorem AllocAlone_far (a s t : Int) (v : Value) (xs : List (List Value)) (junk : Int) (W : World) (hs : SArg W [true] v xs) (hc : cfgOk a s t = true) (hn : 20 < xs.length) : Calls Try.prog 7 #[.agg #[.int .i64 a, .int .i64 s, .int .i64 t], v, .int .i64 junk] W fun e w' => e = .returned (.bool true) ∧ Below W.heap.size W w' := by
  obtain ⟨pa, cap, rfl, hl, hx⟩ := hs.form
  have CK := Lib.hid hc
  clear hc hx hs
  go_enter Try.func7, Try.ntmps7
  go_wp2_with fail
  have hP := (Owns.nil W).more (.cells #[.int .i64 a, .int .i64 s, .int .i64 t] 26)
  generalize W.alloc (.cells #[.int .i64 a, .int .i64 s, .int .i64 t] 26) = w0 at hP ⊢
  refine (law11_start a s t hP CK.out).mono ?_; rintro e w1 ⟨p, bw, bb, m, rfl, hO'⟩; clear hP; have hP := hO'; clear hO'; (try simp only [List.set_cons_zero, List.set_cons_succ, List.cons_append, List.nil_append, List.eraseIdx_cons_succ, List.eraseIdx_cons_zero] at hP)
  go_wp2_with first
    | (go_at_call 25; refine (law11_live _).mono ?_; rintro e w2 ⟨rfl, hb⟩; have hO' := hP.via hb; clear hP; have hP := hO'; clear hO')
  go_ret
  exact ⟨rfl, hP.below⟩
set_option maxRecDepth 100000 in
set_option maxHeartbeats 16000000 in
theorem AllocAlone_go (a s t : Int) (v : Value) (xs : List (List Value)) (junk : Int) (W : World) (hs : SArg W [true] v xs) (hc : cfgOk a s t = true) (hn : xs.length ≤ 20) : Calls Try.prog 7 #[.agg #[.int .i64 a, .int .i64 s, .int .i64 t], v, .int .i64 junk] W fun e w' => e = .returned (.bool true) ∧ Below W.heap.size W w' := by
  obtain ⟨pa, cap, rfl, hl, hx⟩ := hs.form
  have CK := Lib.hid hc
  have P0 := Lib.hid (al_pre_init hc)
  have HX := Lib.hid hx
  obtain ⟨A0, A1, -, S0, S1, -, -⟩ := cfgOk_of hc
  have d3 : decide (20 < xs.length) = false := by rw [decide_eq_false_iff_not]; omega
  obtain ⟨A, hA⟩ : ∃ A : Nat, a = A := ⟨a.toNat, by omega⟩
  subst hA
  clear hc hx hs
  go_enter Try.func7, Try.ntmps7
  go_wp2_with fail
  have hP := (Owns.nil W).more (.cells #[.int .i64 A, .int .i64 s, .int .i64 t] 26)
  generalize hcb : W.heap.size = cb at hP ⊢
  have HC := Lib.hid hcb
  clear hcb
  generalize W.alloc (.cells #[.int .i64 A, .int .i64 s, .int .i64 t] 26) = w0 at hP ⊢
  refine (law11_start A s t hP CK.out).mono ?_; rintro e w1 ⟨p, bw, bb, m, rfl, hO'⟩; clear hP; have hP := hO'; clear hO'; (try simp only [List.set_cons_zero, List.set_cons_succ, List.cons_append, List.nil_append, List.eraseIdx_cons_succ, List.eraseIdx_cons_zero] at hP)
  go_wp2_with fail
  clear d3
  have hA4 : A ≤ 4096 := by omega
  go_loopw [8] (fun i wr => ∃ (k : Nat) (m : Int) (bs : List Int), i = .int .i64 k ∧ k ≤ A ∧ bs.length = A ∧ WB bs ∧ Owns cb W wr [memG p bw bb (initW t s) bs m, [(cb, Obj.cells #[.int .i64 (A : Int), .int .i64 s, .int .i64 t] 26 (0, 0))]]) (fun i _ => A - (intOf i).toNat)
  case atStart => exact ⟨0, _, _, rfl, by omega, by simp, WB.zero _, hP⟩
  case round =>
    clear hP
    obtain ⟨k, m, bs, rfl, hk, hbl, hwb, hP⟩ := hrel
    (try simp only [List.set_cons_zero, List.set_cons_succ, List.cons_append, List.nil_append, List.eraseIdx_cons_succ, List.eraseIdx_cons_zero] at hP); have a0 : _ = some (Value.int .i64 (A : Int)) := hP.cell 1 0 rfl rfl 0; have a1 : _ = some (Value.int .i64 s) := hP.cell 1 0 rfl rfl 1; have a2 : _ = some (Value.int .i64 t) := hP.cell 1 0 rfl rfl 2; have az := hP.lt 1 0 rfl rfl
    by_cases hlt : k < A
    · go_wp2_with fail
      refine (plain_SetByte 0 k junk hP rfl (by omega)).mono ?_; rintro e w2 ⟨rfl, hO'⟩; clear hP; have hP := hO'; clear hO'; (try simp only [List.set_cons_zero, List.set_cons_succ, List.cons_append, List.nil_append, List.eraseIdx_cons_succ, List.eraseIdx_cons_zero] at hP)
      go_wp2_with fail
      go_roundw
      case rel => exact ⟨k + 1, _, _, by go_num, by omega, by rw [wPut_len]; exact hbl, hwb.put _ (by omega) (by omega), hP⟩
      case measure => simp [intOf]; omega
    · have hge : decide (k < A) = false := by rw [decide_eq_false_iff_not]; omega
      have P1 := Lib.hid (P0.out.bytes (bs' := bs) (by rw [hbl]; simp))
      have WB1 := Lib.hid hwb
      clear hlt hwb
      go_wp2_with fail
      clear hge a0 a1 a2 az hk hbl
      go_loopw [9, 10, 11] (fun tv sv iv wr => ∃ (i : Nat) (m : Int) (ws bs : List Int) (top k g : Int), iv = .int .i64 i ∧ tv = .int .i64 top ∧ sv = .int .i64 k ∧ i ≤ xs.length ∧ AlPre (alK A s t) ws bs k top g ∧ WB bs ∧ Owns cb W wr [memG p bw bb ws bs m, [(cb, Obj.cells #[.int .i64 (A : Int), .int .i64 s, .int .i64 t] 26 (0, 0))]]) (fun _ _ i _ => xs.length - (intOf i).toNat)
      case atStart => exact ⟨0, _, _, _, _, _, _, rfl, rfl, rfl, by omega, P1.out, WB1.out, hP⟩
      case round =>
        clear hP P1 WB1 P0
        obtain ⟨i, m, ws, bs, top, k, g, rfl, rfl, rfl, hi, hpre, hwb, hP⟩ := hrel
        have PR := Lib.hid hpre
        have WBH := Lib.hid hwb
        obtain ⟨hl', hbl, hl0⟩ := hpre.lens
        have hlok := Lib.hid hpre.lok
        have k0 := hpre.k0; have ks : k ≤ s := hpre.ks; have p0 := hpre.p0; have pA : top ≤ A := hpre.pa
        have HLK : ∀ (y : Int) (tk : Nat), lOk (alC0 A s t y tk).t (alC0 A s t y tk).s := fun y tk => by rw [alC0_yes CK.out]; exact hlok.out
        clear hpre hwb hl0
        (try simp only [List.set_cons_zero, List.set_cons_succ, List.cons_append, List.nil_append, List.eraseIdx_cons_succ, List.eraseIdx_cons_zero] at hP); have a0 : _ = some (Value.int .i64 (A : Int)) := hP.cell 1 0 rfl rfl 0; have a1 : _ = some (Value.int .i64 s) := hP.cell 1 0 rfl rfl 1; have a2 : _ = some (Value.int .i64 t) := hP.cell 1 0 rfl rfl 2; have az := hP.lt 1 0 rfl rfl
        by_cases hlt : i < xs.length
        · obtain ⟨ib, io, rfl, hib, hI, -⟩ := HX.out i hlt
          have ck := (hI 0 rfl).1
          simp only [List.length_cons, List.length_nil, Nat.mul_one, Nat.add_zero, Nat.zero_add] at ck
          obtain ⟨x, hx⟩ : ∃ x, getI xs i 0 = x := ⟨_, rfl⟩
          rw [hx] at ck
          have CW := Lib.hid ck
          have HIB := Lib.hid (show ib < cb by rw [← HC.out]; exact hib)
          clear ck hI hx hib
          have cx : wr.cell? ⟨ib, io + i, none⟩ = some (.int .i64 x) := (hP.below.cell (p := ⟨ib, io + i, none⟩) HIB.out).trans CW.out
          go_upto_region 13 with fail
          go_cut [12, 13] (fun s12 s13 wx => ∃ (rb : Nat) (m : Int) (q : AlQ) (code rn N : Int), s12 = .pointer (some ⟨rb, 0, none⟩) ∧ s13 = .int .i64 N ∧ AlWay A s t x ws bs k top q code rn ∧ Owns cb W wx ([(rb, Obj.cells #[.int .i64 code, .int .i64 rn] 41 (0, 0))] :: [memG p bw bb q.ws q.bs m, [(cb, Obj.cells #[.int .i64 (A : Int), .int .i64 s, .int .i64 t] 26 (0, 0))]]))
          case first =>
            have hA := fun o => (hP.alloc o).drew
            have hO' := hP.drew; clear a0 a1 a2 az cx; clear hP; have hP := hO'; clear hO'
            (try simp only [List.set_cons_zero, List.set_cons_succ, List.cons_append, List.nil_append, List.eraseIdx_cons_succ, List.eraseIdx_cons_zero] at hP); have a0 : _ = some (Value.int .i64 (A : Int)) := hP.cell 1 0 rfl rfl 0; have a1 : _ = some (Value.int .i64 s) := hP.cell 1 0 rfl rfl 1; have a2 : _ = some (Value.int .i64 t) := hP.cell 1 0 rfl rfl 2; have az := hP.lt 1 0 rfl rfl
            have cx : _ = some (Value.int .i64 x) := (hP.below.cell (p := ⟨ib, io + i, none⟩) HIB.out).trans CW.out
            first
              | go_loud (go_region_held3 (fun w => w.cell? ⟨cb, 0, none⟩ = some (.int .i64 (A : Int)) ∧ w.cell? ⟨cb, 1, none⟩ = some (.int .i64 s) ∧ w.cell? ⟨cb, 2, none⟩ = some (.int .i64 t) ∧ w.cell? ⟨ib, io + i, none⟩ = some (.int .i64 x)) (first | (with_reducible exact ⟨a0, a1, a2, cx⟩) | (with_reducible exact ⟨cell_alloc _ a0, cell_alloc _ a1, cell_alloc _ a2, cell_alloc _ cx⟩) | (refine ⟨?_, ?_, ?_, ?_⟩ <;> (repeat (rw [World.cell?_setCell_far _ _ _ _ (by first | exact nx | exact nx' | exact ny | exact ny')])) <;> assumption) | exact ⟨cell_alloc _ a0, cell_alloc _ a1, cell_alloc _ a2, cell_alloc _ cx⟩) (first | (go_at_call 28; (first | ((with_reducible refine (alloc_New A s t x hP).mono ?_); rintro e w3 ⟨y, tk, rfl, hO'⟩; obtain ⟨q, code, rn, N, he, hway⟩ := al_each (n := x) CK.out PR.out tk; have HE := Lib.hid he; have HW := Lib.hid hway; clear he hway; rw [alNx_yes CK.out] at hO'; clear hP a0 a1 a2 cx; have hP := hO'.swap; clear hO'; have a0 : _ = some (Value.int .i64 (A : Int)) := hP.cell 2 0 rfl rfl 0; have a1 : _ = some (Value.int .i64 s) := hP.cell 2 0 rfl rfl 1; have a2 : _ = some (Value.int .i64 t) := hP.cell 2 0 rfl rfl 2; have cx : _ = some (Value.int .i64 x) := (hP.below.cell (p := ⟨ib, io + i, none⟩) HIB.out).trans CW.out) | ((first | (with_reducible refine (alloc_New A s t x (hP.alloc _)).mono ?_) | (with_reducible refine (alloc_New A s t x (hA _)).mono ?_)); rintro e w3 ⟨y, tk, rfl, hO'⟩; obtain ⟨q, code, rn, N, he, hway⟩ := al_each (n := x) CK.out PR.out tk; have HE := Lib.hid he; have HW := Lib.hid hway; clear he hway; rw [alNx_yes CK.out] at hO'; clear hP a0 a1 a2 cx; have hP := own3 hO'; clear hO'; have a0 : _ = some (Value.int .i64 (A : Int)) := hP.cell 3 0 rfl rfl 0; have a1 : _ = some (Value.int .i64 s) := hP.cell 3 0 rfl rfl 1; have a2 : _ = some (Value.int .i64 t) := hP.cell 3 0 rfl rfl 2; have cx : _ = some (Value.int .i64 x) := (hP.below.cell (p := ⟨ib, io + i, none⟩) HIB.out).trans CW.out; have g0 : _ = some (Value.int .i64 0) := hP.cell 2 0 rfl rfl 0; have g1 : _ = some (Value.int .i64 0) := hP.cell 2 0 rfl rfl 1; have f0 := blk_free (hP.get 2 0 rfl rfl) 0; have f1 := blk_free (hP.get 2 0 rfl rfl) 1; have gz := hP.lt 2 0 rfl rfl; have nx := hP.ne_out 2 3 0 0 rfl rfl rfl rfl (by decide); have nx' := hP.ne_out 3 2 0 0 rfl rfl rfl rfl (by decide); have ny : _ ≠ ib := Nat.ne_of_gt (Nat.lt_of_lt_of_le HIB.out (hP.ge 2 0 rfl rfl)); have ny' := Ne.symm ny))) | (go_at_call 27; (first | ((with_reducible refine (alloc_run1k hP (HLK _ tk) hl' hbl alV1_in _ HE.out).mono ?_); simp only [resN]; rintro e w4 ⟨rfl, m4, y4, hO'⟩; clear hP a0 a1 a2 cx; have hP := hO'; clear hO'; (first | (have a0 : _ = some (Value.int .i64 (A : Int)) := hP.cell 2 0 rfl rfl 0; have a1 : _ = some (Value.int .i64 s) := hP.cell 2 0 rfl rfl 1; have a2 : _ = some (Value.int .i64 t) := hP.cell 2 0 rfl rfl 2; have cx : _ = some (Value.int .i64 x) := (hP.below.cell (p := ⟨ib, io + i, none⟩) HIB.out).trans CW.out; skip) | (have a0 : _ = some (Value.int .i64 (A : Int)) := hP.cell 3 0 rfl rfl 0; have a1 : _ = some (Value.int .i64 s) := hP.cell 3 0 rfl rfl 1; have a2 : _ = some (Value.int .i64 t) := hP.cell 3 0 rfl rfl 2; have cx : _ = some (Value.int .i64 x) := (hP.below.cell (p := ⟨ib, io + i, none⟩) HIB.out).trans CW.out; have g0 : _ = some (Value.int .i64 0) := hP.cell 2 0 rfl rfl 0; have g1 : _ = some (Value.int .i64 0) := hP.cell 2 0 rfl rfl 1; have f0 := blk_free (hP.get 2 0 rfl rfl) 0; have f1 := blk_free (hP.get 2 0 rfl rfl) 1; have gz := hP.lt 2 0 rfl rfl; have nx := hP.ne_out 2 3 0 0 rfl rfl rfl rfl (by decide); have nx' := hP.ne_out 3 2 0 0 rfl rfl rfl rfl (by decide); have ny : _ ≠ ib := Nat.ne_of_gt (Nat.lt_of_lt_of_le HIB.out (hP.ge 2 0 rfl rfl)); have ny' := Ne.symm ny; skip))) | ((with_reducible refine (alloc_run1k (own3' (hP.alloc _)) (HLK _ tk) hl' hbl alV1_in _ HE.out).mono ?_); simp only [resN]; rintro e w4 ⟨rfl, m4, y4, hO'⟩; clear hP a0 a1 a2 cx; have hP := hO'; clear hO'; have a0 : _ = some (Value.int .i64 (A : Int)) := hP.cell 3 0 rfl rfl 0; have a1 : _ = some (Value.int .i64 s) := hP.cell 3 0 rfl rfl 1; have a2 : _ = some (Value.int .i64 t) := hP.cell 3 0 rfl rfl 2; have cx : _ = some (Value.int .i64 x) := (hP.below.cell (p := ⟨ib, io + i, none⟩) HIB.out).trans CW.out; have g0 : _ = some (Value.int .i64 0) := hP.cell 2 0 rfl rfl 0; have g1 : _ = some (Value.int .i64 0) := hP.cell 2 0 rfl rfl 1; have f0 := blk_free (hP.get 2 0 rfl rfl) 0; have f1 := blk_free (hP.get 2 0 rfl rfl) 1; have gz := hP.lt 2 0 rfl rfl; have nx := hP.ne_out 2 3 0 0 rfl rfl rfl rfl (by decide); have nx' := hP.ne_out 3 2 0 0 rfl rfl rfl rfl (by decide); have ny : _ ≠ ib := Nat.ne_of_gt (Nat.lt_of_lt_of_le HIB.out (hP.ge 2 0 rfl rfl)); have ny' := Ne.symm ny)))))
              | fail "run"
            all_goals
              go_wp2_with fail
              go_meet
              first
                | (with_reducible exact ⟨_, _, q, code, rn, N, rfl, rfl, HW.out, (hP.alloc _).drop 2⟩)
                | exact ⟨_, _, q, code, rn, N, rfl, rfl, HW.out, (res_set2 (own3 hP) (.int .i64 code) (.int .i64 rn)).drop 2⟩
                | exact ⟨_, _, q, code, rn, N, rfl, rfl, HW.out, (res_set2 (own3 hP) (.int .i64 code) (.int .i64 rn)).drew.drop 2⟩
          case rest =>
            obtain ⟨rb, m', q, code, rn, N, rfl, rfl, hway, hP'⟩ := hcut
            clear hP a0 a1 a2 az cx
            have hP := hP'
            clear hP'
            have cx : wc.cell? ⟨ib, io + i, none⟩ = some (.int .i64 x) := (hP.below.cell (p := ⟨ib, io + i, none⟩) HIB.out).trans CW.out
            (try simp only [List.set_cons_zero, List.set_cons_succ, List.cons_append, List.nil_append, List.eraseIdx_cons_succ, List.eraseIdx_cons_zero] at hP); have a0 : _ = some (Value.int .i64 (A : Int)) := hP.cell 2 0 rfl rfl 0; have a1 : _ = some (Value.int .i64 s) := hP.cell 2 0 rfl rfl 1; have a2 : _ = some (Value.int .i64 t) := hP.cell 2 0 rfl rfl 2; have az := hP.lt 2 0 rfl rfl
            have r0 : _ = some (Value.int .i64 code) := hP.cell 0 0 rfl rfl 0
            have r1 : _ = some (Value.int .i64 rn) := hP.cell 0 0 rfl rfl 1
            obtain ⟨b, er, hr⟩ : ∃ b er, hRound x = (b, er) := ⟨_, _, rfl⟩
            have HR := Lib.hid hr
            unfold AlWay at hway
            rw [hr] at hway
            simp only at hway
            clear hr
            rcases hway with ⟨g', hpre, hqb, rfl, hh⟩ | ⟨g', hpre, rfl, hb0, hb1, hks, hfit, rfl, rfl, hz, hwb⟩
            · have PQ := Lib.hid hpre
              have WQ := Lib.hid (show WB q.bs by rw [hqb]; exact WBH.out)
              clear hpre hqb
              rcases hh with ⟨rfl, rfl⟩ | ⟨rfl, hb0, hb1, rfl, rfl⟩ | ⟨rfl, hb0, hb1, hks, hfit, rfl⟩
              · go_wp2_with (go_at_call 29; refine (handle_round _ _).mono ?_; rw [HR.out]; rintro e w5 ⟨rfl, rfl⟩)
                go_roundw
                case rel => exact ⟨i + 1, _, _, _, _, _, _, by go_num, rfl, rfl, by omega, PQ.out, WQ.out, hP.tail⟩
                case measure => simp [intOf]; omega
              · go_wp2_with (go_at_call 29; refine (handle_round _ _).mono ?_; rw [HR.out]; rintro e w5 ⟨rfl, rfl⟩)
                all_goals
                  go_roundw
                  case rel => exact ⟨i + 1, _, _, _, _, _, _, by go_num, rfl, rfl, by omega, PQ.out, WQ.out, hP.tail⟩
                  case measure => simp [intOf]; omega
              · have kne : (k == s) = false := by simp; omega
                have fit : decide ((A : Int) < top + b) = true := by rw [decide_eq_true_eq]; omega
                go_wp2_with (go_at_call 29; refine (handle_round _ _).mono ?_; rw [HR.out]; rintro e w5 ⟨rfl, rfl⟩)
                go_roundw
                case rel => exact ⟨i + 1, _, _, _, _, _, _, by go_num, rfl, rfl, by omega, PQ.out, WQ.out, hP.tail⟩
                case measure => simp [intOf]; omega
            · have PQ := Lib.hid hpre
              have WQ := Lib.hid (hwb WBH.out)
              have HZ := Lib.hid hz
              have HM := Lib.hid (show hMake k 0 = (k + 1099511627776, 0) by rw [hMake_ok (by omega)]; simp)
              obtain ⟨-, hqb, -⟩ := hpre.lens
              have kne : (k == s) = false := by simp; omega
              have fit : decide ((A : Int) < top + b) = false := by rw [decide_eq_false_iff_not]; omega
              clear hpre hwb hz
              go_wp2_with first
                | (go_at_call 29; refine (handle_round _ _).mono ?_; rw [HR.out]; rintro e w5 ⟨rfl, rfl⟩)
                | (go_at_call 12; refine (handle_make _ _ _).mono ?_; rw [HM.out]; rintro e w6 ⟨rfl, rfl⟩)
              clear r0 r1 cx a0 a1 a2 az kne fit
              go_loopw [19] (fun zv wr => ∃ (z m : Int), zv = .int .i64 z ∧ top ≤ z ∧ z ≤ top + b ∧ Owns cb W wr ([(rb, Obj.cells #[.int .i64 0, .int .i64 (k + 1099511627776)] 41 (0, 0))] :: [memG p bw bb q.ws q.bs m, [(cb, Obj.cells #[.int .i64 (A : Int), .int .i64 s, .int .i64 t] 26 (0, 0))]])) (fun zv _ => (top + b - intOf zv).toNat)
              case atStart => exact ⟨_, _, rfl, by omega, by omega, hP⟩
              case round =>
                clear hP
                obtain ⟨z, m2, rfl, hz0, hz1, hP⟩ := hrel
                by_cases hlt2 : z < top + b
                · have HZZ := Lib.hid (HZ.out z hz0 hlt2)
                  go_wp2_with fail
                  refine (plain_Byte 1 z hP rfl hqb WQ.out).mono ?_; rw [HZZ.out]; rintro e w7 ⟨rfl, hO'⟩; clear hP; have hP := hO'; clear hO'; (try simp only [List.set_cons_zero, List.set_cons_succ, List.cons_append, List.nil_append, List.eraseIdx_cons_succ, List.eraseIdx_cons_zero] at hP)
                  go_wp2_with fail
                  go_roundw
                  case rel => exact ⟨z + 1, _, by go_num, by omega, by omega, hP⟩
                  case measure => simp [intOf]; omega
                · have hge : decide (z < top + b) = false := by rw [decide_eq_false_iff_not]; omega
                  go_wp2_with fail
                  go_roundw
                  case rel => exact ⟨i + 1, _, _, _, _, _, _, by go_num, by go_num, by go_num, by omega, PQ.out, WQ.out, hP.tail⟩
                  case measure => simp [intOf]; omega
        · have hge2 : decide (i < xs.length) = false := by rw [decide_eq_false_iff_not]; omega
          have F0 := Lib.hid PR.out.fr
          have F2 := Lib.hid PR.out.pe
          have tt : (top == top) = true := by simp
          clear hlt
          go_wp2_with fail
          refine (plain_Load 0 0 hP rfl hl').mono ?_; rw [F0.out]; rintro e w7 ⟨rfl, hO'⟩; clear hP; have hP := hO'; clear hO'; (try simp only [List.set_cons_zero, List.set_cons_succ, List.cons_append, List.nil_append, List.eraseIdx_cons_succ, List.eraseIdx_cons_zero] at hP)
          go_wp2_with fail
          refine (plain_Load 0 2 hP rfl hl').mono ?_; rw [F2.out]; rintro e w8 ⟨rfl, hO'⟩; clear hP; have hP := hO'; clear hO'; (try simp only [List.set_cons_zero, List.set_cons_succ, List.cons_append, List.nil_append, List.eraseIdx_cons_succ, List.eraseIdx_cons_zero] at hP)
          go_wp2_with (go_at_call 25; refine (law11_live _).mono ?_; rintro e w2 ⟨rfl, hb⟩; have hO' := hP.via hb; clear hP; have hP := hO'; clear hO')
          go_ret
          exact ⟨rfl, by rw [HC.out]; exact hP.below⟩
theorem AllocAlone_walk (a s t : Int) (v : Value) (xs : List (List Value)) (junk : Int) (W : World) (hs : SArg W [true] v xs) : Calls Try.prog 7 #[.agg #[.int .i64 a, .int .i64 s, .int .i64 t], v, .int .i64 junk] W fun e w' => e = .returned (.bool true) ∧ Below W.heap.size W w' := by
  rcases bool_cases (b := cfgOk a s t) with hc | hc
  · by_cases hn : 20 < xs.length
    · exact AllocAlone_far a s t v xs junk W hs hc hn
    · exact AllocAlone_go a s t v xs junk W hs hc (by omega)
  · exact AllocAlone_no a s t v xs junk W hs hc
end Go.Proofs.Ytboephhffklbbaa
