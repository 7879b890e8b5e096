/- The alloc law AllocApart. -/
import Derived.RegionTactic
import Derived.BigRegion
import Derived.Deep.RegionHeld3
import Derived.Outline
import Derived.LoopTactic
import Derived.Deep.DeepCutAuto
import Derived.BigQuiet
import Derived.Deep.QuietTactic
import Derived.Test.YtpebepjfgnoaaaaAaT0
namespace Go.Proofs.Ytpebepjfgnoaaaa
set_option linter.unusedVariables false
set_option linter.unusedSimpArgs false
open Go.RowKit
set_option maxRecDepth 100000 in
set_option maxHeartbeats 16000000 in
theorem AllocApart_go (a s t : Int) (v : Value) (xs : List (List Value)) (W : World) (hs : SArg W [true, true, true, true] v xs) (hn : xs.length ≤ 150 ∧ a ≤ 200) (hc : cfgOk a s t = true) : Calls Try.prog 7 #[.agg #[.int .i64 a, .int .i64 s, .int .i64 t], v] W fun e w' => e = .returned (.bool true) ∧ Below W.heap.size W w' := by
  obtain ⟨pa, cap, rfl, hl, hx⟩ := hs.form
  have h2 : decide ((150 : Int) < (xs.length : Int)) = false := by rw [decide_eq_false_iff_not]; omega
  have h3 : decide ((200 : Int) < a) = false := by rw [decide_eq_false_iff_not]; omega
  have CK := Lib.hid hc
  have HX := Lib.hid hx
  obtain ⟨a8, -, -, s1, s4, t1, t4⟩ := cfgOk_of hc
  have HL := Lib.hid (lOk_yes hc)
  obtain ⟨N, hN⟩ : ∃ N : Nat, s = N := ⟨s.toNat, by omega⟩
  obtain ⟨A, hA⟩ : ∃ A : Nat, a = A := ⟨a.toNat, by omega⟩
  have HA := Lib.hid hA
  have HB := Lib.hid (show Base s (upF 0 N) by rw [hN]; exact upF_base N)
  have HF := Lib.hid (show ∀ M : Nat → AaM, (∀ j, (M j).v = alV0 1) → (∀ j, 0 ≤ (M j).c.by' ∧ (M j).c.by' ≤ 256) → AaInv t s a (upF 0 N) (aaB M) (initW t s) 0 0 (upF 0 N) [] (aaV M) by
    rw [hN]; exact fun M h1 h2 => AaInv.first t1 t4 (by omega) (by omega) (by omega) _ h2 _ (fun j => by show Fresh (M j).v; rw [h1 j]; exact alV1_fresh))
  have NX := Lib.hid (show alNx a s t = 1 by unfold alNx; rw [if_pos hc])
  have HC0 := Lib.hid (show ∀ n tk, I64 n → (alC0 a s t n tk).t = t ∧ (alC0 a s t n tk).s = s ∧ (alC0 a s t n tk).ar = a ∧ I64 (alC0 a s t n tk).n ∧ 0 ≤ (alC0 a s t n tk).by' ∧ (alC0 a s t n tk).by' ≤ 256 from fun n tk hn => ⟨(of_yes hc).1, (of_yes hc).2.1, rfl, hn, hRound_bdA n⟩)
  obtain ⟨hn1, hn2⟩ := hn
  clear hx hs hc hN hA
  have hO := (Owns.nil W).more (.cells #[.int .i64 a, .int .i64 s, .int .i64 t] 23)
  go_enter Try.func7, Try.ntmps7
  go_wp2_with fail
  generalize W.alloc (.cells #[.int .i64 a, .int .i64 s, .int .i64 t] 23) = w0 at hO ⊢
  refine (law11_start a s t hO CK.out).mono ?_; rintro e w1 ⟨p, bw, bb, m, rfl, hO'⟩
  clear hO h2 h3
  have hP := hO'
  clear hO'
  go_upto_region 6 with fail
  have hO' := hP.drew; clear hP; have hP := hO'; clear hO'
  have a0 : _ = some (Value.int .i64 a) := hP.cell 1 0 rfl rfl 0
  have a1 : _ = some (Value.int .i64 s) := hP.cell 1 0 rfl rfl 1
  have a2 : _ = some (Value.int .i64 t) := hP.cell 1 0 rfl rfl 2
  first
    | go_loud (go_region_held3 (fun w => w.cell? ⟨W.heap.size, 0, none⟩ = some (.int .i64 a) ∧ w.cell? ⟨W.heap.size, 1, none⟩ = some (.int .i64 s) ∧ w.cell? ⟨W.heap.size, 2, none⟩ = some (.int .i64 t)) (first | (with_reducible exact ⟨a0, a1, a2⟩) | exact ⟨cell_alloc _ a0, cell_alloc _ a1, cell_alloc _ a2⟩) ((go_at_call 39; refine (alloc_New_app a s t _ hP).mono ?_; rw [NX.out]; rintro e w7 ⟨px, tk, rfl, hb, hO'⟩; have hP := hO'; have a0 := cell_below hb a0; have a1 := cell_below hb a1; have a2 := cell_below hb a2)))
    | fail "three"
  all_goals
    go_upto_region 7 with fail
    obtain ⟨M, hM1, hM2, hO⟩ := aa_pack (T1 := 72) hP
    have hM3 := hM2 (fun c => c.t = t ∧ c.s = s ∧ c.ar = a ∧ I64 c.n ∧ 0 ≤ c.by' ∧ c.by' ≤ 256) ⟨HC0.out _ _ ⟨by decide, by decide⟩, HC0.out _ _ ⟨by decide, by decide⟩, HC0.out _ _ ⟨by decide, by decide⟩⟩
    have H0 := Lib.hid (HF.out M hM1 (fun j => (hM3 j).2.2.2.2))
    have HM := Lib.hid (And.intro hM1 hM3)
    clear hM1 hM2 hM3 hP a0 a1 a2 HF
    generalize World.alloc w7 _ = w8 at hO ⊢
    generalize w7.heap.size = ab at hO ⊢
    have hP := hO.alloc (.cells (intArr [4, 9, 1]) 3)
    clear hO
    have k1 := fun w => made_intsA A (by have := HA.out; omega) w
    rw [← HA.out] at k1
    have k2 := fun w => made_bools 3 3 rfl (by decide) w
    go_upto_region 8 with fail
    rw [show (#[.int .i64 4, .int .i64 9, .int .i64 1] : Array Value) = intArr [4, 9, 1] from rfl]
    generalize World.alloc w8 _ = w9 at hP ⊢
    generalize w8.heap.size = zb at hP ⊢
    have a0 : _ = some (Value.int .i64 a) := hP.cell 2 0 rfl rfl 0
    have hP2 := (hP.alloc (.cells (intArr (mks A 0)) 3)).alloc (.cells (rowA (fun _ => .bool false) 3) 4)
    simp only [World.size_alloc] at hP2
    go_upto_region 11 with fail
    have hO := aa_pack2 hP2
    clear hP hP2 k1 k2 a0
    rw [show (fun _ : Nat => Value.bool false) = aaH M by funext j; unfold aaH; rw [HM.out.1 j]; rfl] at hO ⊢
    have hM2 := Lib.hid HM.out.2
    have hM3 := Lib.hid (HM.out.1 3)
    clear HM
    generalize World.alloc (World.alloc w9 _) _ = w10 at hO ⊢
    generalize w9.heap.size + 1 = hb at hO ⊢
    generalize w9.heap.size = ob at hO ⊢
    go_wp2_with fail
    go_loopw [9, 11] (fun tk i wr => ∃ (k Fn : Nat) (mm g : Int) (ws bs L TD : List Int) (M : Nat → AaM) (tv : Value) (cur : List Value) (szs : List Int) (O : Grp), i = .int .i64 k ∧ k ≤ xs.length ∧ g ≤ (k : Int) ∧ tk = tv ∧ RowOk tv ((TD.map hdl).map (Value.int .i64)) cur ∧ szs.length = 3 ∧ bs.length ≤ 4096 ∧ Hid (AaInv t s a (upF 0 N) (aaB M) ws Fn g L TD (aaV M)) ∧ Hid (∀ j, (M j).c.t = t ∧ (M j).c.s = s ∧ (M j).c.ar = a ∧ I64 (M j).c.n ∧ 0 ≤ (M j).c.by' ∧ (M j).c.by' ≤ 256) ∧ Hid ((M 3).v = alV0 1) ∧ Owns W.heap.size W wr (memG p bw bb ws bs mm :: [(W.heap.size, Obj.cells #[Value.int .i64 a, .int .i64 s, .int .i64 t] 23 (0, 0))] :: [(ab, Obj.cells (rowA (aaR M) 3) 72 (0, 0))] :: [(zb, Obj.cells (intArr szs) 3 (0, 0))] :: [(ob, Obj.cells (intArr (mks A Fn)) 3 (0, 0))] :: rowG 3 tv cur :: [(hb, Obj.cells (rowA (aaH M) 3) 4 (0, 0))] :: O :: fam (aaF M) 3)) (fun _ i _ => xs.length - (intOf i).toNat)
    case atStart => exact ⟨0, 0, _, 0, _, _, _, [], M, _, [], [4, 9, 1], [], rfl, by omega, by omega, rfl, RowOk.nil, rfl, by rw [List.length_replicate]; omega, H0, hM2, hM3, hO⟩
    case round =>
      clear hO H0 hM2 hM3
      obtain ⟨k, Fn, mm, g, ws, bs, L, TD, M, tv, cur, szs, O, rfl, hk, hg, rfl, hrow, hsz, hbl, hI, HM, HM3, hP⟩ := hrel
      have HROW := Lib.hid hrow
      clear hrow
      have hwl : ws.length ≤ 4096 := by have := hI.out.sa.len; omega
      by_cases hlt : k < xs.length
      · obtain ⟨ib, io, rfl, hib, hI', hB'⟩ := HX.out k hlt
        have i0 := (hI' 0 rfl).1
        have i1 := (hI' 1 rfl).1
        have p0 := (hI' 0 rfl).2
        have p1 := (hI' 1 rfl).2
        simp only [List.length_cons, List.length_nil, Nat.add_zero, Nat.zero_add] at i0 i1
        obtain ⟨pk, hpk⟩ : ∃ d, getI xs k 0 = d := ⟨_, rfl⟩
        obtain ⟨nb, hnb⟩ : ∃ d, getI xs k 1 = d := ⟨_, rfl⟩
        rw [hpk] at i0 p0
        rw [hnb] at i1 p1
        obtain ⟨p0a, p0b⟩ := p0
        have HNB := Lib.hid (show I64 nb from p1)
        have IC := Lib.hid (show ∀ wq, Below W.heap.size W wq → wq.cell? ⟨ib, io + k * 4, none⟩ = some (.int .i64 pk) ∧ wq.cell? ⟨ib, io + k * 4 + 1, none⟩ = some (.int .i64 nb) from
          fun wq h => ⟨(h.cell (p := ⟨ib, io + k * 4, none⟩) hib).trans i0, (h.cell (p := ⟨ib, io + k * 4 + 1, none⟩) hib).trans i1⟩)
        clear hI' hB' hpk hnb i0 i1 hib p1
        have hlti : (k : Int) < (xs.length : Int) := by omega
        have hk0 : (0 : Int) ≤ (k : Int) := by omega
        have j0 := (IC.out _ hP.below).1
        by_cases hq0 : 0 ≤ pk.tmod 3
        rotate_left
        · have hq1 : decide (pk.tmod 3 < 0) = true := by rw [decide_eq_true_iff]; omega
          have hO := hP
          clear hq0
          go_wp2_with (go_at_call 37; refine (law11_live _).mono ?_; rintro e w2 ⟨rfl, hb⟩; have hO := hO.via hb)
          go_ret
          exact ⟨rfl, hO.below⟩
        obtain ⟨q, hq⟩ : ∃ q : Nat, pk.tmod 3 = q := ⟨(pk.tmod 3).toNat, by omega⟩
        have hq3 : q < 3 := by have := Int.tmod_lt_of_pos pk (show (0 : Int) < 3 by decide); omega
        have hq1 : decide ((q : Int) < 0) = false := by rw [decide_eq_false_iff_not]; omega
        have hq2 : (0 : Int) ≤ (q : Int) := by omega
        have hq4 : (q : Int) < 3 := by omega
        clear hq0
        have HLV := Lib.hid (show LV a ((M q).c.by') (M q).v from hI.out.lv q (by omega))
        obtain ⟨r, hr⟩ : ∃ r, alStep (M q).c ws bs (M q).v = r := ⟨_, rfl⟩
        have HGO := Lib.hid (show AaPost t s a (upF 0 N) (aaB M) Fn g L TD (aaV M) q r by
          rw [← hr]
          exact aa_go ⟨HB.out, t1, s1, s4, by omega, by omega, hI.out, by omega, (HM.out q).1, (HM.out q).2.1, (HM.out q).2.2.1, rfl, (HM.out q).2.2.2.1⟩ bs)
        have HBL := Lib.hid (show r.bs.length = bs.length by rw [← hr]; exact (alStep_len _ _ _ _ HLV.out.al).2)
        have HR := Lib.hid hr
        have HF0 := Lib.hid hI.out.f0
        clear hr
        cases hrd : r.done
        · obtain ⟨F', g', L', hI', hg', hev⟩ := (HGO.out.1 hrd).out
          rcases hev with ⟨hcl, hold, hF', hfe, hB1⟩ | ⟨hF', hcc⟩
          · obtain ⟨Bn, hbn⟩ : ∃ Bn : Nat, (M q).c.by' = Bn := ⟨(M q).c.by'.toNat, by have : 1 ≤ (M q).c.by' := hB1; omega⟩
            have hroom : (Fn : Int) + (Bn : Int) ≤ a := by have := hI'.f0; rw [hF'] at this; have e : aaB M q = (M q).c.by' := rfl; omega
            have hold : (M q).v.cl = false := hold
            have eF : F' = ((Fn + Bn : Nat) : Int) := by rw [hF']; have e : aaB M q = (M q).c.by' := rfl; omega
            rw [eF] at hI'
            clear eF
            clear hF' hB1
            have g9 : _ = some (Value.pointer (some ⟨(M q).x, 0, none⟩)) := rowA_cell hP 2 0 rfl rfl q hq3
            go_wp2_with fail
            refine (aa_stepW hq3 hP (by rw [(HM.out q).1, (HM.out q).2.1]; exact HL.out) hwl hbl HLV.out.al r HR.out).mono ?_; simp only [resV]; rintro e w12 ⟨rfl, n', yy, hO'⟩; clear hP; have hP := hO'; clear hO'
            rw [hrd] at ⊢
            clear g9 j0
            go_upto_region 18 with fail
            have hO' := (hP.alloc (.cells #[.int .i64 r.code, .int .i64 r.rn] 79)).place 7; clear hP; have hP := hO'; clear hO'; (try simp only [List.set_cons_zero, List.set_cons_succ, List.cons_append, List.nil_append, List.eraseIdx_cons_succ, List.eraseIdx_cons_zero] at hP)
            generalize w12.alloc _ = w13 at hP ⊢
            generalize w12.heap.size = rb at hP ⊢
            have g9 : _ = some (Value.pointer (some ⟨(M q).x, 0, none⟩)) := rowA_cell hP 2 0 rfl rfl q hq3
            go_wp2_with fail
            have hfg := fam_get (aaF (upd M q ⟨(M q).x, { (M q).c with gp := yy }, r.v⟩)) hq3
            unfold aaF at hfg
            rw [upd_same] at hfg
            refine (al_Holds (q + 8) hP (by simp only [List.getElem?_cons_succ]; exact hfg)).mono ?_
            dsimp only
            rw [hcl]
            simp only [if_true]
            rintro e w14 ⟨rfl, dn, rfl⟩
            have hO' := hP.drewN dn; clear hP; have hP := hO'; clear hO'
            clear g9 hfg
            generalize World.drewN w13 dn = w15 at hP ⊢

            have az : _ = some (Value.bool (M q).v.cl) := rowA_cell hP 6 0 rfl rfl q hq3
            rw [hold] at az
            have wsum : IntKind.i64.wrap ((Fn : Int) + (Bn : Int)) = (Fn : Int) + (Bn : Int) := i64in _ (by omega) (by omega)
            rw [hfe, hbn]
            go_upto_region 20 with fail
            clear az
            go_wp2_with fail
            go_loopw [18] (fun kk wr => ∃ (i : Nat), kk = .int .i64 ((Fn + i : Nat) : Int) ∧ i ≤ Bn ∧ Owns W.heap.size W wr (memG p bw bb r.ws r.bs n' :: [(W.heap.size, Obj.cells #[Value.int .i64 a, .int .i64 s, .int .i64 t] 23 (0, 0))] :: [(ab, Obj.cells (rowA (aaR M) 3) 72 (0, 0))] :: [(zb, Obj.cells (intArr szs) 3 (0, 0))] :: [(ob, Obj.cells (intArr (mks A (Fn + i))) 3 (0, 0))] :: rowG 3 u9 cur :: [(hb, Obj.cells (rowA (aaH M) 3) 4 (0, 0))] :: [(rb, Obj.cells #[.int .i64 r.code, .int .i64 r.rn] 79 (0, 0))] :: fam (aaF (upd M q ⟨(M q).x, { (M q).c with gp := yy }, r.v⟩)) 3)) (fun kk _ => Fn + Bn - (intOf kk).toNat)
            case atStart => exact ⟨0, rfl, by omega, hP⟩
            case round =>
              clear hP
              obtain ⟨i, rfl, hi, hP⟩ := hrel
              by_cases hib2 : i < Bn
              · have q0 : decide (((Fn + i : Nat) : Int) < 0) = false := by rw [decide_eq_false_iff_not]; omega
                have q1 : decide (a ≤ ((Fn + i : Nat) : Int)) = false := by rw [decide_eq_false_iff_not]; omega
                have q2 : ((Fn + i : Nat) : Int) < (Fn : Int) + (Bn : Int) := by omega
                have q3 : (0 : Int) ≤ ((Fn + i : Nat) : Int) := by omega
                have hiA : Fn + i < A := by have := HA.out; omega
                have q4 : ((Fn + i : Nat) : Int) < (A : Int) := by omega
                have z0 : _ = some (Value.int .i64 a) := hP.cell 1 0 rfl rfl 0
                have z1 : _ = some (Value.int .i64 0) := (hP.cell 4 0 rfl rfl (Fn + i)).trans ((mks_get hiA).trans (by rw [if_neg (Nat.lt_irrefl _)]))
                have z2 := blk_free (hP.get 4 0 rfl rfl) (Fn + i)
                have z3 := hP.lt 4 0 rfl rfl
                go_wp2_with fail
                have hP2 := hP.set 4 0 rfl rfl (Fn + i) (.int .i64 1)
                rw [intArr_set, mks_step hiA] at hP2
                simp only [List.set_cons_zero, List.set_cons_succ] at hP2
                go_roundw
                case rel => exact ⟨i + 1, by go_num, by omega, hP2⟩
                case measure => simp [intOf]; omega
              · have hie : i = Bn := by omega
                subst hie
                have q2 : ¬ ((Fn + i : Nat) : Int) < (Fn : Int) + (i : Int) := by omega
                clear hib2
                go_upto_region 28 with fail
                clear q2 wsum
                have az : _ = some (aaH M q) := rowA_cell hP 6 0 rfl rfl q hq3
                have ay := hP.lt 6 0 rfl rfl
                have af := blk_free (hP.get 6 0 rfl rfl) q
                unfold aaH at az
                go_upto_region 29 with fail
                have hO' := rowA_put hP 6 rfl q (.bool true); clear hP; have hP := hO'; clear hO'; (try simp only [List.set_cons_zero, List.set_cons_succ, List.cons_append, List.nil_append, List.eraseIdx_cons_succ, List.eraseIdx_cons_zero] at hP)
                rw [show upd (aaH M) q (.bool true) = aaH (upd M q ⟨(M q).x, { (M q).c with gp := yy }, r.v⟩) by rw [← aaH_upd]; dsimp only; rw [hcl]] at hP
                rw [← aaR_same M q ⟨(M q).x, { (M q).c with gp := yy }, r.v⟩ rfl] at hP
                clear az ay af

                have HNEW := Lib.hid (show ∀ j, (upd M q ⟨(M q).x, { (M q).c with gp := yy }, r.v⟩ j).c.t = t ∧ (upd M q ⟨(M q).x, { (M q).c with gp := yy }, r.v⟩ j).c.s = s ∧ (upd M q ⟨(M q).x, { (M q).c with gp := yy }, r.v⟩ j).c.ar = a ∧ I64 (upd M q ⟨(M q).x, { (M q).c with gp := yy }, r.v⟩ j).c.n ∧ 0 ≤ (upd M q ⟨(M q).x, { (M q).c with gp := yy }, r.v⟩ j).c.by' ∧ (upd M q ⟨(M q).x, { (M q).c with gp := yy }, r.v⟩ j).c.by' ≤ 256 by
                  intro i; unfold upd; split
                  · exact HM.out q
                  · exact HM.out i)
                have H3N := Lib.hid (show (upd M q ⟨(M q).x, { (M q).c with gp := yy }, r.v⟩ 3).v = alV0 1 by rw [upd_ne _ _ (by omega)]; exact HM3.out)
                have HI1 := Lib.hid (show AaInv t s a (upF 0 N) (aaB (upd M q ⟨(M q).x, { (M q).c with gp := yy }, r.v⟩)) r.ws ((Fn + i : Nat) : Int) g' L' TD (aaV (upd M q ⟨(M q).x, { (M q).c with gp := yy }, r.v⟩)) by
                  rw [aaV_upd, aaB_upd]
                  have e : upd (aaB M) q ({ (M q).c with gp := yy } : AlC).by' = aaB M := upd_self (aaB M) q
                  rw [e]
                  exact hI')

                generalize upd M q ⟨(M q).x, { (M q).c with gp := yy }, r.v⟩ = M9 at hP HNEW HI1 H3N
                generalize World.setCell _ _ _ = w17 at hP ⊢
                go_wp2_with fail
                go_roundw
                case rel => exact ⟨k + 1, Fn + i, _, g', r.ws, r.bs, L', TD, M9, _, cur, szs, _, by go_num, by omega, by omega, rfl, HROW.out, hsz, by rw [HBL.out]; exact hbl, HI1, HNEW, H3N, hP⟩
                case measure => simp [intOf]; omega
          · have hI' : AaInv t s a (upF 0 N) (aaB M) r.ws (Fn : Int) g' L' TD (upd (aaV M) q r.v) := by rw [← hF']; exact hI'
            clear hF'
            cases hcl : r.v.cl
            · clear hcc
              have g9 : _ = some (Value.pointer (some ⟨(M q).x, 0, none⟩)) := rowA_cell hP 2 0 rfl rfl q hq3
              go_wp2_with fail
              refine (aa_stepW hq3 hP (by rw [(HM.out q).1, (HM.out q).2.1]; exact HL.out) hwl hbl HLV.out.al r HR.out).mono ?_; simp only [resV]; rintro e w12 ⟨rfl, n', yy, hO'⟩; clear hP; have hP := hO'; clear hO'
              rw [hrd] at ⊢
              clear g9 j0
              go_upto_region 18 with fail
              have hO' := (hP.alloc (.cells #[.int .i64 r.code, .int .i64 r.rn] 79)).place 7; clear hP; have hP := hO'; clear hO'; (try simp only [List.set_cons_zero, List.set_cons_succ, List.cons_append, List.nil_append, List.eraseIdx_cons_succ, List.eraseIdx_cons_zero] at hP)
              generalize w12.alloc _ = w13 at hP ⊢
              generalize w12.heap.size = rb at hP ⊢
              have g9 : _ = some (Value.pointer (some ⟨(M q).x, 0, none⟩)) := rowA_cell hP 2 0 rfl rfl q hq3
              go_wp2_with fail
              have hfg := fam_get (aaF (upd M q ⟨(M q).x, { (M q).c with gp := yy }, r.v⟩)) hq3
              unfold aaF at hfg
              rw [upd_same] at hfg
              refine (al_Holds (q + 8) hP (by simp only [List.getElem?_cons_succ]; exact hfg)).mono ?_
              dsimp only
              rw [hcl]
              simp only [Bool.false_eq_true, if_false]
              rintro e w14 ⟨rfl, dn, rfl⟩
              have hO' := hP.drewN dn; clear hP; have hP := hO'; clear hO'
              clear g9 hfg
              generalize World.drewN w13 dn = w15 at hP ⊢

              have az : _ = some (Value.bool (M q).v.cl) := rowA_cell hP 6 0 rfl rfl q hq3
              go_upto_region 28 with fail
              clear az

              have az : _ = some (aaH M q) := rowA_cell hP 6 0 rfl rfl q hq3
              have ay := hP.lt 6 0 rfl rfl
              have af := blk_free (hP.get 6 0 rfl rfl) q
              unfold aaH at az
              go_upto_region 29 with fail
              have hO' := rowA_put hP 6 rfl q (.bool false); clear hP; have hP := hO'; clear hO'; (try simp only [List.set_cons_zero, List.set_cons_succ, List.cons_append, List.nil_append, List.eraseIdx_cons_succ, List.eraseIdx_cons_zero] at hP)
              rw [show upd (aaH M) q (.bool false) = aaH (upd M q ⟨(M q).x, { (M q).c with gp := yy }, r.v⟩) by rw [← aaH_upd]; dsimp only; rw [hcl]] at hP
              rw [← aaR_same M q ⟨(M q).x, { (M q).c with gp := yy }, r.v⟩ rfl] at hP
              clear az ay af

              have HNEW := Lib.hid (show ∀ j, (upd M q ⟨(M q).x, { (M q).c with gp := yy }, r.v⟩ j).c.t = t ∧ (upd M q ⟨(M q).x, { (M q).c with gp := yy }, r.v⟩ j).c.s = s ∧ (upd M q ⟨(M q).x, { (M q).c with gp := yy }, r.v⟩ j).c.ar = a ∧ I64 (upd M q ⟨(M q).x, { (M q).c with gp := yy }, r.v⟩ j).c.n ∧ 0 ≤ (upd M q ⟨(M q).x, { (M q).c with gp := yy }, r.v⟩ j).c.by' ∧ (upd M q ⟨(M q).x, { (M q).c with gp := yy }, r.v⟩ j).c.by' ≤ 256 by
                intro i; unfold upd; split
                · exact HM.out q
                · exact HM.out i)
              have H3N := Lib.hid (show (upd M q ⟨(M q).x, { (M q).c with gp := yy }, r.v⟩ 3).v = alV0 1 by rw [upd_ne _ _ (by omega)]; exact HM3.out)
              have HI1 := Lib.hid (show AaInv t s a (upF 0 N) (aaB (upd M q ⟨(M q).x, { (M q).c with gp := yy }, r.v⟩)) r.ws (Fn : Int) g' L' TD (aaV (upd M q ⟨(M q).x, { (M q).c with gp := yy }, r.v⟩)) by
                rw [aaV_upd, aaB_upd]
                have e : upd (aaB M) q ({ (M q).c with gp := yy } : AlC).by' = aaB M := upd_self (aaB M) q
                rw [e]
                exact hI')

              generalize upd M q ⟨(M q).x, { (M q).c with gp := yy }, r.v⟩ = M9 at hP HNEW HI1 H3N
              generalize World.setCell _ _ _ = w17 at hP ⊢
              go_wp2_with fail
              go_roundw
              case rel => exact ⟨k + 1, Fn, _, g', r.ws, r.bs, L', TD, M9, _, cur, szs, _, by go_num, by omega, by omega, rfl, HROW.out, hsz, by rw [HBL.out]; exact hbl, HI1, HNEW, H3N, hP⟩
              case measure => simp [intOf]; omega
            · have hold : (M q).v.cl = true := hcc hcl
              clear hcc
              have g9 : _ = some (Value.pointer (some ⟨(M q).x, 0, none⟩)) := rowA_cell hP 2 0 rfl rfl q hq3
              go_wp2_with fail
              refine (aa_stepW hq3 hP (by rw [(HM.out q).1, (HM.out q).2.1]; exact HL.out) hwl hbl HLV.out.al r HR.out).mono ?_; simp only [resV]; rintro e w12 ⟨rfl, n', yy, hO'⟩; clear hP; have hP := hO'; clear hO'
              rw [hrd] at ⊢
              clear g9 j0
              go_upto_region 18 with fail
              have hO' := (hP.alloc (.cells #[.int .i64 r.code, .int .i64 r.rn] 79)).place 7; clear hP; have hP := hO'; clear hO'; (try simp only [List.set_cons_zero, List.set_cons_succ, List.cons_append, List.nil_append, List.eraseIdx_cons_succ, List.eraseIdx_cons_zero] at hP)
              generalize w12.alloc _ = w13 at hP ⊢
              generalize w12.heap.size = rb at hP ⊢
              have g9 : _ = some (Value.pointer (some ⟨(M q).x, 0, none⟩)) := rowA_cell hP 2 0 rfl rfl q hq3
              go_wp2_with fail
              have hfg := fam_get (aaF (upd M q ⟨(M q).x, { (M q).c with gp := yy }, r.v⟩)) hq3
              unfold aaF at hfg
              rw [upd_same] at hfg
              refine (al_Holds (q + 8) hP (by simp only [List.getElem?_cons_succ]; exact hfg)).mono ?_
              dsimp only
              rw [hcl]
              simp only [if_true]
              rintro e w14 ⟨rfl, dn, rfl⟩
              have hO' := hP.drewN dn; clear hP; have hP := hO'; clear hO'
              clear g9 hfg
              generalize World.drewN w13 dn = w15 at hP ⊢

              have az : _ = some (Value.bool (M q).v.cl) := rowA_cell hP 6 0 rfl rfl q hq3
              rw [hold] at az
              go_upto_region 28 with fail
              clear az

              have az : _ = some (aaH M q) := rowA_cell hP 6 0 rfl rfl q hq3
              have ay := hP.lt 6 0 rfl rfl
              have af := blk_free (hP.get 6 0 rfl rfl) q
              unfold aaH at az
              go_upto_region 29 with fail
              have hO' := rowA_put hP 6 rfl q (.bool true); clear hP; have hP := hO'; clear hO'; (try simp only [List.set_cons_zero, List.set_cons_succ, List.cons_append, List.nil_append, List.eraseIdx_cons_succ, List.eraseIdx_cons_zero] at hP)
              rw [show upd (aaH M) q (.bool true) = aaH (upd M q ⟨(M q).x, { (M q).c with gp := yy }, r.v⟩) by rw [← aaH_upd]; dsimp only; rw [hcl]] at hP
              rw [← aaR_same M q ⟨(M q).x, { (M q).c with gp := yy }, r.v⟩ rfl] at hP
              clear az ay af

              have HNEW := Lib.hid (show ∀ j, (upd M q ⟨(M q).x, { (M q).c with gp := yy }, r.v⟩ j).c.t = t ∧ (upd M q ⟨(M q).x, { (M q).c with gp := yy }, r.v⟩ j).c.s = s ∧ (upd M q ⟨(M q).x, { (M q).c with gp := yy }, r.v⟩ j).c.ar = a ∧ I64 (upd M q ⟨(M q).x, { (M q).c with gp := yy }, r.v⟩ j).c.n ∧ 0 ≤ (upd M q ⟨(M q).x, { (M q).c with gp := yy }, r.v⟩ j).c.by' ∧ (upd M q ⟨(M q).x, { (M q).c with gp := yy }, r.v⟩ j).c.by' ≤ 256 by
                intro i; unfold upd; split
                · exact HM.out q
                · exact HM.out i)
              have H3N := Lib.hid (show (upd M q ⟨(M q).x, { (M q).c with gp := yy }, r.v⟩ 3).v = alV0 1 by rw [upd_ne _ _ (by omega)]; exact HM3.out)
              have HI1 := Lib.hid (show AaInv t s a (upF 0 N) (aaB (upd M q ⟨(M q).x, { (M q).c with gp := yy }, r.v⟩)) r.ws (Fn : Int) g' L' TD (aaV (upd M q ⟨(M q).x, { (M q).c with gp := yy }, r.v⟩)) by
                rw [aaV_upd, aaB_upd]
                have e : upd (aaB M) q ({ (M q).c with gp := yy } : AlC).by' = aaB M := upd_self (aaB M) q
                rw [e]
                exact hI')

              generalize upd M q ⟨(M q).x, { (M q).c with gp := yy }, r.v⟩ = M9 at hP HNEW HI1 H3N
              generalize World.setCell _ _ _ = w17 at hP ⊢
              go_wp2_with fail
              go_roundw
              case rel => exact ⟨k + 1, Fn, _, g', r.ws, r.bs, L', TD, M9, _, cur, szs, _, by go_num, by omega, by omega, rfl, HROW.out, hsz, by rw [HBL.out]; exact hbl, HI1, HNEW, H3N, hP⟩
              case measure => simp [intOf]; omega
        · have hend := HGO.out.2 hrd
          have hcl := hend.cl
          have g9 : _ = some (Value.pointer (some ⟨(M q).x, 0, none⟩)) := rowA_cell hP 2 0 rfl rfl q hq3
          go_wp2_with fail
          refine (aa_stepW hq3 hP (by rw [(HM.out q).1, (HM.out q).2.1]; exact HL.out) hwl hbl HLV.out.al r HR.out).mono ?_; simp only [resV]; rintro e w12 ⟨rfl, n', yy, hO'⟩; clear hP; have hP := hO'; clear hO'
          rw [hrd] at ⊢
          clear g9 j0
          go_upto_region 18 with fail
          have hO' := (hP.alloc (.cells #[.int .i64 r.code, .int .i64 r.rn] 79)).place 7; clear hP; have hP := hO'; clear hO'; (try simp only [List.set_cons_zero, List.set_cons_succ, List.cons_append, List.nil_append, List.eraseIdx_cons_succ, List.eraseIdx_cons_zero] at hP)
          generalize w12.alloc _ = w13 at hP ⊢
          generalize w12.heap.size = rb at hP ⊢
          have g9 : _ = some (Value.pointer (some ⟨(M q).x, 0, none⟩)) := rowA_cell hP 2 0 rfl rfl q hq3
          go_wp2_with fail
          have hfg := fam_get (aaF (upd M q ⟨(M q).x, { (M q).c with gp := yy }, r.v⟩)) hq3
          unfold aaF at hfg
          rw [upd_same] at hfg
          refine (al_Holds (q + 8) hP (by simp only [List.getElem?_cons_succ]; exact hfg)).mono ?_
          dsimp only
          rw [hcl]
          simp only [Bool.false_eq_true, if_false]
          rintro e w14 ⟨rfl, dn, rfl⟩
          have hO' := hP.drewN dn; clear hP; have hP := hO'; clear hO'
          clear g9 hfg
          generalize World.drewN w13 dn = w15 at hP ⊢

          have az : _ = some (Value.bool (M q).v.cl) := rowA_cell hP 6 0 rfl rfl q hq3
          go_upto_region 28 with fail
          clear az

          have az : _ = some (aaH M q) := rowA_cell hP 6 0 rfl rfl q hq3
          have ay := hP.lt 6 0 rfl rfl
          have af := blk_free (hP.get 6 0 rfl rfl) q
          unfold aaH at az
          go_upto_region 29 with fail
          have hO' := rowA_put hP 6 rfl q (.bool false); clear hP; have hP := hO'; clear hO'; (try simp only [List.set_cons_zero, List.set_cons_succ, List.cons_append, List.nil_append, List.eraseIdx_cons_succ, List.eraseIdx_cons_zero] at hP)
          rw [show upd (aaH M) q (.bool false) = aaH (upd M q ⟨(M q).x, { (M q).c with gp := yy }, r.v⟩) by rw [← aaH_upd]; dsimp only; rw [hcl]] at hP
          rw [← aaR_same M q ⟨(M q).x, { (M q).c with gp := yy }, r.v⟩ rfl] at hP
          clear az ay af

          generalize World.setCell _ _ _ = w17 at hP ⊢
          obtain ⟨TD', hcode, hm⟩ := hend.out
          have HMM := Lib.hid hm
          clear hm hend
          have r0 : _ = some (Value.int .i64 r.code) := hP.cell 7 0 rfl rfl 0
          have r1 : _ = some (Value.int .i64 r.rn) := hP.cell 7 0 rfl rfl 1
          rcases hcode with ⟨hc0, sl, hrn, l0, l1, lnot, hTD⟩ | ⟨hc0, hTD⟩
          · rw [hc0] at r0
            have HDS := Lib.hid (show ∀ x ∈ TD, hdl x ≠ r.rn from fun x hx e => by
              have hxb := hI.out.sa.bdT HB.out x (by simp [hx])
              have := hdl_inj hxb.1 (by omega) l0 (by omega) (e.trans hrn)
              exact lnot (this ▸ hx))
            have HTD := Lib.hid (And.intro hTD hrn)
            have hTl : TD.length ≤ 64 := by have := hI.out.sa.counts HB.out; rw [List.length_append] at this; omega
            obtain ⟨pa', cap', hv, hcs⟩ := HROW.out.formA
            rw [List.length_map, List.length_map] at hv
            subst hv
            clear hc0 hTD hrn l0 l1 lnot r1
            go_wp2_with fail
            go_loopw [19] (fun kk wr => ∃ (i : Nat), kk = .int .i64 i ∧ i ≤ TD.length ∧ Owns W.heap.size W wr (memG p bw bb r.ws r.bs n' :: [(W.heap.size, Obj.cells #[Value.int .i64 a, .int .i64 s, .int .i64 t] 23 (0, 0))] :: [(ab, Obj.cells (rowA (aaR (upd M q ⟨(M q).x, { (M q).c with gp := yy }, r.v⟩)) 3) 72 (0, 0))] :: [(zb, Obj.cells (intArr szs) 3 (0, 0))] :: [(ob, Obj.cells (intArr (mks A Fn)) 3 (0, 0))] :: rowG 3 (.slice pa' TD.length cap') cur :: [(hb, Obj.cells (rowA (aaH (upd M q ⟨(M q).x, { (M q).c with gp := yy }, r.v⟩)) 3) 4 (0, 0))] :: [(rb, Obj.cells #[.int .i64 r.code, .int .i64 r.rn] 79 (0, 0))] :: fam (aaF (upd M q ⟨(M q).x, { (M q).c with gp := yy }, r.v⟩)) 3)) (fun kk _ => TD.length - (intOf kk).toNat)
            case atStart => exact ⟨0, rfl, by omega, hP⟩
            case round =>
              clear hP r0
              obtain ⟨i, rfl, hi, hP⟩ := hrel
              by_cases hil : i < TD.length
              · obtain ⟨g, rfl, hcc⟩ := hcs.resolve_left (by intro h; rw [List.map_eq_nil_iff, List.map_eq_nil_iff] at h; rw [h] at hil; simp at hil)
                obtain ⟨x, hx⟩ : ∃ x, TD[i] = x := ⟨_, rfl⟩
                have z1 : _ = some (Value.int .i64 (hdl x)) := (hP.cell 5 0 rfl rfl i).trans (hcc i _ (by rw [List.getElem?_map, List.getElem?_map, List.getElem?_eq_getElem hil, hx]; rfl))
                have z2 : _ = some (Value.int .i64 r.rn) := hP.cell 7 0 rfl rfl 1
                have z3 : (hdl x == r.rn) = false := by have := HDS.out x (by rw [← hx]; exact List.getElem_mem hil); simpa using this
                have q0 : (0 : Int) ≤ (i : Int) := by omega
                have q1 : (i : Int) < (TD.length : Int) := by omega
                go_upto_region 34 with fail
                go_quiet (fail)
                have hO' := hP.drewN nq; clear hP; have hP := hO'; clear hO'
                generalize World.drewN _ _ = w21 at hP ⊢
                clear z1 z2
                go_wp2_with fail
                go_roundw
                case rel => exact ⟨i + 1, by go_num, by omega, hP⟩
                case measure => simp [intOf]; omega
              · have hge : ¬ (i : Int) < (TD.length : Int) := by omega
                have z2 : _ = some (Value.int .i64 r.rn) := hP.cell 7 0 rfl rfl 1
                clear hil
                go_wp2_with (at_builtin; refine stop_here ?_)
                unfold Stop
                refine wpList_append_row rfl (.tmp 140) (.tmp 143) _ rfl 3 (.int .i64 0) 8 Try.underlying33 info_int rfl (by decide) rfl (hP.via (below_alloc _ _)) 5 rfl HROW.out ⟨_, 0, none⟩ 1 1 [.int .i64 r.rn] rfl rfl ?n1 ?n2 (by simp) ?n3 ?_
                case n1 => intro j u hj; cases j with
                  | zero => simp at hj; subst hj; refine (blk_cell (blk_new _ _) _).trans ?_; simp
                  | succ j => simp at hj
                case n2 => intro u hu; simp at hu; subst hu; rfl
                case n3 => rw [List.length_map, List.length_map]; simp; omega
                intro tv2 cur2 w22 hr2 hO'; clear hP; have hP := hO'; clear hO'
                clear z2 hge
                (try simp only [List.set_cons_zero, List.set_cons_succ, List.cons_append, List.nil_append, List.eraseIdx_cons_succ, List.eraseIdx_cons_zero] at hP)
                have HROW2 := Lib.hid (show RowOk tv2 ((TD'.map hdl).map (Value.int .i64)) cur2 by rw [HTD.out.1, List.map_append, List.map_append, List.map_cons, List.map_nil, List.map_cons, List.map_nil, show hdl sl = r.rn from HTD.out.2.symm]; exact hr2)
                clear hr2
                have j1 := (IC.out _ hP.below).2
                have z1 : _ = some (Value.int .i64 (szs.getD q 0)) := (hP.cell 3 0 rfl rfl q).trans (intArr_get _ q (by rw [hsz]; exact hq3))
                have z2 := blk_free (hP.get 3 0 rfl rfl) q
                have z3 := hP.lt 3 0 rfl rfl
                go_upto_region 38 with fail
                have hO' := hP.set 3 0 rfl rfl q (.int .i64 nb); clear hP; have hP := hO'; clear hO'; (try simp only [List.set_cons_zero, List.set_cons_succ, List.cons_append, List.nil_append, List.eraseIdx_cons_succ, List.eraseIdx_cons_zero] at hP)
                rw [intArr_set] at hP
                generalize World.setCell _ _ _ = w23 at hP ⊢
                clear z1 z2 z3 j1
                have hsz2 : (szs.set q nb).length = 3 := by rw [List.length_set]; exact hsz
                have hO' := hP.drew; clear hP; have hP := hO'; clear hO'
                have HK1 := Lib.hid (show ∀ (wq : World) (g1 g2 : Grp) (R : List Grp), Owns W.heap.size W wq (g1 :: [(W.heap.size, Obj.cells #[Value.int .i64 a, .int .i64 s, .int .i64 t] 23 (0, 0))] :: g2 :: [(zb, Obj.cells (intArr (szs.set q nb)) 3 (0, 0))] :: R) → wq.cell? ⟨W.heap.size, 0, none⟩ = some (.int .i64 a) ∧ wq.cell? ⟨W.heap.size, 1, none⟩ = some (.int .i64 s) ∧ wq.cell? ⟨W.heap.size, 2, none⟩ = some (.int .i64 t) ∧ wq.cell? ⟨zb, q, none⟩ = some (.int .i64 nb) from
                  fun wq g1 g2 R h => ⟨h.cell 1 0 rfl rfl 0, h.cell 1 0 rfl rfl 1, h.cell 1 0 rfl rfl 2, (h.cell 3 0 rfl rfl q).trans ((intArr_get _ q (by rw [hsz2]; exact hq3)).trans (by rw [List.getD_eq_getElem?_getD, List.getElem?_set_self (by rw [hsz]; exact hq3)]; rfl))⟩)
                first
                  | go_loud (go_region_held3 (fun wq => wq.cell? ⟨W.heap.size, 0, none⟩ = some (.int .i64 a) ∧ wq.cell? ⟨W.heap.size, 1, none⟩ = some (.int .i64 s) ∧ wq.cell? ⟨W.heap.size, 2, none⟩ = some (.int .i64 t) ∧ wq.cell? ⟨zb, q, none⟩ = some (.int .i64 nb)) (first | (with_reducible exact HK1.out _ _ _ _ hP) | (with_reducible exact HK1.out _ _ _ _ hP.tail) | exact HK1.out _ _ _ _ (aa_new hq3 hcl hP)) ((go_at_call 39; refine (alloc_New a s t _ hP).mono ?_; rw [NX.out]; rintro e w24 ⟨x', tk, rfl, hO'⟩; clear hP; have hP := hO'; clear hO'; have az : _ = some (aaR (upd M q ⟨(M q).x, { (M q).c with gp := yy }, r.v⟩) q) := rowA_cell hP 3 0 rfl rfl q hq3; have ay := hP.lt 3 0 rfl rfl; have af := blk_free (hP.get 3 0 rfl rfl) q)))
                  | fail "new"
                all_goals
                  have hO' := aa_new hq3 hcl hP; clear hP; have hP := hO'; clear hO'
                  generalize World.setCell w24 _ _ = w25 at hP ⊢
                  clear az ay af
                  obtain ⟨c1, c2, c3, c4, c5⟩ := HC0.out nb tk HNB.out
                  have HNEW := Lib.hid (show ∀ j, (upd M q ⟨x', alC0 a s t nb tk, alV0 1⟩ j).c.t = t ∧ (upd M q ⟨x', alC0 a s t nb tk, alV0 1⟩ j).c.s = s ∧ (upd M q ⟨x', alC0 a s t nb tk, alV0 1⟩ j).c.ar = a ∧ I64 (upd M q ⟨x', alC0 a s t nb tk, alV0 1⟩ j).c.n ∧ 0 ≤ (upd M q ⟨x', alC0 a s t nb tk, alV0 1⟩ j).c.by' ∧ (upd M q ⟨x', alC0 a s t nb tk, alV0 1⟩ j).c.by' ≤ 256 by
                    intro i; unfold upd; split
                    · exact ⟨c1, c2, c3, c4, c5⟩
                    · exact HM.out i)
                  have H3N := Lib.hid (show (upd M q ⟨x', alC0 a s t nb tk, alV0 1⟩ 3).v = alV0 1 by rw [upd_ne _ _ (by omega)]; exact HM3.out)
                  have HI1 := Lib.hid (show AaInv t s a (upF 0 N) (aaB (upd M q ⟨x', alC0 a s t nb tk, alV0 1⟩)) r.ws Fn g L TD' (aaV (upd M q ⟨x', alC0 a s t nb tk, alV0 1⟩)) by
                    rw [aaV_upd, aaB_upd]
                    exact HMM.out (alV0 1) _ alV1_fresh c5)
                  clear c1 c2 c3 c4 c5
                  generalize upd M q ⟨x', alC0 a s t nb tk, alV0 1⟩ = M9 at hP HNEW HI1 H3N
                  go_wp2_with fail
                  go_roundw
                  case rel => exact ⟨k + 1, Fn, _, g, r.ws, r.bs, L, TD', M9, _, cur2, _, _, by go_num, by omega, by omega, rfl, HROW2.out, hsz2, by rw [HBL.out]; exact hbl, HI1, HNEW, H3N, hP⟩
                  case measure => simp [intOf]; omega
          · have rcn : (r.code == 0) = false := by simpa using hc0
            have HROW2 := Lib.hid (show RowOk u9 ((TD'.map hdl).map (Value.int .i64)) cur by rw [hTD]; exact HROW.out)
            clear hc0
            go_upto_region 37 with fail
            clear rcn r0 r1
            have j1 := (IC.out _ hP.below).2
            have z1 : _ = some (Value.int .i64 (szs.getD q 0)) := (hP.cell 3 0 rfl rfl q).trans (intArr_get _ q (by rw [hsz]; exact hq3))
            have z2 := blk_free (hP.get 3 0 rfl rfl) q
            have z3 := hP.lt 3 0 rfl rfl
            go_upto_region 38 with fail
            have hO' := hP.set 3 0 rfl rfl q (.int .i64 nb); clear hP; have hP := hO'; clear hO'; (try simp only [List.set_cons_zero, List.set_cons_succ, List.cons_append, List.nil_append, List.eraseIdx_cons_succ, List.eraseIdx_cons_zero] at hP)
            rw [intArr_set] at hP
            generalize World.setCell _ _ _ = w23 at hP ⊢
            clear z1 z2 z3 j1
            have hsz2 : (szs.set q nb).length = 3 := by rw [List.length_set]; exact hsz
            have hO' := hP.drew; clear hP; have hP := hO'; clear hO'
            have HK1 := Lib.hid (show ∀ (wq : World) (g1 g2 : Grp) (R : List Grp), Owns W.heap.size W wq (g1 :: [(W.heap.size, Obj.cells #[Value.int .i64 a, .int .i64 s, .int .i64 t] 23 (0, 0))] :: g2 :: [(zb, Obj.cells (intArr (szs.set q nb)) 3 (0, 0))] :: R) → wq.cell? ⟨W.heap.size, 0, none⟩ = some (.int .i64 a) ∧ wq.cell? ⟨W.heap.size, 1, none⟩ = some (.int .i64 s) ∧ wq.cell? ⟨W.heap.size, 2, none⟩ = some (.int .i64 t) ∧ wq.cell? ⟨zb, q, none⟩ = some (.int .i64 nb) from
              fun wq g1 g2 R h => ⟨h.cell 1 0 rfl rfl 0, h.cell 1 0 rfl rfl 1, h.cell 1 0 rfl rfl 2, (h.cell 3 0 rfl rfl q).trans ((intArr_get _ q (by rw [hsz2]; exact hq3)).trans (by rw [List.getD_eq_getElem?_getD, List.getElem?_set_self (by rw [hsz]; exact hq3)]; rfl))⟩)
            first
              | go_loud (go_region_held3 (fun wq => wq.cell? ⟨W.heap.size, 0, none⟩ = some (.int .i64 a) ∧ wq.cell? ⟨W.heap.size, 1, none⟩ = some (.int .i64 s) ∧ wq.cell? ⟨W.heap.size, 2, none⟩ = some (.int .i64 t) ∧ wq.cell? ⟨zb, q, none⟩ = some (.int .i64 nb)) (first | (with_reducible exact HK1.out _ _ _ _ hP) | (with_reducible exact HK1.out _ _ _ _ hP.tail) | exact HK1.out _ _ _ _ (aa_new hq3 hcl hP)) ((go_at_call 39; refine (alloc_New a s t _ hP).mono ?_; rw [NX.out]; rintro e w24 ⟨x', tk, rfl, hO'⟩; clear hP; have hP := hO'; clear hO'; have az : _ = some (aaR (upd M q ⟨(M q).x, { (M q).c with gp := yy }, r.v⟩) q) := rowA_cell hP 3 0 rfl rfl q hq3; have ay := hP.lt 3 0 rfl rfl; have af := blk_free (hP.get 3 0 rfl rfl) q)))
              | fail "new"
            all_goals
              have hO' := aa_new hq3 hcl hP; clear hP; have hP := hO'; clear hO'
              generalize World.setCell w24 _ _ = w25 at hP ⊢
              clear az ay af
              obtain ⟨c1, c2, c3, c4, c5⟩ := HC0.out nb tk HNB.out
              have HNEW := Lib.hid (show ∀ j, (upd M q ⟨x', alC0 a s t nb tk, alV0 1⟩ j).c.t = t ∧ (upd M q ⟨x', alC0 a s t nb tk, alV0 1⟩ j).c.s = s ∧ (upd M q ⟨x', alC0 a s t nb tk, alV0 1⟩ j).c.ar = a ∧ I64 (upd M q ⟨x', alC0 a s t nb tk, alV0 1⟩ j).c.n ∧ 0 ≤ (upd M q ⟨x', alC0 a s t nb tk, alV0 1⟩ j).c.by' ∧ (upd M q ⟨x', alC0 a s t nb tk, alV0 1⟩ j).c.by' ≤ 256 by
                intro i; unfold upd; split
                · exact ⟨c1, c2, c3, c4, c5⟩
                · exact HM.out i)
              have H3N := Lib.hid (show (upd M q ⟨x', alC0 a s t nb tk, alV0 1⟩ 3).v = alV0 1 by rw [upd_ne _ _ (by omega)]; exact HM3.out)
              have HI1 := Lib.hid (show AaInv t s a (upF 0 N) (aaB (upd M q ⟨x', alC0 a s t nb tk, alV0 1⟩)) r.ws Fn g L TD' (aaV (upd M q ⟨x', alC0 a s t nb tk, alV0 1⟩)) by
                rw [aaV_upd, aaB_upd]
                exact HMM.out (alV0 1) _ alV1_fresh c5)
              clear c1 c2 c3 c4 c5
              generalize upd M q ⟨x', alC0 a s t nb tk, alV0 1⟩ = M9 at hP HNEW HI1 H3N
              go_wp2_with fail
              go_roundw
              case rel => exact ⟨k + 1, Fn, _, g, r.ws, r.bs, L, TD', M9, _, cur, _, _, by go_num, by omega, by omega, rfl, HROW2.out, hsz2, by rw [HBL.out]; exact hbl, HI1, HNEW, H3N, hP⟩
              case measure => simp [intOf]; omega
      · have hge : ¬ (k : Int) < (xs.length : Int) := by omega
        clear hlt
        have H4 := Lib.hid (show (∀ i, 0 ≤ i → aaV M i = (M i).v) ∧ (∀ i, i < 0 → aaV M i = alV0 0) from ⟨fun _ _ => rfl, fun i hi => absurd hi (by omega)⟩)
        have H5 := Lib.hid (show ∀ i, aaB M i = (M i).c.by' from fun _ => rfl)
        obtain ⟨B0, hB0⟩ : ∃ B0, aaB M = B0 := ⟨_, rfl⟩
        obtain ⟨V0, hV0⟩ : ∃ V0, aaV M = V0 := ⟨_, rfl⟩
        rw [hB0] at hI H5
        rw [hV0] at hI H4
        have H6 := Lib.hid (show V0 3 = alV0 1 by rw [← hV0]; exact HM3.out)
        clear hB0 hV0
        obtain ⟨HG, hHG⟩ : ∃ HG : Grp, [(hb, Obj.cells (rowA (aaH M) 3) 4 (0, 0))] = HG := ⟨_, rfl⟩
        rw [hHG] at hP
        clear hHG
        go_wp2_with fail
        go_loopw [20] (fun i wr => ∃ (j : Nat) (mm g F : Int) (ws bs L TD : List Int) (M : Nat → AaM) (V : Nat → AlV), i = .int .i64 j ∧ j ≤ 3 ∧ g ≤ 150 + 500 * (j : Int) ∧ bs.length ≤ 4096 ∧ Hid (AaInv t s a (upF 0 N) B0 ws F g L TD V) ∧ Hid ((∀ i, j ≤ i → V i = (M i).v) ∧ (∀ i, i < j → V i = alV0 0)) ∧ Hid (∀ i, B0 i = (M i).c.by') ∧ Hid (V 3 = alV0 1) ∧ Hid (∀ j, (M j).c.t = t ∧ (M j).c.s = s ∧ (M j).c.ar = a ∧ I64 (M j).c.n ∧ 0 ≤ (M j).c.by' ∧ (M j).c.by' ≤ 256) ∧ Owns W.heap.size W wr (memG p bw bb ws bs mm :: [(W.heap.size, Obj.cells #[Value.int .i64 a, .int .i64 s, .int .i64 t] 23 (0, 0))] :: [(ab, Obj.cells (rowA (aaR M) 3) 72 (0, 0))] :: [(zb, Obj.cells (intArr szs) 3 (0, 0))] :: [(ob, Obj.cells (intArr (mks A Fn)) 3 (0, 0))] :: rowG 3 u9 cur :: HG :: O :: fam (aaF M) 3)) (fun i _ => 3 - (intOf i).toNat)
        case atStart => exact ⟨0, mm, g, _, ws, bs, L, TD, M, V0, rfl, by omega, by omega, hbl, hI, H4, H5, H6, HM, hP⟩
        case round =>
          clear hP hI H4 H5 H6 HM HM3 hg hge hbl hwl
          obtain ⟨j, mm, g, F, ws, bs, L, TD, M, V, rfl, hj, hg, hbl, hI, H4, H5, H6, HM, hP⟩ := hrel
          have hwl : ws.length ≤ 4096 := by have := hI.out.sa.len; omega
          by_cases hlt : j < 3
          · have hj1 : (j : Int) < 3 := by omega
            have hj0 : (0 : Int) ≤ (j : Int) := by omega
            have hVj := Lib.hid (H4.out.1 j (Nat.le_refl j))
            have HLV := Lib.hid (show LV a (B0 j) (M j).v by rw [← hVj.out]; exact hI.out.lv j (by omega))
            have g9 : _ = some (Value.pointer (some ⟨(M j).x, 0, none⟩)) := rowA_cell hP 2 0 rfl rfl j hlt
            obtain ⟨r, hr⟩ : ∃ r, mRun (alF1 (M j).c) 1000 1000 ⟨ws, bs, (M j).v⟩ = r := ⟨_, rfl⟩
            have HRUN := Lib.hid (show ∃ F' g' L' TD', g' ≤ g + 500 ∧ AaInv t s a (upF 0 N) B0 r.1.ws F' g' L' TD' (upd V j (alV0 0)) by
              rw [← hr, ← hVj.out]
              exact aa_run ⟨HB.out, t1, s1, s4, by omega, by omega, hI.out, by omega, (HM.out j).1, (HM.out j).2.1, (HM.out j).2.2.1, (H5.out j).symm, (HM.out j).2.2.2.1⟩ (by omega) (alV0 0) alV00_fresh)
            have HBS := Lib.hid (show r.1.bs.length = bs.length by rw [← hr]; exact mRun_bs _ 1000 1000 _ HLV.out.al)
            have HR := Lib.hid hr
            clear hr
            go_wp2_with fail
            refine (aa_runW hlt hP (by rw [(HM.out j).1, (HM.out j).2.1]; exact HL.out) hwl hbl HLV.out.al r HR.out).mono ?_
            rintro e w12 ⟨rfl, n', yy, hO'⟩; clear hP; have hP := hO'; clear hO'
            clear g9
            obtain ⟨F', g', L', TD', hg', hI'⟩ := HRUN.out
            have HI' := Lib.hid hI'
            have H4' := Lib.hid (show (∀ i, j + 1 ≤ i → upd V j (alV0 0) i = (upd M j ⟨(M j).x, { (M j).c with gp := yy }, r.1.v⟩ i).v) ∧ (∀ i, i < j + 1 → upd V j (alV0 0) i = alV0 0) from
              ⟨fun i hi => by rw [upd_ne _ _ (by omega), upd_ne _ _ (by omega)]; exact H4.out.1 i (by omega), fun i hi => by unfold upd; split; rfl; exact H4.out.2 i (by omega)⟩)
            have H5' := Lib.hid (show ∀ i, B0 i = (upd M j ⟨(M j).x, { (M j).c with gp := yy }, r.1.v⟩ i).c.by' from fun i => by
              unfold upd; split
              · rename_i e; subst e; exact H5.out i
              · exact H5.out i)
            have H6' := Lib.hid (show upd V j (alV0 0) 3 = alV0 1 by rw [upd_ne _ _ (by omega)]; exact H6.out)
            have HM' := Lib.hid (show ∀ i, (upd M j ⟨(M j).x, { (M j).c with gp := yy }, r.1.v⟩ i).c.t = t ∧ (upd M j ⟨(M j).x, { (M j).c with gp := yy }, r.1.v⟩ i).c.s = s ∧ (upd M j ⟨(M j).x, { (M j).c with gp := yy }, r.1.v⟩ i).c.ar = a ∧ I64 (upd M j ⟨(M j).x, { (M j).c with gp := yy }, r.1.v⟩ i).c.n ∧ 0 ≤ (upd M j ⟨(M j).x, { (M j).c with gp := yy }, r.1.v⟩ i).c.by' ∧ (upd M j ⟨(M j).x, { (M j).c with gp := yy }, r.1.v⟩ i).c.by' ≤ 256 by
              intro i; unfold upd; split
              · exact HM.out j
              · exact HM.out i)
            clear hI'
            rw [← aaR_same M j ⟨(M j).x, { (M j).c with gp := yy }, r.1.v⟩ rfl] at hP
            generalize upd M j ⟨(M j).x, { (M j).c with gp := yy }, r.1.v⟩ = M9 at hP H4' H5' HM'
            unfold resN
            go_wp2_with fail
            go_roundw
            case rel => exact ⟨j + 1, _, g', F', r.1.ws, r.1.bs, L', TD', M9, _, by go_num, by omega, by omega, by rw [HBS.out]; exact hbl, HI', H4', H5', H6', HM', hP⟩
            case measure => simp [intOf]; omega
          · have hj3 : j = 3 := by omega
            subst hj3
            have hz := Lib.hid (show wAt ws 2 = 0 by
              rw [hI.out.pd]
              have e0 := H4.out.2 0 (by omega)
              have e1 := H4.out.2 1 (by omega)
              have e2 := H4.out.2 2 (by omega)
              unfold cnt flat4 fam
              simp [List.range_succ, e0, e1, e2, H6.out, aOne, alV0])
            clear hlt
            go_wp2_with fail
            refine (plain_Load 0 _ hP rfl hwl).mono ?_; rw [hz.out]; rintro e w12 ⟨rfl, hO'⟩; clear hP; have hP := hO'; clear hO'
            have hO := hP
            go_wp2_with (go_at_call 37; refine (law11_live _).mono ?_; rintro e w2 ⟨rfl, hb⟩; have hO := hO.via hb)
            go_ret
            exact ⟨rfl, hO.below⟩
theorem AllocApart_walk (a s t : Int) (v : Value) (xs : List (List Value)) (W : World) (hs : SArg W [true, true, true, true] v xs) : Calls Try.prog 7 #[.agg #[.int .i64 a, .int .i64 s, .int .i64 t], v] W fun e w' => e = .returned (.bool true) ∧ Below W.heap.size W w' := by
  by_cases hn : xs.length ≤ 150 ∧ a ≤ 200
  · rcases bool_cases (b := cfgOk a s t) with hc | hc
    · exact AllocApart_go a s t v xs W hs hn hc
    · exact AllocApart_no a s t v xs W hs hn hc
  · exact AllocApart_far a s t v xs W hs hn
end Go.Proofs.Ytpebepjfgnoaaaa
