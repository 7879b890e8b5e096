/- The stack law StackApart. -/
import Derived.RegionTactic
import Derived.BigRegion
import Derived.Deep.RegionHeld3
import Derived.Outline
import Derived.LoopTactic
import Derived.Deep.DeepCutAuto
import Derived.Test.YtpebepjfgnoaaaaSaT0
import Derived.Test.YtpebepjfgnoaaaaSaW
import Derived.Test.YtpebepjfgnoaaaaStL
import Derived.Test.YtpebepjfgnoaaaaFlat
namespace Go.Proofs.Ytpebepjfgnoaaaa
set_option linter.unusedVariables false
set_option linter.unusedSimpArgs false
open Go.RowKit
set_option maxRecDepth 100000 in
set_option maxHeartbeats 8000000 in
theorem StackApart_go (a s t : Int) (v : Value) (xs : List (List Value)) (W : World) (hs : SArg W [true, false, true] v xs) (hn : xs.length ≤ 200) (hc : cfgOk a s t = true) : Calls Try.prog 6 #[.agg #[.int .i64 a, .int .i64 s, .int .i64 t], v] W fun e w' => e = .returned (.bool true) ∧ Below W.heap.size W w' := by
  obtain ⟨pa, cap, rfl, hl, hx⟩ := hs.form
  have hn' : ¬ (200 : Int) < (xs.length : Int) := by omega
  have CK := Lib.hid hc
  have HX := Lib.hid hx
  obtain ⟨-, -, -, s1, s4, t1, t4⟩ := cfgOk_of hc
  have HL := Lib.hid (lOk_yes hc)
  obtain ⟨N, hN⟩ : ∃ N : Nat, s = N := ⟨s.toNat, by omega⟩
  have HB := Lib.hid (show Base s (upF 0 N) by rw [hN]; exact upF_base N)
  have HF := Lib.hid (show ∀ Q : Nat → SaM, (∀ j, (Q j).p.nx = 1) → (∀ j, (Q j).q = none) → SaInv t s (upF 0 N) (initW t s) 0 (upF 0 N) [] Q by rw [hN]; exact fun Q h1 h2 => SaInv.first t1 t4 (by omega) (by omega) Q h1 h2)
  clear hx hs hc hN
  have hO := (Owns.nil W).more (.cells #[.int .i64 a, .int .i64 s, .int .i64 t] 23)
  go_enter Try.func6, Try.ntmps6
  go_wp2_with fail
  generalize W.alloc (.cells #[.int .i64 a, .int .i64 s, .int .i64 t] 23) = w0 at hO ⊢
  refine (law10_start a s t hO CK.out).mono ?_; rintro e w1 ⟨p, bw, bb, m, rfl, hO'⟩
  clear hO hn'
  have hP := hO'.more (.cells #[.int .i64 t, .int .i64 s] 25)
  clear hO'
  (try simp only [List.set_cons_zero, List.set_cons_succ, List.cons_append, List.nil_append, List.eraseIdx_cons_succ, List.eraseIdx_cons_zero] at hP)
  go_upto_region 7 with fail
  generalize w1.alloc (.cells #[.int .i64 t, .int .i64 s] 25) = w3 at hP ⊢
  generalize w1.heap.size = lb at hP ⊢
  have hP := hP.drew
  have b0 : _ = some (Value.int .i64 t) := hP.cell 2 0 rfl rfl 0
  have b1 : _ = some (Value.int .i64 s) := hP.cell 2 0 rfl rfl 1
  first
    | go_loud (go_region_held3 (fun w => w.cell? ⟨lb, 0, none⟩ = some (.int .i64 t) ∧ w.cell? ⟨lb, 1, none⟩ = some (.int .i64 s)) (first | (with_reducible exact ⟨b0, b1⟩) | exact ⟨cell_alloc _ b0, cell_alloc _ b1⟩) ((go_at_call 31; refine (stack_NewPop_app t s hP).mono ?_; rintro e w7 ⟨px, rfl, hb, hO'⟩; have hP := hO'; have b0 := cell_below hb b0; have b1 := cell_below hb b1)))
    | fail "four"
  all_goals
    have k1 := made_pushes
    go_upto_region 9 with fail
    obtain ⟨Q, hq1, hq2, hO⟩ := sa_pack (T1 := 57) (T2 := 61) hP
    generalize World.alloc (World.alloc w7 _) _ = w8 at hO ⊢
    generalize w7.heap.size + 1 = pb at hO ⊢
    generalize w7.heap.size = ab at hO ⊢
    have H0 := Lib.hid (HF.out Q hq1 hq2)
    have U0 := Lib.hid (show (under Q).length = 0 by unfold under; rw [List.length_eq_zero_iff, List.flatten_eq_nil_iff]; intro l hl; obtain ⟨j, -, rfl⟩ := List.mem_map.1 hl; unfold un; rw [hq2 j])
    clear k1 hq1 hq2 b0 b1 HF
    go_wp2_with fail
    go_loopw [7, 10, 11] (fun tk ud i wr => ∃ (k : Nat) (mm g : Int) (ws L T : List Int) (Q : Nat → SaM) (tv : Value) (cur : List Value), i = .int .i64 k ∧ k ≤ xs.length ∧ g ≤ (k : Int) ∧ tk = tv ∧ ud = .int .i64 ((under Q).length : Int) ∧ RowOk tv (T.map (Value.int .i64)) cur ∧ Hid (SaInv t s (upF 0 N) ws g L T Q) ∧ Owns W.heap.size W wr (memG p bw bb ws (List.replicate a.toNat 0) mm :: [(W.heap.size, Obj.cells #[Value.int .i64 a, .int .i64 s, .int .i64 t] 23 (0, 0))] :: [(lb, Obj.cells #[Value.int .i64 t, .int .i64 s] 25 (0, 0))] :: [(ab, Obj.cells (rowA (saA Q) 4) 57 (0, 0))] :: [(pb, Obj.cells (rowA (saP Q) 4) 61 (0, 0))] :: rowG 3 tv cur :: (fam (saE t s Q) 4 ++ fam (saD t s Q) 4))) (fun _ _ i _ => xs.length - (intOf i).toNat)
    case atStart => exact ⟨0, _, 0, _, _, [], Q, _, [], rfl, by omega, by omega, rfl, by rw [U0.out]; rfl, RowOk.nil, H0, hO⟩
    case round =>
      clear hO H0 U0
      obtain ⟨k, mm, g, ws, L, T, Q, tv, cur, rfl, hk, hg, rfl, rfl, hrow, hI, hP⟩ := hrel
      have HROW := Lib.hid hrow
      clear hrow
      have hwl : ws.length ≤ 4096 := by have := hI.out.len; omega
      have hTl : T.length ≤ 64 := by have := hI.out.counts HB.out; omega
      by_cases hlt : k < xs.length
      · obtain ⟨ib, io, rfl, hib, hI', hB'⟩ := HX.out k hlt
        have i0 := (hI' 0 rfl).1
        have i1 := hB' 1 rfl
        have p0 := (hI' 0 rfl).2
        simp only [List.length_cons, List.length_nil, Nat.add_zero, Nat.zero_add] at i0 i1
        obtain ⟨pk, hpk⟩ : ∃ d, getI xs k 0 = d := ⟨_, rfl⟩
        obtain ⟨pu, hpu⟩ : ∃ d, getB xs k 1 = d := ⟨_, rfl⟩
        rw [hpk] at i0 p0
        rw [hpu] at i1
        obtain ⟨p0a, p0b⟩ := p0
        have IC := Lib.hid (show ∀ wq, Below W.heap.size W wq → wq.cell? ⟨ib, io + k * 3, none⟩ = some (.int .i64 pk) ∧ wq.cell? ⟨ib, io + k * 3 + 1, none⟩ = some (.bool pu) from
          fun wq h => ⟨(h.cell (p := ⟨ib, io + k * 3, none⟩) hib).trans i0, (h.cell (p := ⟨ib, io + k * 3 + 1, none⟩) hib).trans i1⟩)
        clear hI' hB' hpk hpu i0 i1 hib
        have hlti : (k : Int) < (xs.length : Int) := by omega
        have hk0 : (0 : Int) ≤ (k : Int) := by omega
        have HG := Lib.hid (show g ≤ 1000000 by omega)
        obtain ⟨U, hU⟩ : ∃ U, (under Q).length = U := ⟨_, rfl⟩
        have hU64 : U ≤ 64 := by have := hI.out.counts HB.out; omega
        rw [hU]
        have HU := Lib.hid hU
        clear hU
        have j0 := (IC.out _ hP.below).1
        by_cases hq0 : 0 ≤ pk.tmod 4
        rotate_left
        · have hq1 : decide (pk.tmod 4 < 0) = true := by rw [decide_eq_true_iff]; omega
          have hO := hP
          clear hq0
          go_wp2_with (go_at_call 19; refine (law10_live _).mono ?_; rintro e w2 ⟨rfl, hb⟩; have hO := hO.via hb)
          go_ret
          exact ⟨rfl, hO.below⟩
        obtain ⟨q, hq⟩ : ∃ q : Nat, pk.tmod 4 = q := ⟨(pk.tmod 4).toNat, by omega⟩
        have hq4 : q < 4 := by have := Int.tmod_lt_of_pos pk (show (0 : Int) < 4 by decide); omega
        have hq1 : decide ((q : Int) < 0) = false := by rw [decide_eq_false_iff_not]; omega
        have hq2 : (0 : Int) ≤ (q : Int) := by omega
        have hq3 : (q : Int) < 4 := by omega
        clear hq0
        rcases hcs0 : (Q q).q with _ | m
        · have hqq := Lib.hid hcs0
          have g9 : _ = some (Value.pointer none) := (rowA_cell hP 4 0 rfl rfl q hq4).trans (by unfold saP sdP; rw [hcs0])
          have g8 : _ = some (Value.pointer (some ⟨(Q q).p.x, 0, none⟩)) := rowA_cell hP 3 0 rfl rfl q hq4
          obtain ⟨r, hr⟩ : ∃ r, popStep t s ws (Q q).p.nx (Q q).p.sl (Q q).p.wd (Q q).p.tw = r := ⟨_, rfl⟩
          have HS := Lib.hid (hI.out.popS HB.out t1 s4 HG.out hq4 r hr hcs0)
          have HND := Lib.hid (hI.out.nodup HB.out)
          have HR := Lib.hid hr
          clear hr hcs0
          go_wp2_with fail
          refine (sa_popStep hq4 hP HL.out hwl r HR.out).mono ?_; rintro e w12 ⟨rfl, n', hO'⟩; clear hP; have hP := hO'; clear hO'
          clear g8 g9 j0
          rw [hqq.out] at hP
          obtain ⟨rws, rnx, rsl, rwd, rto, rr, re, rd⟩ := r
          dsimp only at hP HS ⊢
          cases rd
          case false =>
            have HI2 := Lib.hid (HS.out.1 rfl)
            go_wp2_with fail
            go_roundw
            case rel => exact ⟨k + 1, _, g, rws, L, T, _, _, cur, by go_num, by omega, by omega, rfl, by rw [under_same hq4 _ (by unfold un; rw [hqq.out]), HU.out], HROW.out, HI2, by rw [saA_same Q q ⟨⟨(Q q).p.x, rnx, rsl, rwd, rto⟩, none⟩ rfl, saP_same Q q ⟨⟨(Q q).p.x, rnx, rsl, rwd, rto⟩, none⟩ (by unfold sdP; rw [hqq.out])]; exact hP⟩
            case measure => simp [intOf]; omega
          case true =>
            by_cases he : re = 0
            · subst he
              obtain ⟨L2, hL2, hI2⟩ := HS.out.2.2 rfl rfl
              have I2 := Lib.hid hI2
              have hnot : rr ∉ T := by
                have hn := HND.out
                rw [hL2, List.append_assoc, List.cons_append, List.nodup_cons] at hn
                intro hm
                exact hn.1 (by simp [hm])
              have hnd := Lib.hid (show decide (rr ∈ T) = false from decide_eq_false hnot)
              have R1 := Lib.hid (Reads.row HROW.out hP 5 rfl (by omega))
              clear hI2 hnot hL2 HS HND
              go_wp2_with (first | (go_at_call 34; refine (law10_has _ _ _ _ R1.out false hnd.out).mono ?_; rintro e w13 ⟨rfl, rfl⟩) | (at_builtin; refine stop_here ?_))
              unfold Stop
              refine wpList_append_row rfl (.tmp 115) (.tmp 117) _ rfl 3 (.int .i64 0) 8 Try.underlying33 info_int rfl (by decide) rfl (hP.via (below_alloc _ _)) 5 rfl HROW.out ⟨w12.heap.size, 0, none⟩ 1 1 [.int .i64 rr] rfl rfl ?n1 ?n2 (by simp) ?n3 ?_
              case n1 => intro j u hj; cases j with
                | zero => simp at hj; subst hj; refine (blk_cell (blk_new _ _) _).trans ?_; simp
                | succ j => simp at hj
              case n2 => intro u hu; simp at hu; subst hu; rfl
              case n3 => rw [List.length_map]; simp; omega
              intro tv2 cur2 w14 hr2 hO'; clear hP; have hP := hO'; clear hO'
              clear R1
              (try simp only [List.set_cons_zero, List.set_cons_succ, List.cons_append, List.nil_append, List.eraseIdx_cons_succ, List.eraseIdx_cons_zero] at hP)
              have HROW2 := Lib.hid (show RowOk tv2 ((T ++ [rr]).map (Value.int .i64)) cur2 by rw [List.map_append]; exact hr2)
              clear hr2 HROW hTl
              obtain ⟨g2, hg2⟩ : ∃ g2, g2 = g + 1 := ⟨_, rfl⟩
              rw [← hg2] at I2
              obtain ⟨T2, hT2e⟩ : ∃ T2, T2 = T ++ [rr] := ⟨_, rfl⟩
              rw [← hT2e] at HROW2 I2
              clear hT2e
              have b0 : _ = some (Value.int .i64 t) := hP.cell 2 0 rfl rfl 0
              have b1 : _ = some (Value.int .i64 s) := hP.cell 2 0 rfl rfl 1
              go_wp2_with fail
              refine (stack_NewPop t s hP).mono ?_; rintro e w15 ⟨x', rfl, hO'⟩; clear hP; have hP := hO'; clear hO'
              have az : _ = some (Value.pointer (some ⟨(Q q).p.x, 0, none⟩)) := rowA_cell hP 4 0 rfl rfl q hq4
              have ay := hP.lt 4 0 rfl rfl
              have af := blk_free (hP.get 4 0 rfl rfl) q
              clear b0 b1
              go_upto_region 31 with fail
              have hO' := sa_fresh hq4 _ hP; clear hP; have hP := hO'; clear hO'
              generalize World.setCell w15 _ _ = w16 at hP ⊢
              clear az ay af
              rw [← saP_same Q q (saNew x') (by unfold sdP; rw [hqq.out]; rfl)] at hP
              have hI3 := I2.out (saNew x') rfl rfl
              have hU3 := Lib.hid (show (under (upd Q q (saNew x'))).length = U by rw [under_same hq4 _ (by unfold un; rw [hqq.out]; rfl)]; exact HU.out)
              have hqn := Lib.hid (show (upd Q q (saNew x') q).q = none ∧ (upd Q q (saNew x') q).p.nx = 1 by rw [upd_same]; exact ⟨rfl, rfl⟩)
              have HI3 := Lib.hid hI3
              clear hI3 I2
              generalize upd Q q (saNew x') = Q2 at hP HI3 hU3 hqn
              have j1 := (IC.out _ hP.below).2
              cases pu
              case false =>
                go_wp2_with fail
                go_roundw
                case rel => exact ⟨k + 1, _, g2, rws, L2, T2, Q2, _, _, by go_num, by omega, by omega, rfl, by rw [hU3.out], HROW2.out, HI3, hP⟩
                case measure => simp [intOf]; omega
              case true =>
                by_cases hT2 : T2 = []
                · subst hT2
                  obtain ⟨pa', cap', hv⟩ := HROW2.out.form
                  simp only [List.map_nil, List.length_nil] at hv
                  subst hv
                  go_wp2_with fail
                  go_roundw
                  case rel => exact ⟨k + 1, _, g2, rws, L2, [], Q2, _, _, by go_num, by omega, by omega, rfl, by rw [hU3.out], HROW2.out, HI3, hP⟩
                  case measure => simp [intOf]; omega
                · obtain ⟨y, T3, rfl⟩ : ∃ y T3, T2 = y :: T3 := by cases T2 with | nil => exact absurd rfl hT2 | cons y T3 => exact ⟨y, T3, rfl⟩
                  obtain ⟨gb, cap', hv, -, hcs⟩ := HROW2.out.at2 (by simp)
                  subst hv
                  have hc0 := hcs 0 (.int .i64 y) rfl
                  clear hcs hT2
                  simp only [List.length_map, List.length_cons] at hP HROW2 ⊢
                  have hT3 : T3.length ≤ 64 := by have := HI3.out.counts HB.out; simp only [List.length_cons] at this; omega
                  have hpos : (0 : Int) < ((T3.length + 1 : Nat) : Int) := by omega
                  have hposd : decide ((0 : Int) < ((T3.length + 1 : Nat) : Int)) = true := decide_eq_true hpos
                  go_upto_region 32 with fail
                  have hO' := hP.drew; clear hP; have hP := hO'; clear hO'
                  have HK1 := Lib.hid (show ∀ (wq : World) (g1 g2 g3 g4 : Grp) (R : List Grp), Owns W.heap.size W wq (g1 :: g2 :: [(lb, Obj.cells #[Value.int .i64 t, .int .i64 s] 25 (0, 0))] :: g3 :: g4 :: [(gb, Obj.cells cur2.toArray 3 (0, 0))] :: R) → wq.cell? ⟨lb, 0, none⟩ = some (.int .i64 t) ∧ wq.cell? ⟨lb, 1, none⟩ = some (.int .i64 s) ∧ wq.cell? ⟨gb, 0, none⟩ = some (.int .i64 y) from
                    fun wq g1 g2 g3 g4 R h => ⟨h.cell 2 0 rfl rfl 0, h.cell 2 0 rfl rfl 1, (h.cell 5 0 rfl rfl 0).trans hc0⟩)
                  clear j1
                  first
                    | go_loud (go_region_held3 (fun wq => wq.cell? ⟨lb, 0, none⟩ = some (.int .i64 t) ∧ wq.cell? ⟨lb, 1, none⟩ = some (.int .i64 s) ∧ wq.cell? ⟨gb, 0, none⟩ = some (.int .i64 y)) (first | (with_reducible exact HK1.out _ _ _ _ _ _ hP) | (with_reducible exact HK1.out _ _ _ _ _ _ hP.tail) | exact HK1.out _ _ _ _ _ _ hP | exact HK1.out _ _ _ _ _ _ hP.tail | exact HK1.out _ _ _ _ _ _ (sa_pushed hq4 hP)) ((go_at_call 35; refine (stack_NewPush t s _ hP).mono ?_; rintro e w18 ⟨x2, rfl, hO'⟩; clear hP; have hP := hO'; clear hO'; have az : _ = some (saP Q2 q) := rowA_cell hP 5 0 rfl rfl q hq4; have ay := hP.lt 5 0 rfl rfl; have af := blk_free (hP.get 5 0 rfl rfl) q)))
                    | fail "begin"
                  all_goals
                    have hO' := sa_pushed hq4 hP; clear hP; have hP := hO'; clear hO'
                    generalize World.setCell w18 _ _ = w19 at hP ⊢
                    clear az ay af
                    rw [← saA_same Q2 q ⟨(Q2 q).p, some ⟨x2, 1, y, 0, 0⟩⟩ rfl] at hP
                    have hI4 := HI3.out.begins HB.out hq4 ⟨(Q2 q).p, some ⟨x2, 1, y, 0, 0⟩⟩ rfl hqn.out.1 rfl rfl rfl hqn.out.2
                    have hU4 := Lib.hid (show ((under (upd Q2 q ⟨(Q2 q).p, some ⟨x2, 1, y, 0, 0⟩⟩)).length : Int) = (U : Int) + 1 by rw [under_more hq4 _ hqn.out.1 rfl, hU3.out]; omega)
                    have HI4 := Lib.hid hI4
                    clear hI4
                    generalize upd Q2 q ⟨(Q2 q).p, some ⟨x2, 1, y, 0, 0⟩⟩ = Q3 at hP HI4 hU4
                    go_wp2_with fail
                    refine (law10_without 5 (y := y) (r := T3) hP rfl HROW2.out (by omega)).mono ?_
                    rintro e w20 ⟨tv3, cur3, rfl, hr3, hO'⟩
                    have hO9 := hO'.place 5
                    clear hO' hP
                    have hP := hO9
                    clear hO9
                    (try simp only [List.set_cons_zero, List.set_cons_succ, List.cons_append, List.nil_append, List.eraseIdx_cons_succ, List.eraseIdx_cons_zero] at hP)
                    have HR3 := Lib.hid hr3
                    clear hr3
                    have wu : IntKind.i64.wrap ((U : Int) + 1) = (U : Int) + 1 := i64in _ (by omega) (by omega)
                    go_wp2_with fail
                    go_roundw
                    case rel => exact ⟨k + 1, _, g2, rws, L2, T3, Q3, _, _, by go_num, by omega, by omega, rfl, by rw [hU4.out], HR3.out, HI4, hP⟩
                    case measure => simp [intOf]; omega
            · have I2 := Lib.hid (show ∀ m : SaM, m.p.nx = 1 → m.q = none → SaInv t s (upF 0 N) rws g L T (upd Q q m) from fun M h1 h2 => (HS.out.2.1 rfl he).fresh HB.out hq4 M h1 h2 hqq.out)
              have hre : (re == 0) = false := by simpa using he
              have HROW2 := HROW
              obtain ⟨g2, hg2⟩ : ∃ g2, g2 = g := ⟨_, rfl⟩
              rw [← hg2] at I2
              obtain ⟨T2, hT2e⟩ : ∃ T2, T2 = T := ⟨_, rfl⟩
              rw [← hT2e] at HROW2 I2
              obtain ⟨L2, hL2e⟩ : ∃ L2, L2 = L := ⟨_, rfl⟩
              rw [← hL2e] at I2
              obtain ⟨cur2, hcur2⟩ : ∃ c, c = cur := ⟨_, rfl⟩
              rw [← hcur2] at HROW2 hP
              clear hT2e hL2e hcur2 HROW HS HND he
              have b0 : _ = some (Value.int .i64 t) := hP.cell 2 0 rfl rfl 0
              have b1 : _ = some (Value.int .i64 s) := hP.cell 2 0 rfl rfl 1
              go_wp2_with fail
              refine (stack_NewPop t s hP).mono ?_; rintro e w15 ⟨x', rfl, hO'⟩; clear hP; have hP := hO'; clear hO'
              have az : _ = some (Value.pointer (some ⟨(Q q).p.x, 0, none⟩)) := rowA_cell hP 4 0 rfl rfl q hq4
              have ay := hP.lt 4 0 rfl rfl
              have af := blk_free (hP.get 4 0 rfl rfl) q
              clear b0 b1
              go_upto_region 31 with fail
              have hO' := sa_fresh hq4 _ hP; clear hP; have hP := hO'; clear hO'
              generalize World.setCell w15 _ _ = w16 at hP ⊢
              clear az ay af
              rw [← saP_same Q q (saNew x') (by unfold sdP; rw [hqq.out]; rfl)] at hP
              have hI3 := I2.out (saNew x') rfl rfl
              have hU3 := Lib.hid (show (under (upd Q q (saNew x'))).length = U by rw [under_same hq4 _ (by unfold un; rw [hqq.out]; rfl)]; exact HU.out)
              have hqn := Lib.hid (show (upd Q q (saNew x') q).q = none ∧ (upd Q q (saNew x') q).p.nx = 1 by rw [upd_same]; exact ⟨rfl, rfl⟩)
              have HI3 := Lib.hid hI3
              clear hI3 I2
              generalize upd Q q (saNew x') = Q2 at hP HI3 hU3 hqn
              have j1 := (IC.out _ hP.below).2
              cases pu
              case false =>
                go_wp2_with fail
                go_roundw
                case rel => exact ⟨k + 1, _, g2, rws, L2, T2, Q2, _, _, by go_num, by omega, by omega, rfl, by rw [hU3.out], HROW2.out, HI3, hP⟩
                case measure => simp [intOf]; omega
              case true =>
                by_cases hT2 : T2 = []
                · subst hT2
                  obtain ⟨pa', cap', hv⟩ := HROW2.out.form
                  simp only [List.map_nil, List.length_nil] at hv
                  subst hv
                  go_wp2_with fail
                  go_roundw
                  case rel => exact ⟨k + 1, _, g2, rws, L2, [], Q2, _, _, by go_num, by omega, by omega, rfl, by rw [hU3.out], HROW2.out, HI3, hP⟩
                  case measure => simp [intOf]; omega
                · obtain ⟨y, T3, rfl⟩ : ∃ y T3, T2 = y :: T3 := by cases T2 with | nil => exact absurd rfl hT2 | cons y T3 => exact ⟨y, T3, rfl⟩
                  obtain ⟨gb, cap', hv, -, hcs⟩ := HROW2.out.at2 (by simp)
                  subst hv
                  have hc0 := hcs 0 (.int .i64 y) rfl
                  clear hcs hT2
                  simp only [List.length_map, List.length_cons] at hP HROW2 ⊢
                  have hT3 : T3.length ≤ 64 := by have := HI3.out.counts HB.out; simp only [List.length_cons] at this; omega
                  have hpos : (0 : Int) < ((T3.length + 1 : Nat) : Int) := by omega
                  have hposd : decide ((0 : Int) < ((T3.length + 1 : Nat) : Int)) = true := decide_eq_true hpos
                  go_upto_region 32 with fail
                  have hO' := hP.drew; clear hP; have hP := hO'; clear hO'
                  have HK1 := Lib.hid (show ∀ (wq : World) (g1 g2 g3 g4 : Grp) (R : List Grp), Owns W.heap.size W wq (g1 :: g2 :: [(lb, Obj.cells #[Value.int .i64 t, .int .i64 s] 25 (0, 0))] :: g3 :: g4 :: [(gb, Obj.cells cur2.toArray 3 (0, 0))] :: R) → wq.cell? ⟨lb, 0, none⟩ = some (.int .i64 t) ∧ wq.cell? ⟨lb, 1, none⟩ = some (.int .i64 s) ∧ wq.cell? ⟨gb, 0, none⟩ = some (.int .i64 y) from
                    fun wq g1 g2 g3 g4 R h => ⟨h.cell 2 0 rfl rfl 0, h.cell 2 0 rfl rfl 1, (h.cell 5 0 rfl rfl 0).trans hc0⟩)
                  clear j1
                  first
                    | go_loud (go_region_held3 (fun wq => wq.cell? ⟨lb, 0, none⟩ = some (.int .i64 t) ∧ wq.cell? ⟨lb, 1, none⟩ = some (.int .i64 s) ∧ wq.cell? ⟨gb, 0, none⟩ = some (.int .i64 y)) (first | (with_reducible exact HK1.out _ _ _ _ _ _ hP) | (with_reducible exact HK1.out _ _ _ _ _ _ hP.tail) | exact HK1.out _ _ _ _ _ _ hP | exact HK1.out _ _ _ _ _ _ hP.tail | exact HK1.out _ _ _ _ _ _ (sa_pushed hq4 hP)) ((go_at_call 35; refine (stack_NewPush t s _ hP).mono ?_; rintro e w18 ⟨x2, rfl, hO'⟩; clear hP; have hP := hO'; clear hO'; have az : _ = some (saP Q2 q) := rowA_cell hP 5 0 rfl rfl q hq4; have ay := hP.lt 5 0 rfl rfl; have af := blk_free (hP.get 5 0 rfl rfl) q)))
                    | fail "begin"
                  all_goals
                    have hO' := sa_pushed hq4 hP; clear hP; have hP := hO'; clear hO'
                    generalize World.setCell w18 _ _ = w19 at hP ⊢
                    clear az ay af
                    rw [← saA_same Q2 q ⟨(Q2 q).p, some ⟨x2, 1, y, 0, 0⟩⟩ rfl] at hP
                    have hI4 := HI3.out.begins HB.out hq4 ⟨(Q2 q).p, some ⟨x2, 1, y, 0, 0⟩⟩ rfl hqn.out.1 rfl rfl rfl hqn.out.2
                    have hU4 := Lib.hid (show ((under (upd Q2 q ⟨(Q2 q).p, some ⟨x2, 1, y, 0, 0⟩⟩)).length : Int) = (U : Int) + 1 by rw [under_more hq4 _ hqn.out.1 rfl, hU3.out]; omega)
                    have HI4 := Lib.hid hI4
                    clear hI4
                    generalize upd Q2 q ⟨(Q2 q).p, some ⟨x2, 1, y, 0, 0⟩⟩ = Q3 at hP HI4 hU4
                    go_wp2_with fail
                    refine (law10_without 5 (y := y) (r := T3) hP rfl HROW2.out (by omega)).mono ?_
                    rintro e w20 ⟨tv3, cur3, rfl, hr3, hO'⟩
                    have hO9 := hO'.place 5
                    clear hO' hP
                    have hP := hO9
                    clear hO9
                    (try simp only [List.set_cons_zero, List.set_cons_succ, List.cons_append, List.nil_append, List.eraseIdx_cons_succ, List.eraseIdx_cons_zero] at hP)
                    have HR3 := Lib.hid hr3
                    clear hr3
                    have wu : IntKind.i64.wrap ((U : Int) + 1) = (U : Int) + 1 := i64in _ (by omega) (by omega)
                    go_wp2_with fail
                    go_roundw
                    case rel => exact ⟨k + 1, _, g2, rws, L2, T3, Q3, _, _, by go_num, by omega, by omega, rfl, by rw [hU4.out], HR3.out, HI4, hP⟩
                    case measure => simp [intOf]; omega
        · have HQ := Lib.hid hcs0
          have g9 : _ = some (Value.pointer (some ⟨m.x, 0, none⟩)) := (rowA_cell hP 4 0 rfl rfl q hq4).trans (by unfold saP sdP; rw [hcs0])
          obtain ⟨r, hr⟩ : ∃ r, pushStep t s ws m.nx m.sl m.wd m.tw = r := ⟨_, rfl⟩
          have HS := Lib.hid (hI.out.pushS HB.out t1 s4 HG.out hq4 hcs0 r hr)
          have HR := Lib.hid hr
          clear hr hcs0
          go_wp2_with fail
          refine (sa_pushStep hq4 HQ.out hP HL.out hwl r HR.out).mono ?_; rintro e w12 ⟨rfl, n', hO'⟩; clear hP; have hP := hO'; clear hO'
          clear g9 j0
          obtain ⟨rws, rnx, rsl, rwd, rto, rr, re, rd⟩ := r
          dsimp only at hP HS ⊢
          cases rd
          case false =>
            have HI2 := Lib.hid (HS.out.1 rfl)
            go_wp2_with fail
            go_roundw
            case rel => exact ⟨k + 1, _, g, rws, L, T, _, _, cur, by go_num, by omega, by omega, rfl, by rw [under_same hq4 _ (by unfold un; rw [HQ.out]; exact congrArg (fun z => [z]) (pushStep_sl HR.out)), HU.out], HROW.out, HI2, by rw [saA_same Q q ⟨(Q q).p, some ⟨m.x, rnx, rsl, rwd, rto⟩⟩ rfl, saP_same Q q ⟨(Q q).p, some ⟨m.x, rnx, rsl, rwd, rto⟩⟩ (by unfold sdP; rw [HQ.out])]; exact hP⟩
            case measure => simp [intOf]; omega
          case true =>
            obtain ⟨he0, hI2⟩ := HS.out.2 rfl
            have he0 : re = 0 := he0
            subst he0
            have HI2 := Lib.hid hI2
            clear hI2 HS
            have hU1 : 1 ≤ U := by rw [← HU.out, ← under_less hq4 (saNew 0) HQ.out rfl]; omega
            have wu : IntKind.i64.wrap ((U : Int) - 1) = (U : Int) - 1 := i64in _ (by omega) (by omega)
            have az : _ = some (saP Q q) := rowA_cell hP 4 0 rfl rfl q hq4
            have ay := hP.lt 4 0 rfl rfl
            have af := blk_free (hP.get 4 0 rfl rfl) q
            go_upto_region 21 with fail
            have hO' := rowA_put hP 4 rfl q (.pointer none); clear hP; have hP := hO'; clear hO'; (try simp only [List.set_cons_zero, List.set_cons_succ, List.cons_append, List.nil_append, List.eraseIdx_cons_succ, List.eraseIdx_cons_zero] at hP)
            generalize World.setCell w12 _ _ = w13 at hP ⊢
            clear az ay af wu
            have b0 : _ = some (Value.int .i64 t) := hP.cell 2 0 rfl rfl 0
            have b1 : _ = some (Value.int .i64 s) := hP.cell 2 0 rfl rfl 1
            go_wp2_with fail
            refine (stack_NewPop t s hP).mono ?_; rintro e w15 ⟨x', rfl, hO'⟩; clear hP; have hP := hO'; clear hO'
            have az : _ = some (Value.pointer (some ⟨(Q q).p.x, 0, none⟩)) := rowA_cell hP 4 0 rfl rfl q hq4
            have ay := hP.lt 4 0 rfl rfl
            have af := blk_free (hP.get 4 0 rfl rfl) q
            clear b0 b1
            go_upto_region 22 with fail
            have hO' := sa_fresh hq4 _ hP; clear hP; have hP := hO'; clear hO'
            generalize World.setCell w15 _ _ = w16 at hP ⊢
            clear az ay af
            rw [show upd (saP Q) q (.pointer none) = saP (upd Q q (saNew x')) from saP_upd Q q (saNew x')] at hP
            have hU3 := Lib.hid (show ((under (upd Q q (saNew x'))).length : Int) = (U : Int) - 1 by have := under_less hq4 (saNew x') HQ.out rfl; rw [HU.out] at this; omega)
            have HI3 := Lib.hid (HI2.out (saNew x') rfl rfl)
            generalize upd Q q (saNew x') = Q2 at hP HI3 hU3
            go_wp2_with fail
            go_roundw
            case rel => exact ⟨k + 1, _, g + 1, rws, _, T, Q2, _, cur, by go_num, by omega, by omega, rfl, by rw [hU3.out], HROW.out, HI3, hP⟩
            case measure => simp [intOf]; omega
      · have hge : ¬ (k : Int) < (xs.length : Int) := by omega
        clear hlt
        obtain ⟨U, hU⟩ : ∃ U, (under Q).length = U := ⟨_, rfl⟩
        have HCN := Lib.hid (show ((L.length + T.length + U : Nat) : Int) = s by rw [← hU]; exact hI.out.counts HB.out)
        rw [hU]
        clear hU
        have HFR := Lib.hid (hI.out.free HB.out t1 s4 (by omega))
        have HND := Lib.hid (hI.out.nodup HB.out)
        have hLl : L.length ≤ 64 := by have := HCN.out; omega
        have b0 : _ = some (Value.int .i64 t) := hP.cell 2 0 rfl rfl 0
        have b1 : _ = some (Value.int .i64 s) := hP.cell 2 0 rfl rfl 1
        go_wp2_with fail
        refine (stack_Free 0 t s hP rfl hwl t1 t4 s1 s4 hI.out.ok).mono ?_; rw [HFR.out]; rintro e w12 ⟨fv, fcur, n', rfl, hfr, hO'⟩; clear hP; have hP := hO'; clear hO'
        rw [List.set_cons_zero] at hP
        have HFV := Lib.hid hfr
        clear hfr b0 b1 hge
        go_wp2_with fail
        go_loopw [19] (fun i wr => ∃ (j : Nat), i = .int .i64 j ∧ j ≤ L.length ∧ Owns W.heap.size W wr (rowG 3 fv fcur :: memG p bw bb ws (List.replicate a.toNat 0) n' :: [(W.heap.size, Obj.cells #[Value.int .i64 a, .int .i64 s, .int .i64 t] 23 (0, 0))] :: [(lb, Obj.cells #[Value.int .i64 t, .int .i64 s] 25 (0, 0))] :: [(ab, Obj.cells (rowA (saA Q) 4) 57 (0, 0))] :: [(pb, Obj.cells (rowA (saP Q) 4) 61 (0, 0))] :: rowG 3 u7 cur :: (fam (saE t s Q) 4 ++ fam (saD t s Q) 4))) (fun i _ => L.length - (intOf i).toNat)
        case atStart => exact ⟨0, rfl, by omega, hP⟩
        case round =>
          clear hP
          obtain ⟨j, rfl, hj, hP⟩ := hrel
          by_cases hlt : j < L.length
          · obtain ⟨fg, fcap, hv, hcap, hcs⟩ := HFV.out.at2 (by intro h; rw [List.map_eq_nil_iff] at h; rw [h] at hlt; simp at hlt)
            rw [List.length_map] at hv hcap
            obtain ⟨x, hx⟩ : ∃ x, L[j] = x := ⟨_, rfl⟩
            have hcj : fcur.toArray[j]? = some (.int .i64 x) := hcs j _ (by rw [List.getElem?_map, List.getElem?_eq_getElem hlt, hx]; rfl)
            have hxm : x ∈ L := by rw [← hx]; exact List.getElem_mem hlt
            have n1 := Lib.hid (show decide (x ∈ T) = false by
              rw [decide_eq_false_iff_not]
              intro hm
              have hn := HND.out
              rw [List.append_assoc, List.nodup_append] at hn
              exact hn.2.2 _ hxm _ (by simp [hm]) rfl)
            have n2 := Lib.hid (show decide (x ∈ L.take j) = false by
              rw [decide_eq_false_iff_not]
              intro hm
              have hn := HND.out
              rw [List.append_assoc, List.nodup_append] at hn
              obtain ⟨i, hi, e⟩ := List.getElem_of_mem hm
              rw [List.length_take] at hi
              rw [List.getElem_take] at e
              exact List.pairwise_iff_getElem.1 hn.1 i j (by omega) hlt (by omega) (e.trans hx.symm))
            have HCS := Lib.hid hcs
            clear hcs hxm
            have j0 : (0 : Int) ≤ (j : Int) := by omega
            have j1 : (j : Int) < (L.length : Int) := by omega
            have j2 : (j : Int) ≤ (fcap : Int) := by omega
            have j3 : ¬ ((fcap : Int) - 0 = 0) := by omega
            subst hv
            have RT := Lib.hid (show ∀ wq, Owns W.heap.size W wq (rowG 3 (.slice (some ⟨fg, 0, none⟩) L.length fcap) fcur :: memG p bw bb ws (List.replicate a.toNat 0) n' :: [(W.heap.size, Obj.cells #[Value.int .i64 a, .int .i64 s, .int .i64 t] 23 (0, 0))] :: [(lb, Obj.cells #[Value.int .i64 t, .int .i64 s] 25 (0, 0))] :: [(ab, Obj.cells (rowA (saA Q) 4) 57 (0, 0))] :: [(pb, Obj.cells (rowA (saP Q) 4) 61 (0, 0))] :: rowG 3 u7 cur :: (fam (saE t s Q) 4 ++ fam (saD t s Q) 4)) → Reads wq u7 T ∧ Reads wq (.slice (some ⟨fg, 0, none⟩) j fcap) (L.take j) ∧ wq.cell? ⟨fg, j, none⟩ = some (.int .i64 x) from fun wq h => ⟨Reads.row HROW.out h 6 rfl (by omega), ⟨some ⟨fg, 0, none⟩, fcap, by rw [List.length_take, Nat.min_eq_left (by omega)], by rw [List.length_take]; omega, fun i hi => by
                rw [List.length_take] at hi
                refine ⟨fg, rfl, (h.cell 0 0 rfl rfl i).trans ?_⟩
                rw [HCS.out i (.int .i64 (L.getD i 0)) (by rw [List.getElem?_map, List.getElem?_eq_getElem (show i < L.length by omega), List.getD_eq_getElem?_getD, List.getElem?_eq_getElem (show i < L.length by omega)]; rfl)]
                rw [List.getD_eq_getElem?_getD, List.getD_eq_getElem?_getD, List.getElem?_take, if_pos (by omega)]⟩, (h.cell 0 0 rfl rfl j).trans hcj⟩)
            go_upto_region 39 with fail
            have hO' := hP.drew; clear hP; have hP := hO'; clear hO'
            have k0 := (RT.out _ hP).2.2
            first
              | go_loud (go_region_held3 (fun wq => wq.cell? ⟨fg, j, none⟩ = some (.int .i64 x)) (exact k0) ((go_at_call 34; (first | (with_reducible refine (law10_has _ T _ _ (RT.out _ hP).1 false n1.out).mono ?_) | (with_reducible refine (law10_has _ (L.take j) _ _ (RT.out _ hP).2.1 false n2.out).mono ?_)); rintro e w13 ⟨rfl, rfl⟩)))
              | fail "has"
            all_goals
              go_wp2_with fail
              go_roundw
              case rel => exact ⟨j + 1, by go_num, by omega, hP⟩
              case measure => simp [intOf]; omega
          · have hge : ¬ (j : Int) < (L.length : Int) := by omega
            obtain ⟨pa1, cap1, hv1⟩ := HFV.out.form
            rw [List.length_map] at hv1
            obtain ⟨pa2, cap2, hv2⟩ := HROW.out.form
            rw [List.length_map] at hv2
            have hO := hP
            have a1 : _ = some (Value.int .i64 s) := hP.cell 2 0 rfl rfl 1
            have w1 : IntKind.i64.wrap ((L.length : Int) + (T.length : Int)) = (L.length : Int) + (T.length : Int) := i64in _ (by omega) (by omega)
            have w2 : IntKind.i64.wrap ((L.length : Int) + (T.length : Int) + (U : Int)) = (L.length : Int) + (T.length : Int) + (U : Int) := i64in _ (by have := HCN.out; omega) (by have := HCN.out; omega)
            have d1 : decide ((L.length : Int) + (T.length : Int) ≤ s) = true := by rw [decide_eq_true_iff]; have := HCN.out; omega
            have d2 : decide (s ≤ (L.length : Int) + (T.length : Int) + (U : Int)) = true := by rw [decide_eq_true_iff]; have := HCN.out; omega
            have hc1 : (L.length : Int) < ((L.length : Int) + 1) := by omega
            clear hlt hP
            subst hv1
            subst hv2
            go_wp2_with (go_at_call 19; refine (law10_live _).mono ?_; rintro e w2 ⟨rfl, hb⟩; have hO := hO.via hb)
            go_ret
            exact ⟨rfl, hO.below⟩
theorem StackApart_walk (a s t : Int) (v : Value) (xs : List (List Value)) (W : World) (hs : SArg W [true, false, true] v xs) : Calls Try.prog 6 #[.agg #[.int .i64 a, .int .i64 s, .int .i64 t], v] W fun e w' => e = .returned (.bool true) ∧ Below W.heap.size W w' := by
  by_cases hn : xs.length ≤ 200
  · rcases bool_cases (b := cfgOk a s t) with hc | hc
    · exact StackApart_go a s t v xs W hs hn hc
    · exact StackApart_no a s t v xs W hs hn hc
  · exact StackApart_far a s t v xs W hs hn
end Go.Proofs.Ytpebepjfgnoaaaa
