/- The free law FreeHandles. -/
import Derived.RegionTactic
import Derived.BigRegion
import Derived.Deep.RegionHeld3
import Derived.Outline
import Derived.Deep.DeepCutAuto
import Derived.Deep.QuietTactic
import Derived.BigQuiet
import Derived.Test.YtkkeoadnepedjaaFrH0
import Derived.Test.YtkkeoadnepedjaaFrLv
import Derived.Test.YtkkeoadnepedjaaSA15
namespace Go.Proofs.Ytkkeoadnepedjaa
set_option linter.unusedVariables false
set_option linter.unusedSimpArgs false
open Go.RowKit
theorem free_run10 {B : Nat} {W w : World} {R : List Grp} {x p bw bb : Nat} {ws bs : List Int} {n : Int} {c : FrC} {v : FrV} (hO : Owns B W w (memG p bw bb ws bs n :: frG x c v :: R)) (hL : lOk c.t c.s) (hl : ws.length ≤ 4096) (hv : FrIn v) (r : FrQ × (Int × Int) × Int) (hr : mRun (frF1 c) 10 10 ⟨ws, v⟩ = r) :
    Calls Try.prog 16 #[.pointer (some ⟨p, 0, none⟩), .pointer (some ⟨x, 0, none⟩), .int .i64 10] w fun e w' => e = .returned (resN r.2.1 r.2.2) ∧
      ∃ m y, Owns B W w' (memG p bw bb r.1.ws bs m :: frG x { c with gp := y } r.1.v :: R) := free_run 10 (by decide) hO hL hl hv r hr
theorem own3' {B : Nat} {W w : World} {x y z : Grp} {R : List Grp} (h : Owns B W w (x :: y :: z :: R)) : Owns B W w (y :: z :: x :: R) := h.perm (List.perm_middle (l₁ := [y, z])).symm
set_option maxRecDepth 100000 in
set_option maxHeartbeats 8000000 in
theorem FreeHandles_no (s n : Int) (W : World) (hc : cfgOk 512 s 1 = false) : Calls Try.prog 5 #[.int .i64 s, .int .i64 n] W fun e w' => e = .returned (.bool true) ∧ Below W.heap.size W w' := by
  have CK := Lib.hid hc
  have hs : s < 1 ∨ (1 ≤ s ∧ 64 < s) := by have := cfgOk_no hc; omega
  clear hc
  rcases hs with h1 | ⟨h1, h2⟩
  all_goals
    go_enter Try.func5, Try.ntmps5
    go_wp2_with fail
    have hP := (Owns.nil W).more (.cells #[.int .i64 512, .int .i64 s, .int .i64 1] 25)
    generalize W.alloc (.cells #[.int .i64 512, .int .i64 s, .int .i64 1] 25) = w0 at hP ⊢
    refine (law15_start_no 512 s 1 _ CK.out).mono ?_; rintro e w1 ⟨rfl, hb⟩
    have hO' := hP.via hb; clear hP; have hP := hO'; clear hO'
    go_wp2_with (go_at_call 11; refine (law15_live _).mono ?_; rintro e w20 ⟨rfl, hb⟩; have hO' := hP.via hb; clear hP; have hP := hO'; clear hO')
    go_ret
    exact ⟨rfl, hP.below⟩
set_option maxRecDepth 100000 in
set_option maxHeartbeats 8000000 in
theorem FreeHandles_far (s n : Int) (W : World) (hc : cfgOk 512 s 1 = true) (hn : n < 0 ∨ (0 ≤ n ∧ 40 < n)) : Calls Try.prog 5 #[.int .i64 s, .int .i64 n] W fun e w' => e = .returned (.bool true) ∧ Below W.heap.size W w' := by
  have CK := Lib.hid hc
  clear hc
  rcases hn with h1 | ⟨h1, h2⟩
  all_goals
    go_enter Try.func5, Try.ntmps5
    go_wp2_with fail
    have hP := (Owns.nil W).more (.cells #[.int .i64 512, .int .i64 s, .int .i64 1] 25)
    generalize W.alloc (.cells #[.int .i64 512, .int .i64 s, .int .i64 1] 25) = w0 at hP ⊢
    refine (law15_start 512 s 1 hP CK.out).mono ?_; rintro e w1 ⟨p, bw, bb, m, rfl, hO'⟩; clear hP; have hP := hO'; clear hO'
    go_wp2_with (go_at_call 11; refine (law15_live _).mono ?_; rintro e w20 ⟨rfl, hb⟩; have hO' := hP.via hb; clear hP; have hP := hO'; clear hO')
    go_ret
    exact ⟨rfl, hP.below⟩
set_option maxRecDepth 100000 in
set_option maxHeartbeats 16000000 in
theorem FreeHandles_go (s : Int) (N : Nat) (W : World) (hc : cfgOk 512 s 1 = true) (hN40 : N ≤ 40) : Calls Try.prog 5 #[.int .i64 s, .int .i64 N] W fun e w' => e = .returned (.bool true) ∧ Below W.heap.size W w' := by
  have CK := Lib.hid hc
  have F0 := Lib.hid (fh_init hc)
  have HNX := Lib.hid (alNx_yes hc)
  have LOK := Lib.hid (fun (g : Int) => (show lOk (⟨1, s, 0, g, false, 0⟩ : FrC).t (⟨1, s, 0, g, false, 0⟩ : FrC).s from lOk_yes hc))
  have d1 : decide ((N : Int) < 0) = false := by rw [decide_eq_false_iff_not]; omega
  have d2 : decide (40 < N) = false := by rw [decide_eq_false_iff_not]; omega
  clear hc
  go_enter Try.func5, Try.ntmps5
  go_wp2_with fail
  have hP := (Owns.nil W).more (.cells #[.int .i64 512, .int .i64 s, .int .i64 1] 25)
  generalize hcb : W.heap.size = cb at hP ⊢
  have HC := Lib.hid hcb
  clear hcb
  generalize W.alloc (.cells #[.int .i64 512, .int .i64 s, .int .i64 1] 25) = w0 at hP ⊢
  refine (law15_start 512 s 1 hP CK.out).mono ?_; rintro e w1 ⟨p, bw, bb, m, rfl, hO'⟩; clear hP; have hP := hO'; clear hO'; (try simp only [List.set_cons_zero, List.set_cons_succ, List.cons_append, List.nil_append, List.eraseIdx_cons_succ, List.eraseIdx_cons_zero] at hP)
  go_wp2_with fail
  clear d1 d2
  have hP1 : Owns cb W w1 [memG p bw bb (initW 1 s) (List.replicate 512 0) m, [(cb, Obj.cells #[.int .i64 512, .int .i64 s, .int .i64 1] 25 (0, 0))], rowG 3 (.slice none 0 0) []] := by
    have e : ([memG p bw bb (initW 1 s) (List.replicate 512 0) m, [(cb, Obj.cells #[.int .i64 512, .int .i64 s, .int .i64 1] 25 (0, 0))]] ++ [[]] : List Grp).flatten = [memG p bw bb (initW 1 s) (List.replicate 512 0) m, [(cb, Obj.cells #[.int .i64 512, .int .i64 s, .int .i64 1] 25 (0, 0))]].flatten := by simp
    unfold Owns
    show _ ∧ _ ∧ (([memG p bw bb (initW 1 s) (List.replicate 512 0) m, [(cb, Obj.cells #[.int .i64 512, .int .i64 s, .int .i64 1] 25 (0, 0))]] ++ [[]] : List Grp).flatten.map Prod.fst).Nodup ∧ ∀ x ∈ ([memG p bw bb (initW 1 s) (List.replicate 512 0) m, [(cb, Obj.cells #[.int .i64 512, .int .i64 s, .int .i64 1] 25 (0, 0))]] ++ [[]] : List Grp).flatten, _
    rw [e]; exact hP
  clear hP
  go_loopw [7, 8] (fun tv iv wr => ∃ (i : Nat) (m : Int) (ws bs : List Int) (cur : List Value), iv = .int .i64 i ∧ i ≤ N ∧ FhIn s i ws bs ∧ RowOk tv ((tolds i).map (Value.int .i64)) cur ∧ Owns cb W wr [memG p bw bb ws bs m, [(cb, Obj.cells #[.int .i64 512, .int .i64 s, .int .i64 1] 25 (0, 0))], rowG 3 tv cur]) (fun _ iv _ => N - (intOf iv).toNat)
  case atStart => exact ⟨0, _, _, _, [], rfl, by omega, F0.out, RowOk.nil, hP1⟩
  case round =>
    clear hP1 F0
    obtain ⟨i, m, ws, bs, cur, rfl, hi, hin, hrow, hP⟩ := hrel
    have HIN := Lib.hid hin
    have HROW := Lib.hid hrow
    obtain ⟨l1, l2⟩ := hin.lens
    clear hin hrow
    by_cases hlt : i < N
    · (try simp only [List.set_cons_zero, List.set_cons_succ, List.cons_append, List.nil_append, List.eraseIdx_cons_succ, List.eraseIdx_cons_zero] at hP); have a0 : _ = some (Value.int .i64 512) := hP.cell 1 0 rfl rfl 0; have a1 : _ = some (Value.int .i64 s) := hP.cell 1 0 rfl rfl 1; have a2 : _ = some (Value.int .i64 1) := hP.cell 1 0 rfl rfl 2; have az := hP.lt 1 0 rfl rfl
      go_wp2_with fail
      refine (law15_make1 512 s 1 1 CK.out hP l1 l2).mono ?_
      rintro e w2 ⟨tk, r, hr, rfl, m2, hO'⟩; clear hP; have hP := hO'; clear hO'; (try simp only [List.set_cons_zero, List.set_cons_succ, List.cons_append, List.nil_append, List.eraseIdx_cons_succ, List.eraseIdx_cons_zero] at hP)
      obtain ⟨q, NN, he, hmid⟩ := fh_make CK.out HIN.out (by omega) tk
      rw [he] at hr
      subst hr
      simp only at hP
      clear he
      obtain ⟨l3, l4, hdead, q', hfree, hin'⟩ := hmid
      have HD := Lib.hid hdead
      have HF := Lib.hid hfree
      have HI' := Lib.hid hin'
      obtain ⟨hi', hhi⟩ : ∃ z, hN i = z := ⟨_, rfl⟩
      have HHI := Lib.hid hhi
      have HBD := Lib.hid (show -9223372036854775808 ≤ hi' ∧ hi' ≤ 9223372036854775807 by rw [← hhi]; exact hN_bd (by omega))
      rw [hhi]
      clear hdead hfree hin' hhi
      clear a0 a1 a2 az
      go_upto_region 10 with fail
      have hO' := hP.more (.cells #[.int .i64 0, .int .i64 hi'] 41); clear hP; have hP := hO'; clear hO'; (try simp only [List.set_cons_zero, List.set_cons_succ, List.cons_append, List.nil_append, List.eraseIdx_cons_succ, List.eraseIdx_cons_zero] at hP)
      generalize w2.heap.size = hb at hP ⊢
      generalize w2.alloc _ = w3 at hP ⊢
      go_wp2_with fail
      go_loopw [10] (fun kv wr => ∃ (k : Nat) (m : Int), kv = .int .i64 k ∧ k ≤ i ∧ Owns cb W wr [memG p bw bb q.ws q.bs m, [(cb, Obj.cells #[.int .i64 512, .int .i64 s, .int .i64 1] 25 (0, 0))], rowG 3 u7 cur, [(hb, Obj.cells #[.int .i64 0, .int .i64 hi'] 41 (0, 0))]]) (fun kv _ => i - (intOf kv).toNat)
      case atStart => exact ⟨0, _, rfl, by omega, hP⟩
      case round =>
        clear hP
        obtain ⟨k, m3, rfl, hk, hP⟩ := hrel
        by_cases hlk : k < i
        · obtain ⟨g, cap, hv, hcl⟩ := HROW.out.cells hP 2 rfl (by intro h; have := congrArg List.length h; rw [List.length_map, tolds_len] at this; simp at this; omega)
          rw [List.length_map, tolds_len] at hv
          subst hv
          obtain ⟨hkv, hhk⟩ : ∃ z, hN k = z := ⟨_, rfl⟩
          have hg : ∀ (i0 : Nat) (B' : Nat) (W' w' : World) (G' : List Grp) (h : Owns B' W' w' G'), G'[i0]? = some (rowG 3 (.slice (some ⟨g, 0, none⟩) i cap) cur) → w'.cell? ⟨g, k, none⟩ = some (.int .i64 hkv) := by
            intro i0 B' W' w' G' h hi
            obtain ⟨g', cap', hv, hcl⟩ := HROW.out.cells h i0 hi (by intro h; have := congrArg List.length h; rw [List.length_map, tolds_len] at this; simp at this; omega)
            simp only [Value.slice.injEq, Option.some.injEq, Addr.mk.injEq, and_true] at hv
            rw [hv.1, ← hhk]; exact hcl k _ (tolds_get i k hlk)
          have HGG := Lib.hid hg
          have hne : (hkv == hi') = false := by rw [← hhk, ← HHI.out]; exact hN_ne hlk
          have hbk : -9223372036854775808 ≤ hkv ∧ hkv ≤ 9223372036854775807 := by rw [← hhk]; exact hN_bd (by omega)
          have HBK := Lib.hid hbk
          have HNK := Lib.hid (show frNewC 512 s 1 hkv = ⟨1, s, 0, k, false, 0⟩ by rw [← hhk]; exact fh_new CK.out k (by omega))
          obtain ⟨vd, hdk⟩ := HD.out k hlk
          have HDK := Lib.hid hdk
          clear hcl hg hhk hbk hdk
          have cx : wr.cell? ⟨g, k, none⟩ = some (.int .i64 hkv) := HGG.out 2 _ _ _ _ hP rfl
          have h0 : _ = some (Value.int .i64 0) := hP.cell 3 0 rfl rfl 0; have h1 : _ = some (Value.int .i64 hi') := hP.cell 3 0 rfl rfl 1; have hz := hP.lt 3 0 rfl rfl
          go_upto_region 13 with fail
          go_quiet (fail)
          have hO' := hP.drewN nq; clear hP; have hP := hO'; clear hO'
          clear cx h0 h1 hz
          generalize World.drewN _ _ = wq at hP ⊢
          go_upto_region 15 with fail
          go_cut [11, 12] (fun s11 s12 wx => ∃ (rb : Nat) (m : Int), s11 = .pointer (some ⟨rb, 0, none⟩) ∧ s12 = .int .i64 1 ∧ Owns cb W wx ([(rb, Obj.cells #[.int .i64 4, .int .i64 0] 41 (0, 0))] :: [memG p bw bb q.ws q.bs m, [(cb, Obj.cells #[.int .i64 512, .int .i64 s, .int .i64 1] 25 (0, 0))], rowG 3 (.slice (some ⟨g, 0, none⟩) i cap) cur, [(hb, Obj.cells #[.int .i64 0, .int .i64 hi'] 41 (0, 0))]]))
          case first =>
            have hA := fun o => (hP.alloc o).drew
            have hO' := hP.drew; clear hP; have hP := hO'; clear hO'
            (try simp only [List.set_cons_zero, List.set_cons_succ, List.cons_append, List.nil_append, List.eraseIdx_cons_succ, List.eraseIdx_cons_zero] at hP); have a0 : _ = some (Value.int .i64 512) := hP.cell 1 0 rfl rfl 0; have a1 : _ = some (Value.int .i64 s) := hP.cell 1 0 rfl rfl 1; have a2 : _ = some (Value.int .i64 1) := hP.cell 1 0 rfl rfl 2; have az := hP.lt 1 0 rfl rfl
            have cx := HGG.out 2 _ _ _ _ hP rfl
            first
              | go_loud (go_region_held3 (fun w => w.cell? ⟨cb, 0, none⟩ = some (.int .i64 512) ∧ w.cell? ⟨cb, 1, none⟩ = some (.int .i64 s) ∧ w.cell? ⟨cb, 2, none⟩ = some (.int .i64 1) ∧ w.cell? ⟨g, k, none⟩ = some (.int .i64 hkv)) (first | (with_reducible exact ⟨a0, a1, a2, cx⟩) | (with_reducible exact ⟨cell_alloc _ a0, cell_alloc _ a1, cell_alloc _ a2, cell_alloc _ cx⟩) | (refine ⟨?_, ?_, ?_, ?_⟩ <;> (repeat (rw [World.cell?_setCell_far _ _ _ _ (by first | exact nx | exact nx' | exact ny | exact ny')])) <;> assumption) | exact ⟨cell_alloc _ a0, cell_alloc _ a1, cell_alloc _ a2, cell_alloc _ cx⟩) (first | (go_at_call 17; (first | ((with_reducible refine (free_New 512 s 1 hkv HBK.out.1 HBK.out.2 hP).mono ?_); rintro e w3 ⟨y, rfl, hO'⟩; rw [HNK.out, HNX.out] at hO'; clear hP a0 a1 a2 cx; have hP := hO'.swap; clear hO'; have a0 : _ = some (Value.int .i64 512) := hP.cell 2 0 rfl rfl 0; have a1 : _ = some (Value.int .i64 s) := hP.cell 2 0 rfl rfl 1; have a2 : _ = some (Value.int .i64 1) := hP.cell 2 0 rfl rfl 2; have cx := HGG.out 3 _ _ _ _ hP rfl) | ((first | (with_reducible refine (free_New 512 s 1 hkv HBK.out.1 HBK.out.2 (hP.alloc _)).mono ?_) | (with_reducible refine (free_New 512 s 1 hkv HBK.out.1 HBK.out.2 (hA _)).mono ?_)); rintro e w3 ⟨y, rfl, hO'⟩; rw [HNK.out, HNX.out] at hO'; clear hP a0 a1 a2 cx; have hP := own3 hO'; clear hO'; have a0 : _ = some (Value.int .i64 512) := hP.cell 3 0 rfl rfl 0; have a1 : _ = some (Value.int .i64 s) := hP.cell 3 0 rfl rfl 1; have a2 : _ = some (Value.int .i64 1) := hP.cell 3 0 rfl rfl 2; have cx := HGG.out 4 _ _ _ _ hP rfl; have g0 : _ = some (Value.int .i64 0) := hP.cell 2 0 rfl rfl 0; have g1 : _ = some (Value.int .i64 0) := hP.cell 2 0 rfl rfl 1; have f0 := blk_free (hP.get 2 0 rfl rfl) 0; have f1 := blk_free (hP.get 2 0 rfl rfl) 1; have gz := hP.lt 2 0 rfl rfl; have nx := hP.ne_out 2 3 0 0 rfl rfl rfl rfl (by decide); have nx' := hP.ne_out 3 2 0 0 rfl rfl rfl rfl (by decide); have ny := hP.ne_out 2 4 0 0 rfl rfl rfl rfl (by decide); have ny' := hP.ne_out 4 2 0 0 rfl rfl rfl rfl (by decide)))) | (go_at_call 16; (first | ((with_reducible refine (free_run10 hP (LOK.out 0) l3 frV1_in _ HDK.out).mono ?_); simp only [resN]; rintro e w4 ⟨rfl, m4, y4, hO'⟩; clear hP a0 a1 a2 cx; have hP := hO'; clear hO'; (first | (have a0 : _ = some (Value.int .i64 512) := hP.cell 2 0 rfl rfl 0; have a1 : _ = some (Value.int .i64 s) := hP.cell 2 0 rfl rfl 1; have a2 : _ = some (Value.int .i64 1) := hP.cell 2 0 rfl rfl 2; have cx := HGG.out 3 _ _ _ _ hP rfl; skip) | (have a0 : _ = some (Value.int .i64 512) := hP.cell 3 0 rfl rfl 0; have a1 : _ = some (Value.int .i64 s) := hP.cell 3 0 rfl rfl 1; have a2 : _ = some (Value.int .i64 1) := hP.cell 3 0 rfl rfl 2; have cx := HGG.out 4 _ _ _ _ hP rfl; have g0 : _ = some (Value.int .i64 0) := hP.cell 2 0 rfl rfl 0; have g1 : _ = some (Value.int .i64 0) := hP.cell 2 0 rfl rfl 1; have f0 := blk_free (hP.get 2 0 rfl rfl) 0; have f1 := blk_free (hP.get 2 0 rfl rfl) 1; have gz := hP.lt 2 0 rfl rfl; have nx := hP.ne_out 2 3 0 0 rfl rfl rfl rfl (by decide); have nx' := hP.ne_out 3 2 0 0 rfl rfl rfl rfl (by decide); have ny := hP.ne_out 2 4 0 0 rfl rfl rfl rfl (by decide); have ny' := hP.ne_out 4 2 0 0 rfl rfl rfl rfl (by decide); skip))) | ((with_reducible refine (free_run10 (own3' (hP.alloc _)) (LOK.out 0) l3 frV1_in _ HDK.out).mono ?_); simp only [resN]; rintro e w4 ⟨rfl, m4, y4, hO'⟩; clear hP a0 a1 a2 cx; have hP := hO'; clear hO'; have a0 : _ = some (Value.int .i64 512) := hP.cell 3 0 rfl rfl 0; have a1 : _ = some (Value.int .i64 s) := hP.cell 3 0 rfl rfl 1; have a2 : _ = some (Value.int .i64 1) := hP.cell 3 0 rfl rfl 2; have cx := HGG.out 4 _ _ _ _ hP rfl; have g0 : _ = some (Value.int .i64 0) := hP.cell 2 0 rfl rfl 0; have g1 : _ = some (Value.int .i64 0) := hP.cell 2 0 rfl rfl 1; have f0 := blk_free (hP.get 2 0 rfl rfl) 0; have f1 := blk_free (hP.get 2 0 rfl rfl) 1; have gz := hP.lt 2 0 rfl rfl; have nx := hP.ne_out 2 3 0 0 rfl rfl rfl rfl (by decide); have nx' := hP.ne_out 3 2 0 0 rfl rfl rfl rfl (by decide); have ny := hP.ne_out 2 4 0 0 rfl rfl rfl rfl (by decide); have ny' := hP.ne_out 4 2 0 0 rfl rfl rfl rfl (by decide))))))
              | fail "run"
            all_goals
              go_wp2_with fail
              go_meet
              first
                | (with_reducible exact ⟨_, _, rfl, rfl, (hP.alloc _).drop 2⟩)
                | exact ⟨_, _, rfl, rfl, (hP.alloc _).drop 2⟩
                | exact ⟨_, _, rfl, rfl, (res_set2 (own3 hP) (.int .i64 4) (.int .i64 0)).drop 2⟩
                | exact ⟨_, _, rfl, rfl, (res_set2 (own3 hP) (.int .i64 4) (.int .i64 0)).drew.drop 2⟩
          case rest =>
            obtain ⟨rb, m5, rfl, rfl, hP'⟩ := hcut
            clear hP
            have hP := hP'
            clear hP'
            have r0 : _ = some (Value.int .i64 4) := hP.cell 0 0 rfl rfl 0
            have r1 : _ = some (Value.int .i64 0) := hP.cell 0 0 rfl rfl 1
            go_wp2_with fail
            go_roundw
            case rel => exact ⟨k + 1, _, by go_num, by omega, hP.tail⟩
            case measure => simp [intOf]; omega
        · have hki : k = i := by omega
          subst hki
          have vl : ∃ (pa : Option Addr) (cap : Nat), u7 = .slice pa k cap := by
            rcases HROW.out with ⟨h1, h2, -⟩ | ⟨g, cap, h1, -⟩
            · have hk0 : tolds k = [] := by simpa using h2
              have hk1 : k = 0 := by rw [← tolds_len k, hk0]; rfl
              exact ⟨none, 0, by rw [h1, hk1]⟩
            · exact ⟨_, cap, by rw [h1, List.length_map, tolds_len]⟩
          obtain ⟨pa, cap, hv⟩ := vl
          subst hv
          have h0 : _ = some (Value.int .i64 0) := hP.cell 3 0 rfl rfl 0; have h1 : _ = some (Value.int .i64 hi') := hP.cell 3 0 rfl rfl 1; have hz := hP.lt 3 0 rfl rfl
          have HNI := Lib.hid (show frNewC 512 s 1 hi' = ⟨1, s, 0, k, false, 0⟩ by rw [← HHI.out]; exact fh_new CK.out k (by omega))
          go_wp2_with (at_builtin; refine stop_here ?_)
          unfold Stop
          refine wpList_append_row rfl (.tmp 82) (.tmp 85) _ rfl 3 (.int .i64 0) 8 Try.underlying48 info_int rfl (by decide) rfl (hP.via (below_alloc _ _)) 2 rfl HROW.out ⟨_, 0, none⟩ 1 1 [.int .i64 hi'] rfl rfl ?n1 ?n2 (by simp) ?n3 ?_
          case n1 => intro j u hj; cases j with
            | zero => simp at hj; subst hj; refine (blk_cell (blk_new _ _) _).trans ?_; simp
            | succ j => simp at hj
          case n2 => intro u hu; simp at hu; subst hu; rfl
          case n3 => rw [List.length_map, tolds_len]; simp; omega
          intro v' cur' w' hr' hO'
          have HR' := Lib.hid hr'
          clear h0 h1 hz hr'
          clear hP; have hP := hO'; clear hO'
          (try simp only [List.set_cons_zero, List.set_cons_succ, List.cons_append, List.nil_append, List.eraseIdx_cons_succ, List.eraseIdx_cons_zero] at hP); have a0 : _ = some (Value.int .i64 512) := hP.cell 1 0 rfl rfl 0; have a1 : _ = some (Value.int .i64 s) := hP.cell 1 0 rfl rfl 1; have a2 : _ = some (Value.int .i64 1) := hP.cell 1 0 rfl rfl 2; have az := hP.lt 1 0 rfl rfl
          have h1 : _ = some (Value.int .i64 hi') := hP.cell 3 0 rfl rfl 1; have hz := hP.lt 3 0 rfl rfl
          go_wp2_with fail
          refine (free_New 512 s 1 hi' HBD.out.1 HBD.out.2 hP).mono ?_; rintro e w8 ⟨y, rfl, hO'⟩; rw [HNI.out, HNX.out] at hO'; clear hP; have hP := hO'; clear hO'; have hO' := hP.swap; clear hP; have hP := hO'; clear hO'
          clear a0 a1 a2 az
          clear h1 hz
          go_wp2_with fail
          refine (free_run10 hP (LOK.out 0) l3 frV1_in _ HF.out).mono ?_; simp only [resN]; rintro e w9 ⟨rfl, m9, y9, hO'⟩; clear hP; have hP := hO'; clear hO'; have hO' := hP.drop 1; clear hP; have hP := hO'; clear hO'; (try simp only [List.set_cons_zero, List.set_cons_succ, List.cons_append, List.nil_append, List.eraseIdx_cons_succ, List.eraseIdx_cons_zero] at hP)
          go_upto_region 20 with fail
          have hO' := hP.more (.cells #[.int .i64 0, .int .i64 0] 41); clear hP; have hP := hO'; clear hO'; (try simp only [List.set_cons_zero, List.set_cons_succ, List.cons_append, List.nil_append, List.eraseIdx_cons_succ, List.eraseIdx_cons_zero] at hP)
          generalize w9.heap.size = rb at hP ⊢
          generalize w9.alloc _ = w10 at hP ⊢
          have r0 : _ = some (Value.int .i64 0) := hP.cell 4 0 rfl rfl 0
          have r1 : _ = some (Value.int .i64 0) := hP.cell 4 0 rfl rfl 1
          go_wp2_with fail
          go_roundw
          case rel => exact ⟨k + 1, _, _, _, cur', by go_num, by omega, HI'.out, by rw [tolds_succ, List.map_append, HHI.out]; exact HR'.out, (hP.drop 4).drop 3⟩
          case measure => simp [intOf]; omega
    · have hge : decide (i < N) = false := by rw [decide_eq_false_iff_not]; omega
      clear hlt
      go_wp2_with (go_at_call 11; refine (law15_live _).mono ?_; rintro e w20 ⟨rfl, hb⟩; have hO' := hP.via hb; clear hP; have hP := hO'; clear hO')
      go_ret
      exact ⟨rfl, by rw [HC.out]; exact hP.below⟩
theorem FreeHandles_walk (s n : Int) (W : World) : Calls Try.prog 5 #[.int .i64 s, .int .i64 n] W fun e w' => e = .returned (.bool true) ∧ Below W.heap.size W w' := by
  rcases bool_cases (b := cfgOk 512 s 1) with hc | hc
  · by_cases h : n < 0 ∨ (0 ≤ n ∧ 40 < n)
    · exact FreeHandles_far s n W hc h
    · obtain ⟨N, rfl⟩ : ∃ N : Nat, n = N := ⟨n.toNat, by omega⟩
      exact FreeHandles_go s N W hc (by omega)
  · exact FreeHandles_no s n W hc
end Go.Proofs.Ytkkeoadnepedjaa
