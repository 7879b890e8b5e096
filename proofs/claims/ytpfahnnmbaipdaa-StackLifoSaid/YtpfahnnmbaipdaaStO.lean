/- The stack law StackLifo. -/
import Derived.Deep.RegionHeld3
import Derived.Test.YtpfahnnmbaipdaaStO0
import Derived.Test.YtpfahnnmbaipdaaStA
namespace Go.Proofs.Ytpfahnnmbaipdaa
set_option linter.unusedVariables false
set_option linter.unusedSimpArgs false
open Go.RowKit
def upTo (k : Nat) : List Int := (List.range k).map fun (j : Nat) => (j : Int)
theorem upTo_len (k : Nat) : (upTo k).length = k := by simp [upTo]
theorem upTo_succ (k : Nat) : upTo (k + 1) = upTo k ++ [(k : Int)] := by simp [upTo, List.range_succ]
theorem upTo_get (k i : Nat) (h : i < k) : ((upTo k).map (Value.int .i64))[i]? = some (.int .i64 i) := by simp [upTo, h]
set_option maxRecDepth 100000 in
set_option maxHeartbeats 8000000 in
theorem StackLifo_walk (a s t n : Int) (W : World) : Calls Try.prog 11 #[.agg #[.int .i64 a, .int .i64 s, .int .i64 t], .int .i64 n] W fun e w' => e = .returned (.bool true) ∧ Below W.heap.size W w' := by
  rcases bool_cases (b := cfgOk a s t) with hc | hc
  rotate_left
  · have CK := Lib.hid hc
    clear hc
    go_enter Try.func11, Try.ntmps11
    go_wp2_with fail
    have hO := (Owns.nil W).more (.cells #[.int .i64 a, .int .i64 s, .int .i64 t] 23)
    generalize W.alloc (.cells #[.int .i64 a, .int .i64 s, .int .i64 t] 23) = w0 at hO ⊢
    refine (law10_start_no a s t _ CK.out).mono ?_; rintro e w1 ⟨rfl, hb⟩
    have hO := (hO.via hb).more (.cells #[.int .i64 0, .int .i64 0] 56)
    (try simp only [List.set_cons_zero, List.set_cons_succ, List.cons_append, List.nil_append] at hO); have a0 : _ = some (Value.int .i64 a) := hO.cell 0 0 rfl rfl 0; have a1 : _ = some (Value.int .i64 s) := hO.cell 0 0 rfl rfl 1; have a2 : _ = some (Value.int .i64 t) := hO.cell 0 0 rfl rfl 2
    go_wp2_with first
      | (go_at_call 14; refine (ref06_May _ _ _ _).mono ?_; rw [CK.out]; rintro e w4 ⟨rfl, hb⟩; have hO := hO.via hb)
      | (go_at_call 25; refine (law10_live _).mono ?_; rintro e w2 ⟨rfl, hb⟩; have hO := hO.via hb)
    go_ret
    exact ⟨rfl, hO.below⟩
  have CK := Lib.hid hc
  obtain ⟨h1, h2, h3, h4, h5, h6, h7⟩ := cfgOk_of hc
  have L := Lib.hid (lOk_yes hc)
  have HLN := Lib.hid (show ∀ k, (aW t s k).length ≤ 4096 from fun k => by rw [aW_len, lWords_ok h6]; omega)
  clear hc h3
  by_cases hn : 0 ≤ n ∧ n ≤ s
  rotate_left
  · have hn' : n < 0 ∨ (0 ≤ n ∧ s < n) := by omega
    clear hn
    rcases hn' with q1 | ⟨q1, q2⟩
    all_goals
      go_enter Try.func11, Try.ntmps11
      go_wp2_with fail
      have hO := (Owns.nil W).more (.cells #[.int .i64 a, .int .i64 s, .int .i64 t] 23)
      generalize W.alloc (.cells #[.int .i64 a, .int .i64 s, .int .i64 t] 23) = w0 at hO ⊢
      refine (law10_start a s t hO CK.out).mono ?_; rintro e w1 ⟨p, bw, bb, m, rfl, hO'⟩
      have hO := (hO'.last).more (.cells #[.int .i64 t, .int .i64 s] 56)
      (try simp only [List.set_cons_zero, List.set_cons_succ, List.cons_append, List.nil_append] at hO); have a0 : _ = some (Value.int .i64 a) := hO.cell 0 0 rfl rfl 0; have a1 : _ = some (Value.int .i64 s) := hO.cell 0 0 rfl rfl 1; have a2 : _ = some (Value.int .i64 t) := hO.cell 0 0 rfl rfl 2; have b0 : _ = some (Value.int .i64 t) := hO.cell 2 0 rfl rfl 0; have b1 : _ = some (Value.int .i64 s) := hO.cell 2 0 rfl rfl 1
      go_wp2_with (go_at_call 25; refine (law10_live _).mono ?_; rintro e w2 ⟨rfl, hb⟩; have hO := hO.via hb)
      go_ret
      exact ⟨rfl, hO.below⟩
  obtain ⟨n0, n1⟩ := hn
  obtain ⟨N, hN⟩ : ∃ N : Nat, n = N := ⟨n.toNat, by omega⟩
  subst hN
  go_enter Try.func11, Try.ntmps11
  go_wp2_with fail
  have hO := (Owns.nil W).more (.cells #[.int .i64 a, .int .i64 s, .int .i64 t] 23)
  generalize W.alloc (.cells #[.int .i64 a, .int .i64 s, .int .i64 t] 23) = w0 at hO ⊢
  refine (law10_start a s t hO CK.out).mono ?_; rintro e w1 ⟨p, bw, bb, m, rfl, hO'⟩
  rw [← aW_zero h6 h7 h4 h5] at hO'
  have hO := (hO'.last).more (.cells #[.int .i64 t, .int .i64 s] 56)
  (try simp only [List.set_cons_zero, List.set_cons_succ, List.cons_append, List.nil_append] at hO); have a0 : _ = some (Value.int .i64 a) := hO.cell 0 0 rfl rfl 0; have a1 : _ = some (Value.int .i64 s) := hO.cell 0 0 rfl rfl 1; have a2 : _ = some (Value.int .i64 t) := hO.cell 0 0 rfl rfl 2; have b0 : _ = some (Value.int .i64 t) := hO.cell 2 0 rfl rfl 0; have b1 : _ = some (Value.int .i64 s) := hO.cell 2 0 rfl rfl 1
  go_wp2_with fail
  generalize hlb : w1.heap.size = lb at hO ⊢
  have HL := Lib.hid hlb
  clear hlb
  have hO1 : Owns W.heap.size W (w1.alloc (.cells #[.int .i64 t, .int .i64 s] 56)) [[(W.heap.size, Obj.cells #[.int .i64 a, .int .i64 s, .int .i64 t] 23 (0, 0))], memG p bw bb (aW t s 0) (List.replicate a.toNat 0) m, [(lb, Obj.cells #[.int .i64 t, .int .i64 s] 56 (0, 0))], rowG 3 (.slice none 0 0) []] := by
    have e : ([[(W.heap.size, Obj.cells #[.int .i64 a, .int .i64 s, .int .i64 t] 23 (0, 0))], memG p bw bb (aW t s 0) (List.replicate a.toNat 0) m, [(lb, Obj.cells #[.int .i64 t, .int .i64 s] 56 (0, 0))]] ++ [[]] : List Grp).flatten = [[(W.heap.size, Obj.cells #[.int .i64 a, .int .i64 s, .int .i64 t] 23 (0, 0))], memG p bw bb (aW t s 0) (List.replicate a.toNat 0) m, [(lb, Obj.cells #[.int .i64 t, .int .i64 s] 56 (0, 0))]].flatten := by simp
    unfold Owns
    show _ ∧ _ ∧ (([[(W.heap.size, Obj.cells #[.int .i64 a, .int .i64 s, .int .i64 t] 23 (0, 0))], memG p bw bb (aW t s 0) (List.replicate a.toNat 0) m, [(lb, Obj.cells #[.int .i64 t, .int .i64 s] 56 (0, 0))]] ++ [[]] : List Grp).flatten.map Prod.fst).Nodup ∧ ∀ x ∈ ([[(W.heap.size, Obj.cells #[.int .i64 a, .int .i64 s, .int .i64 t] 23 (0, 0))], memG p bw bb (aW t s 0) (List.replicate a.toNat 0) m, [(lb, Obj.cells #[.int .i64 t, .int .i64 s] 56 (0, 0))]] ++ [[]] : List Grp).flatten, _
    rw [e]; exact hO
  clear hO a0 a1 a2 b0 b1
  go_loopw [7, 8] (fun tk i wr => ∃ (k : Nat) (m : Int) (v : Value) (cur : List Value), i = .int .i64 k ∧ k ≤ N ∧ tk = v ∧ RowOk v ((upTo k).map (Value.int .i64)) cur ∧ Owns W.heap.size W wr [[(W.heap.size, Obj.cells #[.int .i64 a, .int .i64 s, .int .i64 t] 23 (0, 0))], memG p bw bb (aW t s k) (List.replicate a.toNat 0) m, [(lb, Obj.cells #[.int .i64 t, .int .i64 s] 56 (0, 0))], rowG 3 v cur]) (fun _ i _ => N - (intOf i).toNat)
  case atStart => exact ⟨0, _, _, [], rfl, by omega, rfl, RowOk.nil, hO1⟩
  case round =>
    clear hO1
    obtain ⟨k, m, v, cur, rfl, hk, rfl, hr, hO⟩ := hrel
    have HR := Lib.hid hr
    clear hr
    (try simp only [List.set_cons_zero, List.set_cons_succ, List.cons_append, List.nil_append] at hO); have a0 : _ = some (Value.int .i64 a) := hO.cell 0 0 rfl rfl 0; have a1 : _ = some (Value.int .i64 s) := hO.cell 0 0 rfl rfl 1; have a2 : _ = some (Value.int .i64 t) := hO.cell 0 0 rfl rfl 2; have b0 : _ = some (Value.int .i64 t) := hO.cell 2 0 rfl rfl 0; have b1 : _ = some (Value.int .i64 s) := hO.cell 2 0 rfl rfl 1
    by_cases hlt : k < N
    · have K1 := Lib.hid (alone_look h6 h7 h4 h5 (by omega : (0 : Int) ≤ k) (by omega))
      have K2 := Lib.hid (alone_link h6 h7 h4 h5 (by omega : (0 : Int) ≤ k) (by omega))
      have K3 := Lib.hid (alone_swap h6 h7 h4 h5 (by omega : (0 : Int) ≤ k) (by omega))
      go_wp2_with fail
      refine (stack_NewPop t s hO).mono ?_; rintro e w3 ⟨x, rfl, hO'⟩; have hO := hO'.last; (try simp only [List.set_cons_zero, List.set_cons_succ, List.cons_append, List.nil_append] at hO); have a0 : _ = some (Value.int .i64 a) := hO.cell 0 0 rfl rfl 0; have a1 : _ = some (Value.int .i64 s) := hO.cell 0 0 rfl rfl 1; have a2 : _ = some (Value.int .i64 t) := hO.cell 0 0 rfl rfl 2; have b0 : _ = some (Value.int .i64 t) := hO.cell 2 0 rfl rfl 0; have b1 : _ = some (Value.int .i64 s) := hO.cell 2 0 rfl rfl 1
      go_wp2_with fail
      refine (pop_Step 1 4 (by decide) hO rfl rfl L.out (HLN.out _)).mono ?_; rw [K1.out]; rintro e w5 ⟨rfl, m1, hO'⟩; have hO := hO'; (try simp only [List.set_cons_zero, List.set_cons_succ, List.cons_append, List.nil_append] at hO); have a0 : _ = some (Value.int .i64 a) := hO.cell 0 0 rfl rfl 0; have a1 : _ = some (Value.int .i64 s) := hO.cell 0 0 rfl rfl 1; have a2 : _ = some (Value.int .i64 t) := hO.cell 0 0 rfl rfl 2; have b0 : _ = some (Value.int .i64 t) := hO.cell 2 0 rfl rfl 0; have b1 : _ = some (Value.int .i64 s) := hO.cell 2 0 rfl rfl 1
      go_wp2_with fail
      refine (pop_Step 1 4 (by decide) hO rfl rfl L.out (HLN.out _)).mono ?_; rw [K2.out]; rintro e w6 ⟨rfl, m2, hO'⟩; have hO := hO'; (try simp only [List.set_cons_zero, List.set_cons_succ, List.cons_append, List.nil_append] at hO); have a0 : _ = some (Value.int .i64 a) := hO.cell 0 0 rfl rfl 0; have a1 : _ = some (Value.int .i64 s) := hO.cell 0 0 rfl rfl 1; have a2 : _ = some (Value.int .i64 t) := hO.cell 0 0 rfl rfl 2; have b0 : _ = some (Value.int .i64 t) := hO.cell 2 0 rfl rfl 0; have b1 : _ = some (Value.int .i64 s) := hO.cell 2 0 rfl rfl 1
      go_wp2_with fail
      refine (pop_Step 1 4 (by decide) hO rfl rfl L.out (HLN.out _)).mono ?_; rw [K3.out]; rintro e w7 ⟨rfl, m3, hO'⟩; have hO := hO'.drop 4; (try simp only [List.set_cons_zero, List.set_cons_succ, List.cons_append, List.nil_append] at hO); have a0 : _ = some (Value.int .i64 a) := hO.cell 0 0 rfl rfl 0; have a1 : _ = some (Value.int .i64 s) := hO.cell 0 0 rfl rfl 1; have a2 : _ = some (Value.int .i64 t) := hO.cell 0 0 rfl rfl 2; have b0 : _ = some (Value.int .i64 t) := hO.cell 2 0 rfl rfl 0; have b1 : _ = some (Value.int .i64 s) := hO.cell 2 0 rfl rfl 1
      go_wp2_with first
        | (at_builtin; refine stop_here ?_)
      unfold Stop
      refine wpList_append_row rfl (.tmp 75) (.tmp 77) _ rfl 3 (.int .i64 0) 8 Try.underlying40 info_int rfl (by decide) rfl (hO.via (below_alloc _ _)) 3 rfl HR.out ⟨_, 0, none⟩ 1 1 [.int .i64 k] rfl rfl ?n1 ?n2 (by simp) ?n3 ?_
      case n1 => intro j u hj; cases j with
        | zero => simp at hj; subst hj; refine (blk_cell (blk_new _ _) _).trans ?_; simp
        | succ j => simp at hj
      case n2 => intro u hu; simp at hu; subst hu; rfl
      case n3 => rw [List.length_map, upTo_len]; simp; omega
      intro v' cur' w' hr' hO'
      go_wp2_with fail
      go_roundw
      case rel => exact ⟨k + 1, _, _, cur', by go_num, by omega, rfl, by rw [upTo_succ, List.map_append]; exact hr', hO'⟩
      case measure => simp [intOf]; omega
    · have hk' : k = N := by omega
      subst hk'
      clear hlt a0 a1 a2 b0 b1
      have HPL := Lib.hid (show ∀ j, (pW t s k j).length ≤ 4096 from fun j => by rw [pW_len, lWords_ok h6]; omega)
      have HVL := Lib.hid (show ∀ j, (pV t s k j).length ≤ 4096 from fun j => by rw [pV_len, lWords_ok h6]; omega)
      go_wp2_with fail
      have kn : (0 : Int) ≤ k := by omega
      have ks : (k : Int) ≤ s := by omega
      go_loopw [13] (fun i wr => ∃ (j : Nat) (m : Int), i = .int .i64 j ∧ j ≤ k ∧ Owns W.heap.size W wr [[(W.heap.size, Obj.cells #[.int .i64 a, .int .i64 s, .int .i64 t] 23 (0, 0))], memG p bw bb (pW t s k j) (List.replicate a.toNat 0) m, [(lb, Obj.cells #[.int .i64 t, .int .i64 s] 56 (0, 0))], rowG 3 u7 cur]) (fun i _ => k - (intOf i).toNat)
      case atStart => exact ⟨0, _, rfl, by omega, hO⟩
      case round =>
        clear hO
        obtain ⟨j, m, rfl, hj, hO⟩ := hrel
        have b0 : _ = some (Value.int .i64 t) := hO.cell 2 0 rfl rfl 0
        have b1 : _ = some (Value.int .i64 s) := hO.cell 2 0 rfl rfl 1
        by_cases hlt : j < k
        · obtain ⟨g, cap, hv, hcl⟩ := HR.out.cells hO 3 rfl (by intro h; have := congrArg List.length h; rw [List.length_map, upTo_len] at this; simp at this; omega)
          rw [List.length_map, upTo_len] at hv
          subst hv
          have hg : ∀ (B' : Nat) (W' w' : World) (G' : List Grp) (h : Owns B' W' w' G'), G'[3]? = some (rowG 3 (.slice (some ⟨g, 0, none⟩) k cap) cur) → w'.cell? ⟨g, j, none⟩ = some (.int .i64 j) := by
            intro B' W' w' G' h hi
            obtain ⟨g', cap', hv, hcl⟩ := HR.out.cells h 3 hi (by intro h; have := congrArg List.length h; rw [List.length_map, upTo_len] at this; simp at this; omega)
            simp only [Value.slice.injEq, Option.some.injEq, Addr.mk.injEq, and_true] at hv
            rw [hv.1]; exact hcl j _ (upTo_get k j hlt)
          have HG := Lib.hid hg
          have hjk : (j : Int) < k := by omega
          have hj0 : (0 : Int) ≤ j := by omega
          have K1 := Lib.hid (give_look h6 h7 h4 h5 kn ks j hjk)
          have K2 := Lib.hid (give_link h6 h7 h4 h5 kn ks j hjk)
          have K3 := Lib.hid (give_swap h6 h7 h4 h5 kn ks j hjk)
          clear hcl hg
          go_wp2_with fail
          have hO := hO.drew
          first
            | go_loud (go_region_held3 (fun w => w.cell? ⟨lb, 0, none⟩ = some (.int .i64 t) ∧ w.cell? ⟨lb, 1, none⟩ = some (.int .i64 s) ∧ w.cell? ⟨g, j, none⟩ = some (.int .i64 j)) (first | assumption | exact ⟨hO.cell 2 0 rfl rfl 0, hO.cell 2 0 rfl rfl 1, HG.out _ _ _ _ hO rfl⟩) ((go_at_call 39; refine (stack_NewPush t s j hO).mono ?_; rintro e w3 ⟨x, rfl, hO'⟩; have hO := hO'.last; (try simp only [List.set_cons_zero, List.set_cons_succ, List.cons_append, List.nil_append] at hO))))
            | fail "push"
          all_goals
            go_wp2_with fail
            refine (push_Step 1 4 (by decide) hO rfl rfl L.out (HPL.out _)).mono ?_; rw [K1.out]; rintro e w5 ⟨rfl, m1, hO'⟩; have hO := hO'; (try simp only [List.set_cons_zero, List.set_cons_succ, List.cons_append, List.nil_append] at hO)
            go_wp2_with fail
            refine (push_Step 1 4 (by decide) hO rfl rfl L.out (HPL.out _)).mono ?_; rw [K2.out]; rintro e w6 ⟨rfl, m2, hO'⟩; have hO := hO'; (try simp only [List.set_cons_zero, List.set_cons_succ, List.cons_append, List.nil_append] at hO)
            go_wp2_with fail
            refine (push_Step 1 4 (by decide) hO rfl rfl L.out (HVL.out _)).mono ?_; rw [K3.out]; rintro e w7 ⟨rfl, m3, hO'⟩; have hO := hO'.drop 4; (try simp only [List.set_cons_zero, List.set_cons_succ, List.cons_append, List.nil_append] at hO)
            go_wp2_with fail
            go_roundw
            case rel => exact ⟨j + 1, _, by go_num, by omega, hO⟩
            case measure => simp [intOf]; omega
        · have hjk : j = k := by omega
          subst hjk
          have hge : (j : Int) ≤ j := by omega
          obtain ⟨ys, hfree, hys⟩ := give_free h6 h7 h4 h5 kn ks j rfl
          have HF := Lib.hid hfree
          have HY := Lib.hid hys
          have HW := Lib.hid (pW_ok h6 h7 h4 h5 kn ks j (by omega))
          clear hlt hfree hys
          go_wp2_with fail
          refine (stack_Free 1 t s hO rfl (HPL.out _) h6 h7 h4 h5 HW.out).mono ?_; rw [HF.out]; rintro e w9 ⟨v2, cur2, m5, rfl, hr2, hO'⟩; have hO := hO'.last; (try simp only [List.set_cons_zero, List.set_cons_succ, List.cons_append, List.nil_append] at hO)
          have HR2 := Lib.hid hr2
          clear hr2 b0 b1
          have hlen : ((((downL j ++ ys).map (Value.int .i64)).length : Nat) : Int) = s := by rw [List.length_map, List.length_append, downL_len]; exact HY.out
          obtain ⟨g2, cap2, hv2, hcl2⟩ := HR2.out.cells hO 4 rfl (by intro h; rw [h] at hlen; simp at hlen; omega)
          clear hlen
          obtain ⟨M, hM⟩ : ∃ M : Nat, ((downL j ++ ys).map (Value.int .i64)).length = M := ⟨_, rfl⟩
          have hMs : (M : Int) = s := by rw [← hM, List.length_map, List.length_append, downL_len]; exact HY.out
          rw [hM] at hv2
          subst hv2
          have HM1 : (M : Int) ≤ s := by omega
          have HM2 : s ≤ (M : Int) := by omega
          have HM3 : ((M : Int) == s) = true := by simp; omega
          have hg2 : ∀ (w' : World) (G' : List Grp) (h : Owns W.heap.size W w' G') (hi : G'[4]? = some (rowG 3 (.slice (some ⟨g2, 0, none⟩) M cap2) cur2)) (i : Nat), i < j → w'.cell? ⟨g2, i, none⟩ = some (.int .i64 ((j : Int) - 1 - i)) := by
            intro w' G' h hi i hij
            obtain ⟨g', cap', hv, hcl⟩ := HR2.out.cells h 4 hi (by intro h; rw [h] at hM; simp at hM; omega)
            simp only [Value.slice.injEq, Option.some.injEq, Addr.mk.injEq, and_true] at hv
            rw [hv.1]; refine hcl i _ ?_
            rw [List.getElem?_map, List.getElem?_append_left (by rw [downL_len]; exact hij), downL_get j i hij]; rfl
          have HG2 := Lib.hid hg2
          have tkform : j ≠ 0 → ∃ g cap, u7 = .slice (some ⟨g, 0, none⟩) j cap := by
            intro hne
            obtain ⟨g, cap, hv, -⟩ := HR.out.cells hO 3 rfl (by intro h; have := congrArg List.length h; rw [List.length_map, upTo_len] at this; simp at this; omega)
            rw [List.length_map, upTo_len] at hv
            exact ⟨g, cap, hv⟩
          have HTF := Lib.hid tkform
          clear hMs hM hcl2 hg2 tkform
          go_wp2_with fail
          go_loopw [18] (fun i wr => ∃ (q : Nat), i = .int .i64 q ∧ q ≤ j ∧ Owns W.heap.size W wr [[(W.heap.size, Obj.cells #[.int .i64 a, .int .i64 s, .int .i64 t] 23 (0, 0))], memG p bw bb (pW t s j j) (List.replicate a.toNat 0) m5, [(lb, Obj.cells #[.int .i64 t, .int .i64 s] 56 (0, 0))], rowG 3 u7 cur, rowG 3 (.slice (some ⟨g2, 0, none⟩) M cap2) cur2]) (fun i _ => j - (intOf i).toNat)
          case atStart => exact ⟨0, rfl, by omega, hO⟩
          case round =>
            clear hO
            obtain ⟨i, rfl, hi, hO⟩ := hrel
            by_cases hlt : i < j
            · obtain ⟨g, cap, rfl⟩ := HTF.out (by omega)
              obtain ⟨q, hq⟩ : ∃ q : Nat, (j : Int) - 1 - i = q := ⟨j - 1 - i, by omega⟩
              have hqj : q < j := by omega
              have c1 : wr.cell? ⟨g2, i, none⟩ = some (.int .i64 q) := by rw [← hq]; exact HG2.out _ _ hO rfl i hlt
              have c2 : wr.cell? ⟨g, q, none⟩ = some (.int .i64 q) := by
                obtain ⟨g', cap', hv, hcl⟩ := HR.out.cells hO 3 rfl (by intro h; have := congrArg List.length h; rw [List.length_map, upTo_len] at this; simp at this; omega)
                simp only [Value.slice.injEq, Option.some.injEq, Addr.mk.injEq, and_true] at hv
                rw [hv.1]; exact hcl q _ (upTo_get j q hqj)
              have i0 : (0 : Int) ≤ i := by omega
              have iM : (i : Int) < M := by omega
              have ij : (i : Int) < j := by omega
              have q0 : (0 : Int) ≤ q := by omega
              have qj : (q : Int) < j := by omega
              have w1' : IntKind.i64.wrap ((j : Int) - 1) = (j : Int) - 1 := i64in _ (by omega) (by omega)
              have w2' : IntKind.i64.wrap ((j : Int) - 1 - i) = q := by rw [i64in _ (by omega) (by omega)]; exact hq
              have w3' : wrap64 ((j : Int) - 1 - i) = q := by unfold wrap64; omega
              clear hq
              go_wp2_with fail
              go_quiet (fail)
              clear w1' w2' w3'
              go_wp2_with fail
              go_roundw
              case rel => exact ⟨i + 1, by go_num, by omega, hO.drewN _⟩
              case measure => simp [intOf]; omega
            · have hge : (j : Int) ≤ i := by omega
              have a1 : wr.cell? ⟨W.heap.size, 1, none⟩ = some (.int .i64 s) := hO.cell 0 0 rfl rfl 1
              clear hlt
              go_wp2_with (go_at_call 25; refine (law10_live _).mono ?_; rintro e w2 ⟨rfl, hb⟩; have hO := hO.via hb)
              go_ret
              exact ⟨rfl, hO.below⟩
end Go.Proofs.Ytpfahnnmbaipdaa
