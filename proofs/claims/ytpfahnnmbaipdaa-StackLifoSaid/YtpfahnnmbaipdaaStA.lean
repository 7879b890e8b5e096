/- The stack laws StackNil and StackAlone. -/
import Derived.Test.YtpfahnnmbaipdaaStA0
import Derived.Test.YtpfahnnmbaipdaaStL
namespace Go.Proofs.Ytpfahnnmbaipdaa
set_option linter.unusedVariables false
set_option linter.unusedSimpArgs false
open Go.RowKit
set_option maxRecDepth 100000 in
set_option maxHeartbeats 8000000 in
theorem StackNil_walk (a s t k : Int) (W : World) : Calls Try.prog 10 #[.agg #[.int .i64 a, .int .i64 s, .int .i64 t], .int .i64 k] W fun e w' => e = .returned (.bool true) ∧ Below W.heap.size W w' := by
  rcases bool_cases (b := cfgOk a s t) with hc | hc
  · have CK := Lib.hid hc
    clear hc
    go_enter Try.func10, Try.ntmps10
    go_wp2_with fail
    have hO := (Owns.nil W).more (.cells #[.int .i64 a, .int .i64 s, .int .i64 t] 23)
    generalize W.alloc (.cells #[.int .i64 a, .int .i64 s, .int .i64 t] 23) = w0 at hO ⊢
    refine (law10_start a s t hO CK.out).mono ?_; rintro e w1 ⟨p, bw, bb, m, rfl, hO'⟩
    have hO := (hO'.last).more (.cells #[.int .i64 t, .int .i64 s] 56)
    (try simp only [List.set_cons_zero, List.set_cons_succ, List.cons_append, List.nil_append] at hO); have a0 : _ = some (Value.int .i64 a) := hO.cell 0 0 rfl rfl 0; have a1 : _ = some (Value.int .i64 s) := hO.cell 0 0 rfl rfl 1; have a2 : _ = some (Value.int .i64 t) := hO.cell 0 0 rfl rfl 2; have b0 : _ = some (Value.int .i64 t) := hO.cell 2 0 rfl rfl 0; have b1 : _ = some (Value.int .i64 s) := hO.cell 2 0 rfl rfl 1
    go_wp2_with first
      | (go_at_call 37; (first | ((with_reducible refine (pop_nil _ _).mono ?_); rintro e w2 ⟨rfl, rfl⟩) | ((with_reducible refine (pop_none _ _).mono ?_); rintro e w2 ⟨rfl, rfl⟩)))
      | (go_at_call 36; (first | ((with_reducible refine (push_nil _ _).mono ?_); rintro e w2 ⟨rfl, rfl⟩) | ((with_reducible refine (push_none _ _).mono ?_); rintro e w2 ⟨rfl, rfl⟩)))
      | (go_at_call 35; refine (stack_NewPop _ _ hO).mono ?_; rintro e w2 ⟨x, rfl, hO'⟩; have hO := hO'.last; (try simp only [List.set_cons_zero, List.set_cons_succ, List.cons_append, List.nil_append] at hO); have a0 : _ = some (Value.int .i64 a) := hO.cell 0 0 rfl rfl 0; have a1 : _ = some (Value.int .i64 s) := hO.cell 0 0 rfl rfl 1; have a2 : _ = some (Value.int .i64 t) := hO.cell 0 0 rfl rfl 2; have b0 : _ = some (Value.int .i64 t) := hO.cell 2 0 rfl rfl 0; have b1 : _ = some (Value.int .i64 s) := hO.cell 2 0 rfl rfl 1)
      | (go_at_call 39; refine (stack_NewPush _ _ _ hO).mono ?_; rintro e w2 ⟨x, rfl, hO'⟩; have hO := hO'.last; (try simp only [List.set_cons_zero, List.set_cons_succ, List.cons_append, List.nil_append] at hO); have a0 : _ = some (Value.int .i64 a) := hO.cell 0 0 rfl rfl 0; have a1 : _ = some (Value.int .i64 s) := hO.cell 0 0 rfl rfl 1; have a2 : _ = some (Value.int .i64 t) := hO.cell 0 0 rfl rfl 2; have b0 : _ = some (Value.int .i64 t) := hO.cell 2 0 rfl rfl 0; have b1 : _ = some (Value.int .i64 s) := hO.cell 2 0 rfl rfl 1)
      | (go_at_call 33; refine (free_none _ _ _).mono ?_; rintro e w2 ⟨rfl, hb⟩; have hO := hO.via hb)
      | (go_at_call 25; refine (law10_live _).mono ?_; rintro e w2 ⟨rfl, hb⟩; have hO := hO.via hb)
    go_ret
    exact ⟨rfl, hO.below⟩
  · have CK := Lib.hid hc
    clear hc
    go_enter Try.func10, Try.ntmps10
    go_wp2_with fail
    have hO := (Owns.nil W).more (.cells #[.int .i64 a, .int .i64 s, .int .i64 t] 23)
    generalize W.alloc (.cells #[.int .i64 a, .int .i64 s, .int .i64 t] 23) = w0 at hO ⊢
    refine (law10_start_no a s t _ CK.out).mono ?_; rintro e w1 ⟨rfl, hb⟩
    have hO := (hO.via hb).more (.cells #[.int .i64 0, .int .i64 0] 56)
    (try simp only [List.set_cons_zero, List.set_cons_succ, List.cons_append, List.nil_append] at hO)
    have b0 : _ = some (Value.int .i64 0) := hO.cell 1 0 rfl rfl 0; have b1 : _ = some (Value.int .i64 0) := hO.cell 1 0 rfl rfl 1
    go_wp2_with first
      | (go_at_call 37; (first | ((with_reducible refine (pop_nil _ _).mono ?_); rintro e w2 ⟨rfl, rfl⟩) | ((with_reducible refine (pop_none _ _).mono ?_); rintro e w2 ⟨rfl, rfl⟩)))
      | (go_at_call 36; (first | ((with_reducible refine (push_nil _ _).mono ?_); rintro e w2 ⟨rfl, rfl⟩) | ((with_reducible refine (push_none _ _).mono ?_); rintro e w2 ⟨rfl, rfl⟩)))
      | (go_at_call 35; refine (stack_NewPop _ _ hO).mono ?_; rintro e w2 ⟨x, rfl, hO'⟩; have hO := hO'.last; (try simp only [List.set_cons_zero, List.set_cons_succ, List.cons_append, List.nil_append] at hO); have b0 : _ = some (Value.int .i64 0) := hO.cell 1 0 rfl rfl 0; have b1 : _ = some (Value.int .i64 0) := hO.cell 1 0 rfl rfl 1)
      | (go_at_call 39; refine (stack_NewPush _ _ _ hO).mono ?_; rintro e w2 ⟨x, rfl, hO'⟩; have hO := hO'.last; (try simp only [List.set_cons_zero, List.set_cons_succ, List.cons_append, List.nil_append] at hO); have b0 : _ = some (Value.int .i64 0) := hO.cell 1 0 rfl rfl 0; have b1 : _ = some (Value.int .i64 0) := hO.cell 1 0 rfl rfl 1)
      | (go_at_call 33; refine (free_none _ _ _).mono ?_; rintro e w2 ⟨rfl, hb⟩; have hO := hO.via hb)
      | (go_at_call 25; refine (law10_live _).mono ?_; rintro e w2 ⟨rfl, hb⟩; have hO := hO.via hb)
    go_ret
    exact ⟨rfl, hO.below⟩
set_option maxRecDepth 100000 in
set_option maxHeartbeats 8000000 in
theorem StackAlone_walk (a s t : Int) (W : World) : Calls Try.prog 9 #[.agg #[.int .i64 a, .int .i64 s, .int .i64 t]] W fun e w' => e = .returned (.bool true) ∧ Below W.heap.size W w' := by
  rcases bool_cases (b := cfgOk a s t) with hc | hc
  rotate_left
  · have CK := Lib.hid hc
    clear hc
    go_enter Try.func9, Try.ntmps9
    go_wp2_with fail
    have hO := (Owns.nil W).more (.cells #[.int .i64 a, .int .i64 s, .int .i64 t] 23)
    generalize W.alloc (.cells #[.int .i64 a, .int .i64 s, .int .i64 t] 23) = w0 at hO ⊢
    refine (law10_start_no a s t _ CK.out).mono ?_; rintro e w1 ⟨rfl, hb⟩
    have hO := (hO.via hb).more (.cells #[.int .i64 0, .int .i64 0] 56)
    (try simp only [List.set_cons_zero, List.set_cons_succ, List.cons_append, List.nil_append] at hO); have a0 : _ = some (Value.int .i64 a) := hO.cell 0 0 rfl rfl 0; have a1 : _ = some (Value.int .i64 s) := hO.cell 0 0 rfl rfl 1; have a2 : _ = some (Value.int .i64 t) := hO.cell 0 0 rfl rfl 2
    go_wp2_with first
      | (go_at_call 14; refine (ref06_May _ _ _ _).mono ?_; rw [CK.out]; rintro e w4 ⟨rfl, hb⟩; have hO := hO.via hb)
      | (go_at_call 25; refine (law10_live _).mono ?_; rintro e w2 ⟨rfl, hb⟩; have hO := hO.via hb)
    go_ret
    exact ⟨rfl, hO.below⟩
  · have CK := Lib.hid hc
    obtain ⟨h1, h2, h3, h4, h5, h6, h7⟩ := cfgOk_of hc
    have L := Lib.hid (lOk_yes hc)
    have hln : ∀ k, (aW t s k).length ≤ 4096 := fun k => by rw [aW_len, lWords_ok h6]; omega
    have HLN := Lib.hid hln
    clear hc h3 hln
    go_enter Try.func9, Try.ntmps9
    go_wp2_with fail
    have hO := (Owns.nil W).more (.cells #[.int .i64 a, .int .i64 s, .int .i64 t] 23)
    generalize W.alloc (.cells #[.int .i64 a, .int .i64 s, .int .i64 t] 23) = w0 at hO ⊢
    refine (law10_start a s t hO CK.out).mono ?_; rintro e w1 ⟨p, bw, bb, m, rfl, hO'⟩
    rw [← aW_zero h6 h7 h4 h5] at hO'
    have hO := (hO'.last).more (.cells #[.int .i64 t, .int .i64 s] 56)
    (try simp only [List.set_cons_zero, List.set_cons_succ, List.cons_append, List.nil_append] at hO); have a0 : _ = some (Value.int .i64 a) := hO.cell 0 0 rfl rfl 0; have a1 : _ = some (Value.int .i64 s) := hO.cell 0 0 rfl rfl 1; have a2 : _ = some (Value.int .i64 t) := hO.cell 0 0 rfl rfl 2; have b0 : _ = some (Value.int .i64 t) := hO.cell 2 0 rfl rfl 0; have b1 : _ = some (Value.int .i64 s) := hO.cell 2 0 rfl rfl 1
    go_wp2_with fail
    generalize hlb : w1.heap.size = lb at hO ⊢
    have HL := Lib.hid hlb
    clear hlb
    go_loopw [5] (fun i wr => ∃ (k : Nat) (m : Int), i = .int .i64 k ∧ (k : Int) ≤ s ∧ Owns W.heap.size W wr [[(W.heap.size, Obj.cells #[.int .i64 a, .int .i64 s, .int .i64 t] 23 (0, 0))], memG p bw bb (aW t s k) (List.replicate a.toNat 0) m, [(lb, Obj.cells #[.int .i64 t, .int .i64 s] 56 (0, 0))]]) (fun i _ => s.toNat + 1 - (intOf i).toNat)
    case atStart => exact ⟨0, _, rfl, by omega, hO⟩
    case round =>
      clear hO a0 a1 a2 b0 b1
      obtain ⟨k, m, rfl, hk, hO⟩ := hrel
      (try simp only [List.set_cons_zero, List.set_cons_succ, List.cons_append, List.nil_append] at hO); have a0 : _ = some (Value.int .i64 a) := hO.cell 0 0 rfl rfl 0; have a1 : _ = some (Value.int .i64 s) := hO.cell 0 0 rfl rfl 1; have a2 : _ = some (Value.int .i64 t) := hO.cell 0 0 rfl rfl 2; have b0 : _ = some (Value.int .i64 t) := hO.cell 2 0 rfl rfl 0; have b1 : _ = some (Value.int .i64 s) := hO.cell 2 0 rfl rfl 1
      by_cases hlt : (k : Int) < s
      · have K1 := Lib.hid (alone_look h6 h7 h4 h5 (by omega : (0 : Int) ≤ k) hlt)
        have K2 := Lib.hid (alone_link h6 h7 h4 h5 (by omega : (0 : Int) ≤ k) hlt)
        have K3 := Lib.hid (alone_swap h6 h7 h4 h5 (by omega : (0 : Int) ≤ k) hlt)
        have ne : ((k : Int) == s) = false := by simp; omega
        go_wp2_with fail
        refine (stack_NewPop t s hO).mono ?_; rintro e w3 ⟨x, rfl, hO'⟩; have hO := hO'.last; (try simp only [List.set_cons_zero, List.set_cons_succ, List.cons_append, List.nil_append] at hO); have a0 : _ = some (Value.int .i64 a) := hO.cell 0 0 rfl rfl 0; have a1 : _ = some (Value.int .i64 s) := hO.cell 0 0 rfl rfl 1; have a2 : _ = some (Value.int .i64 t) := hO.cell 0 0 rfl rfl 2; have b0 : _ = some (Value.int .i64 t) := hO.cell 2 0 rfl rfl 0; have b1 : _ = some (Value.int .i64 s) := hO.cell 2 0 rfl rfl 1
        go_wp2_with fail
        refine (pop_Step 1 3 (by decide) hO rfl rfl L.out (HLN.out _)).mono ?_; rw [K1.out]; rintro e w5 ⟨rfl, m1, hO'⟩; have hO := hO'; (try simp only [List.set_cons_zero, List.set_cons_succ, List.cons_append, List.nil_append] at hO); have a0 : _ = some (Value.int .i64 a) := hO.cell 0 0 rfl rfl 0; have a1 : _ = some (Value.int .i64 s) := hO.cell 0 0 rfl rfl 1; have a2 : _ = some (Value.int .i64 t) := hO.cell 0 0 rfl rfl 2; have b0 : _ = some (Value.int .i64 t) := hO.cell 2 0 rfl rfl 0; have b1 : _ = some (Value.int .i64 s) := hO.cell 2 0 rfl rfl 1
        go_wp2_with fail
        refine (pop_Step 1 3 (by decide) hO rfl rfl L.out (HLN.out _)).mono ?_; rw [K2.out]; rintro e w6 ⟨rfl, m2, hO'⟩; have hO := hO'; (try simp only [List.set_cons_zero, List.set_cons_succ, List.cons_append, List.nil_append] at hO); have a0 : _ = some (Value.int .i64 a) := hO.cell 0 0 rfl rfl 0; have a1 : _ = some (Value.int .i64 s) := hO.cell 0 0 rfl rfl 1; have a2 : _ = some (Value.int .i64 t) := hO.cell 0 0 rfl rfl 2; have b0 : _ = some (Value.int .i64 t) := hO.cell 2 0 rfl rfl 0; have b1 : _ = some (Value.int .i64 s) := hO.cell 2 0 rfl rfl 1
        go_wp2_with fail
        refine (pop_Step 1 3 (by decide) hO rfl rfl L.out (HLN.out _)).mono ?_; rw [K3.out]; rintro e w7 ⟨rfl, m3, hO'⟩; have hO := hO'; (try simp only [List.set_cons_zero, List.set_cons_succ, List.cons_append, List.nil_append] at hO); have a0 : _ = some (Value.int .i64 a) := hO.cell 0 0 rfl rfl 0; have a1 : _ = some (Value.int .i64 s) := hO.cell 0 0 rfl rfl 1; have a2 : _ = some (Value.int .i64 t) := hO.cell 0 0 rfl rfl 2; have b0 : _ = some (Value.int .i64 t) := hO.cell 2 0 rfl rfl 0; have b1 : _ = some (Value.int .i64 s) := hO.cell 2 0 rfl rfl 1
        go_wp2_with fail
        go_roundw
        case rel => exact ⟨k + 1, _, by go_num, by omega, hO.drop 3⟩
        case measure => simp [intOf]; omega
      · have hks : (k : Int) = s := by omega
        have K1 := Lib.hid (alone_empty h6 h7 h4 h5 (by omega : (0 : Int) ≤ k) hks)
        have K2 := Lib.hid (alone_free h6 h7 h4 h5 (by omega : (0 : Int) ≤ k) hks)
        have K3 := Lib.hid (aW_ok h6 h4 h5 (by omega : (0 : Int) ≤ k) hk h7)
        have hle : (k : Int) ≤ s := hk
        have ne : ((k : Int) == s) = true := by simp; omega
        clear hks hlt
        go_wp2_with fail
        refine (stack_NewPop t s hO).mono ?_; rintro e w3 ⟨x, rfl, hO'⟩; have hO := hO'.last; (try simp only [List.set_cons_zero, List.set_cons_succ, List.cons_append, List.nil_append] at hO); have a0 : _ = some (Value.int .i64 a) := hO.cell 0 0 rfl rfl 0; have a1 : _ = some (Value.int .i64 s) := hO.cell 0 0 rfl rfl 1; have a2 : _ = some (Value.int .i64 t) := hO.cell 0 0 rfl rfl 2; have b0 : _ = some (Value.int .i64 t) := hO.cell 2 0 rfl rfl 0; have b1 : _ = some (Value.int .i64 s) := hO.cell 2 0 rfl rfl 1
        go_wp2_with fail
        refine (pop_Step 1 3 (by decide) hO rfl rfl L.out (HLN.out _)).mono ?_; rw [K1.out]; rintro e w5 ⟨rfl, m1, hO'⟩; have hO := hO'; (try simp only [List.set_cons_zero, List.set_cons_succ, List.cons_append, List.nil_append] at hO); have a0 : _ = some (Value.int .i64 a) := hO.cell 0 0 rfl rfl 0; have a1 : _ = some (Value.int .i64 s) := hO.cell 0 0 rfl rfl 1; have a2 : _ = some (Value.int .i64 t) := hO.cell 0 0 rfl rfl 2; have b0 : _ = some (Value.int .i64 t) := hO.cell 2 0 rfl rfl 0; have b1 : _ = some (Value.int .i64 s) := hO.cell 2 0 rfl rfl 1
        go_wp2_with fail
        refine (stack_Free 1 t s hO rfl (HLN.out _) h6 h7 h4 h5 K3.out).mono ?_; rw [K2.out]; rintro e w9 ⟨v, cur, m5, rfl, hr, hO'⟩; have hO := hO'.last; (try simp only [List.set_cons_zero, List.set_cons_succ, List.cons_append, List.nil_append] at hO)
        have hv : ∃ pa cap, v = .slice pa 0 cap := by
          rcases hr with ⟨h1, -, -⟩ | ⟨g, cap, h1, -⟩
          · exact ⟨_, _, h1⟩
          · exact ⟨_, _, h1⟩
        obtain ⟨pa, cap, hv⟩ := hv
        subst hv
        go_wp2_with (go_at_call 25; refine (law10_live _).mono ?_; rintro e w2 ⟨rfl, hb⟩; have hO := hO.via hb)
        go_ret
        exact ⟨rfl, hO.below⟩
end Go.Proofs.Ytpfahnnmbaipdaa
