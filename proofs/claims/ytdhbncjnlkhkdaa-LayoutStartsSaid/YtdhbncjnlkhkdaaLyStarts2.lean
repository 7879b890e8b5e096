/- The layout law LayoutStarts: where the cells may be. -/
import Derived.RegionTactic
import Derived.BigRegion
import Derived.Test.YtdhbncjnlkhkdaaLyStarts
namespace Go.Proofs.Ytdhbncjnlkhkdaa
set_option linter.unusedVariables false
set_option linter.unusedSimpArgs false
open Go.RowKit
set_option maxRecDepth 100000 in
set_option maxHeartbeats 8000000 in
theorem LayoutStarts_in (a s t : Int) (n : Nat) (b J : Int) (W : World) (h1 : 1 ≤ n) (h2 : n ≤ 400) (h3 : 0 ≤ b) (h4 : b ≤ 4096) : Calls Try.prog 8 #[.agg #[.int .i64 a, .int .i64 s, .int .i64 t, .int .i64 n, .int .i64 b, .int .i64 J]] W fun e w' => e = .returned (.bool true) ∧ Below W.heap.size W w' := by
  have g1 : (1 : Int) ≤ n := by omega
  have g2 : (n : Int) ≤ 400 := by omega
  have cm := Lib.hid (show cMay n b = true by unfold cMay; rw [decide_eq_true_eq]; omega)
  go_enter Try.func8, Try.ntmps8
  go_wp2_with fail
  go_region
  go_wp2_with (go_at_call 10; refine stop_here ?_)
  unfold Stop
  have hO := (((Owns.nil W).more (.cells #[.int .i64 a, .int .i64 s, .int .i64 t, .int .i64 n, .int .i64 b, .int .i64 J] 45)).more (.cells #[.int .i64 a, .int .i64 s, .int .i64 t] 23)).drew
  simp only [World.size_alloc] at hO
  generalize ((W.alloc (.cells #[.int .i64 a, .int .i64 s, .int .i64 t, .int .i64 n, .int .i64 b, .int .i64 J] 45)).alloc (.cells #[.int .i64 a, .int .i64 s, .int .i64 t] 23)).drew = w0 at hO ⊢
  refine (cells_New _ _ hO cm.out).mono ?_; rintro e w3 ⟨p, bw, bb, rfl, hO'⟩; have hO := hO'.last
  rw [Int.toNat_natCast, jw_zero J] at hO
  obtain ⟨bs, hbs⟩ : ∃ bs, List.replicate b.toNat (0 : Int) = bs := ⟨_, rfl⟩
  have hbl : bs.length = b.toNat := by rw [← hbs]; simp
  have hbB : ∀ x ∈ bs, (0 : Int) ≤ x ∧ x < 256 := by rw [← hbs]; intro x hx; have := List.eq_of_mem_replicate hx; omega
  rw [hbs] at hO
  have HB := Lib.hid hbl
  have HBB := Lib.hid hbB
  clear hbs hbl hbB
  go_wp2_with fail
  go_loopw [8] (fun i wr => ∃ (k : Nat) (m : Int), i = .int .i64 k ∧ k ≤ n ∧ Owns W.heap.size W wr [[(W.heap.size, Obj.cells #[.int .i64 a, .int .i64 s, .int .i64 t, .int .i64 n, .int .i64 b, .int .i64 J] 45 (0, 0))], [(W.heap.size + 1, Obj.cells #[.int .i64 a, .int .i64 s, .int .i64 t] 23 (0, 0))], memG p bw bb (jw J n k) bs m]) (fun i _ => n - (intOf i).toNat)
  case atStart => exact ⟨0, _, rfl, by omega, hO⟩
  case round =>
    clear hO
    obtain ⟨k, m, rfl, hk, hO⟩ := hrel
    by_cases hlt : k < n
    · have hlt' : (k : Int) < n := by omega
      go_wp2_with fail
      refine (plain_Store 2 _ _ hO rfl (by rw [jw_len]; omega)).mono ?_; rintro e w5 ⟨rfl, hO'⟩
      rw [jw_step J n k hlt] at hO'
      go_wp2_with fail
      go_roundw
      case rel => exact ⟨k + 1, _, by go_num, by omega, hO'⟩
      case measure => simp [intOf]; omega
    · have hk' : k = n := by omega
      subst hk'
      clear hlt
      have hge : (k : Int) ≤ k := by omega
      go_wp2_with fail
      refine (plain_SetByte 2 _ _ hO rfl (by rw [HB.out]; omega)).mono ?_; rintro e w5 ⟨rfl, hO'⟩
      obtain ⟨bs2, hbs2⟩ : ∃ bs2, wPut bs 0 (7 % 256) = bs2 := ⟨_, rfl⟩
      have hb2 : bs2.length = b.toNat := by rw [← hbs2, wPut_len, HB.out]
      have hb3 : 0 < b → wAt bs2 0 = 7 := by
        intro hb; rw [← hbs2]; unfold wAt; rw [if_pos (by rw [wIn_put]; exact wIn_iff.2 (by rw [HB.out]; omega))]
        have := wPut_get (ws := bs) (k := 0) (n := 7 % 256) (j := 0) (by rw [HB.out]; omega)
        rw [if_pos (by rfl : ((0 : Nat) : Int) = 0)] at this; exact this
      have hb4 : ∀ x ∈ bs2, (0 : Int) ≤ x ∧ x < 256 := by
        rw [← hbs2]; unfold wPut; split
        · intro x hx
          rcases List.mem_or_eq_of_mem_set hx with hx | hx
          · exact HBB.out x hx
          · subst hx; decide
        · exact HBB.out
      rw [hbs2] at hO'
      have HB := Lib.hid hb2
      have H7 := Lib.hid hb3
      have HBB := Lib.hid hb4
      clear hbs2 hb2 hb3 hb4
      have hO := hO'
      have a0 : _ = some (Value.int .i64 a) := hO.cell 1 0 rfl rfl 0; have a1 : _ = some (Value.int .i64 s) := hO.cell 1 0 rfl rfl 1; have a2 : _ = some (Value.int .i64 t) := hO.cell 1 0 rfl rfl 2
      have hj0 := Lib.hid (jw_at J k 0 (by omega) (by omega))
      go_wp2_with (go_at_call 12; refine stop_here ?_)
      unfold Stop
      have hll : (jw J k k).length ≤ 4096 := by rw [jw_len]; omega
      have hbl : bs2.length ≤ 4096 := by rw [HB.out]; omega
      rcases bool_cases (b := cfgOk a s t) with hc | hc
      rotate_left
      · have CK := Lib.hid hc
        have RU := Lib.hid (rWords_no hc)
        clear hc
        refine (layout_Start_bad _ _ _ _ _ CK.out).mono ?_; rintro e w6 ⟨rfl, hb⟩; have hO := hO.via hb; have a0 : _ = some (Value.int .i64 a) := hO.cell 1 0 rfl rfl 0; have a1 : _ = some (Value.int .i64 s) := hO.cell 1 0 rfl rfl 1; have a2 : _ = some (Value.int .i64 t) := hO.cell 1 0 rfl rfl 2
        go_wp2_with first
          | (go_at_call 21; refine (ref06_May _ _ _ _).mono ?_; rw [CK.out]; rintro e w7 ⟨rfl, hb⟩; have hO := hO.via hb; have a0 : _ = some (Value.int .i64 a) := hO.cell 1 0 rfl rfl 0; have a1 : _ = some (Value.int .i64 s) := hO.cell 1 0 rfl rfl 1; have a2 : _ = some (Value.int .i64 t) := hO.cell 1 0 rfl rfl 2)
          | (go_at_call 22; refine (ref06_Words _ _ _ _).mono ?_; rw [RU.out]; rintro e w7 ⟨rfl, hb⟩; have hO := hO.via hb; have a0 : _ = some (Value.int .i64 a) := hO.cell 1 0 rfl rfl 0; have a1 : _ = some (Value.int .i64 s) := hO.cell 1 0 rfl rfl 1; have a2 : _ = some (Value.int .i64 t) := hO.cell 1 0 rfl rfl 2)
          | (go_at_call 13; refine (plain_Load 2 _ hO rfl (by rw [jw_len]; omega)).mono ?_; rw [hj0.out]; rintro e w7 ⟨rfl, hO'⟩; have hO := hO'; have a0 : _ = some (Value.int .i64 a) := hO.cell 1 0 rfl rfl 0; have a1 : _ = some (Value.int .i64 s) := hO.cell 1 0 rfl rfl 1; have a2 : _ = some (Value.int .i64 t) := hO.cell 1 0 rfl rfl 2)
          | (go_at_call 11; refine (law06_live _).mono ?_; rintro e w9 ⟨rfl, hb⟩; have hO := hO.via hb)
        go_ret
        exact ⟨rfl, hO.below⟩
      have CK := Lib.hid hc
      obtain ⟨q1, q2, q3, q4, q5, q6, q7⟩ := cfgOk_of hc
      obtain ⟨U, hU, hU2⟩ : ∃ U, lWords t s = U ∧ rWords a s t = U := ⟨4 + t + 3 * s, lWords_ok q6, rWords_yes hc⟩
      have RU := Lib.hid hU2
      have LU := Lib.hid hU
      have hUb : 8 ≤ U ∧ U ≤ 200 := by rw [← hU, lWords_ok q6]; omega
      obtain ⟨hU8, hU200⟩ := hUb
      clear hc hU hU2 q3
      by_cases hw1 : U ≤ k
      rotate_left
      · have hw2 : (k : Int) < U := by omega
        clear hw1
        refine (layout_Start_small 2 a s t hO rfl hll hbl CK.out (by rw [LU.out, jw_len]; omega)).mono ?_; rintro e w6 ⟨rfl, hO'⟩; have hO := hO'; have a0 : _ = some (Value.int .i64 a) := hO.cell 1 0 rfl rfl 0; have a1 : _ = some (Value.int .i64 s) := hO.cell 1 0 rfl rfl 1; have a2 : _ = some (Value.int .i64 t) := hO.cell 1 0 rfl rfl 2
        go_wp2_with first
          | (go_at_call 21; refine (ref06_May _ _ _ _).mono ?_; rw [CK.out]; rintro e w7 ⟨rfl, hb⟩; have hO := hO.via hb; have a0 : _ = some (Value.int .i64 a) := hO.cell 1 0 rfl rfl 0; have a1 : _ = some (Value.int .i64 s) := hO.cell 1 0 rfl rfl 1; have a2 : _ = some (Value.int .i64 t) := hO.cell 1 0 rfl rfl 2)
          | (go_at_call 22; refine (ref06_Words _ _ _ _).mono ?_; rw [RU.out]; rintro e w7 ⟨rfl, hb⟩; have hO := hO.via hb; have a0 : _ = some (Value.int .i64 a) := hO.cell 1 0 rfl rfl 0; have a1 : _ = some (Value.int .i64 s) := hO.cell 1 0 rfl rfl 1; have a2 : _ = some (Value.int .i64 t) := hO.cell 1 0 rfl rfl 2)
          | (go_at_call 13; refine (plain_Load 2 _ hO rfl (by rw [jw_len]; omega)).mono ?_; rw [hj0.out]; rintro e w7 ⟨rfl, hO'⟩; have hO := hO'; have a0 : _ = some (Value.int .i64 a) := hO.cell 1 0 rfl rfl 0; have a1 : _ = some (Value.int .i64 s) := hO.cell 1 0 rfl rfl 1; have a2 : _ = some (Value.int .i64 t) := hO.cell 1 0 rfl rfl 2)
          | (go_at_call 11; refine (law06_live _).mono ?_; rintro e w9 ⟨rfl, hb⟩; have hO := hO.via hb)
        go_ret
        exact ⟨rfl, hO.below⟩
      by_cases hw3 : a ≤ b
      rotate_left
      · have hw2 : b < a := by omega
        clear hw3
        refine (layout_Start_small 2 a s t hO rfl hll hbl CK.out (by rw [LU.out, jw_len, HB.out]; omega)).mono ?_; rintro e w6 ⟨rfl, hO'⟩; have hO := hO'; have a0 : _ = some (Value.int .i64 a) := hO.cell 1 0 rfl rfl 0; have a1 : _ = some (Value.int .i64 s) := hO.cell 1 0 rfl rfl 1; have a2 : _ = some (Value.int .i64 t) := hO.cell 1 0 rfl rfl 2
        go_wp2_with first
          | (go_at_call 21; refine (ref06_May _ _ _ _).mono ?_; rw [CK.out]; rintro e w7 ⟨rfl, hb⟩; have hO := hO.via hb; have a0 : _ = some (Value.int .i64 a) := hO.cell 1 0 rfl rfl 0; have a1 : _ = some (Value.int .i64 s) := hO.cell 1 0 rfl rfl 1; have a2 : _ = some (Value.int .i64 t) := hO.cell 1 0 rfl rfl 2)
          | (go_at_call 22; refine (ref06_Words _ _ _ _).mono ?_; rw [RU.out]; rintro e w7 ⟨rfl, hb⟩; have hO := hO.via hb; have a0 : _ = some (Value.int .i64 a) := hO.cell 1 0 rfl rfl 0; have a1 : _ = some (Value.int .i64 s) := hO.cell 1 0 rfl rfl 1; have a2 : _ = some (Value.int .i64 t) := hO.cell 1 0 rfl rfl 2)
          | (go_at_call 13; refine (plain_Load 2 _ hO rfl (by rw [jw_len]; omega)).mono ?_; rw [hj0.out]; rintro e w7 ⟨rfl, hO'⟩; have hO := hO'; have a0 : _ = some (Value.int .i64 a) := hO.cell 1 0 rfl rfl 0; have a1 : _ = some (Value.int .i64 s) := hO.cell 1 0 rfl rfl 1; have a2 : _ = some (Value.int .i64 t) := hO.cell 1 0 rfl rfl 2)
          | (go_at_call 11; refine (law06_live _).mono ?_; rintro e w9 ⟨rfl, hb⟩; have hO := hO.via hb)
        go_ret
        exact ⟨rfl, hO.below⟩
      obtain ⟨ws, hws⟩ : ∃ ws, startW t s (jw J k k) = ws := ⟨_, rfl⟩
      have hwl := Lib.hid (show ws.length = k by rw [← hws, startW_len, jw_len])
      have hwa := Lib.hid (show ∀ i : Nat, i < k → wAt ws i = if (i : Int) < U then startAt t s i else J by intro i hi; rw [← hws, start_at J k t s i hi, LU.out])
      refine (layout_Start_ok 2 a s t hO rfl hll hbl CK.out (by rw [LU.out, jw_len]; omega) (by rw [HB.out]; omega)).mono ?_
      rintro e w6 ⟨rfl, m2, hO'⟩
      rw [hws] at hO'
      clear hws
      have hO := hO'
      have a0 : _ = some (Value.int .i64 a) := hO.cell 1 0 rfl rfl 0; have a1 : _ = some (Value.int .i64 s) := hO.cell 1 0 rfl rfl 1; have a2 : _ = some (Value.int .i64 t) := hO.cell 1 0 rfl rfl 2
      obtain ⟨rs, hrs⟩ : ∃ rs, refStartW t s = rs := ⟨_, rfl⟩
      have hrl := Lib.hid (show (rs.length : Int) = U by rw [← hrs]; unfold refStartW; rw [setW_len, LU.out]; omega)
      have hra := Lib.hid (show ∀ i : Nat, (i : Int) < U → rs.getD i 0 = startAt t s i by intro i hi; rw [← hrs]; unfold refStartW; rw [setW_get _ _ _ (by rw [LU.out]; omega)])
      have HRS := Lib.hid hrs
      clear hrs
      go_wp2_with first
        | (go_at_call 21; refine (ref06_May _ _ _ _).mono ?_; rw [CK.out]; rintro e w7 ⟨rfl, hb⟩; have hO := hO.via hb; have a0 : _ = some (Value.int .i64 a) := hO.cell 1 0 rfl rfl 0; have a1 : _ = some (Value.int .i64 s) := hO.cell 1 0 rfl rfl 1; have a2 : _ = some (Value.int .i64 t) := hO.cell 1 0 rfl rfl 2)
        | (go_at_call 22; refine (ref06_Words _ _ _ _).mono ?_; rw [RU.out]; rintro e w7 ⟨rfl, hb⟩; have hO := hO.via hb; have a0 : _ = some (Value.int .i64 a) := hO.cell 1 0 rfl rfl 0; have a1 : _ = some (Value.int .i64 s) := hO.cell 1 0 rfl rfl 1; have a2 : _ = some (Value.int .i64 t) := hO.cell 1 0 rfl rfl 2)
        | (go_at_call 30; refine (ref06_Start a s t hO CK.out).mono ?_; rw [HRS.out]; rintro e w7 ⟨rb, rfl, hO'⟩; have hO := hO'.last; have a0 : _ = some (Value.int .i64 a) := hO.cell 1 0 rfl rfl 0; have a1 : _ = some (Value.int .i64 s) := hO.cell 1 0 rfl rfl 1; have a2 : _ = some (Value.int .i64 t) := hO.cell 1 0 rfl rfl 2)
      have hrl2 : (rs.length : Int) ≤ 200 := by rw [hrl.out]; exact hU200
      go_loopw [11] (fun i wr => ∃ (q : Nat) (m : Int), i = .int .i64 q ∧ q ≤ k ∧ Owns W.heap.size W wr [[(W.heap.size, Obj.cells #[.int .i64 a, .int .i64 s, .int .i64 t, .int .i64 k, .int .i64 b, .int .i64 J] 45 (0, 0))], [(W.heap.size + 1, Obj.cells #[.int .i64 a, .int .i64 s, .int .i64 t] 23 (0, 0))], memG p bw bb ws bs2 m, [(rb, .cells (intArr rs) 3 (0, 0))]]) (fun i _ => k - (intOf i).toNat)
      case atStart => exact ⟨0, _, rfl, by omega, hO⟩
      case round =>
        clear hO
        obtain ⟨q, m, rfl, hq, hO⟩ := hrel
        by_cases hlt : q < k
        · have hlt' : (q : Int) < k := by omega
          by_cases hqU : (q : Int) < U
          · have hq2 : (q : Int) < rs.length := by rw [hrl.out]; exact hqU
            have hq3 : q < rs.length := by omega
            obtain ⟨x, hx⟩ : ∃ x, startAt t s q = x := ⟨_, rfl⟩
            have X1 := Lib.hid ((hwa.out q hlt).trans (by rw [if_pos hqU, hx]))
            have c1 : _ = some (Value.int .i64 x) := (hO.cell 3 0 rfl rfl q).trans ((intArr_get _ q hq3).trans (by rw [hra.out q hqU, hx]))
            clear hx
            go_wp2_with (go_at_call 13; refine (plain_Load 2 _ hO rfl (by rw [hwl.out]; omega)).mono ?_; rw [X1.out]; rintro e w7 ⟨rfl, hO'⟩; have hO := hO')
            go_roundw
            case rel => exact ⟨q + 1, _, by go_num, by omega, hO⟩
            case measure => simp [intOf]; omega
          · have hq2 : (rs.length : Int) ≤ q := by rw [hrl.out]; omega
            have X1 := Lib.hid ((hwa.out q hlt).trans (by rw [if_neg hqU]))
            clear hqU
            go_wp2_with (go_at_call 13; refine (plain_Load 2 _ hO rfl (by rw [hwl.out]; omega)).mono ?_; rw [X1.out]; rintro e w7 ⟨rfl, hO'⟩; have hO := hO')
            go_roundw
            case rel => exact ⟨q + 1, _, by go_num, by omega, hO⟩
            case measure => simp [intOf]; omega
        · have hge : (k : Int) ≤ q := by omega
          have X7 := Lib.hid (H7.out (by omega))
          clear hlt
          go_wp2_with first
            | (go_at_call 31; refine (plain_Byte 2 _ hO rfl hbl HBB.out).mono ?_; rw [X7.out]; rintro e w7 ⟨rfl, hO'⟩; have hO := hO')
            | (go_at_call 11; refine (law06_live _).mono ?_; rintro e w9 ⟨rfl, hb⟩; have hO := hO.via hb)
          go_ret
          exact ⟨rfl, hO.below⟩
theorem LayoutStarts_walk (a s t n b J : Int) (W : World) : Calls Try.prog 8 #[.agg #[.int .i64 a, .int .i64 s, .int .i64 t, .int .i64 n, .int .i64 b, .int .i64 J]] W fun e w' => e = .returned (.bool true) ∧ Below W.heap.size W w' := by
  by_cases h : 1 ≤ n ∧ n ≤ 400 ∧ 0 ≤ b ∧ b ≤ 4096
  · obtain ⟨q, rfl⟩ : ∃ q : Nat, n = q := ⟨n.toNat, by omega⟩
    exact LayoutStarts_in a s t q b J W (by omega) (by omega) h.2.2.1 h.2.2.2
  · exact LayoutStarts_out a s t n b J W h
end Go.Proofs.Ytdhbncjnlkhkdaa
