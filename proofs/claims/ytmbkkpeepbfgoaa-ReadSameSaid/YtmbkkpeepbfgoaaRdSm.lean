/- The read law ReadSame. -/
import Derived.LoopTactic
import Derived.Deep.RegionHeld3
import Derived.Outline
import Derived.Test.YtmbkkpeepbfgoaaRdSm0
import Derived.Test.YtmbkkpeepbfgoaaRdL
namespace Go.Proofs.Ytmbkkpeepbfgoaa
set_option linter.unusedVariables false
set_option linter.unusedSimpArgs false
open Go.RowKit
set_option maxRecDepth 100000 in
set_option maxHeartbeats 8000000 in
theorem ReadSame_walk (a0 a1 a2 a3 a4 a5 a6 a7 a8 a9 a10 a11 a12 a13 a14 a15 off other : Int) (W : World) : Calls Try.prog 6 #[.agg #[.int .i64 a0, .int .i64 a1, .int .i64 a2, .int .i64 a3, .int .i64 a4, .int .i64 a5, .int .i64 a6, .int .i64 a7, .int .i64 a8, .int .i64 a9, .int .i64 a10, .int .i64 a11, .int .i64 a12, .int .i64 a13, .int .i64 a14, .int .i64 a15], .int .i64 off, .int .i64 other] W fun e w' => e = .returned (.bool true) ∧ Below W.heap.size W w' := by
  have ck := Lib.hid (show cfgOk 32 1 1 = true by decide)
  go_enter Try.func6, Try.ntmps6
  go_wp2_with (go_at_call 13; refine stop_here ?_)
  try unfold Stop
  obtain ⟨l, hl⟩ : ∃ l : List Int, l = [a0, a1, a2, a3, a4, a5, a6, a7, a8, a9, a10, a11, a12, a13, a14, a15] := ⟨_, rfl⟩
  have hll : l.length = 16 := by rw [hl]; rfl
  have hia : intArr l = #[.int .i64 a0, .int .i64 a1, .int .i64 a2, .int .i64 a3, .int .i64 a4, .int .i64 a5, .int .i64 a6, .int .i64 a7, .int .i64 a8, .int .i64 a9, .int .i64 a10, .int .i64 a11, .int .i64 a12, .int .i64 a13, .int .i64 a14, .int .i64 a15] := by rw [hl]; rfl
  rw [← hia]
  clear hia hl
  have hO := ((Owns.nil W).more (.cells (intArr l) 45)).more (.cells #[.int .i64 32, .int .i64 1, .int .i64 1] 26)
  simp only [World.size_alloc] at hO
  generalize hcb : W.heap.size = yb at hO ⊢
  have HC := Lib.hid hcb
  clear hcb
  generalize yb + 1 = cb at hO ⊢
  generalize (W.alloc (.cells (intArr l) 45)).alloc (.cells #[.int .i64 32, .int .i64 1, .int .i64 1] 26) = w0 at hO ⊢
  refine (law12_start 32 1 1 hO ck.out).mono ?_; rintro e w1 ⟨p, bw, bb, m, rfl, hO'⟩; have hO := Owns.third (Owns.third hO'); (try simp only [List.set_cons_zero, List.set_cons_succ, List.cons_append, List.nil_append] at hO); have b0 : _ = some (Value.int .i64 32) := hO.cell 0 0 rfl rfl 0; have b1 : _ = some (Value.int .i64 1) := hO.cell 0 0 rfl rfl 1; have b2 : _ = some (Value.int .i64 1) := hO.cell 0 0 rfl rfl 2; have bz := hO.lt 0 0 rfl rfl
  rw [sm_0, sm_b0 l] at hO
  go_wp2_with (go_at_call 14; refine (handle_make _ _ _).mono ?_; rw [show hMake 0 0 = (1099511627776, 0) by decide]; rintro e w2 ⟨rfl, rfl⟩)
  refine (plain_Store 1 5 _ hO rfl (by decide)).mono ?_; rw [sm_1]; rintro e w3 ⟨rfl, hO'⟩; have hO := hO'; (try simp only [List.set_cons_zero, List.set_cons_succ, List.cons_append, List.nil_append] at hO); have b0 : _ = some (Value.int .i64 32) := hO.cell 0 0 rfl rfl 0; have b1 : _ = some (Value.int .i64 1) := hO.cell 0 0 rfl rfl 1; have b2 : _ = some (Value.int .i64 1) := hO.cell 0 0 rfl rfl 2; have bz := hO.lt 0 0 rfl rfl
  go_wp2_with fail
  refine (plain_Store 1 6 _ hO rfl (by decide)).mono ?_; rw [sm_2]; rintro e w4 ⟨rfl, hO'⟩; have hO := hO'; (try simp only [List.set_cons_zero, List.set_cons_succ, List.cons_append, List.nil_append] at hO)
  clear b0 b1 b2 bz
  go_wp2_with fail
  go_loopw [11] (fun i wr => ∃ (k : Nat) (m : Int), i = .int .i64 k ∧ k ≤ 16 ∧ Owns yb W wr [[(cb, Obj.cells #[.int .i64 32, .int .i64 1, .int .i64 1] 26 (0, 0))], memG p bw bb smW2 (smB l k) m, [(yb, Obj.cells (intArr l) 45 (0, 0))]]) (fun i _ => 16 - (intOf i).toNat)
  case atStart => exact ⟨0, _, rfl, by omega, hO⟩
  case round =>
    clear hO
    obtain ⟨k, m, rfl, hk, hO⟩ := hrel
    by_cases hlt : k < 16
    · have ck2 : wr.cell? ⟨yb, k, none⟩ = some (.int .i64 (l.getD k 0)) := (blk_cell (hO.get 2 0 rfl rfl) k).trans (intArr_get l k (by omega))
      obtain ⟨z, hz⟩ : ∃ z, l.getD k 0 = z := ⟨_, rfl⟩
      rw [hz] at ck2
      have ST := Lib.hid (show wPut (smB l k) (8 + (k : Int)) (z % 256) = smB l (k + 1) by rw [← hz]; exact sm_step l k hlt)
      clear hz
      go_wp2_with (go_at_call 17; refine (plain_SetByte 1 (8 + (k : Int)) z hO rfl (by rw [smB_len]; decide)).mono ?_; rw [ST.out]; rintro e w5 ⟨rfl, hO'⟩; have hO := hO')
      go_roundw
      case rel => exact ⟨k + 1, _, by go_num, by omega, hO⟩
      case measure => simp [intOf]; omega
    · have hk16 : k = 16 := by omega
      subst hk16
      clear hlt
      (try simp only [List.set_cons_zero, List.set_cons_succ, List.cons_append, List.nil_append] at hO); have b0 : _ = some (Value.int .i64 32) := hO.cell 0 0 rfl rfl 0; have b1 : _ = some (Value.int .i64 1) := hO.cell 0 0 rfl rfl 1; have b2 : _ = some (Value.int .i64 1) := hO.cell 0 0 rfl rfl 2; have bz := hO.lt 0 0 rfl rfl
      go_wp2_with fail
      refine (read_New 32 1 1 _ off (by decide) (by decide) hO).mono ?_; rintro e w10 ⟨x10, rfl, hO'⟩; rw [sm_n] at hO'; have hO := hO'.third; (try simp only [List.set_cons_zero, List.set_cons_succ, List.cons_append, List.nil_append] at hO); have b0 : _ = some (Value.int .i64 32) := hO.cell 0 0 rfl rfl 0; have b1 : _ = some (Value.int .i64 1) := hO.cell 0 0 rfl rfl 1; have b2 : _ = some (Value.int .i64 1) := hO.cell 0 0 rfl rfl 2; have bz := hO.lt 0 0 rfl rfl
      go_wp2_with fail
      refine (read_run 10 (by decide) hO (.inr (by decide)) (by decide) (smB_ok l 16) rdN_in).mono ?_; rw [sm_r]; simp only [resN]; rintro e v10 ⟨rfl, m10, hO'⟩; have hO := hO'.drop 2; (try simp only [List.set_cons_zero, List.set_cons_succ, List.cons_append, List.nil_append] at hO); have b0 : _ = some (Value.int .i64 32) := hO.cell 0 0 rfl rfl 0; have b1 : _ = some (Value.int .i64 1) := hO.cell 0 0 rfl rfl 1; have b2 : _ = some (Value.int .i64 1) := hO.cell 0 0 rfl rfl 2; have bz := hO.lt 0 0 rfl rfl
      go_wp2_with fail
      have hO := hO.more (.cells #[.int .i64 (smR l off).1, .int .i64 (smR l off).2] 37)
      generalize v10.heap.size = ra at hO ⊢
      generalize v10.alloc _ = y10 at hO ⊢
      (try simp only [List.set_cons_zero, List.set_cons_succ, List.cons_append, List.nil_append] at hO); have b0 : _ = some (Value.int .i64 32) := hO.cell 0 0 rfl rfl 0; have b1 : _ = some (Value.int .i64 1) := hO.cell 0 0 rfl rfl 1; have b2 : _ = some (Value.int .i64 1) := hO.cell 0 0 rfl rfl 2; have bz := hO.lt 0 0 rfl rfl
      refine (read_New 32 1 1 _ other (by decide) (by decide) hO).mono ?_; rintro e w11 ⟨x11, rfl, hO'⟩; rw [sm_n] at hO'; have hO := hO'.third; (try simp only [List.set_cons_zero, List.set_cons_succ, List.cons_append, List.nil_append] at hO); have b0 : _ = some (Value.int .i64 32) := hO.cell 0 0 rfl rfl 0; have b1 : _ = some (Value.int .i64 1) := hO.cell 0 0 rfl rfl 1; have b2 : _ = some (Value.int .i64 1) := hO.cell 0 0 rfl rfl 2; have bz := hO.lt 0 0 rfl rfl
      go_wp2_with fail
      refine (read_run 10 (by decide) hO (.inr (by decide)) (by decide) (smB_ok l 16) rdN_in).mono ?_; rw [sm_r]; simp only [resN]; rintro e v11 ⟨rfl, m11, hO'⟩; have hO := hO'.drop 2; (try simp only [List.set_cons_zero, List.set_cons_succ, List.cons_append, List.nil_append] at hO); have b0 : _ = some (Value.int .i64 32) := hO.cell 0 0 rfl rfl 0; have b1 : _ = some (Value.int .i64 1) := hO.cell 0 0 rfl rfl 1; have b2 : _ = some (Value.int .i64 1) := hO.cell 0 0 rfl rfl 2; have bz := hO.lt 0 0 rfl rfl
      go_wp2_with fail
      have hO := hO.more (.cells #[.int .i64 (smR l other).1, .int .i64 (smR l other).2] 37)
      generalize v11.heap.size = rb at hO ⊢
      generalize v11.alloc _ = y11 at hO ⊢
      (try simp only [List.set_cons_zero, List.set_cons_succ, List.cons_append, List.nil_append] at hO); have b0 : _ = some (Value.int .i64 32) := hO.cell 0 0 rfl rfl 0; have b1 : _ = some (Value.int .i64 1) := hO.cell 0 0 rfl rfl 1; have b2 : _ = some (Value.int .i64 1) := hO.cell 0 0 rfl rfl 2; have bz := hO.lt 0 0 rfl rfl
      refine (read_New 32 1 1 _ off (by decide) (by decide) hO).mono ?_; rintro e w12 ⟨x12, rfl, hO'⟩; rw [sm_n] at hO'; have hO := hO'.third; (try simp only [List.set_cons_zero, List.set_cons_succ, List.cons_append, List.nil_append] at hO); have b0 : _ = some (Value.int .i64 32) := hO.cell 0 0 rfl rfl 0; have b1 : _ = some (Value.int .i64 1) := hO.cell 0 0 rfl rfl 1; have b2 : _ = some (Value.int .i64 1) := hO.cell 0 0 rfl rfl 2; have bz := hO.lt 0 0 rfl rfl
      go_wp2_with fail
      refine (read_run 10 (by decide) hO (.inr (by decide)) (by decide) (smB_ok l 16) rdN_in).mono ?_; rw [sm_r]; simp only [resN]; rintro e v12 ⟨rfl, m12, hO'⟩; have hO := hO'.drop 2; (try simp only [List.set_cons_zero, List.set_cons_succ, List.cons_append, List.nil_append] at hO); have b0 : _ = some (Value.int .i64 32) := hO.cell 0 0 rfl rfl 0; have b1 : _ = some (Value.int .i64 1) := hO.cell 0 0 rfl rfl 1; have b2 : _ = some (Value.int .i64 1) := hO.cell 0 0 rfl rfl 2; have bz := hO.lt 0 0 rfl rfl
      go_wp2_with fail
      have hO := hO.more (.cells #[.int .i64 (smR l off).1, .int .i64 (smR l off).2] 37)
      generalize v12.heap.size = rc at hO ⊢
      generalize v12.alloc _ = y12 at hO ⊢
      (try simp only [List.set_cons_zero, List.set_cons_succ, List.cons_append, List.nil_append] at hO); have b0 : _ = some (Value.int .i64 32) := hO.cell 0 0 rfl rfl 0; have b1 : _ = some (Value.int .i64 1) := hO.cell 0 0 rfl rfl 1; have b2 : _ = some (Value.int .i64 1) := hO.cell 0 0 rfl rfl 2; have bz := hO.lt 0 0 rfl rfl
      have HO := Lib.hid hO
      clear b0 b1 b2 bz
      obtain ⟨c1, n1, hr1⟩ : ∃ c n, smR l off = (c, n) := ⟨_, _, rfl⟩
      obtain ⟨c2, n2, hr2⟩ : ∃ c n, smR l other = (c, n) := ⟨_, _, rfl⟩
      rw [hr1, hr2] at hO
      have A0 : _ = some (Value.int .i64 c1) := hO.cell 3 0 rfl rfl 0
      have A1 : _ = some (Value.int .i64 n1) := hO.cell 3 0 rfl rfl 1
      have B0 : _ = some (Value.int .i64 c2) := hO.cell 4 0 rfl rfl 0
      have B1 : _ = some (Value.int .i64 n2) := hO.cell 4 0 rfl rfl 1
      have D0 : _ = some (Value.int .i64 c1) := hO.cell 5 0 rfl rfl 0
      have D1 : _ = some (Value.int .i64 n1) := hO.cell 5 0 rfl rfl 1
      have hby : ∀ q : Nat, q < 16 → y12.cell? ⟨yb, q, none⟩ = some (.int .i64 (l.getD q 0)) := fun q hq => (blk_cell (hO.get 2 0 rfl rfl) q).trans (intArr_get l q (by omega))
      have HBY := Lib.hid hby
      have HR1 := Lib.hid hr1
      have HR2 := Lib.hid hr2
      have hO1 := fun o => hO.via (below_alloc _ o)
      have HO1 := Lib.hid hO1
      clear hO hby hr1 hr2 hO1 hO'
      have E1 : (decide (0 ≤ off) = true ∧ decide (off < 16) = true ∧ c1 = 0) ∨ (decide (0 ≤ off) = false ∧ c1 = 5) ∨ (decide (0 ≤ off) = true ∧ decide (off < 16) = false ∧ c1 = 5) := by
        have h := HR1.out
        unfold smR at h
        split at h
        · rename_i hc
          cases h
          right
          by_cases h0 : 0 ≤ off
          · exact .inr ⟨decide_eq_true h0, by rw [decide_eq_false_iff_not]; omega, rfl⟩
          · exact .inl ⟨by rw [decide_eq_false_iff_not]; exact h0, rfl⟩
        · rename_i hc
          cases h
          exact .inl ⟨by rw [decide_eq_true_iff]; omega, by rw [decide_eq_true_iff]; omega, rfl⟩
      have E2 : (∃ q : Nat, other = q ∧ c2 = 0 ∧ decide (0 ≤ (q : Int)) = true ∧ decide ((q : Int) < 16) = true ∧ (0 : Int) ≤ q ∧ (q : Int) < 16 ∧ ∃ z : Int, y12.cell? ⟨yb, q, none⟩ = some (.int .i64 z) ∧ (z.tmod 256 + 256).tmod 256 = n2 ∧ (z.tmod 256 + 256) % 256 = n2 ∧ -256 < z.tmod 256 ∧ z.tmod 256 < 256) ∨ decide (0 ≤ other) = false ∨ (decide (0 ≤ other) = true ∧ decide (other < 16) = false) := by
        have h := HR2.out
        unfold smR at h
        split at h
        · rename_i hc
          right
          by_cases h0 : 0 ≤ other
          · exact .inr ⟨decide_eq_true h0, by rw [decide_eq_false_iff_not]; omega⟩
          · exact .inl (by rw [decide_eq_false_iff_not]; exact h0)
        · rename_i hc
          cases h
          obtain ⟨t1, t2, t3, t4⟩ := tmod_byte (l.getD other.toNat 0)
          exact .inl ⟨other.toNat, by omega, rfl, by rw [decide_eq_true_iff]; omega, by rw [decide_eq_true_iff]; omega, by omega, by omega, _, HBY.out _ (by omega), t1, t2, t3, t4⟩
      rcases E1 with ⟨o0, o1, rfl⟩ | ⟨o0, rfl⟩ | ⟨o0, o1, rfl⟩
      all_goals
        rcases E2 with ⟨q, rfl, rfl, g1, g2, i0, i1, z, ckq, t1, t2, t3, t4⟩ | g1 | ⟨g1, g2⟩
      all_goals
        go_quiet (fail)
        have hO1 := fun o => ((HO.out.drewN nq).via (below_alloc _ o))
        have hO2 := HO.out.drewN nq
        go_wp2_with (go_at_call 15; refine (law12_live _).mono ?_; rintro e w6 ⟨rfl, hb⟩; first | (with_reducible have hO := hO2.via hb) | have hO := (hO1 _).via hb)
        go_ret
        exact ⟨rfl, by rw [HC.out]; exact hO.below⟩
end Go.Proofs.Ytmbkkpeepbfgoaa
