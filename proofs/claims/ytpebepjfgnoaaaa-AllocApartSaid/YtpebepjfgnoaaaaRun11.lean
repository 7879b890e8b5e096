/- A law's run of a machine alone. -/
import Derived.LoopTactic
import Derived.Outline
import Derived.Test.YtpebepjfgnoaaaaS11
import Derived.Test.YtpebepjfgnoaaaaBase
namespace Go.Proofs.Ytpebepjfgnoaaaa
set_option linter.unusedVariables false
set_option linter.unusedSimpArgs false
open Go.RowKit
set_option maxRecDepth 100000 in
set_option maxHeartbeats 4000000 in
theorem law11_run {σ M : Type} (f : σ → σ × (Int × Int) × Bool) (mk : σ → M → List Grp) (Inv : σ → Prop) (hinv : ∀ q, Inv q → Inv (f q).1) {B : Nat} {W : World} (x p : Nat)
    (hstep : ∀ q m G w, Inv q → Owns B W w (mk q m ++ G) → Calls Try.prog 40 #[.pointer (some ⟨x, 0, none⟩), memI p] w fun e w' => e = .returned (resV (f q).2.1 (f q).2.2) ∧ ∃ m', Owns B W w' (mk (f q).1 m' ++ G)) (most : Nat) (hm : most ≤ 1000000) (q : σ) (m : M) (w : World) (h : Owns B W w (mk q m)) (hi : Inv q) :
    Calls Try.prog 42 #[.pointer (some ⟨p, 0, none⟩), .pointer (some ⟨x, 0, none⟩), .int .i64 most] w fun e w' => e = .returned (resN (mRun f most most q).2.1 (mRun f most most q).2.2) ∧ ∃ m', Owns B W w' (mk (mRun f most most q).1 m') := by
  have hO := h.more (.cells #[.int .i64 0, .int .i64 0] 79)
  have HR := Lib.hid (rfl : mRun f most most q = mRun f most most q)
  go_enter Try.func42, Try.ntmps42
  go_wp2_with fail
  generalize w.heap.size = rb at hO ⊢
  generalize w.alloc (.cells #[.int .i64 0, .int .i64 0] 79) = w0 at hO ⊢
  clear HR
  go_loopw [8] (fun i wr => ∃ (j k : Nat) (q2 : σ) (m2 : M), i = .int .i64 j ∧ j + k = most + 1 ∧ 1 ≤ j ∧ Inv q2 ∧ mRun f most k q2 = mRun f most most q ∧ Owns B W wr (mk q2 m2 ++ [[(rb, Obj.cells #[.int .i64 0, .int .i64 0] 79 (0, 0))]])) (fun i _ => most + 1 - (intOf i).toNat)
  case atStart => exact ⟨1, most, q, m, rfl, by omega, by omega, hi, rfl, hO⟩
  case round =>
    clear hO
    obtain ⟨j, k, q2, m2, rfl, hjk, hj1, hi2, heq, hO⟩ := hrel
    have HQ := Lib.hid heq
    have hr0 : (mk q2 m2 ++ [[(rb, Obj.cells #[.int .i64 0, .int .i64 0] 79 (0, 0))]])[(mk q2 m2).length]? = some [(rb, Obj.cells #[.int .i64 0, .int .i64 0] 79 (0, 0))] := by simp
    clear heq
    cases k with
    | zero =>
      have hjm : ¬ j ≤ most := by omega
      have d0 := hO.cell (mk q2 m2).length 0 hr0 rfl 0
      have d1 := hO.cell (mk q2 m2).length 0 hr0 rfl 1
      have f0 := blk_free (hO.get (mk q2 m2).length 0 hr0 rfl) 0
      have f1 := blk_free (hO.get (mk q2 m2).length 0 hr0 rfl) 1
      clear hjk
      have hq : mRun f most 0 q2 = (q2, (-1, 0), (most : Int)) := rfl
      have e := HQ.out
      rw [hq] at e
      have HM := Lib.hid (show Owns B W wr (mk q2 m2) from hO.sub (List.sublist_append_left _ _))
      have hO2 := (hO.set (mk q2 m2).length 0 hr0 rfl 0 (.int .i64 (-1))).set (mk q2 m2).length 0 (set_get hr0 _) rfl 1 (.int .i64 0)
      go_wp2_with fail
      generalize (World.setCell (World.setCell _ _ _) _ _) = w5 at hO2 ⊢
      have e0 := hO2.cell (mk q2 m2).length 0 (set_get (set_get hr0 _) _) rfl 0
      have e1 := hO2.cell (mk q2 m2).length 0 (set_get (set_get hr0 _) _) rfl 1
      refine bodyPost_ret (v := .tuple #[.agg #[.int .i64 (-1), .int .i64 0], .int .i64 most]) (by simp [results, Try.results42, go_sem, e0, e1]) rfl ⟨by rw [← e]; rfl, m2, ?_⟩
      rw [← e]
      have h2 := hO2.drop (mk q2 m2).length
      rw [erase_set, erase_set, erase_last] at h2
      exact h2
    | succ k =>
      have hjm : j ≤ most := by omega
      have ej : ((most - k : Nat) : Int) = j := by omega
      obtain ⟨q3, ⟨c, n⟩, b, hf⟩ : ∃ q3 r b, f q2 = (q3, r, b) := ⟨_, _, _, rfl⟩
      have hs := hstep q2 m2 _ wr hi2 hO
      have hi3 := hinv q2 hi2
      rw [hf] at hs hi3
      have HS := Lib.hid hs
      have HF := Lib.hid hf
      clear hs hf
      cases b with
      | true =>
        have e := HQ.out
        rw [mRun_done (by rw [HF.out]), HF.out] at e
        go_wp2_with (go_at_call 40; go_loud (refine HS.out.mono ?_; unfold resV; rintro e w1 ⟨rfl, m3, hO'⟩; have hO := hO'; have hr1 : (mk q3 m3 ++ [[(rb, Obj.cells #[.int .i64 0, .int .i64 0] 79 (0, 0))]])[(mk q3 m3).length]? = some [(rb, Obj.cells #[.int .i64 0, .int .i64 0] 79 (0, 0))] := (by simp); have hz := hO.lt (mk q3 m3).length 0 hr1 rfl; have d0 := hO.cell (mk q3 m3).length 0 hr1 rfl 0; have d1 := hO.cell (mk q3 m3).length 0 hr1 rfl 1; have f0 := blk_free (hO.get (mk q3 m3).length 0 hr1 rfl) 0; have f1 := blk_free (hO.get (mk q3 m3).length 0 hr1 rfl) 1))
        have hO2 := ((hO.set (mk q3 m3).length 0 hr1 rfl 0 (.int .i64 c)).set (mk q3 m3).length 0 (set_get hr1 _) rfl 1 (.int .i64 n)).via (below_alloc _ (.cells #[.int .i64 c, .int .i64 n] 79))
        generalize World.alloc _ _ = w5 at hO2 ⊢
        have e0 := hO2.cell (mk q3 m3).length 0 (set_get (set_get hr1 _) _) rfl 0
        have e1 := hO2.cell (mk q3 m3).length 0 (set_get (set_get hr1 _) _) rfl 1
        refine bodyPost_ret (v := .tuple #[.agg #[.int .i64 c, .int .i64 n], .int .i64 j]) (by simp [results, Try.results42, go_sem, e0, e1]) rfl ⟨by rw [← e]; unfold resN; rw [ej], m3, ?_⟩
        rw [← e]
        have h2 := hO2.drop (mk q3 m3).length
        rw [erase_set, erase_set, erase_last] at h2
        exact h2
      | false =>
        go_wp2_with (go_at_call 40; refine HS.out.mono ?_; unfold resV; rintro e w1 ⟨rfl, m3, hO'⟩; have hO := hO')
        go_roundw
        case rel => exact ⟨j + 1, k, q3, m3, by go_num, by omega, by omega, hi3, by rw [← HQ.out, mRun_more (by rw [HF.out]), HF.out], hO.via (below_alloc _ _)⟩
        case measure => simp [intOf]; omega
end Go.Proofs.Ytpebepjfgnoaaaa
