/- The walk of the layout reference's Start. -/
import Derived.LoopTactic
import Derived.Outline
import Derived.Test.YtdhbncjnlkhkdaaLyR
import Derived.Test.YtdhbncjnlkhkdaaClN
namespace Go.Proofs.Ytdhbncjnlkhkdaa
set_option linter.unusedVariables false
set_option linter.unusedSimpArgs false
open Go.RowKit
def upLink (t s k j : Int) : Int := if (j - 6 - t) % 3 = 0 ∧ 0 ≤ (j - 6 - t) / 3 ∧ (j - 6 - t) / 3 < k ∧ (j - 6 - t) / 3 + 1 < s then (j - 6 - t) / 3 + 2 else 0
def upW (t s k : Int) (N : Nat) : List Int := setW (fun j => upLink t s k j) N
theorem upW_zero (t s : Int) (N : Nat) : List.replicate N 0 = upW t s 0 N := by
  unfold upW setW
  apply List.ext_getElem?
  intro j
  by_cases h : j < N
  · rw [List.getElem?_replicate, if_pos h, List.getElem?_map, List.getElem?_range h]
    simp only [Option.map_some]
    unfold upLink; rw [if_neg (by omega)]
  · rw [List.getElem?_eq_none (by simp; omega), List.getElem?_eq_none (by simp; omega)]
theorem upW_step {t s k : Int} {N q : Nat} (h1 : 1 ≤ t) (h0 : 0 ≤ k) (hk : k + 1 < s) (hq : 4 + t + 3 * k + 2 = q) (hqN : q < N) : (upW t s k N).set q (k + 2) = upW t s (k + 1) N := by
  have := wPut_setW (fun j => upLink t s k j) N q (k + 2) hqN
  unfold wPut at this
  rw [if_pos (wIn_iff.2 ⟨by omega, by rw [setW_len]; omega⟩), Int.toNat_natCast] at this
  unfold upW
  rw [this]
  refine setW_ext fun j _ => ?_
  by_cases e : j = q
  · subst e; rw [if_pos rfl]; unfold upLink; rw [if_pos (by omega)]; omega
  · rw [if_neg e]; unfold upLink
    by_cases c : ((j : Int) - 6 - t) % 3 = 0 ∧ 0 ≤ ((j : Int) - 6 - t) / 3 ∧ ((j : Int) - 6 - t) / 3 < k ∧ ((j : Int) - 6 - t) / 3 + 1 < s
    · rw [if_pos c, if_pos (by omega)]
    · rw [if_neg c, if_neg (by omega)]
theorem upW_skip {t s k : Int} {N : Nat} (hk : ¬ k + 1 < s) : upW t s k N = upW t s (k + 1) N := by
  refine setW_ext fun j _ => ?_
  unfold upLink
  by_cases c : ((j : Int) - 6 - t) % 3 = 0 ∧ 0 ≤ ((j : Int) - 6 - t) / 3 ∧ ((j : Int) - 6 - t) / 3 < k ∧ ((j : Int) - 6 - t) / 3 + 1 < s
  · rw [if_pos c, if_pos (by omega)]
  · rw [if_neg c, if_neg (by omega)]
def refStartW (t s : Int) : List Int := setW (fun j => startAt t s j) (lWords t s).toNat
theorem upW_last {t s : Int} (h1 : 1 ≤ t) (h3 : 1 ≤ s) : (upW t s s (lWords t s).toNat).set 1 1 = refStartW t s := by
  have hN : 1 < (lWords t s).toNat := by rw [lWords_ok h1]; omega
  have := wPut_setW (fun j => upLink t s s j) (lWords t s).toNat 1 1 hN
  unfold wPut at this
  rw [if_pos (wIn_iff.2 ⟨by omega, by rw [setW_len]; omega⟩)] at this
  unfold upW refStartW
  have e : ((1 : Nat) : Int).toNat = 1 := rfl
  rw [e] at this
  rw [this]
  refine setW_ext fun j _ => ?_
  unfold startAt
  by_cases e : j = 1
  · subst e; rw [if_pos rfl, if_pos (by omega)]
  · rw [if_neg e, if_neg (by omega)]
    unfold upLink linkAt
    by_cases c : ((j : Int) - 6 - t) % 3 = 0 ∧ 0 ≤ ((j : Int) - 6 - t) / 3 ∧ ((j : Int) - 6 - t) / 3 + 1 < s
    · rw [if_pos (by omega), if_pos c]
    · rw [if_neg (by omega), if_neg c]
def MadeRow (B : Nat) (W : World) (G : List Grp) (xs : List Int) (e : Ending) (w' : World) : Prop :=
  ∃ b, e = .returned (.slice (some ⟨b, 0, none⟩) xs.length xs.length) ∧ Owns B W w' ([(b, .cells (intArr xs) 3 (0, 0))] :: G)
set_option maxRecDepth 100000 in
set_option maxHeartbeats 2000000 in
theorem ref06_Start {B : Nat} {W w : World} {G : List Grp} (a s t : Int) (hO : Owns B W w G) (hc : cfgOk a s t = true) : Calls Try.prog 30 #[.agg #[.int .i64 a, .int .i64 s, .int .i64 t]] w (MadeRow B W G (refStartW t s)) := by
  obtain ⟨h1, h2, h3, h4, h5, h6, h7⟩ := cfgOk_of hc
  obtain ⟨N, hN⟩ : ∃ N : Nat, lWords t s = N := ⟨(lWords t s).toNat, by rw [lWords_ok h6]; omega⟩
  have hN2 : (N : Int) = 4 + t + 3 * s := by rw [← hN, lWords_ok h6]
  have hlast := Lib.hid (show (upW t s s N).set 1 1 = refStartW t s by have := upW_last h6 h4; rw [hN] at this; exact this)
  have hlen := Lib.hid (show (refStartW t s).length = N by unfold refStartW; rw [setW_len, hN]; rfl)
  have u := Lib.hid (show rWords a s t = N by rw [rWords_yes hc, hN2])
  have hat := Lib.hid (show ∀ k : Int, 0 ≤ k → k < s → rAt a s t 7 k = 4 + t + 3 * k + 2 by intro k hk hk'; unfold rAt; rw [if_pos hc, if_neg (by omega), if_neg (by omega)]; unfold lOf; rw [if_pos (by omega)]; omega)
  have hN3 : (N : Int) ≤ 4 + t + 3 * s := by omega
  have hN4 : 4 + t + 3 * s ≤ (N : Int) := by omega
  clear hc h3 hN hN2
  have hb1 : (0 : Int) ≤ N := by omega
  have hb2 : (N : Int) ≤ 65536 := by omega
  have m1 := fun w => made_ints N w hb1 hb2
  go_enter Try.func30, Try.ntmps30
  go_wp2_with fail
  have hO := hO.alloc (.cells #[.int .i64 a, .int .i64 s, .int .i64 t] 23)
  have a0 : _ = some (Value.int .i64 a) := hO.cell 0 0 rfl rfl 0; have a1 : _ = some (Value.int .i64 s) := hO.cell 0 0 rfl rfl 1; have a2 : _ = some (Value.int .i64 t) := hO.cell 0 0 rfl rfl 2
  refine (ref06_Words _ _ _ _).mono ?_; rw [u.out]; rintro e w1 ⟨rfl, hb⟩; have hO := (hO.via hb).alloc (.cells (intArr (List.replicate (Int.toNat N) 0)) 3)
  go_wp2_with fail
  clear m1 a0 a1 a2
  simp only [Int.toNat_natCast] at hO ⊢
  generalize w1.alloc (.cells (intArr (List.replicate N 0)) 3) = w2 at hO ⊢
  generalize w1.heap.size = ob at hO ⊢
  generalize w.heap.size = cb at hO ⊢
  go_loopw [4] (fun i wr => ∃ (k : Int), i = .int .i64 k ∧ 0 ≤ k ∧ k ≤ s ∧ Owns B W wr ([(ob, .cells (intArr (upW t s k N)) 3 (0, 0))] :: [(cb, Obj.cells #[.int .i64 a, .int .i64 s, .int .i64 t] 23 (0, 0))] :: G)) (fun i _ => s.toNat - (intOf i).toNat)
  case atStart => exact ⟨0, rfl, by omega, by omega, by rw [← upW_zero]; exact hO⟩
  case round =>
    clear hO
    obtain ⟨k, rfl, hk0, hk, hO⟩ := hrel
    have a0 : _ = some (Value.int .i64 a) := hO.cell 1 0 rfl rfl 0; have a1 : _ = some (Value.int .i64 s) := hO.cell 1 0 rfl rfl 1; have a2 : _ = some (Value.int .i64 t) := hO.cell 1 0 rfl rfl 2
    by_cases hlt : k < s
    · by_cases hlt2 : k + 1 < s
      · obtain ⟨q, hq⟩ : ∃ q : Nat, 4 + t + 3 * k + 2 = q := ⟨(4 + t + 3 * k + 2).toNat, by omega⟩
        have hqN : q < N := by omega
        have hq0 : (0 : Int) ≤ q := by omega
        have hqN' : (q : Int) < N := by omega
        have ha := Lib.hid ((hat.out k hk0 hlt).trans hq)
        have hs := Lib.hid (upW_step (N := N) h6 hk0 hlt2 hq hqN)
        clear hq
        go_wp2_with (go_at_call 26; refine (ref06_At _ _ _ _ _ _ (by omega) (by omega)).mono ?_; rw [ha.out]; rintro e w3 ⟨rfl, hb⟩; have hO := hO.via hb; have c1 : _ = some (Value.int .i64 _) := (hO.cell 0 0 rfl rfl q).trans (intArr_get _ q (by unfold upW; rw [setW_len]; exact hqN)); have hf := blk_free (hO.get 0 0 rfl rfl) q)
        go_roundw
        case rel => exact ⟨k + 1, rfl, by omega, by omega, by
          have := hO.set 0 0 rfl rfl q (.int .i64 (k + 2))
          rw [intArr_set, hs.out] at this; exact this⟩
        case measure => simp [intOf]; omega
      · have hge : s ≤ k + 1 := by omega
        have hs := Lib.hid (upW_skip (t := t) (N := N) hlt2)
        clear hlt2
        go_wp2_with fail
        go_roundw
        case rel => exact ⟨k + 1, rfl, by omega, by omega, by rw [← hs.out]; exact hO⟩
        case measure => simp [intOf]; omega
    · have hks : k = s := by omega
      subst hks
      have hN1 : (1 : Int) < N := by omega
      have c1 : _ = some (Value.int .i64 _) := (hO.cell 0 0 rfl rfl 1).trans (intArr_get _ 1 (by unfold upW; rw [setW_len]; omega))
      have hf := blk_free (hO.get 0 0 rfl rfl) 1
      clear hlt
      go_wp2_with fail
      go_ret
      refine ⟨ob, by rw [hlen.out]; rfl, ?_⟩
      have := hO.set 0 0 rfl rfl 1 (.int .i64 1)
      rw [intArr_set, hlast.out] at this
      exact this.drop 1
end Go.Proofs.Ytdhbncjnlkhkdaa
