/- The reference of entry: Next. -/
import Derived.LoopTactic
import Derived.Deep.RegionHeld3
import Derived.RegionTactic
import Derived.BigRegion
import Derived.BigQuiet
import Derived.Deep.QuietTactic
import Derived.Test.YtpebepjfgnoaaaaGreatEnR3
namespace Go.Proofs.YtpebepjfgnoaaaaGreat
set_option linter.unusedVariables false
set_option linter.unusedSimpArgs false
open Go.RowKit
theorem eNext_go {x : Int} (h : eIs x = true) (ha : wA x = true) (hn : nextCode x = 0) : eNext x = (eWord 0 (if wG x < 1000 then wG x + 1 else wG x) 0 0 false false, 0) ∧ eNextMore x = decide (wG x < 1000) ∧ ePack 0 (if wG x < 1000 then wG x + 1 else wG x) 0 0 false false = (eWord 0 (if wG x < 1000 then wG x + 1 else wG x) 0 0 false false, 0) := by
  have hm : eMay (wO x) (wG x) (wP x) (wU x) (wL x) (wA x) = true := by
    have h' := h
    unfold eIs at h'
    rw [Bool.and_eq_true] at h'
    exact h'.2
  have hm2 := hm
  unfold eMay at hm2
  rw [decide_eq_true_eq] at hm2
  have m1 : eMay 0 (if wG x < 1000 then wG x + 1 else wG x) 0 0 false false = true := by
    unfold eMay; rw [decide_eq_true_eq]
    refine ⟨by omega, by omega, ?_, ?_, by omega, by omega, by omega, by omega, fun k => absurd k (by decide), Or.inr ⟨rfl, rfl, rfl, rfl⟩⟩
    · split <;> omega
    · split <;> omega
  have p : ePack 0 (if wG x < 1000 then wG x + 1 else wG x) 0 0 false false = (eWord 0 (if wG x < 1000 then wG x + 1 else wG x) 0 0 false false, 0) := by
    unfold ePack; rw [if_pos m1]
  refine ⟨?_, ?_, p⟩
  · unfold eNext
    rw [if_pos hn, eTurn_live h ha]
    unfold eChg
    rw [if_pos rfl, ← p]
    congr 1
    unfold bI
    by_cases hg : wG x < 1000
    · simp [hg]
    · simp [hg]
  · unfold eNextMore nextMore
    rw [if_pos h, if_pos ha, if_pos hn]
theorem eNext_stay {x : Int} (h : eIs x = true) (ha : wA x = true) (hn : nextCode x = 1) : eNext x = (0, 1) ∧ eNextMore x = false := by
  constructor
  · unfold eNext
    rw [if_neg (by rw [hn]; decide), eTurn_live h ha]
    unfold eChg
    rw [hn, if_neg (by decide)]
  · unfold eNextMore nextMore
    rw [if_pos h, if_pos ha, if_neg (by rw [hn]; decide)]
set_option maxRecDepth 100000 in
set_option maxHeartbeats 2000000 in
theorem ref02_Next (x : Int) (W : World) : Calls Tryz.prog 60 #[.int .i64 x] W fun e w' => e = .returned (.tuple #[.int .i64 (eNext x).1, .bool (eNextMore x), .int .i64 (eNext x).2]) ∧ Below W.heap.size W w' := by
  rcases bool_cases (b := eIs x) with h | h
  rotate_left
  · have HL := Lib.hid (fun w => ref02_live_bad x w h)
    have hm : eNextMore x = false := by unfold eNextMore; rw [if_neg (by rw [h]; decide)]
    have e1 : eNext x = (0, 2) := by unfold eNext; split <;> rw [eTurn_bad h]
    rw [hm, e1]
    clear h hm e1
    go_enter Tryz.func60, Tryz.ntmps60
    go_wp2_with (go_at_call 95; refine (HL.out _).mono ?_; rintro e w1 ⟨rfl, hb⟩; have hz := hb.size; (try simp only [World.size_alloc, World.size_drew, World.size_setCell, size_drewN] at hz))
    go_ret3
    exact ⟨rfl, by (repeat' (first | (with_reducible exact Below.refl _ _) | (with_reducible assumption) | (with_reducible refine below_drewN ?_ _) | (with_reducible refine Below.drew ?_) | (with_reducible refine Below.alloc ?_ ?_ _) | (with_reducible refine Below.setCell ?_ ?_ _) | (with_reducible refine below_via (by assumption) ?_ ?_) | go_size))⟩
  rcases bool_cases (b := wA x) with ha | ha
  rotate_left
  · have HL := Lib.hid (fun w => ref02_live_dead x w h ha)
    have hm : eNextMore x = false := by unfold eNextMore; rw [if_pos h, if_neg (by rw [ha]; decide)]
    have e1 : eNext x = (0, 1) := by unfold eNext; split <;> rw [eTurn_dead h ha]
    rw [hm, e1]
    clear h hm e1 ha
    go_enter Tryz.func60, Tryz.ntmps60
    go_wp2_with (go_at_call 95; refine (HL.out _).mono ?_; rintro e w1 ⟨rfl, hb⟩; have hz := hb.size; (try simp only [World.size_alloc, World.size_drew, World.size_setCell, size_drewN] at hz))
    go_ret3
    exact ⟨rfl, by (repeat' (first | (with_reducible exact Below.refl _ _) | (with_reducible assumption) | (with_reducible refine below_drewN ?_ _) | (with_reducible refine Below.drew ?_) | (with_reducible refine Below.alloc ?_ ?_ _) | (with_reducible refine Below.setCell ?_ ?_ _) | (with_reducible refine below_via (by assumption) ?_ ?_) | go_size))⟩
  have HL := Lib.hid (fun w => ref02_live_yes x w h ha)
  have hb3 := w_bds x
  by_cases hn : nextCode x = 0
  · obtain ⟨e1, hm, hp⟩ := eNext_go h ha hn
    rw [e1, hm]
    have hP0 : wP x = 0 ∧ wU x = 0 ∧ wL x = false := by
      unfold nextCode at hn
      split at hn
      · exact absurd hn (by decide)
      · rename_i k
        rw [not_or] at k
        exact ⟨by omega, by omega, by simpa using k.2⟩
    obtain ⟨h1, h2, h3⟩ := hP0
    have hgm : wG x ≤ 1000 := by
      have h' := h
      unfold eIs at h'
      rw [Bool.and_eq_true] at h'
      have := eMay_of h'.2
      omega
    rw [h1, h2, h3] at HL
    clear h ha hn e1 hm h1 h2 h3
    have HP := Lib.hid hp
    clear hp
    generalize wG x = g at *
    generalize wO x = o at *
    by_cases hg : g < 1000
    · rw [if_pos hg] at HP ⊢
      rw [show decide (g < 1000) = true from decide_eq_true hg]
      go_enter Tryz.func60, Tryz.ntmps60
      go_wp2_with (first | (go_at_call 95; refine (HL.out _).mono ?_; rintro e w1 ⟨rfl, hb⟩; have hz := hb.size; (try simp only [World.size_alloc, World.size_drew, World.size_setCell, size_drewN] at hz)) | (go_at_call 96; refine (ref02_Pack _ _ _ _ _ _ _).mono ?_; rw [HP.out]; rintro e w2 ⟨rfl, hb⟩; have y := blk_below (blk_new w1 (.cells #[.int .i64 o, .int .i64 g, .int .i64 0, .int .i64 0, .bool false, .bool true] 114 (0, 0))) hb (by simp); have hz := hb.size; (try simp only [World.size_alloc, World.size_drew, World.size_setCell, size_drewN] at hz)))
      have y1 : _ = some (Value.int .i64 g) := blk_cell y 1
      clear y
      go_quiet (fail)
      go_wp2_with fail
      go_ret3
      exact ⟨rfl, by (repeat' (first | (with_reducible exact Below.refl _ _) | (with_reducible assumption) | (with_reducible refine below_drewN ?_ _) | (with_reducible refine Below.drew ?_) | (with_reducible refine Below.alloc ?_ ?_ _) | (with_reducible refine Below.setCell ?_ ?_ _) | (with_reducible refine below_via (by assumption) ?_ ?_) | go_size))⟩
    · rw [if_neg hg] at HP ⊢
      rw [show decide (g < 1000) = false from decide_eq_false hg]
      obtain rfl : g = 1000 := by omega
      clear hg hgm
      go_enter Tryz.func60, Tryz.ntmps60
      go_wp2_with (first | (go_at_call 95; refine (HL.out _).mono ?_; rintro e w1 ⟨rfl, hb⟩; have hz := hb.size; (try simp only [World.size_alloc, World.size_drew, World.size_setCell, size_drewN] at hz)) | (go_at_call 96; refine (ref02_Pack _ _ _ _ _ _ _).mono ?_; rw [HP.out]; rintro e w2 ⟨rfl, hb⟩; have y := blk_below (blk_new w1 (.cells #[.int .i64 o, .int .i64 1000, .int .i64 0, .int .i64 0, .bool false, .bool true] 114 (0, 0))) hb (by simp); have hz := hb.size; (try simp only [World.size_alloc, World.size_drew, World.size_setCell, size_drewN] at hz)))
      have y1 : _ = some (Value.int .i64 1000) := blk_cell y 1
      clear y
      go_quiet (fail)
      go_wp2_with fail
      go_ret3
      exact ⟨rfl, by (repeat' (first | (with_reducible exact Below.refl _ _) | (with_reducible assumption) | (with_reducible refine below_drewN ?_ _) | (with_reducible refine Below.drew ?_) | (with_reducible refine Below.alloc ?_ ?_ _) | (with_reducible refine Below.setCell ?_ ?_ _) | (with_reducible refine below_via (by assumption) ?_ ?_) | go_size))⟩
  · have hn1 : nextCode x = 1 := by
      unfold nextCode at hn ⊢
      split at hn
      · rename_i k; rw [if_pos k]
      · exact absurd rfl hn
    obtain ⟨e1, hm⟩ := eNext_stay h ha hn1
    rw [e1, hm]
    have hk : 0 < wP x ∨ (wP x = 0 ∧ 0 < wU x) ∨ (wP x = 0 ∧ wU x = 0 ∧ wL x = true) := by
      unfold nextCode at hn1
      split at hn1
      · rename_i k
        by_cases k1 : 0 < wP x
        · exact .inl k1
        · by_cases k2 : 0 < wU x
          · exact .inr (.inl ⟨by omega, k2⟩)
          · rcases k with k | k
            · omega
            · exact .inr (.inr ⟨by omega, by omega, k⟩)
      · exact absurd hn1 (by decide)
    clear h ha hn hn1 e1 hm
    generalize wG x = g at *
    generalize wO x = o at *
    generalize wP x = P at *
    generalize wU x = U at *
    generalize wL x = L at *
    rcases hk with k | ⟨rfl, k⟩ | ⟨rfl, rfl, rfl⟩
    all_goals
      first
        | (have q1 : decide (0 < P) = true := decide_eq_true k)
        | (have q1 : decide (0 < U) = true := decide_eq_true k)
        | skip
      go_enter Tryz.func60, Tryz.ntmps60
      go_wp2_with (go_at_call 95; refine (HL.out _).mono ?_; rintro e w1 ⟨rfl, hb⟩; have hz := hb.size; (try simp only [World.size_alloc, World.size_drew, World.size_setCell, size_drewN] at hz))
      go_ret3
      exact ⟨rfl, by (repeat' (first | (with_reducible exact Below.refl _ _) | (with_reducible assumption) | (with_reducible refine below_drewN ?_ _) | (with_reducible refine Below.drew ?_) | (with_reducible refine Below.alloc ?_ ?_ _) | (with_reducible refine Below.setCell ?_ ?_ _) | (with_reducible refine below_via (by assumption) ?_ ?_) | go_size))⟩
end Go.Proofs.YtpebepjfgnoaaaaGreat
