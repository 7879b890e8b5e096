/- Entry's law EntryMoves. -/
import Derived.Deep.RegionHeld3
import Derived.Test.YtdmeopiggkbpjaaEnLaws
namespace Go.Proofs.Ytdmeopiggkbpjaa
set_option linter.unusedVariables false
set_option linter.unusedSimpArgs false
open Go.RowKit
theorem moves_no {x : Int} (h : (eLock x true).2 ≠ 0) : (eLock x true).1 = 0 ∧ (eOk x = 2 ∨ (eOk x = 0 ∧ uA x = false) ∨ (eOk x = 0 ∧ uA x = true ∧ 0 < uP x + uU x ∧ uP x + uU x ≤ 22)) := by
  refine ⟨eTurn_zero h, ?_⟩
  rcases bool_cases (b := eIs x) with hi | hi
  · obtain ⟨v1, v2, v3, v4, v5, v6, v7⟩ := u_yes hi
    right
    rcases bool_cases (b := wA x) with ha | ha
    · right
      refine ⟨v7, v6.trans ha, ?_⟩
      rw [v3, v4]
      have m := eMay_of (eIs_of hi).2
      refine ⟨?_, by omega⟩
      by_cases k : 0 < wP x + wU x
      · exact k
      · exfalso
        apply h
        unfold eLock
        rw [eTurn_live hi ha]
        unfold eChg ePack
        rw [if_pos rfl, if_pos]
        unfold eMay
        rw [decide_eq_true_eq]
        exact ⟨m.1, m.2.1, m.2.2.1, m.2.2.2.1, m.2.2.2.2.1, m.2.2.2.2.2.1, m.2.2.2.2.2.2.1, m.2.2.2.2.2.2.2.1, fun _ => by omega, Or.inl rfl⟩
    · left; exact ⟨v7, v6.trans ha⟩
  · left; exact (u_no hi).2.2.2.2.2.2
theorem moves_yes {x : Int} (h : (eLock x true).2 = 0) (off : Int) : ∃ v, eLock x true = (v, 0) ∧
    ((∃ v2, eMove v off = (v2, 0) ∧ eOk v2 = 0 ∧ uO v2 = off ∧ uG v2 = uG x ∧ uP v2 = uP x ∧ uU v2 = uU x ∧ uL v2 = false ∧ uA v2 = uA x) ∨
     ((eMove v off).2 = 1 ∧ off < 0) ∨ ((eMove v off).2 = 1 ∧ ¬ off < 0 ∧ 4096 < off)) := by
  obtain ⟨h1, h2, h3, h4, h5⟩ := eTurn_ok h
  obtain ⟨v1, v2, v3, v4, v5, v6, v7⟩ := u_yes h1
  obtain ⟨u1, u2, u3, u4, u5, u6, u7⟩ := un_pack h4
  have m := eMay_of h4
  refine ⟨_, by unfold eLock; exact h5, ?_⟩
  have E : eMove (eWord (wO x) (wG x) (wP x) (wU x) true true) off = ePack off (wG x) (wP x) (wU x) false true := by
    unfold eMove
    rw [eTurn_live u1 u7, u3, u4, u5]
    unfold eChg
    rw [if_pos rfl]
  rw [E]
  by_cases c : 0 ≤ off ∧ off ≤ 4096
  · left
    have hm : eMay off (wG x) (wP x) (wU x) false true = true := by
      unfold eMay
      rw [decide_eq_true_eq]
      exact ⟨c.1, c.2, m.2.2.1, m.2.2.2.1, m.2.2.2.2.1, m.2.2.2.2.2.1, m.2.2.2.2.2.2.1, m.2.2.2.2.2.2.2.1, fun k => absurd k (by decide), Or.inl rfl⟩
    obtain ⟨t1, t2, t3, t4, t5, t6, t7⟩ := un_pack hm
    obtain ⟨s1, s2, s3, s4, s5, s6, s7⟩ := u_yes t1
    refine ⟨_, by unfold ePack; rw [if_pos hm], s7, s1.trans t2, ?_, ?_, ?_, s5.trans t6, ?_⟩
    · rw [s2, t3, v2]
    · rw [s3, t4, v3]
    · rw [s4, t5, v4]
    · rw [s6, t7, v6, h2]
  · right
    have hp : (ePack off (wG x) (wP x) (wU x) false true).2 = 1 := by
      unfold ePack; rw [if_neg]
      intro hm
      have := eMay_of hm
      omega
    by_cases k : off < 0
    · exact Or.inl ⟨hp, k⟩
    · exact Or.inr ⟨hp, by omega, by omega⟩
theorem frz_below {B : Nat} {w w' : World} {p : Addr} (hb : Below B w w') (h : p.block < B) : w'.frozen? p = w.frozen? p := by simp only [World.frozen?, hb.block _ h]
set_option maxHeartbeats 4000000 in
theorem EntryMoves_walk (x off : Int) (W : World) : Calls Try.prog 13 #[.int .i64 x, .int .i64 off] W fun e w' => e = .returned (.bool true) ∧ Below W.heap.size W w' := by
  by_cases h : (eLock x true).2 = 0
  · obtain ⟨v, e1, e2⟩ := moves_yes h off
    have E1 := Lib.hid e1
    clear h e1
    rcases e2 with ⟨v2, e2, e3, e4, e5, e6, e7, e8, e9⟩ | ⟨e2, hoff⟩ | ⟨e2, hoff0, hoff⟩
    · have E2 := Lib.hid e2
      have E3 := Lib.hid e3
      have E4 := Lib.hid e4
      have E5 := Lib.hid e5
      have E6 := Lib.hid e6
      have E7 := Lib.hid e7
      have E8 := Lib.hid e8
      have E9 := Lib.hid e9
      clear e2 e3 e4 e5 e6 e7 e8 e9
      go_enter Try.func13, Try.ntmps13
      go_wp2_with (go_at_call 31; refine (entry_Unpack _ _).mono ?_; rintro e w1 ⟨rfl, hb⟩; have hz := hb.size; (try simp only [World.size_alloc, World.size_drew, World.size_setCell, size_drewN] at hz))
      have a0 : (w1.alloc (Obj.cells #[.int .i64 (uO x), .int .i64 (uG x), .int .i64 (uP x), .int .i64 (uU x), .bool (uL x), .bool (uA x)] 38)).cell? ⟨w1.heap.size, 0, none⟩ = some (.int .i64 (uO x)) := by simp
      have a1 : (w1.alloc (Obj.cells #[.int .i64 (uO x), .int .i64 (uG x), .int .i64 (uP x), .int .i64 (uU x), .bool (uL x), .bool (uA x)] 38)).cell? ⟨w1.heap.size, 1, none⟩ = some (.int .i64 (uG x)) := by simp
      have a2 : (w1.alloc (Obj.cells #[.int .i64 (uO x), .int .i64 (uG x), .int .i64 (uP x), .int .i64 (uU x), .bool (uL x), .bool (uA x)] 38)).cell? ⟨w1.heap.size, 2, none⟩ = some (.int .i64 (uP x)) := by simp
      have a3 : (w1.alloc (Obj.cells #[.int .i64 (uO x), .int .i64 (uG x), .int .i64 (uP x), .int .i64 (uU x), .bool (uL x), .bool (uA x)] 38)).cell? ⟨w1.heap.size, 3, none⟩ = some (.int .i64 (uU x)) := by simp
      have a4 : (w1.alloc (Obj.cells #[.int .i64 (uO x), .int .i64 (uG x), .int .i64 (uP x), .int .i64 (uU x), .bool (uL x), .bool (uA x)] 38)).cell? ⟨w1.heap.size, 4, none⟩ = some (.bool (uL x)) := by simp
      have a5 : (w1.alloc (Obj.cells #[.int .i64 (uO x), .int .i64 (uG x), .int .i64 (uP x), .int .i64 (uU x), .bool (uL x), .bool (uA x)] 38)).cell? ⟨w1.heap.size, 5, none⟩ = some (.bool (uA x)) := by simp
      have hs : w1.heap.size < (w1.alloc (Obj.cells #[.int .i64 (uO x), .int .i64 (uG x), .int .i64 (uP x), .int .i64 (uU x), .bool (uL x), .bool (uA x)] 38)).heap.size := by simp
      have f0 : (w1.alloc (Obj.cells #[.int .i64 (uO x), .int .i64 (uG x), .int .i64 (uP x), .int .i64 (uU x), .bool (uL x), .bool (uA x)] 38)).frozen? ⟨w1.heap.size, 0, none⟩ = false := blk_free (blk_new _ _) _
      have f4 : (w1.alloc (Obj.cells #[.int .i64 (uO x), .int .i64 (uG x), .int .i64 (uP x), .int .i64 (uU x), .bool (uL x), .bool (uA x)] 38)).frozen? ⟨w1.heap.size, 4, none⟩ = false := blk_free (blk_new _ _) _
      go_wp2_with first
        | (go_at_call 37; refine (entry_Lock _ _ _).mono ?_; rw [E1.out]; rintro e w' ⟨rfl, hb⟩; have f0 := (frz_below (p := ⟨w1.heap.size, 0, none⟩) hb hs).trans f0; have f4 := (frz_below (p := ⟨w1.heap.size, 4, none⟩) hb hs).trans f4; have a0 := (hb.cell (p := ⟨w1.heap.size, 0, none⟩) hs).trans a0; have a1 := (hb.cell (p := ⟨w1.heap.size, 1, none⟩) hs).trans a1; have a2 := (hb.cell (p := ⟨w1.heap.size, 2, none⟩) hs).trans a2; have a3 := (hb.cell (p := ⟨w1.heap.size, 3, none⟩) hs).trans a3; have a4 := (hb.cell (p := ⟨w1.heap.size, 4, none⟩) hs).trans a4; have a5 := (hb.cell (p := ⟨w1.heap.size, 5, none⟩) hs).trans a5; have hs := Nat.lt_of_lt_of_le hs hb.size)
        | (go_at_call 39; refine (entry_Move _ _ _).mono ?_; rw [E2.out]; rintro e w' ⟨rfl, hb⟩; have f0 := (frz_below (p := ⟨w1.heap.size, 0, none⟩) hb hs).trans f0; have f4 := (frz_below (p := ⟨w1.heap.size, 4, none⟩) hb hs).trans f4; have a0 := (hb.cell (p := ⟨w1.heap.size, 0, none⟩) hs).trans a0; have a1 := (hb.cell (p := ⟨w1.heap.size, 1, none⟩) hs).trans a1; have a2 := (hb.cell (p := ⟨w1.heap.size, 2, none⟩) hs).trans a2; have a3 := (hb.cell (p := ⟨w1.heap.size, 3, none⟩) hs).trans a3; have a4 := (hb.cell (p := ⟨w1.heap.size, 4, none⟩) hs).trans a4; have a5 := (hb.cell (p := ⟨w1.heap.size, 5, none⟩) hs).trans a5; have hs := Nat.lt_of_lt_of_le hs hb.size)
        | (go_at_call 31; refine (entry_Unpack _ _).mono ?_; rw [E3.out, E4.out, E5.out, E6.out, E7.out, E8.out, E9.out]; rintro e w' ⟨rfl, hb⟩; have f0 := (frz_below (p := ⟨w1.heap.size, 0, none⟩) hb hs).trans f0; have f4 := (frz_below (p := ⟨w1.heap.size, 4, none⟩) hb hs).trans f4; have a0 := (hb.cell (p := ⟨w1.heap.size, 0, none⟩) hs).trans a0; have a1 := (hb.cell (p := ⟨w1.heap.size, 1, none⟩) hs).trans a1; have a2 := (hb.cell (p := ⟨w1.heap.size, 2, none⟩) hs).trans a2; have a3 := (hb.cell (p := ⟨w1.heap.size, 3, none⟩) hs).trans a3; have a4 := (hb.cell (p := ⟨w1.heap.size, 4, none⟩) hs).trans a4; have a5 := (hb.cell (p := ⟨w1.heap.size, 5, none⟩) hs).trans a5; have hs := Nat.lt_of_lt_of_le hs hb.size)
        | (go_at_call 34; refine (law02_live _).mono ?_; rintro e w' ⟨rfl, hb⟩; have hz := hb.size; (try simp only [World.size_alloc, World.size_drew, World.size_setCell, size_drewN] at hz))
      go_ret
      exact ⟨rfl, by (repeat' (first | (with_reducible exact Below.refl _ _) | (with_reducible assumption) | (with_reducible refine below_drewN ?_ _) | (with_reducible refine Below.drew ?_) | (with_reducible refine Below.alloc ?_ ?_ _) | (with_reducible refine Below.setCell ?_ ?_ _) | (with_reducible refine below_via (by assumption) ?_ ?_) | go_size))⟩
    · have E2 := Lib.hid e2
      clear e2
      go_enter Try.func13, Try.ntmps13
      go_wp2_with (go_at_call 31; refine (entry_Unpack _ _).mono ?_; rintro e w1 ⟨rfl, hb⟩; have hz := hb.size; (try simp only [World.size_alloc, World.size_drew, World.size_setCell, size_drewN] at hz))
      have a0 : (w1.alloc (Obj.cells #[.int .i64 (uO x), .int .i64 (uG x), .int .i64 (uP x), .int .i64 (uU x), .bool (uL x), .bool (uA x)] 38)).cell? ⟨w1.heap.size, 0, none⟩ = some (.int .i64 (uO x)) := by simp
      have a1 : (w1.alloc (Obj.cells #[.int .i64 (uO x), .int .i64 (uG x), .int .i64 (uP x), .int .i64 (uU x), .bool (uL x), .bool (uA x)] 38)).cell? ⟨w1.heap.size, 1, none⟩ = some (.int .i64 (uG x)) := by simp
      have a2 : (w1.alloc (Obj.cells #[.int .i64 (uO x), .int .i64 (uG x), .int .i64 (uP x), .int .i64 (uU x), .bool (uL x), .bool (uA x)] 38)).cell? ⟨w1.heap.size, 2, none⟩ = some (.int .i64 (uP x)) := by simp
      have a3 : (w1.alloc (Obj.cells #[.int .i64 (uO x), .int .i64 (uG x), .int .i64 (uP x), .int .i64 (uU x), .bool (uL x), .bool (uA x)] 38)).cell? ⟨w1.heap.size, 3, none⟩ = some (.int .i64 (uU x)) := by simp
      have a4 : (w1.alloc (Obj.cells #[.int .i64 (uO x), .int .i64 (uG x), .int .i64 (uP x), .int .i64 (uU x), .bool (uL x), .bool (uA x)] 38)).cell? ⟨w1.heap.size, 4, none⟩ = some (.bool (uL x)) := by simp
      have a5 : (w1.alloc (Obj.cells #[.int .i64 (uO x), .int .i64 (uG x), .int .i64 (uP x), .int .i64 (uU x), .bool (uL x), .bool (uA x)] 38)).cell? ⟨w1.heap.size, 5, none⟩ = some (.bool (uA x)) := by simp
      have hs : w1.heap.size < (w1.alloc (Obj.cells #[.int .i64 (uO x), .int .i64 (uG x), .int .i64 (uP x), .int .i64 (uU x), .bool (uL x), .bool (uA x)] 38)).heap.size := by simp
      go_wp2_with first
        | (go_at_call 37; refine (entry_Lock _ _ _).mono ?_; rw [E1.out]; rintro e w' ⟨rfl, hb⟩; have a0 := (hb.cell (p := ⟨w1.heap.size, 0, none⟩) hs).trans a0; have a1 := (hb.cell (p := ⟨w1.heap.size, 1, none⟩) hs).trans a1; have a2 := (hb.cell (p := ⟨w1.heap.size, 2, none⟩) hs).trans a2; have a3 := (hb.cell (p := ⟨w1.heap.size, 3, none⟩) hs).trans a3; have a4 := (hb.cell (p := ⟨w1.heap.size, 4, none⟩) hs).trans a4; have a5 := (hb.cell (p := ⟨w1.heap.size, 5, none⟩) hs).trans a5; have hs := Nat.lt_of_lt_of_le hs hb.size)
        | (go_at_call 39; refine (entry_Move _ _ _).mono ?_; rw [E2.out]; rintro e w' ⟨rfl, hb⟩; have a0 := (hb.cell (p := ⟨w1.heap.size, 0, none⟩) hs).trans a0; have a1 := (hb.cell (p := ⟨w1.heap.size, 1, none⟩) hs).trans a1; have a2 := (hb.cell (p := ⟨w1.heap.size, 2, none⟩) hs).trans a2; have a3 := (hb.cell (p := ⟨w1.heap.size, 3, none⟩) hs).trans a3; have a4 := (hb.cell (p := ⟨w1.heap.size, 4, none⟩) hs).trans a4; have a5 := (hb.cell (p := ⟨w1.heap.size, 5, none⟩) hs).trans a5; have hs := Nat.lt_of_lt_of_le hs hb.size)
        | (go_at_call 31; refine (entry_Unpack _ _).mono ?_; rw [E2.out]; rintro e w' ⟨rfl, hb⟩; have a0 := (hb.cell (p := ⟨w1.heap.size, 0, none⟩) hs).trans a0; have a1 := (hb.cell (p := ⟨w1.heap.size, 1, none⟩) hs).trans a1; have a2 := (hb.cell (p := ⟨w1.heap.size, 2, none⟩) hs).trans a2; have a3 := (hb.cell (p := ⟨w1.heap.size, 3, none⟩) hs).trans a3; have a4 := (hb.cell (p := ⟨w1.heap.size, 4, none⟩) hs).trans a4; have a5 := (hb.cell (p := ⟨w1.heap.size, 5, none⟩) hs).trans a5; have hs := Nat.lt_of_lt_of_le hs hb.size)
        | (go_at_call 34; refine (law02_live _).mono ?_; rintro e w' ⟨rfl, hb⟩; have hz := hb.size; (try simp only [World.size_alloc, World.size_drew, World.size_setCell, size_drewN] at hz))
      go_ret
      exact ⟨rfl, by (repeat' (first | (with_reducible exact Below.refl _ _) | (with_reducible assumption) | (with_reducible refine below_drewN ?_ _) | (with_reducible refine Below.drew ?_) | (with_reducible refine Below.alloc ?_ ?_ _) | (with_reducible refine Below.setCell ?_ ?_ _) | (with_reducible refine below_via (by assumption) ?_ ?_) | go_size))⟩
    · have E2 := Lib.hid e2
      clear e2
      go_enter Try.func13, Try.ntmps13
      go_wp2_with (go_at_call 31; refine (entry_Unpack _ _).mono ?_; rintro e w1 ⟨rfl, hb⟩; have hz := hb.size; (try simp only [World.size_alloc, World.size_drew, World.size_setCell, size_drewN] at hz))
      have a0 : (w1.alloc (Obj.cells #[.int .i64 (uO x), .int .i64 (uG x), .int .i64 (uP x), .int .i64 (uU x), .bool (uL x), .bool (uA x)] 38)).cell? ⟨w1.heap.size, 0, none⟩ = some (.int .i64 (uO x)) := by simp
      have a1 : (w1.alloc (Obj.cells #[.int .i64 (uO x), .int .i64 (uG x), .int .i64 (uP x), .int .i64 (uU x), .bool (uL x), .bool (uA x)] 38)).cell? ⟨w1.heap.size, 1, none⟩ = some (.int .i64 (uG x)) := by simp
      have a2 : (w1.alloc (Obj.cells #[.int .i64 (uO x), .int .i64 (uG x), .int .i64 (uP x), .int .i64 (uU x), .bool (uL x), .bool (uA x)] 38)).cell? ⟨w1.heap.size, 2, none⟩ = some (.int .i64 (uP x)) := by simp
      have a3 : (w1.alloc (Obj.cells #[.int .i64 (uO x), .int .i64 (uG x), .int .i64 (uP x), .int .i64 (uU x), .bool (uL x), .bool (uA x)] 38)).cell? ⟨w1.heap.size, 3, none⟩ = some (.int .i64 (uU x)) := by simp
      have a4 : (w1.alloc (Obj.cells #[.int .i64 (uO x), .int .i64 (uG x), .int .i64 (uP x), .int .i64 (uU x), .bool (uL x), .bool (uA x)] 38)).cell? ⟨w1.heap.size, 4, none⟩ = some (.bool (uL x)) := by simp
      have a5 : (w1.alloc (Obj.cells #[.int .i64 (uO x), .int .i64 (uG x), .int .i64 (uP x), .int .i64 (uU x), .bool (uL x), .bool (uA x)] 38)).cell? ⟨w1.heap.size, 5, none⟩ = some (.bool (uA x)) := by simp
      have hs : w1.heap.size < (w1.alloc (Obj.cells #[.int .i64 (uO x), .int .i64 (uG x), .int .i64 (uP x), .int .i64 (uU x), .bool (uL x), .bool (uA x)] 38)).heap.size := by simp
      go_wp2_with first
        | (go_at_call 37; refine (entry_Lock _ _ _).mono ?_; rw [E1.out]; rintro e w' ⟨rfl, hb⟩; have a0 := (hb.cell (p := ⟨w1.heap.size, 0, none⟩) hs).trans a0; have a1 := (hb.cell (p := ⟨w1.heap.size, 1, none⟩) hs).trans a1; have a2 := (hb.cell (p := ⟨w1.heap.size, 2, none⟩) hs).trans a2; have a3 := (hb.cell (p := ⟨w1.heap.size, 3, none⟩) hs).trans a3; have a4 := (hb.cell (p := ⟨w1.heap.size, 4, none⟩) hs).trans a4; have a5 := (hb.cell (p := ⟨w1.heap.size, 5, none⟩) hs).trans a5; have hs := Nat.lt_of_lt_of_le hs hb.size)
        | (go_at_call 39; refine (entry_Move _ _ _).mono ?_; rw [E2.out]; rintro e w' ⟨rfl, hb⟩; have a0 := (hb.cell (p := ⟨w1.heap.size, 0, none⟩) hs).trans a0; have a1 := (hb.cell (p := ⟨w1.heap.size, 1, none⟩) hs).trans a1; have a2 := (hb.cell (p := ⟨w1.heap.size, 2, none⟩) hs).trans a2; have a3 := (hb.cell (p := ⟨w1.heap.size, 3, none⟩) hs).trans a3; have a4 := (hb.cell (p := ⟨w1.heap.size, 4, none⟩) hs).trans a4; have a5 := (hb.cell (p := ⟨w1.heap.size, 5, none⟩) hs).trans a5; have hs := Nat.lt_of_lt_of_le hs hb.size)
        | (go_at_call 31; refine (entry_Unpack _ _).mono ?_; rw [E2.out]; rintro e w' ⟨rfl, hb⟩; have a0 := (hb.cell (p := ⟨w1.heap.size, 0, none⟩) hs).trans a0; have a1 := (hb.cell (p := ⟨w1.heap.size, 1, none⟩) hs).trans a1; have a2 := (hb.cell (p := ⟨w1.heap.size, 2, none⟩) hs).trans a2; have a3 := (hb.cell (p := ⟨w1.heap.size, 3, none⟩) hs).trans a3; have a4 := (hb.cell (p := ⟨w1.heap.size, 4, none⟩) hs).trans a4; have a5 := (hb.cell (p := ⟨w1.heap.size, 5, none⟩) hs).trans a5; have hs := Nat.lt_of_lt_of_le hs hb.size)
        | (go_at_call 34; refine (law02_live _).mono ?_; rintro e w' ⟨rfl, hb⟩; have hz := hb.size; (try simp only [World.size_alloc, World.size_drew, World.size_setCell, size_drewN] at hz))
      go_ret
      exact ⟨rfl, by (repeat' (first | (with_reducible exact Below.refl _ _) | (with_reducible assumption) | (with_reducible refine below_drewN ?_ _) | (with_reducible refine Below.drew ?_) | (with_reducible refine Below.alloc ?_ ?_ _) | (with_reducible refine Below.setCell ?_ ?_ _) | (with_reducible refine below_via (by assumption) ?_ ?_) | go_size))⟩
  · obtain ⟨e1, e2⟩ := moves_no h
    have b1 : ((eLock x true).2 != 0) = true := by simpa using h
    have E1 := Lib.hid e1
    clear h e1
    rcases e2 with e2 | ⟨e2, e3⟩ | ⟨e2, e3, e4, e5⟩
    · have b2 : (eOk x != 0) = true := by rw [e2]; decide
      clear e2
      go_enter Try.func13, Try.ntmps13
      go_wp2_with (go_at_call 31; refine (entry_Unpack _ _).mono ?_; rintro e w1 ⟨rfl, hb⟩; have hz := hb.size; (try simp only [World.size_alloc, World.size_drew, World.size_setCell, size_drewN] at hz))
      have a0 : (w1.alloc (Obj.cells #[.int .i64 (uO x), .int .i64 (uG x), .int .i64 (uP x), .int .i64 (uU x), .bool (uL x), .bool (uA x)] 38)).cell? ⟨w1.heap.size, 0, none⟩ = some (.int .i64 (uO x)) := by simp
      have a1 : (w1.alloc (Obj.cells #[.int .i64 (uO x), .int .i64 (uG x), .int .i64 (uP x), .int .i64 (uU x), .bool (uL x), .bool (uA x)] 38)).cell? ⟨w1.heap.size, 1, none⟩ = some (.int .i64 (uG x)) := by simp
      have a2 : (w1.alloc (Obj.cells #[.int .i64 (uO x), .int .i64 (uG x), .int .i64 (uP x), .int .i64 (uU x), .bool (uL x), .bool (uA x)] 38)).cell? ⟨w1.heap.size, 2, none⟩ = some (.int .i64 (uP x)) := by simp
      have a3 : (w1.alloc (Obj.cells #[.int .i64 (uO x), .int .i64 (uG x), .int .i64 (uP x), .int .i64 (uU x), .bool (uL x), .bool (uA x)] 38)).cell? ⟨w1.heap.size, 3, none⟩ = some (.int .i64 (uU x)) := by simp
      have a4 : (w1.alloc (Obj.cells #[.int .i64 (uO x), .int .i64 (uG x), .int .i64 (uP x), .int .i64 (uU x), .bool (uL x), .bool (uA x)] 38)).cell? ⟨w1.heap.size, 4, none⟩ = some (.bool (uL x)) := by simp
      have a5 : (w1.alloc (Obj.cells #[.int .i64 (uO x), .int .i64 (uG x), .int .i64 (uP x), .int .i64 (uU x), .bool (uL x), .bool (uA x)] 38)).cell? ⟨w1.heap.size, 5, none⟩ = some (.bool (uA x)) := by simp
      have hs : w1.heap.size < (w1.alloc (Obj.cells #[.int .i64 (uO x), .int .i64 (uG x), .int .i64 (uP x), .int .i64 (uU x), .bool (uL x), .bool (uA x)] 38)).heap.size := by simp
      go_wp2_with first
        | (go_at_call 37; refine (entry_Lock _ _ _).mono ?_; rw [E1.out]; rintro e w' ⟨rfl, hb⟩; have a0 := (hb.cell (p := ⟨w1.heap.size, 0, none⟩) hs).trans a0; have a1 := (hb.cell (p := ⟨w1.heap.size, 1, none⟩) hs).trans a1; have a2 := (hb.cell (p := ⟨w1.heap.size, 2, none⟩) hs).trans a2; have a3 := (hb.cell (p := ⟨w1.heap.size, 3, none⟩) hs).trans a3; have a4 := (hb.cell (p := ⟨w1.heap.size, 4, none⟩) hs).trans a4; have a5 := (hb.cell (p := ⟨w1.heap.size, 5, none⟩) hs).trans a5; have hs := Nat.lt_of_lt_of_le hs hb.size)
        | (go_at_call 39; refine (entry_Move _ _ _).mono ?_; rw [E2.out]; rintro e w' ⟨rfl, hb⟩; have a0 := (hb.cell (p := ⟨w1.heap.size, 0, none⟩) hs).trans a0; have a1 := (hb.cell (p := ⟨w1.heap.size, 1, none⟩) hs).trans a1; have a2 := (hb.cell (p := ⟨w1.heap.size, 2, none⟩) hs).trans a2; have a3 := (hb.cell (p := ⟨w1.heap.size, 3, none⟩) hs).trans a3; have a4 := (hb.cell (p := ⟨w1.heap.size, 4, none⟩) hs).trans a4; have a5 := (hb.cell (p := ⟨w1.heap.size, 5, none⟩) hs).trans a5; have hs := Nat.lt_of_lt_of_le hs hb.size)
        | (go_at_call 31; refine (entry_Unpack _ _).mono ?_; rw [E1.out]; rintro e w' ⟨rfl, hb⟩; have a0 := (hb.cell (p := ⟨w1.heap.size, 0, none⟩) hs).trans a0; have a1 := (hb.cell (p := ⟨w1.heap.size, 1, none⟩) hs).trans a1; have a2 := (hb.cell (p := ⟨w1.heap.size, 2, none⟩) hs).trans a2; have a3 := (hb.cell (p := ⟨w1.heap.size, 3, none⟩) hs).trans a3; have a4 := (hb.cell (p := ⟨w1.heap.size, 4, none⟩) hs).trans a4; have a5 := (hb.cell (p := ⟨w1.heap.size, 5, none⟩) hs).trans a5; have hs := Nat.lt_of_lt_of_le hs hb.size)
        | (go_at_call 34; refine (law02_live _).mono ?_; rintro e w' ⟨rfl, hb⟩; have hz := hb.size; (try simp only [World.size_alloc, World.size_drew, World.size_setCell, size_drewN] at hz))
      go_ret
      exact ⟨rfl, by (repeat' (first | (with_reducible exact Below.refl _ _) | (with_reducible assumption) | (with_reducible refine below_drewN ?_ _) | (with_reducible refine Below.drew ?_) | (with_reducible refine Below.alloc ?_ ?_ _) | (with_reducible refine Below.setCell ?_ ?_ _) | (with_reducible refine below_via (by assumption) ?_ ?_) | go_size))⟩
    · have E2 := Lib.hid e2
      have E3 := Lib.hid e3
      clear e2 e3
      go_enter Try.func13, Try.ntmps13
      go_wp2_with (go_at_call 31; refine (entry_Unpack _ _).mono ?_; rw [E2.out, E3.out]; rintro e w1 ⟨rfl, hb⟩; have hz := hb.size; (try simp only [World.size_alloc, World.size_drew, World.size_setCell, size_drewN] at hz))
      have a0 : (w1.alloc (Obj.cells #[.int .i64 (uO x), .int .i64 (uG x), .int .i64 (uP x), .int .i64 (uU x), .bool (uL x), .bool false] 38)).cell? ⟨w1.heap.size, 0, none⟩ = some (.int .i64 (uO x)) := by simp
      have a1 : (w1.alloc (Obj.cells #[.int .i64 (uO x), .int .i64 (uG x), .int .i64 (uP x), .int .i64 (uU x), .bool (uL x), .bool false] 38)).cell? ⟨w1.heap.size, 1, none⟩ = some (.int .i64 (uG x)) := by simp
      have a2 : (w1.alloc (Obj.cells #[.int .i64 (uO x), .int .i64 (uG x), .int .i64 (uP x), .int .i64 (uU x), .bool (uL x), .bool false] 38)).cell? ⟨w1.heap.size, 2, none⟩ = some (.int .i64 (uP x)) := by simp
      have a3 : (w1.alloc (Obj.cells #[.int .i64 (uO x), .int .i64 (uG x), .int .i64 (uP x), .int .i64 (uU x), .bool (uL x), .bool false] 38)).cell? ⟨w1.heap.size, 3, none⟩ = some (.int .i64 (uU x)) := by simp
      have a4 : (w1.alloc (Obj.cells #[.int .i64 (uO x), .int .i64 (uG x), .int .i64 (uP x), .int .i64 (uU x), .bool (uL x), .bool false] 38)).cell? ⟨w1.heap.size, 4, none⟩ = some (.bool (uL x)) := by simp
      have a5 : (w1.alloc (Obj.cells #[.int .i64 (uO x), .int .i64 (uG x), .int .i64 (uP x), .int .i64 (uU x), .bool (uL x), .bool false] 38)).cell? ⟨w1.heap.size, 5, none⟩ = some (.bool false) := by simp
      have hs : w1.heap.size < (w1.alloc (Obj.cells #[.int .i64 (uO x), .int .i64 (uG x), .int .i64 (uP x), .int .i64 (uU x), .bool (uL x), .bool false] 38)).heap.size := by simp
      go_wp2_with first
        | (go_at_call 37; refine (entry_Lock _ _ _).mono ?_; rw [E1.out]; rintro e w' ⟨rfl, hb⟩; have a0 := (hb.cell (p := ⟨w1.heap.size, 0, none⟩) hs).trans a0; have a1 := (hb.cell (p := ⟨w1.heap.size, 1, none⟩) hs).trans a1; have a2 := (hb.cell (p := ⟨w1.heap.size, 2, none⟩) hs).trans a2; have a3 := (hb.cell (p := ⟨w1.heap.size, 3, none⟩) hs).trans a3; have a4 := (hb.cell (p := ⟨w1.heap.size, 4, none⟩) hs).trans a4; have a5 := (hb.cell (p := ⟨w1.heap.size, 5, none⟩) hs).trans a5; have hs := Nat.lt_of_lt_of_le hs hb.size)
        | (go_at_call 39; refine (entry_Move _ _ _).mono ?_; rw [E2.out]; rintro e w' ⟨rfl, hb⟩; have a0 := (hb.cell (p := ⟨w1.heap.size, 0, none⟩) hs).trans a0; have a1 := (hb.cell (p := ⟨w1.heap.size, 1, none⟩) hs).trans a1; have a2 := (hb.cell (p := ⟨w1.heap.size, 2, none⟩) hs).trans a2; have a3 := (hb.cell (p := ⟨w1.heap.size, 3, none⟩) hs).trans a3; have a4 := (hb.cell (p := ⟨w1.heap.size, 4, none⟩) hs).trans a4; have a5 := (hb.cell (p := ⟨w1.heap.size, 5, none⟩) hs).trans a5; have hs := Nat.lt_of_lt_of_le hs hb.size)
        | (go_at_call 31; refine (entry_Unpack _ _).mono ?_; rw [E1.out]; rintro e w' ⟨rfl, hb⟩; have a0 := (hb.cell (p := ⟨w1.heap.size, 0, none⟩) hs).trans a0; have a1 := (hb.cell (p := ⟨w1.heap.size, 1, none⟩) hs).trans a1; have a2 := (hb.cell (p := ⟨w1.heap.size, 2, none⟩) hs).trans a2; have a3 := (hb.cell (p := ⟨w1.heap.size, 3, none⟩) hs).trans a3; have a4 := (hb.cell (p := ⟨w1.heap.size, 4, none⟩) hs).trans a4; have a5 := (hb.cell (p := ⟨w1.heap.size, 5, none⟩) hs).trans a5; have hs := Nat.lt_of_lt_of_le hs hb.size)
        | (go_at_call 34; refine (law02_live _).mono ?_; rintro e w' ⟨rfl, hb⟩; have hz := hb.size; (try simp only [World.size_alloc, World.size_drew, World.size_setCell, size_drewN] at hz))
      go_ret
      exact ⟨rfl, by (repeat' (first | (with_reducible exact Below.refl _ _) | (with_reducible assumption) | (with_reducible refine below_drewN ?_ _) | (with_reducible refine Below.drew ?_) | (with_reducible refine Below.alloc ?_ ?_ _) | (with_reducible refine Below.setCell ?_ ?_ _) | (with_reducible refine below_via (by assumption) ?_ ?_) | go_size))⟩
    · have E2 := Lib.hid e2
      have E3 := Lib.hid e3
      have E4 : IntKind.i64.wrap (uP x + uU x) = uP x + uU x := i64any' _ (by omega) (by omega)
      have b3 : decide (0 < uP x + uU x) = true := by simpa using e4
      clear e2 e3
      go_enter Try.func13, Try.ntmps13
      go_wp2_with (go_at_call 31; refine (entry_Unpack _ _).mono ?_; rw [E2.out, E3.out]; rintro e w1 ⟨rfl, hb⟩; have hz := hb.size; (try simp only [World.size_alloc, World.size_drew, World.size_setCell, size_drewN] at hz))
      have a0 : (w1.alloc (Obj.cells #[.int .i64 (uO x), .int .i64 (uG x), .int .i64 (uP x), .int .i64 (uU x), .bool (uL x), .bool true] 38)).cell? ⟨w1.heap.size, 0, none⟩ = some (.int .i64 (uO x)) := by simp
      have a1 : (w1.alloc (Obj.cells #[.int .i64 (uO x), .int .i64 (uG x), .int .i64 (uP x), .int .i64 (uU x), .bool (uL x), .bool true] 38)).cell? ⟨w1.heap.size, 1, none⟩ = some (.int .i64 (uG x)) := by simp
      have a2 : (w1.alloc (Obj.cells #[.int .i64 (uO x), .int .i64 (uG x), .int .i64 (uP x), .int .i64 (uU x), .bool (uL x), .bool true] 38)).cell? ⟨w1.heap.size, 2, none⟩ = some (.int .i64 (uP x)) := by simp
      have a3 : (w1.alloc (Obj.cells #[.int .i64 (uO x), .int .i64 (uG x), .int .i64 (uP x), .int .i64 (uU x), .bool (uL x), .bool true] 38)).cell? ⟨w1.heap.size, 3, none⟩ = some (.int .i64 (uU x)) := by simp
      have a4 : (w1.alloc (Obj.cells #[.int .i64 (uO x), .int .i64 (uG x), .int .i64 (uP x), .int .i64 (uU x), .bool (uL x), .bool true] 38)).cell? ⟨w1.heap.size, 4, none⟩ = some (.bool (uL x)) := by simp
      have a5 : (w1.alloc (Obj.cells #[.int .i64 (uO x), .int .i64 (uG x), .int .i64 (uP x), .int .i64 (uU x), .bool (uL x), .bool true] 38)).cell? ⟨w1.heap.size, 5, none⟩ = some (.bool true) := by simp
      have hs : w1.heap.size < (w1.alloc (Obj.cells #[.int .i64 (uO x), .int .i64 (uG x), .int .i64 (uP x), .int .i64 (uU x), .bool (uL x), .bool true] 38)).heap.size := by simp
      go_wp2_with first
        | (go_at_call 37; refine (entry_Lock _ _ _).mono ?_; rw [E1.out]; rintro e w' ⟨rfl, hb⟩; have a0 := (hb.cell (p := ⟨w1.heap.size, 0, none⟩) hs).trans a0; have a1 := (hb.cell (p := ⟨w1.heap.size, 1, none⟩) hs).trans a1; have a2 := (hb.cell (p := ⟨w1.heap.size, 2, none⟩) hs).trans a2; have a3 := (hb.cell (p := ⟨w1.heap.size, 3, none⟩) hs).trans a3; have a4 := (hb.cell (p := ⟨w1.heap.size, 4, none⟩) hs).trans a4; have a5 := (hb.cell (p := ⟨w1.heap.size, 5, none⟩) hs).trans a5; have hs := Nat.lt_of_lt_of_le hs hb.size)
        | (go_at_call 39; refine (entry_Move _ _ _).mono ?_; rw [E2.out]; rintro e w' ⟨rfl, hb⟩; have a0 := (hb.cell (p := ⟨w1.heap.size, 0, none⟩) hs).trans a0; have a1 := (hb.cell (p := ⟨w1.heap.size, 1, none⟩) hs).trans a1; have a2 := (hb.cell (p := ⟨w1.heap.size, 2, none⟩) hs).trans a2; have a3 := (hb.cell (p := ⟨w1.heap.size, 3, none⟩) hs).trans a3; have a4 := (hb.cell (p := ⟨w1.heap.size, 4, none⟩) hs).trans a4; have a5 := (hb.cell (p := ⟨w1.heap.size, 5, none⟩) hs).trans a5; have hs := Nat.lt_of_lt_of_le hs hb.size)
        | (go_at_call 31; refine (entry_Unpack _ _).mono ?_; rw [E1.out]; rintro e w' ⟨rfl, hb⟩; have a0 := (hb.cell (p := ⟨w1.heap.size, 0, none⟩) hs).trans a0; have a1 := (hb.cell (p := ⟨w1.heap.size, 1, none⟩) hs).trans a1; have a2 := (hb.cell (p := ⟨w1.heap.size, 2, none⟩) hs).trans a2; have a3 := (hb.cell (p := ⟨w1.heap.size, 3, none⟩) hs).trans a3; have a4 := (hb.cell (p := ⟨w1.heap.size, 4, none⟩) hs).trans a4; have a5 := (hb.cell (p := ⟨w1.heap.size, 5, none⟩) hs).trans a5; have hs := Nat.lt_of_lt_of_le hs hb.size)
        | (go_at_call 34; refine (law02_live _).mono ?_; rintro e w' ⟨rfl, hb⟩; have hz := hb.size; (try simp only [World.size_alloc, World.size_drew, World.size_setCell, size_drewN] at hz))
      go_ret
      exact ⟨rfl, by (repeat' (first | (with_reducible exact Below.refl _ _) | (with_reducible assumption) | (with_reducible refine below_drewN ?_ _) | (with_reducible refine Below.drew ?_) | (with_reducible refine Below.alloc ?_ ?_ _) | (with_reducible refine Below.setCell ?_ ?_ _) | (with_reducible refine below_via (by assumption) ?_ ?_) | go_size))⟩
end Go.Proofs.Ytdmeopiggkbpjaa
