/- Entry's law EntryGens. -/
import Derived.LoopTactic
import Derived.Deep.DeepCutAuto
import Derived.Deep.RegionHeld3
import Derived.Test.YtdmeopiggkbpjaaEnLaws2
import Derived.Test.YtdmeopiggkbpjaaEnLaws3
namespace Go.Proofs.Ytdmeopiggkbpjaa
set_option linter.unusedVariables false
set_option linter.unusedSimpArgs false
open Go.RowKit
theorem wrap_small (n : Int) (h : -9223372036854775808 ≤ n) (h' : n ≤ 9223372036854775807) : wrap64 n = n := by unfold wrap64; omega
def gNext (gen : Int) : Int := if gen < 1000 then gen + 1 else gen
theorem gens_step {o gen : Int} (h : eMay o gen 0 0 false true = true) :
    eNext (eWord o gen 0 0 false true) = (eWord 0 (gNext gen) 0 0 false false, 0) ∧ eNextMore (eWord o gen 0 0 false true) = decide (gen < 1000) ∧
    eMay 0 (gNext gen) 0 0 false false = true ∧ eMay 0 (gNext gen) 0 0 false true = true := by
  obtain ⟨u1, u2, u3, u4, u5, u6, u7⟩ := un_pack h
  have m := eMay_of h
  have hb : gen + bI (decide (gen < 1000)) = gNext gen := by
    unfold gNext
    by_cases c : gen < 1000
    · rw [if_pos c, decide_eq_true c]; rfl
    · rw [if_neg c, decide_eq_false c]; simp [bI]
  have hn : nextCode (eWord o gen 0 0 false true) = 0 := by unfold nextCode; rw [u4, u5, u6, if_neg (by simp)]
  have hg : 0 ≤ gNext gen ∧ gNext gen ≤ 1000 := by unfold gNext; split <;> omega
  have m1 : eMay 0 (gNext gen) 0 0 false false = true := by
    unfold eMay; rw [decide_eq_true_eq]
    exact ⟨by omega, by omega, hg.1, hg.2, by omega, by omega, by omega, by omega, fun k => absurd k (by decide), Or.inr ⟨rfl, rfl, rfl, rfl⟩⟩
  have m2 : eMay 0 (gNext gen) 0 0 false true = true := by
    unfold eMay; rw [decide_eq_true_eq]
    exact ⟨by omega, by omega, hg.1, hg.2, by omega, by omega, by omega, by omega, fun k => absurd k (by decide), Or.inl rfl⟩
  refine ⟨?_, ?_, m1, m2⟩
  · unfold eNext
    rw [if_pos hn, eTurn_live u1 u7]
    unfold eChg
    rw [if_pos rfl, u3, hb]
    unfold ePack
    rw [if_pos m1]
  · unfold eNextMore nextMore
    rw [if_pos u1, u7, if_pos rfl, if_pos hn, u3]
set_option maxHeartbeats 4000000 in
theorem EntryGens_walk (o g p u : Int) (l a : Bool) (n : Int) (W : World) : Calls Try.prog 12 #[.agg #[.int .i64 o, .int .i64 g, .int .i64 p, .int .i64 u, .bool l, .bool a], .int .i64 n] W fun e w' => e = .returned (.bool true) ∧ Below W.heap.size W w' := by
  by_cases c1 : n < 0
  · go_enter Try.func12, Try.ntmps12
    go_wp2_with (go_at_call 34; refine (law02_live _).mono ?_; rintro e w' ⟨rfl, hb⟩; have hz := hb.size; (try simp only [World.size_alloc, World.size_drew, World.size_setCell, size_drewN] at hz))
    go_ret
    exact ⟨rfl, by (repeat' (first | (with_reducible exact Below.refl _ _) | (with_reducible assumption) | (with_reducible refine below_drewN ?_ _) | (with_reducible refine Below.drew ?_) | (with_reducible refine Below.alloc ?_ ?_ _) | (with_reducible refine Below.setCell ?_ ?_ _) | (with_reducible refine below_via (by assumption) ?_ ?_) | go_size))⟩
  by_cases c2 : 30 < n
  · go_enter Try.func12, Try.ntmps12
    go_wp2_with (go_at_call 34; refine (law02_live _).mono ?_; rintro e w' ⟨rfl, hb⟩; have hz := hb.size; (try simp only [World.size_alloc, World.size_drew, World.size_setCell, size_drewN] at hz))
    go_ret
    exact ⟨rfl, by (repeat' (first | (with_reducible exact Below.refl _ _) | (with_reducible assumption) | (with_reducible refine below_drewN ?_ _) | (with_reducible refine Below.drew ?_) | (with_reducible refine Below.alloc ?_ ?_ _) | (with_reducible refine Below.setCell ?_ ?_ _) | (with_reducible refine below_via (by assumption) ?_ ?_) | go_size))⟩
  cases a
  · go_enter Try.func12, Try.ntmps12
    go_wp2_with (go_at_call 34; refine (law02_live _).mono ?_; rintro e w' ⟨rfl, hb⟩; have hz := hb.size; (try simp only [World.size_alloc, World.size_drew, World.size_setCell, size_drewN] at hz))
    go_ret
    exact ⟨rfl, by (repeat' (first | (with_reducible exact Below.refl _ _) | (with_reducible assumption) | (with_reducible refine below_drewN ?_ _) | (with_reducible refine Below.drew ?_) | (with_reducible refine Below.alloc ?_ ?_ _) | (with_reducible refine Below.setCell ?_ ?_ _) | (with_reducible refine below_via (by assumption) ?_ ?_) | go_size))⟩
  cases l
  rotate_left
  · go_enter Try.func12, Try.ntmps12
    go_wp2_with (go_at_call 34; refine (law02_live _).mono ?_; rintro e w' ⟨rfl, hb⟩; have hz := hb.size; (try simp only [World.size_alloc, World.size_drew, World.size_setCell, size_drewN] at hz))
    go_ret
    exact ⟨rfl, by (repeat' (first | (with_reducible exact Below.refl _ _) | (with_reducible assumption) | (with_reducible refine below_drewN ?_ _) | (with_reducible refine Below.drew ?_) | (with_reducible refine Below.alloc ?_ ?_ _) | (with_reducible refine Below.setCell ?_ ?_ _) | (with_reducible refine below_via (by assumption) ?_ ?_) | go_size))⟩
  by_cases c3 : p = 0
  rotate_left
  · have b3 : (p != 0) = true := by simpa using c3
    clear c3
    go_enter Try.func12, Try.ntmps12
    go_wp2_with (go_at_call 34; refine (law02_live _).mono ?_; rintro e w' ⟨rfl, hb⟩; have hz := hb.size; (try simp only [World.size_alloc, World.size_drew, World.size_setCell, size_drewN] at hz))
    go_ret
    exact ⟨rfl, by (repeat' (first | (with_reducible exact Below.refl _ _) | (with_reducible assumption) | (with_reducible refine below_drewN ?_ _) | (with_reducible refine Below.drew ?_) | (with_reducible refine Below.alloc ?_ ?_ _) | (with_reducible refine Below.setCell ?_ ?_ _) | (with_reducible refine below_via (by assumption) ?_ ?_) | go_size))⟩
  subst c3
  by_cases c4 : u = 0
  rotate_left
  · have b4 : (u != 0) = true := by simpa using c4
    clear c4
    go_enter Try.func12, Try.ntmps12
    go_wp2_with (go_at_call 34; refine (law02_live _).mono ?_; rintro e w' ⟨rfl, hb⟩; have hz := hb.size; (try simp only [World.size_alloc, World.size_drew, World.size_setCell, size_drewN] at hz))
    go_ret
    exact ⟨rfl, by (repeat' (first | (with_reducible exact Below.refl _ _) | (with_reducible assumption) | (with_reducible refine below_drewN ?_ _) | (with_reducible refine Below.drew ?_) | (with_reducible refine Below.alloc ?_ ?_ _) | (with_reducible refine Below.setCell ?_ ?_ _) | (with_reducible refine below_via (by assumption) ?_ ?_) | go_size))⟩
  subst c4
  rcases bool_cases (b := eMay o g 0 0 false true) with h | h
  rotate_left
  · have P := Lib.hid (show ePack o g 0 0 false true = (0, 1) by unfold ePack; rw [if_neg (by rw [h]; decide)])
    clear h
    go_enter Try.func12, Try.ntmps12
    go_wp2_with first
      | (go_at_call 29; refine (law02_own _ _ _ _ _ _ _).mono ?_; rintro e w' ⟨rfl, hb⟩; have hz := hb.size; (try simp only [World.size_alloc, World.size_drew, World.size_setCell, size_drewN] at hz))
      | (go_at_call 28; refine (entry_Pack _ _ _ _ _ _ _).mono ?_; rw [P.out]; rintro e w' ⟨rfl, hb⟩; have hz := hb.size; (try simp only [World.size_alloc, World.size_drew, World.size_setCell, size_drewN] at hz))
      | (go_at_call 34; refine (law02_live _).mono ?_; rintro e w' ⟨rfl, hb⟩; have hz := hb.size; (try simp only [World.size_alloc, World.size_drew, World.size_setCell, size_drewN] at hz))
    go_ret
    exact ⟨rfl, by (repeat' (first | (with_reducible exact Below.refl _ _) | (with_reducible assumption) | (with_reducible refine below_drewN ?_ _) | (with_reducible refine Below.drew ?_) | (with_reducible refine Below.alloc ?_ ?_ _) | (with_reducible refine Below.setCell ?_ ?_ _) | (with_reducible refine below_via (by assumption) ?_ ?_) | go_size))⟩
  · have P := Lib.hid (show ePack o g 0 0 false true = (eWord o g 0 0 false true, 0) by unfold ePack; rw [if_pos h])
    have M := Lib.hid h
    clear h
    go_enter Try.func12, Try.ntmps12
    go_wp2_with fail
    have a1 : (W.alloc (Obj.cells #[.int .i64 o, .int .i64 g, .int .i64 0, .int .i64 0, .bool false, .bool true] 36)).cell? ⟨W.heap.size, 1, none⟩ = some (.int .i64 g) := by simp
    have hs : W.heap.size < (W.alloc (Obj.cells #[.int .i64 o, .int .i64 g, .int .i64 0, .int .i64 0, .bool false, .bool true] 36)).heap.size := by simp
    go_wp2_with first
      | (go_at_call 29; refine (law02_own _ _ _ _ _ _ _).mono ?_; rintro e w' ⟨rfl, hb⟩; have a1 := (hb.cell (p := ⟨W.heap.size, 1, none⟩) hs).trans a1; have hs := Nat.lt_of_lt_of_le hs hb.size)
      | (go_at_call 28; refine (entry_Pack _ _ _ _ _ _ _).mono ?_; rw [P.out]; rintro e w' ⟨rfl, hb⟩; have a1 := (hb.cell (p := ⟨W.heap.size, 1, none⟩) hs).trans a1; have hs := Nat.lt_of_lt_of_le hs hb.size)
    have hB1 : Below W.heap.size W w' := by (repeat' (first | (with_reducible exact Below.refl _ _) | (with_reducible assumption) | (with_reducible refine below_drewN ?_ _) | (with_reducible refine Below.drew ?_) | (with_reducible refine Below.alloc ?_ ?_ _) | (with_reducible refine Below.setCell ?_ ?_ _) | (with_reducible refine below_via (by assumption) ?_ ?_) | go_size))
    have hn : n ≤ 30 := by omega
    have hn0 : 0 ≤ n := by omega
    clear a1 hs c1 c2
    go_loopw [5, 7, 8] (fun x gv i wr => ∃ o' k gg : Int, x = .int .i64 (eWord o' gg 0 0 false true) ∧ gv = .int .i64 gg ∧ i = .int .i64 k ∧ 0 ≤ k ∧ k ≤ n ∧ eMay o' gg 0 0 false true = true ∧ Below W.heap.size W wr) (fun _ _ i _ => n.toNat - (intOf i).toNat)
    case atStart => exact ⟨o, 0, g, rfl, rfl, rfl, by omega, by omega, M.out, hB1⟩
    case round =>
      obtain ⟨o', k, gg, rfl, rfl, rfl, hk0, hkn, hm, hB⟩ := hrel
      obtain ⟨e1, e2, e3, e4⟩ := gens_step hm
      obtain ⟨u1, u2, u3, u4, u5, u6, u7⟩ := un_pack e3
      obtain ⟨v1, v2, v3, v4, v5, v6, v7⟩ := u_yes u1
      have E1 := Lib.hid e1
      have U1 := Lib.hid (v1.trans u2)
      have U2 := Lib.hid (v2.trans u3)
      have U3 := Lib.hid (v3.trans u4)
      have U4 := Lib.hid (v4.trans u5)
      have U5 := Lib.hid (v5.trans u6)
      have U6 := Lib.hid (v6.trans u7)
      have U7 := Lib.hid v7
      have P4 := Lib.hid (show ePack 0 (gNext gg) 0 0 false true = (eWord 0 (gNext gg) 0 0 false true, 0) by unfold ePack; rw [if_pos e4])
      have hzB := hB.size
      clear u1 u2 u3 u4 u5 u6 u7 v1 v2 v3 v4 v5 v6 v7 e1 e3
      by_cases c5 : k < n
      · by_cases c6 : gg < 1000
        · have E2 := Lib.hid (e2.trans (decide_eq_true c6))
          have hw : wrap64 (gg + 1) = gg + 1 := wrap_small _ (by have := (eMay_of hm).2.2.1; omega) (by omega)
          have hq : (gNext gg != if 1000 < wrap64 (gg + 1) then 1000 else wrap64 (gg + 1)) = false := by rw [hw]; unfold gNext; rw [if_pos c6, if_neg (by omega)]; simp
          clear e2
          go_wp2_with first
            | (go_at_call 38; refine (entry_Next _ _).mono ?_; rw [E1.out, E2.out]; rintro e w1 ⟨rfl, hb⟩; have hz := hb.size; (try simp only [World.size_alloc, World.size_drew, World.size_setCell, size_drewN] at hz))
            | (go_at_call 31; refine (entry_Unpack _ _).mono ?_; rw [U1.out, U2.out, U3.out, U4.out, U5.out, U6.out, U7.out]; rintro e w1 ⟨rfl, hb⟩; have hz := hb.size; (try simp only [World.size_alloc, World.size_drew, World.size_setCell, size_drewN] at hz))
            | (go_at_call 28; refine (entry_Pack _ _ _ _ _ _ _).mono ?_; rw [P4.out]; rintro e w1 ⟨rfl, hb⟩; have hz := hb.size; (try simp only [World.size_alloc, World.size_drew, World.size_setCell, size_drewN] at hz))
          go_roundw
          case rel => exact ⟨0, k + 1, gNext gg, rfl, rfl, by go_num, by omega, by omega, e4, by (repeat' (first | (with_reducible exact Below.refl _ _) | (with_reducible assumption) | (with_reducible refine below_drewN ?_ _) | (with_reducible refine Below.drew ?_) | (with_reducible refine Below.alloc ?_ ?_ _) | (with_reducible refine Below.setCell ?_ ?_ _) | (with_reducible refine below_via (by assumption) ?_ ?_) | go_size))⟩
          case measure => simp [intOf]; omega
        · have hg := eMay_of hm
          have hgg : gg = 1000 := by omega
          subst hgg
          have E2 := Lib.hid (e2.trans (decide_eq_false c6))
          have hG : gNext 1000 = 1000 := by decide
          rw [hG] at E1 U1 U2 U3 U4 U5 U6 U7 
          clear e2 hG hg
          go_wp2_with first
            | (go_at_call 38; refine (entry_Next _ _).mono ?_; rw [E1.out, E2.out]; rintro e w1 ⟨rfl, hb⟩; have hz := hb.size; (try simp only [World.size_alloc, World.size_drew, World.size_setCell, size_drewN] at hz))
            | (go_at_call 31; refine (entry_Unpack _ _).mono ?_; rw [U1.out, U2.out, U3.out, U4.out, U5.out, U6.out, U7.out]; rintro e w1 ⟨rfl, hb⟩; have hz := hb.size; (try simp only [World.size_alloc, World.size_drew, World.size_setCell, size_drewN] at hz))
            | (go_at_call 34; refine (law02_live _).mono ?_; rintro e w1 ⟨rfl, hb⟩; have hz := hb.size; (try simp only [World.size_alloc, World.size_drew, World.size_setCell, size_drewN] at hz))
          go_ret
          exact ⟨rfl, by (repeat' (first | (with_reducible exact Below.refl _ _) | (with_reducible assumption) | (with_reducible refine below_drewN ?_ _) | (with_reducible refine Below.drew ?_) | (with_reducible refine Below.alloc ?_ ?_ _) | (with_reducible refine Below.setCell ?_ ?_ _) | (with_reducible refine below_via (by assumption) ?_ ?_) | go_size))⟩
      · have c5' : n ≤ k := by omega
        clear c5
        go_wp2_with (go_at_call 34; refine (law02_live _).mono ?_; rintro e w1 ⟨rfl, hb⟩; have hz := hb.size; (try simp only [World.size_alloc, World.size_drew, World.size_setCell, size_drewN] at hz))
        go_ret
        exact ⟨rfl, by (repeat' (first | (with_reducible exact Below.refl _ _) | (with_reducible assumption) | (with_reducible refine below_drewN ?_ _) | (with_reducible refine Below.drew ?_) | (with_reducible refine Below.alloc ?_ ?_ _) | (with_reducible refine Below.setCell ?_ ?_ _) | (with_reducible refine below_via (by assumption) ?_ ?_) | go_size))⟩
end Go.Proofs.Ytdmeopiggkbpjaa
