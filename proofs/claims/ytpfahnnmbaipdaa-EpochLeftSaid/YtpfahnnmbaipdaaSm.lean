/- sidingsref01.Same: two lists of whole numbers compared. -/
import Derived.LoopTactic
import Derived.Outline
import Derived.Test.YtpfahnnmbaipdaaProg
import Derived.Test.YtpfahnnmbaipdaaOwn2
import Derived.Test.YtpfahnnmbaipdaaLyQ
import Derived.Test.YtpfahnnmbaipdaaFnW
namespace Go.Proofs.Ytpfahnnmbaipdaa
set_option linter.unusedVariables false
set_option linter.unusedSimpArgs false
open Go.RowKit
/-- a slice that reads as a list of whole numbers. -/
def Reads (w : World) (v : Value) (xs : List Int) : Prop :=
  ∃ (p : Option Addr) (cap : Nat), v = .slice p xs.length cap ∧ xs.length ≤ 1000000 ∧ ∀ j, j < xs.length → ∃ b, p = some ⟨b, 0, none⟩ ∧ w.cell? ⟨b, j, none⟩ = some (.int .i64 (xs.getD j 0))
theorem Reads.row {B : Nat} {W w : World} {G : List Grp} {e : TypeId} {v : Value} {xs : List Int} {cur : List Value} (hr : RowOk v (xs.map (Value.int .i64)) cur) (h : Owns B W w G) (i : Nat) (hi : G[i]? = some (rowG e v cur)) (hl : xs.length ≤ 1000000) : Reads w v xs := by
  by_cases hne : xs = []
  · subst hne
    rcases hr with ⟨rfl, -, -⟩ | ⟨g, cap, rfl, h1⟩
    · exact ⟨none, 0, rfl, by simp, fun j hj => by simp at hj⟩
    · exact ⟨_, cap, rfl, by simp, fun j hj => by simp at hj⟩
  · obtain ⟨g, cap, hv, hc⟩ := hr.cells h i hi (by simpa using hne)
    refine ⟨some ⟨g, 0, none⟩, cap, by simpa using hv, hl, fun j hj => ⟨g, rfl, hc j _ ?_⟩⟩
    rw [List.getElem?_map, List.getElem?_eq_getElem hj]; simp [List.getD, hj]
theorem Reads.ints {B : Nat} {W w : World} {G : List Grp} {t : TypeId} {b cap : Nat} {xs : List Int} (h : Owns B W w G) (i j : Nat) {g : Grp} (hi : G[i]? = some g) (hj : g[j]? = some (b, .cells (intArr xs) t (0, 0))) (hl : xs.length ≤ 1000000) : Reads w (.slice (some ⟨b, 0, none⟩) xs.length cap) xs :=
  ⟨_, cap, rfl, hl, fun k hk => ⟨b, rfl, (blk_cell (h.get i j hi hj) k).trans (intArr_get xs k hk)⟩⟩
theorem Reads.nil (w : World) : Reads w (.slice none 0 0) [] := ⟨none, 0, rfl, by simp, fun j hj => by simp at hj⟩
def sameB (xs ys : List Int) : Bool := decide (xs = ys)
theorem list_ext_getD {xs ys : List Int} (hl : xs.length = ys.length) (h : ∀ j, j < xs.length → xs.getD j 0 = ys.getD j 0) : xs = ys := by
  rw [list_setW xs, list_setW ys, ← hl]; exact setW_ext h
set_option maxHeartbeats 2000000 in
theorem ref01_Same (v1 v2 : Value) (xs ys : List Int) (w : World) (h1 : Reads w v1 xs) (h2 : Reads w v2 ys) : Calls Try.prog 24 #[v1, v2] w fun e w' => e = .returned (.bool (sameB xs ys)) ∧ Below w.heap.size w w' := by
  obtain ⟨p1, c1, rfl, l1, g1⟩ := h1
  obtain ⟨p2, c2, rfl, l2, g2⟩ := h2
  by_cases hl : xs.length = ys.length
  rotate_left
  · have e := Lib.hid (show sameB xs ys = false from decide_eq_false (fun h => hl (congrArg _ h)))
    have n1 : ((xs.length : Int) != (ys.length : Int)) = true := by rw [bne_iff_ne]; omega
    clear hl
    go_enter Try.func24, Try.ntmps24
    go_wp2
    go_ret
    exact ⟨by rw [e.out]; (first | rfl | (apply retb; first | rfl | (simp; done) | (simp; omega))), by (repeat' (first | (with_reducible exact Below.refl _ _) | (with_reducible assumption) | (with_reducible refine below_drewN ?_ _) | (with_reducible refine Below.drew ?_) | (with_reducible refine Below.alloc ?_ ?_ _) | (with_reducible refine Below.setCell ?_ ?_ _) | (with_reducible refine below_via (by assumption) ?_ ?_) | go_size))⟩
  have n1 : ((xs.length : Int) != (ys.length : Int)) = false := by rw [hl]; simp
  have n2 : ((ys.length : Int) != (ys.length : Int)) = false := by simp
  have HL := Lib.hid hl
  clear hl
  go_enter Try.func24, Try.ntmps24
  go_wp2
  clear n1 n2
  go_loopw [5] (fun i wr => ∃ (k : Nat), i = .int .i64 k ∧ k ≤ xs.length ∧ (∀ j, j < k → xs.getD j 0 = ys.getD j 0) ∧ Below w.heap.size w wr) (fun i _ => xs.length - (intOf i).toNat)
  case atStart => exact ⟨0, rfl, by omega, fun j hj => by omega, Below.refl _ _⟩
  case round =>
    obtain ⟨k, rfl, hk, heq, hB⟩ := hrel
    have HQ := Lib.hid heq
    clear heq
    by_cases hlt : k < xs.length
    · obtain ⟨b1, rfl, d1⟩ := g1 k hlt
      obtain ⟨b2, rfl, d2⟩ := g2 k (by rw [← HL.out]; exact hlt)
      have hlt2 : k < ys.length := by have := HL.out; omega
      obtain ⟨x, hx⟩ : ∃ x, x = xs.getD k 0 := ⟨_, rfl⟩
      obtain ⟨y, hy⟩ : ∃ y, y = ys.getD k 0 := ⟨_, rfl⟩
      rw [← hx] at d1
      rw [← hy] at d2
      have d1' : wr.cell? ⟨b1, k, none⟩ = some (.int .i64 x) := (hB.cell (World.block_lt_of_cell? _ _ d1)).trans d1
      have d2' : wr.cell? ⟨b2, k, none⟩ = some (.int .i64 y) := (hB.cell (World.block_lt_of_cell? _ _ d2)).trans d2
      have HX := Lib.hid hx
      have HY := Lib.hid hy
      clear g1 g2 d1 d2 hx hy
      by_cases hxy : x = y
      · have q : (x != y) = false := by simpa using hxy
        have E := Lib.hid hxy
        clear hxy
        go_wp2_with fail
        go_quiet (fail)
        go_wp2_with fail
        go_roundw
        case rel => exact ⟨k + 1, by go_num, by omega, fun j hj => by
          by_cases e : j = k
          · subst e; rw [← HX.out, ← HY.out]; exact E.out
          · exact HQ.out j (by omega), by (repeat' (first | (with_reducible exact Below.refl _ _) | (with_reducible assumption) | (with_reducible refine below_drewN ?_ _) | (with_reducible refine Below.drew ?_) | (with_reducible refine Below.alloc ?_ ?_ _) | (with_reducible refine Below.setCell ?_ ?_ _) | (with_reducible refine below_via (by assumption) ?_ ?_) | go_size))⟩
        case measure => simp [intOf]; omega
      · have q : (x != y) = true := by simpa using hxy
        have e := Lib.hid (show sameB xs ys = false from decide_eq_false (fun h => hxy (by rw [HX.out, HY.out, h])))
        clear hxy
        go_wp2_with fail
        go_quiet (fail)
        go_wp2_with fail
        go_ret
        exact ⟨by rw [e.out]; (first | rfl | (apply retb; first | rfl | (simp; done) | (simp; omega))), by (repeat' (first | (with_reducible exact Below.refl _ _) | (with_reducible assumption) | (with_reducible refine below_drewN ?_ _) | (with_reducible refine Below.drew ?_) | (with_reducible refine Below.alloc ?_ ?_ _) | (with_reducible refine Below.setCell ?_ ?_ _) | (with_reducible refine below_via (by assumption) ?_ ?_) | go_size))⟩
    · have hk' : k = xs.length := by omega
      have e := Lib.hid (show sameB xs ys = true from decide_eq_true (list_ext_getD HL.out (fun j hj => HQ.out j (by omega))))
      have hge : xs.length ≤ k := by omega
      clear hk' hlt g1 g2
      go_wp2_with fail
      go_ret
      exact ⟨by rw [e.out]; (first | rfl | (apply retb; first | rfl | (simp; done) | (simp; omega))), by (repeat' (first | (with_reducible exact Below.refl _ _) | (with_reducible assumption) | (with_reducible refine below_drewN ?_ _) | (with_reducible refine Below.drew ?_) | (with_reducible refine Below.alloc ?_ ?_ _) | (with_reducible refine Below.setCell ?_ ?_ _) | (with_reducible refine below_via (by assumption) ?_ ?_) | go_size))⟩
end Go.Proofs.Ytpfahnnmbaipdaa
