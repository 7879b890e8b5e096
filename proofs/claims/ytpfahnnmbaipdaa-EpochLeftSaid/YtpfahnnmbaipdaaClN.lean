/- cells.New and Copy. -/
import Derived.RegionTactic
import Derived.BigRegion
import Derived.Outline
import Derived.OwnWalk
import Derived.Laws.MakeOwn
import Derived.Laws.Tables
import Derived.Laws.CopyRow
import Derived.StillTailTactics
import Derived.Laws.CopyOwn
import Derived.Test.YtpfahnnmbaipdaaClW
namespace Go.Proofs.Ytpfahnnmbaipdaa
set_option linter.unusedVariables false
set_option linter.unusedSimpArgs false
open Go.RowKit
theorem Owns.setRow {B : Nat} {W w : World} {G : List Grp} (h : Owns B W w G) (i j : Nat) {g : Grp} {b : Nat} {c : Array Value} {t : TypeId} {f : Nat × Nat} (hi : G[i]? = some g) (hj : g[j]? = some (b, .cells c t f)) (cs : Array Value) :
    Owns B W (w.setRow b cs) (G.set i (g.set j (b, .cells cs t f))) :=
  h.turn i j hi hj _ rfl rfl rfl (by simp) (setRow_heap w b c cs t f (h.get i j hi hj)) (fun k _ hne => setRow_other w b k cs hne)
theorem Owns.three {B : Nat} {W w : World} {G : List Grp} {a b c : Nat × Obj} (h : Owns B W w ([a] :: [b] :: [c] :: G)) : Owns B W w ([a, b, c] :: G) := h.join.join
theorem Owns.swap {B : Nat} {W w : World} {G : List Grp} {a b : Grp} (h : Owns B W w (a :: b :: G)) : Owns B W w (b :: a :: G) := h.perm (List.Perm.swap _ _ _)
theorem Owns.swap1 {B : Nat} {W w : World} {G : List Grp} {a b c : Grp} (h : Owns B W w (a :: b :: c :: G)) : Owns B W w (a :: c :: b :: G) := h.perm ((List.Perm.swap _ _ _).cons _)
def cMay (n b : Int) : Bool := decide (1 ≤ n ∧ n ≤ 4096 ∧ 0 ≤ b ∧ b ≤ 4096)
set_option maxHeartbeats 400000 in
theorem cells_may (n b : Int) (w : World) : Calls Try.prog 66 #[.int .i64 n, .int .i64 b] w fun e w' => e = .returned (.bool (cMay n b)) ∧ w = w' := by
  by_cases h : 1 ≤ n ∧ n ≤ 4096 ∧ 0 ≤ b ∧ b ≤ 4096
  · have e := Lib.hid (show cMay n b = true from decide_eq_true h)
    obtain ⟨h1, h2, h3, h4⟩ := h
    go_enter Try.func66, Try.ntmps66
    go_wp2
    go_ret
    exact ⟨by rw [e.out]; (first | rfl | (apply retb; first | rfl | (simp; done) | (simp; omega))), rfl⟩
  · have e := Lib.hid (show cMay n b = false from decide_eq_false h)
    by_cases h1 : 1 ≤ n
    · by_cases h2 : n ≤ 4096
      · by_cases h3 : 0 ≤ b
        · have h4 : 4096 < b := by omega
          clear h
          go_enter Try.func66, Try.ntmps66
          go_wp2
          go_ret
          exact ⟨by rw [e.out]; (first | rfl | (apply retb; first | rfl | (simp; done) | (simp; omega))), rfl⟩
        · have h3' : b < 0 := by omega
          clear h h3
          go_enter Try.func66, Try.ntmps66
          go_wp2
          go_ret
          exact ⟨by rw [e.out]; (first | rfl | (apply retb; first | rfl | (simp; done) | (simp; omega))), rfl⟩
      · have h2' : 4096 < n := by omega
        clear h h2
        go_enter Try.func66, Try.ntmps66
        go_wp2
        go_ret
        exact ⟨by rw [e.out]; (first | rfl | (apply retb; first | rfl | (simp; done) | (simp; omega))), rfl⟩
    · have h1' : n < 1 := by omega
      clear h h1
      go_enter Try.func66, Try.ntmps66
      go_wp2
      go_ret
      exact ⟨by rw [e.out]; (first | rfl | (apply retb; first | rfl | (simp; done) | (simp; omega))), rfl⟩
set_option maxHeartbeats 400000 in
theorem cells_New_no (n b : Int) (w : World) (h : cMay n b = false) : Calls Try.prog 41 #[.int .i64 n, .int .i64 b] w fun e w' => e = .returned (.pointer none) ∧ w = w' := by
  have e := Lib.hid h
  clear h
  go_enter Try.func41, Try.ntmps41
  go_wp2_with (go_at_call 66; refine (cells_may _ _ _).mono ?_; rw [e.out]; rintro e w' ⟨rfl, rfl⟩)
  go_ret
  exact ⟨rfl, rfl⟩
theorem info_int : (Try.prog.info? 3).map (fun i => (i.zero, i.size, i.bytes)) = some (some (.int .i64 0), 1, 8) := by kernel_rfl
theorem info_byte : (Try.prog.info? 5).map (fun i => (i.zero, i.size, i.bytes)) = some (some (.int .u8 0), 1, 1) := by kernel_rfl
theorem madeCells1 (v : Value) (hv : v.cells = #[v]) (n : Nat) : madeCells v.cells n = (List.replicate n v).toArray := by
  rw [hv]; unfold madeCells
  apply Array.ext_getElem?
  intro k
  by_cases h : k < n
  · simp [h, Nat.mod_one]
  · simp [h]
theorem made_ints (n : Int) (w : World) (h0 : 0 ≤ n) (h1 : n ≤ 65536) : (Instr.makeSlice 40 (.int .i64 n) (.int .i64 n)).run Try.prog w = .ok (.slice (some ⟨w.heap.size, 0, none⟩) n.toNat n.toNat) (w.alloc (.cells (intArr (List.replicate n.toNat 0)) 3)) := by
  obtain ⟨i, hi, hz, hs, hb⟩ := info_parts info_int
  have := run_make (P := Try.prog) w 40 3 i (.int .i64 0) Try.underlying40 hi hz .i64 .i64 n n h0 (Int.le_refl _) (by rw [hb]; omega) (by omega)
  rw [this, hs, Nat.mul_one, madeCells1 _ rfl]; simp [intArr]
theorem made_bytes (n : Int) (w : World) (h0 : 0 ≤ n) (h1 : n ≤ 65536) : (Instr.makeSlice 95 (.int .i64 n) (.int .i64 n)).run Try.prog w = .ok (.slice (some ⟨w.heap.size, 0, none⟩) n.toNat n.toNat) (w.alloc (.cells (byteArr (List.replicate n.toNat 0)) 5)) := by
  obtain ⟨i, hi, hz, hs, hb⟩ := info_parts info_byte
  have := run_make (P := Try.prog) w 95 5 i (.int .u8 0) Try.underlying95 hi hz .i64 .i64 n n h0 (Int.le_refl _) (by rw [hb]; omega) (by omega)
  rw [this, hs, Nat.mul_one, madeCells1 _ rfl]; simp [byteArr]
def MadeMem (B : Nat) (W : World) (G : List Grp) (n b : Nat) (e : Ending) (w' : World) : Prop :=
  ∃ p bw bb, e = .returned (.pointer (some ⟨p, 0, none⟩)) ∧ Owns B W w' (memG p bw bb (List.replicate n 0) (List.replicate b 0) 0 :: G)
set_option maxHeartbeats 1000000 in
theorem cells_New {B : Nat} {W w : World} {G : List Grp} (n b : Int) (hO : Owns B W w G) (h : cMay n b = true) : Calls Try.prog 41 #[.int .i64 n, .int .i64 b] w (MadeMem B W G n.toNat b.toNat) := by
  have e := Lib.hid h
  obtain ⟨h1, h2, h3, h4⟩ := of_decide_eq_true h
  clear h
  go_enter Try.func41, Try.ntmps41
  go_wp2_with (go_at_call 66; refine (cells_may _ _ _).mono ?_; rw [e.out]; rintro e w' ⟨rfl, rfl⟩)
  have m1 := fun w => made_ints n w (by omega) (by omega)
  have m2 := fun w => made_bytes b w (by omega) (by omega)
  go_region
  · go_wp2
    go_ret
    refine ⟨_, w.heap.size, w.heap.size + 1, rfl, ?_⟩
    have := (((hO.alloc (.cells (intArr (List.replicate n.toNat 0)) 3)).alloc (.cells (byteArr (List.replicate b.toNat 0)) 5)).alloc (plainObj w.heap.size (w.heap.size + 1) n.toNat b.toNat 0)).drew
    simp only [World.size_alloc] at this
    have := this.swap1.three
    unfold memG
    rw [List.length_replicate, List.length_replicate]
    exact this
  · go_wp2
    go_ret
    refine ⟨_, w.heap.size + 1, w.heap.size, rfl, ?_⟩
    have := (((hO.alloc (.cells (byteArr (List.replicate b.toNat 0)) 5)).alloc (.cells (intArr (List.replicate n.toNat 0)) 3)).alloc (plainObj (w.heap.size + 1) w.heap.size n.toNat b.toNat 0)).drew
    simp only [World.size_alloc] at this
    have := this.three
    unfold memG
    rw [List.length_replicate, List.length_replicate]
    exact this
def CopiedMem (B : Nat) (W : World) (G : List Grp) (ws bs : List Int) (n : Int) (e : Ending) (w' : World) : Prop :=
  ∃ p bw bb, e = .returned (.pointer (some ⟨p, 0, none⟩)) ∧ Owns B W w' (memG p bw bb ws bs n :: G)
end Go.Proofs.Ytpfahnnmbaipdaa
