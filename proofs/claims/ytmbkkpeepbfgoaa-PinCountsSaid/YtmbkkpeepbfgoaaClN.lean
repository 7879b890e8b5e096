/- cells.New and Copy. -/
import Derived.RegionTactic
import Derived.BigRegion
import Derived.Outline
import Derived.OwnWalk
import Derived.Laws.MakeOwn
import Derived.Laws.Tables
import Derived.Laws.CopyRow
import Derived.StillTailTactics
import Derived.Laws.CopyOwn
import Derived.Test.YtmbkkpeepbfgoaaClW
namespace Go.Proofs.Ytmbkkpeepbfgoaa
set_option linter.unusedVariables false
set_option linter.unusedSimpArgs false
open Go.RowKit
theorem Owns.setRow {B : Nat} {W w : World} {G : List Grp} (h : Owns B W w G) (i j : Nat) {g : Grp} {b : Nat} {c : Array Value} {t : TypeId} {f : Nat × Nat} (hi : G[i]? = some g) (hj : g[j]? = some (b, .cells c t f)) (cs : Array Value) :
    Owns B W (w.setRow b cs) (G.set i (g.set j (b, .cells cs t f))) :=
  h.turn i j hi hj _ rfl rfl rfl (by simp) (setRow_heap w b c cs t f (h.get i j hi hj)) (fun k _ hne => setRow_other w b k cs hne)
theorem Owns.three {B : Nat} {W w : World} {G : List Grp} {a b c : Nat × Obj} (h : Owns B W w ([a] :: [b] :: [c] :: G)) : Owns B W w ([a, b, c] :: G) := h.join.join
theorem Owns.swap {B : Nat} {W w : World} {G : List Grp} {a b : Grp} (h : Owns B W w (a :: b :: G)) : Owns B W w (b :: a :: G) := h.perm (List.Perm.swap _ _ _)
theorem Owns.swap1 {B : Nat} {W w : World} {G : List Grp} {a b c : Grp} (h : Owns B W w (a :: b :: c :: G)) : Owns B W w (a :: c :: b :: G) := h.perm ((List.Perm.swap _ _ _).cons _)
def cMay (n b : Int) : Bool := decide (1 ≤ n ∧ n ≤ 4096 ∧ 0 ≤ b ∧ b ≤ 4096)
set_option maxHeartbeats 400000 in
theorem cells_may (n b : Int) (w : World) : Calls Try.prog 63 #[.int .i64 n, .int .i64 b] w fun e w' => e = .returned (.bool (cMay n b)) ∧ w = w' := by
  by_cases h : 1 ≤ n ∧ n ≤ 4096 ∧ 0 ≤ b ∧ b ≤ 4096
  · have e := Lib.hid (show cMay n b = true from decide_eq_true h)
    obtain ⟨h1, h2, h3, h4⟩ := h
    go_enter Try.func63, Try.ntmps63
    go_wp2
    go_ret
    exact ⟨by rw [e.out]; (first | rfl | (apply retb; first | rfl | (simp; done) | (simp; omega))), rfl⟩
  · have e := Lib.hid (show cMay n b = false from decide_eq_false h)
    by_cases h1 : 1 ≤ n
    · by_cases h2 : n ≤ 4096
      · by_cases h3 : 0 ≤ b
        · have h4 : 4096 < b := by omega
          clear h
          go_enter Try.func63, Try.ntmps63
          go_wp2
          go_ret
          exact ⟨by rw [e.out]; (first | rfl | (apply retb; first | rfl | (simp; done) | (simp; omega))), rfl⟩
        · have h3' : b < 0 := by omega
          clear h h3
          go_enter Try.func63, Try.ntmps63
          go_wp2
          go_ret
          exact ⟨by rw [e.out]; (first | rfl | (apply retb; first | rfl | (simp; done) | (simp; omega))), rfl⟩
      · have h2' : 4096 < n := by omega
        clear h h2
        go_enter Try.func63, Try.ntmps63
        go_wp2
        go_ret
        exact ⟨by rw [e.out]; (first | rfl | (apply retb; first | rfl | (simp; done) | (simp; omega))), rfl⟩
    · have h1' : n < 1 := by omega
      clear h h1
      go_enter Try.func63, Try.ntmps63
      go_wp2
      go_ret
      exact ⟨by rw [e.out]; (first | rfl | (apply retb; first | rfl | (simp; done) | (simp; omega))), rfl⟩
set_option maxHeartbeats 400000 in
theorem cells_New_no (n b : Int) (w : World) (h : cMay n b = false) : Calls Try.prog 38 #[.int .i64 n, .int .i64 b] w fun e w' => e = .returned (.pointer none) ∧ w = w' := by
  have e := Lib.hid h
  clear h
  go_enter Try.func38, Try.ntmps38
  go_wp2_with (go_at_call 63; refine (cells_may _ _ _).mono ?_; rw [e.out]; rintro e w' ⟨rfl, rfl⟩)
  go_ret
  exact ⟨rfl, rfl⟩
theorem info_int : (Try.prog.info? 3).map (fun i => (i.zero, i.size, i.bytes)) = some (some (.int .i64 0), 1, 8) := by kernel_rfl
theorem info_byte : (Try.prog.info? 5).map (fun i => (i.zero, i.size, i.bytes)) = some (some (.int .u8 0), 1, 1) := by kernel_rfl
theorem madeCells1 (v : Value) (hv : v.cells = #[v]) (n : Nat) : madeCells v.cells n = (List.replicate n v).toArray := by
  rw [hv]; unfold madeCells
  apply Array.ext_getElem?
  intro k
  by_cases h : k < n
  · simp [h, Nat.mod_one]
  · simp [h]
theorem made_ints (n : Int) (w : World) (h0 : 0 ≤ n) (h1 : n ≤ 65536) : (Instr.makeSlice 61 (.int .i64 n) (.int .i64 n)).run Try.prog w = .ok (.slice (some ⟨w.heap.size, 0, none⟩) n.toNat n.toNat) (w.alloc (.cells (intArr (List.replicate n.toNat 0)) 3)) := by
  obtain ⟨i, hi, hz, hs, hb⟩ := info_parts info_int
  have := run_make (P := Try.prog) w 61 3 i (.int .i64 0) Try.underlying61 hi hz .i64 .i64 n n h0 (Int.le_refl _) (by rw [hb]; omega) (by omega)
  rw [this, hs, Nat.mul_one, madeCells1 _ rfl]; simp [intArr]
theorem made_bytes (n : Int) (w : World) (h0 : 0 ≤ n) (h1 : n ≤ 65536) : (Instr.makeSlice 84 (.int .i64 n) (.int .i64 n)).run Try.prog w = .ok (.slice (some ⟨w.heap.size, 0, none⟩) n.toNat n.toNat) (w.alloc (.cells (byteArr (List.replicate n.toNat 0)) 5)) := by
  obtain ⟨i, hi, hz, hs, hb⟩ := info_parts info_byte
  have := run_make (P := Try.prog) w 84 5 i (.int .u8 0) Try.underlying84 hi hz .i64 .i64 n n h0 (Int.le_refl _) (by rw [hb]; omega) (by omega)
  rw [this, hs, Nat.mul_one, madeCells1 _ rfl]; simp [byteArr]
def MadeMem (B : Nat) (W : World) (G : List Grp) (n b : Nat) (e : Ending) (w' : World) : Prop :=
  ∃ p bw bb, e = .returned (.pointer (some ⟨p, 0, none⟩)) ∧ Owns B W w' (memG p bw bb (List.replicate n 0) (List.replicate b 0) 0 :: G)
set_option maxHeartbeats 1000000 in
theorem cells_New {B : Nat} {W w : World} {G : List Grp} (n b : Int) (hO : Owns B W w G) (h : cMay n b = true) : Calls Try.prog 38 #[.int .i64 n, .int .i64 b] w (MadeMem B W G n.toNat b.toNat) := by
  have e := Lib.hid h
  obtain ⟨h1, h2, h3, h4⟩ := of_decide_eq_true h
  clear h
  go_enter Try.func38, Try.ntmps38
  go_wp2_with (go_at_call 63; refine (cells_may _ _ _).mono ?_; rw [e.out]; rintro e w' ⟨rfl, rfl⟩)
  have m1 := fun w => made_ints n w (by omega) (by omega)
  have m2 := fun w => made_bytes b w (by omega) (by omega)
  go_region
  · go_wp2
    go_ret
    refine ⟨_, w.heap.size, w.heap.size + 1, rfl, ?_⟩
    have := (((hO.alloc (.cells (intArr (List.replicate n.toNat 0)) 3)).alloc (.cells (byteArr (List.replicate b.toNat 0)) 5)).alloc (plainObj w.heap.size (w.heap.size + 1) n.toNat b.toNat 0)).drew
    simp only [World.size_alloc] at this
    have := this.swap1.three
    unfold memG
    rw [List.length_replicate, List.length_replicate]
    exact this
  · go_wp2
    go_ret
    refine ⟨_, w.heap.size + 1, w.heap.size, rfl, ?_⟩
    have := (((hO.alloc (.cells (byteArr (List.replicate b.toNat 0)) 5)).alloc (.cells (intArr (List.replicate n.toNat 0)) 3)).alloc (plainObj (w.heap.size + 1) w.heap.size n.toNat b.toNat 0)).drew
    simp only [World.size_alloc] at this
    have := this.three
    unfold memG
    rw [List.length_replicate, List.length_replicate]
    exact this
def CopiedMem (B : Nat) (W : World) (G : List Grp) (ws bs : List Int) (n : Int) (e : Ending) (w' : World) : Prop :=
  ∃ p bw bb, e = .returned (.pointer (some ⟨p, 0, none⟩)) ∧ Owns B W w' (memG p bw bb ws bs n :: G)
set_option maxRecDepth 100000 in
set_option maxHeartbeats 1000000 in
theorem plain_Copy {B : Nat} {W w : World} {G : List Grp} (i : Nat) {p bw bb : Nat} {ws bs : List Int} {n : Int} (hO : Owns B W w G) (hi : G[i]? = some (memG p bw bb ws bs n)) (hl : ws.length ≤ 4096) (hl' : bs.length ≤ 4096) (hl0 : 1 ≤ ws.length) :
    Calls Try.prog 36 #[.pointer (some ⟨p, 0, none⟩)] w (CopiedMem B W G ws bs n) := by
  obtain ⟨c0, c1, c2⟩ := mem_cells hO hi
  have hN := fun m => cells_New (ws.length : Int) (bs.length : Int) (hO.drewN m) (by unfold cMay; rw [decide_eq_true_eq]; omega)
  go_enter Try.func36, Try.ntmps36
  go_wp2
  go_still_tail 10, (by kernel_rfl)
  go_wp2_with (go_at_call 38; refine (hN _).mono ?_; rintro e w1 ⟨p', bw', bb', rfl, hO1⟩)
  simp only [Int.toNat_natCast] at hO1
  have hi1 : (memG p' bw' bb' (List.replicate ws.length 0) (List.replicate bs.length 0) 0 :: G)[i + 1]? = some (memG p bw bb ws bs n) := by simpa using hi
  obtain ⟨d0, d1, d2⟩ := mem_cells hO1 hi1
  obtain ⟨n0, n1, n2⟩ := mem_cells (i := 0) hO1 rfl
  rw [List.length_replicate] at n0 n1
  clear c0 c1 c2
  go_still_tail 8, (by kernel_rfl)
  refine wpList_copy_own (w := w1.drew) rfl (.tmp 20) (.tmp 24) _ _ rfl 3 Try.underlying61 (by kernel_rfl) bw' 0 ws.length ws.length ⟨bw, 0, none⟩ ws.length ws.length rfl rfl (intArr (List.replicate ws.length 0)) 3 (hO1.drew.get 0 1 rfl rfl) (ws.map (Value.int .i64)) (by simp) ?_ (by simp [intArr]) (by intro v hv; obtain ⟨x, -, rfl⟩ := List.mem_map.1 hv; rfl) ?_
  · intro j v hj
    rw [Addr.add_lit, cell_of_row _ _ _ _ _ _ (hO1.drew.get (i + 1) 1 hi1 rfl), Nat.zero_add]
    simpa [intArr] using hj
  have hO2 := hO1.drew.setRow 0 1 rfl rfl (intArr ws)
  have e2 : (List.take 0 (intArr (List.replicate ws.length 0)).toList ++ (List.map (Value.int IntKind.i64) ws ++ List.drop (0 + (List.map (Value.int IntKind.i64) ws).length) (intArr (List.replicate ws.length 0)).toList)).toArray = intArr ws := by
    simp [intArr]
  rw [e2]
  generalize w1.drew.setRow bw' (intArr ws) = w2 at hO2 ⊢
  have e3 : (memG p' bw' bb' (List.replicate ws.length 0) (List.replicate bs.length 0) 0 :: G).set 0 ((memG p' bw' bb' (List.replicate ws.length 0) (List.replicate bs.length 0) 0).set 1 (bw', .cells (intArr ws) 3 (0, 0))) = memG p' bw' bb' ws (List.replicate bs.length 0) 0 :: G := by
    simp [memG]
  rw [e3] at hO2
  clear e2 e3 hO1
  have hi2 : (memG p' bw' bb' ws (List.replicate bs.length 0) 0 :: G)[i + 1]? = some (memG p bw bb ws bs n) := by simpa using hi
  obtain ⟨d0, d1, d2⟩ := mem_cells hO2 hi2
  obtain ⟨n0, n1, n2⟩ := mem_cells (i := 0) hO2 rfl
  rw [List.length_replicate] at n1
  go_wp2_with fail
  go_still_tail 8, (by kernel_rfl)
  refine wpList_copy_own (w := w2.drew) rfl (.tmp 29) (.tmp 33) _ _ rfl 5 Try.underlying84 (by kernel_rfl) bb' 0 bs.length bs.length ⟨bb, 0, none⟩ bs.length bs.length rfl rfl (byteArr (List.replicate bs.length 0)) 5 (hO2.drew.get 0 2 rfl rfl) (bs.map (Value.int .u8)) (by simp) ?_ (by simp [byteArr]) (by intro v hv; obtain ⟨x, -, rfl⟩ := List.mem_map.1 hv; rfl) ?_
  · intro j v hj
    rw [Addr.add_lit, cell_of_row _ _ _ _ _ _ (hO2.drew.get (i + 1) 2 hi2 rfl), Nat.zero_add]
    simpa [byteArr] using hj
  have hO3 := hO2.drew.setRow 0 2 rfl rfl (byteArr bs)
  have e2 : (List.take 0 (byteArr (List.replicate bs.length 0)).toList ++ (List.map (Value.int IntKind.u8) bs ++ List.drop (0 + (List.map (Value.int IntKind.u8) bs).length) (byteArr (List.replicate bs.length 0)).toList)).toArray = byteArr bs := by
    simp [byteArr]
  rw [e2]
  generalize w2.drew.setRow bb' (byteArr bs) = w3 at hO3 ⊢
  have e3 : (memG p' bw' bb' ws (List.replicate bs.length 0) 0 :: G).set 0 ((memG p' bw' bb' ws (List.replicate bs.length 0) 0).set 2 (bb', .cells (byteArr bs) 5 (0, 0))) = memG p' bw' bb' ws bs 0 :: G := by
    simp [memG]
  rw [e3] at hO3
  clear e2 e3 hO2 d0 d1 d2 n0 n1 n2
  have hi3 : (memG p' bw' bb' ws bs 0 :: G)[i + 1]? = some (memG p bw bb ws bs n) := by simpa using hi
  obtain ⟨d0, d1, d2⟩ := mem_cells hO3 hi3
  obtain ⟨n0, n1, n2⟩ := mem_cells (i := 0) hO3 rfl
  have hf := blk_free (hO3.get 0 0 rfl rfl) 2
  go_wp2_with fail
  go_ret
  exact ⟨p', bw', bb', rfl, mem_step (i := 0) hO3 rfl n⟩
end Go.Proofs.Ytmbkkpeepbfgoaa
