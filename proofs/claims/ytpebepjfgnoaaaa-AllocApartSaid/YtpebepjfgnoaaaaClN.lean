/- Plain cells in memory. -/
import Derived.OpenShut
import Derived.RegionTactic
import Derived.BigRegion
import Derived.Outline
import Derived.OwnWalk
import Derived.Laws.MakeOwn
import Derived.Laws.Tables
import Derived.Laws.CopyRow
import Derived.StillTailTactics
import Derived.Laws.CopyOwn
import Derived.Test.YtpebepjfgnoaaaaProg
import Derived.Test.YtpebepjfgnoaaaaBase
import Derived.Test.YtpebepjfgnoaaaaFnW
namespace Go.Proofs.Ytpebepjfgnoaaaa
set_option linter.unusedVariables false
set_option linter.unusedSimpArgs false
open Go.RowKit
def intArr (ws : List Int) : Array Value := (ws.map (Value.int .i64)).toArray
def byteArr (bs : List Int) : Array Value := (bs.map (Value.int .u8)).toArray
def plainObj (bw bb nw nb : Nat) (n : Int) : Obj := .cells #[.slice (some ⟨bw, 0, none⟩) nw nw, .slice (some ⟨bb, 0, none⟩) nb nb, .int .i64 n] 103 (0, 0)
def memG (p bw bb : Nat) (ws bs : List Int) (n : Int) : Grp := [(p, plainObj bw bb ws.length bs.length n), (bw, .cells (intArr ws) 3 (0, 0)), (bb, .cells (byteArr bs) 5 (0, 0))]
theorem intArr_get (ws : List Int) (k : Nat) (h : k < ws.length) : (intArr ws)[k]? = some (.int .i64 (ws.getD k 0)) := by
  simp [intArr, List.getElem?_eq_getElem h, List.getD]
theorem byteArr_get (ws : List Int) (k : Nat) (h : k < ws.length) : (byteArr ws)[k]? = some (.int .u8 (ws.getD k 0)) := by
  simp [byteArr, List.getElem?_eq_getElem h, List.getD]
theorem intArr_set (ws : List Int) (k : Nat) (n : Int) : (intArr ws).setIfInBounds k (.int .i64 n) = intArr (ws.set k n) := by
  simp [intArr, List.map_set]
theorem byteArr_set (ws : List Int) (k : Nat) (n : Int) : (byteArr ws).setIfInBounds k (.int .u8 n) = byteArr (ws.set k n) := by
  simp [byteArr, List.map_set]
theorem plain_step (bw bb nw nb : Nat) (n m : Int) : plainObj bw bb nw nb m = .cells ((#[.slice (some ⟨bw, 0, none⟩) nw nw, .slice (some ⟨bb, 0, none⟩) nb nb, .int .i64 n] : Array Value).setIfInBounds 2 (.int .i64 m)) 103 (0, 0) := rfl
/-- what a word is. -/
def wIn (ws : List Int) (k : Int) : Bool := decide (0 ≤ k ∧ k < ws.length)
def wAt (ws : List Int) (k : Int) : Int := if wIn ws k = true then ws.getD k.toNat 0 else 0
def wPut (ws : List Int) (k n : Int) : List Int := if wIn ws k = true then ws.set k.toNat n else ws
def wCas (ws : List Int) (k old : Int) : Bool := wIn ws k && wAt ws k == old
def wCasPut (ws : List Int) (k old m : Int) : List Int := if wCas ws k old = true then wPut ws k m else ws
theorem wIn_iff {ws : List Int} {k : Int} : wIn ws k = true ↔ 0 ≤ k ∧ k < ws.length := by simp [wIn]
theorem wIn_no {ws : List Int} {k : Int} : wIn ws k = false ↔ ¬ (0 ≤ k ∧ k < ws.length) := by simp [wIn]
theorem wPut_len (ws : List Int) (k n : Int) : (wPut ws k n).length = ws.length := by unfold wPut; split <;> simp
theorem wIn_put (ws : List Int) (k n j : Int) : wIn (wPut ws k n) j = wIn ws j := by unfold wIn; rw [wPut_len]
theorem set_get {α : Type} {G : List α} {i : Nat} {g : α} (hi : G[i]? = some g) (x : α) : (G.set i x)[i]? = some x := List.getElem?_set_self (List.getElem?_eq_some_iff.1 hi).1
theorem set_get_ne {α : Type} {G : List α} {i j : Nat} {g : α} (hj : G[j]? = some g) (hne : i ≠ j) (x : α) : (G.set i x)[j]? = some g := by rw [List.getElem?_set_ne hne]; exact hj
theorem mem_cells {B : Nat} {W w : World} {G : List Grp} {i : Nat} {p bw bb : Nat} {ws bs : List Int} {n : Int} (h : Owns B W w G) (hi : G[i]? = some (memG p bw bb ws bs n)) :
    w.cell? ⟨p, 0, none⟩ = some (.slice (some ⟨bw, 0, none⟩) ws.length ws.length) ∧ w.cell? ⟨p, 1, none⟩ = some (.slice (some ⟨bb, 0, none⟩) bs.length bs.length) ∧ w.cell? ⟨p, 2, none⟩ = some (.int .i64 n) :=
  ⟨blk_cell (h.get i 0 hi rfl) 0, blk_cell (h.get i 0 hi rfl) 1, blk_cell (h.get i 0 hi rfl) 2⟩
theorem mem_word {B : Nat} {W w : World} {G : List Grp} {i : Nat} {p bw bb : Nat} {ws bs : List Int} {n : Int} (h : Owns B W w G) (hi : G[i]? = some (memG p bw bb ws bs n)) (q : Nat) (hq : q < ws.length) :
    w.cell? ⟨bw, q, none⟩ = some (.int .i64 (ws.getD q 0)) := (blk_cell (h.get i 1 hi rfl) q).trans (intArr_get ws q hq)
theorem mem_byte {B : Nat} {W w : World} {G : List Grp} {i : Nat} {p bw bb : Nat} {ws bs : List Int} {n : Int} (h : Owns B W w G) (hi : G[i]? = some (memG p bw bb ws bs n)) (q : Nat) (hq : q < bs.length) :
    w.cell? ⟨bb, q, none⟩ = some (.int .u8 (bs.getD q 0)) := (blk_cell (h.get i 2 hi rfl) q).trans (byteArr_get bs q hq)
theorem mem_step {B : Nat} {W w : World} {G : List Grp} {i : Nat} {p bw bb : Nat} {ws bs : List Int} {n : Int} (h : Owns B W w G) (hi : G[i]? = some (memG p bw bb ws bs n)) (m : Int) :
    Owns B W (w.setCell ⟨p, 2, none⟩ (.int .i64 m)) (G.set i (memG p bw bb ws bs m)) := h.set i 0 hi rfl 2 (.int .i64 m)
theorem mem_put {B : Nat} {W w : World} {G : List Grp} {i : Nat} {p bw bb : Nat} {ws bs : List Int} {n : Int} (h : Owns B W w G) (hi : G[i]? = some (memG p bw bb ws bs n)) (q : Nat) (m : Int) :
    Owns B W (w.setCell ⟨bw, q, none⟩ (.int .i64 m)) (G.set i (memG p bw bb (ws.set q m) bs n)) := by
  have := h.set i 1 hi rfl q (.int .i64 m)
  rw [intArr_set] at this
  have e : memG p bw bb (ws.set q m) bs n = (memG p bw bb ws bs n).set 1 (bw, .cells (intArr (ws.set q m)) 3 (0, 0)) := by simp [memG]
  rw [e]; exact this
theorem mem_putb {B : Nat} {W w : World} {G : List Grp} {i : Nat} {p bw bb : Nat} {ws bs : List Int} {n : Int} (h : Owns B W w G) (hi : G[i]? = some (memG p bw bb ws bs n)) (q : Nat) (m : Int) :
    Owns B W (w.setCell ⟨bb, q, none⟩ (.int .u8 m)) (G.set i (memG p bw bb ws (bs.set q m) n)) := by
  have := h.set i 2 hi rfl q (.int .u8 m)
  rw [byteArr_set] at this
  have e : memG p bw bb ws (bs.set q m) n = (memG p bw bb ws bs n).set 2 (bb, .cells (byteArr (bs.set q m)) 5 (0, 0)) := by simp [memG]
  rw [e]; exact this
end Go.Proofs.Ytpebepjfgnoaaaa
namespace Go.Proofs.Ytpebepjfgnoaaaa
set_option linter.unusedVariables false
set_option linter.unusedSimpArgs false
open Go.RowKit
set_option maxHeartbeats 1000000 in
theorem plain_word {B : Nat} {W w : World} {G : List Grp} (i : Nat) {p bw bb : Nat} {ws bs : List Int} {n : Int} (k : Int) (h : Owns B W w G) (hi : G[i]? = some (memG p bw bb ws bs n)) (hl : ws.length ≤ 4096) :
    Calls Try.prog 53 #[.pointer (some ⟨p, 0, none⟩), .int .i64 k] w fun e w' => e = .returned (.bool (wIn ws k)) ∧ Owns B W w' (G.set i (memG p bw bb ws bs (wrap64 (n + 1)))) := by
  have hp := h.get i 0 hi rfl
  have hf := blk_free hp 2
  have c0 : w.cell? ⟨p, 0, none⟩ = some (.slice (some ⟨bw, 0, none⟩) ws.length ws.length) := blk_cell hp 0
  have c2 : w.cell? ⟨p, 2, none⟩ = some (.int .i64 n) := blk_cell hp 2
  have hs := h.set i 0 hi rfl 2 (.int .i64 (wrap64 (n + 1)))
  clear hp
  by_cases c : 0 ≤ k
  · by_cases d : k < ws.length
    · have e := Lib.hid (show wIn ws k = true from wIn_iff.2 ⟨c, d⟩)
      go_enter Try.func53, Try.ntmps53
      go_wp2
      go_ret
      exact ⟨by rw [e.out]; (first | rfl | (apply retb; first | rfl | (simp; done) | (simp; omega))), hs⟩
    · have e := Lib.hid (show wIn ws k = false from wIn_no.2 (fun h => d h.2))
      have d' : ws.length ≤ k := by omega
      clear d
      go_enter Try.func53, Try.ntmps53
      go_wp2
      go_ret
      exact ⟨by rw [e.out]; (first | rfl | (apply retb; first | rfl | (simp; done) | (simp; omega))), hs⟩
  · have e := Lib.hid (show wIn ws k = false from wIn_no.2 (fun h => c h.1))
    have c' : k < 0 := by omega
    clear c
    go_enter Try.func53, Try.ntmps53
    go_wp2
    go_ret
    exact ⟨by rw [e.out]; (first | rfl | (apply retb; first | rfl | (simp; done) | (simp; omega))), hs⟩
set_option maxHeartbeats 1000000 in
theorem plain_byte {B : Nat} {W w : World} {G : List Grp} (i : Nat) {p bw bb : Nat} {ws bs : List Int} {n : Int} (k : Int) (h : Owns B W w G) (hi : G[i]? = some (memG p bw bb ws bs n)) (hl : bs.length ≤ 4096) :
    Calls Try.prog 87 #[.pointer (some ⟨p, 0, none⟩), .int .i64 k] w fun e w' => e = .returned (.bool (wIn bs k)) ∧ Owns B W w' (G.set i (memG p bw bb ws bs (wrap64 (n + 1)))) := by
  have hp := h.get i 0 hi rfl
  have hf := blk_free hp 2
  have c0 : w.cell? ⟨p, 1, none⟩ = some (.slice (some ⟨bb, 0, none⟩) bs.length bs.length) := blk_cell hp 1
  have c2 : w.cell? ⟨p, 2, none⟩ = some (.int .i64 n) := blk_cell hp 2
  have hs := h.set i 0 hi rfl 2 (.int .i64 (wrap64 (n + 1)))
  clear hp
  by_cases c : 0 ≤ k
  · by_cases d : k < bs.length
    · have e := Lib.hid (show wIn bs k = true from wIn_iff.2 ⟨c, d⟩)
      go_enter Try.func87, Try.ntmps87
      go_wp2
      go_ret
      exact ⟨by rw [e.out]; (first | rfl | (apply retb; first | rfl | (simp; done) | (simp; omega))), hs⟩
    · have e := Lib.hid (show wIn bs k = false from wIn_no.2 (fun h => d h.2))
      have d' : bs.length ≤ k := by omega
      clear d
      go_enter Try.func87, Try.ntmps87
      go_wp2
      go_ret
      exact ⟨by rw [e.out]; (first | rfl | (apply retb; first | rfl | (simp; done) | (simp; omega))), hs⟩
  · have e := Lib.hid (show wIn bs k = false from wIn_no.2 (fun h => c h.1))
    have c' : k < 0 := by omega
    clear c
    go_enter Try.func87, Try.ntmps87
    go_wp2
    go_ret
    exact ⟨by rw [e.out]; (first | rfl | (apply retb; first | rfl | (simp; done) | (simp; omega))), hs⟩
set_option maxHeartbeats 1000000 in
theorem plain_Load {B : Nat} {W w : World} {G : List Grp} (i : Nat) {p bw bb : Nat} {ws bs : List Int} {n : Int} (k : Int) (h : Owns B W w G) (hi : G[i]? = some (memG p bw bb ws bs n)) (hl : ws.length ≤ 4096) :
    Calls Try.prog 43 #[.pointer (some ⟨p, 0, none⟩), .int .i64 k] w fun e w' => e = .returned (.int .i64 (wAt ws k)) ∧ Owns B W w' (G.set i (memG p bw bb ws bs (wrap64 (n + 1)))) := by
  have c1 := plain_word i k h hi hl
  rcases bool_cases (b := wIn ws k) with c | c
  · have e := Lib.hid c
    have e1 := Lib.hid (show wAt ws k = ws.getD k.toNat 0 by unfold wAt; rw [if_pos c])
    obtain ⟨q, hq⟩ : ∃ q : Nat, k = q := ⟨k.toNat, by have := wIn_iff.1 c; omega⟩
    subst hq
    have hq : q < ws.length := by have := wIn_iff.1 c; omega
    obtain ⟨v, hv0⟩ : ∃ v, v = ws.getD q 0 := ⟨_, rfl⟩
    have ev := Lib.hid hv0
    clear c hv0
    go_enter Try.func43, Try.ntmps43
    go_wp2_with (go_at_call 53; refine c1.mono ?_; rw [e.out]; rintro e' w1 ⟨rfl, hO⟩; obtain ⟨c0, -, -⟩ := mem_cells hO (set_get hi _); have ck := mem_word hO (set_get hi _) q hq; rw [← ev.out] at ck)
    go_ret
    exact ⟨by rw [e1.out]; refine ret1 ?_; show _ = ws.getD q 0; rw [← ev.out], hO⟩
  · have e := Lib.hid c
    have e1 := Lib.hid (show wAt ws k = 0 by unfold wAt; rw [if_neg (by rw [c]; decide)])
    clear c
    go_enter Try.func43, Try.ntmps43
    go_wp2_with (go_at_call 53; refine c1.mono ?_; rw [e.out]; rintro e' w1 ⟨rfl, hO⟩)
    go_ret
    exact ⟨by rw [e1.out]; rfl, hO⟩
set_option maxHeartbeats 1000000 in
theorem plain_Store {B : Nat} {W w : World} {G : List Grp} (i : Nat) {p bw bb : Nat} {ws bs : List Int} {n : Int} (k m : Int) (h : Owns B W w G) (hi : G[i]? = some (memG p bw bb ws bs n)) (hl : ws.length ≤ 4096) :
    Calls Try.prog 24 #[.pointer (some ⟨p, 0, none⟩), .int .i64 k, .int .i64 m] w fun e w' => e = .returned (.tuple #[]) ∧ Owns B W w' (G.set i (memG p bw bb (wPut ws k m) bs (wrap64 (n + 1)))) := by
  have c1 := plain_word i k h hi hl
  rcases bool_cases (b := wIn ws k) with c | c
  · have e := Lib.hid c
    have e1 := Lib.hid (show wPut ws k m = ws.set k.toNat m by unfold wPut; rw [if_pos c])
    obtain ⟨q, hq⟩ : ∃ q : Nat, k = q := ⟨k.toNat, by have := wIn_iff.1 c; omega⟩
    subst hq
    have hq : q < ws.length := by have := wIn_iff.1 c; omega
    clear c
    go_enter Try.func24, Try.ntmps24
    go_wp2_with (go_at_call 53; refine c1.mono ?_; rw [e.out]; rintro e' w1 ⟨rfl, hO⟩; obtain ⟨c0, -, -⟩ := mem_cells hO (set_get hi _); have ck := mem_word hO (set_get hi _) q hq; have hf := blk_free (hO.get i 1 (set_get hi _) rfl) q)
    go_end0
    refine ⟨rfl, ?_⟩
    have := mem_put hO (set_get hi _) q m
    rw [List.set_set] at this
    rw [e1.out]; exact this
  · have e := Lib.hid c
    have e1 := Lib.hid (show wPut ws k m = ws by unfold wPut; rw [if_neg (by rw [c]; decide)])
    clear c
    go_enter Try.func24, Try.ntmps24
    go_wp2_with (go_at_call 53; refine c1.mono ?_; rw [e.out]; rintro e' w1 ⟨rfl, hO⟩)
    go_end0
    exact ⟨rfl, by rw [e1.out]; exact hO⟩
set_option maxHeartbeats 1000000 in
theorem plain_Byte {B : Nat} {W w : World} {G : List Grp} (i : Nat) {p bw bb : Nat} {ws bs : List Int} {n : Int} (k : Int) (h : Owns B W w G) (hi : G[i]? = some (memG p bw bb ws bs n)) (hl : bs.length ≤ 4096) (hb : ∀ x ∈ bs, 0 ≤ x ∧ x < 256) :
    Calls Try.prog 65 #[.pointer (some ⟨p, 0, none⟩), .int .i64 k] w fun e w' => e = .returned (.int .i64 (wAt bs k)) ∧ Owns B W w' (G.set i (memG p bw bb ws bs (wrap64 (n + 1)))) := by
  have c1 := plain_byte i k h hi hl
  rcases bool_cases (b := wIn bs k) with c | c
  · have e := Lib.hid c
    have e1 := Lib.hid (show wAt bs k = bs.getD k.toNat 0 by unfold wAt; rw [if_pos c])
    obtain ⟨q, hq⟩ : ∃ q : Nat, k = q := ⟨k.toNat, by have := wIn_iff.1 c; omega⟩
    subst hq
    have hq : q < bs.length := by have := wIn_iff.1 c; omega
    have hv : 0 ≤ bs.getD q 0 ∧ bs.getD q 0 < 256 := hb _ (by rw [List.getD_eq_getElem?_getD, List.getElem?_eq_getElem hq]; exact List.getElem_mem hq)
    obtain ⟨v, hv0⟩ : ∃ v, v = bs.getD q 0 := ⟨_, rfl⟩
    have hv1 : 0 ≤ v ∧ v < 256 := by rw [hv0]; exact hv
    have ev := Lib.hid hv0
    obtain ⟨hv2, hv3⟩ := hv1
    clear c hv hv0
    go_enter Try.func65, Try.ntmps65
    go_wp2_with (go_at_call 87; refine c1.mono ?_; rw [e.out]; rintro e' w1 ⟨rfl, hO⟩; obtain ⟨-, c0, -⟩ := mem_cells hO (set_get hi _); have ck := mem_byte hO (set_get hi _) q hq; rw [← ev.out] at ck)
    go_ret
    exact ⟨by rw [e1.out]; refine ret1 ?_; show _ = bs.getD q 0; rw [← ev.out], hO⟩
  · have e := Lib.hid c
    have e1 := Lib.hid (show wAt bs k = 0 by unfold wAt; rw [if_neg (by rw [c]; decide)])
    clear c
    go_enter Try.func65, Try.ntmps65
    go_wp2_with (go_at_call 87; refine c1.mono ?_; rw [e.out]; rintro e' w1 ⟨rfl, hO⟩)
    go_ret
    exact ⟨by rw [e1.out]; rfl, hO⟩
set_option maxHeartbeats 1000000 in
theorem plain_SetByte {B : Nat} {W w : World} {G : List Grp} (i : Nat) {p bw bb : Nat} {ws bs : List Int} {n : Int} (k m : Int) (h : Owns B W w G) (hi : G[i]? = some (memG p bw bb ws bs n)) (hl : bs.length ≤ 4096) :
    Calls Try.prog 63 #[.pointer (some ⟨p, 0, none⟩), .int .i64 k, .int .i64 m] w fun e w' => e = .returned (.tuple #[]) ∧ Owns B W w' (G.set i (memG p bw bb ws (wPut bs k (m % 256)) (wrap64 (n + 1)))) := by
  have c1 := plain_byte i k h hi hl
  rcases bool_cases (b := wIn bs k) with c | c
  · have e := Lib.hid c
    have e1 := Lib.hid (show wPut bs k (m % 256) = bs.set k.toNat (m % 256) by unfold wPut; rw [if_pos c])
    obtain ⟨q, hq⟩ : ∃ q : Nat, k = q := ⟨k.toNat, by have := wIn_iff.1 c; omega⟩
    subst hq
    have hq : q < bs.length := by have := wIn_iff.1 c; omega
    clear c
    go_enter Try.func63, Try.ntmps63
    go_wp2_with (go_at_call 87; refine c1.mono ?_; rw [e.out]; rintro e' w1 ⟨rfl, hO⟩; obtain ⟨-, c0, -⟩ := mem_cells hO (set_get hi _); have ck := mem_byte hO (set_get hi _) q hq; have hf := blk_free (hO.get i 2 (set_get hi _) rfl) q)
    go_end0
    refine ⟨rfl, ?_⟩
    have := mem_putb hO (set_get hi _) q (m % 256)
    rw [List.set_set] at this
    rw [e1.out]; exact this
  · have e := Lib.hid c
    have e1 := Lib.hid (show wPut bs k (m % 256) = bs by unfold wPut; rw [if_neg (by rw [c]; decide)])
    clear c
    go_enter Try.func63, Try.ntmps63
    go_wp2_with (go_at_call 87; refine c1.mono ?_; rw [e.out]; rintro e' w1 ⟨rfl, hO⟩)
    go_end0
    exact ⟨rfl, by rw [e1.out]; exact hO⟩
set_option maxHeartbeats 1000000 in
theorem plain_Cas {B : Nat} {W w : World} {G : List Grp} (i : Nat) {p bw bb : Nat} {ws bs : List Int} {n : Int} (k old m : Int) (h : Owns B W w G) (hi : G[i]? = some (memG p bw bb ws bs n)) (hl : ws.length ≤ 4096) :
    Calls Try.prog 125 #[.pointer (some ⟨p, 0, none⟩), .int .i64 k, .int .i64 old, .int .i64 m] w fun e w' => e = .returned (.bool (wCas ws k old)) ∧ Owns B W w' (G.set i (memG p bw bb (wCasPut ws k old m) bs (wrap64 (n + 1)))) := by
  have c1 := plain_word i k h hi hl
  rcases bool_cases (b := wIn ws k) with c | c
  · have e := Lib.hid c
    obtain ⟨q, hq⟩ : ∃ q : Nat, k = q := ⟨k.toNat, by have := wIn_iff.1 c; omega⟩
    subst hq
    have hq : q < ws.length := by have := wIn_iff.1 c; omega
    obtain ⟨v, hv0⟩ : ∃ v, v = ws.getD q 0 := ⟨_, rfl⟩
    have ev := Lib.hid hv0
    have e2 : wAt ws q = v := by unfold wAt; rw [if_pos c, hv0]; rfl
    clear hv0
    by_cases d : v = old
    · have e1 := Lib.hid (show wPut ws q m = ws.set q m by unfold wPut; rw [if_pos c]; rfl)
      have e3 := Lib.hid (show wCas ws q old = true by unfold wCas; rw [c, e2, d]; simp)
      have d1 : (v != old) = false := by simpa using d
      clear c d e2
      go_enter Try.func125, Try.ntmps125
      go_wp2_with (go_at_call 53; refine c1.mono ?_; rw [e.out]; rintro e' w1 ⟨rfl, hO⟩; obtain ⟨c0, -, -⟩ := mem_cells hO (set_get hi _); have ck := mem_word hO (set_get hi _) q hq; rw [← ev.out] at ck; have hf := blk_free (hO.get i 1 (set_get hi _) rfl) q)
      go_ret
      refine ⟨by rw [e3.out]; rfl, ?_⟩
      have := mem_put hO (set_get hi _) q m
      rw [List.set_set] at this
      rw [wCasPut, if_pos e3.out, e1.out]; exact this
    · have e3 := Lib.hid (show wCas ws q old = false by unfold wCas; rw [c, e2]; simpa using d)
      have d1 : (v != old) = true := by simpa using d
      clear c d e2
      go_enter Try.func125, Try.ntmps125
      go_wp2_with (go_at_call 53; refine c1.mono ?_; rw [e.out]; rintro e' w1 ⟨rfl, hO⟩; obtain ⟨c0, -, -⟩ := mem_cells hO (set_get hi _); have ck := mem_word hO (set_get hi _) q hq; rw [← ev.out] at ck; have hf := blk_free (hO.get i 1 (set_get hi _) rfl) q)
      go_ret
      exact ⟨by rw [e3.out]; rfl, by rw [wCasPut, if_neg (by rw [e3.out]; decide)]; exact hO⟩
  · have e := Lib.hid c
    have e3 := Lib.hid (show wCas ws k old = false by unfold wCas; rw [c]; rfl)
    clear c
    go_enter Try.func125, Try.ntmps125
    go_wp2_with (go_at_call 53; refine c1.mono ?_; rw [e.out]; rintro e' w1 ⟨rfl, hO⟩)
    go_ret
    exact ⟨by rw [e3.out]; rfl, by rw [wCasPut, if_neg (by rw [e3.out]; decide)]; exact hO⟩
theorem plain_Words {B : Nat} {W w : World} {G : List Grp} (i : Nat) {p bw bb : Nat} {ws bs : List Int} {n : Int} (h : Owns B W w G) (hi : G[i]? = some (memG p bw bb ws bs n)) (hl : ws.length ≤ 4096) :
    Calls Try.prog 126 #[.pointer (some ⟨p, 0, none⟩)] w fun e w' => e = .returned (.int .i64 ws.length) ∧ w = w' := by
  obtain ⟨c0, c1, c2⟩ := mem_cells h hi
  go_enter Try.func126, Try.ntmps126
  go_wp2
  go_ret
  exact ⟨rfl, rfl⟩
theorem plain_Bytes {B : Nat} {W w : World} {G : List Grp} (i : Nat) {p bw bb : Nat} {ws bs : List Int} {n : Int} (h : Owns B W w G) (hi : G[i]? = some (memG p bw bb ws bs n)) (hl : bs.length ≤ 4096) :
    Calls Try.prog 124 #[.pointer (some ⟨p, 0, none⟩)] w fun e w' => e = .returned (.int .i64 bs.length) ∧ w = w' := by
  obtain ⟨c0, c1, c2⟩ := mem_cells h hi
  go_enter Try.func124, Try.ntmps124
  go_wp2
  go_ret
  exact ⟨rfl, rfl⟩
end Go.Proofs.Ytpebepjfgnoaaaa
namespace Go.Proofs.Ytpebepjfgnoaaaa
set_option linter.unusedVariables false
set_option linter.unusedSimpArgs false
open Go.RowKit
theorem Owns.setRow {B : Nat} {W w : World} {G : List Grp} (h : Owns B W w G) (i j : Nat) {g : Grp} {b : Nat} {c : Array Value} {t : TypeId} {f : Nat × Nat} (hi : G[i]? = some g) (hj : g[j]? = some (b, .cells c t f)) (cs : Array Value) :
    Owns B W (w.setRow b cs) (G.set i (g.set j (b, .cells cs t f))) :=
  h.turn i j hi hj _ rfl rfl rfl (by simp) (setRow_heap w b c cs t f (h.get i j hi hj)) (fun k _ hne => setRow_other w b k cs hne)
theorem Owns.three {B : Nat} {W w : World} {G : List Grp} {a b c : Nat × Obj} (h : Owns B W w ([a] :: [b] :: [c] :: G)) : Owns B W w ([a, b, c] :: G) := h.join.join
theorem Owns.swap {B : Nat} {W w : World} {G : List Grp} {a b : Grp} (h : Owns B W w (a :: b :: G)) : Owns B W w (b :: a :: G) := h.perm (List.Perm.swap _ _ _)
theorem Owns.swap1 {B : Nat} {W w : World} {G : List Grp} {a b c : Grp} (h : Owns B W w (a :: b :: c :: G)) : Owns B W w (a :: c :: b :: G) := h.perm ((List.Perm.swap _ _ _).cons _)
def cMay (n b : Int) : Bool := decide (1 ≤ n ∧ n ≤ 4096 ∧ 0 ≤ b ∧ b ≤ 4096)
set_option maxHeartbeats 400000 in
theorem cells_may (n b : Int) (w : World) : Calls Try.prog 74 #[.int .i64 n, .int .i64 b] w fun e w' => e = .returned (.bool (cMay n b)) ∧ w = w' := by
  by_cases h : 1 ≤ n ∧ n ≤ 4096 ∧ 0 ≤ b ∧ b ≤ 4096
  · have e := Lib.hid (show cMay n b = true from decide_eq_true h)
    obtain ⟨h1, h2, h3, h4⟩ := h
    go_enter Try.func74, Try.ntmps74
    go_wp2
    go_ret
    exact ⟨by rw [e.out]; (first | rfl | (apply retb; first | rfl | (simp; done) | (simp; omega))), rfl⟩
  · have e := Lib.hid (show cMay n b = false from decide_eq_false h)
    by_cases h1 : 1 ≤ n
    · by_cases h2 : n ≤ 4096
      · by_cases h3 : 0 ≤ b
        · have h4 : 4096 < b := by omega
          clear h
          go_enter Try.func74, Try.ntmps74
          go_wp2
          go_ret
          exact ⟨by rw [e.out]; (first | rfl | (apply retb; first | rfl | (simp; done) | (simp; omega))), rfl⟩
        · have h3' : b < 0 := by omega
          clear h h3
          go_enter Try.func74, Try.ntmps74
          go_wp2
          go_ret
          exact ⟨by rw [e.out]; (first | rfl | (apply retb; first | rfl | (simp; done) | (simp; omega))), rfl⟩
      · have h2' : 4096 < n := by omega
        clear h h2
        go_enter Try.func74, Try.ntmps74
        go_wp2
        go_ret
        exact ⟨by rw [e.out]; (first | rfl | (apply retb; first | rfl | (simp; done) | (simp; omega))), rfl⟩
    · have h1' : n < 1 := by omega
      clear h h1
      go_enter Try.func74, Try.ntmps74
      go_wp2
      go_ret
      exact ⟨by rw [e.out]; (first | rfl | (apply retb; first | rfl | (simp; done) | (simp; omega))), rfl⟩
set_option maxHeartbeats 400000 in
theorem cells_New_no (n b : Int) (w : World) (h : cMay n b = false) : Calls Try.prog 45 #[.int .i64 n, .int .i64 b] w fun e w' => e = .returned (.pointer none) ∧ w = w' := by
  have e := Lib.hid h
  clear h
  go_enter Try.func45, Try.ntmps45
  go_wp2_with (go_at_call 74; refine (cells_may _ _ _).mono ?_; rw [e.out]; rintro e w' ⟨rfl, rfl⟩)
  go_ret
  exact ⟨rfl, rfl⟩
theorem info_int : (Try.prog.info? 3).map (fun i => (i.zero, i.size, i.bytes)) = some (some (.int .i64 0), 1, 8) := by kernel_rfl
theorem info_byte : (Try.prog.info? 5).map (fun i => (i.zero, i.size, i.bytes)) = some (some (.int .u8 0), 1, 1) := by kernel_rfl
theorem madeCells1 (v : Value) (hv : v.cells = #[v]) (n : Nat) : madeCells v.cells n = (List.replicate n v).toArray := by
  rw [hv]; unfold madeCells
  apply Array.ext_getElem?
  intro k
  by_cases h : k < n
  · simp [h, Nat.mod_one]
  · simp [h]
theorem made_ints (n : Int) (w : World) (h0 : 0 ≤ n) (h1 : n ≤ 65536) : (Instr.makeSlice 33 (.int .i64 n) (.int .i64 n)).run Try.prog w = .ok (.slice (some ⟨w.heap.size, 0, none⟩) n.toNat n.toNat) (w.alloc (.cells (intArr (List.replicate n.toNat 0)) 3)) := by
  obtain ⟨i, hi, hz, hs, hb⟩ := info_parts info_int
  have := run_make (P := Try.prog) w 33 3 i (.int .i64 0) Try.underlying33 hi hz .i64 .i64 n n h0 (Int.le_refl _) (by rw [hb]; omega) (by omega)
  rw [this, hs, Nat.mul_one, madeCells1 _ rfl]; simp [intArr]
theorem made_bytes (n : Int) (w : World) (h0 : 0 ≤ n) (h1 : n ≤ 65536) : (Instr.makeSlice 101 (.int .i64 n) (.int .i64 n)).run Try.prog w = .ok (.slice (some ⟨w.heap.size, 0, none⟩) n.toNat n.toNat) (w.alloc (.cells (byteArr (List.replicate n.toNat 0)) 5)) := by
  obtain ⟨i, hi, hz, hs, hb⟩ := info_parts info_byte
  have := run_make (P := Try.prog) w 101 5 i (.int .u8 0) Try.underlying101 hi hz .i64 .i64 n n h0 (Int.le_refl _) (by rw [hb]; omega) (by omega)
  rw [this, hs, Nat.mul_one, madeCells1 _ rfl]; simp [byteArr]
def MadeMem (B : Nat) (W : World) (G : List Grp) (n b : Nat) (e : Ending) (w' : World) : Prop :=
  ∃ p bw bb, e = .returned (.pointer (some ⟨p, 0, none⟩)) ∧ Owns B W w' (memG p bw bb (List.replicate n 0) (List.replicate b 0) 0 :: G)
set_option maxHeartbeats 1000000 in
theorem cells_New {B : Nat} {W w : World} {G : List Grp} (n b : Int) (hO : Owns B W w G) (h : cMay n b = true) : Calls Try.prog 45 #[.int .i64 n, .int .i64 b] w (MadeMem B W G n.toNat b.toNat) := by
  have e := Lib.hid h
  obtain ⟨h1, h2, h3, h4⟩ := of_decide_eq_true h
  clear h
  go_enter Try.func45, Try.ntmps45
  go_wp2_with (go_at_call 74; refine (cells_may _ _ _).mono ?_; rw [e.out]; rintro e w' ⟨rfl, rfl⟩)
  have m1 := fun w => made_ints n w (by omega) (by omega)
  have m2 := fun w => made_bytes b w (by omega) (by omega)
  go_region
  · go_wp2
    go_ret
    refine ⟨_, w.heap.size, w.heap.size + 1, rfl, ?_⟩
    have := (((hO.alloc (.cells (intArr (List.replicate n.toNat 0)) 3)).alloc (.cells (byteArr (List.replicate b.toNat 0)) 5)).alloc (plainObj w.heap.size (w.heap.size + 1) n.toNat b.toNat 0)).drew
    simp only [World.size_alloc] at this
    have := this.swap1.three
    unfold memG
    rw [List.length_replicate, List.length_replicate]
    exact this
  · go_wp2
    go_ret
    refine ⟨_, w.heap.size + 1, w.heap.size, rfl, ?_⟩
    have := (((hO.alloc (.cells (byteArr (List.replicate b.toNat 0)) 5)).alloc (.cells (intArr (List.replicate n.toNat 0)) 3)).alloc (plainObj (w.heap.size + 1) w.heap.size n.toNat b.toNat 0)).drew
    simp only [World.size_alloc] at this
    have := this.three
    unfold memG
    rw [List.length_replicate, List.length_replicate]
    exact this
def CopiedMem (B : Nat) (W : World) (G : List Grp) (ws bs : List Int) (n : Int) (e : Ending) (w' : World) : Prop :=
  ∃ p bw bb, e = .returned (.pointer (some ⟨p, 0, none⟩)) ∧ Owns B W w' (memG p bw bb ws bs n :: G)
end Go.Proofs.Ytpebepjfgnoaaaa
