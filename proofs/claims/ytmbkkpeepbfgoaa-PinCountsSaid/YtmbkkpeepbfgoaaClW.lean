/- The walks of plain cells. -/
import Derived.OpenShut
import Derived.RegionTactic
import Derived.Test.YtmbkkpeepbfgoaaClP
import Derived.Test.YtmbkkpeepbfgoaaFnP
import Derived.Test.YtmbkkpeepbfgoaaFnW
namespace Go.Proofs.Ytmbkkpeepbfgoaa
set_option linter.unusedVariables false
set_option linter.unusedSimpArgs false
open Go.RowKit
set_option maxHeartbeats 1000000 in
theorem plain_word {B : Nat} {W w : World} {G : List Grp} (i : Nat) {p bw bb : Nat} {ws bs : List Int} {n : Int} (k : Int) (h : Owns B W w G) (hi : G[i]? = some (memG p bw bb ws bs n)) (hl : ws.length ≤ 4096) :
    Calls Try.prog 41 #[.pointer (some ⟨p, 0, none⟩), .int .i64 k] w fun e w' => e = .returned (.bool (wIn ws k)) ∧ Owns B W w' (G.set i (memG p bw bb ws bs (wrap64 (n + 1)))) := by
  have hp := h.get i 0 hi rfl
  have hf := blk_free hp 2
  have c0 : w.cell? ⟨p, 0, none⟩ = some (.slice (some ⟨bw, 0, none⟩) ws.length ws.length) := blk_cell hp 0
  have c2 : w.cell? ⟨p, 2, none⟩ = some (.int .i64 n) := blk_cell hp 2
  have hs := h.set i 0 hi rfl 2 (.int .i64 (wrap64 (n + 1)))
  clear hp
  by_cases c : 0 ≤ k
  · by_cases d : k < ws.length
    · have e := Lib.hid (show wIn ws k = true from wIn_iff.2 ⟨c, d⟩)
      go_enter Try.func41, Try.ntmps41
      go_wp2
      go_ret
      exact ⟨by rw [e.out]; (first | rfl | (apply retb; first | rfl | (simp; done) | (simp; omega))), hs⟩
    · have e := Lib.hid (show wIn ws k = false from wIn_no.2 (fun h => d h.2))
      have d' : ws.length ≤ k := by omega
      clear d
      go_enter Try.func41, Try.ntmps41
      go_wp2
      go_ret
      exact ⟨by rw [e.out]; (first | rfl | (apply retb; first | rfl | (simp; done) | (simp; omega))), hs⟩
  · have e := Lib.hid (show wIn ws k = false from wIn_no.2 (fun h => c h.1))
    have c' : k < 0 := by omega
    clear c
    go_enter Try.func41, Try.ntmps41
    go_wp2
    go_ret
    exact ⟨by rw [e.out]; (first | rfl | (apply retb; first | rfl | (simp; done) | (simp; omega))), hs⟩
set_option maxHeartbeats 1000000 in
theorem plain_byte {B : Nat} {W w : World} {G : List Grp} (i : Nat) {p bw bb : Nat} {ws bs : List Int} {n : Int} (k : Int) (h : Owns B W w G) (hi : G[i]? = some (memG p bw bb ws bs n)) (hl : bs.length ≤ 4096) :
    Calls Try.prog 42 #[.pointer (some ⟨p, 0, none⟩), .int .i64 k] w fun e w' => e = .returned (.bool (wIn bs k)) ∧ Owns B W w' (G.set i (memG p bw bb ws bs (wrap64 (n + 1)))) := by
  have hp := h.get i 0 hi rfl
  have hf := blk_free hp 2
  have c0 : w.cell? ⟨p, 1, none⟩ = some (.slice (some ⟨bb, 0, none⟩) bs.length bs.length) := blk_cell hp 1
  have c2 : w.cell? ⟨p, 2, none⟩ = some (.int .i64 n) := blk_cell hp 2
  have hs := h.set i 0 hi rfl 2 (.int .i64 (wrap64 (n + 1)))
  clear hp
  by_cases c : 0 ≤ k
  · by_cases d : k < bs.length
    · have e := Lib.hid (show wIn bs k = true from wIn_iff.2 ⟨c, d⟩)
      go_enter Try.func42, Try.ntmps42
      go_wp2
      go_ret
      exact ⟨by rw [e.out]; (first | rfl | (apply retb; first | rfl | (simp; done) | (simp; omega))), hs⟩
    · have e := Lib.hid (show wIn bs k = false from wIn_no.2 (fun h => d h.2))
      have d' : bs.length ≤ k := by omega
      clear d
      go_enter Try.func42, Try.ntmps42
      go_wp2
      go_ret
      exact ⟨by rw [e.out]; (first | rfl | (apply retb; first | rfl | (simp; done) | (simp; omega))), hs⟩
  · have e := Lib.hid (show wIn bs k = false from wIn_no.2 (fun h => c h.1))
    have c' : k < 0 := by omega
    clear c
    go_enter Try.func42, Try.ntmps42
    go_wp2
    go_ret
    exact ⟨by rw [e.out]; (first | rfl | (apply retb; first | rfl | (simp; done) | (simp; omega))), hs⟩
set_option maxHeartbeats 1000000 in
theorem plain_Load {B : Nat} {W w : World} {G : List Grp} (i : Nat) {p bw bb : Nat} {ws bs : List Int} {n : Int} (k : Int) (h : Owns B W w G) (hi : G[i]? = some (memG p bw bb ws bs n)) (hl : ws.length ≤ 4096) :
    Calls Try.prog 32 #[.pointer (some ⟨p, 0, none⟩), .int .i64 k] w fun e w' => e = .returned (.int .i64 (wAt ws k)) ∧ Owns B W w' (G.set i (memG p bw bb ws bs (wrap64 (n + 1)))) := by
  have c1 := plain_word i k h hi hl
  rcases bool_cases (b := wIn ws k) with c | c
  · have e := Lib.hid c
    have e1 := Lib.hid (show wAt ws k = ws.getD k.toNat 0 by unfold wAt; rw [if_pos c])
    obtain ⟨q, hq⟩ : ∃ q : Nat, k = q := ⟨k.toNat, by have := wIn_iff.1 c; omega⟩
    subst hq
    have hq : q < ws.length := by have := wIn_iff.1 c; omega
    obtain ⟨v, hv0⟩ : ∃ v, v = ws.getD q 0 := ⟨_, rfl⟩
    have ev := Lib.hid hv0
    clear c hv0
    go_enter Try.func32, Try.ntmps32
    go_wp2_with (go_at_call 41; refine c1.mono ?_; rw [e.out]; rintro e' w1 ⟨rfl, hO⟩; obtain ⟨c0, -, -⟩ := mem_cells hO (set_get hi _); have ck := mem_word hO (set_get hi _) q hq; rw [← ev.out] at ck)
    go_ret
    exact ⟨by rw [e1.out]; refine ret1 ?_; show _ = ws.getD q 0; rw [← ev.out], hO⟩
  · have e := Lib.hid c
    have e1 := Lib.hid (show wAt ws k = 0 by unfold wAt; rw [if_neg (by rw [c]; decide)])
    clear c
    go_enter Try.func32, Try.ntmps32
    go_wp2_with (go_at_call 41; refine c1.mono ?_; rw [e.out]; rintro e' w1 ⟨rfl, hO⟩)
    go_ret
    exact ⟨by rw [e1.out]; rfl, hO⟩
set_option maxHeartbeats 1000000 in
theorem plain_Store {B : Nat} {W w : World} {G : List Grp} (i : Nat) {p bw bb : Nat} {ws bs : List Int} {n : Int} (k m : Int) (h : Owns B W w G) (hi : G[i]? = some (memG p bw bb ws bs n)) (hl : ws.length ≤ 4096) :
    Calls Try.prog 16 #[.pointer (some ⟨p, 0, none⟩), .int .i64 k, .int .i64 m] w fun e w' => e = .returned (.tuple #[]) ∧ Owns B W w' (G.set i (memG p bw bb (wPut ws k m) bs (wrap64 (n + 1)))) := by
  have c1 := plain_word i k h hi hl
  rcases bool_cases (b := wIn ws k) with c | c
  · have e := Lib.hid c
    have e1 := Lib.hid (show wPut ws k m = ws.set k.toNat m by unfold wPut; rw [if_pos c])
    obtain ⟨q, hq⟩ : ∃ q : Nat, k = q := ⟨k.toNat, by have := wIn_iff.1 c; omega⟩
    subst hq
    have hq : q < ws.length := by have := wIn_iff.1 c; omega
    clear c
    go_enter Try.func16, Try.ntmps16
    go_wp2_with (go_at_call 41; refine c1.mono ?_; rw [e.out]; rintro e' w1 ⟨rfl, hO⟩; obtain ⟨c0, -, -⟩ := mem_cells hO (set_get hi _); have ck := mem_word hO (set_get hi _) q hq; have hf := blk_free (hO.get i 1 (set_get hi _) rfl) q)
    go_end0
    refine ⟨rfl, ?_⟩
    have := mem_put hO (set_get hi _) q m
    rw [List.set_set] at this
    rw [e1.out]; exact this
  · have e := Lib.hid c
    have e1 := Lib.hid (show wPut ws k m = ws by unfold wPut; rw [if_neg (by rw [c]; decide)])
    clear c
    go_enter Try.func16, Try.ntmps16
    go_wp2_with (go_at_call 41; refine c1.mono ?_; rw [e.out]; rintro e' w1 ⟨rfl, hO⟩)
    go_end0
    exact ⟨rfl, by rw [e1.out]; exact hO⟩
set_option maxHeartbeats 1000000 in
theorem plain_Byte {B : Nat} {W w : World} {G : List Grp} (i : Nat) {p bw bb : Nat} {ws bs : List Int} {n : Int} (k : Int) (h : Owns B W w G) (hi : G[i]? = some (memG p bw bb ws bs n)) (hl : bs.length ≤ 4096) (hb : ∀ x ∈ bs, 0 ≤ x ∧ x < 256) :
    Calls Try.prog 117 #[.pointer (some ⟨p, 0, none⟩), .int .i64 k] w fun e w' => e = .returned (.int .i64 (wAt bs k)) ∧ Owns B W w' (G.set i (memG p bw bb ws bs (wrap64 (n + 1)))) := by
  have c1 := plain_byte i k h hi hl
  rcases bool_cases (b := wIn bs k) with c | c
  · have e := Lib.hid c
    have e1 := Lib.hid (show wAt bs k = bs.getD k.toNat 0 by unfold wAt; rw [if_pos c])
    obtain ⟨q, hq⟩ : ∃ q : Nat, k = q := ⟨k.toNat, by have := wIn_iff.1 c; omega⟩
    subst hq
    have hq : q < bs.length := by have := wIn_iff.1 c; omega
    have hv : 0 ≤ bs.getD q 0 ∧ bs.getD q 0 < 256 := hb _ (by rw [List.getD_eq_getElem?_getD, List.getElem?_eq_getElem hq]; exact List.getElem_mem hq)
    obtain ⟨v, hv0⟩ : ∃ v, v = bs.getD q 0 := ⟨_, rfl⟩
    have hv1 : 0 ≤ v ∧ v < 256 := by rw [hv0]; exact hv
    have ev := Lib.hid hv0
    obtain ⟨hv2, hv3⟩ := hv1
    clear c hv hv0
    go_enter Try.func117, Try.ntmps117
    go_wp2_with (go_at_call 42; refine c1.mono ?_; rw [e.out]; rintro e' w1 ⟨rfl, hO⟩; obtain ⟨-, c0, -⟩ := mem_cells hO (set_get hi _); have ck := mem_byte hO (set_get hi _) q hq; rw [← ev.out] at ck)
    go_ret
    exact ⟨by rw [e1.out]; refine ret1 ?_; show _ = bs.getD q 0; rw [← ev.out], hO⟩
  · have e := Lib.hid c
    have e1 := Lib.hid (show wAt bs k = 0 by unfold wAt; rw [if_neg (by rw [c]; decide)])
    clear c
    go_enter Try.func117, Try.ntmps117
    go_wp2_with (go_at_call 42; refine c1.mono ?_; rw [e.out]; rintro e' w1 ⟨rfl, hO⟩)
    go_ret
    exact ⟨by rw [e1.out]; rfl, hO⟩
set_option maxHeartbeats 1000000 in
theorem plain_SetByte {B : Nat} {W w : World} {G : List Grp} (i : Nat) {p bw bb : Nat} {ws bs : List Int} {n : Int} (k m : Int) (h : Owns B W w G) (hi : G[i]? = some (memG p bw bb ws bs n)) (hl : bs.length ≤ 4096) :
    Calls Try.prog 17 #[.pointer (some ⟨p, 0, none⟩), .int .i64 k, .int .i64 m] w fun e w' => e = .returned (.tuple #[]) ∧ Owns B W w' (G.set i (memG p bw bb ws (wPut bs k (m % 256)) (wrap64 (n + 1)))) := by
  have c1 := plain_byte i k h hi hl
  rcases bool_cases (b := wIn bs k) with c | c
  · have e := Lib.hid c
    have e1 := Lib.hid (show wPut bs k (m % 256) = bs.set k.toNat (m % 256) by unfold wPut; rw [if_pos c])
    obtain ⟨q, hq⟩ : ∃ q : Nat, k = q := ⟨k.toNat, by have := wIn_iff.1 c; omega⟩
    subst hq
    have hq : q < bs.length := by have := wIn_iff.1 c; omega
    clear c
    go_enter Try.func17, Try.ntmps17
    go_wp2_with (go_at_call 42; refine c1.mono ?_; rw [e.out]; rintro e' w1 ⟨rfl, hO⟩; obtain ⟨-, c0, -⟩ := mem_cells hO (set_get hi _); have ck := mem_byte hO (set_get hi _) q hq; have hf := blk_free (hO.get i 2 (set_get hi _) rfl) q)
    go_end0
    refine ⟨rfl, ?_⟩
    have := mem_putb hO (set_get hi _) q (m % 256)
    rw [List.set_set] at this
    rw [e1.out]; exact this
  · have e := Lib.hid c
    have e1 := Lib.hid (show wPut bs k (m % 256) = bs by unfold wPut; rw [if_neg (by rw [c]; decide)])
    clear c
    go_enter Try.func17, Try.ntmps17
    go_wp2_with (go_at_call 42; refine c1.mono ?_; rw [e.out]; rintro e' w1 ⟨rfl, hO⟩)
    go_end0
    exact ⟨rfl, by rw [e1.out]; exact hO⟩
set_option maxHeartbeats 1000000 in
theorem plain_Cas {B : Nat} {W w : World} {G : List Grp} (i : Nat) {p bw bb : Nat} {ws bs : List Int} {n : Int} (k old m : Int) (h : Owns B W w G) (hi : G[i]? = some (memG p bw bb ws bs n)) (hl : ws.length ≤ 4096) :
    Calls Try.prog 119 #[.pointer (some ⟨p, 0, none⟩), .int .i64 k, .int .i64 old, .int .i64 m] w fun e w' => e = .returned (.bool (wCas ws k old)) ∧ Owns B W w' (G.set i (memG p bw bb (wCasPut ws k old m) bs (wrap64 (n + 1)))) := by
  have c1 := plain_word i k h hi hl
  rcases bool_cases (b := wIn ws k) with c | c
  · have e := Lib.hid c
    obtain ⟨q, hq⟩ : ∃ q : Nat, k = q := ⟨k.toNat, by have := wIn_iff.1 c; omega⟩
    subst hq
    have hq : q < ws.length := by have := wIn_iff.1 c; omega
    obtain ⟨v, hv0⟩ : ∃ v, v = ws.getD q 0 := ⟨_, rfl⟩
    have ev := Lib.hid hv0
    have e2 : wAt ws q = v := by unfold wAt; rw [if_pos c, hv0]; rfl
    clear hv0
    by_cases d : v = old
    · have e1 := Lib.hid (show wPut ws q m = ws.set q m by unfold wPut; rw [if_pos c]; rfl)
      have e3 := Lib.hid (show wCas ws q old = true by unfold wCas; rw [c, e2, d]; simp)
      have d1 : (v != old) = false := by simpa using d
      clear c d e2
      go_enter Try.func119, Try.ntmps119
      go_wp2_with (go_at_call 41; refine c1.mono ?_; rw [e.out]; rintro e' w1 ⟨rfl, hO⟩; obtain ⟨c0, -, -⟩ := mem_cells hO (set_get hi _); have ck := mem_word hO (set_get hi _) q hq; rw [← ev.out] at ck; have hf := blk_free (hO.get i 1 (set_get hi _) rfl) q)
      go_ret
      refine ⟨by rw [e3.out]; rfl, ?_⟩
      have := mem_put hO (set_get hi _) q m
      rw [List.set_set] at this
      rw [wCasPut, if_pos e3.out, e1.out]; exact this
    · have e3 := Lib.hid (show wCas ws q old = false by unfold wCas; rw [c, e2]; simpa using d)
      have d1 : (v != old) = true := by simpa using d
      clear c d e2
      go_enter Try.func119, Try.ntmps119
      go_wp2_with (go_at_call 41; refine c1.mono ?_; rw [e.out]; rintro e' w1 ⟨rfl, hO⟩; obtain ⟨c0, -, -⟩ := mem_cells hO (set_get hi _); have ck := mem_word hO (set_get hi _) q hq; rw [← ev.out] at ck; have hf := blk_free (hO.get i 1 (set_get hi _) rfl) q)
      go_ret
      exact ⟨by rw [e3.out]; rfl, by rw [wCasPut, if_neg (by rw [e3.out]; decide)]; exact hO⟩
  · have e := Lib.hid c
    have e3 := Lib.hid (show wCas ws k old = false by unfold wCas; rw [c]; rfl)
    clear c
    go_enter Try.func119, Try.ntmps119
    go_wp2_with (go_at_call 41; refine c1.mono ?_; rw [e.out]; rintro e' w1 ⟨rfl, hO⟩)
    go_ret
    exact ⟨by rw [e3.out]; rfl, by rw [wCasPut, if_neg (by rw [e3.out]; decide)]; exact hO⟩
theorem plain_Words {B : Nat} {W w : World} {G : List Grp} (i : Nat) {p bw bb : Nat} {ws bs : List Int} {n : Int} (h : Owns B W w G) (hi : G[i]? = some (memG p bw bb ws bs n)) (hl : ws.length ≤ 4096) :
    Calls Try.prog 37 #[.pointer (some ⟨p, 0, none⟩)] w fun e w' => e = .returned (.int .i64 ws.length) ∧ w = w' := by
  obtain ⟨c0, c1, c2⟩ := mem_cells h hi
  go_enter Try.func37, Try.ntmps37
  go_wp2
  go_ret
  exact ⟨rfl, rfl⟩
theorem plain_Bytes {B : Nat} {W w : World} {G : List Grp} (i : Nat) {p bw bb : Nat} {ws bs : List Int} {n : Int} (h : Owns B W w G) (hi : G[i]? = some (memG p bw bb ws bs n)) (hl : bs.length ≤ 4096) :
    Calls Try.prog 118 #[.pointer (some ⟨p, 0, none⟩)] w fun e w' => e = .returned (.int .i64 bs.length) ∧ w = w' := by
  obtain ⟨c0, c1, c2⟩ := mem_cells h hi
  go_enter Try.func118, Try.ntmps118
  go_wp2
  go_ret
  exact ⟨rfl, rfl⟩
end Go.Proofs.Ytmbkkpeepbfgoaa
