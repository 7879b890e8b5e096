/- The references' cells: load, store, cas, at first. -/
import Derived.RegionTactic
import Derived.BigRegion
import Derived.Deep.RegionHeld3
import Derived.Outline
import Derived.Test.YtpebepjfgnoaaaaIni
namespace Go.Proofs.Ytpebepjfgnoaaaa
set_option linter.unusedVariables false
set_option linter.unusedSimpArgs false
open Go.RowKit
def kG (p bw : Nat) (ws : List Int) (bv : Value) (n : Int) : Grp := [(p, .cells #[.slice (some ⟨bw, 0, none⟩) ws.length ws.length, bv, .int .i64 n] 95 (0, 0)), (bw, .cells (intArr ws) 3 (0, 0))]
section
variable {B : Nat} {W w : World} {G : List Grp} {i : Nat} {p bw : Nat} {ws : List Int} {bv : Value} {n : Int} (h : Owns B W w G) (hi : G[i]? = some (kG p bw ws bv n))
include h hi
theorem k_word (q : Nat) (hq : q < ws.length) : w.cell? ⟨bw, q, none⟩ = some (.int .i64 (ws.getD q 0)) := (blk_cell (h.get i 1 hi rfl) q).trans (intArr_get ws q hq)
theorem k_step (m : Int) : Owns B W (w.setCell ⟨p, 2, none⟩ (.int .i64 m)) (G.set i (kG p bw ws bv m)) := h.set i 0 hi rfl 2 (.int .i64 m)
theorem k_put (q : Nat) (m : Int) : Owns B W (w.setCell ⟨bw, q, none⟩ (.int .i64 m)) (G.set i (kG p bw (ws.set q m) bv n)) := by
  have := h.set i 1 hi rfl q (.int .i64 m)
  rw [intArr_set] at this
  have e : kG p bw (ws.set q m) bv n = (kG p bw ws bv n).set 1 (bw, .cells (intArr (ws.set q m)) 3 (0, 0)) := by simp [kG]
  rw [e]; exact this
end
set_option maxHeartbeats 1000000 in
theorem ref05_Load {B : Nat} {W w : World} {G : List Grp} (i : Nat) {p bw : Nat} {ws : List Int} {bv : Value} {n : Int} (k : Int) (h : Owns B W w G) (hi : G[i]? = some (kG p bw ws bv n)) (hl : ws.length ≤ 4096) :
    Calls Try.prog 92 #[.pointer (some ⟨p, 0, none⟩), .int .i64 k] w fun e w' => e = .returned (.int .i64 (wAt ws k)) ∧ Owns B W w' (G.set i (kG p bw ws bv (wrap64 (n + 1)))) := by
  have c0 : w.cell? ⟨p, 0, none⟩ = some (.slice (some ⟨bw, 0, none⟩) ws.length ws.length) := h.cell i 0 hi rfl 0; have c2 : w.cell? ⟨p, 2, none⟩ = some (.int .i64 n) := h.cell i 0 hi rfl 2; have hf := blk_free (h.get i 0 hi rfl) 2; have hs := k_step h hi (wrap64 (n + 1))
  rcases bool_cases (b := wIn ws k) with c | c
  · have e1 := Lib.hid (show wAt ws k = ws.getD k.toNat 0 by unfold wAt; rw [if_pos c])
    obtain ⟨q, hq⟩ : ∃ q : Nat, k = q := ⟨k.toNat, by have := wIn_iff.1 c; omega⟩
    subst hq
    have hq : q < ws.length := by have := wIn_iff.1 c; omega
    obtain ⟨v, hv0⟩ : ∃ v, v = ws.getD q 0 := ⟨_, rfl⟩
    have ev := Lib.hid hv0
    have ck := k_word h hi q hq
    have nb := h.ne_in i 0 1 hi rfl rfl (by decide)
    rw [← hv0] at ck
    clear c hv0
    go_enter Try.func92, Try.ntmps92
    go_wp2
    go_ret
    exact ⟨by rw [e1.out]; refine ret1 ?_; show _ = ws.getD q 0; rw [← ev.out], hs⟩
  · have e1 := Lib.hid (show wAt ws k = 0 by unfold wAt; rw [if_neg (by rw [c]; decide)])
    have hk := wIn_no.1 c
    clear c
    rcases (show k < 0 ∨ (0 ≤ k ∧ (ws.length : Int) ≤ k) by omega) with h1 | ⟨h1, h2⟩
    all_goals
      clear hk
      go_enter Try.func92, Try.ntmps92
      go_wp2
      go_ret
      exact ⟨by rw [e1.out]; rfl, hs⟩
set_option maxHeartbeats 1000000 in
theorem ref05_Store {B : Nat} {W w : World} {G : List Grp} (i : Nat) {p bw : Nat} {ws : List Int} {bv : Value} {n : Int} (k m : Int) (h : Owns B W w G) (hi : G[i]? = some (kG p bw ws bv n)) (hl : ws.length ≤ 4096) :
    Calls Try.prog 25 #[.pointer (some ⟨p, 0, none⟩), .int .i64 k, .int .i64 m] w fun e w' => e = .returned (.tuple #[]) ∧ Owns B W w' (G.set i (kG p bw (wPut ws k m) bv (wrap64 (n + 1)))) := by
  have c0 : w.cell? ⟨p, 0, none⟩ = some (.slice (some ⟨bw, 0, none⟩) ws.length ws.length) := h.cell i 0 hi rfl 0; have c2 : w.cell? ⟨p, 2, none⟩ = some (.int .i64 n) := h.cell i 0 hi rfl 2; have hf := blk_free (h.get i 0 hi rfl) 2; have hs := k_step h hi (wrap64 (n + 1))
  rcases bool_cases (b := wIn ws k) with c | c
  · have e1 := Lib.hid (show wPut ws k m = ws.set k.toNat m by unfold wPut; rw [if_pos c])
    obtain ⟨q, hq⟩ : ∃ q : Nat, k = q := ⟨k.toNat, by have := wIn_iff.1 c; omega⟩
    subst hq
    have hq : q < ws.length := by have := wIn_iff.1 c; omega
    have ck := k_word h hi q hq
    have cf := blk_free (h.get i 1 hi rfl) q
    have nb := h.ne_in i 0 1 hi rfl rfl (by decide)
    clear c
    go_enter Try.func25, Try.ntmps25
    go_wp2
    go_end0
    refine ⟨rfl, ?_⟩
    have := k_put hs (set_get hi _) q m
    rw [List.set_set] at this
    rw [e1.out]; exact this
  · have e1 := Lib.hid (show wPut ws k m = ws by unfold wPut; rw [if_neg (by rw [c]; decide)])
    have hk := wIn_no.1 c
    clear c
    rcases (show k < 0 ∨ (0 ≤ k ∧ (ws.length : Int) ≤ k) by omega) with h1 | ⟨h1, h2⟩
    all_goals
      clear hk
      go_enter Try.func25, Try.ntmps25
      go_wp2
      go_end0
      exact ⟨rfl, by rw [e1.out]; exact hs⟩
set_option maxHeartbeats 1000000 in
theorem ref05_Cas {B : Nat} {W w : World} {G : List Grp} (i : Nat) {p bw : Nat} {ws : List Int} {bv : Value} {n : Int} (k old m : Int) (h : Owns B W w G) (hi : G[i]? = some (kG p bw ws bv n)) (hl : ws.length ≤ 4096) :
    Calls Try.prog 78 #[.pointer (some ⟨p, 0, none⟩), .int .i64 k, .int .i64 old, .int .i64 m] w fun e w' => e = .returned (.bool (wCas ws k old)) ∧ Owns B W w' (G.set i (kG p bw (wCasPut ws k old m) bv (wrap64 (n + 1)))) := by
  have c0 : w.cell? ⟨p, 0, none⟩ = some (.slice (some ⟨bw, 0, none⟩) ws.length ws.length) := h.cell i 0 hi rfl 0; have c2 : w.cell? ⟨p, 2, none⟩ = some (.int .i64 n) := h.cell i 0 hi rfl 2; have hf := blk_free (h.get i 0 hi rfl) 2; have hs := k_step h hi (wrap64 (n + 1))
  rcases bool_cases (b := wIn ws k) with c | c
  · obtain ⟨q, hq⟩ : ∃ q : Nat, k = q := ⟨k.toNat, by have := wIn_iff.1 c; omega⟩
    subst hq
    have hq : q < ws.length := by have := wIn_iff.1 c; omega
    obtain ⟨v, hv0⟩ : ∃ v, v = ws.getD q 0 := ⟨_, rfl⟩
    have ck := k_word h hi q hq
    have cf := blk_free (h.get i 1 hi rfl) q
    have nb := h.ne_in i 0 1 hi rfl rfl (by decide)
    rw [← hv0] at ck
    have e2 : wAt ws q = v := by unfold wAt; rw [if_pos c, hv0]; rfl
    clear hv0
    by_cases d : v = old
    · have e1 := Lib.hid (show wPut ws q m = ws.set q m by unfold wPut; rw [if_pos c]; rfl)
      have e3 := Lib.hid (show wCas ws q old = true by unfold wCas; rw [c, e2, d]; simp)
      have d1 : (v != old) = false := by simpa using d
      clear c d e2
      go_enter Try.func78, Try.ntmps78
      go_wp2
      go_ret
      refine ⟨by rw [e3.out]; rfl, ?_⟩
      have := k_put hs (set_get hi _) q m
      rw [List.set_set] at this
      rw [wCasPut, if_pos e3.out, e1.out]; exact this
    · have e3 := Lib.hid (show wCas ws q old = false by unfold wCas; rw [c, e2]; simpa using d)
      have d1 : (v != old) = true := by simpa using d
      clear c d e2
      go_enter Try.func78, Try.ntmps78
      go_wp2
      go_ret
      exact ⟨by rw [e3.out]; rfl, by rw [wCasPut, if_neg (by rw [e3.out]; decide)]; exact hs⟩
  · have e3 := Lib.hid (show wCas ws k old = false by unfold wCas; rw [c]; rfl)
    have hk := wIn_no.1 c
    clear c
    rcases (show k < 0 ∨ (0 ≤ k ∧ (ws.length : Int) ≤ k) by omega) with h1 | ⟨h1, h2⟩
    all_goals
      clear hk
      go_enter Try.func78, Try.ntmps78
      go_wp2
      go_ret
      exact ⟨by rw [e3.out]; rfl, by rw [wCasPut, if_neg (by rw [e3.out]; decide)]; exact hs⟩
theorem refStartW_init {t s : Int} (h : 1 ≤ t) : refStartW t s = initW t s := by
  unfold initW refStartW startW
  rw [List.length_replicate]
  refine setW_ext fun j hj => ?_
  rw [if_pos (by rw [lWords_ok h] at hj ⊢; omega)]
end Go.Proofs.Ytpebepjfgnoaaaa
namespace Go.Proofs.Ytpebepjfgnoaaaa
set_option linter.unusedVariables false
set_option linter.unusedSimpArgs false
open Go.RowKit
def RefMade (B : Nat) (W : World) (w : World) (G : List Grp) (e : Ending) (w' : World) : Prop :=
  ∃ p v bv, e = .returned (.pointer (some ⟨p, 0, none⟩)) ∧ Below w.heap.size w w' ∧ Owns B W w' ([(p, .cells #[v, bv, .int .i64 0] 95 (0, 0))] :: G)
theorem made3 {B : Nat} {W w : World} {G : List Grp} (hO : Owns B W w G) (o1 o2 : Obj) (v bv : Value) :
    RefMade B W w G (.returned (.pointer (some ⟨w.heap.size + 1 + 1, 0, none⟩))) (((w.alloc o1).alloc o2).alloc (.cells #[v, bv, .int .i64 0] 95)).drew := by
  have h := ((((hO.alloc o1).alloc o2).alloc (.cells #[v, bv, .int .i64 0] 95)).drop 1).drop 1
  simp only [World.size_alloc] at h
  refine ⟨_, v, bv, rfl, ?_, h.drew⟩
  exact ((((Below.refl _ _).alloc (Nat.le_refl _) _).alloc (by simp) _).alloc (by simp; omega) _).drew
theorem made3' {B : Nat} {W w : World} {G : List Grp} (hO : Owns B W w G) (o1 o2 : Obj) (v bv : Value) :
    RefMade B W w G (.returned (.pointer (some ⟨w.heap.size + 1 + 1, 0, none⟩))) (((w.drew.alloc o1).alloc o2).alloc (.cells #[v, bv, .int .i64 0] 95)) := by
  have h := ((((hO.drew.alloc o1).alloc o2).alloc (.cells #[v, bv, .int .i64 0] 95)).drop 1).drop 1
  simp only [World.size_alloc] at h
  refine ⟨_, v, bv, rfl, ?_, h⟩
  exact (((((Below.refl _ _).drew).alloc (Nat.le_refl _) _).alloc (by simp) _).alloc (by simp; omega) _)
set_option maxRecDepth 100000 in
set_option maxHeartbeats 2000000 in
theorem ref05_New {B : Nat} {W w : World} {G : List Grp} (n m : Int) (n1 : 1 ≤ n) (n2 : n ≤ 4096) (m1 : 0 ≤ m) (m2 : m ≤ 4096) (hO : Owns B W w G) : Calls Try.prog 50 #[.int .i64 n, .int .i64 m] w (RefMade B W w G) := by
  have k1 := fun w => made_ints n w (by omega) (by omega)
  have k2 := fun w => made_ints m w (by omega) (by omega)
  have hb : Below w.heap.size w w := Below.refl _ _
  have h0 := Owns.nil w
  go_enter Try.func50, Try.ntmps50
  go_wp2_with fail
  go_region
  all_goals
    go_wp2_with fail
    go_ret
    first
      | exact made3 hO _ _ _ _
      | exact made3' hO _ _ _ _
def AtFirst (B : Nat) (W : World) (G : List Grp) (t s : Int) (e : Ending) (w' : World) : Prop :=
  ∃ p bw bv, e = .returned (.pointer (some ⟨p, 0, none⟩)) ∧ Owns B W w' (kG p bw (initW t s) bv 0 :: G)
set_option maxRecDepth 100000 in
set_option maxHeartbeats 2000000 in
theorem ref10_Start {B : Nat} {W w : World} {G : List Grp} (a s t : Int) (hc : cfgOk a s t = true) (hO : Owns B W w G) : Calls Try.prog 22 #[.agg #[.int .i64 a, .int .i64 s, .int .i64 t]] w (AtFirst B W G t s) := by
  obtain ⟨h1, h2, h3, h4, h5, h6, h7⟩ := cfgOk_of hc
  have HC := Lib.hid hc
  have HW := Lib.hid (rWords_yes hc)
  clear hc h3
  have hO := hO.alloc (.cells #[.int .i64 a, .int .i64 s, .int .i64 t] 23)
  go_enter Try.func22, Try.ntmps22
  go_wp2_with fail
  generalize w.alloc (.cells #[.int .i64 a, .int .i64 s, .int .i64 t] 23) = w1 at hO ⊢
  generalize w.heap.size = cb at hO ⊢
  have hO := hO.drew
  have a0 : _ = some (Value.int .i64 a) := hO.cell 0 0 rfl rfl 0; have a1 : _ = some (Value.int .i64 s) := hO.cell 0 0 rfl rfl 1; have a2 : _ = some (Value.int .i64 t) := hO.cell 0 0 rfl rfl 2
  first
    | go_loud (go_region_held3 (fun w => w.cell? ⟨cb, 0, none⟩ = some (.int .i64 a) ∧ w.cell? ⟨cb, 1, none⟩ = some (.int .i64 s) ∧ w.cell? ⟨cb, 2, none⟩ = some (.int .i64 t)) (exact ⟨a0, a1, a2⟩) (first | (go_at_call 49; refine (ref06_Words _ _ _ _).mono ?_; rw [HW.out]; rintro e w2 ⟨rfl, hb⟩; have hO := hO.via hb; have a0 := cell_below hb a0; have a1 := cell_below hb a1; have a2 := cell_below hb a2) | (go_at_call 50; refine (ref05_New _ _ (by omega) (by omega) (by omega) (by omega) hO).mono ?_; rintro e w3 ⟨p, v, bv, rfl, hb, hO'⟩; have hO := hO'; have a0 := cell_below hb a0; have a1 := cell_below hb a1; have a2 := cell_below hb a2)))
    | fail "new"
  all_goals
    have HL := Lib.hid (refStartW_init (s := s) h6)
    go_wp2_with fail
    refine (ref06_Start a s t hO HC.out).mono ?_
    rw [HL.out]
    rintro e w4 ⟨b, rfl, hO'⟩
    have hO2 := hO'
    clear hO hO' a0 a1 a2
    have g0 : _ = some _ := hO2.cell 1 0 rfl rfl 0
    have gf := blk_free (hO2.get 1 0 rfl rfl) 0
    go_wp2_with fail
    go_ret
    have h8 := (hO2.set 1 0 rfl rfl 0 (.slice (some ⟨b, 0, none⟩) (initW t s).length (initW t s).length)).swap.join
    exact ⟨p, b, bv, rfl, h8.drop 1⟩
end Go.Proofs.Ytpebepjfgnoaaaa
