/- The walks of read's machine: New, end, load. -/
import Derived.StillTailTactics
import Derived.RegionTactic
import Derived.BigRegion
import Derived.Deep.RegionHeld3
import Derived.Outline
import Derived.Deep.DeepCutAuto
import Derived.Test.YtmbkkpeepbfgoaaRdP
namespace Go.Proofs.Ytmbkkpeepbfgoaa
set_option linter.unusedVariables false
set_option linter.unusedSimpArgs false
open Go.RowKit
theorem ent_set6 {B : Nat} {W w : World} {G : List Grp} {b : Nat} {T : TypeId} {a0 a1 a2 a3 a4 a5 : Value} (h : Owns B W w ([(b, .cells #[a0, a1, a2, a3, a4, a5] T (0, 0))] :: G)) (v0 v1 v2 v3 v4 v5 : Value) :
    Owns B W ((((((w.setCell ⟨b, 0, none⟩ v0).setCell ⟨b, 1, none⟩ v1).setCell ⟨b, 2, none⟩ v2).setCell ⟨b, 3, none⟩ v3).setCell ⟨b, 4, none⟩ v4).setCell ⟨b, 5, none⟩ v5) ([(b, .cells #[v0, v1, v2, v3, v4, v5] T (0, 0))] :: G) := by
  have h0 : Owns B W _ ([(b, .cells #[v0, a1, a2, a3, a4, a5] T (0, 0))] :: G) := h.set 0 0 rfl rfl 0 v0
  have h1 : Owns B W _ ([(b, .cells #[v0, v1, a2, a3, a4, a5] T (0, 0))] :: G) := h0.set 0 0 rfl rfl 1 v1
  have h2 : Owns B W _ ([(b, .cells #[v0, v1, v2, a3, a4, a5] T (0, 0))] :: G) := h1.set 0 0 rfl rfl 2 v2
  have h3 : Owns B W _ ([(b, .cells #[v0, v1, v2, v3, a4, a5] T (0, 0))] :: G) := h2.set 0 0 rfl rfl 3 v3
  have h4 : Owns B W _ ([(b, .cells #[v0, v1, v2, v3, v4, a5] T (0, 0))] :: G) := h3.set 0 0 rfl rfl 4 v4
  exact h4.set 0 0 rfl rfl 5 v5
theorem cell_below {w w' : World} {a : Addr} {v : Value} (hb : Below w.heap.size w w') (h : w.cell? a = some v) : w'.cell? a = some v := (hb.cell (World.block_lt_of_cell? _ _ h)).trans h
theorem cell_alloc {w : World} {a : Addr} {v : Value} (o : Obj) (h : w.cell? a = some v) : (w.alloc o).cell? a = some v := cell_below (below_alloc w o) h
set_option maxRecDepth 100000 in
theorem read_nil (m : Value) (w : World) : Calls Try.prog 19 #[.pointer none, m] w fun e w' => e = .returned (resV (1, 0) true) ∧ Below w.heap.size w w' := by
  go_enter Try.func19, Try.ntmps19
  go_wp2
  exact bodyPost_ret (v := .tuple #[.agg #[.int .i64 1, .int .i64 0], .bool true]) (by simp [results, Try.results19, go_sem]) rfl ⟨rfl, by (repeat' (first | (with_reducible exact Below.refl _ _) | (with_reducible assumption) | (with_reducible refine below_drewN ?_ _) | (with_reducible refine Below.drew ?_) | (with_reducible refine Below.alloc ?_ ?_ _) | (with_reducible refine Below.setCell ?_ ?_ _) | (with_reducible refine below_via (by assumption) ?_ ?_) | go_size))⟩
set_option maxRecDepth 100000 in
theorem read_none (a : Addr) (w : World) : Calls Try.prog 19 #[.pointer (some a), .nilIface] w fun e w' => e = .returned (resV (1, 0) true) ∧ Below w.heap.size w w' := by
  go_enter Try.func19, Try.ntmps19
  go_wp2
  exact bodyPost_ret (v := .tuple #[.agg #[.int .i64 1, .int .i64 0], .bool true]) (by simp [results, Try.results19, go_sem]) rfl ⟨rfl, by (repeat' (first | (with_reducible exact Below.refl _ _) | (with_reducible assumption) | (with_reducible refine below_drewN ?_ _) | (with_reducible refine Below.drew ?_) | (with_reducible refine Below.alloc ?_ ?_ _) | (with_reducible refine Below.setCell ?_ ?_ _) | (with_reducible refine below_via (by assumption) ?_ ?_) | go_size))⟩
set_option maxRecDepth 100000 in
set_option maxHeartbeats 2000000 in
theorem read_end {B : Nat} {W w : World} {G : List Grp} (j : Nat) {x : Nat} {t s sl ge : Int} {st : Bool} {off : Int} {q : RdS} (c n : Int) (hO : Owns B W w G) (hj : G[j]? = some (rdG x t s sl ge st off q)) :
    Calls Try.prog 45 #[.pointer (some ⟨x, 0, none⟩), .agg #[.int .i64 c, .int .i64 n]] w fun r w' => r = .returned (resV (c, n) true) ∧ Owns B W w' (G.set j (rdG x t s sl ge st off { q with nx := 0 })) := by
  have c6 : w.cell? ⟨x, 6, none⟩ = some (.int .i64 q.nx) := rd_cell hO hj 6
  have hf := rd_free hO hj 6
  have hz := hO.lt j 0 hj rfl
  have hO2 := ((rd_nx hO hj 0).via (below_alloc _ (.cells #[.int .i64 c, .int .i64 n] 37))).via (below_alloc _ (.cells #[.int .i64 c, .int .i64 n] 37))
  go_enter Try.func45, Try.ntmps45
  go_wp2
  exact bodyPost_ret (v := .tuple #[.agg #[.int .i64 c, .int .i64 n], .bool true]) (by simp [results, Try.results45, go_sem]) rfl ⟨rfl, hO2⟩
set_option maxRecDepth 100000 in
set_option maxHeartbeats 8000000 in
theorem read_load {B : Nat} {W w : World} {G : List Grp} (i j : Nat) {x p bw bb : Nat} {ws bs : List Int} {n t s sl ge : Int} {st : Bool} {off : Int} {q : RdS} (hne : i ≠ j) (hO : Owns B W w G) (hi : G[i]? = some (memG p bw bb ws bs n)) (hj : G[j]? = some (rdG x t s sl ge st off q)) (hL : lOk t s) (hl : ws.length ≤ 4096) :
    Calls Try.prog 46 #[.pointer (some ⟨x, 0, none⟩), memI p] w fun r w' => r = .returned (.tuple #[.agg #[.int .i64 (uO (wAt ws (lOf t s sl 0))), .int .i64 (uG (wAt ws (lOf t s sl 0))), .int .i64 (uP (wAt ws (lOf t s sl 0))), .int .i64 (uU (wAt ws (lOf t s sl 0))), .bool (uL (wAt ws (lOf t s sl 0))), .bool (uA (wAt ws (lOf t s sl 0)))], .bool (fresh (wAt ws (lOf t s sl 0)) ge)]) ∧ ∃ m, Owns B W w' (G.set i (memG p bw bb ws bs m)) := by
  have c0 : w.cell? ⟨x, 0, none⟩ = some (.int .i64 t) := rd_cell hO hj 0
  have c1 : w.cell? ⟨x, 1, none⟩ = some (.int .i64 s) := rd_cell hO hj 1
  have c2 : w.cell? ⟨x, 2, none⟩ = some (.int .i64 sl) := rd_cell hO hj 2
  have c3 : w.cell? ⟨x, 3, none⟩ = some (.int .i64 ge) := rd_cell hO hj 3
  have hz := hO.lt j 0 hj rfl
  have ns := nil_Load (some ⟨p, 0, none⟩)
  have L := Lib.hid hL
  obtain ⟨v, hv⟩ : ∃ v, wAt ws (lOf t s sl 0) = v := ⟨_, rfl⟩
  obtain ⟨o, ho⟩ : ∃ v, lOf t s sl 0 = v := ⟨_, rfl⟩
  have HOF := Lib.hid ho
  rw [hv]
  rw [ho] at hv
  have HV := Lib.hid hv
  clear hv ho hL
  have hj1 : ∀ (y : Grp) (m : Int), (y :: G.set i (memG p bw bb ws bs m))[j + 1]? = some (rdG x t s sl ge st off q) := fun y m => by simpa using set_get_ne hj hne _
  have hj2 : ∀ (y z : Grp) (m : Int), (y :: z :: G.set i (memG p bw bb ws bs m))[j + 2]? = some (rdG x t s sl ge st off q) := fun y z m => by simpa using set_get_ne hj hne _
  have hi2 : ∀ (y z : Grp), (y :: z :: G)[i + 2]? = some (memG p bw bb ws bs n) := fun y z => by simpa using hi
  have hi1 : ∀ (y : Grp), (y :: G)[i + 1]? = some (memG p bw bb ws bs n) := fun y => by simpa using hi
  go_enter Try.func46, Try.ntmps46
  unfold memI at *
  go_upto_region 1 with fail
  have hO := hO.alloc (.cells #[.int .i64 0, .int .i64 0, .int .i64 0, .int .i64 0, .bool false, .bool false] 91)
  have hj0 : ([(w.heap.size, Obj.cells #[Value.int .i64 0, .int .i64 0, .int .i64 0, .int .i64 0, .bool false, .bool false] 91 (0, 0))] :: G)[j + 1]? = some (rdG x t s sl ge st off q) := by simpa using hj
  have hj02 : ∀ (y : Grp), (y :: [(w.heap.size, Obj.cells #[Value.int .i64 0, .int .i64 0, .int .i64 0, .int .i64 0, .bool false, .bool false] 91 (0, 0))] :: G)[j + 2]? = some (rdG x t s sl ge st off q) := fun y => by simpa using hj
  generalize hrb : w.heap.size = rb at hO hj0 hj02 ⊢
  clear hrb
  generalize w.alloc (.cells #[.int .i64 0, .int .i64 0, .int .i64 0, .int .i64 0, .bool false, .bool false] 91) = w0 at hO ⊢
  go_cut [6, 7] (fun s6 s7 wx => ∃ (eb : Nat) (m : Int), s6 = .pointer (some ⟨eb, 0, none⟩) ∧ s7 = .int .i64 (eOk v) ∧ Owns B W wx ([(eb, Obj.cells #[.int .i64 (uO v), .int .i64 (uG v), .int .i64 (uP v), .int .i64 (uU v), .bool (uL v), .bool (uA v)] 91 (0, 0))] :: [(rb, Obj.cells #[.int .i64 0, .int .i64 0, .int .i64 0, .int .i64 0, .bool false, .bool false] 91 (0, 0))] :: G.set i (memG p bw bb ws bs m)))
  case first =>
      have hA := fun o => (hO.alloc o).drew
      have hO := hO.drew
      have c0 : _ = some (Value.int .i64 t) := hO.cell (j + 1) 0 hj0 rfl 0
      have c1 : _ = some (Value.int .i64 s) := hO.cell (j + 1) 0 hj0 rfl 1
      have c2 : _ = some (Value.int .i64 sl) := hO.cell (j + 1) 0 hj0 rfl 2
      first
        | go_loud (go_region_held3 (fun w => w.cell? ⟨x, 0, none⟩ = some (.int .i64 t) ∧ w.cell? ⟨x, 1, none⟩ = some (.int .i64 s) ∧ w.cell? ⟨x, 2, none⟩ = some (.int .i64 sl)) (first | (with_reducible exact ⟨c0, c1, c2⟩) | (with_reducible exact ⟨cell_alloc _ c0, cell_alloc _ c1, cell_alloc _ c2⟩) | (refine ⟨?_, ?_, ?_⟩ <;> (repeat (rw [World.cell?_setCell_far _ _ _ _ (by exact nx)])) <;> assumption) | exact ⟨cell_alloc _ c0, cell_alloc _ c1, cell_alloc _ c2⟩) (first | (go_at_call 54; refine (layout_Entry _ _ _ _ L.out).mono ?_; rw [HOF.out]; rintro e w7 ⟨rfl, hb⟩; (first | ((with_reducible have hO := hO.via hb); have c0 := cell_below hb c0; have c1 := cell_below hb c1; have c2 := cell_below hb c2) | ((with_reducible have hO := (hO.alloc _).via hb); have c0 := cell_below hb (cell_alloc _ c0); have c1 := cell_below hb (cell_alloc _ c1); have c2 := cell_below hb (cell_alloc _ c2)) | ((with_reducible have hO := (hA _).via hb); have c0 := cell_below hb (cell_alloc _ c0); have c1 := cell_below hb (cell_alloc _ c1); have c2 := cell_below hb (cell_alloc _ c2))); have e0 := hO.get 0 0 rfl rfl; have ez := blk_lt e0; have f0 := blk_free e0 0; have f1 := blk_free e0 1; have f2 := blk_free e0 2; have f3 := blk_free e0 3; have f4 := blk_free e0 4; have f5 := blk_free e0 5; have g0 : _ = some (Value.int .i64 0) := blk_cell e0 0; have g1 : _ = some (Value.int .i64 0) := blk_cell e0 1; have g2 : _ = some (Value.int .i64 0) := blk_cell e0 2; have g3 : _ = some (Value.int .i64 0) := blk_cell e0 3; have g4 : _ = some (Value.bool false) := blk_cell e0 4; have g5 : _ = some (Value.bool false) := blk_cell e0 5; clear e0; (try (first | (with_reducible have nx := hO.ne_out 0 (j + 2) 0 0 rfl (hj2 _ _ _) rfl rfl (by omega)) | (with_reducible have nx := hO.ne_out 0 (j + 2) 0 0 rfl (hj02 _) rfl rfl (by omega)) | have nx := hO.ne_out 0 (j + 2) 0 0 rfl (hj2 _ _ _) rfl rfl (by omega)))) | (go_at_call 32; (first | ((with_reducible refine (plain_Load (i + 1) _ hO (hi1 _) hl).mono ?_); rw [HV.out]; rintro e w7 ⟨rfl, hO'⟩; have hO := hO'; have c0 : _ = some (Value.int .i64 t) := hO.cell (j + 1) 0 (hj1 _ _) rfl 0; have c1 : _ = some (Value.int .i64 s) := hO.cell (j + 1) 0 (hj1 _ _) rfl 1; have c2 : _ = some (Value.int .i64 sl) := hO.cell (j + 1) 0 (hj1 _ _) rfl 2) | ((first | (with_reducible refine (plain_Load (i + 2) _ hO (hi2 _ _) hl).mono ?_) | (with_reducible refine (plain_Load (i + 2) _ (hO.alloc _) (hi2 _ _) hl).mono ?_)); rw [HV.out]; rintro e w7 ⟨rfl, hO'⟩; have hO := hO'; have c0 : _ = some (Value.int .i64 t) := hO.cell (j + 2) 0 (hj2 _ _ _) rfl 0; have c1 : _ = some (Value.int .i64 s) := hO.cell (j + 2) 0 (hj2 _ _ _) rfl 1; have c2 : _ = some (Value.int .i64 sl) := hO.cell (j + 2) 0 (hj2 _ _ _) rfl 2; have e0 := hO.get 0 0 rfl rfl; have ez := blk_lt e0; have f0 := blk_free e0 0; have f1 := blk_free e0 1; have f2 := blk_free e0 2; have f3 := blk_free e0 3; have f4 := blk_free e0 4; have f5 := blk_free e0 5; have g0 : _ = some (Value.int .i64 0) := blk_cell e0 0; have g1 : _ = some (Value.int .i64 0) := blk_cell e0 1; have g2 : _ = some (Value.int .i64 0) := blk_cell e0 2; have g3 : _ = some (Value.int .i64 0) := blk_cell e0 3; have g4 : _ = some (Value.bool false) := blk_cell e0 4; have g5 : _ = some (Value.bool false) := blk_cell e0 5; clear e0; (try (first | (with_reducible have nx := hO.ne_out 0 (j + 2) 0 0 rfl (hj2 _ _ _) rfl rfl (by omega)) | (with_reducible have nx := hO.ne_out 0 (j + 2) 0 0 rfl (hj02 _) rfl rfl (by omega)) | have nx := hO.ne_out 0 (j + 2) 0 0 rfl (hj2 _ _ _) rfl rfl (by omega)))))) | (go_at_call 70; refine (entry_Unpack _ _).mono ?_; rintro e w7 ⟨rfl, hb⟩; (first | ((with_reducible have hO := hO.via hb); have c0 := cell_below hb c0; have c1 := cell_below hb c1; have c2 := cell_below hb c2) | ((with_reducible have hO := (hO.alloc _).via hb); have c0 := cell_below hb (cell_alloc _ c0); have c1 := cell_below hb (cell_alloc _ c1); have c2 := cell_below hb (cell_alloc _ c2)) | ((with_reducible have hO := (hA _).via hb); have c0 := cell_below hb (cell_alloc _ c0); have c1 := cell_below hb (cell_alloc _ c1); have c2 := cell_below hb (cell_alloc _ c2))); have e0 := hO.get 0 0 rfl rfl; have ez := blk_lt e0; have f0 := blk_free e0 0; have f1 := blk_free e0 1; have f2 := blk_free e0 2; have f3 := blk_free e0 3; have f4 := blk_free e0 4; have f5 := blk_free e0 5; have g0 : _ = some (Value.int .i64 0) := blk_cell e0 0; have g1 : _ = some (Value.int .i64 0) := blk_cell e0 1; have g2 : _ = some (Value.int .i64 0) := blk_cell e0 2; have g3 : _ = some (Value.int .i64 0) := blk_cell e0 3; have g4 : _ = some (Value.bool false) := blk_cell e0 4; have g5 : _ = some (Value.bool false) := blk_cell e0 5; clear e0; (try (first | (with_reducible have nx := hO.ne_out 0 (j + 2) 0 0 rfl (hj2 _ _ _) rfl rfl (by omega)) | (with_reducible have nx := hO.ne_out 0 (j + 2) 0 0 rfl (hj02 _) rfl rfl (by omega)) | have nx := hO.ne_out 0 (j + 2) 0 0 rfl (hj2 _ _ _) rfl rfl (by omega))))))
        | fail "load"
      all_goals
        go_wp2_with fail
        go_meet
        first
          | (with_reducible exact ⟨_, _, rfl, rfl, hO.alloc _⟩)
          | exact ⟨_, _, rfl, rfl, ent_set6 hO _ _ _ _ _ _⟩
  case rest =>
    obtain ⟨eb, m, rfl, h7, hO⟩ := hcut
    obtain ⟨k0, hk0⟩ : ∃ k, eOk v = k := ⟨_, rfl⟩
    obtain ⟨kA, hkA⟩ : ∃ k, uA v = k := ⟨_, rfl⟩
    obtain ⟨kG, hkG⟩ : ∃ k, uG v = k := ⟨_, rfl⟩
    have FR := show fresh v ge = (decide (k0 = 0) && (kA && decide (kG = ge))) by unfold fresh; rw [hk0, hkA, hkG]
    rw [hk0] at h7
    subst h7
    rw [hkA, hkG] at hO
    obtain ⟨b1, hb1⟩ : ∃ b, (k0 == 0) = b := ⟨_, rfl⟩
    obtain ⟨b3, hb3⟩ : ∃ b, (kG == ge) = b := ⟨_, rfl⟩
    have F2 := Lib.hid (show fresh v ge = (b1 && (kA && b3)) by rw [FR, ← hb1, ← hb3]; rfl)
    have HKA := Lib.hid hkA
    have HKG := Lib.hid hkG
    clear FR hk0 hkA hkG hj0 hj1 hi1 hi2 hj02 c0 c1 c2 c3 hi hj hz ns
    have hO2 := fun (a0 a1 a2 a3 : Value) (a4 a5 : Value) => (ent_set6 hO.swap a0 a1 a2 a3 a4 a5)
    have g0 : wc.cell? ⟨eb, 0, none⟩ = some (.int .i64 (uO v)) := hO.cell 0 0 rfl rfl 0
    have g1 : wc.cell? ⟨eb, 1, none⟩ = some (.int .i64 kG) := hO.cell 0 0 rfl rfl 1
    have g2 : wc.cell? ⟨eb, 2, none⟩ = some (.int .i64 (uP v)) := hO.cell 0 0 rfl rfl 2
    have g3 : wc.cell? ⟨eb, 3, none⟩ = some (.int .i64 (uU v)) := hO.cell 0 0 rfl rfl 3
    have g4 : wc.cell? ⟨eb, 4, none⟩ = some (.bool (uL v)) := hO.cell 0 0 rfl rfl 4
    have g5 : wc.cell? ⟨eb, 5, none⟩ = some (.bool kA) := hO.cell 0 0 rfl rfl 5
    have x3 : wc.cell? ⟨x, 3, none⟩ = some (.int .i64 ge) := hO.cell (j + 2) 0 (hj2 _ _ _) rfl 3
    have r0 : wc.cell? ⟨rb, 0, none⟩ = some (.int .i64 0) := hO.cell 1 0 rfl rfl 0
    have r1 : wc.cell? ⟨rb, 1, none⟩ = some (.int .i64 0) := hO.cell 1 0 rfl rfl 1
    have r2 : wc.cell? ⟨rb, 2, none⟩ = some (.int .i64 0) := hO.cell 1 0 rfl rfl 2
    have r3 : wc.cell? ⟨rb, 3, none⟩ = some (.int .i64 0) := hO.cell 1 0 rfl rfl 3
    have r4 : wc.cell? ⟨rb, 4, none⟩ = some (.bool false) := hO.cell 1 0 rfl rfl 4
    have r5 : wc.cell? ⟨rb, 5, none⟩ = some (.bool false) := hO.cell 1 0 rfl rfl 5
    have f0 := blk_free (hO.get 1 0 rfl rfl) 0
    have f1 := blk_free (hO.get 1 0 rfl rfl) 1
    have f2 := blk_free (hO.get 1 0 rfl rfl) 2
    have f3 := blk_free (hO.get 1 0 rfl rfl) 3
    have f4 := blk_free (hO.get 1 0 rfl rfl) 4
    have f5 := blk_free (hO.get 1 0 rfl rfl) 5
    have nb := hO.ne_out 0 1 0 0 rfl rfl rfl rfl (by decide)
    have nx := hO.ne_out (j + 2) 1 0 0 (hj2 _ _ _) rfl rfl rfl (by omega)
    cases kA
    case false =>
      cases b1 <;> cases b3
      all_goals
        go_wp2_with fail
        go_region
      all_goals
        go_wp2_with fail
        have hO4 := (ent_set6 hO.swap (.int .i64 (uO v)) (.int .i64 kG) (.int .i64 (uP v)) (.int .i64 (uU v)) (.bool (uL v)) (.bool false)).drew
        generalize World.drew _ = w9 at hO4 ⊢
        have e0 : w9.cell? ⟨rb, 0, none⟩ = some (.int .i64 (uO v)) := hO4.cell 0 0 rfl rfl 0
        have e1 : w9.cell? ⟨rb, 1, none⟩ = some (.int .i64 kG) := hO4.cell 0 0 rfl rfl 1
        have e2 : w9.cell? ⟨rb, 2, none⟩ = some (.int .i64 (uP v)) := hO4.cell 0 0 rfl rfl 2
        have e3 : w9.cell? ⟨rb, 3, none⟩ = some (.int .i64 (uU v)) := hO4.cell 0 0 rfl rfl 3
        have e4 : w9.cell? ⟨rb, 4, none⟩ = some (.bool (uL v)) := hO4.cell 0 0 rfl rfl 4
        have e5 : w9.cell? ⟨rb, 5, none⟩ = some (.bool false) := hO4.cell 0 0 rfl rfl 5
        first
          | exact bodyPost_ret (v := .tuple #[.agg #[.int .i64 (uO v), .int .i64 kG, .int .i64 (uP v), .int .i64 (uU v), .bool (uL v), .bool false], .bool true]) (by simp [results, Try.results46, go_sem, e0, e1, e2, e3, e4, e5]) rfl ⟨by rw [F2.out, HKG.out, HKA.out]; rfl, m, hO4.tail.tail⟩
          | exact bodyPost_ret (v := .tuple #[.agg #[.int .i64 (uO v), .int .i64 kG, .int .i64 (uP v), .int .i64 (uU v), .bool (uL v), .bool false], .bool false]) (by simp [results, Try.results46, go_sem, e0, e1, e2, e3, e4, e5]) rfl ⟨by rw [F2.out, HKG.out, HKA.out]; rfl, m, hO4.tail.tail⟩
    case true =>
      cases b1 <;> cases b3
      all_goals
        go_wp2_with fail
        go_region
      all_goals
        go_wp2_with fail
        have hO4 := (ent_set6 hO.swap (.int .i64 (uO v)) (.int .i64 kG) (.int .i64 (uP v)) (.int .i64 (uU v)) (.bool (uL v)) (.bool true)).drew
        generalize World.drew _ = w9 at hO4 ⊢
        have e0 : w9.cell? ⟨rb, 0, none⟩ = some (.int .i64 (uO v)) := hO4.cell 0 0 rfl rfl 0
        have e1 : w9.cell? ⟨rb, 1, none⟩ = some (.int .i64 kG) := hO4.cell 0 0 rfl rfl 1
        have e2 : w9.cell? ⟨rb, 2, none⟩ = some (.int .i64 (uP v)) := hO4.cell 0 0 rfl rfl 2
        have e3 : w9.cell? ⟨rb, 3, none⟩ = some (.int .i64 (uU v)) := hO4.cell 0 0 rfl rfl 3
        have e4 : w9.cell? ⟨rb, 4, none⟩ = some (.bool (uL v)) := hO4.cell 0 0 rfl rfl 4
        have e5 : w9.cell? ⟨rb, 5, none⟩ = some (.bool true) := hO4.cell 0 0 rfl rfl 5
        first
          | exact bodyPost_ret (v := .tuple #[.agg #[.int .i64 (uO v), .int .i64 kG, .int .i64 (uP v), .int .i64 (uU v), .bool (uL v), .bool true], .bool true]) (by simp [results, Try.results46, go_sem, e0, e1, e2, e3, e4, e5]) rfl ⟨by rw [F2.out, HKG.out, HKA.out]; rfl, m, hO4.tail.tail⟩
          | exact bodyPost_ret (v := .tuple #[.agg #[.int .i64 (uO v), .int .i64 kG, .int .i64 (uP v), .int .i64 (uU v), .bool (uL v), .bool true], .bool false]) (by simp [results, Try.results46, go_sem, e0, e1, e2, e3, e4, e5]) rfl ⟨by rw [F2.out, HKG.out, HKA.out]; rfl, m, hO4.tail.tail⟩
end Go.Proofs.Ytmbkkpeepbfgoaa
