/- The walk of pin's Step. -/
import Derived.RegionTactic
import Derived.BigRegion
import Derived.Deep.RegionHeld3
import Derived.Outline
import Derived.Deep.DeepCutAuto
import Derived.Test.YtmbkkpeepbfgoaaPnL
namespace Go.Proofs.Ytmbkkpeepbfgoaa
set_option linter.unusedVariables false
set_option linter.unusedSimpArgs false
open Go.RowKit
def PnPost (B : Nat) (W : World) (R0 : List Grp) (x p bw bb : Nat) (bs : List Int) (t s sl ge : Int) (st un : Bool) (q : PinR) (e : Ending) (w' : World) : Prop :=
  e = .returned (resV (q.code, 0) q.done) ∧ ∃ m, Owns B W w' (memG p bw bb q.ws bs m :: pnG x t s sl ge st un q.nx q.wd q.tw :: R0)
set_option maxRecDepth 100000 in
set_option maxHeartbeats 8000000 in
theorem pin_Step_0 {B : Nat} {W w : World} {R0 : List Grp} {x p bw bb : Nat} {ws bs : List Int} {n t s sl ge : Int} {st un : Bool} {wd tw : Int} (hO : Owns B W w (memG p bw bb ws bs n :: pnG x t s sl ge st un 0 wd tw :: R0)) :
    Calls Try.prog 28 #[.pointer (some ⟨x, 0, none⟩), memI p] w (PnPost B W R0 x p bw bb bs t s sl ge st un (pinStep t s sl ge st un ws 0 wd tw)) := by
  have c7 : w.cell? ⟨x, 7, none⟩ = some (.int .i64 0) := hO.cell 1 0 rfl rfl 7
  have hz := hO.lt 1 0 rfl rfl
  have hQ : pinStep t s sl ge st un ws 0 wd tw = ⟨ws, 0, wd, tw, 1, true⟩ := rfl
  rw [hQ]
  clear hQ
  go_enter Try.func28, Try.ntmps28
  unfold memI at *
  go_wp2
  exact bodyPost_ret (v := .tuple #[.agg #[.int .i64 1, .int .i64 0], .bool true]) (by simp [results, Try.results28, go_sem]) rfl ⟨rfl, n, hO.via (by (repeat' (first | (with_reducible exact Below.refl _ _) | (with_reducible assumption) | (with_reducible refine below_drewN ?_ _) | (with_reducible refine Below.drew ?_) | (with_reducible refine Below.alloc ?_ ?_ _) | (with_reducible refine Below.setCell ?_ ?_ _) | (with_reducible refine below_via (by assumption) ?_ ?_) | go_size)))⟩
set_option maxRecDepth 100000 in
set_option maxHeartbeats 8000000 in
theorem pin_look {B : Nat} {W w : World} {R0 : List Grp} {x p bw bb : Nat} {ws bs : List Int} {n t s sl ge : Int} {st un : Bool} {wd tw : Int} (hO : Owns B W w (memG p bw bb ws bs n :: pnG x t s sl ge st un 1 wd tw :: R0)) (hL : lOk t s) (hl : ws.length ≤ 4096) :
    Calls Try.prog 53 #[.pointer (some ⟨x, 0, none⟩), memI p] w (PnPost B W R0 x p bw bb bs t s sl ge st un (pinStep t s sl ge st un ws 1 wd tw)) := by
  cases st
  case true =>
    refine (pin_look_stale 0 1 hO rfl rfl).mono ?_
    rintro e w' ⟨rfl, h⟩
    exact ⟨rfl, n, h⟩
  case false =>
    refine (pin_look_live hO hL hl _ rfl _ (Lib.hid rfl)).mono ?_
    rintro e w' ⟨rfl, m, h⟩
    generalize hv : wAt ws (lOf t s sl 0) = v at *
    have e1 : pinStep t s sl ge false un ws 1 wd tw = ⟨ws, (lookR ge un v 1 tw).1, v, (lookR ge un v 1 tw).2.1, (lookR ge un v 1 tw).2.2.1, (lookR ge un v 1 tw).2.2.2⟩ := by
      unfold pinStep lookR
      rw [if_neg (by decide), if_pos rfl, if_neg (by decide), hv]
      split
      · split
        · rfl
        · split <;> rfl
      · rfl
    rw [e1]
    exact ⟨rfl, m, h⟩
set_option maxRecDepth 100000 in
set_option maxHeartbeats 8000000 in
theorem pin_Step_1 {B : Nat} {W w : World} {R0 : List Grp} {x p bw bb : Nat} {ws bs : List Int} {n t s sl ge : Int} {st un : Bool} {wd tw : Int} (hO : Owns B W w (memG p bw bb ws bs n :: pnG x t s sl ge st un 1 wd tw :: R0)) (hL : lOk t s) (hl : ws.length ≤ 4096) :
    Calls Try.prog 28 #[.pointer (some ⟨x, 0, none⟩), memI p] w (PnPost B W R0 x p bw bb bs t s sl ge st un (pinStep t s sl ge st un ws 1 wd tw)) := by
  have c7 : w.cell? ⟨x, 7, none⟩ = some (.int .i64 1) := hO.cell 1 0 rfl rfl 7
  have hz := hO.lt 1 0 rfl rfl
  have HL := Lib.hid hL
  obtain ⟨ws', nx', wd', tw', cd, dn, hq⟩ : ∃ a b c d e f, pinStep t s sl ge st un ws 1 wd tw = ⟨a, b, c, d, e, f⟩ := ⟨_, _, _, _, _, _, rfl⟩
  have HQ := Lib.hid hq
  rw [hq]
  clear hq hL
  have hO1 := (hO.alloc (.cells #[.int .i64 0, .int .i64 0] 37)).last
  go_enter Try.func28, Try.ntmps28
  unfold memI at *
  go_wp2_with fail
  generalize w.alloc (.cells #[.int .i64 0, .int .i64 0] 37) = w1 at hO1 ⊢
  generalize w.heap.size = rb at hO1 ⊢
  refine (pin_look hO1 HL.out hl).mono ?_
  rw [HQ.out]
  rintro e w2 ⟨rfl, m, hO'⟩
  unfold resV
  have hO := Owns.perm hO' (List.perm_append_singleton _ (_ :: _ :: R0))
  clear hO1 hO'
  have rz := hO.lt 0 0 rfl rfl; have rd0 : _ = some (Value.int .i64 0) := hO.cell 0 0 rfl rfl 0; have rd1 : _ = some (Value.int .i64 0) := hO.cell 0 0 rfl rfl 1; have rf0 := blk_free (hO.get 0 0 rfl rfl) 0; have rf1 := blk_free (hO.get 0 0 rfl rfl) 1
  go_wp2_with fail
  have hO4 := res_set2 hO (.int .i64 cd) (.int .i64 0)
  generalize World.setCell (World.setCell _ _ _) _ _ = wz at hO4 ⊢
  have e0 := hO4.cell 0 0 rfl rfl 0
  have e1 := hO4.cell 0 0 rfl rfl 1
  exact bodyPost_ret (v := .tuple #[.agg #[.int .i64 cd, .int .i64 0], .bool dn]) (by simp [results, Try.results28, go_sem, e0, e1]) rfl ⟨rfl, m, hO4.tail⟩
set_option maxRecDepth 100000 in
set_option maxHeartbeats 8000000 in
theorem pin_Step_2 {B : Nat} {W w : World} {R0 : List Grp} {x p bw bb : Nat} {ws bs : List Int} {n t s sl ge : Int} {st un : Bool} {nx wd tw : Int} (hO : Owns B W w (memG p bw bb ws bs n :: pnG x t s sl ge st un nx wd tw :: R0)) (hL : lOk t s) (hl : ws.length ≤ 4096) (h0 : (nx == 0) = false) (h1 : (nx == 1) = false) :
    Calls Try.prog 28 #[.pointer (some ⟨x, 0, none⟩), memI p] w (PnPost B W R0 x p bw bb bs t s sl ge st un (pinStep t s sl ge st un ws nx wd tw)) := by
  have c7 : w.cell? ⟨x, 7, none⟩ = some (.int .i64 nx) := hO.cell 1 0 rfl rfl 7
  have hz := hO.lt 1 0 rfl rfl
  have ns := nil_Cas (some ⟨p, 0, none⟩)
  obtain ⟨ov, ho⟩ : ∃ v, lOf t s sl 0 = v := ⟨_, rfl⟩
  obtain ⟨b, hb⟩ : ∃ b, wCas ws ov wd = b := ⟨_, rfl⟩
  obtain ⟨q, hq⟩ : ∃ q, pinStep t s sl ge st un ws nx wd tw = q := ⟨_, rfl⟩
  have HQ := Lib.hid (show q = if b = true then ⟨wCasPut ws ov wd tw, 0, wd, tw, 0, true⟩ else ⟨ws, 1, wd, tw, 0, false⟩ by
    rw [← hq]
    unfold pinStep
    rw [if_neg (by simpa using h0), if_neg (by simpa using h1), ho, hb])
  have HB := Lib.hid hb
  have HOF := Lib.hid ho
  have HL := Lib.hid hL
  clear ho hL hb
  have hO1 := hO.alloc (.cells #[.int .i64 0, .int .i64 0] 37)
  rw [hq]
  clear hq
  go_enter Try.func28, Try.ntmps28
  unfold memI at *
  go_upto_region 5 with fail
  generalize w.alloc (.cells #[.int .i64 0, .int .i64 0] 37) = w1 at hO1 ⊢
  generalize w.heap.size = rb at hO1 ⊢
  clear hO c7 hz
  go_cut [51] (fun s51 wx => s51 = .bool b ∧ ∃ m, Owns B W wx ([(rb, Obj.cells #[Value.int .i64 0, .int .i64 0] 37 (0, 0))] :: memG p bw bb (wCasPut ws ov wd tw) bs m :: pnG x t s sl ge st un nx wd tw :: R0))
  case first =>
    have hO := hO1.drew
    have c0 : _ = some (Value.int .i64 t) := hO.cell 2 0 rfl rfl 0
    have c1 : _ = some (Value.int .i64 s) := hO.cell 2 0 rfl rfl 1
    have c2 : _ = some (Value.int .i64 sl) := hO.cell 2 0 rfl rfl 2
    have c8 : _ = some (Value.int .i64 wd) := hO.cell 2 0 rfl rfl 8
    have c9 : _ = some (Value.int .i64 tw) := hO.cell 2 0 rfl rfl 9
    first
      | go_loud (go_region_held3 (fun w => w.cell? ⟨x, 0, none⟩ = some (.int .i64 t) ∧ w.cell? ⟨x, 1, none⟩ = some (.int .i64 s) ∧ w.cell? ⟨x, 2, none⟩ = some (.int .i64 sl) ∧ w.cell? ⟨x, 8, none⟩ = some (.int .i64 wd) ∧ w.cell? ⟨x, 9, none⟩ = some (.int .i64 tw)) (exact ⟨c0, c1, c2, c8, c9⟩) (first | (go_at_call 54; refine (layout_Entry _ _ _ _ HL.out).mono ?_; rw [HOF.out]; rintro e w7 ⟨rfl, hb⟩; have hO := hO.via hb; have c0 := cell_below hb c0; have c1 := cell_below hb c1; have c2 := cell_below hb c2; have c8 := cell_below hb c8; have c9 := cell_below hb c9) | (go_at_call 119; refine (plain_Cas 1 _ _ _ hO rfl hl).mono ?_; rw [HB.out]; rintro e w7 ⟨rfl, hO'⟩; have hO := hO'; (try simp only [List.set_cons_zero, List.set_cons_succ] at hO); have c0 : _ = some (Value.int .i64 t) := hO.cell 2 0 rfl rfl 0; have c1 : _ = some (Value.int .i64 s) := hO.cell 2 0 rfl rfl 1; have c2 : _ = some (Value.int .i64 sl) := hO.cell 2 0 rfl rfl 2; have c8 : _ = some (Value.int .i64 wd) := hO.cell 2 0 rfl rfl 8; have c9 : _ = some (Value.int .i64 tw) := hO.cell 2 0 rfl rfl 9)))
      | fail "cas"
    all_goals
      go_wp2_with fail
      go_meet
      exact ⟨rfl, _, hO⟩
  case rest =>
    obtain ⟨rfl, m, hO⟩ := hcut
    clear hO1
    cases b
    case true =>
      have hQ : q = ⟨wCasPut ws ov wd tw, 0, wd, tw, 0, true⟩ := HQ.out
      subst hQ
      go_wp2_with (go_at_call 55; refine (pin_end 2 0 hO rfl).mono ?_; rintro e w2 ⟨rfl, hO'⟩; have hO := hO'; (try simp only [List.set_cons_zero, List.set_cons_succ] at hO); have rz := hO.lt 0 0 rfl rfl; have rd0 : _ = some (Value.int .i64 0) := hO.cell 0 0 rfl rfl 0; have rd1 : _ = some (Value.int .i64 0) := hO.cell 0 0 rfl rfl 1; have rf0 := blk_free (hO.get 0 0 rfl rfl) 0; have rf1 := blk_free (hO.get 0 0 rfl rfl) 1)
      have hO4 := res_set2 hO (.int .i64 0) (.int .i64 0)
      generalize World.setCell (World.setCell _ _ _) _ _ = wz at hO4 ⊢
      have e0 := hO4.cell 0 0 rfl rfl 0
      have e1 := hO4.cell 0 0 rfl rfl 1
      exact bodyPost_ret (v := .tuple #[.agg #[.int .i64 0, .int .i64 0], .bool true]) (by simp [results, Try.results28, go_sem, e0, e1]) rfl ⟨rfl, m, hO4.tail⟩
    case false =>
      have hQ : q = ⟨ws, 1, wd, tw, 0, false⟩ := HQ.out
      subst hQ
      have hC : wCasPut ws ov wd tw = ws := by unfold wCasPut; rw [HB.out]; rfl
      rw [hC] at hO
      clear hC
      obtain ⟨c0, c1, c2, c3, c4, c5, c6, c7, c8, c9⟩ := pn_cells (j := 2) hO rfl
      have y7 := pn_free (j := 2) hO rfl 7
      go_upto_region 8 with fail
      have hO := pn_next (j := 2) hO rfl 1
      simp only [List.set_cons_zero, List.set_cons_succ] at hO
      generalize World.setCell _ _ _ = wy at hO ⊢
      clear c0 c1 c2 c3 c4 c5 c6 c7 c8 c9 y7
      have rz := hO.lt 0 0 rfl rfl; have rd0 : _ = some (Value.int .i64 0) := hO.cell 0 0 rfl rfl 0; have rd1 : _ = some (Value.int .i64 0) := hO.cell 0 0 rfl rfl 1; have rf0 := blk_free (hO.get 0 0 rfl rfl) 0; have rf1 := blk_free (hO.get 0 0 rfl rfl) 1
      go_wp2_with fail
      have hO4 := res_set2 hO (.int .i64 0) (.int .i64 0)
      generalize World.setCell (World.setCell _ _ _) _ _ = wz at hO4 ⊢
      have e0 := hO4.cell 0 0 rfl rfl 0
      have e1 := hO4.cell 0 0 rfl rfl 1
      exact bodyPost_ret (v := .tuple #[.agg #[.int .i64 0, .int .i64 0], .bool false]) (by simp [results, Try.results28, go_sem, e0, e1]) rfl ⟨rfl, m, hO4.tail⟩
theorem pin_Step {B : Nat} {W w : World} {R0 : List Grp} {x p bw bb : Nat} {ws bs : List Int} {n t s sl ge : Int} {st un : Bool} {nx wd tw : Int} (hO : Owns B W w (memG p bw bb ws bs n :: pnG x t s sl ge st un nx wd tw :: R0)) (hL : lOk t s) (hl : ws.length ≤ 4096) :
    Calls Try.prog 28 #[.pointer (some ⟨x, 0, none⟩), memI p] w (PnPost B W R0 x p bw bb bs t s sl ge st un (pinStep t s sl ge st un ws nx wd tw)) := by
  by_cases h0 : nx = 0
  · subst h0; exact pin_Step_0 hO
  · by_cases h1 : nx = 1
    · subst h1; exact pin_Step_1 hO hL hl
    · exact pin_Step_2 hO hL hl (by simpa using h0) (by simpa using h1)
end Go.Proofs.Ytmbkkpeepbfgoaa
