/- The walk of read's Step: fetch, again. -/
import Derived.RegionTactic
import Derived.BigRegion
import Derived.Deep.RegionHeld3
import Derived.Outline
import Derived.Deep.DeepCutAuto
import Derived.Test.YtmbkkpeepbfgoaaRdS
namespace Go.Proofs.Ytmbkkpeepbfgoaa
set_option linter.unusedVariables false
set_option linter.unusedSimpArgs false
open Go.RowKit
theorem cell_off {w : World} {x k m : Nat} {v : Value} (h : k ≠ m) : (w.setCell ⟨x, k, none⟩ v).cell? ⟨x, m, none⟩ = w.cell? ⟨x, m, none⟩ := World.cell?_setCell_other _ _ _ _ (by simp [h])
def BOk (bs : List Int) : Prop := bs.length ≤ 4096 ∧ ∀ x ∈ bs, 0 ≤ x ∧ x < 256
set_option maxRecDepth 100000 in
set_option maxHeartbeats 8000000 in
theorem read_Step_fetch {B : Nat} {W w : World} {G : List Grp} (i j : Nat) {x p bw bb : Nat} {ws bs : List Int} {n t s sl ge : Int} {st : Bool} {off : Int} {o g pp u : Int} {l a : Bool} {code nn : Int} (hne : i ≠ j) (hO : Owns B W w G) (hi : G[i]? = some (memG p bw bb ws bs n)) (hL : lOk t s) (hl : ws.length ≤ 4096) (hbs : BOk bs) (hj : G[j]? = some (rdG x t s sl ge st off ⟨3, o, g, pp, u, l, a, code, nn⟩)) :
    Calls Try.prog 19 #[.pointer (some ⟨x, 0, none⟩), memI p] w (RdPost B W G i j x p bw bb ws bs t s sl ge st off (rdStep t s sl ge st off ws bs ⟨3, o, g, pp, u, l, a, code, nn⟩)) := by
  have c6 : w.cell? ⟨x, 6, none⟩ = some (.int .i64 3) := rd_cell hO hj 6
  have hz := hO.lt j 0 hj rfl
  have ns := nil_Byte (some ⟨p, 0, none⟩)
  obtain ⟨v, hv⟩ : ∃ v, wAt bs (wrap64 (o + off)) = v := ⟨_, rfl⟩
  have Q := Lib.hid (show rdStep t s sl ge st off ws bs ⟨3, o, g, pp, u, l, a, code, nn⟩ = (⟨4, o, g, pp, u, l, a, code, v⟩, (0, 0), false) by
    unfold rdStep
    simp only [hv, if_true, if_neg (by decide : ¬ (3 : Int) = 0), if_neg (by decide : ¬ (3 : Int) = 1), if_neg (by decide : ¬ (3 : Int) = 2)])
  have EW := Lib.hid (show IntKind.i64.wrap (o + off) = wrap64 (o + off) by rw [IntKind.wrap_i64]; unfold wrap64; omega)
  have HV := Lib.hid hv
  have HB := Lib.hid hbs
  have _u := And.intro hL hl
  clear hv hL
  have hO1 := hO.alloc (.cells #[.int .i64 0, .int .i64 0] 37); have hi1 := (show ([(w.heap.size, Obj.cells #[Value.int .i64 0, .int .i64 0] 37 (0, 0))] :: G)[i + 1]? = G[i]? from rfl).trans hi; have hj1 := (show ([(w.heap.size, Obj.cells #[Value.int .i64 0, .int .i64 0] 37 (0, 0))] :: G)[j + 1]? = G[j]? from rfl).trans hj; have hj2 := fun m => (show ([(w.heap.size, Obj.cells #[Value.int .i64 0, .int .i64 0] 37 (0, 0))] :: G.set i (memG p bw bb ws bs m))[j + 1]? = (G.set i (memG p bw bb ws bs m))[j]? from rfl).trans (set_get_ne hj hne _); have hne1 : i + 1 ≠ j + 1 := (by omega)
  go_enter Try.func19, Try.ntmps19
  unfold memI at *
  go_upto_region 18 with fail
  generalize w.alloc (.cells #[.int .i64 0, .int .i64 0] 37) = w1 at hO1 ⊢
  generalize w.heap.size = rb at hO1 hj1 hj2 hi1 ⊢
  have hO := hO1.drew
  have hj4 : ∀ m, ([(rb, Obj.cells #[Value.int .i64 0, .int .i64 0] 37 (0, 0))] :: G.set i (memG p bw bb ws bs m))[j + 1]? = some (rdG x t s sl ge st off ⟨3, o, g, pp, u, l, a, code, nn⟩) := hj2
  have c5 : _ = some (Value.int .i64 off) := hO.cell (j + 1) 0 hj1 rfl 5
  have c7 : _ = some (Value.int .i64 o) := hO.cell (j + 1) 0 hj1 rfl 7
  first
    | go_loud (go_region_held3 (fun w => w.cell? ⟨x, 5, none⟩ = some (.int .i64 off) ∧ w.cell? ⟨x, 7, none⟩ = some (.int .i64 o)) (first | (with_reducible exact ⟨c5, c7⟩) | exact ⟨(cell_off (by decide)).trans c5, (cell_off (by decide)).trans c7⟩ | exact ⟨(cell_off (by decide)).trans ((cell_off (by decide)).trans c5), (cell_off (by decide)).trans ((cell_off (by decide)).trans c7)⟩) ((go_at_call 117; refine (plain_Byte (i + 1) _ hO hi1 HB.out.1 HB.out.2).mono ?_; rw [EW.out, HV.out]; rintro e w7 ⟨rfl, hO'⟩; have hO := hO'; (try simp only [List.set_cons_succ] at hO); have xg := hO.get (j + 1) 0 (hj4 _) rfl; have c5 : _ = some (Value.int .i64 off) := blk_cell xg 5; have c7 : _ = some (Value.int .i64 o) := blk_cell xg 7; have x6 : _ = some (Value.int .i64 3) := blk_cell xg 6; have x14 : _ = some (Value.int .i64 nn) := blk_cell xg 14; have y6 := blk_free xg 6; have y14 := blk_free xg 14)))
    | fail "byte"
  all_goals
    have h1 := rd_set hO (hj4 _) 14 (.int .i64 v) ⟨3, o, g, pp, u, l, a, code, v⟩ rfl
    have h2 := rd_set h1 (set_get (hj4 _) _) 6 (.int .i64 4) ⟨4, o, g, pp, u, l, a, code, v⟩ rfl
    simp only [List.set_set, List.set_cons_succ] at h2
    go_upto_region 24 with fail
    generalize (World.setCell _ _ _).setCell _ _ = w8 at h2 ⊢
    have hO := h2
    have rz := hO.lt 0 0 rfl rfl; have rd0 : _ = some (Value.int .i64 0) := hO.cell 0 0 rfl rfl 0; have rd1 : _ = some (Value.int .i64 0) := hO.cell 0 0 rfl rfl 1; have rf0 := blk_free (hO.get 0 0 rfl rfl) 0; have rf1 := blk_free (hO.get 0 0 rfl rfl) 1
    have HO5 := Lib.hid hO
    clear hO h1 h2 x6 x14 y6 y14 c5 c7 c6
    go_wp2_with fail
    have hO4 := (res_set2 HO5.out (.int .i64 0) (.int .i64 0))
    generalize World.setCell (World.setCell _ _ _) _ _ = w9 at hO4 ⊢
    have e0 := hO4.cell 0 0 rfl rfl 0
    have e1 := hO4.cell 0 0 rfl rfl 1
    exact bodyPost_ret (v := .tuple #[.agg #[.int .i64 0, .int .i64 0], .bool false]) (by simp [results, Try.results19, go_sem, e0, e1]) rfl ⟨by rw [Q.out]; rfl, _, by rw [Q.out]; exact hO4.tail⟩
/-- is what was looked at still there? -/
def rdSame (v ge o : Int) : Bool := fresh v ge && (decide (uO v = o) && !uL v)
set_option maxRecDepth 100000 in
set_option maxHeartbeats 8000000 in
theorem read_Step_again {B : Nat} {W w : World} {G : List Grp} (i j : Nat) {x p bw bb : Nat} {ws bs : List Int} {n t s sl ge : Int} {st : Bool} {off : Int} {o g pp u : Int} {l a : Bool} {code nn : Int} (hne : i ≠ j) (hO : Owns B W w G) (hi : G[i]? = some (memG p bw bb ws bs n)) (hL : lOk t s) (hl : ws.length ≤ 4096) (hj : G[j]? = some (rdG x t s sl ge st off ⟨4, o, g, pp, u, l, a, code, nn⟩)) :
    Calls Try.prog 19 #[.pointer (some ⟨x, 0, none⟩), memI p] w (RdPost B W G i j x p bw bb ws bs t s sl ge st off (rdStep t s sl ge st off ws bs ⟨4, o, g, pp, u, l, a, code, nn⟩)) := by
  have c6 : w.cell? ⟨x, 6, none⟩ = some (.int .i64 4) := rd_cell hO hj 6
  have hz := hO.lt j 0 hj rfl
  obtain ⟨v, hv⟩ : ∃ v, wAt ws (lOf t s sl 0) = v := ⟨_, rfl⟩
  have HV := Lib.hid hv
  obtain ⟨bf, hbf⟩ : ∃ b, fresh v ge = b := ⟨_, rfl⟩
  have HBF := Lib.hid hbf
  obtain ⟨bl, hbl⟩ : ∃ b, uL v = b := ⟨_, rfl⟩
  have HBL := Lib.hid hbl
  obtain ⟨bo, hbo⟩ : ∃ b, (uO v == o) = b := ⟨_, rfl⟩
  obtain ⟨uo, huo⟩ : ∃ b, uO v = b := ⟨_, rfl⟩
  have HUO := Lib.hid huo
  have HL := Lib.hid hL
  have Q := Lib.hid (show rdStep t s sl ge st off ws bs ⟨4, o, g, pp, u, l, a, code, nn⟩ = (if (bf && (bo && !bl)) = true then (⟨0, o, g, pp, u, l, a, code, nn⟩, (code, nn), true) else (⟨1, o, g, pp, u, l, a, code, nn⟩, (0, 0), false)) by
    have e : decide (uO v = o) = bo := by rw [← hbo]; rfl
    unfold rdStep
    simp only [hv, hbf, hbl, e, if_true, if_neg (by decide : ¬ (4 : Int) = 0), if_neg (by decide : ¬ (4 : Int) = 1), if_neg (by decide : ¬ (4 : Int) = 2), if_neg (by decide : ¬ (4 : Int) = 3)])
  rw [huo] at hbo
  clear hv hbf hbl hL huo
  have hO1 := hO.alloc (.cells #[.int .i64 0, .int .i64 0] 37); have hi1 := (show ([(w.heap.size, Obj.cells #[Value.int .i64 0, .int .i64 0] 37 (0, 0))] :: G)[i + 1]? = G[i]? from rfl).trans hi; have hj1 := (show ([(w.heap.size, Obj.cells #[Value.int .i64 0, .int .i64 0] 37 (0, 0))] :: G)[j + 1]? = G[j]? from rfl).trans hj; have hj2 := fun m => (show ([(w.heap.size, Obj.cells #[Value.int .i64 0, .int .i64 0] 37 (0, 0))] :: G.set i (memG p bw bb ws bs m))[j + 1]? = (G.set i (memG p bw bb ws bs m))[j]? from rfl).trans (set_get_ne hj hne _); have hne1 : i + 1 ≠ j + 1 := (by omega)
  have key : ∀ R : RdS × (Int × Int) × Bool, Hid (R = (if (bf && (bo && !bl)) = true then (⟨0, o, g, pp, u, l, a, code, nn⟩, (code, nn), true) else (⟨1, o, g, pp, u, l, a, code, nn⟩, (0, 0), false))) → Calls Try.prog 19 #[.pointer (some ⟨x, 0, none⟩), memI p] w (RdPost B W G i j x p bw bb ws bs t s sl ge st off R) := by
    intro R HR
    go_enter Try.func19, Try.ntmps19
    unfold memI at *
    go_upto_region 21 with (go_at_call 46; refine (read_load (i + 1) (j + 1) hne1 hO1 hi1 hj1 HL.out hl).mono ?_; rw [HV.out, HBF.out, HBL.out, HUO.out]; rintro e w2 ⟨rfl, m, hO'⟩; have hO := hO'; (try simp only [List.set_cons_succ] at hO))
    have hO := hO.alloc (.cells #[.int .i64 uo, .int .i64 (uG v), .int .i64 (uP v), .int .i64 (uU v), .bool bl, .bool (uA v)] 91)
    generalize w2.heap.size = eb at hO ⊢
    generalize w2.alloc _ = w3 at hO ⊢
    generalize w.heap.size = rb at hO hO1 hj1 hj2 hi1 ⊢
    have hj4 : ∀ m, ([(rb, Obj.cells #[Value.int .i64 0, .int .i64 0] 37 (0, 0))] :: G.set i (memG p bw bb ws bs m))[j + 1]? = some (rdG x t s sl ge st off ⟨4, o, g, pp, u, l, a, code, nn⟩) := hj2
    have hO2 := hO.tail
    have eg := hO.get 0 0 rfl rfl
    have g0 : _ = some (Value.int .i64 uo) := blk_cell eg 0
    have g4 : _ = some (Value.bool bl) := blk_cell eg 4
    have xg := hO2.get (j + 1) 0 (hj4 _) rfl
    have x6 : _ = some (Value.int .i64 4) := blk_cell xg 6
    have x7 : _ = some (Value.int .i64 o) := blk_cell xg 7
    have x13 : _ = some (Value.int .i64 code) := blk_cell xg 13
    have x14 : _ = some (Value.int .i64 nn) := blk_cell xg 14
    have y6 := blk_free xg 6
    have HO := Lib.hid hO2
    clear hO hO2 hO' hO1 hi1 hj1 hj2 xg eg c6 hz
    cases bf <;> cases bo <;> cases bl
    all_goals
      go_upto_region 21 with fail
      go_region
    all_goals
      have hO := HO.out.drew
      clear g0 g4 x6 x7 x13 x14 y6 HO
      generalize w3.drew = w4 at hO ⊢
      have xg := hO.get (j + 1) 0 (hj4 _) rfl
      have x6 : _ = some (Value.int .i64 4) := blk_cell xg 6
      have x13 : _ = some (Value.int .i64 code) := blk_cell xg 13
      have x14 : _ = some (Value.int .i64 nn) := blk_cell xg 14
      have y6 := blk_free xg 6
      clear xg
    case' true.true.false =>
      go_wp2_with (go_at_call 45; refine (read_end (j + 1) code nn hO (hj4 _)).mono ?_; simp only [resV]; rintro e w5 ⟨rfl, hO'⟩; have hO := hO'; (try simp only [List.set_cons_succ] at hO); have rz := hO.lt 0 0 rfl rfl; have rd0 : _ = some (Value.int .i64 0) := hO.cell 0 0 rfl rfl 0; have rd1 : _ = some (Value.int .i64 0) := hO.cell 0 0 rfl rfl 1; have rf0 := blk_free (hO.get 0 0 rfl rfl) 0; have rf1 := blk_free (hO.get 0 0 rfl rfl) 1)
      have hO4 := res_set2 hO (.int .i64 code) (.int .i64 nn)
      generalize World.setCell (World.setCell _ _ _) _ _ = w9 at hO4 ⊢
      have e0 := hO4.cell 0 0 rfl rfl 0
      have e1 := hO4.cell 0 0 rfl rfl 1
      exact bodyPost_ret (v := .tuple #[.agg #[.int .i64 code, .int .i64 nn], .bool true]) (by simp [results, Try.results19, go_sem, e0, e1]) rfl ⟨by rw [HR.out]; rfl, _, by rw [HR.out]; exact hO4.tail⟩
    all_goals
      go_upto_region 24 with fail
      have h1 := rd_set hO (hj4 _) 6 (.int .i64 1) ⟨1, o, g, pp, u, l, a, code, nn⟩ rfl
      generalize World.setCell _ _ _ = w5 at h1 ⊢
      simp only [List.set_cons_succ] at h1
      have hO := h1
      have rz := hO.lt 0 0 rfl rfl; have rd0 : _ = some (Value.int .i64 0) := hO.cell 0 0 rfl rfl 0; have rd1 : _ = some (Value.int .i64 0) := hO.cell 0 0 rfl rfl 1; have rf0 := blk_free (hO.get 0 0 rfl rfl) 0; have rf1 := blk_free (hO.get 0 0 rfl rfl) 1
      have HO5 := Lib.hid hO
      clear hO h1 x6 x13 x14 y6
      go_wp2_with fail
      have hO4 := (res_set2 HO5.out (.int .i64 0) (.int .i64 0))
      generalize World.setCell (World.setCell _ _ _) _ _ = w9 at hO4 ⊢
      have e0 := hO4.cell 0 0 rfl rfl 0
      have e1 := hO4.cell 0 0 rfl rfl 1
      exact bodyPost_ret (v := .tuple #[.agg #[.int .i64 0, .int .i64 0], .bool false]) (by simp [results, Try.results19, go_sem, e0, e1]) rfl ⟨by rw [HR.out]; rfl, _, by rw [HR.out]; exact hO4.tail⟩
  rw [Q.out]
  exact key _ (Lib.hid rfl)
/-- a step of the machine, whatever its state. -/
def RdIn (q : RdS) : Prop := q.nx = 0 ∨ q.nx = 1 ∨ q.nx = 2 ∨ q.nx = 3 ∨ q.nx = 4
theorem read_Step {B : Nat} {W w : World} {G : List Grp} (i j : Nat) {x p bw bb : Nat} {ws bs : List Int} {n t s sl ge : Int} {st : Bool} {off : Int} {q : RdS} (hne : i ≠ j) (hO : Owns B W w G) (hi : G[i]? = some (memG p bw bb ws bs n)) (hL : lOk t s) (hl : ws.length ≤ 4096) (hbs : BOk bs) (hq : RdIn q) (hj : G[j]? = some (rdG x t s sl ge st off q)) :
    Calls Try.prog 19 #[.pointer (some ⟨x, 0, none⟩), memI p] w (RdPost B W G i j x p bw bb ws bs t s sl ge st off (rdStep t s sl ge st off ws bs q)) := by
  obtain ⟨nx, o, g, pp, u, l, a, code, nn⟩ := q
  rcases hq with h | h | h | h | h
  all_goals
    simp only at h
    subst h
  · exact read_Step_end i j hne hO hi hL hl hj
  · cases st
    · exact read_Step_look (st := false) i j hne hO hi hL hl hj
    · exact read_Step_stale (st := true) i j hne hO hi hL hl hj
  · exact read_Step_measure i j hne hO hi hL hl hj
  · exact read_Step_fetch i j hne hO hi hL hl hbs hj
  · exact read_Step_again i j hne hO hi hL hl hj
theorem rdStep_in (t s sl ge : Int) (st : Bool) (off : Int) (ws bs : List Int) (q : RdS) (hq : RdIn q) : RdIn (rdStep t s sl ge st off ws bs q).1 := by
  obtain ⟨nx, o, g, pp, u, l, a, code, nn⟩ := q
  unfold rdStep RdIn
  rcases hq with h | h | h | h | h
  all_goals
    simp only at h
    subst h
    simp
  all_goals (repeat' split) <;> simp
end Go.Proofs.Ytmbkkpeepbfgoaa
