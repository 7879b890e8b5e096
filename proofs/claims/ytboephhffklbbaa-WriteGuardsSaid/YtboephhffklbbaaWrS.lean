/- The walk of write's Step. -/
import Derived.RegionTactic
import Derived.BigRegion
import Derived.Deep.RegionHeld3
import Derived.Outline
import Derived.Deep.DeepCutAuto
import Derived.Test.YtboephhffklbbaaWrL
namespace Go.Proofs.Ytboephhffklbbaa
set_option linter.unusedVariables false
set_option linter.unusedSimpArgs false
open Go.RowKit
theorem i64wrap (n : Int) : IntKind.i64.wrap n = wrap64 n := by rw [IntKind.wrap_i64]; unfold wrap64; first | rfl | omega
set_option maxRecDepth 100000 in
set_option maxHeartbeats 8000000 in
theorem wr_Step_0 {B : Nat} {W w : World} {R0 : List Grp} {x p bw bb : Nat} {ws bs : List Int} {n : Int} {c : WrC} {v : WrV} (hO : Owns B W w (memG p bw bb ws bs n :: wrG x c v :: R0)) (hL : lOk c.t c.s) (hl : ws.length ≤ 4096) (hn : (v.nx == 0) = true) : Calls Try.prog 17 #[.pointer (some ⟨x, 0, none⟩), memI p] w (WrPost B W R0 x p bw bb c ⟨ws, bs, v, 1, true⟩) := by
  have hP := hO
  obtain ⟨c0, c1, c2, c3, c4, c5, c6, c7, c8, c9, c10, c11, cz, cf⟩ := wr_cells (j := 1) hP rfl
  have _u := And.intro hL hl
  go_enter Try.func17, Try.ntmps17
  unfold memI at *
  go_wp2
  exact bodyPost_ret (v := .tuple #[.agg #[.int .i64 1, .int .i64 0], .bool true]) (by simp [results, Try.results17, go_sem]) rfl ⟨rfl, n, hO.via (by (repeat' (first | (with_reducible exact Below.refl _ _) | (with_reducible assumption) | (with_reducible refine below_drewN ?_ _) | (with_reducible refine Below.drew ?_) | (with_reducible refine Below.alloc ?_ ?_ _) | (with_reducible refine Below.setCell ?_ ?_ _) | (with_reducible refine below_via (by assumption) ?_ ?_) | go_size)))⟩
set_option maxRecDepth 100000 in
set_option maxHeartbeats 8000000 in
theorem wr_Step_1 {B : Nat} {W w : World} {R0 : List Grp} {x p bw bb : Nat} {ws bs : List Int} {n : Int} {c : WrC} {v : WrV} (hO : Owns B W w (memG p bw bb ws bs n :: wrG x c v :: R0)) (hL : lOk c.t c.s) (hl : ws.length ≤ 4096) (h0 : (v.nx == 0) = false) (h1 : (v.nx == 1) = true) (d : Bool) (v' : WrV) (ht : ∀ {w2 : World} {R2 : List Grp}, Owns B W w2 (memG p bw bb ws bs n :: wrG x c v :: R2) → Calls Try.prog 42 #[.pointer (some ⟨x, 0, none⟩), memI p] w2 fun r w' => r = .returned (.bool d) ∧ ∃ m, Owns B W w' (memG p bw bb ws bs m :: wrG x c v' :: R2)) :
    Calls Try.prog 17 #[.pointer (some ⟨x, 0, none⟩), memI p] w (WrPost B W R0 x p bw bb c (if d = true then ⟨ws, bs, { v' with nx := 0, g := false }, 4, true⟩ else ⟨ws, bs, v', 0, false⟩)) := by
  have hP := hO
  obtain ⟨c0, c1, c2, c3, c4, c5, c6, c7, c8, c9, c10, c11, cz, cf⟩ := wr_cells (j := 1) hP rfl
  clear hP
  have _u := And.intro hL hl
  have HT := Lib.hid (fun (w2 : World) (R2 : List Grp) (k : Owns B W w2 (memG p bw bb ws bs n :: wrG x c v :: R2)) => ht k)
  clear ht
  cases d
  case false =>
    go_enter Try.func17, Try.ntmps17
    unfold memI at *
    go_wp2_with (go_at_call 42; refine stop_here ?_)
    unfold Stop
    have hP := (hO.alloc (.cells #[.int .i64 0, .int .i64 0] 41)).last; generalize w.alloc (.cells #[.int .i64 0, .int .i64 0] 41) = w1 at hP ⊢; generalize w.heap.size = rb at hP ⊢; clear hO; clear c0 c1 c2 c3 c4 c5 c6 c7 c8 c9 c10 c11 cz cf
    refine (HT.out _ _ hP).mono ?_
    rintro e w2 ⟨rfl, m, hO'⟩; clear hP; have hP := hO'; clear hO'
    have hO := Owns.perm hP (List.perm_append_singleton _ (_ :: _ :: R0)); clear hP; have rz := hO.lt 0 0 rfl rfl; have rd0 : _ = some (Value.int .i64 0) := hO.cell 0 0 rfl rfl 0; have rd1 : _ = some (Value.int .i64 0) := hO.cell 0 0 rfl rfl 1; have rf0 := blk_free (hO.get 0 0 rfl rfl) 0; have rf1 := blk_free (hO.get 0 0 rfl rfl) 1
    go_wp2_with fail; generalize hw : World.setCell (World.setCell _ _ _) _ _ = wz; have hO4 : Owns B W wz _ := hw ▸ res_set2 hO (.int .i64 0) (.int .i64 0); clear hw; have e0 := hO4.cell 0 0 rfl rfl 0; have e1 := hO4.cell 0 0 rfl rfl 1; exact bodyPost_ret (v := .tuple #[.agg #[.int .i64 0, .int .i64 0], .bool false]) (by simp [results, Try.results17, go_sem, e0, e1]) rfl ⟨rfl, _, hO4.tail⟩
  case true =>
    go_enter Try.func17, Try.ntmps17
    unfold memI at *
    go_wp2_with (go_at_call 42; refine stop_here ?_)
    unfold Stop
    have hP := (hO.alloc (.cells #[.int .i64 0, .int .i64 0] 41)).last; generalize w.alloc (.cells #[.int .i64 0, .int .i64 0] 41) = w1 at hP ⊢; generalize w.heap.size = rb at hP ⊢; clear hO; clear c0 c1 c2 c3 c4 c5 c6 c7 c8 c9 c10 c11 cz cf
    refine (HT.out _ _ hP).mono ?_
    rintro e w2 ⟨rfl, m, hO'⟩; clear hP; have hP := hO'; clear hO'
    have hO := Owns.perm hP (List.perm_append_singleton _ (_ :: _ :: R0)); clear hP
    go_wp2_with (go_at_call 43; refine (wr_end 2 4 hO rfl).mono ?_; simp only [resV]; rintro e w3 ⟨rfl, hO'⟩; have hP := hO'; clear hO'; (try simp only [List.set_cons_zero, List.set_cons_succ] at hP); clear hO; have hO := hP; clear hP; have rz := hO.lt 0 0 rfl rfl; have rd0 : _ = some (Value.int .i64 0) := hO.cell 0 0 rfl rfl 0; have rd1 : _ = some (Value.int .i64 0) := hO.cell 0 0 rfl rfl 1; have rf0 := blk_free (hO.get 0 0 rfl rfl) 0; have rf1 := blk_free (hO.get 0 0 rfl rfl) 1)
    have hO4 := res_set2 hO (.int .i64 4) (.int .i64 0)
    generalize World.setCell (World.setCell _ _ _) _ _ = wz at hO4 ⊢
    have e0 := hO4.cell 0 0 rfl rfl 0
    have e1 := hO4.cell 0 0 rfl rfl 1
    exact bodyPost_ret (v := .tuple #[.agg #[.int .i64 4, .int .i64 0], .bool true]) (by simp [results, Try.results17, go_sem, e0, e1]) rfl ⟨rfl, _, hO4.tail⟩
set_option maxRecDepth 100000 in
set_option maxHeartbeats 8000000 in
theorem wr_Step_2 {B : Nat} {W w : World} {R0 : List Grp} {x p bw bb : Nat} {ws bs : List Int} {n : Int} {c : WrC} {v : WrV} (hO : Owns B W w (memG p bw bb ws bs n :: wrG x c v :: R0)) (hL : lOk c.t c.s) (hl : ws.length ≤ 4096) (h0 : (v.nx == 0) = false) (h1 : (v.nx == 1) = false) (h2 : (v.nx == 2) = true) (ov : Int) (ho : lOf c.t c.s c.sl 0 = ov) (b : Bool) (hb : wCas ws ov v.wd = b) (v' : WrV) (hv' : v' = { v with nx := if b = true then 3 else 1, g := if b = true then true else v.g }) :
    Calls Try.prog 17 #[.pointer (some ⟨x, 0, none⟩), memI p] w (WrPost B W R0 x p bw bb c ⟨wCasPut ws ov v.wd (eGuard v.wd 1).1, bs, v', 0, false⟩) := by
  have HV := Lib.hid hv'
  clear hv'
  have hP := hO
  obtain ⟨c0, c1, c2, c3, c4, c5, c6, c7, c8, c9, c10, c11, cz, cf⟩ := wr_cells (j := 1) hP rfl
  clear hP
  have HL := Lib.hid hL
  have HO := Lib.hid ho
  have HB := Lib.hid hb
  clear hL ho hb
  go_enter Try.func17, Try.ntmps17
  unfold memI at *
  go_wp2_with (go_at_call 44; refine stop_here ?_)
  unfold Stop
  have hP := (hO.alloc (.cells #[.int .i64 0, .int .i64 0] 41)).last; generalize w.alloc (.cells #[.int .i64 0, .int .i64 0] 41) = w1 at hP ⊢; generalize w.heap.size = rb at hP ⊢; clear hO; clear c0 c1 c2 c3 c4 c5 c6 c7 c8 c9 c10 c11 cz cf
  refine (wr_guard hP HL.out hl ov HO.out b HB.out).mono ?_
  rw [← HV.out]
  rintro e w2 ⟨rfl, m, hO'⟩; clear hP; have hP := hO'; clear hO'
  have hO := Owns.perm hP (List.perm_append_singleton _ (_ :: _ :: R0)); clear hP; have rz := hO.lt 0 0 rfl rfl; have rd0 : _ = some (Value.int .i64 0) := hO.cell 0 0 rfl rfl 0; have rd1 : _ = some (Value.int .i64 0) := hO.cell 0 0 rfl rfl 1; have rf0 := blk_free (hO.get 0 0 rfl rfl) 0; have rf1 := blk_free (hO.get 0 0 rfl rfl) 1
  go_wp2_with fail; generalize hw : World.setCell (World.setCell _ _ _) _ _ = wz; have hO4 : Owns B W wz _ := hw ▸ res_set2 hO (.int .i64 0) (.int .i64 0); clear hw; have e0 := hO4.cell 0 0 rfl rfl 0; have e1 := hO4.cell 0 0 rfl rfl 1; exact bodyPost_ret (v := .tuple #[.agg #[.int .i64 0, .int .i64 0], .bool false]) (by simp [results, Try.results17, go_sem, e0, e1]) rfl ⟨rfl, _, hO4.tail⟩
set_option maxRecDepth 100000 in
set_option maxHeartbeats 8000000 in
theorem wr_Step_3 {B : Nat} {W w : World} {R0 : List Grp} {x p bw bb : Nat} {ws bs : List Int} {n : Int} {c : WrC} {v : WrV} (hO : Owns B W w (memG p bw bb ws bs n :: wrG x c v :: R0)) (hL : lOk c.t c.s) (hl : ws.length ≤ 4096) (h0 : (v.nx == 0) = false) (h1 : (v.nx == 1) = false) (h2 : (v.nx == 2) = false) (h3 : (v.nx == 3) = true) (sz : Int) (hsz : wAt ws (lOf c.t c.s c.sl 1) = sz) (d1 d2 : Bool) (hd1 : decide (c.off < 0) = d1) (hd2 : decide (sz ≤ c.off) = d2) :
    Calls Try.prog 17 #[.pointer (some ⟨x, 0, none⟩), memI p] w (WrPost B W R0 x p bw bb c (if (d1 || d2) = true then ⟨ws, bs, { v with nx := 5, kp := 5 }, 0, false⟩ else ⟨ws, bs, { v with nx := 4 }, 0, false⟩)) := by
  have ns := nil_Load (some ⟨p, 0, none⟩)
  obtain ⟨ov, ho⟩ : ∃ v, lOf c.t c.s c.sl 1 = v := ⟨_, rfl⟩
  rw [ho] at hsz
  have HL := Lib.hid hL
  have HO := Lib.hid ho
  have HZ := Lib.hid hsz
  clear hL ho hsz
  obtain ⟨q, hq⟩ : ∃ q, (if (d1 || d2) = true then (⟨ws, bs, { v with nx := 5, kp := 5 }, 0, false⟩ : WrR) else ⟨ws, bs, { v with nx := 4 }, 0, false⟩) = q := ⟨_, rfl⟩
  rw [hq]
  have HQ := Lib.hid hq
  clear hq
  have hP := hO
  obtain ⟨c0, c1, c2, c3, c4, c5, c6, c7, c8, c9, c10, c11, cz, cf⟩ := wr_cells (j := 1) hP rfl
  clear hP
  have y7 := cf 7
  have hOr := (hO.alloc (.cells #[.int .i64 0, .int .i64 0] 41))
  go_enter Try.func17, Try.ntmps17
  unfold memI at *
  go_upto_region 10 with fail
  generalize w.alloc (.cells #[.int .i64 0, .int .i64 0] 41) = w1 at hOr ⊢
  generalize w.heap.size = rb at hOr ⊢
  clear hO y7
  clear c0 c1 c2 c3 c4 c5 c6 c7 c8 c9 c10 c11 cz cf
  have hP := hOr
  clear hOr
  obtain ⟨c0, c1, c2, c3, c4, c5, c6, c7, c8, c9, c10, c11, cz, cf⟩ := wr_cells (j := 2) hP rfl
  have y7 := cf 7
  go_upto_region 11 with fail
  have hO := (wr_nx (j := 2) hP rfl 4).drew
  simp only [List.set_cons_zero, List.set_cons_succ] at hO
  clear hP
  have hP := hO
  clear hO y7
  generalize World.setCell w1 _ _ = w2 at hP ⊢
  clear c0 c1 c2 c3 c4 c5 c6 c7 c8 c9 c10 c11 cz cf
  obtain ⟨c0, c1, c2, c3, c4, c5, c6, c7, c8, c9, c10, c11, cz, cf⟩ := wr_cells (j := 2) hP rfl
  first
    | go_loud (go_region_held3 (fun w => w.cell? ⟨x, 0, none⟩ = some (.int .i64 c.t) ∧ w.cell? ⟨x, 1, none⟩ = some (.int .i64 c.s) ∧ w.cell? ⟨x, 2, none⟩ = some (.int .i64 c.sl)) (exact ⟨c0, c1, c2⟩) (first | (go_at_call 45; refine (layout_Size _ _ _ _ HL.out).mono ?_; rw [HO.out]; rintro e w7 ⟨rfl, hb⟩; have hO := hP.via hb; clear hP; have hP := hO; clear hO; clear c0 c1 c2 c3 c4 c5 c6 c7 c8 c9 c10 c11 cz cf; obtain ⟨c0, c1, c2, c3, c4, c5, c6, c7, c8, c9, c10, c11, cz, cf⟩ := wr_cells (j := 2) hP rfl) | (go_at_call 20; refine (plain_Load 1 _ hP rfl hl).mono ?_; rw [HZ.out]; rintro e w7 ⟨rfl, hO'⟩; clear hP; have hP := hO'; clear hO'; (try simp only [List.set_cons_zero, List.set_cons_succ] at hP); clear c0 c1 c2 c3 c4 c5 c6 c7 c8 c9 c10 c11 cz cf; obtain ⟨c0, c1, c2, c3, c4, c5, c6, c7, c8, c9, c10, c11, cz, cf⟩ := wr_cells (j := 2) hP rfl)))
    | fail "size"
  all_goals
    have y7 := cf 7
    have y10 := cf 10
    cases d1
    case false =>
      cases d2
      case false =>
        have e : q = ⟨ws, bs, { v with nx := 4 }, 0, false⟩ := HQ.out.symm
        subst e
        have hO := hP
        have rz := hO.lt 0 0 rfl rfl; have rd0 : _ = some (Value.int .i64 0) := hO.cell 0 0 rfl rfl 0; have rd1 : _ = some (Value.int .i64 0) := hO.cell 0 0 rfl rfl 1; have rf0 := blk_free (hO.get 0 0 rfl rfl) 0; have rf1 := blk_free (hO.get 0 0 rfl rfl) 1
        go_wp2_with fail; generalize hw : World.setCell (World.setCell _ _ _) _ _ = wz; have hO4 : Owns B W wz _ := hw ▸ res_set2 hO (.int .i64 0) (.int .i64 0); clear hw; have e0 := hO4.cell 0 0 rfl rfl 0; have e1 := hO4.cell 0 0 rfl rfl 1; exact bodyPost_ret (v := .tuple #[.agg #[.int .i64 0, .int .i64 0], .bool false]) (by simp [results, Try.results17, go_sem, e0, e1]) rfl ⟨rfl, _, hO4.tail⟩
      case true =>
        have e : q = ⟨ws, bs, { v with nx := 5, kp := 5 }, 0, false⟩ := HQ.out.symm
        subst e
        go_upto_region 23 with fail
        have hO := wr_nx (j := 2) (wr_kp (j := 2) hP rfl 5) rfl 5
        simp only [List.set_cons_zero, List.set_cons_succ] at hO
        generalize World.setCell (World.setCell _ _ _) _ _ = w8 at hO ⊢
        clear hP y7 y10
        clear c0 c1 c2 c3 c4 c5 c6 c7 c8 c9 c10 c11 cz cf
        have rz := hO.lt 0 0 rfl rfl; have rd0 : _ = some (Value.int .i64 0) := hO.cell 0 0 rfl rfl 0; have rd1 : _ = some (Value.int .i64 0) := hO.cell 0 0 rfl rfl 1; have rf0 := blk_free (hO.get 0 0 rfl rfl) 0; have rf1 := blk_free (hO.get 0 0 rfl rfl) 1
        go_wp2_with fail; generalize hw : World.setCell (World.setCell _ _ _) _ _ = wz; have hO4 : Owns B W wz _ := hw ▸ res_set2 hO (.int .i64 0) (.int .i64 0); clear hw; have e0 := hO4.cell 0 0 rfl rfl 0; have e1 := hO4.cell 0 0 rfl rfl 1; exact bodyPost_ret (v := .tuple #[.agg #[.int .i64 0, .int .i64 0], .bool false]) (by simp [results, Try.results17, go_sem, e0, e1]) rfl ⟨rfl, _, hO4.tail⟩
    case true =>
      have e : q = ⟨ws, bs, { v with nx := 5, kp := 5 }, 0, false⟩ := HQ.out.symm
      subst e
      go_upto_region 23 with fail
      have hO := wr_nx (j := 2) (wr_kp (j := 2) hP rfl 5) rfl 5
      simp only [List.set_cons_zero, List.set_cons_succ] at hO
      generalize World.setCell (World.setCell _ _ _) _ _ = w8 at hO ⊢
      clear hP y7 y10
      clear c0 c1 c2 c3 c4 c5 c6 c7 c8 c9 c10 c11 cz cf
      have rz := hO.lt 0 0 rfl rfl; have rd0 : _ = some (Value.int .i64 0) := hO.cell 0 0 rfl rfl 0; have rd1 : _ = some (Value.int .i64 0) := hO.cell 0 0 rfl rfl 1; have rf0 := blk_free (hO.get 0 0 rfl rfl) 0; have rf1 := blk_free (hO.get 0 0 rfl rfl) 1
      go_wp2_with fail; generalize hw : World.setCell (World.setCell _ _ _) _ _ = wz; have hO4 : Owns B W wz _ := hw ▸ res_set2 hO (.int .i64 0) (.int .i64 0); clear hw; have e0 := hO4.cell 0 0 rfl rfl 0; have e1 := hO4.cell 0 0 rfl rfl 1; exact bodyPost_ret (v := .tuple #[.agg #[.int .i64 0, .int .i64 0], .bool false]) (by simp [results, Try.results17, go_sem, e0, e1]) rfl ⟨rfl, _, hO4.tail⟩
set_option maxRecDepth 100000 in
set_option maxHeartbeats 8000000 in
theorem wr_Step_4 {B : Nat} {W w : World} {R0 : List Grp} {x p bw bb : Nat} {ws bs : List Int} {n : Int} {c : WrC} {v : WrV} (hO : Owns B W w (memG p bw bb ws bs n :: wrG x c v :: R0)) (hL : lOk c.t c.s) (hl : ws.length ≤ 4096) (h0 : (v.nx == 0) = false) (h1 : (v.nx == 1) = false) (h2 : (v.nx == 2) = false) (h3 : (v.nx == 3) = false) (h4 : (v.nx == 4) = true) (hbl : bs.length ≤ 4096) :
    Calls Try.prog 17 #[.pointer (some ⟨x, 0, none⟩), memI p] w (WrPost B W R0 x p bw bb c ⟨ws, wPut bs (wrap64 (v.o + c.off)) (c.b % 256), { v with nx := 5 }, 0, false⟩) := by
  have ns := nil_SetByte (some ⟨p, 0, none⟩)
  have _u := And.intro hL hl
  clear _u
  have hP := hO
  obtain ⟨c0, c1, c2, c3, c4, c5, c6, c7, c8, c9, c10, c11, cz, cf⟩ := wr_cells (j := 1) hP rfl
  clear hP
  have hOr := (hO.alloc (.cells #[.int .i64 0, .int .i64 0] 41))
  have wr := i64wrap (v.o + c.off)
  go_enter Try.func17, Try.ntmps17
  unfold memI at *
  go_upto_region 15 with fail
  generalize w.alloc (.cells #[.int .i64 0, .int .i64 0] 41) = w1 at hOr ⊢
  generalize w.heap.size = rb at hOr ⊢
  clear hO
  clear c0 c1 c2 c3 c4 c5 c6 c7 c8 c9 c10 c11 cz cf
  have hP := hOr.drew
  clear hOr
  obtain ⟨c0, c1, c2, c3, c4, c5, c6, c7, c8, c9, c10, c11, cz, cf⟩ := wr_cells (j := 2) hP rfl
  first
    | go_loud (go_region_held3 (fun w => w.cell? ⟨x, 9, none⟩ = some (.int .i64 v.o) ∧ w.cell? ⟨x, 5, none⟩ = some (.int .i64 c.off) ∧ w.cell? ⟨x, 6, none⟩ = some (.int .i64 c.b)) (exact ⟨c9, c5, c6⟩) ((go_at_call 26; refine (plain_SetByte 1 _ _ hP rfl hbl).mono ?_; rintro e w7 ⟨rfl, hO'⟩; clear hP; have hP := hO'; clear hO'; (try simp only [List.set_cons_zero, List.set_cons_succ] at hP); clear c0 c1 c2 c3 c4 c5 c6 c7 c8 c9 c10 c11 cz cf; obtain ⟨c0, c1, c2, c3, c4, c5, c6, c7, c8, c9, c10, c11, cz, cf⟩ := wr_cells (j := 2) hP rfl)))
    | fail "byte"
  all_goals
    have y7 := cf 7
    go_upto_region 23 with fail
    have hO := wr_nx (j := 2) hP rfl 5
    simp only [List.set_cons_zero, List.set_cons_succ] at hO
    generalize World.setCell _ _ _ = w8 at hO ⊢
    clear hP y7
    clear c0 c1 c2 c3 c4 c5 c6 c7 c8 c9 c10 c11 cz cf
    have rz := hO.lt 0 0 rfl rfl; have rd0 : _ = some (Value.int .i64 0) := hO.cell 0 0 rfl rfl 0; have rd1 : _ = some (Value.int .i64 0) := hO.cell 0 0 rfl rfl 1; have rf0 := blk_free (hO.get 0 0 rfl rfl) 0; have rf1 := blk_free (hO.get 0 0 rfl rfl) 1
    go_wp2_with fail; generalize hw : World.setCell (World.setCell _ _ _) _ _ = wz; have hO4 : Owns B W wz _ := hw ▸ res_set2 hO (.int .i64 0) (.int .i64 0); clear hw; have e0 := hO4.cell 0 0 rfl rfl 0; have e1 := hO4.cell 0 0 rfl rfl 1; exact bodyPost_ret (v := .tuple #[.agg #[.int .i64 0, .int .i64 0], .bool false]) (by simp [results, Try.results17, go_sem, e0, e1]) rfl ⟨rfl, _, hO4.tail⟩
set_option maxRecDepth 100000 in
set_option maxHeartbeats 8000000 in
theorem wr_Step_5 {B : Nat} {W w : World} {R0 : List Grp} {x p bw bb : Nat} {ws bs : List Int} {n : Int} {c : WrC} {v : WrV} (hO : Owns B W w (memG p bw bb ws bs n :: wrG x c v :: R0)) (hL : lOk c.t c.s) (hl : ws.length ≤ 4096) (h0 : (v.nx == 0) = false) (h1 : (v.nx == 1) = false) (h2 : (v.nx == 2) = false) (h3 : (v.nx == 3) = false) (h4 : (v.nx == 4) = false) (h5 : (v.nx == 5) = true) (u : Int) (hu : wAt ws (lOf c.t c.s c.sl 0) = u) :
    Calls Try.prog 17 #[.pointer (some ⟨x, 0, none⟩), memI p] w (WrPost B W R0 x p bw bb c ⟨ws, bs, { v with wd := u, nx := 6 }, 0, false⟩) := by
  have HL := Lib.hid hL
  have HU := Lib.hid hu
  clear hL hu
  have hP := hO
  obtain ⟨c0, c1, c2, c3, c4, c5, c6, c7, c8, c9, c10, c11, cz, cf⟩ := wr_cells (j := 1) hP rfl
  clear hP
  go_enter Try.func17, Try.ntmps17
  unfold memI at *
  go_wp2_with (go_at_call 46; refine stop_here ?_)
  unfold Stop
  have hP := (hO.alloc (.cells #[.int .i64 0, .int .i64 0] 41)).last; generalize w.alloc (.cells #[.int .i64 0, .int .i64 0] 41) = w1 at hP ⊢; generalize w.heap.size = rb at hP ⊢; clear hO; clear c0 c1 c2 c3 c4 c5 c6 c7 c8 c9 c10 c11 cz cf
  refine (wr_load hP HL.out hl u HU.out).mono ?_
  rintro e w2 ⟨rfl, m, hO'⟩; clear hP; have hP := hO'; clear hO'
  have hO := Owns.perm hP (List.perm_append_singleton _ (_ :: _ :: R0)); clear hP
  have hP := hO
  clear hO
  obtain ⟨c0, c1, c2, c3, c4, c5, c6, c7, c8, c9, c10, c11, cz, cf⟩ := wr_cells (j := 2) hP rfl
  have y7 := cf 7
  go_upto_region 23 with fail
  have hO := wr_nx (j := 2) hP rfl 6
  simp only [List.set_cons_zero, List.set_cons_succ] at hO
  generalize World.setCell _ _ _ = w8 at hO ⊢
  clear hP y7
  clear c0 c1 c2 c3 c4 c5 c6 c7 c8 c9 c10 c11 cz cf
  have rz := hO.lt 0 0 rfl rfl; have rd0 : _ = some (Value.int .i64 0) := hO.cell 0 0 rfl rfl 0; have rd1 : _ = some (Value.int .i64 0) := hO.cell 0 0 rfl rfl 1; have rf0 := blk_free (hO.get 0 0 rfl rfl) 0; have rf1 := blk_free (hO.get 0 0 rfl rfl) 1
  go_wp2_with fail; generalize hw : World.setCell (World.setCell _ _ _) _ _ = wz; have hO4 : Owns B W wz _ := hw ▸ res_set2 hO (.int .i64 0) (.int .i64 0); clear hw; have e0 := hO4.cell 0 0 rfl rfl 0; have e1 := hO4.cell 0 0 rfl rfl 1; exact bodyPost_ret (v := .tuple #[.agg #[.int .i64 0, .int .i64 0], .bool false]) (by simp [results, Try.results17, go_sem, e0, e1]) rfl ⟨rfl, _, hO4.tail⟩
set_option maxRecDepth 100000 in
set_option maxHeartbeats 8000000 in
theorem wr_Step_6 {B : Nat} {W w : World} {R0 : List Grp} {x p bw bb : Nat} {ws bs : List Int} {n : Int} {c : WrC} {v : WrV} (hO : Owns B W w (memG p bw bb ws bs n :: wrG x c v :: R0)) (hL : lOk c.t c.s) (hl : ws.length ≤ 4096) (h0 : (v.nx == 0) = false) (h1 : (v.nx == 1) = false) (h2 : (v.nx == 2) = false) (h3 : (v.nx == 3) = false) (h4 : (v.nx == 4) = false) (h5 : (v.nx == 5) = false) (h6 : (v.nx == 6) = true) (ov : Int) (ho : lOf c.t c.s c.sl 0 = ov) (b : Bool) (hb : wCas ws ov v.wd = b) (g1 g2 : Int) (hg : eGuard v.wd (-1) = (g1, g2)) (d : Bool) (hd : (g2 == 0) = d) (ws' : List Int) (hws : ws' = if d = true then wCasPut ws ov v.wd g1 else ws) (q : WrR) (hq : q = if (!d || b) = true then ⟨ws', bs, { v with nx := 0, g := false }, v.kp, true⟩ else ⟨ws', bs, { v with nx := 5 }, 0, false⟩) :
    Calls Try.prog 17 #[.pointer (some ⟨x, 0, none⟩), memI p] w (WrPost B W R0 x p bw bb c q) := by
  have HL := Lib.hid hL
  have HO := Lib.hid ho
  have HB := Lib.hid hb
  have HG := Lib.hid hg
  have HD := Lib.hid hd
  have HW := Lib.hid hws
  have HQ := Lib.hid hq
  obtain ⟨f, hf⟩ : ∃ f, (!d || b) = f := ⟨_, rfl⟩
  have HF := Lib.hid hf
  clear hL ho hb hg hd hws hq hf
  have hP := hO
  obtain ⟨c0, c1, c2, c3, c4, c5, c6, c7, c8, c9, c10, c11, cz, cf⟩ := wr_cells (j := 1) hP rfl
  clear hP
  cases f
  case false =>
    have e : q = ⟨ws', bs, { v with nx := 5 }, 0, false⟩ := by rw [HQ.out, HF.out]; rfl
    subst e
    go_enter Try.func17, Try.ntmps17
    unfold memI at *
    go_wp2_with (go_at_call 47; refine stop_here ?_)
    unfold Stop
    have hP := (hO.alloc (.cells #[.int .i64 0, .int .i64 0] 41)).last; generalize w.alloc (.cells #[.int .i64 0, .int .i64 0] 41) = w1 at hP ⊢; generalize w.heap.size = rb at hP ⊢; clear hO; clear c0 c1 c2 c3 c4 c5 c6 c7 c8 c9 c10 c11 cz cf
    refine (wr_leave hP HL.out hl ov HO.out b HB.out g1 g2 HG.out d HD.out).mono ?_
    rw [HF.out, ← HW.out]
    rintro e w2 ⟨rfl, m, hO'⟩; clear hP; have hP := hO'; clear hO'
    have hO := Owns.perm hP (List.perm_append_singleton _ (_ :: _ :: R0)); clear hP; have rz := hO.lt 0 0 rfl rfl; have rd0 : _ = some (Value.int .i64 0) := hO.cell 0 0 rfl rfl 0; have rd1 : _ = some (Value.int .i64 0) := hO.cell 0 0 rfl rfl 1; have rf0 := blk_free (hO.get 0 0 rfl rfl) 0; have rf1 := blk_free (hO.get 0 0 rfl rfl) 1
    go_wp2_with fail; generalize hw : World.setCell (World.setCell _ _ _) _ _ = wz; have hO4 : Owns B W wz _ := hw ▸ res_set2 hO (.int .i64 0) (.int .i64 0); clear hw; have e0 := hO4.cell 0 0 rfl rfl 0; have e1 := hO4.cell 0 0 rfl rfl 1; exact bodyPost_ret (v := .tuple #[.agg #[.int .i64 0, .int .i64 0], .bool false]) (by simp [results, Try.results17, go_sem, e0, e1]) rfl ⟨rfl, _, hO4.tail⟩
  case true =>
    have e : q = ⟨ws', bs, { v with nx := 0, g := false }, v.kp, true⟩ := by rw [HQ.out, HF.out]; rfl
    subst e
    go_enter Try.func17, Try.ntmps17
    unfold memI at *
    go_wp2_with (go_at_call 47; refine stop_here ?_)
    unfold Stop
    have hP := (hO.alloc (.cells #[.int .i64 0, .int .i64 0] 41)).last; generalize w.alloc (.cells #[.int .i64 0, .int .i64 0] 41) = w1 at hP ⊢; generalize w.heap.size = rb at hP ⊢; clear hO; clear c0 c1 c2 c3 c4 c5 c6 c7 c8 c9 c10 c11 cz cf
    refine (wr_leave hP HL.out hl ov HO.out b HB.out g1 g2 HG.out d HD.out).mono ?_
    rw [HF.out, ← HW.out]
    rintro e w2 ⟨rfl, m, hO'⟩; clear hP; have hP := hO'; clear hO'
    have hO := Owns.perm hP (List.perm_append_singleton _ (_ :: _ :: R0)); clear hP
    have hP := hO
    clear hO
    obtain ⟨c0, c1, c2, c3, c4, c5, c6, c7, c8, c9, c10, c11, cz, cf⟩ := wr_cells (j := 2) hP rfl
    go_wp2_with (go_at_call 43; refine (wr_end 2 v.kp hP rfl).mono ?_; simp only [resV]; rintro e w3 ⟨rfl, hO'⟩; clear c0 c1 c2 c3 c4 c5 c6 c7 c8 c9 c10 c11 cz cf; clear hP; have hO := hO'; clear hO'; (try simp only [List.set_cons_zero, List.set_cons_succ] at hO); have rz := hO.lt 0 0 rfl rfl; have rd0 : _ = some (Value.int .i64 0) := hO.cell 0 0 rfl rfl 0; have rd1 : _ = some (Value.int .i64 0) := hO.cell 0 0 rfl rfl 1; have rf0 := blk_free (hO.get 0 0 rfl rfl) 0; have rf1 := blk_free (hO.get 0 0 rfl rfl) 1)
    have hO4 := res_set2 hO (.int .i64 v.kp) (.int .i64 0)
    generalize World.setCell (World.setCell _ _ _) _ _ = wz at hO4 ⊢
    have e0 := hO4.cell 0 0 rfl rfl 0
    have e1 := hO4.cell 0 0 rfl rfl 1
    exact bodyPost_ret (v := .tuple #[.agg #[.int .i64 v.kp, .int .i64 0], .bool true]) (by simp [results, Try.results17, go_sem, e0, e1]) rfl ⟨rfl, _, hO4.tail⟩
end Go.Proofs.Ytboephhffklbbaa
