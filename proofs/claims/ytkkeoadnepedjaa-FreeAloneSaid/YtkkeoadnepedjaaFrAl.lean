/- The free law FreeAlone. -/
import Derived.RegionTactic
import Derived.BigRegion
import Derived.Deep.RegionHeld3
import Derived.Outline
import Derived.Test.YtkkeoadnepedjaaFrAl0
import Derived.Test.YtkkeoadnepedjaaFrLv
namespace Go.Proofs.Ytkkeoadnepedjaa
set_option linter.unusedVariables false
set_option linter.unusedSimpArgs false
open Go.RowKit
theorem fa_lok : lOk 1 2 := .inr (by decide)
theorem fa_entry : lOf 1 2 0 0 = 5 := by decide
theorem fa_stack : lOnce 1 1 = 1 := by decide
set_option maxRecDepth 100000 in
set_option maxHeartbeats 8000000 in
theorem FreeAlone_no (o g p u : Int) (l a : Bool) (h : Int) (W : World) (x f : Int) (hp : ePack o g p u l a = (x, f)) (hf : (f != 0) = true ∨ ((f != 0) = false ∧ l = true) ∨ ((f != 0) = false ∧ l = false ∧ decide (0 < u) = true)) : Calls Try.prog 3 #[.agg #[.int .i64 o, .int .i64 g, .int .i64 p, .int .i64 u, .bool l, .bool a], .int .i64 h] W fun e w' => e = .returned (.bool true) ∧ Below W.heap.size W w' := by
  have HP := Lib.hid hp
  have ck := Lib.hid (show cfgOk 8 2 1 = true by decide)
  clear hp
  rcases hf with hf | ⟨hf, hl⟩ | ⟨hf, hl, hu⟩
  all_goals
    (try have HLL := Lib.hid hl)
    (try clear hl)
    go_enter Try.func3, Try.ntmps3
    go_wp2_with fail
    have hP := ((Owns.nil W).more (.cells #[.int .i64 o, .int .i64 g, .int .i64 p, .int .i64 u, .bool l, .bool a] 23)).more (.cells #[.int .i64 8, .int .i64 2, .int .i64 1] 25)
    simp only [World.size_alloc] at hP
    generalize hcb : W.heap.size = cb at hP ⊢
    have HC := Lib.hid hcb
    clear hcb
    generalize (W.alloc (.cells #[.int .i64 o, .int .i64 g, .int .i64 p, .int .i64 u, .bool l, .bool a] 23)).alloc (.cells #[.int .i64 8, .int .i64 2, .int .i64 1] 25) = w0 at hP ⊢
    refine (layout_Of _ _ _ _).mono ?_; rw [show ofT 8 2 1 = 1 by decide, show ofS 8 2 1 = 2 by decide, show ofE 8 2 1 = 0 by decide]; rintro e w2 ⟨rfl, hb⟩; have hO' := hP.via hb; clear hP; have hP := hO'; clear hO'
    have hO' := hP.more (.cells #[.int .i64 1, .int .i64 2] 27); clear hP; have hP := hO'; clear hO'; (try simp only [List.set_cons_zero, List.set_cons_succ, List.cons_append, List.nil_append, List.eraseIdx_cons_succ, List.eraseIdx_cons_zero] at hP)
    have e0 : _ = some (Value.int .i64 o) := hP.cell 0 0 rfl rfl 0; have e1 : _ = some (Value.int .i64 g) := hP.cell 0 0 rfl rfl 1; have e2 : _ = some (Value.int .i64 p) := hP.cell 0 0 rfl rfl 2; have e3 : _ = some (Value.int .i64 u) := hP.cell 0 0 rfl rfl 3; have e4 : _ = some (Value.bool l) := hP.cell 0 0 rfl rfl 4; have e5 : _ = some (Value.bool a) := hP.cell 0 0 rfl rfl 5
    go_wp2_with fail
    refine (ref02_Pack _ _ _ _ _ _ _).mono ?_; rw [HP.out]; rintro e wa ⟨rfl, hb⟩; have hO' := hP.via hb; clear hP; have hP := hO'; clear hO'
    clear e0 e1 e2 e3 e4 e5
    have b0 : _ = some (Value.int .i64 8) := hP.cell 1 0 rfl rfl 0; have b1 : _ = some (Value.int .i64 2) := hP.cell 1 0 rfl rfl 1; have b2 : _ = some (Value.int .i64 1) := hP.cell 1 0 rfl rfl 2
    go_wp2_with fail
    refine (law15_start 8 2 1 hP ck.out).mono ?_; rintro e w1 ⟨pm, bw, bb, m, rfl, hO'⟩; clear hP; have hP := hO'; clear hO'; (try simp only [List.set_cons_zero, List.set_cons_succ, List.cons_append, List.nil_append, List.eraseIdx_cons_succ, List.eraseIdx_cons_zero] at hP)
    clear b0 b1 b2
    (try (have hl := HLL.out; subst hl))
    have e3 : _ = some (Value.int .i64 u) := hP.cell 1 0 rfl rfl 3
    first
      | (have e4 : _ = some (Value.bool true) := hP.cell 1 0 rfl rfl 4)
      | (have e4 : _ = some (Value.bool false) := hP.cell 1 0 rfl rfl 4)
      | (have e4 : _ = some (Value.bool l) := hP.cell 1 0 rfl rfl 4)
    go_wp2_with (go_at_call 11; refine (law15_live _).mono ?_; rintro e w20 ⟨rfl, hb⟩; have hO' := hP.via hb; clear hP; have hP := hO'; clear hO')
    go_ret
    exact ⟨rfl, by rw [HC.out]; exact hP.below⟩
def faFin (o g p : Int) (a : Bool) (h v own : Int) (code n w5 : Int) (fr : List Int) : Prop :=
  ((a = false ∨ (h != own) = true) ∧ code = 4 ∧ n = 1 ∧ w5 = v ∧ fr = [1]) ∨
  (a = true ∧ (h != own) = false ∧ 0 < p ∧ code = 6 ∧ n = 1 ∧ w5 = v) ∨
  (a = true ∧ (h != own) = false ∧ p = 0 ∧ g = 1000 ∧ code = 0 ∧ n = 2 ∧ eOk w5 = 0 ∧ uG w5 = 1000 ∧ uA w5 = false ∧ fr = [1]) ∨
  (a = true ∧ (h != own) = false ∧ p = 0 ∧ 0 ≤ g ∧ g < 1000 ∧ code = 0 ∧ n = 5 ∧ eOk w5 = 0 ∧ uG w5 = g + 1 ∧ uA w5 = false ∧ fr = [0, 1])
theorem eWord_bd {o g p u : Int} {l a : Bool} (hm : eMay o g p u l a = true) : -9223372036854775808 ≤ eWord o g p u l a ∧ eWord o g p u l a ≤ 9223372036854775807 := by
  have := (eIs_of (un_pack hm).1).1
  omega
theorem fa_fin {o g p : Int} {a : Bool} (hm : eMay o g p 0 false a = true) (h : Int) : ∃ q code n fr, mRun (frF1 (frNewC 8 2 1 h)) 10 10 ⟨faW (eWord o g p 0 false a), frV0 1⟩ = (q, (code, 0), n) ∧ q.ws.length = 11 ∧ WOk q.ws ∧ freeOf 1 2 q.ws = fr ∧ fr.length ≤ 2 ∧ faFin o g p a h (eWord o g p 0 false a) (hMake 0 g).1 code n (wAt q.ws 5) fr := by
  obtain ⟨q, code, n, hr, hw⟩ := fa_way hm h
  have vb := eWord_bd hm
  have g0 : 0 ≤ g := by have := eMay_of hm; omega
  rcases hw with ⟨h1, rfl, rfl, h4⟩ | ⟨rfl, h2, h3, rfl, rfl, h4⟩ | ⟨rfl, h2, h3, h4, rfl, rfl, h5⟩ | ⟨rfl, h2, h3, h4, rfl, rfl, h5⟩
  · refine ⟨q, 4, 1, [1], hr, by rw [h4]; rfl, by rw [h4]; exact fa_ok vb.1 vb.2, by rw [h4]; exact fa_free _, by decide, .inl ⟨?_, rfl, rfl, by rw [h4]; rfl, rfl⟩⟩
    rcases h1 with h1 | h1
    · exact .inl h1
    · exact .inr (by simpa using h1)
  · exact ⟨q, 6, 1, [1], hr, by rw [h4]; rfl, by rw [h4]; exact fa_ok vb.1 vb.2, by rw [h4]; exact fa_free _, by decide, .inr (.inl ⟨rfl, by simpa using h2, h3, rfl, rfl, by rw [h4]; rfl⟩)⟩
  · have hm2 : eMay 0 1000 0 0 false false = true := by decide
    have vb2 := eWord_bd hm2
    obtain ⟨i, x1, x2, x3, x4, x5, x6⟩ := un_pack hm2
    obtain ⟨u1, u2, u3, u4, u5, u6, u7⟩ := u_yes i
    exact ⟨q, 0, 2, [1], hr, by rw [h5]; rfl, by rw [h5]; exact fa_ok vb2.1 vb2.2, by rw [h5]; exact fa_free _, by decide, .inr (.inr (.inl ⟨rfl, by simpa using h2, h3, h4, rfl, rfl, by rw [h5, fa_5, u7], by rw [h5, fa_5, u2, x2], by rw [h5, fa_5, u6, x6], rfl⟩))⟩
  · have hm2 : eMay 0 (g + 1) 0 0 false false = true := by unfold eMay; simp; omega
    have vb2 := eWord_bd hm2
    obtain ⟨i, x1, x2, x3, x4, x5, x6⟩ := un_pack hm2
    obtain ⟨u1, u2, u3, u4, u5, u6, u7⟩ := u_yes i
    exact ⟨q, 0, 5, [0, 1], hr, by rw [h5]; rfl, by rw [h5]; exact fa_okX vb2.1 vb2.2, by rw [h5]; exact fa_freeX _, by decide, .inr (.inr (.inr ⟨rfl, by simpa using h2, h3, g0, h4, rfl, rfl, by rw [h5, fa_5x, u7], by rw [h5, fa_5x, u2, x2], by rw [h5, fa_5x, u6, x6], rfl⟩))⟩
set_option maxRecDepth 100000 in
set_option maxHeartbeats 16000000 in
theorem FreeAlone_at (o g p : Int) (a : Bool) (h : Int) (W : World) (hm : eMay o g p 0 false a = true) (hl : -9223372036854775808 ≤ h) (hu : h ≤ 9223372036854775807) : Calls Try.prog 3 #[.agg #[.int .i64 o, .int .i64 g, .int .i64 p, .int .i64 0, .bool false, .bool a], .int .i64 h] W fun e w' => e = .returned (.bool true) ∧ Below W.heap.size W w' := by
  obtain ⟨v, hv⟩ : ∃ v, eWord o g p 0 false a = v := ⟨_, rfl⟩
  obtain ⟨own, hown⟩ : ∃ v, (hMake 0 g).1 = v := ⟨_, rfl⟩
  obtain ⟨f2, hf2⟩ : ∃ v, (hMake 0 g).2 = v := ⟨_, rfl⟩
  obtain ⟨q, code, n, fr, hr, hlen, hok, hfree, hfl, hfin⟩ := fa_fin hm h
  rw [hv] at hr hfin
  rw [hown] at hfin
  have HMK := Lib.hid (show hMake 0 g = (own, f2) by rw [← hown, ← hf2])
  have HP := Lib.hid (show ePack o g p 0 false a = (v, 0) by unfold ePack; rw [if_pos hm, hv])
  have HR := Lib.hid hr
  have HOK := Lib.hid hok
  have HFR := Lib.hid hfree
  have HFIN := Lib.hid hfin
  obtain ⟨w5, hw5⟩ : ∃ z, wAt q.ws 5 = z := ⟨_, rfl⟩
  have HW5 := Lib.hid hw5
  have ck := Lib.hid (show cfgOk 8 2 1 = true by decide)
  have hl1 : q.ws.length ≤ 4096 := by omega
  have HST := Lib.hid (And.intro (show (frNewC 8 2 1 h).t = 1 by show ofT 8 2 1 = 1; decide) (show (frNewC 8 2 1 h).s = 2 by show ofS 8 2 1 = 2; decide))
  have HLO := Lib.hid (show lOk (frNewC 8 2 1 h).t (frNewC 8 2 1 h).s by rw [HST.out.1, HST.out.2]; exact fa_lok)
  clear hv hown hf2 hr hok hfree hfin hw5 hlen hm
  go_enter Try.func3, Try.ntmps3
  go_wp2_with fail
  have hP := ((Owns.nil W).more (.cells #[.int .i64 o, .int .i64 g, .int .i64 p, .int .i64 0, .bool false, .bool a] 23)).more (.cells #[.int .i64 8, .int .i64 2, .int .i64 1] 25)
  simp only [World.size_alloc] at hP
  generalize hcb : W.heap.size = cb at hP ⊢
  have HC := Lib.hid hcb
  clear hcb
  generalize (W.alloc (.cells #[.int .i64 o, .int .i64 g, .int .i64 p, .int .i64 0, .bool false, .bool a] 23)).alloc (.cells #[.int .i64 8, .int .i64 2, .int .i64 1] 25) = w0 at hP ⊢
  refine (layout_Of _ _ _ _).mono ?_; rw [show ofT 8 2 1 = 1 by decide, show ofS 8 2 1 = 2 by decide, show ofE 8 2 1 = 0 by decide]; rintro e w2 ⟨rfl, hb⟩; have hO' := hP.via hb; clear hP; have hP := hO'; clear hO'
  go_upto_region 3 with fail
  have hO' := hP.more (.cells #[.int .i64 1, .int .i64 2] 27); clear hP; have hP := hO'; clear hO'; (try simp only [List.set_cons_zero, List.set_cons_succ, List.cons_append, List.nil_append, List.eraseIdx_cons_succ, List.eraseIdx_cons_zero] at hP)
  generalize w2.heap.size = lb at hP ⊢
  generalize w2.alloc _ = w3 at hP ⊢
  have e0 : _ = some (Value.int .i64 o) := hP.cell 0 0 rfl rfl 0; have e1 : _ = some (Value.int .i64 g) := hP.cell 0 0 rfl rfl 1; have e2 : _ = some (Value.int .i64 p) := hP.cell 0 0 rfl rfl 2; have e3 : _ = some (Value.int .i64 0) := hP.cell 0 0 rfl rfl 3; have e4 : _ = some (Value.bool false) := hP.cell 0 0 rfl rfl 4; have e5 : _ = some (Value.bool a) := hP.cell 0 0 rfl rfl 5
  go_wp2_with fail
  refine (ref02_Pack _ _ _ _ _ _ _).mono ?_; rw [HP.out]; rintro e wa ⟨rfl, hb⟩; have hO' := hP.via hb; clear hP; have hP := hO'; clear hO'
  clear e0 e1 e2 e3 e4 e5
  have b0 : _ = some (Value.int .i64 8) := hP.cell 1 0 rfl rfl 0; have b1 : _ = some (Value.int .i64 2) := hP.cell 1 0 rfl rfl 1; have b2 : _ = some (Value.int .i64 1) := hP.cell 1 0 rfl rfl 2
  go_wp2_with fail
  refine (law15_start 8 2 1 hP ck.out).mono ?_; rintro e w1 ⟨pm, bw, bb, m, rfl, hO'⟩; clear hP; have hP := hO'; clear hO'; (try simp only [List.set_cons_zero, List.set_cons_succ, List.cons_append, List.nil_append, List.eraseIdx_cons_succ, List.eraseIdx_cons_zero] at hP)
  rw [fa_0] at hP
  clear b0 b1 b2
  have e3 : _ = some (Value.int .i64 0) := hP.cell 1 0 rfl rfl 3; have e4 : _ = some (Value.bool false) := hP.cell 1 0 rfl rfl 4
  have l0 : _ = some (Value.int .i64 1) := hP.cell 3 0 rfl rfl 0; have l1 : _ = some (Value.int .i64 2) := hP.cell 3 0 rfl rfl 1; have lz := hP.lt 3 0 rfl rfl
  go_wp2_with fail
  refine (layout_Stack _ _ _ fa_lok).mono ?_; rw [fa_stack]; rintro e w4 ⟨rfl, hb⟩; have hO' := hP.via hb; clear hP; have hP := hO'; clear hO'
  clear e3 e4
  clear l0 l1 lz
  go_wp2_with fail
  refine (plain_Store 0 1 2 hP rfl (by decide)).mono ?_; rintro e wst ⟨rfl, hO'⟩; clear hP; have hP := hO'; clear hO'; (try simp only [List.set_cons_zero, List.set_cons_succ, List.cons_append, List.nil_append, List.eraseIdx_cons_succ, List.eraseIdx_cons_zero] at hP)
  have l0 : _ = some (Value.int .i64 1) := hP.cell 3 0 rfl rfl 0; have l1 : _ = some (Value.int .i64 2) := hP.cell 3 0 rfl rfl 1; have lz := hP.lt 3 0 rfl rfl
  go_wp2_with fail
  refine (layout_Entry _ _ _ _ fa_lok).mono ?_; rw [fa_entry]; rintro e w6 ⟨rfl, hb⟩; have hO' := hP.via hb; clear hP; have hP := hO'; clear hO'
  clear l0 l1 lz
  go_wp2_with fail
  refine (plain_Store 0 5 v hP rfl (by rw [wPut_len]; decide)).mono ?_; rw [fa_1]; rintro e w7 ⟨rfl, hO'⟩; clear hP; have hP := hO'; clear hO'
  (try simp only [List.set_cons_zero, List.set_cons_succ, List.cons_append, List.nil_append, List.eraseIdx_cons_succ, List.eraseIdx_cons_zero] at hP); have e0 : _ = some (Value.int .i64 o) := hP.cell 1 0 rfl rfl 0; have e1 : _ = some (Value.int .i64 g) := hP.cell 1 0 rfl rfl 1; have e2 : _ = some (Value.int .i64 p) := hP.cell 1 0 rfl rfl 2; have e5 : _ = some (Value.bool a) := hP.cell 1 0 rfl rfl 5; have ez := hP.lt 1 0 rfl rfl
  go_wp2_with fail
  refine (handle_make _ _ _).mono ?_; rw [HMK.out]; rintro e w8 ⟨rfl, rfl⟩
  have b0 : _ = some (Value.int .i64 8) := hP.cell 2 0 rfl rfl 0; have b1 : _ = some (Value.int .i64 2) := hP.cell 2 0 rfl rfl 1; have b2 : _ = some (Value.int .i64 1) := hP.cell 2 0 rfl rfl 2; have bz := hP.lt 2 0 rfl rfl
  go_wp2_with fail
  refine (free_New 8 2 1 h hl hu hP).mono ?_; rintro e w9 ⟨x, rfl, hO'⟩; rw [show alNx 8 2 1 = 1 by decide] at hO'; clear hP; have hP := hO'; clear hO'; have hO' := hP.swap; clear hP; have hP := hO'; clear hO'
  clear e0 e1 e2 e5 ez
  clear b0 b1 b2 bz
  go_wp2_with fail
  refine (free_run 10 (by decide) hP HLO.out (by show 11 ≤ 4096; decide) frV1_in _ HR.out).mono ?_; simp only [resN]; rintro e w10 ⟨rfl, m10, y10, hO'⟩; clear hP; have hP := hO'; clear hO'; have hO' := hP.drop 1; clear hP; have hP := hO'; clear hO'; (try simp only [List.set_cons_zero, List.set_cons_succ, List.cons_append, List.nil_append, List.eraseIdx_cons_succ, List.eraseIdx_cons_zero] at hP)
  go_upto_region 11 with fail
  have hO' := hP.more (.cells #[.int .i64 code, .int .i64 0] 41); clear hP; have hP := hO'; clear hO'; (try simp only [List.set_cons_zero, List.set_cons_succ, List.cons_append, List.nil_append, List.eraseIdx_cons_succ, List.eraseIdx_cons_zero] at hP)
  generalize w10.heap.size = rb at hP ⊢
  generalize w10.alloc _ = w11 at hP ⊢
  have l0 : _ = some (Value.int .i64 1) := hP.cell 3 0 rfl rfl 0; have l1 : _ = some (Value.int .i64 2) := hP.cell 3 0 rfl rfl 1; have lz := hP.lt 3 0 rfl rfl
  go_wp2_with fail
  refine (layout_Entry _ _ _ _ fa_lok).mono ?_; rw [fa_entry]; rintro e w12 ⟨rfl, hb⟩; have hO' := hP.via hb; clear hP; have hP := hO'; clear hO'
  clear l0 l1 lz
  go_wp2_with fail
  refine (plain_Load 0 5 hP rfl hl1).mono ?_; rw [HW5.out]; rintro e w13 ⟨rfl, hO'⟩; clear hP; have hP := hO'; clear hO'; (try simp only [List.set_cons_zero, List.set_cons_succ, List.cons_append, List.nil_append, List.eraseIdx_cons_succ, List.eraseIdx_cons_zero] at hP)
  go_wp2_with fail
  refine (ref02_Unpack _ _).mono ?_; rintro e w14 ⟨rfl, hb⟩; have hO' := hP.via hb; clear hP; have hP := hO'; clear hO'
  go_upto_region 12 with fail
  have hO' := hP.more (.cells #[.int .i64 (uO w5), .int .i64 (uG w5), .int .i64 (uP w5), .int .i64 (uU w5), .bool (uL w5), .bool (uA w5)] 23); clear hP; have hP := hO'; clear hO'; (try simp only [List.set_cons_zero, List.set_cons_succ, List.cons_append, List.nil_append, List.eraseIdx_cons_succ, List.eraseIdx_cons_zero] at hP)
  generalize w14.heap.size = xb at hP ⊢
  generalize w14.alloc _ = w15 at hP ⊢
  obtain ⟨xG, hxG⟩ : ∃ z, uG w5 = z := ⟨_, rfl⟩
  obtain ⟨xA, hxA⟩ : ∃ z, uA w5 = z := ⟨_, rfl⟩
  obtain ⟨xE, hxE⟩ : ∃ z, eOk w5 = z := ⟨_, rfl⟩
  have HX := Lib.hid (And.intro hxG (And.intro hxA hxE))
  rw [hxG, hxA] at hP
  rw [hxE]
  clear hxG hxA hxE
  have l0 : _ = some (Value.int .i64 1) := hP.cell 3 0 rfl rfl 0; have l1 : _ = some (Value.int .i64 2) := hP.cell 3 0 rfl rfl 1; have lz := hP.lt 3 0 rfl rfl
  go_wp2_with fail
  refine (stack_Free 0 1 2 hP rfl hl1 (by decide) (by decide) (by decide) (by decide) HOK.out).mono ?_; rw [HFR.out]; rintro e w16 ⟨sv, cur, m16, rfl, hr, hO'⟩; clear hP; have hP := hO'; clear hO'; have hO' := hP.last; clear hP; have hP := hO'; clear hO'; (try simp only [List.set_cons_zero, List.set_cons_succ, List.cons_append, List.nil_append, List.eraseIdx_cons_succ, List.eraseIdx_cons_zero] at hP)
  have HRO := Lib.hid hr
  clear hr
  clear l0 l1 lz
  (try simp only [List.set_cons_zero, List.set_cons_succ, List.cons_append, List.nil_append, List.eraseIdx_cons_succ, List.eraseIdx_cons_zero] at hP); have e0 : _ = some (Value.int .i64 o) := hP.cell 1 0 rfl rfl 0; have e1 : _ = some (Value.int .i64 g) := hP.cell 1 0 rfl rfl 1; have e2 : _ = some (Value.int .i64 p) := hP.cell 1 0 rfl rfl 2; have e5 : _ = some (Value.bool a) := hP.cell 1 0 rfl rfl 5; have ez := hP.lt 1 0 rfl rfl
  have l0 : _ = some (Value.int .i64 1) := hP.cell 3 0 rfl rfl 0; have l1 : _ = some (Value.int .i64 2) := hP.cell 3 0 rfl rfl 1; have lz := hP.lt 3 0 rfl rfl
  have r0 : _ = some (Value.int .i64 code) := hP.cell 4 0 rfl rfl 0; have r1 : _ = some (Value.int .i64 0) := hP.cell 4 0 rfl rfl 1; have rz := hP.lt 4 0 rfl rfl
  have x1 : _ = some (Value.int .i64 xG) := hP.cell 5 0 rfl rfl 1; have x5 : _ = some (Value.bool xA) := hP.cell 5 0 rfl rfl 5; have xz := hP.lt 5 0 rfl rfl
  have HF := HFIN.out
  rw [HW5.out] at HF
  unfold faFin at HF
  rw [HX.out.1, HX.out.2.1, HX.out.2.2] at HF
  clear HFIN
  rcases HF with ⟨hha, rfl, rfl, rfl, rfl⟩ | ⟨rfl, hha, hp0, rfl, rfl, rfl⟩ | ⟨rfl, hha, rfl, rfl, rfl, rfl, rfl, rfl, rfl, rfl⟩ | ⟨rfl, hha, rfl, g0, g1, rfl, rfl, rfl, rfl, rfl, rfl⟩
  · have hh2 : a = false ∨ (a = true ∧ (h != own) = true) := by
      cases a
      · exact .inl rfl
      · rcases hha with h | h
        · cases h
        · exact .inr ⟨rfl, h⟩
    have evv : (w5 == w5) = true := by simp
    clear hha
    rcases hh2 with rfl | ⟨rfl, hno⟩
    all_goals
      go_wp2_with (go_at_call 14; refine (layout_Entry _ _ _ _ fa_lok).mono ?_; rw [fa_entry]; rintro e w17 ⟨rfl, hb⟩; have hO' := hP.via hb; clear hP; have hP := hO'; clear hO')
      refine (plain_Load 0 5 hP rfl hl1).mono ?_; rw [HW5.out]; rintro e w18 ⟨rfl, hO'⟩; clear hP; have hP := hO'; clear hO'; (try simp only [List.set_cons_zero, List.set_cons_succ, List.cons_append, List.nil_append, List.eraseIdx_cons_succ, List.eraseIdx_cons_zero] at hP)
      go_wp2_with fail
      have hO' := hP.more (.cells (intArr [1]) 3); clear hP; have hP := hO'; clear hO'; (try simp only [List.set_cons_zero, List.set_cons_succ, List.cons_append, List.nil_append, List.eraseIdx_cons_succ, List.eraseIdx_cons_zero] at hP)
      have R1 := Reads.row HRO.out hP 6 rfl (by decide)
      have R2 := Reads.ints (xs := [1]) (cap := 1) hP 7 0 rfl rfl (by decide)
      refine (ref01_Same _ _ _ _ _ R1 R2).mono ?_; rw [show sameB [1] [1] = true by decide]; rintro e w19 ⟨rfl, hb2⟩; have hO' := hP.via hb2; clear hP; have hP := hO'; clear hO'
      clear R1 R2
      go_wp2_with (go_at_call 11; refine (law15_live _).mono ?_; rintro e w20 ⟨rfl, hb⟩; have hO' := hP.via hb; clear hP; have hP := hO'; clear hO')
      go_ret
      exact ⟨rfl, by rw [HC.out]; exact hP.below⟩
  · have evv : (w5 == w5) = true := by simp
    go_wp2_with (go_at_call 14; refine (layout_Entry _ _ _ _ fa_lok).mono ?_; rw [fa_entry]; rintro e w17 ⟨rfl, hb⟩; have hO' := hP.via hb; clear hP; have hP := hO'; clear hO')
    refine (plain_Load 0 5 hP rfl hl1).mono ?_; rw [HW5.out]; rintro e w18 ⟨rfl, hO'⟩; clear hP; have hP := hO'; clear hO'; (try simp only [List.set_cons_zero, List.set_cons_succ, List.cons_append, List.nil_append, List.eraseIdx_cons_succ, List.eraseIdx_cons_zero] at hP)
    go_wp2_with (go_at_call 11; refine (law15_live _).mono ?_; rintro e w20 ⟨rfl, hb⟩; have hO' := hP.via hb; clear hP; have hP := hO'; clear hO')
    go_ret
    exact ⟨rfl, by rw [HC.out]; exact hP.below⟩
  · go_wp2_with fail
    have hO' := hP.more (.cells (intArr [1]) 3); clear hP; have hP := hO'; clear hO'; (try simp only [List.set_cons_zero, List.set_cons_succ, List.cons_append, List.nil_append, List.eraseIdx_cons_succ, List.eraseIdx_cons_zero] at hP)
    have R1 := Reads.row HRO.out hP 6 rfl (by decide)
    have R2 := Reads.ints (xs := [1]) (cap := 1) hP 7 0 rfl rfl (by decide)
    refine (ref01_Same _ _ _ _ _ R1 R2).mono ?_; rw [show sameB [1] [1] = true by decide]; rintro e w19 ⟨rfl, hb2⟩; have hO' := hP.via hb2; clear hP; have hP := hO'; clear hO'
    clear R1 R2
    go_wp2_with (go_at_call 11; refine (law15_live _).mono ?_; rintro e w20 ⟨rfl, hb⟩; have hO' := hP.via hb; clear hP; have hP := hO'; clear hO')
    go_ret
    exact ⟨rfl, by rw [HC.out]; exact hP.below⟩
  · have gg : (g + 1 == g + 1) = true := by simp
    have gn : (g == 1000) = false := by simp; omega
    go_wp2_with fail
    have hO' := hP.more (.cells (intArr [0, 1]) 3); clear hP; have hP := hO'; clear hO'; (try simp only [List.set_cons_zero, List.set_cons_succ, List.cons_append, List.nil_append, List.eraseIdx_cons_succ, List.eraseIdx_cons_zero] at hP)
    have R1 := Reads.row HRO.out hP 6 rfl (by decide)
    have R2 := Reads.ints (xs := [0, 1]) (cap := 2) hP 7 0 rfl rfl (by decide)
    refine (ref01_Same _ _ _ _ _ R1 R2).mono ?_; rw [show sameB [0, 1] [0, 1] = true by decide]; rintro e w19 ⟨rfl, hb2⟩; have hO' := hP.via hb2; clear hP; have hP := hO'; clear hO'
    clear R1 R2
    go_wp2_with (go_at_call 11; refine (law15_live _).mono ?_; rintro e w20 ⟨rfl, hb⟩; have hO' := hP.via hb; clear hP; have hP := hO'; clear hO')
    go_ret
    exact ⟨rfl, by rw [HC.out]; exact hP.below⟩
theorem FreeAlone_walk (o g p u : Int) (l a : Bool) (h : Int) (W : World) (hl : -9223372036854775808 ≤ h) (hu : h ≤ 9223372036854775807) : Calls Try.prog 3 #[.agg #[.int .i64 o, .int .i64 g, .int .i64 p, .int .i64 u, .bool l, .bool a], .int .i64 h] W fun e w' => e = .returned (.bool true) ∧ Below W.heap.size W w' := by
  cases hm : eMay o g p u l a
  · exact FreeAlone_no o g p u l a h W 0 1 (by unfold ePack; rw [hm]; rfl) (.inl rfl)
  · have hp : ePack o g p u l a = (eWord o g p u l a, 0) := by unfold ePack; rw [hm]; rfl
    cases l
    · by_cases h0 : 0 < u
      · exact FreeAlone_no o g p u false a h W _ 0 hp (.inr (.inr ⟨rfl, rfl, by simpa using h0⟩))
      · have : u = 0 := by have := eMay_of hm; omega
        subst this
        exact FreeAlone_at o g p a h W hm hl hu
    · exact FreeAlone_no o g p u true a h W _ 0 hp (.inr (.inl ⟨rfl, rfl⟩))
end Go.Proofs.Ytkkeoadnepedjaa
