/- The pin law PinAlone. -/
import Derived.LoopTactic
import Derived.Test.YtmbkkpeepbfgoaaPnA0
import Derived.Test.YtmbkkpeepbfgoaaPnLv
import Derived.Test.YtmbkkpeepbfgoaaEnR2
namespace Go.Proofs.Ytmbkkpeepbfgoaa
set_option linter.unusedVariables false
set_option linter.unusedSimpArgs false
open Go.RowKit
set_option maxRecDepth 100000 in
set_option maxHeartbeats 8000000 in
theorem PinAlone_no (o g p u : Int) (l a : Bool) (h : Int) (un : Bool) (W : World) (x f : Int) (hp : ePack o g p u l a = (x, f)) (hf : (f != 0) = true ∨ ((f != 0) = false ∧ l = true)) : Calls Try.prog 12 #[.agg #[.int .i64 o, .int .i64 g, .int .i64 p, .int .i64 u, .bool l, .bool a], .int .i64 h, .bool un] W fun e w' => e = .returned (.bool true) ∧ Below W.heap.size W w' := by
  have HP := Lib.hid hp
  clear hp
  rcases hf with hf | ⟨hf, hl⟩
  · have ck := Lib.hid (show cfgOk 8 2 1 = true by decide); go_enter Try.func12, Try.ntmps12; go_wp2_with fail; have hO := ((Owns.nil W).more (.cells #[.int .i64 o, .int .i64 g, .int .i64 p, .int .i64 u, .bool l, .bool a] 68)).more (.cells #[.int .i64 8, .int .i64 2, .int .i64 1] 26); simp only [World.size_alloc] at hO; generalize hcb : W.heap.size = cb at hO ⊢; have HC := Lib.hid hcb; clear hcb; generalize (W.alloc (.cells #[.int .i64 o, .int .i64 g, .int .i64 p, .int .i64 u, .bool l, .bool a] 68)).alloc (.cells #[.int .i64 8, .int .i64 2, .int .i64 1] 26) = w0 at hO ⊢; refine (ref02_Pack _ _ _ _ _ _ _).mono ?_; rw [HP.out]; rintro e wa ⟨rfl, hb⟩; have hO := hO.via hb; have b0 : _ = some (Value.int .i64 8) := hO.cell 1 0 rfl rfl 0; have b1 : _ = some (Value.int .i64 2) := hO.cell 1 0 rfl rfl 1; have b2 : _ = some (Value.int .i64 1) := hO.cell 1 0 rfl rfl 2; go_wp2_with fail; refine (law14_start 8 2 1 hO ck.out).mono ?_; rintro e w1 ⟨pm, bw, bb, m, rfl, hO'⟩; have hO := hO'; (try simp only [List.set_cons_zero, List.set_cons_succ, List.cons_append, List.nil_append, List.eraseIdx_cons_succ, List.eraseIdx_cons_zero] at hO); have e0 : _ = some (Value.int .i64 o) := hO.cell 1 0 rfl rfl 0; have e1 : _ = some (Value.int .i64 g) := hO.cell 1 0 rfl rfl 1; have e2 : _ = some (Value.int .i64 p) := hO.cell 1 0 rfl rfl 2; have e3 : _ = some (Value.int .i64 u) := hO.cell 1 0 rfl rfl 3; have e4 : _ = some (Value.bool l) := hO.cell 1 0 rfl rfl 4; have e5 : _ = some (Value.bool a) := hO.cell 1 0 rfl rfl 5; have ez := hO.lt 1 0 rfl rfl; have b0 : _ = some (Value.int .i64 8) := hO.cell 2 0 rfl rfl 0; have b1 : _ = some (Value.int .i64 2) := hO.cell 2 0 rfl rfl 1; have b2 : _ = some (Value.int .i64 1) := hO.cell 2 0 rfl rfl 2; have bz := hO.lt 2 0 rfl rfl
    go_wp2_with (go_at_call 21; refine (law14_live _).mono ?_; rintro e w6 ⟨rfl, hb⟩; have hO := hO.via hb)
    go_ret
    exact ⟨rfl, by rw [HC.out]; exact hO.below⟩
  · have HLL := Lib.hid hl
    clear hl
    have ck := Lib.hid (show cfgOk 8 2 1 = true by decide); go_enter Try.func12, Try.ntmps12; go_wp2_with fail; have hO := ((Owns.nil W).more (.cells #[.int .i64 o, .int .i64 g, .int .i64 p, .int .i64 u, .bool l, .bool a] 68)).more (.cells #[.int .i64 8, .int .i64 2, .int .i64 1] 26); simp only [World.size_alloc] at hO; generalize hcb : W.heap.size = cb at hO ⊢; have HC := Lib.hid hcb; clear hcb; generalize (W.alloc (.cells #[.int .i64 o, .int .i64 g, .int .i64 p, .int .i64 u, .bool l, .bool a] 68)).alloc (.cells #[.int .i64 8, .int .i64 2, .int .i64 1] 26) = w0 at hO ⊢; refine (ref02_Pack _ _ _ _ _ _ _).mono ?_; rw [HP.out]; rintro e wa ⟨rfl, hb⟩; have hO := hO.via hb; have b0 : _ = some (Value.int .i64 8) := hO.cell 1 0 rfl rfl 0; have b1 : _ = some (Value.int .i64 2) := hO.cell 1 0 rfl rfl 1; have b2 : _ = some (Value.int .i64 1) := hO.cell 1 0 rfl rfl 2; go_wp2_with fail; refine (law14_start 8 2 1 hO ck.out).mono ?_; rintro e w1 ⟨pm, bw, bb, m, rfl, hO'⟩; have hO := hO'; (try simp only [List.set_cons_zero, List.set_cons_succ, List.cons_append, List.nil_append, List.eraseIdx_cons_succ, List.eraseIdx_cons_zero] at hO); have e0 : _ = some (Value.int .i64 o) := hO.cell 1 0 rfl rfl 0; have e1 : _ = some (Value.int .i64 g) := hO.cell 1 0 rfl rfl 1; have e2 : _ = some (Value.int .i64 p) := hO.cell 1 0 rfl rfl 2; have e3 : _ = some (Value.int .i64 u) := hO.cell 1 0 rfl rfl 3; have e4 : _ = some (Value.bool l) := hO.cell 1 0 rfl rfl 4; have e5 : _ = some (Value.bool a) := hO.cell 1 0 rfl rfl 5; have ez := hO.lt 1 0 rfl rfl; have b0 : _ = some (Value.int .i64 8) := hO.cell 2 0 rfl rfl 0; have b1 : _ = some (Value.int .i64 2) := hO.cell 2 0 rfl rfl 1; have b2 : _ = some (Value.int .i64 1) := hO.cell 2 0 rfl rfl 2; have bz := hO.lt 2 0 rfl rfl
    have hl := HLL.out
    subst hl
    go_wp2_with (go_at_call 21; refine (law14_live _).mono ?_; rintro e w6 ⟨rfl, hb⟩; have hO := hO.via hb)
    go_ret
    exact ⟨rfl, by rw [HC.out]; exact hO.below⟩
set_option maxRecDepth 100000 in
set_option maxHeartbeats 8000000 in
theorem PinAlone_at (o g p u : Int) (l a : Bool) (h : Int) (un : Bool) (W : World) (hm : eMay o g p u false a = true) (hll : l = false) (l1 : -9223372036854775808 ≤ h) (u1 : h ≤ 9223372036854775807) : Calls Try.prog 12 #[.agg #[.int .i64 o, .int .i64 g, .int .i64 p, .int .i64 u, .bool l, .bool a], .int .i64 h, .bool un] W fun e w' => e = .returned (.bool true) ∧ Below W.heap.size W w' := by
  obtain ⟨v, hv⟩ : ∃ v, eWord o g p u false a = v := ⟨_, rfl⟩
  obtain ⟨own, hown⟩ : ∃ v, (hMake 1 g).1 = v := ⟨_, rfl⟩
  obtain ⟨f2, hf2⟩ : ∃ v, (hMake 1 g).2 = v := ⟨_, rfl⟩
  obtain ⟨h1, h2, h3, h4, h5, h6, h7, h8, h9, h10⟩ := eMay_of hm
  obtain ⟨b, hbo⟩ : ∃ b, (h != (hMake 1 g).1) = b := ⟨_, rfl⟩
  have HAL := Lib.hid (pn_alone (un := un) hm hbo)
  have HMK := Lib.hid (show hMake 1 g = (own, f2) by rw [← hown, ← hf2])
  rw [hown] at hbo
  have HLL := Lib.hid hll
  have HP := Lib.hid (show ePack o g p u l a = (v, 0) by unfold ePack; rw [hll, if_pos hm, hv])
  have HV := Lib.hid hv
  have HM := Lib.hid hm
  clear hv hown hf2 hm hll h9 h10
  have ck := Lib.hid (show cfgOk 8 2 1 = true by decide); go_enter Try.func12, Try.ntmps12; go_wp2_with fail; have hO := ((Owns.nil W).more (.cells #[.int .i64 o, .int .i64 g, .int .i64 p, .int .i64 u, .bool l, .bool a] 68)).more (.cells #[.int .i64 8, .int .i64 2, .int .i64 1] 26); simp only [World.size_alloc] at hO; generalize hcb : W.heap.size = cb at hO ⊢; have HC := Lib.hid hcb; clear hcb; generalize (W.alloc (.cells #[.int .i64 o, .int .i64 g, .int .i64 p, .int .i64 u, .bool l, .bool a] 68)).alloc (.cells #[.int .i64 8, .int .i64 2, .int .i64 1] 26) = w0 at hO ⊢; refine (ref02_Pack _ _ _ _ _ _ _).mono ?_; rw [HP.out]; rintro e wa ⟨rfl, hb⟩; have hO := hO.via hb; have b0 : _ = some (Value.int .i64 8) := hO.cell 1 0 rfl rfl 0; have b1 : _ = some (Value.int .i64 2) := hO.cell 1 0 rfl rfl 1; have b2 : _ = some (Value.int .i64 1) := hO.cell 1 0 rfl rfl 2; go_wp2_with fail; refine (law14_start 8 2 1 hO ck.out).mono ?_; rintro e w1 ⟨pm, bw, bb, m, rfl, hO'⟩; have hO := hO'; (try simp only [List.set_cons_zero, List.set_cons_succ, List.cons_append, List.nil_append, List.eraseIdx_cons_succ, List.eraseIdx_cons_zero] at hO); have e0 : _ = some (Value.int .i64 o) := hO.cell 1 0 rfl rfl 0; have e1 : _ = some (Value.int .i64 g) := hO.cell 1 0 rfl rfl 1; have e2 : _ = some (Value.int .i64 p) := hO.cell 1 0 rfl rfl 2; have e3 : _ = some (Value.int .i64 u) := hO.cell 1 0 rfl rfl 3; have e4 : _ = some (Value.bool l) := hO.cell 1 0 rfl rfl 4; have e5 : _ = some (Value.bool a) := hO.cell 1 0 rfl rfl 5; have ez := hO.lt 1 0 rfl rfl; have b0 : _ = some (Value.int .i64 8) := hO.cell 2 0 rfl rfl 0; have b1 : _ = some (Value.int .i64 2) := hO.cell 2 0 rfl rfl 1; have b2 : _ = some (Value.int .i64 1) := hO.cell 2 0 rfl rfl 2; have bz := hO.lt 2 0 rfl rfl
  rw [p14_a0] at hO
  have hl := HLL.out
  subst hl
  go_wp2_with fail
  refine (plain_Store 0 8 _ hO rfl (by decide)).mono ?_; rw [p14_a1]; rintro e w2 ⟨rfl, hO'⟩; have hO := hO'; (try simp only [List.set_cons_zero, List.set_cons_succ, List.cons_append, List.nil_append, List.eraseIdx_cons_succ, List.eraseIdx_cons_zero] at hO)
  go_wp2_with fail
  refine (plain_Copy 0 hO rfl (by show 11 ≤ 4096; decide) (by decide) (by show 1 ≤ 11; decide)).mono ?_; rintro e w3 ⟨pc, cw, cbb, rfl, hO'⟩; have hO := hO'.last; (try simp only [List.set_cons_zero, List.set_cons_succ, List.cons_append, List.nil_append, List.eraseIdx_cons_succ, List.eraseIdx_cons_zero] at hO); have e0 : _ = some (Value.int .i64 o) := hO.cell 1 0 rfl rfl 0; have e1 : _ = some (Value.int .i64 g) := hO.cell 1 0 rfl rfl 1; have e2 : _ = some (Value.int .i64 p) := hO.cell 1 0 rfl rfl 2; have e3 : _ = some (Value.int .i64 u) := hO.cell 1 0 rfl rfl 3; have e4 : _ = some (Value.bool false) := hO.cell 1 0 rfl rfl 4; have e5 : _ = some (Value.bool a) := hO.cell 1 0 rfl rfl 5; have ez := hO.lt 1 0 rfl rfl; have b0 : _ = some (Value.int .i64 8) := hO.cell 2 0 rfl rfl 0; have b1 : _ = some (Value.int .i64 2) := hO.cell 2 0 rfl rfl 1; have b2 : _ = some (Value.int .i64 1) := hO.cell 2 0 rfl rfl 2; have bz := hO.lt 2 0 rfl rfl
  go_wp2_with fail
  refine (law14_one 8 2 1 h un l1 u1 hO).mono ?_; rintro e w4 ⟨x, rfl, hO'⟩; have hO := hO'.swap; unfold pnNews at hO; rw [show ofT 8 2 1 = 1 by decide, show ofS 8 2 1 = 2 by decide, if_pos ck.out] at hO; (try simp only [List.set_cons_zero, List.set_cons_succ, List.cons_append, List.nil_append, List.eraseIdx_cons_succ, List.eraseIdx_cons_zero] at hO)
  rw [HV.out] at HAL
  obtain ⟨nx, wd, tw, n, p', hr, hm', hp', hn⟩ := HAL.out
  have HR := Lib.hid hr
  have HM' := Lib.hid hm'
  have HP' := Lib.hid hp'
  have HN := Lib.hid hn
  obtain ⟨c, hc⟩ : ∃ c, pnCode p a b un = c := ⟨_, rfl⟩
  have HC1 := Lib.hid hc
  clear hr hm' hp' hn HAL hc
  go_wp2_with fail
  refine (pin_run 10 (by decide) hO (.inr (by decide)) (by show 11 ≤ 4096; decide) _ HR.out).mono ?_; rw [HC1.out]; simp only [resN]; rintro e w5 ⟨rfl, m5, hO'⟩; have hO := hO'.drop 1; (try simp only [List.set_cons_zero, List.set_cons_succ, List.cons_append, List.nil_append, List.eraseIdx_cons_succ, List.eraseIdx_cons_zero] at hO); have e0 : _ = some (Value.int .i64 o) := hO.cell 1 0 rfl rfl 0; have e1 : _ = some (Value.int .i64 g) := hO.cell 1 0 rfl rfl 1; have e2 : _ = some (Value.int .i64 p) := hO.cell 1 0 rfl rfl 2; have e3 : _ = some (Value.int .i64 u) := hO.cell 1 0 rfl rfl 3; have e4 : _ = some (Value.bool false) := hO.cell 1 0 rfl rfl 4; have e5 : _ = some (Value.bool a) := hO.cell 1 0 rfl rfl 5; have ez := hO.lt 1 0 rfl rfl; have b0 : _ = some (Value.int .i64 8) := hO.cell 2 0 rfl rfl 0; have b1 : _ = some (Value.int .i64 2) := hO.cell 2 0 rfl rfl 1; have b2 : _ = some (Value.int .i64 1) := hO.cell 2 0 rfl rfl 2; have bz := hO.lt 2 0 rfl rfl
  go_wp2_with fail
  have hO := hO.more (.cells #[.int .i64 c, .int .i64 0] 37)
  generalize w5.heap.size = rb at hO ⊢
  generalize w5.alloc _ = w6 at hO ⊢
  (try simp only [List.set_cons_zero, List.set_cons_succ, List.cons_append, List.nil_append, List.eraseIdx_cons_succ, List.eraseIdx_cons_zero] at hO); have e0 : _ = some (Value.int .i64 o) := hO.cell 1 0 rfl rfl 0; have e1 : _ = some (Value.int .i64 g) := hO.cell 1 0 rfl rfl 1; have e2 : _ = some (Value.int .i64 p) := hO.cell 1 0 rfl rfl 2; have e3 : _ = some (Value.int .i64 u) := hO.cell 1 0 rfl rfl 3; have e4 : _ = some (Value.bool false) := hO.cell 1 0 rfl rfl 4; have e5 : _ = some (Value.bool a) := hO.cell 1 0 rfl rfl 5; have ez := hO.lt 1 0 rfl rfl; have b0 : _ = some (Value.int .i64 8) := hO.cell 2 0 rfl rfl 0; have b1 : _ = some (Value.int .i64 2) := hO.cell 2 0 rfl rfl 1; have b2 : _ = some (Value.int .i64 1) := hO.cell 2 0 rfl rfl 2; have bz := hO.lt 2 0 rfl rfl
  obtain ⟨q0, hq0⟩ : ∃ q, (p == 0) = q := ⟨_, rfl⟩
  obtain ⟨q7, hq7⟩ : ∃ q, (p == 7) = q := ⟨_, rfl⟩
  have HC2 := Lib.hid (show c = if (!a || b) = true then 4 else if (un && q0) = true then 8 else if (!un && q7) = true then 7 else 0 by rw [← HC1.out, ← hq0, ← hq7]; rfl)
  have HQ := Lib.hid (And.intro hq0 hq7)
  clear hO'
  clear h1 h2 h3 h4 h7 h8 HV HM HP HLL
  cases a
  case false =>
    have hc := show c = 4 from HC2.out
    subst hc
    go_upto_region 20 with (go_at_call 14; refine (handle_make _ _ _).mono ?_; rw [HMK.out]; rintro e w7 ⟨rfl, rfl⟩)
    all_goals
      have hp' : p = p' := by have := HP'.out; rw [HC1.out] at this; exact this.symm
      subst hp'
      have HQW := Lib.hid (un_pack HM'.out)
      have HQU := Lib.hid (u_yes HQW.out.1)
      generalize hvv : eWord o g (p) u false false = v2 at hO HQW HQU
      have HVV := Lib.hid hvv
      clear hvv
      go_upto_region 23 with fail
      have hO := hO.more (.cells #[.int .i64 o, .int .i64 g, .int .i64 (p), .int .i64 u, .bool false, .bool false] 68)
      generalize w6.heap.size = wb at hO ⊢
      generalize w6.alloc _ = w8 at hO ⊢
      clear e0 e1 e2 e3 e4 e5 ez b0 b1 b2 bz
      go_wp2_with fail
      refine (plain_Load 0 8 hO rfl (by show 11 ≤ 4096; decide)).mono ?_; rw [p14A_at]; rintro e w9 ⟨rfl, hO'⟩; have hO := hO'; (try simp only [List.set_cons_zero, List.set_cons_succ, List.cons_append, List.nil_append, List.eraseIdx_cons_succ, List.eraseIdx_cons_zero] at hO)
      go_wp2_with fail
      refine (ref02_Unpack _ _).mono ?_; rw [HQU.out.1, HQU.out.2.1, HQU.out.2.2.1, HQU.out.2.2.2.1, HQU.out.2.2.2.2.1, HQU.out.2.2.2.2.2.1, HQU.out.2.2.2.2.2.2, HQW.out.2.1, HQW.out.2.2.1, HQW.out.2.2.2.1, HQW.out.2.2.2.2.1, HQW.out.2.2.2.2.2.1, HQW.out.2.2.2.2.2.2]; rintro e w10 ⟨rfl, hb⟩; have hO := hO.via hb
      clear hO' hb
      go_wp2_with fail
      have hO := hO.more (.cells #[.int .i64 o, .int .i64 g, .int .i64 (p), .int .i64 u, .bool false, .bool false] 68)
      generalize w10.heap.size = xb at hO ⊢
      generalize w10.alloc _ = w11 at hO ⊢
      (try simp only [List.set_cons_zero, List.set_cons_succ, List.cons_append, List.nil_append, List.eraseIdx_cons_succ, List.eraseIdx_cons_zero] at hO)
      skip
      clear HQW HQU HVV HC1 HC2 HQ HMK HR HM' HP' HN
      go_loopw [21] (fun i wr => ∃ (k : Nat) (m1 m2 : Int), i = .int .i64 k ∧ k ≤ 11 ∧ Owns cb W wr [memG pm bw bb (p14A v2) (List.replicate (Int.toNat 8) 0) m1, [(cb, Obj.cells #[Value.int .i64 o, .int .i64 g, .int .i64 p, .int .i64 u, .bool false, .bool false] 68 (0, 0))], [(cb + 1, Obj.cells #[Value.int .i64 8, .int .i64 2, .int .i64 1] 26 (0, 0))], memG pc cw cbb (p14A v) (List.replicate (Int.toNat 8) 0) m2, [(rb, Obj.cells #[Value.int .i64 4, .int .i64 0] 37 (0, 0))], [(wb, Obj.cells #[Value.int .i64 o, .int .i64 g, .int .i64 (p), .int .i64 u, .bool false, .bool false] 68 (0, 0))], [(xb, Obj.cells #[Value.int .i64 o, .int .i64 g, .int .i64 (p), .int .i64 u, .bool false, .bool false] 68 (0, 0))]]) (fun i _ => 11 - (intOf i).toNat)
      case atStart => exact ⟨0, _, _, rfl, by omega, hO⟩
      case round =>
        clear hO
        obtain ⟨k, m1, m2, rfl, hk, hO⟩ := hrel
        by_cases hlt : k < 11
        · by_cases h8 : k = 8
          · subst h8
            go_wp2_with (go_at_call 37; refine (plain_Words 0 hO rfl (by show 11 ≤ 4096; decide)).mono ?_; rw [show ((p14A v2).length : Int) = 11 from rfl]; rintro e w12 ⟨rfl, rfl⟩)
            go_roundw
            case rel => exact ⟨9, m1, m2, by go_num, by omega, hO⟩
            case measure => simp [intOf]
          · have h8' : ((k : Int) != 8) = true := by rw [bne_iff_ne]; omega
            have hy := Lib.hid (p14A_same v2 v k h8)
            clear h8
            go_wp2_with (go_at_call 37; refine (plain_Words 0 hO rfl (by show 11 ≤ 4096; decide)).mono ?_; rw [show ((p14A v2).length : Int) = 11 from rfl]; rintro e w12 ⟨rfl, rfl⟩)
            refine (plain_Load 0 _ hO rfl (by show 11 ≤ 4096; decide)).mono ?_; rw [hy.out]; rintro e w13 ⟨rfl, hO'⟩; have hO := hO'; (try simp only [List.set_cons_zero, List.set_cons_succ, List.cons_append, List.nil_append, List.eraseIdx_cons_succ, List.eraseIdx_cons_zero] at hO)
            go_wp2_with fail
            refine (plain_Load 3 _ hO rfl (by show 11 ≤ 4096; decide)).mono ?_; rintro e w14 ⟨rfl, hO'⟩; have hO := hO'; (try simp only [List.set_cons_zero, List.set_cons_succ, List.cons_append, List.nil_append, List.eraseIdx_cons_succ, List.eraseIdx_cons_zero] at hO)
            go_wp2_with fail
            go_roundw
            case rel => exact ⟨k + 1, _, _, by go_num, by omega, hO⟩
            case measure => simp [intOf]; omega
        · have hge : decide ((k : Int) < 11) = false := by rw [decide_eq_false_iff_not]; omega
          clear hlt
          have r0 : _ = some (Value.int .i64 4) := hO.cell 4 0 rfl rfl 0
          have r1 : _ = some (Value.int .i64 0) := hO.cell 4 0 rfl rfl 1
          have t0 : _ = some (Value.int .i64 o) := hO.cell 5 0 rfl rfl 0
          have t1 : _ = some (Value.int .i64 g) := hO.cell 5 0 rfl rfl 1
          have t2 : _ = some (Value.int .i64 (p)) := hO.cell 5 0 rfl rfl 2
          have t3 : _ = some (Value.int .i64 u) := hO.cell 5 0 rfl rfl 3
          have t4 : _ = some (Value.bool false) := hO.cell 5 0 rfl rfl 4
          have t5 : _ = some (Value.bool false) := hO.cell 5 0 rfl rfl 5
          have s0 : _ = some (Value.int .i64 o) := hO.cell 6 0 rfl rfl 0
          have s1 : _ = some (Value.int .i64 g) := hO.cell 6 0 rfl rfl 1
          have s2 : _ = some (Value.int .i64 (p)) := hO.cell 6 0 rfl rfl 2
          have s3 : _ = some (Value.int .i64 u) := hO.cell 6 0 rfl rfl 3
          have s4 : _ = some (Value.bool false) := hO.cell 6 0 rfl rfl 4
          have s5 : _ = some (Value.bool false) := hO.cell 6 0 rfl rfl 5
          have hO1 := fun o => hO.via (below_alloc _ o)
          go_wp2_with first
            | (go_at_call 37; refine (plain_Words 0 hO rfl (by show 11 ≤ 4096; decide)).mono ?_; rw [show ((p14A v2).length : Int) = 11 from rfl]; rintro e w12 ⟨rfl, rfl⟩)
            | (go_at_call 21; refine (law14_live _).mono ?_; rintro e w15 ⟨rfl, hb⟩; first | have hO := hO.via hb | have hO := (hO1 _).via hb)
          go_ret
          exact ⟨rfl, by rw [HC.out]; exact hO.below⟩
  case true =>
   cases b
   case true =>
    have hc := show c = 4 from HC2.out
    subst hc
    go_upto_region 20 with (go_at_call 14; refine (handle_make _ _ _).mono ?_; rw [HMK.out]; rintro e w7 ⟨rfl, rfl⟩)
    all_goals
      have hp' : p = p' := by have := HP'.out; rw [HC1.out] at this; exact this.symm
      subst hp'
      have HQW := Lib.hid (un_pack HM'.out)
      have HQU := Lib.hid (u_yes HQW.out.1)
      generalize hvv : eWord o g (p) u false true = v2 at hO HQW HQU
      have HVV := Lib.hid hvv
      clear hvv
      go_upto_region 23 with fail
      have hO := hO.more (.cells #[.int .i64 o, .int .i64 g, .int .i64 (p), .int .i64 u, .bool false, .bool true] 68)
      generalize w6.heap.size = wb at hO ⊢
      generalize w6.alloc _ = w8 at hO ⊢
      clear e0 e1 e2 e3 e4 e5 ez b0 b1 b2 bz
      go_wp2_with fail
      refine (plain_Load 0 8 hO rfl (by show 11 ≤ 4096; decide)).mono ?_; rw [p14A_at]; rintro e w9 ⟨rfl, hO'⟩; have hO := hO'; (try simp only [List.set_cons_zero, List.set_cons_succ, List.cons_append, List.nil_append, List.eraseIdx_cons_succ, List.eraseIdx_cons_zero] at hO)
      go_wp2_with fail
      refine (ref02_Unpack _ _).mono ?_; rw [HQU.out.1, HQU.out.2.1, HQU.out.2.2.1, HQU.out.2.2.2.1, HQU.out.2.2.2.2.1, HQU.out.2.2.2.2.2.1, HQU.out.2.2.2.2.2.2, HQW.out.2.1, HQW.out.2.2.1, HQW.out.2.2.2.1, HQW.out.2.2.2.2.1, HQW.out.2.2.2.2.2.1, HQW.out.2.2.2.2.2.2]; rintro e w10 ⟨rfl, hb⟩; have hO := hO.via hb
      clear hO' hb
      go_wp2_with fail
      have hO := hO.more (.cells #[.int .i64 o, .int .i64 g, .int .i64 (p), .int .i64 u, .bool false, .bool true] 68)
      generalize w10.heap.size = xb at hO ⊢
      generalize w10.alloc _ = w11 at hO ⊢
      (try simp only [List.set_cons_zero, List.set_cons_succ, List.cons_append, List.nil_append, List.eraseIdx_cons_succ, List.eraseIdx_cons_zero] at hO)
      skip
      clear HQW HQU HVV HC1 HC2 HQ HMK HR HM' HP' HN
      go_loopw [21] (fun i wr => ∃ (k : Nat) (m1 m2 : Int), i = .int .i64 k ∧ k ≤ 11 ∧ Owns cb W wr [memG pm bw bb (p14A v2) (List.replicate (Int.toNat 8) 0) m1, [(cb, Obj.cells #[Value.int .i64 o, .int .i64 g, .int .i64 p, .int .i64 u, .bool false, .bool true] 68 (0, 0))], [(cb + 1, Obj.cells #[Value.int .i64 8, .int .i64 2, .int .i64 1] 26 (0, 0))], memG pc cw cbb (p14A v) (List.replicate (Int.toNat 8) 0) m2, [(rb, Obj.cells #[Value.int .i64 4, .int .i64 0] 37 (0, 0))], [(wb, Obj.cells #[Value.int .i64 o, .int .i64 g, .int .i64 (p), .int .i64 u, .bool false, .bool true] 68 (0, 0))], [(xb, Obj.cells #[Value.int .i64 o, .int .i64 g, .int .i64 (p), .int .i64 u, .bool false, .bool true] 68 (0, 0))]]) (fun i _ => 11 - (intOf i).toNat)
      case atStart => exact ⟨0, _, _, rfl, by omega, hO⟩
      case round =>
        clear hO
        obtain ⟨k, m1, m2, rfl, hk, hO⟩ := hrel
        by_cases hlt : k < 11
        · by_cases h8 : k = 8
          · subst h8
            go_wp2_with (go_at_call 37; refine (plain_Words 0 hO rfl (by show 11 ≤ 4096; decide)).mono ?_; rw [show ((p14A v2).length : Int) = 11 from rfl]; rintro e w12 ⟨rfl, rfl⟩)
            go_roundw
            case rel => exact ⟨9, m1, m2, by go_num, by omega, hO⟩
            case measure => simp [intOf]
          · have h8' : ((k : Int) != 8) = true := by rw [bne_iff_ne]; omega
            have hy := Lib.hid (p14A_same v2 v k h8)
            clear h8
            go_wp2_with (go_at_call 37; refine (plain_Words 0 hO rfl (by show 11 ≤ 4096; decide)).mono ?_; rw [show ((p14A v2).length : Int) = 11 from rfl]; rintro e w12 ⟨rfl, rfl⟩)
            refine (plain_Load 0 _ hO rfl (by show 11 ≤ 4096; decide)).mono ?_; rw [hy.out]; rintro e w13 ⟨rfl, hO'⟩; have hO := hO'; (try simp only [List.set_cons_zero, List.set_cons_succ, List.cons_append, List.nil_append, List.eraseIdx_cons_succ, List.eraseIdx_cons_zero] at hO)
            go_wp2_with fail
            refine (plain_Load 3 _ hO rfl (by show 11 ≤ 4096; decide)).mono ?_; rintro e w14 ⟨rfl, hO'⟩; have hO := hO'; (try simp only [List.set_cons_zero, List.set_cons_succ, List.cons_append, List.nil_append, List.eraseIdx_cons_succ, List.eraseIdx_cons_zero] at hO)
            go_wp2_with fail
            go_roundw
            case rel => exact ⟨k + 1, _, _, by go_num, by omega, hO⟩
            case measure => simp [intOf]; omega
        · have hge : decide ((k : Int) < 11) = false := by rw [decide_eq_false_iff_not]; omega
          clear hlt
          have r0 : _ = some (Value.int .i64 4) := hO.cell 4 0 rfl rfl 0
          have r1 : _ = some (Value.int .i64 0) := hO.cell 4 0 rfl rfl 1
          have t0 : _ = some (Value.int .i64 o) := hO.cell 5 0 rfl rfl 0
          have t1 : _ = some (Value.int .i64 g) := hO.cell 5 0 rfl rfl 1
          have t2 : _ = some (Value.int .i64 (p)) := hO.cell 5 0 rfl rfl 2
          have t3 : _ = some (Value.int .i64 u) := hO.cell 5 0 rfl rfl 3
          have t4 : _ = some (Value.bool false) := hO.cell 5 0 rfl rfl 4
          have t5 : _ = some (Value.bool true) := hO.cell 5 0 rfl rfl 5
          have s0 : _ = some (Value.int .i64 o) := hO.cell 6 0 rfl rfl 0
          have s1 : _ = some (Value.int .i64 g) := hO.cell 6 0 rfl rfl 1
          have s2 : _ = some (Value.int .i64 (p)) := hO.cell 6 0 rfl rfl 2
          have s3 : _ = some (Value.int .i64 u) := hO.cell 6 0 rfl rfl 3
          have s4 : _ = some (Value.bool false) := hO.cell 6 0 rfl rfl 4
          have s5 : _ = some (Value.bool true) := hO.cell 6 0 rfl rfl 5
          have hO1 := fun o => hO.via (below_alloc _ o)
          go_wp2_with first
            | (go_at_call 37; refine (plain_Words 0 hO rfl (by show 11 ≤ 4096; decide)).mono ?_; rw [show ((p14A v2).length : Int) = 11 from rfl]; rintro e w12 ⟨rfl, rfl⟩)
            | (go_at_call 21; refine (law14_live _).mono ?_; rintro e w15 ⟨rfl, hb⟩; first | have hO := hO.via hb | have hO := (hO1 _).via hb)
          go_ret
          exact ⟨rfl, by rw [HC.out]; exact hO.below⟩
   case false =>
    cases un
    case true =>
      cases q0
      case true =>
        have hc := show c = 8 from HC2.out
        subst hc
        go_upto_region 20 with (go_at_call 14; refine (handle_make _ _ _).mono ?_; rw [HMK.out]; rintro e w7 ⟨rfl, rfl⟩)
        all_goals
          have hp' : p = p' := by have := HP'.out; rw [HC1.out] at this; exact this.symm
          subst hp'
          have HQW := Lib.hid (un_pack HM'.out)
          have HQU := Lib.hid (u_yes HQW.out.1)
          generalize hvv : eWord o g (p) u false true = v2 at hO HQW HQU
          have HVV := Lib.hid hvv
          clear hvv
          go_upto_region 23 with fail
          have hO := hO.more (.cells #[.int .i64 o, .int .i64 g, .int .i64 (p), .int .i64 u, .bool false, .bool true] 68)
          generalize w6.heap.size = wb at hO ⊢
          generalize w6.alloc _ = w8 at hO ⊢
          clear e0 e1 e2 e3 e4 e5 ez b0 b1 b2 bz
          go_wp2_with fail
          refine (plain_Load 0 8 hO rfl (by show 11 ≤ 4096; decide)).mono ?_; rw [p14A_at]; rintro e w9 ⟨rfl, hO'⟩; have hO := hO'; (try simp only [List.set_cons_zero, List.set_cons_succ, List.cons_append, List.nil_append, List.eraseIdx_cons_succ, List.eraseIdx_cons_zero] at hO)
          go_wp2_with fail
          refine (ref02_Unpack _ _).mono ?_; rw [HQU.out.1, HQU.out.2.1, HQU.out.2.2.1, HQU.out.2.2.2.1, HQU.out.2.2.2.2.1, HQU.out.2.2.2.2.2.1, HQU.out.2.2.2.2.2.2, HQW.out.2.1, HQW.out.2.2.1, HQW.out.2.2.2.1, HQW.out.2.2.2.2.1, HQW.out.2.2.2.2.2.1, HQW.out.2.2.2.2.2.2]; rintro e w10 ⟨rfl, hb⟩; have hO := hO.via hb
          clear hO' hb
          go_wp2_with fail
          have hO := hO.more (.cells #[.int .i64 o, .int .i64 g, .int .i64 (p), .int .i64 u, .bool false, .bool true] 68)
          generalize w10.heap.size = xb at hO ⊢
          generalize w10.alloc _ = w11 at hO ⊢
          (try simp only [List.set_cons_zero, List.set_cons_succ, List.cons_append, List.nil_append, List.eraseIdx_cons_succ, List.eraseIdx_cons_zero] at hO)
          skip
          clear HQW HQU HVV HC1 HC2 HQ HMK HR HM' HP' HN
          go_loopw [21] (fun i wr => ∃ (k : Nat) (m1 m2 : Int), i = .int .i64 k ∧ k ≤ 11 ∧ Owns cb W wr [memG pm bw bb (p14A v2) (List.replicate (Int.toNat 8) 0) m1, [(cb, Obj.cells #[Value.int .i64 o, .int .i64 g, .int .i64 p, .int .i64 u, .bool false, .bool true] 68 (0, 0))], [(cb + 1, Obj.cells #[Value.int .i64 8, .int .i64 2, .int .i64 1] 26 (0, 0))], memG pc cw cbb (p14A v) (List.replicate (Int.toNat 8) 0) m2, [(rb, Obj.cells #[Value.int .i64 8, .int .i64 0] 37 (0, 0))], [(wb, Obj.cells #[Value.int .i64 o, .int .i64 g, .int .i64 (p), .int .i64 u, .bool false, .bool true] 68 (0, 0))], [(xb, Obj.cells #[Value.int .i64 o, .int .i64 g, .int .i64 (p), .int .i64 u, .bool false, .bool true] 68 (0, 0))]]) (fun i _ => 11 - (intOf i).toNat)
          case atStart => exact ⟨0, _, _, rfl, by omega, hO⟩
          case round =>
            clear hO
            obtain ⟨k, m1, m2, rfl, hk, hO⟩ := hrel
            by_cases hlt : k < 11
            · by_cases h8 : k = 8
              · subst h8
                go_wp2_with (go_at_call 37; refine (plain_Words 0 hO rfl (by show 11 ≤ 4096; decide)).mono ?_; rw [show ((p14A v2).length : Int) = 11 from rfl]; rintro e w12 ⟨rfl, rfl⟩)
                go_roundw
                case rel => exact ⟨9, m1, m2, by go_num, by omega, hO⟩
                case measure => simp [intOf]
              · have h8' : ((k : Int) != 8) = true := by rw [bne_iff_ne]; omega
                have hy := Lib.hid (p14A_same v2 v k h8)
                clear h8
                go_wp2_with (go_at_call 37; refine (plain_Words 0 hO rfl (by show 11 ≤ 4096; decide)).mono ?_; rw [show ((p14A v2).length : Int) = 11 from rfl]; rintro e w12 ⟨rfl, rfl⟩)
                refine (plain_Load 0 _ hO rfl (by show 11 ≤ 4096; decide)).mono ?_; rw [hy.out]; rintro e w13 ⟨rfl, hO'⟩; have hO := hO'; (try simp only [List.set_cons_zero, List.set_cons_succ, List.cons_append, List.nil_append, List.eraseIdx_cons_succ, List.eraseIdx_cons_zero] at hO)
                go_wp2_with fail
                refine (plain_Load 3 _ hO rfl (by show 11 ≤ 4096; decide)).mono ?_; rintro e w14 ⟨rfl, hO'⟩; have hO := hO'; (try simp only [List.set_cons_zero, List.set_cons_succ, List.cons_append, List.nil_append, List.eraseIdx_cons_succ, List.eraseIdx_cons_zero] at hO)
                go_wp2_with fail
                go_roundw
                case rel => exact ⟨k + 1, _, _, by go_num, by omega, hO⟩
                case measure => simp [intOf]; omega
            · have hge : decide ((k : Int) < 11) = false := by rw [decide_eq_false_iff_not]; omega
              clear hlt
              have r0 : _ = some (Value.int .i64 8) := hO.cell 4 0 rfl rfl 0
              have r1 : _ = some (Value.int .i64 0) := hO.cell 4 0 rfl rfl 1
              have t0 : _ = some (Value.int .i64 o) := hO.cell 5 0 rfl rfl 0
              have t1 : _ = some (Value.int .i64 g) := hO.cell 5 0 rfl rfl 1
              have t2 : _ = some (Value.int .i64 (p)) := hO.cell 5 0 rfl rfl 2
              have t3 : _ = some (Value.int .i64 u) := hO.cell 5 0 rfl rfl 3
              have t4 : _ = some (Value.bool false) := hO.cell 5 0 rfl rfl 4
              have t5 : _ = some (Value.bool true) := hO.cell 5 0 rfl rfl 5
              have s0 : _ = some (Value.int .i64 o) := hO.cell 6 0 rfl rfl 0
              have s1 : _ = some (Value.int .i64 g) := hO.cell 6 0 rfl rfl 1
              have s2 : _ = some (Value.int .i64 (p)) := hO.cell 6 0 rfl rfl 2
              have s3 : _ = some (Value.int .i64 u) := hO.cell 6 0 rfl rfl 3
              have s4 : _ = some (Value.bool false) := hO.cell 6 0 rfl rfl 4
              have s5 : _ = some (Value.bool true) := hO.cell 6 0 rfl rfl 5
              have hO1 := fun o => hO.via (below_alloc _ o)
              go_wp2_with first
                | (go_at_call 37; refine (plain_Words 0 hO rfl (by show 11 ≤ 4096; decide)).mono ?_; rw [show ((p14A v2).length : Int) = 11 from rfl]; rintro e w12 ⟨rfl, rfl⟩)
                | (go_at_call 21; refine (law14_live _).mono ?_; rintro e w15 ⟨rfl, hb⟩; first | have hO := hO.via hb | have hO := (hO1 _).via hb)
              go_ret
              exact ⟨rfl, by rw [HC.out]; exact hO.below⟩
      case false =>
        have hc := show c = 0 from HC2.out
        subst hc
        go_upto_region 20 with (go_at_call 14; refine (handle_make _ _ _).mono ?_; rw [HMK.out]; rintro e w7 ⟨rfl, rfl⟩)
        all_goals
          have hp' : p' = p + -1 := by have := HP'.out; rw [HC1.out] at this; exact this
          subst hp'
          have HQW := Lib.hid (un_pack HM'.out)
          have HQU := Lib.hid (u_yes HQW.out.1)
          generalize hvv : eWord o g (p + -1) u false true = v2 at hO HQW HQU
          have HVV := Lib.hid hvv
          clear hvv
          go_upto_region 23 with fail
          have hO := hO.more (.cells #[.int .i64 o, .int .i64 g, .int .i64 (p + -1), .int .i64 u, .bool false, .bool true] 68)
          generalize w6.heap.size = wb at hO ⊢
          generalize w6.alloc _ = w8 at hO ⊢
          clear e0 e1 e2 e3 e4 e5 ez b0 b1 b2 bz
          go_wp2_with fail
          refine (plain_Load 0 8 hO rfl (by show 11 ≤ 4096; decide)).mono ?_; rw [p14A_at]; rintro e w9 ⟨rfl, hO'⟩; have hO := hO'; (try simp only [List.set_cons_zero, List.set_cons_succ, List.cons_append, List.nil_append, List.eraseIdx_cons_succ, List.eraseIdx_cons_zero] at hO)
          go_wp2_with fail
          refine (ref02_Unpack _ _).mono ?_; rw [HQU.out.1, HQU.out.2.1, HQU.out.2.2.1, HQU.out.2.2.2.1, HQU.out.2.2.2.2.1, HQU.out.2.2.2.2.2.1, HQU.out.2.2.2.2.2.2, HQW.out.2.1, HQW.out.2.2.1, HQW.out.2.2.2.1, HQW.out.2.2.2.2.1, HQW.out.2.2.2.2.2.1, HQW.out.2.2.2.2.2.2]; rintro e w10 ⟨rfl, hb⟩; have hO := hO.via hb
          clear hO' hb
          go_wp2_with fail
          have hO := hO.more (.cells #[.int .i64 o, .int .i64 g, .int .i64 (p + -1), .int .i64 u, .bool false, .bool true] 68)
          generalize w10.heap.size = xb at hO ⊢
          generalize w10.alloc _ = w11 at hO ⊢
          (try simp only [List.set_cons_zero, List.set_cons_succ, List.cons_append, List.nil_append, List.eraseIdx_cons_succ, List.eraseIdx_cons_zero] at hO)
          obtain rfl := HN.out HC1.out
          clear HQW HQU HVV HC1 HC2 HQ HMK HR HM' HP' HN
          go_loopw [21] (fun i wr => ∃ (k : Nat) (m1 m2 : Int), i = .int .i64 k ∧ k ≤ 11 ∧ Owns cb W wr [memG pm bw bb (p14A v2) (List.replicate (Int.toNat 8) 0) m1, [(cb, Obj.cells #[Value.int .i64 o, .int .i64 g, .int .i64 p, .int .i64 u, .bool false, .bool true] 68 (0, 0))], [(cb + 1, Obj.cells #[Value.int .i64 8, .int .i64 2, .int .i64 1] 26 (0, 0))], memG pc cw cbb (p14A v) (List.replicate (Int.toNat 8) 0) m2, [(rb, Obj.cells #[Value.int .i64 0, .int .i64 0] 37 (0, 0))], [(wb, Obj.cells #[Value.int .i64 o, .int .i64 g, .int .i64 (p + -1), .int .i64 u, .bool false, .bool true] 68 (0, 0))], [(xb, Obj.cells #[Value.int .i64 o, .int .i64 g, .int .i64 (p + -1), .int .i64 u, .bool false, .bool true] 68 (0, 0))]]) (fun i _ => 11 - (intOf i).toNat)
          case atStart => exact ⟨0, _, _, rfl, by omega, hO⟩
          case round =>
            clear hO
            obtain ⟨k, m1, m2, rfl, hk, hO⟩ := hrel
            by_cases hlt : k < 11
            · by_cases h8 : k = 8
              · subst h8
                go_wp2_with (go_at_call 37; refine (plain_Words 0 hO rfl (by show 11 ≤ 4096; decide)).mono ?_; rw [show ((p14A v2).length : Int) = 11 from rfl]; rintro e w12 ⟨rfl, rfl⟩)
                go_roundw
                case rel => exact ⟨9, m1, m2, by go_num, by omega, hO⟩
                case measure => simp [intOf]
              · have h8' : ((k : Int) != 8) = true := by rw [bne_iff_ne]; omega
                have hy := Lib.hid (p14A_same v2 v k h8)
                clear h8
                go_wp2_with (go_at_call 37; refine (plain_Words 0 hO rfl (by show 11 ≤ 4096; decide)).mono ?_; rw [show ((p14A v2).length : Int) = 11 from rfl]; rintro e w12 ⟨rfl, rfl⟩)
                refine (plain_Load 0 _ hO rfl (by show 11 ≤ 4096; decide)).mono ?_; rw [hy.out]; rintro e w13 ⟨rfl, hO'⟩; have hO := hO'; (try simp only [List.set_cons_zero, List.set_cons_succ, List.cons_append, List.nil_append, List.eraseIdx_cons_succ, List.eraseIdx_cons_zero] at hO)
                go_wp2_with fail
                refine (plain_Load 3 _ hO rfl (by show 11 ≤ 4096; decide)).mono ?_; rintro e w14 ⟨rfl, hO'⟩; have hO := hO'; (try simp only [List.set_cons_zero, List.set_cons_succ, List.cons_append, List.nil_append, List.eraseIdx_cons_succ, List.eraseIdx_cons_zero] at hO)
                go_wp2_with fail
                go_roundw
                case rel => exact ⟨k + 1, _, _, by go_num, by omega, hO⟩
                case measure => simp [intOf]; omega
            · have hge : decide ((k : Int) < 11) = false := by rw [decide_eq_false_iff_not]; omega
              clear hlt
              have r0 : _ = some (Value.int .i64 0) := hO.cell 4 0 rfl rfl 0
              have r1 : _ = some (Value.int .i64 0) := hO.cell 4 0 rfl rfl 1
              have t0 : _ = some (Value.int .i64 o) := hO.cell 5 0 rfl rfl 0
              have t1 : _ = some (Value.int .i64 g) := hO.cell 5 0 rfl rfl 1
              have t2 : _ = some (Value.int .i64 (p + -1)) := hO.cell 5 0 rfl rfl 2
              have t3 : _ = some (Value.int .i64 u) := hO.cell 5 0 rfl rfl 3
              have t4 : _ = some (Value.bool false) := hO.cell 5 0 rfl rfl 4
              have t5 : _ = some (Value.bool true) := hO.cell 5 0 rfl rfl 5
              have s0 : _ = some (Value.int .i64 o) := hO.cell 6 0 rfl rfl 0
              have s1 : _ = some (Value.int .i64 g) := hO.cell 6 0 rfl rfl 1
              have s2 : _ = some (Value.int .i64 (p + -1)) := hO.cell 6 0 rfl rfl 2
              have s3 : _ = some (Value.int .i64 u) := hO.cell 6 0 rfl rfl 3
              have s4 : _ = some (Value.bool false) := hO.cell 6 0 rfl rfl 4
              have s5 : _ = some (Value.bool true) := hO.cell 6 0 rfl rfl 5
              have hO1 := fun o => hO.via (below_alloc _ o)
              go_wp2_with first
                | (go_at_call 37; refine (plain_Words 0 hO rfl (by show 11 ≤ 4096; decide)).mono ?_; rw [show ((p14A v2).length : Int) = 11 from rfl]; rintro e w12 ⟨rfl, rfl⟩)
                | (go_at_call 21; refine (law14_live _).mono ?_; rintro e w15 ⟨rfl, hb⟩; first | have hO := hO.via hb | have hO := (hO1 _).via hb)
              go_ret
              exact ⟨rfl, by rw [HC.out]; exact hO.below⟩
    case false =>
      cases q7
      case true =>
        have hc := show c = 7 from HC2.out
        subst hc
        go_upto_region 20 with (go_at_call 14; refine (handle_make _ _ _).mono ?_; rw [HMK.out]; rintro e w7 ⟨rfl, rfl⟩)
        all_goals
          have hp' : p = p' := by have := HP'.out; rw [HC1.out] at this; exact this.symm
          subst hp'
          have HQW := Lib.hid (un_pack HM'.out)
          have HQU := Lib.hid (u_yes HQW.out.1)
          generalize hvv : eWord o g (p) u false true = v2 at hO HQW HQU
          have HVV := Lib.hid hvv
          clear hvv
          go_upto_region 23 with fail
          have hO := hO.more (.cells #[.int .i64 o, .int .i64 g, .int .i64 (p), .int .i64 u, .bool false, .bool true] 68)
          generalize w6.heap.size = wb at hO ⊢
          generalize w6.alloc _ = w8 at hO ⊢
          clear e0 e1 e2 e3 e4 e5 ez b0 b1 b2 bz
          go_wp2_with fail
          refine (plain_Load 0 8 hO rfl (by show 11 ≤ 4096; decide)).mono ?_; rw [p14A_at]; rintro e w9 ⟨rfl, hO'⟩; have hO := hO'; (try simp only [List.set_cons_zero, List.set_cons_succ, List.cons_append, List.nil_append, List.eraseIdx_cons_succ, List.eraseIdx_cons_zero] at hO)
          go_wp2_with fail
          refine (ref02_Unpack _ _).mono ?_; rw [HQU.out.1, HQU.out.2.1, HQU.out.2.2.1, HQU.out.2.2.2.1, HQU.out.2.2.2.2.1, HQU.out.2.2.2.2.2.1, HQU.out.2.2.2.2.2.2, HQW.out.2.1, HQW.out.2.2.1, HQW.out.2.2.2.1, HQW.out.2.2.2.2.1, HQW.out.2.2.2.2.2.1, HQW.out.2.2.2.2.2.2]; rintro e w10 ⟨rfl, hb⟩; have hO := hO.via hb
          clear hO' hb
          go_wp2_with fail
          have hO := hO.more (.cells #[.int .i64 o, .int .i64 g, .int .i64 (p), .int .i64 u, .bool false, .bool true] 68)
          generalize w10.heap.size = xb at hO ⊢
          generalize w10.alloc _ = w11 at hO ⊢
          (try simp only [List.set_cons_zero, List.set_cons_succ, List.cons_append, List.nil_append, List.eraseIdx_cons_succ, List.eraseIdx_cons_zero] at hO)
          skip
          clear HQW HQU HVV HC1 HC2 HQ HMK HR HM' HP' HN
          go_loopw [21] (fun i wr => ∃ (k : Nat) (m1 m2 : Int), i = .int .i64 k ∧ k ≤ 11 ∧ Owns cb W wr [memG pm bw bb (p14A v2) (List.replicate (Int.toNat 8) 0) m1, [(cb, Obj.cells #[Value.int .i64 o, .int .i64 g, .int .i64 p, .int .i64 u, .bool false, .bool true] 68 (0, 0))], [(cb + 1, Obj.cells #[Value.int .i64 8, .int .i64 2, .int .i64 1] 26 (0, 0))], memG pc cw cbb (p14A v) (List.replicate (Int.toNat 8) 0) m2, [(rb, Obj.cells #[Value.int .i64 7, .int .i64 0] 37 (0, 0))], [(wb, Obj.cells #[Value.int .i64 o, .int .i64 g, .int .i64 (p), .int .i64 u, .bool false, .bool true] 68 (0, 0))], [(xb, Obj.cells #[Value.int .i64 o, .int .i64 g, .int .i64 (p), .int .i64 u, .bool false, .bool true] 68 (0, 0))]]) (fun i _ => 11 - (intOf i).toNat)
          case atStart => exact ⟨0, _, _, rfl, by omega, hO⟩
          case round =>
            clear hO
            obtain ⟨k, m1, m2, rfl, hk, hO⟩ := hrel
            by_cases hlt : k < 11
            · by_cases h8 : k = 8
              · subst h8
                go_wp2_with (go_at_call 37; refine (plain_Words 0 hO rfl (by show 11 ≤ 4096; decide)).mono ?_; rw [show ((p14A v2).length : Int) = 11 from rfl]; rintro e w12 ⟨rfl, rfl⟩)
                go_roundw
                case rel => exact ⟨9, m1, m2, by go_num, by omega, hO⟩
                case measure => simp [intOf]
              · have h8' : ((k : Int) != 8) = true := by rw [bne_iff_ne]; omega
                have hy := Lib.hid (p14A_same v2 v k h8)
                clear h8
                go_wp2_with (go_at_call 37; refine (plain_Words 0 hO rfl (by show 11 ≤ 4096; decide)).mono ?_; rw [show ((p14A v2).length : Int) = 11 from rfl]; rintro e w12 ⟨rfl, rfl⟩)
                refine (plain_Load 0 _ hO rfl (by show 11 ≤ 4096; decide)).mono ?_; rw [hy.out]; rintro e w13 ⟨rfl, hO'⟩; have hO := hO'; (try simp only [List.set_cons_zero, List.set_cons_succ, List.cons_append, List.nil_append, List.eraseIdx_cons_succ, List.eraseIdx_cons_zero] at hO)
                go_wp2_with fail
                refine (plain_Load 3 _ hO rfl (by show 11 ≤ 4096; decide)).mono ?_; rintro e w14 ⟨rfl, hO'⟩; have hO := hO'; (try simp only [List.set_cons_zero, List.set_cons_succ, List.cons_append, List.nil_append, List.eraseIdx_cons_succ, List.eraseIdx_cons_zero] at hO)
                go_wp2_with fail
                go_roundw
                case rel => exact ⟨k + 1, _, _, by go_num, by omega, hO⟩
                case measure => simp [intOf]; omega
            · have hge : decide ((k : Int) < 11) = false := by rw [decide_eq_false_iff_not]; omega
              clear hlt
              have r0 : _ = some (Value.int .i64 7) := hO.cell 4 0 rfl rfl 0
              have r1 : _ = some (Value.int .i64 0) := hO.cell 4 0 rfl rfl 1
              have t0 : _ = some (Value.int .i64 o) := hO.cell 5 0 rfl rfl 0
              have t1 : _ = some (Value.int .i64 g) := hO.cell 5 0 rfl rfl 1
              have t2 : _ = some (Value.int .i64 (p)) := hO.cell 5 0 rfl rfl 2
              have t3 : _ = some (Value.int .i64 u) := hO.cell 5 0 rfl rfl 3
              have t4 : _ = some (Value.bool false) := hO.cell 5 0 rfl rfl 4
              have t5 : _ = some (Value.bool true) := hO.cell 5 0 rfl rfl 5
              have s0 : _ = some (Value.int .i64 o) := hO.cell 6 0 rfl rfl 0
              have s1 : _ = some (Value.int .i64 g) := hO.cell 6 0 rfl rfl 1
              have s2 : _ = some (Value.int .i64 (p)) := hO.cell 6 0 rfl rfl 2
              have s3 : _ = some (Value.int .i64 u) := hO.cell 6 0 rfl rfl 3
              have s4 : _ = some (Value.bool false) := hO.cell 6 0 rfl rfl 4
              have s5 : _ = some (Value.bool true) := hO.cell 6 0 rfl rfl 5
              have hO1 := fun o => hO.via (below_alloc _ o)
              go_wp2_with first
                | (go_at_call 37; refine (plain_Words 0 hO rfl (by show 11 ≤ 4096; decide)).mono ?_; rw [show ((p14A v2).length : Int) = 11 from rfl]; rintro e w12 ⟨rfl, rfl⟩)
                | (go_at_call 21; refine (law14_live _).mono ?_; rintro e w15 ⟨rfl, hb⟩; first | have hO := hO.via hb | have hO := (hO1 _).via hb)
              go_ret
              exact ⟨rfl, by rw [HC.out]; exact hO.below⟩
      case false =>
        have hc := show c = 0 from HC2.out
        subst hc
        go_upto_region 20 with (go_at_call 14; refine (handle_make _ _ _).mono ?_; rw [HMK.out]; rintro e w7 ⟨rfl, rfl⟩)
        all_goals
          have hp' : p' = p + 1 := by have := HP'.out; rw [HC1.out] at this; exact this
          subst hp'
          have HQW := Lib.hid (un_pack HM'.out)
          have HQU := Lib.hid (u_yes HQW.out.1)
          generalize hvv : eWord o g (p + 1) u false true = v2 at hO HQW HQU
          have HVV := Lib.hid hvv
          clear hvv
          go_upto_region 23 with fail
          have hO := hO.more (.cells #[.int .i64 o, .int .i64 g, .int .i64 (p + 1), .int .i64 u, .bool false, .bool true] 68)
          generalize w6.heap.size = wb at hO ⊢
          generalize w6.alloc _ = w8 at hO ⊢
          clear e0 e1 e2 e3 e4 e5 ez b0 b1 b2 bz
          go_wp2_with fail
          refine (plain_Load 0 8 hO rfl (by show 11 ≤ 4096; decide)).mono ?_; rw [p14A_at]; rintro e w9 ⟨rfl, hO'⟩; have hO := hO'; (try simp only [List.set_cons_zero, List.set_cons_succ, List.cons_append, List.nil_append, List.eraseIdx_cons_succ, List.eraseIdx_cons_zero] at hO)
          go_wp2_with fail
          refine (ref02_Unpack _ _).mono ?_; rw [HQU.out.1, HQU.out.2.1, HQU.out.2.2.1, HQU.out.2.2.2.1, HQU.out.2.2.2.2.1, HQU.out.2.2.2.2.2.1, HQU.out.2.2.2.2.2.2, HQW.out.2.1, HQW.out.2.2.1, HQW.out.2.2.2.1, HQW.out.2.2.2.2.1, HQW.out.2.2.2.2.2.1, HQW.out.2.2.2.2.2.2]; rintro e w10 ⟨rfl, hb⟩; have hO := hO.via hb
          clear hO' hb
          go_wp2_with fail
          have hO := hO.more (.cells #[.int .i64 o, .int .i64 g, .int .i64 (p + 1), .int .i64 u, .bool false, .bool true] 68)
          generalize w10.heap.size = xb at hO ⊢
          generalize w10.alloc _ = w11 at hO ⊢
          (try simp only [List.set_cons_zero, List.set_cons_succ, List.cons_append, List.nil_append, List.eraseIdx_cons_succ, List.eraseIdx_cons_zero] at hO)
          obtain rfl := HN.out HC1.out
          clear HQW HQU HVV HC1 HC2 HQ HMK HR HM' HP' HN
          go_loopw [21] (fun i wr => ∃ (k : Nat) (m1 m2 : Int), i = .int .i64 k ∧ k ≤ 11 ∧ Owns cb W wr [memG pm bw bb (p14A v2) (List.replicate (Int.toNat 8) 0) m1, [(cb, Obj.cells #[Value.int .i64 o, .int .i64 g, .int .i64 p, .int .i64 u, .bool false, .bool true] 68 (0, 0))], [(cb + 1, Obj.cells #[Value.int .i64 8, .int .i64 2, .int .i64 1] 26 (0, 0))], memG pc cw cbb (p14A v) (List.replicate (Int.toNat 8) 0) m2, [(rb, Obj.cells #[Value.int .i64 0, .int .i64 0] 37 (0, 0))], [(wb, Obj.cells #[Value.int .i64 o, .int .i64 g, .int .i64 (p + 1), .int .i64 u, .bool false, .bool true] 68 (0, 0))], [(xb, Obj.cells #[Value.int .i64 o, .int .i64 g, .int .i64 (p + 1), .int .i64 u, .bool false, .bool true] 68 (0, 0))]]) (fun i _ => 11 - (intOf i).toNat)
          case atStart => exact ⟨0, _, _, rfl, by omega, hO⟩
          case round =>
            clear hO
            obtain ⟨k, m1, m2, rfl, hk, hO⟩ := hrel
            by_cases hlt : k < 11
            · by_cases h8 : k = 8
              · subst h8
                go_wp2_with (go_at_call 37; refine (plain_Words 0 hO rfl (by show 11 ≤ 4096; decide)).mono ?_; rw [show ((p14A v2).length : Int) = 11 from rfl]; rintro e w12 ⟨rfl, rfl⟩)
                go_roundw
                case rel => exact ⟨9, m1, m2, by go_num, by omega, hO⟩
                case measure => simp [intOf]
              · have h8' : ((k : Int) != 8) = true := by rw [bne_iff_ne]; omega
                have hy := Lib.hid (p14A_same v2 v k h8)
                clear h8
                go_wp2_with (go_at_call 37; refine (plain_Words 0 hO rfl (by show 11 ≤ 4096; decide)).mono ?_; rw [show ((p14A v2).length : Int) = 11 from rfl]; rintro e w12 ⟨rfl, rfl⟩)
                refine (plain_Load 0 _ hO rfl (by show 11 ≤ 4096; decide)).mono ?_; rw [hy.out]; rintro e w13 ⟨rfl, hO'⟩; have hO := hO'; (try simp only [List.set_cons_zero, List.set_cons_succ, List.cons_append, List.nil_append, List.eraseIdx_cons_succ, List.eraseIdx_cons_zero] at hO)
                go_wp2_with fail
                refine (plain_Load 3 _ hO rfl (by show 11 ≤ 4096; decide)).mono ?_; rintro e w14 ⟨rfl, hO'⟩; have hO := hO'; (try simp only [List.set_cons_zero, List.set_cons_succ, List.cons_append, List.nil_append, List.eraseIdx_cons_succ, List.eraseIdx_cons_zero] at hO)
                go_wp2_with fail
                go_roundw
                case rel => exact ⟨k + 1, _, _, by go_num, by omega, hO⟩
                case measure => simp [intOf]; omega
            · have hge : decide ((k : Int) < 11) = false := by rw [decide_eq_false_iff_not]; omega
              clear hlt
              have r0 : _ = some (Value.int .i64 0) := hO.cell 4 0 rfl rfl 0
              have r1 : _ = some (Value.int .i64 0) := hO.cell 4 0 rfl rfl 1
              have t0 : _ = some (Value.int .i64 o) := hO.cell 5 0 rfl rfl 0
              have t1 : _ = some (Value.int .i64 g) := hO.cell 5 0 rfl rfl 1
              have t2 : _ = some (Value.int .i64 (p + 1)) := hO.cell 5 0 rfl rfl 2
              have t3 : _ = some (Value.int .i64 u) := hO.cell 5 0 rfl rfl 3
              have t4 : _ = some (Value.bool false) := hO.cell 5 0 rfl rfl 4
              have t5 : _ = some (Value.bool true) := hO.cell 5 0 rfl rfl 5
              have s0 : _ = some (Value.int .i64 o) := hO.cell 6 0 rfl rfl 0
              have s1 : _ = some (Value.int .i64 g) := hO.cell 6 0 rfl rfl 1
              have s2 : _ = some (Value.int .i64 (p + 1)) := hO.cell 6 0 rfl rfl 2
              have s3 : _ = some (Value.int .i64 u) := hO.cell 6 0 rfl rfl 3
              have s4 : _ = some (Value.bool false) := hO.cell 6 0 rfl rfl 4
              have s5 : _ = some (Value.bool true) := hO.cell 6 0 rfl rfl 5
              have hO1 := fun o => hO.via (below_alloc _ o)
              go_wp2_with first
                | (go_at_call 37; refine (plain_Words 0 hO rfl (by show 11 ≤ 4096; decide)).mono ?_; rw [show ((p14A v2).length : Int) = 11 from rfl]; rintro e w12 ⟨rfl, rfl⟩)
                | (go_at_call 21; refine (law14_live _).mono ?_; rintro e w15 ⟨rfl, hb⟩; first | have hO := hO.via hb | have hO := (hO1 _).via hb)
              go_ret
              exact ⟨rfl, by rw [HC.out]; exact hO.below⟩
theorem PinAlone_walk (o g p u : Int) (l a : Bool) (h : Int) (un : Bool) (W : World) (l1 : -9223372036854775808 ≤ h) (u1 : h ≤ 9223372036854775807) : Calls Try.prog 12 #[.agg #[.int .i64 o, .int .i64 g, .int .i64 p, .int .i64 u, .bool l, .bool a], .int .i64 h, .bool un] W fun e w' => e = .returned (.bool true) ∧ Below W.heap.size W w' := by
  cases hm : eMay o g p u l a
  · exact PinAlone_no o g p u l a h un W 0 1 (by unfold ePack; rw [hm]; rfl) (.inl rfl)
  · cases l
    · exact PinAlone_at o g p u false a h un W hm rfl l1 u1
    · exact PinAlone_no o g p u true a h un W (eWord o g p u true a) 0 (by unfold ePack; rw [hm]; rfl) (.inr ⟨rfl, rfl⟩)
end Go.Proofs.Ytmbkkpeepbfgoaa
