/- The epoch law EpochLeft. -/
import Derived.Deep.RegionHeld3
import Derived.Test.YtpfahnnmbaipdaaEpF1
namespace Go.Proofs.Ytpfahnnmbaipdaa
set_option linter.unusedVariables false
set_option linter.unusedSimpArgs false
open Go.RowKit
set_option maxRecDepth 100000 in
set_option maxHeartbeats 8000000 in
theorem EpochLeft_no (a s t : Int) (v : Value) (xs : List (List Value)) (W : World) (hs : SArg W [true, true, true] v xs) (hc : cfgOk a s t = false ∨ ¬ xs.length ≤ 80) : Calls Try.prog 3 #[.agg #[.int .i64 a, .int .i64 s, .int .i64 t], v] W fun e w' => e = .returned (.bool true) ∧ Below W.heap.size W w' := by
  obtain ⟨pa, cap, rfl, hl, hx⟩ := hs.form
  clear hx hs
  by_cases hn : 80 < xs.length
  · clear hc
    go_enter Try.func3, Try.ntmps3; go_wp2_with fail; have hO := (Owns.nil W).more (.cells #[.int .i64 a, .int .i64 s, .int .i64 t] 23); generalize W.alloc (.cells #[.int .i64 a, .int .i64 s, .int .i64 t] 23) = w0 at hO ⊢
    go_wp2_with (go_at_call 12; refine (law16_live _).mono ?_; rintro e w2 ⟨rfl, hb⟩; have hO := hO.via hb)
    go_ret
    exact ⟨rfl, hO.below⟩
  · have CK := Lib.hid (show cfgOk a s t = false by rcases hc with h | h; exact h; omega)
    clear hc
    go_enter Try.func3, Try.ntmps3; go_wp2_with fail; have hO := (Owns.nil W).more (.cells #[.int .i64 a, .int .i64 s, .int .i64 t] 23); generalize W.alloc (.cells #[.int .i64 a, .int .i64 s, .int .i64 t] 23) = w0 at hO ⊢
    refine (law16_start_no a s t _ CK.out).mono ?_; rintro e w1 ⟨rfl, hb⟩
    have hO := hO.via hb; (try simp only [List.set_cons_zero, List.set_cons_succ, List.cons_append, List.nil_append, fam_set] at hO); have a0 : _ = some (Value.int .i64 a) := hO.cell 0 0 rfl rfl 0; have a1 : _ = some (Value.int .i64 s) := hO.cell 0 0 rfl rfl 1; have a2 : _ = some (Value.int .i64 t) := hO.cell 0 0 rfl rfl 2
    go_wp2_with first
      | (go_at_call 12; refine (law16_live _).mono ?_; rintro e w2 ⟨rfl, hb⟩; have hO := hO.via hb)
      | (go_at_call 14; refine (ref06_May _ _ _ _).mono ?_; rw [CK.out]; rintro e w4 ⟨rfl, hb⟩; have hO := hO.via hb)
    go_ret
    exact ⟨rfl, hO.below⟩
set_option maxRecDepth 100000 in
set_option maxHeartbeats 8000000 in
theorem EpochLeft_go (a s t : Int) (v : Value) (xs : List (List Value)) (W : World) (hs : SArg W [true, true, true] v xs) (hc : cfgOk a s t = true) (hx80 : xs.length ≤ 80) : Calls Try.prog 3 #[.agg #[.int .i64 a, .int .i64 s, .int .i64 t], v] W fun e w' => e = .returned (.bool true) ∧ Below W.heap.size W w' := by
  obtain ⟨pa, cap, rfl, hl, hx⟩ := hs.form
  have CK := Lib.hid hc
  obtain ⟨-, -, -, s1, s4, t1, t4⟩ := cfgOk_of hc
  have ET := Lib.hid (of_yes hc).1
  have ES := Lib.hid (of_yes hc).2.1
  have L := Lib.hid (lOk_yes hc)
  have NX := Lib.hid (show tNext a s t = 1 by unfold tNext; rw [if_pos hc])
  have HX := Lib.hid hx
  have d3 : decide (80 < (xs.length : Int)) = false := by rw [decide_eq_false_iff_not]; omega
  have mk := made_bools 4 4 rfl (by decide)
  have mk2 := made_pents 4 4 rfl (by decide)
  clear hc hx hs
  go_enter Try.func3, Try.ntmps3; go_wp2_with fail; have hO := (Owns.nil W).more (.cells #[.int .i64 a, .int .i64 s, .int .i64 t] 23); generalize W.alloc (.cells #[.int .i64 a, .int .i64 s, .int .i64 t] 23) = w0 at hO ⊢
  refine (law16_start a s t hO CK.out).mono ?_; rintro e w1 ⟨p, bw, bb, m, rfl, hO'⟩
  have hO := hO'.last; (try simp only [List.set_cons_zero, List.set_cons_succ, List.cons_append, List.nil_append, fam_set] at hO); have a0 : _ = some (Value.int .i64 a) := hO.cell 0 0 rfl rfl 0; have a1 : _ = some (Value.int .i64 s) := hO.cell 0 0 rfl rfl 1; have a2 : _ = some (Value.int .i64 t) := hO.cell 0 0 rfl rfl 2
  have H0 := Lib.hid (EpSt.init t1 t4 s1 s4)
  have hz := hO.lt 0 0 rfl rfl
  go_wp2_with (go_at_call 15; refine stop_here ?_)
  unfold Stop
  have hO := hO.more (.cells (rowA (fun _ => Value.pointer none) 4) 35); (try simp only [List.set_cons_zero, List.set_cons_succ, List.cons_append, List.nil_append, fam_set] at hO); have a0 : _ = some (Value.int .i64 a) := hO.cell 0 0 rfl rfl 0; have a1 : _ = some (Value.int .i64 s) := hO.cell 0 0 rfl rfl 1; have a2 : _ = some (Value.int .i64 t) := hO.cell 0 0 rfl rfl 2
  generalize hnb : w1.heap.size = ab at hO ⊢
  clear hnb hz
  generalize w1.alloc (.cells (rowA (fun _ => Value.pointer none) 4) 35) = w2 at hO ⊢
  refine (epoch_NewTurn a s t hO).mono ?_; unfold turnNew; rw [ET.out, ES.out, NX.out]; rintro e w3 ⟨x, rfl, hO'⟩; have hO := hO'.last; (try simp only [List.set_cons_zero, List.set_cons_succ, List.cons_append, List.nil_append, fam_set] at hO); have a0 : _ = some (Value.int .i64 a) := hO.cell 0 0 rfl rfl 0; have a1 : _ = some (Value.int .i64 s) := hO.cell 0 0 rfl rfl 1; have a2 : _ = some (Value.int .i64 t) := hO.cell 0 0 rfl rfl 2
  go_wp2_with fail
  have hO := hO.more (.cells (rowA (fun _ => Value.bool false) 4) 4); (try simp only [List.set_cons_zero, List.set_cons_succ, List.cons_append, List.nil_append, fam_set] at hO)
  clear a0 a1 a2 d3 mk mk2
  generalize hnb : w3.heap.size = ob at hO ⊢
  clear hnb
  generalize w3.alloc (.cells (rowA (fun _ => Value.bool false) 4) 4) = w4 at hO ⊢
  have hO := hO.nils 4; (try simp only [List.set_cons_zero, List.set_cons_succ, List.cons_append, List.nil_append, fam_set] at hO)
  go_loopw [7, 8, 10] (fun xv bv i wr => ∃ (k : Nat) (m E nx ep ak : Int) (ws : List Int) (N : Nat → Int) (A : Nat → Option Int) (X : Nat → Nat) (xb : Nat) (bg : Bool) (old : Nat → Bool), i = .int .i64 k ∧ xv = .pointer (some ⟨xb, 0, none⟩) ∧ bv = .bool bg ∧ k ≤ xs.length ∧ E ≤ k ∧ EpSt t ws E N ∧ LInv t E N A nx ep ak bg old ∧ Owns W.heap.size W wr ([(W.heap.size, Obj.cells #[.int .i64 a, .int .i64 s, .int .i64 t] 23 (0, 0))] :: memG p bw bb ws (List.replicate a.toNat 0) m :: [(ab, Obj.cells (rowA (aRow A X) 4) 35 (0, 0))] :: machG 93 xb t s t nx ep ak :: [(ob, Obj.cells (rowA (fun j => Value.bool (old j)) 4) 4 (0, 0))] :: fam (aFam t s A X) 4)) (fun _ _ i _ => xs.length - (intOf i).toNat)
  case atStart => exact ⟨0, m, 0, 1, 0, 0, _, _, fun _ => none, fun _ => 0, x, false, fun _ => false, rfl, rfl, rfl, by omega, by omega, H0.out, LInv.init t, hO⟩
  case round =>
    clear hO H0
    obtain ⟨k, m, E, nx, ep, ak, ws, N, A, X, xb, bg, old, rfl, rfl, rfl, hk, hE, hEp, hI, hO⟩ := hrel
    (try simp only [List.set_cons_zero, List.set_cons_succ, List.cons_append, List.nil_append, fam_set] at hO); have a0 : _ = some (Value.int .i64 a) := hO.cell 0 0 rfl rfl 0; have a1 : _ = some (Value.int .i64 s) := hO.cell 0 0 rfl rfl 1; have a2 : _ = some (Value.int .i64 t) := hO.cell 0 0 rfl rfl 2
    have HE := Lib.hid hEp
    have HI := Lib.hid hI
    have HWS := Lib.hid (And.intro hEp.2.2.1 hEp.2.2.2.1)
    have E0 : 0 ≤ E := hI.1
    have hz := hO.lt 0 0 rfl rfl
    have hab := hO.lt 2 0 rfl rfl
    have hob := hO.lt 4 0 rfl rfl
    have hxb := hO.lt 3 0 rfl rfl
    have hO1 := fun o => hO.via (below_alloc wr o)
    clear hEp hI
    by_cases hlt : k < xs.length
    · obtain ⟨ib, io, rfl, hib, hI, -⟩ := HX.out k hlt
      have c0 := (hI 0 rfl).1
      have c1 := (hI 1 rfl).1
      have c2 := (hI 2 rfl).1
      obtain ⟨x0, x1⟩ := (hI 1 rfl).2
      simp only [List.length_cons, List.length_nil, Nat.add_zero, Nat.zero_add] at c0 c1 c2
      obtain ⟨d, hd⟩ : ∃ d, getI xs k 0 = d := ⟨_, rfl⟩
      obtain ⟨th, hth⟩ : ∃ d, getI xs k 1 = d := ⟨_, rfl⟩
      obtain ⟨to, hto⟩ : ∃ d, getI xs k 2 = d := ⟨_, rfl⟩
      rw [hd] at c0
      rw [hth] at c1 x0 x1
      rw [hto] at c2
      have C0 := Lib.hid c0
      have C1 := Lib.hid c1
      have C2 := Lib.hid c2
      have HIB := Lib.hid hib
      have k0 : _ = some (Value.int .i64 d) := (hO.below.cell (p := ⟨ib, io + k * 3, none⟩) HIB.out).trans C0.out; have k1 : _ = some (Value.int .i64 th) := (hO.below.cell (p := ⟨ib, io + k * 3 + 1, none⟩) HIB.out).trans C1.out; have k2 : _ = some (Value.int .i64 to) := (hO.below.cell (p := ⟨ib, io + k * 3 + 2, none⟩) HIB.out).trans C2.out
      clear hI hd hth c0 c1 c2
      by_cases hq0 : 0 ≤ th.tmod t
      rotate_left
      · have hq1 : th.tmod t < 0 := by omega
        clear hq0
        go_wp2_with (go_at_call 12; refine (law16_live _).mono ?_; rintro e w2 ⟨rfl, hb⟩; have hO := (hO1 _).via hb)
        go_ret
        exact ⟨rfl, hO.below⟩
      obtain ⟨q, hq⟩ : ∃ q : Nat, th.tmod t = q := ⟨(th.tmod t).toNat, by omega⟩
      have hqt : (q : Int) < t := by have := tmod_in th t t1 hq0; omega
      have hq4 : q < 4 := by omega
      clear hq0
      by_cases hd : 0 ≤ d ∧ d ≤ 2
      rotate_left
      · rcases (show d < 0 ∨ (0 ≤ d ∧ 2 < d) by omega) with h1 | ⟨h1, h2⟩
        all_goals
          clear hd
          go_wp2_with (go_at_call 12; refine (law16_live _).mono ?_; rintro e w2 ⟨rfl, hb⟩; have hO := (hO1 _).via hb)
          go_ret
          exact ⟨rfl, hO.below⟩
      obtain ⟨h1, h2⟩ := hd
      rcases (show d = 0 ∨ d = 1 ∨ d = 2 by omega) with rfl | rfl | rfl
      · have g := rowA_cell hO 2 0 rfl rfl q hq4
        have gf := blk_free (hO.get 2 0 rfl rfl) q
        unfold aRow at g
        cases hA : A q with
        | none =>
          rw [hA] at g
          unfold aPtr at g
          have HA := Lib.hid hA
          clear hA
          have QN := Lib.hid (show wAt ws (4 + q) = N q from HE.out.2.2.2.2.2 q hqt)
          obtain ⟨nq, hnq⟩ : ∃ n, N q = n := ⟨_, rfl⟩
          have HN := Lib.hid hnq
          clear hnq
          by_cases hn0 : nq = 0
          · subst hn0
            have SL := Lib.hid (estep_look HE.out t1 (4 + q))
            go_wp2_with first
              | (go_at_call 16; refine (plain_Load 1 (4 + q) (hO1 _) rfl HWS.out.1).mono ?_; rw [QN.out, HN.out]; rintro e w8 ⟨rfl, hO'⟩; have hO := hO'; (try simp only [List.set_cons_zero, List.set_cons_succ, List.cons_append, List.nil_append, fam_set] at hO); have a0 : _ = some (Value.int .i64 a) := hO.cell 0 0 rfl rfl 0; have a1 : _ = some (Value.int .i64 s) := hO.cell 0 0 rfl rfl 1; have a2 : _ = some (Value.int .i64 t) := hO.cell 0 0 rfl rfl 2; have g := rowA_cell hO 2 0 rfl rfl q hq4; unfold aRow at g; rw [HA.out] at g; unfold aPtr at g)
              | (go_at_call 17; refine (epoch_NewEnter a s t q hO).mono ?_; rw [ET.out, ES.out]; rintro e w9 ⟨x2, rfl, hO'⟩; have hO := hO'.place (q + 5); rw [entNew_in _ hqt] at hO; (try simp only [List.set_cons_zero, List.set_cons_succ, List.cons_append, List.nil_append, fam_set] at hO); have a0 : _ = some (Value.int .i64 a) := hO.cell 0 0 rfl rfl 0; have a1 : _ = some (Value.int .i64 s) := hO.cell 0 0 rfl rfl 1; have a2 : _ = some (Value.int .i64 t) := hO.cell 0 0 rfl rfl 2; have g := rowA_cell hO 2 0 rfl rfl q hq4; unfold aRow at g; rw [HA.out] at g; unfold aPtr at g; have gf := blk_free (hO.get 2 0 rfl rfl) q)
              | (go_at_call 18; refine stop_here ?_)
            unfold Stop
            have hO := rowA_put hO 2 rfl q (.pointer (some ⟨x2, 0, none⟩)); (try simp only [List.set_cons_zero, List.set_cons_succ, List.cons_append, List.nil_append, fam_set] at hO)
            generalize World.setCell _ _ _ = w10 at hO ⊢
            refine (enter_Step_look 1 (q + 5) (by omega) hO rfl ((fam_at5 hq4).trans (by rw [upd_same])) L.out HWS.out.1).mono ?_; rw [SL.out]; rintro e w11 ⟨rfl, m1, hO'⟩
            have hO := hO'; (try simp only [List.set_cons_zero, List.set_cons_succ, List.cons_append, List.nil_append, fam_set] at hO); rw [upd_upd, aFam_some, aRow_some] at hO
            go_wp2_with fail
            go_roundw
            case rel => exact ⟨k + 1, m1, E, nx, ep, ak, ws, N, _, _, xb, bg, old, by go_num, rfl, rfl, by omega, by omega, HE.out, HI.out.look q hqt HN.out, hO⟩
            case measure => simp [intOf]; omega
          · have hn1 : (nq != 0) = true := by rw [bne_iff_ne]; exact hn0
            go_wp2_with (go_at_call 16; refine (plain_Load 1 (4 + q) (hO1 _) rfl HWS.out.1).mono ?_; rw [QN.out, HN.out]; rintro e w8 ⟨rfl, hO'⟩; have hO := hO')
            (try simp only [List.set_cons_zero, List.set_cons_succ, List.cons_append, List.nil_append, fam_set] at hO)
            go_roundw
            case rel => exact ⟨k + 1, _, E, nx, ep, ak, ws, N, A, X, xb, bg, old, by go_num, rfl, rfl, by omega, by omega, HE.out, HI.out, hO⟩
            case measure => simp [intOf]; omega
        | some e =>
          rw [hA] at g
          unfold aPtr at g
          have HA := Lib.hid hA
          have hj := (fam_at5 (a := [(W.heap.size, Obj.cells #[.int .i64 a, .int .i64 s, .int .i64 t] 23 (0, 0))]) (b := memG p bw bb ws (List.replicate a.toNat 0) m) (c := [(ab, Obj.cells (rowA (aRow A X) 4) 35 (0, 0))]) (d := machG 93 xb t s t nx ep ak) (e := [(ob, Obj.cells (rowA (fun j => Value.bool (old j)) 4) 4 (0, 0))]) (F := aFam t s A X) hq4).trans (by unfold aFam; rw [hA]; unfold aGrp; rfl : some (aFam t s A X q) = some (entG (X q) t s (4 + q) 2 e))
          have HJ := Lib.hid hj
          obtain ⟨n0, e0, e1⟩ := HI.out.2.2.1 q hqt e hA
          clear hA hj n0
          have E1 := Lib.hid (show wrap64 (e + 1) = e + 1 by unfold wrap64; omega)
          go_wp2_with (go_at_call 18; refine (enter_Step_put 1 (q + 5) (by omega) (hO1 _) rfl HJ.out HWS.out.1).mono ?_; rw [estep_put]; rintro e w11 ⟨rfl, m1, hO'⟩; have hO := hO'; (try simp only [List.set_cons_zero, List.set_cons_succ, List.cons_append, List.nil_append, fam_set] at hO); have a0 : _ = some (Value.int .i64 a) := hO.cell 0 0 rfl rfl 0; have a1 : _ = some (Value.int .i64 s) := hO.cell 0 0 rfl rfl 1; have a2 : _ = some (Value.int .i64 t) := hO.cell 0 0 rfl rfl 2; have g := rowA_cell hO 2 0 rfl rfl q hq4; have gf := blk_free (hO.get 2 0 rfl rfl) q)
          have hO := (rowA_put hO 2 rfl q (.pointer none)).none (q + 5); (try simp only [List.set_cons_zero, List.set_cons_succ, List.cons_append, List.nil_append, fam_set] at hO); rw [upd_upd, aFam_none, aRow_none] at hO
          generalize World.setCell _ _ _ = w10 at hO ⊢
          go_roundw
          case rel => exact ⟨k + 1, m1, E, nx, ep, ak, _, _, _, _, xb, bg, old, by go_num, rfl, rfl, by omega, by omega, HE.out.note q _ (wPut_ok HWS.out.2 _ _) (by omega) hqt, by rw [E1.out]; exact HI.out.put q hqt e HA.out, hO⟩
          case measure => simp [intOf]; omega
      · have g := rowA_cell hO 2 0 rfl rfl q hq4
        unfold aRow at g
        cases hA : A q with
        | none =>
          rw [hA] at g
          unfold aPtr at g
          clear hA
          go_wp2_with (go_at_call 19; refine (epoch_Exit 1 a s t q (hO1 _) rfl HWS.out.1).mono ?_; rw [ET.out]; rintro e w11 ⟨rfl, m1, hO'⟩; have hO := hO'; (try simp only [List.set_cons_zero, List.set_cons_succ, List.cons_append, List.nil_append, fam_set] at hO); have a0 : _ = some (Value.int .i64 a) := hO.cell 0 0 rfl rfl 0; have a1 : _ = some (Value.int .i64 s) := hO.cell 0 0 rfl rfl 1; have a2 : _ = some (Value.int .i64 t) := hO.cell 0 0 rfl rfl 2; have g := rowA_cell hO 4 0 rfl rfl q hq4; have gf := blk_free (hO.get 4 0 rfl rfl) q)
          have hO := rowA_put hO 4 rfl q (.bool false); (try simp only [List.set_cons_zero, List.set_cons_succ, List.cons_append, List.nil_append, fam_set] at hO); rw [upd_boolr] at hO
          generalize World.setCell _ _ _ = w10 at hO ⊢
          go_roundw
          case rel => exact ⟨k + 1, m1, E, nx, ep, ak, _, _, _, _, xb, bg, _, by go_num, rfl, rfl, by omega, by omega, HE.out.exit q, HI.out.exit q hqt, hO⟩
          case measure => simp [intOf]; omega
        | some e =>
          rw [hA] at g
          unfold aPtr at g
          clear hA
          go_wp2_with fail
          go_roundw
          case rel => exact ⟨k + 1, m, E, nx, ep, ak, ws, N, A, X, xb, bg, old, by go_num, rfl, rfl, by omega, by omega, HE.out, HI.out, hO1 _⟩
          case measure => simp [intOf]; omega
      · have dq : decide ((q : Int) < 0) = false := by rw [decide_eq_false_iff_not]; omega
        cases bg with
        | false =>
          obtain ⟨rfl, rfl, rfl⟩ := HI.out.begin rfl
          obtain ⟨Ls, hLs⟩ : ∃ l, inL ws t.toNat = l := ⟨_, rfl⟩
          have HLs := Lib.hid (show ∀ (j : Nat) (y : Int), Ls[j]? = some y → ∃ q2 : Nat, y = q2 ∧ (q2 : Int) < t ∧ 0 < N q2 from fun j y hj => by
            obtain ⟨q2, h1, h2, h3⟩ := inL_mem (by rw [hLs]; exact List.mem_of_getElem? hj : y ∈ inL ws t.toNat)
            have h4 : (q2 : Int) < t := by omega
            rw [HE.out.2.2.2.2.2 q2 h4] at h3
            exact ⟨q2, h1, h4, h3⟩)
          have hLl : Ls.length ≤ 4 := by rw [← hLs]; have := inL_len ws t.toNat; omega
          have HL8 := Lib.hid hLs
          clear hLs
          go_wp2_with (go_at_call 20; refine (epoch_Inside 1 a s t (hO1 _) rfl HWS.out.1 HWS.out.2 CK.out).mono ?_; rw [HL8.out]; rintro e w8 ⟨v8, cur8, m8, rfl, hr8, hO'⟩; have hO := hO'; (try simp only [List.set_cons_zero, List.set_cons_succ, List.cons_append, List.nil_append, fam_set] at hO); obtain ⟨pa8, cap8, hv8, hc8⟩ := hr8.form; have HC8 := Lib.hid hc8; clear hc8 hr8; refine stop_here ?_)
          unfold Stop
          rw [List.length_map] at hv8
          obtain ⟨gl, hgl⟩ : ∃ gl, rowG 3 v8 cur8 = gl := ⟨_, rfl⟩
          rw [hgl] at hO
          have HGL := Lib.hid hgl
          subst hv8
          clear dq hgl
          go_wp2_with fail
          go_loopw [14] (fun jv wr => ∃ j0 : Nat, jv = .int .i64 j0 ∧ j0 ≤ 4 ∧ Owns W.heap.size W wr (gl :: [(W.heap.size, Obj.cells #[.int .i64 a, .int .i64 s, .int .i64 t] 23 (0, 0))] :: memG p bw bb ws (List.replicate a.toNat 0) m8 :: [(ab, Obj.cells (rowA (aRow A X) 4) 35 (0, 0))] :: machG 93 xb t s t 1 0 0 :: [(ob, Obj.cells (rowA (fun j => Value.bool (clr j0 old j)) 4) 4 (0, 0))] :: fam (aFam t s A X) 4)) (fun jv _ => 4 - (intOf jv).toNat)
          case atStart => exact ⟨0, rfl, by omega, hO⟩
          case round =>
            clear hO
            obtain ⟨j0, rfl, hj0, hO⟩ := hrel
            by_cases hj4 : j0 < 4
            · have g5 := rowA_cell hO 5 0 rfl rfl j0 hj4
              have gf5 := blk_free (hO.get 5 0 rfl rfl) j0
              go_wp2_with fail
              have hO := rowA_put hO 5 rfl j0 (.bool false); (try simp only [List.set_cons_zero, List.set_cons_succ, List.cons_append, List.nil_append, fam_set] at hO); rw [upd_boolr, clr_step] at hO
              generalize World.setCell _ _ _ = w10 at hO ⊢
              go_roundw
              case rel => exact ⟨j0 + 1, by go_num, by omega, hO⟩
              case measure => simp [intOf]; omega
            · have hj5 : j0 = 4 := by omega
              subst hj5
              rw [clr_all t4 HI.out.2.2.2.1] at hO
              go_wp2_with fail
              go_loopw [15] (fun jv wr => ∃ (j0 : Nat) (old2 : Nat → Bool), jv = .int .i64 j0 ∧ j0 ≤ Ls.length ∧ (∀ j : Nat, old2 j = true → (j : Int) < t ∧ 0 < N j) ∧ Owns W.heap.size W wr (gl :: [(W.heap.size, Obj.cells #[.int .i64 a, .int .i64 s, .int .i64 t] 23 (0, 0))] :: memG p bw bb ws (List.replicate a.toNat 0) m8 :: [(ab, Obj.cells (rowA (aRow A X) 4) 35 (0, 0))] :: machG 93 xb t s t 1 0 0 :: [(ob, Obj.cells (rowA (fun j => Value.bool (old2 j)) 4) 4 (0, 0))] :: fam (aFam t s A X) 4)) (fun jv _ => Ls.length - (intOf jv).toNat)
              case atStart => exact ⟨0, _, rfl, by omega, fun j h => by simp at h, hO⟩
              case round =>
                clear hO hj0 hj4
                obtain ⟨j0, old2, rfl, hj0, ho2, hO⟩ := hrel
                have HO2 := Lib.hid ho2
                clear ho2
                by_cases hjl : j0 < Ls.length
                · obtain ⟨q2, hq2, hq2t, hq2n⟩ := HLs.out j0 _ (List.getElem?_eq_getElem hjl)
                  obtain ⟨g8, rfl, hg8⟩ := HC8.out j0 (.int .i64 q2) (by rw [List.getElem?_map, List.getElem?_eq_getElem hjl]; simp only [Option.map_some]; rw [hq2])
                  have g0 := hg8 _ _ _ _ 3 0 hO (by rw [HGL.out]; rfl)
                  have q24 : q2 < 4 := by omega
                  have g5 := rowA_cell hO 5 0 rfl rfl q2 q24
                  have gf5 := blk_free (hO.get 5 0 rfl rfl) q2
                  have H2 := Lib.hid (And.intro hq2t hq2n)
                  clear hg8 hq2 hq2n
                  go_wp2_with fail
                  have hO := rowA_put hO 5 rfl q2 (.bool true); (try simp only [List.set_cons_zero, List.set_cons_succ, List.cons_append, List.nil_append, fam_set] at hO); rw [upd_boolr] at hO
                  generalize World.setCell _ _ _ = w10 at hO ⊢
                  go_roundw
                  case rel => exact ⟨j0 + 1, _, by go_num, by omega, fun j hj => by
                    by_cases e : j = q2
                    · subst e; exact H2.out
                    · rw [upd_ne _ _ e] at hj; exact HO2.out j hj, hO⟩
                  case measure => simp [intOf]; omega
                · have hge : decide (j0 < Ls.length) = false := by rw [decide_eq_false_iff_not]; omega
                  clear hjl
                  have hO := hO.tail
                  have TL := Lib.hid (tstep_look HE.out t1)
                  go_wp2_with (go_at_call 21; refine (turn_Step_look 1 3 (by decide) hO rfl rfl L.out HWS.out.1).mono ?_; rw [TL.out]; rintro e w11 ⟨rfl, m1, hO'⟩; have hO := hO'; (try simp only [List.set_cons_zero, List.set_cons_succ, List.cons_append, List.nil_append, fam_set] at hO))
                  go_roundw
                  case rel => exact ⟨k + 1, m1, E, _, _, _, ws, N, A, X, xb, true, old2, by go_num, rfl, rfl, by omega, by omega, HE.out, HI.out.starts _ HO2.out, hO⟩
                  case measure => simp [intOf]; omega
        | true =>
          clear dq
          rcases HI.out.cases rfl with ⟨rfl, rfl, rfl⟩ | ⟨rfl, hep, ha0, hat⟩
          · have TS := Lib.hid (tstep_swap HE.out t1)
            go_wp2_with (go_at_call 21; refine (turn_Step_swap 1 3 (by decide) (hO1 _) rfl rfl L.out HWS.out.1).mono ?_; rw [TS.out]; rintro e w11 ⟨rfl, m1, hO'⟩; have hO := hO'; (try simp only [List.set_cons_zero, List.set_cons_succ, List.cons_append, List.nil_append, fam_set] at hO))
            go_roundw
            case rel => exact ⟨k + 1, m1, _, _, _, _, _, N, A, X, xb, true, old, by go_num, rfl, rfl, by omega, by omega, HE.out.turn E0 (by omega), HI.out.swap t1 rfl rfl, hO⟩
            case measure => simp [intOf]; omega
          · obtain ⟨r, hr⟩ : ∃ r : Nat, ak = r := ⟨ak.toNat, by omega⟩
            subst hr
            have AS := Lib.hid (fun ho => HI.out.asked rfl r rfl ho)
            obtain ⟨bo, hbo⟩ : ∃ b, dOlder (N r) E = b := ⟨_, rfl⟩
            have HBO := Lib.hid hbo
            have HEP := Lib.hid hep
            clear hbo hep
            cases bo with
            | true =>
              have TO := Lib.hid (tstep_older HE.out t4 HEP.out E0 (by omega) r hat HBO.out)
              go_wp2_with first
                | (go_at_call 21; refine (turn_Step_ask 1 3 (by decide) (hO1 _) rfl rfl L.out HWS.out.1 HWS.out.2).mono ?_; rw [TO.out]; rintro e w11 ⟨rfl, m1, hO'⟩; have hO := hO'; (try simp only [List.set_cons_zero, List.set_cons_succ, List.cons_append, List.nil_append, fam_set] at hO); have a0 : _ = some (Value.int .i64 a) := hO.cell 0 0 rfl rfl 0; have a1 : _ = some (Value.int .i64 s) := hO.cell 0 0 rfl rfl 1; have a2 : _ = some (Value.int .i64 t) := hO.cell 0 0 rfl rfl 2)
                | (go_at_call 15; refine (epoch_NewTurn a s t hO).mono ?_; unfold turnNew; rw [ET.out, ES.out, NX.out]; rintro e w12 ⟨x2, rfl, hO'⟩; have hO := hO'.place 3; (try simp only [List.set_cons_zero, List.set_cons_succ, List.cons_append, List.nil_append, fam_set] at hO))
              go_roundw
              case rel => exact ⟨k + 1, m1, E, _, _, _, ws, N, A, X, x2, false, old, by go_num, rfl, rfl, by omega, by omega, HE.out, HI.out.fresh, hO⟩
              case measure => simp [intOf]; omega
            | false =>
              by_cases hl : (r : Int) + 1 = t
              · have TO := Lib.hid (tstep_last HE.out t4 HEP.out E0 (by omega) r hat HBO.out hl)
                have AL := Lib.hid ((AS.out HBO.out).2.2 hl)
                clear hl
                go_wp2_with first
                  | (go_at_call 21; refine (turn_Step_ask 1 3 (by decide) (hO1 _) rfl rfl L.out HWS.out.1 HWS.out.2).mono ?_; rw [TO.out]; rintro e w11 ⟨rfl, m1, hO'⟩; have hO := hO'; (try simp only [List.set_cons_zero, List.set_cons_succ, List.cons_append, List.nil_append, fam_set] at hO); have a0 : _ = some (Value.int .i64 a) := hO.cell 0 0 rfl rfl 0; have a1 : _ = some (Value.int .i64 s) := hO.cell 0 0 rfl rfl 1; have a2 : _ = some (Value.int .i64 t) := hO.cell 0 0 rfl rfl 2; have o0 := rowA_cell hO 4 0 rfl rfl 0 (by decide); have o1 := rowA_cell hO 4 0 rfl rfl 1 (by decide); have o2 := rowA_cell hO 4 0 rfl rfl 2 (by decide); have o3 := rowA_cell hO 4 0 rfl rfl 3 (by decide); rw [AL.out] at o0 o1 o2 o3)
                  | (go_at_call 15; refine (epoch_NewTurn a s t hO).mono ?_; unfold turnNew; rw [ET.out, ES.out, NX.out]; rintro e w12 ⟨x2, rfl, hO'⟩; have hO := hO'.place 3; (try simp only [List.set_cons_zero, List.set_cons_succ, List.cons_append, List.nil_append, fam_set] at hO))
                go_roundw
                case rel => exact ⟨k + 1, m1, E, _, _, _, ws, N, A, X, x2, false, old, by go_num, rfl, rfl, by omega, by omega, HE.out, HI.out.fresh, hO⟩
                case measure => simp [intOf]; omega
              · have TO := Lib.hid (tstep_more HE.out t4 HEP.out E0 (by omega) r hat HBO.out hl)
                have hl' : (r : Int) + 1 < t := by omega
                clear hl
                go_wp2_with (go_at_call 21; refine (turn_Step_ask 1 3 (by decide) (hO1 _) rfl rfl L.out HWS.out.1 HWS.out.2).mono ?_; rw [TO.out]; rintro e w11 ⟨rfl, m1, hO'⟩; have hO := hO'; (try simp only [List.set_cons_zero, List.set_cons_succ, List.cons_append, List.nil_append, fam_set] at hO))
                go_roundw
                case rel => exact ⟨k + 1, m1, E, _, _, _, ws, N, A, X, xb, true, old, by go_num, rfl, rfl, by omega, by omega, HE.out, (AS.out HBO.out).2.1 hl', hO⟩
                case measure => simp [intOf]; omega
    · have hge : decide (k < xs.length) = false := by rw [decide_eq_false_iff_not]; omega
      clear hlt
      go_wp2_with (go_at_call 12; refine (law16_live _).mono ?_; rintro e w2 ⟨rfl, hb⟩; have hO := hO.via hb)
      go_ret
      exact ⟨rfl, hO.below⟩
set_option maxRecDepth 100000 in
theorem EpochLeft_walk (a s t : Int) (v : Value) (xs : List (List Value)) (W : World) (hs : SArg W [true, true, true] v xs) : Calls Try.prog 3 #[.agg #[.int .i64 a, .int .i64 s, .int .i64 t], v] W fun e w' => e = .returned (.bool true) ∧ Below W.heap.size W w' := by
  rcases bool_cases (b := cfgOk a s t) with hc | hc
  · by_cases hn : xs.length ≤ 80
    · exact EpochLeft_go a s t v xs W hs hc hn
    · exact EpochLeft_no a s t v xs W hs (.inr hn)
  · exact EpochLeft_no a s t v xs W hs (.inl hc)
end Go.Proofs.Ytpfahnnmbaipdaa
