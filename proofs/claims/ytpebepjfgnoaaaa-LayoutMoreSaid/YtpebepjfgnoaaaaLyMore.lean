/- The layout law LayoutMore. -/
import Derived.Deep.RegionWith
import Derived.Test.YtpebepjfgnoaaaaLyL
namespace Go.Proofs.Ytpebepjfgnoaaaa
set_option linter.unusedVariables false
set_option linter.unusedSimpArgs false
open Go.RowKit
set_option maxHeartbeats 2000000 in
theorem LayoutMore_no (a s t n : Int) (W : World) (hc : ¬ (cfgOk a s t = true ∧ cfgOk a (wrap64 (s + 1)) t = true)) : Calls Try.prog 3 #[.agg #[.int .i64 a, .int .i64 s, .int .i64 t], .int .i64 n] W fun e w' => e = .returned (.bool true) ∧ Below W.heap.size W w' := by
  obtain ⟨s', hs'⟩ : ∃ s', s' = wrap64 (s + 1) := ⟨_, rfl⟩
  rw [← hs'] at hc
  have HS := Lib.hid hs'
  have hE : ofE a s t = 1 ∨ (ofE a s t = 0 ∧ ofE a s' t = 1) := by
    rcases bool_cases (b := cfgOk a s t) with h | h
    · right
      refine ⟨(of_yes h).2.2, ?_⟩
      rcases bool_cases (b := cfgOk a s' t) with h' | h'
      · exact absurd ⟨h, h'⟩ hc
      · exact (of_no h').2.2
    · exact .inl (of_no h).2.2
  clear hs' hc
  have hr : ∃ e1 e2, e1 = ofE a s t ∧ e2 = ofE a s' t ∧ (e1 = 1 ∨ (e1 = 0 ∧ e2 = 1)) := ⟨_, _, rfl, rfl, hE⟩
  obtain ⟨e1, e2, he1, he2, hE'⟩ := hr
  have H1 := Lib.hid he1
  have H2 := Lib.hid he2
  clear he1 he2 hE
  rcases hE' with rfl | ⟨rfl, rfl⟩
  all_goals
    go_enter Try.func3, Try.ntmps3
    go_wp2_with fail
    have hO := (Owns.nil W).more (.cells #[.int .i64 a, .int .i64 s, .int .i64 t] 23)
    generalize W.alloc (.cells #[.int .i64 a, .int .i64 s, .int .i64 t] 23) = w0 at hO ⊢
    refine (layout_Of _ _ _ _).mono ?_; rw [← H1.out]; rintro e w1 ⟨rfl, hb⟩; have hO := hO.via hb
    have hO := hO.more (.cells #[.int .i64 (ofT a s t), .int .i64 (ofS a s t)] 25)
    generalize hlb : w1.heap.size = lb at hO ⊢
    have HL := Lib.hid hlb
    clear hlb
    have hO2 := hO.set 0 0 rfl rfl 1 (.int .i64 s')
    have hf := blk_free (hO.get 0 0 rfl rfl) 1
    have a0 : _ = some (Value.int .i64 a) := hO.cell 0 0 rfl rfl 0; have a1 : _ = some (Value.int .i64 s) := hO.cell 0 0 rfl rfl 1; have a2 : _ = some (Value.int .i64 t) := hO.cell 0 0 rfl rfl 2
    go_wp2_with (go_at_call 8; refine stop_here ?_)
    unfold Stop
    rw [← HS.out]
    refine (layout_Of _ _ _ _).mono ?_; rw [← H2.out]; rintro e w2 ⟨rfl, hb⟩; have hO := hO2.via hb
    have hO := hO.more (.cells #[.int .i64 (ofT a s' t), .int .i64 (ofS a s' t)] 25)
    clear a0 a1 a2 hf hO2
    go_wp2_with (go_at_call 9; refine (law06_live _).mono ?_; rintro e w4 ⟨rfl, hb⟩; have hO := hO.via hb)
    go_ret
    exact ⟨rfl, hO.below⟩
set_option maxRecDepth 100000 in
set_option maxHeartbeats 4000000 in
theorem LayoutMore_in (a s t n : Int) (W : World) (hc : cfgOk a s t = true) (hd : cfgOk a (s + 1) t = true) (c : 0 ≤ n ∧ n < s) : Calls Try.prog 3 #[.agg #[.int .i64 a, .int .i64 s, .int .i64 t], .int .i64 n] W fun e w' => e = .returned (.bool true) ∧ Below W.heap.size W w' := by
  obtain ⟨e1, e2, e3⟩ := of_yes hc
  have E1 := Lib.hid e1
  have E2 := Lib.hid e2
  have E3 := Lib.hid e3
  obtain ⟨f1, f2, f3⟩ := of_yes hd
  have F1 := Lib.hid f1
  have F2 := Lib.hid f2
  have F3 := Lib.hid f3
  have L1 := Lib.hid (lOk_yes hc)
  have L2 := Lib.hid (lOk_yes hd)
  obtain ⟨h1, h2, h3, h4, h5, h6, h7⟩ := cfgOk_of hc
  have h8 : s + 1 ≤ 64 := (cfgOk_of hd).2.2.2.2.1
  have hU : ∃ U, lWords t s = U ∧ lWords t (s + 1) = U + 3 ∧ lOf t (s + 1) s 2 = U + 2 ∧ 8 ≤ U ∧ U ≤ 200 :=
    ⟨4 + t + 3 * s, lWords_ok h6, by rw [lWords_ok h6]; omega, by unfold lOf; rw [if_pos (by omega)], by omega, by omega⟩
  obtain ⟨U, u1, u2, z2, hU1, hU2⟩ := hU
  have u1 := Lib.hid u1
  have u2 := Lib.hid u2
  have z2 := Lib.hid z2
  have n1 := Lib.hid (show lNote t 0 = 4 by unfold lNote; rw [if_pos (by omega)]; rfl)
  clear e1 e2 e3 f1 f2 f3 h3 hc hd
  have hx : ∃ v0 v1 v2 : Int, lOf t s n 0 = v0 ∧ lOf t (s + 1) n 0 = v0 ∧ lOf t s n 1 = v1 ∧ lOf t (s + 1) n 1 = v1 ∧ lOf t s n 2 = v2 ∧ lOf t (s + 1) n 2 = v2 ∧ 0 ≤ v0 := by
    refine ⟨4 + t + 3 * n + 0, 4 + t + 3 * n + 1, 4 + t + 3 * n + 2, ?_, ?_, ?_, ?_, ?_, ?_, by omega⟩ <;> (unfold lOf; rw [if_pos (by omega)])
  obtain ⟨v0, v1, v2, x0, y0, x1, y1, x2, y2, hv⟩ := hx
  have x0 := Lib.hid x0
  have x1 := Lib.hid x1
  have x2 := Lib.hid x2
  have y0 := Lib.hid y0
  have y1 := Lib.hid y1
  have y2 := Lib.hid y2
  obtain ⟨c0, c1⟩ := c
  go_enter Try.func3, Try.ntmps3
  go_wp2_with fail
  have hO := (Owns.nil W).more (.cells #[.int .i64 a, .int .i64 s, .int .i64 t] 23)
  generalize W.alloc (.cells #[.int .i64 a, .int .i64 s, .int .i64 t] 23) = w0 at hO ⊢
  refine (layout_Of _ _ _ _).mono ?_; rw [E1.out, E2.out, E3.out]; rintro e w1 ⟨rfl, hb⟩; have hO := hO.via hb
  have hO := hO.more (.cells #[.int .i64 t, .int .i64 s] 25)
  have hO2 := hO.set 0 0 rfl rfl 1 (.int .i64 (s + 1))
  have hf := blk_free (hO.get 0 0 rfl rfl) 1
  have a0 : _ = some (Value.int .i64 a) := hO.cell 0 0 rfl rfl 0; have a1 : _ = some (Value.int .i64 s) := hO.cell 0 0 rfl rfl 1; have a2 : _ = some (Value.int .i64 t) := hO.cell 0 0 rfl rfl 2
  go_wp2_with (go_at_call 8; refine stop_here ?_)
  unfold Stop
  generalize hlb : w1.heap.size = lb at hO2 ⊢
  have HL := Lib.hid hlb
  clear hlb
  refine (layout_Of _ _ _ _).mono ?_; rw [F1.out, F2.out, F3.out]; rintro e w2 ⟨rfl, hb⟩; have hO := hO2.via hb
  have hO := hO.more (.cells #[.int .i64 t, .int .i64 (s + 1)] 25)
  clear a0 a1 a2 hf hO2
  have a0 : _ = some (Value.int .i64 t) := hO.cell 1 0 rfl rfl 0; have a1 : _ = some (Value.int .i64 s) := hO.cell 1 0 rfl rfl 1; have a2 : _ = some (Value.int .i64 t) := hO.cell 2 0 rfl rfl 0;  have a3 : _ = some (Value.int .i64 (s + 1)) := hO.cell 2 0 rfl rfl 1; have a4 : _ = some (Value.int .i64 (s + 1)) := hO.cell 0 0 rfl rfl 1
  go_wp2_with fail
  generalize hkb : w2.heap.size = kb at hO a2 a3 ⊢
  have HK := Lib.hid hkb
  clear hkb
  generalize w2.alloc (.cells #[.int .i64 t, .int .i64 (s + 1)] 25) = w3 at hO a0 a1 a2 a3 a4 ⊢
  have hO := hO.drew
  first
    | go_region_held3 (fun w => w.cell? ⟨W.heap.size, 1, none⟩ = some (.int .i64 (s + 1)) ∧ w.cell? ⟨lb, 0, none⟩ = some (.int .i64 t) ∧ w.cell? ⟨lb, 1, none⟩ = some (.int .i64 s) ∧ w.cell? ⟨kb, 0, none⟩ = some (.int .i64 t) ∧ w.cell? ⟨kb, 1, none⟩ = some (.int .i64 (s + 1))) (first | assumption | exact ⟨hO.cell 0 0 rfl rfl 1, hO.cell 1 0 rfl rfl 0, hO.cell 1 0 rfl rfl 1, hO.cell 2 0 rfl rfl 0, hO.cell 2 0 rfl rfl 1⟩) (first | (go_at_call 10; ((first | (with_reducible refine (layout_Entry _ _ _ _ L1.out).mono ?_) | (with_reducible refine (layout_Entry _ _ _ _ L2.out).mono ?_))); (first | rw [x0.out] | rw [y0.out]); rintro e w7 ⟨rfl, hb⟩; have hO := hO.via hb) | (go_at_call 11; ((first | (with_reducible refine (layout_Size _ _ _ _ L1.out).mono ?_) | (with_reducible refine (layout_Size _ _ _ _ L2.out).mono ?_))); (first | rw [x1.out] | rw [y1.out]); rintro e w7 ⟨rfl, hb⟩; have hO := hO.via hb) | (go_at_call 12; ((first | (with_reducible refine (layout_Link _ _ _ _ L1.out).mono ?_) | (with_reducible refine (layout_Link _ _ _ _ L2.out).mono ?_))); (first | rw [x2.out] | rw [y2.out] | rw [z2.out]); rintro e w7 ⟨rfl, hb⟩; have hO := hO.via hb) | (go_at_call 13; ((first | (with_reducible refine (layout_Words _ _ _ L1.out).mono ?_) | (with_reducible refine (layout_Words _ _ _ L2.out).mono ?_))); (first | rw [u1.out] | rw [u2.out]); rintro e w7 ⟨rfl, hb⟩; have hO := hO.via hb) | (go_at_call 14; ((first | (with_reducible refine (layout_Note _ _ _ _ L1.out).mono ?_) | (with_reducible refine (layout_Note _ _ _ _ L2.out).mono ?_))); rw [n1.out]; rintro e w7 ⟨rfl, hb⟩; have hO := hO.via hb) | (go_at_call 9; refine (law06_live _).mono ?_; rintro e w7 ⟨rfl, hb⟩; have hO := hO.via hb))
    | fail "held3"
  all_goals
    go_wp2_with fail
    have hO := hO.drew
    have k1 : IntKind.i64.wrap (U + 3) = U + 3 := i64in _ (by omega) (by omega)
    have k2 : IntKind.i64.wrap (U + 2) = U + 2 := i64in _ (by omega) (by omega)
    have k3 : IntKind.i64.wrap (s + 1 - 1) = s := by rw [i64in _ (by omega) (by omega)]; omega
    have k4 : IntKind.i64.wrap s = s := i64in _ (by omega) (by omega)
    first
      | go_region_held3 (fun w => w.cell? ⟨W.heap.size, 1, none⟩ = some (.int .i64 (s + 1)) ∧ w.cell? ⟨lb, 0, none⟩ = some (.int .i64 t) ∧ w.cell? ⟨lb, 1, none⟩ = some (.int .i64 s) ∧ w.cell? ⟨kb, 0, none⟩ = some (.int .i64 t) ∧ w.cell? ⟨kb, 1, none⟩ = some (.int .i64 (s + 1))) (first | assumption | exact ⟨hO.cell 0 0 rfl rfl 1, hO.cell 1 0 rfl rfl 0, hO.cell 1 0 rfl rfl 1, hO.cell 2 0 rfl rfl 0, hO.cell 2 0 rfl rfl 1⟩) (first | (go_at_call 10; ((first | (with_reducible refine (layout_Entry _ _ _ _ L1.out).mono ?_) | (with_reducible refine (layout_Entry _ _ _ _ L2.out).mono ?_))); (first | rw [x0.out] | rw [y0.out]); rintro e w7 ⟨rfl, hb⟩; have hO := hO.via hb) | (go_at_call 11; ((first | (with_reducible refine (layout_Size _ _ _ _ L1.out).mono ?_) | (with_reducible refine (layout_Size _ _ _ _ L2.out).mono ?_))); (first | rw [x1.out] | rw [y1.out]); rintro e w7 ⟨rfl, hb⟩; have hO := hO.via hb) | (go_at_call 12; ((first | (with_reducible refine (layout_Link _ _ _ _ L1.out).mono ?_) | (with_reducible refine (layout_Link _ _ _ _ L2.out).mono ?_))); (first | rw [x2.out] | rw [y2.out] | rw [z2.out]); rintro e w7 ⟨rfl, hb⟩; have hO := hO.via hb) | (go_at_call 13; ((first | (with_reducible refine (layout_Words _ _ _ L1.out).mono ?_) | (with_reducible refine (layout_Words _ _ _ L2.out).mono ?_))); (first | rw [u1.out] | rw [u2.out]); rintro e w7 ⟨rfl, hb⟩; have hO := hO.via hb) | (go_at_call 14; ((first | (with_reducible refine (layout_Note _ _ _ _ L1.out).mono ?_) | (with_reducible refine (layout_Note _ _ _ _ L2.out).mono ?_))); rw [n1.out]; rintro e w7 ⟨rfl, hb⟩; have hO := hO.via hb) | (go_at_call 9; refine (law06_live _).mono ?_; rintro e w7 ⟨rfl, hb⟩; have hO := hO.via hb))
      | fail "held3b"
    all_goals
      clear k1 k2 k3 k4
      go_wp2_with fail
      go_ret
      exact ⟨rfl, hO.below⟩
end Go.Proofs.Ytpebepjfgnoaaaa
