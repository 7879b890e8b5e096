/- The layout law LayoutMore: a slot out of range; all. -/
import Derived.Deep.RegionWith
import Derived.Test.YtpebepjfgnoaaaaLyL
import Derived.Test.YtpebepjfgnoaaaaLyMore
namespace Go.Proofs.Ytpebepjfgnoaaaa
set_option linter.unusedVariables false
set_option linter.unusedSimpArgs false
open Go.RowKit
theorem wpAnyH_skip {P : Program} {ops : Array Oper} {Q : Exit → Act → World → Prop} {md : Region.Mode} {S : World → Prop} {i d : Nat} {g : Nat × Bool} {fuel : Nat} {listed : Array Bool} {a : Act} {w : World} (hd : (ops[i]?.map fun o => (o.dst, o.guard)) = some (some d, some g))
    (hs : Region.noSelect ops = true) (hf : Region.free md ops listed i = true) (hr : (Region.ready md ops listed).contains i = true)
    (hQ : ∀ c a w, Q (.panic c) (a.put (some d) undef) w → Q (.panic c) a w) (hy : (yielded ops a.tmps g.1 == some g.2) = false) (hS : S w)
    (h : wpAnyH P md ops Q S fuel (listed.setIfInBounds i true) (a.put (some d) undef) w) : wpAnyH P md ops Q S (fuel + 1) listed a w := by
  obtain ⟨o, ho, he⟩ := Option.map_eq_some_iff.1 hd
  simp only [Prod.mk.injEq] at he
  obtain ⟨h1, h2⟩ := he
  refine wpAnyH_take (oi := o) (v := undef) ho hs hf hr (by rw [h1]; exact hQ) (Or.inr ⟨?_, rfl⟩) hS (by rw [h1]; exact h)
  unfold Region.wanted; rw [h2]; exact hy
theorem skip_raw {x : Bool} {A B : Prop} (h : x = false) (hb : B) : if x = true then A else B := by subst h; exact hb
theorem skip_undef {x : Option Bool} {want : Bool} {A B : Prop} [Decidable (x = some want)] (h : x = none) (hb : B) : if x = some want then A else B := by rw [if_neg (by rw [h]; exact fun k => nomatch k)]; exact hb
set_option maxRecDepth 100000 in
set_option maxHeartbeats 40000000 in
theorem LayoutMore_out (a s t n : Int) (W : World) (hc : cfgOk a s t = true) (hd : cfgOk a (s + 1) t = true) (c : ¬ (0 ≤ n ∧ n < s)) : Calls Try.prog 3 #[.agg #[.int .i64 a, .int .i64 s, .int .i64 t], .int .i64 n] W fun e w' => e = .returned (.bool true) ∧ Below W.heap.size W w' := by
  obtain ⟨e1, e2, e3⟩ := of_yes hc
  have E1 := Lib.hid e1
  have E2 := Lib.hid e2
  have E3 := Lib.hid e3
  obtain ⟨f1, f2, f3⟩ := of_yes hd
  have F1 := Lib.hid f1
  have F2 := Lib.hid f2
  have F3 := Lib.hid f3
  have L1 := Lib.hid (lOk_yes hc)
  have L2 := Lib.hid (lOk_yes hd)
  obtain ⟨h1, h2, h3, h4, h5, h6, h7⟩ := cfgOk_of hc
  have h8 : s + 1 ≤ 64 := (cfgOk_of hd).2.2.2.2.1
  have hU : ∃ U, lWords t s = U ∧ lWords t (s + 1) = U + 3 ∧ lOf t (s + 1) s 2 = U + 2 ∧ 8 ≤ U ∧ U ≤ 200 :=
    ⟨4 + t + 3 * s, lWords_ok h6, by rw [lWords_ok h6]; omega, by unfold lOf; rw [if_pos (by omega)], by omega, by omega⟩
  obtain ⟨U, u1, u2, z2, hU1, hU2⟩ := hU
  have u1 := Lib.hid u1
  have u2 := Lib.hid u2
  have z2 := Lib.hid z2
  have n1 := Lib.hid (show lNote t 0 = 4 by unfold lNote; rw [if_pos (by omega)]; rfl)
  clear e1 e2 e3 f1 f2 f3 h3 hc hd
  have hx : lOf t s n 0 = -1 := by unfold lOf; rw [if_neg c]
  have x0 := Lib.hid hx
  clear hx
  have y0 := x0
  have x1 := x0
  have y1 := x0
  have x2 := x0
  have y2 := x0
  clear c
  go_enter Try.func3, Try.ntmps3
  go_wp2_with fail
  have hO := (Owns.nil W).more (.cells #[.int .i64 a, .int .i64 s, .int .i64 t] 23)
  generalize W.alloc (.cells #[.int .i64 a, .int .i64 s, .int .i64 t] 23) = w0 at hO ⊢
  refine (layout_Of _ _ _ _).mono ?_; rw [E1.out, E2.out, E3.out]; rintro e w1 ⟨rfl, hb⟩; have hO := hO.via hb
  have hO := hO.more (.cells #[.int .i64 t, .int .i64 s] 25)
  have hO2 := hO.set 0 0 rfl rfl 1 (.int .i64 (s + 1))
  have hf := blk_free (hO.get 0 0 rfl rfl) 1
  have a0 : _ = some (Value.int .i64 a) := hO.cell 0 0 rfl rfl 0; have a1 : _ = some (Value.int .i64 s) := hO.cell 0 0 rfl rfl 1; have a2 : _ = some (Value.int .i64 t) := hO.cell 0 0 rfl rfl 2
  go_wp2_with (go_at_call 8; refine stop_here ?_)
  unfold Stop
  generalize hlb : w1.heap.size = lb at hO2 ⊢
  have HL := Lib.hid hlb
  clear hlb
  refine (layout_Of _ _ _ _).mono ?_; rw [F1.out, F2.out, F3.out]; rintro e w2 ⟨rfl, hb⟩; have hO := hO2.via hb
  have hO := hO.more (.cells #[.int .i64 t, .int .i64 (s + 1)] 25)
  clear a0 a1 a2 hf hO2
  have a0 : _ = some (Value.int .i64 t) := hO.cell 1 0 rfl rfl 0; have a1 : _ = some (Value.int .i64 s) := hO.cell 1 0 rfl rfl 1; have a2 : _ = some (Value.int .i64 t) := hO.cell 2 0 rfl rfl 0;  have a3 : _ = some (Value.int .i64 (s + 1)) := hO.cell 2 0 rfl rfl 1; have a4 : _ = some (Value.int .i64 (s + 1)) := hO.cell 0 0 rfl rfl 1
  go_wp2_with fail
  generalize hkb : w2.heap.size = kb at hO a2 a3 ⊢
  have HK := Lib.hid hkb
  clear hkb
  generalize w2.alloc (.cells #[.int .i64 t, .int .i64 (s + 1)] 25) = w3 at hO a0 a1 a2 a3 a4 ⊢
  have hO := hO.drew
  refine wp_region_held_drew (S := fun w => w.cell? ⟨W.heap.size, 1, none⟩ = some (.int .i64 (s + 1)) ∧ w.cell? ⟨lb, 0, none⟩ = some (.int .i64 t) ∧ w.cell? ⟨lb, 1, none⟩ = some (.int .i64 s) ∧ w.cell? ⟨kb, 0, none⟩ = some (.int .i64 t) ∧ w.cell? ⟨kb, 1, none⟩ = some (.int .i64 (s + 1))) (by kernel_rfl) ⟨hO.cell 0 0 rfl rfl 1, hO.cell 1 0 rfl rfl 0, hO.cell 1 0 rfl rfl 1, hO.cell 2 0 rfl rfl 0, hO.cell 2 0 rfl rfl 1⟩ (fun hHeld => ?_)
  refine wpAnyH_take (i := 0) (v := ?_) (by simp only [List.getElem?_toArray, List.getElem?_cons_succ, List.getElem?_cons_zero]; rfl) (by kernel_rfl) (by kernel_rfl) (by kernel_rfl) (by exact fun _ _ _ h => h) (Or.inl ⟨by rfl, ?_⟩) (by assumption) ?_
  rotate_left
  · intro w hSw; (try dsimp only at hSw); obtain ⟨z0, z1, z2, z3, z4⟩ := hSw; go_simp; (try with_reducible rfl)
  (try simp only [Act.put, List.setIfInBounds_toArray, List.set_cons_zero, List.set_cons_succ])
  refine wpAnyH_take (i := 1) (v := ?_) (by simp only [List.getElem?_toArray, List.getElem?_cons_succ, List.getElem?_cons_zero]; rfl) (by kernel_rfl) (by kernel_rfl) (by kernel_rfl) (by exact fun _ _ _ h => h) (Or.inl ⟨by rfl, ?_⟩) (by assumption) ?_
  rotate_left
  · intro w hSw; (try dsimp only at hSw); obtain ⟨z0, z1, z2, z3, z4⟩ := hSw; go_simp; (try with_reducible rfl)
  (try simp only [Act.put, List.setIfInBounds_toArray, List.set_cons_zero, List.set_cons_succ])
  refine wpAnyH_ready (rs := [2]) (by kernel_rfl) (by simp) ?_
  refine AllReadyH.cons (by rfl) (fun K hK => ?_) AllReadyH.nil
  go_simp
  go_at_call 10; (with_reducible refine (layout_Entry _ _ _ _ L1.out).mono ?_); rw [x0.out]; rintro e w7 ⟨rfl, hb⟩; have hO := hO.via hb
  go_simp
  refine hK.out _ _ ⟨hO.cell 0 0 rfl rfl 1, hO.cell 1 0 rfl rfl 0, hO.cell 1 0 rfl rfl 1, hO.cell 2 0 rfl rfl 0, hO.cell 2 0 rfl rfl 1⟩ (fun hHeld => ?_)
  clear hK K
  (try simp only [Act.put, List.setIfInBounds_toArray, List.set_cons_zero, List.set_cons_succ])
  refine wpAnyH_take (i := 3) (v := ?_) (by simp only [List.getElem?_toArray, List.getElem?_cons_succ, List.getElem?_cons_zero]; rfl) (by kernel_rfl) (by kernel_rfl) (by kernel_rfl) (by exact fun _ _ _ h => h) (Or.inl ⟨by rfl, ?_⟩) (by assumption) ?_
  rotate_left
  · intro w hSw; (try dsimp only at hSw); obtain ⟨z0, z1, z2, z3, z4⟩ := hSw; go_simp; (try with_reducible rfl)
  (try simp only [Act.put, List.setIfInBounds_toArray, List.set_cons_zero, List.set_cons_succ])
  refine wpAnyH_take (i := 4) (v := ?_) (by simp only [List.getElem?_toArray, List.getElem?_cons_succ, List.getElem?_cons_zero]; rfl) (by kernel_rfl) (by kernel_rfl) (by kernel_rfl) (by exact fun _ _ _ h => h) (Or.inl ⟨by rfl, ?_⟩) (by assumption) ?_
  rotate_left
  · intro w hSw; (try dsimp only at hSw); obtain ⟨z0, z1, z2, z3, z4⟩ := hSw; go_simp; (try with_reducible rfl)
  (try simp only [Act.put, List.setIfInBounds_toArray, List.set_cons_zero, List.set_cons_succ])
  refine wpAnyH_skip (i := 5) (d := 35) (g := (4, true)) (by kernel_rfl) (by kernel_rfl) (by kernel_rfl) (by kernel_rfl) (by exact fun _ _ _ h => h) (by kernel_rfl) (by assumption) ?_
  (try simp only [Act.put, List.setIfInBounds_toArray, List.set_cons_zero, List.set_cons_succ])
  refine wpAnyH_skip (i := 6) (d := 36) (g := (4, true)) (by kernel_rfl) (by kernel_rfl) (by kernel_rfl) (by kernel_rfl) (by exact fun _ _ _ h => h) (by kernel_rfl) (by assumption) ?_
  (try simp only [Act.put, List.setIfInBounds_toArray, List.set_cons_zero, List.set_cons_succ])
  refine wpAnyH_skip (i := 7) (d := 37) (g := (4, true)) (by kernel_rfl) (by kernel_rfl) (by kernel_rfl) (by kernel_rfl) (by exact fun _ _ _ h => h) (by kernel_rfl) (by assumption) ?_
  (try simp only [Act.put, List.setIfInBounds_toArray, List.set_cons_zero, List.set_cons_succ])
  refine wpAnyH_skip (i := 8) (d := 38) (g := (4, true)) (by kernel_rfl) (by kernel_rfl) (by kernel_rfl) (by kernel_rfl) (by exact fun _ _ _ h => h) (by kernel_rfl) (by assumption) ?_
  (try simp only [Act.put, List.setIfInBounds_toArray, List.set_cons_zero, List.set_cons_succ])
  refine wpAnyH_skip (i := 9) (d := 39) (g := (4, true)) (by kernel_rfl) (by kernel_rfl) (by kernel_rfl) (by kernel_rfl) (by exact fun _ _ _ h => h) (by kernel_rfl) (by assumption) ?_
  (try simp only [Act.put, List.setIfInBounds_toArray, List.set_cons_zero, List.set_cons_succ])
  refine wpAnyH_skip (i := 10) (d := 40) (g := (4, true)) (by kernel_rfl) (by kernel_rfl) (by kernel_rfl) (by kernel_rfl) (by exact fun _ _ _ h => h) (by kernel_rfl) (by assumption) ?_
  (try simp only [Act.put, List.setIfInBounds_toArray, List.set_cons_zero, List.set_cons_succ])
  refine wpAnyH_skip (i := 11) (d := 41) (g := (4, true)) (by kernel_rfl) (by kernel_rfl) (by kernel_rfl) (by kernel_rfl) (by exact fun _ _ _ h => h) (by kernel_rfl) (by assumption) ?_
  (try simp only [Act.put, List.setIfInBounds_toArray, List.set_cons_zero, List.set_cons_succ])
  refine wpAnyH_skip (i := 12) (d := 42) (g := (4, true)) (by kernel_rfl) (by kernel_rfl) (by kernel_rfl) (by kernel_rfl) (by exact fun _ _ _ h => h) (by kernel_rfl) (by assumption) ?_
  (try simp only [Act.put, List.setIfInBounds_toArray, List.set_cons_zero, List.set_cons_succ])
  refine wpAnyH_skip (i := 13) (d := 43) (g := (12, false)) (by kernel_rfl) (by kernel_rfl) (by kernel_rfl) (by kernel_rfl) (by exact fun _ _ _ h => h) (by kernel_rfl) (by assumption) ?_
  (try simp only [Act.put, List.setIfInBounds_toArray, List.set_cons_zero, List.set_cons_succ])
  refine wpAnyH_skip (i := 14) (d := 44) (g := (12, false)) (by kernel_rfl) (by kernel_rfl) (by kernel_rfl) (by kernel_rfl) (by exact fun _ _ _ h => h) (by kernel_rfl) (by assumption) ?_
  (try simp only [Act.put, List.setIfInBounds_toArray, List.set_cons_zero, List.set_cons_succ])
  refine wpAnyH_skip (i := 15) (d := 45) (g := (12, false)) (by kernel_rfl) (by kernel_rfl) (by kernel_rfl) (by kernel_rfl) (by exact fun _ _ _ h => h) (by kernel_rfl) (by assumption) ?_
  (try simp only [Act.put, List.setIfInBounds_toArray, List.set_cons_zero, List.set_cons_succ])
  refine wpAnyH_skip (i := 16) (d := 46) (g := (12, false)) (by kernel_rfl) (by kernel_rfl) (by kernel_rfl) (by kernel_rfl) (by exact fun _ _ _ h => h) (by kernel_rfl) (by assumption) ?_
  (try simp only [Act.put, List.setIfInBounds_toArray, List.set_cons_zero, List.set_cons_succ])
  refine wpAnyH_skip (i := 17) (d := 47) (g := (12, false)) (by kernel_rfl) (by kernel_rfl) (by kernel_rfl) (by kernel_rfl) (by exact fun _ _ _ h => h) (by kernel_rfl) (by assumption) ?_
  (try simp only [Act.put, List.setIfInBounds_toArray, List.set_cons_zero, List.set_cons_succ])
  refine wpAnyH_skip (i := 18) (d := 48) (g := (12, false)) (by kernel_rfl) (by kernel_rfl) (by kernel_rfl) (by kernel_rfl) (by exact fun _ _ _ h => h) (by kernel_rfl) (by assumption) ?_
  (try simp only [Act.put, List.setIfInBounds_toArray, List.set_cons_zero, List.set_cons_succ])
  refine wpAnyH_skip (i := 19) (d := 49) (g := (12, false)) (by kernel_rfl) (by kernel_rfl) (by kernel_rfl) (by kernel_rfl) (by exact fun _ _ _ h => h) (by kernel_rfl) (by assumption) ?_
  (try simp only [Act.put, List.setIfInBounds_toArray, List.set_cons_zero, List.set_cons_succ])
  refine wpAnyH_skip (i := 20) (d := 50) (g := (4, true)) (by kernel_rfl) (by kernel_rfl) (by kernel_rfl) (by kernel_rfl) (by exact fun _ _ _ h => h) (by kernel_rfl) (by assumption) ?_
  (try simp only [Act.put, List.setIfInBounds_toArray, List.set_cons_zero, List.set_cons_succ])
  refine wpAnyH_skip (i := 21) (d := 51) (g := (4, true)) (by kernel_rfl) (by kernel_rfl) (by kernel_rfl) (by kernel_rfl) (by exact fun _ _ _ h => h) (by kernel_rfl) (by assumption) ?_
  (try simp only [Act.put, List.setIfInBounds_toArray, List.set_cons_zero, List.set_cons_succ])
  refine wpAnyH_skip (i := 22) (d := 52) (g := (21, false)) (by kernel_rfl) (by kernel_rfl) (by kernel_rfl) (by kernel_rfl) (by exact fun _ _ _ h => h) (by kernel_rfl) (by assumption) ?_
  (try simp only [Act.put, List.setIfInBounds_toArray, List.set_cons_zero, List.set_cons_succ])
  refine wpAnyH_skip (i := 23) (d := 53) (g := (21, false)) (by kernel_rfl) (by kernel_rfl) (by kernel_rfl) (by kernel_rfl) (by exact fun _ _ _ h => h) (by kernel_rfl) (by assumption) ?_
  (try simp only [Act.put, List.setIfInBounds_toArray, List.set_cons_zero, List.set_cons_succ])
  refine wpAnyH_skip (i := 24) (d := 54) (g := (21, false)) (by kernel_rfl) (by kernel_rfl) (by kernel_rfl) (by kernel_rfl) (by exact fun _ _ _ h => h) (by kernel_rfl) (by assumption) ?_
  (try simp only [Act.put, List.setIfInBounds_toArray, List.set_cons_zero, List.set_cons_succ])
  refine wpAnyH_skip (i := 25) (d := 55) (g := (21, false)) (by kernel_rfl) (by kernel_rfl) (by kernel_rfl) (by kernel_rfl) (by exact fun _ _ _ h => h) (by kernel_rfl) (by assumption) ?_
  (try simp only [Act.put, List.setIfInBounds_toArray, List.set_cons_zero, List.set_cons_succ])
  refine wpAnyH_skip (i := 26) (d := 56) (g := (21, false)) (by kernel_rfl) (by kernel_rfl) (by kernel_rfl) (by kernel_rfl) (by exact fun _ _ _ h => h) (by kernel_rfl) (by assumption) ?_
  (try simp only [Act.put, List.setIfInBounds_toArray, List.set_cons_zero, List.set_cons_succ])
  refine wpAnyH_skip (i := 27) (d := 57) (g := (21, false)) (by kernel_rfl) (by kernel_rfl) (by kernel_rfl) (by kernel_rfl) (by exact fun _ _ _ h => h) (by kernel_rfl) (by assumption) ?_
  (try simp only [Act.put, List.setIfInBounds_toArray, List.set_cons_zero, List.set_cons_succ])
  refine wpAnyH_skip (i := 28) (d := 58) (g := (21, false)) (by kernel_rfl) (by kernel_rfl) (by kernel_rfl) (by kernel_rfl) (by exact fun _ _ _ h => h) (by kernel_rfl) (by assumption) ?_
  (try simp only [Act.put, List.setIfInBounds_toArray, List.set_cons_zero, List.set_cons_succ])
  refine wpAnyH_skip (i := 29) (d := 59) (g := (4, true)) (by kernel_rfl) (by kernel_rfl) (by kernel_rfl) (by kernel_rfl) (by exact fun _ _ _ h => h) (by kernel_rfl) (by assumption) ?_
  (try simp only [Act.put, List.setIfInBounds_toArray, List.set_cons_zero, List.set_cons_succ])
  refine wpAnyH_take (i := 30) (v := ?_) (by simp only [List.getElem?_toArray, List.getElem?_cons_succ, List.getElem?_cons_zero]; rfl) (by kernel_rfl) (by kernel_rfl) (by kernel_rfl) (by exact fun _ _ _ h => h) (Or.inl ⟨by rfl, ?_⟩) (by assumption) ?_
  rotate_left
  · intro w hSw; (try dsimp only at hSw); obtain ⟨z0, z1, z2, z3, z4⟩ := hSw; go_simp; (try with_reducible rfl)
  (try simp only [Act.put, List.setIfInBounds_toArray, List.set_cons_zero, List.set_cons_succ])
  refine wpAnyH_done (by kernel_rfl) ?_ _
  all_goals
    go_wp2_with fail
    have hO := hO.drew
    have k1 : IntKind.i64.wrap (U + 3) = U + 3 := i64in _ (by omega) (by omega)
    have k2 : IntKind.i64.wrap (U + 2) = U + 2 := i64in _ (by omega) (by omega)
    have k3 : IntKind.i64.wrap (s + 1 - 1) = s := by rw [i64in _ (by omega) (by omega)]; omega
    have k4 : IntKind.i64.wrap s = s := i64in _ (by omega) (by omega)
    first
      | go_region_held3 (fun w => w.cell? ⟨W.heap.size, 1, none⟩ = some (.int .i64 (s + 1)) ∧ w.cell? ⟨lb, 0, none⟩ = some (.int .i64 t) ∧ w.cell? ⟨lb, 1, none⟩ = some (.int .i64 s) ∧ w.cell? ⟨kb, 0, none⟩ = some (.int .i64 t) ∧ w.cell? ⟨kb, 1, none⟩ = some (.int .i64 (s + 1))) (first | assumption | exact ⟨hO.cell 0 0 rfl rfl 1, hO.cell 1 0 rfl rfl 0, hO.cell 1 0 rfl rfl 1, hO.cell 2 0 rfl rfl 0, hO.cell 2 0 rfl rfl 1⟩) (first | (refine skip_raw rfl ?_) | (refine skip_undef rfl ?_) | (go_at_call 10; ((first | (with_reducible refine (layout_Entry _ _ _ _ L1.out).mono ?_) | (with_reducible refine (layout_Entry _ _ _ _ L2.out).mono ?_))); (first | rw [x0.out] | rw [y0.out]); rintro e w7 ⟨rfl, hb⟩; have hO := hO.via hb) | (go_at_call 11; ((first | (with_reducible refine (layout_Size _ _ _ _ L1.out).mono ?_) | (with_reducible refine (layout_Size _ _ _ _ L2.out).mono ?_))); (first | rw [x1.out] | rw [y1.out]); rintro e w7 ⟨rfl, hb⟩; have hO := hO.via hb) | (go_at_call 12; ((first | (with_reducible refine (layout_Link _ _ _ _ L1.out).mono ?_) | (with_reducible refine (layout_Link _ _ _ _ L2.out).mono ?_))); (first | rw [x2.out] | rw [y2.out] | rw [z2.out]); rintro e w7 ⟨rfl, hb⟩; have hO := hO.via hb) | (go_at_call 13; ((first | (with_reducible refine (layout_Words _ _ _ L1.out).mono ?_) | (with_reducible refine (layout_Words _ _ _ L2.out).mono ?_))); (first | rw [u1.out] | rw [u2.out]); rintro e w7 ⟨rfl, hb⟩; have hO := hO.via hb) | (go_at_call 14; ((first | (with_reducible refine (layout_Note _ _ _ _ L1.out).mono ?_) | (with_reducible refine (layout_Note _ _ _ _ L2.out).mono ?_))); rw [n1.out]; rintro e w7 ⟨rfl, hb⟩; have hO := hO.via hb) | (go_at_call 9; refine (law06_live _).mono ?_; rintro e w7 ⟨rfl, hb⟩; have hO := hO.via hb))
      | fail "held3b"
    all_goals
      clear k1 k2 k3 k4
      go_wp2_with fail
      go_ret
      exact ⟨rfl, hO.below⟩
theorem LayoutMore_yes (a s t n : Int) (W : World) (hc : cfgOk a s t = true) (hd : cfgOk a (s + 1) t = true) : Calls Try.prog 3 #[.agg #[.int .i64 a, .int .i64 s, .int .i64 t], .int .i64 n] W fun e w' => e = .returned (.bool true) ∧ Below W.heap.size W w' := by
  by_cases c : 0 ≤ n ∧ n < s
  · exact LayoutMore_in a s t n W hc hd c
  · exact LayoutMore_out a s t n W hc hd c
theorem LayoutMore_walk (a s t n : Int) (W : World) : Calls Try.prog 3 #[.agg #[.int .i64 a, .int .i64 s, .int .i64 t], .int .i64 n] W fun e w' => e = .returned (.bool true) ∧ Below W.heap.size W w' := by
  by_cases hc : cfgOk a s t = true ∧ cfgOk a (wrap64 (s + 1)) t = true
  · have := cfgOk_of hc.1
    have e : wrap64 (s + 1) = s + 1 := by unfold wrap64; omega
    exact LayoutMore_yes a s t n W hc.1 (e ▸ hc.2)
  · exact LayoutMore_no a s t n W hc
end Go.Proofs.Ytpebepjfgnoaaaa
