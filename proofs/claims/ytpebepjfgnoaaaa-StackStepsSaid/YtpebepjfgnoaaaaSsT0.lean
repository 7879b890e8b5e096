/- The stack law StackSteps: lemmas, and the cases that are soon over. -/
import Derived.RegionTactic
import Derived.BigRegion
import Derived.Deep.RegionHeld3
import Derived.Outline
import Derived.LoopTactic
import Derived.Deep.DeepCutAuto
import Derived.Test.YtpebepjfgnoaaaaSsW
import Derived.Test.YtpebepjfgnoaaaaSsF
import Derived.Test.YtpebepjfgnoaaaaStL
import Derived.Test.YtpebepjfgnoaaaaFlat
import Derived.Test.YtpebepjfgnoaaaaArr
namespace Go.Proofs.Ytpebepjfgnoaaaa
set_option linter.unusedVariables false
set_option linter.unusedSimpArgs false
open Go.RowKit
def prPt (Q : Nat → PrM) : Nat → Value := fun j => .pointer (some ⟨(Q j).b, 0, none⟩)
def prF (a s t : Int) (Q : Nat → PrM) : Nat → Grp := fun j => prG a s t (Q j)
theorem prF_upd (a s t : Int) (Q : Nat → PrM) (q : Nat) (m : PrM) : upd (prF a s t Q) q (prG a s t m) = prF a s t (upd Q q m) := by funext j; unfold prF upd; split <;> rfl
theorem prPt_upd (Q : Nat → PrM) (q : Nat) (m : PrM) : upd (prPt Q) q (.pointer (some ⟨m.b, 0, none⟩)) = prPt (upd Q q m) := by funext j; unfold prPt upd; split <;> rfl
theorem prPt_same (Q : Nat → PrM) (q : Nat) (m : PrM) (h : m.b = (Q q).b) : prPt (upd Q q m) = prPt Q := by
  funext j; unfold prPt upd; split
  · rename_i e; subst e; rw [h]
  · rfl
theorem upd_all {P : PrM → Prop} {Q : Nat → PrM} (h : ∀ j, P (Q j)) (q : Nat) {m : PrM} (hm : P m) : ∀ j, P (upd Q q m j) := by
  intro j; unfold upd; split
  · exact hm
  · exact h j
theorem prNew_ok (pu : Bool) (b x y : Nat) (sl : Int) : PrOk (prNew pu b x y sl) :=
  ⟨fun h => by unfold prNew at *; rcases h with h | h | h <;> simp_all, (⟨by decide, by decide⟩ : I64 0), (⟨by decide, by decide⟩ : I64 0)⟩
section
variable {B : Nat} {W w : World} {p bw bb kp kw : Nat} {ws bs : List Int} {bv : Value} {n nn a s t : Int} {Q : Nat → PrM} {q : Nat}
theorem pair_stepA {c s' l x : Grp} (hq : q < 4) (hO : Owns B W w (memG p bw bb ws bs n :: kG kp kw ws bv nn :: c :: s' :: l :: x :: fam (prF a s t Q) 4)) (hc : cfgOk a s t = true) (hl : ws.length ≤ 4096) (hw : WOk ws) (hm : ∀ j, PrOk (Q j)) (qq : StepR) (hqq : prS t s ws (Q q) = qq) :
    Calls Try.prog 26 #[.pointer (some ⟨(Q q).b, 0, none⟩), .pointer (some ⟨p, 0, none⟩), .pointer (some ⟨kp, 0, none⟩)] w fun e w' => e = .returned (.tuple #[.int .i64 qq.r, .int .i64 qq.e, .bool qq.done, .bool true]) ∧
      ∃ n' nn', Owns B W w' (memG p bw bb qq.ws bs n' :: kG kp kw qq.ws bv nn' :: c :: s' :: l :: x :: fam (prF a s t (upd Q q (prN t s ws (Q q)))) 4) := by
  subst hqq
  refine (atIn (Φ := fun e m' k' g' => e = .returned (.tuple #[.int .i64 (prS t s ws (Q q)).r, .int .i64 (prS t s ws (Q q)).e, .bool (prS t s ws (Q q)).done, .bool true]) ∧ ∃ n' nn', m' = memG p bw bb (prS t s ws (Q q)).ws bs n' ∧ k' = kG kp kw (prS t s ws (Q q)).ws bv nn' ∧ g' = prG a s t (prN t s ws (Q q))) (q + 4) hO (g := prG a s t (Q q)) (by simp only [List.getElem?_cons_succ]; exact fam_get _ hq) (fun R h => (pair_step h hc hl hw (hm q)).mono ?_)).mono ?_
  · rintro e w' ⟨he, n', nn', hO'⟩
    exact ⟨_, _, _, ⟨he, n', nn', rfl, rfl, rfl⟩, hO'⟩
  · rintro e w' ⟨m', k', g', ⟨he, n', nn', rfl, rfl, rfl⟩, hO'⟩
    refine ⟨he, n', nn', ?_⟩
    simp only [List.set_cons_succ] at hO'
    rw [fam_set, prF_upd] at hO'
    exact hO'
end
theorem law10_begin_app {B : Nat} {W w : World} {G : List Grp} (a s t : Int) (pu : Bool) (sl : Int) (hO : Owns B W w G) : Calls Try.prog 23 #[.agg #[.int .i64 a, .int .i64 s, .int .i64 t], .agg #[.int .i64 t, .int .i64 s], .bool pu, .int .i64 sl] w fun e w' =>
    ∃ b x y, e = .returned (.pointer (some ⟨b, 0, none⟩)) ∧ Below w.heap.size w w' ∧ Owns B W w' (prG a s t (prNew pu b x y sl) :: G) :=
  (law10_begin a s t pu sl (Owns.nil w)).mono fun _ _ ⟨b, x, y, he, h⟩ => ⟨b, x, y, he, h.1, hO.app h⟩
theorem pack4 {B : Nat} {W w : World} {x g3 g2 g1 g0 m k c s l : Grp} (h : Owns B W w [x, g3, g2, g1, g0, m, k, c, s, l]) : Owns B W w [m, k, c, s, l, x, g0, g1, g2, g3] := h.flatP (by (classical exact List.perm_iff_count.2 (fun x => by simp only [List.flatten_cons, List.flatten_nil, List.count_append, List.append_nil]; omega)))
theorem made_four (a s t : Int) (m0 m1 m2 m3 : PrM) : ∃ Q : Nat → PrM, [prG a s t m0, prG a s t m1, prG a s t m2, prG a s t m3] = fam (prF a s t Q) 4 ∧ (#[.pointer (some ⟨m0.b, 0, none⟩), .pointer (some ⟨m1.b, 0, none⟩), .pointer (some ⟨m2.b, 0, none⟩), .pointer (some ⟨m3.b, 0, none⟩)] : Array Value) = rowA (prPt Q) 4 ∧ ((PrOk m0 ∧ PrOk m1 ∧ PrOk m2 ∧ PrOk m3) → ∀ j, PrOk (Q j)) :=
  ⟨fun j => if j = 0 then m0 else if j = 1 then m1 else if j = 2 then m2 else m3, rfl, rfl, fun ⟨h0, h1, h2, h3⟩ j => by
    dsimp only
    split
    · exact h0
    · split
      · exact h1
      · split
        · exact h2
        · exact h3⟩
theorem pack_four {B : Nat} {W w : World} {a s t : Int} {b0 x0 y0 b1 x1 y1 b2 x2 y2 b3 x3 y3 : Nat} {m k c s' l : Grp} (hO : Owns B W w [prG a s t (prNew false b3 x3 y3 0), prG a s t (prNew false b2 x2 y2 0), prG a s t (prNew false b1 x1 y1 0), prG a s t (prNew false b0 x0 y0 0), m, k, c, s', l]) :
    ∃ Q : Nat → PrM, (∀ j, PrOk (Q j)) ∧ Owns B W (w.alloc (.cells #[.pointer (some ⟨b0, 0, none⟩), .pointer (some ⟨b1, 0, none⟩), .pointer (some ⟨b2, 0, none⟩), .pointer (some ⟨b3, 0, none⟩)] 44)) (m :: k :: c :: s' :: l :: [(w.heap.size, Obj.cells (rowA (prPt Q) 4) 44 (0, 0))] :: fam (prF a s t Q) 4) := by
  obtain ⟨Q, h1, h2, h3⟩ := made_four a s t (prNew false b0 x0 y0 0) (prNew false b1 x1 y1 0) (prNew false b2 x2 y2 0) (prNew false b3 x3 y3 0)
  refine ⟨Q, h3 ⟨prNew_ok _ _ _ _ _, prNew_ok _ _ _ _ _, prNew_ok _ _ _ _ _, prNew_ok _ _ _ _ _⟩, ?_⟩
  rw [← h1, ← h2]
  exact pack4 (hO.alloc _)
theorem pair_stepB {B : Nat} {W w : World} {p bw bb kp kw ab : Nat} {ws bs : List Int} {bv : Value} {n nn a s t : Int} {Q : Nat → PrM} {q : Nat} {T : TypeId} {c s' l : Grp} (hq : q < 4) (hO : Owns B W w (memG p bw bb ws bs n :: kG kp kw ws bv nn :: c :: s' :: l :: [(ab, Obj.cells (rowA (prPt Q) 4) T (0, 0))] :: fam (prF a s t Q) 4)) (hc : cfgOk a s t = true) (hl : ws.length ≤ 4096) (hw : WOk ws) (hm : ∀ j, PrOk (Q j)) :
    Calls Try.prog 26 #[.pointer (some ⟨(Q q).b, 0, none⟩), .pointer (some ⟨p, 0, none⟩), .pointer (some ⟨kp, 0, none⟩)] w fun e w' => ∃ (r e' : Int) (d : Bool) (ws' : List Int) (Q' : Nat → PrM) (n' nn' : Int), e = .returned (.tuple #[.int .i64 r, .int .i64 e', .bool d, .bool true]) ∧ ws'.length = ws.length ∧ WOk ws' ∧ (∀ j, PrOk (Q' j)) ∧
      Owns B W w' (memG p bw bb ws' bs n' :: kG kp kw ws' bv nn' :: c :: s' :: l :: [(ab, Obj.cells (rowA (prPt Q') 4) T (0, 0))] :: fam (prF a s t Q') 4) := by
  refine (pair_stepA hq hO hc hl hw hm _ rfl).mono ?_
  rintro e w' ⟨he, n', nn', hO'⟩
  have h := prN_ok (t := t) (s := s) hw (hm q)
  refine ⟨_, _, _, _, upd Q q (prN t s ws (Q q)), n', nn', he, h.2.2, h.2.1, upd_all hm q h.1, ?_⟩
  rw [prPt_same Q q (prN t s ws (Q q)) rfl]
  exact hO'
theorem sameB_self (xs : List Int) : sameB xs xs = true := by simp [sameB]
set_option maxRecDepth 100000 in
set_option maxHeartbeats 8000000 in
theorem StackSteps_far (a s t : Int) (v : Value) (xs : List (List Value)) (at' k0 k1 : Int) (W : World) (hs : SArg W [true, false, true] v xs) (hn : ¬ xs.length ≤ 100) : Calls Try.prog 5 #[.agg #[.int .i64 a, .int .i64 s, .int .i64 t, v, .int .i64 at', .int .i64 k0, .int .i64 k1]] W fun e w' => e = .returned (.bool true) ∧ Below W.heap.size W w' := by
  obtain ⟨pa, cap, rfl, hl, hx⟩ := hs.form
  have hn' : (100 : Int) < (xs.length : Int) := by omega
  clear hx hs hn
  go_enter Try.func5, Try.ntmps5
  go_upto_region 1 with fail
  have hO := (Owns.nil W).more (Obj.cells #[.int .i64 a, .int .i64 s, .int .i64 t, .slice pa xs.length cap, .int .i64 at', .int .i64 k0, .int .i64 k1] 38)
  generalize W.alloc (Obj.cells #[.int .i64 a, .int .i64 s, .int .i64 t, .slice pa xs.length cap, .int .i64 at', .int .i64 k0, .int .i64 k1] 38) = w0 at hO ⊢
  have v0 : _ = some (Value.int .i64 a) := hO.cell 0 0 rfl rfl 0
  have v1 : _ = some (Value.int .i64 s) := hO.cell 0 0 rfl rfl 1
  have v2 : _ = some (Value.int .i64 t) := hO.cell 0 0 rfl rfl 2
  have v3 : _ = some (Value.slice pa xs.length cap) := hO.cell 0 0 rfl rfl 3
  have v4 : _ = some (Value.int .i64 at') := hO.cell 0 0 rfl rfl 4
  have v5 : _ = some (Value.int .i64 k0) := hO.cell 0 0 rfl rfl 5
  have v6 : _ = some (Value.int .i64 k1) := hO.cell 0 0 rfl rfl 6
  have hz := hO.lt 0 0 rfl rfl
  go_cut [3, 4, 5, 6] (fun s3 s4 s5 s6 wx => ∃ cb sp, s3 = .pointer (some ⟨cb, 0, none⟩) ∧ s4 = .slice pa xs.length cap ∧ s5 = .int .i64 at' ∧ s6 = .pointer (some ⟨sp, 0, none⟩) ∧ Owns W.heap.size W wx [[(cb, Obj.cells #[Value.int .i64 a, .int .i64 s, .int .i64 t] 23 (0, 0))], [(sp, Obj.cells #[Value.int .i64 k0, .int .i64 k1] 36 (0, 0))]])
  case first =>
    go_region
    all_goals
      go_wp2_with fail
      go_meet
      refine ⟨_, _, rfl, rfl, rfl, rfl, ?_⟩
      first
        | (have h := ((hO.drop 0).alloc (.cells #[Value.int .i64 a, .int .i64 s, .int .i64 t] 23)).alloc (.cells #[Value.int .i64 k0, .int .i64 k1] 36); simp only [World.size_alloc] at h; exact h.swap.drew)
        | (have h := ((hO.drop 0).alloc (.cells #[Value.int .i64 k0, .int .i64 k1] 36)).alloc (.cells #[Value.int .i64 a, .int .i64 s, .int .i64 t] 23); simp only [World.size_alloc] at h; exact h.drew)
  clear hO v0 v1 v2 v3 v4 v5 v6 hz
  obtain ⟨cb, sp, rfl, rfl, rfl, rfl, hO⟩ := hcut
  go_wp2_with (go_at_call 19; refine (law10_live _).mono ?_; rintro e w2 ⟨rfl, hb⟩; have hO := hO.via hb)
  go_ret
  exact ⟨rfl, hO.below⟩
set_option maxRecDepth 100000 in
set_option maxHeartbeats 8000000 in
theorem StackSteps_no (a s t : Int) (v : Value) (xs : List (List Value)) (at' k0 k1 : Int) (W : World) (hs : SArg W [true, false, true] v xs) (hn : xs.length ≤ 100) (hc : cfgOk a s t = false) : Calls Try.prog 5 #[.agg #[.int .i64 a, .int .i64 s, .int .i64 t, v, .int .i64 at', .int .i64 k0, .int .i64 k1]] W fun e w' => e = .returned (.bool true) ∧ Below W.heap.size W w' := by
  obtain ⟨pa, cap, rfl, hl, hx⟩ := hs.form
  have hn' : ¬ (100 : Int) < (xs.length : Int) := by omega
  have CK := Lib.hid hc
  clear hx hs hn hc
  go_enter Try.func5, Try.ntmps5
  go_upto_region 1 with fail
  have hO := (Owns.nil W).more (Obj.cells #[.int .i64 a, .int .i64 s, .int .i64 t, .slice pa xs.length cap, .int .i64 at', .int .i64 k0, .int .i64 k1] 38)
  generalize W.alloc (Obj.cells #[.int .i64 a, .int .i64 s, .int .i64 t, .slice pa xs.length cap, .int .i64 at', .int .i64 k0, .int .i64 k1] 38) = w0 at hO ⊢
  have v0 : _ = some (Value.int .i64 a) := hO.cell 0 0 rfl rfl 0
  have v1 : _ = some (Value.int .i64 s) := hO.cell 0 0 rfl rfl 1
  have v2 : _ = some (Value.int .i64 t) := hO.cell 0 0 rfl rfl 2
  have v3 : _ = some (Value.slice pa xs.length cap) := hO.cell 0 0 rfl rfl 3
  have v4 : _ = some (Value.int .i64 at') := hO.cell 0 0 rfl rfl 4
  have v5 : _ = some (Value.int .i64 k0) := hO.cell 0 0 rfl rfl 5
  have v6 : _ = some (Value.int .i64 k1) := hO.cell 0 0 rfl rfl 6
  have hz := hO.lt 0 0 rfl rfl
  go_cut [3, 4, 5, 6] (fun s3 s4 s5 s6 wx => ∃ cb sp, s3 = .pointer (some ⟨cb, 0, none⟩) ∧ s4 = .slice pa xs.length cap ∧ s5 = .int .i64 at' ∧ s6 = .pointer (some ⟨sp, 0, none⟩) ∧ Owns W.heap.size W wx [[(cb, Obj.cells #[Value.int .i64 a, .int .i64 s, .int .i64 t] 23 (0, 0))], [(sp, Obj.cells #[Value.int .i64 k0, .int .i64 k1] 36 (0, 0))]])
  case first =>
    go_region
    all_goals
      go_wp2_with fail
      go_meet
      refine ⟨_, _, rfl, rfl, rfl, rfl, ?_⟩
      first
        | (have h := ((hO.drop 0).alloc (.cells #[Value.int .i64 a, .int .i64 s, .int .i64 t] 23)).alloc (.cells #[Value.int .i64 k0, .int .i64 k1] 36); simp only [World.size_alloc] at h; exact h.swap.drew)
        | (have h := ((hO.drop 0).alloc (.cells #[Value.int .i64 k0, .int .i64 k1] 36)).alloc (.cells #[Value.int .i64 a, .int .i64 s, .int .i64 t] 23); simp only [World.size_alloc] at h; exact h.drew)
  clear hO v0 v1 v2 v3 v4 v5 v6 hz
  obtain ⟨cb, sp, rfl, rfl, rfl, rfl, hO⟩ := hcut
  have a0 : _ = some (Value.int .i64 a) := hO.cell 0 0 rfl rfl 0
  have a1 : _ = some (Value.int .i64 s) := hO.cell 0 0 rfl rfl 1
  have a2 : _ = some (Value.int .i64 t) := hO.cell 0 0 rfl rfl 2
  go_wp2_with fail
  refine (law10_start_no a s t _ CK.out).mono ?_; rintro e w1 ⟨rfl, hb⟩; have hO := hO.via hb
  go_upto_region 5 with fail
  have hO := hO.more (.cells #[.int .i64 0, .int .i64 0] 25)
  generalize w1.alloc (.cells #[.int .i64 0, .int .i64 0] 25) = w3 at hO ⊢
  clear a0 a1 a2
  have a0 : _ = some (Value.int .i64 a) := hO.cell 0 0 rfl rfl 0
  have a1 : _ = some (Value.int .i64 s) := hO.cell 0 0 rfl rfl 1
  have a2 : _ = some (Value.int .i64 t) := hO.cell 0 0 rfl rfl 2
  go_wp2_with first
    | (go_at_call 19; refine (law10_live _).mono ?_; rintro e w2 ⟨rfl, hb⟩; have hO := hO.via hb)
    | (go_at_call 21; refine (ref06_May _ _ _ _).mono ?_; rw [CK.out]; rintro e w4 ⟨rfl, hb⟩; have hO := hO.via hb)
  go_ret
  exact ⟨rfl, hO.below⟩
end Go.Proofs.Ytpebepjfgnoaaaa
