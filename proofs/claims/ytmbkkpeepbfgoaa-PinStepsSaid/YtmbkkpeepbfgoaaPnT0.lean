/- Two pins' machines beside the reference's. -/
import Derived.Test.YtmbkkpeepbfgoaaArr
import Derived.Test.YtmbkkpeepbfgoaaRfS
import Derived.Test.YtmbkkpeepbfgoaaRcS
import Derived.Test.YtmbkkpeepbfgoaaPnC0
namespace Go.Proofs.Ytmbkkpeepbfgoaa
set_option linter.unusedVariables false
set_option linter.unusedSimpArgs false
open Go.RowKit
def rpF (a s t h : Int) (Y : Nat → Nat) (Q : Nat → PnM) : Nat → Grp := fun j => rpG (Y j) a s t h (Q j).un (Q j).nx (Q j).wd (Q j).tw
def rpP (Y : Nat → Nat) : Nat → Value := fun j => .pointer (some ⟨Y j, 0, none⟩)
theorem rpP_upd (Y : Nat → Nat) (q y : Nat) : upd (rpP Y) q (.pointer (some ⟨y, 0, none⟩)) = rpP (upd Y q y) := by
  funext j; unfold rpP upd; split <;> rfl
theorem rpF_upd (a s t h : Int) (Y : Nat → Nat) (Q : Nat → PnM) (q : Nat) (m : PnM) : upd (rpF a s t h Y Q) q (rpG (Y q) a s t h m.un m.nx m.wd m.tw) = rpF a s t h Y (upd Q q m) := by
  funext j; unfold rpF upd; split
  · rename_i e; subst e; rfl
  · rfl
theorem rpF_new (a s t h : Int) (Y : Nat → Nat) (Q : Nat → PnM) (q y : Nat) (m m' : PnM) : upd (rpF a s t h Y (upd Q q m)) q (rpG y a s t h m'.un m'.nx m'.wd m'.tw) = rpF a s t h (upd Y q y) (upd Q q m') := by
  funext j; unfold rpF upd; split <;> simp_all
def SOk (st : Bool) (Q : Nat → PnM) : Prop := st = true → ∀ j, (Q j).nx = 0 ∨ (Q j).nx = 1
theorem SOk.upd {st : Bool} {Q : Nat → PnM} (h : SOk st Q) (q : Nat) (m : PnM) (hm : st = true → m.nx = 0 ∨ m.nx = 1) : SOk st (upd Q q m) := by
  intro hs j; unfold Proofs.Ytmbkkpeepbfgoaa.upd; split
  · exact hm hs
  · exact h hs j
theorem pinStep_st {t s sl ge : Int} {st un : Bool} {ws : List Int} {nx wd tw : Int} (hs : st = true) (hn : nx = 0 ∨ nx = 1) : (pinStep t s sl ge st un ws nx wd tw).nx = 0 ∨ (pinStep t s sl ge st un ws nx wd tw).nx = 1 := by
  subst hs
  unfold pinStep
  rcases hn with rfl | rfl
  · exact .inl rfl
  · exact .inl rfl
section
variable {B : Nat} {W w : World} {c k x y o : Grp} {p bw bb : Nat} {ws bs : List Int} {n a t s h : Int} {Y : Nat → Nat} {Q : Nat → PnM} {q : Nat}
theorem stepA {C : Nat → Grp} {sl ge : Int} {st : Bool} (hq : q < 2) (hO : Owns B W w (memG p bw bb ws bs n :: c :: k :: x :: y :: o :: (fam (pmF t s sl ge st Q) 2 ++ fam C 2))) (hL : lOk t s) (hl : ws.length ≤ 4096) {r : PinR} (hr : pinStep t s sl ge st (Q q).un ws (Q q).nx (Q q).wd (Q q).tw = r) :
    Calls Try.prog 28 #[.pointer (some ⟨(Q q).x, 0, none⟩), memI p] w fun e w' => e = .returned (resV (r.code, 0) r.done) ∧ ∃ m, Owns B W w' (memG p bw bb r.ws bs m :: c :: k :: x :: y :: o :: (fam (pmF t s sl ge st (upd Q q ⟨(Q q).x, (Q q).un, r.nx, r.wd, r.tw⟩)) 2 ++ fam C 2)) := by
  have h1 := at2 (r := .returned (resV (r.code, 0) r.done)) (f := 28) (args := #[.pointer (some ⟨(Q q).x, 0, none⟩), memI p]) (fun m => memG p bw bb r.ws bs m) (pnG (Q q).x t s sl ge st (Q q).un r.nx r.wd r.tw) 0 (q + 6) hO rfl (fA_get hq) (by omega) (fun R hR => by
    have := pin_Step hR hL hl
    rw [hr] at this
    exact this)
  refine h1.mono ?_
  rintro e w' ⟨he, m, hO'⟩
  refine ⟨he, m, ?_⟩
  rw [List.set_cons_zero, fA_set hq] at hO'
  rw [← pmF_upd]
  exact hO'
theorem stepC {A : Nat → Grp} {m0 : Grp} {bv : Value} (hq : q < 2) (hO : Owns B W w (m0 :: c :: kG p bw ws bv n :: x :: y :: o :: (fam A 2 ++ fam (rpF a s t h Y Q) 2))) (hl : ws.length ≤ 4096) (hc : cfgOk a s t = true) (lo : -9223372036854775808 ≤ h) (hi : h ≤ 9223372036854775807) (hS : SOk ((hOf h s).2.2 != 0) Q)
    {r : PinR} (hr : pinStep t s (hOf h s).1 (hOf h s).2.1 ((hOf h s).2.2 != 0) (Q q).un ws (Q q).nx (Q q).wd (Q q).tw = r) :
    Calls Try.prog 29 #[.pointer (some ⟨Y q, 0, none⟩), .pointer (some ⟨p, 0, none⟩)] w fun e w' => e = .returned (resV (r.code, 0) r.done) ∧ ∃ m, Owns B W w' (m0 :: c :: kG p bw r.ws bv m :: x :: y :: o :: (fam A 2 ++ fam (rpF a s t h Y (upd Q q ⟨(Q q).x, (Q q).un, r.nx, r.wd, r.tw⟩)) 2)) := by
  have h1 := at2 (r := .returned (resV (r.code, 0) r.done)) (f := 29) (args := #[.pointer (some ⟨Y q, 0, none⟩), .pointer (some ⟨p, 0, none⟩)]) (fun m => kG p bw r.ws bv m) (rpG (Y q) a s t h (Q q).un r.nx r.wd r.tw) 2 (q + 2 + 6) hO rfl (fC_get hq) (by omega) (fun R hR => by
    have := ref14_Step hR hl hc lo hi (fun hne => hS (by simpa using hne) q)
    rw [hr] at this
    exact this)
  refine h1.mono ?_
  rintro e w' ⟨he, m, hO'⟩
  refine ⟨he, m, ?_⟩
  simp only [List.set_cons_succ, List.set_cons_zero] at hO'
  rw [List.set_append_right _ _ (by rw [fam_len]; omega), fam_len, Nat.add_sub_cancel, fam_set] at hO'
  rw [← rpF_upd]
  exact hO'
end
theorem made_two (x0 x1 : Nat) : ∃ Q : Nat → PnM, (∀ j, (Q j).nx = 1) ∧ (∀ t s sl ge st, [pnG x0 t s sl ge st false 1 0 0, pnG x1 t s sl ge st true 1 0 0] = fam (pmF t s sl ge st Q) 2) ∧ (#[.pointer (some ⟨x0, 0, none⟩), .pointer (some ⟨x1, 0, none⟩)] : Array Value) = rowA (pmP Q) 2 ∧
    ∀ y0 y1 a s t h, ∃ Y : Nat → Nat, [rpG y0 a s t h false 1 0 0, rpG y1 a s t h true 1 0 0] = fam (rpF a s t h Y Q) 2 ∧ (#[.pointer (some ⟨y0, 0, none⟩), .pointer (some ⟨y1, 0, none⟩)] : Array Value) = rowA (rpP Y) 2 :=
  ⟨fun j => ⟨if j = 0 then x0 else x1, if j = 0 then false else true, 1, 0, 0⟩, fun _ => rfl, fun _ _ _ _ _ => rfl, rfl, fun y0 y1 _ _ _ _ => ⟨fun j => if j = 0 then y0 else y1, rfl, rfl⟩⟩
theorem ref14_New_app {B : Nat} {W w : World} {G : List Grp} (a s t h : Int) (un : Bool) (hc : cfgOk a s t = true) (hO : Owns B W w G) : Calls Try.prog 27 #[.agg #[.int .i64 a, .int .i64 s, .int .i64 t], .int .i64 h, .bool un] w fun e w' =>
    ∃ x, e = .returned (.pointer (some ⟨x, 0, none⟩)) ∧ Below w.heap.size w w' ∧ Owns B W w' (rpG x a s t h un 1 0 0 :: G) :=
  (ref14_New a s t h un hc (Owns.nil w)).mono fun _ _ ⟨x, he, h⟩ => ⟨x, he, h.1, hO.app h⟩
theorem pack2 {B : Nat} {W w : World} {gA gB m c k : Grp} (hO : Owns B W w [gB, gA, m, c, k]) (o : Obj) : Owns B W (w.alloc o) [m, c, k, [(w.heap.size, o)], gA, gB] := by
  refine (hO.alloc o).perm ?_
  generalize [(w.heap.size, o)] = x
  have e1 : [x, gB, gA, m, c, k].Perm [k, c, m, gA, gB, x] := List.reverse_perm [k, c, m, gA, gB, x]
  refine e1.trans ?_
  have e2 : [k, c, m, gA, gB, x].Perm [m, c, k, gA, gB, x] := ((List.Perm.swap c k [m]).trans (((List.Perm.swap m k []).cons c).trans (List.Perm.swap m c [k]))).append_right [gA, gB, x]
  refine e2.trans ?_
  exact (((((List.perm_append_singleton x [gA, gB])).cons k).cons c).cons m)
theorem pack3 {B : Nat} {W w : World} {gA gB m c k x hA hB : Grp} (hO : Owns B W w [hB, hA, m, c, k, x, gA, gB]) (o : Obj) : Owns B W (w.alloc o) [m, c, k, x, [(w.heap.size, o)], [], gA, gB, hA, hB] := by
  have h := (hO.alloc o).nothing
  refine h.perm ?_
  generalize [(w.heap.size, o)] = y
  have e1 : ([] :: y :: hB :: hA :: [m, c, k, x, gA, gB]).Perm ([m, c, k, x, gA, gB] ++ [[], y, hB, hA]) := List.perm_append_comm (l₁ := [[], y, hB, hA]) (l₂ := [m, c, k, x, gA, gB])
  refine e1.trans (List.Perm.append_left [m, c, k, x] ?_)
  have e2 : [gA, gB, [], y, hB, hA].Perm ([y, []] ++ [gA, gB] ++ [hB, hA]) := (List.perm_append_comm (l₁ := [gA, gB]) (l₂ := [[], y])).append_right [hB, hA] |>.trans (((List.Perm.swap y [] []).append_right [gA, gB]).append_right [hB, hA])
  refine e2.trans (List.Perm.append_left [y, [], gA, gB] (List.Perm.swap hA hB []))
def TwoQ (Q : Nat → PnM) : Prop := (∀ j, (Q j).nx = 1) ∧ ∀ y0 y1 a s t h, ∃ Y : Nat → Nat, [rpG y0 a s t h false 1 0 0, rpG y1 a s t h true 1 0 0] = fam (rpF a s t h Y Q) 2 ∧ (#[.pointer (some ⟨y0, 0, none⟩), .pointer (some ⟨y1, 0, none⟩)] : Array Value) = rowA (rpP Y) 2
theorem packA {B : Nat} {W w : World} {x0 x1 : Nat} {t s sl ge : Int} {st : Bool} {m c k : Grp} (hO : Owns B W w [pnG x1 t s sl ge st true 1 0 0, pnG x0 t s sl ge st false 1 0 0, m, c, k]) :
    ∃ Q, TwoQ Q ∧ Owns B W (w.alloc (.cells #[.pointer (some ⟨x0, 0, none⟩), .pointer (some ⟨x1, 0, none⟩)] 51)) (m :: c :: k :: [(w.heap.size, Obj.cells (rowA (pmP Q) 2) 51 (0, 0))] :: fam (pmF t s sl ge st Q) 2) := by
  obtain ⟨Q, h1, h2, h3, h4⟩ := made_two x0 x1
  refine ⟨Q, ⟨h1, h4⟩, ?_⟩
  have := pack2 hO (.cells #[.pointer (some ⟨x0, 0, none⟩), .pointer (some ⟨x1, 0, none⟩)] 51)
  rw [← h2, ← h3]
  exact this
theorem packC {B : Nat} {W w : World} {y0 y1 : Nat} {a s t h : Int} {Q : Nat → PnM} {A : Nat → Grp} {m c k x : Grp} (hQ : TwoQ Q) (hO : Owns B W w (rpG y1 a s t h true 1 0 0 :: rpG y0 a s t h false 1 0 0 :: m :: c :: k :: x :: fam A 2)) :
    ∃ Y, Owns B W (w.alloc (.cells #[.pointer (some ⟨y0, 0, none⟩), .pointer (some ⟨y1, 0, none⟩)] 54)) (m :: c :: k :: x :: [(w.heap.size, Obj.cells (rowA (rpP Y) 2) 54 (0, 0))] :: [] :: (fam A 2 ++ fam (rpF a s t h Y Q) 2)) := by
  obtain ⟨Y, h1, h2⟩ := hQ.2 y0 y1 a s t h
  refine ⟨Y, ?_⟩
  have := pack3 hO (.cells #[.pointer (some ⟨y0, 0, none⟩), .pointer (some ⟨y1, 0, none⟩)] 54)
  rw [← h1, ← h2]
  exact this
theorem stepC' {B : Nat} {W w : World} {c x y o : Grp} {p bw : Nat} {ws : List Int} {n a t s h sl ge f : Int} {Y : Nat → Nat} {Q : Nat → PnM} {q : Nat} {A : Nat → Grp} {m0 : Grp} {bv : Value} (hf : hOf h s = (sl, ge, f)) (hq : q < 2) (hO : Owns B W w (m0 :: c :: kG p bw ws bv n :: x :: y :: o :: (fam A 2 ++ fam (rpF a s t h Y Q) 2))) (hl : ws.length ≤ 4096) (hc : cfgOk a s t = true) (lo : -9223372036854775808 ≤ h) (hi : h ≤ 9223372036854775807) (hS : SOk (f != 0) Q)
    {r : PinR} (hr : pinStep t s sl ge (f != 0) (Q q).un ws (Q q).nx (Q q).wd (Q q).tw = r) :
    Calls Try.prog 29 #[.pointer (some ⟨Y q, 0, none⟩), .pointer (some ⟨p, 0, none⟩)] w fun e w' => e = .returned (resV (r.code, 0) r.done) ∧ ∃ m, Owns B W w' (m0 :: c :: kG p bw r.ws bv m :: x :: y :: o :: (fam A 2 ++ fam (rpF a s t h Y (upd Q q ⟨(Q q).x, (Q q).un, r.nx, r.wd, r.tw⟩)) 2)) :=
  stepC hq hO hl hc lo hi (by rw [hf]; exact hS) (by rw [hf]; exact hr)
end Go.Proofs.Ytmbkkpeepbfgoaa
