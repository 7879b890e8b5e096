/- entry.changed, whatever it is handed. -/
import Derived.Test.YtmbkkpeepbfgoaaEnU
namespace Go.Proofs.Ytmbkkpeepbfgoaa
set_option linter.unusedVariables false
set_option linter.unusedSimpArgs false
open Go.RowKit
def eCells (o g p u : Int) (l a : Bool) : Array Value := #[.int .i64 o, .int .i64 g, .int .i64 p, .int .i64 u, .bool l, .bool a]
def eChg (code o g p u : Int) (l a : Bool) : Int × Int := if code = 0 then ePack o g p u l a else (0, code)
set_option maxHeartbeats 1000000 in
theorem entry_changed_bad (x : Int) (F : Value) (W : World) (h : eIs x = false) : Calls Try.prog 72 #[.int .i64 x, F] W fun e w' => e = .returned (.tuple #[.int .i64 0, .int .i64 2]) ∧ Below W.heap.size W w' := by
  obtain ⟨a1, a2, a3, a4, a5, a6, a7⟩ := u_no h
  have A1 := Lib.hid a1
  have A2 := Lib.hid a2
  have A3 := Lib.hid a3
  have A4 := Lib.hid a4
  have A5 := Lib.hid a5
  have A6 := Lib.hid a6
  have A7 := Lib.hid a7
  clear a1 a2 a3 a4 a5 a6 a7 h
  go_enter Try.func72, Try.ntmps72
  go_wp2_with (go_at_call 70; refine (entry_Unpack _ _).mono ?_; rw [A1.out, A2.out, A3.out, A4.out, A5.out, A6.out, A7.out]; rintro e w1 ⟨rfl, hb1⟩; have hz1 := hb1.size)
  go_ret2
  exact ⟨rfl, by (repeat' (first | (with_reducible exact Below.refl _ _) | (with_reducible assumption) | (with_reducible refine below_drewN ?_ _) | (with_reducible refine Below.drew ?_) | (with_reducible refine Below.alloc ?_ ?_ _) | (with_reducible refine Below.setCell ?_ ?_ _) | (with_reducible refine below_via (by assumption) ?_ ?_) | go_size))⟩
set_option maxHeartbeats 1000000 in
theorem entry_changed_dead (x : Int) (F : Value) (W : World) (h : eIs x = true) (ha : wA x = false) : Calls Try.prog 72 #[.int .i64 x, F] W fun e w' => e = .returned (.tuple #[.int .i64 0, .int .i64 1]) ∧ Below W.heap.size W w' := by
  obtain ⟨a1, a2, a3, a4, a5, a6, a7⟩ := u_yes h
  rw [ha] at a6
  have A6 := Lib.hid a6
  have A7 := Lib.hid a7
  clear a1 a2 a3 a4 a5 a6 a7 h ha
  go_enter Try.func72, Try.ntmps72
  go_wp2_with (go_at_call 70; refine (entry_Unpack _ _).mono ?_; rw [A6.out, A7.out]; rintro e w1 ⟨rfl, hb1⟩; have hz1 := hb1.size)
  go_ret2
  exact ⟨rfl, by (repeat' (first | (with_reducible exact Below.refl _ _) | (with_reducible assumption) | (with_reducible refine below_drewN ?_ _) | (with_reducible refine Below.drew ?_) | (with_reducible refine Below.alloc ?_ ?_ _) | (with_reducible refine Below.setCell ?_ ?_ _) | (with_reducible refine below_via (by assumption) ?_ ?_) | go_size))⟩
set_option maxHeartbeats 2000000 in
theorem entry_changed_live (x : Int) (f : FuncId) (cap : Array Value) (W : World) (h : eIs x = true) (ha : wA x = true) (code o g p u : Int) (l a : Bool) (Rel : World → Prop)
    (HF : ∀ args w, (callFunc f args).run Try.prog w = .ok (.enter f args) w) (hRel : ∀ V V', Rel V → Below V.heap.size V V' → Rel V')
    (H : ∀ V, W.heap.size ≤ V.heap.size → Below W.heap.size W V → Calls Try.prog f (#[.pointer (some ⟨V.heap.size, 0, none⟩)] ++ cap) (V.alloc (.cells (eCells (wO x) (wG x) (wP x) (wU x) (wL x) true) 91)) fun e w' => e = .returned (.int .i64 code) ∧ w'.heap[V.heap.size]? = some (.cells (eCells o g p u l a) 91 (0, 0)) ∧ Rel w') :
    Calls Try.prog 72 #[.int .i64 x, .func (.func f) #[] cap] W fun e w' => e = .returned (.tuple #[.int .i64 (eChg code o g p u l a).1, .int .i64 (eChg code o g p u l a).2]) ∧ Rel w' := by
  obtain ⟨a1, a2, a3, a4, a5, a6, a7⟩ := u_yes h
  rw [ha] at a6
  have A1 := Lib.hid a1
  have A2 := Lib.hid a2
  have A3 := Lib.hid a3
  have A4 := Lib.hid a4
  have A5 := Lib.hid a5
  have A6 := Lib.hid a6
  have A7 := Lib.hid a7
  have HH := Lib.hid H
  have HR := Lib.hid hRel
  clear a1 a2 a3 a4 a5 a6 a7 h ha H hRel
  go_enter Try.func72, Try.ntmps72
  go_wp2_with (go_at_call 70; refine (entry_Unpack _ _).mono ?_; rw [A1.out, A2.out, A3.out, A4.out, A5.out, A6.out, A7.out]; rintro e w1 ⟨rfl, hb1⟩; have hz1 := hb1.size)
  skip
  refine (HH.out w1 (by omega) hb1).mono ?_
  rintro e w2 ⟨rfl, h2, hr⟩
  have hl := blk_lt h2
  have c0 : w2.cell? ⟨w1.heap.size, 0, none⟩ = some (.int .i64 o) := by rw [blk_cell h2]; rfl
  have c1 : w2.cell? ⟨w1.heap.size, 1, none⟩ = some (.int .i64 g) := by rw [blk_cell h2]; rfl
  have c2 : w2.cell? ⟨w1.heap.size, 2, none⟩ = some (.int .i64 p) := by rw [blk_cell h2]; rfl
  have c3 : w2.cell? ⟨w1.heap.size, 3, none⟩ = some (.int .i64 u) := by rw [blk_cell h2]; rfl
  have c4 : w2.cell? ⟨w1.heap.size, 4, none⟩ = some (.bool l) := by rw [blk_cell h2]; rfl
  have c5 : w2.cell? ⟨w1.heap.size, 5, none⟩ = some (.bool a) := by rw [blk_cell h2]; rfl
  have HRl := Lib.hid hr
  clear hr h2
  by_cases hc : code = 0
  · have e := Lib.hid (show eChg code o g p u l a = ePack o g p u l a by unfold eChg; rw [if_pos hc])
    subst hc
    go_wp2_with (go_at_call 87; refine (entry_Pack _ _ _ _ _ _ _).mono ?_; rintro e w3 ⟨rfl, hb3⟩)
    go_ret2
    exact ⟨by rw [e.out]; rfl, HR.out _ _ HRl.out hb3⟩
  · have e := Lib.hid (show eChg code o g p u l a = (0, code) by unfold eChg; rw [if_neg hc])
    have b1 : (code != 0) = true := by simpa using hc
    clear hc
    go_wp2_with fail
    go_ret2
    exact ⟨by rw [e.out]; rfl, HRl.out⟩
/-- a change that touches nothing but the entry. -/
theorem entry_changed_own (x : Int) (f : FuncId) (cap : Array Value) (W : World) (h : eIs x = true) (ha : wA x = true) (code o g p u : Int) (l a : Bool)
    (HF : ∀ args w, (callFunc f args).run Try.prog w = .ok (.enter f args) w)
    (H : ∀ V, W.heap.size ≤ V.heap.size → Calls Try.prog f (#[.pointer (some ⟨V.heap.size, 0, none⟩)] ++ cap) (V.alloc (.cells (eCells (wO x) (wG x) (wP x) (wU x) (wL x) true) 91)) fun e w' => e = .returned (.int .i64 code) ∧ w'.heap[V.heap.size]? = some (.cells (eCells o g p u l a) 91 (0, 0)) ∧ Below V.heap.size V w') :
    Calls Try.prog 72 #[.int .i64 x, .func (.func f) #[] cap] W fun e w' => e = .returned (.tuple #[.int .i64 (eChg code o g p u l a).1, .int .i64 (eChg code o g p u l a).2]) ∧ Below W.heap.size W w' :=
  entry_changed_live x f cap W h ha code o g p u l a (fun w' => Below W.heap.size W w') HF
    (fun _ _ hV hb => hV.trans (hb.mono hV.size))
    (fun V hs hb => (H V hs).mono fun _ _ ⟨h1, h2, h3⟩ => ⟨h1, h2, hb.trans (h3.mono hs)⟩)
end Go.Proofs.Ytmbkkpeepbfgoaa
