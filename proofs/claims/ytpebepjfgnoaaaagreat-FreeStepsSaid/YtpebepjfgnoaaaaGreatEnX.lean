/- entry.changed, whatever it is handed. -/
import Derived.StillTailTactics
import Derived.Test.YtpebepjfgnoaaaaGreatEnU
namespace Go.Proofs.YtpebepjfgnoaaaaGreat
set_option linter.unusedVariables false
set_option linter.unusedSimpArgs false
open Go.RowKit
def eCells (o g p u : Int) (l a : Bool) : Array Value := #[.int .i64 o, .int .i64 g, .int .i64 p, .int .i64 u, .bool l, .bool a]
def eChg (code o g p u : Int) (l a : Bool) : Int × Int := if code = 0 then ePack o g p u l a else (0, code)
set_option maxHeartbeats 1000000 in
theorem entry_changed_bad (x : Int) (F : Value) (W : World) (h : eIs x = false) : Calls Tryz.prog 89 #[.int .i64 x, F] W fun e w' => e = .returned (.tuple #[.int .i64 0, .int .i64 2]) ∧ Below W.heap.size W w' := by
  obtain ⟨a1, a2, a3, a4, a5, a6, a7⟩ := u_no h
  have A1 := Lib.hid a1
  have A2 := Lib.hid a2
  have A3 := Lib.hid a3
  have A4 := Lib.hid a4
  have A5 := Lib.hid a5
  have A6 := Lib.hid a6
  have A7 := Lib.hid a7
  clear a1 a2 a3 a4 a5 a6 a7 h
  go_enter Tryz.func89, Tryz.ntmps89
  go_wp2_with (go_at_call 51; refine (entry_Unpack _ _).mono ?_; rw [A1.out, A2.out, A3.out, A4.out, A5.out, A6.out, A7.out]; rintro e w1 ⟨rfl, hb1⟩; have hz1 := hb1.size)
  go_ret2
  exact ⟨rfl, by (repeat' (first | (with_reducible exact Below.refl _ _) | (with_reducible assumption) | (with_reducible refine below_drewN ?_ _) | (with_reducible refine Below.drew ?_) | (with_reducible refine Below.alloc ?_ ?_ _) | (with_reducible refine Below.setCell ?_ ?_ _) | (with_reducible refine below_via (by assumption) ?_ ?_) | go_size))⟩
set_option maxHeartbeats 1000000 in
theorem entry_changed_dead (x : Int) (F : Value) (W : World) (h : eIs x = true) (ha : wA x = false) : Calls Tryz.prog 89 #[.int .i64 x, F] W fun e w' => e = .returned (.tuple #[.int .i64 0, .int .i64 1]) ∧ Below W.heap.size W w' := by
  obtain ⟨a1, a2, a3, a4, a5, a6, a7⟩ := u_yes h
  rw [ha] at a6
  have A6 := Lib.hid a6
  have A7 := Lib.hid a7
  clear a1 a2 a3 a4 a5 a6 a7 h ha
  go_enter Tryz.func89, Tryz.ntmps89
  go_wp2_with (go_at_call 51; refine (entry_Unpack _ _).mono ?_; rw [A6.out, A7.out]; rintro e w1 ⟨rfl, hb1⟩; have hz1 := hb1.size)
  go_ret2
  exact ⟨rfl, by (repeat' (first | (with_reducible exact Below.refl _ _) | (with_reducible assumption) | (with_reducible refine below_drewN ?_ _) | (with_reducible refine Below.drew ?_) | (with_reducible refine Below.alloc ?_ ?_ _) | (with_reducible refine Below.setCell ?_ ?_ _) | (with_reducible refine below_via (by assumption) ?_ ?_) | go_size))⟩
set_option maxHeartbeats 2000000 in
theorem entry_changed_live (x : Int) (f : FuncId) (cap : Array Value) (W : World) (h : eIs x = true) (ha : wA x = true) (code o g p u : Int) (l a : Bool) (Rel : World → Prop)
    (HF : ∀ args w, (callFunc f args).run Tryz.prog w = .ok (.enter f args) w) (hRel : ∀ V V', Rel V → Below V.heap.size V V' → Rel V')
    (H : ∀ V, W.heap.size ≤ V.heap.size → Below W.heap.size W V → Calls Tryz.prog f (#[.pointer (some ⟨V.heap.size, 0, none⟩)] ++ cap) (V.alloc (.cells (eCells (wO x) (wG x) (wP x) (wU x) (wL x) true) 102)) fun e w' => e = .returned (.int .i64 code) ∧ w'.heap[V.heap.size]? = some (.cells (eCells o g p u l a) 102 (0, 0)) ∧ Rel w') :
    Calls Tryz.prog 89 #[.int .i64 x, .func (.func f) #[] cap] W fun e w' => e = .returned (.tuple #[.int .i64 (eChg code o g p u l a).1, .int .i64 (eChg code o g p u l a).2]) ∧ Rel w' := by
  obtain ⟨a1, a2, a3, a4, a5, a6, a7⟩ := u_yes h
  rw [ha] at a6
  have A1 := Lib.hid a1
  have A2 := Lib.hid a2
  have A3 := Lib.hid a3
  have A4 := Lib.hid a4
  have A5 := Lib.hid a5
  have A6 := Lib.hid a6
  have A7 := Lib.hid a7
  have HH := Lib.hid H
  have HR := Lib.hid hRel
  clear a1 a2 a3 a4 a5 a6 a7 h ha H hRel
  go_enter Tryz.func89, Tryz.ntmps89
  go_wp2_with (go_at_call 51; refine (entry_Unpack _ _).mono ?_; rw [A1.out, A2.out, A3.out, A4.out, A5.out, A6.out, A7.out]; rintro e w1 ⟨rfl, hb1⟩; have hz1 := hb1.size)
  skip
  refine (HH.out w1 (by omega) hb1).mono ?_
  rintro e w2 ⟨rfl, h2, hr⟩
  have hl := blk_lt h2
  have c0 : w2.cell? ⟨w1.heap.size, 0, none⟩ = some (.int .i64 o) := by rw [blk_cell h2]; rfl
  have c1 : w2.cell? ⟨w1.heap.size, 1, none⟩ = some (.int .i64 g) := by rw [blk_cell h2]; rfl
  have c2 : w2.cell? ⟨w1.heap.size, 2, none⟩ = some (.int .i64 p) := by rw [blk_cell h2]; rfl
  have c3 : w2.cell? ⟨w1.heap.size, 3, none⟩ = some (.int .i64 u) := by rw [blk_cell h2]; rfl
  have c4 : w2.cell? ⟨w1.heap.size, 4, none⟩ = some (.bool l) := by rw [blk_cell h2]; rfl
  have c5 : w2.cell? ⟨w1.heap.size, 5, none⟩ = some (.bool a) := by rw [blk_cell h2]; rfl
  have HRl := Lib.hid hr
  clear hr h2
  by_cases hc : code = 0
  · have e := Lib.hid (show eChg code o g p u l a = ePack o g p u l a by unfold eChg; rw [if_pos hc])
    subst hc
    go_wp2_with (go_at_call 102; refine (entry_Pack _ _ _ _ _ _ _).mono ?_; rintro e w3 ⟨rfl, hb3⟩)
    go_ret2
    exact ⟨by rw [e.out]; rfl, HR.out _ _ HRl.out hb3⟩
  · have e := Lib.hid (show eChg code o g p u l a = (0, code) by unfold eChg; rw [if_neg hc])
    have b1 : (code != 0) = true := by simpa using hc
    clear hc
    go_wp2_with fail
    go_ret2
    exact ⟨by rw [e.out]; rfl, HRl.out⟩
/-- a change that touches nothing but the entry. -/
theorem entry_changed_own (x : Int) (f : FuncId) (cap : Array Value) (W : World) (h : eIs x = true) (ha : wA x = true) (code o g p u : Int) (l a : Bool)
    (HF : ∀ args w, (callFunc f args).run Tryz.prog w = .ok (.enter f args) w)
    (H : ∀ V, W.heap.size ≤ V.heap.size → Calls Tryz.prog f (#[.pointer (some ⟨V.heap.size, 0, none⟩)] ++ cap) (V.alloc (.cells (eCells (wO x) (wG x) (wP x) (wU x) (wL x) true) 102)) fun e w' => e = .returned (.int .i64 code) ∧ w'.heap[V.heap.size]? = some (.cells (eCells o g p u l a) 102 (0, 0)) ∧ Below V.heap.size V w') :
    Calls Tryz.prog 89 #[.int .i64 x, .func (.func f) #[] cap] W fun e w' => e = .returned (.tuple #[.int .i64 (eChg code o g p u l a).1, .int .i64 (eChg code o g p u l a).2]) ∧ Below W.heap.size W w' :=
  entry_changed_live x f cap W h ha code o g p u l a (fun w' => Below W.heap.size W w') HF
    (fun _ _ hV hb => hV.trans (hb.mono hV.size))
    (fun V hs hb => (H V hs).mono fun _ _ ⟨h1, h2, h3⟩ => ⟨h1, h2, hb.trans (h3.mono hs)⟩)
end Go.Proofs.YtpebepjfgnoaaaaGreat
namespace Go.Proofs.YtpebepjfgnoaaaaGreat
set_option linter.unusedVariables false
set_option linter.unusedSimpArgs false
open Go.RowKit
/-- what a change of a word comes to. -/
def eTurn (x code o g p u : Int) (l a : Bool) : Int × Int := if eIs x = true then (if wA x = true then eChg code o g p u l a else (0, 1)) else (0, 2)
theorem eTurn_live {x code o g p u : Int} {l a : Bool} (h : eIs x = true) (ha : wA x = true) : eTurn x code o g p u l a = eChg code o g p u l a := by unfold eTurn; rw [if_pos h, if_pos ha]
theorem eTurn_dead {x code o g p u : Int} {l a : Bool} (h : eIs x = true) (ha : wA x = false) : eTurn x code o g p u l a = (0, 1) := by unfold eTurn; rw [if_pos h, if_neg (by rw [ha]; decide)]
theorem eTurn_bad {x code o g p u : Int} {l a : Bool} (h : eIs x = false) : eTurn x code o g p u l a = (0, 2) := by unfold eTurn; rw [if_neg (by rw [h]; decide)]
theorem eIs_of {x : Int} (h : eIs x = true) : (0 ≤ x ∧ x < 1125899906842624) ∧ eMay (wO x) (wG x) (wP x) (wU x) (wL x) (wA x) = true := by simpa [eIs] using h
theorem entry_changed_all (x : Int) (f : FuncId) (W : World) (code o g p u : Int) (l a : Bool)
    (HF : ∀ args w, (callFunc f args).run Tryz.prog w = .ok (.enter f args) w)
    (H : eMay (wO x) (wG x) (wP x) (wU x) (wL x) true = true → ∀ V, Calls Tryz.prog f (#[.pointer (some ⟨V.heap.size, 0, none⟩)]) (V.alloc (.cells (eCells (wO x) (wG x) (wP x) (wU x) (wL x) true) 102)) fun e w' => e = .returned (.int .i64 code) ∧ w'.heap[V.heap.size]? = some (.cells (eCells o g p u l a) 102 (0, 0)) ∧ Below V.heap.size V w') :
    Calls Tryz.prog 89 #[.int .i64 x, .func (.func f) #[] #[]] W fun e w' => e = .returned (.tuple #[.int .i64 (eTurn x code o g p u l a).1, .int .i64 (eTurn x code o g p u l a).2]) ∧ Below W.heap.size W w' := by
  rcases bool_cases (b := eIs x) with h | h
  · rcases bool_cases (b := wA x) with ha | ha
    · rw [eTurn_live h ha]
      have hm := (eIs_of h).2
      rw [ha] at hm
      exact entry_changed_own x f #[] W h ha code o g p u l a HF (fun V _ => H hm V)
    · rw [eTurn_dead h ha]; exact entry_changed_dead x _ W h ha
  · rw [eTurn_bad h]; exact entry_changed_bad x _ W h
def pinCode (x : Int) : Int := if wL x = true then 1 else if wP x = 7 then 7 else 0
def unpinCode (x : Int) : Int := if wP x = 0 then 8 else 0
theorem w_bds (x : Int) : 0 ≤ wO x ∧ wO x < 1048576 ∧ 0 ≤ wG x ∧ wG x < 1048576 ∧ 0 ≤ wP x ∧ wP x < 16 ∧ 0 ≤ wU x ∧ wU x < 16 := by
  unfold wO wG wP wU; omega
def ePin (x : Int) : Int × Int := eTurn x (pinCode x) (wO x) (wG x) (if pinCode x = 0 then wP x + 1 else wP x) (wU x) (wL x) true
def eUnpin (x : Int) : Int × Int := eTurn x (unpinCode x) (wO x) (wG x) (if unpinCode x = 0 then wP x - 1 else wP x) (wU x) (wL x) true
/-- a change that looks at one variable more. -/
theorem entry_changed_cap (x : Int) (f : FuncId) (c : Nat) (cv : Value) (W : World) (hcv : W.cell? ⟨c, 0, none⟩ = some cv) (code o g p u : Int) (l a : Bool)
    (HF : ∀ args w, (callFunc f args).run Tryz.prog w = .ok (.enter f args) w)
    (H : eMay (wO x) (wG x) (wP x) (wU x) (wL x) true = true → ∀ V, c < V.heap.size → V.cell? ⟨c, 0, none⟩ = some cv → Calls Tryz.prog f (#[.pointer (some ⟨V.heap.size, 0, none⟩), .pointer (some ⟨c, 0, none⟩)]) (V.alloc (.cells (eCells (wO x) (wG x) (wP x) (wU x) (wL x) true) 102)) fun e w' => e = .returned (.int .i64 code) ∧ w'.heap[V.heap.size]? = some (.cells (eCells o g p u l a) 102 (0, 0)) ∧ Below V.heap.size V w') :
    Calls Tryz.prog 89 #[.int .i64 x, .func (.func f) #[] #[.pointer (some ⟨c, 0, none⟩)]] W fun e w' => e = .returned (.tuple #[.int .i64 (eTurn x code o g p u l a).1, .int .i64 (eTurn x code o g p u l a).2]) ∧ Below W.heap.size W w' := by
  have hlt := World.block_lt_of_cell? W _ hcv
  rcases bool_cases (b := eIs x) with h | h
  · rcases bool_cases (b := wA x) with ha | ha
    · rw [eTurn_live h ha]
      have hm := (eIs_of h).2
      rw [ha] at hm
      exact entry_changed_live x f _ W h ha code o g p u l a (fun w' => Below W.heap.size W w') HF
        (fun _ _ hV hb => hV.trans (hb.mono hV.size))
        (fun V hs hb => (H hm V (Nat.lt_of_lt_of_le hlt hs) ((hb.cell hlt).trans hcv)).mono fun _ _ ⟨h1, h2, h3⟩ => ⟨h1, h2, hb.trans (h3.mono hs)⟩)
    · rw [eTurn_dead h ha]; exact entry_changed_dead x _ W h ha
  · rw [eTurn_bad h]; exact entry_changed_bad x _ W h
def guardCode (b : Int) : Int := if b < -15 ∨ 15 < b then 1 else 0
def eLock (x : Int) (y : Bool) : Int × Int := eTurn x 0 (wO x) (wG x) (wP x) (wU x) y true
def eMove (x : Int) (y : Int) : Int × Int := eTurn x 0 y (wG x) (wP x) (wU x) false true
def eGuard (x : Int) (y : Int) : Int × Int := eTurn x (guardCode y) (wO x) (wG x) (wP x) (if guardCode y = 0 then wU x + y else wU x) (wL x) true
end Go.Proofs.YtpebepjfgnoaaaaGreat
namespace Go.Proofs.YtpebepjfgnoaaaaGreat
set_option linter.unusedVariables false
set_option linter.unusedSimpArgs false
open Go.RowKit
def nextCode (x : Int) : Int := if 0 < wP x + wU x ∨ wL x = true then 1 else 0
def nextMore (x : Int) : Bool := if nextCode x = 0 then decide (wG x < 1000) else false
def nextCells (x : Int) : Array Value := if nextCode x = 0 then eCells 0 (wG x + bI (decide (wG x < 1000))) 0 0 false false else eCells (wO x) (wG x) (wP x) (wU x) (wL x) true
theorem i64any' (n : Int) (h : -9223372036854775808 ≤ n) (h' : n ≤ 9223372036854775807) : IntKind.i64.wrap n = n := by rw [IntKind.wrap_i64]; omega
set_option maxHeartbeats 2000000 in
set_option maxRecDepth 100000 in
theorem next_do (x : Int) (c : Nat) (V : World) (hv : V.heap[c]? = some (.cells #[.bool false] 4 (0, 0))) : Calls Tryz.prog 90 #[.pointer (some ⟨V.heap.size, 0, none⟩), .pointer (some ⟨c, 0, none⟩)] (V.alloc (.cells (eCells (wO x) (wG x) (wP x) (wU x) (wL x) true) 102)) fun e w' =>
    e = .returned (.int .i64 (nextCode x)) ∧ w'.heap[V.heap.size]? = some (.cells (nextCells x) 102 (0, 0)) ∧ w'.heap[c]? = some (.cells #[.bool (nextMore x)] 4 (0, 0)) ∧ Below c V w' := by
  have hc := blk_lt hv
  have hn := blk_new V (.cells (eCells (wO x) (wG x) (wP x) (wU x) (wL x) true) 102 (0, 0))
  have hv1 := blk_alloc hv (.cells (eCells (wO x) (wG x) (wP x) (wU x) (wL x) true) 102 (0, 0))
  obtain ⟨-, -, g0, g1, p0, p1, u0, u1⟩ := w_bds x
  by_cases k : 0 < wP x + wU x ∨ wL x = true
  · have e1 := Lib.hid (show nextCode x = 1 by unfold nextCode; rw [if_pos k])
    have e2 : nextMore x = false := by unfold nextMore; rw [e1.out, if_neg (by decide)]
    have e3 : nextCells x = eCells (wO x) (wG x) (wP x) (wU x) (wL x) true := by unfold nextCells; rw [e1.out, if_neg (by decide)]
    rw [e1.out, e2, e3]
    have Hv := Lib.hid hv1
    have Hn := Lib.hid hn
    have hB := Lib.hid (show Below c V (V.alloc (.cells (eCells (wO x) (wG x) (wP x) (wU x) (wL x) true) 102)) from (Below.refl c V).alloc (Nat.le_of_lt hc) _)
    by_cases k1 : 0 < wP x + wU x
    · unfold eCells
      clear hn hv1 hv e2 e3 k
      go_enter Tryz.func90, Tryz.ntmps90
      go_wp2_with fail
      go_quiet (fail)
      go_wp2_with fail
      go_ret
      exact ⟨rfl, blk_drewN Hn.out nq, Hv.out, below_drewN hB.out nq⟩
    · have k2 : wL x = true := k.resolve_left k1
      have k3 : wP x + wU x ≤ 0 := by omega
      have k4 : decide (0 < wP x + wU x) = false := decide_eq_false (by omega)
      rw [k2] at Hn Hv hB ⊢
      unfold eCells
      clear hn hv1 hv e2 e3 k k1 k2
      go_enter Tryz.func90, Tryz.ntmps90
      go_wp2_with fail
      go_quiet (fail)
      go_wp2_with fail
      go_ret
      exact ⟨rfl, blk_drewN Hn.out nq, Hv.out, below_drewN hB.out nq⟩
  · have e1 := Lib.hid (show nextCode x = 0 by unfold nextCode; rw [if_neg k])
    have e2 : nextMore x = decide (wG x < 1000) := by unfold nextMore; rw [e1.out, if_pos rfl]
    have e3 : nextCells x = eCells 0 (wG x + bI (decide (wG x < 1000))) 0 0 false false := by unfold nextCells; rw [e1.out, if_pos rfl]
    rw [e1.out, e2, e3]
    have k2 : wL x = false := by cases h : wL x <;> simp_all
    have k3 : wP x + wU x ≤ 0 := by omega
    have k4 : decide (0 < wP x + wU x) = false := decide_eq_false (by omega)
    rw [k2] at hn hv1 ⊢
    have c1 : (V.alloc (.cells (eCells (wO x) (wG x) (wP x) (wU x) false true) 102 (0, 0))).cell? ⟨c, 0, none⟩ = some (.bool false) := by rw [blk_cell hv1]; rfl
    have fz := blk_free hv1 0
    have hB := Lib.hid ((Below.refl c V).alloc (Nat.le_of_lt hc) (.cells (eCells (wO x) (wG x) (wP x) (wU x) false true) 102 (0, 0)))
    have bb := bI_bd (decide (wG x < 1000))
    obtain ⟨bb0, bb1⟩ := bb
    unfold eCells at c1 fz hv1 hB ⊢
    have Hv := Lib.hid hv1
    have Hn := Lib.hid hn
    unfold eCells at Hn
    clear hn hv1 hv e2 e3 k k2
    go_enter Tryz.func90, Tryz.ntmps90
    go_wp2_with fail
    go_quiet (fail)
    go_wp2_with fail
    have n5 := blk_set_ne (a := ⟨c, 0, none⟩) (blk_drewN Hn.out nq) (by simp; omega) (.bool (decide (wG x < 1000)))
    have m5 := blk_set (blk_drewN Hv.out nq) 0 (.bool (decide (wG x < 1000)))
    have hB5 := Lib.hid ((below_drewN hB.out nq).setCell (p := ⟨c, 0, none⟩) (Nat.le_refl c) (.bool (decide (wG x < 1000))))
    generalize (World.setCell (World.drewN (World.alloc V _) nq) ⟨c, 0, none⟩ _) = w5 at n5 m5 hB5 ⊢
    have x0 : w5.cell? ⟨V.heap.size, 0, none⟩ = some (.int .i64 (wO x)) := by rw [blk_cell n5]; rfl
    have f0 := blk_free n5 0
    have x1 : w5.cell? ⟨V.heap.size, 1, none⟩ = some (.int .i64 (wG x)) := by rw [blk_cell n5]; rfl
    have f1 := blk_free n5 1
    have x2 : w5.cell? ⟨V.heap.size, 2, none⟩ = some (.int .i64 (wP x)) := by rw [blk_cell n5]; rfl
    have f2 := blk_free n5 2
    have x3 : w5.cell? ⟨V.heap.size, 3, none⟩ = some (.int .i64 (wU x)) := by rw [blk_cell n5]; rfl
    have f3 := blk_free n5 3
    have x4 : w5.cell? ⟨V.heap.size, 4, none⟩ = some (.bool false) := by rw [blk_cell n5]; rfl
    have f4 := blk_free n5 4
    have x5 : w5.cell? ⟨V.heap.size, 5, none⟩ = some (.bool true) := by rw [blk_cell n5]; rfl
    have f5 := blk_free n5 5
    have d0 : w5.cell? ⟨c, 0, none⟩ = some (.bool (decide (wG x < 1000))) := by rw [blk_cell m5]; rfl
    have N5 := Lib.hid n5
    have M5 := Lib.hid m5
    clear c1 fz n5 m5 hB Hv Hn
    have hne : V.heap.size ≠ c := by omega
    have wa : IntKind.i64.wrap (wG x + bI (decide (wG x < 1000))) = wG x + bI (decide (wG x < 1000)) := i64any' _ (by omega) (by omega)
    go_still_tail 10, (by kernel_rfl)
    still_call ((entry_bit _ _).mono fun e w' h => ⟨h.1, h.2.symm⟩)
    repeat still_step
    refine wpStill_nil ?_
    go_wp2_with fail
    go_ret
    have hle : c ≤ V.heap.size := Nat.le_of_lt hc
    have hne' : c ≠ V.heap.size := Ne.symm hne
    have hB6 := hB5.out
    have M6 : w5.heap[c]? = some (.cells #[.bool (decide (wG x < 1000))] 4 (0, 0)) := M5.out
    exact ⟨rfl, blk_drew (blk6 N5.out _ _ _ _ _ _), blk_drew (blk6_ne M6 hne' _ _ _ _ _ _), (below6 hB6 hle _ _ _ _ _ _).drew⟩
theorem HF_next : ∀ args w, (callFunc 90 args).run Tryz.prog w = .ok (.enter 90 args) w := fun _ _ => by kernel_rfl
/-- what Next comes to: the word, whether there is a generation more, the error. -/
def eNext (x : Int) : Int × Int :=
  if nextCode x = 0 then eTurn x 0 0 (wG x + bI (decide (wG x < 1000))) 0 0 false false else eTurn x (nextCode x) (wO x) (wG x) (wP x) (wU x) (wL x) true
def eNextMore (x : Int) : Bool := if eIs x = true then (if wA x = true then nextMore x else false) else false
theorem entry_changed_next (x : Int) (W : World) : Calls Tryz.prog 89 #[.int .i64 x, .func (.func 90) #[] #[.pointer (some ⟨W.heap.size, 0, none⟩)]] (W.alloc (.cells #[.bool false] 4 (0, 0))) fun e w' =>
    e = .returned (.tuple #[.int .i64 (eNext x).1, .int .i64 (eNext x).2]) ∧ w'.heap[W.heap.size]? = some (.cells #[.bool (eNextMore x)] 4 (0, 0)) ∧ Below W.heap.size W w' := by
  have hW := blk_new W (.cells #[.bool false] 4 (0, 0))
  rcases bool_cases (b := eIs x) with h | h
  · rcases bool_cases (b := wA x) with ha | ha
    · have hm : eNextMore x = nextMore x := by unfold eNextMore; rw [if_pos h, if_pos ha]
      rw [hm]
      have key : ∀ (code o g p u : Int) (l a : Bool), nextCode x = code → nextCells x = eCells o g p u l a → Calls Tryz.prog 89 #[.int .i64 x, .func (.func 90) #[] #[.pointer (some ⟨W.heap.size, 0, none⟩)]] (W.alloc (.cells #[.bool false] 4 (0, 0))) fun e w' =>
          e = .returned (.tuple #[.int .i64 (eChg code o g p u l a).1, .int .i64 (eChg code o g p u l a).2]) ∧ w'.heap[W.heap.size]? = some (.cells #[.bool (nextMore x)] 4 (0, 0)) ∧ Below W.heap.size W w' := by
        intro code o g p u l a hco hce
        refine entry_changed_live x 90 _ _ h ha code o g p u l a (fun w' => w'.heap[W.heap.size]? = some (.cells #[.bool (nextMore x)] 4 (0, 0)) ∧ Below W.heap.size W w') HF_next ?_ ?_
        · intro V V' hV hb
          exact ⟨blk_below hV.1 hb (blk_lt hV.1), hV.2.trans (hb.mono (Nat.le_of_lt (blk_lt hV.1)))⟩
        · intro V hs hb
          have hv := blk_below hW hb (by simp)
          refine (next_do x W.heap.size V hv).mono ?_
          rintro e w' ⟨h1, h2, h3, h4⟩
          rw [hco] at h1
          rw [hce] at h2
          have hb0 : Below W.heap.size W V := ((Below.refl W.heap.size W).alloc (Nat.le_refl _) _).trans (hb.mono (by simp))
          exact ⟨h1, h2, h3, hb0.trans h4⟩
      by_cases c : nextCode x = 0
      · have e1 : eNext x = eChg 0 0 (wG x + bI (decide (wG x < 1000))) 0 0 false false := by unfold eNext; rw [if_pos c, eTurn_live h ha]
        rw [e1]
        exact key 0 _ _ _ _ _ _ c (by unfold nextCells; rw [if_pos c])
      · have e1 : eNext x = eChg (nextCode x) (wO x) (wG x) (wP x) (wU x) (wL x) true := by unfold eNext; rw [if_neg c, eTurn_live h ha]
        rw [e1]
        exact key _ _ _ _ _ _ _ rfl (by unfold nextCells; rw [if_neg c])
    · have hm : eNextMore x = false := by unfold eNextMore; rw [if_pos h, if_neg (by rw [ha]; decide)]
      have e1 : eNext x = (0, 1) := by unfold eNext; split <;> rw [eTurn_dead h ha]
      rw [hm, e1]
      refine (entry_changed_dead x _ _ h ha).mono ?_
      rintro e w' ⟨he, hb⟩
      exact ⟨he, blk_below hW hb (by simp), ((Below.refl W.heap.size W).alloc (Nat.le_refl _) _).trans (hb.mono (by simp))⟩
  · have hm : eNextMore x = false := by unfold eNextMore; rw [if_neg (by rw [h]; decide)]
    have e1 : eNext x = (0, 2) := by unfold eNext; split <;> rw [eTurn_bad h]
    rw [hm, e1]
    refine (entry_changed_bad x _ _ h).mono ?_
    rintro e w' ⟨he, hb⟩
    exact ⟨he, blk_below hW hb (by simp), ((Below.refl W.heap.size W).alloc (Nat.le_refl _) _).trans (hb.mono (by simp))⟩
set_option maxHeartbeats 1000000 in
theorem entry_Next (x : Int) (W : World) : Calls Tryz.prog 52 #[.int .i64 x] W fun e w' => e = .returned (.tuple #[.int .i64 (eNext x).1, .bool (eNextMore x), .int .i64 (eNext x).2]) ∧ Below W.heap.size W w' := by
  have H := Lib.hid (entry_changed_next x W)
  go_enter Tryz.func52, Tryz.ntmps52
  go_wp2_with (go_at_call 89; refine H.out.mono ?_; rintro e w1 ⟨rfl, hm1, hb1⟩; have hz1 := hb1.size; have cm : w1.cell? ⟨W.heap.size, 0, none⟩ = some (.bool (eNextMore x)) := by rw [blk_cell hm1]; rfl)
  clear hm1
  go_quiet (fail)
  go_wp2_with fail
  go_ret3
  exact ⟨rfl, by (repeat' (first | (with_reducible exact Below.refl _ _) | (with_reducible assumption) | (with_reducible refine below_drewN ?_ _) | (with_reducible refine Below.drew ?_) | (with_reducible refine Below.alloc ?_ ?_ _) | (with_reducible refine Below.setCell ?_ ?_ _) | (with_reducible refine below_via (by assumption) ?_ ?_) | go_size))⟩
end Go.Proofs.YtpebepjfgnoaaaaGreat
namespace Go.Proofs.YtpebepjfgnoaaaaGreat
set_option linter.unusedVariables false
set_option linter.unusedSimpArgs false
open Go.RowKit
theorem wL_iff {w : Int} : wL w = true ↔ w / 281474976710656 % 2 = 1 := by simp [wL]
theorem wA_iff {w : Int} : wA w = true ↔ w / 562949953421312 % 2 = 1 := by simp [wA]
theorem bool_of {b c : Bool} (h : b = true ↔ c = true) : b = c := by cases b <;> cases c <;> simp_all
theorem word_in {o g p u : Int} {l a : Bool} (h : 0 ≤ o ∧ o ≤ 4096 ∧ 0 ≤ g ∧ g ≤ 1000 ∧ 0 ≤ p ∧ p ≤ 7 ∧ 0 ≤ u ∧ u ≤ 15) : 0 ≤ eWord o g p u l a ∧ eWord o g p u l a < 1125899906842624 := by
  have hl := bI_bd l
  have ha := bI_bd a
  unfold eWord; omega
theorem word_un {o g p u : Int} {l a : Bool} (h : 0 ≤ o ∧ o ≤ 4096 ∧ 0 ≤ g ∧ g ≤ 1000 ∧ 0 ≤ p ∧ p ≤ 7 ∧ 0 ≤ u ∧ u ≤ 15) :
    wO (eWord o g p u l a) = o ∧ wG (eWord o g p u l a) = g ∧ wP (eWord o g p u l a) = p ∧ wU (eWord o g p u l a) = u ∧ wL (eWord o g p u l a) = l ∧ wA (eWord o g p u l a) = a := by
  have hl := bI_bd l
  have ha := bI_bd a
  refine ⟨?_, ?_, ?_, ?_, ?_, ?_⟩
  · unfold wO eWord; omega
  · unfold wG eWord; omega
  · unfold wP eWord; omega
  · unfold wU eWord; omega
  · apply bool_of; rw [wL_iff]
    have e : eWord o g p u l a / 281474976710656 % 2 = bI l := by unfold eWord; omega
    rw [e]; cases l <;> simp [bI]
  · apply bool_of; rw [wA_iff]
    have e : eWord o g p u l a / 562949953421312 % 2 = bI a := by unfold eWord; omega
    rw [e]; cases a <;> simp [bI]
/-- a word that is packed is that entry's. -/
theorem un_pack {o g p u : Int} {l a : Bool} (h : eMay o g p u l a = true) : eIs (eWord o g p u l a) = true ∧ wO (eWord o g p u l a) = o ∧ wG (eWord o g p u l a) = g ∧ wP (eWord o g p u l a) = p ∧ wU (eWord o g p u l a) = u ∧ wL (eWord o g p u l a) = l ∧ wA (eWord o g p u l a) = a := by
  obtain ⟨h1, h2, h3, h4, h5, h6, h7, h8, -, -⟩ := eMay_of h
  have hh : 0 ≤ o ∧ o ≤ 4096 ∧ 0 ≤ g ∧ g ≤ 1000 ∧ 0 ≤ p ∧ p ≤ 7 ∧ 0 ≤ u ∧ u ≤ 15 := ⟨h1, h2, h3, h4, h5, h6, h7, h8⟩
  obtain ⟨a1, a2, a3, a4, a5, a6⟩ := word_un (l := l) (a := a) hh
  refine ⟨?_, a1, a2, a3, a4, a5, a6⟩
  unfold eIs
  rw [a1, a2, a3, a4, a5, a6, h]
  simp [word_in (l := l) (a := a) hh]
/-- an entry's word is packed as it was. -/
theorem pack_un {w : Int} (h : eIs w = true) : eWord (wO w) (wG w) (wP w) (wU w) (wL w) (wA w) = w := by
  obtain ⟨⟨h0, h1⟩, -⟩ := eIs_of h
  have e1 : bI (wL w) = w / 281474976710656 % 2 := by
    have := @wL_iff w
    cases hl : wL w
    · rw [hl] at this; simp [bI]; simp at this; omega
    · rw [hl] at this; simp [bI]; simp at this; omega
  have e2 : bI (wA w) = w / 562949953421312 % 2 := by
    have := @wA_iff w
    cases hl : wA w
    · rw [hl] at this; simp [bI]; simp at this; omega
    · rw [hl] at this; simp [bI]; simp at this; omega
  unfold eWord
  rw [e1, e2]
  unfold wO wG wP wU
  omega
theorem pack_ok {w : Int} (h : eIs w = true) : ePack (wO w) (wG w) (wP w) (wU w) (wL w) (wA w) = (w, 0) := by
  unfold ePack; rw [if_pos (eIs_of h).2, pack_un h]
theorem ePack_zero {o g p u : Int} {l a : Bool} (h : (ePack o g p u l a).2 ≠ 0) : (ePack o g p u l a).1 = 0 := by
  unfold ePack at h ⊢; split
  · rename_i h1; rw [if_pos h1] at h; exact absurd rfl h
  · rfl
theorem eTurn_zero {x code o g p u : Int} {l a : Bool} (h : (eTurn x code o g p u l a).2 ≠ 0) : (eTurn x code o g p u l a).1 = 0 := by
  unfold eTurn eChg at h ⊢
  split
  · rename_i h1
    rw [if_pos h1] at h
    split
    · rename_i h2
      rw [if_pos h2] at h
      split
      · rename_i h3; rw [if_pos h3] at h; exact ePack_zero h
      · rfl
    · rfl
  · rfl
/-- what a turn that is told OK says. -/
theorem eTurn_ok {x code o g p u : Int} {l a : Bool} (h : (eTurn x code o g p u l a).2 = 0) : eIs x = true ∧ wA x = true ∧ code = 0 ∧ eMay o g p u l a = true ∧ eTurn x code o g p u l a = (eWord o g p u l a, 0) := by
  unfold eTurn eChg ePack at h ⊢
  split at h
  · rename_i h1
    split at h
    · rename_i h2
      split at h
      · rename_i h3
        split at h
        · rename_i h4
          exact ⟨h1, h2, h3, h4, by rw [if_pos h1, if_pos h2, if_pos h3, if_pos h4]⟩
        · exact absurd h (by decide)
      · rename_i h3; exact absurd h h3
    · exact absurd h (by decide)
  · exact absurd h (by decide)
theorem pins_all {x : Int} (h : (ePin x).2 = 0) : ∃ v, ePin x = (v, 0) ∧ eUnpin v = (x, 0) ∧ eLock v true = (0, 1) ∧ eNext v = (0, 1) := by
  obtain ⟨h1, h2, h3, h4, h5⟩ := eTurn_ok h
  have hc : (if pinCode x = 0 then wP x + 1 else wP x) = wP x + 1 := by rw [if_pos h3]
  rw [hc] at h4 h5
  have hl : wL x = false := by
    unfold pinCode at h3
    cases hl : wL x
    · rfl
    · rw [hl] at h3; simp at h3
  obtain ⟨u1, u2, u3, u4, u5, u6, u7⟩ := un_pack h4
  have pb := eMay_of h4
  have wb := w_bds x
  refine ⟨_, by unfold ePin; rw [hc]; exact h5, ?_, ?_, ?_⟩
  · have hu : unpinCode (eWord (wO x) (wG x) (wP x + 1) (wU x) (wL x) true) = 0 := by unfold unpinCode; rw [u4, if_neg (by omega)]
    unfold eUnpin eTurn eChg
    rw [if_pos u1, u7, if_pos rfl, hu, if_pos rfl, if_pos rfl, u2, u3, u4, u5, u6]
    have e : wP x + 1 - 1 = wP x := by omega
    rw [e]
    have := pack_ok h1
    rw [h2] at this
    exact this
  · unfold eLock eTurn eChg
    rw [if_pos u1, u7, if_pos rfl, if_pos rfl, u2, u3, u4, u5]
    unfold ePack
    rw [if_neg]
    intro hm
    have := (eMay_of hm).2.2.2.2.2.2.2.2.1 rfl
    omega
  · have hn : nextCode (eWord (wO x) (wG x) (wP x + 1) (wU x) (wL x) true) = 1 := by unfold nextCode; rw [u4, u5, if_pos (Or.inl (by omega))]
    unfold eNext
    rw [hn, if_neg (by decide)]
    unfold eTurn eChg
    rw [if_pos u1, u7, if_pos rfl, if_neg (by decide)]
theorem guards_all {x n : Int} (h : (eGuard x n).2 = 0) : ∃ v, eGuard x n = (v, 0) ∧ eGuard v (-n) = (x, 0) ∧ -15 ≤ n ∧ n ≤ 15 := by
  obtain ⟨h1, h2, h3, h4, h5⟩ := eTurn_ok h
  have hc : (if guardCode n = 0 then wU x + n else wU x) = wU x + n := by rw [if_pos h3]
  rw [hc] at h4 h5
  obtain ⟨u1, u2, u3, u4, u5, u6, u7⟩ := un_pack h4
  have hn : -15 ≤ n ∧ n ≤ 15 := by
    unfold guardCode at h3
    by_cases c : n < -15 ∨ 15 < n
    · rw [if_pos c] at h3; exact absurd h3 (by decide)
    · omega
  refine ⟨_, by unfold eGuard; rw [hc]; exact h5, ?_, hn.1, hn.2⟩
  have hg : guardCode (-n) = 0 := by unfold guardCode; rw [if_neg (by omega)]
  unfold eGuard eTurn eChg
  rw [if_pos u1, u7, if_pos rfl, hg, if_pos rfl, if_pos rfl, u2, u3, u4, u5, u6]
  have e : wU x + n + -n = wU x := by omega
  rw [e]
  have := pack_ok h1
  rw [h2] at this
  exact this
/-- is it the entry's word of that generation, that is live? -/
def fresh (x ge : Int) : Bool := decide (eOk x = 0) && (uA x && decide (uG x = ge))
theorem fresh_word {o g p u ge : Int} {a : Bool} (h : eMay o g p u false a = true) : fresh (eWord o g p u false a) ge = (a && decide (g = ge)) := by
  obtain ⟨i, x1, x2, x3, x4, x5, x6⟩ := un_pack h
  obtain ⟨u1, u2, u3, u4, u5, u6, u7⟩ := u_yes i
  unfold fresh; rw [u7, u6, u2, x2, x6]; simp
theorem lock_word {o g p u : Int} {a : Bool} (h : eMay o g p u false a = true) : uL (eWord o g p u false a) = false := by
  obtain ⟨i, x1, x2, x3, x4, x5, x6⟩ := un_pack h
  obtain ⟨u1, u2, u3, u4, u5, u6, u7⟩ := u_yes i
  rw [u5, x5]
end Go.Proofs.YtpebepjfgnoaaaaGreat
