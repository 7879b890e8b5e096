/- entry.Next. -/
import Derived.StillTailTactics
import Derived.Test.YtdmeopiggkbpjaaEnF
namespace Go.Proofs.Ytdmeopiggkbpjaa
set_option linter.unusedVariables false
set_option linter.unusedSimpArgs false
open Go.RowKit
def nextCode (x : Int) : Int := if 0 < wP x + wU x ∨ wL x = true then 1 else 0
def nextMore (x : Int) : Bool := if nextCode x = 0 then decide (wG x < 1000) else false
def nextCells (x : Int) : Array Value := if nextCode x = 0 then eCells 0 (wG x + bI (decide (wG x < 1000))) 0 0 false false else eCells (wO x) (wG x) (wP x) (wU x) (wL x) true
theorem i64any' (n : Int) (h : -9223372036854775808 ≤ n) (h' : n ≤ 9223372036854775807) : IntKind.i64.wrap n = n := by rw [IntKind.wrap_i64]; omega
set_option maxHeartbeats 2000000 in
theorem next_do (x : Int) (c : Nat) (V : World) (hv : V.heap[c]? = some (.cells #[.bool false] 4 (0, 0))) : Calls Try.prog 60 #[.pointer (some ⟨V.heap.size, 0, none⟩), .pointer (some ⟨c, 0, none⟩)] (V.alloc (.cells (eCells (wO x) (wG x) (wP x) (wU x) (wL x) true) 38)) fun e w' =>
    e = .returned (.int .i64 (nextCode x)) ∧ w'.heap[V.heap.size]? = some (.cells (nextCells x) 38 (0, 0)) ∧ w'.heap[c]? = some (.cells #[.bool (nextMore x)] 4 (0, 0)) ∧ Below c V w' := by
  have hc := blk_lt hv
  have hn := blk_new V (.cells (eCells (wO x) (wG x) (wP x) (wU x) (wL x) true) 38 (0, 0))
  have hv1 := blk_alloc hv (.cells (eCells (wO x) (wG x) (wP x) (wU x) (wL x) true) 38 (0, 0))
  obtain ⟨-, -, g0, g1, p0, p1, u0, u1⟩ := w_bds x
  by_cases k : 0 < wP x + wU x ∨ wL x = true
  · have e1 := Lib.hid (show nextCode x = 1 by unfold nextCode; rw [if_pos k])
    have e2 : nextMore x = false := by unfold nextMore; rw [e1.out, if_neg (by decide)]
    have e3 : nextCells x = eCells (wO x) (wG x) (wP x) (wU x) (wL x) true := by unfold nextCells; rw [e1.out, if_neg (by decide)]
    rw [e1.out, e2, e3]
    have Hv := Lib.hid hv1
    have Hn := Lib.hid hn
    have hB := Lib.hid (show Below c V (V.alloc (.cells (eCells (wO x) (wG x) (wP x) (wU x) (wL x) true) 38)) from (Below.refl c V).alloc (Nat.le_of_lt hc) _)
    by_cases k1 : 0 < wP x + wU x
    · unfold eCells
      clear hn hv1 hv e2 e3 k
      go_enter Try.func60, Try.ntmps60
      go_wp2_with fail
      go_quiet (fail)
      go_wp2_with fail
      go_ret
      exact ⟨rfl, blk_drewN Hn.out nq, Hv.out, below_drewN hB.out nq⟩
    · have k2 : wL x = true := k.resolve_left k1
      have k3 : wP x + wU x ≤ 0 := by omega
      have k4 : decide (0 < wP x + wU x) = false := decide_eq_false (by omega)
      rw [k2] at Hn Hv hB ⊢
      unfold eCells
      clear hn hv1 hv e2 e3 k k1 k2
      go_enter Try.func60, Try.ntmps60
      go_wp2_with fail
      go_quiet (fail)
      go_wp2_with fail
      go_ret
      exact ⟨rfl, blk_drewN Hn.out nq, Hv.out, below_drewN hB.out nq⟩
  · have e1 := Lib.hid (show nextCode x = 0 by unfold nextCode; rw [if_neg k])
    have e2 : nextMore x = decide (wG x < 1000) := by unfold nextMore; rw [e1.out, if_pos rfl]
    have e3 : nextCells x = eCells 0 (wG x + bI (decide (wG x < 1000))) 0 0 false false := by unfold nextCells; rw [e1.out, if_pos rfl]
    rw [e1.out, e2, e3]
    have k2 : wL x = false := by cases h : wL x <;> simp_all
    have k3 : wP x + wU x ≤ 0 := by omega
    have k4 : decide (0 < wP x + wU x) = false := decide_eq_false (by omega)
    rw [k2] at hn hv1 ⊢
    have c1 : (V.alloc (.cells (eCells (wO x) (wG x) (wP x) (wU x) false true) 38 (0, 0))).cell? ⟨c, 0, none⟩ = some (.bool false) := by rw [blk_cell hv1]; rfl
    have fz := blk_free hv1 0
    have hB := Lib.hid ((Below.refl c V).alloc (Nat.le_of_lt hc) (.cells (eCells (wO x) (wG x) (wP x) (wU x) false true) 38 (0, 0)))
    have bb := bI_bd (decide (wG x < 1000))
    obtain ⟨bb0, bb1⟩ := bb
    unfold eCells at c1 fz hv1 hB ⊢
    have Hv := Lib.hid hv1
    have Hn := Lib.hid hn
    unfold eCells at Hn
    clear hn hv1 hv e2 e3 k k2
    go_enter Try.func60, Try.ntmps60
    go_wp2_with fail
    go_quiet (fail)
    go_wp2_with fail
    have n5 := blk_set_ne (a := ⟨c, 0, none⟩) (blk_drewN Hn.out nq) (by simp; omega) (.bool (decide (wG x < 1000)))
    have m5 := blk_set (blk_drewN Hv.out nq) 0 (.bool (decide (wG x < 1000)))
    have hB5 := Lib.hid ((below_drewN hB.out nq).setCell (p := ⟨c, 0, none⟩) (Nat.le_refl c) (.bool (decide (wG x < 1000))))
    generalize (World.setCell (World.drewN (World.alloc V _) nq) ⟨c, 0, none⟩ _) = w5 at n5 m5 hB5 ⊢
    have x0 : w5.cell? ⟨V.heap.size, 0, none⟩ = some (.int .i64 (wO x)) := by rw [blk_cell n5]; rfl
    have f0 := blk_free n5 0
    have x1 : w5.cell? ⟨V.heap.size, 1, none⟩ = some (.int .i64 (wG x)) := by rw [blk_cell n5]; rfl
    have f1 := blk_free n5 1
    have x2 : w5.cell? ⟨V.heap.size, 2, none⟩ = some (.int .i64 (wP x)) := by rw [blk_cell n5]; rfl
    have f2 := blk_free n5 2
    have x3 : w5.cell? ⟨V.heap.size, 3, none⟩ = some (.int .i64 (wU x)) := by rw [blk_cell n5]; rfl
    have f3 := blk_free n5 3
    have x4 : w5.cell? ⟨V.heap.size, 4, none⟩ = some (.bool false) := by rw [blk_cell n5]; rfl
    have f4 := blk_free n5 4
    have x5 : w5.cell? ⟨V.heap.size, 5, none⟩ = some (.bool true) := by rw [blk_cell n5]; rfl
    have f5 := blk_free n5 5
    have d0 : w5.cell? ⟨c, 0, none⟩ = some (.bool (decide (wG x < 1000))) := by rw [blk_cell m5]; rfl
    have N5 := Lib.hid n5
    have M5 := Lib.hid m5
    clear c1 fz n5 m5 hB Hv Hn
    have hne : V.heap.size ≠ c := by omega
    have wa : IntKind.i64.wrap (wG x + bI (decide (wG x < 1000))) = wG x + bI (decide (wG x < 1000)) := i64any' _ (by omega) (by omega)
    go_still_tail 10, (by kernel_rfl)
    still_call ((entry_bit _ _).mono fun e w' h => ⟨h.1, h.2.symm⟩)
    repeat still_step
    refine wpStill_nil ?_
    go_wp2_with fail
    go_ret
    have hle : c ≤ V.heap.size := Nat.le_of_lt hc
    have hne' : c ≠ V.heap.size := Ne.symm hne
    have hB6 := hB5.out
    have M6 : w5.heap[c]? = some (.cells #[.bool (decide (wG x < 1000))] 4 (0, 0)) := M5.out
    exact ⟨rfl, blk_drew (blk6 N5.out _ _ _ _ _ _), blk_drew (blk6_ne M6 hne' _ _ _ _ _ _), (below6 hB6 hle _ _ _ _ _ _).drew⟩
theorem HF_next : ∀ args w, (callFunc 60 args).run Try.prog w = .ok (.enter 60 args) w := fun _ _ => by kernel_rfl
/-- what Next comes to: the word, whether there is a generation more, the error. -/
def eNext (x : Int) : Int × Int :=
  if nextCode x = 0 then eTurn x 0 0 (wG x + bI (decide (wG x < 1000))) 0 0 false false else eTurn x (nextCode x) (wO x) (wG x) (wP x) (wU x) (wL x) true
def eNextMore (x : Int) : Bool := if eIs x = true then (if wA x = true then nextMore x else false) else false
theorem entry_changed_next (x : Int) (W : World) : Calls Try.prog 56 #[.int .i64 x, .func (.func 60) #[] #[.pointer (some ⟨W.heap.size, 0, none⟩)]] (W.alloc (.cells #[.bool false] 4 (0, 0))) fun e w' =>
    e = .returned (.tuple #[.int .i64 (eNext x).1, .int .i64 (eNext x).2]) ∧ w'.heap[W.heap.size]? = some (.cells #[.bool (eNextMore x)] 4 (0, 0)) ∧ Below W.heap.size W w' := by
  have hW := blk_new W (.cells #[.bool false] 4 (0, 0))
  rcases bool_cases (b := eIs x) with h | h
  · rcases bool_cases (b := wA x) with ha | ha
    · have hm : eNextMore x = nextMore x := by unfold eNextMore; rw [if_pos h, if_pos ha]
      rw [hm]
      have key : ∀ (code o g p u : Int) (l a : Bool), nextCode x = code → nextCells x = eCells o g p u l a → Calls Try.prog 56 #[.int .i64 x, .func (.func 60) #[] #[.pointer (some ⟨W.heap.size, 0, none⟩)]] (W.alloc (.cells #[.bool false] 4 (0, 0))) fun e w' =>
          e = .returned (.tuple #[.int .i64 (eChg code o g p u l a).1, .int .i64 (eChg code o g p u l a).2]) ∧ w'.heap[W.heap.size]? = some (.cells #[.bool (nextMore x)] 4 (0, 0)) ∧ Below W.heap.size W w' := by
        intro code o g p u l a hco hce
        refine entry_changed_live x 60 _ _ h ha code o g p u l a (fun w' => w'.heap[W.heap.size]? = some (.cells #[.bool (nextMore x)] 4 (0, 0)) ∧ Below W.heap.size W w') HF_next ?_ ?_
        · intro V V' hV hb
          exact ⟨blk_below hV.1 hb (blk_lt hV.1), hV.2.trans (hb.mono (Nat.le_of_lt (blk_lt hV.1)))⟩
        · intro V hs hb
          have hv := blk_below hW hb (by simp)
          refine (next_do x W.heap.size V hv).mono ?_
          rintro e w' ⟨h1, h2, h3, h4⟩
          rw [hco] at h1
          rw [hce] at h2
          have hb0 : Below W.heap.size W V := ((Below.refl W.heap.size W).alloc (Nat.le_refl _) _).trans (hb.mono (by simp))
          exact ⟨h1, h2, h3, hb0.trans h4⟩
      by_cases c : nextCode x = 0
      · have e1 : eNext x = eChg 0 0 (wG x + bI (decide (wG x < 1000))) 0 0 false false := by unfold eNext; rw [if_pos c, eTurn_live h ha]
        rw [e1]
        exact key 0 _ _ _ _ _ _ c (by unfold nextCells; rw [if_pos c])
      · have e1 : eNext x = eChg (nextCode x) (wO x) (wG x) (wP x) (wU x) (wL x) true := by unfold eNext; rw [if_neg c, eTurn_live h ha]
        rw [e1]
        exact key _ _ _ _ _ _ _ rfl (by unfold nextCells; rw [if_neg c])
    · have hm : eNextMore x = false := by unfold eNextMore; rw [if_pos h, if_neg (by rw [ha]; decide)]
      have e1 : eNext x = (0, 1) := by unfold eNext; split <;> rw [eTurn_dead h ha]
      rw [hm, e1]
      refine (entry_changed_dead x _ _ h ha).mono ?_
      rintro e w' ⟨he, hb⟩
      exact ⟨he, blk_below hW hb (by simp), ((Below.refl W.heap.size W).alloc (Nat.le_refl _) _).trans (hb.mono (by simp))⟩
  · have hm : eNextMore x = false := by unfold eNextMore; rw [if_neg (by rw [h]; decide)]
    have e1 : eNext x = (0, 2) := by unfold eNext; split <;> rw [eTurn_bad h]
    rw [hm, e1]
    refine (entry_changed_bad x _ _ h).mono ?_
    rintro e w' ⟨he, hb⟩
    exact ⟨he, blk_below hW hb (by simp), ((Below.refl W.heap.size W).alloc (Nat.le_refl _) _).trans (hb.mono (by simp))⟩
set_option maxHeartbeats 1000000 in
theorem entry_Next (x : Int) (W : World) : Calls Try.prog 38 #[.int .i64 x] W fun e w' => e = .returned (.tuple #[.int .i64 (eNext x).1, .bool (eNextMore x), .int .i64 (eNext x).2]) ∧ Below W.heap.size W w' := by
  have H := Lib.hid (entry_changed_next x W)
  go_enter Try.func38, Try.ntmps38
  go_wp2_with (go_at_call 56; refine H.out.mono ?_; rintro e w1 ⟨rfl, hm1, hb1⟩; have hz1 := hb1.size; have cm : w1.cell? ⟨W.heap.size, 0, none⟩ = some (.bool (eNextMore x)) := by rw [blk_cell hm1]; rfl)
  clear hm1
  go_quiet (fail)
  go_wp2_with fail
  go_ret3
  exact ⟨rfl, by (repeat' (first | (with_reducible exact Below.refl _ _) | (with_reducible assumption) | (with_reducible refine below_drewN ?_ _) | (with_reducible refine Below.drew ?_) | (with_reducible refine Below.alloc ?_ ?_ _) | (with_reducible refine Below.setCell ?_ ?_ _) | (with_reducible refine below_via (by assumption) ?_ ?_) | go_size))⟩
end Go.Proofs.Ytdmeopiggkbpjaa
