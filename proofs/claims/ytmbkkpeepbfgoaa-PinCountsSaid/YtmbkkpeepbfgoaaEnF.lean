/- entry's changes. -/
import Derived.Test.YtmbkkpeepbfgoaaEnC
namespace Go.Proofs.Ytmbkkpeepbfgoaa
set_option linter.unusedVariables false
set_option linter.unusedSimpArgs false
open Go.RowKit
/-- what a change of a word comes to. -/
def eTurn (x code o g p u : Int) (l a : Bool) : Int × Int := if eIs x = true then (if wA x = true then eChg code o g p u l a else (0, 1)) else (0, 2)
theorem eTurn_live {x code o g p u : Int} {l a : Bool} (h : eIs x = true) (ha : wA x = true) : eTurn x code o g p u l a = eChg code o g p u l a := by unfold eTurn; rw [if_pos h, if_pos ha]
theorem eTurn_dead {x code o g p u : Int} {l a : Bool} (h : eIs x = true) (ha : wA x = false) : eTurn x code o g p u l a = (0, 1) := by unfold eTurn; rw [if_pos h, if_neg (by rw [ha]; decide)]
theorem eTurn_bad {x code o g p u : Int} {l a : Bool} (h : eIs x = false) : eTurn x code o g p u l a = (0, 2) := by unfold eTurn; rw [if_neg (by rw [h]; decide)]
theorem eIs_of {x : Int} (h : eIs x = true) : (0 ≤ x ∧ x < 1125899906842624) ∧ eMay (wO x) (wG x) (wP x) (wU x) (wL x) (wA x) = true := by simpa [eIs] using h
theorem entry_changed_all (x : Int) (f : FuncId) (W : World) (code o g p u : Int) (l a : Bool)
    (HF : ∀ args w, (callFunc f args).run Try.prog w = .ok (.enter f args) w)
    (H : eMay (wO x) (wG x) (wP x) (wU x) (wL x) true = true → ∀ V, Calls Try.prog f (#[.pointer (some ⟨V.heap.size, 0, none⟩)]) (V.alloc (.cells (eCells (wO x) (wG x) (wP x) (wU x) (wL x) true) 91)) fun e w' => e = .returned (.int .i64 code) ∧ w'.heap[V.heap.size]? = some (.cells (eCells o g p u l a) 91 (0, 0)) ∧ Below V.heap.size V w') :
    Calls Try.prog 72 #[.int .i64 x, .func (.func f) #[] #[]] W fun e w' => e = .returned (.tuple #[.int .i64 (eTurn x code o g p u l a).1, .int .i64 (eTurn x code o g p u l a).2]) ∧ Below W.heap.size W w' := by
  rcases bool_cases (b := eIs x) with h | h
  · rcases bool_cases (b := wA x) with ha | ha
    · rw [eTurn_live h ha]
      have hm := (eIs_of h).2
      rw [ha] at hm
      exact entry_changed_own x f #[] W h ha code o g p u l a HF (fun V _ => H hm V)
    · rw [eTurn_dead h ha]; exact entry_changed_dead x _ W h ha
  · rw [eTurn_bad h]; exact entry_changed_bad x _ W h
def pinCode (x : Int) : Int := if wL x = true then 1 else if wP x = 7 then 7 else 0
def unpinCode (x : Int) : Int := if wP x = 0 then 8 else 0
theorem w_bds (x : Int) : 0 ≤ wO x ∧ wO x < 1048576 ∧ 0 ≤ wG x ∧ wG x < 1048576 ∧ 0 ≤ wP x ∧ wP x < 16 ∧ 0 ≤ wU x ∧ wU x < 16 := by
  unfold wO wG wP wU; omega
set_option maxHeartbeats 1000000 in
theorem pin_do (x : Int) (V : World) : Calls Try.prog 73 #[.pointer (some ⟨V.heap.size, 0, none⟩)] (V.alloc (.cells (eCells (wO x) (wG x) (wP x) (wU x) (wL x) true) 91)) fun e w' =>
    e = .returned (.int .i64 (pinCode x)) ∧ w'.heap[V.heap.size]? = some (.cells (eCells (wO x) (wG x) (if pinCode x = 0 then wP x + 1 else wP x) (wU x) (wL x) true) 91 (0, 0)) ∧ Below V.heap.size V w' := by
  have hn := blk_new V (.cells (eCells (wO x) (wG x) (wP x) (wU x) (wL x) true) 91 (0, 0))
  obtain ⟨-, -, -, -, p0, p1, -, -⟩ := w_bds x
  have f2 := blk_free hn 2
  rcases bool_cases (b := wL x) with hl | hl
  · have c := Lib.hid (show pinCode x = 1 by unfold pinCode; rw [if_pos hl])
    have hL := Lib.hid hl
    rw [hl, c.out, if_neg (by decide)]
    rw [hl] at hn
    have Hn := Lib.hid hn
    unfold eCells
    clear hl hn
    go_enter Try.func73, Try.ntmps73
    go_wp2_with fail
    go_ret
    exact ⟨rfl, Hn.out, by (repeat' (first | (with_reducible exact Below.refl _ _) | (with_reducible assumption) | (with_reducible refine below_drewN ?_ _) | (with_reducible refine Below.drew ?_) | (with_reducible refine Below.alloc ?_ ?_ _) | (with_reducible refine Below.setCell ?_ ?_ _) | (with_reducible refine below_via (by assumption) ?_ ?_) | go_size))⟩
  · by_cases hp : wP x = 7
    · have c := Lib.hid (show pinCode x = 7 by unfold pinCode; rw [if_neg (by rw [hl]; decide), if_pos hp])
      have b7 : (wP x == 7) = true := by rw [hp]; rfl
      rw [hl, c.out, if_neg (by decide)]
      rw [hl] at hn
      have Hn := Lib.hid hn
      unfold eCells
      clear hl hn hp
      go_enter Try.func73, Try.ntmps73
      go_wp2_with fail
      go_ret
      exact ⟨rfl, Hn.out, by (repeat' (first | (with_reducible exact Below.refl _ _) | (with_reducible assumption) | (with_reducible refine below_drewN ?_ _) | (with_reducible refine Below.drew ?_) | (with_reducible refine Below.alloc ?_ ?_ _) | (with_reducible refine Below.setCell ?_ ?_ _) | (with_reducible refine below_via (by assumption) ?_ ?_) | go_size))⟩
    · have c := Lib.hid (show pinCode x = 0 by unfold pinCode; rw [if_neg (by rw [hl]; decide), if_neg hp])
      have b7 : (wP x == 7) = false := by simpa using hp
      rw [hl, c.out, if_pos rfl]
      rw [hl] at hn f2
      have Hn := Lib.hid hn
      unfold eCells at f2 ⊢
      clear hl hn hp
      go_enter Try.func73, Try.ntmps73
      go_wp2_with fail
      go_ret
      exact ⟨rfl, blk_new V _, by (repeat' (first | (with_reducible exact Below.refl _ _) | (with_reducible assumption) | (with_reducible refine below_drewN ?_ _) | (with_reducible refine Below.drew ?_) | (with_reducible refine Below.alloc ?_ ?_ _) | (with_reducible refine Below.setCell ?_ ?_ _) | (with_reducible refine below_via (by assumption) ?_ ?_) | go_size))⟩
set_option maxHeartbeats 1000000 in
theorem unpin_do (x : Int) (V : World) : Calls Try.prog 74 #[.pointer (some ⟨V.heap.size, 0, none⟩)] (V.alloc (.cells (eCells (wO x) (wG x) (wP x) (wU x) (wL x) true) 91)) fun e w' =>
    e = .returned (.int .i64 (unpinCode x)) ∧ w'.heap[V.heap.size]? = some (.cells (eCells (wO x) (wG x) (if unpinCode x = 0 then wP x - 1 else wP x) (wU x) (wL x) true) 91 (0, 0)) ∧ Below V.heap.size V w' := by
  have hn := blk_new V (.cells (eCells (wO x) (wG x) (wP x) (wU x) (wL x) true) 91 (0, 0))
  obtain ⟨-, -, -, -, p0, p1, -, -⟩ := w_bds x
  have f2 := blk_free hn 2
  by_cases hp : wP x = 0
  · have c := Lib.hid (show unpinCode x = 8 by unfold unpinCode; rw [if_pos hp])
    have b7 : (wP x == 0) = true := by rw [hp]; rfl
    rw [c.out, if_neg (by decide)]
    have Hn := Lib.hid hn
    unfold eCells
    clear hn hp
    go_enter Try.func74, Try.ntmps74
    go_wp2_with fail
    go_ret
    exact ⟨rfl, Hn.out, by (repeat' (first | (with_reducible exact Below.refl _ _) | (with_reducible assumption) | (with_reducible refine below_drewN ?_ _) | (with_reducible refine Below.drew ?_) | (with_reducible refine Below.alloc ?_ ?_ _) | (with_reducible refine Below.setCell ?_ ?_ _) | (with_reducible refine below_via (by assumption) ?_ ?_) | go_size))⟩
  · have c := Lib.hid (show unpinCode x = 0 by unfold unpinCode; rw [if_neg hp])
    have b7 : (wP x == 0) = false := by simpa using hp
    rw [c.out, if_pos rfl]
    unfold eCells at f2 ⊢
    clear hn hp
    go_enter Try.func74, Try.ntmps74
    go_wp2_with fail
    go_ret
    exact ⟨rfl, blk_new V _, by (repeat' (first | (with_reducible exact Below.refl _ _) | (with_reducible assumption) | (with_reducible refine below_drewN ?_ _) | (with_reducible refine Below.drew ?_) | (with_reducible refine Below.alloc ?_ ?_ _) | (with_reducible refine Below.setCell ?_ ?_ _) | (with_reducible refine below_via (by assumption) ?_ ?_) | go_size))⟩
theorem HF_pin : ∀ args w, (callFunc 73 args).run Try.prog w = .ok (.enter 73 args) w := fun _ _ => by kernel_rfl
theorem HF_unpin : ∀ args w, (callFunc 74 args).run Try.prog w = .ok (.enter 74 args) w := fun _ _ => by kernel_rfl
def ePin (x : Int) : Int × Int := eTurn x (pinCode x) (wO x) (wG x) (if pinCode x = 0 then wP x + 1 else wP x) (wU x) (wL x) true
def eUnpin (x : Int) : Int × Int := eTurn x (unpinCode x) (wO x) (wG x) (if unpinCode x = 0 then wP x - 1 else wP x) (wU x) (wL x) true
set_option maxHeartbeats 400000 in
theorem entry_Pin (x : Int) (W : World) : Calls Try.prog 51 #[.int .i64 x] W fun e w' => e = .returned (.tuple #[.int .i64 (ePin x).1, .int .i64 (ePin x).2]) ∧ Below W.heap.size W w' := by
  have H := Lib.hid (show ∀ W, Calls Try.prog 72 #[.int .i64 x, .func (.func 73) #[] #[]] W fun e w' => e = .returned (.tuple #[.int .i64 (ePin x).1, .int .i64 (ePin x).2]) ∧ Below W.heap.size W w' from fun W => entry_changed_all x 73 W (pinCode x) (wO x) (wG x) (if pinCode x = 0 then wP x + 1 else wP x) (wU x) (wL x) true HF_pin (fun _ V => pin_do x V))
  go_enter Try.func51, Try.ntmps51
  go_wp2_with (go_at_call 72; refine (H.out _).mono ?_; rintro e w1 ⟨rfl, hb1⟩)
  go_ret2
  exact ⟨rfl, by (repeat' (first | (with_reducible exact Below.refl _ _) | (with_reducible assumption) | (with_reducible refine below_drewN ?_ _) | (with_reducible refine Below.drew ?_) | (with_reducible refine Below.alloc ?_ ?_ _) | (with_reducible refine Below.setCell ?_ ?_ _) | (with_reducible refine below_via (by assumption) ?_ ?_) | go_size))⟩
set_option maxHeartbeats 400000 in
theorem entry_Unpin (x : Int) (W : World) : Calls Try.prog 52 #[.int .i64 x] W fun e w' => e = .returned (.tuple #[.int .i64 (eUnpin x).1, .int .i64 (eUnpin x).2]) ∧ Below W.heap.size W w' := by
  have H := Lib.hid (show ∀ W, Calls Try.prog 72 #[.int .i64 x, .func (.func 74) #[] #[]] W fun e w' => e = .returned (.tuple #[.int .i64 (eUnpin x).1, .int .i64 (eUnpin x).2]) ∧ Below W.heap.size W w' from fun W => entry_changed_all x 74 W (unpinCode x) (wO x) (wG x) (if unpinCode x = 0 then wP x - 1 else wP x) (wU x) (wL x) true HF_unpin (fun _ V => unpin_do x V))
  go_enter Try.func52, Try.ntmps52
  go_wp2_with (go_at_call 72; refine (H.out _).mono ?_; rintro e w1 ⟨rfl, hb1⟩)
  go_ret2
  exact ⟨rfl, by (repeat' (first | (with_reducible exact Below.refl _ _) | (with_reducible assumption) | (with_reducible refine below_drewN ?_ _) | (with_reducible refine Below.drew ?_) | (with_reducible refine Below.alloc ?_ ?_ _) | (with_reducible refine Below.setCell ?_ ?_ _) | (with_reducible refine below_via (by assumption) ?_ ?_) | go_size))⟩
/-- a change that looks at one variable more. -/
theorem entry_changed_cap (x : Int) (f : FuncId) (c : Nat) (cv : Value) (W : World) (hcv : W.cell? ⟨c, 0, none⟩ = some cv) (code o g p u : Int) (l a : Bool)
    (HF : ∀ args w, (callFunc f args).run Try.prog w = .ok (.enter f args) w)
    (H : eMay (wO x) (wG x) (wP x) (wU x) (wL x) true = true → ∀ V, c < V.heap.size → V.cell? ⟨c, 0, none⟩ = some cv → Calls Try.prog f (#[.pointer (some ⟨V.heap.size, 0, none⟩), .pointer (some ⟨c, 0, none⟩)]) (V.alloc (.cells (eCells (wO x) (wG x) (wP x) (wU x) (wL x) true) 91)) fun e w' => e = .returned (.int .i64 code) ∧ w'.heap[V.heap.size]? = some (.cells (eCells o g p u l a) 91 (0, 0)) ∧ Below V.heap.size V w') :
    Calls Try.prog 72 #[.int .i64 x, .func (.func f) #[] #[.pointer (some ⟨c, 0, none⟩)]] W fun e w' => e = .returned (.tuple #[.int .i64 (eTurn x code o g p u l a).1, .int .i64 (eTurn x code o g p u l a).2]) ∧ Below W.heap.size W w' := by
  have hlt := World.block_lt_of_cell? W _ hcv
  rcases bool_cases (b := eIs x) with h | h
  · rcases bool_cases (b := wA x) with ha | ha
    · rw [eTurn_live h ha]
      have hm := (eIs_of h).2
      rw [ha] at hm
      exact entry_changed_live x f _ W h ha code o g p u l a (fun w' => Below W.heap.size W w') HF
        (fun _ _ hV hb => hV.trans (hb.mono hV.size))
        (fun V hs hb => (H hm V (Nat.lt_of_lt_of_le hlt hs) ((hb.cell hlt).trans hcv)).mono fun _ _ ⟨h1, h2, h3⟩ => ⟨h1, h2, hb.trans (h3.mono hs)⟩)
    · rw [eTurn_dead h ha]; exact entry_changed_dead x _ W h ha
  · rw [eTurn_bad h]; exact entry_changed_bad x _ W h
def guardCode (b : Int) : Int := if b < -15 ∨ 15 < b then 1 else 0
def eLock (x : Int) (y : Bool) : Int × Int := eTurn x 0 (wO x) (wG x) (wP x) (wU x) y true
def eMove (x : Int) (y : Int) : Int × Int := eTurn x 0 y (wG x) (wP x) (wU x) false true
def eGuard (x : Int) (y : Int) : Int × Int := eTurn x (guardCode y) (wO x) (wG x) (wP x) (if guardCode y = 0 then wU x + y else wU x) (wL x) true
end Go.Proofs.Ytmbkkpeepbfgoaa
