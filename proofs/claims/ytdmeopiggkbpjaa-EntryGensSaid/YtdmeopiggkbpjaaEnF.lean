/- entry's changes. -/
import Derived.Test.YtdmeopiggkbpjaaEnC
namespace Go.Proofs.Ytdmeopiggkbpjaa
set_option linter.unusedVariables false
set_option linter.unusedSimpArgs false
open Go.RowKit
/-- what a change of a word comes to. -/
def eTurn (x code o g p u : Int) (l a : Bool) : Int × Int := if eIs x = true then (if wA x = true then eChg code o g p u l a else (0, 1)) else (0, 2)
theorem eTurn_live {x code o g p u : Int} {l a : Bool} (h : eIs x = true) (ha : wA x = true) : eTurn x code o g p u l a = eChg code o g p u l a := by unfold eTurn; rw [if_pos h, if_pos ha]
theorem eTurn_dead {x code o g p u : Int} {l a : Bool} (h : eIs x = true) (ha : wA x = false) : eTurn x code o g p u l a = (0, 1) := by unfold eTurn; rw [if_pos h, if_neg (by rw [ha]; decide)]
theorem eTurn_bad {x code o g p u : Int} {l a : Bool} (h : eIs x = false) : eTurn x code o g p u l a = (0, 2) := by unfold eTurn; rw [if_neg (by rw [h]; decide)]
theorem eIs_of {x : Int} (h : eIs x = true) : (0 ≤ x ∧ x < 1125899906842624) ∧ eMay (wO x) (wG x) (wP x) (wU x) (wL x) (wA x) = true := by simpa [eIs] using h
theorem entry_changed_all (x : Int) (f : FuncId) (W : World) (code o g p u : Int) (l a : Bool)
    (HF : ∀ args w, (callFunc f args).run Try.prog w = .ok (.enter f args) w)
    (H : eMay (wO x) (wG x) (wP x) (wU x) (wL x) true = true → ∀ V, Calls Try.prog f (#[.pointer (some ⟨V.heap.size, 0, none⟩)]) (V.alloc (.cells (eCells (wO x) (wG x) (wP x) (wU x) (wL x) true) 38)) fun e w' => e = .returned (.int .i64 code) ∧ w'.heap[V.heap.size]? = some (.cells (eCells o g p u l a) 38 (0, 0)) ∧ Below V.heap.size V w') :
    Calls Try.prog 56 #[.int .i64 x, .func (.func f) #[] #[]] W fun e w' => e = .returned (.tuple #[.int .i64 (eTurn x code o g p u l a).1, .int .i64 (eTurn x code o g p u l a).2]) ∧ Below W.heap.size W w' := by
  rcases bool_cases (b := eIs x) with h | h
  · rcases bool_cases (b := wA x) with ha | ha
    · rw [eTurn_live h ha]
      have hm := (eIs_of h).2
      rw [ha] at hm
      exact entry_changed_own x f #[] W h ha code o g p u l a HF (fun V _ => H hm V)
    · rw [eTurn_dead h ha]; exact entry_changed_dead x _ W h ha
  · rw [eTurn_bad h]; exact entry_changed_bad x _ W h
def pinCode (x : Int) : Int := if wL x = true then 1 else if wP x = 7 then 7 else 0
def unpinCode (x : Int) : Int := if wP x = 0 then 8 else 0
theorem w_bds (x : Int) : 0 ≤ wO x ∧ wO x < 1048576 ∧ 0 ≤ wG x ∧ wG x < 1048576 ∧ 0 ≤ wP x ∧ wP x < 16 ∧ 0 ≤ wU x ∧ wU x < 16 := by
  unfold wO wG wP wU; omega
set_option maxHeartbeats 1000000 in
theorem pin_do (x : Int) (V : World) : Calls Try.prog 57 #[.pointer (some ⟨V.heap.size, 0, none⟩)] (V.alloc (.cells (eCells (wO x) (wG x) (wP x) (wU x) (wL x) true) 38)) fun e w' =>
    e = .returned (.int .i64 (pinCode x)) ∧ w'.heap[V.heap.size]? = some (.cells (eCells (wO x) (wG x) (if pinCode x = 0 then wP x + 1 else wP x) (wU x) (wL x) true) 38 (0, 0)) ∧ Below V.heap.size V w' := by
  have hn := blk_new V (.cells (eCells (wO x) (wG x) (wP x) (wU x) (wL x) true) 38 (0, 0))
  obtain ⟨-, -, -, -, p0, p1, -, -⟩ := w_bds x
  have f2 := blk_free hn 2
  rcases bool_cases (b := wL x) with hl | hl
  · have c := Lib.hid (show pinCode x = 1 by unfold pinCode; rw [if_pos hl])
    have hL := Lib.hid hl
    rw [hl, c.out, if_neg (by decide)]
    rw [hl] at hn
    have Hn := Lib.hid hn
    unfold eCells
    clear hl hn
    go_enter Try.func57, Try.ntmps57
    go_wp2_with fail
    go_ret
    exact ⟨rfl, Hn.out, by (repeat' (first | (with_reducible exact Below.refl _ _) | (with_reducible assumption) | (with_reducible refine below_drewN ?_ _) | (with_reducible refine Below.drew ?_) | (with_reducible refine Below.alloc ?_ ?_ _) | (with_reducible refine Below.setCell ?_ ?_ _) | (with_reducible refine below_via (by assumption) ?_ ?_) | go_size))⟩
  · by_cases hp : wP x = 7
    · have c := Lib.hid (show pinCode x = 7 by unfold pinCode; rw [if_neg (by rw [hl]; decide), if_pos hp])
      have b7 : (wP x == 7) = true := by rw [hp]; rfl
      rw [hl, c.out, if_neg (by decide)]
      rw [hl] at hn
      have Hn := Lib.hid hn
      unfold eCells
      clear hl hn hp
      go_enter Try.func57, Try.ntmps57
      go_wp2_with fail
      go_ret
      exact ⟨rfl, Hn.out, by (repeat' (first | (with_reducible exact Below.refl _ _) | (with_reducible assumption) | (with_reducible refine below_drewN ?_ _) | (with_reducible refine Below.drew ?_) | (with_reducible refine Below.alloc ?_ ?_ _) | (with_reducible refine Below.setCell ?_ ?_ _) | (with_reducible refine below_via (by assumption) ?_ ?_) | go_size))⟩
    · have c := Lib.hid (show pinCode x = 0 by unfold pinCode; rw [if_neg (by rw [hl]; decide), if_neg hp])
      have b7 : (wP x == 7) = false := by simpa using hp
      rw [hl, c.out, if_pos rfl]
      rw [hl] at hn f2
      have Hn := Lib.hid hn
      unfold eCells at f2 ⊢
      clear hl hn hp
      go_enter Try.func57, Try.ntmps57
      go_wp2_with fail
      go_ret
      exact ⟨rfl, blk_new V _, by (repeat' (first | (with_reducible exact Below.refl _ _) | (with_reducible assumption) | (with_reducible refine below_drewN ?_ _) | (with_reducible refine Below.drew ?_) | (with_reducible refine Below.alloc ?_ ?_ _) | (with_reducible refine Below.setCell ?_ ?_ _) | (with_reducible refine below_via (by assumption) ?_ ?_) | go_size))⟩
set_option maxHeartbeats 1000000 in
theorem unpin_do (x : Int) (V : World) : Calls Try.prog 58 #[.pointer (some ⟨V.heap.size, 0, none⟩)] (V.alloc (.cells (eCells (wO x) (wG x) (wP x) (wU x) (wL x) true) 38)) fun e w' =>
    e = .returned (.int .i64 (unpinCode x)) ∧ w'.heap[V.heap.size]? = some (.cells (eCells (wO x) (wG x) (if unpinCode x = 0 then wP x - 1 else wP x) (wU x) (wL x) true) 38 (0, 0)) ∧ Below V.heap.size V w' := by
  have hn := blk_new V (.cells (eCells (wO x) (wG x) (wP x) (wU x) (wL x) true) 38 (0, 0))
  obtain ⟨-, -, -, -, p0, p1, -, -⟩ := w_bds x
  have f2 := blk_free hn 2
  by_cases hp : wP x = 0
  · have c := Lib.hid (show unpinCode x = 8 by unfold unpinCode; rw [if_pos hp])
    have b7 : (wP x == 0) = true := by rw [hp]; rfl
    rw [c.out, if_neg (by decide)]
    have Hn := Lib.hid hn
    unfold eCells
    clear hn hp
    go_enter Try.func58, Try.ntmps58
    go_wp2_with fail
    go_ret
    exact ⟨rfl, Hn.out, by (repeat' (first | (with_reducible exact Below.refl _ _) | (with_reducible assumption) | (with_reducible refine below_drewN ?_ _) | (with_reducible refine Below.drew ?_) | (with_reducible refine Below.alloc ?_ ?_ _) | (with_reducible refine Below.setCell ?_ ?_ _) | (with_reducible refine below_via (by assumption) ?_ ?_) | go_size))⟩
  · have c := Lib.hid (show unpinCode x = 0 by unfold unpinCode; rw [if_neg hp])
    have b7 : (wP x == 0) = false := by simpa using hp
    rw [c.out, if_pos rfl]
    unfold eCells at f2 ⊢
    clear hn hp
    go_enter Try.func58, Try.ntmps58
    go_wp2_with fail
    go_ret
    exact ⟨rfl, blk_new V _, by (repeat' (first | (with_reducible exact Below.refl _ _) | (with_reducible assumption) | (with_reducible refine below_drewN ?_ _) | (with_reducible refine Below.drew ?_) | (with_reducible refine Below.alloc ?_ ?_ _) | (with_reducible refine Below.setCell ?_ ?_ _) | (with_reducible refine below_via (by assumption) ?_ ?_) | go_size))⟩
theorem HF_pin : ∀ args w, (callFunc 57 args).run Try.prog w = .ok (.enter 57 args) w := fun _ _ => by kernel_rfl
theorem HF_unpin : ∀ args w, (callFunc 58 args).run Try.prog w = .ok (.enter 58 args) w := fun _ _ => by kernel_rfl
def ePin (x : Int) : Int × Int := eTurn x (pinCode x) (wO x) (wG x) (if pinCode x = 0 then wP x + 1 else wP x) (wU x) (wL x) true
def eUnpin (x : Int) : Int × Int := eTurn x (unpinCode x) (wO x) (wG x) (if unpinCode x = 0 then wP x - 1 else wP x) (wU x) (wL x) true
set_option maxHeartbeats 400000 in
theorem entry_Pin (x : Int) (W : World) : Calls Try.prog 35 #[.int .i64 x] W fun e w' => e = .returned (.tuple #[.int .i64 (ePin x).1, .int .i64 (ePin x).2]) ∧ Below W.heap.size W w' := by
  have H := Lib.hid (show ∀ W, Calls Try.prog 56 #[.int .i64 x, .func (.func 57) #[] #[]] W fun e w' => e = .returned (.tuple #[.int .i64 (ePin x).1, .int .i64 (ePin x).2]) ∧ Below W.heap.size W w' from fun W => entry_changed_all x 57 W (pinCode x) (wO x) (wG x) (if pinCode x = 0 then wP x + 1 else wP x) (wU x) (wL x) true HF_pin (fun _ V => pin_do x V))
  go_enter Try.func35, Try.ntmps35
  go_wp2_with (go_at_call 56; refine (H.out _).mono ?_; rintro e w1 ⟨rfl, hb1⟩)
  go_ret2
  exact ⟨rfl, by (repeat' (first | (with_reducible exact Below.refl _ _) | (with_reducible assumption) | (with_reducible refine below_drewN ?_ _) | (with_reducible refine Below.drew ?_) | (with_reducible refine Below.alloc ?_ ?_ _) | (with_reducible refine Below.setCell ?_ ?_ _) | (with_reducible refine below_via (by assumption) ?_ ?_) | go_size))⟩
set_option maxHeartbeats 400000 in
theorem entry_Unpin (x : Int) (W : World) : Calls Try.prog 36 #[.int .i64 x] W fun e w' => e = .returned (.tuple #[.int .i64 (eUnpin x).1, .int .i64 (eUnpin x).2]) ∧ Below W.heap.size W w' := by
  have H := Lib.hid (show ∀ W, Calls Try.prog 56 #[.int .i64 x, .func (.func 58) #[] #[]] W fun e w' => e = .returned (.tuple #[.int .i64 (eUnpin x).1, .int .i64 (eUnpin x).2]) ∧ Below W.heap.size W w' from fun W => entry_changed_all x 58 W (unpinCode x) (wO x) (wG x) (if unpinCode x = 0 then wP x - 1 else wP x) (wU x) (wL x) true HF_unpin (fun _ V => unpin_do x V))
  go_enter Try.func36, Try.ntmps36
  go_wp2_with (go_at_call 56; refine (H.out _).mono ?_; rintro e w1 ⟨rfl, hb1⟩)
  go_ret2
  exact ⟨rfl, by (repeat' (first | (with_reducible exact Below.refl _ _) | (with_reducible assumption) | (with_reducible refine below_drewN ?_ _) | (with_reducible refine Below.drew ?_) | (with_reducible refine Below.alloc ?_ ?_ _) | (with_reducible refine Below.setCell ?_ ?_ _) | (with_reducible refine below_via (by assumption) ?_ ?_) | go_size))⟩
/-- a change that looks at one variable more. -/
theorem entry_changed_cap (x : Int) (f : FuncId) (c : Nat) (cv : Value) (W : World) (hcv : W.cell? ⟨c, 0, none⟩ = some cv) (code o g p u : Int) (l a : Bool)
    (HF : ∀ args w, (callFunc f args).run Try.prog w = .ok (.enter f args) w)
    (H : eMay (wO x) (wG x) (wP x) (wU x) (wL x) true = true → ∀ V, c < V.heap.size → V.cell? ⟨c, 0, none⟩ = some cv → Calls Try.prog f (#[.pointer (some ⟨V.heap.size, 0, none⟩), .pointer (some ⟨c, 0, none⟩)]) (V.alloc (.cells (eCells (wO x) (wG x) (wP x) (wU x) (wL x) true) 38)) fun e w' => e = .returned (.int .i64 code) ∧ w'.heap[V.heap.size]? = some (.cells (eCells o g p u l a) 38 (0, 0)) ∧ Below V.heap.size V w') :
    Calls Try.prog 56 #[.int .i64 x, .func (.func f) #[] #[.pointer (some ⟨c, 0, none⟩)]] W fun e w' => e = .returned (.tuple #[.int .i64 (eTurn x code o g p u l a).1, .int .i64 (eTurn x code o g p u l a).2]) ∧ Below W.heap.size W w' := by
  have hlt := World.block_lt_of_cell? W _ hcv
  rcases bool_cases (b := eIs x) with h | h
  · rcases bool_cases (b := wA x) with ha | ha
    · rw [eTurn_live h ha]
      have hm := (eIs_of h).2
      rw [ha] at hm
      exact entry_changed_live x f _ W h ha code o g p u l a (fun w' => Below W.heap.size W w') HF
        (fun _ _ hV hb => hV.trans (hb.mono hV.size))
        (fun V hs hb => (H hm V (Nat.lt_of_lt_of_le hlt hs) ((hb.cell hlt).trans hcv)).mono fun _ _ ⟨h1, h2, h3⟩ => ⟨h1, h2, hb.trans (h3.mono hs)⟩)
    · rw [eTurn_dead h ha]; exact entry_changed_dead x _ W h ha
  · rw [eTurn_bad h]; exact entry_changed_bad x _ W h
def guardCode (b : Int) : Int := if b < -15 ∨ 15 < b then 1 else 0
set_option maxHeartbeats 1000000 in
theorem lock_do (x : Int) (c : Nat) (on : Bool) (V : World) (hc : c < V.heap.size) (hv : V.cell? ⟨c, 0, none⟩ = some (.bool on)) : Calls Try.prog 59 #[.pointer (some ⟨V.heap.size, 0, none⟩), .pointer (some ⟨c, 0, none⟩)] (V.alloc (.cells (eCells (wO x) (wG x) (wP x) (wU x) (wL x) true) 38)) fun e w' =>
    e = .returned (.int .i64 0) ∧ w'.heap[V.heap.size]? = some (.cells (eCells (wO x) (wG x) (wP x) (wU x) on true) 38 (0, 0)) ∧ Below V.heap.size V w' := by
  have hv' : (V.alloc (.cells (eCells (wO x) (wG x) (wP x) (wU x) (wL x) true) 38)).cell? ⟨c, 0, none⟩ = some (.bool on) := by rw [← hv]; exact World.cell?_of_block (Below.heap_alloc _ _ _ hc)
  unfold eCells at hv' ⊢
  go_enter Try.func59, Try.ntmps59
  go_wp2_with fail
  go_ret
  exact ⟨rfl, blk_new V _, by (repeat' (first | (with_reducible exact Below.refl _ _) | (with_reducible assumption) | (with_reducible refine below_drewN ?_ _) | (with_reducible refine Below.drew ?_) | (with_reducible refine Below.alloc ?_ ?_ _) | (with_reducible refine Below.setCell ?_ ?_ _) | (with_reducible refine below_via (by assumption) ?_ ?_) | go_size))⟩
set_option maxHeartbeats 1000000 in
theorem move_do (x : Int) (c : Nat) (off : Int) (V : World) (hc : c < V.heap.size) (hv : V.cell? ⟨c, 0, none⟩ = some (.int .i64 off)) : Calls Try.prog 61 #[.pointer (some ⟨V.heap.size, 0, none⟩), .pointer (some ⟨c, 0, none⟩)] (V.alloc (.cells (eCells (wO x) (wG x) (wP x) (wU x) (wL x) true) 38)) fun e w' =>
    e = .returned (.int .i64 0) ∧ w'.heap[V.heap.size]? = some (.cells (eCells off (wG x) (wP x) (wU x) false true) 38 (0, 0)) ∧ Below V.heap.size V w' := by
  have hv' : (V.alloc (.cells (eCells (wO x) (wG x) (wP x) (wU x) (wL x) true) 38)).cell? ⟨c, 0, none⟩ = some (.int .i64 off) := by rw [← hv]; exact World.cell?_of_block (Below.heap_alloc _ _ _ hc)
  unfold eCells at hv' ⊢
  go_enter Try.func61, Try.ntmps61
  go_wp2_with fail
  go_ret
  exact ⟨rfl, blk_new V _, by (repeat' (first | (with_reducible exact Below.refl _ _) | (with_reducible assumption) | (with_reducible refine below_drewN ?_ _) | (with_reducible refine Below.drew ?_) | (with_reducible refine Below.alloc ?_ ?_ _) | (with_reducible refine Below.setCell ?_ ?_ _) | (with_reducible refine below_via (by assumption) ?_ ?_) | go_size))⟩
set_option maxHeartbeats 1000000 in
theorem guard_do (x : Int) (c : Nat) (b : Int) (V : World) (hc : c < V.heap.size) (hv : V.cell? ⟨c, 0, none⟩ = some (.int .i64 b)) : Calls Try.prog 62 #[.pointer (some ⟨V.heap.size, 0, none⟩), .pointer (some ⟨c, 0, none⟩)] (V.alloc (.cells (eCells (wO x) (wG x) (wP x) (wU x) (wL x) true) 38)) fun e w' =>
    e = .returned (.int .i64 (guardCode b)) ∧ w'.heap[V.heap.size]? = some (.cells (eCells (wO x) (wG x) (wP x) (if guardCode b = 0 then wU x + b else wU x) (wL x) true) 38 (0, 0)) ∧ Below V.heap.size V w' := by
  have hv' : (V.alloc (.cells (eCells (wO x) (wG x) (wP x) (wU x) (wL x) true) 38)).cell? ⟨c, 0, none⟩ = some (.int .i64 b) := by rw [← hv]; exact World.cell?_of_block (Below.heap_alloc _ _ _ hc)
  have hn := blk_new V (.cells (eCells (wO x) (wG x) (wP x) (wU x) (wL x) true) 38 (0, 0))
  obtain ⟨-, -, -, -, -, -, u0, u1⟩ := w_bds x
  by_cases hb : b < -15 ∨ 15 < b
  · have k := Lib.hid (show guardCode b = 1 by unfold guardCode; rw [if_pos hb])
    rw [k.out, if_neg (by decide)]
    have Hn := Lib.hid hn
    unfold eCells at hv' ⊢
    clear hn
    rcases hb with hb | hb
    all_goals
      go_enter Try.func62, Try.ntmps62
      go_wp2_with fail
      all_goals first | (exfalso; omega) | (go_ret; exact ⟨rfl, Hn.out, by (repeat' (first | (with_reducible exact Below.refl _ _) | (with_reducible assumption) | (with_reducible refine below_drewN ?_ _) | (with_reducible refine Below.drew ?_) | (with_reducible refine Below.alloc ?_ ?_ _) | (with_reducible refine Below.setCell ?_ ?_ _) | (with_reducible refine below_via (by assumption) ?_ ?_) | go_size))⟩)
  · have k := Lib.hid (show guardCode b = 0 by unfold guardCode; rw [if_neg hb])
    have b0 : -15 ≤ b := by omega
    have b1 : b ≤ 15 := by omega
    rw [k.out, if_pos rfl]
    unfold eCells at hv' ⊢
    clear hn hb
    go_enter Try.func62, Try.ntmps62
    go_wp2_with fail
    go_region
    all_goals
      go_wp2_with fail
      go_ret
      exact ⟨rfl, blk_new V _, by (repeat' (first | (with_reducible exact Below.refl _ _) | (with_reducible assumption) | (with_reducible refine below_drewN ?_ _) | (with_reducible refine Below.drew ?_) | (with_reducible refine Below.alloc ?_ ?_ _) | (with_reducible refine Below.setCell ?_ ?_ _) | (with_reducible refine below_via (by assumption) ?_ ?_) | go_size))⟩
theorem HF_lock : ∀ args w, (callFunc 59 args).run Try.prog w = .ok (.enter 59 args) w := fun _ _ => by kernel_rfl
def eLock (x : Int) (y : Bool) : Int × Int := eTurn x 0 (wO x) (wG x) (wP x) (wU x) y true
set_option maxHeartbeats 400000 in
theorem entry_Lock (x : Int) (y : Bool) (W : World) : Calls Try.prog 37 #[.int .i64 x, .bool y] W fun e w' => e = .returned (.tuple #[.int .i64 (eLock x y).1, .int .i64 (eLock x y).2]) ∧ Below W.heap.size W w' := by
  have H := Lib.hid (show Calls Try.prog 56 #[.int .i64 x, .func (.func 59) #[] #[.pointer (some ⟨W.heap.size, 0, none⟩)]] (W.alloc (.cells #[.bool y] 4)) fun e w' => e = .returned (.tuple #[.int .i64 (eLock x y).1, .int .i64 (eLock x y).2]) ∧ Below (W.alloc (.cells #[.bool y] 4)).heap.size (W.alloc (.cells #[.bool y] 4)) w' from
    entry_changed_cap x 59 W.heap.size (.bool y) _ (by simp) 0 (wO x) (wG x) (wP x) (wU x) y true HF_lock (fun _ V hc hv => lock_do x W.heap.size y V hc hv))
  go_enter Try.func37, Try.ntmps37
  go_wp2_with (go_at_call 56; refine H.out.mono ?_; rintro e w1 ⟨rfl, hb1⟩; have hz1 := hb1.size)
  go_ret2
  exact ⟨rfl, by (repeat' (first | (with_reducible exact Below.refl _ _) | (with_reducible assumption) | (with_reducible refine below_drewN ?_ _) | (with_reducible refine Below.drew ?_) | (with_reducible refine Below.alloc ?_ ?_ _) | (with_reducible refine Below.setCell ?_ ?_ _) | (with_reducible refine below_via (by assumption) ?_ ?_) | go_size))⟩
theorem HF_move : ∀ args w, (callFunc 61 args).run Try.prog w = .ok (.enter 61 args) w := fun _ _ => by kernel_rfl
def eMove (x : Int) (y : Int) : Int × Int := eTurn x 0 y (wG x) (wP x) (wU x) false true
set_option maxHeartbeats 400000 in
theorem entry_Move (x : Int) (y : Int) (W : World) : Calls Try.prog 39 #[.int .i64 x, .int .i64 y] W fun e w' => e = .returned (.tuple #[.int .i64 (eMove x y).1, .int .i64 (eMove x y).2]) ∧ Below W.heap.size W w' := by
  have H := Lib.hid (show Calls Try.prog 56 #[.int .i64 x, .func (.func 61) #[] #[.pointer (some ⟨W.heap.size, 0, none⟩)]] (W.alloc (.cells #[.int .i64 y] 3)) fun e w' => e = .returned (.tuple #[.int .i64 (eMove x y).1, .int .i64 (eMove x y).2]) ∧ Below (W.alloc (.cells #[.int .i64 y] 3)).heap.size (W.alloc (.cells #[.int .i64 y] 3)) w' from
    entry_changed_cap x 61 W.heap.size (.int .i64 y) _ (by simp) 0 y (wG x) (wP x) (wU x) false true HF_move (fun _ V hc hv => move_do x W.heap.size y V hc hv))
  go_enter Try.func39, Try.ntmps39
  go_wp2_with (go_at_call 56; refine H.out.mono ?_; rintro e w1 ⟨rfl, hb1⟩; have hz1 := hb1.size)
  go_ret2
  exact ⟨rfl, by (repeat' (first | (with_reducible exact Below.refl _ _) | (with_reducible assumption) | (with_reducible refine below_drewN ?_ _) | (with_reducible refine Below.drew ?_) | (with_reducible refine Below.alloc ?_ ?_ _) | (with_reducible refine Below.setCell ?_ ?_ _) | (with_reducible refine below_via (by assumption) ?_ ?_) | go_size))⟩
theorem HF_guard : ∀ args w, (callFunc 62 args).run Try.prog w = .ok (.enter 62 args) w := fun _ _ => by kernel_rfl
def eGuard (x : Int) (y : Int) : Int × Int := eTurn x (guardCode y) (wO x) (wG x) (wP x) (if guardCode y = 0 then wU x + y else wU x) (wL x) true
set_option maxHeartbeats 400000 in
theorem entry_Guard (x : Int) (y : Int) (W : World) : Calls Try.prog 40 #[.int .i64 x, .int .i64 y] W fun e w' => e = .returned (.tuple #[.int .i64 (eGuard x y).1, .int .i64 (eGuard x y).2]) ∧ Below W.heap.size W w' := by
  have H := Lib.hid (show Calls Try.prog 56 #[.int .i64 x, .func (.func 62) #[] #[.pointer (some ⟨W.heap.size, 0, none⟩)]] (W.alloc (.cells #[.int .i64 y] 3)) fun e w' => e = .returned (.tuple #[.int .i64 (eGuard x y).1, .int .i64 (eGuard x y).2]) ∧ Below (W.alloc (.cells #[.int .i64 y] 3)).heap.size (W.alloc (.cells #[.int .i64 y] 3)) w' from
    entry_changed_cap x 62 W.heap.size (.int .i64 y) _ (by simp) (guardCode y) (wO x) (wG x) (wP x) (if guardCode y = 0 then wU x + y else wU x) (wL x) true HF_guard (fun _ V hc hv => guard_do x W.heap.size y V hc hv))
  go_enter Try.func40, Try.ntmps40
  go_wp2_with (go_at_call 56; refine H.out.mono ?_; rintro e w1 ⟨rfl, hb1⟩; have hz1 := hb1.size)
  go_ret2
  exact ⟨rfl, by (repeat' (first | (with_reducible exact Below.refl _ _) | (with_reducible assumption) | (with_reducible refine below_drewN ?_ _) | (with_reducible refine Below.drew ?_) | (with_reducible refine Below.alloc ?_ ?_ _) | (with_reducible refine Below.setCell ?_ ?_ _) | (with_reducible refine below_via (by assumption) ?_ ?_) | go_size))⟩
end Go.Proofs.Ytdmeopiggkbpjaa
