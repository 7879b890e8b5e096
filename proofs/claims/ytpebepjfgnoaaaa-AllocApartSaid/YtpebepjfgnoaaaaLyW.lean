/- What layout's functions tell, as functions of numbers. -/
import Derived.Test.YtpebepjfgnoaaaaBase
import Derived.Test.YtpebepjfgnoaaaaClN
import Derived.Test.YtpebepjfgnoaaaaProg
import Derived.Test.YtpebepjfgnoaaaaFnW
namespace Go.Proofs.Ytpebepjfgnoaaaa
set_option linter.unusedVariables false
set_option linter.unusedSimpArgs false
open Go.RowKit
def cfgOk (a s t : Int) : Bool := decide (8 ≤ a ∧ a ≤ 4096 ∧ a % 8 = 0 ∧ 1 ≤ s ∧ s ≤ 64 ∧ 1 ≤ t ∧ t ≤ 4)
theorem cfgOk_of {a s t : Int} (h : cfgOk a s t = true) : 8 ≤ a ∧ a ≤ 4096 ∧ a % 8 = 0 ∧ 1 ≤ s ∧ s ≤ 64 ∧ 1 ≤ t ∧ t ≤ 4 := of_decide_eq_true h
theorem cfgOk_no {a s t : Int} (h : cfgOk a s t = false) : ¬ (8 ≤ a ∧ a ≤ 4096 ∧ a % 8 = 0 ∧ 1 ≤ s ∧ s ≤ 64 ∧ 1 ≤ t ∧ t ≤ 4) := of_decide_eq_false h
def lOk (t s : Int) : Prop := (t = 0 ∧ s = 0) ∨ (1 ≤ t ∧ t ≤ 4 ∧ 1 ≤ s ∧ s ≤ 64)
def lIn (n a b : Int) : Bool := decide (a ≤ n ∧ n ≤ b)
def lWords (t s : Int) : Int := if t = 0 then 0 else 4 + t + 3 * s
def lOnce (t n : Int) : Int := if t = 0 then -1 else n
def lNote (t n : Int) : Int := if 0 ≤ n ∧ n < t then 4 + n else -1
def lOf (t s n k : Int) : Int := if 0 ≤ n ∧ n < s then 4 + t + 3 * n + k else -1
/-- the layout that is told of a config: its threads, its slots. -/
def ofT (a s t : Int) : Int := if cfgOk a s t = true then t else 0
def ofS (a s t : Int) : Int := if cfgOk a s t = true then s else 0
def ofE (a s t : Int) : Int := if cfgOk a s t = true then 0 else 1
theorem of_lOk (a s t : Int) : lOk (ofT a s t) (ofS a s t) := by
  unfold ofT ofS lOk
  by_cases h : cfgOk a s t = true
  · rw [if_pos h, if_pos h]; have := cfgOk_of h; right; omega
  · rw [if_neg h, if_neg h]; left; omega
theorem of_yes {a s t : Int} (h : cfgOk a s t = true) : ofT a s t = t ∧ ofS a s t = s ∧ ofE a s t = 0 := by unfold ofT ofS ofE; rw [if_pos h, if_pos h, if_pos h]; exact ⟨rfl, rfl, rfl⟩
theorem of_no {a s t : Int} (h : cfgOk a s t = false) : ofT a s t = 0 ∧ ofS a s t = 0 ∧ ofE a s t = 1 := by
  have h' : ¬ cfgOk a s t = true := by rw [h]; decide
  unfold ofT ofS ofE; rw [if_neg h', if_neg h', if_neg h']; exact ⟨rfl, rfl, rfl⟩
theorem lOk_yes {a s t : Int} (h : cfgOk a s t = true) : lOk t s := by have := cfgOk_of h; right; omega
end Go.Proofs.Ytpebepjfgnoaaaa
namespace Go.Proofs.Ytpebepjfgnoaaaa
set_option linter.unusedVariables false
set_option linter.unusedSimpArgs false
open Go.RowKit
def setW (f : Nat → Int) (n : Nat) : List Int := (List.range n).map f
theorem setW_len (f : Nat → Int) (n : Nat) : (setW f n).length = n := by simp [setW]
theorem setW_get (f : Nat → Int) (n k : Nat) (h : k < n) : (setW f n).getD k 0 = f k := by
  unfold setW; rw [List.getD_eq_getElem?_getD, List.getElem?_map, List.getElem?_range h]; rfl
theorem setW_ext {f g : Nat → Int} {n : Nat} (h : ∀ j, j < n → f j = g j) : setW f n = setW g n := List.map_congr_left fun j hj => h j (List.mem_range.1 hj)
theorem list_setW (ws : List Int) : ws = setW (fun j => ws.getD j 0) ws.length := by
  apply List.ext_getElem?
  intro k
  by_cases h : k < ws.length
  · rw [setW, List.getElem?_map, List.getElem?_range h, List.getElem?_eq_getElem h]; simp [List.getD, h]
  · rw [List.getElem?_eq_none (by omega), List.getElem?_eq_none (by rw [setW_len]; omega)]
theorem wPut_setW (f : Nat → Int) (n k : Nat) (v : Int) (h : k < n) : wPut (setW f n) (k : Int) v = setW (fun j => if j = k then v else f j) n := by
  have hi : wIn (setW f n) (k : Int) = true := wIn_iff.2 ⟨by omega, by rw [setW_len]; omega⟩
  unfold wPut
  rw [if_pos hi]
  apply List.ext_getElem?
  intro j
  rw [Int.toNat_natCast, List.getElem?_set]
  unfold setW
  by_cases hj : j < n
  · rw [List.getElem?_map, List.getElem?_range hj, List.getElem?_map, List.getElem?_range hj]
    by_cases e : k = j
    · subst e; simp [h]
    · have e' : ¬ j = k := fun h => e h.symm
      simp [e, e']
  · rw [List.getElem?_eq_none (by simp; omega), List.getElem?_eq_none (by simp; omega)]
    split <;> simp_all
theorem wAt_setW (f : Nat → Int) (n : Nat) (k : Int) : wAt (setW f n) k = if 0 ≤ k ∧ k < n then f k.toNat else 0 := by
  unfold wAt
  by_cases h : 0 ≤ k ∧ k < n
  · rw [if_pos h, if_pos (wIn_iff.2 ⟨h.1, by rw [setW_len]; exact h.2⟩), setW_get _ _ _ (by omega)]
  · rw [if_neg h, if_neg (by rw [wIn_iff, setW_len]; exact h)]
def linkAt (t s k j : Int) : Int := if (j - 6 - t) % 3 = 0 ∧ k ≤ (j - 6 - t) / 3 ∧ (j - 6 - t) / 3 + 1 < s then (j - 6 - t) / 3 + 2 else 0
def startAt (t s j : Int) : Int := if j = 1 then 1 else linkAt t s 0 j
def zeroW (k : Nat) (ws : List Int) : List Int := setW (fun j => if j < k then 0 else ws.getD j 0) ws.length
def linkW (t s k : Int) (ws : List Int) : List Int := setW (fun j => if (j : Int) < lWords t s then linkAt t s k j else ws.getD j 0) ws.length
def startW (t s : Int) (ws : List Int) : List Int := setW (fun j => if (j : Int) < lWords t s then startAt t s j else ws.getD j 0) ws.length
theorem zeroW_len (k : Nat) (ws : List Int) : (zeroW k ws).length = ws.length := setW_len _ _
theorem linkW_len (t s k : Int) (ws : List Int) : (linkW t s k ws).length = ws.length := setW_len _ _
theorem startW_len (t s : Int) (ws : List Int) : (startW t s ws).length = ws.length := setW_len _ _
theorem zeroW_zero (ws : List Int) : zeroW 0 ws = ws := by
  conv => rhs; rw [list_setW ws]
  exact setW_ext fun j _ => by simp
theorem zeroW_step (k : Nat) (ws : List Int) (h : k < ws.length) : wPut (zeroW k ws) (k : Int) 0 = zeroW (k + 1) ws := by
  unfold zeroW
  rw [wPut_setW _ _ _ _ h]
  refine setW_ext fun j _ => ?_
  by_cases e : j = k
  · simp [e]
  · by_cases e2 : j < k
    · simp [e, e2]; omega
    · have : ¬ j < k + 1 := by omega
      simp [e, e2, this]
theorem lWords_ok {t s : Int} (h1 : 1 ≤ t) : lWords t s = 4 + t + 3 * s := by unfold lWords; rw [if_neg (by omega)]
theorem linkW_start {t s : Int} (h1 : 1 ≤ t) (h3 : 1 ≤ s) (ws : List Int) : zeroW (lWords t s).toNat ws = linkW t s s ws := by
  refine setW_ext fun j _ => ?_
  rw [lWords_ok h1]
  have e : linkAt t s s j = 0 := by unfold linkAt; rw [if_neg (by omega)]
  rw [e]
  by_cases c : (j : Int) < 4 + t + 3 * s
  · rw [if_pos c, if_pos (by omega)]
  · rw [if_neg c, if_neg (by omega)]
theorem linkW_step {t s k : Int} (h1 : 1 ≤ t) (h3 : 1 ≤ k) (h4 : k ≤ s) (ws : List Int) (hw : lWords t s ≤ ws.length) : wPut (linkW t s k ws) (4 + t + 3 * (k - 1) + 2) (if k = s then 0 else k + 1) = linkW t s (k - 1) ws := by
  rw [lWords_ok h1] at hw
  unfold linkW
  rw [lWords_ok h1]
  obtain ⟨q, hq⟩ : ∃ q : Nat, 4 + t + 3 * (k - 1) + 2 = q := ⟨(4 + t + 3 * (k - 1) + 2).toNat, by omega⟩
  rw [hq, wPut_setW _ _ _ _ (by omega)]
  refine setW_ext fun j _ => ?_
  by_cases e : j = q
  · subst e
    have hc : (j : Int) < 4 + t + 3 * s := by omega
    rw [if_pos rfl, if_pos hc]
    unfold linkAt
    by_cases c : k = s
    · rw [if_pos c, if_neg (by omega)]
    · rw [if_neg c, if_pos (by omega)]; omega
  · rw [if_neg e]
    by_cases c : (j : Int) < 4 + t + 3 * s
    · rw [if_pos c, if_pos c]
      unfold linkAt
      by_cases d : ((j : Int) - 6 - t) % 3 = 0 ∧ k ≤ ((j : Int) - 6 - t) / 3 ∧ ((j : Int) - 6 - t) / 3 + 1 < s
      · rw [if_pos d, if_pos (by omega)]
      · rw [if_neg d, if_neg (by omega)]
    · rw [if_neg c, if_neg c]
theorem startW_last {t s : Int} (h1 : 1 ≤ t) (h3 : 1 ≤ s) (ws : List Int) (hw : lWords t s ≤ ws.length) : wPut (linkW t s 0 ws) 1 1 = startW t s ws := by
  rw [lWords_ok h1] at hw
  unfold linkW startW
  rw [lWords_ok h1]
  have := wPut_setW (fun j => if (j : Int) < 4 + t + 3 * s then linkAt t s 0 j else ws.getD j 0) ws.length 1 1 (by omega)
  simp only [Int.natCast_one] at this
  rw [this]
  refine setW_ext fun j _ => ?_
  unfold startAt
  by_cases e : j = 1
  · subst e; rw [if_pos rfl, if_pos (by omega), if_pos (by omega)]
  · rw [if_neg e]
    by_cases c : (j : Int) < 4 + t + 3 * s
    · rw [if_pos c, if_pos c, if_neg (by omega)]
    · rw [if_neg c, if_neg c]
end Go.Proofs.Ytpebepjfgnoaaaa
namespace Go.Proofs.Ytpebepjfgnoaaaa
set_option linter.unusedVariables false
set_option linter.unusedSimpArgs false
open Go.RowKit
set_option maxHeartbeats 400000 in
theorem layout_in (n a b : Int) (w : World) : Calls Try.prog 44 #[.int .i64 n, .int .i64 a, .int .i64 b] w fun e w' => e = .returned (.bool (lIn n a b)) ∧ w = w' := by
  by_cases h : a ≤ n
  · by_cases h2 : n ≤ b
    · have e := Lib.hid (show lIn n a b = true by simp [lIn]; omega)
      go_enter Try.func44, Try.ntmps44
      go_wp2
      go_ret
      exact ⟨by rw [e.out]; (first | rfl | (apply retb; first | rfl | (simp; done) | (simp; omega))), rfl⟩
    · have e := Lib.hid (show lIn n a b = false by simp [lIn]; omega)
      have h3 : b < n := by omega
      clear h2
      go_enter Try.func44, Try.ntmps44
      go_wp2
      go_ret
      exact ⟨by rw [e.out]; (first | rfl | (apply retb; first | rfl | (simp; done) | (simp; omega))), rfl⟩
  · have e := Lib.hid (show lIn n a b = false by simp [lIn]; omega)
    have h' : n < a := by omega
    clear h
    go_enter Try.func44, Try.ntmps44
    go_wp2
    go_ret
    exact ⟨by rw [e.out]; (first | rfl | (apply retb; first | rfl | (simp; done) | (simp; omega))), rfl⟩
theorem lIn_iff {n a b : Int} : lIn n a b = true ↔ a ≤ n ∧ n ≤ b := by simp [lIn]
set_option maxHeartbeats 2000000 in
theorem layout_Of (a s t : Int) (w : World) : Calls Try.prog 8 #[.agg #[.int .i64 a, .int .i64 s, .int .i64 t]] w fun e w' =>
    e = .returned (.tuple #[.agg #[.int .i64 (ofT a s t), .int .i64 (ofS a s t)], .int .i64 (ofE a s t)]) ∧ Below w.heap.size w w' := by
  rcases bool_cases (b := cfgOk a s t) with h | h
  · obtain ⟨e1, e2, e3⟩ := of_yes h
    obtain ⟨h1, h2, h3, h4, h5, h6, h7⟩ := cfgOk_of h
    have E1 := Lib.hid e1
    have E2 := Lib.hid e2
    have E3 := Lib.hid e3
    have i1 := Lib.hid (lIn_iff.2 ⟨h1, h2⟩)
    have i2 := Lib.hid (lIn_iff.2 ⟨h4, h5⟩)
    have i3 := Lib.hid (lIn_iff.2 ⟨h6, h7⟩)
    have m : (a % 8 != 0) = false := by rw [h3]; rfl
    clear e1 e2 e3 h
    clear h3
    go_enter Try.func8, Try.ntmps8
    go_wp2_with (go_at_call 44; refine (layout_in _ _ _ _).mono ?_; (first | rw [i1.out] | rw [i2.out] | rw [i3.out]); rintro e w' ⟨rfl, rfl⟩)
    exact bodyPost_ret (v := .tuple #[.agg #[.int .i64 t, .int .i64 s], .int .i64 0]) (by simp [results, Try.results8, go_sem]) rfl ⟨by rw [E1.out, E2.out, E3.out], by (repeat' (first | (with_reducible exact Below.refl _ _) | (with_reducible assumption) | (with_reducible refine below_drewN ?_ _) | (with_reducible refine Below.drew ?_) | (with_reducible refine Below.alloc ?_ ?_ _) | (with_reducible refine Below.setCell ?_ ?_ _) | (with_reducible refine below_via (by assumption) ?_ ?_) | go_size))⟩
  · obtain ⟨e1, e2, e3⟩ := of_no h
    have E1 := Lib.hid e1
    have E2 := Lib.hid e2
    have E3 := Lib.hid e3
    have hn := cfgOk_no h
    clear e1 e2 e3 h
    rcases bool_cases (b := lIn a 8 4096) with i1 | i1
    rotate_left
    · have i1 := Lib.hid i1
      clear hn
      go_enter Try.func8, Try.ntmps8
      go_wp2_with (go_at_call 44; refine (layout_in _ _ _ _).mono ?_; rw [i1.out]; rintro e w' ⟨rfl, rfl⟩)
      exact bodyPost_ret (v := .tuple #[.agg #[.int .i64 0, .int .i64 0], .int .i64 1]) (by simp [results, Try.results8, go_sem]) rfl ⟨by rw [E1.out, E2.out, E3.out], by (repeat' (first | (with_reducible exact Below.refl _ _) | (with_reducible assumption) | (with_reducible refine below_drewN ?_ _) | (with_reducible refine Below.drew ?_) | (with_reducible refine Below.alloc ?_ ?_ _) | (with_reducible refine Below.setCell ?_ ?_ _) | (with_reducible refine below_via (by assumption) ?_ ?_) | go_size))⟩
    obtain ⟨h1, h2⟩ := lIn_iff.1 i1
    have I1 := Lib.hid i1
    clear i1
    by_cases m : a % 8 = 0
    rotate_left
    · have m : (a % 8 != 0) = true := by simpa using m
      clear hn
      go_enter Try.func8, Try.ntmps8
      go_wp2_with (go_at_call 44; refine (layout_in _ _ _ _).mono ?_; rw [I1.out]; rintro e w' ⟨rfl, rfl⟩)
      exact bodyPost_ret (v := .tuple #[.agg #[.int .i64 0, .int .i64 0], .int .i64 1]) (by simp [results, Try.results8, go_sem]) rfl ⟨by rw [E1.out, E2.out, E3.out], by (repeat' (first | (with_reducible exact Below.refl _ _) | (with_reducible assumption) | (with_reducible refine below_drewN ?_ _) | (with_reducible refine Below.drew ?_) | (with_reducible refine Below.alloc ?_ ?_ _) | (with_reducible refine Below.setCell ?_ ?_ _) | (with_reducible refine below_via (by assumption) ?_ ?_) | go_size))⟩
    have m' : (a % 8 != 0) = false := by rw [m]; rfl
    rcases bool_cases (b := lIn s 1 64) with i2 | i2
    rotate_left
    · have i2 := Lib.hid i2
      clear hn m
      go_enter Try.func8, Try.ntmps8
      go_wp2_with (go_at_call 44; refine (layout_in _ _ _ _).mono ?_; (first | rw [I1.out] | rw [i2.out]); rintro e w' ⟨rfl, rfl⟩)
      exact bodyPost_ret (v := .tuple #[.agg #[.int .i64 0, .int .i64 0], .int .i64 1]) (by simp [results, Try.results8, go_sem]) rfl ⟨by rw [E1.out, E2.out, E3.out], by (repeat' (first | (with_reducible exact Below.refl _ _) | (with_reducible assumption) | (with_reducible refine below_drewN ?_ _) | (with_reducible refine Below.drew ?_) | (with_reducible refine Below.alloc ?_ ?_ _) | (with_reducible refine Below.setCell ?_ ?_ _) | (with_reducible refine below_via (by assumption) ?_ ?_) | go_size))⟩
    have i3 : lIn t 1 4 = false := by
      have := lIn_iff.1 i2
      rcases bool_cases (b := lIn t 1 4) with i3 | i3
      · exact absurd ⟨h1, h2, m, this.1, this.2, (lIn_iff.1 i3).1, (lIn_iff.1 i3).2⟩ hn
      · exact i3
    have i2 := Lib.hid i2
    have i3 := Lib.hid i3
    clear hn m
    go_enter Try.func8, Try.ntmps8
    go_wp2_with (go_at_call 44; refine (layout_in _ _ _ _).mono ?_; (first | rw [I1.out] | rw [i2.out] | rw [i3.out]); rintro e w' ⟨rfl, rfl⟩)
    exact bodyPost_ret (v := .tuple #[.agg #[.int .i64 0, .int .i64 0], .int .i64 1]) (by simp [results, Try.results8, go_sem]) rfl ⟨by rw [E1.out, E2.out, E3.out], by (repeat' (first | (with_reducible exact Below.refl _ _) | (with_reducible assumption) | (with_reducible refine below_drewN ?_ _) | (with_reducible refine Below.drew ?_) | (with_reducible refine Below.alloc ?_ ?_ _) | (with_reducible refine Below.setCell ?_ ?_ _) | (with_reducible refine below_via (by assumption) ?_ ?_) | go_size))⟩
set_option maxHeartbeats 400000 in
theorem layout_Words (t s : Int) (w : World) (h : lOk t s) : Calls Try.prog 13 #[.agg #[.int .i64 t, .int .i64 s]] w fun e w' => e = .returned (.int .i64 (lWords t s)) ∧ Below w.heap.size w w' := by
  rcases h with ⟨rfl, rfl⟩ | ⟨h1, h2, h3, h4⟩
  · have e := Lib.hid (show lWords 0 0 = 0 from rfl)
    go_enter Try.func13, Try.ntmps13
    go_wp2
    go_ret
    exact ⟨by rw [e.out]; rfl, by (repeat' (first | (with_reducible exact Below.refl _ _) | (with_reducible assumption) | (with_reducible refine below_drewN ?_ _) | (with_reducible refine Below.drew ?_) | (with_reducible refine Below.alloc ?_ ?_ _) | (with_reducible refine Below.setCell ?_ ?_ _) | (with_reducible refine below_via (by assumption) ?_ ?_) | go_size))⟩
  · have e := Lib.hid (show lWords t s = 4 + t + 3 * s by unfold lWords; rw [if_neg (by omega)])
    have b1 : (t == 0) = false := by simp; omega
    go_enter Try.func13, Try.ntmps13
    go_wp2
    go_ret
    exact ⟨by rw [e.out]; rfl, by (repeat' (first | (with_reducible exact Below.refl _ _) | (with_reducible assumption) | (with_reducible refine below_drewN ?_ _) | (with_reducible refine Below.drew ?_) | (with_reducible refine Below.alloc ?_ ?_ _) | (with_reducible refine Below.setCell ?_ ?_ _) | (with_reducible refine below_via (by assumption) ?_ ?_) | go_size))⟩
set_option maxHeartbeats 400000 in
theorem layout_once (t s n : Int) (w : World) (h : lOk t s) : Calls Try.prog 48 #[.agg #[.int .i64 t, .int .i64 s], .int .i64 n] w fun e w' => e = .returned (.int .i64 (lOnce t n)) ∧ Below w.heap.size w w' := by
  rcases h with ⟨rfl, rfl⟩ | ⟨h1, h2, h3, h4⟩
  · have e := Lib.hid (show lOnce 0 n = -1 from rfl)
    go_enter Try.func48, Try.ntmps48
    go_wp2
    go_ret
    exact ⟨by rw [e.out]; rfl, by (repeat' (first | (with_reducible exact Below.refl _ _) | (with_reducible assumption) | (with_reducible refine below_drewN ?_ _) | (with_reducible refine Below.drew ?_) | (with_reducible refine Below.alloc ?_ ?_ _) | (with_reducible refine Below.setCell ?_ ?_ _) | (with_reducible refine below_via (by assumption) ?_ ?_) | go_size))⟩
  · have e := Lib.hid (show lOnce t n = n by unfold lOnce; rw [if_neg (by omega)])
    have b1 : (t == 0) = false := by simp; omega
    go_enter Try.func48, Try.ntmps48
    go_wp2
    go_ret
    exact ⟨by rw [e.out]; rfl, by (repeat' (first | (with_reducible exact Below.refl _ _) | (with_reducible assumption) | (with_reducible refine below_drewN ?_ _) | (with_reducible refine Below.drew ?_) | (with_reducible refine Below.alloc ?_ ?_ _) | (with_reducible refine Below.setCell ?_ ?_ _) | (with_reducible refine below_via (by assumption) ?_ ?_) | go_size))⟩
set_option maxHeartbeats 400000 in
theorem layout_Note (t s n : Int) (w : World) (h : lOk t s) : Calls Try.prog 14 #[.agg #[.int .i64 t, .int .i64 s], .int .i64 n] w fun e w' => e = .returned (.int .i64 (lNote t n)) ∧ Below w.heap.size w w' := by
  have ht : 0 ≤ t ∧ t ≤ 4 := by rcases h with h | h <;> omega
  obtain ⟨t0, t1⟩ := ht
  by_cases c : 0 ≤ n ∧ n < t
  · have e := Lib.hid (show lNote t n = 4 + n by unfold lNote; rw [if_pos c])
    obtain ⟨c0, c1⟩ := c
    have i := Lib.hid (show lIn n 0 (t - 1) = true from lIn_iff.2 ⟨c0, by omega⟩)
    clear h
    go_enter Try.func14, Try.ntmps14
    go_wp2_with (go_at_call 44; refine (layout_in _ _ _ _).mono ?_; rw [i.out]; rintro e w' ⟨rfl, rfl⟩)
    go_ret
    exact ⟨by rw [e.out]; rfl, by (repeat' (first | (with_reducible exact Below.refl _ _) | (with_reducible assumption) | (with_reducible refine below_drewN ?_ _) | (with_reducible refine Below.drew ?_) | (with_reducible refine Below.alloc ?_ ?_ _) | (with_reducible refine Below.setCell ?_ ?_ _) | (with_reducible refine below_via (by assumption) ?_ ?_) | go_size))⟩
  · have e := Lib.hid (show lNote t n = -1 by unfold lNote; rw [if_neg c])
    have i := Lib.hid (show lIn n 0 (t - 1) = false by simp [lIn]; omega)
    clear h c
    go_enter Try.func14, Try.ntmps14
    go_wp2_with (go_at_call 44; refine (layout_in _ _ _ _).mono ?_; rw [i.out]; rintro e w' ⟨rfl, rfl⟩)
    go_ret
    exact ⟨by rw [e.out]; rfl, by (repeat' (first | (with_reducible exact Below.refl _ _) | (with_reducible assumption) | (with_reducible refine below_drewN ?_ _) | (with_reducible refine Below.drew ?_) | (with_reducible refine Below.alloc ?_ ?_ _) | (with_reducible refine Below.setCell ?_ ?_ _) | (with_reducible refine below_via (by assumption) ?_ ?_) | go_size))⟩
set_option maxHeartbeats 400000 in
theorem layout_of (t s n k : Int) (w : World) (h : lOk t s) (k0 : 0 ≤ k) (k1 : k ≤ 2) : Calls Try.prog 47 #[.agg #[.int .i64 t, .int .i64 s], .int .i64 n, .int .i64 k] w fun e w' => e = .returned (.int .i64 (lOf t s n k)) ∧ Below w.heap.size w w' := by
  have ht : 0 ≤ t ∧ t ≤ 4 ∧ 0 ≤ s ∧ s ≤ 64 := by rcases h with h | h <;> omega
  obtain ⟨t0, t1, s0, s1⟩ := ht
  by_cases c : 0 ≤ n ∧ n < s
  · have e := Lib.hid (show lOf t s n k = 4 + t + 3 * n + k by unfold lOf; rw [if_pos c])
    obtain ⟨c0, c1⟩ := c
    have i := Lib.hid (show lIn n 0 (s - 1) = true from lIn_iff.2 ⟨c0, by omega⟩)
    clear h
    go_enter Try.func47, Try.ntmps47
    go_wp2_with (go_at_call 44; refine (layout_in _ _ _ _).mono ?_; rw [i.out]; rintro e w' ⟨rfl, rfl⟩)
    go_ret
    exact ⟨by rw [e.out]; rfl, by (repeat' (first | (with_reducible exact Below.refl _ _) | (with_reducible assumption) | (with_reducible refine below_drewN ?_ _) | (with_reducible refine Below.drew ?_) | (with_reducible refine Below.alloc ?_ ?_ _) | (with_reducible refine Below.setCell ?_ ?_ _) | (with_reducible refine below_via (by assumption) ?_ ?_) | go_size))⟩
  · have e := Lib.hid (show lOf t s n k = -1 by unfold lOf; rw [if_neg c])
    have i := Lib.hid (show lIn n 0 (s - 1) = false by simp [lIn]; omega)
    clear h c
    go_enter Try.func47, Try.ntmps47
    go_wp2_with (go_at_call 44; refine (layout_in _ _ _ _).mono ?_; rw [i.out]; rintro e w' ⟨rfl, rfl⟩)
    go_ret
    exact ⟨by rw [e.out]; rfl, by (repeat' (first | (with_reducible exact Below.refl _ _) | (with_reducible assumption) | (with_reducible refine below_drewN ?_ _) | (with_reducible refine Below.drew ?_) | (with_reducible refine Below.alloc ?_ ?_ _) | (with_reducible refine Below.setCell ?_ ?_ _) | (with_reducible refine below_via (by assumption) ?_ ?_) | go_size))⟩
set_option maxHeartbeats 400000 in
theorem layout_Frontier (t s : Int) (w : World) (h : lOk t s) : Calls Try.prog 15 #[.agg #[.int .i64 t, .int .i64 s]] w fun e w' => e = .returned (.int .i64 (lOnce t 0)) ∧ Below w.heap.size w w' := by
  have H := Lib.hid h
  clear h
  go_enter Try.func15, Try.ntmps15
  go_wp2_with (go_at_call 48; refine (layout_once _ _ _ _ H.out).mono ?_; rintro e w' ⟨rfl, hb⟩; have hz := hb.size; (try simp only [World.size_alloc, World.size_drew, World.size_setCell, size_drewN] at hz))
  go_ret
  exact ⟨rfl, by (repeat' (first | (with_reducible exact Below.refl _ _) | (with_reducible assumption) | (with_reducible refine below_drewN ?_ _) | (with_reducible refine Below.drew ?_) | (with_reducible refine Below.alloc ?_ ?_ _) | (with_reducible refine Below.setCell ?_ ?_ _) | (with_reducible refine below_via (by assumption) ?_ ?_) | go_size))⟩
set_option maxHeartbeats 400000 in
theorem layout_Stack (t s : Int) (w : World) (h : lOk t s) : Calls Try.prog 16 #[.agg #[.int .i64 t, .int .i64 s]] w fun e w' => e = .returned (.int .i64 (lOnce t 1)) ∧ Below w.heap.size w w' := by
  have H := Lib.hid h
  clear h
  go_enter Try.func16, Try.ntmps16
  go_wp2_with (go_at_call 48; refine (layout_once _ _ _ _ H.out).mono ?_; rintro e w' ⟨rfl, hb⟩; have hz := hb.size; (try simp only [World.size_alloc, World.size_drew, World.size_setCell, size_drewN] at hz))
  go_ret
  exact ⟨rfl, by (repeat' (first | (with_reducible exact Below.refl _ _) | (with_reducible assumption) | (with_reducible refine below_drewN ?_ _) | (with_reducible refine Below.drew ?_) | (with_reducible refine Below.alloc ?_ ?_ _) | (with_reducible refine Below.setCell ?_ ?_ _) | (with_reducible refine below_via (by assumption) ?_ ?_) | go_size))⟩
set_option maxHeartbeats 400000 in
theorem layout_Pending (t s : Int) (w : World) (h : lOk t s) : Calls Try.prog 17 #[.agg #[.int .i64 t, .int .i64 s]] w fun e w' => e = .returned (.int .i64 (lOnce t 2)) ∧ Below w.heap.size w w' := by
  have H := Lib.hid h
  clear h
  go_enter Try.func17, Try.ntmps17
  go_wp2_with (go_at_call 48; refine (layout_once _ _ _ _ H.out).mono ?_; rintro e w' ⟨rfl, hb⟩; have hz := hb.size; (try simp only [World.size_alloc, World.size_drew, World.size_setCell, size_drewN] at hz))
  go_ret
  exact ⟨rfl, by (repeat' (first | (with_reducible exact Below.refl _ _) | (with_reducible assumption) | (with_reducible refine below_drewN ?_ _) | (with_reducible refine Below.drew ?_) | (with_reducible refine Below.alloc ?_ ?_ _) | (with_reducible refine Below.setCell ?_ ?_ _) | (with_reducible refine below_via (by assumption) ?_ ?_) | go_size))⟩
set_option maxHeartbeats 400000 in
theorem layout_Epoch (t s : Int) (w : World) (h : lOk t s) : Calls Try.prog 18 #[.agg #[.int .i64 t, .int .i64 s]] w fun e w' => e = .returned (.int .i64 (lOnce t 3)) ∧ Below w.heap.size w w' := by
  have H := Lib.hid h
  clear h
  go_enter Try.func18, Try.ntmps18
  go_wp2_with (go_at_call 48; refine (layout_once _ _ _ _ H.out).mono ?_; rintro e w' ⟨rfl, hb⟩; have hz := hb.size; (try simp only [World.size_alloc, World.size_drew, World.size_setCell, size_drewN] at hz))
  go_ret
  exact ⟨rfl, by (repeat' (first | (with_reducible exact Below.refl _ _) | (with_reducible assumption) | (with_reducible refine below_drewN ?_ _) | (with_reducible refine Below.drew ?_) | (with_reducible refine Below.alloc ?_ ?_ _) | (with_reducible refine Below.setCell ?_ ?_ _) | (with_reducible refine below_via (by assumption) ?_ ?_) | go_size))⟩
set_option maxHeartbeats 400000 in
theorem layout_Entry (t s n : Int) (w : World) (h : lOk t s) : Calls Try.prog 10 #[.agg #[.int .i64 t, .int .i64 s], .int .i64 n] w fun e w' => e = .returned (.int .i64 (lOf t s n 0)) ∧ Below w.heap.size w w' := by
  have H := Lib.hid h
  clear h
  go_enter Try.func10, Try.ntmps10
  go_wp2_with (go_at_call 47; refine (layout_of _ _ _ _ _ H.out (by decide) (by decide)).mono ?_; rintro e w' ⟨rfl, hb⟩; have hz := hb.size; (try simp only [World.size_alloc, World.size_drew, World.size_setCell, size_drewN] at hz))
  go_ret
  exact ⟨rfl, by (repeat' (first | (with_reducible exact Below.refl _ _) | (with_reducible assumption) | (with_reducible refine below_drewN ?_ _) | (with_reducible refine Below.drew ?_) | (with_reducible refine Below.alloc ?_ ?_ _) | (with_reducible refine Below.setCell ?_ ?_ _) | (with_reducible refine below_via (by assumption) ?_ ?_) | go_size))⟩
set_option maxHeartbeats 400000 in
theorem layout_Size (t s n : Int) (w : World) (h : lOk t s) : Calls Try.prog 11 #[.agg #[.int .i64 t, .int .i64 s], .int .i64 n] w fun e w' => e = .returned (.int .i64 (lOf t s n 1)) ∧ Below w.heap.size w w' := by
  have H := Lib.hid h
  clear h
  go_enter Try.func11, Try.ntmps11
  go_wp2_with (go_at_call 47; refine (layout_of _ _ _ _ _ H.out (by decide) (by decide)).mono ?_; rintro e w' ⟨rfl, hb⟩; have hz := hb.size; (try simp only [World.size_alloc, World.size_drew, World.size_setCell, size_drewN] at hz))
  go_ret
  exact ⟨rfl, by (repeat' (first | (with_reducible exact Below.refl _ _) | (with_reducible assumption) | (with_reducible refine below_drewN ?_ _) | (with_reducible refine Below.drew ?_) | (with_reducible refine Below.alloc ?_ ?_ _) | (with_reducible refine Below.setCell ?_ ?_ _) | (with_reducible refine below_via (by assumption) ?_ ?_) | go_size))⟩
set_option maxHeartbeats 400000 in
theorem layout_Link (t s n : Int) (w : World) (h : lOk t s) : Calls Try.prog 12 #[.agg #[.int .i64 t, .int .i64 s], .int .i64 n] w fun e w' => e = .returned (.int .i64 (lOf t s n 2)) ∧ Below w.heap.size w w' := by
  have H := Lib.hid h
  clear h
  go_enter Try.func12, Try.ntmps12
  go_wp2_with (go_at_call 47; refine (layout_of _ _ _ _ _ H.out (by decide) (by decide)).mono ?_; rintro e w' ⟨rfl, hb⟩; have hz := hb.size; (try simp only [World.size_alloc, World.size_drew, World.size_setCell, size_drewN] at hz))
  go_ret
  exact ⟨rfl, by (repeat' (first | (with_reducible exact Below.refl _ _) | (with_reducible assumption) | (with_reducible refine below_drewN ?_ _) | (with_reducible refine Below.drew ?_) | (with_reducible refine Below.alloc ?_ ?_ _) | (with_reducible refine Below.setCell ?_ ?_ _) | (with_reducible refine below_via (by assumption) ?_ ?_) | go_size))⟩
end Go.Proofs.Ytpebepjfgnoaaaa
