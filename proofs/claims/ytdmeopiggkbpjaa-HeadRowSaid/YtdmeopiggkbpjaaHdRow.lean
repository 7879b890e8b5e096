/- The head law HeadRow. -/
import Derived.Deep.RegionHeld3
import Derived.LoopTactic
import Derived.Test.YtdmeopiggkbpjaaHdR
import Derived.Test.YtdmeopiggkbpjaaFlat
import Derived.Test.YtdmeopiggkbpjaaBase
namespace Go.Proofs.Ytdmeopiggkbpjaa
set_option linter.unusedVariables false
set_option linter.unusedSimpArgs false
open Go.RowKit
theorem hr_int : (Try.prog.info? 3).map (fun i => (i.zero, i.size, i.bytes)) = some (some (.int .i64 0), 1, 8) := by kernel_rfl
theorem hr_below (w : World) (o : Obj) : Below w.heap.size w (w.alloc o) := (Below.refl _ _).alloc (Nat.le_refl _) _
/-- the top behind k pushes. -/
def hrT (xs : List (List Value)) (k : Nat) : Int := if k = 0 then 0 else getI xs (k - 1) 0 + 1
def hrL (xs : List (List Value)) (k : Nat) : List Int := (List.range k).map (hrT xs)
theorem hrL_len (xs : List (List Value)) (k : Nat) : (hrL xs k).length = k := by simp [hrL]
theorem hrL_succ (xs : List (List Value)) (k : Nat) : hrL xs (k + 1) = hrL xs k ++ [hrT xs k] := by simp [hrL, List.range_succ]
theorem hrL_get (xs : List (List Value)) (k i : Nat) (h : i < k) : ((hrL xs k).map (Value.int .i64))[i]? = some (.int .i64 (hrT xs i)) := by simp [hrL, h]
def hrOk (xs : List (List Value)) (k : Nat) : Prop := ∀ j, j < k → 0 ≤ getI xs j 0 ∧ getI xs j 0 ≤ 63
theorem hrT_bd {xs : List (List Value)} {k : Nat} (h : hrOk xs k) : 0 ≤ hrT xs k ∧ hrT xs k ≤ 64 := by
  unfold hrT; split
  · omega
  · have := h (k - 1) (by omega); omega
theorem hr_is {T g : Int} (h0 : 0 ≤ T) (h1 : T ≤ 64) (g0 : 0 ≤ g) (g1 : g ≤ 4294967295) : dIs (T + 1048576 * g) = true ∧ (T + 1048576 * g) % 1048576 = T ∧ (T + 1048576 * g) / 1048576 = g := by
  have e1 : (T + 1048576 * g) % 1048576 = T := by omega
  have e2 : (T + 1048576 * g) / 1048576 = g := by omega
  exact ⟨by unfold dIs; rw [decide_eq_true_eq, e1]; omega, e1, e2⟩
theorem hr_push {xs : List (List Value)} {k : Nat} (h : hrOk xs k) (hk : k ≤ 64) (h0 : 0 ≤ getI xs k 0) (h1 : getI xs k 0 ≤ 63) : dPush (hrT xs k + 1048576 * k) (getI xs k 0) = (hrT xs (k + 1) + 1048576 * ((k + 1 : Nat) : Int), hrT xs k, 0) := by
  have tb := hrT_bd h
  obtain ⟨d1, d2, d3⟩ := hr_is (g := k) tb.1 tb.2 (by omega) (by omega)
  unfold dPush
  rw [if_pos d1, if_pos (by omega), d2, d3]
  have e : dNext (k : Int) = ((k + 1 : Nat) : Int) := by unfold dNext; rw [if_neg (by omega)]; omega
  rw [e]
  have e2 : hrT xs (k + 1) = getI xs k 0 + 1 := by unfold hrT; rw [if_neg (by omega)]; rfl
  rw [e2]
theorem hr_bad {xs : List (List Value)} {k : Nat} (h : hrOk xs k) (hk : k ≤ 64) (h0 : getI xs k 0 < 0 ∨ 63 < getI xs k 0) : dPush (hrT xs k + 1048576 * k) (getI xs k 0) = (0, 0, 1) := by
  have tb := hrT_bd h
  obtain ⟨d1, d2, d3⟩ := hr_is (g := k) tb.1 tb.2 (by omega) (by omega)
  unfold dPush
  rw [if_pos d1, if_neg (by omega)]
theorem hr_pop {xs : List (List Value)} {n q : Nat} (h : hrOk xs n) (hn : n ≤ 64) (hq : q < n) : dPop (hrT xs (q + 1) + 1048576 * (2 * (n : Int) - ((q + 1 : Nat) : Int))) (hrT xs q) = (hrT xs q + 1048576 * (2 * (n : Int) - q), getI xs q 0, 0) := by
  have t1 := hrT_bd (k := q + 1) (fun j hj => h j (by omega))
  have t0 := hrT_bd (k := q) (fun j hj => h j (by omega))
  obtain ⟨d1, d2, d3⟩ := hr_is (g := 2 * (n : Int) - ((q + 1 : Nat) : Int)) t1.1 t1.2 (by omega) (by omega)
  have e2 : hrT xs (q + 1) = getI xs q 0 + 1 := by unfold hrT; rw [if_neg (by omega)]; rfl
  have hx := h q hq
  unfold dPop
  rw [if_pos d1, if_pos (by unfold dTop; rw [decide_eq_true_eq]; exact t0), d2, d3, if_neg (by omega)]
  have e : dNext (2 * (n : Int) - ((q + 1 : Nat) : Int)) = 2 * (n : Int) - q := by unfold dNext; rw [if_neg (by omega)]; omega
  rw [e, e2]
  congr 2; omega
theorem hr_none {n : Nat} (xs : List (List Value)) (hn : n ≤ 64) : dPop (hrT xs 0 + 1048576 * (2 * (n : Int))) 0 = (0, 0, 11) := by
  obtain ⟨d1, d2, d3⟩ := hr_is (T := 0) (g := 2 * (n : Int)) (by decide) (by decide) (by omega) (by omega)
  rw [show hrT xs 0 = 0 from rfl]
  unfold dPop
  rw [if_pos d1, if_pos (by decide), d2, if_pos rfl]
set_option maxRecDepth 100000 in
set_option maxHeartbeats 4000000 in
theorem HeadRow_far (v : Value) (xs : List (List Value)) (W : World) (hs : SArg W [true] v xs) (hn : 64 < xs.length) : Calls Try.prog 7 #[v] W fun e w' => e = .returned (.bool true) ∧ Below W.heap.size W w' := by
  obtain ⟨pa, cap, rfl, hl, hx⟩ := hs.form
  have hP := Owns.nil W
  clear hx hs
  go_enter Try.func7, Try.ntmps7
  go_wp2_with (go_at_call 23; refine (law04_live _).mono ?_; rintro e w2 ⟨rfl, hb⟩; have hO' := hP.via hb; clear hP; have hP := hO'; clear hO')
  go_ret
  exact ⟨rfl, hP.below⟩
set_option maxRecDepth 100000 in
set_option maxHeartbeats 16000000 in
theorem HeadRow_go (v : Value) (xs : List (List Value)) (W : World) (hs : SArg W [true] v xs) (hn : xs.length ≤ 64) : Calls Try.prog 7 #[v] W fun e w' => e = .returned (.bool true) ∧ Below W.heap.size W w' := by
  obtain ⟨pa, cap, rfl, hl, hx⟩ := hs.form
  have HX := Lib.hid hx
  have hP : Owns W.heap.size W W [rowG 3 (.slice none 0 0) []] := by
    have h := Owns.nil W
    have e : ([[]] : List Grp).flatten = ([] : List Grp).flatten := by simp
    unfold Owns
    show _ ∧ _ ∧ (([[]] : List Grp).flatten.map Prod.fst).Nodup ∧ ∀ x ∈ ([[]] : List Grp).flatten, _
    rw [e]; exact h
  have d3 : decide (64 < xs.length) = false := by rw [decide_eq_false_iff_not]; omega
  clear hx hs
  go_enter Try.func7, Try.ntmps7
  go_wp2_with fail
  clear d3
  go_loopw [3, 4, 5] (fun wv lv iv wr => ∃ (k : Nat) (cur : List Value), iv = .int .i64 k ∧ wv = .int .i64 (hrT xs k + 1048576 * k) ∧ k ≤ xs.length ∧ hrOk xs k ∧ RowOk lv ((hrL xs k).map (Value.int .i64)) cur ∧ Owns W.heap.size W wr [rowG 3 lv cur]) (fun _ _ iv _ => xs.length - (intOf iv).toNat)
  case atStart => exact ⟨0, [], rfl, rfl, by omega, fun j hj => by omega, RowOk.nil, hP⟩
  case round =>
    clear hP
    obtain ⟨k, cur, rfl, rfl, hk, hok, hrow, hP⟩ := hrel
    have HOK := Lib.hid hok
    have HROW := Lib.hid hrow
    clear hok hrow
    by_cases hlt : k < xs.length
    · obtain ⟨ib, io, rfl, hib, hI, -⟩ := HX.out k hlt
      have ck := (hI 0 rfl).1
      obtain ⟨x0, x1⟩ := (hI 0 rfl).2
      simp only [List.length_cons, List.length_nil, Nat.mul_one, Nat.add_zero, Nat.zero_add] at ck
      obtain ⟨x, hx⟩ : ∃ x, getI xs k 0 = x := ⟨_, rfl⟩
      rw [hx] at ck x0 x1
      have CW := Lib.hid ck
      have HIB := Lib.hid hib
      have HXX := Lib.hid hx
      obtain ⟨wd, hwd⟩ : ∃ z, hrT xs k + 1048576 * (k : Int) = z := ⟨_, rfl⟩
      obtain ⟨lk, hlk⟩ : ∃ z, hrT xs k = z := ⟨_, rfl⟩
      have HWD := Lib.hid hwd
      have HLK := Lib.hid hlk
      have ck : wr.cell? ⟨ib, io + k, none⟩ = some (.int .i64 x) := (hP.below.cell (p := ⟨ib, io + k, none⟩) hib).trans ck
      rw [hwd]
      clear hI hx hwd hlk
      by_cases hg : 0 ≤ x ∧ x ≤ 63
      rotate_left
      · have HB := Lib.hid (show dPush wd x = (0, 0, 1) by rw [← HWD.out, ← HXX.out]; exact hr_bad HOK.out (by omega) (by rw [HXX.out]; omega))
        have hb2 : x < 0 ∨ (0 ≤ x ∧ 63 < x) := by omega
        clear hg
        rcases hb2 with q1 | ⟨q1, q2⟩
        all_goals
          go_wp2_with fail
          refine (head_Push _ _ _).mono ?_; rw [HB.out]; rintro e w3 ⟨rfl, hb⟩; have hO' := hP.via hb; clear hP; have hP := hO'; clear hO'
          clear ck
          have ck : w3.cell? ⟨ib, io + k, none⟩ = some (.int .i64 x) := (hP.below.cell (p := ⟨ib, io + k, none⟩) HIB.out).trans CW.out
          go_wp2_with (go_at_call 23; refine (law04_live _).mono ?_; rintro e w2 ⟨rfl, hb⟩; have hO' := hP.via hb; clear hP; have hP := hO'; clear hO')
          go_ret
          exact ⟨rfl, hP.below⟩
      · obtain ⟨g0, g1⟩ := hg
        obtain ⟨nw, hnw⟩ : ∃ z, hrT xs (k + 1) + 1048576 * ((k + 1 : Nat) : Int) = z := ⟨_, rfl⟩
        have HB := Lib.hid (show dPush wd x = (nw, lk, 0) by rw [← HWD.out, ← HXX.out, ← HLK.out, ← hnw]; exact hr_push HOK.out (by omega) (by rw [HXX.out]; exact g0) (by rw [HXX.out]; exact g1))
        have HNW := Lib.hid hnw
        clear hnw
        go_wp2_with fail
        refine (head_Push _ _ _).mono ?_; rw [HB.out]; rintro e w3 ⟨rfl, hb⟩; have hO' := hP.via hb; clear hP; have hP := hO'; clear hO'
        clear ck
        go_wp2_with (at_builtin; refine stop_here ?_)
        unfold Stop
        refine wpList_append_row rfl (.tmp 54) (.tmp 56) _ rfl 3 (.int .i64 0) 8 Try.underlying33 hr_int rfl (by decide) rfl (hP.via (hr_below _ _)) 0 rfl HROW.out ⟨_, 0, none⟩ 1 1 [.int .i64 lk] rfl rfl ?n1 ?n2 (by simp) ?n3 ?_
        case n1 => intro j u hj; cases j with
          | zero => simp at hj; subst hj; refine (blk_cell (blk_new _ _) _).trans ?_; simp
          | succ j => simp at hj
        case n2 => intro u hu; simp at hu; subst hu; rfl
        case n3 => rw [List.length_map, hrL_len]; simp; omega
        intro v' cur' w' hr' hO'
        have HR' := Lib.hid hr'
        clear hr'
        clear hP; have hP := hO'; clear hO'
        go_wp2_with fail
        go_roundw
        case rel => exact ⟨k + 1, cur', by go_num, by rw [HNW.out], by omega, fun j hj => by by_cases e : j = k; (rw [e, HXX.out]; exact ⟨g0, g1⟩); exact HOK.out j (by omega), by rw [hrL_succ, List.map_append, HLK.out]; exact HR'.out, hP⟩
        case measure => simp [intOf]; omega
    · have hkn : k = xs.length := by omega
      subst hkn
      clear hlt
      have hgt : decide (xs.length < xs.length) = false := by simp
      have vl : ∃ (pa : Option Addr) (cap : Nat), u4 = .slice pa xs.length cap := by
        rcases HROW.out with ⟨h1, h2, -⟩ | ⟨g, cap, h1, -⟩
        · have hk0 : hrL xs xs.length = [] := by simpa using h2
          have hk1 : xs.length = 0 := by rw [← hrL_len xs xs.length, hk0]; rfl
          exact ⟨none, 0, by rw [h1, hk1]⟩
        · exact ⟨_, cap, by rw [h1, List.length_map, hrL_len]⟩
      go_wp2_with fail
      clear hgt vl
      go_loopw [3, 9] (fun wv iv wr => ∃ (r : Nat) (z : Int), iv = .int .i64 z ∧ z = (r : Int) - 1 ∧ wv = .int .i64 (hrT xs r + 1048576 * (2 * (xs.length : Int) - r)) ∧ r ≤ xs.length ∧ Owns W.heap.size W wr [rowG 3 u4 cur]) (fun _ iv _ => (intOf iv + 1).toNat)
      case atStart => exact ⟨xs.length, _, rfl, by first | rfl | (unfold wrap64; omega), by rw [show 2 * (xs.length : Int) - xs.length = xs.length by omega], by omega, hP⟩
      case round =>
        clear hP
        obtain ⟨r, z, rfl, hz, rfl, hr, hP⟩ := hrel
        cases r with
        | zero =>
          have hz1 : z = -1 := by omega
          subst hz1
          have HB := Lib.hid (show dPop (hrT xs 0 + 1048576 * (2 * (xs.length : Int) - ((0 : Nat) : Int))) 0 = (0, 0, 11) by rw [show 2 * (xs.length : Int) - ((0 : Nat) : Int) = 2 * (xs.length : Int) by omega]; exact hr_none xs hn)
          obtain ⟨wd, hwd⟩ : ∃ w, hrT xs 0 + 1048576 * (2 * (xs.length : Int) - ((0 : Nat) : Int)) = w := ⟨_, rfl⟩
          rw [hwd] at HB ⊢
          clear hwd hz
          go_wp2_with fail
          refine (head_Pop _ _ _).mono ?_; rw [HB.out]; rintro e w3 ⟨rfl, hb⟩; have hO' := hP.via hb; clear hP; have hP := hO'; clear hO'
          go_wp2_with (go_at_call 23; refine (law04_live _).mono ?_; rintro e w2 ⟨rfl, hb⟩; have hO' := hP.via hb; clear hP; have hP := hO'; clear hO')
          go_ret
          exact ⟨rfl, hP.below⟩
        | succ q =>
          have hzq : z = (q : Int) := by omega
          have hq : q < xs.length := by omega
          subst hzq
          obtain ⟨ib, io, rfl, hib, hI, -⟩ := HX.out q (by omega)
          have ck := (hI 0 rfl).1
          obtain ⟨x0, x1⟩ := (hI 0 rfl).2
          simp only [List.length_cons, List.length_nil, Nat.mul_one, Nat.add_zero, Nat.zero_add] at ck
          obtain ⟨x, hx⟩ : ∃ x, getI xs q 0 = x := ⟨_, rfl⟩
          rw [hx] at ck x0 x1
          have CW := Lib.hid ck
          have HIB := Lib.hid hib
          obtain ⟨g, cap2, hv, hcl⟩ := HROW.out.cells hP 0 rfl (by intro h; have := congrArg List.length h; rw [List.length_map, hrL_len, List.length_nil] at this; omega)
          rw [List.length_map, hrL_len] at hv
          subst hv
          obtain ⟨lk, hlk⟩ : ∃ z, hrT xs q = z := ⟨_, rfl⟩
          have cl : wr.cell? ⟨g, q, none⟩ = some (.int .i64 lk) := by rw [← hlk]; exact hcl q _ (hrL_get xs xs.length q (by omega))
          obtain ⟨wd, hwd⟩ : ∃ w, hrT xs (q + 1) + 1048576 * (2 * (xs.length : Int) - ((q + 1 : Nat) : Int)) = w := ⟨_, rfl⟩
          obtain ⟨nw, hnw⟩ : ∃ w, hrT xs q + 1048576 * (2 * (xs.length : Int) - (q : Int)) = w := ⟨_, rfl⟩
          have HB := Lib.hid (show dPop wd lk = (nw, x, 0) by rw [← hwd, ← hlk, ← hnw, ← hx]; exact hr_pop (q := q) HOK.out hn hq)
          have HNW := Lib.hid hnw
          have ex : (x != x) = false := by simp
          rw [hwd]
          clear hI hx hcl hlk hwd hnw hz hr ck hib
          go_wp2_with fail
          refine (head_Pop _ _ _).mono ?_; rw [HB.out]; rintro e w3 ⟨rfl, hb⟩; have hO' := hP.via hb; clear hP; have hP := hO'; clear hO'
          clear cl
          have ck : w3.cell? ⟨ib, io + q, none⟩ = some (.int .i64 x) := (hP.below.cell (p := ⟨ib, io + q, none⟩) HIB.out).trans CW.out
          go_wp2_with fail
          go_roundw
          case rel => exact ⟨q, _, rfl, by first | rfl | go_num | (unfold wrap64; omega), by rw [HNW.out], by omega, hP⟩
          case measure => first | (simp [intOf]; done) | (simp [intOf]; omega)
theorem HeadRow_walk (v : Value) (xs : List (List Value)) (W : World) (hs : SArg W [true] v xs) : Calls Try.prog 7 #[v] W fun e w' => e = .returned (.bool true) ∧ Below W.heap.size W w' := by
  by_cases hn : 64 < xs.length
  · exact HeadRow_far v xs W hs hn
  · exact HeadRow_go v xs W hs (by omega)
end Go.Proofs.Ytdmeopiggkbpjaa
