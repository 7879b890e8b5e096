/- The layout law LayoutStarts. -/
import Derived.RegionTactic
import Derived.BigRegion
import Derived.Test.YtdhbncjnlkhkdaaLyL
import Derived.Test.YtdhbncjnlkhkdaaLyR2
import Derived.Test.YtdhbncjnlkhkdaaLyAgain
namespace Go.Proofs.Ytdhbncjnlkhkdaa
set_option linter.unusedVariables false
set_option linter.unusedSimpArgs false
open Go.RowKit
set_option maxRecDepth 100000 in
set_option maxHeartbeats 4000000 in
theorem LayoutStarts_out (a s t n b J : Int) (W : World) (h : ¬ (1 ≤ n ∧ n ≤ 400 ∧ 0 ≤ b ∧ b ≤ 4096)) : Calls Try.prog 8 #[.agg #[.int .i64 a, .int .i64 s, .int .i64 t, .int .i64 n, .int .i64 b, .int .i64 J]] W fun e w' => e = .returned (.bool true) ∧ Below W.heap.size W w' := by
  have hcases : n < 1 ∨ (1 ≤ n ∧ 400 < n) ∨ (1 ≤ n ∧ n ≤ 400 ∧ b < 0) ∨ (1 ≤ n ∧ n ≤ 400 ∧ 0 ≤ b ∧ 4096 < b) := by omega
  clear h
  rcases hcases with h1 | ⟨h1, h2⟩ | ⟨h1, h2, h3⟩ | ⟨h1, h2, h3, h4⟩
  all_goals
    go_enter Try.func8, Try.ntmps8
    go_wp2_with fail
    have hO := (Owns.nil W).more (.cells #[.int .i64 a, .int .i64 s, .int .i64 t, .int .i64 n, .int .i64 b, .int .i64 J] 45)
    go_region
    all_goals
      go_wp2_with (go_at_call 11; refine (law06_live _).mono ?_; rintro e w9 ⟨rfl, hb⟩; have hz := hb.size; (try simp only [World.size_alloc, World.size_drew, World.size_setCell, size_drewN] at hz))
      go_ret
      exact ⟨rfl, by (repeat' (first | (with_reducible exact Below.refl _ _) | (with_reducible assumption) | (with_reducible refine below_drewN ?_ _) | (with_reducible refine Below.drew ?_) | (with_reducible refine Below.alloc ?_ ?_ _) | (with_reducible refine Below.setCell ?_ ?_ _) | (with_reducible refine below_via (by assumption) ?_ ?_) | go_size))⟩
def jw (J : Int) (n k : Nat) : List Int := setW (fun j => if j < k then J else 0) n
theorem jw_zero (J : Int) (n : Nat) : List.replicate n 0 = jw J n 0 := by
  unfold jw setW
  apply List.ext_getElem?
  intro j
  by_cases h : j < n
  · rw [List.getElem?_replicate, if_pos h, List.getElem?_map, List.getElem?_range h]; simp
  · rw [List.getElem?_eq_none (by simp; omega), List.getElem?_eq_none (by simp; omega)]
theorem jw_step (J : Int) (n k : Nat) (h : k < n) : wPut (jw J n k) (k : Int) J = jw J n (k + 1) := by
  unfold jw
  rw [wPut_setW _ _ _ _ h]
  refine setW_ext fun j _ => ?_
  by_cases e : j = k
  · subst e; rw [if_pos rfl, if_pos (by omega)]
  · rw [if_neg e]
    by_cases c : j < k
    · rw [if_pos c, if_pos (by omega)]
    · rw [if_neg c, if_neg (by omega)]
theorem jw_len (J : Int) (n k : Nat) : (jw J n k).length = n := setW_len _ _
theorem jw_at (J : Int) (n : Nat) (i : Int) (h0 : 0 ≤ i) (h : i < n) : wAt (jw J n n) i = J := by
  unfold jw; rw [wAt_setW, if_pos ⟨h0, h⟩, if_pos (by omega)]
theorem start_at (J : Int) (n : Nat) (t s : Int) (k : Nat) (h : k < n) : wAt (startW t s (jw J n n)) k = if (k : Int) < lWords t s then startAt t s k else J := by
  unfold startW
  rw [wAt_setW, jw_len, if_pos ⟨by omega, by omega⟩, Int.toNat_natCast]
  by_cases c : (k : Int) < lWords t s
  · rw [if_pos c, if_pos c]
  · rw [if_neg c, if_neg c]; unfold jw; rw [setW_get _ _ _ h, if_pos h]
end Go.Proofs.Ytdhbncjnlkhkdaa
