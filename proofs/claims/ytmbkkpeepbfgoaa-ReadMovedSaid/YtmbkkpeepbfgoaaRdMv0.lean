/- The read law ReadMoved, in numbers. -/
import Derived.Test.YtmbkkpeepbfgoaaRdG0
namespace Go.Proofs.Ytmbkkpeepbfgoaa
set_option linter.unusedVariables false
set_option linter.unusedSimpArgs false
open Go.RowKit
def mvW0 : List Int := [0, 1, 0, 0, 0, 0, 0, 0]
def mvW1 : List Int := [0, 1, 0, 0, 0, 562949953421328, 0, 0]
def mvW2 : List Int := [0, 1, 0, 0, 0, 562949953421328, 8, 0]
def mvW3 : List Int := [0, 1, 0, 0, 0, 562949953421312, 8, 0]
def mvW4 : List Int := [0, 1, 0, 0, 0, 1048576, 8, 0]
theorem mv_0 : initW 1 1 = mvW0 := by decide
theorem mv_1 : wPut mvW0 5 562949953421328 = mvW1 := by decide
theorem mv_2 : wPut mvW1 6 8 = mvW2 := by decide
theorem mv_3 : wPut mvW2 5 562949953421312 = mvW3 := by decide
theorem mv_4 : wPut mvW3 5 1048576 = mvW4 := by decide
def mvB0 : List Int := [0, 0, 0, 0, 0, 0, 0, 0, 0, 0, 0, 0, 0, 0, 0, 0, 0, 0, 0, 0, 0, 0, 0, 0, 0, 0, 0, 0, 0, 0, 0, 0]
theorem mv_b0 : List.replicate (32 : Int).toNat (0 : Int) = mvB0 := by decide
def mvB1 (off v : Int) : List Int := wPut mvB0 (16 + off) v
def mvB2 (off v : Int) : List Int := wPut (mvB1 off v) off v
def mvB3 (off v u : Int) : List Int := wPut (mvB2 off v) (16 + off) u
theorem bok_put {bs : List Int} (h : BOk bs) (k v : Int) (hv : 0 ≤ v ∧ v < 256) : BOk (wPut bs k v) := by
  refine ⟨by rw [wPut_len]; exact h.1, fun x hx => ?_⟩
  unfold wPut at hx
  split at hx
  · rcases List.mem_or_eq_of_mem_set hx with hx | hx
    · exact h.2 x hx
    · subst hx; exact hv
  · exact h.2 x hx
theorem mvB0_ok : BOk mvB0 := by unfold BOk mvB0; decide
/-- the machine behind k steps. -/
def mvQ (v : Int) : Nat → RdS
  | 0 => rdN
  | 1 => ⟨2, 16, 0, 0, 0, false, true, 0, 0⟩
  | 2 => ⟨3, 16, 0, 0, 0, false, true, 0, 0⟩
  | 3 => ⟨4, 16, 0, 0, 0, false, true, 0, v⟩
  | _ => ⟨0, 16, 0, 0, 0, false, true, 0, v⟩
theorem mvQ_in (v : Int) (k : Nat) : RdIn (mvQ v k) := by
  rcases k with _ | _ | _ | _ | k <;> unfold mvQ RdIn rdN <;> simp
section
variable {t s sl ge off v O S : Int} {ws bs : List Int}
theorem rd_look (hv : wAt ws (lOf t s sl 0) = v) (hf : fresh v ge = true) (hl : uL v = false) (ho : uO v = O) (a b c d : Int) (x y : Bool) (e f : Int) : rdF t s sl ge false off ws bs ⟨1, a, b, c, d, x, y, e, f⟩ = (⟨2, O, uG v, uP v, uU v, false, uA v, e, f⟩, (0, 0), false) := by
  unfold rdF rdStep
  simp only [hv, hf, hl, ho, if_true, if_false, reduceCtorEq, if_neg (by decide : ¬ (1 : Int) = 0), Bool.false_eq_true]
theorem rd_gone (hv : wAt ws (lOf t s sl 0) = v) (hf : fresh v ge = false) (a b c d : Int) (x y : Bool) (e f : Int) : rdF t s sl ge false off ws bs ⟨1, a, b, c, d, x, y, e, f⟩ = (⟨0, a, b, c, d, x, y, e, f⟩, (4, 0), true) := by
  unfold rdF rdStep
  simp only [hv, hf, if_true, if_false, reduceCtorEq, if_neg (by decide : ¬ (1 : Int) = 0), Bool.false_eq_true]
theorem rd_meas (hs : wAt ws (lOf t s sl 1) = S) (hc : ¬ (off < 0 ∨ S ≤ off)) (o a b c d e : Int) (x y : Bool) : rdF t s sl ge false off ws bs ⟨2, o, a, b, c, x, y, d, e⟩ = (⟨3, o, a, b, c, x, y, 0, 0⟩, (0, 0), false) := by
  unfold rdF rdStep
  simp only [hs, if_true, if_neg hc, if_neg (by decide : ¬ (2 : Int) = 0), if_neg (by decide : ¬ (2 : Int) = 1)]
theorem rd_fetch (o a b c d e : Int) (x y : Bool) : rdF t s sl ge false off ws bs ⟨3, o, a, b, c, x, y, d, e⟩ = (⟨4, o, a, b, c, x, y, d, wAt bs (wrap64 (o + off))⟩, (0, 0), false) := by
  unfold rdF rdStep
  simp only [if_true, if_neg (by decide : ¬ (3 : Int) = 0), if_neg (by decide : ¬ (3 : Int) = 1), if_neg (by decide : ¬ (3 : Int) = 2)]
theorem rd_again (hv : wAt ws (lOf t s sl 0) = v) (hf : fresh v ge = true) (hl : uL v = false) (ho : uO v = O) (a b c d e : Int) (x y : Bool) : rdF t s sl ge false off ws bs ⟨4, O, a, b, c, x, y, d, e⟩ = (⟨0, O, a, b, c, x, y, d, e⟩, (d, e), true) := by
  unfold rdF rdStep
  simp only [hv, hf, hl, ho, if_true, if_neg (by decide : ¬ (4 : Int) = 0), if_neg (by decide : ¬ (4 : Int) = 1), if_neg (by decide : ¬ (4 : Int) = 2), if_neg (by decide : ¬ (4 : Int) = 3), decide_true, Bool.not_false, Bool.and_self]
theorem rd_back (hv : wAt ws (lOf t s sl 0) = v) (o : Int) (hf : (fresh v ge && (decide (uO v = o) && !uL v)) = false) (a b c d e : Int) (x y : Bool) : rdF t s sl ge false off ws bs ⟨4, o, a, b, c, x, y, d, e⟩ = (⟨1, o, a, b, c, x, y, d, e⟩, (0, 0), false) := by
  unfold rdF rdStep
  simp only [hv, hf, if_true, if_false, Bool.false_eq_true, if_neg (by decide : ¬ (4 : Int) = 0), if_neg (by decide : ¬ (4 : Int) = 1), if_neg (by decide : ¬ (4 : Int) = 2), if_neg (by decide : ¬ (4 : Int) = 3)]
end
theorem mv_in (k : Int) (h0 : 0 ≤ k) (h1 : k < 32) : wIn mvB0 k = true := by rw [wIn_iff]; unfold mvB0; exact ⟨h0, by simpa using h1⟩
theorem mv_w (o off : Int) (h0 : 0 ≤ off) (h1 : off ≤ 7) (ho : 0 ≤ o ∧ o ≤ 16) : wrap64 (o + off) = o + off := by unfold wrap64; omega
theorem mv_at1 {off v : Int} (h0 : 0 ≤ off) (h1 : off ≤ 7) : wAt (mvB1 off v) (16 + off) = v := by unfold mvB1; exact wAt_put_same (mv_in _ (by omega) (by omega))
theorem mv_at3 {off v u : Int} (h0 : 0 ≤ off) (h1 : off ≤ 7) : wAt (mvB3 off v u) (0 + off) = v := by
  unfold mvB3 mvB2 mvB1
  rw [Int.zero_add, wAt_put_ne (by omega), wAt_put_same (by rw [wIn_put]; exact mv_in _ (by omega) (by omega))]
theorem mv_step {off v : Int} (h0 : 0 ≤ off) (h1 : off ≤ 7) (k : Nat) (hk : k < 3) : rdStep 1 1 0 0 false off mvW2 (mvB1 off v) (mvQ v k) = (mvQ v (k + 1), (0, 0), false) := by
  rcases k with _ | _ | _ | k
  · exact rd_look (v := 562949953421328) (O := 16) (by decide) (by decide) (by decide) (by decide) _ _ _ _ _ _ _ _
  · exact rd_meas (S := 8) (by decide) (by omega) _ _ _ _ _ _ _ _
  · have := rd_fetch (t := 1) (s := 1) (sl := 0) (ge := 0) (off := off) (ws := mvW2) (bs := mvB1 off v) 16 0 0 0 0 0 false true
    rw [mv_w 16 off h0 h1 (by omega), mv_at1 h0 h1] at this
    exact this
  · omega
theorem mv_last {off v : Int} : rdStep 1 1 0 0 false off mvW2 (mvB1 off v) (mvQ v 3) = (mvQ v 4, (0, v), true) :=
  rd_again (v := 562949953421328) (O := 16) (by decide) (by decide) (by decide) (by decide) _ _ _ _ _ _ _
section
variable {off v u : Int} (h0 : 0 ≤ off) (h1 : off ≤ 7)
include h0 h1
theorem mv_from1 (most k : Nat) (a b c d : Int) (x y : Bool) (e f : Int) : (mRun (rdF 1 1 0 0 false off mvW3 (mvB3 off v u)) most (k + 4) ⟨1, a, b, c, d, x, y, e, f⟩).2.1 = (0, v) := by
  have e1 := rd_look (off := off) (bs := mvB3 off v u) (t := 1) (s := 1) (sl := 0) (ge := 0) (ws := mvW3) (v := 562949953421312) (O := 0) (by decide) (by decide) (by decide) (by decide) a b c d x y e f
  rw [mRun_more (by rw [e1]), e1]
  have e2 := rd_meas (off := off) (bs := mvB3 off v u) (t := 1) (s := 1) (sl := 0) (ge := 0) (ws := mvW3) (S := 8) (by decide) (by omega) 0 (uG 562949953421312) (uP 562949953421312) (uU 562949953421312) e f false (uA 562949953421312)
  rw [mRun_more (by rw [e2]), e2]
  have e3 := rd_fetch (off := off) (bs := mvB3 off v u) (t := 1) (s := 1) (sl := 0) (ge := 0) (ws := mvW3) 0 (uG 562949953421312) (uP 562949953421312) (uU 562949953421312) 0 0 false (uA 562949953421312)
  rw [mv_w 0 off h0 h1 (by omega), mv_at3 h0 h1] at e3
  rw [mRun_more (by rw [e3]), e3]
  have e4 := rd_again (off := off) (bs := mvB3 off v u) (t := 1) (s := 1) (sl := 0) (ge := 0) (ws := mvW3) (v := 562949953421312) (O := 0) (by decide) (by decide) (by decide) (by decide) (uG 562949953421312) (uP 562949953421312) (uU 562949953421312) 0 v false (uA 562949953421312)
  rw [mRun_done (by rw [e4]), e4]
theorem mv_back3 (most k : Nat) (n : Int) : (mRun (rdF 1 1 0 0 false off mvW3 (mvB3 off v u)) most (k + 5) ⟨4, 16, 0, 0, 0, false, true, 0, n⟩).2.1 = (0, v) := by
  have e1 := rd_back (off := off) (bs := mvB3 off v u) (t := 1) (s := 1) (sl := 0) (ge := 0) (ws := mvW3) (v := 562949953421312) (by decide) 16 (by decide) 0 0 0 0 n false true
  rw [mRun_more (by rw [e1]), e1]
  exact mv_from1 h0 h1 most k _ _ _ _ _ _ _ _
theorem mv_back2 (most k : Nat) : (mRun (rdF 1 1 0 0 false off mvW3 (mvB3 off v u)) most (k + 6) ⟨3, 16, 0, 0, 0, false, true, 0, 0⟩).2.1 = (0, v) := by
  have e1 := rd_fetch (off := off) (bs := mvB3 off v u) (t := 1) (s := 1) (sl := 0) (ge := 0) (ws := mvW3) 16 0 0 0 0 0 false true
  rw [mRun_more (by rw [e1]), e1]
  exact mv_back3 h0 h1 most k _
theorem mv_run (k : Nat) (hk : k < 4) : (mRun (rdF 1 1 0 0 false off mvW3 (mvB3 off v u)) 10 10 (mvQ v k)).2.1 = (0, v) := by
  rcases k with _ | _ | _ | _ | k
  · exact mv_from1 h0 h1 10 6 _ _ _ _ _ _ _ _
  · have e1 := rd_meas (off := off) (bs := mvB3 off v u) (t := 1) (s := 1) (sl := 0) (ge := 0) (ws := mvW3) (S := 8) (by decide) (by omega) 16 0 0 0 0 0 false true
    show (mRun (rdF 1 1 0 0 false off mvW3 (mvB3 off v u)) 10 (9 + 1) ⟨2, 16, 0, 0, 0, false, true, 0, 0⟩).2.1 = _
    rw [mRun_more (by rw [e1]), e1]
    exact mv_back2 h0 h1 10 3
  · exact mv_back2 h0 h1 10 4
  · exact mv_back3 h0 h1 10 5 _
  · omega
theorem mvg_back3 (most k : Nat) (n : Int) : (mRun (rdF 1 1 0 0 false off mvW4 (mvB3 off v u)) most (k + 2) ⟨4, 16, 0, 0, 0, false, true, 0, n⟩).2.1 = (4, 0) := by
  have _u := And.intro h0 h1
  have e1 := rd_back (off := off) (bs := mvB3 off v u) (t := 1) (s := 1) (sl := 0) (ge := 0) (ws := mvW4) (v := 1048576) (by decide) 16 (by decide) 0 0 0 0 n false true
  rw [mRun_more (by rw [e1]), e1]
  have e2 := rd_gone (off := off) (bs := mvB3 off v u) (t := 1) (s := 1) (sl := 0) (ge := 0) (ws := mvW4) (v := 1048576) (by decide) (by decide) 16 0 0 0 false true 0 n
  rw [mRun_done (by rw [e2]), e2]
theorem mvg_back2 (most k : Nat) : (mRun (rdF 1 1 0 0 false off mvW4 (mvB3 off v u)) most (k + 3) ⟨3, 16, 0, 0, 0, false, true, 0, 0⟩).2.1 = (4, 0) := by
  have e1 := rd_fetch (off := off) (bs := mvB3 off v u) (t := 1) (s := 1) (sl := 0) (ge := 0) (ws := mvW4) 16 0 0 0 0 0 false true
  rw [mRun_more (by rw [e1]), e1]
  exact mvg_back3 h0 h1 most k _
theorem mv_gone (k : Nat) (hk : k < 4) : (mRun (rdF 1 1 0 0 false off mvW4 (mvB3 off v u)) 10 10 (mvQ v k)).2.1 = (4, 0) := by
  rcases k with _ | _ | _ | _ | k
  · have e2 := rd_gone (off := off) (bs := mvB3 off v u) (t := 1) (s := 1) (sl := 0) (ge := 0) (ws := mvW4) (v := 1048576) (by decide) (by decide) 0 0 0 0 false false 0 0
    show (mRun (rdF 1 1 0 0 false off mvW4 (mvB3 off v u)) 10 (9 + 1) ⟨1, 0, 0, 0, 0, false, false, 0, 0⟩).2.1 = _
    rw [mRun_done (by rw [e2]), e2]
  · have e1 := rd_meas (off := off) (bs := mvB3 off v u) (t := 1) (s := 1) (sl := 0) (ge := 0) (ws := mvW4) (S := 8) (by decide) (by omega) 16 0 0 0 0 0 false true
    show (mRun (rdF 1 1 0 0 false off mvW4 (mvB3 off v u)) 10 (9 + 1) ⟨2, 16, 0, 0, 0, false, true, 0, 0⟩).2.1 = _
    rw [mRun_more (by rw [e1]), e1]
    exact mvg_back2 h0 h1 10 6
  · exact mvg_back2 h0 h1 10 7
  · exact mvg_back3 h0 h1 10 8 _
  · omega
end
theorem mv_n (x : Nat) (off : Int) : rdNews 32 1 1 1099511627776 off x = rdG x 1 1 0 0 false off rdN := by
  have h1 : ofT 32 1 1 = 1 := by decide
  have h2 : ofS 32 1 1 = 1 := by decide
  have h3 : hOf 1099511627776 1 = (0, 0, 0) := by decide
  have h4 : cfgOk 32 1 1 = true := by decide
  unfold rdNews; rw [h1, h2, h3, h4]; rfl
end Go.Proofs.Ytmbkkpeepbfgoaa
