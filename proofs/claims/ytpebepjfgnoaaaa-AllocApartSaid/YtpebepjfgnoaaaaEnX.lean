/- entry.changed, whatever it is handed. -/
import Derived.StillTailTactics
import Derived.Test.YtpebepjfgnoaaaaEnU
namespace Go.Proofs.Ytpebepjfgnoaaaa
set_option linter.unusedVariables false
set_option linter.unusedSimpArgs false
open Go.RowKit
def eCells (o g p u : Int) (l a : Bool) : Array Value := #[.int .i64 o, .int .i64 g, .int .i64 p, .int .i64 u, .bool l, .bool a]
def eChg (code o g p u : Int) (l a : Bool) : Int × Int := if code = 0 then ePack o g p u l a else (0, code)
end Go.Proofs.Ytpebepjfgnoaaaa
namespace Go.Proofs.Ytpebepjfgnoaaaa
set_option linter.unusedVariables false
set_option linter.unusedSimpArgs false
open Go.RowKit
/-- what a change of a word comes to. -/
def eTurn (x code o g p u : Int) (l a : Bool) : Int × Int := if eIs x = true then (if wA x = true then eChg code o g p u l a else (0, 1)) else (0, 2)
theorem eTurn_live {x code o g p u : Int} {l a : Bool} (h : eIs x = true) (ha : wA x = true) : eTurn x code o g p u l a = eChg code o g p u l a := by unfold eTurn; rw [if_pos h, if_pos ha]
theorem eTurn_dead {x code o g p u : Int} {l a : Bool} (h : eIs x = true) (ha : wA x = false) : eTurn x code o g p u l a = (0, 1) := by unfold eTurn; rw [if_pos h, if_neg (by rw [ha]; decide)]
theorem eTurn_bad {x code o g p u : Int} {l a : Bool} (h : eIs x = false) : eTurn x code o g p u l a = (0, 2) := by unfold eTurn; rw [if_neg (by rw [h]; decide)]
theorem eIs_of {x : Int} (h : eIs x = true) : (0 ≤ x ∧ x < 1125899906842624) ∧ eMay (wO x) (wG x) (wP x) (wU x) (wL x) (wA x) = true := by simpa [eIs] using h
def pinCode (x : Int) : Int := if wL x = true then 1 else if wP x = 7 then 7 else 0
def unpinCode (x : Int) : Int := if wP x = 0 then 8 else 0
theorem w_bds (x : Int) : 0 ≤ wO x ∧ wO x < 1048576 ∧ 0 ≤ wG x ∧ wG x < 1048576 ∧ 0 ≤ wP x ∧ wP x < 16 ∧ 0 ≤ wU x ∧ wU x < 16 := by
  unfold wO wG wP wU; omega
def ePin (x : Int) : Int × Int := eTurn x (pinCode x) (wO x) (wG x) (if pinCode x = 0 then wP x + 1 else wP x) (wU x) (wL x) true
def eUnpin (x : Int) : Int × Int := eTurn x (unpinCode x) (wO x) (wG x) (if unpinCode x = 0 then wP x - 1 else wP x) (wU x) (wL x) true
def guardCode (b : Int) : Int := if b < -15 ∨ 15 < b then 1 else 0
def eLock (x : Int) (y : Bool) : Int × Int := eTurn x 0 (wO x) (wG x) (wP x) (wU x) y true
def eMove (x : Int) (y : Int) : Int × Int := eTurn x 0 y (wG x) (wP x) (wU x) false true
def eGuard (x : Int) (y : Int) : Int × Int := eTurn x (guardCode y) (wO x) (wG x) (wP x) (if guardCode y = 0 then wU x + y else wU x) (wL x) true
end Go.Proofs.Ytpebepjfgnoaaaa
namespace Go.Proofs.Ytpebepjfgnoaaaa
set_option linter.unusedVariables false
set_option linter.unusedSimpArgs false
open Go.RowKit
def nextCode (x : Int) : Int := if 0 < wP x + wU x ∨ wL x = true then 1 else 0
def nextMore (x : Int) : Bool := if nextCode x = 0 then decide (wG x < 1000) else false
def nextCells (x : Int) : Array Value := if nextCode x = 0 then eCells 0 (wG x + bI (decide (wG x < 1000))) 0 0 false false else eCells (wO x) (wG x) (wP x) (wU x) (wL x) true
theorem i64any' (n : Int) (h : -9223372036854775808 ≤ n) (h' : n ≤ 9223372036854775807) : IntKind.i64.wrap n = n := by rw [IntKind.wrap_i64]; omega
/-- what Next comes to: the word, whether there is a generation more, the error. -/
def eNext (x : Int) : Int × Int :=
  if nextCode x = 0 then eTurn x 0 0 (wG x + bI (decide (wG x < 1000))) 0 0 false false else eTurn x (nextCode x) (wO x) (wG x) (wP x) (wU x) (wL x) true
def eNextMore (x : Int) : Bool := if eIs x = true then (if wA x = true then nextMore x else false) else false
end Go.Proofs.Ytpebepjfgnoaaaa
namespace Go.Proofs.Ytpebepjfgnoaaaa
set_option linter.unusedVariables false
set_option linter.unusedSimpArgs false
open Go.RowKit
theorem wL_iff {w : Int} : wL w = true ↔ w / 281474976710656 % 2 = 1 := by simp [wL]
theorem wA_iff {w : Int} : wA w = true ↔ w / 562949953421312 % 2 = 1 := by simp [wA]
theorem bool_of {b c : Bool} (h : b = true ↔ c = true) : b = c := by cases b <;> cases c <;> simp_all
theorem word_in {o g p u : Int} {l a : Bool} (h : 0 ≤ o ∧ o ≤ 4096 ∧ 0 ≤ g ∧ g ≤ 1000 ∧ 0 ≤ p ∧ p ≤ 7 ∧ 0 ≤ u ∧ u ≤ 15) : 0 ≤ eWord o g p u l a ∧ eWord o g p u l a < 1125899906842624 := by
  have hl := bI_bd l
  have ha := bI_bd a
  unfold eWord; omega
theorem word_un {o g p u : Int} {l a : Bool} (h : 0 ≤ o ∧ o ≤ 4096 ∧ 0 ≤ g ∧ g ≤ 1000 ∧ 0 ≤ p ∧ p ≤ 7 ∧ 0 ≤ u ∧ u ≤ 15) :
    wO (eWord o g p u l a) = o ∧ wG (eWord o g p u l a) = g ∧ wP (eWord o g p u l a) = p ∧ wU (eWord o g p u l a) = u ∧ wL (eWord o g p u l a) = l ∧ wA (eWord o g p u l a) = a := by
  have hl := bI_bd l
  have ha := bI_bd a
  refine ⟨?_, ?_, ?_, ?_, ?_, ?_⟩
  · unfold wO eWord; omega
  · unfold wG eWord; omega
  · unfold wP eWord; omega
  · unfold wU eWord; omega
  · apply bool_of; rw [wL_iff]
    have e : eWord o g p u l a / 281474976710656 % 2 = bI l := by unfold eWord; omega
    rw [e]; cases l <;> simp [bI]
  · apply bool_of; rw [wA_iff]
    have e : eWord o g p u l a / 562949953421312 % 2 = bI a := by unfold eWord; omega
    rw [e]; cases a <;> simp [bI]
/-- a word that is packed is that entry's. -/
theorem un_pack {o g p u : Int} {l a : Bool} (h : eMay o g p u l a = true) : eIs (eWord o g p u l a) = true ∧ wO (eWord o g p u l a) = o ∧ wG (eWord o g p u l a) = g ∧ wP (eWord o g p u l a) = p ∧ wU (eWord o g p u l a) = u ∧ wL (eWord o g p u l a) = l ∧ wA (eWord o g p u l a) = a := by
  obtain ⟨h1, h2, h3, h4, h5, h6, h7, h8, -, -⟩ := eMay_of h
  have hh : 0 ≤ o ∧ o ≤ 4096 ∧ 0 ≤ g ∧ g ≤ 1000 ∧ 0 ≤ p ∧ p ≤ 7 ∧ 0 ≤ u ∧ u ≤ 15 := ⟨h1, h2, h3, h4, h5, h6, h7, h8⟩
  obtain ⟨a1, a2, a3, a4, a5, a6⟩ := word_un (l := l) (a := a) hh
  refine ⟨?_, a1, a2, a3, a4, a5, a6⟩
  unfold eIs
  rw [a1, a2, a3, a4, a5, a6, h]
  simp [word_in (l := l) (a := a) hh]
/-- an entry's word is packed as it was. -/
theorem pack_un {w : Int} (h : eIs w = true) : eWord (wO w) (wG w) (wP w) (wU w) (wL w) (wA w) = w := by
  obtain ⟨⟨h0, h1⟩, -⟩ := eIs_of h
  have e1 : bI (wL w) = w / 281474976710656 % 2 := by
    have := @wL_iff w
    cases hl : wL w
    · rw [hl] at this; simp [bI]; simp at this; omega
    · rw [hl] at this; simp [bI]; simp at this; omega
  have e2 : bI (wA w) = w / 562949953421312 % 2 := by
    have := @wA_iff w
    cases hl : wA w
    · rw [hl] at this; simp [bI]; simp at this; omega
    · rw [hl] at this; simp [bI]; simp at this; omega
  unfold eWord
  rw [e1, e2]
  unfold wO wG wP wU
  omega
theorem pack_ok {w : Int} (h : eIs w = true) : ePack (wO w) (wG w) (wP w) (wU w) (wL w) (wA w) = (w, 0) := by
  unfold ePack; rw [if_pos (eIs_of h).2, pack_un h]
theorem ePack_zero {o g p u : Int} {l a : Bool} (h : (ePack o g p u l a).2 ≠ 0) : (ePack o g p u l a).1 = 0 := by
  unfold ePack at h ⊢; split
  · rename_i h1; rw [if_pos h1] at h; exact absurd rfl h
  · rfl
theorem eTurn_zero {x code o g p u : Int} {l a : Bool} (h : (eTurn x code o g p u l a).2 ≠ 0) : (eTurn x code o g p u l a).1 = 0 := by
  unfold eTurn eChg at h ⊢
  split
  · rename_i h1
    rw [if_pos h1] at h
    split
    · rename_i h2
      rw [if_pos h2] at h
      split
      · rename_i h3; rw [if_pos h3] at h; exact ePack_zero h
      · rfl
    · rfl
  · rfl
/-- what a turn that is told OK says. -/
theorem eTurn_ok {x code o g p u : Int} {l a : Bool} (h : (eTurn x code o g p u l a).2 = 0) : eIs x = true ∧ wA x = true ∧ code = 0 ∧ eMay o g p u l a = true ∧ eTurn x code o g p u l a = (eWord o g p u l a, 0) := by
  unfold eTurn eChg ePack at h ⊢
  split at h
  · rename_i h1
    split at h
    · rename_i h2
      split at h
      · rename_i h3
        split at h
        · rename_i h4
          exact ⟨h1, h2, h3, h4, by rw [if_pos h1, if_pos h2, if_pos h3, if_pos h4]⟩
        · exact absurd h (by decide)
      · rename_i h3; exact absurd h h3
    · exact absurd h (by decide)
  · exact absurd h (by decide)
theorem pins_all {x : Int} (h : (ePin x).2 = 0) : ∃ v, ePin x = (v, 0) ∧ eUnpin v = (x, 0) ∧ eLock v true = (0, 1) ∧ eNext v = (0, 1) := by
  obtain ⟨h1, h2, h3, h4, h5⟩ := eTurn_ok h
  have hc : (if pinCode x = 0 then wP x + 1 else wP x) = wP x + 1 := by rw [if_pos h3]
  rw [hc] at h4 h5
  have hl : wL x = false := by
    unfold pinCode at h3
    cases hl : wL x
    · rfl
    · rw [hl] at h3; simp at h3
  obtain ⟨u1, u2, u3, u4, u5, u6, u7⟩ := un_pack h4
  have pb := eMay_of h4
  have wb := w_bds x
  refine ⟨_, by unfold ePin; rw [hc]; exact h5, ?_, ?_, ?_⟩
  · have hu : unpinCode (eWord (wO x) (wG x) (wP x + 1) (wU x) (wL x) true) = 0 := by unfold unpinCode; rw [u4, if_neg (by omega)]
    unfold eUnpin eTurn eChg
    rw [if_pos u1, u7, if_pos rfl, hu, if_pos rfl, if_pos rfl, u2, u3, u4, u5, u6]
    have e : wP x + 1 - 1 = wP x := by omega
    rw [e]
    have := pack_ok h1
    rw [h2] at this
    exact this
  · unfold eLock eTurn eChg
    rw [if_pos u1, u7, if_pos rfl, if_pos rfl, u2, u3, u4, u5]
    unfold ePack
    rw [if_neg]
    intro hm
    have := (eMay_of hm).2.2.2.2.2.2.2.2.1 rfl
    omega
  · have hn : nextCode (eWord (wO x) (wG x) (wP x + 1) (wU x) (wL x) true) = 1 := by unfold nextCode; rw [u4, u5, if_pos (Or.inl (by omega))]
    unfold eNext
    rw [hn, if_neg (by decide)]
    unfold eTurn eChg
    rw [if_pos u1, u7, if_pos rfl, if_neg (by decide)]
theorem guards_all {x n : Int} (h : (eGuard x n).2 = 0) : ∃ v, eGuard x n = (v, 0) ∧ eGuard v (-n) = (x, 0) ∧ -15 ≤ n ∧ n ≤ 15 := by
  obtain ⟨h1, h2, h3, h4, h5⟩ := eTurn_ok h
  have hc : (if guardCode n = 0 then wU x + n else wU x) = wU x + n := by rw [if_pos h3]
  rw [hc] at h4 h5
  obtain ⟨u1, u2, u3, u4, u5, u6, u7⟩ := un_pack h4
  have hn : -15 ≤ n ∧ n ≤ 15 := by
    unfold guardCode at h3
    by_cases c : n < -15 ∨ 15 < n
    · rw [if_pos c] at h3; exact absurd h3 (by decide)
    · omega
  refine ⟨_, by unfold eGuard; rw [hc]; exact h5, ?_, hn.1, hn.2⟩
  have hg : guardCode (-n) = 0 := by unfold guardCode; rw [if_neg (by omega)]
  unfold eGuard eTurn eChg
  rw [if_pos u1, u7, if_pos rfl, hg, if_pos rfl, if_pos rfl, u2, u3, u4, u5, u6]
  have e : wU x + n + -n = wU x := by omega
  rw [e]
  have := pack_ok h1
  rw [h2] at this
  exact this
/-- is it the entry's word of that generation, that is live? -/
def fresh (x ge : Int) : Bool := decide (eOk x = 0) && (uA x && decide (uG x = ge))
theorem fresh_word {o g p u ge : Int} {a : Bool} (h : eMay o g p u false a = true) : fresh (eWord o g p u false a) ge = (a && decide (g = ge)) := by
  obtain ⟨i, x1, x2, x3, x4, x5, x6⟩ := un_pack h
  obtain ⟨u1, u2, u3, u4, u5, u6, u7⟩ := u_yes i
  unfold fresh; rw [u7, u6, u2, x2, x6]; simp
theorem lock_word {o g p u : Int} {a : Bool} (h : eMay o g p u false a = true) : uL (eWord o g p u false a) = false := by
  obtain ⟨i, x1, x2, x3, x4, x5, x6⟩ := un_pack h
  obtain ⟨u1, u2, u3, u4, u5, u6, u7⟩ := u_yes i
  rw [u5, x5]
end Go.Proofs.Ytpebepjfgnoaaaa
