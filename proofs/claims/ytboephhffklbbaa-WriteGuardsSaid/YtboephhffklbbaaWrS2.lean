/- Write's Step, whole. -/
import Derived.Test.YtboephhffklbbaaWrS
namespace Go.Proofs.Ytboephhffklbbaa
set_option linter.unusedVariables false
set_option linter.unusedSimpArgs false
open Go.RowKit
def WrIn (v : WrV) : Prop := 0 ≤ v.nx ∧ v.nx ≤ 6
theorem wrStep_in (c : WrC) (ws bs : List Int) (v : WrV) (h : WrIn v) : WrIn (wrStep c ws bs v).v := by
  unfold wrStep wrLook
  unfold WrIn at *
  repeat' split
  all_goals first | exact h | (simp only; omega) | simp
theorem wr_Step {B : Nat} {W w : World} {R0 : List Grp} {x p bw bb : Nat} {ws bs : List Int} {n : Int} {c : WrC} {v : WrV} (hO : Owns B W w (memG p bw bb ws bs n :: wrG x c v :: R0)) (hL : lOk c.t c.s) (hl : ws.length ≤ 4096) (hbl : bs.length ≤ 4096) (hv : WrIn v) (q : WrR) (hq : wrStep c ws bs v = q) : Calls Try.prog 17 #[.pointer (some ⟨x, 0, none⟩), memI p] w (WrPost B W R0 x p bw bb c q) := by
  subst hq
  obtain ⟨n0, n6⟩ := hv
  rcases (show v.nx = 0 ∨ v.nx = 1 ∨ v.nx = 2 ∨ v.nx = 3 ∨ v.nx = 4 ∨ v.nx = 5 ∨ v.nx = 6 by omega) with h | h | h | h | h | h | h
  · have e : wrStep c ws bs v = ⟨ws, bs, v, 1, true⟩ := by unfold wrStep; rw [if_pos h]
    rw [e]
    exact wr_Step_0 hO hL hl (by rw [h]; rfl)
  · cases hst : c.st
    · have e : wrStep c ws bs v = if (wrLook c (wAt ws (lOf c.t c.s c.sl 0)) v).2 = true then ⟨ws, bs, { (wrLook c (wAt ws (lOf c.t c.s c.sl 0)) v).1 with nx := 0, g := false }, 4, true⟩ else ⟨ws, bs, (wrLook c (wAt ws (lOf c.t c.s c.sl 0)) v).1, 0, false⟩ := by
        unfold wrStep
        rw [if_neg (by omega), if_pos h, if_neg (by rw [hst]; decide)]
        split
        · rename_i hb
          congr 1
          unfold wrLook at hb ⊢
          split
          · split
            · rename_i h1 h2; exact absurd hb (by rw [if_pos h1, if_pos h2]; exact Bool.false_ne_true)
            · rename_i h1 h2; exact absurd hb (by rw [if_pos h1, if_neg h2]; exact Bool.false_ne_true)
          · rfl
        · rfl
      rw [e]
      exact wr_Step_1 hO hL hl (by rw [h]; rfl) (by rw [h]; rfl) _ _ (fun {w2} {R2} k => wr_look_live k hL hl hst _ rfl _ rfl)
    · have e : wrStep c ws bs v = if true = true then ⟨ws, bs, { v with nx := 0, g := false }, 4, true⟩ else ⟨ws, bs, v, 0, false⟩ := by
        unfold wrStep; rw [if_neg (by omega), if_pos h, if_pos hst]; rfl
      rw [e]
      exact wr_Step_1 hO hL hl (by rw [h]; rfl) (by rw [h]; rfl) true v (fun {w2} {R2} k => (wr_look_stale k hst).mono fun r w' ⟨h1, h2⟩ => ⟨h1, n, h2 ▸ k⟩)
  · have e : wrStep c ws bs v = ⟨wCasPut ws (lOf c.t c.s c.sl 0) v.wd (eGuard v.wd 1).1, bs, { v with nx := if wCas ws (lOf c.t c.s c.sl 0) v.wd = true then 3 else 1, g := if wCas ws (lOf c.t c.s c.sl 0) v.wd = true then true else v.g }, 0, false⟩ := by
      unfold wrStep
      rw [if_neg (by omega), if_neg (by omega), if_pos h]
      split
      · rename_i hc; simp [hc]
      · rename_i hc; simp [hc, wCasPut]
    rw [e]
    exact wr_Step_2 hO hL hl (by rw [h]; rfl) (by rw [h]; rfl) (by rw [h]; rfl) _ rfl _ rfl _ rfl
  · have e : wrStep c ws bs v = if (decide (c.off < 0) || decide (wAt ws (lOf c.t c.s c.sl 1) ≤ c.off)) = true then ⟨ws, bs, { v with nx := 5, kp := 5 }, 0, false⟩ else ⟨ws, bs, { v with nx := 4 }, 0, false⟩ := by
      unfold wrStep
      rw [if_neg (by omega), if_neg (by omega), if_neg (by omega), if_pos h]
      simp only [Bool.or_eq_true, decide_eq_true_eq]
    rw [e]
    exact wr_Step_3 hO hL hl (by rw [h]; rfl) (by rw [h]; rfl) (by rw [h]; rfl) (by rw [h]; rfl) _ rfl _ _ rfl rfl
  · have e : wrStep c ws bs v = ⟨ws, wPut bs (wrap64 (v.o + c.off)) (c.b % 256), { v with nx := 5 }, 0, false⟩ := by
      unfold wrStep
      rw [if_neg (by omega), if_neg (by omega), if_neg (by omega), if_neg (by omega), if_pos h]
    rw [e]
    exact wr_Step_4 hO hL hl (by rw [h]; rfl) (by rw [h]; rfl) (by rw [h]; rfl) (by rw [h]; rfl) (by rw [h]; rfl) hbl
  · have e : wrStep c ws bs v = ⟨ws, bs, { v with wd := wAt ws (lOf c.t c.s c.sl 0), nx := 6 }, 0, false⟩ := by
      unfold wrStep
      rw [if_neg (by omega), if_neg (by omega), if_neg (by omega), if_neg (by omega), if_neg (by omega), if_pos h]
    rw [e]
    exact wr_Step_5 hO hL hl (by rw [h]; rfl) (by rw [h]; rfl) (by rw [h]; rfl) (by rw [h]; rfl) (by rw [h]; rfl) (by rw [h]; rfl) _ rfl
  · refine wr_Step_6 hO hL hl (by rw [h]; rfl) (by rw [h]; rfl) (by rw [h]; rfl) (by rw [h]; rfl) (by rw [h]; rfl) (by rw [h]; rfl) (by rw [h]; rfl) _ rfl _ rfl (eGuard v.wd (-1)).1 (eGuard v.wd (-1)).2 rfl _ rfl _ rfl _ ?_
    unfold wrStep
    rw [if_neg (by omega), if_neg (by omega), if_neg (by omega), if_neg (by omega), if_neg (by omega), if_neg (by omega), if_pos h]
    by_cases hg : (eGuard v.wd (-1)).2 = 0
    · rw [if_neg (by simpa using hg)]
      have e1 : ((eGuard v.wd (-1)).2 == 0) = true := by simpa using hg
      simp only [e1, Bool.not_true, Bool.false_or, if_true]
      split
      · rfl
      · rename_i hc; unfold wCasPut; rw [if_neg hc]
    · rw [if_pos hg]
      have e1 : ((eGuard v.wd (-1)).2 == 0) = false := by simpa using hg
      simp [e1]
end Go.Proofs.Ytboephhffklbbaa
