/- Writes that go, in numbers. -/
import Derived.Test.YtboephhffklbbaaWrR
namespace Go.Proofs.Ytboephhffklbbaa
set_option linter.unusedVariables false
set_option linter.unusedSimpArgs false
open Go.RowKit
theorem wr_go {c : WrC} {ws bs ws1 : List Int} {wd o0 kp k k1 x x1 x2 S : Int} {g : Bool} (most : Nat) (hk : lOf c.t c.s c.sl 0 = k) (hk1 : lOf c.t c.s c.sl 1 = k1) (hst : c.st = false) (hw : wAt ws k = x) (hf : fresh x c.ge = true) (hl : uL x = false) (hu : uU x < 15) (hc : wCas ws k x = true)
    (hx1 : (eGuard x 1).1 = x1) (hws1 : wCasPut ws k x x1 = ws1) (hS : wAt ws1 k1 = S) (h0 : 0 ≤ c.off) (h1 : c.off < S) (hw1 : wAt ws1 k = x1) (hx2 : eGuard x1 (-1) = (x2, 0)) (hc1 : wCas ws1 k x1 = true) :
    mRun (wrF1 c) (most + 6) (most + 6) ⟨ws, bs, ⟨1, wd, o0, kp, g⟩⟩ = (⟨wCasPut ws1 k x1 x2, wPut bs (wrap64 (uO x + c.off)) (c.b % 256), ⟨0, x1, uO x, kp, false⟩⟩, (kp, 0), 6) := by
  have e1 : wrF1 c ⟨ws, bs, ⟨1, wd, o0, kp, g⟩⟩ = (⟨ws, bs, ⟨2, x, uO x, kp, g⟩⟩, (0, 0), false) := by
    unfold wrF1 wrStep wrLook
    simp only [hk, hw, hst, hf, hl, hu]
    simp
  have e2 : wrF1 c ⟨ws, bs, ⟨2, x, uO x, kp, g⟩⟩ = (⟨ws1, bs, ⟨3, x, uO x, kp, true⟩⟩, (0, 0), false) := by
    unfold wrF1 wrStep
    simp only [hk, hc, hx1, hws1]
    simp
  have e3 : wrF1 c ⟨ws1, bs, ⟨3, x, uO x, kp, true⟩⟩ = (⟨ws1, bs, ⟨4, x, uO x, kp, true⟩⟩, (0, 0), false) := by
    unfold wrF1 wrStep
    have n : ¬ (c.off < 0 ∨ S ≤ c.off) := by omega
    simp only [hk1, hS, n]
    simp
  have e4 : wrF1 c ⟨ws1, bs, ⟨4, x, uO x, kp, true⟩⟩ = (⟨ws1, wPut bs (wrap64 (uO x + c.off)) (c.b % 256), ⟨5, x, uO x, kp, true⟩⟩, (0, 0), false) := by
    unfold wrF1 wrStep
    simp
  have e5 : ∀ bs, wrF1 c ⟨ws1, bs, ⟨5, x, uO x, kp, true⟩⟩ = (⟨ws1, bs, ⟨6, x1, uO x, kp, true⟩⟩, (0, 0), false) := by
    intro bs
    unfold wrF1 wrStep
    simp only [hk, hw1]
    simp
  have e6 : ∀ bs, wrF1 c ⟨ws1, bs, ⟨6, x1, uO x, kp, true⟩⟩ = (⟨wCasPut ws1 k x1 x2, bs, ⟨0, x1, uO x, kp, false⟩⟩, (kp, 0), true) := by
    intro bs
    unfold wrF1 wrStep
    simp only [hk, hx2, hc1]
    simp
  rw [mRun_more (by rw [e1]), e1, mRun_more (by rw [e2]), e2, mRun_more (by rw [e3]), e3, mRun_more (by rw [e4]), e4, mRun_more (by rw [e5]), e5, mRun_done (by rw [e6]), e6]
  simp only [Prod.mk.injEq, true_and]
  omega
/-- words of one object of 8 bytes. -/
def w13V (v : Int) : List Int := [0, 1, 0, 0, 0, v, 8, 0]
def w13W0 : List Int := [0, 1, 0, 0, 0, 0, 0, 0]
def w13B0 : List Int := [0, 0, 0, 0, 0, 0, 0, 0]
theorem w13_0 : initW 1 1 = w13W0 := by decide
theorem w13_b0 : List.replicate (8 : Int).toNat (0 : Int) = w13B0 := by decide
theorem w13_1 (v : Int) : wPut (wPut w13W0 5 v) 6 8 = w13V v := rfl
theorem w13_put (v w : Int) : wPut (w13V v) 5 w = w13V w := rfl
theorem w13_at (v : Int) : wAt (w13V v) 5 = v := rfl
theorem w13_size (v : Int) : wAt (w13V v) 6 = 8 := rfl
theorem w13_cas (v x : Int) : wCas (w13V v) 5 x = (v == x) := by
  show (true && (v == x)) = _
  simp
theorem w13_casPut (v n : Int) : wCasPut (w13V v) 5 v n = w13V n := by
  unfold wCasPut; rw [w13_cas]; simp [w13_put]
theorem lOf110' : lOf 1 1 0 0 = 5 := by decide
theorem lOf111' : lOf 1 1 0 1 = 6 := by decide
def w13C (off b : Int) : WrC := ⟨1, 1, 0, 0, false, off, b⟩
theorem wr_one {off b wd o0 : Int} {g : Bool} {bs : List Int} (h0 : 0 ≤ off) (h1 : off < 8) :
    mRun (wrF1 (w13C off b)) 10 10 ⟨w13V 562949953421312, bs, ⟨1, wd, o0, 0, g⟩⟩ = (⟨w13V 562949953421312, wPut bs off (b % 256), ⟨0, 580542139465728, 0, 0, false⟩⟩, (0, 0), 6) := by
  have := wr_go (c := w13C off b) (ws := w13V 562949953421312) (bs := bs) (ws1 := w13V 580542139465728) (wd := wd) (o0 := o0) (kp := 0) (k := 5) (k1 := 6) (x := 562949953421312) (x1 := 580542139465728) (x2 := 562949953421312) (S := 8) (g := g) 4 lOf110' lOf111' rfl (w13_at _) (by show fresh _ 0 = true; decide) (by decide) (by decide) (by rw [w13_cas]; decide) (by decide) (w13_casPut _ _) (w13_size _) h0 h1 (w13_at _) (by decide) (by rw [w13_cas]; decide)
  rw [this, w13_casPut]
  have e : wrap64 (uO 562949953421312 + (w13C off b).off) = off := by
    rw [show uO 562949953421312 = 0 by decide]
    show wrap64 (0 + off) = off
    unfold wrap64; omega
  rw [e, show uO 562949953421312 = 0 by decide]
  rfl
theorem w13_n (x : Nat) (off b : Int) : wrG x (wrNewC 8 1 1 1099511627776 off b) (wrNewV 8 1 1) = wrG x (w13C off b) wrV1 := by
  have h1 : ofT 8 1 1 = 1 := by decide
  have h2 : ofS 8 1 1 = 1 := by decide
  have h3 : hOf 1099511627776 1 = (0, 0, 0) := by decide
  have h4 : cfgOk 8 1 1 = true := by decide
  unfold wrNewC wrNewV; rw [h1, h2, h3, h4]; rfl
theorem w13_wait {v : Int} (hv : v = 826832744087552 ∨ v = 844424930131968) (b wd : Int) : wrStep (w13C 0 b) (w13V v) w13B0 ⟨1, wd, 0, 0, false⟩ = ⟨w13V v, w13B0, ⟨1, v, 0, 0, false⟩, 0, false⟩ := by
  rcases hv with rfl | rfl
  · rfl
  · rfl
theorem lOk11' : lOk 1 1 := .inr (by decide)
end Go.Proofs.Ytboephhffklbbaa
