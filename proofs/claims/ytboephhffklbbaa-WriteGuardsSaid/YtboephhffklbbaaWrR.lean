/- A write's machine, alone; numbers of the write laws' 'live'. -/
import Derived.Test.YtboephhffklbbaaWrS2
import Derived.Test.YtboephhffklbbaaWrN
import Derived.Test.YtboephhffklbbaaRun13
namespace Go.Proofs.Ytboephhffklbbaa
set_option linter.unusedVariables false
set_option linter.unusedSimpArgs false
open Go.RowKit
structure WrQ where
  ws : List Int
  bs : List Int
  v : WrV
def wrF1 (c : WrC) (q : WrQ) : WrQ × (Int × Int) × Bool :=
  let r := wrStep c q.ws q.bs q.v
  (⟨r.ws, r.bs, r.v⟩, (r.code, 0), r.done)
theorem wCasPut_len (ws : List Int) (k o m : Int) : (wCasPut ws k o m).length = ws.length := by unfold wCasPut; split; exact wPut_len _ _ _; rfl
theorem wrStep_len (c : WrC) (ws bs : List Int) (v : WrV) : (wrStep c ws bs v).ws.length = ws.length ∧ (wrStep c ws bs v).bs.length = bs.length := by
  unfold wrStep
  repeat' split
  all_goals first | exact ⟨rfl, rfl⟩ | exact ⟨wCasPut_len _ _ _ _, rfl⟩ | exact ⟨rfl, wPut_len _ _ _⟩
set_option maxHeartbeats 1000000 in
theorem write_run {B : Nat} {W w : World} {R : List Grp} {x p bw bb : Nat} {ws bs : List Int} {n : Int} {c : WrC} {v : WrV} (most : Nat) (hm : most ≤ 1000000) (hO : Owns B W w (memG p bw bb ws bs n :: wrG x c v :: R)) (hL : lOk c.t c.s) (hl : ws.length ≤ 4096) (hb : bs.length ≤ 4096) (hv : WrIn v) (r : WrQ × (Int × Int) × Int) (hr : mRun (wrF1 c) most most ⟨ws, bs, v⟩ = r) :
    Calls Try.prog 21 #[.pointer (some ⟨p, 0, none⟩), .pointer (some ⟨x, 0, none⟩), .int .i64 most] w fun e w' => e = .returned (resN r.2.1 r.2.2) ∧
      ∃ m, Owns B W w' (memG p bw bb r.1.ws r.1.bs m :: wrG x c r.1.v :: R) := by
  subst hr
  refine law13_run (wrF1 c) (fun q m => memG p bw bb q.ws q.bs m :: wrG x c q.v :: R) (fun q => q.ws.length ≤ 4096 ∧ q.bs.length ≤ 4096 ∧ WrIn q.v) (fun q hq => ⟨by show (wrStep _ _ _ _).ws.length ≤ 4096; rw [(wrStep_len _ _ _ _).1]; exact hq.1, by show (wrStep _ _ _ _).bs.length ≤ 4096; rw [(wrStep_len _ _ _ _).2]; exact hq.2.1, wrStep_in _ _ _ _ hq.2.2⟩) x p ?_ most hm ⟨ws, bs, v⟩ n w hO ⟨hl, hb, hv⟩
  intro q m G w hq hO
  refine (wr_Step hO hL hq.1 hq.2.1 hq.2.2 _ rfl).mono ?_
  rintro e w' ⟨he, m', hO'⟩
  exact ⟨he, m', hO'⟩
def p13W0 : List Int := [0, 1, 0, 0, 0, 0, 0, 2, 0, 0, 0]
def p13W1 : List Int := [0, 1, 0, 0, 0, 0, 0, 2, 562949956567048, 0, 0]
def p13W2 : List Int := [0, 1, 0, 0, 0, 0, 0, 2, 562949956567048, 4, 0]
def p13W3 : List Int := [0, 1, 0, 0, 0, 0, 0, 2, 580542142611464, 4, 0]
def p13B0 : List Int := [0, 0, 0, 0, 0, 0, 0, 0, 0, 0, 0, 0, 0, 0, 0, 0]
def p13B1 : List Int := [0, 0, 0, 0, 0, 0, 0, 0, 0, 0, 0, 77, 0, 0, 0, 0]
theorem p13_0 : initW 1 2 = p13W0 := by decide
theorem p13_b0 : List.replicate (16 : Int).toNat (0 : Int) = p13B0 := by decide
theorem p13_1 : wPut p13W0 8 562949956567048 = p13W1 := by decide
theorem p13_2 : wPut p13W1 9 4 = p13W2 := by decide
def p13C (off b : Int) : WrC := ⟨1, 2, 1, 3, false, off, b⟩
def wrV1 : WrV := ⟨1, 0, 0, 0, false⟩
theorem wrV1_in : WrIn wrV1 := by unfold WrIn wrV1; decide
theorem p13_s1 : wrStep (p13C 3 333) p13W2 p13B0 wrV1 = ⟨p13W2, p13B0, ⟨2, 562949956567048, 8, 0, false⟩, 0, false⟩ := by kernel_rfl
theorem p13_s2 : wrStep (p13C 3 333) p13W2 p13B0 ⟨2, 562949956567048, 8, 0, false⟩ = ⟨p13W3, p13B0, ⟨3, 562949956567048, 8, 0, true⟩, 0, false⟩ := by kernel_rfl
theorem p13_r1 : mRun (wrF1 (p13C 3 333)) 100 100 ⟨p13W3, p13B0, ⟨3, 562949956567048, 8, 0, true⟩⟩ = (⟨p13W2, p13B1, ⟨0, 580542142611464, 8, 0, false⟩⟩, (0, 0), 4) := by kernel_rfl
theorem p13_r2 : mRun (wrF1 (p13C 4 1)) 100 100 ⟨p13W2, p13B1, wrV1⟩ = (⟨p13W2, p13B1, ⟨0, 580542142611464, 8, 5, false⟩⟩, (5, 0), 5) := by kernel_rfl
theorem p13_r3 : mRun (wrF1 ⟨1, 2, 1, 4, false, 0, 1⟩) 100 100 ⟨p13W2, p13B1, wrV1⟩ = (⟨p13W2, p13B1, ⟨0, 562949956567048, 0, 0, false⟩⟩, (4, 0), 1) := by kernel_rfl
theorem p13_r4 : mRun (wrF1 ⟨0, 0, 0, 0, true, 0, 1⟩) 100 100 ⟨p13W2, p13B1, ⟨0, 0, 0, 0, false⟩⟩ = (⟨p13W2, p13B1, ⟨0, 0, 0, 0, false⟩⟩, (1, 0), 1) := by kernel_rfl
theorem p13_n1 (x : Nat) (off b : Int) : wrG x (wrNewC 16 2 1 1099514773505 off b) (wrNewV 16 2 1) = wrG x (p13C off b) wrV1 := by
  have h1 : ofT 16 2 1 = 1 := by decide
  have h2 : ofS 16 2 1 = 2 := by decide
  have h3 : hOf 1099514773505 2 = (1, 3, 0) := by decide
  have h4 : cfgOk 16 2 1 = true := by decide
  unfold wrNewC wrNewV; rw [h1, h2, h3, h4]; rfl
theorem p13_n3 (x : Nat) (off b : Int) : wrG x (wrNewC 16 2 1 1099515822081 off b) (wrNewV 16 2 1) = wrG x ⟨1, 2, 1, 4, false, off, b⟩ wrV1 := by
  have h1 : ofT 16 2 1 = 1 := by decide
  have h2 : ofS 16 2 1 = 2 := by decide
  have h3 : hOf 1099515822081 2 = (1, 4, 0) := by decide
  have h4 : cfgOk 16 2 1 = true := by decide
  unfold wrNewC wrNewV; rw [h1, h2, h3, h4]; rfl
theorem p13_n4 (x : Nat) (off b : Int) : wrG x (wrNewC 0 0 0 1099514773505 off b) (wrNewV 0 0 0) = wrG x ⟨0, 0, 0, 0, true, off, b⟩ ⟨0, 0, 0, 0, false⟩ := by
  have h1 : ofT 0 0 0 = 0 := by decide
  have h2 : ofS 0 0 0 = 0 := by decide
  have h3 : hOf 1099514773505 0 = (0, 0, 4) := by decide
  have h4 : cfgOk 0 0 0 = false := by decide
  unfold wrNewC wrNewV; rw [h1, h2, h3, h4]; rfl
end Go.Proofs.Ytboephhffklbbaa
