/- A pin's machine, alone; numbers of the pin laws' 'live'. -/
import Derived.Test.YtmbkkpeepbfgoaaPnS
import Derived.Test.YtmbkkpeepbfgoaaPnN
import Derived.Test.YtmbkkpeepbfgoaaRun14
namespace Go.Proofs.Ytmbkkpeepbfgoaa
set_option linter.unusedVariables false
set_option linter.unusedSimpArgs false
open Go.RowKit
structure PnQ where
  ws : List Int
  nx : Int
  wd : Int
  tw : Int
def pnF1 (t s sl ge : Int) (st un : Bool) (q : PnQ) : PnQ × (Int × Int) × Bool :=
  let r := pinStep t s sl ge st un q.ws q.nx q.wd q.tw
  (⟨r.ws, r.nx, r.wd, r.tw⟩, (r.code, 0), r.done)
theorem wCasPut_len (ws : List Int) (k o m : Int) : (wCasPut ws k o m).length = ws.length := by unfold wCasPut; split; exact wPut_len _ _ _; rfl
theorem pinStep_len (t s sl ge : Int) (st un : Bool) (ws : List Int) (nx wd tw : Int) : (pinStep t s sl ge st un ws nx wd tw).ws.length = ws.length := by
  unfold pinStep
  repeat' split
  all_goals first | rfl | exact wCasPut_len _ _ _ _
set_option maxHeartbeats 1000000 in
theorem pin_run {B : Nat} {W w : World} {R : List Grp} {x p bw bb : Nat} {ws bs : List Int} {n t s sl ge : Int} {st un : Bool} {nx wd tw : Int} (most : Nat) (hm : most ≤ 1000000) (hO : Owns B W w (memG p bw bb ws bs n :: pnG x t s sl ge st un nx wd tw :: R)) (hL : lOk t s) (hl : ws.length ≤ 4096) (r : PnQ × (Int × Int) × Int) (hr : mRun (pnF1 t s sl ge st un) most most ⟨ws, nx, wd, tw⟩ = r) :
    Calls Try.prog 34 #[.pointer (some ⟨p, 0, none⟩), .pointer (some ⟨x, 0, none⟩), .int .i64 most] w fun e w' => e = .returned (resN r.2.1 r.2.2) ∧
      ∃ m, Owns B W w' (memG p bw bb r.1.ws bs m :: pnG x t s sl ge st un r.1.nx r.1.wd r.1.tw :: R) := by
  subst hr
  refine law14_run (pnF1 t s sl ge st un) (fun q m => memG p bw bb q.ws bs m :: pnG x t s sl ge st un q.nx q.wd q.tw :: R) (fun q => q.ws.length ≤ 4096) (fun q hq => by show (pinStep _ _ _ _ _ _ _ _ _ _).ws.length ≤ 4096; rw [pinStep_len]; exact hq) x p ?_ most hm ⟨ws, nx, wd, tw⟩ n w hO hl
  intro q m G w hq hO
  refine (pin_Step hO hL hq).mono ?_
  rintro e w' ⟨he, m', hO'⟩
  exact ⟨he, m', hO'⟩
def p14W0 : List Int := [0, 1, 0, 0, 0, 0, 0, 0]
def p14W1 : List Int := [0, 1, 0, 0, 0, 562949953421312, 0, 0]
def p14W2 : List Int := [0, 1, 0, 0, 0, 564049465049088, 0, 0]
def p14W3 : List Int := [0, 1, 0, 0, 0, 570646534815744, 0, 0]
def p14B0 : List Int := [0, 0, 0, 0, 0, 0, 0, 0]
theorem p14_0 : initW 1 1 = p14W0 := by decide
theorem p14_b0 : List.replicate (8 : Int).toNat (0 : Int) = p14B0 := by decide
theorem p14_1 : wPut p14W0 5 562949953421312 = p14W1 := by decide
theorem p14_r1 : mRun (pnF1 1 1 0 0 false false) 10 10 ⟨p14W1, 1, 0, 0⟩ = (⟨p14W2, 0, 562949953421312, 564049465049088⟩, (0, 0), 2) := by kernel_rfl
theorem p14_r2 : mRun (pnF1 1 1 0 0 false true) 10 10 ⟨p14W2, 1, 0, 0⟩ = (⟨p14W1, 0, 564049465049088, 562949953421312⟩, (0, 0), 2) := by kernel_rfl
theorem p14_r3 : mRun (pnF1 1 1 0 0 false true) 10 10 ⟨p14W1, 1, 0, 0⟩ = (⟨p14W1, 0, 562949953421312, 0⟩, (8, 0), 1) := by kernel_rfl
theorem p14_r4 : mRun (pnF1 1 1 0 0 true false) 10 10 ⟨p14W1, 1, 0, 0⟩ = (⟨p14W1, 0, 0, 0⟩, (4, 0), 1) := by kernel_rfl
theorem p14_3 : wPut p14W1 5 570646534815744 = p14W3 := by decide
theorem p14_r5 : mRun (pnF1 1 1 0 0 false false) 10 10 ⟨p14W3, 1, 0, 0⟩ = (⟨p14W3, 0, 570646534815744, 0⟩, (7, 0), 1) := by kernel_rfl
theorem p14_r6 : mRun (pnF1 0 0 0 0 true false) 10 10 ⟨p14W3, 0, 0, 0⟩ = (⟨p14W3, 0, 0, 0⟩, (1, 0), 1) := by kernel_rfl
theorem p14_n1 (un : Bool) (x : Nat) : pnNews 8 1 1 1099511627776 un x = pnG x 1 1 0 0 false un 1 0 0 := by
  have h1 : ofT 8 1 1 = 1 := by decide
  have h2 : ofS 8 1 1 = 1 := by decide
  have h3 : hOf 1099511627776 1 = (0, 0, 0) := by decide
  have h4 : cfgOk 8 1 1 = true := by decide
  unfold pnNews; rw [h1, h2, h3, h4]; rfl
theorem p14_n2 (un : Bool) (x : Nat) : pnNews 8 1 1 1099511627777 un x = pnG x 1 1 0 0 true un 1 0 0 := by
  have h1 : ofT 8 1 1 = 1 := by decide
  have h2 : ofS 8 1 1 = 1 := by decide
  have h3 : hOf 1099511627777 1 = (0, 0, 4) := by decide
  have h4 : cfgOk 8 1 1 = true := by decide
  unfold pnNews; rw [h1, h2, h3, h4]; rfl
theorem p14_n3 (un : Bool) (x : Nat) : pnNews 0 0 0 1099511627776 un x = pnG x 0 0 0 0 true un 0 0 0 := by
  have h1 : ofT 0 0 0 = 0 := by decide
  have h2 : ofS 0 0 0 = 0 := by decide
  have h3 : hOf 1099511627776 0 = (0, 0, 4) := by decide
  have h4 : cfgOk 0 0 0 = false := by decide
  unfold pnNews; rw [h1, h2, h3, h4]; rfl
theorem lOk11 : lOk 1 1 := .inr (by decide)
theorem lOk00 : lOk 0 0 := .inl (by decide)
end Go.Proofs.Ytmbkkpeepbfgoaa
