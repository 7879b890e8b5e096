/- The pair of stack machines (program and reference) as numbers. -/
import Derived.Test.YtpebepjfgnoaaaaSsQ
namespace Go.Proofs.Ytpebepjfgnoaaaa
set_option linter.unusedVariables false
set_option linter.unusedSimpArgs false
open Go.RowKit
structure PrM where
  pu : Bool
  b : Nat
  x : Nat
  y : Nat
  sl : Int
  rs : Int
  nx : Int
  wd : Int
  tw : Int
def prP (m : PrM) : Value := if m.pu = true then .pointer none else .pointer (some ⟨m.x, 0, none⟩)
def prQ (m : PrM) : Value := if m.pu = true then .pointer (some ⟨m.x, 0, none⟩) else .pointer none
def prB (m : PrM) : Nat × Obj := (m.b, .cells #[prP m, prQ m, .pointer (some ⟨m.y, 0, none⟩)] 99 (0, 0))
def prT (m : PrM) : TypeId := if m.pu = true then 114 else 113
def prG (a s t : Int) (m : PrM) : Grp := prB m :: (machG (prT m) m.x t s m.nx m.sl m.wd m.tw ++ rmG m.y a s t m.pu m.rs m.nx m.wd m.tw)
def prS (t s : Int) (ws : List Int) (m : PrM) : StepR := rmStep m.pu t s ws m.nx m.sl m.wd m.tw
def prN (t s : Int) (ws : List Int) (m : PrM) : PrM := { m with sl := (prS t s ws m).sl, rs := (rmStep m.pu t s ws m.nx m.rs m.wd m.tw).sl, nx := (prS t s ws m).nx, wd := (prS t s ws m).wd, tw := (prS t s ws m).to }
def PrOk (m : PrM) : Prop := (m.pu = true ∨ m.nx = 2 ∨ m.nx = 3 → m.rs = m.sl) ∧ I64 m.wd ∧ I64 m.tw
theorem prN_ok {t s : Int} {ws : List Int} {m : PrM} (h : WOk ws) (hm : PrOk m) : PrOk (prN t s ws m) ∧ WOk (prS t s ws m).ws ∧ (prS t s ws m).ws.length = ws.length := by
  have h1 := rm_rel (ws := ws) (t := t) (s := s) (wd := m.wd) (tw := m.tw) hm.1
  have h2 := rm_ok (pu := m.pu) (t := t) (s := s) (nx := m.nx) (sl := m.sl) h hm.2.1 hm.2.2
  exact ⟨⟨h1.2, h2.2.2.1, h2.2.2.2⟩, h2.1, h2.2.1⟩
end Go.Proofs.Ytpebepjfgnoaaaa
