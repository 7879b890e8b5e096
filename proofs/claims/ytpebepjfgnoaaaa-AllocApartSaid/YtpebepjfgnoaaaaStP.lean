/- What the stack's machines do, as functions of numbers. -/
import Derived.Test.YtpebepjfgnoaaaaStW
namespace Go.Proofs.Ytpebepjfgnoaaaa
set_option linter.unusedVariables false
set_option linter.unusedSimpArgs false
open Go.RowKit
/-- what a step leaves: the words, the machine's next, slot, word and to; what it tells. -/
structure StepR where
  ws : List Int
  nx : Int
  sl : Int
  wd : Int
  to : Int
  r : Int
  e : Int
  done : Bool
def popStep (t s : Int) (ws : List Int) (nx sl wd to : Int) : StepR :=
  if nx = 1 then
    if dIs (wAt ws (lOnce t 1)) = true then
      (if dUnTop (wAt ws (lOnce t 1)) = 0 then ⟨ws, 0, sl, wAt ws (lOnce t 1), to, 0, 11, true⟩
       else ⟨ws, 2, dUnTop (wAt ws (lOnce t 1)) - 1, wAt ws (lOnce t 1), to, 0, 0, false⟩)
    else ⟨ws, 0, sl, wAt ws (lOnce t 1), to, 0, 2, true⟩
  else if nx = 2 then
    if (dPop wd (wAt ws (lOf t s sl 2))).2.2 = 0 then ⟨ws, 3, sl, wd, (dPop wd (wAt ws (lOf t s sl 2))).1, 0, 0, false⟩
    else ⟨ws, 0, sl, wd, to, 0, 2, true⟩
  else if nx = 3 then
    if wCas ws (lOnce t 1) wd = true then ⟨wCasPut ws (lOnce t 1) wd to, 0, sl, wd, to, sl, 0, true⟩
    else ⟨ws, 1, sl, wd, to, 0, 0, false⟩
  else ⟨ws, nx, sl, wd, to, 0, 1, true⟩
def pushStep (t s : Int) (ws : List Int) (nx sl wd to : Int) : StepR :=
  if nx = 1 then
    if lOf t s sl 2 < 0 then ⟨ws, 0, sl, wd, to, 0, 1, true⟩
    else if dIs (wAt ws (lOnce t 1)) = true then ⟨ws, 2, sl, wAt ws (lOnce t 1), to, 0, 0, false⟩
    else ⟨ws, 0, sl, wAt ws (lOnce t 1), to, 0, 2, true⟩
  else if nx = 2 then ⟨wPut ws (lOf t s sl 2) (dPush wd sl).2.1, 3, sl, wd, (dPush wd sl).1, 0, 0, false⟩
  else if nx = 3 then
    if wCas ws (lOnce t 1) wd = true then ⟨wCasPut ws (lOnce t 1) wd to, 0, sl, wd, to, 0, 0, true⟩
    else ⟨ws, 1, sl, wd, to, 0, 0, false⟩
  else ⟨ws, nx, sl, wd, to, 0, 1, true⟩
/-- what is told, and owned, behind a step. -/
def PopPost (B : Nat) (W : World) (G : List Grp) (i j : Nat) (T : TypeId) (x p bw bb : Nat) (bs : List Int) (t s : Int) (q : StepR) (r : Ending) (w' : World) : Prop :=
  r = .returned (.tuple #[.int .i64 q.r, .int .i64 q.e, .bool q.done]) ∧ ∃ m, Owns B W w' ((G.set i (memG p bw bb q.ws bs m)).set j (machG T x t s q.nx q.sl q.wd q.to))
def PushPost (B : Nat) (W : World) (G : List Grp) (i j : Nat) (T : TypeId) (x p bw bb : Nat) (bs : List Int) (t s : Int) (q : StepR) (r : Ending) (w' : World) : Prop :=
  r = .returned (.tuple #[.int .i64 q.e, .bool q.done]) ∧ ∃ m, Owns B W w' ((G.set i (memG p bw bb q.ws bs m)).set j (machG T x t s q.nx q.sl q.wd q.to))
theorem set_set_ne {G : List Grp} {i j : Nat} (a b c : Grp) (hne : i ≠ j) : ((G.set i a).set j b).set j c = (G.set i a).set j c := by rw [List.set_set]
end Go.Proofs.Ytpebepjfgnoaaaa
