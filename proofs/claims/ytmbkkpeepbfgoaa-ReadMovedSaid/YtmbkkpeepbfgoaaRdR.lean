/- A read, alone. -/
import Derived.Test.YtmbkkpeepbfgoaaRdS2
import Derived.Test.YtmbkkpeepbfgoaaRdN
import Derived.Test.YtmbkkpeepbfgoaaRun12
namespace Go.Proofs.Ytmbkkpeepbfgoaa
set_option linter.unusedVariables false
set_option linter.unusedSimpArgs false
open Go.RowKit
def rdF (t s sl ge : Int) (st : Bool) (off : Int) (ws bs : List Int) : RdS → RdS × (Int × Int) × Bool := rdStep t s sl ge st off ws bs
theorem Owns.third {B : Nat} {W w : World} {a b c : Grp} {R : List Grp} (h : Owns B W w (a :: b :: c :: R)) : Owns B W w (b :: c :: a :: R) := h.perm ((List.Perm.swap b a (c :: R)).trans ((List.Perm.swap c a R).cons b))
set_option maxHeartbeats 1000000 in
theorem read_run {B : Nat} {W w : World} {g0 : Grp} {R : List Grp} {x p bw bb : Nat} {ws bs : List Int} {n t s sl ge : Int} {st : Bool} {off : Int} {q : RdS} (most : Nat) (hm : most ≤ 1000000) (hO : Owns B W w (g0 :: memG p bw bb ws bs n :: rdG x t s sl ge st off q :: R)) (hL : lOk t s) (hl : ws.length ≤ 4096) (hbs : BOk bs) (hq : RdIn q) :
    Calls Try.prog 20 #[.pointer (some ⟨p, 0, none⟩), .pointer (some ⟨x, 0, none⟩), .int .i64 most] w fun e w' => e = .returned (resN (mRun (rdF t s sl ge st off ws bs) most most q).2.1 (mRun (rdF t s sl ge st off ws bs) most most q).2.2) ∧
      ∃ m, Owns B W w' (g0 :: memG p bw bb ws bs m :: rdG x t s sl ge st off (mRun (rdF t s sl ge st off ws bs) most most q).1 :: R) := by
  refine law12_run (rdF t s sl ge st off ws bs) (fun q m => g0 :: memG p bw bb ws bs m :: rdG x t s sl ge st off q :: R) RdIn (fun q hq => rdStep_in _ _ _ _ _ _ _ _ q hq) x p ?_ most hm q n w hO hq
  intro q m G w hq hO
  refine (read_Step 1 2 (by decide) hO rfl hL hl hbs hq rfl).mono ?_
  rintro e w' ⟨he, m', hO'⟩
  exact ⟨he, m', hO'⟩
end Go.Proofs.Ytmbkkpeepbfgoaa
