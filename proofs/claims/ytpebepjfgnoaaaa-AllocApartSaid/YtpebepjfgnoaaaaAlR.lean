/- Alloc's machine, alone; numbers of the alloc laws' 'live'. -/
import Derived.Test.YtpebepjfgnoaaaaAlT
import Derived.Test.YtpebepjfgnoaaaaAlN
import Derived.Test.YtpebepjfgnoaaaaRun11
namespace Go.Proofs.Ytpebepjfgnoaaaa
set_option linter.unusedVariables false
set_option linter.unusedSimpArgs false
open Go.RowKit
structure AlQ where
  ws : List Int
  bs : List Int
  v : AlV
def alF1 (c : AlC) (q : AlQ) : AlQ × (Int × Int) × Bool :=
  let r := alStep c q.ws q.bs q.v
  (⟨r.ws, r.bs, r.v⟩, (r.code, r.rn), r.done)
set_option maxHeartbeats 1000000 in
theorem alloc_run {B : Nat} {W w : World} {R : List Grp} {x p bw bb : Nat} {ws bs : List Int} {n : Int} {c : AlC} {v : AlV} (most : Nat) (hm : most ≤ 1000000) (hO : Owns B W w (memG p bw bb ws bs n :: alG x c v :: R)) (hL : lOk c.t c.s) (hl : ws.length ≤ 4096) (hb : bs.length ≤ 4096) (hv : AlIn v) (r : AlQ × (Int × Int) × Int) (hr : mRun (alF1 c) most most ⟨ws, bs, v⟩ = r) :
    Calls Try.prog 42 #[.pointer (some ⟨p, 0, none⟩), .pointer (some ⟨x, 0, none⟩), .int .i64 most] w fun e w' => e = .returned (resN r.2.1 r.2.2) ∧
      ∃ m y, Owns B W w' (memG p bw bb r.1.ws r.1.bs m :: alG x { c with gp := y } r.1.v :: R) := by
  subst hr
  refine (law11_run (alF1 c) (fun q (m : Int × Nat) => memG p bw bb q.ws q.bs m.1 :: alG x { c with gp := m.2 } q.v :: R) (fun q => q.ws.length ≤ 4096 ∧ q.bs.length ≤ 4096 ∧ AlIn q.v) (fun q hq => ⟨by show (alStep _ _ _ _).ws.length ≤ 4096; rw [(alStep_len _ _ _ _ hq.2.2).1]; exact hq.1, by show (alStep _ _ _ _).bs.length ≤ 4096; rw [(alStep_len _ _ _ _ hq.2.2).2]; exact hq.2.1, alStep_in _ _ _ _ hq.2.2⟩) x p ?_ most hm ⟨ws, bs, v⟩ (n, c.gp) w hO ⟨hl, hb, hv⟩).mono ?_
  · intro q m G w hq hO
    refine (al_Step hO hL hq.1 hq.2.1 hq.2.2 _ rfl).mono ?_
    rintro e w' ⟨he, m', y', hO'⟩
    exact ⟨he, (m', y'), hO'⟩
  · rintro e w' ⟨he, m', hO'⟩
    exact ⟨he, m'.1, m'.2, hO'⟩
end Go.Proofs.Ytpebepjfgnoaaaa
