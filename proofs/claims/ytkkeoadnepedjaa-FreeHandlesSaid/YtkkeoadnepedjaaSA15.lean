/- A law's start, of whatever config. -/
import Derived.Test.YtkkeoadnepedjaaS15
namespace Go.Proofs.Ytkkeoadnepedjaa
set_option linter.unusedVariables false
set_option linter.unusedSimpArgs false
open Go.RowKit
theorem law15_start_any {B : Nat} {W w : World} {G : List Grp} (a s t : Int) (hO : Owns B W w G) : Calls Try.prog 10 #[.agg #[.int .i64 a, .int .i64 s, .int .i64 t]] w fun e w' => ∃ pv, e = .returned (.pointer pv) ∧ Owns B W w' G := by
  rcases bool_cases (b := cfgOk a s t) with hc | hc
  · refine (law15_start a s t hO hc).mono ?_
    rintro e w' ⟨p, bw, bb, m, he, hO'⟩
    exact ⟨_, he, hO'.tail⟩
  · refine (law15_start_no a s t w hc).mono ?_
    rintro e w' ⟨he, hb⟩
    exact ⟨_, he, hO.via hb⟩
end Go.Proofs.Ytkkeoadnepedjaa
