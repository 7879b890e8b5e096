/- What an alloc alone begins with. -/
import Derived.Test.YtkkeoadnepedjaaAlA2
namespace Go.Proofs.Ytkkeoadnepedjaa
set_option linter.unusedVariables false
set_option linter.unusedSimpArgs false
open Go.RowKit
def alK (a s t : Int) : AlC := ⟨t, s, a, 0, 0, 0, 0⟩
theorem alC0_yes {a s t n : Int} {tk : Nat} (hc : cfgOk a s t = true) : alC0 a s t n tk = ⟨t, s, a, n, (hRound n).1, tk, 0⟩ := by
  obtain ⟨h1, h2, -⟩ := of_yes hc
  unfold alC0; rw [h1, h2]
theorem al_pre_init {a s t : Int} (hc : cfgOk a s t = true) : AlPre (alK a s t) (initW t s) (List.replicate a.toNat 0) 0 0 0 := by
  obtain ⟨h1, h2, h3, h4, h5, h6, h7⟩ := cfgOk_of hc
  refine ⟨h6, h7, h4, h5, h1, h2, by rw [initW_len, lWords_ok h6]; rfl, by simp [alK], ?_, ?_, by omega, by omega, ?_, fun i i0 i1 => ?_, fun i i0 i1 => ?_, by omega, by show (0 : Int) ≤ s; omega, by omega, by show (0 : Int) ≤ a; omega⟩
  · rw [initW_at h6 _ (by omega) (by omega)]; unfold startAt linkAt; rw [if_neg (by omega), if_neg (by omega)]
  · rw [initW_at h6 _ (by omega) (by omega)]; unfold startAt topAt; rw [if_pos rfl, if_pos (by show (0 : Int) < s; omega)]; rfl
  · rw [initW_at h6 _ (by omega) (by omega)]; unfold startAt linkAt; rw [if_neg (by omega), if_neg (by omega)]
  · have i1 : i < s := i1
    show wAt (initW t s) (4 + t + 3 * i + 2) = topAt s (i + 1)
    rw [initW_at h6 _ (by omega) (by omega)]; unfold startAt linkAt topAt
    rw [if_neg (by omega)]
    by_cases c : i + 1 < s
    · rw [if_pos c, if_pos (by omega)]; omega
    · rw [if_neg c, if_neg (by omega)]
  · have i1 : i < s := i1
    show wAt (initW t s) (4 + t + 3 * i) = 0
    rw [initW_at h6 _ (by omega) (by omega)]; unfold startAt linkAt
    rw [if_neg (by omega), if_neg (by omega)]
theorem AlPre.lens {a s t : Int} {ws bs : List Int} {k top g : Int} (P : AlPre (alK a s t) ws bs k top g) : ws.length ≤ 4096 ∧ bs.length ≤ 4096 ∧ 1 ≤ ws.length := by
  have h1 := P.len; have h2 := P.bl; have h3 := P.a4; have h4 := P.t1; have h5 := P.s1; have h6 := P.t4; have h7 := P.s64
  omega
theorem AlPre.lok {a s t : Int} {ws bs : List Int} {k top g : Int} (P : AlPre (alK a s t) ws bs k top g) : lOk t s := .inr ⟨P.t1, P.t4, P.s1, P.s64⟩
theorem alNx_yes {a s t : Int} (hc : cfgOk a s t = true) : alNx a s t = 1 := by unfold alNx; rw [if_pos hc]
end Go.Proofs.Ytkkeoadnepedjaa
