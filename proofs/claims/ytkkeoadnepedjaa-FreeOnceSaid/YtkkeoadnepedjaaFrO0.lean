/- Numbers of FreeOnce. -/
import Derived.Test.YtkkeoadnepedjaaFrA0
import Derived.Test.YtkkeoadnepedjaaStF
namespace Go.Proofs.Ytkkeoadnepedjaa
set_option linter.unusedVariables false
set_option linter.unusedSimpArgs false
open Go.RowKit
def foA : List Int := [8, 1048578, 0, 0, 0, 562949953421312, 8, 2, 0, 0, 3, 0, 0, 0]
def foB : List Int := [8, 1048578, 0, 0, 0, 1048576, 8, 2, 0, 0, 3, 0, 0, 0]
def foD : List Int := [8, 2097153, 0, 0, 0, 1048576, 8, 2, 0, 0, 3, 0, 0, 0]
def foW : Nat → List Int
  | 0 => foA
  | 1 => foB
  | _ => foD
def foV : Nat → FrV
  | 0 => frV0 1
  | 1 => ⟨2, 562949953421312, 1048576, true, none⟩
  | 2 => ⟨1, 562949953421312, 1048576, true, none⟩
  | 3 => ⟨3, 562949953421312, 1048576, true, some ⟨1, 0, 0, 0⟩⟩
  | 4 => ⟨3, 562949953421312, 1048576, true, some ⟨2, 0, 1048578, 0⟩⟩
  | 5 => ⟨3, 562949953421312, 1048576, true, some ⟨3, 0, 1048578, 2097153⟩⟩
  | 6 => ⟨0, 562949953421312, 1048576, true, some ⟨0, 0, 1048578, 2097153⟩⟩
  | 7 => ⟨0, 1048576, 0, false, none⟩
  | _ => ⟨0, 1048576, 1048576, true, none⟩
def foC : FrC := ⟨1, 3, 0, 0, false, 0⟩
structure FoR where
  ph : Nat
  a : Nat
  code : Int
  dn : Bool
def foNx (ph : Nat) : Nat → FoR
  | 0 => if ph = 0 then ⟨0, 1, 0, false⟩ else ⟨ph, 7, 4, true⟩
  | 1 => if ph = 0 then ⟨1, 3, 0, false⟩ else ⟨ph, 2, 0, false⟩
  | 2 => ⟨ph, 8, 4, true⟩
  | 3 => ⟨ph, 4, 0, false⟩
  | 4 => ⟨ph, 5, 0, false⟩
  | 5 => ⟨2, 6, 0, true⟩
  | a => ⟨ph, a, 1, true⟩
def foOk (ph a : Nat) : Bool := (ph == 0 && decide (a ≤ 1)) || (ph == 1 && decide (a ≤ 5)) || (ph == 2 && decide (a ≤ 2))
theorem fo_step : ∀ (ph a : Nat), foOk ph a = true → frStep foC (foW ph) (foV a) = ⟨foW (foNx ph a).ph, foV (foNx ph a).a, (foNx ph a).code, (foNx ph a).dn⟩
  | 0, 0, _ => by kernel_rfl
  | 0, 1, _ => by kernel_rfl
  | 0, a + 2, h => by simp [foOk] at h
  | 1, 0, _ => by kernel_rfl
  | 1, 1, _ => by kernel_rfl
  | 1, 2, _ => by kernel_rfl
  | 1, 3, _ => by kernel_rfl
  | 1, 4, _ => by kernel_rfl
  | 1, 5, _ => by kernel_rfl
  | 1, a + 6, h => by simp [foOk] at h
  | 2, 0, _ => by kernel_rfl
  | 2, 1, _ => by kernel_rfl
  | 2, 2, _ => by kernel_rfl
  | 2, a + 3, h => by simp [foOk] at h
  | n + 3, a, h => by simp [foOk] at h
theorem foV_in : ∀ a, FrIn (foV a)
  | 0 => frV1_in
  | 1 => ⟨by decide, by decide, fun _ _ => rfl, fun e => absurd e (by decide)⟩
  | 2 => ⟨by decide, by decide, fun _ _ => rfl, fun e => absurd e (by decide)⟩
  | 3 => ⟨by decide, by decide, fun _ e => absurd e (by decide), fun _ => ⟨_, rfl⟩⟩
  | 4 => ⟨by decide, by decide, fun _ e => absurd e (by decide), fun _ => ⟨_, rfl⟩⟩
  | 5 => ⟨by decide, by decide, fun _ e => absurd e (by decide), fun _ => ⟨_, rfl⟩⟩
  | 6 => ⟨by decide, by decide, fun e => absurd e (by decide), fun e => absurd e (by decide)⟩
  | 7 => ⟨by decide, by decide, fun _ _ => rfl, fun e => absurd e (by decide)⟩
  | n + 8 => ⟨by show (0 : Int) ≤ 0; decide, by show (0 : Int) ≤ 3; decide, fun e => absurd e (by show ¬ (1 : Int) ≤ 0; decide), fun e => absurd e (by show ¬ (0 : Int) = 3; decide)⟩
def foE (x : Nat) : Bool := decide (x ≤ 2) || x == 7 || x == 8
def foU (x : Nat) : Bool := decide (3 ≤ x) && decide (x ≤ 5)
def foInv (ph a b c : Nat) : Bool :=
  (ph == 0 && decide (a ≤ 1) && decide (b ≤ 1) && decide (c ≤ 1)) ||
  (ph == 1 && ((foU a && foE b && foE c) || (foE a && foU b && foE c) || (foE a && foE b && foU c))) ||
  (ph == 2 && ((a == 6 && foE b && foE c) || (foE a && b == 6 && foE c) || (foE a && foE b && c == 6)))
def foPot : Nat → Nat
  | 0 => 5
  | 1 => 4
  | 2 => 1
  | 3 => 3
  | 4 => 2
  | 5 => 1
  | _ => 0
def foOne (x : Nat) : Nat := if x = 6 then 1 else 0
def foTwo (x : Nat) : Nat := if x = 7 ∨ x = 8 then 1 else 0
def foChk (ph a b c : Nat) : Bool := !foInv ph a b c ||
  ((decide (6 ≤ a) || (foOk ph a && foInv (foNx ph a).ph (foNx ph a).a b c)) && (decide (6 ≤ b) || (foOk ph b && foInv (foNx ph b).ph a (foNx ph b).a c)) && (decide (6 ≤ c) || (foOk ph c && foInv (foNx ph c).ph a b (foNx ph c).a)))
def foEnd (ph a b c : Nat) : Bool := !foInv ph a b c || !(foPot a == 0) || !(foPot b == 0) || !(foPot c == 0) ||
  (ph == 2 && foOne a + foOne b + foOne c == 1 && foTwo a + foTwo b + foTwo c == 2)
def foStp (ph a : Nat) : Bool := !foOk ph a || (decide ((foNx ph a).ph < 3) && decide ((foNx ph a).a < 9) && decide (foPot (foNx ph a).a < foPot a) && ((foNx ph a).dn == decide (6 ≤ (foNx ph a).a)) && (!(foNx ph a).dn || ((foNx ph a).code == 0 && (foNx ph a).a == 6) || ((foNx ph a).code == 4 && ((foNx ph a).a == 7 || (foNx ph a).a == 8))))
theorem fo_all1 : ((List.range 3).all fun ph => (List.range 9).all fun a => (List.range 9).all fun b => (List.range 9).all fun c => foChk ph a b c && foEnd ph a b c) = true := by decide +kernel
theorem fo_bd1 : ((List.range 3).all fun ph => (List.range 6).all fun a => foStp ph a) = true := by decide +kernel
theorem fo_both {ph a b c : Nat} (hp : ph < 3) (ha : a < 9) (hb : b < 9) (hc : c < 9) : foChk ph a b c = true ∧ foEnd ph a b c = true := by
  have h := fo_all1
  have h1 := List.all_eq_true.1 h ph (List.mem_range.2 hp)
  have h2 := List.all_eq_true.1 h1 a (List.mem_range.2 ha)
  have h3 := List.all_eq_true.1 h2 b (List.mem_range.2 hb)
  have h4 := List.all_eq_true.1 h3 c (List.mem_range.2 hc)
  simpa using h4
theorem fo_all {ph a b c : Nat} (hp : ph < 3) (ha : a < 9) (hb : b < 9) (hc : c < 9) (hi : foInv ph a b c = true) :
    (a < 6 → foOk ph a = true ∧ foInv (foNx ph a).ph (foNx ph a).a b c = true) ∧ (b < 6 → foOk ph b = true ∧ foInv (foNx ph b).ph a (foNx ph b).a c = true) ∧ (c < 6 → foOk ph c = true ∧ foInv (foNx ph c).ph a b (foNx ph c).a = true) := by
  have h := (fo_both hp ha hb hc).1
  unfold foChk at h
  rw [hi] at h
  simp only [Bool.not_true, Bool.false_or, Bool.and_eq_true, Bool.or_eq_true, decide_eq_true_eq] at h
  obtain ⟨⟨h1, h2⟩, h3⟩ := h
  refine ⟨fun k => ?_, fun k => ?_, fun k => ?_⟩
  · rcases h1 with h1 | h1
    · omega
    · exact h1
  · rcases h2 with h2 | h2
    · omega
    · exact h2
  · rcases h3 with h3 | h3
    · omega
    · exact h3
theorem fo_bd {ph a : Nat} (hp : ph < 3) (ha : a < 6) (hk : foOk ph a = true) : (foNx ph a).ph < 3 ∧ (foNx ph a).a < 9 ∧ foPot (foNx ph a).a < foPot a ∧ (foNx ph a).dn = decide (6 ≤ (foNx ph a).a) ∧ ((foNx ph a).dn = true → ((foNx ph a).code = 0 ∧ (foNx ph a).a = 6) ∨ ((foNx ph a).code = 4 ∧ ((foNx ph a).a = 7 ∨ (foNx ph a).a = 8))) := by
  have h := List.all_eq_true.1 (List.all_eq_true.1 fo_bd1 ph (List.mem_range.2 hp)) a (List.mem_range.2 ha)
  unfold foStp at h
  rw [hk] at h
  simp only [Bool.not_true, Bool.false_or, Bool.and_eq_true, decide_eq_true_eq] at h
  obtain ⟨⟨⟨⟨h1, h2⟩, h3⟩, h4⟩, h5⟩ := h
  refine ⟨h1, h2, h3, by simpa using h4, fun hd => ?_⟩
  rw [hd] at h5
  simpa using h5
theorem fo_end {ph a b c : Nat} (hp : ph < 3) (ha : a < 9) (hb : b < 9) (hc : c < 9) (hi : foInv ph a b c = true) (p1 : foPot a = 0) (p2 : foPot b = 0) (p3 : foPot c = 0) : ph = 2 ∧ foOne a + foOne b + foOne c = 1 ∧ foTwo a + foTwo b + foTwo c = 2 := by
  have h := (fo_both hp ha hb hc).2
  unfold foEnd at h
  rw [hi, p1, p2, p3] at h
  simp at h
  exact ⟨h.1.1, h.1.2, h.2⟩
theorem fo_pot6 {a : Nat} (h : 6 ≤ a) : foPot a = 0 := by
  obtain ⟨k, rfl⟩ : ∃ k, a = k + 6 := ⟨a - 6, by omega⟩
  rfl
theorem fo_pot5 : ∀ a, foPot a ≤ 5
  | 0 => by decide
  | 1 => by decide
  | 2 => by decide
  | 3 => by decide
  | 4 => by decide
  | 5 => by decide
  | n + 6 => by show 0 ≤ 5; decide
def vis (L n : Nat) : Nat → Nat
  | 0 => 0
  | r + 1 => vis L n r + if (L + r) % 3 = n then 1 else 0
theorem vis_mod (L n : Nat) : ∀ r, vis L n r = vis (L % 3) n r
  | 0 => rfl
  | r + 1 => by
    unfold vis
    rw [vis_mod L n r]
    congr 2
    rw [show (L + r) % 3 = (L % 3 + r) % 3 by omega]
theorem vis_30 (L : Nat) {n : Nat} (h : n < 3) : 5 ≤ vis L n 30 := by
  rw [vis_mod]
  have : ∀ e < 3, ∀ n < 3, 5 ≤ vis e n 30 := by decide
  exact this _ (by omega) n h
theorem foA_0 : initW 1 3 = [0, 1, 0, 0, 0, 0, 0, 2, 0, 0, 3, 0, 0, 0] := by decide
def foZ : List Int := List.replicate 64 0
theorem fo_b0 : List.replicate (64 : Int).toNat (0 : Int) = foZ := by decide
theorem fo_c {tk : Nat} : alC0 64 3 1 8 tk = ⟨1, 3, 64, 8, 8, tk, 0⟩ := by
  have h1 : ofT 64 3 1 = 1 := by decide
  have h2 : ofS 64 3 1 = 3 := by decide
  have h3 : (hRound 8).1 = 8 := by decide
  unfold alC0; rw [h1, h2, h3]
theorem fo_m (tk : Nat) : ∃ q N, mRun (alF1 ⟨1, 3, 64, 8, 8, tk, 0⟩) 1000 1000 ⟨[0, 1, 0, 0, 0, 0, 0, 2, 0, 0, 3, 0, 0, 0], foZ, alV0 1⟩ = (q, (0, 1099511627776), N) ∧ q.ws = foA ∧ q.bs = foZ := ⟨⟨foA, foZ, ⟨0, 1, 0, 0, 0, 8, 0, 562949953421312, false, ⟨0, 0, 1, 1048578⟩, none⟩⟩, 20, by kernel_rfl, rfl, rfl⟩
theorem fo_n : frNewC 64 3 1 1099511627776 = foC := by
  have h1 : ofT 64 3 1 = 1 := by decide
  have h2 : ofS 64 3 1 = 3 := by decide
  have h3 : hOf 1099511627776 3 = (0, 0, 0) := by decide
  unfold frNewC; rw [h1, h2, h3]; rfl
theorem fo_free : freeOf 1 3 foD = [0, 1, 2] := by decide
theorem fo_ok : WOk foD := by unfold WOk; decide
theorem fo_lok (y : Nat) : lOk ({ foC with gp := y } : FrC).t ({ foC with gp := y } : FrC).s := .inr (by show 1 ≤ (1 : Int) ∧ (1 : Int) ≤ 4 ∧ 1 ≤ (3 : Int) ∧ (3 : Int) ≤ 64; decide)
theorem foW_len : ∀ ph, (foW ph).length = 14
  | 0 => rfl
  | 1 => rfl
  | _ + 2 => rfl
end Go.Proofs.Ytkkeoadnepedjaa
