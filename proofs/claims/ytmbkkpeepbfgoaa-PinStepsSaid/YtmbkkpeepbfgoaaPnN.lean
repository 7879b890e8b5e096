/- The walks of pin's New and NewUn. -/
import Derived.RegionTactic
import Derived.BigRegion
import Derived.Deep.RegionHeld3
import Derived.Outline
import Derived.Deep.DeepCutAuto
import Derived.Test.YtmbkkpeepbfgoaaPnS
import Derived.Test.YtmbkkpeepbfgoaaHnW
namespace Go.Proofs.Ytmbkkpeepbfgoaa
set_option linter.unusedVariables false
set_option linter.unusedSimpArgs false
open Go.RowKit
def pnNews (a s t h : Int) (un : Bool) (x : Nat) : Grp := pnG x (ofT a s t) (ofS a s t) (hOf h s).1 (hOf h s).2.1 ((hOf h s).2.2 != 0) un (if cfgOk a s t = true then 1 else 0) 0 0
set_option maxRecDepth 100000 in
set_option maxHeartbeats 4000000 in
theorem pin_of {B : Nat} {W w : World} {G : List Grp} (a s t h : Int) (un wt : Bool) (hwt : wt = !un) (F : FuncId) (hF : pnF un = .func (.func F) #[] #[]) (l : -9223372036854775808 ≤ h) (u : h ≤ 9223372036854775807) (hO : Owns B W w G) : Calls Try.prog 50 #[.agg #[.int .i64 a, .int .i64 s, .int .i64 t], .int .i64 h, .bool wt, .func (.func F) #[] #[]] w fun e w' =>
    ∃ x, e = .returned (.pointer (some ⟨x, 0, none⟩)) ∧ Owns B W w' (pnNews a s t h un x :: G) := by
  obtain ⟨T, hT⟩ : ∃ T, ofT a s t = T := ⟨_, rfl⟩
  obtain ⟨S, hS⟩ : ∃ S, ofS a s t = S := ⟨_, rfl⟩
  obtain ⟨sl, ge, f, hf⟩ : ∃ sl ge f, hOf h s = (sl, ge, f) := ⟨_, _, _, rfl⟩
  have HT := Lib.hid hT
  have HS := Lib.hid hS
  have HF := Lib.hid hf
  have HW := Lib.hid hwt
  unfold pnNews
  rw [hT, hS, hf]
  have HFF := Lib.hid hF
  clear hT hS hf hwt hF
  have key : ∀ (E N : Int) (b c : Bool), ofE a s t = E → (E == 0) = b → (if cfgOk a s t = true then 1 else 0) = N → (N = if b = true then 1 else 0) → (f != 0) = c → Calls Try.prog 50 #[.agg #[.int .i64 a, .int .i64 s, .int .i64 t], .int .i64 h, .bool wt, .func (.func F) #[] #[]] w fun e w' =>
      ∃ x, e = .returned (.pointer (some ⟨x, 0, none⟩)) ∧ Owns B W w' (pnG x T S sl ge c un N 0 0 :: G) := by
    intro E N b c hE hb hN hNb hc
    have HE := Lib.hid hE
    have hbn : (E != 0) = !b := by rw [← hb]; rfl
    have HNB := Lib.hid hNb
    clear hE hN hNb
    cases b <;> cases c
    all_goals
      go_enter Try.func50, Try.ntmps50
      go_wp2_with fail
      have hO := hO.alloc (.cells #[.int .i64 a, .int .i64 s, .int .i64 t] 26)
      generalize hcb : w.heap.size = cb at hO ⊢
      clear hcb
      generalize w.alloc (.cells #[.int .i64 a, .int .i64 s, .int .i64 t] 26) = w0 at hO ⊢
      refine (layout_Of _ _ _ _).mono ?_; rw [HT.out, HS.out, HE.out]; rintro e w1 ⟨rfl, hb⟩; have hO := hO.via hb
      have a1 : w1.cell? ⟨cb, 1, none⟩ = some (Value.int .i64 s) := hO.cell 0 0 rfl rfl 1
      have hz := hO.lt 0 0 rfl rfl
      go_wp2_with (go_at_call 44; refine (handle_of _ _ _ l u).mono ?_; rw [HF.out]; rintro e w2 ⟨rfl, rfl⟩)
      go_ret
      refine ⟨_, rfl, ?_⟩
      rw [HNB.out]
      have hO := (hO.drop 0).alloc (.cells #[.int .i64 T, .int .i64 S] 88)
      have hw := HW.out
      subst hw
      unfold pnG pnObj
      rw [HFF.out]
      first
        | (have h2 := hO.alloc (pnObj T S sl ge false un 0 0 0); unfold pnObj at h2; rw [HFF.out] at h2; simp only [World.size_alloc] at h2; exact h2.swap.tail)
        | (have h2 := hO.alloc (pnObj T S sl ge true un 0 0 0); unfold pnObj at h2; rw [HFF.out] at h2; simp only [World.size_alloc] at h2; exact h2.swap.tail)
        | (have h2 := hO.alloc (pnObj T S sl ge false un 1 0 0); unfold pnObj at h2; rw [HFF.out] at h2; simp only [World.size_alloc] at h2; exact h2.swap.tail)
        | (have h2 := hO.alloc (pnObj T S sl ge true un 1 0 0); unfold pnObj at h2; rw [HFF.out] at h2; simp only [World.size_alloc] at h2; exact h2.swap.tail)
  exact key _ _ _ _ rfl rfl rfl (by unfold ofE; split <;> rfl) rfl
theorem pin_New {B : Nat} {W w : World} {G : List Grp} (a s t h : Int) (l : -9223372036854775808 ≤ h) (u : h ≤ 9223372036854775807) (hO : Owns B W w G) : Calls Try.prog 25 #[.agg #[.int .i64 a, .int .i64 s, .int .i64 t], .int .i64 h] w fun e w' =>
    ∃ x, e = .returned (.pointer (some ⟨x, 0, none⟩)) ∧ Owns B W w' (pnNews a s t h false x :: G) := by
  have hO := hO.alloc (.cells #[.int .i64 a, .int .i64 s, .int .i64 t] 26)
  go_enter Try.func25, Try.ntmps25
  go_wp2_with fail
  refine (pin_of a s t h false true rfl _ rfl l u hO).mono ?_
  rintro e w1 ⟨x, rfl, hO⟩
  go_wp2_with fail
  go_ret
  exact ⟨x, rfl, hO.swap.tail⟩
theorem pin_NewUn {B : Nat} {W w : World} {G : List Grp} (a s t h : Int) (l : -9223372036854775808 ≤ h) (u : h ≤ 9223372036854775807) (hO : Owns B W w G) : Calls Try.prog 26 #[.agg #[.int .i64 a, .int .i64 s, .int .i64 t], .int .i64 h] w fun e w' =>
    ∃ x, e = .returned (.pointer (some ⟨x, 0, none⟩)) ∧ Owns B W w' (pnNews a s t h true x :: G) := by
  have hO := hO.alloc (.cells #[.int .i64 a, .int .i64 s, .int .i64 t] 26)
  go_enter Try.func26, Try.ntmps26
  go_wp2_with fail
  refine (pin_of a s t h true false rfl _ rfl l u hO).mono ?_
  rintro e w1 ⟨x, rfl, hO⟩
  go_wp2_with fail
  go_ret
  exact ⟨x, rfl, hO.swap.tail⟩
theorem law14_one {B : Nat} {W w : World} {G : List Grp} (a s t h : Int) (un : Bool) (l : -9223372036854775808 ≤ h) (u : h ≤ 9223372036854775807) (hO : Owns B W w G) : Calls Try.prog 30 #[.agg #[.int .i64 a, .int .i64 s, .int .i64 t], .int .i64 h, .bool un] w fun e w' =>
    ∃ x, e = .returned (.pointer (some ⟨x, 0, none⟩)) ∧ Owns B W w' (pnNews a s t h un x :: G) := by
  have hO := hO.alloc (.cells #[.int .i64 a, .int .i64 s, .int .i64 t] 26)
  cases un
  all_goals
    go_enter Try.func30, Try.ntmps30
    go_wp2_with fail
    first
      | refine (pin_New a s t h l u hO).mono ?_
      | refine (pin_NewUn a s t h l u hO).mono ?_
    rintro e w1 ⟨x, rfl, hO⟩
    go_wp2_with fail
    go_ret
    exact ⟨x, rfl, hO.swap.tail⟩
end Go.Proofs.Ytmbkkpeepbfgoaa
