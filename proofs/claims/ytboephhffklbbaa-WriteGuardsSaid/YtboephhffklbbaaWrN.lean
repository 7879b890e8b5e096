/- The walk of write's New. -/
import Derived.RegionTactic
import Derived.BigRegion
import Derived.Deep.RegionHeld3
import Derived.Outline
import Derived.Deep.DeepCutAuto
import Derived.Test.YtboephhffklbbaaWrP
namespace Go.Proofs.Ytboephhffklbbaa
set_option linter.unusedVariables false
set_option linter.unusedSimpArgs false
open Go.RowKit
def wrNewC (a s t h off b : Int) : WrC := ⟨ofT a s t, ofS a s t, (hOf h s).1, (hOf h s).2.1, (hOf h s).2.2 != 0, off, b⟩
def wrNewV (a s t : Int) : WrV := ⟨if cfgOk a s t = true then 1 else 0, 0, 0, 0, false⟩
def wrFin (T S sl ge : Int) (st : Bool) (off b N : Int) : Obj := .cells #[.int .i64 T, .int .i64 S, .int .i64 sl, .int .i64 ge, .bool st, .int .i64 off, .int .i64 b, .int .i64 N, .int .i64 0, .int .i64 0, .int .i64 0, .bool false] 87 (0, 0)
set_option maxRecDepth 100000 in
set_option maxHeartbeats 4000000 in
theorem write_New {B : Nat} {W w : World} {G : List Grp} (a s t h off bv : Int) (l : -9223372036854775808 ≤ h) (u : h ≤ 9223372036854775807) (hO : Owns B W w G) : Calls Try.prog 16 #[.agg #[.int .i64 a, .int .i64 s, .int .i64 t], .int .i64 h, .int .i64 off, .int .i64 bv] w fun e w' =>
    ∃ x, e = .returned (.pointer (some ⟨x, 0, none⟩)) ∧ Owns B W w' (wrG x (wrNewC a s t h off bv) (wrNewV a s t) :: G) := by
  obtain ⟨T, hT⟩ : ∃ T, ofT a s t = T := ⟨_, rfl⟩
  obtain ⟨S, hS⟩ : ∃ S, ofS a s t = S := ⟨_, rfl⟩
  obtain ⟨sl, ge, f, hf⟩ : ∃ sl ge f, hOf h s = (sl, ge, f) := ⟨_, _, _, rfl⟩
  have HT := Lib.hid hT
  have HS := Lib.hid hS
  have HF := Lib.hid hf
  unfold wrNewC wrNewV
  rw [hT, hS, hf]
  clear hT hS hf
  have key : ∀ (E N : Int) (b c : Bool), ofE a s t = E → (E == 0) = b → (if cfgOk a s t = true then 1 else 0) = N → (N = if b = true then 1 else 0) → (f != 0) = c → Calls Try.prog 16 #[.agg #[.int .i64 a, .int .i64 s, .int .i64 t], .int .i64 h, .int .i64 off, .int .i64 bv] w fun e w' =>
      ∃ x, e = .returned (.pointer (some ⟨x, 0, none⟩)) ∧ Owns B W w' ([(x, wrFin T S sl ge c off bv N)] :: G) := by
    intro E N b c hE hb hN hNb hc
    have HE := Lib.hid hE
    have hbn : (E != 0) = !b := by rw [← hb]; rfl
    have HNB := Lib.hid hNb
    clear hE hN hNb
    cases b <;> cases c
    all_goals
      go_enter Try.func16, Try.ntmps16
      go_wp2_with fail
      have hO := hO.alloc (.cells #[.int .i64 a, .int .i64 s, .int .i64 t] 26)
      generalize hcb : w.heap.size = cb at hO ⊢
      clear hcb
      generalize w.alloc (.cells #[.int .i64 a, .int .i64 s, .int .i64 t] 26) = w0 at hO ⊢
      refine (layout_Of _ _ _ _).mono ?_; rw [HT.out, HS.out, HE.out]; rintro e w1 ⟨rfl, hb⟩; have hO := hO.via hb
      have a1 : w1.cell? ⟨cb, 1, none⟩ = some (Value.int .i64 s) := hO.cell 0 0 rfl rfl 1
      have hz := hO.lt 0 0 rfl rfl
      go_wp2_with (go_at_call 41; refine (handle_of _ _ _ l u).mono ?_; rw [HF.out]; rintro e w2 ⟨rfl, rfl⟩)
      go_ret
      refine ⟨_, rfl, ?_⟩
      rw [HNB.out]
      have hO := (hO.drop 0).alloc (.cells #[.int .i64 T, .int .i64 S] 83)
      first
        | (have h2 := hO.alloc (wrFin T S sl ge false off bv 0); simp only [World.size_alloc] at h2; exact h2.swap.tail)
        | (have h2 := hO.alloc (wrFin T S sl ge true off bv 0); simp only [World.size_alloc] at h2; exact h2.swap.tail)
        | (have h2 := hO.alloc (wrFin T S sl ge false off bv 1); simp only [World.size_alloc] at h2; exact h2.swap.tail)
        | (have h2 := hO.alloc (wrFin T S sl ge true off bv 1); simp only [World.size_alloc] at h2; exact h2.swap.tail)
  exact key _ _ _ _ rfl rfl rfl (by unfold ofE; split <;> rfl) rfl
theorem write_New_app {B : Nat} {W w : World} {G : List Grp} (a s t h off bv : Int) (l : -9223372036854775808 ≤ h) (u : h ≤ 9223372036854775807) (hO : Owns B W w G) : Calls Try.prog 16 #[.agg #[.int .i64 a, .int .i64 s, .int .i64 t], .int .i64 h, .int .i64 off, .int .i64 bv] w fun e w' =>
    ∃ x, e = .returned (.pointer (some ⟨x, 0, none⟩)) ∧ Below w.heap.size w w' ∧ Owns B W w' (wrG x (wrNewC a s t h off bv) (wrNewV a s t) :: G) :=
  (write_New a s t h off bv l u (Owns.nil w)).mono fun _ _ ⟨x, he, h⟩ => ⟨x, he, h.1, hO.app h⟩
end Go.Proofs.Ytboephhffklbbaa
