/- entry.Pack and entry.Unpack. -/
import Derived.LoopTactic
import Derived.Test.YtmbkkpeepbfgoaaEnW
namespace Go.Proofs.Ytmbkkpeepbfgoaa
set_option linter.unusedVariables false
set_option linter.unusedSimpArgs false
open Go.RowKit
theorem ixa0 (x0 x1 x2 x3 x4 x5 : Value) (w : World) : (Instr.index 128 (.agg #[x0, x1, x2, x3, x4, x5]) (.int .i64 0)).run Try.prog w = .ok x0 w := by kernel_rfl
theorem ixa1 (x0 x1 x2 x3 x4 x5 : Value) (w : World) : (Instr.index 128 (.agg #[x0, x1, x2, x3, x4, x5]) (.int .i64 1)).run Try.prog w = .ok x1 w := by kernel_rfl
theorem ixa2 (x0 x1 x2 x3 x4 x5 : Value) (w : World) : (Instr.index 128 (.agg #[x0, x1, x2, x3, x4, x5]) (.int .i64 2)).run Try.prog w = .ok x2 w := by kernel_rfl
theorem ixa3 (x0 x1 x2 x3 x4 x5 : Value) (w : World) : (Instr.index 128 (.agg #[x0, x1, x2, x3, x4, x5]) (.int .i64 3)).run Try.prog w = .ok x3 w := by kernel_rfl
theorem ixa4 (x0 x1 x2 x3 x4 x5 : Value) (w : World) : (Instr.index 128 (.agg #[x0, x1, x2, x3, x4, x5]) (.int .i64 4)).run Try.prog w = .ok x4 w := by kernel_rfl
theorem ixa5 (x0 x1 x2 x3 x4 x5 : Value) (w : World) : (Instr.index 128 (.agg #[x0, x1, x2, x3, x4, x5]) (.int .i64 5)).run Try.prog w = .ok x5 w := by kernel_rfl
theorem ixf0 (w : World) : (Instr.index 131 (.agg #[.int .i64 0, .int .i64 20, .int .i64 20, .int .i64 20, .int .i64 40, .int .i64 4, .int .i64 44, .int .i64 4, .int .i64 48, .int .i64 1, .int .i64 49, .int .i64 1]) (.int .i64 0)).run Try.prog w = .ok (.agg #[.int .i64 0, .int .i64 20]) w := by kernel_rfl
theorem ixf1 (w : World) : (Instr.index 131 (.agg #[.int .i64 0, .int .i64 20, .int .i64 20, .int .i64 20, .int .i64 40, .int .i64 4, .int .i64 44, .int .i64 4, .int .i64 48, .int .i64 1, .int .i64 49, .int .i64 1]) (.int .i64 1)).run Try.prog w = .ok (.agg #[.int .i64 20, .int .i64 20]) w := by kernel_rfl
theorem ixf2 (w : World) : (Instr.index 131 (.agg #[.int .i64 0, .int .i64 20, .int .i64 20, .int .i64 20, .int .i64 40, .int .i64 4, .int .i64 44, .int .i64 4, .int .i64 48, .int .i64 1, .int .i64 49, .int .i64 1]) (.int .i64 2)).run Try.prog w = .ok (.agg #[.int .i64 40, .int .i64 4]) w := by kernel_rfl
theorem ixf3 (w : World) : (Instr.index 131 (.agg #[.int .i64 0, .int .i64 20, .int .i64 20, .int .i64 20, .int .i64 40, .int .i64 4, .int .i64 44, .int .i64 4, .int .i64 48, .int .i64 1, .int .i64 49, .int .i64 1]) (.int .i64 3)).run Try.prog w = .ok (.agg #[.int .i64 44, .int .i64 4]) w := by kernel_rfl
theorem ixf4 (w : World) : (Instr.index 131 (.agg #[.int .i64 0, .int .i64 20, .int .i64 20, .int .i64 20, .int .i64 40, .int .i64 4, .int .i64 44, .int .i64 4, .int .i64 48, .int .i64 1, .int .i64 49, .int .i64 1]) (.int .i64 4)).run Try.prog w = .ok (.agg #[.int .i64 48, .int .i64 1]) w := by kernel_rfl
theorem ixf5 (w : World) : (Instr.index 131 (.agg #[.int .i64 0, .int .i64 20, .int .i64 20, .int .i64 20, .int .i64 40, .int .i64 4, .int .i64 44, .int .i64 4, .int .i64 48, .int .i64 1, .int .i64 49, .int .i64 1]) (.int .i64 5)).run Try.prog w = .ok (.agg #[.int .i64 49, .int .i64 1]) w := by kernel_rfl
attribute [local go_sem] ixa0 ixa1 ixa2 ixa3 ixa4 ixa5 ixf0 ixf1 ixf2 ixf3 ixf4 ixf5
def ePack (o g p u : Int) (l a : Bool) : Int × Int := if eMay o g p u l a = true then (eWord o g p u l a, 0) else (0, 1)
set_option maxHeartbeats 2000000 in
theorem entry_Pack (o g p u : Int) (l a : Bool) (w : World) : Calls Try.prog 87 #[.agg #[.int .i64 o, .int .i64 g, .int .i64 p, .int .i64 u, .bool l, .bool a]] w fun e w' => e = .returned (.tuple #[.int .i64 (ePack o g p u l a).1, .int .i64 (ePack o g p u l a).2]) ∧ Below w.heap.size w w' := by
  rcases bool_cases (b := eMay o g p u l a) with h | h
  · have e := Lib.hid (show ePack o g p u l a = (eWord o g p u l a, 0) by unfold ePack; rw [if_pos h])
    obtain ⟨h1, h2, h3, h4, h5, h6, h7, h8, -, -⟩ := eMay_of h
    obtain ⟨q0, q1, q2, q3, q4, q5⟩ := ePart_put (l := l) (a := a) ⟨h1, h2, h3, h4, h5, h6, h7, h8⟩
    have h' := Lib.hid h
    have Q0 := Lib.hid (show fPut (ePart o g p u l a 0) 0 20 o = _ from q0)
    have Q1 := Lib.hid q1
    have Q2 := Lib.hid q2
    have Q3 := Lib.hid q3
    have Q4 := Lib.hid q4
    have Q5 := Lib.hid q5
    have l0 := bI_bd l
    have a0 := bI_bd a
    clear h q0 q1 q2 q3 q4 q5
    go_enter Try.func87, Try.ntmps87
    go_wp2_with (go_at_call 86; refine (entry_may _ _ _ _ _ _ _).mono ?_; rw [h'.out]; rintro e w1 ⟨rfl, hb1⟩; obtain ⟨hc1, hf1⟩ := bcell hb1; have hz1 := hb1.size; (try simp only [World.size_alloc, World.size_drew, World.size_setCell, size_drewN] at hz1))
    go_quiet ((go_at_call 99; exact Calls.quiet_of_same ((entry_bit _ _).mono fun e w' h => ⟨h.1, h.2.symm⟩)))
    go_wp2_with fail
    have hB1 : Below w.heap.size w (w1.drewN nq) := by (repeat' (first | (with_reducible exact Below.refl _ _) | (with_reducible assumption) | (with_reducible refine below_drewN ?_ _) | (with_reducible refine Below.drew ?_) | (with_reducible refine Below.alloc ?_ ?_ _) | (with_reducible refine Below.setCell ?_ ?_ _) | (with_reducible refine below_via (by assumption) ?_ ?_) | go_size))
    clear hc1 hf1 hb1 hz1
    go_loopw [4, 25] (fun x i wr => ∃ k : Nat, k ≤ 6 ∧ i = .int .i64 k ∧ x = .int .i64 (ePart o g p u l a k) ∧ Below w.heap.size w wr) (fun _ i _ => 6 - (intOf i).toNat)
    case atStart => exact ⟨0, by omega, rfl, rfl, hB1⟩
    case round =>
      obtain ⟨k, hk, rfl, rfl, hB⟩ := hrel
      have hzB := hB.size
      rcases (show k = 0 ∨ k = 1 ∨ k = 2 ∨ k = 3 ∨ k = 4 ∨ k = 5 ∨ k = 6 by omega) with rfl | rfl | rfl | rfl | rfl | rfl | rfl
      · go_wp2_with first
          | (go_at_call 84; refine (entry_fields _).mono ?_; rintro e w2 ⟨rfl, hb2⟩; have hz2 := hb2.size)
          | (go_at_call 90; refine (field_Put _ _ _ _ _ (by omega) (by omega)).mono ?_; rw [Q0.out]; rintro e w3 ⟨rfl, hb3⟩; have hz3 := hb3.size)
        go_roundw
        case rel => exact ⟨1, by omega, rfl, rfl, by (repeat' (first | (with_reducible exact Below.refl _ _) | (with_reducible assumption) | (with_reducible refine below_drewN ?_ _) | (with_reducible refine Below.drew ?_) | (with_reducible refine Below.alloc ?_ ?_ _) | (with_reducible refine Below.setCell ?_ ?_ _) | (with_reducible refine below_via (by assumption) ?_ ?_) | go_size))⟩
        case measure => simp [intOf]
      · go_wp2_with first
          | (go_at_call 84; refine (entry_fields _).mono ?_; rintro e w2 ⟨rfl, hb2⟩; have hz2 := hb2.size)
          | (go_at_call 90; refine (field_Put _ _ _ _ _ (by omega) (by omega)).mono ?_; rw [Q1.out]; rintro e w3 ⟨rfl, hb3⟩; have hz3 := hb3.size)
        go_roundw
        case rel => exact ⟨2, by omega, rfl, rfl, by (repeat' (first | (with_reducible exact Below.refl _ _) | (with_reducible assumption) | (with_reducible refine below_drewN ?_ _) | (with_reducible refine Below.drew ?_) | (with_reducible refine Below.alloc ?_ ?_ _) | (with_reducible refine Below.setCell ?_ ?_ _) | (with_reducible refine below_via (by assumption) ?_ ?_) | go_size))⟩
        case measure => simp [intOf]
      · go_wp2_with first
          | (go_at_call 84; refine (entry_fields _).mono ?_; rintro e w2 ⟨rfl, hb2⟩; have hz2 := hb2.size)
          | (go_at_call 90; refine (field_Put _ _ _ _ _ (by omega) (by omega)).mono ?_; rw [Q2.out]; rintro e w3 ⟨rfl, hb3⟩; have hz3 := hb3.size)
        go_roundw
        case rel => exact ⟨3, by omega, rfl, rfl, by (repeat' (first | (with_reducible exact Below.refl _ _) | (with_reducible assumption) | (with_reducible refine below_drewN ?_ _) | (with_reducible refine Below.drew ?_) | (with_reducible refine Below.alloc ?_ ?_ _) | (with_reducible refine Below.setCell ?_ ?_ _) | (with_reducible refine below_via (by assumption) ?_ ?_) | go_size))⟩
        case measure => simp [intOf]
      · go_wp2_with first
          | (go_at_call 84; refine (entry_fields _).mono ?_; rintro e w2 ⟨rfl, hb2⟩; have hz2 := hb2.size)
          | (go_at_call 90; refine (field_Put _ _ _ _ _ (by omega) (by omega)).mono ?_; rw [Q3.out]; rintro e w3 ⟨rfl, hb3⟩; have hz3 := hb3.size)
        go_roundw
        case rel => exact ⟨4, by omega, rfl, rfl, by (repeat' (first | (with_reducible exact Below.refl _ _) | (with_reducible assumption) | (with_reducible refine below_drewN ?_ _) | (with_reducible refine Below.drew ?_) | (with_reducible refine Below.alloc ?_ ?_ _) | (with_reducible refine Below.setCell ?_ ?_ _) | (with_reducible refine below_via (by assumption) ?_ ?_) | go_size))⟩
        case measure => simp [intOf]
      · go_wp2_with first
          | (go_at_call 84; refine (entry_fields _).mono ?_; rintro e w2 ⟨rfl, hb2⟩; have hz2 := hb2.size)
          | (go_at_call 90; refine (field_Put _ _ _ _ _ (by omega) (by omega)).mono ?_; rw [Q4.out]; rintro e w3 ⟨rfl, hb3⟩; have hz3 := hb3.size)
        go_roundw
        case rel => exact ⟨5, by omega, rfl, rfl, by (repeat' (first | (with_reducible exact Below.refl _ _) | (with_reducible assumption) | (with_reducible refine below_drewN ?_ _) | (with_reducible refine Below.drew ?_) | (with_reducible refine Below.alloc ?_ ?_ _) | (with_reducible refine Below.setCell ?_ ?_ _) | (with_reducible refine below_via (by assumption) ?_ ?_) | go_size))⟩
        case measure => simp [intOf]
      · go_wp2_with first
          | (go_at_call 84; refine (entry_fields _).mono ?_; rintro e w2 ⟨rfl, hb2⟩; have hz2 := hb2.size)
          | (go_at_call 90; refine (field_Put _ _ _ _ _ (by omega) (by omega)).mono ?_; rw [Q5.out]; rintro e w3 ⟨rfl, hb3⟩; have hz3 := hb3.size)
        go_roundw
        case rel => exact ⟨6, by omega, rfl, rfl, by (repeat' (first | (with_reducible exact Below.refl _ _) | (with_reducible assumption) | (with_reducible refine below_drewN ?_ _) | (with_reducible refine Below.drew ?_) | (with_reducible refine Below.alloc ?_ ?_ _) | (with_reducible refine Below.setCell ?_ ?_ _) | (with_reducible refine below_via (by assumption) ?_ ?_) | go_size))⟩
        case measure => simp [intOf]
      · go_wp2_with fail
        go_ret2
        exact ⟨by rw [e.out]; rfl, by (repeat' (first | (with_reducible exact Below.refl _ _) | (with_reducible assumption) | (with_reducible refine below_drewN ?_ _) | (with_reducible refine Below.drew ?_) | (with_reducible refine Below.alloc ?_ ?_ _) | (with_reducible refine Below.setCell ?_ ?_ _) | (with_reducible refine below_via (by assumption) ?_ ?_) | go_size))⟩
  · have e := Lib.hid (show ePack o g p u l a = (0, 1) by unfold ePack; rw [if_neg (by rw [h]; decide)])
    have h' := Lib.hid h
    clear h
    go_enter Try.func87, Try.ntmps87
    go_wp2_with (go_at_call 86; refine (entry_may _ _ _ _ _ _ _).mono ?_; rw [h'.out]; rintro e w1 ⟨rfl, hb1⟩; obtain ⟨hc1, hf1⟩ := bcell hb1; have hz1 := hb1.size; (try simp only [World.size_alloc, World.size_drew, World.size_setCell, size_drewN] at hz1))
    go_ret2
    exact ⟨by rw [e.out]; rfl, by (repeat' (first | (with_reducible exact Below.refl _ _) | (with_reducible assumption) | (with_reducible refine below_drewN ?_ _) | (with_reducible refine Below.drew ?_) | (with_reducible refine Below.alloc ?_ ?_ _) | (with_reducible refine Below.setCell ?_ ?_ _) | (with_reducible refine below_via (by assumption) ?_ ?_) | go_size))⟩
end Go.Proofs.Ytmbkkpeepbfgoaa
