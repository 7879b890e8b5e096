/- Rows that the call makes: arrays of bools, of pointers. -/
import Derived.Test.YtpebepjfgnoaaaaBase
import Derived.Test.YtpebepjfgnoaaaaClN
import Derived.Test.YtpebepjfgnoaaaaIni
namespace Go.Proofs.Ytpebepjfgnoaaaa
set_option linter.unusedVariables false
set_option linter.unusedSimpArgs false
open Go.RowKit
theorem made_row (T E : TypeId) (z : Value) (by' : Nat) (hT : Try.prog.underlying T = some (.slice E)) (hinf : (Try.prog.info? E).map (fun i => (i.zero, i.size, i.bytes)) = some (some z, 1, by')) (hz : z.cells = #[z]) (hby : by' ≤ 64) (n : Nat) (k : Int) (hk : k = n) (hn : n ≤ 4096) (w : World) :
    (Instr.makeSlice T (.int .i64 k) (.int .i64 k)).run Try.prog w = .ok (.slice (some ⟨w.heap.size, 0, none⟩) n n) (w.alloc (.cells (rowA (fun _ => z) n) E)) := by
  subst hk
  obtain ⟨i, hi, hz', hs, hb⟩ := info_parts hinf
  have := run_make (P := Try.prog) w T E i z hT hi hz' .i64 .i64 n n (by omega) (Int.le_refl _) (by
    rw [hb]
    have h1 : n * by' ≤ 4096 * 64 := Nat.mul_le_mul hn hby
    have h2 : ((by' * n : Nat) : Int) ≤ 262144 := by rw [Nat.mul_comm]; exact Int.ofNat_le.2 h1
    rw [Int.natCast_mul] at h2
    omega) (by omega)
  rw [this, hs, Nat.mul_one, Int.toNat_natCast, madeCells1 _ hz]
  have e : (List.replicate n z).toArray = rowA (fun _ => z) n := by
    unfold rowA fam
    rw [List.map_const', List.length_range]
  rw [e]
theorem info_bool : (Try.prog.info? 4).map (fun i => (i.zero, i.size, i.bytes)) = some (some (.bool false), 1, 1) := by kernel_rfl
theorem made_bools (n : Nat) (k : Int) (hk : k = n) (hn : n ≤ 4096) (w : World) : (Instr.makeSlice 75 (.int .i64 k) (.int .i64 k)).run Try.prog w = .ok (.slice (some ⟨w.heap.size, 0, none⟩) n n) (w.alloc (.cells (rowA (fun _ => .bool false) n) 4)) :=
  made_row 75 4 (.bool false) 1 Try.underlying75 info_bool rfl (by decide) n k hk hn w
theorem rowA_cell {B : Nat} {W w : World} {G : List Grp} {b : Nat} {P : Nat → Value} {n : Nat} {t : TypeId} (h : Owns B W w G) (i j : Nat) {g : Grp} (hi : G[i]? = some g) (hj : g[j]? = some (b, .cells (rowA P n) t (0, 0))) (k : Nat) (hk : k < n) : w.cell? ⟨b, k, none⟩ = some (P k) :=
  (h.cell i j hi hj k).trans (rowA_get P hk)
theorem rowA_put {B : Nat} {W w : World} {G : List Grp} {b : Nat} {P : Nat → Value} {n : Nat} {t : TypeId} (h : Owns B W w G) (i : Nat) (hi : G[i]? = some [(b, .cells (rowA P n) t (0, 0))]) (k : Nat) (v : Value) :
    Owns B W (w.setCell ⟨b, k, none⟩ v) (G.set i [(b, .cells (rowA (upd P k v) n) t (0, 0))]) := by
  have := h.set i 0 hi rfl k v
  rw [rowA_set] at this
  exact this
end Go.Proofs.Ytpebepjfgnoaaaa
namespace Go.Proofs.Ytpebepjfgnoaaaa
set_option linter.unusedVariables false
set_option linter.unusedSimpArgs false
open Go.RowKit
theorem pull1 {α : Type} : ∀ (L : List α) (k : Nat) (g : α), k < L.length → (L.set k g).Perm (g :: L.eraseIdx k)
  | [], _, _, h => by simp at h
  | x :: L, 0, g, _ => by rw [List.set_cons_zero, List.eraseIdx_cons_zero]
  | x :: L, k + 1, g, h => by
    rw [List.set_cons_succ, List.eraseIdx_cons_succ]
    exact ((pull1 L k g (by simpa using h)).cons x).trans (List.Perm.swap g x _)
theorem pull2 {α : Type} : ∀ (L : List α) (i j : Nat), i < L.length → j < L.length → i ≠ j → ∃ R, ∀ a b, ((L.set i a).set j b).Perm (a :: b :: R)
  | [], _, _, h, _, _ => by simp at h
  | x :: L, 0, 0, _, _, h => absurd rfl h
  | x :: L, 0, j + 1, _, h, _ => ⟨L.eraseIdx j, fun a b => by
      rw [List.set_cons_zero, List.set_cons_succ]
      exact (pull1 L j b (by simpa using h)).cons a⟩
  | x :: L, i + 1, 0, h, _, _ => ⟨L.eraseIdx i, fun a b => by
      rw [List.set_cons_succ, List.set_cons_zero]
      exact ((pull1 L i a (by simpa using h)).cons b).trans (List.Perm.swap a b _)⟩
  | x :: L, i + 1, j + 1, h, h', hn => by
    obtain ⟨R, hR⟩ := pull2 L i j (by simpa using h) (by simpa using h') (by omega)
    refine ⟨x :: R, fun a b => ?_⟩
    rw [List.set_cons_succ, List.set_cons_succ]
    refine ((hR a b).cons x).trans ?_
    exact (List.Perm.swap a x _).trans ((List.Perm.swap b x _).cons a)
theorem pulled {α : Type} {L : List α} {i j : Nat} {g h : α} (hi : L[i]? = some g) (hj : L[j]? = some h) (hn : i ≠ j) : ∃ R, L.Perm (g :: h :: R) ∧ ∀ a b, ((L.set i a).set j b).Perm (a :: b :: R) := by
  obtain ⟨R, hR⟩ := pull2 L i j (List.getElem?_eq_some_iff.1 hi).1 (List.getElem?_eq_some_iff.1 hj).1 hn
  refine ⟨R, ?_, hR⟩
  have := hR g h
  rwa [set_same hi, set_same hj] at this
/-- a contract of the first two groups, at any two places. -/
theorem at2 {f : FuncId} {args : Array Value} {B : Nat} {W w : World} {G : List Grp} {g h : Grp} {r : Ending} (g' : Int → Grp) (h' : Grp) (i j : Nat) (hO : Owns B W w G) (hi : G[i]? = some g) (hj : G[j]? = some h) (hn : i ≠ j)
    (H : ∀ R, Owns B W w (g :: h :: R) → Calls Try.prog f args w fun e w' => e = r ∧ ∃ m, Owns B W w' (g' m :: h' :: R)) :
    Calls Try.prog f args w fun e w' => e = r ∧ ∃ m, Owns B W w' ((G.set i (g' m)).set j h') := by
  obtain ⟨R, hR, hS⟩ := pulled hi hj hn
  refine (H R (hO.perm hR)).mono ?_
  rintro e w' ⟨he, m, hO'⟩
  exact ⟨he, m, hO'.perm (hS _ _).symm⟩
section
variable {m c k x y o : Grp} {A C : Nat → Grp} {n q : Nat}
theorem fA_get (h : q < n) : (m :: c :: k :: x :: y :: o :: (fam A n ++ fam C n))[q + 6]? = some (A q) := by
  simp only [List.getElem?_cons_succ]
  rw [List.getElem?_append_left (by rw [fam_len]; exact h), fam_get A h]
theorem fC_get (h : q < n) : (m :: c :: k :: x :: y :: o :: (fam A n ++ fam C n))[q + n + 6]? = some (C q) := by
  simp only [List.getElem?_cons_succ]
  rw [List.getElem?_append_right (by rw [fam_len]; omega), fam_len, Nat.add_sub_cancel, fam_get C h]
theorem fA_set (h : q < n) (g : Grp) : (m :: c :: k :: x :: y :: o :: (fam A n ++ fam C n)).set (q + 6) g = m :: c :: k :: x :: y :: o :: (fam (upd A q g) n ++ fam C n) := by
  simp only [List.set_cons_succ]
  rw [List.set_append_left _ _ (by rw [fam_len]; exact h), fam_set]
theorem fC_set (g : Grp) : (m :: c :: k :: x :: y :: o :: (fam A n ++ fam C n)).set (q + n + 6) g = m :: c :: k :: x :: y :: o :: (fam A n ++ fam (upd C q g) n) := by
  simp only [List.set_cons_succ]
  rw [List.set_append_right _ _ (by rw [fam_len]; omega), fam_len, Nat.add_sub_cancel, fam_set]
end
theorem Owns.mid {B : Nat} {W w : World} {m c k x y o : Grp} {R : List Grp} (h : Owns B W w (o :: m :: c :: k :: x :: y :: R)) : Owns B W w (m :: c :: k :: x :: y :: o :: R) :=
  h.perm (List.perm_middle (a := o) (l₁ := [m, c, k, x, y]) (l₂ := R)).symm
theorem Owns.glue {B : Nat} {W w : World} {m c k x y o r : Grp} {R : List Grp} (h : Owns B W w (r :: m :: c :: k :: x :: y :: o :: R)) : Owns B W w (m :: c :: k :: x :: y :: (r ++ o) :: R) := by
  have h1 := h.mid
  have e : (m :: c :: k :: x :: y :: (r ++ o) :: R).flatten = (m :: c :: k :: x :: y :: r :: o :: R).flatten := by simp
  unfold Owns; rw [e]; exact h1
end Go.Proofs.Ytpebepjfgnoaaaa
