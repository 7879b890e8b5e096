/- Rows that the call makes: arrays of bools, of pointers. -/
import Derived.Test.YtmbkkpeepbfgoaaOwn3
import Derived.Test.YtmbkkpeepbfgoaaClN
namespace Go.Proofs.Ytmbkkpeepbfgoaa
set_option linter.unusedVariables false
set_option linter.unusedSimpArgs false
open Go.RowKit
theorem made_row (T E : TypeId) (z : Value) (by' : Nat) (hT : Try.prog.underlying T = some (.slice E)) (hinf : (Try.prog.info? E).map (fun i => (i.zero, i.size, i.bytes)) = some (some z, 1, by')) (hz : z.cells = #[z]) (hby : by' ≤ 64) (n : Nat) (k : Int) (hk : k = n) (hn : n ≤ 4096) (w : World) :
    (Instr.makeSlice T (.int .i64 k) (.int .i64 k)).run Try.prog w = .ok (.slice (some ⟨w.heap.size, 0, none⟩) n n) (w.alloc (.cells (rowA (fun _ => z) n) E)) := by
  subst hk
  obtain ⟨i, hi, hz', hs, hb⟩ := info_parts hinf
  have := run_make (P := Try.prog) w T E i z hT hi hz' .i64 .i64 n n (by omega) (Int.le_refl _) (by
    rw [hb]
    have h1 : n * by' ≤ 4096 * 64 := Nat.mul_le_mul hn hby
    have h2 : ((by' * n : Nat) : Int) ≤ 262144 := by rw [Nat.mul_comm]; exact Int.ofNat_le.2 h1
    rw [Int.natCast_mul] at h2
    omega) (by omega)
  rw [this, hs, Nat.mul_one, Int.toNat_natCast, madeCells1 _ hz]
  have e : (List.replicate n z).toArray = rowA (fun _ => z) n := by
    unfold rowA fam
    rw [List.map_const', List.length_range]
  rw [e]
theorem info_bool : (Try.prog.info? 4).map (fun i => (i.zero, i.size, i.bytes)) = some (some (.bool false), 1, 1) := by kernel_rfl
theorem made_bools (n : Nat) (k : Int) (hk : k = n) (hn : n ≤ 4096) (w : World) : (Instr.makeSlice 66 (.int .i64 k) (.int .i64 k)).run Try.prog w = .ok (.slice (some ⟨w.heap.size, 0, none⟩) n n) (w.alloc (.cells (rowA (fun _ => .bool false) n) 4)) :=
  made_row 66 4 (.bool false) 1 Try.underlying66 info_bool rfl (by decide) n k hk hn w
theorem rowA_cell {B : Nat} {W w : World} {G : List Grp} {b : Nat} {P : Nat → Value} {n : Nat} {t : TypeId} (h : Owns B W w G) (i j : Nat) {g : Grp} (hi : G[i]? = some g) (hj : g[j]? = some (b, .cells (rowA P n) t (0, 0))) (k : Nat) (hk : k < n) : w.cell? ⟨b, k, none⟩ = some (P k) :=
  (h.cell i j hi hj k).trans (rowA_get P hk)
theorem rowA_put {B : Nat} {W w : World} {G : List Grp} {b : Nat} {P : Nat → Value} {n : Nat} {t : TypeId} (h : Owns B W w G) (i : Nat) (hi : G[i]? = some [(b, .cells (rowA P n) t (0, 0))]) (k : Nat) (v : Value) :
    Owns B W (w.setCell ⟨b, k, none⟩ v) (G.set i [(b, .cells (rowA (upd P k v) n) t (0, 0))]) := by
  have := h.set i 0 hi rfl k v
  rw [rowA_set] at this
  exact this
end Go.Proofs.Ytmbkkpeepbfgoaa
