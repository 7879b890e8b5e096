/- Two of free's machines beside the reference's, at any place. -/
import Derived.Test.YtpebepjfgnoaaaaGreatFsP
import Derived.Test.YtpebepjfgnoaaaaGreatRcS
import Derived.Test.YtpebepjfgnoaaaaGreatFrLv
namespace Go.Proofs.YtpebepjfgnoaaaaGreat
set_option linter.unusedVariables false
set_option linter.unusedSimpArgs false
open Go.RowKit
theorem upd_twice' {α : Type} (E : Nat → α) (q : Nat) (a b : α) : upd (upd E q a) q b = upd E q b := by funext j; unfold upd; split <;> rfl
section
variable {B : Nat} {W w : World} {p bw bb kp kw : Nat} {ws bs : List Int} {bv : Value} {n nn a s t : Int} {H : Nat → Int} {Q : Nat → FsM} {q : Nat} {c A D O : Grp}
theorem fs_stepA (hq : q < 2) (hO : Owns B W w (memG p bw bb ws bs n :: kG kp kw ws bv nn :: c :: A :: D :: O :: fam (fsF a s t H Q) 2)) (hc : cfgOk a s t = true) (hl : ws.length ≤ 4096) (hv : FsIn (frNewC a s t (H q)) (Q q).v) (r : FrR) (hr : frStep (frNewC a s t (H q)) ws (Q q).v = r) :
    Calls Tryz.prog 10 #[.pointer (some ⟨(Q q).x, 0, none⟩), memI p] w fun e w' => e = .returned (resV (r.code, 0) r.done) ∧ ∃ n' y, Owns B W w' (memG p bw bb r.ws bs n' :: kG kp kw ws bv nn :: c :: A :: D :: O :: fam (upd (fsF a s t H Q) q (fsH a s t (H q) (Q q) r.v y)) 2) := by
  refine (atIn (Φ := fun e m' k' g' => e = .returned (resV (r.code, 0) r.done) ∧ ∃ n' y, m' = memG p bw bb r.ws bs n' ∧ k' = kG kp kw ws bv nn ∧ g' = fsH a s t (H q) (Q q) r.v y) (q + 4) hO (g := fsG a s t (H q) (Q q)) (by simp only [List.getElem?_cons_succ]; exact fam_get _ hq) (fun R h => (fs_step1 h hc hl hv r hr).mono ?_)).mono ?_
  · rintro e w' ⟨he, n', y, hO'⟩
    exact ⟨_, _, _, ⟨he, n', y, rfl, rfl, rfl⟩, hO'⟩
  · rintro e w' ⟨m', k', g', ⟨he, n', y, rfl, rfl, rfl⟩, hO'⟩
    refine ⟨he, n', y, ?_⟩
    simp only [List.set_cons_succ] at hO'
    rw [fam_set] at hO'
    exact hO'
theorem fs_stepB (hq : q < 2) {y : Nat} (r : FrR) (hr : frStep (frNewC a s t (H q)) ws (Q q).v = r) (hO : Owns B W w (memG p bw bb r.ws bs n :: kG kp kw ws bv nn :: c :: A :: D :: O :: fam (upd (fsF a s t H Q) q (fsH a s t (H q) (Q q) r.v y)) 2)) (hc : cfgOk a s t = true) (lo : -9223372036854775808 ≤ H q) (hi : H q ≤ 9223372036854775807) (hl : ws.length ≤ 4096) (hv : FsIn (frNewC a s t (H q)) (Q q).v) (hw : WOk ws) :
    Calls Tryz.prog 11 #[.pointer (some ⟨(Q q).y, 0, none⟩), .pointer (some ⟨kp, 0, none⟩)] w fun e w' => e = .returned (resV (r.code, 0) r.done) ∧ ∃ nn' z, Owns B W w' (memG p bw bb r.ws bs n :: kG kp kw r.ws bv nn' :: c :: A :: D :: O :: fam (fsF a s t H (upd Q q ⟨(Q q).x, (Q q).y, y, z, r.v⟩)) 2) := by
  refine (atIn (Φ := fun e m' k' g' => e = .returned (resV (r.code, 0) r.done) ∧ ∃ n' z, m' = memG p bw bb r.ws bs n ∧ k' = kG kp kw r.ws bv n' ∧ g' = fsG a s t (H q) ⟨(Q q).x, (Q q).y, y, z, r.v⟩) (q + 4) hO (g := fsH a s t (H q) (Q q) r.v y) (by simp only [List.getElem?_cons_succ]; rw [fam_get _ hq, upd_same]) (fun R h => (fs_step2 h hc lo hi hl hv hw r hr rfl rfl).mono ?_)).mono ?_
  · rintro e w' ⟨he, n', z, hO'⟩
    exact ⟨_, _, _, ⟨he, n', z, rfl, rfl, rfl⟩, hO'⟩
  · rintro e w' ⟨m', k', g', ⟨he, n', z, rfl, rfl, rfl⟩, hO'⟩
    refine ⟨he, n', z, ?_⟩
    simp only [List.set_cons_succ] at hO'
    rw [fam_set, upd_twice', fsF_upd] at hO'
    exact hO'
def fsGive (a s t h : Int) (m : FsM) : Int := if m.v.nx = 3 then (frNewC a s t h).sl else 0
theorem fs_givesA {m k : Grp} (hq : q < 2) (hO : Owns B W w (m :: k :: c :: A :: D :: O :: fam (fsF a s t H Q) 2)) :
    Calls Tryz.prog 12 #[.pointer (some ⟨(Q q).x, 0, none⟩)] w fun e w' => e = .returned (.tuple #[.int .i64 (fsGive a s t (H q) (Q q)), .bool (decide ((Q q).v.nx = 3))]) ∧ w = w' := by
  have hp := perm_erase (c :: A :: D :: O :: fam (fsF a s t H Q) 2) (q + 4) (fsG a s t (H q) (Q q)) (by simp only [List.getElem?_cons_succ]; exact fam_get _ hq)
  have h2 := fs_ab (hO.perm ((hp.cons k).cons m))
  exact fr_Gives (c := { frNewC a s t (H q) with gp := (Q q).gp }) 1 h2 rfl
theorem fs_givesB {m : Grp} (hq : q < 2) (hO : Owns B W w (m :: kG kp kw ws bv nn :: c :: A :: D :: O :: fam (fsF a s t H Q) 2)) (lo : -9223372036854775808 ≤ H q) (hi : H q ≤ 9223372036854775807) :
    Calls Tryz.prog 13 #[.pointer (some ⟨(Q q).y, 0, none⟩)] w fun e w' => e = .returned (.tuple #[.int .i64 (fsGive a s t (H q) (Q q)), .bool (decide ((Q q).v.nx = 3))]) ∧ Owns B W w' (m :: kG kp kw ws bv nn :: c :: A :: D :: O :: fam (fsF a s t H Q) 2) := by
  have hg := fam_get (fsF a s t H Q) hq
  refine (atIn (Φ := fun e m' k' g' => e = .returned (.tuple #[.int .i64 (fsGive a s t (H q) (Q q)), .bool (decide ((Q q).v.nx = 3))]) ∧ m' = m ∧ k' = kG kp kw ws bv nn ∧ g' = fsG a s t (H q) (Q q)) (q + 4) hO (g := fsG a s t (H q) (Q q)) (by simp only [List.getElem?_cons_succ]; exact hg) (fun R h => (ref15_Gives 1 (fs_cd h) rfl lo hi (fsGive a s t (H q) (Q q)) (decide ((Q q).v.nx = 3)) rfl (by unfold fsGive; simp only [decide_eq_true_eq]; rfl)).mono ?_)).mono ?_
  · rintro e w' ⟨he, hO'⟩
    exact ⟨_, _, _, ⟨he, rfl, rfl, rfl⟩, fs_dc hO'⟩
  · rintro e w' ⟨m', k', g', ⟨he, rfl, rfl, rfl⟩, hO'⟩
    refine ⟨he, ?_⟩
    rw [set_same (by simp only [List.getElem?_cons_succ]; exact hg)] at hO'
    exact hO'
end
theorem free_New_app {B : Nat} {W w : World} {G : List Grp} (a s t h : Int) (l : -9223372036854775808 ≤ h) (u : h ≤ 9223372036854775807) (hO : Owns B W w G) : Calls Tryz.prog 8 #[.agg #[.int .i64 a, .int .i64 s, .int .i64 t], .int .i64 h] w fun e w' =>
    ∃ x, e = .returned (.pointer (some ⟨x, 0, none⟩)) ∧ Below w.heap.size w w' ∧ Owns B W w' (frG x (frNewC a s t h) (frV0 (alNx a s t)) :: G) :=
  (free_New a s t h l u (Owns.nil w)).mono fun _ _ ⟨x, he, h⟩ => ⟨x, he, h.1, hO.app h⟩
theorem ref15_New_app {B : Nat} {W w : World} {G : List Grp} (a s t h : Int) (hc : cfgOk a s t = true) (hO : Owns B W w G) : Calls Tryz.prog 9 #[.agg #[.int .i64 a, .int .i64 s, .int .i64 t], .int .i64 h] w fun e w' =>
    ∃ x, e = .returned (.pointer (some ⟨x, 0, none⟩)) ∧ Below w.heap.size w w' ∧ Owns B W w' (rfG x ⟨a, s, t, h, 0⟩ ⟨1, 0, none⟩ :: G) :=
  (ref15_New a s t h hc (Owns.nil w)).mono fun _ _ ⟨x, he, h⟩ => ⟨x, he, h.1, hO.app h⟩
theorem fs_row {B : Nat} {W w : World} {x0 x1 : Nat} {c0 c1 : FrC} {v0 v1 : FrV} {G : List Grp} (T : TypeId) (hO : Owns B W w (frG x1 c1 v1 :: frG x0 c0 v0 :: G)) : Owns B W (w.alloc (.cells #[.pointer (some ⟨x0, 0, none⟩), .pointer (some ⟨x1, 0, none⟩)] T)) ([(w.heap.size, Obj.cells #[.pointer (some ⟨x0, 0, none⟩), .pointer (some ⟨x1, 0, none⟩)] T (0, 0))] :: frG x1 c1 v1 :: frG x0 c0 v0 :: G) := hO.alloc _
def hh2 (h1 h2 : Int) : Nat → Int := fun j => if j = 0 then h1 else h2
theorem fs_pack {B : Nat} {W w : World} {T1 T2 : TypeId} {a s t h1 h2 : Int} {x0 x1 y0 y1 ab : Nat} {m k c : Grp}
    (hO : Owns B W w [rfG y1 ⟨a, s, t, h2, 0⟩ ⟨1, 0, none⟩, rfG y0 ⟨a, s, t, h1, 0⟩ ⟨1, 0, none⟩, [(ab, Obj.cells #[.pointer (some ⟨x0, 0, none⟩), .pointer (some ⟨x1, 0, none⟩)] T1 (0, 0))], frG x1 (frNewC a s t h2) (frV0 1), frG x0 (frNewC a s t h1) (frV0 1), m, k, c]) :
    ∃ Q : Nat → FsM, (∀ j, FsIn (frNewC a s t (hh2 h1 h2 j)) (Q j).v) ∧ Owns B W (w.alloc (.cells #[.pointer (some ⟨y0, 0, none⟩), .pointer (some ⟨y1, 0, none⟩)] T2)) (m :: k :: c :: [(ab, Obj.cells (rowA (fsA Q) 2) T1 (0, 0))] :: [(w.heap.size, Obj.cells (rowA (fsB Q) 2) T2 (0, 0))] :: [] :: fam (fsF a s t (hh2 h1 h2) Q) 2) := by
  refine ⟨fun j => ⟨if j = 0 then x0 else x1, if j = 0 then y0 else y1, 0, 0, frV0 1⟩, fun j => FsIn.new _, ?_⟩
  have h := hO.alloc (.cells #[.pointer (some ⟨y0, 0, none⟩), .pointer (some ⟨y1, 0, none⟩)] T2)
  show Owns B W _ (m :: k :: c :: [(ab, Obj.cells #[.pointer (some ⟨x0, 0, none⟩), .pointer (some ⟨x1, 0, none⟩)] T1 (0, 0))] :: [(w.heap.size, Obj.cells #[.pointer (some ⟨y0, 0, none⟩), .pointer (some ⟨y1, 0, none⟩)] T2 (0, 0))] :: [] :: [frG x0 (frNewC a s t h1) (frV0 1) ++ rfG y0 ⟨a, s, t, h1, 0⟩ ⟨1, 0, none⟩, frG x1 (frNewC a s t h2) (frV0 1) ++ rfG y1 ⟨a, s, t, h2, 0⟩ ⟨1, 0, none⟩])
  exact h.flat (by (classical exact List.perm_iff_count.2 (fun x => by simp only [List.flatten_cons, List.flatten_nil, List.count_append, List.append_nil, List.count_nil]; omega)))
end Go.Proofs.YtpebepjfgnoaaaaGreat
