/- FreeOnce: three machines in a row. -/
import Derived.Test.YtkkeoadnepedjaaFrO0
import Derived.Test.YtkkeoadnepedjaaArr
namespace Go.Proofs.Ytkkeoadnepedjaa
set_option linter.unusedVariables false
set_option linter.unusedSimpArgs false
open Go.RowKit
theorem pull_perm {α : Type} (L : List α) (k : Nat) (g : α) (hk : L[k]? = some g) : L.Perm (g :: L.eraseIdx k) := perm_erase L k g hk
theorem er_set {α : Type} : ∀ (L : List α) (k : Nat) (g : α), (L.set k g).eraseIdx k = L.eraseIdx k
  | [], _, _ => rfl
  | x :: L, 0, g => rfl
  | x :: L, k + 1, g => by rw [List.set_cons_succ, List.eraseIdx_cons_succ, List.eraseIdx_cons_succ, er_set L k g]
theorem own_pull {B : Nat} {W w : World} {a g : Grp} {L : List Grp} (h : Owns B W w (a :: L)) (k : Nat) (hk : L[k]? = some g) : Owns B W w (a :: g :: L.eraseIdx k) := h.perm ((pull_perm L k g hk).cons a)
theorem own_push {B : Nat} {W w : World} {a g : Grp} {L : List Grp} (k : Nat) (hl : k < L.length) (h : Owns B W w (a :: g :: L.eraseIdx k)) : Owns B W w (a :: L.set k g) := by
  refine h.perm (List.Perm.cons a ?_)
  have h3 := pull_perm (L.set k g) k g (by rw [List.getElem?_set_self hl])
  rw [er_set] at h3
  exact h3.symm
structure FoM where
  x : Nat
  y : Nat
  a : Nat
def foG (m : FoM) : Grp := frG m.x { foC with gp := m.y } (foV m.a)
def foF (Q : Nat → FoM) : Nat → Grp := fun j => foG (Q j)
def foP (Q : Nat → FoM) : Nat → Value := fun j => .pointer (some ⟨(Q j).x, 0, none⟩)
def foD' (Q : Nat → FoM) : Nat → Value := fun j => .bool (decide (6 ≤ (Q j).a))
theorem foF_upd (Q : Nat → FoM) (q : Nat) (m : FoM) : upd (foF Q) q (foG m) = foF (upd Q q m) := by funext j; unfold foF upd; split <;> rfl
theorem foD_upd (Q : Nat → FoM) (q : Nat) (m : FoM) : upd (foD' Q) q (.bool (decide (6 ≤ m.a))) = foD' (upd Q q m) := by funext j; unfold foD' upd; split <;> rfl
theorem foP_same (Q : Nat → FoM) (q : Nat) (m : FoM) (h : m.x = (Q q).x) : foP (upd Q q m) = foP Q := by
  funext j; unfold foP upd
  split
  · rename_i e; subst e; rw [h]
  · rfl
theorem fo_Step {B : Nat} {W w : World} {a b c d : Grp} {p bw bb : Nat} {bs : List Int} {n : Int} {Q : Nat → FoM} {q ph : Nat} (hq : q < 3) (hO : Owns B W w (memG p bw bb (foW ph) bs n :: a :: b :: c :: d :: fam (foF Q) 3)) (hk : foOk ph (Q q).a = true) :
    Calls Try.prog 23 #[.pointer (some ⟨(Q q).x, 0, none⟩), memI p] w fun e w' => e = .returned (resV ((foNx ph (Q q).a).code, 0) (foNx ph (Q q).a).dn) ∧ ∃ m y, Owns B W w' (memG p bw bb (foW (foNx ph (Q q).a).ph) bs m :: a :: b :: c :: d :: fam (foF (upd Q q ⟨(Q q).x, y, (foNx ph (Q q).a).a⟩)) 3) := by
  have h1 := own_pull hO (q + 4) (show (a :: b :: c :: d :: fam (foF Q) 3)[q + 4]? = some (foG (Q q)) by have h := fam_get (foF Q) hq; rw [show foF Q q = foG (Q q) from rfl] at h; simpa only [List.getElem?_cons_succ] using h)
  have h2 := fr_Step h1 (fo_lok _) (by rw [foW_len]; decide) (foV_in _) _ (show frStep { foC with gp := (Q q).y } (foW ph) (foV (Q q).a) = _ from fo_step ph (Q q).a hk)
  refine h2.mono ?_
  unfold FrPost
  rintro e w' ⟨he, m, y, h3⟩
  refine ⟨he, m, y, ?_⟩
  have h4 := own_push (L := a :: b :: c :: d :: fam (foF Q) 3) (q + 4) (by simp [fam_len]; omega) h3
  rw [List.set_cons_succ, List.set_cons_succ, List.set_cons_succ, List.set_cons_succ, fam_set] at h4
  rw [← foF_upd]
  exact h4
def foQ0 (x0 x1 x2 : Nat) : Nat → FoM := fun j => ⟨if j = 0 then x0 else if j = 1 then x1 else x2, 0, 0⟩
theorem fo_ptrs (x0 x1 x2 : Nat) : (#[.pointer (some ⟨x0, 0, none⟩), .pointer (some ⟨x1, 0, none⟩), .pointer (some ⟨x2, 0, none⟩)] : Array Value) = rowA (foP (foQ0 x0 x1 x2)) 3 := rfl
theorem fo_fam (x0 x1 x2 : Nat) : [frG x0 foC (frV0 1), frG x1 foC (frV0 1), frG x2 foC (frV0 1)] = fam (foF (foQ0 x0 x1 x2)) 3 := rfl
theorem fo_pack {B : Nat} {W w : World} {a b c : Nat} {m1 g1 h1 : Grp} (hO : Owns B W w [frG c foC (frV0 1), frG b foC (frV0 1), frG a foC (frV0 1), m1, g1, h1]) :
    ∃ Q : Nat → FoM, (∀ j, (Q j).a = 0) ∧ Owns B W (w.alloc (.cells #[.pointer (some ⟨a, 0, none⟩), .pointer (some ⟨b, 0, none⟩), .pointer (some ⟨c, 0, none⟩)] 44)) ([m1, g1, h1, [(w.heap.size, Obj.cells (rowA (foP Q) 3) 44 (0, 0))]] ++ fam (foF Q) 3) := by
  refine ⟨foQ0 a b c, fun j => rfl, ?_⟩
  rw [← fo_fam, ← fo_ptrs]
  refine (hO.alloc (.cells #[.pointer (some ⟨a, 0, none⟩), .pointer (some ⟨b, 0, none⟩), .pointer (some ⟨c, 0, none⟩)] 44)).perm ?_
  generalize [(w.heap.size, Obj.cells #[.pointer (some ⟨a, 0, none⟩), .pointer (some ⟨b, 0, none⟩), .pointer (some ⟨c, 0, none⟩)] 44 (0, 0))] = A
  generalize frG a foC (frV0 1) = x
  generalize frG b foC (frV0 1) = y
  generalize frG c foC (frV0 1) = z
  show [A, z, y, x, m1, g1, h1].Perm [m1, g1, h1, A, x, y, z]
  have e1 : [A, z, y, x, m1, g1, h1].Perm ([z, y, x] ++ A :: [m1, g1, h1]) := (List.perm_middle (a := A) (l₁ := [z, y, x]) (l₂ := [m1, g1, h1])).symm
  have e2 : ([z, y, x] ++ A :: [m1, g1, h1]).Perm ((A :: [m1, g1, h1]) ++ [z, y, x]) := List.perm_append_comm
  have e3 : ((A :: [m1, g1, h1]) ++ [z, y, x]).Perm (([m1, g1, h1] ++ [A]) ++ [x, y, z]) := ((List.perm_append_singleton A [m1, g1, h1]).symm).append (List.reverse_perm [x, y, z])
  exact (e1.trans e2).trans e3
def foOkN (Q : Nat → FoM) : Nat := foOne (Q 0).a + foOne (Q 1).a + foOne (Q 2).a
def foStN (Q : Nat → FoM) : Nat := foTwo (Q 0).a + foTwo (Q 1).a + foTwo (Q 2).a
theorem fo_cnt {Q : Nat → FoM} {q : Nat} (hq : q < 3) (m : FoM) (h : (Q q).a < 6) : foOkN (upd Q q m) = foOkN Q + foOne m.a ∧ foStN (upd Q q m) = foStN Q + foTwo m.a := by
  have z1 : foOne (Q q).a = 0 := by unfold foOne; rw [if_neg (by omega)]
  have z2 : foTwo (Q q).a = 0 := by unfold foTwo; rw [if_neg (by omega)]
  unfold foOkN foStN upd
  have hc : q = 0 ∨ q = 1 ∨ q = 2 := by omega
  rcases hc with rfl | rfl | rfl
  · simp; omega
  · simp; omega
  · simp; omega
theorem fo_inv {ph : Nat} {Q : Nat → FoM} (hp : ph < 3) (hb : ∀ j, (Q j).a < 9) (hi : foInv ph (Q 0).a (Q 1).a (Q 2).a = true) {q : Nat} (hq : q < 3) (h6 : (Q q).a < 6) (x y : Nat) :
    foOk ph (Q q).a = true ∧ foInv (foNx ph (Q q).a).ph (upd Q q ⟨x, y, (foNx ph (Q q).a).a⟩ 0).a (upd Q q ⟨x, y, (foNx ph (Q q).a).a⟩ 1).a (upd Q q ⟨x, y, (foNx ph (Q q).a).a⟩ 2).a = true := by
  obtain ⟨h1, h2, h3⟩ := fo_all hp (hb 0) (hb 1) (hb 2) hi
  have hc : q = 0 ∨ q = 1 ∨ q = 2 := by omega
  unfold upd
  rcases hc with rfl | rfl | rfl
  · simpa using h1 h6
  · simpa using h2 h6
  · simpa using h3 h6
theorem fo_pots {L i q : Nat} {Q Q' : Nat → FoM} (hp : ∀ j, j < 3 → foPot (Q j).a ≤ 5 - vis L j (i - L)) (hpick : L ≤ i → i % 3 = q) (hs : ∀ j, j ≠ q → (Q' j).a = (Q j).a) (hd : foPot (Q' q).a ≤ foPot (Q q).a - 1) : ∀ j, j < 3 → foPot (Q' j).a ≤ 5 - vis L j (i + 1 - L) := by
  intro j hj
  by_cases hL : L ≤ i
  · have hr := hpick hL
    obtain ⟨r, rfl⟩ : ∃ r, i = L + r := ⟨i - L, by omega⟩
    rw [show L + r + 1 - L = r + 1 by omega, vis]
    have h0 := hp j hj
    rw [show L + r - L = r by omega] at h0
    by_cases e : j = q
    · subst e
      rw [if_pos hr]; omega
    · rw [hs j e, if_neg (by omega)]; omega
  · rw [show i + 1 - L = 0 by omega]
    exact fo_pot5 _
end Go.Proofs.Ytkkeoadnepedjaa
