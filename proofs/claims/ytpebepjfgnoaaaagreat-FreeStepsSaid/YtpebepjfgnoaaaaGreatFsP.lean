/- Free's machine beside the reference's, in numbers. -/
import Derived.Test.YtpebepjfgnoaaaaGreatFrM
import Derived.Test.YtpebepjfgnoaaaaGreatSsQ
import Derived.Test.YtpebepjfgnoaaaaGreatRt15d
import Derived.Test.YtpebepjfgnoaaaaGreatArr
namespace Go.Proofs.YtpebepjfgnoaaaaGreat
set_option linter.unusedVariables false
set_option linter.unusedSimpArgs false
open Go.RowKit
theorem ePack_bd (o g p u : Int) (l a : Bool) : I64 (ePack o g p u l a).1 := by
  unfold ePack; split
  · rename_i h
    have := eMay_of h
    have h1 := bI_bd l
    have h2 := bI_bd a
    unfold eWord I64; simp only; omega
  · exact (⟨by decide, by decide⟩ : I64 0)
theorem eChg_bd (k o g p u : Int) (l a : Bool) : I64 (eChg k o g p u l a).1 := by
  unfold eChg; split
  · exact ePack_bd _ _ _ _ _ _
  · exact (⟨by decide, by decide⟩ : I64 0)
theorem eNext_bd (x : Int) : I64 (eNext x).1 := by
  have z : I64 0 := ⟨by decide, by decide⟩
  unfold eNext eTurn
  split <;> (split <;> (try split) <;> first | exact eChg_bd _ _ _ _ _ _ _ | exact z)
def rfP (v : FrV) : RfV := ⟨v.nx, v.wd, v.gv⟩
def FsIn (c : FrC) (v : FrV) : Prop := FrIn v ∧ (v.nx = 2 → v.tw = (eNext v.wd).1 ∧ v.mo = eNextMore v.wd) ∧ (c.st = true → v.nx = 0 ∨ v.nx = 1) ∧ (∀ g, v.gv = some g → I64 g.wd ∧ I64 g.tw) ∧ I64 v.tw
theorem FsIn.new (c : FrC) : FsIn c (frV0 1) := ⟨frV1_in, fun h => absurd h (by decide), fun _ => .inr rfl, fun g h => by simp [frV0] at h, (⟨by decide, by decide⟩ : I64 0)⟩
theorem push_ok {t s nx sl wd tw : Int} {ws : List Int} (h : WOk ws) (hw : I64 wd) (ht : I64 tw) :
    WOk (pushStep t s ws nx sl wd tw).ws ∧ I64 (pushStep t s ws nx sl wd tw).wd ∧ I64 (pushStep t s ws nx sl wd tw).to := by
  have := rm_ok (pu := true) (t := t) (s := s) (nx := nx) (sl := sl) h hw ht
  exact ⟨this.1, this.2.2.1, this.2.2.2⟩
theorem frStep_fs {c : FrC} {ws : List Int} {v : FrV} (h : FsIn c v) (hw : WOk ws) : FsIn c (frStep c ws v).v ∧ WOk (frStep c ws v).ws := by
  have hin := frStep_in c ws v h.1
  obtain ⟨⟨n0, n3, n12, n3g⟩, h2, hst, hg, ht⟩ := h
  have hc : v.nx = 0 ∨ v.nx = 1 ∨ v.nx = 2 ∨ v.nx = 3 := by omega
  rcases hc with e | e | e | e
  · rw [frStep0 e] at hin ⊢
    exact ⟨⟨hin, h2, hst, hg, ht⟩, hw⟩
  · cases hs : c.st
    · rw [frStep1 e hs rfl] at hin ⊢
      refine ⟨⟨hin, ?_, fun k => absurd k (by rw [hs]; decide), ?_, ?_⟩, hw⟩
      · intro k
        unfold frLook at k ⊢
        split at k
        · split at k
          · exact absurd k (by simp)
          · split at k
            · rename_i k1 k2 k3
              rw [if_pos k1, if_neg k2, if_pos k3]; exact ⟨rfl, rfl⟩
            · simp only at k; omega
        · exact absurd k (by simp)
      · intro g k
        refine hg g ?_
        unfold frLook at k
        split at k
        · split at k
          · exact k
          · split at k
            · exact k
            · exact k
        · exact k
      · unfold frLook
        split
        · split
          · exact ht
          · split
            · exact eNext_bd _
            · exact ht
        · exact ht
    · rw [frStep1s e hs] at hin ⊢
      exact ⟨⟨hin, fun k => absurd k (by simp), fun _ => .inl rfl, hg, ht⟩, hw⟩
  · have hs : c.st = false := by
      cases hs : c.st
      · rfl
      · have := hst hs; omega
    have hp : WOk (wCasPut ws (lOf c.t c.s c.sl 0) v.wd v.tw) := by unfold wCasPut; split; exact wPut_okI hw _ ht; exact hw
    rw [frStep2 e] at hin ⊢
    split
    · split
      · rename_i k1 k2
        rw [if_pos k1, if_pos k2] at hin
        exact ⟨⟨hin, fun k => absurd k (by simp), fun k => absurd k (by rw [hs]; decide), fun g k => by simp at k; subst k; exact (⟨⟨by decide, by decide⟩, ⟨by decide, by decide⟩⟩ : I64 0 ∧ I64 0), ht⟩, hp⟩
      · rename_i k1 k2
        rw [if_pos k1, if_neg k2] at hin
        exact ⟨⟨hin, fun k => absurd k (by simp), fun k => absurd k (by rw [hs]; decide), hg, ht⟩, hp⟩
    · rename_i k1
      rw [if_neg k1] at hin
      exact ⟨⟨hin, fun k => absurd k (by simp), fun k => absurd k (by rw [hs]; decide), hg, ht⟩, hw⟩
  · have hs : c.st = false := by
      cases hs : c.st
      · rfl
      · have := hst hs; omega
    obtain ⟨g, hgv⟩ := n3g e
    obtain ⟨g1, g2⟩ := hg g hgv
    have hp := push_ok (t := c.t) (s := c.s) (nx := g.nx) (sl := g.sl) hw g1 g2
    rw [frStep3 e hgv rfl] at hin ⊢
    split
    · rename_i k1
      rw [if_pos k1] at hin
      exact ⟨⟨hin, fun k => absurd k (by simp), fun k => absurd k (by rw [hs]; decide), fun g' k => by simp at k; subst k; exact ⟨hp.2.1, hp.2.2⟩, ht⟩, hp.1⟩
    · rename_i k1
      rw [if_neg k1] at hin
      exact ⟨⟨hin, fun k => by simp only at k; omega, fun k => absurd k (by rw [hs]; decide), fun g' k => by simp at k; subst k; exact ⟨hp.2.1, hp.2.2⟩, ht⟩, hp.1⟩
theorem rfLook_fr (c : FrC) (x : Int) (v : FrV) : rfLook c.ge x (rfP v) = (rfP (frLook c x v).1, (frLook c x v).2.1, (frLook c x v).2.2) := by
  unfold rfLook frLook
  split
  · split
    · rfl
    · split <;> rfl
  · rfl
theorem frStep_gp (c : FrC) (y : Nat) (ws : List Int) (v : FrV) : frStep { c with gp := y } ws v = frStep c ws v := rfl
theorem ref15_StepF {B : Nat} {W w : World} {R0 : List Grp} {x p bw : Nat} {ws : List Int} {bv : Value} {n a s t h : Int} {gq : Nat} {v : FrV} (hO : Owns B W w (kG p bw ws bv n :: rfG x ⟨a, s, t, h, gq⟩ (rfP v) :: R0)) (hl : ws.length ≤ 4096) (hc : cfgOk a s t = true) (lo : -9223372036854775808 ≤ h) (hi : h ≤ 9223372036854775807)
    (hv : FsIn (frNewC a s t h) v) (hw : WOk ws) (q : FrR) (hq : frStep (frNewC a s t h) ws v = q) :
    Calls Tryz.prog 11 #[.pointer (some ⟨x, 0, none⟩), .pointer (some ⟨p, 0, none⟩)] w (RfPost B W R0 x p bw bv ⟨a, s, t, h, gq⟩ ⟨q.ws, rfP q.v, q.code, q.done⟩) := by
  subst hq
  obtain ⟨e1, e2, -⟩ := of_yes hc
  obtain ⟨⟨n0, n3, n12, n3g⟩, h2, hst, hg, ht⟩ := hv
  have ct : (frNewC a s t h).t = t := e1
  have cs : (frNewC a s t h).s = s := e2
  have csl : (frNewC a s t h).sl = (hOf h s).1 := rfl
  have cge : (frNewC a s t h).ge = (hOf h s).2.1 := rfl
  have cst : (frNewC a s t h).st = ((hOf h s).2.2 != 0) := rfl
  generalize frNewC a s t h = c at *
  by_cases hn0 : v.nx = 0
  · rw [frStep0 hn0]
    exact ref15_Step_0 hn0 hO
  · have hcase : v.nx = 1 ∨ v.nx = 2 ∨ v.nx = 3 := by omega
    refine ref15_Step_key hO hl hc lo hi (hOf h s).1 (hOf h s).2.1 (hOf h s).2.2 rfl _ _ _ rfl (by simpa [rfP] using hn0) rfl rfl _ _ rfl ?_ ?_ ?_ ?_
    · intro hf
      have hs : c.st = true := by rw [cst]; simpa using hf
      rcases hst hs with e | e
      · exact absurd e hn0
      · rw [frStep1s e hs]; rfl
    · intro hf hn1
      have hs : c.st = false := by rw [cst]; simpa using hf
      have e : v.nx = 1 := by simpa [rfP] using hn1
      rw [frStep1 e hs rfl]
      refine ⟨_, _, _, ?_, rfl⟩
      rw [← cge]
      have := rfLook_fr c (wAt ws (lOf c.t c.s c.sl 0)) v
      rw [ct, cs, csl] at this
      rw [ct, cs, csl]
      exact this.symm
    · intro hn2
      have e : v.nx = 2 := by simpa [rfP] using hn2
      obtain ⟨k1, k2⟩ := h2 e
      refine ⟨n12 (by omega) (by omega), ?_⟩
      rw [frStep2 e, ct, cs, csl, k1, k2]
      show _ = if wCas ws (lOf t s (hOf h s).1 0) v.wd = true then _ else _
      split
      · show _ = if eNextMore v.wd = true then _ else _
        split <;> rfl
      · rfl
    · intro hf hn1 hn2
      have e : v.nx = 3 := by
        have k1 : v.nx ≠ 1 := by simpa [rfP] using hn1
        have k2 : v.nx ≠ 2 := by simpa [rfP] using hn2
        omega
      obtain ⟨g, hgv⟩ := n3g e
      refine ⟨g, _, hgv, hw, (hg g hgv).1.2, rfl, ?_⟩
      rw [frStep3 e hgv rfl, ct, cs]
      show _ = if (pushStep t s ws g.nx g.sl g.wd g.tw).done = true then _ else _
      split <;> rfl
/-- a machine of each side. -/
structure FsM where
  x : Nat
  y : Nat
  gp : Nat
  gq : Nat
  v : FrV
def fsG (a s t h : Int) (m : FsM) : Grp := frG m.x { frNewC a s t h with gp := m.gp } m.v ++ rfG m.y ⟨a, s, t, h, m.gq⟩ (rfP m.v)
def fsF (a s t : Int) (H : Nat → Int) (Q : Nat → FsM) : Nat → Grp := fun j => fsG a s t (H j) (Q j)
def fsA (Q : Nat → FsM) : Nat → Value := fun j => .pointer (some ⟨(Q j).x, 0, none⟩)
def fsB (Q : Nat → FsM) : Nat → Value := fun j => .pointer (some ⟨(Q j).y, 0, none⟩)
theorem fsF_upd (a s t : Int) (H : Nat → Int) (Q : Nat → FsM) (q : Nat) (m : FsM) : upd (fsF a s t H Q) q (fsG a s t (H q) m) = fsF a s t H (upd Q q m) := by
  funext j; unfold fsF upd; split
  · rename_i e; subst e; rfl
  · rfl
theorem fsA_same (Q : Nat → FsM) (q : Nat) (m : FsM) (h : m.x = (Q q).x) : fsA (upd Q q m) = fsA Q := by
  funext j; unfold fsA upd; split
  · rename_i e; subst e; rw [h]
  · rfl
theorem fsB_same (Q : Nat → FsM) (q : Nat) (m : FsM) (h : m.y = (Q q).y) : fsB (upd Q q m) = fsB Q := by
  funext j; unfold fsB upd; split
  · rename_i e; subst e; rw [h]
  · rfl
/-- half a step: the program's machine has gone, the reference's not yet. -/
def fsH (a s t h : Int) (m : FsM) (v' : FrV) (y : Nat) : Grp := frG m.x { frNewC a s t h with gp := y } v' ++ rfG m.y ⟨a, s, t, h, m.gq⟩ (rfP m.v)
section
variable {B : Nat} {W w : World} {R : List Grp} {p bw bb kp kw : Nat} {ws bs : List Int} {bv : Value} {n nn a s t h : Int} {m : FsM}
theorem fs_ab {mg kg f r : Grp} (hO : Owns B W w (mg :: kg :: (f ++ r) :: R)) : Owns B W w (mg :: f :: kg :: r :: R) := hO.flat (by (classical exact List.perm_iff_count.2 (fun x => by simp only [List.flatten_cons, List.flatten_nil, List.count_append, List.append_nil]; omega)))
theorem fs_ba {mg kg f r : Grp} (hO : Owns B W w (mg :: f :: kg :: r :: R)) : Owns B W w (mg :: kg :: (f ++ r) :: R) := hO.flat (by (classical exact List.perm_iff_count.2 (fun x => by simp only [List.flatten_cons, List.flatten_nil, List.count_append, List.append_nil]; omega)))
theorem fs_cd {mg kg f r : Grp} (hO : Owns B W w (mg :: kg :: (f ++ r) :: R)) : Owns B W w (kg :: r :: mg :: f :: R) := hO.flat (by (classical exact List.perm_iff_count.2 (fun x => by simp only [List.flatten_cons, List.flatten_nil, List.count_append, List.append_nil]; omega)))
theorem fs_dc {mg kg f r : Grp} (hO : Owns B W w (kg :: r :: mg :: f :: R)) : Owns B W w (mg :: kg :: (f ++ r) :: R) := hO.flat (by (classical exact List.perm_iff_count.2 (fun x => by simp only [List.flatten_cons, List.flatten_nil, List.count_append, List.append_nil]; omega)))
theorem fs_step1 (hO : Owns B W w (memG p bw bb ws bs n :: kG kp kw ws bv nn :: fsG a s t h m :: R)) (hc : cfgOk a s t = true) (hl : ws.length ≤ 4096) (hv : FsIn (frNewC a s t h) m.v) (q : FrR) (hq : frStep (frNewC a s t h) ws m.v = q) :
    Calls Tryz.prog 10 #[.pointer (some ⟨m.x, 0, none⟩), memI p] w fun e w' => e = .returned (resV (q.code, 0) q.done) ∧ ∃ n' y, Owns B W w' (memG p bw bb q.ws bs n' :: kG kp kw ws bv nn :: fsH a s t h m q.v y :: R) := by
  obtain ⟨e1, e2, -⟩ := of_yes hc
  refine (fr_Step (fs_ab hO) (by show lOk (ofT a s t) (ofS a s t); rw [e1, e2]; exact lOk_yes hc) hl hv.1 q (by rw [frStep_gp]; exact hq)).mono ?_
  rintro e w' ⟨he, n', y, hO'⟩
  exact ⟨he, n', y, fs_ba hO'⟩
theorem fs_step2 {ws' : List Int} {v' : FrV} {y : Nat} (hO : Owns B W w (memG p bw bb ws' bs n :: kG kp kw ws bv nn :: fsH a s t h m v' y :: R)) (hc : cfgOk a s t = true) (lo : -9223372036854775808 ≤ h) (hi : h ≤ 9223372036854775807) (hl : ws.length ≤ 4096) (hv : FsIn (frNewC a s t h) m.v) (hw : WOk ws) (q : FrR) (hq : frStep (frNewC a s t h) ws m.v = q) (hq1 : q.ws = ws') (hq2 : q.v = v') :
    Calls Tryz.prog 11 #[.pointer (some ⟨m.y, 0, none⟩), .pointer (some ⟨kp, 0, none⟩)] w fun e w' => e = .returned (resV (q.code, 0) q.done) ∧ ∃ nn' z, Owns B W w' (memG p bw bb ws' bs n :: kG kp kw ws' bv nn' :: fsG a s t h ⟨m.x, m.y, y, z, v'⟩ :: R) := by
  subst hq1
  subst hq2
  refine (ref15_StepF (fs_cd hO) hl hc lo hi hv hw q hq).mono ?_
  rintro e w' ⟨he, n', z, hO'⟩
  exact ⟨he, n', z, fs_dc hO'⟩
end
end Go.Proofs.YtpebepjfgnoaaaaGreat
