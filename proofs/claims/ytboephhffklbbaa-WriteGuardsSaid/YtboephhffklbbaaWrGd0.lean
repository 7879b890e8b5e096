/- Two writes on one object, in numbers. -/
import Derived.Test.YtboephhffklbbaaWrG0
import Derived.Test.YtboephhffklbbaaArr
import Derived.Test.YtboephhffklbbaaEnR3
namespace Go.Proofs.Ytboephhffklbbaa
set_option linter.unusedVariables false
set_option linter.unusedSimpArgs false
open Go.RowKit
def gW (k : Int) : Int := eWord 0 0 0 k false true
def gV (v : Int) : List Int := [0, 1, 0, 0, 0, 0, v, 8, 0]
theorem gW_may {k : Int} (h : 0 ≤ k ∧ k ≤ 15) : eMay 0 0 0 k false true = true := by unfold eMay; simp; omega
theorem gW_un {k : Int} (h : 0 ≤ k ∧ k ≤ 15) : uO (gW k) = 0 ∧ uG (gW k) = 0 ∧ uP (gW k) = 0 ∧ uU (gW k) = k ∧ uL (gW k) = false ∧ uA (gW k) = true ∧ eOk (gW k) = 0 := by
  obtain ⟨i, x1, x2, x3, x4, x5, x6⟩ := un_pack (gW_may h)
  obtain ⟨u1, u2, u3, u4, u5, u6, u7⟩ := u_yes i
  unfold gW
  exact ⟨u1.trans x1, u2.trans x2, u3.trans x3, u4.trans x4, u5.trans x5, u6.trans x6, u7⟩
theorem gW_inj {c k : Int} (hc : 0 ≤ c ∧ c ≤ 15) (hk : 0 ≤ k ∧ k ≤ 15) (h : gW c = gW k) : c = k := by
  have h1 := (gW_un hc).2.2.2.1
  have h2 := (gW_un hk).2.2.2.1
  rw [h, h2] at h1
  exact h1.symm
theorem gW_guard {k y : Int} (h : 0 ≤ k ∧ k ≤ 15) (h' : 0 ≤ k + y ∧ k + y ≤ 15) (hy : -15 ≤ y ∧ y ≤ 15) : eGuard (gW k) y = (gW (k + y), 0) := by
  obtain ⟨i, x1, x2, x3, x4, x5, x6⟩ := un_pack (gW_may h)
  have g0 : guardCode y = 0 := by unfold guardCode; rw [if_neg (by omega)]
  unfold gW eGuard
  rw [eTurn_live i x6, x1, x2, x3, x4, x5, g0, if_pos rfl]
  unfold eChg ePack
  rw [if_pos rfl, if_pos (gW_may h')]
theorem gV_at (v : Int) : wAt (gV v) 6 = v := rfl
theorem gV_size (v : Int) : wAt (gV v) 7 = 8 := rfl
theorem gV_cas (v x : Int) : wCas (gV v) 6 x = (v == x) := by
  show (true && (v == x)) = _
  simp
theorem gV_casPut (v n : Int) : wCasPut (gV v) 6 v n = gV n := by
  unfold wCasPut; rw [gV_cas]; simp; rfl
theorem lOf210 : lOf 2 1 0 0 = 6 := by decide
theorem lOf211 : lOf 2 1 0 1 = 7 := by decide
def gC (off b : Int) : WrC := ⟨2, 1, 0, 0, false, off, b⟩
/-- the byte is written, where it is the machine's alone. -/
def Wrote (D : Prop) (off b : Int) (bs : List Int) : Prop := D → 0 ≤ off → off < 8 → wAt bs off = b
def GMI (D : Prop) (off b : Int) (bs : List Int) (v : WrV) : Prop :=
  v.o = 0 ∧ ((v.nx = 0 ∧ v.g = false ∧ Wrote D off b bs) ∨ (v.nx = 1 ∧ v.g = false) ∨ (v.nx = 2 ∧ v.g = false ∧ ∃ k, 0 ≤ k ∧ k ≤ 14 ∧ v.wd = gW k) ∨ (v.nx = 3 ∧ v.g = true) ∨ (v.nx = 4 ∧ v.g = true ∧ 0 ≤ off ∧ off < 8) ∨ (v.nx = 5 ∧ v.g = true ∧ Wrote D off b bs) ∨ (v.nx = 6 ∧ v.g = true ∧ Wrote D off b bs ∧ ∃ k, 1 ≤ k ∧ k ≤ 15 ∧ v.wd = gW k))
def Elsewhere (off : Int) (bs bs' : List Int) : Prop := bs'.length = bs.length ∧ (∀ j, j ≠ off → wAt bs' j = wAt bs j) ∧ ((∀ z ∈ bs, 0 ≤ z ∧ z < 256) → ∀ z ∈ bs', 0 ≤ z ∧ z < 256)
theorem Elsewhere.refl (off : Int) (bs : List Int) : Elsewhere off bs bs := ⟨rfl, fun _ _ => rfl, fun h => h⟩
theorem Elsewhere.trans {off : Int} {a b c : List Int} (h : Elsewhere off a b) (k : Elsewhere off b c) : Elsewhere off a c := ⟨k.1.trans h.1, fun j hj => (k.2.1 j hj).trans (h.2.1 j hj), fun hz => k.2.2 (h.2.2 hz)⟩
theorem wPut_byte {bs : List Int} {k v : Int} (h : ∀ z ∈ bs, 0 ≤ z ∧ z < 256) (hv : 0 ≤ v ∧ v < 256) : ∀ z ∈ wPut bs k v, 0 ≤ z ∧ z < 256 := by
  unfold wPut
  split
  · intro z hz
    rcases List.mem_or_eq_of_mem_set hz with hz | hz
    · exact h z hz
    · subst hz; exact hv
  · exact h
theorem Elsewhere.put {off b : Int} {bs : List Int} (hb : 0 ≤ b ∧ b < 256) : Elsewhere off bs (wPut bs off b) := ⟨wPut_len _ _ _, fun _ hj => wAt_put_ne hj, fun h => wPut_byte h hb⟩
/-- how many steps there are still, alone, at most. -/
def gLeft (v : WrV) (N : Int) : Nat := if v.nx = 0 then 1 else if v.nx = 6 then (if v.wd = gW N then 1 else 3) else if v.nx = 5 then 2 else if v.nx = 4 then 3 else if v.nx = 3 then 4 else if v.nx = 2 then (if v.wd = gW N then 5 else 7) else 6
theorem gd_step {D : Prop} {N off b : Int} {bs : List Int} {v : WrV} (hN : 0 ≤ N ∧ N ≤ 15) (hb : 0 ≤ b ∧ b < 256) (hl : bs.length = 8) (h : GMI D off b bs v) (hr : v.g = false → N ≤ 14) (hp : v.g = true → 1 ≤ N) :
    ∃ N' bs' v' code, ∃ dn : Bool, wrStep (gC off b) (gV (gW N)) bs v = ⟨gV (gW N'), bs', v', code, dn⟩ ∧ N' = N - bI v.g + bI v'.g ∧ GMI D off b bs' v' ∧ Elsewhere off bs bs' ∧ (dn = true → v'.nx = 0) ∧ (dn = false → gLeft v' N' < gLeft v N) := by
  obtain ⟨nx, wd, o, kp, g⟩ := v
  obtain ⟨ho, h⟩ := h
  simp only at ho h hr hp
  subst ho
  obtain ⟨u1, u2, u3, u4, u5, u6, u7⟩ := gW_un hN
  rcases h with ⟨rfl, rfl, hw⟩ | ⟨rfl, rfl⟩ | ⟨rfl, rfl, k, k0, k14, rfl⟩ | ⟨rfl, rfl⟩ | ⟨rfl, rfl, o0, o8⟩ | ⟨rfl, rfl, hw⟩ | ⟨rfl, rfl, hw, k, k1, k15, rfl⟩
  · refine ⟨N, bs, ⟨0, wd, 0, kp, false⟩, 1, true, rfl, by simp only; omega, ⟨rfl, .inl ⟨rfl, rfl, hw⟩⟩, .refl _ _, fun _ => rfl, (fun h => nomatch h)⟩
  · have fr : fresh (gW N) 0 = true := by unfold fresh; rw [u7, u6, u2]; rfl
    have hN14 := hr rfl
    refine ⟨N, bs, ⟨2, gW N, 0, kp, false⟩, 0, false, ?_, by simp only; omega, ⟨rfl, .inr (.inr (.inl ⟨rfl, rfl, N, hN.1, hN14, rfl⟩))⟩, .refl _ _, (fun h => nomatch h), fun _ => ?_⟩
    · unfold wrStep wrLook
      have c15 : decide (N < 15) = true := by rw [decide_eq_true_eq]; omega
      simp only [gC, lOf210, gV_at, fr, u5, u4, u1, c15]
      simp
    · unfold gLeft; simp
  · by_cases e : N = k
    · subst e
      have hg := gW_guard (k := N) (y := 1) ⟨by omega, by omega⟩ ⟨by omega, by omega⟩ ⟨by omega, by omega⟩
      refine ⟨N + 1, bs, ⟨3, gW N, 0, kp, true⟩, 0, false, ?_, by show _ = _ - bI false + bI true; unfold bI; simp, ⟨rfl, .inr (.inr (.inr (.inl ⟨rfl, rfl⟩)))⟩, .refl _ _, (fun h => nomatch h), fun _ => ?_⟩
      · unfold wrStep
        simp only [gC, lOf210, gV_cas, gV_casPut, hg]
        simp
      · unfold gLeft; simp
    · have hne : (gW N == gW k) = false := by rw [beq_eq_false_iff_ne]; exact fun he => e (gW_inj hN ⟨by omega, by omega⟩ he)
      refine ⟨N, bs, ⟨1, gW k, 0, kp, false⟩, 0, false, ?_, by simp only; omega, ⟨rfl, .inr (.inl ⟨rfl, rfl⟩)⟩, .refl _ _, (fun h => nomatch h), fun _ => ?_⟩
      · unfold wrStep
        simp only [gC, lOf210, gV_cas, hne]
        simp
      · have hne' : gW k ≠ gW N := fun he => by rw [he] at hne; simp at hne
        unfold gLeft; simp [hne']
  · by_cases e : off < 0 ∨ 8 ≤ off
    · refine ⟨N, bs, ⟨5, wd, 0, 5, true⟩, 0, false, ?_, by simp only; omega, ⟨rfl, .inr (.inr (.inr (.inr (.inr (.inl ⟨rfl, rfl, fun _ h0 h8 => by omega⟩)))))⟩, .refl _ _, (fun h => nomatch h), fun _ => ?_⟩
      · unfold wrStep
        simp only [gC, lOf211, gV_size, e]
        simp
      · unfold gLeft; simp
    · refine ⟨N, bs, ⟨4, wd, 0, kp, true⟩, 0, false, ?_, by simp only; omega, ⟨rfl, .inr (.inr (.inr (.inr (.inl ⟨rfl, rfl, by omega, by omega⟩))))⟩, .refl _ _, (fun h => nomatch h), fun _ => ?_⟩
      · unfold wrStep
        simp only [gC, lOf211, gV_size, e]
        simp
      · unfold gLeft; simp
  · have hbb : b % 256 = b := by omega
    have hww : wrap64 (0 + off) = off := by unfold wrap64; omega
    refine ⟨N, wPut bs off b, ⟨5, wd, 0, kp, true⟩, 0, false, ?_, by simp only; omega, ⟨rfl, .inr (.inr (.inr (.inr (.inr (.inl ⟨rfl, rfl, fun _ _ _ => wAt_put_same (wIn_iff.2 ⟨o0, by omega⟩)⟩)))))⟩, .put hb, (fun h => nomatch h), fun _ => ?_⟩
    · unfold wrStep
      simp only [gC, hww, hbb]
      simp
    · unfold gLeft; simp
  · have h1 := hp rfl
    refine ⟨N, bs, ⟨6, gW N, 0, kp, true⟩, 0, false, ?_, by simp only; omega, ⟨rfl, .inr (.inr (.inr (.inr (.inr (.inr ⟨rfl, rfl, hw, N, h1, hN.2, rfl⟩)))))⟩, .refl _ _, (fun h => nomatch h), fun _ => ?_⟩
    · unfold wrStep
      simp only [gC, lOf210, gV_at]
      simp
    · unfold gLeft; simp
  · have h1 := hp rfl
    have hg := gW_guard (k := k) (y := -1) ⟨by omega, by omega⟩ ⟨by omega, by omega⟩ ⟨by omega, by omega⟩
    by_cases e : N = k
    · subst e
      refine ⟨N + -1, bs, ⟨0, gW N, 0, kp, false⟩, kp, true, ?_, by show _ = _ - bI true + bI false; unfold bI; simp; omega, ⟨rfl, .inl ⟨rfl, rfl, hw⟩⟩, .refl _ _, fun _ => rfl, (fun h => nomatch h)⟩
      unfold wrStep
      simp only [gC, lOf210, gV_cas, gV_casPut, hg]
      simp
    · have hne : (gW N == gW k) = false := by rw [beq_eq_false_iff_ne]; exact fun he => e (gW_inj hN ⟨by omega, by omega⟩ he)
      refine ⟨N, bs, ⟨5, gW k, 0, kp, true⟩, 0, false, ?_, by simp only; omega, ⟨rfl, .inr (.inr (.inr (.inr (.inr (.inl ⟨rfl, rfl, hw⟩)))))⟩, .refl _ _, (fun h => nomatch h), fun _ => ?_⟩
      · unfold wrStep
        simp only [gC, lOf210, gV_cas, hg, hne]
        simp
      · have hne' : gW k ≠ gW N := fun he => by rw [he] at hne; simp at hne
        unfold gLeft; simp [hne']
theorem gd_run {D : Prop} {off b : Int} (hb : 0 ≤ b ∧ b < 256) : ∀ (fuel most : Nat) (N : Int) (bs : List Int) (v : WrV), gLeft v N ≤ fuel → 0 ≤ N ∧ N ≤ 15 → bs.length = 8 → GMI D off b bs v → (v.g = false → N ≤ 14) → (v.g = true → 1 ≤ N) →
    ∃ bs' v', (mRun (wrF1 (gC off b)) most fuel ⟨gV (gW N), bs, v⟩).1 = ⟨gV (gW (N - bI v.g)), bs', v'⟩ ∧ v'.nx = 0 ∧ GMI D off b bs' v' ∧ Elsewhere off bs bs' := by
  intro fuel
  induction fuel with
  | zero =>
    intro most N bs v hF
    exfalso
    unfold gLeft at hF
    repeat' split at hF
    all_goals omega
  | succ fuel ih =>
    intro most N bs v hF hN hl h hr hp
    obtain ⟨N', bs', v', code, dn, hs, hN', hm, he, hd, hnd⟩ := gd_step hN hb hl h hr hp
    have hf : wrF1 (gC off b) ⟨gV (gW N), bs, v⟩ = (⟨gV (gW N'), bs', v'⟩, (code, 0), dn) := by unfold wrF1; simp only [hs]
    have bg : bI v.g = 0 ∧ v.g = false ∨ bI v.g = 1 ∧ v.g = true := by cases v.g <;> simp [bI]
    have bg' : bI v'.g = 0 ∧ v'.g = false ∨ bI v'.g = 1 ∧ v'.g = true := by cases v'.g <;> simp [bI]
    cases dn
    case true =>
      rw [mRun_done (by rw [hf]), hf]
      have h0 := hd rfl
      have g0 : v'.g = false := by
        obtain ⟨-, hm⟩ := hm
        rcases hm with h | h | h | h | h | h | h
        · exact h.2.1
        all_goals (have := h.1; omega)
      refine ⟨bs', v', ?_, h0, hm, he⟩
      rw [hN', g0]
      have : bI false = 0 := rfl
      simp [this]
    case false =>
      rw [mRun_more (by rw [hf]), hf]
      have hlt := hnd rfl
      have hb1 : (v.g = false → N ≤ 14) ∧ (v.g = true → 1 ≤ N) := ⟨hr, hp⟩
      have k1 : 0 ≤ N' ∧ N' ≤ 15 := by rcases bg with ⟨e1, e2⟩ | ⟨e1, e2⟩ <;> rcases bg' with ⟨e3, e4⟩ | ⟨e3, e4⟩ <;> simp [e2] at hb1 <;> omega
      have k2 : v'.g = false → N' ≤ 14 := by intro hg; rcases bg with ⟨e1, e2⟩ | ⟨e1, e2⟩ <;> rcases bg' with ⟨e3, e4⟩ | ⟨e3, e4⟩ <;> simp [e2] at hb1 <;> simp_all <;> omega
      have k3 : v'.g = true → 1 ≤ N' := by intro hg; rcases bg with ⟨e1, e2⟩ | ⟨e1, e2⟩ <;> rcases bg' with ⟨e3, e4⟩ | ⟨e3, e4⟩ <;> simp [e2] at hb1 <;> simp_all <;> omega
      obtain ⟨bs2, v2, h1, h2, h3, h4⟩ := ih most N' bs' v' (by omega) k1 (by rw [he.1]; exact hl) hm k2 k3
      refine ⟨bs2, v2, ?_, h2, h3, he.trans h4⟩
      rw [h1, hN']
      have : N - bI v.g + bI v'.g - bI v'.g = N - bI v.g := by omega
      rw [this]
theorem GMI.keep {D : Prop} {off b : Int} {bs bs' : List Int} {v : WrV} (h : GMI D off b bs v) (hk : D → wAt bs' off = wAt bs off) : GMI D off b bs' v := by
  have hw : Wrote D off b bs → Wrote D off b bs' := fun hw d h0 h8 => (hk d).trans (hw d h0 h8)
  obtain ⟨ho, h⟩ := h
  refine ⟨ho, ?_⟩
  rcases h with h | h | h | h | h | h | h
  · exact .inl ⟨h.1, h.2.1, hw h.2.2⟩
  · exact .inr (.inl h)
  · exact .inr (.inr (.inl h))
  · exact .inr (.inr (.inr (.inl h)))
  · exact .inr (.inr (.inr (.inr (.inl h))))
  · exact .inr (.inr (.inr (.inr (.inr (.inl ⟨h.1, h.2.1, hw h.2.2⟩)))))
  · exact .inr (.inr (.inr (.inr (.inr (.inr ⟨h.1, h.2.1, hw h.2.2.1, h.2.2.2⟩)))))
def gCs (fi se : Int) : Nat → WrC := fun j => if j = 0 then gC fi 1 else gC se 2
def GAll (G fi se N : Int) (bs : List Int) (V : Nat → WrV) : Prop :=
  N = G + bI (V 0).g + bI (V 1).g ∧ bs.length = 8 ∧ (∀ z ∈ bs, 0 ≤ z ∧ z < 256) ∧ GMI (fi ≠ se) fi 1 bs (V 0) ∧ GMI (fi ≠ se) se 2 bs (V 1)
theorem bI_two (b : Bool) : bI b = 0 ∧ b = false ∨ bI b = 1 ∧ b = true := by cases b <;> simp [bI]
theorem GAll.step {G fi se N : Int} {bs : List Int} {V : Nat → WrV} (hG : 0 ≤ G ∧ G ≤ 13) (h : GAll G fi se N bs V) {q : Nat} (hq : q < 2) :
    ∃ N' bs' v' code, ∃ dn : Bool, wrStep (gCs fi se q) (gV (gW N)) bs (V q) = ⟨gV (gW N'), bs', v', code, dn⟩ ∧ GAll G fi se N' bs' (upd V q v') := by
  obtain ⟨hN, hl, hb, h0, h1⟩ := h
  have b0 := bI_two (V 0).g
  have b1 := bI_two (V 1).g
  rcases (show q = 0 ∨ q = 1 by omega) with rfl | rfl
  · obtain ⟨N', bs', v', code, dn, hs, hN', hm, he, -, -⟩ := gd_step (N := N) (by omega) (by omega) hl h0 (by intro hg; rw [hg] at hN; have : bI false = 0 := rfl; omega) (by intro hg; rw [hg] at hN; have : bI true = 1 := rfl; omega)
    refine ⟨N', bs', v', code, dn, hs, ?_, by rw [he.1]; exact hl, he.2.2 hb, ?_, ?_⟩
    · rw [upd_same, upd_ne _ _ (by omega)]; omega
    · rw [upd_same]; exact hm
    · rw [upd_ne _ _ (by omega)]; exact h1.keep fun d => he.2.1 _ (Ne.symm d)
  · obtain ⟨N', bs', v', code, dn, hs, hN', hm, he, -, -⟩ := gd_step (N := N) (by omega) (by omega) hl h1 (by intro hg; rw [hg] at hN; have : bI false = 0 := rfl; omega) (by intro hg; rw [hg] at hN; have : bI true = 1 := rfl; omega)
    refine ⟨N', bs', v', code, dn, hs, ?_, by rw [he.1]; exact hl, he.2.2 hb, ?_, ?_⟩
    · rw [upd_same, upd_ne _ _ (by omega)]; omega
    · rw [upd_ne _ _ (by omega)]; exact h0.keep fun d => he.2.1 _ d
    · rw [upd_same]; exact hm
theorem gLeft_le (v : WrV) (N : Int) : gLeft v N ≤ 50 := by
  unfold gLeft
  repeat' split
  all_goals omega
theorem GAll.run {G fi se N : Int} {bs : List Int} {V : Nat → WrV} (hG : 0 ≤ G ∧ G ≤ 13) (h : GAll G fi se N bs V) {q : Nat} (hq : q < 2) :
    ∃ N' bs' v', (mRun (wrF1 (gCs fi se q)) 50 50 ⟨gV (gW N), bs, V q⟩).1 = ⟨gV (gW N'), bs', v'⟩ ∧ v'.nx = 0 ∧ GAll G fi se N' bs' (upd V q v') := by
  obtain ⟨hN, hl, hb, h0, h1⟩ := h
  have b0 := bI_two (V 0).g
  have b1 := bI_two (V 1).g
  have z : ∀ {D off b bs} {v : WrV}, v.nx = 0 → GMI D off b bs v → bI v.g = 0 := by
    rintro D off b bs v h0 ⟨-, hm⟩
    rcases hm with h | h | h | h | h | h | h
    · rw [h.2.1]; rfl
    all_goals (have := h.1; omega)
  rcases (show q = 0 ∨ q = 1 by omega) with rfl | rfl
  · obtain ⟨bs', v', hs, hn, hm, he⟩ := gd_run (by omega) 50 50 N bs (V 0) (gLeft_le _ _) (by omega) hl h0 (by intro hg; rw [hg] at hN; have : bI false = 0 := rfl; omega) (by intro hg; rw [hg] at hN; have : bI true = 1 := rfl; omega)
    refine ⟨_, bs', v', hs, hn, ?_, by rw [he.1]; exact hl, he.2.2 hb, ?_, ?_⟩
    · rw [upd_same, upd_ne _ _ (by omega), z hn hm]; omega
    · rw [upd_same]; exact hm
    · rw [upd_ne _ _ (by omega)]; exact h1.keep fun d => he.2.1 _ (Ne.symm d)
  · obtain ⟨bs', v', hs, hn, hm, he⟩ := gd_run (by omega) 50 50 N bs (V 1) (gLeft_le _ _) (by omega) hl h1 (by intro hg; rw [hg] at hN; have : bI false = 0 := rfl; omega) (by intro hg; rw [hg] at hN; have : bI true = 1 := rfl; omega)
    refine ⟨_, bs', v', hs, hn, ?_, by rw [he.1]; exact hl, he.2.2 hb, ?_, ?_⟩
    · rw [upd_same, upd_ne _ _ (by omega), z hn hm]; omega
    · rw [upd_ne _ _ (by omega)]; exact h0.keep fun d => he.2.1 _ d
    · rw [upd_same]; exact hm
theorem GAll.ended {G fi se N : Int} {bs : List Int} {V : Nat → WrV} (h : GAll G fi se N bs V) (e0 : (V 0).nx = 0) (e1 : (V 1).nx = 0) : N = G ∧ (fi ≠ se → 0 ≤ fi → fi < 8 → wAt bs fi = 1) ∧ (fi ≠ se → 0 ≤ se → se < 8 → wAt bs se = 2) := by
  obtain ⟨hN, hl, hb, ⟨-, h0⟩, ⟨-, h1⟩⟩ := h
  have k0 : (V 0).g = false ∧ Wrote (fi ≠ se) fi 1 bs := by
    rcases h0 with h | h | h | h | h | h | h
    · exact h.2
    all_goals (have := h.1; omega)
  have k1 : (V 1).g = false ∧ Wrote (fi ≠ se) se 2 bs := by
    rcases h1 with h | h | h | h | h | h | h
    · exact h.2
    all_goals (have := h.1; omega)
  rw [k0.1, k1.1] at hN
  have : bI false = 0 := rfl
  exact ⟨by omega, k0.2, k1.2⟩
theorem GAll.init {G fi se : Int} {V : Nat → WrV} (hV : ∀ j, V j = wrV1) : GAll G fi se G w13B0 V := by
  refine ⟨?_, rfl, by decide, ⟨by rw [hV]; rfl, .inr (.inl ⟨by rw [hV]; rfl, by rw [hV]; rfl⟩)⟩, ⟨by rw [hV]; rfl, .inr (.inl ⟨by rw [hV]; rfl, by rw [hV]; rfl⟩)⟩⟩
  rw [hV, hV]
  have : bI wrV1.g = 0 := rfl
  omega
theorem GAll.in6 {G fi se N : Int} {bs : List Int} {V : Nat → WrV} (h : GAll G fi se N bs V) {q : Nat} (hq : q < 2) : WrIn (V q) := by
  have z : ∀ {D off b bs} {v : WrV}, GMI D off b bs v → WrIn v := by
    rintro D off b bs v ⟨-, hm⟩
    unfold WrIn
    rcases hm with h | h | h | h | h | h | h <;> (have := h.1; omega)
  rcases (show q = 0 ∨ q = 1 by omega) with rfl | rfl
  · exact z h.2.2.2.1
  · exact z h.2.2.2.2
theorem GAll.bd {G fi se N : Int} {bs : List Int} {V : Nat → WrV} (hG : 0 ≤ G ∧ G ≤ 13) (h : GAll G fi se N bs V) : 0 ≤ N ∧ N ≤ 15 := by
  have b0 := bI_two (V 0).g
  have b1 := bI_two (V 1).g
  have := h.1
  omega
/-- machines in a row. -/
def gF (C : Nat → WrC) (X : Nat → Nat) (V : Nat → WrV) : Nat → Grp := fun j => wrG (X j) (C j) (V j)
def gP (X : Nat → Nat) : Nat → Value := fun j => .pointer (some ⟨X j, 0, none⟩)
theorem gF_upd (C : Nat → WrC) (X : Nat → Nat) (V : Nat → WrV) (q : Nat) (v : WrV) : upd (gF C X V) q (wrG (X q) (C q) v) = gF C X (upd V q v) := by
  funext j; unfold gF upd; split
  · rename_i e; subst e; rfl
  · rfl
theorem gF_at {a b c : Grp} {F : Nat → Grp} {q : Nat} (h : q < 2) : (a :: b :: c :: fam F 2)[q + 3]? = some (F q) := by simpa using fam_get F h
theorem gd_Step {B : Nat} {W w : World} {c a : Grp} {p bw bb : Nat} {ws bs : List Int} {n : Int} {C : Nat → WrC} {X : Nat → Nat} {V : Nat → WrV} {q : Nat} (hq : q < 2) (hO : Owns B W w (memG p bw bb ws bs n :: c :: a :: fam (gF C X V) 2)) (hL : lOk (C q).t (C q).s) (hl : ws.length ≤ 4096) (hb : bs.length ≤ 4096) (hv : WrIn (V q)) {r : WrR} (hr : wrStep (C q) ws bs (V q) = r) :
    Calls Try.prog 17 #[.pointer (some ⟨X q, 0, none⟩), memI p] w fun e w' => e = .returned (resV (r.code, 0) r.done) ∧ ∃ m, Owns B W w' (memG p bw bb r.ws r.bs m :: c :: a :: fam (gF C X (upd V q r.v)) 2) := by
  have h1 := at2 (r := .returned (resV (r.code, 0) r.done)) (f := 17) (args := #[.pointer (some ⟨X q, 0, none⟩), memI p]) (fun m => memG p bw bb r.ws r.bs m) (wrG (X q) (C q) r.v) 0 (q + 3) hO rfl (gF_at hq) (by omega) (fun R hR => wr_Step hR hL hl hb hv r hr)
  refine h1.mono ?_
  rintro e w' ⟨he, m, hO'⟩
  refine ⟨he, m, ?_⟩
  simp only [List.set_cons_zero, List.set_cons_succ, fam_set] at hO'
  rw [← gF_upd]
  exact hO'
theorem gd_Run {B : Nat} {W w : World} {c a : Grp} {p bw bb : Nat} {ws bs : List Int} {n : Int} {C : Nat → WrC} {X : Nat → Nat} {V : Nat → WrV} {q : Nat} (hq : q < 2) (hO : Owns B W w (memG p bw bb ws bs n :: c :: a :: fam (gF C X V) 2)) (hL : lOk (C q).t (C q).s) (hl : ws.length ≤ 4096) (hb : bs.length ≤ 4096) (hv : WrIn (V q)) {ws' bs' : List Int} {v' : WrV} (hr : (mRun (wrF1 (C q)) 50 50 ⟨ws, bs, V q⟩).1 = ⟨ws', bs', v'⟩) :
    Calls Try.prog 21 #[.pointer (some ⟨p, 0, none⟩), .pointer (some ⟨X q, 0, none⟩), .int .i64 50] w fun e w' => ∃ u y, e = .returned (resN u y) ∧ ∃ m, Owns B W w' (memG p bw bb ws' bs' m :: c :: a :: fam (gF C X (upd V q v')) 2) := by
  have h1 := at2 (r := .returned (resN (mRun (wrF1 (C q)) 50 50 ⟨ws, bs, V q⟩).2.1 (mRun (wrF1 (C q)) 50 50 ⟨ws, bs, V q⟩).2.2)) (f := 21) (args := #[.pointer (some ⟨p, 0, none⟩), .pointer (some ⟨X q, 0, none⟩), .int .i64 50]) (fun m => memG p bw bb ws' bs' m) (wrG (X q) (C q) v') 0 (q + 3) hO rfl (gF_at hq) (by omega) (fun R hR => by
    have := write_run 50 (by decide) hR hL hl hb hv _ rfl
    rw [hr] at this
    exact this)
  refine h1.mono ?_
  rintro e w' ⟨he, m, hO'⟩
  refine ⟨_, _, he, m, ?_⟩
  simp only [List.set_cons_zero, List.set_cons_succ, fam_set] at hO'
  rw [← gF_upd]
  exact hO'
theorem made_gd (fi se : Int) (x0 x1 : Nat) : ∃ X : Nat → Nat, [wrG x0 (gC fi 1) wrV1, wrG x1 (gC se 2) wrV1] = fam (gF (gCs fi se) X (fun _ => wrV1)) 2 ∧ (#[.pointer (some ⟨x0, 0, none⟩), .pointer (some ⟨x1, 0, none⟩)] : Array Value) = rowA (gP X) 2 :=
  ⟨fun j => if j = 0 then x0 else x1, rfl, rfl⟩
theorem pack_gd {B : Nat} {W w : World} {x0 x1 : Nat} {fi se : Int} {m c : Grp} (hO : Owns B W w [wrG x1 (gC se 2) wrV1, wrG x0 (gC fi 1) wrV1, m, c]) :
    ∃ X, Owns B W (w.alloc (.cells #[.pointer (some ⟨x0, 0, none⟩), .pointer (some ⟨x1, 0, none⟩)] 37)) (m :: c :: [(w.heap.size, Obj.cells (rowA (gP X) 2) 37 (0, 0))] :: fam (gF (gCs fi se) X (fun _ => wrV1)) 2) := by
  obtain ⟨X, h1, h2⟩ := made_gd fi se x0 x1
  refine ⟨X, ?_⟩
  rw [← h1, ← h2]
  refine (hO.alloc (.cells #[.pointer (some ⟨x0, 0, none⟩), .pointer (some ⟨x1, 0, none⟩)] 37)).perm ?_
  generalize [(w.heap.size, Obj.cells #[.pointer (some ⟨x0, 0, none⟩), .pointer (some ⟨x1, 0, none⟩)] 37 (0, 0))] = A
  generalize wrG x0 (gC fi 1) wrV1 = y
  generalize wrG x1 (gC se 2) wrV1 = z
  have e1 : [A, z, y, m, c].Perm [c, m, y, z, A] := List.reverse_perm [c, m, y, z, A]
  refine e1.trans ?_
  refine (List.Perm.swap m c _).trans ?_
  exact ((List.perm_append_singleton A [y, z]).cons c).cons m
theorem w21_0 : initW 2 1 = [0, 1, 0, 0, 0, 0, 0, 0, 0] := by decide
theorem w21_1 (v : Int) : wPut (wPut [0, 1, 0, 0, 0, 0, 0, 0, 0] 6 v) 7 8 = gV v := rfl
theorem w21_n (x : Nat) (off b : Int) : wrG x (wrNewC 8 1 2 1099511627776 off b) (wrNewV 8 1 2) = wrG x (gC off b) wrV1 := by
  have h1 : ofT 8 1 2 = 2 := by decide
  have h2 : ofS 8 1 2 = 1 := by decide
  have h3 : hOf 1099511627776 1 = (0, 0, 0) := by decide
  have h4 : cfgOk 8 1 2 = true := by decide
  unfold wrNewC wrNewV; rw [h1, h2, h3, h4]; rfl
theorem lOkgC (fi se : Int) (q : Nat) : lOk (gCs fi se q).t (gCs fi se q).s := by
  unfold gCs gC; split <;> exact .inr (by simp)
/-- how many guard, of the first so many. -/
def gCnt (G : Int) (V : Nat → WrV) : Nat → Int
  | 0 => G
  | k + 1 => gCnt G V k + bI (V k).g
end Go.Proofs.Ytboephhffklbbaa
