/- Four stack machines that step in any order: what stays, in numbers. -/
import Derived.Test.YtpebepjfgnoaaaaSsQ
import Derived.Test.YtpebepjfgnoaaaaStF
namespace Go.Proofs.Ytpebepjfgnoaaaa
set_option linter.unusedVariables false
set_option linter.unusedSimpArgs false
open Go.RowKit
def topL : List Int → Int
  | [] => 0
  | x :: _ => x + 1
def hdW (top g : Int) : Int := top + 1048576 * g
def lnk (t x : Int) : Int := 4 + t + 3 * x + 2
def Chain (t : Int) (ws : List Int) : List Int → Prop
  | [] => True
  | x :: r => wAt ws (lnk t x) = topL r ∧ Chain t ws r
theorem Chain.put {t k v : Int} {ws : List Int} : ∀ {L : List Int}, Chain t ws L → (∀ x ∈ L, lnk t x ≠ k) → Chain t (wPut ws k v) L
  | [], _, _ => trivial
  | x :: r, ⟨h1, h2⟩, h => ⟨by rw [wAt_put_ne (h x (by simp))]; exact h1, h2.put (fun y hy => h y (by simp [hy]))⟩
theorem freeL_chain {t s : Int} {ws : List Int} : ∀ {L : List Int} (f : Nat), Chain t ws L → (∀ x ∈ L, 0 ≤ x ∧ x < s) → L.length ≤ f → freeL t s ws f (topL L) = L
  | [], 0, _, _, _ => rfl
  | [], f + 1, _, _, _ => by
    unfold freeL
    show (if 1 ≤ (0 : Int) ∧ (0 : Int) ≤ s then _ else _) = _
    rw [if_neg (by omega)]
  | x :: r, 0, _, _, h => by simp at h
  | x :: r, f + 1, ⟨h1, h2⟩, hb, hl => by
    have hx := hb x (by simp)
    have ih := freeL_chain (s := s) f h2 (fun y hy => hb y (by simp [hy])) (by simpa using hl)
    unfold freeL
    have e : topL (x :: r) = x + 1 := rfl
    rw [e, if_pos (by omega), show x + 1 - 1 = x by omega, show lOf t s x 2 = lnk t x by unfold lOf lnk; rw [if_pos (by omega)], h1, ih]
section
variable {top g : Int} (t0 : 0 ≤ top) (t1 : top ≤ 64) (g0 : 0 ≤ g) (g1 : g ≤ 4294967294)
include t0 t1 g0 g1
theorem hd_mod : hdW top g % 1048576 = top := by have _u := And.intro g0 g1; unfold hdW; omega
theorem hd_div : hdW top g / 1048576 = g := by have _u := And.intro g0 g1; unfold hdW; omega
theorem hd_is : dIs (hdW top g) = true := by
  have h := hd_mod t0 t1 g0 g1
  unfold dIs; rw [decide_eq_true_eq, h]; unfold hdW; omega
theorem hd_top : dUnTop (hdW top g) = top := by unfold dUnTop; rw [if_pos (hd_is t0 t1 g0 g1), hd_mod t0 t1 g0 g1]
theorem hd_next : dNext g = g + 1 := by have _u := And.intro t0 t1; unfold dNext; rw [if_neg (by omega)]
end
theorem hd_inj {a b g h : Int} (a0 : 0 ≤ a) (a1 : a ≤ 64) (b0 : 0 ≤ b) (b1 : b ≤ 64) (e : hdW a g = hdW b h) : a = b ∧ g = h := by unfold hdW at e; omega
structure SaQ where
  x : Nat
  nx : Int
  sl : Int
  wd : Int
  tw : Int
structure SaM where
  p : SaQ
  q : Option SaQ
def popIn (s g : Int) (L : List Int) (m : SaQ) : Prop :=
  m.nx = 1 ∨ ((m.nx = 2 ∨ m.nx = 3) ∧ 0 ≤ m.sl ∧ m.sl < s ∧ ∃ gw, m.wd = hdW (m.sl + 1) gw ∧ 0 ≤ gw ∧ (gw < g ∨ (gw = g ∧ ∃ r, L = m.sl :: r ∧ (m.nx = 3 → m.tw = hdW (topL r) (g + 1)))))
def pushIn (t s : Int) (ws : List Int) (g : Int) (L : List Int) (m : SaQ) : Prop :=
  m.nx = 1 ∨ ((m.nx = 2 ∨ m.nx = 3) ∧ ∃ tp gw, m.wd = hdW tp gw ∧ 0 ≤ tp ∧ tp ≤ 64 ∧ 0 ≤ gw ∧ (gw < g ∨ (gw = g ∧ tp = topL L)) ∧ (m.nx = 3 → m.tw = hdW (m.sl + 1) (gw + 1) ∧ wAt ws (lnk t m.sl) = tp))
def un (m : SaM) : List Int := match m.q with | none => [] | some q => [q.sl]
def under (Q : Nat → SaM) : List Int := (fam (fun j => un (Q j)) 4).flatten
theorem under_split (Q : Nat → SaM) {j : Nat} (hj : j < 4) : ∃ R, (under Q).Perm (un (Q j) ++ R) ∧ ∀ m, (under (upd Q j m)).Perm (un m ++ R) := by
  have hp := perm_erase (fam (fun j => un (Q j)) 4) j (un (Q j)) (fam_get _ hj)
  refine ⟨((fam (fun j => un (Q j)) 4).eraseIdx j).flatten, ?_, fun m => ?_⟩
  · have := hp.flatten
    rw [List.flatten_cons] at this
    exact this
  · have e : fam (fun i => un (upd Q j m i)) 4 = (fam (fun j => un (Q j)) 4).set j (un m) := by
      rw [fam_set]
      congr 1
      funext i
      unfold upd; split <;> rfl
    unfold under
    rw [e]
    have hq := perm_erase ((fam (fun j => un (Q j)) 4).set j (un m)) j (un m) (List.getElem?_set_self (by rw [fam_len]; exact hj))
    rw [erase_set] at hq
    have := hq.flatten
    rw [List.flatten_cons] at this
    exact this
structure SaInv (t s : Int) (base : List Int) (ws : List Int) (g : Int) (L T : List Int) (Q : Nat → SaM) : Prop where
  len : (ws.length : Int) = 4 + t + 3 * s
  ok : WOk ws
  cur : wAt ws 1 = hdW (topL L) g
  g0 : 0 ≤ g
  chain : Chain t ws L
  part : (L ++ T ++ under Q).Perm base
  pops : ∀ j, j < 4 → popIn s g L (Q j).p
  pushes : ∀ j, j < 4 → ∀ q, (Q j).q = some q → pushIn t s ws g L q
def Base (s : Int) (base : List Int) : Prop := base.Nodup ∧ (∀ x ∈ base, 0 ≤ x ∧ x < s) ∧ (base.length : Int) = s
theorem popIn.up {s g : Int} {L L' : List Int} {m : SaQ} (h : popIn s g L m) : popIn s (g + 1) L' m := by
  rcases h with h | ⟨h, h0, h1, gw, e, h2, h3⟩
  · exact .inl h
  · refine .inr ⟨h, h0, h1, gw, e, h2, .inl ?_⟩
    rcases h3 with h3 | ⟨h3, -⟩ <;> omega
theorem pushIn.up {t s g : Int} {ws ws' L L' : List Int} {m : SaQ} (h : pushIn t s ws g L m) (hw : wAt ws' (lnk t m.sl) = wAt ws (lnk t m.sl)) : pushIn t s ws' (g + 1) L' m := by
  rcases h with h | ⟨h, tp, gw, e, h0, h1, h2, h3, h4⟩
  · exact .inl h
  · refine .inr ⟨h, tp, gw, e, h0, h1, h2, .inl (by rcases h3 with h3 | ⟨h3, -⟩ <;> omega), fun hn => ?_⟩
    rw [hw]; exact h4 hn
theorem pushIn.put {t s g : Int} {ws ws' L : List Int} {m : SaQ} (h : pushIn t s ws g L m) (hw : wAt ws' (lnk t m.sl) = wAt ws (lnk t m.sl)) : pushIn t s ws' g L m := by
  rcases h with h | ⟨h, tp, gw, e, h0, h1, h2, h3, h4⟩
  · exact .inl h
  · refine .inr ⟨h, tp, gw, e, h0, h1, h2, h3, fun hn => ?_⟩
    rw [hw]; exact h4 hn
section
variable {t s : Int} {base ws : List Int} {g : Int} {L T : List Int} {Q : Nat → SaM} (hb : Base s base) (t1 : 1 ≤ t) (s64 : s ≤ 64) (g1 : g ≤ 1000000) (h : SaInv t s base ws g L T Q)
include hb h
theorem SaInv.nodup : (L ++ T ++ under Q).Nodup := h.part.symm.nodup_iff.1 hb.1
theorem SaInv.bdL : ∀ x ∈ L, 0 ≤ x ∧ x < s := fun x hx => hb.2.1 x (h.part.mem_iff.1 (by simp [hx]))
theorem SaInv.bdT : ∀ x ∈ T, 0 ≤ x ∧ x < s := fun x hx => hb.2.1 x (h.part.mem_iff.1 (by simp [hx]))
theorem SaInv.bdU : ∀ x ∈ under Q, 0 ≤ x ∧ x < s := fun x hx => hb.2.1 x (h.part.mem_iff.1 (by simp [hx]))
include s64 in
theorem SaInv.top : 0 ≤ topL L ∧ topL L ≤ 64 := by
  cases L with
  | nil => simp [topL]
  | cons x r => have := h.bdL hb x (by simp); simp only [topL]; omega
theorem SaInv.slot {j : Nat} (hj : j < 4) {q : SaQ} (hq : (Q j).q = some q) : q.sl ∈ under Q := by
  have _u := And.intro hb h
  obtain ⟨R, h1, -⟩ := under_split Q hj
  refine h1.mem_iff.2 ?_
  unfold un; rw [hq]; simp
theorem SaInv.slotL {j : Nat} (hj : j < 4) {q : SaQ} (hq : (Q j).q = some q) : q.sl ∉ L := by
  have hn := h.nodup hb
  have hm := h.slot hb hj hq
  rw [List.append_assoc, List.nodup_append] at hn
  intro hl
  exact hn.2.2 _ hl _ (by simp [hm]) rfl
theorem SaInv.slots_ne {j i : Nat} (hj : j < 4) (hi : i < 4) (hne : j ≠ i) {q r : SaQ} (hq : (Q j).q = some q) (hr : (Q i).q = some r) : q.sl ≠ r.sl := by
  obtain ⟨R, h1, h2⟩ := under_split Q hj
  have hn := h.nodup hb
  rw [List.nodup_append] at hn
  have hu := h1.nodup_iff.1 hn.2.1
  have e : un (Q j) = [q.sl] := by unfold un; rw [hq]
  rw [e, List.singleton_append, List.nodup_cons] at hu
  have hm : r.sl ∈ under (upd Q j ⟨q, none⟩) := by
    obtain ⟨R', h1', -⟩ := under_split (upd Q j ⟨q, none⟩) hi
    refine h1'.mem_iff.2 ?_
    rw [upd_ne _ _ (fun k => hne k.symm)]
    unfold un; rw [hr]; simp
  have := (h2 ⟨q, none⟩).mem_iff.1 hm
  have this : r.sl ∈ R := by simpa [un] using this
  intro e2
  exact hu.1 (e2 ▸ this)
theorem SaInv.fresh {j : Nat} (hj : j < 4) (m : SaM) (hp : m.p.nx = 1) (hq : m.q = none) (hq0 : (Q j).q = none) : SaInv t s base ws g L T (upd Q j m) := by
  have _u := hb
  obtain ⟨R, h1, h2⟩ := under_split Q hj
  have e1 : un (Q j) = [] := by unfold un; rw [hq0]
  have e2 : un m = [] := by unfold un; rw [hq]
  refine ⟨h.len, h.ok, h.cur, h.g0, h.chain, ?_, ?_, ?_⟩
  · have k : (under (upd Q j m)).Perm (under Q) := (h2 m).trans (by rw [e2, ← e1]; exact h1.symm)
    exact (List.Perm.append_left _ k).trans h.part
  · intro i hi; unfold upd; split
    · exact .inl hp
    · exact h.pops i hi
  · intro i hi q; unfold upd; split
    · rw [hq]; intro k; cases k
    · exact h.pushes i hi q
theorem SaInv.pop {j : Nat} (hj : j < 4) (m : SaM) (hq : m.q = (Q j).q) (hp : popIn s g L m.p) : SaInv t s base ws g L T (upd Q j m) := by
  have _u := hb
  obtain ⟨R, h1, h2⟩ := under_split Q hj
  have e1 : un m = un (Q j) := by unfold un; rw [hq]
  refine ⟨h.len, h.ok, h.cur, h.g0, h.chain, ?_, ?_, ?_⟩
  · have k : (under (upd Q j m)).Perm (under Q) := (h2 m).trans (by rw [e1]; exact h1.symm)
    exact (List.Perm.append_left _ k).trans h.part
  · intro i hi; unfold upd; split
    · exact hp
    · exact h.pops i hi
  · intro i hi q; unfold upd; split
    · rename_i k; subst k; rw [hq]; exact h.pushes i hi q
    · exact h.pushes i hi q
include t1 s64 g1
/-- a step of a pop. -/
theorem SaInv.popS {j : Nat} (hj : j < 4) (r : StepR) (hr : popStep t s ws (Q j).p.nx (Q j).p.sl (Q j).p.wd (Q j).p.tw = r) (hq0 : (Q j).q = none) :
    (r.done = false → SaInv t s base r.ws g L T (upd Q j ⟨⟨(Q j).p.x, r.nx, r.sl, r.wd, r.to⟩, none⟩)) ∧
    (r.done = true → r.e ≠ 0 → SaInv t s base r.ws g L T Q) ∧
    (r.done = true → r.e = 0 → ∃ L', L = r.r :: L' ∧ ∀ m : SaM, m.p.nx = 1 → m.q = none → SaInv t s base r.ws (g + 1) L' (T ++ [r.r]) (upd Q j m)) := by
  have htop := h.top hb s64
  have e1 : lOnce t 1 = 1 := by unfold lOnce; rw [if_neg (by omega)]
  have hg0 := h.g0
  rcases h.pops j hj with hn | ⟨hn, s0, s1, gw, hw, w0, hcase⟩
  · subst hr
    unfold popStep
    rw [if_pos hn, e1, h.cur, if_pos (hd_is htop.1 htop.2 h.g0 (by omega)), hd_top htop.1 htop.2 h.g0 (by omega)]
    split
    · exact ⟨fun k => (by simp at k), fun _ _ => h, fun _ k => (by simp at k)⟩
    · rename_i hz
      refine ⟨fun _ => ?_, fun k => (by simp at k), fun k => (by simp at k)⟩
      refine h.pop hb hj _ hq0.symm ?_
      cases hL : L with
      | nil => rw [hL] at hz; exact absurd rfl hz
      | cons x r =>
        have hx := h.bdL hb x (by rw [hL]; simp)
        refine .inr ⟨.inl rfl, ?_, ?_, g, ?_, h.g0, .inr ⟨rfl, r, ?_, fun k => (by simp at k)⟩⟩
        · simp only [topL]; omega
        · simp only [topL]; omega
        · show hdW (topL (x :: r)) g = hdW (topL (x :: r) - 1 + 1) g
          congr 1; omega
        · simp only [topL]; rw [show x + 1 - 1 = x by omega]
  · rcases hn with hn | hn
    · -- the link
      have hel : lOf t s (Q j).p.sl 2 = lnk t (Q j).p.sl := by unfold lOf lnk; rw [if_pos ⟨s0, s1⟩]
      have hg : gw ≤ g := by rcases hcase with k | ⟨k, -⟩ <;> omega
      have hdp : ∀ lk, dPop (Q j).p.wd lk = if dTop lk = true then (lk + 1048576 * (gw + 1), (Q j).p.sl, 0) else (0, 0, 1) := by
        intro lk
        have t0 : 0 ≤ (Q j).p.sl + 1 := by omega
        have t9 : (Q j).p.sl + 1 ≤ 64 := by omega
        unfold dPop
        rw [hw, if_pos (hd_is t0 t9 w0 (by omega)), hd_mod t0 t9 w0 (by omega), hd_div t0 t9 w0 (by omega), hd_next t0 t9 w0 (by omega), if_neg (show ¬ (Q j).p.sl + 1 = 0 by omega), show (Q j).p.sl + 1 - 1 = (Q j).p.sl by omega]
      subst hr
      unfold popStep
      rw [if_neg (by omega), if_pos hn, hel, hdp]
      by_cases hl : dTop (wAt ws (lnk t (Q j).p.sl)) = true
      · rw [if_pos hl, if_pos rfl]
        refine ⟨fun _ => ?_, fun k => (by simp at k), fun k => (by simp at k)⟩
        refine h.pop hb hj _ hq0.symm (.inr ⟨.inr rfl, s0, s1, gw, hw, w0, ?_⟩)
        rcases hcase with k | ⟨k, r, hL, -⟩
        · exact .inl k
        · refine .inr ⟨k, r, hL, fun _ => ?_⟩
          have hc := h.chain
          rw [hL] at hc
          show wAt ws (lnk t (Q j).p.sl) + 1048576 * (gw + 1) = _
          rw [hc.1, k]; rfl
      · rw [if_neg hl, if_neg (by decide)]
        exact ⟨fun k => (by simp at k), fun _ _ => h, fun _ k => (by simp at k)⟩
    · -- the swap
      have hin : wIn ws 1 = true := by rw [wIn_iff]; have := h.len; have := hb.2.2; omega
      subst hr
      unfold popStep
      rw [if_neg (by omega), if_neg (by omega), if_pos hn, e1]
      by_cases hc : wCas ws 1 (Q j).p.wd = true
      · have hcur : wAt ws 1 = (Q j).p.wd := by unfold wCas at hc; rw [Bool.and_eq_true] at hc; simpa using hc.2
        have heq := h.cur.symm.trans (hcur.trans hw)
        obtain ⟨-, hgg⟩ := hd_inj htop.1 htop.2 (show 0 ≤ (Q j).p.sl + 1 by omega) (by omega) heq
        obtain ⟨r, hL, htw⟩ : ∃ r, L = (Q j).p.sl :: r ∧ (Q j).p.tw = hdW (topL r) (g + 1) := by
          rcases hcase with k | ⟨k, r, hL, h3⟩
          · omega
          · exact ⟨r, hL, h3 hn⟩
        rw [if_pos hc]
        refine ⟨fun k => (by simp at k), fun _ k => absurd rfl k, fun _ _ => ⟨r, hL, fun m hm1 hm2 => ?_⟩⟩
        have hput : wCasPut ws 1 (Q j).p.wd (Q j).p.tw = wPut ws 1 (hdW (topL r) (g + 1)) := by unfold wCasPut; rw [if_pos hc, htw]
        obtain ⟨R, h1, h2⟩ := under_split Q hj
        have f1 : un (Q j) = [] := by unfold un; rw [hq0]
        have f2 : un m = [] := by unfold un; rw [hm2]
        have hub : ∀ x, lnk t x = 1 → x < 0 := fun x hx => by unfold lnk at hx; omega
        have hr0 : 0 ≤ topL r ∧ topL r ≤ 64 := by
          cases hr' : r with
          | nil => simp [topL]
          | cons y r' => have := h.bdL hb y (by rw [hL, hr']; simp); simp only [topL]; omega
        show SaInv t s base (wCasPut ws 1 (Q j).p.wd (Q j).p.tw) (g + 1) r (T ++ [(Q j).p.sl]) (upd Q j m)
        rw [hput]
        refine ⟨by rw [wPut_len]; exact h.len, wPut_okI h.ok _ (by unfold hdW I64; omega), wAt_put_same hin, by omega, ?_, ?_, ?_, ?_⟩
        · have hch := h.chain
          rw [hL] at hch
          exact hch.2.put (fun x hx k => by have := h.bdL hb x (by rw [hL]; simp [hx]); have := hub x k; omega)
        · have k : (under (upd Q j m)).Perm (under Q) := (h2 m).trans (by rw [f2, ← f1]; exact h1.symm)
          refine (List.Perm.append_left _ k).trans (List.Perm.trans ?_ h.part)
          refine List.Perm.append_right _ ?_
          rw [hL]
          have : (r ++ (T ++ [(Q j).p.sl])).Perm ((Q j).p.sl :: (r ++ T)) := by
            rw [← List.append_assoc]; exact List.perm_append_singleton _ _
          exact this
        · intro i hi; unfold upd; split
          · exact .inl hm1
          · exact (h.pops i hi).up
        · intro i hi q; unfold upd; split
          · rw [hm2]; intro k; cases k
          · intro hq
            refine (h.pushes i hi q hq).up (wAt_put_ne ?_)
            intro k
            have := h.bdU hb _ (h.slot hb hi hq)
            have := hub _ k
            omega
      · rw [if_neg hc]
        refine ⟨fun _ => h.pop hb hj _ hq0.symm (.inl rfl), fun k => (by simp at k), fun k => (by simp at k)⟩
end
end Go.Proofs.Ytpebepjfgnoaaaa
