/- Four stack machines that step in any order: a push; at first; at last. -/
import Derived.Test.YtpebepjfgnoaaaaSaP
namespace Go.Proofs.Ytpebepjfgnoaaaa
set_option linter.unusedVariables false
set_option linter.unusedSimpArgs false
open Go.RowKit
theorem lnk_ne {t x y : Int} (h : x ≠ y) : lnk t x ≠ lnk t y := by unfold lnk; omega
section
variable {t s : Int} {base ws : List Int} {g : Int} {L T : List Int} {Q : Nat → SaM} (hb : Base s base) (t1 : 1 ≤ t) (s64 : s ≤ 64) (g1 : g ≤ 1000000) (h : SaInv t s base ws g L T Q)
include hb h
theorem SaInv.push {j : Nat} (hj : j < 4) (m : SaM) {q r : SaQ} (hq : (Q j).q = some q) (hr : m.q = some r) (hs : r.sl = q.sl) (hm : m.p = (Q j).p) (hp : pushIn t s ws g L r) : SaInv t s base ws g L T (upd Q j m) := by
  have _u := hb
  obtain ⟨R, h1, h2⟩ := under_split Q hj
  have e1 : un m = un (Q j) := by unfold un; rw [hq, hr]; simp only [hs]
  refine ⟨h.len, h.ok, h.cur, h.g0, h.chain, ?_, ?_, ?_⟩
  · have k : (under (upd Q j m)).Perm (under Q) := (h2 m).trans (by rw [e1]; exact h1.symm)
    exact (List.Perm.append_left _ k).trans h.part
  · intro i hi; unfold upd; split
    · rename_i k; subst k; rw [hm]; exact h.pops i hi
    · exact h.pops i hi
  · intro i hi q'; unfold upd; split
    · rw [hr]; intro k; cases k; exact hp
    · exact h.pushes i hi q'
/-- a push begins. -/
theorem SaInv.begins {j : Nat} (hj : j < 4) (m : SaM) {y : Int} {T' : List Int} {r : SaQ} (hT : T = y :: T') (hq : (Q j).q = none) (hr : m.q = some r) (hs : r.sl = y) (hn : r.nx = 1) (hm : m.p.nx = 1) : SaInv t s base ws g L T' (upd Q j m) := by
  have _u := hb
  obtain ⟨R, h1, h2⟩ := under_split Q hj
  have e1 : un (Q j) = [] := by unfold un; rw [hq]
  have e2 : un m = [y] := by unfold un; rw [hr]; simp [hs]
  refine ⟨h.len, h.ok, h.cur, h.g0, h.chain, ?_, ?_, ?_⟩
  · have k : (under (upd Q j m)).Perm (y :: under Q) := (h2 m).trans (by rw [e2]; exact (show ([y] ++ R).Perm (y :: under Q) from (h1.trans (by rw [e1]; exact List.Perm.refl _)).symm.cons y))
    refine (List.Perm.append_left _ k).trans (List.Perm.trans ?_ h.part)
    rw [hT, List.append_assoc, List.append_assoc]
    exact List.Perm.append_left L List.perm_middle
  · intro i hi; unfold upd; split
    · exact .inl hm
    · exact h.pops i hi
  · intro i hi q'; unfold upd; split
    · rw [hr]; intro k; cases k; exact .inl hn
    · exact h.pushes i hi q'
theorem SaInv.under_len {j : Nat} (hj : j < 4) (m : SaM) : (under (upd Q j m)).length + (un (Q j)).length = (under Q).length + (un m).length := by
  have _u := And.intro hb h
  obtain ⟨R, h1, h2⟩ := under_split Q hj
  have a := h1.length_eq
  have b := (h2 m).length_eq
  rw [List.length_append] at a b
  omega
theorem SaInv.counts : ((L.length + T.length + (under Q).length : Nat) : Int) = s := by
  have := h.part.length_eq
  rw [List.length_append, List.length_append] at this
  rw [this]; exact hb.2.2
include t1 s64 g1
theorem SaInv.free : freeOf t s ws = L := by
  have htop := h.top hb s64
  unfold freeOf
  rw [show lOnce t 1 = 1 by unfold lOnce; rw [if_neg (by omega)], h.cur, hd_top htop.1 htop.2 h.g0 (by omega)]
  exact freeL_chain _ h.chain (h.bdL hb) (by have := h.counts hb; omega)
/-- a step of a push. -/
theorem SaInv.pushS {j : Nat} (hj : j < 4) {q : SaQ} (hq : (Q j).q = some q) (r : StepR) (hr : pushStep t s ws q.nx q.sl q.wd q.tw = r) :
    (r.done = false → SaInv t s base r.ws g L T (upd Q j ⟨(Q j).p, some ⟨q.x, r.nx, r.sl, r.wd, r.to⟩⟩)) ∧
    (r.done = true → r.e = 0 ∧ ∀ m : SaM, m.p.nx = 1 → m.q = none → SaInv t s base r.ws (g + 1) (q.sl :: L) T (upd Q j m)) := by
  have htop := h.top hb s64
  have e1 : lOnce t 1 = 1 := by unfold lOnce; rw [if_neg (by omega)]
  have hg0 := h.g0
  have hsl := h.slot hb hj hq
  obtain ⟨s0, s1⟩ := h.bdU hb _ hsl
  have hnL := h.slotL hb hj hq
  have hel : lOf t s q.sl 2 = lnk t q.sl := by unfold lOf lnk; rw [if_pos ⟨s0, s1⟩]
  have hl0 : 0 ≤ lnk t q.sl ∧ lnk t q.sl < 4 + t + 3 * s ∧ lnk t q.sl ≠ 1 := by unfold lnk; omega
  have hlin : wIn ws (lnk t q.sl) = true := by rw [wIn_iff]; have := h.len; omega
  have hin : wIn ws 1 = true := by rw [wIn_iff]; have := h.len; omega
  rcases h.pushes j hj q hq with hn | ⟨hn, tp, gw, hw, p0, p1, w0, hcase, h3⟩
  · subst hr
    unfold pushStep
    rw [if_pos hn, hel, if_neg (by omega), e1, h.cur, if_pos (hd_is htop.1 htop.2 h.g0 (by omega))]
    refine ⟨fun _ => ?_, fun k => (by simp at k)⟩
    exact h.push hb hj _ hq rfl rfl rfl (.inr ⟨.inl rfl, topL L, g, rfl, htop.1, htop.2, h.g0, .inr ⟨rfl, rfl⟩, fun k => (by simp at k)⟩)
  · have hg : gw ≤ g := by rcases hcase with k | ⟨k, -⟩ <;> omega
    rcases hn with hn | hn
    · have hdp : dPush q.wd q.sl = (hdW (q.sl + 1) (gw + 1), tp, 0) := by
        unfold dPush
        rw [hw, if_pos (hd_is p0 p1 w0 (by omega)), hd_mod p0 p1 w0 (by omega), hd_div p0 p1 w0 (by omega), hd_next p0 p1 w0 (by omega), if_pos (by omega)]
        rfl
      subst hr
      unfold pushStep
      rw [if_neg (by omega), if_pos hn, hel, hdp]
      refine ⟨fun _ => ?_, fun k => (by simp at k)⟩
      have hne : ∀ x, x ≠ q.sl → wAt (wPut ws (lnk t q.sl) tp) (lnk t x) = wAt ws (lnk t x) := fun x hx => wAt_put_ne (lnk_ne hx)
      have h' : SaInv t s base (wPut ws (lnk t q.sl) tp) g L T (upd Q j ⟨(Q j).p, some ⟨q.x, 1, q.sl, 0, 0⟩⟩) := by
        have k0 := h.push hb hj (⟨(Q j).p, some ⟨q.x, 1, q.sl, 0, 0⟩⟩ : SaM) hq rfl rfl rfl (.inl rfl)
        refine ⟨by rw [wPut_len]; exact h.len, wPut_okI h.ok _ (by unfold I64; omega), by rw [wAt_put_ne (by omega)]; exact h.cur, h.g0, h.chain.put (fun x hx => lnk_ne (fun e => hnL (e ▸ hx))), k0.part, k0.pops, ?_⟩
        intro i hi q' hq'
        by_cases hij : i = j
        · subst hij
          rw [upd_same] at hq'
          cases hq'
          exact .inl rfl
        · rw [upd_ne _ _ hij] at hq'
          exact (h.pushes i hi q' hq').put (hne _ (h.slots_ne hb hi hj hij hq' hq))
      have h2 := h'.push hb hj (⟨(Q j).p, some ⟨q.x, 3, q.sl, q.wd, hdW (q.sl + 1) (gw + 1)⟩⟩ : SaM) (q := ⟨q.x, 1, q.sl, 0, 0⟩) (by rw [upd_same]) rfl rfl (by rw [upd_same]) (.inr ⟨.inr rfl, tp, gw, hw, p0, p1, w0, hcase, fun _ => ⟨rfl, wAt_put_same hlin⟩⟩)
      have e2 : upd (upd Q j ⟨(Q j).p, some ⟨q.x, 1, q.sl, 0, 0⟩⟩) j (⟨(Q j).p, some ⟨q.x, 3, q.sl, q.wd, hdW (q.sl + 1) (gw + 1)⟩⟩ : SaM) = upd Q j ⟨(Q j).p, some ⟨q.x, 3, q.sl, q.wd, hdW (q.sl + 1) (gw + 1)⟩⟩ := by funext i; unfold upd; split <;> rfl
      rw [e2] at h2
      exact h2
    · obtain ⟨htw, hlk⟩ := h3 hn
      subst hr
      unfold pushStep
      rw [if_neg (by omega), if_neg (by omega), if_pos hn, e1]
      by_cases hc : wCas ws 1 q.wd = true
      · have hcur : wAt ws 1 = q.wd := by unfold wCas at hc; rw [Bool.and_eq_true] at hc; simpa using hc.2
        have heq := h.cur.symm.trans (hcur.trans hw)
        obtain ⟨htt, hgg⟩ := hd_inj htop.1 htop.2 p0 p1 heq
        rw [if_pos hc]
        refine ⟨fun k => (by simp at k), fun _ => ⟨rfl, fun m hm1 hm2 => ?_⟩⟩
        have hput : wCasPut ws 1 q.wd q.tw = wPut ws 1 (hdW (q.sl + 1) (g + 1)) := by unfold wCasPut; rw [if_pos hc, htw, hgg]
        obtain ⟨R, h1, h2⟩ := under_split Q hj
        have f1 : un (Q j) = [q.sl] := by unfold un; rw [hq]
        have f2 : un m = [] := by unfold un; rw [hm2]
        have hub : ∀ x, lnk t x = 1 → x < 0 := fun x hx => by unfold lnk at hx; omega
        show SaInv t s base (wCasPut ws 1 q.wd q.tw) (g + 1) (q.sl :: L) T (upd Q j m)
        rw [hput]
        refine ⟨by rw [wPut_len]; exact h.len, wPut_okI h.ok _ (by unfold hdW I64; omega), wAt_put_same hin, by omega, ?_, ?_, ?_, ?_⟩
        · refine ⟨by rw [wAt_put_ne (by omega), hlk, htt], h.chain.put (fun x hx k => ?_)⟩
          have := h.bdL hb x hx; have := hub x k; omega
        · have k : (under Q).Perm (q.sl :: under (upd Q j m)) := h1.trans (by rw [f1]; exact (show ([q.sl] ++ R).Perm (q.sl :: under (upd Q j m)) from ((h2 m).trans (by rw [f2]; exact List.Perm.refl _)).symm.cons q.sl))
          refine List.Perm.trans ?_ h.part
          refine List.Perm.trans ?_ (List.Perm.append_left (L ++ T) k.symm)
          rw [List.cons_append, List.cons_append]
          exact List.perm_middle.symm
        · intro i hi; unfold upd; split
          · exact .inl hm1
          · exact (h.pops i hi).up
        · intro i hi q'; unfold upd; split
          · rw [hm2]; intro k; cases k
          · intro hq'
            refine (h.pushes i hi q' hq').up (wAt_put_ne ?_)
            intro k
            have := h.bdU hb _ (h.slot hb hi hq')
            have := hub _ k
            omega
      · rw [if_neg hc]
        exact ⟨fun _ => h.push hb hj _ hq rfl rfl rfl (.inl rfl), fun k => (by simp at k)⟩
end
def upF (k n : Nat) : List Int := (List.range' k n).map fun (j : Nat) => (j : Int)
theorem upF_succ (k n : Nat) : upF k (n + 1) = (k : Int) :: upF (k + 1) n := by simp [upF, List.range'_succ]
theorem upF_base (s : Nat) : Base s (upF 0 s) := by
  refine ⟨?_, ?_, by simp [upF]⟩
  · unfold upF
    unfold List.Nodup
    rw [List.pairwise_map]
    have hn : List.Pairwise (fun a b : Nat => a ≠ b) (List.range' 0 s) := List.nodup_range'
    exact hn.imp (fun {a b} h e => h (by omega))
  · intro x hx
    unfold upF at hx
    rw [List.mem_map] at hx
    obtain ⟨j, hj, rfl⟩ := hx
    rw [List.mem_range'_1] at hj
    omega
theorem upF_chain {t : Int} {s : Nat} (t1 : 1 ≤ t) : ∀ (n k : Nat), k + n = s → Chain t (initW t s) (upF k n)
  | 0, _, _ => trivial
  | n + 1, k, h => by
    rw [upF_succ]
    refine ⟨?_, upF_chain t1 n (k + 1) (by omega)⟩
    rw [initW_at t1 _ (by unfold lnk; omega) (by unfold lnk; omega)]
    unfold startAt linkAt lnk
    rw [if_neg (by omega)]
    cases n with
    | zero => rw [if_neg (by omega)]; rfl
    | succ m => rw [if_pos (by omega), upF_succ]; simp only [topL]; omega
theorem SaInv.first {t : Int} {s : Nat} (t1 : 1 ≤ t) (t4 : t ≤ 4) (s1 : 1 ≤ s) (s64 : s ≤ 64) (Q : Nat → SaM) (h1 : ∀ j, (Q j).p.nx = 1) (h2 : ∀ j, (Q j).q = none) : SaInv t s (upF 0 s) (initW t s) 0 (upF 0 s) [] Q := by
  have hu : under Q = [] := by
    unfold under
    rw [List.flatten_eq_nil_iff]
    intro l hl
    obtain ⟨j, -, rfl⟩ := List.mem_map.1 hl
    unfold un; rw [h2 j]
  refine ⟨by rw [initW_len, lWords_ok t1]; omega, initW_ok t s t1 (by omega), ?_, Int.le_refl _, upF_chain t1 s 0 (by omega), by rw [hu]; simp, fun j _ => .inl (h1 j), fun j _ q hq => by rw [h2 j] at hq; cases hq⟩
  rw [initW_at t1 1 (by omega) (by omega)]
  obtain ⟨n, rfl⟩ : ∃ n, s = n + 1 := ⟨s - 1, by omega⟩
  rw [upF_succ]
  unfold startAt hdW topL
  rw [if_pos rfl]; simp
end Go.Proofs.Ytpebepjfgnoaaaa
