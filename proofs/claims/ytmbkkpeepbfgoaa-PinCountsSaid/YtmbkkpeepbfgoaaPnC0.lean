/- Machines that pin and unpin one object, in numbers; machines in an array. -/
import Derived.Test.YtmbkkpeepbfgoaaPnB0
import Derived.Test.YtmbkkpeepbfgoaaArr
import Derived.Test.YtmbkkpeepbfgoaaFlat
namespace Go.Proofs.Ytmbkkpeepbfgoaa
set_option linter.unusedVariables false
set_option linter.unusedSimpArgs false
open Go.RowKit
theorem perm_pull {α : Type} : ∀ (L : List α) (k : Nat) (g : α), L[k]? = some g → L.Perm (g :: L.eraseIdx k)
  | [], _, _, h => by simp at h
  | x :: L, 0, g, h => by
    simp at h; subst h; exact List.Perm.refl _
  | x :: L, k + 1, g, h => by
    rw [List.eraseIdx_cons_succ]
    exact ((perm_pull L k g (by simpa using h)).cons x).trans (List.Perm.swap g x _)
theorem Owns.pull {B : Nat} {W w : World} {a g : Grp} {L : List Grp} (h : Owns B W w (a :: L)) (k : Nat) (hk : L[k]? = some g) : Owns B W w (a :: g :: L.eraseIdx k) :=
  h.perm ((perm_pull L k g hk).cons a)
theorem erase_set' {α : Type} : ∀ (L : List α) (k : Nat) (g : α), (L.set k g).eraseIdx k = L.eraseIdx k
  | [], _, _ => rfl
  | x :: L, 0, g => rfl
  | x :: L, k + 1, g => by rw [List.set_cons_succ, List.eraseIdx_cons_succ, List.eraseIdx_cons_succ, erase_set' L k g]
theorem Owns.push {B : Nat} {W w : World} {a g : Grp} {L : List Grp} (k : Nat) (hl : k < L.length) (h : Owns B W w (a :: g :: L.eraseIdx k)) : Owns B W w (a :: L.set k g) := by
  refine h.perm (List.Perm.cons a ?_)
  have h3 := perm_pull (L.set k g) k g (by rw [List.getElem?_set_self hl])
  rw [erase_set'] at h3
  exact h3.symm
structure PnM where
  x : Nat
  un : Bool
  nx : Int
  wd : Int
  tw : Int
def pmG (t s sl ge : Int) (st : Bool) (q : PnM) : Grp := pnG q.x t s sl ge st q.un q.nx q.wd q.tw
def pmF (t s sl ge : Int) (st : Bool) (Q : Nat → PnM) : Nat → Grp := fun j => pmG t s sl ge st (Q j)
def pmP (Q : Nat → PnM) : Nat → Value := fun j => .pointer (some ⟨(Q j).x, 0, none⟩)
theorem pmF_upd (t s sl ge : Int) (st : Bool) (Q : Nat → PnM) (q : Nat) (m : PnM) : upd (pmF t s sl ge st Q) q (pmG t s sl ge st m) = pmF t s sl ge st (upd Q q m) := by
  funext j; unfold pmF upd; split <;> rfl
theorem pmP_upd (Q : Nat → PnM) (q : Nat) (m : PnM) : upd (pmP Q) q (.pointer (some ⟨m.x, 0, none⟩)) = pmP (upd Q q m) := by
  funext j; unfold pmP upd; split <;> rfl
theorem pmP_same (Q : Nat → PnM) (q : Nat) (m : PnM) (h : m.x = (Q q).x) : pmP (upd Q q m) = pmP Q := by
  funext j; unfold pmP upd
  split
  · rename_i e; subst e; rw [h]
  · rfl
def cW (c : Int) : Int := eWord 0 0 c 0 false true
theorem cW_may {c : Int} (h : 0 ≤ c ∧ c ≤ 7) : eMay 0 0 c 0 false true = true := by unfold eMay; simp; omega
theorem cW_inj {c k : Int} (hc : 0 ≤ c ∧ c ≤ 7) (hk : 0 ≤ k ∧ k ≤ 7) (h : cW c = cW k) : c = k := by
  have h1 := (un_pack (cW_may hc)).2.2.2.1
  have h2 := (un_pack (cW_may hk)).2.2.2.1
  unfold cW at h
  rw [h, h2] at h1
  exact h1.symm
def MOk (q : PnM) : Prop := q.nx = 1 ∨ (q.nx = 2 ∧ ∃ k, 0 ≤ k ∧ k ≤ 7 ∧ 0 ≤ k + pnBy q.un ∧ k + pnBy q.un ≤ 7 ∧ q.wd = cW k ∧ q.tw = cW (k + pnBy q.un))
theorem cas_cW (c k : Int) : wCas (p14V c) 5 k = (c == k) := by
  show (true && (c == k)) = _
  simp
theorem cnt_step {c : Int} {q : PnM} (hc : 0 ≤ c ∧ c ≤ 7) (h : MOk q) :
    ∃ nx' wd' tw' code c', ∃ dn : Bool, pinStep 1 1 0 0 false q.un (p14V (cW c)) q.nx q.wd q.tw = ⟨p14V (cW c'), nx', wd', tw', code, dn⟩ ∧ 0 ≤ c' ∧ c' ≤ 7 ∧ c' = (if (dn && code == 0) = true then c + pnBy q.un else c) ∧ (dn = false → MOk ⟨q.x, q.un, nx', wd', tw'⟩) := by
  obtain ⟨x, un, nx, wd, tw⟩ := q
  rcases h with h | ⟨h, k, k0, k7, b0, b7, hw, ht⟩
  · simp only at h
    subst h
    have hm := cW_may hc
    have fr : fresh (cW c) 0 = true := by unfold cW; rw [fresh_word hm]; rfl
    have fl : uL (cW c) = false := lock_word hm
    have tn : pnTurn un (cW c) = _ := pn_turn (un := un) hm rfl false rfl
    by_cases hk : pnCode c true false un = 0
    · rw [if_pos hk] at tn
      refine ⟨2, cW c, cW (c + pnBy un), 0, c, false, ?_, hc.1, hc.2, rfl, fun _ => .inr ⟨rfl, c, hc.1, hc.2, ?_, ?_, rfl, rfl⟩⟩
      · unfold pinStep
        simp only [lOf110, p14V_at, fr, fl, tn]
        simp [cW]
      · have := (eMay_of (pnTurn_two hm hk)).2.2.2.2.1; exact this
      · have := (eMay_of (pnTurn_two hm hk)).2.2.2.2.2.1; exact this
    · rw [if_neg hk] at tn
      refine ⟨0, cW c, tw, pnCode c true false un, c, true, ?_, hc.1, hc.2, ?_, fun h => by cases h⟩
      · unfold pinStep
        simp only [lOf110, p14V_at, fr, fl, tn]
        simp [hk]
      · have : (true && pnCode c true false un == 0) = false := by simpa using hk
        rw [this]; rfl
  · simp only at h hw ht b0 b7
    subst h hw ht
    by_cases e : c = k
    · subst e
      refine ⟨0, cW c, cW (c + pnBy un), 0, c + pnBy un, true, ?_, b0, b7, by simp, fun h => by cases h⟩
      unfold pinStep
      simp only [lOf110, p14V_cas, p14V_casPut]
      simp
    · refine ⟨1, cW k, cW (k + pnBy un), 0, c, false, ?_, hc.1, hc.2, by simp, fun _ => .inl rfl⟩
      have : (cW c == cW k) = false := by
        rw [beq_eq_false_iff_ne]; exact fun he => e (cW_inj hc ⟨k0, k7⟩ he)
      unfold pinStep
      simp only [lOf110, cas_cW, this]
      simp
theorem cW_un {c : Int} (h : 0 ≤ c ∧ c ≤ 7) : uO (cW c) = 0 ∧ uG (cW c) = 0 ∧ uP (cW c) = c ∧ uU (cW c) = 0 ∧ uL (cW c) = false ∧ uA (cW c) = true ∧ eOk (cW c) = 0 := by
  obtain ⟨i, x1, x2, x3, x4, x5, x6⟩ := un_pack (cW_may h)
  obtain ⟨u1, u2, u3, u4, u5, u6, u7⟩ := u_yes i
  unfold cW
  exact ⟨u1.trans x1, u2.trans x2, u3.trans x3, u4.trans x4, u5.trans x5, u6.trans x6, u7⟩
theorem fam3_at {a b c : Grp} {F : Nat → Grp} {q : Nat} (h : q < 3) : (a :: b :: c :: fam F 3)[q + 3]? = some (F q) := by simpa using fam_get F h
theorem pin_Step_fam {B : Nat} {W w : World} {a b c : Grp} {p bw bb : Nat} {ws bs : List Int} {n t s sl ge : Int} {Q : Nat → PnM} {q : Nat} (hq : q < 3) (hO : Owns B W w (memG p bw bb ws bs n :: a :: b :: c :: fam (pmF t s sl ge false Q) 3)) (hL : lOk t s) (hl : ws.length ≤ 4096)
    {ws' : List Int} {nx' wd' tw' code : Int} {dn : Bool} (hr : pinStep t s sl ge false (Q q).un ws (Q q).nx (Q q).wd (Q q).tw = ⟨ws', nx', wd', tw', code, dn⟩) :
    Calls Try.prog 28 #[.pointer (some ⟨(Q q).x, 0, none⟩), memI p] w fun e w' => e = .returned (resV (code, 0) dn) ∧ ∃ m, Owns B W w' (memG p bw bb ws' bs m :: a :: b :: c :: fam (pmF t s sl ge false (upd Q q ⟨(Q q).x, (Q q).un, nx', wd', tw'⟩)) 3) := by
  have h1 := hO.pull (q + 3) (fam3_at hq)
  have h2 := pin_Step h1 hL hl
  rw [hr] at h2
  refine h2.mono ?_
  rintro e w' ⟨he, m, h3⟩
  refine ⟨he, m, ?_⟩
  have h4 := Owns.push (L := a :: b :: c :: fam (pmF t s sl ge false Q) 3) (q + 3) (by simp [fam_len]; omega) h3
  rw [List.set_cons_succ, List.set_cons_succ, List.set_cons_succ, fam_set] at h4
  rw [← pmF_upd]
  exact h4
theorem cell_alloc {w : World} {a : Addr} {v : Value} (o : Obj) (h : w.cell? a = some v) : (w.alloc o).cell? a = some v := cell_below (below_alloc w o) h
/-- what a call makes stands ahead of what there was. -/
theorem Owns.app {B : Nat} {W w w' : World} {G H : List Grp} (h : Owns B W w G) (k : Owns w.heap.size w w' H) : Owns B W w' (H ++ G) := by
  have hv := h.via k.1
  refine ⟨hv.1, hv.2.1, ?_, ?_⟩
  · rw [List.flatten_append, List.map_append, List.nodup_append]
    refine ⟨k.2.2.1, h.2.2.1, ?_⟩
    intro n hn m hm
    obtain ⟨x, hx, rfl⟩ := List.mem_map.1 hn
    obtain ⟨y, hy, rfl⟩ := List.mem_map.1 hm
    have h1 := (k.2.2.2 x hx).1
    have h2 := h.all_lt y hy
    omega
  · intro x hx
    rw [List.flatten_append, List.mem_append] at hx
    rcases hx with hx | hx
    · exact ⟨Nat.le_trans h.2.1 (k.2.2.2 x hx).1, (k.2.2.2 x hx).2⟩
    · exact hv.2.2.2 x hx
theorem pin_New_app {B : Nat} {W w : World} {G : List Grp} (a s t h : Int) (l : -9223372036854775808 ≤ h) (u : h ≤ 9223372036854775807) (hO : Owns B W w G) : Calls Try.prog 25 #[.agg #[.int .i64 a, .int .i64 s, .int .i64 t], .int .i64 h] w fun e w' =>
    ∃ x, e = .returned (.pointer (some ⟨x, 0, none⟩)) ∧ Below w.heap.size w w' ∧ Owns B W w' (pnNews a s t h false x :: G) :=
  (pin_New a s t h l u (Owns.nil w)).mono fun _ _ ⟨x, he, h⟩ => ⟨x, he, h.1, hO.app h⟩
theorem law14_one_app {B : Nat} {W w : World} {G : List Grp} (a s t h : Int) (un : Bool) (l : -9223372036854775808 ≤ h) (u : h ≤ 9223372036854775807) (hO : Owns B W w G) : Calls Try.prog 30 #[.agg #[.int .i64 a, .int .i64 s, .int .i64 t], .int .i64 h, .bool un] w fun e w' =>
    ∃ x, e = .returned (.pointer (some ⟨x, 0, none⟩)) ∧ Below w.heap.size w w' ∧ Owns B W w' (pnNews a s t h un x :: G) :=
  (law14_one a s t h un l u (Owns.nil w)).mono fun _ _ ⟨x, he, h⟩ => ⟨x, he, h.1, hO.app h⟩
def pmU (Q : Nat → PnM) : Nat → Value := fun j => .bool (Q j).un
theorem pmU_upd (Q : Nat → PnM) (q : Nat) (m : PnM) : upd (pmU Q) q (.bool m.un) = pmU (upd Q q m) := by
  funext j; unfold pmU upd; split <;> rfl
theorem pmU_same (Q : Nat → PnM) (q : Nat) (m : PnM) (h : m.un = (Q q).un) : pmU (upd Q q m) = pmU Q := by
  funext j; unfold pmU upd
  split
  · rename_i e; subst e; rw [h]
  · rfl
theorem upd_twice {α : Type} (E : Nat → α) (t : Nat) (g g' : α) : upd (upd E t g) t g' = upd E t g' := by
  funext j; unfold upd; split <;> rfl
theorem pmF_twice (t s sl ge : Int) (st : Bool) (Q : Nat → PnM) (q : Nat) (m m' : PnM) : upd (pmF t s sl ge st (upd Q q m)) q (pmG t s sl ge st m') = pmF t s sl ge st (upd Q q m') := by
  rw [pmF_upd, upd_twice]
theorem MOk_upd {Q : Nat → PnM} (h : ∀ j, MOk (Q j)) (q : Nat) {m : PnM} (hm : MOk m) : ∀ j, MOk (upd Q q m j) := by
  intro j; unfold upd; split
  · exact hm
  · exact h j
end Go.Proofs.Ytmbkkpeepbfgoaa
