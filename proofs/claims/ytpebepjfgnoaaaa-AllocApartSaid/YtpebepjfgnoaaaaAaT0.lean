/- Machines of alloc at any place; the alloc law AllocApart: the cases that are soon over. -/
import Derived.RegionTactic
import Derived.BigRegion
import Derived.Deep.RegionHeld3
import Derived.Outline
import Derived.LoopTactic
import Derived.Deep.DeepCutAuto
import Derived.Test.YtpebepjfgnoaaaaAaP5
import Derived.Test.YtpebepjfgnoaaaaAlLv
import Derived.Test.YtpebepjfgnoaaaaArr
import Derived.Test.YtpebepjfgnoaaaaSsQ
import Derived.Test.YtpebepjfgnoaaaaFlat
namespace Go.Proofs.Ytpebepjfgnoaaaa
set_option linter.unusedVariables false
set_option linter.unusedSimpArgs false
open Go.RowKit
structure AaM where
  x : Nat
  c : AlC
  v : AlV
def aaF (M : Nat → AaM) : Nat → Grp := fun j => alG (M j).x (M j).c (M j).v
def aaR (M : Nat → AaM) : Nat → Value := fun j => .pointer (some ⟨(M j).x, 0, none⟩)
def aaH (M : Nat → AaM) : Nat → Value := fun j => .bool (M j).v.cl
def aaV (M : Nat → AaM) : Nat → AlV := fun j => (M j).v
def aaB (M : Nat → AaM) : Nat → Int := fun j => (M j).c.by'
theorem aaF_upd (M : Nat → AaM) (q : Nat) (m : AaM) : upd (aaF M) q (alG m.x m.c m.v) = aaF (upd M q m) := by funext j; unfold aaF upd; split <;> rfl
theorem aaR_upd (M : Nat → AaM) (q : Nat) (m : AaM) : upd (aaR M) q (.pointer (some ⟨m.x, 0, none⟩)) = aaR (upd M q m) := by funext j; unfold aaR upd; split <;> rfl
theorem aaH_upd (M : Nat → AaM) (q : Nat) (m : AaM) : upd (aaH M) q (.bool m.v.cl) = aaH (upd M q m) := by funext j; unfold aaH upd; split <;> rfl
theorem aaV_upd (M : Nat → AaM) (q : Nat) (m : AaM) : aaV (upd M q m) = upd (aaV M) q m.v := by funext j; unfold aaV upd; split <;> rfl
theorem aaB_upd (M : Nat → AaM) (q : Nat) (m : AaM) : aaB (upd M q m) = upd (aaB M) q m.c.by' := by funext j; unfold aaB upd; split <;> rfl
theorem aaR_same (M : Nat → AaM) (q : Nat) (m : AaM) (h : m.x = (M q).x) : aaR (upd M q m) = aaR M := by
  funext j; unfold aaR upd; split
  · rename_i e; subst e; rw [h]
  · rfl
theorem aa_stepW {B : Nat} {W w : World} {p bw bb : Nat} {ws bs : List Int} {n : Int} {M : Nat → AaM} {q : Nat} {c A S O K H R : Grp} (hq : q < 3) (hO : Owns B W w (memG p bw bb ws bs n :: c :: A :: S :: O :: K :: H :: R :: fam (aaF M) 3)) (hL : lOk (M q).c.t (M q).c.s) (hl : ws.length ≤ 4096) (hbl : bs.length ≤ 4096) (hv : AlIn (M q).v) (r : AlR) (hr : alStep (M q).c ws bs (M q).v = r) :
    Calls Try.prog 40 #[.pointer (some ⟨(M q).x, 0, none⟩), memI p] w fun e w' => e = .returned (resV (r.code, r.rn) r.done) ∧ ∃ n' y, Owns B W w' (memG p bw bb r.ws r.bs n' :: c :: A :: S :: O :: K :: H :: R :: fam (aaF (upd M q ⟨(M q).x, { (M q).c with gp := y }, r.v⟩)) 3) := by
  refine (atIn (Φ := fun e m' k' g' => e = .returned (resV (r.code, r.rn) r.done) ∧ ∃ n' y, m' = memG p bw bb r.ws r.bs n' ∧ k' = c ∧ g' = alG (M q).x { (M q).c with gp := y } r.v) (q + 6) hO (g := alG (M q).x (M q).c (M q).v) (by simp only [List.getElem?_cons_succ]; exact fam_get _ hq) (fun R h => (al_Step h.swap1 hL hl hbl hv r hr).mono ?_)).mono ?_
  · rintro e w' ⟨he, n', y, hO'⟩
    exact ⟨_, _, _, ⟨he, n', y, rfl, rfl, rfl⟩, hO'.swap1⟩
  · rintro e w' ⟨m', k', g', ⟨he, n', y, rfl, rfl, rfl⟩, hO'⟩
    refine ⟨he, n', y, ?_⟩
    simp only [List.set_cons_succ] at hO'
    rw [fam_set] at hO'
    rw [← aaF_upd]
    exact hO'
theorem aa_runW {B : Nat} {W w : World} {p bw bb : Nat} {ws bs : List Int} {n : Int} {M : Nat → AaM} {q : Nat} {c A S O K H R : Grp} (hq : q < 3) (hO : Owns B W w (memG p bw bb ws bs n :: c :: A :: S :: O :: K :: H :: R :: fam (aaF M) 3)) (hL : lOk (M q).c.t (M q).c.s) (hl : ws.length ≤ 4096) (hbl : bs.length ≤ 4096) (hv : AlIn (M q).v) (r : AlQ × (Int × Int) × Int) (hr : mRun (alF1 (M q).c) 1000 1000 ⟨ws, bs, (M q).v⟩ = r) :
    Calls Try.prog 42 #[.pointer (some ⟨p, 0, none⟩), .pointer (some ⟨(M q).x, 0, none⟩), .int .i64 1000] w fun e w' => e = .returned (resN r.2.1 r.2.2) ∧ ∃ n' y, Owns B W w' (memG p bw bb r.1.ws r.1.bs n' :: c :: A :: S :: O :: K :: H :: R :: fam (aaF (upd M q ⟨(M q).x, { (M q).c with gp := y }, r.1.v⟩)) 3) := by
  refine (atIn (Φ := fun e m' k' g' => e = .returned (resN r.2.1 r.2.2) ∧ ∃ n' y, m' = memG p bw bb r.1.ws r.1.bs n' ∧ k' = c ∧ g' = alG (M q).x { (M q).c with gp := y } r.1.v) (q + 6) hO (g := alG (M q).x (M q).c (M q).v) (by simp only [List.getElem?_cons_succ]; exact fam_get _ hq) (fun R h => (alloc_run 1000 (by decide) h.swap1 hL hl hbl hv r hr).mono ?_)).mono ?_
  · rintro e w' ⟨he, n', y, hO'⟩
    exact ⟨_, _, _, ⟨he, n', y, rfl, rfl, rfl⟩, hO'.swap1⟩
  · rintro e w' ⟨m', k', g', ⟨he, n', y, rfl, rfl, rfl⟩, hO'⟩
    refine ⟨he, n', y, ?_⟩
    simp only [List.set_cons_succ] at hO'
    rw [fam_set] at hO'
    rw [← aaF_upd]
    exact hO'
def mks (n k : Nat) : List Int := setW (fun j => if j < k then 1 else 0) n
theorem mks_zero (n : Nat) : List.replicate n 0 = mks n 0 := by
  unfold mks setW
  rw [List.map_congr_left (g := fun _ => (0 : Int)) (fun j _ => by simp)]
  rw [List.map_const', List.length_range]
theorem mks_step {n k : Nat} (h : k < n) : (mks n k).set k 1 = mks n (k + 1) := by
  unfold mks setW
  apply List.ext_getElem?
  intro j
  rw [List.getElem?_set]
  by_cases hj : k = j
  · subst hj; simp [h]
  · rw [if_neg hj]
    by_cases hjn : j < n
    · simp only [List.getElem?_map, List.getElem?_range hjn, Option.map_some]
      have : (j < k ↔ j < k + 1) := by omega
      simp [this]
    · rw [List.getElem?_eq_none (by simp; omega), List.getElem?_eq_none (by simp; omega)]
theorem mks_get {n k j : Nat} (h : j < n) : (intArr (mks n k))[j]? = some (.int .i64 (if j < k then 1 else 0)) := by
  refine (intArr_get _ j (by unfold mks; rw [setW_len]; exact h)).trans ?_
  unfold mks; rw [setW_get _ _ _ h]
theorem made_intsA (n : Nat) (h1 : n ≤ 4096) (w : World) : (Instr.makeSlice 33 (.int .i64 n) (.int .i64 n)).run Try.prog w = .ok (.slice (some ⟨w.heap.size, 0, none⟩) n n) (w.alloc (.cells (intArr (mks n 0)) 3)) := by
  have := made_ints (n : Int) w (by omega) (by omega)
  rwa [Int.toNat_natCast, mks_zero] at this
def hdl (sl : Int) : Int := (hMake sl 0).1
theorem hdl_inj {a b : Int} (a0 : 0 ≤ a) (a1 : a < 64) (b0 : 0 ≤ b) (b1 : b < 64) (h : hdl a = hdl b) : a = b := by
  unfold hdl at h
  rw [hMake_ok ⟨a0, a1, by omega, by omega⟩, hMake_ok ⟨b0, b1, by omega, by omega⟩] at h
  simp only at h; omega
theorem hRound_bdA (n : Int) : 0 ≤ (hRound n).1 ∧ (hRound n).1 ≤ 256 := by
  by_cases h : 1 ≤ n ∧ n ≤ 256
  · rw [hRound_ok h]; simp only; omega
  · rw [hRound_bad h]; simp
theorem alV1_fresh : Fresh (alV0 1) := ⟨.inr rfl, rfl, rfl, rfl, rfl, rfl⟩
theorem alV00_fresh : Fresh (alV0 0) := ⟨.inl rfl, rfl, rfl, rfl, rfl, rfl⟩
theorem aa_pack {B : Nat} {W w : World} {T1 : TypeId} {x0 x1 x2 : Nat} {c0 c1 c2 : AlC} {m c : Grp} (hO : Owns B W w [alG x2 c2 (alV0 1), alG x1 c1 (alV0 1), alG x0 c0 (alV0 1), m, c]) :
    ∃ M : Nat → AaM, (∀ j, (M j).v = alV0 1) ∧ (∀ P : AlC → Prop, P c0 ∧ P c1 ∧ P c2 → ∀ j, P (M j).c) ∧ Owns B W (w.alloc (.cells #[.pointer (some ⟨x0, 0, none⟩), .pointer (some ⟨x1, 0, none⟩), .pointer (some ⟨x2, 0, none⟩)] T1)) (m :: c :: [(w.heap.size, Obj.cells (rowA (aaR M) 3) T1 (0, 0))] :: fam (aaF M) 3) := by
  refine ⟨fun j => ⟨if j = 0 then x0 else if j = 1 then x1 else x2, if j = 0 then c0 else if j = 1 then c1 else c2, alV0 1⟩, fun _ => rfl, ?_, ?_⟩
  · rintro P ⟨h0, h1, h2⟩ j
    dsimp only
    split
    · exact h0
    · split
      · exact h1
      · exact h2
  have h := hO.alloc (.cells #[.pointer (some ⟨x0, 0, none⟩), .pointer (some ⟨x1, 0, none⟩), .pointer (some ⟨x2, 0, none⟩)] T1)
  show Owns B W _ (m :: c :: [(w.heap.size, Obj.cells #[.pointer (some ⟨x0, 0, none⟩), .pointer (some ⟨x1, 0, none⟩), .pointer (some ⟨x2, 0, none⟩)] T1 (0, 0))] :: [alG x0 c0 (alV0 1), alG x1 c1 (alV0 1), alG x2 c2 (alV0 1)])
  exact h.flat (by (classical exact List.perm_iff_count.2 (fun x => by simp only [List.flatten_cons, List.flatten_nil, List.count_append, List.append_nil, List.count_nil]; omega)))
theorem upd_updA {α : Type} (Q : Nat → α) (q : Nat) (a b : α) : upd (upd Q q a) q b = upd Q q b := by funext j; unfold upd; split <;> rfl
theorem aa_new {B : Nat} {W w : World} {M : Nat → AaM} {q x' ab hb yy tk : Nat} {T1 T2 : TypeId} {mg c S O K R : Grp} {a s t n : Int} {v : AlV} (hq : q < 3) (hcl : v.cl = false) (hO : Owns B W w (alG x' (alC0 a s t n tk) (alV0 1) :: mg :: c :: [(ab, Obj.cells (rowA (aaR (upd M q ⟨(M q).x, { (M q).c with gp := yy }, v⟩)) 3) T1 (0, 0))] :: S :: O :: K :: [(hb, Obj.cells (rowA (aaH (upd M q ⟨(M q).x, { (M q).c with gp := yy }, v⟩)) 3) T2 (0, 0))] :: R :: fam (aaF (upd M q ⟨(M q).x, { (M q).c with gp := yy }, v⟩)) 3)) :
    Owns B W (w.setCell ⟨ab, q, none⟩ (.pointer (some ⟨x', 0, none⟩))) (mg :: c :: [(ab, Obj.cells (rowA (aaR (upd M q ⟨x', alC0 a s t n tk, alV0 1⟩)) 3) T1 (0, 0))] :: S :: O :: K :: [(hb, Obj.cells (rowA (aaH (upd M q ⟨x', alC0 a s t n tk, alV0 1⟩)) 3) T2 (0, 0))] :: R :: fam (aaF (upd M q ⟨x', alC0 a s t n tk, alV0 1⟩)) 3) := by
  have h := rowA_put hO 3 rfl q (.pointer (some ⟨x', 0, none⟩))
  simp only [List.set_cons_succ, List.set_cons_zero] at h
  have h2 := h.place (q + 8)
  simp only [List.set_cons_succ] at h2
  rw [fam_set] at h2
  have e1 := aaF_upd (upd M q ⟨(M q).x, { (M q).c with gp := yy }, v⟩) q ⟨x', alC0 a s t n tk, alV0 1⟩
  rw [upd_updA] at e1
  have e2 := aaR_upd (upd M q ⟨(M q).x, { (M q).c with gp := yy }, v⟩) q ⟨x', alC0 a s t n tk, alV0 1⟩
  rw [upd_updA] at e2
  have e3 : aaH (upd M q ⟨(M q).x, { (M q).c with gp := yy }, v⟩) = aaH (upd M q ⟨x', alC0 a s t n tk, alV0 1⟩) := by
    funext j; unfold aaH upd; split
    · dsimp only; rw [hcl]; rfl
    · rfl
  dsimp only at e1 e2
  rw [e1, e2, e3] at h2
  exact h2
theorem RowOk.formA {v : Value} {xs cur : List Value} (h : RowOk v xs cur) : ∃ (pa : Option Addr) (cap : Nat), v = .slice pa xs.length cap ∧ (xs = [] ∨ ∃ g, pa = some ⟨g, 0, none⟩ ∧ ∀ (j : Nat) (u : Value), xs[j]? = some u → cur.toArray[j]? = some u) := by
  rcases h with ⟨rfl, rfl, -⟩ | ⟨g, cap, rfl, h1, h2, h3, h4⟩
  · exact ⟨none, 0, rfl, .inl rfl⟩
  · refine ⟨_, _, rfl, .inr ⟨g, rfl, fun j u hj => ?_⟩⟩
    rw [← h4, List.getElem?_take] at hj
    split at hj
    · simpa using hj
    · cases hj
theorem mRun_bs (c : AlC) (most : Nat) : ∀ (k : Nat) (q : AlQ), AlIn q.v → (mRun (alF1 c) most k q).1.bs.length = q.bs.length
  | 0, q, _ => rfl
  | k + 1, q, h => by
    have e := (alStep_len c q.ws q.bs q.v h).2
    rw [mRun]
    split
    · exact e
    · rw [mRun_bs c most k _ (alStep_in c q.ws q.bs q.v h)]; exact e
theorem aa_pack2 {B : Nat} {W w : World} {he ow sz m c ar : Grp} {R : List Grp} (hO : Owns B W w (he :: ow :: sz :: m :: c :: ar :: R)) : Owns B W w (m :: c :: ar :: sz :: ow :: [] :: he :: [] :: R) := hO.flat (by (classical exact List.perm_iff_count.2 (fun x => by simp only [List.flatten_cons, List.flatten_nil, List.count_append, List.append_nil, List.count_nil]; omega)))
set_option maxRecDepth 100000 in
set_option maxHeartbeats 8000000 in
theorem AllocApart_far (a s t : Int) (v : Value) (xs : List (List Value)) (W : World) (hs : SArg W [true, true, true, true] v xs) (hn : ¬ (xs.length ≤ 150 ∧ a ≤ 200)) : Calls Try.prog 7 #[.agg #[.int .i64 a, .int .i64 s, .int .i64 t], v] W fun e w' => e = .returned (.bool true) ∧ Below W.heap.size W w' := by
  obtain ⟨pa, cap, rfl, hl, hx⟩ := hs.form
  clear hx hs
  have hO := (Owns.nil W).more (.cells #[.int .i64 a, .int .i64 s, .int .i64 t] 23)
  by_cases h1 : xs.length ≤ 150
  · have h2 : decide ((150 : Int) < (xs.length : Int)) = false := by rw [decide_eq_false_iff_not]; omega
    have h3 : decide ((200 : Int) < a) = true := by rw [decide_eq_true_iff]; omega
    clear h1 hn
    go_enter Try.func7, Try.ntmps7
    go_wp2_with (go_at_call 37; refine (law11_live _).mono ?_; rintro e w2 ⟨rfl, hb⟩; have hO := hO.via hb)
    go_ret
    exact ⟨rfl, hO.below⟩
  · have h2 : decide ((150 : Int) < (xs.length : Int)) = true := by rw [decide_eq_true_iff]; omega
    clear h1 hn
    go_enter Try.func7, Try.ntmps7
    go_wp2_with (go_at_call 37; refine (law11_live _).mono ?_; rintro e w2 ⟨rfl, hb⟩; have hO := hO.via hb)
    go_ret
    exact ⟨rfl, hO.below⟩
set_option maxRecDepth 100000 in
set_option maxHeartbeats 8000000 in
theorem AllocApart_no (a s t : Int) (v : Value) (xs : List (List Value)) (W : World) (hs : SArg W [true, true, true, true] v xs) (hn : xs.length ≤ 150 ∧ a ≤ 200) (hc : cfgOk a s t = false) : Calls Try.prog 7 #[.agg #[.int .i64 a, .int .i64 s, .int .i64 t], v] W fun e w' => e = .returned (.bool true) ∧ Below W.heap.size W w' := by
  obtain ⟨pa, cap, rfl, hl, hx⟩ := hs.form
  have h2 : decide ((150 : Int) < (xs.length : Int)) = false := by rw [decide_eq_false_iff_not]; omega
  have h3 : decide ((200 : Int) < a) = false := by rw [decide_eq_false_iff_not]; omega
  have CK := Lib.hid hc
  clear hx hs hn hc
  have hO := (Owns.nil W).more (.cells #[.int .i64 a, .int .i64 s, .int .i64 t] 23)
  go_enter Try.func7, Try.ntmps7
  go_wp2_with fail
  generalize W.alloc (.cells #[.int .i64 a, .int .i64 s, .int .i64 t] 23) = w0 at hO ⊢
  refine (law11_start_no a s t _ CK.out).mono ?_; rintro e w1 ⟨rfl, hb⟩; have hO := hO.via hb
  have a0 : _ = some (Value.int .i64 a) := hO.cell 0 0 rfl rfl 0
  have a1 : _ = some (Value.int .i64 s) := hO.cell 0 0 rfl rfl 1
  have a2 : _ = some (Value.int .i64 t) := hO.cell 0 0 rfl rfl 2
  go_wp2_with first
    | (go_at_call 37; refine (law11_live _).mono ?_; rintro e w2 ⟨rfl, hb⟩; have hO := hO.via hb)
    | (go_at_call 21; refine (ref06_May _ _ _ _).mono ?_; rw [CK.out]; rintro e w4 ⟨rfl, hb⟩; have hO := hO.via hb)
  go_ret
  exact ⟨rfl, hO.below⟩
end Go.Proofs.Ytpebepjfgnoaaaa
