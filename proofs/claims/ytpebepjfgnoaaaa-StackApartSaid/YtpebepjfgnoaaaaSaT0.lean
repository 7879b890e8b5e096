/- The stack law StackApart: lemmas, and the cases that are soon over. -/
import Derived.RegionTactic
import Derived.BigRegion
import Derived.Deep.RegionHeld3
import Derived.Outline
import Derived.LoopTactic
import Derived.Deep.DeepCutAuto
import Derived.Test.YtpebepjfgnoaaaaSaW
import Derived.Test.YtpebepjfgnoaaaaStL
import Derived.Test.YtpebepjfgnoaaaaFlat
namespace Go.Proofs.Ytpebepjfgnoaaaa
set_option linter.unusedVariables false
set_option linter.unusedSimpArgs false
open Go.RowKit
def saE (t s : Int) (Q : Nat → SaM) : Nat → Grp := fun j => machG 113 (Q j).p.x t s (Q j).p.nx (Q j).p.sl (Q j).p.wd (Q j).p.tw
def sdG (t s : Int) (m : SaM) : Grp := match m.q with | none => [] | some q => machG 114 q.x t s q.nx q.sl q.wd q.tw
def saD (t s : Int) (Q : Nat → SaM) : Nat → Grp := fun j => sdG t s (Q j)
def sdP (m : SaM) : Value := match m.q with | none => .pointer none | some q => .pointer (some ⟨q.x, 0, none⟩)
def saA (Q : Nat → SaM) : Nat → Value := fun j => .pointer (some ⟨(Q j).p.x, 0, none⟩)
def saP (Q : Nat → SaM) : Nat → Value := fun j => sdP (Q j)
theorem saE_upd (t s : Int) (Q : Nat → SaM) (q : Nat) (m : SaM) : upd (saE t s Q) q (machG 113 m.p.x t s m.p.nx m.p.sl m.p.wd m.p.tw) = saE t s (upd Q q m) := by funext j; unfold saE upd; split <;> rfl
theorem saD_upd (t s : Int) (Q : Nat → SaM) (q : Nat) (m : SaM) : upd (saD t s Q) q (sdG t s m) = saD t s (upd Q q m) := by funext j; unfold saD upd; split <;> rfl
theorem saA_upd (Q : Nat → SaM) (q : Nat) (m : SaM) : upd (saA Q) q (.pointer (some ⟨m.p.x, 0, none⟩)) = saA (upd Q q m) := by funext j; unfold saA upd; split <;> rfl
theorem saP_upd (Q : Nat → SaM) (q : Nat) (m : SaM) : upd (saP Q) q (sdP m) = saP (upd Q q m) := by funext j; unfold saP upd; split <;> rfl
theorem saE_same (t s : Int) (Q : Nat → SaM) (q : Nat) (m : SaM) (h : m.p = (Q q).p) : saE t s (upd Q q m) = saE t s Q := by
  funext j; unfold saE upd; split
  · rename_i e; subst e; rw [h]
  · rfl
theorem saD_same (t s : Int) (Q : Nat → SaM) (q : Nat) (m : SaM) (h : m.q = (Q q).q) : saD t s (upd Q q m) = saD t s Q := by
  funext j; unfold saD upd; split
  · rename_i e; subst e; unfold sdG; rw [h]
  · rfl
theorem saA_same (Q : Nat → SaM) (q : Nat) (m : SaM) (h : m.p.x = (Q q).p.x) : saA (upd Q q m) = saA Q := by
  funext j; unfold saA upd; split
  · rename_i e; subst e; rw [h]
  · rfl
theorem saP_same (Q : Nat → SaM) (q : Nat) (m : SaM) (h : sdP m = sdP (Q q)) : saP (upd Q q m) = saP Q := by
  funext j; unfold saP upd; split
  · rename_i e; subst e; rw [h]
  · rfl
theorem Owns.flatQ {B : Nat} {W w : World} {G G' : List Grp} (h : Owns B W w G) (hp : G.flatten.Perm G'.flatten) : Owns B W w G' :=
  ⟨h.1, h.2.1, (hp.map _).nodup_iff.1 h.2.2.1, fun x hx => h.2.2.2 x (hp.mem_iff.2 hx)⟩
section
variable {B : Nat} {W w : World} {p bw bb : Nat} {ws bs : List Int} {n t s : Int} {Q : Nat → SaM} {q : Nat} {c l A P K : Grp}
theorem sa_popStep (hq : q < 4) (hO : Owns B W w (memG p bw bb ws bs n :: c :: l :: A :: P :: K :: (fam (saE t s Q) 4 ++ fam (saD t s Q) 4))) (hL : lOk t s) (hl : ws.length ≤ 4096) (r : StepR) (hr : popStep t s ws (Q q).p.nx (Q q).p.sl (Q q).p.wd (Q q).p.tw = r) :
    Calls Try.prog 33 #[.pointer (some ⟨(Q q).p.x, 0, none⟩), memI p] w fun e w' => e = .returned (.tuple #[.int .i64 r.r, .int .i64 r.e, .bool r.done]) ∧ ∃ n', Owns B W w' (memG p bw bb r.ws bs n' :: c :: l :: A :: P :: K :: (fam (saE t s (upd Q q ⟨⟨(Q q).p.x, r.nx, r.sl, r.wd, r.to⟩, (Q q).q⟩)) 4 ++ fam (saD t s (upd Q q ⟨⟨(Q q).p.x, r.nx, r.sl, r.wd, r.to⟩, (Q q).q⟩)) 4)) := by
  have h0 := pop_Step 0 (q + 6) (by omega) hO rfl (fA_get hq) hL hl
  rw [hr] at h0
  refine h0.mono ?_
  rintro e w' ⟨he, n', hO'⟩
  refine ⟨he, n', ?_⟩
  rw [List.set_cons_zero, fA_set hq] at hO'
  rw [saD_same t s Q q (⟨⟨(Q q).p.x, r.nx, r.sl, r.wd, r.to⟩, (Q q).q⟩ : SaM) rfl, ← saE_upd]
  exact hO'
theorem sa_pushStep {m : SaQ} (hq : q < 4) (hm : (Q q).q = some m) (hO : Owns B W w (memG p bw bb ws bs n :: c :: l :: A :: P :: K :: (fam (saE t s Q) 4 ++ fam (saD t s Q) 4))) (hL : lOk t s) (hl : ws.length ≤ 4096) (r : StepR) (hr : pushStep t s ws m.nx m.sl m.wd m.tw = r) :
    Calls Try.prog 32 #[.pointer (some ⟨m.x, 0, none⟩), memI p] w fun e w' => e = .returned (.tuple #[.int .i64 r.e, .bool r.done]) ∧ ∃ n', Owns B W w' (memG p bw bb r.ws bs n' :: c :: l :: A :: P :: K :: (fam (saE t s (upd Q q ⟨(Q q).p, some ⟨m.x, r.nx, r.sl, r.wd, r.to⟩⟩)) 4 ++ fam (saD t s (upd Q q ⟨(Q q).p, some ⟨m.x, r.nx, r.sl, r.wd, r.to⟩⟩)) 4)) := by
  have e0 : saD t s Q q = machG 114 m.x t s m.nx m.sl m.wd m.tw := by unfold saD sdG; rw [hm]
  have h0 := push_Step 0 (q + 4 + 6) (by omega) hO rfl ((fC_get hq).trans (by rw [e0])) hL hl
  rw [hr] at h0
  refine h0.mono ?_
  rintro e w' ⟨he, n', hO'⟩
  refine ⟨he, n', ?_⟩
  rw [List.set_cons_zero, fC_set] at hO'
  rw [saE_same t s Q q (⟨(Q q).p, some ⟨m.x, r.nx, r.sl, r.wd, r.to⟩⟩ : SaM) rfl, ← saD_upd]
  exact hO'
end
theorem info_push : (Try.prog.info? 61).map (fun i => (i.zero, i.size, i.bytes)) = some (some (.pointer none), 1, 8) := by kernel_rfl
theorem made_pushes (w : World) : (Instr.makeSlice 60 (.int .i64 4) (.int .i64 4)).run Try.prog w = .ok (.slice (some ⟨w.heap.size, 0, none⟩) 4 4) (w.alloc (.cells (rowA (fun _ => .pointer none) 4) 61)) :=
  made_row 60 61 (.pointer none) 8 Try.underlying60 info_push rfl (by decide) 4 4 rfl (by decide) w
theorem RowOk.form {v : Value} {xs cur : List Value} (h : RowOk v xs cur) : ∃ pa cap, v = .slice pa xs.length cap := by
  rcases h with ⟨rfl, rfl, -⟩ | ⟨g, cap, rfl, -⟩
  · exact ⟨none, 0, rfl⟩
  · exact ⟨_, _, rfl⟩
theorem stack_NewPop_app {B : Nat} {W w : World} {G : List Grp} (t s : Int) (hO : Owns B W w G) : Calls Try.prog 31 #[.agg #[.int .i64 t, .int .i64 s]] w fun e w' => ∃ x, e = .returned (.pointer (some ⟨x, 0, none⟩)) ∧ Below w.heap.size w w' ∧ Owns B W w' (machG 113 x t s 1 0 0 0 :: G) :=
  (stack_NewPop t s (Owns.nil w)).mono fun _ _ ⟨x, he, h⟩ => ⟨x, he, h.1, hO.app h⟩
theorem stack_NewPush_app {B : Nat} {W w : World} {G : List Grp} (t s k : Int) (hO : Owns B W w G) : Calls Try.prog 35 #[.agg #[.int .i64 t, .int .i64 s], .int .i64 k] w fun e w' => ∃ x, e = .returned (.pointer (some ⟨x, 0, none⟩)) ∧ Below w.heap.size w w' ∧ Owns B W w' (machG 114 x t s 1 k 0 0 :: G) :=
  (stack_NewPush t s k (Owns.nil w)).mono fun _ _ ⟨x, he, h⟩ => ⟨x, he, h.1, hO.app h⟩
theorem sa_pack {B : Nat} {W w : World} {T1 T2 : TypeId} {t s : Int} {x0 x1 x2 x3 : Nat} {m c l : Grp} (hO : Owns B W w [machG 113 x3 t s 1 0 0 0, machG 113 x2 t s 1 0 0 0, machG 113 x1 t s 1 0 0 0, machG 113 x0 t s 1 0 0 0, m, c, l]) :
    ∃ Q : Nat → SaM, (∀ j, (Q j).p.nx = 1) ∧ (∀ j, (Q j).q = none) ∧ Owns B W ((w.alloc (.cells #[.pointer (some ⟨x0, 0, none⟩), .pointer (some ⟨x1, 0, none⟩), .pointer (some ⟨x2, 0, none⟩), .pointer (some ⟨x3, 0, none⟩)] T1)).alloc (.cells (rowA (fun _ => .pointer none) 4) T2)) (m :: c :: l :: [(w.heap.size, Obj.cells (rowA (saA Q) 4) T1 (0, 0))] :: [(w.heap.size + 1, Obj.cells (rowA (saP Q) 4) T2 (0, 0))] :: [] :: (fam (saE t s Q) 4 ++ fam (saD t s Q) 4)) := by
  refine ⟨fun j => ⟨⟨if j = 0 then x0 else if j = 1 then x1 else if j = 2 then x2 else x3, 1, 0, 0, 0⟩, none⟩, fun _ => rfl, fun _ => rfl, ?_⟩
  have h := (hO.alloc (.cells #[.pointer (some ⟨x0, 0, none⟩), .pointer (some ⟨x1, 0, none⟩), .pointer (some ⟨x2, 0, none⟩), .pointer (some ⟨x3, 0, none⟩)] T1)).alloc (.cells (rowA (fun _ => .pointer none) 4) T2)
  simp only [World.size_alloc] at h
  show Owns B W _ (m :: c :: l :: [(w.heap.size, Obj.cells #[.pointer (some ⟨x0, 0, none⟩), .pointer (some ⟨x1, 0, none⟩), .pointer (some ⟨x2, 0, none⟩), .pointer (some ⟨x3, 0, none⟩)] T1 (0, 0))] :: [(w.heap.size + 1, Obj.cells (rowA (fun _ => .pointer none) 4) T2 (0, 0))] :: [] :: [machG 113 x0 t s 1 0 0 0, machG 113 x1 t s 1 0 0 0, machG 113 x2 t s 1 0 0 0, machG 113 x3 t s 1 0 0 0, [], [], [], []])
  exact h.flatQ (by (classical exact List.perm_iff_count.2 (fun x => by simp only [List.flatten_cons, List.flatten_nil, List.count_append, List.append_nil, List.count_nil]; omega)))

def saNew (x : Nat) : SaM := ⟨⟨x, 1, 0, 0, 0⟩, none⟩
theorem under_same {Q : Nat → SaM} {q : Nat} (hq : q < 4) (m : SaM) (h : un m = un (Q q)) : (under (upd Q q m)).length = (under Q).length := by
  obtain ⟨R, h1, h2⟩ := under_split Q hq
  rw [(h2 m).length_eq, h1.length_eq, h]
theorem under_less {Q : Nat → SaM} {q : Nat} (hq : q < 4) (m : SaM) {a : SaQ} (h : (Q q).q = some a) (hm : m.q = none) : (under (upd Q q m)).length + 1 = (under Q).length := by
  obtain ⟨R, h1, h2⟩ := under_split Q hq
  rw [(h2 m).length_eq, h1.length_eq]; unfold un; rw [h, hm]; simp
theorem under_more {Q : Nat → SaM} {q : Nat} (hq : q < 4) (m : SaM) {a : SaQ} (h : (Q q).q = none) (hm : m.q = some a) : (under (upd Q q m)).length = (under Q).length + 1 := by
  obtain ⟨R, h1, h2⟩ := under_split Q hq
  rw [(h2 m).length_eq, h1.length_eq]; unfold un; rw [h, hm]; simp
theorem upd_upd {α : Type} (Q : Nat → α) (q : Nat) (a b : α) : upd (upd Q q a) q b = upd Q q b := by funext j; unfold upd; split <;> rfl
theorem sa_fresh {B : Nat} {W w : World} {t s : Int} {Q : Nat → SaM} {q x' ab : Nat} {T1 : TypeId} {mg c l P K : Grp} (hq : q < 4) (M1 : SaM) (hO : Owns B W w (machG 113 x' t s 1 0 0 0 :: mg :: c :: l :: [(ab, Obj.cells (rowA (saA Q) 4) T1 (0, 0))] :: P :: K :: (fam (saE t s (upd Q q M1)) 4 ++ fam (saD t s (upd Q q M1)) 4))) :
    Owns B W (w.setCell ⟨ab, q, none⟩ (.pointer (some ⟨x', 0, none⟩))) (mg :: c :: l :: [(ab, Obj.cells (rowA (saA (upd Q q (saNew x'))) 4) T1 (0, 0))] :: P :: K :: (fam (saE t s (upd Q q (saNew x'))) 4 ++ fam (saD t s (upd Q q (saNew x'))) 4)) := by
  have h := rowA_put hO 4 rfl q (.pointer (some ⟨x', 0, none⟩))
  simp only [List.set_cons_succ, List.set_cons_zero] at h
  have h2 := h.place (q + 6)
  rw [fA_set hq] at h2
  have h3 := h2.none (q + 4 + 6)
  rw [fC_set] at h3
  have e1 : upd (saE t s (upd Q q M1)) q (machG 113 x' t s 1 0 0 0) = saE t s (upd Q q (saNew x')) := by
    have := saE_upd t s (upd Q q M1) q (saNew x')
    rw [upd_upd] at this; exact this
  have e2 : upd (saD t s (upd Q q M1)) q [] = saD t s (upd Q q (saNew x')) := by
    have := saD_upd t s (upd Q q M1) q (saNew x')
    rw [upd_upd] at this; exact this
  have e3 : upd (saA Q) q (.pointer (some ⟨x', 0, none⟩)) = saA (upd Q q (saNew x')) := saA_upd Q q (saNew x')
  rw [e1, e2, e3] at h3
  exact h3
theorem sa_pushed {B : Nat} {W w : World} {t s y : Int} {Q : Nat → SaM} {q x' pb : Nat} {T2 : TypeId} {mg c l A K : Grp} (hq : q < 4) (hO : Owns B W w (machG 114 x' t s 1 y 0 0 :: mg :: c :: l :: A :: [(pb, Obj.cells (rowA (saP Q) 4) T2 (0, 0))] :: K :: (fam (saE t s Q) 4 ++ fam (saD t s Q) 4))) :
    Owns B W (w.setCell ⟨pb, q, none⟩ (.pointer (some ⟨x', 0, none⟩))) (mg :: c :: l :: A :: [(pb, Obj.cells (rowA (saP (upd Q q ⟨(Q q).p, some ⟨x', 1, y, 0, 0⟩⟩)) 4) T2 (0, 0))] :: K :: (fam (saE t s (upd Q q ⟨(Q q).p, some ⟨x', 1, y, 0, 0⟩⟩)) 4 ++ fam (saD t s (upd Q q ⟨(Q q).p, some ⟨x', 1, y, 0, 0⟩⟩)) 4)) := by
  have h := rowA_put hO 5 rfl q (.pointer (some ⟨x', 0, none⟩))
  simp only [List.set_cons_succ, List.set_cons_zero] at h
  have h2 := h.place (q + 4 + 6)
  rw [fC_set] at h2
  have e2 : upd (saD t s Q) q (machG 114 x' t s 1 y 0 0) = saD t s (upd Q q ⟨(Q q).p, some ⟨x', 1, y, 0, 0⟩⟩) := saD_upd t s Q q ⟨(Q q).p, some ⟨x', 1, y, 0, 0⟩⟩
  have e3 : upd (saP Q) q (.pointer (some ⟨x', 0, none⟩)) = saP (upd Q q ⟨(Q q).p, some ⟨x', 1, y, 0, 0⟩⟩) := saP_upd Q q ⟨(Q q).p, some ⟨x', 1, y, 0, 0⟩⟩
  rw [e2, e3] at h2
  rw [saE_same t s Q q ⟨(Q q).p, some ⟨x', 1, y, 0, 0⟩⟩ rfl]
  exact h2
theorem RowOk.at2 {v : Value} {xs cur : List Value} (hr : RowOk v xs cur) (hne : xs ≠ []) : ∃ (g cap : Nat), v = .slice (some ⟨g, 0, none⟩) xs.length cap ∧ xs.length ≤ cap ∧ ∀ (j : Nat) (u : Value), xs[j]? = some u → cur.toArray[j]? = some u := by
  rcases hr with ⟨rfl, rfl, rfl⟩ | ⟨g, cap, rfl, h1, h2, h3, h4⟩
  · exact absurd rfl hne
  · refine ⟨g, cap, rfl, h1, fun j u hj => ?_⟩
    rw [← h4, List.getElem?_take] at hj
    split at hj
    · simpa using hj
    · cases hj

theorem pushStep_sl {t s nx sl wd tw : Int} {ws : List Int} {r : StepR} (h : pushStep t s ws nx sl wd tw = r) : r.sl = sl := by
  subst h
  unfold pushStep
  split
  · split
    · rfl
    · split <;> rfl
  · split
    · rfl
    · split
      · split <;> rfl
      · rfl
set_option maxRecDepth 100000 in
set_option maxHeartbeats 8000000 in
theorem StackApart_far (a s t : Int) (v : Value) (xs : List (List Value)) (W : World) (hs : SArg W [true, false, true] v xs) (hn : ¬ xs.length ≤ 200) : Calls Try.prog 6 #[.agg #[.int .i64 a, .int .i64 s, .int .i64 t], v] W fun e w' => e = .returned (.bool true) ∧ Below W.heap.size W w' := by
  obtain ⟨pa, cap, rfl, hl, hx⟩ := hs.form
  have hn' : (200 : Int) < (xs.length : Int) := by omega
  clear hx hs hn
  have hO := (Owns.nil W).more (.cells #[.int .i64 a, .int .i64 s, .int .i64 t] 23)
  go_enter Try.func6, Try.ntmps6
  go_wp2_with (go_at_call 19; refine (law10_live _).mono ?_; rintro e w2 ⟨rfl, hb⟩; have hO := hO.via hb)
  go_ret
  exact ⟨rfl, hO.below⟩
set_option maxRecDepth 100000 in
set_option maxHeartbeats 8000000 in
theorem StackApart_no (a s t : Int) (v : Value) (xs : List (List Value)) (W : World) (hs : SArg W [true, false, true] v xs) (hn : xs.length ≤ 200) (hc : cfgOk a s t = false) : Calls Try.prog 6 #[.agg #[.int .i64 a, .int .i64 s, .int .i64 t], v] W fun e w' => e = .returned (.bool true) ∧ Below W.heap.size W w' := by
  obtain ⟨pa, cap, rfl, hl, hx⟩ := hs.form
  have hn' : ¬ (200 : Int) < (xs.length : Int) := by omega
  have CK := Lib.hid hc
  clear hx hs hn hc
  have hO := (Owns.nil W).more (.cells #[.int .i64 a, .int .i64 s, .int .i64 t] 23)
  go_enter Try.func6, Try.ntmps6
  go_wp2_with fail
  generalize W.alloc (.cells #[.int .i64 a, .int .i64 s, .int .i64 t] 23) = w0 at hO ⊢
  refine (law10_start_no a s t _ CK.out).mono ?_; rintro e w1 ⟨rfl, hb⟩; have hO := hO.via hb
  go_upto_region 4 with fail
  have hO := hO.more (.cells #[.int .i64 0, .int .i64 0] 25)
  generalize w1.alloc (.cells #[.int .i64 0, .int .i64 0] 25) = w3 at hO ⊢
  have a0 : _ = some (Value.int .i64 a) := hO.cell 0 0 rfl rfl 0
  have a1 : _ = some (Value.int .i64 s) := hO.cell 0 0 rfl rfl 1
  have a2 : _ = some (Value.int .i64 t) := hO.cell 0 0 rfl rfl 2
  go_wp2_with first
    | (go_at_call 19; refine (law10_live _).mono ?_; rintro e w2 ⟨rfl, hb⟩; have hO := hO.via hb)
    | (go_at_call 21; refine (ref06_May _ _ _ _).mono ?_; rw [CK.out]; rintro e w4 ⟨rfl, hb⟩; have hO := hO.via hb)
  go_ret
  exact ⟨rfl, hO.below⟩
end Go.Proofs.Ytpebepjfgnoaaaa
