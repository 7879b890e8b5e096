/- Rows that grow: what a walk owns of a slice of its own. -/
import Derived.Deep.AppendLies
import Derived.OwnWalk
import Derived.Test.YtmbkkpeepbfgoaaOwn
namespace Go.Proofs.Ytmbkkpeepbfgoaa
set_option linter.unusedVariables false
set_option linter.unusedSimpArgs false
open Go.RowKit
/-- a mark at which the walk stands. -/
def Stop (p : Prop) : Prop := p
theorem stop_here {p : Prop} (h : Stop p) : p := h
theorem perm_erase {α : Type} : ∀ (l : List α) (i : Nat) (x : α), l[i]? = some x → l.Perm (x :: l.eraseIdx i)
  | [], _, _, h => by simp at h
  | a :: l, 0, x, h => by simp at h; subst h; exact List.Perm.refl _
  | a :: l, i + 1, x, h => by
    have := perm_erase l i x (by simpa using h)
    rw [List.eraseIdx_cons_succ]
    exact (this.cons a).trans (List.Perm.swap _ _ _)
theorem erase_set {α : Type} : ∀ (l : List α) (i : Nat) (x : α), (l.set i x).eraseIdx i = l.eraseIdx i
  | [], _, _ => rfl
  | _ :: _, 0, _ => rfl
  | a :: l, i + 1, x => by rw [List.set_cons_succ, List.eraseIdx_cons_succ, List.eraseIdx_cons_succ, erase_set l i x]
theorem Owns.trade {B : Nat} {W w w' : World} {G : List Grp} (h : Owns B W w G) (i : Nat) {g g' : Grp} (hi : G[i]? = some g) (hos : w'.os = w.os) (htp : w'.tape = w.tape) (hou : w'.output = w.output) (hsz : w.heap.size ≤ w'.heap.size)
    (hk : ∀ c, c < w.heap.size → (∀ x ∈ g, x.1 ≠ c) → w'.heap[c]? = w.heap[c]?) (hn : (g'.map Prod.fst).Nodup) (hg : ∀ y ∈ g', ((∃ x ∈ g, x.1 = y.1) ∨ w.heap.size ≤ y.1) ∧ w'.heap[y.1]? = some y.2) : Owns B W w' (G.set i g') := by
  have hp := perm_erase G i g hi
  have h2 := h.perm hp
  have hq := perm_erase (G.set i g') i g' (List.getElem?_set_self (List.getElem?_eq_some_iff.1 hi).1)
  rw [erase_set] at hq
  refine Owns.perm ?_ hq.symm
  generalize G.eraseIdx i = R at h2
  have hnd := h2.2.2.1
  rw [List.flatten_cons, List.map_append, List.nodup_append] at hnd
  have hmem : ∀ y ∈ R.flatten, B ≤ y.1 ∧ w.heap[y.1]? = some y.2 := fun y hy => h2.2.2.2 y (by rw [List.flatten_cons, List.mem_append]; exact .inr hy)
  have hg2 : ∀ y ∈ g, B ≤ y.1 ∧ w.heap[y.1]? = some y.2 := fun y hy => h2.2.2.2 y (by rw [List.flatten_cons, List.mem_append]; exact .inl hy)
  have hne : ∀ x ∈ g, ∀ y ∈ R.flatten, x.1 ≠ y.1 := fun x hx y hy => hnd.2.2 _ (List.mem_map.2 ⟨x, hx, rfl⟩) _ (List.mem_map.2 ⟨y, hy, rfl⟩)
  refine ⟨h.1.trans ⟨hos, htp, hou, hsz, fun c hc => hk c (Nat.lt_of_lt_of_le hc h.2.1) (fun x hx => by have := (hg2 x hx).1; omega)⟩, Nat.le_trans h.2.1 hsz, ?_, ?_⟩
  · rw [List.flatten_cons, List.map_append, List.nodup_append]
    refine ⟨hn, hnd.2.1, ?_⟩
    intro n hn' m hm'
    obtain ⟨y, hy, rfl⟩ := List.mem_map.1 hn'
    obtain ⟨z, hz, rfl⟩ := List.mem_map.1 hm'
    rcases (hg y hy).1 with ⟨x, hx, he⟩ | hge
    · rw [← he]; exact hne x hx z hz
    · have := blk_lt (hmem z hz).2; omega
  · intro x hx
    rw [List.flatten_cons, List.mem_append] at hx
    rcases hx with hx | hx
    · refine ⟨?_, (hg x hx).2⟩
      rcases (hg x hx).1 with ⟨y, hy, he⟩ | hge
      · rw [← he]; exact (hg2 y hy).1
      · exact Nat.le_trans h.2.1 hge
    · refine ⟨(hmem x hx).1, ?_⟩
      rw [hk x.1 (blk_lt (hmem x hx).2) (fun y hy => hne y hy x hx)]
      exact (hmem x hx).2
/-- the blocks of a slice of the call's own. -/
def rowG (e : TypeId) (v : Value) (cur : List Value) : Grp :=
  match v with
  | .slice (some a) _ _ => [(a.block, .cells cur.toArray e (0, 0))]
  | _ => []
/-- a slice of the call's own, elements of one cell: what it holds. -/
def RowOk (v : Value) (xs cur : List Value) : Prop :=
  (v = .slice none 0 0 ∧ xs = [] ∧ cur = []) ∨ ∃ g cap, v = .slice (some ⟨g, 0, none⟩) xs.length cap ∧ xs.length ≤ cap ∧ cap ≤ maxLen ∧ cur.length = cap ∧ cur.take xs.length = xs
theorem RowOk.nil : RowOk (.slice none 0 0) [] [] := .inl ⟨rfl, rfl, rfl⟩
theorem RowOk.cells {B : Nat} {W w : World} {G : List Grp} {e : TypeId} {v : Value} {xs cur : List Value} (hr : RowOk v xs cur) (h : Owns B W w G) (i : Nat) (hi : G[i]? = some (rowG e v cur)) (hne : xs ≠ []) :
    ∃ g cap, v = .slice (some ⟨g, 0, none⟩) xs.length cap ∧ ∀ j u, xs[j]? = some u → w.cell? ⟨g, j, none⟩ = some u := by
  rcases hr with ⟨rfl, rfl, rfl⟩ | ⟨g, cap, rfl, h1, h2, h3, h4⟩
  · exact absurd rfl hne
  · refine ⟨g, cap, rfl, fun j u hj => ?_⟩
    have hb := h.get i 0 hi (b := g) (o := .cells cur.toArray e (0, 0)) rfl
    rw [blk_cell hb j]
    rw [← h4, List.getElem?_take] at hj
    split at hj
    · simpa using hj
    · cases hj
theorem RowOk.owns {B : Nat} {W w : World} {G : List Grp} {e : TypeId} {v : Value} {xs cur : List Value} (hr : RowOk v xs cur) (h : Owns B W w G) (i : Nat) (hi : G[i]? = some (rowG e v cur)) : w.ownsRow 0 e 1 v xs.length xs := by
  refine ⟨by simp, ?_⟩
  rcases hr with ⟨rfl, rfl, rfl⟩ | ⟨g, cap, rfl, h1, h2, h3, h4⟩
  · exact .inl ⟨rfl, rfl⟩
  · exact .inr ⟨g, cap, cur.toArray, rfl, Nat.zero_le _, h.get i 0 hi rfl, h1, h2, by simp [h3], by simpa using h4⟩
theorem row_append {P : Program} {B : Nat} {W w : World} {G : List Grp} (t ty e : TypeId) (z : Value) (bytes : Nat) (ht : P.underlying t = some (.slice e)) (hinf : (P.info? e).map (fun i => (i.zero, i.size, i.bytes)) = some (some z, 1, bytes)) (hz : z.cells.size = 1) (hby : bytes ≤ 24)
    {v : Value} {xs cur : List Value} (h : Owns B W w G) (i : Nat) (hi : G[i]? = some (rowG e v cur)) (hr : RowOk v xs cur) (ad : Addr) (c : Nat) (news : List Value) (hnews : ∀ j u, news[j]? = some u → w.cell? (ad.add j) = some u) (h1 : ∀ u ∈ news, u.oneCell' = true) (h0 : 0 < news.length) (hlen : xs.length + news.length ≤ 1000000) :
    ∃ v' cur' w', (Builtin.append_ #[t, t] ty #[v, .slice (some ad) news.length c]).run P w = .ok v' w' ∧ RowOk v' (xs ++ news) cur' ∧ Owns B W w' (G.set i (rowG e v' cur')) := by
  obtain ⟨inf, hinf1, hinf2, hinf3, hinf4⟩ := info_parts hinf
  obtain ⟨g, cap, w', hrun, ho, hgr, hgg, hlt⟩ := run_append_lies (P := P) (w := w) t ty 0 e inf z 1 bytes ht hinf1 hinf2 hinf3 hinf4 hz (by decide) v xs.length xs (hr.owns h i hi) ad news.length c news (by simp) hnews h1 h0 (by unfold maxLen; omega) (Nat.le_trans (Nat.mul_le_mul hlen hby) (by decide)) (Nat.zero_le _) w.heap.size rfl
  rcases ho.2 with ⟨hx, -⟩ | ⟨g', cap', cur', hv, -, hheap, hle, hcap, hsz, htake⟩
  · cases hx
  · simp only [Value.slice.injEq, Option.some.injEq, Addr.mk.injEq, true_and, and_true] at hv
    obtain ⟨rfl, rfl⟩ : g = g' ∧ cap = cap' := by omega
    refine ⟨_, cur'.toList, w', hrun, .inr ⟨g, cap, by rw [List.length_append], by rw [List.length_append]; exact hle, hcap, by simpa using hsz, by rw [List.length_append]; simpa using htake⟩, ?_⟩
    refine h.trade i hi hgr.os hgr.tape hgr.output hgr.size ?_ (by simp [rowG]) ?_
    · intro k hk hne
      refine hgr.block k hk ?_
      intro he
      rcases hr with ⟨rfl, -, -⟩ | ⟨g2, cap2, rfl, -⟩
      · simp [Value.ownBlock] at he
      · simp [Value.ownBlock] at he
        exact hne (g2, .cells cur.toArray e (0, 0)) (by simp [rowG]) he.symm
    · intro y hy
      simp [rowG] at hy
      subst hy
      refine ⟨?_, by simpa using hheap⟩
      rcases hgg with hgg | hgg
      · left
        rcases hr with ⟨rfl, -, -⟩ | ⟨g2, cap2, rfl, -⟩
        · simp [Value.ownBlock] at hgg
        · simp [Value.ownBlock] at hgg
          exact ⟨(g2, .cells cur.toArray e (0, 0)), by simp [rowG], hgg⟩
      · right; show w.heap.size ≤ g; omega
theorem wpList_append_row {P : Program} {ops : Array Oper} {rest : List Oper} {o : Oper} {a : Act} {Q : Exit → Act → World → Prop} {w : World} (hgd : o.guard = none) (s x : Operand) (t : TypeId)
    (ho : o.op = .call { callee := .builtin .append, args := #[s, x], argTypes := #[t, t] }) {B : Nat} {W : World} {G : List Grp} (e : TypeId) (z : Value) (bytes : Nat) (ht : P.underlying t = some (.slice e)) (hinf : (P.info? e).map (fun i => (i.zero, i.size, i.bytes)) = some (some z, 1, bytes)) (hz : z.cells.size = 1) (hby : bytes ≤ 24)
    {v : Value} {xs cur : List Value} (hs : a.eval s = v) (h : Owns B W w G) (i : Nat) (hi : G[i]? = some (rowG e v cur)) (hr : RowOk v xs cur) (ad : Addr) (m c : Nat) (news : List Value) (hx : a.eval x = .slice (some ad) m c) (hm : m = news.length)
    (hnews : ∀ j u, news[j]? = some u → w.cell? (ad.add j) = some u) (h1 : ∀ u ∈ news, u.oneCell' = true) (h0 : 0 < news.length) (hlen : xs.length + news.length ≤ 1000000)
    (hK : ∀ v' cur' w', RowOk v' (xs ++ news) cur' → Owns B W w' (G.set i (rowG e v' cur')) → wpList P ops Q rest (a.put o.dst v') w') : wpList P ops Q (o :: rest) a w := by
  subst hm
  obtain ⟨v', cur', w', hrun, hr', hO'⟩ := row_append (P := P) t o.type e z bytes ht hinf hz hby h i hi hr ad c news hnews h1 h0 hlen
  refine wpList_plain hgd fun K hK' => ?_
  unfold Oper.wp execOp
  simp only [ho, resolve, invoke, builtin, Sem.run_bind, Sem.run_pure, Result.andThen_ok, List.map_toArray, List.map_cons, List.map_nil, hs, hx, hrun]
  exact hK' _ _ (hK v' cur' w' hr' hO')
end Go.Proofs.Ytmbkkpeepbfgoaa
