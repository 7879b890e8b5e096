/- What a walk owns of memory: groups of blocks, each its own; below B all is as it was. -/
import Derived.Test.YtmbkkpeepbfgoaaBase
import Derived.Test.YtmbkkpeepbfgoaaBlk
namespace Go.Proofs.Ytmbkkpeepbfgoaa
set_option linter.unusedVariables false
set_option linter.unusedSimpArgs false
open Go.RowKit
abbrev Grp := List (Nat × Obj)
def Owns (B : Nat) (W w : World) (G : List Grp) : Prop :=
  Below B W w ∧ B ≤ w.heap.size ∧ (G.flatten.map Prod.fst).Nodup ∧ ∀ x ∈ G.flatten, B ≤ x.1 ∧ w.heap[x.1]? = some x.2
theorem flat_set {α : Type} : ∀ (G : List (List α)) (i j : Nat) (g : List α) (x y : α), G[i]? = some g → g[j]? = some x → ∃ k, G.flatten[k]? = some x ∧ (G.set i (g.set j y)).flatten = G.flatten.set k y
  | [], _, _, _, _, _, h, _ => by simp at h
  | a :: G, 0, j, g, x, y, h, hj => by
    simp only [List.getElem?_cons_zero, Option.some.injEq] at h
    subst h
    have hl : j < a.length := (List.getElem?_eq_some_iff.1 hj).1
    refine ⟨j, ?_, ?_⟩
    · rw [List.flatten_cons, List.getElem?_append_left hl]; exact hj
    · rw [List.set_cons_zero, List.flatten_cons, List.flatten_cons, List.set_append_left _ _ hl]
  | a :: G, i + 1, j, g, x, y, h, hj => by
    obtain ⟨k, h1, h2⟩ := flat_set G i j g x y (by simpa using h) hj
    refine ⟨a.length + k, ?_, ?_⟩
    · rw [List.flatten_cons, List.getElem?_append_right (by omega)]; simpa using h1
    · rw [List.set_cons_succ, List.flatten_cons, List.flatten_cons, h2, List.set_append_right _ _ (by omega)]
      simp
theorem mem_flat_set {α : Type} : ∀ (G : List (List α)) (i : Nat) (g' : List α) (x : α), x ∈ (G.set i g').flatten → x ∈ g' ∨ x ∈ G.flatten
  | [], _, _, _, h => by simp at h
  | a :: G, 0, g', x, h => by
    rw [List.set_cons_zero, List.flatten_cons, List.mem_append] at h
    rcases h with h | h
    · exact .inl h
    · exact .inr (by rw [List.flatten_cons, List.mem_append]; exact .inr h)
  | a :: G, i + 1, g', x, h => by
    rw [List.set_cons_succ, List.flatten_cons, List.mem_append] at h
    rcases h with h | h
    · exact .inr (by rw [List.flatten_cons, List.mem_append]; exact .inl h)
    · rcases mem_flat_set G i g' x h with h' | h'
      · exact .inl h'
      · exact .inr (by rw [List.flatten_cons, List.mem_append]; exact .inr h')
theorem nodup_flat_set : ∀ (G : List Grp) (i : Nat) (g' : Grp), (G.flatten.map Prod.fst).Nodup → (g'.map Prod.fst).Nodup → (∀ x ∈ g', ∀ y ∈ G.flatten, x.1 ≠ y.1) → ((G.set i g').flatten.map Prod.fst).Nodup
  | [], _, _, h, _, _ => h
  | a :: G, 0, g', h, h', hd => by
    rw [List.set_cons_zero, List.flatten_cons, List.map_append, List.nodup_append]
    rw [List.flatten_cons, List.map_append, List.nodup_append] at h
    refine ⟨h', h.2.1, ?_⟩
    intro n hn m hm
    obtain ⟨x, hx, rfl⟩ := List.mem_map.1 hn
    obtain ⟨y, hy, rfl⟩ := List.mem_map.1 hm
    exact hd x hx y (by rw [List.flatten_cons, List.mem_append]; exact .inr hy)
  | a :: G, i + 1, g', h, h', hd => by
    rw [List.set_cons_succ, List.flatten_cons, List.map_append, List.nodup_append]
    rw [List.flatten_cons, List.map_append, List.nodup_append] at h
    refine ⟨h.1, nodup_flat_set G i g' h.2.1 h' (fun x hx y hy => hd x hx y (by rw [List.flatten_cons, List.mem_append]; exact .inr hy)), ?_⟩
    intro n hn m hm
    obtain ⟨x, hx, rfl⟩ := List.mem_map.1 hn
    obtain ⟨y, hy, rfl⟩ := List.mem_map.1 hm
    rcases mem_flat_set G i g' y hy with hy | hy
    · exact (hd y hy x (by rw [List.flatten_cons, List.mem_append]; exact .inl hx)).symm
    · exact h.2.2 _ (List.mem_map.2 ⟨x, hx, rfl⟩) _ (List.mem_map.2 ⟨y, hy, rfl⟩)
theorem nodup_inj {α : Type} {l : List α} (h : l.Nodup) {i j : Nat} {x : α} (hi : l[i]? = some x) (hj : l[j]? = some x) : i = j := by
  obtain ⟨i1, e1⟩ := List.getElem?_eq_some_iff.1 hi
  obtain ⟨j1, e2⟩ := List.getElem?_eq_some_iff.1 hj
  rcases Nat.lt_trichotomy i j with c | c | c
  · exact absurd (e1.trans e2.symm) ((List.pairwise_iff_getElem.1 h) i j i1 j1 c)
  · exact c
  · exact absurd (e2.trans e1.symm) ((List.pairwise_iff_getElem.1 h) j i j1 i1 c)
theorem sub_flat {α : Type} {G G' : List (List α)} (h : G'.Sublist G) : G'.flatten.Sublist G.flatten := by
  induction h with
  | slnil => exact List.Sublist.refl _
  | cons a _ ih => rw [List.flatten_cons]; exact ih.trans (List.sublist_append_right _ _)
  | cons_cons a _ ih => rw [List.flatten_cons, List.flatten_cons]; exact (List.Sublist.refl _).append ih
namespace Owns
variable {B : Nat} {W w w' : World} {G : List Grp}
theorem nil (W : World) : Owns W.heap.size W W [] := ⟨Below.refl _ _, Nat.le_refl _, by simp, by simp⟩
theorem below (h : Owns B W w G) : Below B W w := h.1
theorem base (h : Owns B W w G) : B ≤ w.heap.size := h.2.1
theorem mem (h : Owns B W w G) (i j : Nat) {g : Grp} {b : Nat} {o : Obj} (hi : G[i]? = some g) (hj : g[j]? = some (b, o)) : B ≤ b ∧ w.heap[b]? = some o :=
  h.2.2.2 (b, o) (List.mem_flatten.2 ⟨g, List.mem_of_getElem? hi, List.mem_of_getElem? hj⟩)
theorem get (h : Owns B W w G) (i j : Nat) {g : Grp} {b : Nat} {o : Obj} (hi : G[i]? = some g) (hj : g[j]? = some (b, o)) : w.heap[b]? = some o := (h.mem i j hi hj).2
theorem ge (h : Owns B W w G) (i j : Nat) {g : Grp} {b : Nat} {o : Obj} (hi : G[i]? = some g) (hj : g[j]? = some (b, o)) : B ≤ b := (h.mem i j hi hj).1
theorem lt (h : Owns B W w G) (i j : Nat) {g : Grp} {b : Nat} {o : Obj} (hi : G[i]? = some g) (hj : g[j]? = some (b, o)) : b < w.heap.size := blk_lt (h.get i j hi hj)
theorem all_lt (h : Owns B W w G) : ∀ x ∈ G.flatten, x.1 < w.heap.size := fun x hx => blk_lt (h.2.2.2 x hx).2
theorem cell (h : Owns B W w G) (i j : Nat) {g : Grp} {b : Nat} {c : Array Value} {t : TypeId} {f : Nat × Nat} (hi : G[i]? = some g) (hj : g[j]? = some (b, .cells c t f)) (o : Nat) : w.cell? ⟨b, o, none⟩ = c[o]? := blk_cell (h.get i j hi hj) o
theorem drew (h : Owns B W w G) : Owns B W w.drew G := ⟨h.1.drew, h.2.1, h.2.2.1, h.2.2.2⟩
theorem drewN (h : Owns B W w G) (n : Nat) : Owns B W (w.drewN n) G := ⟨below_drewN h.1 n, h.2.1, h.2.2.1, h.2.2.2⟩
theorem via (h : Owns B W w G) (hb : Below w.heap.size w w') : Owns B W w' G :=
  ⟨h.1.trans (hb.mono h.2.1), Nat.le_trans h.2.1 hb.size, h.2.2.1, fun x hx => ⟨(h.2.2.2 x hx).1, by rw [hb.block x.1 (h.all_lt x hx)]; exact (h.2.2.2 x hx).2⟩⟩
theorem alloc (h : Owns B W w G) (o : Obj) : Owns B W (w.alloc o) ([(w.heap.size, o)] :: G) := by
  have hb : Below w.heap.size w (w.alloc o) := (Below.refl _ _).alloc (Nat.le_refl _) _
  have h' := h.via hb
  refine ⟨h'.1, h'.2.1, ?_, ?_⟩
  · rw [List.flatten_cons, List.map_append, List.nodup_append]
    refine ⟨by simp, h.2.2.1, ?_⟩
    intro n hn m hm
    obtain ⟨y, hy, rfl⟩ := List.mem_map.1 hm
    have := h.all_lt y hy
    simp at hn; omega
  · intro x hx
    rw [List.flatten_cons, List.mem_append] at hx
    rcases hx with hx | hx
    · simp at hx; subst hx; exact ⟨h.2.1, blk_new w o⟩
    · exact h'.2.2.2 x hx
theorem drop (h : Owns B W w G) (i : Nat) : Owns B W w (G.eraseIdx i) := by
  have hs : (G.eraseIdx i).flatten.Sublist G.flatten := sub_flat (List.eraseIdx_sublist G i)
  exact ⟨h.1, h.2.1, h.2.2.1.sublist (hs.map _), fun x hx => h.2.2.2 x (hs.subset hx)⟩
theorem sub {G' : List Grp} (h : Owns B W w G) (hs : G'.Sublist G) : Owns B W w G' :=
  ⟨h.1, h.2.1, h.2.2.1.sublist ((sub_flat hs).map _), fun x hx => h.2.2.2 x ((sub_flat hs).subset hx)⟩
theorem tail {a : Grp} (h : Owns B W w (a :: G)) : Owns B W w G := h.sub (List.sublist_cons_self _ _)
theorem perm {G' : List Grp} (h : Owns B W w G) (hp : G.Perm G') : Owns B W w G' :=
  ⟨h.1, h.2.1, (hp.flatten.map _).nodup_iff.1 h.2.2.1, fun x hx => h.2.2.2 x (hp.flatten.mem_iff.2 hx)⟩
/-- what is new stands last. -/
theorem last {a : Grp} (h : Owns B W w (a :: G)) : Owns B W w (G ++ [a]) := h.perm (List.perm_append_singleton a G).symm
theorem more (h : Owns B W w G) (o : Obj) : Owns B W (w.alloc o) (G ++ [[(w.heap.size, o)]]) := (h.alloc o).last
/-- two groups as one. -/
theorem join {a b : Grp} (h : Owns B W w (a :: b :: G)) : Owns B W w ((a ++ b) :: G) := by
  have e : ((a ++ b) :: G).flatten = (a :: b :: G).flatten := by simp
  unfold Owns; rw [e]; exact h
theorem split {a b : Grp} (h : Owns B W w ((a ++ b) :: G)) : Owns B W w (a :: b :: G) := by
  have e : ((a ++ b) :: G).flatten = (a :: b :: G).flatten := by simp
  unfold Owns; rw [← e]; exact h
theorem ne_flat (h : Owns B W w G) {k m : Nat} {x y : Nat × Obj} (hk : G.flatten[k]? = some x) (hm : G.flatten[m]? = some y) (hne : k ≠ m) : x.1 ≠ y.1 := by
  intro he
  have h1 : (G.flatten.map Prod.fst)[k]? = some x.1 := by rw [List.getElem?_map, hk]; rfl
  have h2 : (G.flatten.map Prod.fst)[m]? = some x.1 := by rw [List.getElem?_map, hm, he]; rfl
  exact hne (nodup_inj h.2.2.1 h1 h2)
theorem ne_in (h : Owns B W w G) (i j k : Nat) {g : Grp} {b c : Nat} {o p : Obj} (hi : G[i]? = some g) (hj : g[j]? = some (b, o)) (hk : g[k]? = some (c, p)) (hne : j ≠ k) : b ≠ c := by
  have hn : (g.map Prod.fst).Nodup := h.2.2.1.sublist ((List.sublist_flatten_of_mem (List.mem_of_getElem? hi)).map _)
  intro he
  have h1 : (g.map Prod.fst)[j]? = some b := by rw [List.getElem?_map, hj]; rfl
  have h2 : (g.map Prod.fst)[k]? = some b := by rw [List.getElem?_map, hk, he]; rfl
  exact hne (nodup_inj hn h1 h2)
theorem pair {α β : Type} {f : α → β} : ∀ (G : List (List α)) (i k : Nat) (g g' : List α), i < k → G[i]? = some g → G[k]? = some g' → (g ++ g').Sublist G.flatten
  | [], _, _, _, _, _, h, _ => by simp at h
  | a :: G, 0, k + 1, g, g', _, h, h' => by
    simp at h h'
    subst h
    rw [List.flatten_cons]
    exact (List.Sublist.refl _).append (List.sublist_flatten_of_mem (List.mem_of_getElem? h'))
  | a :: G, i + 1, k + 1, g, g', hl, h, h' => by
    rw [List.flatten_cons]
    exact (pair (f := f) G i k g g' (by omega) (by simpa using h) (by simpa using h')).trans (List.sublist_append_right _ _)
theorem ne_out (h : Owns B W w G) (i k j m : Nat) {g g' : Grp} {b c : Nat} {o p : Obj} (hi : G[i]? = some g) (hk : G[k]? = some g') (hj : g[j]? = some (b, o)) (hm : g'[m]? = some (c, p)) (hne : i ≠ k) : b ≠ c := by
  have key : ∀ (i k : Nat) (g g' : Grp) (x y : Nat × Obj), i < k → G[i]? = some g → G[k]? = some g' → x ∈ g → y ∈ g' → x.1 ≠ y.1 := by
    intro i k g g' x y hl hi hk hx hy
    have hs := h.2.2.1.sublist ((pair (f := Prod.fst) G i k g g' hl hi hk).map Prod.fst)
    rw [List.map_append, List.nodup_append] at hs
    exact hs.2.2 _ (List.mem_map.2 ⟨x, hx, rfl⟩) _ (List.mem_map.2 ⟨y, hy, rfl⟩)
  rcases Nat.lt_or_ge i k with hl | hl
  · exact key i k g g' (b, o) (c, p) hl hi hk (List.mem_of_getElem? hj) (List.mem_of_getElem? hm)
  · exact (key k i g' g (c, p) (b, o) (by omega) hk hi (List.mem_of_getElem? hm) (List.mem_of_getElem? hj)).symm
/-- one block turned, all else as it was. -/
theorem turn (h : Owns B W w G) (i j : Nat) {g : Grp} {b : Nat} {o : Obj} (hi : G[i]? = some g) (hj : g[j]? = some (b, o)) (o' : Obj) (hos : w'.os = w.os) (htp : w'.tape = w.tape) (hou : w'.output = w.output) (hsz : w.heap.size ≤ w'.heap.size)
    (hn : w'.heap[b]? = some o') (hk : ∀ c, c < w.heap.size → c ≠ b → w'.heap[c]? = w.heap[c]?) : Owns B W w' (G.set i (g.set j (b, o'))) := by
  obtain ⟨k, e1, e2⟩ := flat_set G i j g (b, o) (b, o') hi hj
  have hb := h.ge i j hi hj
  unfold Owns
  rw [e2]
  have em : (G.flatten.set k (b, o')).map Prod.fst = G.flatten.map Prod.fst := by
    rw [List.map_set]
    apply List.ext_getElem?
    intro m
    rw [List.getElem?_set]
    split
    · rename_i hm; subst hm
      split
      · rename_i hl; rw [List.getElem?_map, e1]; rfl
      · rename_i hl; rw [List.getElem?_eq_none (by omega)]
    · rfl
  refine ⟨h.1.trans ⟨hos, htp, hou, hsz, fun c hc => hk c (Nat.lt_of_lt_of_le hc h.2.1) (by omega)⟩, Nat.le_trans h.2.1 hsz, by rw [em]; exact h.2.2.1, ?_⟩
  intro x hx
  obtain ⟨m, hm⟩ := List.mem_iff_getElem?.1 hx
  rw [List.getElem?_set] at hm
  split at hm
  · split at hm
    · simp at hm; subst hm; exact ⟨hb, hn⟩
    · simp at hm
  · rename_i hne
    have hne' := h.ne_flat e1 hm hne
    have hx' : x ∈ G.flatten := List.mem_of_getElem? hm
    exact ⟨(h.2.2.2 x hx').1, by rw [hk x.1 (h.all_lt x hx') (fun e => hne' e.symm)]; exact (h.2.2.2 x hx').2⟩
theorem set (h : Owns B W w G) (i j : Nat) {g : Grp} {b : Nat} {c : Array Value} {t : TypeId} {f : Nat × Nat} (hi : G[i]? = some g) (hj : g[j]? = some (b, .cells c t f)) (o : Nat) (v : Value) :
    Owns B W (w.setCell ⟨b, o, none⟩ v) (G.set i (g.set j (b, .cells (c.setIfInBounds o v) t f))) :=
  h.turn i j hi hj _ rfl rfl rfl (by simp [World.setCell]) (blk_set (h.get i j hi hj) o v) (fun c _ hne => blk_set_ne (a := ⟨b, o, none⟩) rfl hne v)
/-- a group given up for one that is new. -/
theorem fresh (h : Owns B W w G) (hb : Below w.heap.size w w') (i : Nat) (g' : Grp) (hn : (g'.map Prod.fst).Nodup) (hg : ∀ x ∈ g', w.heap.size ≤ x.1 ∧ w'.heap[x.1]? = some x.2) : Owns B W w' (G.set i g') := by
  have h' := h.via hb
  refine ⟨h'.1, h'.2.1, nodup_flat_set G i g' h.2.2.1 hn (fun x hx y hy => by have := h.all_lt y hy; have := (hg x hx).1; omega), ?_⟩
  intro x hx
  rcases mem_flat_set G i g' x hx with hx | hx
  · exact ⟨Nat.le_trans h.2.1 (hg x hx).1, (hg x hx).2⟩
  · exact h'.2.2.2 x hx
end Owns
end Go.Proofs.Ytmbkkpeepbfgoaa
