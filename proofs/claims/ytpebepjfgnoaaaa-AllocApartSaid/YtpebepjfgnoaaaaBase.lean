/- Small helpers for walks: endings, bits of words, what calls leave of memory. -/
import Derived.Deep.QuietTactic
import Derived.BigQuiet
import Derived.WalkKit
import Derived.KernelRfl
import Derived.Lib.Hide
import Derived.Handy
import Derived.Laws.BitsLemmas
import Derived.Deep.AppendLies
import Derived.OwnWalk
namespace Go.Proofs.Ytpebepjfgnoaaaa
set_option linter.unusedVariables false
set_option linter.unusedSimpArgs false
open Go.RowKit
theorem ret1 {k : IntKind} {a b : Int} (h : a = b) : Ending.returned (.int k a) = .returned (.int k b) := by rw [h]
theorem retb {a b : Bool} (h : a = b) : Ending.returned (.bool a) = .returned (.bool b) := by rw [h]
theorem ret2 {j k : IntKind} {a b c d : Int} (h : a = c) (h' : b = d) : Ending.returned (.tuple #[.int j a, .int k b]) = .returned (.tuple #[.int j c, .int k d]) := by rw [h, h']
theorem ret2b {j : IntKind} {a c : Int} {b d : Bool} (h : a = c) (h' : b = d) : Ending.returned (.tuple #[.int j a, .bool b]) = .returned (.tuple #[.int j c, .bool d]) := by rw [h, h']
theorem ret3 {j k l : IntKind} {a b c d e f : Int} (h : a = d) (h' : b = e) (h'' : c = f) : Ending.returned (.tuple #[.int j a, .int k b, .int l c]) = .returned (.tuple #[.int j d, .int k e, .int l f]) := by rw [h, h', h'']
theorem ret3b {j k : IntKind} {a b d e : Int} {c f : Bool} (h : a = d) (h' : b = e) (h'' : c = f) : Ending.returned (.tuple #[.int j a, .int k b, .bool c]) = .returned (.tuple #[.int j d, .int k e, .bool f]) := by rw [h, h', h'']
theorem i64small (n : Int) (h₀ : 0 ≤ n) (h₁ : n < 2 ^ 63) : IntKind.i64.wrap n = n := by rw [IntKind.wrap_i64]; omega
theorem or_join (i : Nat) (hi : i ≤ 63) (x y : Int) (hx : 0 ≤ x) (hm : x % 2 ^ i = 0) (hx1 : x < 2 ^ 63) (hy : 0 ≤ y) (hy1 : y < 2 ^ i) : bits .or .i64 x y = x + y := by
  have h2 : (2 : Int) ^ i ≤ 2 ^ 63 := by exact_mod_cast Nat.pow_le_pow_right (by decide) hi
  exact bits_join .i64 63 (by decide) i64small i x y hx hm hx1 hy hy1 (by omega)
theorem and_mask (i : Nat) (hi : i ≤ 63) (x : Int) (h₀ : 0 ≤ x) (h₁ : x < 2 ^ 63) : bits .and .i64 x (2 ^ i - 1) = x % 2 ^ i :=
  bits_mask .i64 63 (by decide) i64small i hi x h₀ h₁
theorem below_drewN {B : Nat} {a w : World} (h : Below B a w) (n : Nat) : Below B a (w.drewN n) := ⟨h.os, h.tape, h.output, h.size, h.block⟩
theorem below_drewN2 {B : Nat} {a w : World} (h : Below B a w) (n : Nat) : Below B a { w with drawn := n } := ⟨h.os, h.tape, h.output, h.size, h.block⟩
theorem keep2 {W w1 w' : World} {x y : Value} (h : w1.cell? ⟨W.heap.size, 0, none⟩ = some x ∧ w1.cell? ⟨W.heap.size, 1, none⟩ = some y ∧ W.heap.size < w1.heap.size ∧ Below W.heap.size W w1) (hb : Below w1.heap.size w1 w') :
    w'.cell? ⟨W.heap.size, 0, none⟩ = some x ∧ w'.cell? ⟨W.heap.size, 1, none⟩ = some y ∧ W.heap.size < w'.heap.size ∧ Below W.heap.size W w' :=
  ⟨(hb.cell h.2.2.1).trans h.1, (hb.cell h.2.2.1).trans h.2.1, Nat.lt_of_lt_of_le h.2.2.1 hb.size, h.2.2.2.trans (hb.mono (Nat.le_of_lt h.2.2.1))⟩
theorem below_of {a b c : Prop} {B : Nat} {W w' : World} (h : a ∧ b ∧ c ∧ Below B W w') : Below B W w' := h.2.2.2
theorem size_drewN (w : World) (n : Nat) : (w.drewN n).heap.size = w.heap.size := rfl
theorem below_via {B B' : Nat} {a b c : World} (k : Below B' b c) (h : Below B a b) (hB : B ≤ B') : Below B a c := h.trans (k.mono hB)
end Go.Proofs.Ytpebepjfgnoaaaa
namespace Go.Proofs.Ytpebepjfgnoaaaa
set_option linter.unusedVariables false
set_option linter.unusedSimpArgs false
open Go.RowKit
/-- so many steps at most; what it comes to, and by how many. -/
def mRun {σ : Type} (f : σ → σ × (Int × Int) × Bool) (most : Nat) : Nat → σ → σ × (Int × Int) × Int
  | 0, q => (q, (-1, 0), most)
  | k + 1, q => if (f q).2.2 = true then ((f q).1, (f q).2.1, ((most - k : Nat) : Int)) else mRun f most k (f q).1
theorem mRun_done {σ : Type} {f : σ → σ × (Int × Int) × Bool} {most k : Nat} {q : σ} (h : (f q).2.2 = true) : mRun f most (k + 1) q = ((f q).1, (f q).2.1, ((most - k : Nat) : Int)) := by rw [mRun, if_pos h]
theorem mRun_more {σ : Type} {f : σ → σ × (Int × Int) × Bool} {most k : Nat} {q : σ} (h : (f q).2.2 = false) : mRun f most (k + 1) q = mRun f most k (f q).1 := by rw [mRun, if_neg (by rw [h]; decide)]
/-- the value of a result and whether it is the end. -/
def resV (r : Int × Int) (b : Bool) : Value := .tuple #[.agg #[.int .i64 r.1, .int .i64 r.2], .bool b]
def resN (r : Int × Int) (n : Int) : Value := .tuple #[.agg #[.int .i64 r.1, .int .i64 r.2], .int .i64 n]
theorem erase_last {α : Type} (l : List α) (a : α) : (l ++ [a]).eraseIdx l.length = l := by
  rw [List.eraseIdx_append_of_length_le (Nat.le_refl _)]; simp
end Go.Proofs.Ytpebepjfgnoaaaa
namespace Go.Proofs.Ytpebepjfgnoaaaa
set_option linter.unusedVariables false
set_option linter.unusedSimpArgs false
open Go.RowKit
theorem blk_cell {w : World} {b : Nat} {c : Array Value} {t : TypeId} {f : Nat × Nat} (h : w.heap[b]? = some (.cells c t f)) (o : Nat) : w.cell? ⟨b, o, none⟩ = c[o]? := by simp [World.cell?, h]
theorem blk_free {w : World} {b : Nat} {c : Array Value} {t : TypeId} (h : w.heap[b]? = some (.cells c t (0, 0))) (o : Nat) : w.frozen? ⟨b, o, none⟩ = false := by simp [World.frozen?, h]
theorem blk_lt {w : World} {b : Nat} {x : Obj} (h : w.heap[b]? = some x) : b < w.heap.size := by
  rcases Nat.lt_or_ge b w.heap.size with h' | h'
  · exact h'
  · rw [Array.getElem?_eq_none h'] at h; cases h
theorem blk_set {w : World} {b : Nat} {c : Array Value} {t : TypeId} {f : Nat × Nat} (h : w.heap[b]? = some (.cells c t f)) (o : Nat) (v : Value) : (w.setCell ⟨b, o, none⟩ v).heap[b]? = some (.cells (c.setIfInBounds o v) t f) := by
  simp [World.setCell, Array.getElem?_modify, h]
theorem blk_set_ne {w : World} {b : Nat} {a : Addr} {x : Option Obj} (h : w.heap[b]? = x) (hn : b ≠ a.block) (v : Value) : (w.setCell a v).heap[b]? = x := by
  rw [← h]; simp [World.setCell, Array.getElem?_modify]; intro he; exact absurd he.symm hn
theorem blk_alloc {w : World} {b : Nat} {x : Obj} (h : w.heap[b]? = some x) (o : Obj) : (w.alloc o).heap[b]? = some x := by
  rw [← h]; exact Below.heap_alloc w o b (blk_lt h)
theorem blk_new (w : World) (o : Obj) : (w.alloc o).heap[w.heap.size]? = some o := by show (w.heap.push o)[w.heap.size]? = some o; simp
theorem blk_below {w w' : World} {b B : Nat} {x : Option Obj} (h : w.heap[b]? = x) (hb : Below B w w') (hB : b < B) : w'.heap[b]? = x := by rw [hb.block b hB]; exact h
theorem blk_drewN {w : World} {b : Nat} {x : Option Obj} (h : w.heap[b]? = x) (n : Nat) : (w.drewN n).heap[b]? = x := h
theorem blk_drew {w : World} {b : Nat} {x : Option Obj} (h : w.heap[b]? = x) : w.drew.heap[b]? = x := h
theorem blk6 {w : World} {b : Nat} {t : TypeId} {f : Nat × Nat} {a0 a1 a2 a3 a4 a5 : Value} (h : w.heap[b]? = some (.cells #[a0, a1, a2, a3, a4, a5] t f)) (v0 v1 v2 v3 v4 v5 : Value) :
    ((((((w.setCell ⟨b, 0, none⟩ v0).setCell ⟨b, 1, none⟩ v1).setCell ⟨b, 2, none⟩ v2).setCell ⟨b, 3, none⟩ v3).setCell ⟨b, 4, none⟩ v4).setCell ⟨b, 5, none⟩ v5).heap[b]? = some (.cells #[v0, v1, v2, v3, v4, v5] t f) := by
  rw [blk_set (blk_set (blk_set (blk_set (blk_set (blk_set h 0 v0) 1 v1) 2 v2) 3 v3) 4 v4) 5 v5]
  rfl
theorem blk6_ne {w : World} {b c : Nat} {x : Option Obj} (h : w.heap[c]? = x) (hn : c ≠ b) (v0 v1 v2 v3 v4 v5 : Value) :
    ((((((w.setCell ⟨b, 0, none⟩ v0).setCell ⟨b, 1, none⟩ v1).setCell ⟨b, 2, none⟩ v2).setCell ⟨b, 3, none⟩ v3).setCell ⟨b, 4, none⟩ v4).setCell ⟨b, 5, none⟩ v5).heap[c]? = x :=
  blk_set_ne (blk_set_ne (blk_set_ne (blk_set_ne (blk_set_ne (blk_set_ne h (a := ⟨b, 0, none⟩) hn v0) (a := ⟨b, 1, none⟩) hn v1) (a := ⟨b, 2, none⟩) hn v2) (a := ⟨b, 3, none⟩) hn v3) (a := ⟨b, 4, none⟩) hn v4) (a := ⟨b, 5, none⟩) hn v5
theorem below6 {w w' : World} {b c : Nat} (h : Below c w' w) (hn : c ≤ b) (v0 v1 v2 v3 v4 v5 : Value) :
    Below c w' ((((((w.setCell ⟨b, 0, none⟩ v0).setCell ⟨b, 1, none⟩ v1).setCell ⟨b, 2, none⟩ v2).setCell ⟨b, 3, none⟩ v3).setCell ⟨b, 4, none⟩ v4).setCell ⟨b, 5, none⟩ v5) :=
  (((((h.setCell (p := ⟨b, 0, none⟩) hn _).setCell (p := ⟨b, 1, none⟩) hn _).setCell (p := ⟨b, 2, none⟩) hn _).setCell (p := ⟨b, 3, none⟩) hn _).setCell (p := ⟨b, 4, none⟩) hn _).setCell (p := ⟨b, 5, none⟩) hn _
end Go.Proofs.Ytpebepjfgnoaaaa
namespace Go.Proofs.Ytpebepjfgnoaaaa
set_option linter.unusedVariables false
set_option linter.unusedSimpArgs false
open Go.RowKit
abbrev Grp := List (Nat × Obj)
def Owns (B : Nat) (W w : World) (G : List Grp) : Prop :=
  Below B W w ∧ B ≤ w.heap.size ∧ (G.flatten.map Prod.fst).Nodup ∧ ∀ x ∈ G.flatten, B ≤ x.1 ∧ w.heap[x.1]? = some x.2
theorem flat_set {α : Type} : ∀ (G : List (List α)) (i j : Nat) (g : List α) (x y : α), G[i]? = some g → g[j]? = some x → ∃ k, G.flatten[k]? = some x ∧ (G.set i (g.set j y)).flatten = G.flatten.set k y
  | [], _, _, _, _, _, h, _ => by simp at h
  | a :: G, 0, j, g, x, y, h, hj => by
    simp only [List.getElem?_cons_zero, Option.some.injEq] at h
    subst h
    have hl : j < a.length := (List.getElem?_eq_some_iff.1 hj).1
    refine ⟨j, ?_, ?_⟩
    · rw [List.flatten_cons, List.getElem?_append_left hl]; exact hj
    · rw [List.set_cons_zero, List.flatten_cons, List.flatten_cons, List.set_append_left _ _ hl]
  | a :: G, i + 1, j, g, x, y, h, hj => by
    obtain ⟨k, h1, h2⟩ := flat_set G i j g x y (by simpa using h) hj
    refine ⟨a.length + k, ?_, ?_⟩
    · rw [List.flatten_cons, List.getElem?_append_right (by omega)]; simpa using h1
    · rw [List.set_cons_succ, List.flatten_cons, List.flatten_cons, h2, List.set_append_right _ _ (by omega)]
      simp
theorem mem_flat_set {α : Type} : ∀ (G : List (List α)) (i : Nat) (g' : List α) (x : α), x ∈ (G.set i g').flatten → x ∈ g' ∨ x ∈ G.flatten
  | [], _, _, _, h => by simp at h
  | a :: G, 0, g', x, h => by
    rw [List.set_cons_zero, List.flatten_cons, List.mem_append] at h
    rcases h with h | h
    · exact .inl h
    · exact .inr (by rw [List.flatten_cons, List.mem_append]; exact .inr h)
  | a :: G, i + 1, g', x, h => by
    rw [List.set_cons_succ, List.flatten_cons, List.mem_append] at h
    rcases h with h | h
    · exact .inr (by rw [List.flatten_cons, List.mem_append]; exact .inl h)
    · rcases mem_flat_set G i g' x h with h' | h'
      · exact .inl h'
      · exact .inr (by rw [List.flatten_cons, List.mem_append]; exact .inr h')
theorem nodup_flat_set : ∀ (G : List Grp) (i : Nat) (g' : Grp), (G.flatten.map Prod.fst).Nodup → (g'.map Prod.fst).Nodup → (∀ x ∈ g', ∀ y ∈ G.flatten, x.1 ≠ y.1) → ((G.set i g').flatten.map Prod.fst).Nodup
  | [], _, _, h, _, _ => h
  | a :: G, 0, g', h, h', hd => by
    rw [List.set_cons_zero, List.flatten_cons, List.map_append, List.nodup_append]
    rw [List.flatten_cons, List.map_append, List.nodup_append] at h
    refine ⟨h', h.2.1, ?_⟩
    intro n hn m hm
    obtain ⟨x, hx, rfl⟩ := List.mem_map.1 hn
    obtain ⟨y, hy, rfl⟩ := List.mem_map.1 hm
    exact hd x hx y (by rw [List.flatten_cons, List.mem_append]; exact .inr hy)
  | a :: G, i + 1, g', h, h', hd => by
    rw [List.set_cons_succ, List.flatten_cons, List.map_append, List.nodup_append]
    rw [List.flatten_cons, List.map_append, List.nodup_append] at h
    refine ⟨h.1, nodup_flat_set G i g' h.2.1 h' (fun x hx y hy => hd x hx y (by rw [List.flatten_cons, List.mem_append]; exact .inr hy)), ?_⟩
    intro n hn m hm
    obtain ⟨x, hx, rfl⟩ := List.mem_map.1 hn
    obtain ⟨y, hy, rfl⟩ := List.mem_map.1 hm
    rcases mem_flat_set G i g' y hy with hy | hy
    · exact (hd y hy x (by rw [List.flatten_cons, List.mem_append]; exact .inl hx)).symm
    · exact h.2.2 _ (List.mem_map.2 ⟨x, hx, rfl⟩) _ (List.mem_map.2 ⟨y, hy, rfl⟩)
theorem nodup_inj {α : Type} {l : List α} (h : l.Nodup) {i j : Nat} {x : α} (hi : l[i]? = some x) (hj : l[j]? = some x) : i = j := by
  obtain ⟨i1, e1⟩ := List.getElem?_eq_some_iff.1 hi
  obtain ⟨j1, e2⟩ := List.getElem?_eq_some_iff.1 hj
  rcases Nat.lt_trichotomy i j with c | c | c
  · exact absurd (e1.trans e2.symm) ((List.pairwise_iff_getElem.1 h) i j i1 j1 c)
  · exact c
  · exact absurd (e2.trans e1.symm) ((List.pairwise_iff_getElem.1 h) j i j1 i1 c)
theorem sub_flat {α : Type} {G G' : List (List α)} (h : G'.Sublist G) : G'.flatten.Sublist G.flatten := by
  induction h with
  | slnil => exact List.Sublist.refl _
  | cons a _ ih => rw [List.flatten_cons]; exact ih.trans (List.sublist_append_right _ _)
  | cons_cons a _ ih => rw [List.flatten_cons, List.flatten_cons]; exact (List.Sublist.refl _).append ih
namespace Owns
variable {B : Nat} {W w w' : World} {G : List Grp}
theorem nil (W : World) : Owns W.heap.size W W [] := ⟨Below.refl _ _, Nat.le_refl _, by simp, by simp⟩
theorem below (h : Owns B W w G) : Below B W w := h.1
theorem base (h : Owns B W w G) : B ≤ w.heap.size := h.2.1
theorem mem (h : Owns B W w G) (i j : Nat) {g : Grp} {b : Nat} {o : Obj} (hi : G[i]? = some g) (hj : g[j]? = some (b, o)) : B ≤ b ∧ w.heap[b]? = some o :=
  h.2.2.2 (b, o) (List.mem_flatten.2 ⟨g, List.mem_of_getElem? hi, List.mem_of_getElem? hj⟩)
theorem get (h : Owns B W w G) (i j : Nat) {g : Grp} {b : Nat} {o : Obj} (hi : G[i]? = some g) (hj : g[j]? = some (b, o)) : w.heap[b]? = some o := (h.mem i j hi hj).2
theorem ge (h : Owns B W w G) (i j : Nat) {g : Grp} {b : Nat} {o : Obj} (hi : G[i]? = some g) (hj : g[j]? = some (b, o)) : B ≤ b := (h.mem i j hi hj).1
theorem lt (h : Owns B W w G) (i j : Nat) {g : Grp} {b : Nat} {o : Obj} (hi : G[i]? = some g) (hj : g[j]? = some (b, o)) : b < w.heap.size := blk_lt (h.get i j hi hj)
theorem all_lt (h : Owns B W w G) : ∀ x ∈ G.flatten, x.1 < w.heap.size := fun x hx => blk_lt (h.2.2.2 x hx).2
theorem cell (h : Owns B W w G) (i j : Nat) {g : Grp} {b : Nat} {c : Array Value} {t : TypeId} {f : Nat × Nat} (hi : G[i]? = some g) (hj : g[j]? = some (b, .cells c t f)) (o : Nat) : w.cell? ⟨b, o, none⟩ = c[o]? := blk_cell (h.get i j hi hj) o
theorem drew (h : Owns B W w G) : Owns B W w.drew G := ⟨h.1.drew, h.2.1, h.2.2.1, h.2.2.2⟩
theorem drewN (h : Owns B W w G) (n : Nat) : Owns B W (w.drewN n) G := ⟨below_drewN h.1 n, h.2.1, h.2.2.1, h.2.2.2⟩
theorem via (h : Owns B W w G) (hb : Below w.heap.size w w') : Owns B W w' G :=
  ⟨h.1.trans (hb.mono h.2.1), Nat.le_trans h.2.1 hb.size, h.2.2.1, fun x hx => ⟨(h.2.2.2 x hx).1, by rw [hb.block x.1 (h.all_lt x hx)]; exact (h.2.2.2 x hx).2⟩⟩
theorem alloc (h : Owns B W w G) (o : Obj) : Owns B W (w.alloc o) ([(w.heap.size, o)] :: G) := by
  have hb : Below w.heap.size w (w.alloc o) := (Below.refl _ _).alloc (Nat.le_refl _) _
  have h' := h.via hb
  refine ⟨h'.1, h'.2.1, ?_, ?_⟩
  · rw [List.flatten_cons, List.map_append, List.nodup_append]
    refine ⟨by simp, h.2.2.1, ?_⟩
    intro n hn m hm
    obtain ⟨y, hy, rfl⟩ := List.mem_map.1 hm
    have := h.all_lt y hy
    simp at hn; omega
  · intro x hx
    rw [List.flatten_cons, List.mem_append] at hx
    rcases hx with hx | hx
    · simp at hx; subst hx; exact ⟨h.2.1, blk_new w o⟩
    · exact h'.2.2.2 x hx
theorem drop (h : Owns B W w G) (i : Nat) : Owns B W w (G.eraseIdx i) := by
  have hs : (G.eraseIdx i).flatten.Sublist G.flatten := sub_flat (List.eraseIdx_sublist G i)
  exact ⟨h.1, h.2.1, h.2.2.1.sublist (hs.map _), fun x hx => h.2.2.2 x (hs.subset hx)⟩
theorem sub {G' : List Grp} (h : Owns B W w G) (hs : G'.Sublist G) : Owns B W w G' :=
  ⟨h.1, h.2.1, h.2.2.1.sublist ((sub_flat hs).map _), fun x hx => h.2.2.2 x ((sub_flat hs).subset hx)⟩
theorem tail {a : Grp} (h : Owns B W w (a :: G)) : Owns B W w G := h.sub (List.sublist_cons_self _ _)
theorem perm {G' : List Grp} (h : Owns B W w G) (hp : G.Perm G') : Owns B W w G' :=
  ⟨h.1, h.2.1, (hp.flatten.map _).nodup_iff.1 h.2.2.1, fun x hx => h.2.2.2 x (hp.flatten.mem_iff.2 hx)⟩
/-- what is new stands last. -/
theorem last {a : Grp} (h : Owns B W w (a :: G)) : Owns B W w (G ++ [a]) := h.perm (List.perm_append_singleton a G).symm
theorem more (h : Owns B W w G) (o : Obj) : Owns B W (w.alloc o) (G ++ [[(w.heap.size, o)]]) := (h.alloc o).last
/-- two groups as one. -/
theorem join {a b : Grp} (h : Owns B W w (a :: b :: G)) : Owns B W w ((a ++ b) :: G) := by
  have e : ((a ++ b) :: G).flatten = (a :: b :: G).flatten := by simp
  unfold Owns; rw [e]; exact h
theorem split {a b : Grp} (h : Owns B W w ((a ++ b) :: G)) : Owns B W w (a :: b :: G) := by
  have e : ((a ++ b) :: G).flatten = (a :: b :: G).flatten := by simp
  unfold Owns; rw [← e]; exact h
theorem ne_flat (h : Owns B W w G) {k m : Nat} {x y : Nat × Obj} (hk : G.flatten[k]? = some x) (hm : G.flatten[m]? = some y) (hne : k ≠ m) : x.1 ≠ y.1 := by
  intro he
  have h1 : (G.flatten.map Prod.fst)[k]? = some x.1 := by rw [List.getElem?_map, hk]; rfl
  have h2 : (G.flatten.map Prod.fst)[m]? = some x.1 := by rw [List.getElem?_map, hm, he]; rfl
  exact hne (nodup_inj h.2.2.1 h1 h2)
theorem ne_in (h : Owns B W w G) (i j k : Nat) {g : Grp} {b c : Nat} {o p : Obj} (hi : G[i]? = some g) (hj : g[j]? = some (b, o)) (hk : g[k]? = some (c, p)) (hne : j ≠ k) : b ≠ c := by
  have hn : (g.map Prod.fst).Nodup := h.2.2.1.sublist ((List.sublist_flatten_of_mem (List.mem_of_getElem? hi)).map _)
  intro he
  have h1 : (g.map Prod.fst)[j]? = some b := by rw [List.getElem?_map, hj]; rfl
  have h2 : (g.map Prod.fst)[k]? = some b := by rw [List.getElem?_map, hk, he]; rfl
  exact hne (nodup_inj hn h1 h2)
theorem pair {α β : Type} {f : α → β} : ∀ (G : List (List α)) (i k : Nat) (g g' : List α), i < k → G[i]? = some g → G[k]? = some g' → (g ++ g').Sublist G.flatten
  | [], _, _, _, _, _, h, _ => by simp at h
  | a :: G, 0, k + 1, g, g', _, h, h' => by
    simp at h h'
    subst h
    rw [List.flatten_cons]
    exact (List.Sublist.refl _).append (List.sublist_flatten_of_mem (List.mem_of_getElem? h'))
  | a :: G, i + 1, k + 1, g, g', hl, h, h' => by
    rw [List.flatten_cons]
    exact (pair (f := f) G i k g g' (by omega) (by simpa using h) (by simpa using h')).trans (List.sublist_append_right _ _)
theorem ne_out (h : Owns B W w G) (i k j m : Nat) {g g' : Grp} {b c : Nat} {o p : Obj} (hi : G[i]? = some g) (hk : G[k]? = some g') (hj : g[j]? = some (b, o)) (hm : g'[m]? = some (c, p)) (hne : i ≠ k) : b ≠ c := by
  have key : ∀ (i k : Nat) (g g' : Grp) (x y : Nat × Obj), i < k → G[i]? = some g → G[k]? = some g' → x ∈ g → y ∈ g' → x.1 ≠ y.1 := by
    intro i k g g' x y hl hi hk hx hy
    have hs := h.2.2.1.sublist ((pair (f := Prod.fst) G i k g g' hl hi hk).map Prod.fst)
    rw [List.map_append, List.nodup_append] at hs
    exact hs.2.2 _ (List.mem_map.2 ⟨x, hx, rfl⟩) _ (List.mem_map.2 ⟨y, hy, rfl⟩)
  rcases Nat.lt_or_ge i k with hl | hl
  · exact key i k g g' (b, o) (c, p) hl hi hk (List.mem_of_getElem? hj) (List.mem_of_getElem? hm)
  · exact (key k i g' g (c, p) (b, o) (by omega) hk hi (List.mem_of_getElem? hm) (List.mem_of_getElem? hj)).symm
/-- one block turned, all else as it was. -/
theorem turn (h : Owns B W w G) (i j : Nat) {g : Grp} {b : Nat} {o : Obj} (hi : G[i]? = some g) (hj : g[j]? = some (b, o)) (o' : Obj) (hos : w'.os = w.os) (htp : w'.tape = w.tape) (hou : w'.output = w.output) (hsz : w.heap.size ≤ w'.heap.size)
    (hn : w'.heap[b]? = some o') (hk : ∀ c, c < w.heap.size → c ≠ b → w'.heap[c]? = w.heap[c]?) : Owns B W w' (G.set i (g.set j (b, o'))) := by
  obtain ⟨k, e1, e2⟩ := flat_set G i j g (b, o) (b, o') hi hj
  have hb := h.ge i j hi hj
  unfold Owns
  rw [e2]
  have em : (G.flatten.set k (b, o')).map Prod.fst = G.flatten.map Prod.fst := by
    rw [List.map_set]
    apply List.ext_getElem?
    intro m
    rw [List.getElem?_set]
    split
    · rename_i hm; subst hm
      split
      · rename_i hl; rw [List.getElem?_map, e1]; rfl
      · rename_i hl; rw [List.getElem?_eq_none (by omega)]
    · rfl
  refine ⟨h.1.trans ⟨hos, htp, hou, hsz, fun c hc => hk c (Nat.lt_of_lt_of_le hc h.2.1) (by omega)⟩, Nat.le_trans h.2.1 hsz, by rw [em]; exact h.2.2.1, ?_⟩
  intro x hx
  obtain ⟨m, hm⟩ := List.mem_iff_getElem?.1 hx
  rw [List.getElem?_set] at hm
  split at hm
  · split at hm
    · simp at hm; subst hm; exact ⟨hb, hn⟩
    · simp at hm
  · rename_i hne
    have hne' := h.ne_flat e1 hm hne
    have hx' : x ∈ G.flatten := List.mem_of_getElem? hm
    exact ⟨(h.2.2.2 x hx').1, by rw [hk x.1 (h.all_lt x hx') (fun e => hne' e.symm)]; exact (h.2.2.2 x hx').2⟩
theorem set (h : Owns B W w G) (i j : Nat) {g : Grp} {b : Nat} {c : Array Value} {t : TypeId} {f : Nat × Nat} (hi : G[i]? = some g) (hj : g[j]? = some (b, .cells c t f)) (o : Nat) (v : Value) :
    Owns B W (w.setCell ⟨b, o, none⟩ v) (G.set i (g.set j (b, .cells (c.setIfInBounds o v) t f))) :=
  h.turn i j hi hj _ rfl rfl rfl (by simp [World.setCell]) (blk_set (h.get i j hi hj) o v) (fun c _ hne => blk_set_ne (a := ⟨b, o, none⟩) rfl hne v)
/-- a group given up for one that is new. -/
theorem fresh (h : Owns B W w G) (hb : Below w.heap.size w w') (i : Nat) (g' : Grp) (hn : (g'.map Prod.fst).Nodup) (hg : ∀ x ∈ g', w.heap.size ≤ x.1 ∧ w'.heap[x.1]? = some x.2) : Owns B W w' (G.set i g') := by
  have h' := h.via hb
  refine ⟨h'.1, h'.2.1, nodup_flat_set G i g' h.2.2.1 hn (fun x hx y hy => by have := h.all_lt y hy; have := (hg x hx).1; omega), ?_⟩
  intro x hx
  rcases mem_flat_set G i g' x hx with hx | hx
  · exact ⟨Nat.le_trans h.2.1 (hg x hx).1, (hg x hx).2⟩
  · exact h'.2.2.2 x hx
end Owns
end Go.Proofs.Ytpebepjfgnoaaaa
namespace Go.Proofs.Ytpebepjfgnoaaaa
set_option linter.unusedVariables false
set_option linter.unusedSimpArgs false
open Go.RowKit
/-- a mark at which the walk stands. -/
def Stop (p : Prop) : Prop := p
theorem stop_here {p : Prop} (h : Stop p) : p := h
theorem perm_erase {α : Type} : ∀ (l : List α) (i : Nat) (x : α), l[i]? = some x → l.Perm (x :: l.eraseIdx i)
  | [], _, _, h => by simp at h
  | a :: l, 0, x, h => by simp at h; subst h; exact List.Perm.refl _
  | a :: l, i + 1, x, h => by
    have := perm_erase l i x (by simpa using h)
    rw [List.eraseIdx_cons_succ]
    exact (this.cons a).trans (List.Perm.swap _ _ _)
theorem erase_set {α : Type} : ∀ (l : List α) (i : Nat) (x : α), (l.set i x).eraseIdx i = l.eraseIdx i
  | [], _, _ => rfl
  | _ :: _, 0, _ => rfl
  | a :: l, i + 1, x => by rw [List.set_cons_succ, List.eraseIdx_cons_succ, List.eraseIdx_cons_succ, erase_set l i x]
theorem Owns.trade {B : Nat} {W w w' : World} {G : List Grp} (h : Owns B W w G) (i : Nat) {g g' : Grp} (hi : G[i]? = some g) (hos : w'.os = w.os) (htp : w'.tape = w.tape) (hou : w'.output = w.output) (hsz : w.heap.size ≤ w'.heap.size)
    (hk : ∀ c, c < w.heap.size → (∀ x ∈ g, x.1 ≠ c) → w'.heap[c]? = w.heap[c]?) (hn : (g'.map Prod.fst).Nodup) (hg : ∀ y ∈ g', ((∃ x ∈ g, x.1 = y.1) ∨ w.heap.size ≤ y.1) ∧ w'.heap[y.1]? = some y.2) : Owns B W w' (G.set i g') := by
  have hp := perm_erase G i g hi
  have h2 := h.perm hp
  have hq := perm_erase (G.set i g') i g' (List.getElem?_set_self (List.getElem?_eq_some_iff.1 hi).1)
  rw [erase_set] at hq
  refine Owns.perm ?_ hq.symm
  generalize G.eraseIdx i = R at h2
  have hnd := h2.2.2.1
  rw [List.flatten_cons, List.map_append, List.nodup_append] at hnd
  have hmem : ∀ y ∈ R.flatten, B ≤ y.1 ∧ w.heap[y.1]? = some y.2 := fun y hy => h2.2.2.2 y (by rw [List.flatten_cons, List.mem_append]; exact .inr hy)
  have hg2 : ∀ y ∈ g, B ≤ y.1 ∧ w.heap[y.1]? = some y.2 := fun y hy => h2.2.2.2 y (by rw [List.flatten_cons, List.mem_append]; exact .inl hy)
  have hne : ∀ x ∈ g, ∀ y ∈ R.flatten, x.1 ≠ y.1 := fun x hx y hy => hnd.2.2 _ (List.mem_map.2 ⟨x, hx, rfl⟩) _ (List.mem_map.2 ⟨y, hy, rfl⟩)
  refine ⟨h.1.trans ⟨hos, htp, hou, hsz, fun c hc => hk c (Nat.lt_of_lt_of_le hc h.2.1) (fun x hx => by have := (hg2 x hx).1; omega)⟩, Nat.le_trans h.2.1 hsz, ?_, ?_⟩
  · rw [List.flatten_cons, List.map_append, List.nodup_append]
    refine ⟨hn, hnd.2.1, ?_⟩
    intro n hn' m hm'
    obtain ⟨y, hy, rfl⟩ := List.mem_map.1 hn'
    obtain ⟨z, hz, rfl⟩ := List.mem_map.1 hm'
    rcases (hg y hy).1 with ⟨x, hx, he⟩ | hge
    · rw [← he]; exact hne x hx z hz
    · have := blk_lt (hmem z hz).2; omega
  · intro x hx
    rw [List.flatten_cons, List.mem_append] at hx
    rcases hx with hx | hx
    · refine ⟨?_, (hg x hx).2⟩
      rcases (hg x hx).1 with ⟨y, hy, he⟩ | hge
      · rw [← he]; exact (hg2 y hy).1
      · exact Nat.le_trans h.2.1 hge
    · refine ⟨(hmem x hx).1, ?_⟩
      rw [hk x.1 (blk_lt (hmem x hx).2) (fun y hy => hne y hy x hx)]
      exact (hmem x hx).2
/-- the blocks of a slice of the call's own. -/
def rowG (e : TypeId) (v : Value) (cur : List Value) : Grp :=
  match v with
  | .slice (some a) _ _ => [(a.block, .cells cur.toArray e (0, 0))]
  | _ => []
/-- a slice of the call's own, elements of one cell: what it holds. -/
def RowOk (v : Value) (xs cur : List Value) : Prop :=
  (v = .slice none 0 0 ∧ xs = [] ∧ cur = []) ∨ ∃ g cap, v = .slice (some ⟨g, 0, none⟩) xs.length cap ∧ xs.length ≤ cap ∧ cap ≤ maxLen ∧ cur.length = cap ∧ cur.take xs.length = xs
theorem RowOk.nil : RowOk (.slice none 0 0) [] [] := .inl ⟨rfl, rfl, rfl⟩
theorem RowOk.cells {B : Nat} {W w : World} {G : List Grp} {e : TypeId} {v : Value} {xs cur : List Value} (hr : RowOk v xs cur) (h : Owns B W w G) (i : Nat) (hi : G[i]? = some (rowG e v cur)) (hne : xs ≠ []) :
    ∃ g cap, v = .slice (some ⟨g, 0, none⟩) xs.length cap ∧ ∀ j u, xs[j]? = some u → w.cell? ⟨g, j, none⟩ = some u := by
  rcases hr with ⟨rfl, rfl, rfl⟩ | ⟨g, cap, rfl, h1, h2, h3, h4⟩
  · exact absurd rfl hne
  · refine ⟨g, cap, rfl, fun j u hj => ?_⟩
    have hb := h.get i 0 hi (b := g) (o := .cells cur.toArray e (0, 0)) rfl
    rw [blk_cell hb j]
    rw [← h4, List.getElem?_take] at hj
    split at hj
    · simpa using hj
    · cases hj
theorem RowOk.owns {B : Nat} {W w : World} {G : List Grp} {e : TypeId} {v : Value} {xs cur : List Value} (hr : RowOk v xs cur) (h : Owns B W w G) (i : Nat) (hi : G[i]? = some (rowG e v cur)) : w.ownsRow 0 e 1 v xs.length xs := by
  refine ⟨by simp, ?_⟩
  rcases hr with ⟨rfl, rfl, rfl⟩ | ⟨g, cap, rfl, h1, h2, h3, h4⟩
  · exact .inl ⟨rfl, rfl⟩
  · exact .inr ⟨g, cap, cur.toArray, rfl, Nat.zero_le _, h.get i 0 hi rfl, h1, h2, by simp [h3], by simpa using h4⟩
theorem row_append {P : Program} {B : Nat} {W w : World} {G : List Grp} (t ty e : TypeId) (z : Value) (bytes : Nat) (ht : P.underlying t = some (.slice e)) (hinf : (P.info? e).map (fun i => (i.zero, i.size, i.bytes)) = some (some z, 1, bytes)) (hz : z.cells.size = 1) (hby : bytes ≤ 24)
    {v : Value} {xs cur : List Value} (h : Owns B W w G) (i : Nat) (hi : G[i]? = some (rowG e v cur)) (hr : RowOk v xs cur) (ad : Addr) (c : Nat) (news : List Value) (hnews : ∀ j u, news[j]? = some u → w.cell? (ad.add j) = some u) (h1 : ∀ u ∈ news, u.oneCell' = true) (h0 : 0 < news.length) (hlen : xs.length + news.length ≤ 1000000) :
    ∃ v' cur' w', (Builtin.append_ #[t, t] ty #[v, .slice (some ad) news.length c]).run P w = .ok v' w' ∧ RowOk v' (xs ++ news) cur' ∧ Owns B W w' (G.set i (rowG e v' cur')) := by
  obtain ⟨inf, hinf1, hinf2, hinf3, hinf4⟩ := info_parts hinf
  obtain ⟨g, cap, w', hrun, ho, hgr, hgg, hlt⟩ := run_append_lies (P := P) (w := w) t ty 0 e inf z 1 bytes ht hinf1 hinf2 hinf3 hinf4 hz (by decide) v xs.length xs (hr.owns h i hi) ad news.length c news (by simp) hnews h1 h0 (by unfold maxLen; omega) (Nat.le_trans (Nat.mul_le_mul hlen hby) (by decide)) (Nat.zero_le _) w.heap.size rfl
  rcases ho.2 with ⟨hx, -⟩ | ⟨g', cap', cur', hv, -, hheap, hle, hcap, hsz, htake⟩
  · cases hx
  · simp only [Value.slice.injEq, Option.some.injEq, Addr.mk.injEq, true_and, and_true] at hv
    obtain ⟨rfl, rfl⟩ : g = g' ∧ cap = cap' := by omega
    refine ⟨_, cur'.toList, w', hrun, .inr ⟨g, cap, by rw [List.length_append], by rw [List.length_append]; exact hle, hcap, by simpa using hsz, by rw [List.length_append]; simpa using htake⟩, ?_⟩
    refine h.trade i hi hgr.os hgr.tape hgr.output hgr.size ?_ (by simp [rowG]) ?_
    · intro k hk hne
      refine hgr.block k hk ?_
      intro he
      rcases hr with ⟨rfl, -, -⟩ | ⟨g2, cap2, rfl, -⟩
      · simp [Value.ownBlock] at he
      · simp [Value.ownBlock] at he
        exact hne (g2, .cells cur.toArray e (0, 0)) (by simp [rowG]) he.symm
    · intro y hy
      simp [rowG] at hy
      subst hy
      refine ⟨?_, by simpa using hheap⟩
      rcases hgg with hgg | hgg
      · left
        rcases hr with ⟨rfl, -, -⟩ | ⟨g2, cap2, rfl, -⟩
        · simp [Value.ownBlock] at hgg
        · simp [Value.ownBlock] at hgg
          exact ⟨(g2, .cells cur.toArray e (0, 0)), by simp [rowG], hgg⟩
      · right; show w.heap.size ≤ g; omega
theorem wpList_append_row {P : Program} {ops : Array Oper} {rest : List Oper} {o : Oper} {a : Act} {Q : Exit → Act → World → Prop} {w : World} (hgd : o.guard = none) (s x : Operand) (t : TypeId)
    (ho : o.op = .call { callee := .builtin .append, args := #[s, x], argTypes := #[t, t] }) {B : Nat} {W : World} {G : List Grp} (e : TypeId) (z : Value) (bytes : Nat) (ht : P.underlying t = some (.slice e)) (hinf : (P.info? e).map (fun i => (i.zero, i.size, i.bytes)) = some (some z, 1, bytes)) (hz : z.cells.size = 1) (hby : bytes ≤ 24)
    {v : Value} {xs cur : List Value} (hs : a.eval s = v) (h : Owns B W w G) (i : Nat) (hi : G[i]? = some (rowG e v cur)) (hr : RowOk v xs cur) (ad : Addr) (m c : Nat) (news : List Value) (hx : a.eval x = .slice (some ad) m c) (hm : m = news.length)
    (hnews : ∀ j u, news[j]? = some u → w.cell? (ad.add j) = some u) (h1 : ∀ u ∈ news, u.oneCell' = true) (h0 : 0 < news.length) (hlen : xs.length + news.length ≤ 1000000)
    (hK : ∀ v' cur' w', RowOk v' (xs ++ news) cur' → Owns B W w' (G.set i (rowG e v' cur')) → wpList P ops Q rest (a.put o.dst v') w') : wpList P ops Q (o :: rest) a w := by
  subst hm
  obtain ⟨v', cur', w', hrun, hr', hO'⟩ := row_append (P := P) t o.type e z bytes ht hinf hz hby h i hi hr ad c news hnews h1 h0 hlen
  refine wpList_plain hgd fun K hK' => ?_
  unfold Oper.wp execOp
  simp only [ho, resolve, invoke, builtin, Sem.run_bind, Sem.run_pure, Result.andThen_ok, List.map_toArray, List.map_cons, List.map_nil, hs, hx, hrun]
  exact hK' _ _ (hK v' cur' w' hr' hO')
end Go.Proofs.Ytpebepjfgnoaaaa
namespace Go.Proofs.Ytpebepjfgnoaaaa
set_option linter.unusedVariables false
set_option linter.unusedSimpArgs false
open Go.RowKit
def upd {α : Type} (E : Nat → α) (t : Nat) (g : α) : Nat → α := fun j => if j = t then g else E j
theorem upd_same {α : Type} (E : Nat → α) (t : Nat) (g : α) : upd E t g t = g := if_pos rfl
theorem upd_ne {α : Type} (E : Nat → α) {t j : Nat} (g : α) (h : j ≠ t) : upd E t g j = E j := if_neg h
def fam {α : Type} (E : Nat → α) (n : Nat) : List α := (List.range n).map E
theorem fam_len {α : Type} (E : Nat → α) (n : Nat) : (fam E n).length = n := by simp [fam]
theorem fam_get {α : Type} (E : Nat → α) {n t : Nat} (h : t < n) : (fam E n)[t]? = some (E t) := by simp [fam, h]
theorem fam_set {α : Type} (E : Nat → α) (n t : Nat) (g : α) : (fam E n).set t g = fam (upd E t g) n := by
  apply List.ext_getElem?
  intro j
  rw [List.getElem?_set]
  by_cases hj : j < n
  · rw [fam_get _ hj, fam_len]
    by_cases e : t = j
    · subst e; rw [fam_get _ hj]; simp [upd, hj]
    · have e' : ¬ j = t := fun h => e h.symm
      simp [upd, e, e', fam_get _ hj]
  · have h1 : (fam (upd E t g) n)[j]? = none := List.getElem?_eq_none (by rw [fam_len]; omega)
    have h2 : (fam E n)[j]? = none := List.getElem?_eq_none (by rw [fam_len]; omega)
    rw [h1, h2]
    split
    · rename_i e; subst e; rw [fam_len, if_neg hj]
    · rfl
/-- cells in a row, by place. -/
def rowA (P : Nat → Value) (n : Nat) : Array Value := (fam P n).toArray
theorem rowA_get (P : Nat → Value) {n t : Nat} (h : t < n) : (rowA P n)[t]? = some (P t) := by simp [rowA, fam_get P h]
theorem rowA_set (P : Nat → Value) (n t : Nat) (v : Value) : (rowA P n).setIfInBounds t v = rowA (upd P t v) n := by
  unfold rowA; rw [List.setIfInBounds_toArray, fam_set]
theorem set_perm {α : Type} : ∀ (G : List α) (i : Nat) (g : α), ∃ M L : List α, (g :: G).Perm M ∧ L.Sublist M ∧ L.Perm (G.set i g)
  | [], i, g => ⟨[g], [], List.Perm.refl _, List.nil_sublist _, by simp⟩
  | a :: G, 0, g => ⟨g :: a :: G, g :: G, List.Perm.refl _, (List.sublist_cons_self a G).cons_cons g, by simp⟩
  | a :: G, i + 1, g => by
    obtain ⟨M, L, h1, h2, h3⟩ := set_perm G i g
    refine ⟨a :: M, a :: L, (List.Perm.swap a g G).trans (h1.cons a), h2.cons_cons a, ?_⟩
    rw [List.set_cons_succ]; exact h3.cons a
/-- a group that is new takes another's place. -/
theorem Owns.place {B : Nat} {W w : World} {G : List Grp} {g : Grp} (h : Owns B W w (g :: G)) (i : Nat) : Owns B W w (G.set i g) := by
  obtain ⟨M, L, h1, h2, h3⟩ := set_perm G i g
  exact ((h.perm h1).sub h2).perm h3
/-- what a group held is given up. -/
theorem Owns.none {B : Nat} {W w : World} {G : List Grp} (h : Owns B W w G) (i : Nat) : Owns B W w (G.set i []) := by
  have e : ([] :: G : List Grp).flatten = G.flatten := by simp
  have h' : Owns B W w ([] :: G) := by unfold Owns; rw [e]; exact h
  exact h'.place i
theorem Owns.nil1 {B : Nat} {W w : World} {G : List Grp} (h : Owns B W w G) : Owns B W w ([] :: G) := by
  have e : ([] :: G : List Grp).flatten = G.flatten := by simp
  unfold Owns; rw [e]; exact h
theorem fam_nil_flat (n : Nat) : (fam (fun _ => ([] : Grp)) n).flatten = [] := by
  rw [List.flatten_eq_nil_iff]
  intro l hl
  obtain ⟨j, -, rfl⟩ := List.mem_map.1 hl
  rfl
theorem Owns.nils {B : Nat} {W w : World} {G : List Grp} (h : Owns B W w G) (n : Nat) : Owns B W w (G ++ fam (fun _ => []) n) := by
  have e : (G ++ fam (fun _ => ([] : Grp)) n).flatten = G.flatten := by rw [List.flatten_append, fam_nil_flat, List.append_nil]
  unfold Owns; rw [e]; exact h
end Go.Proofs.Ytpebepjfgnoaaaa
