/- Reading an argument that is made of whole numbers and bools alone (structs and arrays within one another): its cells, one behind the other. -/
import Derived.WalkKit
import Derived.ProofKit
import Derived.OpenShut
import Derived.ChangeOld
import Derived.Below
import Derived.SizedLaws
import Derived.Carry
import Derived.Deep.Slices
import Derived.KernelRfl
namespace Go.Proofs.Ytpebepjfgnoaaaa
set_option linter.unusedVariables false
set_option linter.unusedSimpArgs false
open Go.ChangeShapes Go.WideShapes Go.ChangeAt Go.RowKit
inductive FK where | i | b | s (ks : List Bool)
def F0ok : Bool → Value → Prop
  | true, v => ∃ n : Int, v = .int .i64 n ∧ -9223372036854775808 ≤ n ∧ n ≤ 9223372036854775807
  | false, v => ∃ x : Bool, v = .bool x
def All0 : List Bool → List Value → Prop
  | [], [] => True
  | k :: ks, v :: vs => F0ok k v ∧ All0 ks vs
  | _, _ => False
theorem All0.nil' {cs : List Value} (h : All0 [] cs) : cs = [] := by cases cs with | nil => rfl | cons => exact h.elim
theorem All0.i' {ks : List Bool} {cs : List Value} (h : All0 (true :: ks) cs) : ∃ (n : Int) (vs : List Value), cs = .int .i64 n :: vs ∧ -9223372036854775808 ≤ n ∧ n ≤ 9223372036854775807 ∧ All0 ks vs := by
  cases cs with
  | nil => exact h.elim
  | cons v vs => obtain ⟨⟨n, rfl, h1, h2⟩, h3⟩ := h; exact ⟨n, vs, rfl, h1, h2, h3⟩
theorem All0.b' {ks : List Bool} {cs : List Value} (h : All0 (false :: ks) cs) : ∃ (n : Bool) (vs : List Value), cs = .bool n :: vs ∧ All0 ks vs := by
  cases cs with
  | nil => exact h.elim
  | cons v vs => obtain ⟨⟨n, rfl⟩, h3⟩ := h; exact ⟨n, vs, rfl, h3⟩
/-- a slice that came in, of elements of so many whole numbers and bools. -/
def SArg (w : World) (ks : List Bool) (v : Value) (xs : List (List Value)) : Prop :=
  (xs = [] ∧ ∃ pa cap, v = .slice pa 0 cap) ∨
  ∃ b o cap, v = .slice (some ⟨b, o, none⟩) xs.length cap ∧ xs.length ≤ maxLen ∧ b < w.heap.size ∧
    ∀ i y, xs[i]? = some y → All0 ks y ∧ ∀ j u, y[j]? = some u → w.cell? ⟨b, o + (i * ks.length + j), none⟩ = some u
def FKok (w : World) : FK → Value → Prop
  | .i, v => ∃ n : Int, v = .int .i64 n ∧ -9223372036854775808 ≤ n ∧ n ≤ 9223372036854775807
  | .b, v => ∃ x : Bool, v = .bool x
  | .s ks, v => ∃ xs, SArg w ks v xs
def All2 (w : World) : List FK → List Value → Prop
  | [], [] => True
  | k :: ks, v :: vs => FKok w k v ∧ All2 w ks vs
  | _, _ => False
theorem All2.nil' {w : World} {cs : List Value} (h : All2 w [] cs) : cs = [] := by cases cs with | nil => rfl | cons => exact h.elim
theorem All2.i' {w : World} {ks : List FK} {cs : List Value} (h : All2 w (.i :: ks) cs) : ∃ (n : Int) (vs : List Value), cs = .int .i64 n :: vs ∧ -9223372036854775808 ≤ n ∧ n ≤ 9223372036854775807 ∧ All2 w ks vs := by
  cases cs with
  | nil => exact h.elim
  | cons v vs => obtain ⟨⟨n, rfl, h1, h2⟩, h3⟩ := h; exact ⟨n, vs, rfl, h1, h2, h3⟩
theorem All2.b' {w : World} {ks : List FK} {cs : List Value} (h : All2 w (.b :: ks) cs) : ∃ (n : Bool) (vs : List Value), cs = .bool n :: vs ∧ All2 w ks vs := by
  cases cs with
  | nil => exact h.elim
  | cons v vs => obtain ⟨⟨n, rfl⟩, h3⟩ := h; exact ⟨n, vs, rfl, h3⟩
theorem All2.s' {w : World} {ks : List FK} {bs : List Bool} {cs : List Value} (h : All2 w (.s bs :: ks) cs) : ∃ (v : Value) (vs : List Value), cs = v :: vs ∧ (∃ xs, SArg w bs v xs) ∧ All2 w ks vs := by
  cases cs with
  | nil => exact h.elim
  | cons v vs => exact ⟨v, vs, rfl, h.1, h.2⟩
theorem All2.append {w : World} : ∀ {a b : List FK} {cs ds : List Value}, All2 w a cs → All2 w b ds → All2 w (a ++ b) (cs ++ ds)
  | [], _, [], _, _, h => h
  | [], _, _ :: _, _, h, _ => h.elim
  | _ :: _, _, [], _, h, _ => h.elim
  | _ :: _, _, _ :: _, _, h, h' => ⟨h.1, All2.append h.2 h'⟩
def flat0 : List FK → Option (List Bool)
  | [] => some []
  | .i :: ks => (flat0 ks).map (true :: ·)
  | .b :: ks => (flat0 ks).map (false :: ·)
  | .s _ :: _ => none
theorem all0_of {w : World} : ∀ (ks : List FK) (bs : List Bool) (cs : List Value), flat0 ks = some bs → All2 w ks cs → All0 bs cs ∧ bs.length = ks.length
  | [], bs, cs, h, h' => by
    simp only [flat0, Option.some.injEq] at h
    subst h
    rw [h'.nil']; exact ⟨True.intro, rfl⟩
  | .i :: ks, bs, cs, h, h' => by
    simp only [flat0, Option.map_eq_some_iff] at h
    obtain ⟨bs', hb, rfl⟩ := h
    obtain ⟨n, vs, rfl, l, u, hr⟩ := h'.i'
    obtain ⟨h1, h2⟩ := all0_of ks bs' vs hb hr
    exact ⟨⟨⟨n, rfl, l, u⟩, h1⟩, by simp [h2]⟩
  | .b :: ks, bs, cs, h, h' => by
    simp only [flat0, Option.map_eq_some_iff] at h
    obtain ⟨bs', hb, rfl⟩ := h
    obtain ⟨n, vs, rfl, hr⟩ := h'.b'
    obtain ⟨h1, h2⟩ := all0_of ks bs' vs hb hr
    exact ⟨⟨⟨n, rfl⟩, h1⟩, by simp [h2]⟩
  | .s _ :: _, _, _, h, _ => by cases h
theorem all2_len {w : World} : ∀ {ks : List FK} {cs : List Value}, All2 w ks cs → cs.length = ks.length
  | [], [], _ => rfl
  | [], _ :: _, h => h.elim
  | _ :: _, [], h => h.elim
  | _ :: _, _ :: _, h => by simp [all2_len h.2]
def flatAll (P : Program) (k : TypeId → Option (List FK)) : Nat → List (Nat × TypeId) → Option (List FK)
  | _, [] => some []
  | o, (p, t) :: fs =>
    if p = o then
      match k t with
      | some a => if P.cellsOf t = a.length then (flatAll P k (o + a.length) fs).map (a ++ ·) else none
      | none => none
    else none
def flatK (P : Program) : Nat → TypeId → Option (List FK)
  | 0, _ => none
  | n + 1, t =>
    match P.underlying t with
    | some .bool => some [.b]
    | some (.int .i64) => some [.i]
    | some (.slice e) => ((flatK P n e).bind fun ks => if ks.length = P.cellsOf e ∧ 0 < ks.length then flat0 ks else none).map fun bs => [.s bs]
    | some (.struct fs) => (flatAll P (flatK P n) 0 (fs.toList.map fun f => (f.offset, f.type))).bind fun ks => if ks.length = P.cellsOf t then some ks else none
    | some (.array m e) => (flatAll P (flatK P n) 0 ((List.range m).map fun i => (i * P.cellsOf e, e))).bind fun ks => if ks.length = P.cellsOf t then some ks else none
    | _ => none
theorem flatAll_ok (P : Program) (w : World) (k : TypeId → Option (List FK)) : ∀ (fs : List (Nat × TypeId)) (o : Nat) (ks : List FK) (cs : List Value), flatAll P k o fs = some ks → cs.length = o + ks.length →
    (∀ pt ∈ fs, ∀ a, k pt.2 = some a → All2 w a ((cs.drop pt.1).take (P.cellsOf pt.2))) → All2 w ks (cs.drop o) := by
  intro fs
  induction fs with
  | nil =>
    intro o ks cs h hl _
    simp only [flatAll, Option.some.injEq] at h
    subst h
    have : cs.drop o = [] := List.drop_eq_nil_of_le (by simp at hl; omega)
    rw [this]; exact True.intro
  | cons pt fs ih =>
    intro o ks cs h hl hall
    obtain ⟨p, t⟩ := pt
    simp only [flatAll] at h
    split at h
    · rename_i hp
      subst hp
      cases hk : k t with
      | none => rw [hk] at h; cases h
      | some a =>
        rw [hk] at h
        simp only at h
        split at h
        · rename_i hc
          cases hr : flatAll P k (p + a.length) fs with
          | none => rw [hr] at h; cases h
          | some r =>
            rw [hr] at h
            simp only [Option.map_some, Option.some.injEq] at h
            subst h
            have h1 := hall (p, t) (by simp) a hk
            have h2 := ih (p + a.length) r cs hr (by rw [hl, List.length_append]; omega) (fun q hq => hall q (by simp [hq]))
            have e : cs.drop p = (cs.drop p).take a.length ++ cs.drop (p + a.length) := by
              rw [← List.drop_drop]; exact (List.take_append_drop _ _).symm
            rw [e]
            simp only at h1
            rw [hc] at h1
            exact h1.append h2
        · cases h
    · cases h
theorem flat_trod {H : Type} {enc : TypeId × Value → H} {P : Program} {w : World} {base : Nat} {spare : Nat → Bool} {held : Bool} : ∀ (n : Nat) (fuel : Nat) (t : TypeId) (ks : List FK) (cs : List Value) (x : DataW H × List MemPlace),
    flatK P n t = some ks → DataW.trod enc P w base spare held fuel t cs = some x → All2 w ks cs := by
  intro n
  induction n with
  | zero => intro _ _ _ _ _ h _; cases h
  | succ n ih =>
    intro fuel t ks cs x hk hx
    unfold flatK at hk
    cases fuel with
    | zero => simp [DataW.trod] at hx
    | succ fuel =>
      cases hu : P.underlying t with
      | none => rw [hu] at hk; cases hk
      | some d =>
        rw [hu] at hk
        cases d
        case bool =>
          simp only [Option.some.injEq] at hk
          subst hk
          unfold DataW.trod at hx
          rw [hu] at hx
          split at hx <;> simp_all [All2, FKok]
        case int k =>
          cases k
          case i64 =>
            simp only [Option.some.injEq] at hk
            subst hk
            unfold DataW.trod at hx
            rw [hu] at hx
            obtain ⟨v, rfl⟩ : ∃ v, cs = [v] := by
              split at hx
              all_goals first | exact ⟨_, rfl⟩ | (exfalso; simp_all; done) | skip
            cases v
            case int k' z =>
              simp only at hx
              split at hx
              · rename_i hk'
                obtain ⟨rfl, hwf⟩ := hk'
                simp only [Lit.wf, Bool.and_eq_true, decide_eq_true_eq] at hwf
                exact ⟨⟨z, rfl, hwf.1, hwf.2⟩, True.intro⟩
              · cases hx
            all_goals (exfalso; simp at hx)
          all_goals cases hk
        case slice e =>
          simp only [Option.map_eq_some_iff, Option.bind_eq_some_iff] at hk
          obtain ⟨bs, ⟨ks', hke, hbs⟩, rfl⟩ := hk
          split at hbs
          case isFalse => cases hbs
          rename_i hlen
          obtain ⟨hlen, hpos⟩ := hlen
          rcases Go.Deep.open_slice hu hx with ⟨rfl, -⟩ | ⟨a, len, cap, m, n', D, Pl, rfl, -, hl, hm, hmm, -, hi⟩
          · exact ⟨⟨[], .inl ⟨rfl, none, 0, rfl⟩⟩, True.intro⟩
          · have hle : len ≤ m := by rw [hmm]; split <;> omega
            by_cases h0 : len = 0
            · subst h0; exact ⟨⟨[], .inl ⟨rfl, some a, cap, rfl⟩⟩, True.intro⟩
            · obtain ⟨Y, hY⟩ := Go.Deep.choose_lt (α := List Value) (n := len) (p := fun i y => All0 bs y ∧ y.length = ks'.length ∧ ∀ j u, y[j]? = some u → w.cell? ((a.add (i * ks'.length)).add j) = some u) (fun i hil => by
                obtain ⟨cs', hc, ht'⟩ := hi i (by omega)
                rw [← hlen] at hc
                obtain ⟨_, hl', hc'⟩ := World.cells?_some hc
                have := all0_of ks' bs cs' hbs (ih _ e ks' cs' _ hke ht')
                refine ⟨cs', this.1, hl', fun j u hj => ?_⟩
                have hj' : j < cs'.length := (List.getElem?_eq_some_iff.1 hj).1
                rw [hc' j (by omega), hj])
              have hbl : bs.length = ks'.length := by
                obtain ⟨cs', hc, ht'⟩ := hi 0 (by omega)
                exact (all0_of ks' bs cs' hbs (ih _ e ks' cs' _ hke ht')).2
              have h00 := (hY 0 (by omega)).2
              have hc0 := h00.2 0 ((Y 0)[0]'(by omega)) (List.getElem?_eq_getElem (by omega))
              simp only [Nat.zero_mul, Addr.add, if_pos] at hc0
              obtain ⟨b, o, sp⟩ := a
              have hsp : sp = none := World.cell?_spot hc0
              subst hsp
              refine ⟨⟨(List.range len).map Y, .inr ⟨b, o, cap, by simp, by simp; omega, World.block_lt_of_cell? w _ hc0, ?_⟩⟩, True.intro⟩
              intro i y hy
              have hil : i < len := by
                have := (List.getElem?_eq_some_iff.1 hy).1
                simpa using this
              simp [hil] at hy
              subst hy
              obtain ⟨h1, h2, h3⟩ := hY i hil
              refine ⟨h1, fun j u hj => ?_⟩
              have := h3 j u hj
              rw [Go.Deep.add_add] at this
              rw [hbl]
              rw [← this]
              unfold Addr.add
              split
              · rename_i h; rw [h]; rfl
              · rfl
        case struct fs =>
          simp only at hk
          obtain ⟨xs, m, hfu, hxe, hl, hlen, hf⟩ := DataW.trod_struct hu hx
          cases hr : flatAll P (flatK P n) 0 (fs.toList.map fun f => (f.offset, f.type)) with
          | none => rw [hr] at hk; cases hk
          | some r =>
            rw [hr] at hk
            simp only [Option.bind_some] at hk
            split at hk
            · rename_i hc
              cases hk
              have := flatAll_ok P w (flatK P n) _ 0 ks cs hr (by rw [hl, hc]; omega) (by
                intro pt hpt a ha
                obtain ⟨f, hfm, rfl⟩ := List.mem_map.1 hpt
                obtain ⟨i, hi, hg⟩ := List.mem_iff_getElem.1 hfm
                have h1 := hf i f (by rw [← hg]; simp at hi ⊢)
                have hi' : i < xs.length := by rw [hlen]; simpa using hi
                rw [List.getElem?_eq_getElem hi'] at h1
                exact ih m f.type a _ _ ha h1)
              simpa using this
            · cases hk
        case array q e =>
          simp only at hk
          obtain ⟨xs, m, hfu, hxe, hl, hlen, hf⟩ := DataW.trod_array hu hx
          cases hr : flatAll P (flatK P n) 0 ((List.range q).map fun i => (i * P.cellsOf e, e)) with
          | none => rw [hr] at hk; cases hk
          | some r =>
            rw [hr] at hk
            simp only [Option.bind_some] at hk
            split at hk
            · rename_i hc
              cases hk
              have := flatAll_ok P w (flatK P n) _ 0 ks cs hr (by rw [hl, hc]; omega) (by
                intro pt hpt a ha
                obtain ⟨i, hi, rfl⟩ := List.mem_map.1 hpt
                have hi1 : i < q := by simpa using hi
                have h1 := hf i hi1
                have hi' : i < xs.length := by rw [hlen]; exact hi1
                rw [List.getElem?_eq_getElem hi'] at h1
                exact ih m e a _ _ ha h1)
              simpa using this
            · cases hk
        all_goals cases hk
/-- the whole number, the bool, that stands in field j of element i. -/
def getI (xs : List (List Value)) (i j : Nat) : Int := match ((xs[i]?).getD [])[j]? with | some (.int _ n) => n | _ => 0
def getB (xs : List (List Value)) (i j : Nat) : Bool := match ((xs[i]?).getD [])[j]? with | some (.bool x) => x | _ => false
theorem All0.field : ∀ {ks : List Bool} {y : List Value} (_ : All0 ks y) (j : Nat) {k : Bool}, ks[j]? = some k → ∃ u, y[j]? = some u ∧ F0ok k u
  | [], _, _, j, k, hk => by simp at hk
  | k0 :: ks, [], h, j, k, hk => h.elim
  | k0 :: ks, v :: vs, h, 0, k, hk => by simp at hk; subst hk; exact ⟨v, rfl, h.1⟩
  | k0 :: ks, v :: vs, h, j + 1, k, hk => by
    obtain ⟨u, h1, h2⟩ := All0.field h.2 j (k := k) (by simpa using hk)
    exact ⟨u, by simpa using h1, h2⟩
theorem SArg.form {w : World} {ks : List Bool} {v : Value} {xs : List (List Value)} (h : SArg w ks v xs) : ∃ pa cap, v = .slice pa xs.length cap ∧ xs.length ≤ 9223372036854775807 ∧
    ∀ i, i < xs.length → ∃ b o, pa = some ⟨b, o, none⟩ ∧ b < w.heap.size ∧ (∀ j, ks[j]? = some true → w.cell? ⟨b, o + (i * ks.length + j), none⟩ = some (.int .i64 (getI xs i j)) ∧ -9223372036854775808 ≤ getI xs i j ∧ getI xs i j ≤ 9223372036854775807) ∧
      (∀ j, ks[j]? = some false → w.cell? ⟨b, o + (i * ks.length + j), none⟩ = some (.bool (getB xs i j))) := by
  rcases h with ⟨rfl, pa, cap, rfl⟩ | ⟨b, o, cap, rfl, hl, hb, hi⟩
  · exact ⟨pa, cap, rfl, by simp, fun i hi => by simp at hi⟩
  · refine ⟨_, cap, rfl, by unfold maxLen at hl; exact hl, fun i hil => ⟨b, o, rfl, hb, fun j hj => ?_, fun j hj => ?_⟩⟩
    · obtain ⟨h1, h2⟩ := hi i _ (List.getElem?_eq_getElem hil)
      obtain ⟨u, hu, n, rfl, l1, l2⟩ := h1.field j hj
      have e : getI xs i j = n := by unfold getI; rw [List.getElem?_eq_getElem hil]; simp only [Option.getD_some]; rw [hu]
      rw [e]; exact ⟨h2 j _ hu, l1, l2⟩
    · obtain ⟨h1, h2⟩ := hi i _ (List.getElem?_eq_getElem hil)
      obtain ⟨u, hu, n, rfl⟩ := h1.field j hj
      have e : getB xs i j = n := by unfold getB; rw [List.getElem?_eq_getElem hil]; simp only [Option.getD_some]; rw [hu]
      rw [e]; exact h2 j _ hu
end Go.Proofs.Ytpebepjfgnoaaaa
