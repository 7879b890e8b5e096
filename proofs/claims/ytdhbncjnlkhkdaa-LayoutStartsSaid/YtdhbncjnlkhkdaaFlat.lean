/- Reading an argument that is made of whole numbers and bools alone (structs and arrays within one another): its cells, one behind the other. -/
import Derived.WalkKit
import Derived.ProofKit
import Derived.OpenShut
import Derived.ChangeOld
import Derived.Below
import Derived.SizedLaws
import Derived.Carry
import Derived.Deep.Slices
import Derived.KernelRfl
namespace Go.Proofs.Ytdhbncjnlkhkdaa
set_option linter.unusedVariables false
set_option linter.unusedSimpArgs false
open Go.ChangeShapes Go.WideShapes Go.ChangeAt Go.RowKit
inductive FK where | i | b
def FKok : FK → Value → Prop
  | .i, v => ∃ n : Int, v = .int .i64 n ∧ -9223372036854775808 ≤ n ∧ n ≤ 9223372036854775807
  | .b, v => ∃ x : Bool, v = .bool x
def All2 : List FK → List Value → Prop
  | [], [] => True
  | k :: ks, v :: vs => FKok k v ∧ All2 ks vs
  | _, _ => False
theorem All2.nil' {cs : List Value} (h : All2 [] cs) : cs = [] := by cases cs with | nil => rfl | cons => exact h.elim
theorem All2.i' {ks : List FK} {cs : List Value} (h : All2 (.i :: ks) cs) : ∃ (n : Int) (vs : List Value), cs = .int .i64 n :: vs ∧ -9223372036854775808 ≤ n ∧ n ≤ 9223372036854775807 ∧ All2 ks vs := by
  cases cs with
  | nil => exact h.elim
  | cons v vs => obtain ⟨⟨n, rfl, h1, h2⟩, h3⟩ := h; exact ⟨n, vs, rfl, h1, h2, h3⟩
theorem All2.b' {ks : List FK} {cs : List Value} (h : All2 (.b :: ks) cs) : ∃ (n : Bool) (vs : List Value), cs = .bool n :: vs ∧ All2 ks vs := by
  cases cs with
  | nil => exact h.elim
  | cons v vs => obtain ⟨⟨n, rfl⟩, h3⟩ := h; exact ⟨n, vs, rfl, h3⟩
theorem All2.append : ∀ {a b : List FK} {cs ds : List Value}, All2 a cs → All2 b ds → All2 (a ++ b) (cs ++ ds)
  | [], _, [], _, _, h => h
  | [], _, _ :: _, _, h, _ => h.elim
  | _ :: _, _, [], _, h, _ => h.elim
  | _ :: _, _, _ :: _, _, h, h' => ⟨h.1, All2.append h.2 h'⟩
def flatAll (P : Program) (k : TypeId → Option (List FK)) : Nat → List (Nat × TypeId) → Option (List FK)
  | _, [] => some []
  | o, (p, t) :: fs =>
    if p = o then
      match k t with
      | some a => if P.cellsOf t = a.length then (flatAll P k (o + a.length) fs).map (a ++ ·) else none
      | none => none
    else none
def flatK (P : Program) : Nat → TypeId → Option (List FK)
  | 0, _ => none
  | n + 1, t =>
    match P.underlying t with
    | some .bool => some [.b]
    | some (.int .i64) => some [.i]
    | some (.struct fs) => (flatAll P (flatK P n) 0 (fs.toList.map fun f => (f.offset, f.type))).bind fun ks => if ks.length = P.cellsOf t then some ks else none
    | some (.array m e) => (flatAll P (flatK P n) 0 ((List.range m).map fun i => (i * P.cellsOf e, e))).bind fun ks => if ks.length = P.cellsOf t then some ks else none
    | _ => none
theorem flatAll_ok (P : Program) (k : TypeId → Option (List FK)) : ∀ (fs : List (Nat × TypeId)) (o : Nat) (ks : List FK) (cs : List Value), flatAll P k o fs = some ks → cs.length = o + ks.length →
    (∀ pt ∈ fs, ∀ a, k pt.2 = some a → All2 a ((cs.drop pt.1).take (P.cellsOf pt.2))) → All2 ks (cs.drop o) := by
  intro fs
  induction fs with
  | nil =>
    intro o ks cs h hl _
    simp only [flatAll, Option.some.injEq] at h
    subst h
    have : cs.drop o = [] := List.drop_eq_nil_of_le (by simp at hl; omega)
    rw [this]; exact True.intro
  | cons pt fs ih =>
    intro o ks cs h hl hall
    obtain ⟨p, t⟩ := pt
    simp only [flatAll] at h
    split at h
    · rename_i hp
      subst hp
      cases hk : k t with
      | none => rw [hk] at h; cases h
      | some a =>
        rw [hk] at h
        simp only at h
        split at h
        · rename_i hc
          cases hr : flatAll P k (p + a.length) fs with
          | none => rw [hr] at h; cases h
          | some r =>
            rw [hr] at h
            simp only [Option.map_some, Option.some.injEq] at h
            subst h
            have h1 := hall (p, t) (by simp) a hk
            have h2 := ih (p + a.length) r cs hr (by rw [hl, List.length_append]; omega) (fun q hq => hall q (by simp [hq]))
            have e : cs.drop p = (cs.drop p).take a.length ++ cs.drop (p + a.length) := by
              rw [← List.drop_drop]; exact (List.take_append_drop _ _).symm
            rw [e]
            simp only at h1
            rw [hc] at h1
            exact h1.append h2
        · cases h
    · cases h
theorem flat_trod {H : Type} {enc : TypeId × Value → H} {P : Program} {w : World} {base : Nat} {spare : Nat → Bool} {held : Bool} : ∀ (n : Nat) (fuel : Nat) (t : TypeId) (ks : List FK) (cs : List Value) (x : DataW H × List MemPlace),
    flatK P n t = some ks → DataW.trod enc P w base spare held fuel t cs = some x → All2 ks cs := by
  intro n
  induction n with
  | zero => intro _ _ _ _ _ h _; cases h
  | succ n ih =>
    intro fuel t ks cs x hk hx
    unfold flatK at hk
    cases fuel with
    | zero => simp [DataW.trod] at hx
    | succ fuel =>
      cases hu : P.underlying t with
      | none => rw [hu] at hk; cases hk
      | some d =>
        rw [hu] at hk
        cases d
        case bool =>
          simp only [Option.some.injEq] at hk
          subst hk
          unfold DataW.trod at hx
          rw [hu] at hx
          split at hx <;> simp_all [All2, FKok]
        case int k =>
          cases k
          case i64 =>
            simp only [Option.some.injEq] at hk
            subst hk
            unfold DataW.trod at hx
            rw [hu] at hx
            obtain ⟨v, rfl⟩ : ∃ v, cs = [v] := by
              split at hx
              all_goals first | exact ⟨_, rfl⟩ | (exfalso; simp_all; done) | skip
            cases v
            case int k' z =>
              simp only at hx
              split at hx
              · rename_i hk'
                obtain ⟨rfl, hwf⟩ := hk'
                simp only [Lit.wf, Bool.and_eq_true, decide_eq_true_eq] at hwf
                exact ⟨⟨z, rfl, hwf.1, hwf.2⟩, True.intro⟩
              · cases hx
            all_goals (exfalso; simp at hx)
          all_goals cases hk
        case struct fs =>
          simp only at hk
          obtain ⟨xs, m, hfu, hxe, hl, hlen, hf⟩ := DataW.trod_struct hu hx
          cases hr : flatAll P (flatK P n) 0 (fs.toList.map fun f => (f.offset, f.type)) with
          | none => rw [hr] at hk; cases hk
          | some r =>
            rw [hr] at hk
            simp only [Option.bind_some] at hk
            split at hk
            · rename_i hc
              cases hk
              have := flatAll_ok P (flatK P n) _ 0 ks cs hr (by rw [hl, hc]; omega) (by
                intro pt hpt a ha
                obtain ⟨f, hfm, rfl⟩ := List.mem_map.1 hpt
                obtain ⟨i, hi, hg⟩ := List.mem_iff_getElem.1 hfm
                have h1 := hf i f (by rw [← hg]; simp at hi ⊢)
                have hi' : i < xs.length := by rw [hlen]; simpa using hi
                rw [List.getElem?_eq_getElem hi'] at h1
                exact ih m f.type a _ _ ha h1)
              simpa using this
            · cases hk
        case array q e =>
          simp only at hk
          obtain ⟨xs, m, hfu, hxe, hl, hlen, hf⟩ := DataW.trod_array hu hx
          cases hr : flatAll P (flatK P n) 0 ((List.range q).map fun i => (i * P.cellsOf e, e)) with
          | none => rw [hr] at hk; cases hk
          | some r =>
            rw [hr] at hk
            simp only [Option.bind_some] at hk
            split at hk
            · rename_i hc
              cases hk
              have := flatAll_ok P (flatK P n) _ 0 ks cs hr (by rw [hl, hc]; omega) (by
                intro pt hpt a ha
                obtain ⟨i, hi, rfl⟩ := List.mem_map.1 hpt
                have hi1 : i < q := by simpa using hi
                have h1 := hf i hi1
                have hi' : i < xs.length := by rw [hlen]; exact hi1
                rw [List.getElem?_eq_getElem hi'] at h1
                exact ih m e a _ _ ha h1)
              simpa using this
            · cases hk
        all_goals cases hk
end Go.Proofs.Ytdhbncjnlkhkdaa
