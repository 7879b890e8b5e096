/- Numbers of FreeHandles. -/
import Derived.Test.YtkkeoadnepedjaaFrA0
import Derived.Test.YtkkeoadnepedjaaAlG
import Derived.Test.YtkkeoadnepedjaaAlI
namespace Go.Proofs.Ytkkeoadnepedjaa
set_option linter.unusedVariables false
set_option linter.unusedSimpArgs false
open Go.RowKit
def hN (i : Nat) : Int := 1048576 * (i : Int) + 1099511627776
theorem hN_ne {i k : Nat} (h : k < i) : (hN k == hN i) = false := by unfold hN; simp; omega
theorem hN_bd {i : Nat} (h : i ≤ 1000) : -9223372036854775808 ≤ hN i ∧ hN i ≤ 9223372036854775807 := by unfold hN; omega
def tolds (k : Nat) : List Int := (List.range k).map hN
theorem tolds_len (k : Nat) : (tolds k).length = k := by simp [tolds]
theorem tolds_succ (k : Nat) : tolds (k + 1) = tolds k ++ [hN k] := by simp [tolds, List.range_succ]
theorem tolds_get (k i : Nat) (h : i < k) : ((tolds k).map (Value.int .i64))[i]? = some (.int .i64 (hN i)) := by simp [tolds, h]
theorem fh_new {s : Int} (hc : cfgOk 512 s 1 = true) (i : Nat) (h : i ≤ 1000) : frNewC 512 s 1 (hN i) = ⟨1, s, 0, i, false, 0⟩ := by
  obtain ⟨h1, h2, -⟩ := of_yes hc
  have s1 : 1 ≤ s := by have := cfgOk_of hc; omega
  have hi : hIs (hN i) := by unfold hIs hN; omega
  have e1 : hSlot (hN i) = 0 := by rw [hSlot_is hi]; unfold hN; omega
  have e2 : hGen (hN i) = i := by rw [hGen_is hi]; unfold hN; omega
  unfold frNewC; rw [h1, h2, hOf_yes hi (by rw [e1]; omega), e1, e2]; rfl
def FhC (s : Int) (tk : Nat) : AlC := ⟨1, s, 512, 1, 8, tk, 0⟩
theorem fh_c {s : Int} (hc : cfgOk 512 s 1 = true) (tk : Nat) : alC0 512 s 1 1 tk = FhC s tk := by rw [alC0_yes hc, show (hRound 1).1 = 8 by decide]; rfl
/-- what there is behind i rounds. -/
def FhIn (s : Int) (i : Nat) (ws bs : List Int) : Prop := ∃ tag, AlPg (FhC s 0) ws bs 0 (8 * i) tag (eWord 0 i 0 0 false false) i
theorem AlPg.tk {s : Int} {ws bs : List Int} {k top g x G : Int} (h : AlPg (FhC s 0) ws bs k top g x G) (tk : Nat) : AlPg (FhC s tk) ws bs k top g x G := by
  obtain ⟨a1, a2, a3, a4, a5, a6, a7, a8, a9, a10, a11, a12, a13, a14, a15, a16, a17, a18, a19, a20, a21, a22⟩ := h
  exact ⟨a1, a2, a3, a4, a5, a6, a7, a8, a9, a10, a11, a12, a13, a14, a15, a16, a17, a18, a19, a20, a21, a22⟩
theorem dead_word {i : Nat} (h : i ≤ 1000) : eOk (eWord 0 i 0 0 false false) = 0 ∧ uA (eWord 0 i 0 0 false false) = false ∧ uG (eWord 0 i 0 0 false false) = i := by
  have hm : eMay 0 i 0 0 false false = true := by unfold eMay; simp; omega
  obtain ⟨e, x1, x2, x3, x4, x5, x6⟩ := un_pack hm
  obtain ⟨u1, u2, u3, u4, u5, u6, u7⟩ := u_yes e
  exact ⟨u7, by rw [u6, x6], by rw [u2, x2]⟩
theorem fh_init {s : Int} (hc : cfgOk 512 s 1 = true) : FhIn s 0 (initW 1 s) (List.replicate 512 0) := by
  have P := al_pre_init hc
  have s1 := P.s1
  obtain ⟨d1, d2, d3⟩ := dead_word (i := 0) (by decide)
  refine ⟨0, ⟨P.t1, P.t4, P.s1, P.s64, P.a8, P.a4, P.len, P.bl, P.fr, P.st, P.g0, P.g1, P.pe, P.lk, ?_, by decide, by show 0 < s; have : 1 ≤ s := s1; omega, by decide, by show (0 : Int) ≤ 512; decide, d1, d2, d3⟩⟩
  have e : eWord 0 ((0 : Nat) : Int) 0 0 false false = 0 := by decide
  rw [e]
  exact P.en 0 (by decide) (by have : 1 ≤ s := s1; show 0 < s; omega)
/-- what there is while object i lives. -/
def FhMid (s : Int) (i : Nat) (ws bs : List Int) : Prop := ws.length ≤ 4096 ∧ bs.length ≤ 4096 ∧
  (∀ k, k < i → ∃ v, mRun (frF1 ⟨1, s, 0, (k : Int), false, 0⟩) 10 10 ⟨ws, frV0 1⟩ = (⟨ws, v⟩, (4, 0), 1)) ∧
  ∃ q, mRun (frF1 ⟨1, s, 0, (i : Int), false, 0⟩) 10 10 ⟨ws, frV0 1⟩ = (q, (0, 0), 5) ∧ FhIn s (i + 1) q.ws bs
theorem FhIn.lens {s : Int} {i : Nat} {ws bs : List Int} (h : FhIn s i ws bs) : ws.length ≤ 4096 ∧ bs.length ≤ 4096 := by
  obtain ⟨tag, P⟩ := h
  have h1 : ws.length = (4 + 1 + 3 * s).toNat := P.len
  have h2 : bs.length = (512 : Int).toNat := P.bl
  have h3 : s ≤ 64 := P.s64
  omega
theorem succ_int (i : Nat) : ((i + 1 : Nat) : Int) = (i : Int) + 1 := by omega
theorem top_bd {i : Nat} (h : i < 40) : 8 * ((i + 1 : Nat) : Int) ≤ 512 ∧ 0 ≤ 8 * ((i + 1 : Nat) : Int) := by omega
set_option maxHeartbeats 1000000 in
theorem fh_make {s : Int} {i : Nat} {ws bs : List Int} (hc : cfgOk 512 s 1 = true) (h : FhIn s i ws bs) (hi : i < 40) (tk : Nat) : ∃ q N, mRun (alF1 (alC0 512 s 1 1 tk)) 1000 1000 ⟨ws, bs, alV0 1⟩ = (q, (0, hN i), N) ∧ FhMid s i q.ws q.bs := by
  obtain ⟨tag, P0⟩ := h
  have P := P0.tk tk
  rw [fh_c hc]
  have s1 : 1 ≤ s := P.s1
  have s64 : s ≤ 64 := P.s64
  obtain ⟨q, N, e, b, l, w⟩ := pg_made P (by show (1 : Int) ≤ 8; decide) (by show (8 : Int) ≤ 256; decide) (by show (8 : Int) * i ≤ 512 - 8; omega)
  have hmk : (hMake 0 (i : Int)).1 = hN i := by rw [hMake_ok (by omega)]; unfold hN; omega
  rw [hmk] at e
  have hm : eMay (8 * (i : Int)) i 0 0 false true = true := by unfold eMay; simp; omega
  have hpk : (ePack (8 * (i : Int)) i 0 0 false true).1 = eWord (8 * (i : Int)) i 0 0 false true := by unfold ePack; rw [if_pos hm]
  rw [hpk] at w
  have w' : ∀ j : Int, wAt q.ws j = if j = 0 then 8 * (i : Int) + 8 else if j = 1 then topAt s 1 + 1048576 * dNext tag else if j = 5 then eWord (8 * (i : Int)) i 0 0 false true else if j = 6 then 1 else wAt ws j := w
  have len : q.ws.length = (4 + 1 + 3 * s).toNat := by rw [l]; exact P.len
  have bl : q.bs.length = bs.length := by rw [b, clr_len]
  have bl2 : bs.length = (512 : Int).toNat := P.bl
  have hx : wAt q.ws (4 + 1 + 3 * 0) = eWord (8 * (i : Int)) i 0 0 false true := by rw [w', if_neg (by omega), if_neg (by omega), if_pos (by omega)]
  have hx5 : wAt q.ws (lOf 1 s 0 0) = eWord (8 * (i : Int)) i 0 0 false true := by unfold lOf; rw [if_pos (by omega)]; exact hx
  refine ⟨q, N, e, by omega, by omega, fun k hk => ?_, ?_⟩
  · exact fr_dead (c := ⟨1, s, 0, k, false, 0⟩) rfl hx5 (by rw [fresh_word hm]; simp; omega)
  · obtain ⟨n0, n1⟩ := dNext_in P.g0 P.g1
    have tb := topAt_bd (s := s) (k := 1) (by decide) s64
    obtain ⟨q', hr, hl, hw⟩ := fr_alone (t := 1) (s := s) (sl := 0) (g := i) (y := 0) (ws := q.ws) (by decide) (by decide) s1 s64 (by decide) (by omega) len (o := 8 * i) (T := topAt s 1) (tag := dNext tag) hm hx (by omega) (by rw [w', if_neg (by omega), if_pos rfl]) tb.1 tb.2 n0 n1
    have n2 := dNext_in n0 n1
    refine ⟨q', hr, dNext (dNext tag), ?_⟩
    have W : ∀ j : Int, wAt q'.ws j = if j = 1 then 1 + 1048576 * dNext (dNext tag) else if j = 5 then eWord 0 ((i : Int) + 1) 0 0 false false else if j = 7 then topAt s 1 else if j = 0 then 8 * (i : Int) + 8 else if j = 6 then 1 else wAt ws j := by
      intro j
      rw [hw]
      by_cases j1 : j = 1
      · rw [if_pos j1, if_pos j1]; omega
      · rw [if_neg j1, if_neg j1]
        by_cases j5 : j = 5
        · rw [if_pos (by omega), if_pos j5]
        · rw [if_neg (by omega), if_neg j5]
          by_cases j7 : j = 7
          · rw [if_pos (by omega), if_pos j7]
          · rw [if_neg (by omega), if_neg j7, w']
            by_cases j0 : j = 0
            · rw [if_pos j0, if_pos j0]
            · rw [if_neg j0, if_neg j0, if_neg j1, if_neg j5]
    obtain ⟨d1, d2, d3⟩ := dead_word (i := i + 1) (by omega)
    have pe : wAt ws 2 = 0 := P.pe
    have lk : ∀ i, 0 ≤ i → i < s → wAt ws (4 + 1 + 3 * i + 2) = topAt s (i + 1) := P.lk
    have F0 : wAt q'.ws 0 = 8 * ((i + 1 : Nat) : Int) := by rw [W, if_neg (by omega), if_neg (by omega), if_neg (by omega), if_pos rfl]; omega
    have F1 : wAt q'.ws 1 = topAt s 0 + 1048576 * dNext (dNext tag) := by
      rw [W, if_pos rfl, show topAt s 0 = 1 by unfold topAt; rw [if_pos (by omega)]; rfl]
    have F2 : wAt q'.ws 2 = 0 := by rw [W, if_neg (by omega), if_neg (by omega), if_neg (by omega), if_neg (by omega), if_neg (by omega)]; exact pe
    have F3 : ∀ j : Int, 0 ≤ j → j < s → wAt q'.ws (4 + 1 + 3 * j + 2) = topAt s (j + 1) := fun j j0 j1 => by
      by_cases jz : j = 0
      · subst jz; rw [W, if_neg (by omega), if_neg (by omega), if_pos (by omega)]; rfl
      · rw [W, if_neg (by omega), if_neg (by omega), if_neg (by omega), if_neg (by omega), if_neg (by omega)]; exact lk j j0 j1
    have F4 : wAt q'.ws (4 + 1 + 3 * 0) = eWord 0 ((i + 1 : Nat) : Int) 0 0 false false := by
      rw [W, if_neg (by omega), if_pos (by omega), succ_int i]
    have F5 : q'.ws.length = (4 + 1 + 3 * s).toNat := by rw [hl]; exact len
    have F6 : q.bs.length = (512 : Int).toNat := by rw [bl]; exact bl2
    have F7 : 8 * ((i + 1 : Nat) : Int) ≤ 512 := (top_bd hi).1
    have F8 : 0 ≤ 8 * ((i + 1 : Nat) : Int) := (top_bd hi).2
    have F9 : 0 < s := by omega
    exact { t1 := show (1 : Int) ≤ 1 by decide, t4 := show (1 : Int) ≤ 4 by decide, s1 := s1, s64 := s64, a8 := show (8 : Int) ≤ 512 by decide, a4 := show (512 : Int) ≤ 4096 by decide, len := F5, bl := F6, fr := F0, st := F1, g0 := n2.1, g1 := n2.2, pe := F2, lk := F3, ek := F4, k0 := show (0 : Int) ≤ 0 by decide, ks := F9, p0 := F8, pa := F7, x0 := d1, xA := d2, xG := d3 }
end Go.Proofs.Ytkkeoadnepedjaa
