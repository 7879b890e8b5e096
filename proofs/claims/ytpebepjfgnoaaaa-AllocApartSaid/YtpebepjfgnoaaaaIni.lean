/- The walk of layout.Start. -/
import Derived.Deep.RegionHeld3
import Derived.Outline
import Derived.LoopTactic
import Derived.Test.YtpebepjfgnoaaaaLyW
import Derived.Test.YtpebepjfgnoaaaaClN
import Derived.Test.YtpebepjfgnoaaaaHdF
import Derived.Test.YtpebepjfgnoaaaaProg
import Derived.Test.YtpebepjfgnoaaaaBase
import Derived.Test.YtpebepjfgnoaaaaFnW
namespace Go.Proofs.Ytpebepjfgnoaaaa
set_option linter.unusedVariables false
set_option linter.unusedSimpArgs false
open Go.RowKit
def memI (p : Nat) : Value := .iface 39 (.pointer (some ⟨p, 0, none⟩))
theorem List.set_of_getElem? {α : Type} {l : List α} {i : Nat} {x : α} (h : l[i]? = some x) : l.set i x = l := by
  apply List.ext_getElem?
  intro j
  rw [List.getElem?_set]
  split
  · rename_i e; subst e; split
    · exact h.symm
    · rename_i hl; rw [List.getElem?_eq_none (by omega)]
  · rfl
theorem i64in (n : Int) (h : -9223372036854775808 ≤ n) (h' : n ≤ 9223372036854775807) : IntKind.i64.wrap n = n := by rw [IntKind.wrap_i64]; omega
def firstAt (s q : Int) : Int := if q = s then 0 else q + 1
def Started (B : Nat) (W : World) (G : List Grp) (i p bw bb : Nat) (ws bs : List Int) (e : Ending) (w' : World) : Prop := e = .returned (.int .i64 0) ∧ ∃ m, Owns B W w' (G.set i (memG p bw bb ws bs m))
abbrev StartS (B : Nat) (W : World) (lb cb : Nat) (t s a : Int) (G : List Grp) (w : World) : Prop :=
  w.cell? ⟨lb, 0, none⟩ = some (.int .i64 t) ∧ w.cell? ⟨lb, 1, none⟩ = some (.int .i64 s) ∧ w.cell? ⟨cb, 0, none⟩ = some (.int .i64 a) ∧
    Owns B W w ([(lb, Obj.cells #[.int .i64 t, .int .i64 s] 25 (0, 0))] :: [(cb, Obj.cells #[.int .i64 a, .int .i64 s, .int .i64 t] 23 (0, 0))] :: G)
theorem startS {B : Nat} {W w : World} {lb cb : Nat} {t s a : Int} {G : List Grp} (h : Owns B W w ([(lb, Obj.cells #[.int .i64 t, .int .i64 s] 25 (0, 0))] :: [(cb, Obj.cells #[.int .i64 a, .int .i64 s, .int .i64 t] 23 (0, 0))] :: G)) : StartS B W lb cb t s a G w :=
  ⟨blk_cell (h.get 0 0 rfl rfl) 0, blk_cell (h.get 0 0 rfl rfl) 1, blk_cell (h.get 1 0 rfl rfl) 0, h⟩
theorem nil_Store (a : Option Addr) (w : World) : (nilAhead 274 39 (.pointer a) "Store").run Try.prog w = .ok (some false) w := by kernel_rfl
set_option maxHeartbeats 4000000 in
theorem layout_Start_ok {B : Nat} {W w : World} {G : List Grp} (i : Nat) {p bw bb : Nat} {ws bs : List Int} {n : Int} (a s t : Int) (hO : Owns B W w G) (hi : G[i]? = some (memG p bw bb ws bs n)) (hl : ws.length ≤ 4096) (hl' : bs.length ≤ 4096)
    (hc : cfgOk a s t = true) (hw : lWords t s ≤ ws.length) (ha : a ≤ bs.length) :
    Calls Try.prog 46 #[memI p, .agg #[.int .i64 a, .int .i64 s, .int .i64 t]] w (Started B W G i p bw bb (startW t s ws) bs) := by
  obtain ⟨e1, e2, e3⟩ := of_yes hc
  have E1 := Lib.hid e1
  have E2 := Lib.hid e2
  have E3 := Lib.hid e3
  clear e1 e2 e3
  unfold memI
  have ns := nil_Store (some ⟨p, 0, none⟩)
  go_enter Try.func46, Try.ntmps46
  go_wp2_with (go_at_call 8; refine (layout_Of _ _ _ _).mono ?_; rw [E1.out, E2.out, E3.out]; rintro e w1 ⟨rfl, hb⟩; have hz := hb.size; (try simp only [World.size_alloc, World.size_drew, World.size_setCell, size_drewN] at hz))
  have hO2 := ((hO.alloc (.cells #[.int .i64 a, .int .i64 s, .int .i64 t] 23)).via hb).alloc (.cells #[.int .i64 t, .int .i64 s] 25)
  clear hb hz
  generalize w1.alloc (.cells #[.int .i64 t, .int .i64 s] 25) = w2 at hO2 ⊢
  generalize w1.heap.size = lb at hO2 ⊢
  generalize w.heap.size = cb at hO2 ⊢
  have d0 := startS hO2
  have L := Lib.hid (lOk_yes hc)
  have b1 : decide ((ws.length : Int) < lWords t s) = false := by simpa using hw
  have b2 : decide ((bs.length : Int) < a) = false := by simpa using ha
  have hi2 : ([(lb, Obj.cells #[.int .i64 t, .int .i64 s] 25 (0, 0))] :: [(cb, Obj.cells #[.int .i64 a, .int .i64 s, .int .i64 t] 23 (0, 0))] :: G)[i + 2]? = some (memG p bw bb ws bs n) := by simpa using hi
  go_region_held3 (StartS B W lb cb t s a G) (first | assumption | exact startS (hO2.drew) | exact startS ((by assumption : StartS B W lb cb t s a G _).2.2.2.via hb)) (first | (go_at_call 126; refine (plain_Words (i + 2) (by assumption : StartS B W lb cb t s a G _).2.2.2 hi2 hl).mono ?_; rintro e w' ⟨rfl, rfl⟩) | (go_at_call 124; refine (plain_Bytes (i + 2) (by assumption : StartS B W lb cb t s a G _).2.2.2 hi2 hl').mono ?_; rintro e w' ⟨rfl, rfl⟩) | (go_at_call 13; refine (layout_Words _ _ _ L.out).mono ?_; rintro e w' ⟨rfl, hb⟩))
  have hO3 := hO2.drew.via hb
  clear d0 hO2 hb
  rename_i hH
  clear hH
  obtain ⟨l0, l1, c0, -⟩ := startS hO3
  obtain ⟨t1, t2, t3, t4⟩ : 1 ≤ t ∧ t ≤ 4 ∧ 1 ≤ s ∧ s ≤ 64 := by have := cfgOk_of hc; omega
  have NW := Lib.hid (lWords_ok (s := s) t1)
  obtain ⟨N, hN⟩ : ∃ N : Nat, lWords t s = N := ⟨(lWords t s).toNat, by rw [NW.out]; omega⟩
  have HN := Lib.hid hN
  have hNl : N ≤ ws.length := by omega
  clear hN hc hw b1 b2
  go_wp2_with (go_at_call 13; refine (layout_Words _ _ _ L.out).mono ?_; rw [HN.out]; rintro e w3 ⟨rfl, hb⟩; have hO4 := hO3.via hb)
  have hO5 : Owns B W w3 ([(lb, Obj.cells #[.int .i64 t, .int .i64 s] 25 (0, 0))] :: [(cb, Obj.cells #[.int .i64 a, .int .i64 s, .int .i64 t] 23 (0, 0))] :: G.set i (memG p bw bb (zeroW 0 ws) bs n)) := by
    rw [zeroW_zero, List.set_of_getElem? hi]; exact hO4
  clear hO3 hO4 hb l0 l1 c0
  go_loopw [39] (fun c wr => ∃ (k : Nat) (m : Int), c = .int .i64 k ∧ k ≤ N ∧ Owns B W wr ([(lb, Obj.cells #[.int .i64 t, .int .i64 s] 25 (0, 0))] :: [(cb, Obj.cells #[.int .i64 a, .int .i64 s, .int .i64 t] 23 (0, 0))] :: G.set i (memG p bw bb (zeroW k ws) bs m))) (fun c _ => N - (intOf c).toNat)
  case atStart => exact ⟨0, n, rfl, by omega, hO5⟩
  case round =>
    obtain ⟨k, m, rfl, hk, hOr⟩ := hrel
    have hir : ([(lb, Obj.cells #[.int .i64 t, .int .i64 s] 25 (0, 0))] :: [(cb, Obj.cells #[.int .i64 a, .int .i64 s, .int .i64 t] 23 (0, 0))] :: G.set i (memG p bw bb (zeroW k ws) bs m))[i + 2]? = some (memG p bw bb (zeroW k ws) bs m) := by simpa using set_get hi _
    by_cases hlt : k < N
    · have hst := plain_Store (i + 2) (k : Int) 0 hOr hir (by rw [zeroW_len]; exact hl)
      go_wp2_with (go_at_call 24; refine hst.mono ?_; rintro e w4 ⟨rfl, hO6⟩)
      go_roundw
      case rel => exact ⟨k + 1, _, by go_num, by omega, by rw [zeroW_step k ws (by omega)] at hO6; simpa only [List.set_cons_succ, List.set_set] using hO6⟩
      case measure => simp [intOf]; omega
    · have hkN : k = N := by omega
      subst hkN
      have hls := linkW_start t1 t3 ws
      rw [HN.out, Int.toNat_natCast] at hls
      rw [hls] at hOr
      clear hir hlt hls hO5
      obtain ⟨l0, l1, c0, -⟩ := startS hOr
      go_wp2_with fail
      go_loopw [8, 9] (fun f sv wr => ∃ (q m : Int), sv = .int .i64 (q - 1) ∧ f = .int .i64 (firstAt s q) ∧ 0 ≤ q ∧ q ≤ s ∧ Owns B W wr ([(lb, Obj.cells #[.int .i64 t, .int .i64 s] 25 (0, 0))] :: [(cb, Obj.cells #[.int .i64 a, .int .i64 s, .int .i64 t] 23 (0, 0))] :: G.set i (memG p bw bb (linkW t s q ws) bs m))) (fun _ sv _ => (intOf sv + 1).toNat)
      case atStart => exact ⟨s, m, by (first | rfl | go_num), by unfold firstAt; rw [if_pos rfl], by omega, by omega, hOr⟩
      case round =>
        clear hOr l0 l1 c0
        obtain ⟨q, m, rfl, rfl, hq0, hqs, hOr⟩ := hrel
        obtain ⟨l0, l1, c0, -⟩ := startS hOr
        have hir : ([(lb, Obj.cells #[.int .i64 t, .int .i64 s] 25 (0, 0))] :: [(cb, Obj.cells #[.int .i64 a, .int .i64 s, .int .i64 t] 23 (0, 0))] :: G.set i (memG p bw bb (linkW t s q ws) bs m))[i + 2]? = some (memG p bw bb (linkW t s q ws) bs m) := by simpa using set_get hi _
        by_cases hq : 1 ≤ q
        · have e1 := Lib.hid (show lOf t s (q - 1) 2 = 4 + t + 3 * (q - 1) + 2 by unfold lOf; rw [if_pos (by omega)])
          go_wp2_with fail
          go_region_held3 (fun w => w.cell? ⟨lb, 0, none⟩ = some (.int .i64 t) ∧ w.cell? ⟨lb, 1, none⟩ = some (.int .i64 s)) (first | assumption | exact ⟨(startS hOr.drew).1, (startS hOr.drew).2.1⟩ | exact ⟨(startS (hOr.drew.via hb)).1, (startS (hOr.drew.via hb)).2.1⟩ | exact ⟨(startS hO6).1, (startS hO6).2.1⟩) (first | (go_at_call 12; refine (layout_Link _ _ _ _ L.out).mono ?_; rw [e1.out]; rintro e w4 ⟨rfl, hb⟩) | (go_at_call 24; refine (plain_Store (i + 2) _ _ (hOr.drew.via hb) hir (by rw [linkW_len]; exact hl)).mono ?_; rintro e w5 ⟨rfl, hO6⟩))
          all_goals
            go_wp2_with fail
            go_roundw
            case rel => exact ⟨q - 1, _, rfl, by unfold firstAt; rw [if_neg (by omega)]; go_num, by omega, by omega, by rw [show firstAt s q = if q = s then 0 else q + 1 from rfl, linkW_step t1 hq hqs ws (by rw [HN.out]; omega)] at hO6; simpa only [List.set_cons_succ, List.set_set] using hO6⟩
            case measure => simp [intOf]; omega
        · have hq' : q = 0 := by omega
          subst hq'
          have f1 := Lib.hid (show firstAt s 0 = 1 by unfold firstAt; rw [if_neg (by omega)]; rfl)
          have pk := Lib.hid (show dPack 1 0 = (1, 0) by decide)
          have on := Lib.hid (show lOnce t 1 = 1 by unfold lOnce; rw [if_neg (by omega)])
          rw [f1.out]
          clear hq
          go_wp2_with (go_at_call 75; refine (head_Pack _ _ _).mono ?_; rw [pk.out]; rintro e w4 ⟨rfl, hb⟩; have hO7 := hOr.via hb)
          clear l0 l1 c0
          go_region_held3 (fun w => w.cell? ⟨lb, 0, none⟩ = some (.int .i64 t) ∧ w.cell? ⟨lb, 1, none⟩ = some (.int .i64 s)) (first | assumption | exact ⟨(startS hO7.drew).1, (startS hO7.drew).2.1⟩ | exact ⟨(startS (hO7.drew.via hb)).1, (startS (hO7.drew.via hb)).2.1⟩ | exact ⟨(startS hO8).1, (startS hO8).2.1⟩) (first | (go_at_call 16; refine (layout_Stack _ _ _ L.out).mono ?_; rw [on.out]; rintro e w5 ⟨rfl, hb⟩) | (go_at_call 24; refine (plain_Store (i + 2) _ _ (hO7.drew.via hb) hir (by rw [linkW_len]; exact hl)).mono ?_; rintro e w6 ⟨rfl, hO8⟩))
          all_goals
            go_wp2_with fail
            go_ret
            refine ⟨rfl, wrap64 (m + 1), ?_⟩
            rw [startW_last t1 t3 ws (by rw [HN.out]; omega)] at hO8
            simpa only [List.set_cons_succ, List.set_set] using hO8.tail.tail
end Go.Proofs.Ytpebepjfgnoaaaa
namespace Go.Proofs.Ytpebepjfgnoaaaa
set_option linter.unusedVariables false
set_option linter.unusedSimpArgs false
open Go.RowKit
set_option maxHeartbeats 2000000 in
theorem ref06_May (a s t : Int) (w : World) : Calls Try.prog 21 #[.agg #[.int .i64 a, .int .i64 s, .int .i64 t]] w fun e w' => e = .returned (.bool (cfgOk a s t)) ∧ Below w.heap.size w w' := by
  by_cases c0 : 8 ≤ a
  rotate_left
  · have e := Lib.hid (show cfgOk a s t = false from decide_eq_false (by omega))
    have n0 : a < 8 := by omega
    clear c0
    go_enter Try.func21, Try.ntmps21
    go_wp2
    go_ret
    exact ⟨by rw [e.out]; (first | rfl | (apply retb; first | rfl | (simp; done) | (simp; omega))), by (repeat' (first | (with_reducible exact Below.refl _ _) | (with_reducible assumption) | (with_reducible refine below_drewN ?_ _) | (with_reducible refine Below.drew ?_) | (with_reducible refine Below.alloc ?_ ?_ _) | (with_reducible refine Below.setCell ?_ ?_ _) | (with_reducible refine below_via (by assumption) ?_ ?_) | go_size))⟩
  by_cases c1 : a ≤ 4096
  rotate_left
  · have e := Lib.hid (show cfgOk a s t = false from decide_eq_false (by omega))
    have n1 : 4096 < a := by omega
    clear c1
    go_enter Try.func21, Try.ntmps21
    go_wp2
    go_ret
    exact ⟨by rw [e.out]; (first | rfl | (apply retb; first | rfl | (simp; done) | (simp; omega))), by (repeat' (first | (with_reducible exact Below.refl _ _) | (with_reducible assumption) | (with_reducible refine below_drewN ?_ _) | (with_reducible refine Below.drew ?_) | (with_reducible refine Below.alloc ?_ ?_ _) | (with_reducible refine Below.setCell ?_ ?_ _) | (with_reducible refine below_via (by assumption) ?_ ?_) | go_size))⟩
  by_cases c2 : a % 8 = 0
  rotate_left
  · have e := Lib.hid (show cfgOk a s t = false from decide_eq_false (by omega))
    have m : (a % 8 == 0) = false := by simpa using c2
    clear c2
    go_enter Try.func21, Try.ntmps21
    go_wp2
    go_ret
    exact ⟨by rw [e.out]; (first | rfl | (apply retb; first | rfl | (simp; done) | (simp; omega))), by (repeat' (first | (with_reducible exact Below.refl _ _) | (with_reducible assumption) | (with_reducible refine below_drewN ?_ _) | (with_reducible refine Below.drew ?_) | (with_reducible refine Below.alloc ?_ ?_ _) | (with_reducible refine Below.setCell ?_ ?_ _) | (with_reducible refine below_via (by assumption) ?_ ?_) | go_size))⟩
  have m : (a % 8 == 0) = true := by simpa using c2
  by_cases c3 : 1 ≤ s
  rotate_left
  · have e := Lib.hid (show cfgOk a s t = false from decide_eq_false (by omega))
    have n3 : s < 1 := by omega
    clear c3
    go_enter Try.func21, Try.ntmps21
    go_wp2
    go_ret
    exact ⟨by rw [e.out]; (first | rfl | (apply retb; first | rfl | (simp; done) | (simp; omega))), by (repeat' (first | (with_reducible exact Below.refl _ _) | (with_reducible assumption) | (with_reducible refine below_drewN ?_ _) | (with_reducible refine Below.drew ?_) | (with_reducible refine Below.alloc ?_ ?_ _) | (with_reducible refine Below.setCell ?_ ?_ _) | (with_reducible refine below_via (by assumption) ?_ ?_) | go_size))⟩
  by_cases c4 : s ≤ 64
  rotate_left
  · have e := Lib.hid (show cfgOk a s t = false from decide_eq_false (by omega))
    have n4 : 64 < s := by omega
    clear c4
    go_enter Try.func21, Try.ntmps21
    go_wp2
    go_ret
    exact ⟨by rw [e.out]; (first | rfl | (apply retb; first | rfl | (simp; done) | (simp; omega))), by (repeat' (first | (with_reducible exact Below.refl _ _) | (with_reducible assumption) | (with_reducible refine below_drewN ?_ _) | (with_reducible refine Below.drew ?_) | (with_reducible refine Below.alloc ?_ ?_ _) | (with_reducible refine Below.setCell ?_ ?_ _) | (with_reducible refine below_via (by assumption) ?_ ?_) | go_size))⟩
  by_cases c5 : 1 ≤ t
  rotate_left
  · have e := Lib.hid (show cfgOk a s t = false from decide_eq_false (by omega))
    have n5 : t < 1 := by omega
    clear c5
    go_enter Try.func21, Try.ntmps21
    go_wp2
    go_ret
    exact ⟨by rw [e.out]; (first | rfl | (apply retb; first | rfl | (simp; done) | (simp; omega))), by (repeat' (first | (with_reducible exact Below.refl _ _) | (with_reducible assumption) | (with_reducible refine below_drewN ?_ _) | (with_reducible refine Below.drew ?_) | (with_reducible refine Below.alloc ?_ ?_ _) | (with_reducible refine Below.setCell ?_ ?_ _) | (with_reducible refine below_via (by assumption) ?_ ?_) | go_size))⟩
  by_cases c6 : t ≤ 4
  rotate_left
  · have e := Lib.hid (show cfgOk a s t = false from decide_eq_false (by omega))
    have n6 : 4 < t := by omega
    clear c6
    go_enter Try.func21, Try.ntmps21
    go_wp2
    go_ret
    exact ⟨by rw [e.out]; (first | rfl | (apply retb; first | rfl | (simp; done) | (simp; omega))), by (repeat' (first | (with_reducible exact Below.refl _ _) | (with_reducible assumption) | (with_reducible refine below_drewN ?_ _) | (with_reducible refine Below.drew ?_) | (with_reducible refine Below.alloc ?_ ?_ _) | (with_reducible refine Below.setCell ?_ ?_ _) | (with_reducible refine below_via (by assumption) ?_ ?_) | go_size))⟩
  have e := Lib.hid (show cfgOk a s t = true from decide_eq_true (by omega))
  clear c2
  go_enter Try.func21, Try.ntmps21
  go_wp2
  go_ret
  exact ⟨by rw [e.out]; (first | rfl | (apply retb; first | rfl | (simp; done) | (simp; omega))), by (repeat' (first | (with_reducible exact Below.refl _ _) | (with_reducible assumption) | (with_reducible refine below_drewN ?_ _) | (with_reducible refine Below.drew ?_) | (with_reducible refine Below.alloc ?_ ?_ _) | (with_reducible refine Below.setCell ?_ ?_ _) | (with_reducible refine below_via (by assumption) ?_ ?_) | go_size))⟩
def rWords (a s t : Int) : Int := lWords (ofT a s t) (ofS a s t)
theorem rWords_yes {a s t : Int} (h : cfgOk a s t = true) : rWords a s t = 4 + t + 3 * s := by
  obtain ⟨h1, h2, -⟩ := of_yes h
  have := cfgOk_of h
  unfold rWords; rw [h1, h2, lWords_ok (by omega)]
theorem rWords_no {a s t : Int} (h : cfgOk a s t = false) : rWords a s t = 0 := by
  obtain ⟨h1, h2, -⟩ := of_no h
  unfold rWords; rw [h1, h2]; rfl
set_option maxHeartbeats 1000000 in
theorem ref06_Words (a s t : Int) (w : World) : Calls Try.prog 49 #[.agg #[.int .i64 a, .int .i64 s, .int .i64 t]] w fun e w' => e = .returned (.int .i64 (rWords a s t)) ∧ Below w.heap.size w w' := by
  rcases bool_cases (b := cfgOk a s t) with h | h
  · have e := Lib.hid (rWords_yes h)
    have H := Lib.hid h
    obtain ⟨h1, h2, h3, h4, h5, h6, h7⟩ := cfgOk_of h
    clear h h3
    go_enter Try.func49, Try.ntmps49
    go_wp2_with fail
    have a1 : (w.alloc (Obj.cells #[.int .i64 a, .int .i64 s, .int .i64 t] 23)).cell? ⟨w.heap.size, 1, none⟩ = some (.int .i64 s) := by simp
    have a2 : (w.alloc (Obj.cells #[.int .i64 a, .int .i64 s, .int .i64 t] 23)).cell? ⟨w.heap.size, 2, none⟩ = some (.int .i64 t) := by simp
    go_wp2_with (go_at_call 21; refine (ref06_May _ _ _ _).mono ?_; rw [H.out]; rintro e w' ⟨rfl, hb⟩; have a1 := (hb.cell (p := ⟨w.heap.size, 1, none⟩) (by simp)).trans a1; have a2 := (hb.cell (p := ⟨w.heap.size, 2, none⟩) (by simp)).trans a2; have hz := hb.size; (try simp only [World.size_alloc, World.size_drew, World.size_setCell, size_drewN] at hz))
    go_ret
    exact ⟨by rw [e.out]; rfl, by (repeat' (first | (with_reducible exact Below.refl _ _) | (with_reducible assumption) | (with_reducible refine below_drewN ?_ _) | (with_reducible refine Below.drew ?_) | (with_reducible refine Below.alloc ?_ ?_ _) | (with_reducible refine Below.setCell ?_ ?_ _) | (with_reducible refine below_via (by assumption) ?_ ?_) | go_size))⟩
  · have e := Lib.hid (rWords_no h)
    have H := Lib.hid h
    clear h
    go_enter Try.func49, Try.ntmps49
    go_wp2_with (go_at_call 21; refine (ref06_May _ _ _ _).mono ?_; rw [H.out]; rintro e w' ⟨rfl, hb⟩; have hz := hb.size; (try simp only [World.size_alloc, World.size_drew, World.size_setCell, size_drewN] at hz))
    go_ret
    exact ⟨by rw [e.out]; rfl, by (repeat' (first | (with_reducible exact Below.refl _ _) | (with_reducible assumption) | (with_reducible refine below_drewN ?_ _) | (with_reducible refine Below.drew ?_) | (with_reducible refine Below.alloc ?_ ?_ _) | (with_reducible refine Below.setCell ?_ ?_ _) | (with_reducible refine below_via (by assumption) ?_ ?_) | go_size))⟩
/-- the place of a kind of word. -/
def rAt (a s t k n : Int) : Int :=
  if cfgOk a s t = true then (if k ≤ 3 then k else if k = 4 then lNote t n else lOf t s n (k - 5)) else -1
set_option maxHeartbeats 2000000 in
theorem ref06_At (a s t k n : Int) (w : World) (k0 : 0 ≤ k) (k1 : k ≤ 7) : Calls Try.prog 57 #[.agg #[.int .i64 a, .int .i64 s, .int .i64 t], .int .i64 k, .int .i64 n] w fun e w' => e = .returned (.int .i64 (rAt a s t k n)) ∧ Below w.heap.size w w' := by
  rcases bool_cases (b := cfgOk a s t) with h | h
  rotate_left
  · have e := Lib.hid (show rAt a s t k n = -1 by unfold rAt; rw [if_neg (by rw [h]; decide)])
    have H := Lib.hid h
    clear h
    go_enter Try.func57, Try.ntmps57
    go_wp2_with (go_at_call 21; refine (ref06_May _ _ _ _).mono ?_; rw [H.out]; rintro e w' ⟨rfl, hb⟩; have hz := hb.size; (try simp only [World.size_alloc, World.size_drew, World.size_setCell, size_drewN] at hz))
    go_ret
    exact ⟨by rw [e.out]; rfl, by (repeat' (first | (with_reducible exact Below.refl _ _) | (with_reducible assumption) | (with_reducible refine below_drewN ?_ _) | (with_reducible refine Below.drew ?_) | (with_reducible refine Below.alloc ?_ ?_ _) | (with_reducible refine Below.setCell ?_ ?_ _) | (with_reducible refine below_via (by assumption) ?_ ?_) | go_size))⟩
  have H := Lib.hid h
  obtain ⟨h1, h2, h3, h4, h5, h6, h7⟩ := cfgOk_of h
  have er : rAt a s t k n = if k ≤ 3 then k else if k = 4 then lNote t n else lOf t s n (k - 5) := by unfold rAt; rw [if_pos h]
  clear h h3
  by_cases c : k ≤ 3
  · have e := Lib.hid (show rAt a s t k n = k by rw [er]; rw [if_pos c])
    clear er 
    go_enter Try.func57, Try.ntmps57
    go_wp2_with fail
    have a1 : (w.alloc (Obj.cells #[.int .i64 a, .int .i64 s, .int .i64 t] 23)).cell? ⟨w.heap.size, 1, none⟩ = some (.int .i64 s) := by simp
    have a2 : (w.alloc (Obj.cells #[.int .i64 a, .int .i64 s, .int .i64 t] 23)).cell? ⟨w.heap.size, 2, none⟩ = some (.int .i64 t) := by simp
    go_wp2_with (go_at_call 21; refine (ref06_May _ _ _ _).mono ?_; rw [H.out]; rintro e w' ⟨rfl, hb⟩; have a1 := (hb.cell (p := ⟨w.heap.size, 1, none⟩) (by simp)).trans a1; have a2 := (hb.cell (p := ⟨w.heap.size, 2, none⟩) (by simp)).trans a2; have hz := hb.size; (try simp only [World.size_alloc, World.size_drew, World.size_setCell, size_drewN] at hz))
    go_ret
    exact ⟨by rw [e.out]; (first | rfl | exact ret1 (by omega)), by (repeat' (first | (with_reducible exact Below.refl _ _) | (with_reducible assumption) | (with_reducible refine below_drewN ?_ _) | (with_reducible refine Below.drew ?_) | (with_reducible refine Below.alloc ?_ ?_ _) | (with_reducible refine Below.setCell ?_ ?_ _) | (with_reducible refine below_via (by assumption) ?_ ?_) | go_size))⟩
  have c' : 3 < k := by omega
  by_cases d : k = 4
  · subst d
    have er2 : rAt a s t 4 n = lNote t n := by rw [er, if_neg c, if_pos rfl]
    clear er
    have er := er2
    clear er2 c
    by_cases f : 0 ≤ n
    · by_cases g : n < t
      · have e := Lib.hid (show rAt a s t 4 n = 4 + n by rw [er]; unfold lNote; rw [if_pos ⟨f, g⟩])
        clear er 
        go_enter Try.func57, Try.ntmps57
        go_wp2_with fail
        have a1 : (w.alloc (Obj.cells #[.int .i64 a, .int .i64 s, .int .i64 t] 23)).cell? ⟨w.heap.size, 1, none⟩ = some (.int .i64 s) := by simp
        have a2 : (w.alloc (Obj.cells #[.int .i64 a, .int .i64 s, .int .i64 t] 23)).cell? ⟨w.heap.size, 2, none⟩ = some (.int .i64 t) := by simp
        go_wp2_with (go_at_call 21; refine (ref06_May _ _ _ _).mono ?_; rw [H.out]; rintro e w' ⟨rfl, hb⟩; have a1 := (hb.cell (p := ⟨w.heap.size, 1, none⟩) (by simp)).trans a1; have a2 := (hb.cell (p := ⟨w.heap.size, 2, none⟩) (by simp)).trans a2; have hz := hb.size; (try simp only [World.size_alloc, World.size_drew, World.size_setCell, size_drewN] at hz))
        go_ret
        exact ⟨by rw [e.out]; (first | rfl | exact ret1 (by omega)), by (repeat' (first | (with_reducible exact Below.refl _ _) | (with_reducible assumption) | (with_reducible refine below_drewN ?_ _) | (with_reducible refine Below.drew ?_) | (with_reducible refine Below.alloc ?_ ?_ _) | (with_reducible refine Below.setCell ?_ ?_ _) | (with_reducible refine below_via (by assumption) ?_ ?_) | go_size))⟩
      · have g' : t ≤ n := by omega
        have e := Lib.hid (show rAt a s t 4 n = -1 by rw [er]; unfold lNote; rw [if_neg (by omega)])
        clear er g
        go_enter Try.func57, Try.ntmps57
        go_wp2_with fail
        have a1 : (w.alloc (Obj.cells #[.int .i64 a, .int .i64 s, .int .i64 t] 23)).cell? ⟨w.heap.size, 1, none⟩ = some (.int .i64 s) := by simp
        have a2 : (w.alloc (Obj.cells #[.int .i64 a, .int .i64 s, .int .i64 t] 23)).cell? ⟨w.heap.size, 2, none⟩ = some (.int .i64 t) := by simp
        go_wp2_with (go_at_call 21; refine (ref06_May _ _ _ _).mono ?_; rw [H.out]; rintro e w' ⟨rfl, hb⟩; have a1 := (hb.cell (p := ⟨w.heap.size, 1, none⟩) (by simp)).trans a1; have a2 := (hb.cell (p := ⟨w.heap.size, 2, none⟩) (by simp)).trans a2; have hz := hb.size; (try simp only [World.size_alloc, World.size_drew, World.size_setCell, size_drewN] at hz))
        go_ret
        exact ⟨by rw [e.out]; (first | rfl | exact ret1 (by omega)), by (repeat' (first | (with_reducible exact Below.refl _ _) | (with_reducible assumption) | (with_reducible refine below_drewN ?_ _) | (with_reducible refine Below.drew ?_) | (with_reducible refine Below.alloc ?_ ?_ _) | (with_reducible refine Below.setCell ?_ ?_ _) | (with_reducible refine below_via (by assumption) ?_ ?_) | go_size))⟩
    · have f' : n < 0 := by omega
      have e := Lib.hid (show rAt a s t 4 n = -1 by rw [er]; unfold lNote; rw [if_neg (by omega)])
      clear er f
      go_enter Try.func57, Try.ntmps57
      go_wp2_with fail
      have a1 : (w.alloc (Obj.cells #[.int .i64 a, .int .i64 s, .int .i64 t] 23)).cell? ⟨w.heap.size, 1, none⟩ = some (.int .i64 s) := by simp
      have a2 : (w.alloc (Obj.cells #[.int .i64 a, .int .i64 s, .int .i64 t] 23)).cell? ⟨w.heap.size, 2, none⟩ = some (.int .i64 t) := by simp
      go_wp2_with (go_at_call 21; refine (ref06_May _ _ _ _).mono ?_; rw [H.out]; rintro e w' ⟨rfl, hb⟩; have a1 := (hb.cell (p := ⟨w.heap.size, 1, none⟩) (by simp)).trans a1; have a2 := (hb.cell (p := ⟨w.heap.size, 2, none⟩) (by simp)).trans a2; have hz := hb.size; (try simp only [World.size_alloc, World.size_drew, World.size_setCell, size_drewN] at hz))
      go_ret
      exact ⟨by rw [e.out]; (first | rfl | exact ret1 (by omega)), by (repeat' (first | (with_reducible exact Below.refl _ _) | (with_reducible assumption) | (with_reducible refine below_drewN ?_ _) | (with_reducible refine Below.drew ?_) | (with_reducible refine Below.alloc ?_ ?_ _) | (with_reducible refine Below.setCell ?_ ?_ _) | (with_reducible refine below_via (by assumption) ?_ ?_) | go_size))⟩
  have er2 : rAt a s t k n = lOf t s n (k - 5) := by rw [er, if_neg c, if_neg d]
  clear er
  have er := er2
  have d' : (k == 4) = false := by simpa using d
  clear er2 c d
  by_cases f : 0 ≤ n
  · by_cases g : n < s
    · have e := Lib.hid (show rAt a s t k n = 4 + t + 3 * n + (k - 5) by rw [er]; unfold lOf; rw [if_pos ⟨f, g⟩])
      clear er 
      go_enter Try.func57, Try.ntmps57
      go_wp2_with fail
      have a1 : (w.alloc (Obj.cells #[.int .i64 a, .int .i64 s, .int .i64 t] 23)).cell? ⟨w.heap.size, 1, none⟩ = some (.int .i64 s) := by simp
      have a2 : (w.alloc (Obj.cells #[.int .i64 a, .int .i64 s, .int .i64 t] 23)).cell? ⟨w.heap.size, 2, none⟩ = some (.int .i64 t) := by simp
      go_wp2_with (go_at_call 21; refine (ref06_May _ _ _ _).mono ?_; rw [H.out]; rintro e w' ⟨rfl, hb⟩; have a1 := (hb.cell (p := ⟨w.heap.size, 1, none⟩) (by simp)).trans a1; have a2 := (hb.cell (p := ⟨w.heap.size, 2, none⟩) (by simp)).trans a2; have hz := hb.size; (try simp only [World.size_alloc, World.size_drew, World.size_setCell, size_drewN] at hz))
      go_ret
      exact ⟨by rw [e.out]; (first | rfl | exact ret1 (by omega)), by (repeat' (first | (with_reducible exact Below.refl _ _) | (with_reducible assumption) | (with_reducible refine below_drewN ?_ _) | (with_reducible refine Below.drew ?_) | (with_reducible refine Below.alloc ?_ ?_ _) | (with_reducible refine Below.setCell ?_ ?_ _) | (with_reducible refine below_via (by assumption) ?_ ?_) | go_size))⟩
    · have g' : s ≤ n := by omega
      have e := Lib.hid (show rAt a s t k n = -1 by rw [er]; unfold lOf; rw [if_neg (by omega)])
      clear er g
      go_enter Try.func57, Try.ntmps57
      go_wp2_with fail
      have a1 : (w.alloc (Obj.cells #[.int .i64 a, .int .i64 s, .int .i64 t] 23)).cell? ⟨w.heap.size, 1, none⟩ = some (.int .i64 s) := by simp
      have a2 : (w.alloc (Obj.cells #[.int .i64 a, .int .i64 s, .int .i64 t] 23)).cell? ⟨w.heap.size, 2, none⟩ = some (.int .i64 t) := by simp
      go_wp2_with (go_at_call 21; refine (ref06_May _ _ _ _).mono ?_; rw [H.out]; rintro e w' ⟨rfl, hb⟩; have a1 := (hb.cell (p := ⟨w.heap.size, 1, none⟩) (by simp)).trans a1; have a2 := (hb.cell (p := ⟨w.heap.size, 2, none⟩) (by simp)).trans a2; have hz := hb.size; (try simp only [World.size_alloc, World.size_drew, World.size_setCell, size_drewN] at hz))
      go_ret
      exact ⟨by rw [e.out]; (first | rfl | exact ret1 (by omega)), by (repeat' (first | (with_reducible exact Below.refl _ _) | (with_reducible assumption) | (with_reducible refine below_drewN ?_ _) | (with_reducible refine Below.drew ?_) | (with_reducible refine Below.alloc ?_ ?_ _) | (with_reducible refine Below.setCell ?_ ?_ _) | (with_reducible refine below_via (by assumption) ?_ ?_) | go_size))⟩
  · have f' : n < 0 := by omega
    have e := Lib.hid (show rAt a s t k n = -1 by rw [er]; unfold lOf; rw [if_neg (by omega)])
    clear er f
    go_enter Try.func57, Try.ntmps57
    go_wp2_with fail
    have a1 : (w.alloc (Obj.cells #[.int .i64 a, .int .i64 s, .int .i64 t] 23)).cell? ⟨w.heap.size, 1, none⟩ = some (.int .i64 s) := by simp
    have a2 : (w.alloc (Obj.cells #[.int .i64 a, .int .i64 s, .int .i64 t] 23)).cell? ⟨w.heap.size, 2, none⟩ = some (.int .i64 t) := by simp
    go_wp2_with (go_at_call 21; refine (ref06_May _ _ _ _).mono ?_; rw [H.out]; rintro e w' ⟨rfl, hb⟩; have a1 := (hb.cell (p := ⟨w.heap.size, 1, none⟩) (by simp)).trans a1; have a2 := (hb.cell (p := ⟨w.heap.size, 2, none⟩) (by simp)).trans a2; have hz := hb.size; (try simp only [World.size_alloc, World.size_drew, World.size_setCell, size_drewN] at hz))
    go_ret
    exact ⟨by rw [e.out]; (first | rfl | exact ret1 (by omega)), by (repeat' (first | (with_reducible exact Below.refl _ _) | (with_reducible assumption) | (with_reducible refine below_drewN ?_ _) | (with_reducible refine Below.drew ?_) | (with_reducible refine Below.alloc ?_ ?_ _) | (with_reducible refine Below.setCell ?_ ?_ _) | (with_reducible refine below_via (by assumption) ?_ ?_) | go_size))⟩
end Go.Proofs.Ytpebepjfgnoaaaa
namespace Go.Proofs.Ytpebepjfgnoaaaa
set_option linter.unusedVariables false
set_option linter.unusedSimpArgs false
open Go.RowKit
def upLink (t s k j : Int) : Int := if (j - 6 - t) % 3 = 0 ∧ 0 ≤ (j - 6 - t) / 3 ∧ (j - 6 - t) / 3 < k ∧ (j - 6 - t) / 3 + 1 < s then (j - 6 - t) / 3 + 2 else 0
def upW (t s k : Int) (N : Nat) : List Int := setW (fun j => upLink t s k j) N
theorem upW_zero (t s : Int) (N : Nat) : List.replicate N 0 = upW t s 0 N := by
  unfold upW setW
  apply List.ext_getElem?
  intro j
  by_cases h : j < N
  · rw [List.getElem?_replicate, if_pos h, List.getElem?_map, List.getElem?_range h]
    simp only [Option.map_some]
    unfold upLink; rw [if_neg (by omega)]
  · rw [List.getElem?_eq_none (by simp; omega), List.getElem?_eq_none (by simp; omega)]
theorem upW_step {t s k : Int} {N q : Nat} (h1 : 1 ≤ t) (h0 : 0 ≤ k) (hk : k + 1 < s) (hq : 4 + t + 3 * k + 2 = q) (hqN : q < N) : (upW t s k N).set q (k + 2) = upW t s (k + 1) N := by
  have := wPut_setW (fun j => upLink t s k j) N q (k + 2) hqN
  unfold wPut at this
  rw [if_pos (wIn_iff.2 ⟨by omega, by rw [setW_len]; omega⟩), Int.toNat_natCast] at this
  unfold upW
  rw [this]
  refine setW_ext fun j _ => ?_
  by_cases e : j = q
  · subst e; rw [if_pos rfl]; unfold upLink; rw [if_pos (by omega)]; omega
  · rw [if_neg e]; unfold upLink
    by_cases c : ((j : Int) - 6 - t) % 3 = 0 ∧ 0 ≤ ((j : Int) - 6 - t) / 3 ∧ ((j : Int) - 6 - t) / 3 < k ∧ ((j : Int) - 6 - t) / 3 + 1 < s
    · rw [if_pos c, if_pos (by omega)]
    · rw [if_neg c, if_neg (by omega)]
theorem upW_skip {t s k : Int} {N : Nat} (hk : ¬ k + 1 < s) : upW t s k N = upW t s (k + 1) N := by
  refine setW_ext fun j _ => ?_
  unfold upLink
  by_cases c : ((j : Int) - 6 - t) % 3 = 0 ∧ 0 ≤ ((j : Int) - 6 - t) / 3 ∧ ((j : Int) - 6 - t) / 3 < k ∧ ((j : Int) - 6 - t) / 3 + 1 < s
  · rw [if_pos c, if_pos (by omega)]
  · rw [if_neg c, if_neg (by omega)]
def refStartW (t s : Int) : List Int := setW (fun j => startAt t s j) (lWords t s).toNat
theorem upW_last {t s : Int} (h1 : 1 ≤ t) (h3 : 1 ≤ s) : (upW t s s (lWords t s).toNat).set 1 1 = refStartW t s := by
  have hN : 1 < (lWords t s).toNat := by rw [lWords_ok h1]; omega
  have := wPut_setW (fun j => upLink t s s j) (lWords t s).toNat 1 1 hN
  unfold wPut at this
  rw [if_pos (wIn_iff.2 ⟨by omega, by rw [setW_len]; omega⟩)] at this
  unfold upW refStartW
  have e : ((1 : Nat) : Int).toNat = 1 := rfl
  rw [e] at this
  rw [this]
  refine setW_ext fun j _ => ?_
  unfold startAt
  by_cases e : j = 1
  · subst e; rw [if_pos rfl, if_pos (by omega)]
  · rw [if_neg e, if_neg (by omega)]
    unfold upLink linkAt
    by_cases c : ((j : Int) - 6 - t) % 3 = 0 ∧ 0 ≤ ((j : Int) - 6 - t) / 3 ∧ ((j : Int) - 6 - t) / 3 + 1 < s
    · rw [if_pos (by omega), if_pos c]
    · rw [if_neg (by omega), if_neg c]
def MadeRow (B : Nat) (W : World) (G : List Grp) (xs : List Int) (e : Ending) (w' : World) : Prop :=
  ∃ b, e = .returned (.slice (some ⟨b, 0, none⟩) xs.length xs.length) ∧ Owns B W w' ([(b, .cells (intArr xs) 3 (0, 0))] :: G)
set_option maxRecDepth 100000 in
set_option maxHeartbeats 2000000 in
theorem ref06_Start {B : Nat} {W w : World} {G : List Grp} (a s t : Int) (hO : Owns B W w G) (hc : cfgOk a s t = true) : Calls Try.prog 51 #[.agg #[.int .i64 a, .int .i64 s, .int .i64 t]] w (MadeRow B W G (refStartW t s)) := by
  obtain ⟨h1, h2, h3, h4, h5, h6, h7⟩ := cfgOk_of hc
  obtain ⟨N, hN⟩ : ∃ N : Nat, lWords t s = N := ⟨(lWords t s).toNat, by rw [lWords_ok h6]; omega⟩
  have hN2 : (N : Int) = 4 + t + 3 * s := by rw [← hN, lWords_ok h6]
  have hlast := Lib.hid (show (upW t s s N).set 1 1 = refStartW t s by have := upW_last h6 h4; rw [hN] at this; exact this)
  have hlen := Lib.hid (show (refStartW t s).length = N by unfold refStartW; rw [setW_len, hN]; rfl)
  have u := Lib.hid (show rWords a s t = N by rw [rWords_yes hc, hN2])
  have hat := Lib.hid (show ∀ k : Int, 0 ≤ k → k < s → rAt a s t 7 k = 4 + t + 3 * k + 2 by intro k hk hk'; unfold rAt; rw [if_pos hc, if_neg (by omega), if_neg (by omega)]; unfold lOf; rw [if_pos (by omega)]; omega)
  have hN3 : (N : Int) ≤ 4 + t + 3 * s := by omega
  have hN4 : 4 + t + 3 * s ≤ (N : Int) := by omega
  clear hc h3 hN hN2
  have hb1 : (0 : Int) ≤ N := by omega
  have hb2 : (N : Int) ≤ 65536 := by omega
  have m1 := fun w => made_ints N w hb1 hb2
  go_enter Try.func51, Try.ntmps51
  go_wp2_with fail
  have hO := hO.alloc (.cells #[.int .i64 a, .int .i64 s, .int .i64 t] 23)
  have a0 : _ = some (Value.int .i64 a) := hO.cell 0 0 rfl rfl 0; have a1 : _ = some (Value.int .i64 s) := hO.cell 0 0 rfl rfl 1; have a2 : _ = some (Value.int .i64 t) := hO.cell 0 0 rfl rfl 2
  refine (ref06_Words _ _ _ _).mono ?_; rw [u.out]; rintro e w1 ⟨rfl, hb⟩; have hO := (hO.via hb).alloc (.cells (intArr (List.replicate (Int.toNat N) 0)) 3)
  go_wp2_with fail
  clear m1 a0 a1 a2
  simp only [Int.toNat_natCast] at hO ⊢
  generalize w1.alloc (.cells (intArr (List.replicate N 0)) 3) = w2 at hO ⊢
  generalize w1.heap.size = ob at hO ⊢
  generalize w.heap.size = cb at hO ⊢
  go_loopw [4] (fun i wr => ∃ (k : Int), i = .int .i64 k ∧ 0 ≤ k ∧ k ≤ s ∧ Owns B W wr ([(ob, .cells (intArr (upW t s k N)) 3 (0, 0))] :: [(cb, Obj.cells #[.int .i64 a, .int .i64 s, .int .i64 t] 23 (0, 0))] :: G)) (fun i _ => s.toNat - (intOf i).toNat)
  case atStart => exact ⟨0, rfl, by omega, by omega, by rw [← upW_zero]; exact hO⟩
  case round =>
    clear hO
    obtain ⟨k, rfl, hk0, hk, hO⟩ := hrel
    have a0 : _ = some (Value.int .i64 a) := hO.cell 1 0 rfl rfl 0; have a1 : _ = some (Value.int .i64 s) := hO.cell 1 0 rfl rfl 1; have a2 : _ = some (Value.int .i64 t) := hO.cell 1 0 rfl rfl 2
    by_cases hlt : k < s
    · by_cases hlt2 : k + 1 < s
      · obtain ⟨q, hq⟩ : ∃ q : Nat, 4 + t + 3 * k + 2 = q := ⟨(4 + t + 3 * k + 2).toNat, by omega⟩
        have hqN : q < N := by omega
        have hq0 : (0 : Int) ≤ q := by omega
        have hqN' : (q : Int) < N := by omega
        have ha := Lib.hid ((hat.out k hk0 hlt).trans hq)
        have hs := Lib.hid (upW_step (N := N) h6 hk0 hlt2 hq hqN)
        clear hq
        go_wp2_with (go_at_call 57; refine (ref06_At _ _ _ _ _ _ (by omega) (by omega)).mono ?_; rw [ha.out]; rintro e w3 ⟨rfl, hb⟩; have hO := hO.via hb; have c1 : _ = some (Value.int .i64 _) := (hO.cell 0 0 rfl rfl q).trans (intArr_get _ q (by unfold upW; rw [setW_len]; exact hqN)); have hf := blk_free (hO.get 0 0 rfl rfl) q)
        go_roundw
        case rel => exact ⟨k + 1, rfl, by omega, by omega, by
          have := hO.set 0 0 rfl rfl q (.int .i64 (k + 2))
          rw [intArr_set, hs.out] at this; exact this⟩
        case measure => simp [intOf]; omega
      · have hge : s ≤ k + 1 := by omega
        have hs := Lib.hid (upW_skip (t := t) (N := N) hlt2)
        clear hlt2
        go_wp2_with fail
        go_roundw
        case rel => exact ⟨k + 1, rfl, by omega, by omega, by rw [← hs.out]; exact hO⟩
        case measure => simp [intOf]; omega
    · have hks : k = s := by omega
      subst hks
      have hN1 : (1 : Int) < N := by omega
      have c1 : _ = some (Value.int .i64 _) := (hO.cell 0 0 rfl rfl 1).trans (intArr_get _ 1 (by unfold upW; rw [setW_len]; omega))
      have hf := blk_free (hO.get 0 0 rfl rfl) 1
      clear hlt
      go_wp2_with fail
      go_ret
      refine ⟨ob, by rw [hlen.out]; rfl, ?_⟩
      have := hO.set 0 0 rfl rfl 1 (.int .i64 1)
      rw [intArr_set, hlast.out] at this
      exact this.drop 1
end Go.Proofs.Ytpebepjfgnoaaaa
namespace Go.Proofs.Ytpebepjfgnoaaaa
set_option linter.unusedVariables false
set_option linter.unusedSimpArgs false
open Go.RowKit
/-- a slice that reads as a list of whole numbers. -/
def Reads (w : World) (v : Value) (xs : List Int) : Prop :=
  ∃ (p : Option Addr) (cap : Nat), v = .slice p xs.length cap ∧ xs.length ≤ 1000000 ∧ ∀ j, j < xs.length → ∃ b, p = some ⟨b, 0, none⟩ ∧ w.cell? ⟨b, j, none⟩ = some (.int .i64 (xs.getD j 0))
theorem Reads.row {B : Nat} {W w : World} {G : List Grp} {e : TypeId} {v : Value} {xs : List Int} {cur : List Value} (hr : RowOk v (xs.map (Value.int .i64)) cur) (h : Owns B W w G) (i : Nat) (hi : G[i]? = some (rowG e v cur)) (hl : xs.length ≤ 1000000) : Reads w v xs := by
  by_cases hne : xs = []
  · subst hne
    rcases hr with ⟨rfl, -, -⟩ | ⟨g, cap, rfl, h1⟩
    · exact ⟨none, 0, rfl, by simp, fun j hj => by simp at hj⟩
    · exact ⟨_, cap, rfl, by simp, fun j hj => by simp at hj⟩
  · obtain ⟨g, cap, hv, hc⟩ := hr.cells h i hi (by simpa using hne)
    refine ⟨some ⟨g, 0, none⟩, cap, by simpa using hv, hl, fun j hj => ⟨g, rfl, hc j _ ?_⟩⟩
    rw [List.getElem?_map, List.getElem?_eq_getElem hj]; simp [List.getD, hj]
theorem Reads.ints {B : Nat} {W w : World} {G : List Grp} {t : TypeId} {b cap : Nat} {xs : List Int} (h : Owns B W w G) (i j : Nat) {g : Grp} (hi : G[i]? = some g) (hj : g[j]? = some (b, .cells (intArr xs) t (0, 0))) (hl : xs.length ≤ 1000000) : Reads w (.slice (some ⟨b, 0, none⟩) xs.length cap) xs :=
  ⟨_, cap, rfl, hl, fun k hk => ⟨b, rfl, (blk_cell (h.get i j hi hj) k).trans (intArr_get xs k hk)⟩⟩
theorem Reads.nil (w : World) : Reads w (.slice none 0 0) [] := ⟨none, 0, rfl, by simp, fun j hj => by simp at hj⟩
def sameB (xs ys : List Int) : Bool := decide (xs = ys)
theorem list_ext_getD {xs ys : List Int} (hl : xs.length = ys.length) (h : ∀ j, j < xs.length → xs.getD j 0 = ys.getD j 0) : xs = ys := by
  rw [list_setW xs, list_setW ys, ← hl]; exact setW_ext h
set_option maxHeartbeats 2000000 in
theorem ref01_Same (v1 v2 : Value) (xs ys : List Int) (w : World) (h1 : Reads w v1 xs) (h2 : Reads w v2 ys) : Calls Try.prog 28 #[v1, v2] w fun e w' => e = .returned (.bool (sameB xs ys)) ∧ Below w.heap.size w w' := by
  obtain ⟨p1, c1, rfl, l1, g1⟩ := h1
  obtain ⟨p2, c2, rfl, l2, g2⟩ := h2
  by_cases hl : xs.length = ys.length
  rotate_left
  · have e := Lib.hid (show sameB xs ys = false from decide_eq_false (fun h => hl (congrArg _ h)))
    have n1 : ((xs.length : Int) != (ys.length : Int)) = true := by rw [bne_iff_ne]; omega
    clear hl
    go_enter Try.func28, Try.ntmps28
    go_wp2
    go_ret
    exact ⟨by rw [e.out]; (first | rfl | (apply retb; first | rfl | (simp; done) | (simp; omega))), by (repeat' (first | (with_reducible exact Below.refl _ _) | (with_reducible assumption) | (with_reducible refine below_drewN ?_ _) | (with_reducible refine Below.drew ?_) | (with_reducible refine Below.alloc ?_ ?_ _) | (with_reducible refine Below.setCell ?_ ?_ _) | (with_reducible refine below_via (by assumption) ?_ ?_) | go_size))⟩
  have n1 : ((xs.length : Int) != (ys.length : Int)) = false := by rw [hl]; simp
  have n2 : ((ys.length : Int) != (ys.length : Int)) = false := by simp
  have HL := Lib.hid hl
  clear hl
  go_enter Try.func28, Try.ntmps28
  go_wp2
  clear n1 n2
  go_loopw [5] (fun i wr => ∃ (k : Nat), i = .int .i64 k ∧ k ≤ xs.length ∧ (∀ j, j < k → xs.getD j 0 = ys.getD j 0) ∧ Below w.heap.size w wr) (fun i _ => xs.length - (intOf i).toNat)
  case atStart => exact ⟨0, rfl, by omega, fun j hj => by omega, Below.refl _ _⟩
  case round =>
    obtain ⟨k, rfl, hk, heq, hB⟩ := hrel
    have HQ := Lib.hid heq
    clear heq
    by_cases hlt : k < xs.length
    · obtain ⟨b1, rfl, d1⟩ := g1 k hlt
      obtain ⟨b2, rfl, d2⟩ := g2 k (by rw [← HL.out]; exact hlt)
      have hlt2 : k < ys.length := by have := HL.out; omega
      obtain ⟨x, hx⟩ : ∃ x, x = xs.getD k 0 := ⟨_, rfl⟩
      obtain ⟨y, hy⟩ : ∃ y, y = ys.getD k 0 := ⟨_, rfl⟩
      rw [← hx] at d1
      rw [← hy] at d2
      have d1' : wr.cell? ⟨b1, k, none⟩ = some (.int .i64 x) := (hB.cell (World.block_lt_of_cell? _ _ d1)).trans d1
      have d2' : wr.cell? ⟨b2, k, none⟩ = some (.int .i64 y) := (hB.cell (World.block_lt_of_cell? _ _ d2)).trans d2
      have HX := Lib.hid hx
      have HY := Lib.hid hy
      clear g1 g2 d1 d2 hx hy
      by_cases hxy : x = y
      · have q : (x != y) = false := by simpa using hxy
        have E := Lib.hid hxy
        clear hxy
        go_wp2_with fail
        go_quiet (fail)
        go_wp2_with fail
        go_roundw
        case rel => exact ⟨k + 1, by go_num, by omega, fun j hj => by
          by_cases e : j = k
          · subst e; rw [← HX.out, ← HY.out]; exact E.out
          · exact HQ.out j (by omega), by (repeat' (first | (with_reducible exact Below.refl _ _) | (with_reducible assumption) | (with_reducible refine below_drewN ?_ _) | (with_reducible refine Below.drew ?_) | (with_reducible refine Below.alloc ?_ ?_ _) | (with_reducible refine Below.setCell ?_ ?_ _) | (with_reducible refine below_via (by assumption) ?_ ?_) | go_size))⟩
        case measure => simp [intOf]; omega
      · have q : (x != y) = true := by simpa using hxy
        have e := Lib.hid (show sameB xs ys = false from decide_eq_false (fun h => hxy (by rw [HX.out, HY.out, h])))
        clear hxy
        go_wp2_with fail
        go_quiet (fail)
        go_wp2_with fail
        go_ret
        exact ⟨by rw [e.out]; (first | rfl | (apply retb; first | rfl | (simp; done) | (simp; omega))), by (repeat' (first | (with_reducible exact Below.refl _ _) | (with_reducible assumption) | (with_reducible refine below_drewN ?_ _) | (with_reducible refine Below.drew ?_) | (with_reducible refine Below.alloc ?_ ?_ _) | (with_reducible refine Below.setCell ?_ ?_ _) | (with_reducible refine below_via (by assumption) ?_ ?_) | go_size))⟩
    · have hk' : k = xs.length := by omega
      have e := Lib.hid (show sameB xs ys = true from decide_eq_true (list_ext_getD HL.out (fun j hj => HQ.out j (by omega))))
      have hge : xs.length ≤ k := by omega
      clear hk' hlt g1 g2
      go_wp2_with fail
      go_ret
      exact ⟨by rw [e.out]; (first | rfl | (apply retb; first | rfl | (simp; done) | (simp; omega))), by (repeat' (first | (with_reducible exact Below.refl _ _) | (with_reducible assumption) | (with_reducible refine below_drewN ?_ _) | (with_reducible refine Below.drew ?_) | (with_reducible refine Below.alloc ?_ ?_ _) | (with_reducible refine Below.setCell ?_ ?_ _) | (with_reducible refine below_via (by assumption) ?_ ?_) | go_size))⟩
end Go.Proofs.Ytpebepjfgnoaaaa
namespace Go.Proofs.Ytpebepjfgnoaaaa
set_option linter.unusedVariables false
set_option linter.unusedSimpArgs false
open Go.RowKit
/-- cells as they are at first. -/
def initW (t s : Int) : List Int := startW t s (List.replicate (lWords t s).toNat 0)
theorem initW_len (t s : Int) : (initW t s).length = (lWords t s).toNat := by unfold initW; rw [startW_len]; simp
def WOk (ws : List Int) : Prop := ∀ x ∈ ws, -9223372036854775808 ≤ x ∧ x ≤ 9223372036854775807
theorem wAt_bd {ws : List Int} (h : WOk ws) (k : Int) : -9223372036854775808 ≤ wAt ws k ∧ wAt ws k ≤ 9223372036854775807 := by
  unfold wAt; split
  · rename_i hk
    have := (wIn_iff.1 hk)
    rw [List.getD_eq_getElem?_getD, List.getElem?_eq_getElem (by omega)]
    exact h _ (List.getElem_mem _)
  · omega
theorem below_alloc (w : World) (o : Obj) : Below w.heap.size w (w.alloc o) := (Below.refl _ _).alloc (Nat.le_refl _) _
theorem wAt_put_same {ws : List Int} {k n : Int} (h : wIn ws k = true) : wAt (wPut ws k n) k = n := by
  unfold wAt; rw [wIn_put, if_pos h]
  obtain ⟨h0, h1⟩ := wIn_iff.1 h
  unfold wPut; rw [if_pos h, List.getD_eq_getElem?_getD, List.getElem?_set_self (by omega)]; rfl
theorem wAt_put_ne {ws : List Int} {k j n : Int} (h : j ≠ k) : wAt (wPut ws k n) j = wAt ws j := by
  unfold wAt; rw [wIn_put]
  by_cases hj : wIn ws j = true
  · rw [if_pos hj, if_pos hj]
    obtain ⟨h0, h1⟩ := wIn_iff.1 hj
    unfold wPut; split
    · rename_i hk
      obtain ⟨k0, k1⟩ := wIn_iff.1 hk
      rw [List.getD_eq_getElem?_getD, List.getElem?_set_ne (by omega), ← List.getD_eq_getElem?_getD]
    · rfl
  · rw [if_neg hj, if_neg hj]
theorem initW_at {t s : Int} (h1 : 1 ≤ t) (j : Int) (h0 : 0 ≤ j) (hj : j < 4 + t + 3 * s) : wAt (initW t s) j = startAt t s j := by
  unfold initW startW
  rw [wAt_setW, List.length_replicate, lWords_ok h1, if_pos (by omega), if_pos (by omega)]
  rw [Int.toNat_of_nonneg h0]
theorem initW_in {t s : Int} (h1 : 1 ≤ t) (j : Int) (h0 : 0 ≤ j) (hj : j < 4 + t + 3 * s) : wIn (initW t s) j = true := by
  rw [wIn_iff, initW_len, lWords_ok h1]; omega
theorem set_same {α : Type} {l : List α} {i : Nat} {x : α} (h : l[i]? = some x) : l.set i x = l := List.set_of_getElem? h
theorem Owns.nothing {B : Nat} {W w : World} {G : List Grp} (h : Owns B W w G) : Owns B W w ([] :: G) := by
  have e : ([] :: G : List Grp).flatten = G.flatten := by simp
  unfold Owns; rw [e]; exact h
theorem wPut_ok {ws : List Int} (h : WOk ws) (k n : Int) : WOk (wPut ws k (wrap64 n)) := by
  unfold wPut
  split
  · intro x hx
    rcases List.mem_or_eq_of_mem_set hx with hx | hx
    · exact h x hx
    · subst hx; unfold wrap64; omega
  · exact h
theorem initW_ok (t s : Int) (h1 : 1 ≤ t) (h4 : s ≤ 64) : WOk (initW t s) := by
  unfold initW startW setW
  intro x hx
  obtain ⟨j, -, rfl⟩ := List.mem_map.1 hx
  split
  · unfold startAt linkAt
    split
    · omega
    · split <;> omega
  · rw [List.getD_eq_getElem?_getD]
    cases h : (List.replicate (lWords t s).toNat (0 : Int))[j]? with
    | none => simp
    | some y => have := List.mem_of_getElem? h; rw [List.mem_replicate] at this; simp [this.2]
theorem nil_Load (a : Option Addr) (w : World) : (nilAhead 274 39 (.pointer a) "Load").run Try.prog w = .ok (some false) w := by kernel_rfl
theorem nil_Cas (a : Option Addr) (w : World) : (nilAhead 274 39 (.pointer a) "Cas").run Try.prog w = .ok (some false) w := by kernel_rfl
theorem nil_Byte (a : Option Addr) (w : World) : (nilAhead 274 39 (.pointer a) "Byte").run Try.prog w = .ok (some false) w := by kernel_rfl
theorem nil_SetByte (a : Option Addr) (w : World) : (nilAhead 274 39 (.pointer a) "SetByte").run Try.prog w = .ok (some false) w := by kernel_rfl
theorem cell_below {w w' : World} {a : Addr} {v : Value} (hb : Below w.heap.size w w') (h : w.cell? a = some v) : w'.cell? a = some v := (hb.cell (World.block_lt_of_cell? _ _ h)).trans h
theorem res_set2 {B : Nat} {W w : World} {G : List Grp} {b : Nat} {T : TypeId} {a0 a1 : Value} (h : Owns B W w ([(b, .cells #[a0, a1] T (0, 0))] :: G)) (v0 v1 : Value) :
    Owns B W ((w.setCell ⟨b, 0, none⟩ v0).setCell ⟨b, 1, none⟩ v1) ([(b, .cells #[v0, v1] T (0, 0))] :: G) := by
  have h0 : Owns B W _ ([(b, .cells #[v0, a1] T (0, 0))] :: G) := h.set 0 0 rfl rfl 0 v0
  exact h0.set 0 0 rfl rfl 1 v1
theorem cell_off {w : World} {x k m : Nat} {v : Value} (h : k ≠ m) : (w.setCell ⟨x, k, none⟩ v).cell? ⟨x, m, none⟩ = w.cell? ⟨x, m, none⟩ := World.cell?_setCell_other _ _ _ _ (by simp [h])
theorem cell_alloc {w : World} {a : Addr} {v : Value} (o : Obj) (h : w.cell? a = some v) : (w.alloc o).cell? a = some v := cell_below (below_alloc w o) h
/-- what a call makes stands ahead of what there was. -/
theorem Owns.app {B : Nat} {W w w' : World} {G H : List Grp} (h : Owns B W w G) (k : Owns w.heap.size w w' H) : Owns B W w' (H ++ G) := by
  have hv := h.via k.1
  refine ⟨hv.1, hv.2.1, ?_, ?_⟩
  · rw [List.flatten_append, List.map_append, List.nodup_append]
    refine ⟨k.2.2.1, h.2.2.1, ?_⟩
    intro n hn m hm
    obtain ⟨x, hx, rfl⟩ := List.mem_map.1 hn
    obtain ⟨y, hy, rfl⟩ := List.mem_map.1 hm
    have h1 := (k.2.2.2 x hx).1
    have h2 := h.all_lt y hy
    omega
  · intro x hx
    rw [List.flatten_append, List.mem_append] at hx
    rcases hx with hx | hx
    · exact ⟨Nat.le_trans h.2.1 (k.2.2.2 x hx).1, (k.2.2.2 x hx).2⟩
    · exact hv.2.2.2 x hx
theorem Owns.third {B : Nat} {W w : World} {a b c : Grp} {R : List Grp} (h : Owns B W w (a :: b :: c :: R)) : Owns B W w (b :: c :: a :: R) := h.perm ((List.Perm.swap b a (c :: R)).trans ((List.Perm.swap c a R).cons b))
theorem tmod_byte (b : Int) : (b.tmod 256 + 256).tmod 256 = b % 256 ∧ (b.tmod 256 + 256) % 256 = b % 256 ∧ -256 < b.tmod 256 ∧ b.tmod 256 < 256 := by
  have h0 := Int.mul_tdiv_add_tmod b 256
  have h1 : b.tmod 256 < 256 := Int.tmod_lt_of_pos b (by decide)
  have h2 : -256 < b.tmod 256 := by
    have := Int.tmod_lt_of_pos (-b) (show (0 : Int) < 256 by decide)
    rw [Int.neg_tmod] at this; omega
  generalize b.tmod 256 = r at *
  generalize b.tdiv 256 = q at *
  have h3 : (r + 256) % 256 = b % 256 := by omega
  exact ⟨by rw [Int.tmod_eq_emod_of_nonneg (by omega)]; exact h3, h3, h2, h1⟩
end Go.Proofs.Ytpebepjfgnoaaaa
