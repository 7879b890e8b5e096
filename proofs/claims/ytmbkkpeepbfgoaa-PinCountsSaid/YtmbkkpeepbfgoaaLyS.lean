/- The walk of layout.Start. -/
import Derived.Deep.RegionHeld3
import Derived.Outline
import Derived.LoopTactic
import Derived.Test.YtmbkkpeepbfgoaaLyW
import Derived.Test.YtmbkkpeepbfgoaaLyQ
import Derived.Test.YtmbkkpeepbfgoaaClN
import Derived.Test.YtmbkkpeepbfgoaaHdF
namespace Go.Proofs.Ytmbkkpeepbfgoaa
set_option linter.unusedVariables false
set_option linter.unusedSimpArgs false
open Go.RowKit
def memI (p : Nat) : Value := .iface 27 (.pointer (some ⟨p, 0, none⟩))
theorem List.set_of_getElem? {α : Type} {l : List α} {i : Nat} {x : α} (h : l[i]? = some x) : l.set i x = l := by
  apply List.ext_getElem?
  intro j
  rw [List.getElem?_set]
  split
  · rename_i e; subst e; split
    · exact h.symm
    · rename_i hl; rw [List.getElem?_eq_none (by omega)]
  · rfl
theorem i64in (n : Int) (h : -9223372036854775808 ≤ n) (h' : n ≤ 9223372036854775807) : IntKind.i64.wrap n = n := by rw [IntKind.wrap_i64]; omega
def firstAt (s q : Int) : Int := if q = s then 0 else q + 1
def Started (B : Nat) (W : World) (G : List Grp) (i p bw bb : Nat) (ws bs : List Int) (e : Ending) (w' : World) : Prop := e = .returned (.int .i64 0) ∧ ∃ m, Owns B W w' (G.set i (memG p bw bb ws bs m))
abbrev StartS (B : Nat) (W : World) (lb cb : Nat) (t s a : Int) (G : List Grp) (w : World) : Prop :=
  w.cell? ⟨lb, 0, none⟩ = some (.int .i64 t) ∧ w.cell? ⟨lb, 1, none⟩ = some (.int .i64 s) ∧ w.cell? ⟨cb, 0, none⟩ = some (.int .i64 a) ∧
    Owns B W w ([(lb, Obj.cells #[.int .i64 t, .int .i64 s] 88 (0, 0))] :: [(cb, Obj.cells #[.int .i64 a, .int .i64 s, .int .i64 t] 26 (0, 0))] :: G)
theorem startS {B : Nat} {W w : World} {lb cb : Nat} {t s a : Int} {G : List Grp} (h : Owns B W w ([(lb, Obj.cells #[.int .i64 t, .int .i64 s] 88 (0, 0))] :: [(cb, Obj.cells #[.int .i64 a, .int .i64 s, .int .i64 t] 26 (0, 0))] :: G)) : StartS B W lb cb t s a G w :=
  ⟨blk_cell (h.get 0 0 rfl rfl) 0, blk_cell (h.get 0 0 rfl rfl) 1, blk_cell (h.get 1 0 rfl rfl) 0, h⟩
theorem nil_Store (a : Option Addr) (w : World) : (nilAhead 256 27 (.pointer a) "Store").run Try.prog w = .ok (some false) w := by kernel_rfl
set_option maxHeartbeats 4000000 in
theorem layout_Start_ok {B : Nat} {W w : World} {G : List Grp} (i : Nat) {p bw bb : Nat} {ws bs : List Int} {n : Int} (a s t : Int) (hO : Owns B W w G) (hi : G[i]? = some (memG p bw bb ws bs n)) (hl : ws.length ≤ 4096) (hl' : bs.length ≤ 4096)
    (hc : cfgOk a s t = true) (hw : lWords t s ≤ ws.length) (ha : a ≤ bs.length) :
    Calls Try.prog 40 #[memI p, .agg #[.int .i64 a, .int .i64 s, .int .i64 t]] w (Started B W G i p bw bb (startW t s ws) bs) := by
  obtain ⟨e1, e2, e3⟩ := of_yes hc
  have E1 := Lib.hid e1
  have E2 := Lib.hid e2
  have E3 := Lib.hid e3
  clear e1 e2 e3
  unfold memI
  have ns := nil_Store (some ⟨p, 0, none⟩)
  go_enter Try.func40, Try.ntmps40
  go_wp2_with (go_at_call 43; refine (layout_Of _ _ _ _).mono ?_; rw [E1.out, E2.out, E3.out]; rintro e w1 ⟨rfl, hb⟩; have hz := hb.size; (try simp only [World.size_alloc, World.size_drew, World.size_setCell, size_drewN] at hz))
  have hO2 := ((hO.alloc (.cells #[.int .i64 a, .int .i64 s, .int .i64 t] 26)).via hb).alloc (.cells #[.int .i64 t, .int .i64 s] 88)
  clear hb hz
  generalize w1.alloc (.cells #[.int .i64 t, .int .i64 s] 88) = w2 at hO2 ⊢
  generalize w1.heap.size = lb at hO2 ⊢
  generalize w.heap.size = cb at hO2 ⊢
  have d0 := startS hO2
  have L := Lib.hid (lOk_yes hc)
  have b1 : decide ((ws.length : Int) < lWords t s) = false := by simpa using hw
  have b2 : decide ((bs.length : Int) < a) = false := by simpa using ha
  have hi2 : ([(lb, Obj.cells #[.int .i64 t, .int .i64 s] 88 (0, 0))] :: [(cb, Obj.cells #[.int .i64 a, .int .i64 s, .int .i64 t] 26 (0, 0))] :: G)[i + 2]? = some (memG p bw bb ws bs n) := by simpa using hi
  go_region_held3 (StartS B W lb cb t s a G) (first | assumption | exact startS (hO2.drew) | exact startS ((by assumption : StartS B W lb cb t s a G _).2.2.2.via hb)) (first | (go_at_call 37; refine (plain_Words (i + 2) (by assumption : StartS B W lb cb t s a G _).2.2.2 hi2 hl).mono ?_; rintro e w' ⟨rfl, rfl⟩) | (go_at_call 118; refine (plain_Bytes (i + 2) (by assumption : StartS B W lb cb t s a G _).2.2.2 hi2 hl').mono ?_; rintro e w' ⟨rfl, rfl⟩) | (go_at_call 64; refine (layout_Words _ _ _ L.out).mono ?_; rintro e w' ⟨rfl, hb⟩))
  have hO3 := hO2.drew.via hb
  clear d0 hO2 hb
  rename_i hH
  clear hH
  obtain ⟨l0, l1, c0, -⟩ := startS hO3
  obtain ⟨t1, t2, t3, t4⟩ : 1 ≤ t ∧ t ≤ 4 ∧ 1 ≤ s ∧ s ≤ 64 := by have := cfgOk_of hc; omega
  have NW := Lib.hid (lWords_ok (s := s) t1)
  obtain ⟨N, hN⟩ : ∃ N : Nat, lWords t s = N := ⟨(lWords t s).toNat, by rw [NW.out]; omega⟩
  have HN := Lib.hid hN
  have hNl : N ≤ ws.length := by omega
  clear hN hc hw b1 b2
  go_wp2_with (go_at_call 64; refine (layout_Words _ _ _ L.out).mono ?_; rw [HN.out]; rintro e w3 ⟨rfl, hb⟩; have hO4 := hO3.via hb)
  have hO5 : Owns B W w3 ([(lb, Obj.cells #[.int .i64 t, .int .i64 s] 88 (0, 0))] :: [(cb, Obj.cells #[.int .i64 a, .int .i64 s, .int .i64 t] 26 (0, 0))] :: G.set i (memG p bw bb (zeroW 0 ws) bs n)) := by
    rw [zeroW_zero, List.set_of_getElem? hi]; exact hO4
  clear hO3 hO4 hb l0 l1 c0
  go_loopw [39] (fun c wr => ∃ (k : Nat) (m : Int), c = .int .i64 k ∧ k ≤ N ∧ Owns B W wr ([(lb, Obj.cells #[.int .i64 t, .int .i64 s] 88 (0, 0))] :: [(cb, Obj.cells #[.int .i64 a, .int .i64 s, .int .i64 t] 26 (0, 0))] :: G.set i (memG p bw bb (zeroW k ws) bs m))) (fun c _ => N - (intOf c).toNat)
  case atStart => exact ⟨0, n, rfl, by omega, hO5⟩
  case round =>
    obtain ⟨k, m, rfl, hk, hOr⟩ := hrel
    have hir : ([(lb, Obj.cells #[.int .i64 t, .int .i64 s] 88 (0, 0))] :: [(cb, Obj.cells #[.int .i64 a, .int .i64 s, .int .i64 t] 26 (0, 0))] :: G.set i (memG p bw bb (zeroW k ws) bs m))[i + 2]? = some (memG p bw bb (zeroW k ws) bs m) := by simpa using set_get hi _
    by_cases hlt : k < N
    · have hst := plain_Store (i + 2) (k : Int) 0 hOr hir (by rw [zeroW_len]; exact hl)
      go_wp2_with (go_at_call 16; refine hst.mono ?_; rintro e w4 ⟨rfl, hO6⟩)
      go_roundw
      case rel => exact ⟨k + 1, _, by go_num, by omega, by rw [zeroW_step k ws (by omega)] at hO6; simpa only [List.set_cons_succ, List.set_set] using hO6⟩
      case measure => simp [intOf]; omega
    · have hkN : k = N := by omega
      subst hkN
      have hls := linkW_start t1 t3 ws
      rw [HN.out, Int.toNat_natCast] at hls
      rw [hls] at hOr
      clear hir hlt hls hO5
      obtain ⟨l0, l1, c0, -⟩ := startS hOr
      go_wp2_with fail
      go_loopw [8, 9] (fun f sv wr => ∃ (q m : Int), sv = .int .i64 (q - 1) ∧ f = .int .i64 (firstAt s q) ∧ 0 ≤ q ∧ q ≤ s ∧ Owns B W wr ([(lb, Obj.cells #[.int .i64 t, .int .i64 s] 88 (0, 0))] :: [(cb, Obj.cells #[.int .i64 a, .int .i64 s, .int .i64 t] 26 (0, 0))] :: G.set i (memG p bw bb (linkW t s q ws) bs m))) (fun _ sv _ => (intOf sv + 1).toNat)
      case atStart => exact ⟨s, m, by (first | rfl | go_num), by unfold firstAt; rw [if_pos rfl], by omega, by omega, hOr⟩
      case round =>
        clear hOr l0 l1 c0
        obtain ⟨q, m, rfl, rfl, hq0, hqs, hOr⟩ := hrel
        obtain ⟨l0, l1, c0, -⟩ := startS hOr
        have hir : ([(lb, Obj.cells #[.int .i64 t, .int .i64 s] 88 (0, 0))] :: [(cb, Obj.cells #[.int .i64 a, .int .i64 s, .int .i64 t] 26 (0, 0))] :: G.set i (memG p bw bb (linkW t s q ws) bs m))[i + 2]? = some (memG p bw bb (linkW t s q ws) bs m) := by simpa using set_get hi _
        by_cases hq : 1 ≤ q
        · have e1 := Lib.hid (show lOf t s (q - 1) 2 = 4 + t + 3 * (q - 1) + 2 by unfold lOf; rw [if_pos (by omega)])
          go_wp2_with fail
          go_region_held3 (fun w => w.cell? ⟨lb, 0, none⟩ = some (.int .i64 t) ∧ w.cell? ⟨lb, 1, none⟩ = some (.int .i64 s)) (first | assumption | exact ⟨(startS hOr.drew).1, (startS hOr.drew).2.1⟩ | exact ⟨(startS (hOr.drew.via hb)).1, (startS (hOr.drew.via hb)).2.1⟩ | exact ⟨(startS hO6).1, (startS hO6).2.1⟩) (first | (go_at_call 65; refine (layout_Link _ _ _ _ L.out).mono ?_; rw [e1.out]; rintro e w4 ⟨rfl, hb⟩) | (go_at_call 16; refine (plain_Store (i + 2) _ _ (hOr.drew.via hb) hir (by rw [linkW_len]; exact hl)).mono ?_; rintro e w5 ⟨rfl, hO6⟩))
          all_goals
            go_wp2_with fail
            go_roundw
            case rel => exact ⟨q - 1, _, rfl, by unfold firstAt; rw [if_neg (by omega)]; go_num, by omega, by omega, by rw [show firstAt s q = if q = s then 0 else q + 1 from rfl, linkW_step t1 hq hqs ws (by rw [HN.out]; omega)] at hO6; simpa only [List.set_cons_succ, List.set_set] using hO6⟩
            case measure => simp [intOf]; omega
        · have hq' : q = 0 := by omega
          subst hq'
          have f1 := Lib.hid (show firstAt s 0 = 1 by unfold firstAt; rw [if_neg (by omega)]; rfl)
          have pk := Lib.hid (show dPack 1 0 = (1, 0) by decide)
          have on := Lib.hid (show lOnce t 1 = 1 by unfold lOnce; rw [if_neg (by omega)])
          rw [f1.out]
          clear hq
          go_wp2_with (go_at_call 66; refine (head_Pack _ _ _).mono ?_; rw [pk.out]; rintro e w4 ⟨rfl, hb⟩; have hO7 := hOr.via hb)
          clear l0 l1 c0
          go_region_held3 (fun w => w.cell? ⟨lb, 0, none⟩ = some (.int .i64 t) ∧ w.cell? ⟨lb, 1, none⟩ = some (.int .i64 s)) (first | assumption | exact ⟨(startS hO7.drew).1, (startS hO7.drew).2.1⟩ | exact ⟨(startS (hO7.drew.via hb)).1, (startS (hO7.drew.via hb)).2.1⟩ | exact ⟨(startS hO8).1, (startS hO8).2.1⟩) (first | (go_at_call 67; refine (layout_Stack _ _ _ L.out).mono ?_; rw [on.out]; rintro e w5 ⟨rfl, hb⟩) | (go_at_call 16; refine (plain_Store (i + 2) _ _ (hO7.drew.via hb) hir (by rw [linkW_len]; exact hl)).mono ?_; rintro e w6 ⟨rfl, hO8⟩))
          all_goals
            go_wp2_with fail
            go_ret
            refine ⟨rfl, wrap64 (m + 1), ?_⟩
            rw [startW_last t1 t3 ws (by rw [HN.out]; omega)] at hO8
            simpa only [List.set_cons_succ, List.set_set] using hO8.tail.tail
end Go.Proofs.Ytmbkkpeepbfgoaa
