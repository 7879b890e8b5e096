/- The walks of alloc's machine: fail, pending, take, clear, publish, result, Holds. -/
import Derived.RegionTactic
import Derived.BigRegion
import Derived.Deep.RegionHeld3
import Derived.Outline
import Derived.Deep.DeepCutAuto
import Derived.Deep.QuietTactic
import Derived.BigQuiet
import Derived.Test.YtpebepjfgnoaaaaAlP
namespace Go.Proofs.Ytpebepjfgnoaaaa
set_option linter.unusedVariables false
set_option linter.unusedSimpArgs false
open Go.RowKit
theorem i64w (n : Int) : IntKind.i64.wrap n = wrap64 n := by rw [IntKind.wrap_i64]; unfold wrap64; first | rfl | omega
set_option maxRecDepth 100000 in
set_option maxHeartbeats 2000000 in
theorem al_fail {B : Nat} {W w : World} {G : List Grp} (j : Nat) {x : Nat} {c : AlC} {v : AlV} (e nx : Int) (hO : Owns B W w G) (hj : G[j]? = some (alG x c v)) :
    Calls Try.prog 88 #[.pointer (some ⟨x, 0, none⟩), .int .i64 e, .int .i64 nx] w fun r w' => r = .returned (.tuple #[]) ∧ Owns B W w' (G.set j (alG x c { v with kp := e, nx := nx })) := by
  obtain ⟨c2, c3, c4, c5, c6, c7, c8, c9, c10, c11, c12, c13, c14, c15, cz⟩ := al_cells hO hj
  have y9 := al_free hO hj 9
  have y7 := al_free hO hj 7
  go_enter Try.func88, Try.ntmps88
  go_wp2
  go_end0
  have h1 := al_set hO hj 9 (.int .i64 e) { v with kp := e } rfl rfl rfl
  have h2 := al_set h1 (set_get hj _) 7 (.int .i64 nx) { v with kp := e, nx := nx } rfl rfl rfl
  rw [List.set_set] at h2
  exact ⟨rfl, h2⟩
set_option maxRecDepth 100000 in
set_option maxHeartbeats 4000000 in
theorem al_pending {B : Nat} {W w : World} {R0 : List Grp} {x p bw bb : Nat} {ws bs : List Int} {n : Int} {c : AlC} {v : AlV} (hP : Owns B W w (memG p bw bb ws bs n :: alG x c v :: R0)) (by' again next : Int) (hL : lOk c.t c.s) (hl : ws.length ≤ 4096) (R : List Int × AlV × Bool) (hR : R = alPend c ws v by' again next) :
    Calls Try.prog 67 #[.pointer (some ⟨x, 0, none⟩), memI p, .int .i64 by', .int .i64 again, .int .i64 next] w fun r w' => r = .returned (.bool R.2.2) ∧ ∃ m, Owns B W w' (memG p bw bb R.1 bs m :: alG x c R.2.1 :: R0) := by
  have ns := nil_Cas (some ⟨p, 0, none⟩)
  obtain ⟨ov, ho⟩ : ∃ o, lOnce c.t 2 = o := ⟨_, rfl⟩
  obtain ⟨b, hb⟩ : ∃ b, wCas ws ov v.seen = b := ⟨_, rfl⟩
  have HR := Lib.hid (show R = if b = true then (wCasPut ws ov v.seen (wrap64 (v.seen + by')), { v with nx := next }, true) else (ws, { v with nx := again }, false) by rw [hR]; unfold alPend; rw [ho, hb])
  have HB := Lib.hid hb
  have HO := Lib.hid ho
  have HL := Lib.hid hL
  have wr := i64w (v.seen + by')
  clear hb ho hL hR
  go_enter Try.func67, Try.ntmps67
  unfold memI at *
  go_upto_region 1 with fail
  have hO' := hP.drew; clear hP; have hP := hO'; clear hO'
  obtain ⟨c2, c3, c4, c5, c6, c7, c8, c9, c10, c11, c12, c13, c14, c15, cz⟩ := al_cells (j := 1) hP rfl
  first
    | go_loud (go_region_held3 (fun w => w.cell? ⟨x, 2, none⟩ = some (.int .i64 c.t) ∧ w.cell? ⟨x, 3, none⟩ = some (.int .i64 c.s) ∧ w.cell? ⟨x, 8, none⟩ = some (.int .i64 v.seen)) (exact ⟨c2, c3, c8⟩) (first | (go_at_call 17; refine (layout_Pending _ _ _ HL.out).mono ?_; rw [HO.out]; rintro e w7 ⟨rfl, hb⟩; have hO' := hP.via hb; clear hP; have hP := hO'; clear hO'; clear c2 c3 c4 c5 c6 c7 c8 c9 c10 c11 c12 c13 c14 c15 cz; obtain ⟨c2, c3, c4, c5, c6, c7, c8, c9, c10, c11, c12, c13, c14, c15, cz⟩ := al_cells (j := 1) hP rfl) | (go_at_call 125; refine (plain_Cas 0 _ _ _ hP rfl hl).mono ?_; rw [HB.out]; rintro e w7 ⟨rfl, hO'⟩; clear hP; have hP := hO'; clear hO'; (try simp only [List.set_cons_zero, List.set_cons_succ] at hP); clear c2 c3 c4 c5 c6 c7 c8 c9 c10 c11 c12 c13 c14 c15 cz; obtain ⟨c2, c3, c4, c5, c6, c7, c8, c9, c10, c11, c12, c13, c14, c15, cz⟩ := al_cells (j := 1) hP rfl)))
    | fail "cas"
  all_goals
    have y7 := al_free (j := 1) hP rfl 7
    cases b
    case false =>
      have e : R = (ws, { v with nx := again }, false) := HR.out
      subst e
      have hC : wCasPut ws ov v.seen (wrap64 (v.seen + by')) = ws := by unfold wCasPut; rw [HB.out]; rfl
      rw [hC] at hP
      clear hC wr
      go_wp2_with fail
      go_ret
      have h1 := al_set (j := 1) hP rfl 7 (.int .i64 again) { v with nx := again } rfl rfl rfl
      exact ⟨rfl, _, h1⟩
    case true =>
      have e : R = (wCasPut ws ov v.seen (wrap64 (v.seen + by')), { v with nx := next }, true) := HR.out
      subst e
      clear wr
      go_wp2_with fail
      go_ret
      have h1 := al_set (j := 1) hP rfl 7 (.int .i64 next) { v with nx := next } rfl rfl rfl
      exact ⟨rfl, _, h1⟩
set_option maxRecDepth 100000 in
set_option maxHeartbeats 4000000 in
theorem al_take {B : Nat} {W w : World} {R0 : List Grp} {x p bw bb : Nat} {ws bs : List Int} {n : Int} {c : AlC} {v : AlV} (hP : Owns B W w (memG p bw bb ws bs n :: alG x c v :: R0)) (hL : lOk c.t c.s) (hl : ws.length ≤ 4096) (R : List Int × AlV) (hR : R = alTake c ws v) :
    Calls Try.prog 68 #[.pointer (some ⟨x, 0, none⟩), memI p] w fun r w' => r = .returned (.tuple #[]) ∧ ∃ m, Owns B W w' (memG p bw bb R.1 bs m :: alG x c R.2 :: R0) := by
  obtain ⟨⟨ws', pnx, psl, pwd, pto, pr, pe, dn⟩, hq⟩ : ∃ q, popStep c.t c.s ws v.p.nx v.p.sl v.p.wd v.p.tw = q := ⟨_, rfl⟩
  obtain ⟨ez, hez⟩ : ∃ b, (pe == 0) = b := ⟨_, rfl⟩
  have hez' : (pe != 0) = !ez := by rw [← hez]; rfl
  have HR := Lib.hid (show R = (ws', if dn = true then (if ez = true then { v with p := ⟨pnx, psl, pwd, pto⟩, sl := pr, nx := 4 } else { v with p := ⟨pnx, psl, pwd, pto⟩, kp := pe, nx := 11 }) else { v with p := ⟨pnx, psl, pwd, pto⟩ }) by
    rw [hR]; unfold alTake; rw [hq]; simp only [← hez, beq_iff_eq])
  have HQ := Lib.hid hq
  have HL := Lib.hid hL
  clear hR hq hL
  obtain ⟨t0, t1⟩ := al_ptrs (j := 1) hP rfl
  have cz := al_lt (j := 1) hP rfl
  have hT := al_taker.1 hP
  have HT := Lib.hid ((pop_Step 0 1 (by decide) hT rfl rfl HL.out hl).mono (R' := fun r w' => r = .returned (.tuple #[.int .i64 pr, .int .i64 pe, .bool dn]) ∧ ∃ m, Owns B W w' (memG p bw bb ws' bs m :: alG x c { v with p := ⟨pnx, psl, pwd, pto⟩ } :: R0)) (by
    rw [HQ.out]
    rintro r w' ⟨hr, m, hO⟩
    exact ⟨hr, m, al_taker.2 hO⟩))
  clear hT
  go_enter Try.func68, Try.ntmps68
  unfold memI at *
  go_wp2_with fail
  refine HT.out.mono ?_
  rintro e w2 ⟨rfl, m, hO'⟩; clear hP; have hP := hO'; clear hO'
  clear t0 t1 cz
  obtain ⟨c2, c3, c4, c5, c6, c7, c8, c9, c10, c11, c12, c13, c14, c15, cz⟩ := al_cells (j := 1) hP rfl
  have y7 := al_free (j := 1) hP rfl 7
  have y10 := al_free (j := 1) hP rfl 10
  cases dn
  case false =>
    have e : R = (ws', { v with p := ⟨pnx, psl, pwd, pto⟩ }) := HR.out
    subst e
    go_wp2_with fail
    go_end0
    exact ⟨rfl, m, hP⟩
  case true =>
    cases ez
    case false =>
      have e : R = (ws', { v with p := ⟨pnx, psl, pwd, pto⟩, kp := pe, nx := 11 }) := HR.out
      subst e
      go_wp2_with (go_at_call 88; refine (al_fail 1 pe 11 hP rfl).mono ?_; rintro e w3 ⟨rfl, hO'⟩; clear hP; have hP := hO'; clear hO'; clear c2 c3 c4 c5 c6 c7 c8 c9 c10 c11 c12 c13 c14 c15 cz)
      go_end0
      exact ⟨rfl, m, hP⟩
    case true =>
      have e : R = (ws', { v with p := ⟨pnx, psl, pwd, pto⟩, sl := pr, nx := 4 }) := HR.out
      subst e
      go_wp2_with fail
      go_end0
      have h1 := al_set (j := 1) hP rfl 10 (.int .i64 pr) { v with p := ⟨pnx, psl, pwd, pto⟩, sl := pr } rfl rfl rfl
      have h2 := al_set (j := 1) h1 rfl 7 (.int .i64 4) { v with p := ⟨pnx, psl, pwd, pto⟩, sl := pr, nx := 4 } rfl rfl rfl
      exact ⟨rfl, m, h2⟩
theorem al_Holds_nil (w : World) : Calls Try.prog 41 #[.pointer none] w fun e w' => e = .returned (.tuple #[.int .i64 0, .int .i64 0, .bool false]) ∧ w = w' := by
  go_enter Try.func41, Try.ntmps41
  go_wp2
  go_ret3
  exact ⟨rfl, rfl⟩
set_option maxRecDepth 100000 in
theorem al_nil (m : Value) (w : World) : Calls Try.prog 40 #[.pointer none, m] w fun e w' => e = .returned (resV (1, 0) true) ∧ Below w.heap.size w w' := by
  go_enter Try.func40, Try.ntmps40
  go_wp2
  exact bodyPost_ret (v := .tuple #[.agg #[.int .i64 1, .int .i64 0], .bool true]) (by simp [results, Try.results40, go_sem]) rfl ⟨rfl, by (repeat' (first | (with_reducible exact Below.refl _ _) | (with_reducible assumption) | (with_reducible refine below_drewN ?_ _) | (with_reducible refine Below.drew ?_) | (with_reducible refine Below.alloc ?_ ?_ _) | (with_reducible refine Below.setCell ?_ ?_ _) | (with_reducible refine below_via (by assumption) ?_ ?_) | go_size))⟩
set_option maxRecDepth 100000 in
theorem al_none (a : Addr) (w : World) : Calls Try.prog 40 #[.pointer (some a), .nilIface] w fun e w' => e = .returned (resV (1, 0) true) ∧ Below w.heap.size w w' := by
  go_enter Try.func40, Try.ntmps40
  go_wp2
  exact bodyPost_ret (v := .tuple #[.agg #[.int .i64 1, .int .i64 0], .bool true]) (by simp [results, Try.results40, go_sem]) rfl ⟨rfl, by (repeat' (first | (with_reducible exact Below.refl _ _) | (with_reducible assumption) | (with_reducible refine below_drewN ?_ _) | (with_reducible refine Below.drew ?_) | (with_reducible refine Below.alloc ?_ ?_ _) | (with_reducible refine Below.setCell ?_ ?_ _) | (with_reducible refine below_via (by assumption) ?_ ?_) | go_size))⟩
set_option maxHeartbeats 2000000 in
theorem al_Holds {B : Nat} {W w : World} {G : List Grp} (j : Nat) {x : Nat} {c : AlC} {v : AlV} (hO : Owns B W w G) (hj : G[j]? = some (alG x c v)) : Calls Try.prog 41 #[.pointer (some ⟨x, 0, none⟩)] w fun e w' => e = .returned (.tuple #[.int .i64 (if v.cl = true then v.f else 0), .int .i64 (if v.cl = true then c.by' else 0), .bool v.cl]) ∧ ∃ m, w' = w.drewN m := by
  obtain ⟨c2, c3, c4, c5, c6, c7, c8, c9, c10, c11, c12, c13, c14, c15, cz⟩ := al_cells hO hj
  obtain ⟨b, hb⟩ : ∃ b, v.cl = b := ⟨_, rfl⟩
  rw [hb] at c15 ⊢
  cases b
  case false =>
    go_enter Try.func41, Try.ntmps41
    go_wp2
    go_ret3
    exact ⟨rfl, 0, rfl⟩
  case true =>
    go_enter Try.func41, Try.ntmps41
    go_wp2
    go_quiet (fail)
    go_wp2
    go_ret3
    exact ⟨rfl, _, rfl⟩
end Go.Proofs.Ytpebepjfgnoaaaa
