/- Walks for the stack law StackSteps: begin, step, same, the reference's Free. -/
import Derived.RegionTactic
import Derived.BigRegion
import Derived.Deep.RegionHeld3
import Derived.Outline
import Derived.LoopTactic
import Derived.Deep.DeepCutAuto
import Derived.Test.YtpebepjfgnoaaaaSsP
import Derived.Test.YtpebepjfgnoaaaaStN
namespace Go.Proofs.Ytpebepjfgnoaaaa
set_option linter.unusedVariables false
set_option linter.unusedSimpArgs false
open Go.RowKit
theorem Owns.flatP {B : Nat} {W w : World} {G G' : List Grp} (h : Owns B W w G) (hp : G.flatten.Perm G'.flatten) : Owns B W w G' :=
  ⟨h.1, h.2.1, (hp.map _).nodup_iff.1 h.2.2.1, fun x hx => h.2.2.2 x (hp.mem_iff.2 hx)⟩
theorem prG_mk {B : Nat} {W w : World} {R : List Grp} {p mg rg x y : Grp} (h : Owns B W w (mg :: p :: rg :: x :: y :: R)) : Owns B W w ((p ++ (mg ++ rg)) :: R) := by
  have h2 : Owns B W w (mg :: p :: rg :: R) := (h.drop 3).drop 3
  exact h2.flatP (by (classical exact List.perm_iff_count.2 (fun x => by simp only [List.flatten_cons, List.flatten_nil, List.count_append, List.append_nil]; omega)))
theorem pr_open {B : Nat} {W w : World} {R : List Grp} {m k p mg rg : Grp} (h : Owns B W w (m :: k :: (p ++ (mg ++ rg)) :: R)) : Owns B W w (k :: rg :: m :: mg :: p :: R) := h.flatP (by (classical exact List.perm_iff_count.2 (fun x => by simp only [List.flatten_cons, List.flatten_nil, List.count_append, List.append_nil]; omega)))
theorem pr_shut {B : Nat} {W w : World} {R : List Grp} {m k p mg rg : Grp} (h : Owns B W w (k :: rg :: m :: mg :: p :: R)) : Owns B W w (m :: k :: (p ++ (mg ++ rg)) :: R) := h.flatP (by (classical exact List.perm_iff_count.2 (fun x => by simp only [List.flatten_cons, List.flatten_nil, List.count_append, List.append_nil]; omega)))
def prNew (pu : Bool) (b x y : Nat) (sl : Int) : PrM := ⟨pu, b, x, y, if pu = true then sl else 0, sl, 1, 0, 0⟩
set_option maxRecDepth 100000 in
set_option maxHeartbeats 4000000 in
theorem law10_begin {B : Nat} {W w : World} {G : List Grp} (a s t : Int) (pu : Bool) (sl : Int) (hO : Owns B W w G) : Calls Try.prog 23 #[.agg #[.int .i64 a, .int .i64 s, .int .i64 t], .agg #[.int .i64 t, .int .i64 s], .bool pu, .int .i64 sl] w fun e w' =>
    ∃ b x y, e = .returned (.pointer (some ⟨b, 0, none⟩)) ∧ Owns B W w' (prG a s t (prNew pu b x y sl) :: G) := by
  have hO := (hO.alloc (.cells #[.int .i64 a, .int .i64 s, .int .i64 t] 23)).alloc (.cells #[.int .i64 t, .int .i64 s] 25)
  simp only [World.size_alloc] at hO
  cases pu
  all_goals
    go_enter Try.func23, Try.ntmps23
    go_wp2_with fail
    generalize (w.alloc (.cells #[.int .i64 a, .int .i64 s, .int .i64 t] 23)).alloc (.cells #[.int .i64 t, .int .i64 s] 25) = w0 at hO ⊢
    refine (ref10_New a s t _ sl hO).mono ?_
    rintro e w1 ⟨y, rfl, hO'⟩
    have hP := hO'.alloc (.cells #[.pointer none, .pointer none, .pointer (some ⟨y, 0, none⟩)] 99)
    clear hO hO'
    go_upto_region 2 with fail
    generalize w1.alloc (.cells #[.pointer none, .pointer none, .pointer (some ⟨y, 0, none⟩)] 99) = w2 at hP ⊢
    generalize w1.heap.size = b at hP ⊢
    have l0 : _ = some (Value.int .i64 t) := hP.cell 2 0 rfl rfl 0
    have l1 : _ = some (Value.int .i64 s) := hP.cell 2 0 rfl rfl 1
    go_wp2_with fail
    first
      | (with_reducible refine (stack_NewPop t s hP).mono ?_)
      | (with_reducible refine (stack_NewPush t s sl hP).mono ?_)
    rintro e w3 ⟨x, rfl, hO'⟩
    clear l0 l1
    have hf0 := blk_free (hO'.get 1 0 rfl rfl) 0
    have hf1 := blk_free (hO'.get 1 0 rfl rfl) 1
    have c0 : _ = some (Value.pointer none) := hO'.cell 1 0 rfl rfl 0
    have c1 : _ = some (Value.pointer none) := hO'.cell 1 0 rfl rfl 1
    go_wp2_with fail
    go_ret
    first
      | exact ⟨b, x, y, rfl, prG_mk (hO'.set 1 0 rfl rfl 0 (.pointer (some ⟨x, 0, none⟩)))⟩
      | exact ⟨b, x, y, rfl, prG_mk (hO'.set 1 0 rfl rfl 1 (.pointer (some ⟨x, 0, none⟩)))⟩
section
variable {B : Nat} {W w : World} {R : List Grp} {p bw bb kp kw b x y : Nat} {ws bs : List Int} {bv : Value} {n nn a s t sl rs nx wd tw : Int} {qws : List Int} {qnx qsl qwd qto qr qe rsl : Int} {qd : Bool}
set_option maxRecDepth 100000 in
set_option maxHeartbeats 4000000 in
theorem pair_step_pop (hO : Owns B W w (memG p bw bb ws bs n :: kG kp kw ws bv nn :: ([(b, .cells #[.pointer (some ⟨x, 0, none⟩), .pointer none, .pointer (some ⟨y, 0, none⟩)] 99 (0, 0))] ++ (machG 113 x t s nx sl wd tw ++ rmG y a s t false rs nx wd tw)) :: R)) (hc : cfgOk a s t = true) (hl : ws.length ≤ 4096) (hw : WOk ws) (hwd : wd ≤ 9223372036854775807)
    (hq : popStep t s ws nx sl wd tw = ⟨qws, qnx, qsl, qwd, qto, qr, qe, qd⟩) (hr : rmStep false t s ws nx rs wd tw = ⟨qws, qnx, rsl, qwd, qto, qr, qe, qd⟩) :
    Calls Try.prog 26 #[.pointer (some ⟨b, 0, none⟩), .pointer (some ⟨p, 0, none⟩), .pointer (some ⟨kp, 0, none⟩)] w fun e w' => e = .returned (.tuple #[.int .i64 qr, .int .i64 qe, .bool qd, .bool true]) ∧
      ∃ n' nn', Owns B W w' (memG p bw bb qws bs n' :: kG kp kw qws bv nn' :: ([(b, .cells #[.pointer (some ⟨x, 0, none⟩), .pointer none, .pointer (some ⟨y, 0, none⟩)] 99 (0, 0))] ++ (machG 113 x t s qnx qsl qwd qto ++ rmG y a s t false rsl qnx qwd qto)) :: R) := by
  have hP := pr_open hO
  clear hO
  have HQ := Lib.hid hq
  have HR := Lib.hid hr
  have L := Lib.hid (lOk_yes hc)
  have CK := Lib.hid hc
  clear hq hr hc
  have c2 : w.cell? ⟨b, 2, none⟩ = some (.pointer (some ⟨y, 0, none⟩)) := hP.cell 4 0 rfl rfl 2
  go_enter Try.func26, Try.ntmps26
  go_wp2_with fail
  refine (ref10_Step hP CK.out hl hw hwd _ HR.out.symm).mono ?_
  unfold RmPost
  dsimp only
  rintro e w1 ⟨rfl, n1, hO'⟩
  clear hP c2
  have hP := hO'
  clear hO'
  have c0 : w1.cell? ⟨b, 0, none⟩ = some (.pointer (some ⟨x, 0, none⟩)) := hP.cell 4 0 rfl rfl 0
  have c1 : w1.cell? ⟨b, 1, none⟩ = some (.pointer none) := hP.cell 4 0 rfl rfl 1
  go_wp2_with fail
  refine (pop_Step 2 3 (by decide) hP rfl rfl L.out hl).mono ?_
  rw [HQ.out]
  rintro e w2 ⟨rfl, n2, hO'⟩
  clear hP c0 c1
  have hP := hO'
  clear hO'
  (try simp only [List.set_cons_zero, List.set_cons_succ, List.cons_append, List.nil_append, List.eraseIdx_cons_succ, List.eraseIdx_cons_zero] at hP)
  go_wp2_with fail
  exact bodyPost_ret (v := .tuple #[.int .i64 qr, .int .i64 qe, .bool qd, .bool true]) (by simp [results, Try.results26, go_sem]) rfl ⟨rfl, n2, n1, pr_shut hP⟩
set_option maxRecDepth 100000 in
set_option maxHeartbeats 4000000 in
theorem pair_step_push (hO : Owns B W w (memG p bw bb ws bs n :: kG kp kw ws bv nn :: ([(b, .cells #[.pointer none, .pointer (some ⟨x, 0, none⟩), .pointer (some ⟨y, 0, none⟩)] 99 (0, 0))] ++ (machG 114 x t s nx sl wd tw ++ rmG y a s t true rs nx wd tw)) :: R)) (hc : cfgOk a s t = true) (hl : ws.length ≤ 4096) (hw : WOk ws) (hwd : wd ≤ 9223372036854775807)
    (hq : pushStep t s ws nx sl wd tw = ⟨qws, qnx, qsl, qwd, qto, qr, qe, qd⟩) (hr : rmStep true t s ws nx rs wd tw = ⟨qws, qnx, rsl, qwd, qto, qr, qe, qd⟩) :
    Calls Try.prog 26 #[.pointer (some ⟨b, 0, none⟩), .pointer (some ⟨p, 0, none⟩), .pointer (some ⟨kp, 0, none⟩)] w fun e w' => e = .returned (.tuple #[.int .i64 qr, .int .i64 qe, .bool qd, .bool true]) ∧
      ∃ n' nn', Owns B W w' (memG p bw bb qws bs n' :: kG kp kw qws bv nn' :: ([(b, .cells #[.pointer none, .pointer (some ⟨x, 0, none⟩), .pointer (some ⟨y, 0, none⟩)] 99 (0, 0))] ++ (machG 114 x t s qnx qsl qwd qto ++ rmG y a s t true rsl qnx qwd qto)) :: R) := by
  have hP := pr_open hO
  clear hO
  have HQ := Lib.hid hq
  have HR := Lib.hid hr
  have L := Lib.hid (lOk_yes hc)
  have CK := Lib.hid hc
  clear hq hr hc
  have c2 : w.cell? ⟨b, 2, none⟩ = some (.pointer (some ⟨y, 0, none⟩)) := hP.cell 4 0 rfl rfl 2
  go_enter Try.func26, Try.ntmps26
  go_wp2_with fail
  refine (ref10_Step hP CK.out hl hw hwd _ HR.out.symm).mono ?_
  unfold RmPost
  dsimp only
  rintro e w1 ⟨rfl, n1, hO'⟩
  clear hP c2
  have hP := hO'
  clear hO'
  have c1 : w1.cell? ⟨b, 1, none⟩ = some (.pointer (some ⟨x, 0, none⟩)) := hP.cell 4 0 rfl rfl 1
  go_wp2_with fail
  refine (push_Step 2 3 (by decide) hP rfl rfl L.out hl).mono ?_
  rw [HQ.out]
  rintro e w2 ⟨rfl, n2, hO'⟩
  clear hP c1
  have hP := hO'
  clear hO'
  (try simp only [List.set_cons_zero, List.set_cons_succ, List.cons_append, List.nil_append, List.eraseIdx_cons_succ, List.eraseIdx_cons_zero] at hP)
  go_wp2_with fail
  exact bodyPost_ret (v := .tuple #[.int .i64 qr, .int .i64 qe, .bool qd, .bool true]) (by simp [results, Try.results26, go_sem]) rfl ⟨rfl, n2, n1, pr_shut hP⟩
end
theorem pair_step {B : Nat} {W w : World} {R : List Grp} {p bw bb kp kw : Nat} {ws bs : List Int} {bv : Value} {n nn a s t : Int} {m : PrM} (hO : Owns B W w (memG p bw bb ws bs n :: kG kp kw ws bv nn :: prG a s t m :: R)) (hc : cfgOk a s t = true) (hl : ws.length ≤ 4096) (hw : WOk ws) (hm : PrOk m) :
    Calls Try.prog 26 #[.pointer (some ⟨m.b, 0, none⟩), .pointer (some ⟨p, 0, none⟩), .pointer (some ⟨kp, 0, none⟩)] w fun e w' => e = .returned (.tuple #[.int .i64 (prS t s ws m).r, .int .i64 (prS t s ws m).e, .bool (prS t s ws m).done, .bool true]) ∧
      ∃ n' nn', Owns B W w' (memG p bw bb (prS t s ws m).ws bs n' :: kG kp kw (prS t s ws m).ws bv nn' :: prG a s t (prN t s ws m) :: R) := by
  obtain ⟨pu, b, x, y, sl, rs, nx, wd, tw⟩ := m
  have hrel := (rm_rel (pu := pu) (ws := ws) (t := t) (s := s) (nx := nx) (sl := sl) (rs := rs) (wd := wd) (tw := tw) hm.1).1
  have h2 := hm.2.1.2
  unfold prN prS
  simp only
  obtain ⟨rsl, hrsl⟩ : ∃ r, (rmStep pu t s ws nx rs wd tw).sl = r := ⟨_, rfl⟩
  rw [hrsl] at hrel ⊢
  obtain ⟨q, hq⟩ : ∃ q, rmStep pu t s ws nx sl wd tw = q := ⟨_, rfl⟩
  rw [hq] at hrel ⊢
  obtain ⟨qws, qnx, qsl, qwd, qto, qr, qe, qd⟩ := q
  simp only at hrel ⊢
  cases pu
  · exact pair_step_pop hO hc hl hw h2 hq hrel
  · exact pair_step_push hO hc hl hw h2 hq hrel
set_option maxRecDepth 100000 in
set_option maxHeartbeats 4000000 in
theorem law10_same {B : Nat} {W w : World} {R : List Grp} {p bw bb kp kw : Nat} {ws bs : List Int} {bv : Value} {n nn : Int} (hO : Owns B W w (memG p bw bb ws bs n :: kG kp kw ws bv nn :: R)) (hl : ws.length ≤ 4096) :
    Calls Try.prog 27 #[.pointer (some ⟨p, 0, none⟩), .pointer (some ⟨kp, 0, none⟩)] w fun e w' => e = .returned (.bool true) ∧ ∃ m, Owns B W w' (memG p bw bb ws bs m :: kG kp kw ws bv nn :: R) := by
  go_enter Try.func27, Try.ntmps27
  go_wp2_with fail
  go_loopw [5] (fun i wr => ∃ (j : Nat) (mm : Int), i = .int .i64 j ∧ j ≤ ws.length ∧ Owns B W wr (memG p bw bb ws bs mm :: kG kp kw ws bv nn :: R)) (fun i _ => ws.length - (intOf i).toNat)
  case atStart => exact ⟨0, _, rfl, by omega, hO⟩
  case round =>
    clear hO
    obtain ⟨j, mm, rfl, hj, hO⟩ := hrel
    have k0 : _ = some (Value.slice (some ⟨kw, 0, none⟩) ws.length ws.length) := hO.cell 1 0 rfl rfl 0
    have kz := hO.lt 1 0 rfl rfl
    by_cases hlt : j < ws.length
    · obtain ⟨v, hv⟩ : ∃ v, ws.getD j 0 = v := ⟨_, rfl⟩
      have k1 := k_word (i := 1) hO rfl j hlt
      rw [hv] at k1
      have HV := Lib.hid (show wAt ws j = v by unfold wAt; rw [if_pos (wIn_iff.2 ⟨by omega, by omega⟩), Int.toNat_natCast, hv])
      clear hv
      have j0 : (0 : Int) ≤ (j : Int) := by omega
      have j1 : (j : Int) < (ws.length : Int) := by omega
      go_upto_region 4 with fail
      have hP := hO.drew
      clear k0 k1 hO
      have k0 : _ = some (Value.slice (some ⟨kw, 0, none⟩) ws.length ws.length) := hP.cell 1 0 rfl rfl 0
      have k1 : _ = some (Value.int .i64 v) := (k_word (i := 1) hP rfl j hlt).trans (by rw [← HV.out]; unfold wAt; rw [if_pos (wIn_iff.2 ⟨by omega, by omega⟩), Int.toNat_natCast])
      first
        | go_loud (go_region_held3 (fun w => w.cell? ⟨kp, 0, none⟩ = some (.slice (some ⟨kw, 0, none⟩) ws.length ws.length) ∧ w.cell? ⟨kw, j, none⟩ = some (.int .i64 v)) (exact ⟨k0, k1⟩) ((go_at_call 43; refine (plain_Load 0 _ hP rfl hl).mono ?_; rw [HV.out]; rintro e w12 ⟨rfl, hO'⟩; clear hP; have hP := hO'; clear hO'; simp only [List.set_cons_zero] at hP; have k0 : _ = some (Value.slice (some ⟨kw, 0, none⟩) ws.length ws.length) := hP.cell 1 0 rfl rfl 0; have k1 : _ = some (Value.int .i64 v) := (k_word (i := 1) hP rfl j hlt).trans (by rw [← HV.out]; unfold wAt; rw [if_pos (wIn_iff.2 ⟨by omega, by omega⟩), Int.toNat_natCast]))))
        | fail "word"
      all_goals
        go_wp2_with fail
        go_roundw
        case rel => exact ⟨j + 1, _, by go_num, by omega, hP⟩
        case measure => simp [intOf]; omega
    · have hge : decide (j < ws.length) = false := by rw [decide_eq_false_iff_not]; omega
      clear hlt
      go_wp2_with fail
      go_ret
      exact ⟨rfl, mm, hO⟩
end Go.Proofs.Ytpebepjfgnoaaaa
