/- The write law WriteTwice. -/
import Derived.LoopTactic
import Derived.Deep.RegionHeld3
import Derived.Test.YtboephhffklbbaaWrG0
import Derived.Test.YtboephhffklbbaaWrLv
namespace Go.Proofs.Ytboephhffklbbaa
set_option linter.unusedVariables false
set_option linter.unusedSimpArgs false
open Go.RowKit
set_option maxRecDepth 100000 in
set_option maxHeartbeats 8000000 in
theorem WriteTwice_far (ad ah ao an bd bh bo bn : Int) (W : World) (hn : ao < 0 ∨ (0 ≤ ao ∧ 7 < ao) ∨ (0 ≤ ao ∧ ao ≤ 7 ∧ bo < 0) ∨ (0 ≤ ao ∧ ao ≤ 7 ∧ 0 ≤ bo ∧ 7 < bo)) : Calls Try.prog 6 #[.agg #[.int .i64 ad, .int .i64 ah, .int .i64 ao, .int .i64 an], .agg #[.int .i64 bd, .int .i64 bh, .int .i64 bo, .int .i64 bn]] W fun e w' => e = .returned (.bool true) ∧ Below W.heap.size W w' := by
  rcases hn with h1 | ⟨h1, h2⟩ | ⟨h1, h2, h3⟩ | ⟨h1, h2, h3, h4⟩
  all_goals
    have ck := Lib.hid (show cfgOk 8 1 1 = true by decide); go_enter Try.func6, Try.ntmps6; go_wp2_with fail; have hP := (((Owns.nil W).more (.cells #[.int .i64 ad, .int .i64 ah, .int .i64 ao, .int .i64 an] 52)).more (.cells #[.int .i64 bd, .int .i64 bh, .int .i64 bo, .int .i64 bn] 52)).more (.cells #[.int .i64 8, .int .i64 1, .int .i64 1] 26); simp only [World.size_alloc] at hP; generalize hcb : W.heap.size = cb at hP ⊢; have HC := Lib.hid hcb; clear hcb; generalize World.alloc (World.alloc (World.alloc W _) _) _ = w0 at hP ⊢; refine (law13_start 8 1 1 hP ck.out).mono ?_; rintro e w1 ⟨p, bw, bb, m, rfl, hO'⟩; clear hP; have hP := hO'; clear hO'; (try simp only [List.set_cons_zero, List.set_cons_succ, List.cons_append, List.nil_append, List.eraseIdx_cons_succ, List.eraseIdx_cons_zero] at hP); have a0 : _ = some (Value.int .i64 ao) := hP.cell 1 0 rfl rfl 2; have a1 : _ = some (Value.int .i64 an) := hP.cell 1 0 rfl rfl 3; have az := hP.lt 1 0 rfl rfl; have b0 : _ = some (Value.int .i64 bo) := hP.cell 2 0 rfl rfl 2; have b1 : _ = some (Value.int .i64 bn) := hP.cell 2 0 rfl rfl 3; have bz := hP.lt 2 0 rfl rfl; have c0 : _ = some (Value.int .i64 8) := hP.cell 3 0 rfl rfl 0; have c1 : _ = some (Value.int .i64 1) := hP.cell 3 0 rfl rfl 1; have c2 : _ = some (Value.int .i64 1) := hP.cell 3 0 rfl rfl 2; have cz := hP.lt 3 0 rfl rfl
    go_wp2_with first
      | (go_at_call 12; refine (handle_make _ _ _).mono ?_; rw [show hMake 0 0 = (1099511627776, 0) by decide]; rintro e w2 ⟨rfl, rfl⟩)
      | (go_at_call 14; refine (law13_live _).mono ?_; rintro e w6 ⟨rfl, hb⟩; have hO := hP.via hb)
    go_ret
    exact ⟨rfl, by rw [HC.out]; exact hO.below⟩
theorem wPut_bok {bs : List Int} {k v : Int} (h : ∀ z ∈ bs, 0 ≤ z ∧ z < 256) (hv : 0 ≤ v ∧ v < 256) : ∀ z ∈ wPut bs k v, 0 ≤ z ∧ z < 256 := by
  unfold wPut
  split
  · intro z hz
    rcases List.mem_or_eq_of_mem_set hz with hz | hz
    · exact h z hz
    · subst hz; exact hv
  · exact h
set_option maxRecDepth 100000 in
set_option maxHeartbeats 8000000 in
theorem WriteTwice_go (ad ah ao an bd bh bo bn : Int) (W : World) (a0' : 0 ≤ ao) (a7 : ao ≤ 7) (b0' : 0 ≤ bo) (b7 : bo ≤ 7) : Calls Try.prog 6 #[.agg #[.int .i64 ad, .int .i64 ah, .int .i64 ao, .int .i64 an], .agg #[.int .i64 bd, .int .i64 bh, .int .i64 bo, .int .i64 bn]] W fun e w' => e = .returned (.bool true) ∧ Below W.heap.size W w' := by
  obtain ⟨u, hu⟩ : ∃ u, an % 256 = u := ⟨_, rfl⟩
  obtain ⟨v, hv⟩ : ∃ v, bn % 256 = v := ⟨_, rfl⟩
  obtain ⟨t1, t2, t3, t4⟩ := tmod_byte an
  obtain ⟨s1, s2, s3, s4⟩ := tmod_byte bn
  rw [hu] at t1 t2
  rw [hv] at s1 s2
  have HUB := Lib.hid (show 0 ≤ u ∧ u < 256 by omega)
  have HVB := Lib.hid (show 0 ≤ v ∧ v < 256 by omega)
  have T1 := Lib.hid t1
  have T2 := Lib.hid t2
  have S1 := Lib.hid s1
  have S2 := Lib.hid s2
  have HU := Lib.hid hu
  have HV := Lib.hid hv
  clear t1 t2 s1 s2 hu hv
  have HBO := Lib.hid (wPut_bok (wPut_bok (bs := w13B0) (k := ao) (by decide) HUB.out) (k := bo) HVB.out)
  have hl8 : (wPut (wPut w13B0 ao u) bo v).length ≤ 4096 := by rw [wPut_len, wPut_len]; decide
  have hi0 : ∀ k : Int, 0 ≤ k → k ≤ 7 → ∀ bs : List Int, bs.length = 8 → wIn bs k = true := fun k h0 h7 bs hb => wIn_iff.2 ⟨h0, by omega⟩
  have HBb := Lib.hid (show wAt (wPut (wPut w13B0 ao u) bo v) bo = v from wAt_put_same (hi0 bo b0' b7 _ (by rw [wPut_len]; rfl)))
  obtain ⟨q, hq⟩ : ∃ q, (ao == bo) = q := ⟨_, rfl⟩
  have HBa := Lib.hid (show wAt (wPut (wPut w13B0 ao u) bo v) ao = if q = true then v else u by
    by_cases e : ao = bo
    · subst e; rw [HBb.out, if_pos (by rw [← hq]; simp)]
    · rw [wAt_put_ne e, wAt_put_same (hi0 ao a0' a7 _ rfl), if_neg (by rw [← hq]; simpa using e)])
  clear hi0
  have t1 := T1.out
  have s1 := S1.out
  have t2 := T2.out
  have s2 := S2.out
  have ck := Lib.hid (show cfgOk 8 1 1 = true by decide); go_enter Try.func6, Try.ntmps6; go_wp2_with fail; have hP := (((Owns.nil W).more (.cells #[.int .i64 ad, .int .i64 ah, .int .i64 ao, .int .i64 an] 52)).more (.cells #[.int .i64 bd, .int .i64 bh, .int .i64 bo, .int .i64 bn] 52)).more (.cells #[.int .i64 8, .int .i64 1, .int .i64 1] 26); simp only [World.size_alloc] at hP; generalize hcb : W.heap.size = cb at hP ⊢; have HC := Lib.hid hcb; clear hcb; generalize World.alloc (World.alloc (World.alloc W _) _) _ = w0 at hP ⊢; refine (law13_start 8 1 1 hP ck.out).mono ?_; rintro e w1 ⟨p, bw, bb, m, rfl, hO'⟩; clear hP; have hP := hO'; clear hO'; (try simp only [List.set_cons_zero, List.set_cons_succ, List.cons_append, List.nil_append, List.eraseIdx_cons_succ, List.eraseIdx_cons_zero] at hP); have a0 : _ = some (Value.int .i64 ao) := hP.cell 1 0 rfl rfl 2; have a1 : _ = some (Value.int .i64 an) := hP.cell 1 0 rfl rfl 3; have az := hP.lt 1 0 rfl rfl; have b0 : _ = some (Value.int .i64 bo) := hP.cell 2 0 rfl rfl 2; have b1 : _ = some (Value.int .i64 bn) := hP.cell 2 0 rfl rfl 3; have bz := hP.lt 2 0 rfl rfl; have c0 : _ = some (Value.int .i64 8) := hP.cell 3 0 rfl rfl 0; have c1 : _ = some (Value.int .i64 1) := hP.cell 3 0 rfl rfl 1; have c2 : _ = some (Value.int .i64 1) := hP.cell 3 0 rfl rfl 2; have cz := hP.lt 3 0 rfl rfl
  go_wp2_with (go_at_call 12; refine (handle_make _ _ _).mono ?_; rw [show hMake 0 0 = (1099511627776, 0) by decide]; rintro e w2 ⟨rfl, rfl⟩; refine stop_here ?_)
  try unfold Stop
  rw [w13_0, w13_b0] at hP
  go_wp2_with fail
  refine (plain_Store 0 5 _ hP rfl (by decide)).mono ?_; rintro e w3 ⟨rfl, hO'⟩; clear hP; have hP := hO'; clear hO'; (try simp only [List.set_cons_zero, List.set_cons_succ, List.cons_append, List.nil_append, List.eraseIdx_cons_succ, List.eraseIdx_cons_zero] at hP)
  go_wp2_with fail
  refine (plain_Store 0 6 _ hP rfl (by rw [wPut_len]; decide)).mono ?_; rw [w13_1]; rintro e w4 ⟨rfl, hO'⟩; clear hP; have hP := hO'; clear hO'; clear a0 a1 az b0 b1 bz c0 c1 c2 cz; (try simp only [List.set_cons_zero, List.set_cons_succ, List.cons_append, List.nil_append, List.eraseIdx_cons_succ, List.eraseIdx_cons_zero] at hP); have a0 : _ = some (Value.int .i64 ao) := hP.cell 1 0 rfl rfl 2; have a1 : _ = some (Value.int .i64 an) := hP.cell 1 0 rfl rfl 3; have az := hP.lt 1 0 rfl rfl; have b0 : _ = some (Value.int .i64 bo) := hP.cell 2 0 rfl rfl 2; have b1 : _ = some (Value.int .i64 bn) := hP.cell 2 0 rfl rfl 3; have bz := hP.lt 2 0 rfl rfl; have c0 : _ = some (Value.int .i64 8) := hP.cell 3 0 rfl rfl 0; have c1 : _ = some (Value.int .i64 1) := hP.cell 3 0 rfl rfl 1; have c2 : _ = some (Value.int .i64 1) := hP.cell 3 0 rfl rfl 2; have cz := hP.lt 3 0 rfl rfl
  go_wp2_with fail
  refine (write_New 8 1 1 _ ao an (by decide) (by decide) hP).mono ?_; rintro e w6 ⟨x, rfl, hO'⟩; rw [w13_n] at hO'; clear hP; have hP := hO'; clear hO'; have hO' := hP.swap; clear hP; have hP := hO'; clear hO'; (try simp only [List.set_cons_zero, List.set_cons_succ, List.cons_append, List.nil_append, List.eraseIdx_cons_succ, List.eraseIdx_cons_zero] at hP)
  go_wp2_with fail
  refine (write_run 10 (by decide) hP lOk11' (by show 8 ≤ 4096; decide) (by decide) wrV1_in _ (wr_one (off := ao) (b := an) (by omega) (by omega))).mono ?_; rw [HU.out]; simp only [resN]; rintro e w7 ⟨rfl, m1, hO'⟩; clear hP; have hP := hO'; clear hO'; have hO' := hP.drop 1; clear hP; have hP := hO'; clear hO'; clear a0 a1 az b0 b1 bz c0 c1 c2 cz; (try simp only [List.set_cons_zero, List.set_cons_succ, List.cons_append, List.nil_append, List.eraseIdx_cons_succ, List.eraseIdx_cons_zero] at hP); have a0 : _ = some (Value.int .i64 ao) := hP.cell 1 0 rfl rfl 2; have a1 : _ = some (Value.int .i64 an) := hP.cell 1 0 rfl rfl 3; have az := hP.lt 1 0 rfl rfl; have b0 : _ = some (Value.int .i64 bo) := hP.cell 2 0 rfl rfl 2; have b1 : _ = some (Value.int .i64 bn) := hP.cell 2 0 rfl rfl 3; have bz := hP.lt 2 0 rfl rfl; have c0 : _ = some (Value.int .i64 8) := hP.cell 3 0 rfl rfl 0; have c1 : _ = some (Value.int .i64 1) := hP.cell 3 0 rfl rfl 1; have c2 : _ = some (Value.int .i64 1) := hP.cell 3 0 rfl rfl 2; have cz := hP.lt 3 0 rfl rfl
  go_wp2_with fail
  have hO' := hP.more (.cells #[.int .i64 0, .int .i64 0] 41); clear hP; have hP := hO'; clear hO'
  generalize w7.heap.size = r1 at hP ⊢
  generalize w7.alloc _ = w8 at hP ⊢
  clear a0 a1 az b0 b1 bz c0 c1 c2 cz; (try simp only [List.set_cons_zero, List.set_cons_succ, List.cons_append, List.nil_append, List.eraseIdx_cons_succ, List.eraseIdx_cons_zero] at hP); have a0 : _ = some (Value.int .i64 ao) := hP.cell 1 0 rfl rfl 2; have a1 : _ = some (Value.int .i64 an) := hP.cell 1 0 rfl rfl 3; have az := hP.lt 1 0 rfl rfl; have b0 : _ = some (Value.int .i64 bo) := hP.cell 2 0 rfl rfl 2; have b1 : _ = some (Value.int .i64 bn) := hP.cell 2 0 rfl rfl 3; have bz := hP.lt 2 0 rfl rfl; have c0 : _ = some (Value.int .i64 8) := hP.cell 3 0 rfl rfl 0; have c1 : _ = some (Value.int .i64 1) := hP.cell 3 0 rfl rfl 1; have c2 : _ = some (Value.int .i64 1) := hP.cell 3 0 rfl rfl 2; have cz := hP.lt 3 0 rfl rfl
  refine (write_New 8 1 1 _ bo bn (by decide) (by decide) hP).mono ?_; rintro e w9 ⟨y, rfl, hO'⟩; rw [w13_n] at hO'; clear hP; have hP := hO'; clear hO'; have hO' := hP.swap; clear hP; have hP := hO'; clear hO'; (try simp only [List.set_cons_zero, List.set_cons_succ, List.cons_append, List.nil_append, List.eraseIdx_cons_succ, List.eraseIdx_cons_zero] at hP)
  go_wp2_with fail
  refine (write_run 10 (by decide) hP lOk11' (by show 8 ≤ 4096; decide) (by rw [wPut_len]; decide) wrV1_in _ (wr_one (off := bo) (b := bn) (by omega) (by omega))).mono ?_; rw [HV.out]; simp only [resN]; rintro e w10 ⟨rfl, m2, hO'⟩; clear hP; have hP := hO'; clear hO'; have hO' := hP.drop 1; clear hP; have hP := hO'; clear hO'; clear a0 a1 az b0 b1 bz c0 c1 c2 cz; (try simp only [List.set_cons_zero, List.set_cons_succ, List.cons_append, List.nil_append, List.eraseIdx_cons_succ, List.eraseIdx_cons_zero] at hP); have a0 : _ = some (Value.int .i64 ao) := hP.cell 1 0 rfl rfl 2; have a1 : _ = some (Value.int .i64 an) := hP.cell 1 0 rfl rfl 3; have az := hP.lt 1 0 rfl rfl; have b0 : _ = some (Value.int .i64 bo) := hP.cell 2 0 rfl rfl 2; have b1 : _ = some (Value.int .i64 bn) := hP.cell 2 0 rfl rfl 3; have bz := hP.lt 2 0 rfl rfl; have c0 : _ = some (Value.int .i64 8) := hP.cell 3 0 rfl rfl 0; have c1 : _ = some (Value.int .i64 1) := hP.cell 3 0 rfl rfl 1; have c2 : _ = some (Value.int .i64 1) := hP.cell 3 0 rfl rfl 2; have cz := hP.lt 3 0 rfl rfl
  go_upto_region 10 with fail
  have hO' := hP.more (.cells #[.int .i64 0, .int .i64 0] 41); clear hP; have hP := hO'; clear hO'
  generalize w10.heap.size = r2 at hP ⊢
  generalize w10.alloc _ = w11 at hP ⊢
  clear a0 a1 az b0 b1 bz c0 c1 c2 cz; (try simp only [List.set_cons_zero, List.set_cons_succ, List.cons_append, List.nil_append, List.eraseIdx_cons_succ, List.eraseIdx_cons_zero] at hP); have a0 : _ = some (Value.int .i64 ao) := hP.cell 1 0 rfl rfl 2; have a1 : _ = some (Value.int .i64 an) := hP.cell 1 0 rfl rfl 3; have az := hP.lt 1 0 rfl rfl; have b0 : _ = some (Value.int .i64 bo) := hP.cell 2 0 rfl rfl 2; have b1 : _ = some (Value.int .i64 bn) := hP.cell 2 0 rfl rfl 3; have bz := hP.lt 2 0 rfl rfl; have c0 : _ = some (Value.int .i64 8) := hP.cell 3 0 rfl rfl 0; have c1 : _ = some (Value.int .i64 1) := hP.cell 3 0 rfl rfl 1; have c2 : _ = some (Value.int .i64 1) := hP.cell 3 0 rfl rfl 2; have cz := hP.lt 3 0 rfl rfl
  obtain ⟨va, hva⟩ : ∃ va, (if q = true then v else u) = va := ⟨_, rfl⟩
  rw [hva] at HBa
  have HVA := Lib.hid hva
  clear hva
  cases q
  all_goals
    first
      | (have e : va = u := HVA.out.symm)
      | (have e : va = v := HVA.out.symm)
    subst e
    go_upto_region 13 with fail
    have hO' := hP.drew; clear hP; have hP := hO'; clear hO'; clear a0 a1 az b0 b1 bz c0 c1 c2 cz
    have r10 : _ = some (Value.int .i64 0) := hP.cell 4 0 rfl rfl 0; have r11 : _ = some (Value.int .i64 0) := hP.cell 4 0 rfl rfl 1; have r20 : _ = some (Value.int .i64 0) := hP.cell 5 0 rfl rfl 0; have r21 : _ = some (Value.int .i64 0) := hP.cell 5 0 rfl rfl 1; have f0 : _ = some (Value.int .i64 ao) := hP.cell 1 0 rfl rfl 2; have f1 : _ = some (Value.int .i64 bo) := hP.cell 2 0 rfl rfl 2; have f2 : _ = some (Value.int .i64 bn) := hP.cell 2 0 rfl rfl 3
    have wv : IntKind.i64.wrap (bn.tmod 256 + 256) = bn.tmod 256 + 256 := by rw [IntKind.wrap_i64]; omega
    first
      | go_loud (go_region_held3 (fun w => w.cell? ⟨r1, 0, none⟩ = some (.int .i64 0) ∧ w.cell? ⟨r1, 1, none⟩ = some (.int .i64 0) ∧ w.cell? ⟨r2, 0, none⟩ = some (.int .i64 0) ∧ w.cell? ⟨r2, 1, none⟩ = some (.int .i64 0) ∧ w.cell? ⟨cb, 2, none⟩ = some (.int .i64 ao) ∧ w.cell? ⟨cb + 1, 2, none⟩ = some (.int .i64 bo) ∧ w.cell? ⟨cb + 1, 3, none⟩ = some (.int .i64 bn)) (exact ⟨r10, r11, r20, r21, f0, f1, f2⟩) (first | (go_at_call 22; refine (plain_Byte 0 _ hP rfl (by rw [wPut_len, wPut_len]; decide) HBO.out).mono ?_; (first | rw [HBa.out] | rw [HBb.out]); rintro e z1 ⟨rfl, hO'⟩; clear hP; have hP := hO'; clear hO'; (try simp only [List.set_cons_zero, List.set_cons_succ, List.cons_append, List.nil_append, List.eraseIdx_cons_succ, List.eraseIdx_cons_zero] at hP); have r10 : _ = some (Value.int .i64 0) := hP.cell 4 0 rfl rfl 0; have r11 : _ = some (Value.int .i64 0) := hP.cell 4 0 rfl rfl 1; have r20 : _ = some (Value.int .i64 0) := hP.cell 5 0 rfl rfl 0; have r21 : _ = some (Value.int .i64 0) := hP.cell 5 0 rfl rfl 1; have f0 : _ = some (Value.int .i64 ao) := hP.cell 1 0 rfl rfl 2; have f1 : _ = some (Value.int .i64 bo) := hP.cell 2 0 rfl rfl 2; have f2 : _ = some (Value.int .i64 bn) := hP.cell 2 0 rfl rfl 3) | (go_at_call 20; refine (plain_Load 0 _ hP rfl (by show 8 ≤ 4096; decide)).mono ?_; rw [w13_at]; rintro e z1 ⟨rfl, hO'⟩; clear hP; have hP := hO'; clear hO'; (try simp only [List.set_cons_zero, List.set_cons_succ, List.cons_append, List.nil_append, List.eraseIdx_cons_succ, List.eraseIdx_cons_zero] at hP); have r10 : _ = some (Value.int .i64 0) := hP.cell 4 0 rfl rfl 0; have r11 : _ = some (Value.int .i64 0) := hP.cell 4 0 rfl rfl 1; have r20 : _ = some (Value.int .i64 0) := hP.cell 5 0 rfl rfl 0; have r21 : _ = some (Value.int .i64 0) := hP.cell 5 0 rfl rfl 1; have f0 : _ = some (Value.int .i64 ao) := hP.cell 1 0 rfl rfl 2; have f1 : _ = some (Value.int .i64 bo) := hP.cell 2 0 rfl rfl 2; have f2 : _ = some (Value.int .i64 bn) := hP.cell 2 0 rfl rfl 3) | (go_at_call 14; refine (law13_live _).mono ?_; rintro e z2 ⟨rfl, hb⟩; have hO' := hP.via hb; clear hP; have hP := hO'; clear hO'; have r10 : _ = some (Value.int .i64 0) := hP.cell 4 0 rfl rfl 0; have r11 : _ = some (Value.int .i64 0) := hP.cell 4 0 rfl rfl 1; have r20 : _ = some (Value.int .i64 0) := hP.cell 5 0 rfl rfl 0; have r21 : _ = some (Value.int .i64 0) := hP.cell 5 0 rfl rfl 1; have f0 : _ = some (Value.int .i64 ao) := hP.cell 1 0 rfl rfl 2; have f1 : _ = some (Value.int .i64 bo) := hP.cell 2 0 rfl rfl 2; have f2 : _ = some (Value.int .i64 bn) := hP.cell 2 0 rfl rfl 3)))
      | fail "last"
  all_goals
    go_wp2_with fail
    go_ret
    exact ⟨rfl, by rw [HC.out]; exact hP.below⟩
theorem WriteTwice_walk (ad ah ao an bd bh bo bn : Int) (W : World) : Calls Try.prog 6 #[.agg #[.int .i64 ad, .int .i64 ah, .int .i64 ao, .int .i64 an], .agg #[.int .i64 bd, .int .i64 bh, .int .i64 bo, .int .i64 bn]] W fun e w' => e = .returned (.bool true) ∧ Below W.heap.size W w' := by
  by_cases h : 0 ≤ ao ∧ ao ≤ 7 ∧ 0 ≤ bo ∧ bo ≤ 7
  · exact WriteTwice_go ad ah ao an bd bh bo bn W h.1 h.2.1 h.2.2.1 h.2.2.2
  · exact WriteTwice_far ad ah ao an bd bh bo bn W (by omega)
end Go.Proofs.Ytboephhffklbbaa
