/- The walks of field's functions. -/
import Derived.Deep.RegionHeld3
import Derived.Deep.RegionWith
import Derived.Test.YtmbkkpeepbfgoaaProg
import Derived.Test.YtmbkkpeepbfgoaaFnP
namespace Go.Proofs.Ytmbkkpeepbfgoaa
set_option linter.unusedVariables false
set_option linter.unusedSimpArgs false
open Go.RowKit
theorem bcell {W w1 : World} (hb : Below W.heap.size W w1) : (∀ b o, b < W.heap.size → w1.cell? ⟨b, o, none⟩ = W.cell? ⟨b, o, none⟩) ∧ (∀ b o, b < W.heap.size → w1.frozen? ⟨b, o, none⟩ = W.frozen? ⟨b, o, none⟩) :=
  ⟨fun b o h => hb.cell (p := ⟨b, o, none⟩) h, fun b o h => hb.frozen (p := ⟨b, o, none⟩) h⟩
theorem fMay_yes {p b : Int} (h1 : 0 ≤ p) (h2 : 1 ≤ b) (h3 : b ≤ 32) (h4 : p ≤ 62 - b) : fMay p b = true := by simp [fMay]; omega
set_option maxHeartbeats 400000 in
theorem field_word (n : Int) (w : World) : Calls Try.prog 95 #[.int .i64 n] w fun e w' => e = .returned (.bool (fWord n)) ∧ w = w' := by
  by_cases h : 0 ≤ n
  · by_cases h2 : n < 4611686018427387904
    · have e := Lib.hid (show fWord n = true by simp [fWord]; omega)
      go_enter Try.func95, Try.ntmps95
      go_wp2
      go_ret
      exact ⟨by rw [e.out]; (first | rfl | (apply retb; first | rfl | (simp; done) | (simp; omega))), rfl⟩
    · have e := Lib.hid (show fWord n = false by simp [fWord]; omega)
      go_enter Try.func95, Try.ntmps95
      go_wp2
      go_ret
      exact ⟨by rw [e.out]; (first | rfl | (apply retb; first | rfl | (simp; done) | (simp; omega))), rfl⟩
  · have e := Lib.hid (show fWord n = false by simp [fWord]; omega)
    have h' : n < 0 := by omega
    clear h
    go_enter Try.func95, Try.ntmps95
    go_wp2
    go_ret
    exact ⟨by rw [e.out]; (first | rfl | (apply retb; first | rfl | (simp; done) | (simp; omega))), rfl⟩
set_option maxHeartbeats 400000 in
theorem field_may (p b : Int) (w : World) : Calls Try.prog 100 #[.agg #[.int .i64 p, .int .i64 b]] w fun e w' => e = .returned (.bool (fMay p b)) ∧ Below w.heap.size w w' := by
  by_cases h1 : 0 ≤ p
  · by_cases h2 : 1 ≤ b
    · by_cases h3 : b ≤ 32
      · by_cases h4 : p ≤ 62 - b
        · have e := Lib.hid (fMay_yes h1 h2 h3 h4)
          go_enter Try.func100, Try.ntmps100
          go_wp2
          go_ret
          exact ⟨by rw [e.out]; (first | rfl | (apply retb; first | rfl | (simp; done) | (simp; omega))), by (repeat' (first | (with_reducible exact Below.refl _ _) | (with_reducible assumption) | (with_reducible refine below_drewN ?_ _) | (with_reducible refine Below.drew ?_) | (with_reducible refine Below.alloc ?_ ?_ _) | (with_reducible refine Below.setCell ?_ ?_ _) | (with_reducible refine below_via (by assumption) ?_ ?_) | go_size))⟩
        · have e := Lib.hid (show fMay p b = false by simp [fMay]; omega)
          have h4' : 62 - b < p := by omega
          clear h4
          go_enter Try.func100, Try.ntmps100
          go_wp2
          go_ret
          exact ⟨by rw [e.out]; (first | rfl | (apply retb; first | rfl | (simp; done) | (simp; omega))), by (repeat' (first | (with_reducible exact Below.refl _ _) | (with_reducible assumption) | (with_reducible refine below_drewN ?_ _) | (with_reducible refine Below.drew ?_) | (with_reducible refine Below.alloc ?_ ?_ _) | (with_reducible refine Below.setCell ?_ ?_ _) | (with_reducible refine below_via (by assumption) ?_ ?_) | go_size))⟩
      · have e := Lib.hid (show fMay p b = false by simp [fMay]; omega)
        have h4' : 32 < b := by omega
        clear h3
        go_enter Try.func100, Try.ntmps100
        go_wp2
        go_ret
        exact ⟨by rw [e.out]; (first | rfl | (apply retb; first | rfl | (simp; done) | (simp; omega))), by (repeat' (first | (with_reducible exact Below.refl _ _) | (with_reducible assumption) | (with_reducible refine below_drewN ?_ _) | (with_reducible refine Below.drew ?_) | (with_reducible refine Below.alloc ?_ ?_ _) | (with_reducible refine Below.setCell ?_ ?_ _) | (with_reducible refine below_via (by assumption) ?_ ?_) | go_size))⟩
    · have e := Lib.hid (show fMay p b = false by simp [fMay]; omega)
      have h4' : b < 1 := by omega
      clear h2
      go_enter Try.func100, Try.ntmps100
      go_wp2
      go_ret
      exact ⟨by rw [e.out]; (first | rfl | (apply retb; first | rfl | (simp; done) | (simp; omega))), by (repeat' (first | (with_reducible exact Below.refl _ _) | (with_reducible assumption) | (with_reducible refine below_drewN ?_ _) | (with_reducible refine Below.drew ?_) | (with_reducible refine Below.alloc ?_ ?_ _) | (with_reducible refine Below.setCell ?_ ?_ _) | (with_reducible refine below_via (by assumption) ?_ ?_) | go_size))⟩
  · have e := Lib.hid (show fMay p b = false by simp [fMay]; omega)
    have h4' : p < 0 := by omega
    clear h1
    go_enter Try.func100, Try.ntmps100
    go_wp2
    go_ret
    exact ⟨by rw [e.out]; (first | rfl | (apply retb; first | rfl | (simp; done) | (simp; omega))), by (repeat' (first | (with_reducible exact Below.refl _ _) | (with_reducible assumption) | (with_reducible refine below_drewN ?_ _) | (with_reducible refine Below.drew ?_) | (with_reducible refine Below.alloc ?_ ?_ _) | (with_reducible refine Below.setCell ?_ ?_ _) | (with_reducible refine below_via (by assumption) ?_ ?_) | go_size))⟩
theorem pw_le {n m : Int} (h : n ≤ m) : pw n ≤ pw m := by
  unfold pw
  exact_mod_cast Nat.pow_le_pow_right (by decide) (by omega)
theorem pw_32 : pw 32 = 4294967296 := by decide
theorem pw_62 : pw 62 = 4611686018427387904 := by decide
theorem pw_add {n m : Int} (h : 0 ≤ n) (h' : 0 ≤ m) : pw (n + m) = pw n * pw m := by
  unfold pw; rw [Int.toNat_add h h']; exact Int.pow_add ..
set_option maxHeartbeats 400000 in
theorem field_most (p b : Int) (w : World) (h1 : 1 ≤ b) (h2 : b ≤ 32) : Calls Try.prog 101 #[.agg #[.int .i64 p, .int .i64 b]] w fun e w' => e = .returned (.int .i64 (pw b - 1)) ∧ Below w.heap.size w w' := by
  have e := Lib.hid (show wrap64 (wrap64 (2 ^ b.toNat) - 1) = pw b - 1 by
    have h3 : pw b ≤ pw 32 := pw_le h2
    have h4 := pw_pos b
    rw [pw_32] at h3
    have e : (2 : Int) ^ b.toNat = pw b := rfl
    rw [e]; unfold wrap64; omega)
  go_enter Try.func101, Try.ntmps101
  go_wp2
  go_ret
  exact ⟨ret1 e.out, by (repeat' (first | (with_reducible exact Below.refl _ _) | (with_reducible assumption) | (with_reducible refine below_drewN ?_ _) | (with_reducible refine Below.drew ?_) | (with_reducible refine Below.alloc ?_ ?_ _) | (with_reducible refine Below.setCell ?_ ?_ _) | (with_reducible refine below_via (by assumption) ?_ ?_) | go_size))⟩
theorem mask_i64 (p b : Int) (h0 : 0 ≤ p) (h1 : 1 ≤ b) (h2 : b ≤ 32) (h3 : p ≤ 62 - b) : IntKind.i64.wrap ((pw b - 1) * 2 ^ p.toNat) = (pw b - 1) * pw p := by
  have e : (2 : Int) ^ p.toNat = pw p := rfl
  have h4 := pw_pos b
  have h5 := pw_pos p
  have h6 : pw b * pw p ≤ pw 62 := by rw [← pw_add (by omega) h0]; exact pw_le (by omega)
  rw [pw_62] at h6
  have h7 : 0 ≤ (pw b - 1) * pw p := Int.mul_nonneg (by omega) (by omega)
  have h8 : (pw b - 1) * pw p = pw b * pw p - pw p := by rw [Int.sub_mul, Int.one_mul]
  rw [e]
  exact i64small _ h7 (by omega)
set_option maxHeartbeats 400000 in
theorem field_mask (p b : Int) (w : World) (h0 : 0 ≤ p) (h1 : 1 ≤ b) (h2 : b ≤ 32) (h3 : p ≤ 62 - b) : Calls Try.prog 97 #[.agg #[.int .i64 p, .int .i64 b]] w fun e w' => e = .returned (.int .i64 ((pw b - 1) * pw p)) ∧ Below w.heap.size w w' := by
  have e := Lib.hid (mask_i64 p b h0 h1 h2 h3)
  go_enter Try.func97, Try.ntmps97
  go_wp2_with fail
  go_region_with (go_at_call 101; refine (field_most _ _ _ h1 h2).mono ?_; rintro e w' ⟨rfl, hb⟩; obtain ⟨hc, hf⟩ := bcell hb; have hz := hb.size; (try simp only [World.size_alloc, World.size_drew, World.size_setCell, size_drewN] at hz))
  all_goals
    go_wp2
    go_ret
    exact ⟨ret1 e.out, by (repeat' (first | (with_reducible exact Below.refl _ _) | (with_reducible assumption) | (with_reducible refine below_drewN ?_ _) | (with_reducible refine Below.drew ?_) | (with_reducible refine Below.alloc ?_ ?_ _) | (with_reducible refine Below.setCell ?_ ?_ _) | (with_reducible refine below_via (by assumption) ?_ ?_) | go_size))⟩
theorem bool_cases {b : Bool} : b = true ∨ b = false := by cases b <;> simp
set_option maxHeartbeats 400000 in
theorem field_told_no (p b d : Int) (g : Value) (w : World) (h : fMay p b = false) : Calls Try.prog 96 #[.agg #[.int .i64 p, .int .i64 b], g, .int .i64 d] w fun e w' => e = .returned (.int .i64 d) ∧ Below w.heap.size w w' := by
  go_enter Try.func96, Try.ntmps96
  go_wp2_with (go_at_call 100; refine (field_may _ _ _).mono ?_; rw [h]; rintro e w' ⟨rfl, hb⟩; obtain ⟨hc, hf⟩ := bcell hb; have hz := hb.size; (try simp only [World.size_alloc, World.size_drew, World.size_setCell, size_drewN] at hz))
  go_ret
  exact ⟨rfl, by (repeat' (first | (with_reducible exact Below.refl _ _) | (with_reducible assumption) | (with_reducible refine below_drewN ?_ _) | (with_reducible refine Below.drew ?_) | (with_reducible refine Below.alloc ?_ ?_ _) | (with_reducible refine Below.setCell ?_ ?_ _) | (with_reducible refine below_via (by assumption) ?_ ?_) | go_size))⟩
theorem fMay_of {p b : Int} (h : fMay p b = true) : 0 ≤ p ∧ 1 ≤ b ∧ b ≤ 32 ∧ p ≤ 62 - b := by simpa [fMay] using h
set_option maxHeartbeats 400000 in
theorem field_told_most (p b d : Int) (w : World) (h : fMay p b = true) : Calls Try.prog 96 #[.agg #[.int .i64 p, .int .i64 b], .func (.func 101) #[] #[], .int .i64 d] w fun e w' => e = .returned (.int .i64 (pw b - 1)) ∧ Below w.heap.size w w' := by
  have hh := Lib.hid (fMay_of h)
  go_enter Try.func96, Try.ntmps96
  go_wp2_with first
    | (go_at_call 100; refine (field_may _ _ _).mono ?_; rw [h]; rintro e w' ⟨rfl, hb⟩; obtain ⟨hc, hf⟩ := bcell hb; have hz := hb.size; (try simp only [World.size_alloc, World.size_drew, World.size_setCell, size_drewN] at hz))
    | (go_at_call 101; refine (field_most _ _ _ hh.out.2.1 hh.out.2.2.1).mono ?_; rintro e w' ⟨rfl, hb⟩)
  go_ret
  exact ⟨rfl, by (repeat' (first | (with_reducible exact Below.refl _ _) | (with_reducible assumption) | (with_reducible refine below_drewN ?_ _) | (with_reducible refine Below.drew ?_) | (with_reducible refine Below.alloc ?_ ?_ _) | (with_reducible refine Below.setCell ?_ ?_ _) | (with_reducible refine below_via (by assumption) ?_ ?_) | go_size))⟩
set_option maxHeartbeats 400000 in
theorem field_told_mask (p b d : Int) (w : World) (h : fMay p b = true) : Calls Try.prog 96 #[.agg #[.int .i64 p, .int .i64 b], .func (.func 97) #[] #[], .int .i64 d] w fun e w' => e = .returned (.int .i64 ((pw b - 1) * pw p)) ∧ Below w.heap.size w w' := by
  have hh := Lib.hid (fMay_of h)
  go_enter Try.func96, Try.ntmps96
  go_wp2_with first
    | (go_at_call 100; refine (field_may _ _ _).mono ?_; rw [h]; rintro e w' ⟨rfl, hb⟩; obtain ⟨hc, hf⟩ := bcell hb; have hz := hb.size; (try simp only [World.size_alloc, World.size_drew, World.size_setCell, size_drewN] at hz))
    | (go_at_call 97; refine (field_mask _ _ _ hh.out.1 hh.out.2.1 hh.out.2.2.1 hh.out.2.2.2).mono ?_; rintro e w' ⟨rfl, hb⟩)
  go_ret
  exact ⟨rfl, by (repeat' (first | (with_reducible exact Below.refl _ _) | (with_reducible assumption) | (with_reducible refine below_drewN ?_ _) | (with_reducible refine Below.drew ?_) | (with_reducible refine Below.alloc ?_ ?_ _) | (with_reducible refine Below.setCell ?_ ?_ _) | (with_reducible refine below_via (by assumption) ?_ ?_) | go_size))⟩
theorem get_i64 (w p b : Int) (hw : fWord w = true) (h : fMay p b = true) : bits .and .i64 w ((pw b - 1) * pw p) / 2 ^ p.toNat = fGet w p b := by
  obtain ⟨h0, h1, h2, h3⟩ := fMay_of h
  have hw' : 0 ≤ w ∧ w < 4611686018427387904 := by simpa [fWord] using hw
  unfold fGet
  rw [if_pos ⟨hw, h⟩]
  obtain ⟨a, rfl⟩ := Int.eq_ofNat_of_zero_le hw'.1
  obtain ⟨q, rfl⟩ := Int.eq_ofNat_of_zero_le h0
  obtain ⟨c, rfl⟩ := Int.eq_ofNat_of_zero_le (show 0 ≤ b by omega)
  have := bits_get a q c (by omega) (by omega)
  have e1 : (pw (c : Int) - 1) * pw (q : Int) = (((2 ^ c - 1) * 2 ^ q : Nat) : Int) := by
    rw [pw_nat, pw_nat, Int.natCast_mul, Int.natCast_sub (Nat.two_pow_pos c)]; rfl
  have e2 : (2 : Int) ^ (q : Int).toNat = ((2 ^ q : Nat) : Int) := by simp
  rw [e1, e2, this, pw_nat, pw_nat]
  simp
theorem get_zero (w : Int) (hw : fWord w = true) : bits .and .i64 w 0 = 0 := by
  have hw' : 0 ≤ w ∧ w < 4611686018427387904 := by simpa [fWord] using hw
  have := and_mask 0 (by decide) w hw'.1 (by omega)
  simpa using this
set_option maxHeartbeats 1000000 in
theorem field_Get_ok (w p b : Int) (W : World) (h : fMay p b = true) (hw : fWord w = true) : Calls Try.prog 85 #[.int .i64 w, .agg #[.int .i64 p, .int .i64 b]] W fun e w' => e = .returned (.int .i64 (fGet w p b)) ∧ Below W.heap.size W w' := by
  have h' := Lib.hid h
  have hw' := Lib.hid hw
  have e := Lib.hid (get_i64 w p b hw h)
  obtain ⟨h0, h1, h2, h3⟩ := fMay_of h
  clear h hw
  go_enter Try.func85, Try.ntmps85
  go_wp2_with (go_at_call 95; refine (field_word _ _).mono ?_; rw [hw'.out]; rintro e w' ⟨rfl, rfl⟩)
  go_region_held3 (fun w' => w'.cell? ⟨W.heap.size, 0, none⟩ = some (.int .i64 p) ∧ w'.cell? ⟨W.heap.size, 1, none⟩ = some (.int .i64 b)) (first | go_keep | (refine ⟨(hb.cell (by simp)).trans ?_, (hb.cell (by simp)).trans ?_⟩ <;> go_keep)) ((go_at_call 96; refine (field_told_mask _ _ _ _ h'.out).mono ?_; rintro e w' ⟨rfl, hb⟩))
  all_goals
    go_wp2
    go_ret
    exact ⟨ret1 (by (try rw [if_neg (by omega)]); exact e.out), by (repeat' (first | (with_reducible exact Below.refl _ _) | (with_reducible assumption) | (with_reducible refine below_drewN ?_ _) | (with_reducible refine Below.drew ?_) | (with_reducible refine Below.alloc ?_ ?_ _) | (with_reducible refine Below.setCell ?_ ?_ _) | (with_reducible refine below_via (by assumption) ?_ ?_) | go_size))⟩
theorem fPut_ok {w p b n : Int} (hw : fWord w = true) (h : fMay p b = true) (h0 : 0 ≤ n) (h1 : n ≤ pw b - 1) : fPut w p b n = (w - fGet w p b * pw p + n * pw p, 0) := by
  unfold fPut; rw [if_neg (by simp [hw, h, h0]), if_neg (by omega)]
theorem put_i64 (w p b n : Int) (hw : fWord w = true) (h : fMay p b = true) (h0 : 0 ≤ n) (h1 : n ≤ pw b - 1) :
    bits .or .i64 (bits .andNot .i64 w ((pw b - 1) * pw p)) (IntKind.i64.wrap (n * 2 ^ p.toNat)) = (fPut w p b n).1 ∧ fWord (fPut w p b n).1 = true := by
  rw [fPut_ok hw h h0 h1]
  have hg : fGet w p b = w / pw p % pw b := by unfold fGet; rw [if_pos ⟨hw, h⟩]
  rw [hg]
  obtain ⟨m0, m1, m2, m3⟩ := fMay_of h
  have hw' : 0 ≤ w ∧ w < 4611686018427387904 := by simpa [fWord] using hw
  obtain ⟨a, rfl⟩ := Int.eq_ofNat_of_zero_le hw'.1
  obtain ⟨q, rfl⟩ := Int.eq_ofNat_of_zero_le m0
  obtain ⟨c, rfl⟩ := Int.eq_ofNat_of_zero_le (show 0 ≤ b by omega)
  obtain ⟨k, rfl⟩ := Int.eq_ofNat_of_zero_le h0
  have hk : k < 2 ^ c := by rw [pw_nat] at h1; omega
  have hn2 : k * 2 ^ q < 2 ^ 62 := by
    calc k * 2 ^ q < 2 ^ c * 2 ^ q := Nat.mul_lt_mul_of_pos_right hk (Nat.two_pow_pos q)
      _ = 2 ^ (c + q) := (Nat.pow_add ..).symm
      _ ≤ 2 ^ 62 := Nat.pow_le_pow_right (by decide) (by omega)
  have e2 : IntKind.i64.wrap ((k : Int) * 2 ^ (q : Int).toNat) = ((k * 2 ^ q : Nat) : Int) := by
    have e3 : ((k : Int) * 2 ^ (q : Int).toNat) = ((k * 2 ^ q : Nat) : Int) := by simp
    rw [e3, IntKind.wrap_i64]; omega
  have e1 : (pw (c : Int) - 1) * pw (q : Int) = (((2 ^ c - 1) * 2 ^ q : Nat) : Int) := by
    rw [pw_nat, pw_nat, Int.natCast_mul, Int.natCast_sub (Nat.two_pow_pos c)]; rfl
  have hle : a / 2 ^ q % 2 ^ c * 2 ^ q ≤ a := by
    calc a / 2 ^ q % 2 ^ c * 2 ^ q ≤ a / 2 ^ q * 2 ^ q := Nat.mul_le_mul_right _ (Nat.mod_le _ _)
      _ ≤ a := Nat.div_mul_le_self _ _
  have e4 : (a : Int) - (a : Int) / pw (q : Int) % pw (c : Int) * pw (q : Int) + (k : Int) * pw (q : Int) = ((a - a / 2 ^ q % 2 ^ c * 2 ^ q + k * 2 ^ q : Nat) : Int) := by
    rw [pw_nat, pw_nat, Int.natCast_add, Int.natCast_sub hle]; simp
  have hl := put_lt a k q c (by omega) hk (by omega)
  constructor
  · rw [e1, e2, bits_put a k q c (by omega) hk (by omega)]
    exact e4.symm
  · show fWord ((a : Int) - (a : Int) / pw (q : Int) % pw (c : Int) * pw (q : Int) + (k : Int) * pw (q : Int)) = true
    rw [e4]
    unfold fWord
    generalize (a - a / 2 ^ q % 2 ^ c * 2 ^ q + k * 2 ^ q) = x at hl
    simp only [decide_eq_true_eq]
    omega
set_option maxHeartbeats 1000000 in
theorem field_Put (w p b n : Int) (W : World) (hn : -9223372036854775808 ≤ n) (hn' : n ≤ 9223372036854775807) : Calls Try.prog 90 #[.int .i64 w, .agg #[.int .i64 p, .int .i64 b], .int .i64 n] W fun e w' => e = .returned (.tuple #[.int .i64 (fPut w p b n).1, .int .i64 (fPut w p b n).2]) ∧ Below W.heap.size W w' := by
  rcases bool_cases (b := fWord w) with hw | hw
  · rcases bool_cases (b := fMay p b) with h | h
    · have h' := Lib.hid h
      have hw' := Lib.hid hw
      obtain ⟨h0, h1, h2, h3⟩ := fMay_of h
      by_cases n0 : 0 ≤ n
      · by_cases n1 : n ≤ pw b - 1
        · have e := Lib.hid (put_i64 w p b n hw h n0 n1)
          have e2 := Lib.hid (show (fPut w p b n).2 = 0 by rw [fPut_ok hw h n0 n1])
          clear h hw
          go_enter Try.func90, Try.ntmps90
          go_wp2_with first
            | (go_at_call 95; refine (field_word _ _).mono ?_; rw [hw'.out]; rintro e w' ⟨rfl, rfl⟩)
            | (go_at_call 100; refine (field_may _ _ _).mono ?_; rw [h'.out]; rintro e w1 ⟨rfl, hb1⟩; obtain ⟨hc1, hf1⟩ := bcell hb1; have hz1 := hb1.size; (try simp only [World.size_alloc, World.size_drew, World.size_setCell, size_drewN] at hz1))
            | (go_at_call 101; refine (field_most _ _ _ h1 h2).mono ?_; rintro e w2 ⟨rfl, hb2⟩; obtain ⟨hc2, hf2⟩ := bcell hb2; have hz2 := hb2.size; (try simp only [World.size_alloc, World.size_drew, World.size_setCell, size_drewN] at hz2))
          have c0 : w2.cell? ⟨W.heap.size, 0, none⟩ = some (.int .i64 p) := by rw [hc2 _ _ (by omega), hc1 _ _ (by simp)]; simp
          have c1 : w2.cell? ⟨W.heap.size, 1, none⟩ = some (.int .i64 b) := by rw [hc2 _ _ (by omega), hc1 _ _ (by simp)]; simp
          clear hc1 hc2 hf1 hf2
          go_region_held3 (fun w' => w'.cell? ⟨W.heap.size, 0, none⟩ = some (.int .i64 p) ∧ w'.cell? ⟨W.heap.size, 1, none⟩ = some (.int .i64 b)) (first | go_keep | (refine ⟨(hb.cell (by simp; omega)).trans ?_, (hb.cell (by simp; omega)).trans ?_⟩ <;> go_keep)) ((go_at_call 97; refine (field_mask _ _ _ h0 h1 h2 h3).mono ?_; rintro e w' ⟨rfl, hb⟩))
          all_goals
            go_wp2
            go_ret2
            exact ⟨ret2 e.out.1 e2.out.symm, by (repeat' (first | (with_reducible exact Below.refl _ _) | (with_reducible assumption) | (with_reducible refine below_drewN ?_ _) | (with_reducible refine Below.drew ?_) | (with_reducible refine Below.alloc ?_ ?_ _) | (with_reducible refine Below.setCell ?_ ?_ _) | (with_reducible refine below_via (by assumption) ?_ ?_) | go_size))⟩
        · have e := Lib.hid (show fPut w p b n = (0, 3) by unfold fPut; rw [if_neg (by simp [hw, h, n0]), if_pos (by omega)])
          have n1' : pw b - 1 < n := by omega
          clear h hw n1
          go_enter Try.func90, Try.ntmps90
          go_wp2_with first
            | (go_at_call 95; refine (field_word _ _).mono ?_; rw [hw'.out]; rintro e w' ⟨rfl, rfl⟩)
            | (go_at_call 100; refine (field_may _ _ _).mono ?_; rw [h'.out]; rintro e w1 ⟨rfl, hb1⟩; obtain ⟨hc1, hf1⟩ := bcell hb1; have hz1 := hb1.size; (try simp only [World.size_alloc, World.size_drew, World.size_setCell, size_drewN] at hz1))
            | (go_at_call 101; refine (field_most _ _ _ h1 h2).mono ?_; rintro e w2 ⟨rfl, hb2⟩; obtain ⟨hc2, hf2⟩ := bcell hb2; have hz2 := hb2.size; (try simp only [World.size_alloc, World.size_drew, World.size_setCell, size_drewN] at hz2))
          go_ret2
          exact ⟨by rw [e.out]; rfl, by (repeat' (first | (with_reducible exact Below.refl _ _) | (with_reducible assumption) | (with_reducible refine below_drewN ?_ _) | (with_reducible refine Below.drew ?_) | (with_reducible refine Below.alloc ?_ ?_ _) | (with_reducible refine Below.setCell ?_ ?_ _) | (with_reducible refine below_via (by assumption) ?_ ?_) | go_size))⟩
      · have e := Lib.hid (show fPut w p b n = (0, 1) by unfold fPut; rw [if_pos (by simp [n0])])
        have n1' : n < 0 := by omega
        clear h hw n0
        go_enter Try.func90, Try.ntmps90
        go_wp2_with first
          | (go_at_call 95; refine (field_word _ _).mono ?_; rw [hw'.out]; rintro e w' ⟨rfl, rfl⟩)
          | (go_at_call 100; refine (field_may _ _ _).mono ?_; rw [h'.out]; rintro e w1 ⟨rfl, hb1⟩; obtain ⟨hc1, hf1⟩ := bcell hb1; have hz1 := hb1.size; (try simp only [World.size_alloc, World.size_drew, World.size_setCell, size_drewN] at hz1))
        go_ret2
        exact ⟨by rw [e.out]; rfl, by (repeat' (first | (with_reducible exact Below.refl _ _) | (with_reducible assumption) | (with_reducible refine below_drewN ?_ _) | (with_reducible refine Below.drew ?_) | (with_reducible refine Below.alloc ?_ ?_ _) | (with_reducible refine Below.setCell ?_ ?_ _) | (with_reducible refine below_via (by assumption) ?_ ?_) | go_size))⟩
    · have h' := Lib.hid h
      have hw' := Lib.hid hw
      have e := Lib.hid (show fPut w p b n = (0, 1) by unfold fPut; rw [if_pos (by simp [h])])
      clear h hw
      go_enter Try.func90, Try.ntmps90
      go_wp2_with first
        | (go_at_call 95; refine (field_word _ _).mono ?_; rw [hw'.out]; rintro e w' ⟨rfl, rfl⟩)
        | (go_at_call 100; refine (field_may _ _ _).mono ?_; rw [h'.out]; rintro e w1 ⟨rfl, hb1⟩; obtain ⟨hc1, hf1⟩ := bcell hb1; have hz1 := hb1.size; (try simp only [World.size_alloc, World.size_drew, World.size_setCell, size_drewN] at hz1))
      go_ret2
      exact ⟨by rw [e.out]; rfl, by (repeat' (first | (with_reducible exact Below.refl _ _) | (with_reducible assumption) | (with_reducible refine below_drewN ?_ _) | (with_reducible refine Below.drew ?_) | (with_reducible refine Below.alloc ?_ ?_ _) | (with_reducible refine Below.setCell ?_ ?_ _) | (with_reducible refine below_via (by assumption) ?_ ?_) | go_size))⟩
  · have hw' := Lib.hid hw
    have e := Lib.hid (show fPut w p b n = (0, 1) by unfold fPut; rw [if_pos (by simp [hw])])
    clear hw
    go_enter Try.func90, Try.ntmps90
    go_wp2_with (go_at_call 95; refine (field_word _ _).mono ?_; rw [hw'.out]; rintro e w' ⟨rfl, rfl⟩)
    go_ret2
    exact ⟨by rw [e.out]; rfl, by (repeat' (first | (with_reducible exact Below.refl _ _) | (with_reducible assumption) | (with_reducible refine below_drewN ?_ _) | (with_reducible refine Below.drew ?_) | (with_reducible refine Below.alloc ?_ ?_ _) | (with_reducible refine Below.setCell ?_ ?_ _) | (with_reducible refine below_via (by assumption) ?_ ?_) | go_size))⟩
end Go.Proofs.Ytmbkkpeepbfgoaa
