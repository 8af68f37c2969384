/- Walks of package nsgref1: size, Valid, Of, Contains, Covers, Halves, Common: the same specifications as the program's. -/
import Derived.Test.YtfanmniaolncbaaPre2
import Derived.Test.YtfanmniaolncbaaBlk
set_option linter.unusedVariables false
set_option linter.unusedSimpArgs false
namespace Go.Proofs.Ytfanmniaolncbaa
open Go.RowKit
set_option maxHeartbeats 400000 in
theorem ref_size (n : Int) (h0 : 0 ≤ n) (h1 : n ≤ 32) (w : World) :
    Calls Try.prog 110 #[.int .i64 n] w fun e w' => e = .returned (.int .u64 (pw n)) ∧ w = w' := by
  have hp := pw_pos n
  have hl := pw_le n h0
  have hsh : IntKind.u64.wrap (2 ^ (32 - n).toNat) = pw n := u64_wrap (pw n) (by omega) (by omega)
  go_enter Try.func110, Try.ntmps110
  go_wp2
  go_ret
  exact ⟨rfl, rfl⟩
set_option maxHeartbeats 400000 in
theorem ref_Valid (a n : Int) (ha0 : 0 ≤ a) (ha1 : a ≤ 4294967295) {b : Bool} (hb : valB a n = b) (w : World) :
    Calls Try.prog 91 #[.agg #[.int .u32 a, .int .i64 n]] w fun e w' => e = .returned (.bool b) ∧ Below w.heap.size w w' := by
  subst hb
  have hwa : IntKind.u64.wrap a = a := u64_wrap a ha0 (by omega)
  unfold valB
  rcases Bool.eq_false_or_eq_true (decide (0 ≤ n)) with g0 | g0
  rcases Bool.eq_false_or_eq_true (decide (n ≤ 32)) with g1 | g1
  all_goals
    have hp := pw_pos n
    go_enter Try.func91, Try.ntmps91
    go_wp2
    refine wp_region_later (by kernel_rfl) (by kernel_rfl) ?_
    repeat (go_big_quiet_step ((go_at_call 110; exact calls_later_same (ref_size _ (by simpa using g0) (by simpa using g1) _))))
    refine wpQuiet_nil ?_
    intro w2 hw'
    have hb2 := ext_below hw'
    clear hw'
    obtain ⟨hc2, hf2⟩ := bcell hb2
    have hs2 := hb2.size
    try simp at hs2
    go_wp2
    go_ret
    exact ⟨by simp only [*]; rfl, ((Below.refl _ _).alloc (Nat.le_refl _) _).trans (hb2.mono (by simp))⟩
set_option maxHeartbeats 400000 in
theorem ref_Of_no (a n : Int) (ha0 : 0 ≤ a) (ha1 : a ≤ 4294967295) (hv : valB a n = false) (w : World) :
    Calls Try.prog 98 #[.agg #[.int .u32 a, .int .i64 n]] w fun e w' => e = .returned (.tuple #[.agg #[.int .u32 0, .int .u32 0], .bool false]) ∧ Below w.heap.size w w' := by
  go_enter Try.func98, Try.ntmps98
  go_wp2_with (go_at_call 91; refine (ref_Valid _ _ ha0 ha1 hv _).mono ?_; rintro e w2 ⟨rfl, hb2⟩; obtain ⟨hc2, hf2⟩ := bcell hb2; have hs2 := hb2.size; (try simp at hs2); have hz2_0 : w.heap.size < w2.heap.size := (by omega); have hz2_1 : w.heap.size + 1 < w2.heap.size := (by omega))
  go_wp2
  refine bodyPost_ret (v := .tuple #[.agg #[.int .u32 0, .int .u32 0], .bool false]) (by simp [results, Try.results98, go_sem, hc2]) rfl ?_
  exact ⟨rfl, by ((repeat (first | exact Below.refl _ _ | refine Below.drew ?_ | refine Below.setCell ?_ (by first | (simp; done) | (simp; omega) | omega) _ | refine Below.alloc ?_ (by first | (simp; done) | (simp; omega) | omega) _ | refine Below.trans ?_ (Below.mono hb2 (by first | (simp; done) | (simp; omega) | omega)))); done)⟩
set_option maxHeartbeats 400000 in
theorem ref_Of_yes (a n : Int) (ha0 : 0 ≤ a) (ha1 : a ≤ 4294967295) (hv : valB a n = true) (w : World) :
    Calls Try.prog 98 #[.agg #[.int .u32 a, .int .i64 n]] w fun e w' => e = .returned (.tuple #[.agg #[.int .u32 a, .int .u32 (a + (pw n - 1))], .bool true]) ∧ Below w.heap.size w w' := by
  have hb := (valB_iff a n).1 hv
  have hn0 := hb.1
  have hn1 := hb.2.1
  have hp := pw_pos n
  have hl := pw_le n hn0
  have hu := upper_le a n ha1 hn0 hb.2.2 ha0 hn1
  have hwa : IntKind.u64.wrap a = a := u64_wrap a ha0 (by omega)
  have hwb : IntKind.u64.wrap (a + pw n) = a + pw n := u64_wrap _ (by omega) (by omega)
  have hwc : IntKind.u64.wrap (a + pw n - 1) = a + pw n - 1 := u64_wrap _ (by omega) (by omega)
  have hwd : IntKind.u32.wrap (a + pw n - 1) = a + pw n - 1 := u32_wrap _ (by omega) (by omega)
  clear hb
  go_enter Try.func98, Try.ntmps98
  go_wp2_with (go_at_call 91; refine (ref_Valid _ _ ha0 ha1 hv _).mono ?_; rintro e w2 ⟨rfl, hb2⟩; obtain ⟨hc2, hf2⟩ := bcell hb2; have hs2 := hb2.size; (try simp at hs2); have hz2_0 : w.heap.size < w2.heap.size := (by omega); have hz2_1 : w.heap.size + 1 < w2.heap.size := (by omega))
  go_region_held3 (fun w' => w'.cell? ⟨w.heap.size, 0, none⟩ = some (.int .u32 a) ∧ w'.cell? ⟨w.heap.size, 1, none⟩ = some (.int .i64 n)) (go_simp) ((go_at_call 110; refine (ref_size _ hn0 hn1 _).mono ?_; rintro e w' ⟨rfl, rfl⟩))
  go_wp2
  refine bodyPost_ret (v := .tuple #[.agg #[.int .u32 a, .int .u32 (a + pw n - 1)], .bool true]) (by simp [results, Try.results98, go_sem, hc2, hz2_0, hz2_1]) rfl ?_
  exact ⟨by rw [show a + pw n - 1 = a + (pw n - 1) by omega], by ((repeat (first | exact Below.refl _ _ | refine Below.drew ?_ | refine Below.setCell ?_ (by first | (simp; done) | (simp; omega) | omega) _ | refine Below.alloc ?_ (by first | (simp; done) | (simp; omega) | omega) _ | refine Below.trans ?_ (Below.mono hb2 (by first | (simp; done) | (simp; omega) | omega)))); done)⟩
theorem contB_range (a n x : Int) (hv : valB a n = true) : contB a n x = (decide (a ≤ x) && decide (x ≤ a + (pw n - 1))) := by
  obtain ⟨h0, h1, h2⟩ := (valB_iff a n).1 hv
  have hp := pw_pos n
  obtain ⟨m, rfl⟩ : ∃ m, a = m * pw n := ⟨a / pw n, by rw [Int.ediv_mul_cancel (Int.dvd_of_emod_eq_zero h2)]⟩
  rw [contB_mul m x n h0 h1, Bool.eq_iff_iff]
  simp only [Bool.and_eq_true, decide_eq_true_eq]
  constructor
  · intro h
    have h3 := Int.emod_add_mul_ediv x (pw n)
    have h4 := Int.emod_nonneg x (show pw n ≠ 0 by omega)
    have h5 := Int.emod_lt_of_pos x (show 0 < pw n by omega)
    rw [h, Int.mul_comm] at h3
    omega
  · rintro ⟨h3, h4⟩
    have h5 : m ≤ x / pw n := Int.le_ediv_of_mul_le (by omega) h3
    have h6 : x / pw n < m + 1 := Int.ediv_lt_of_lt_mul (by omega) (by rw [Int.add_mul]; omega)
    omega
set_option maxHeartbeats 400000 in
theorem ref_Contains (a n x : Int) (ha0 : 0 ≤ a) (ha1 : a ≤ 4294967295) {b : Bool} (hb : contB a n x = b) (w : World) :
    Calls Try.prog 114 #[.agg #[.int .u32 a, .int .i64 n], .int .u32 x] w fun e w' => e = .returned (.bool b) ∧ Below w.heap.size w w' := by
  subst hb
  rcases Bool.eq_false_or_eq_true (valB a n) with g0 | g0
  · rw [contB_range a n x g0]
    rcases Bool.eq_false_or_eq_true (decide (a ≤ x)) with g1 | g1
    all_goals
      go_enter Try.func114, Try.ntmps114
      go_wp2_with (go_at_call 98; refine (ref_Of_yes _ _ ha0 ha1 g0 _).mono ?_; rintro e w2 ⟨rfl, hb2⟩; obtain ⟨hc2, hf2⟩ := bcell hb2; have hs2 := hb2.size; (try simp at hs2); have hz2_0 : w.heap.size < w2.heap.size := (by omega))
      go_wp2
      go_ret
      exact ⟨by simp only [*]; rfl, by ((repeat (first | exact Below.refl _ _ | refine Below.drew ?_ | refine Below.setCell ?_ (by first | (simp; done) | (simp; omega) | omega) _ | refine Below.alloc ?_ (by first | (simp; done) | (simp; omega) | omega) _ | refine Below.trans ?_ (Below.mono hb2 (by first | (simp; done) | (simp; omega) | omega)))); done)⟩
  · rw [contB, g0, Bool.false_and]
    go_enter Try.func114, Try.ntmps114
    go_wp2_with (go_at_call 98; refine (ref_Of_no _ _ ha0 ha1 g0 _).mono ?_; rintro e w2 ⟨rfl, hb2⟩; obtain ⟨hc2, hf2⟩ := bcell hb2; have hs2 := hb2.size; (try simp at hs2); have hz2_0 : w.heap.size < w2.heap.size := (by omega))
    go_wp2
    go_ret
    exact ⟨rfl, by ((repeat (first | exact Below.refl _ _ | refine Below.drew ?_ | refine Below.setCell ?_ (by first | (simp; done) | (simp; omega) | omega) _ | refine Below.alloc ?_ (by first | (simp; done) | (simp; omega) | omega) _ | refine Below.trans ?_ (Below.mono hb2 (by first | (simp; done) | (simp; omega) | omega)))); done)⟩
theorem coverB_eq (a n b m : Int) (ha0 : 0 ≤ a) : coverB a n b m = (valB b m && (contB a n b && contB a n (b + (pw m - 1)))) := by
  rcases Bool.eq_false_or_eq_true (valB b m) with g | g
  · rw [coverB, g, Bool.true_and, Bool.true_and]
    rcases Bool.eq_false_or_eq_true (valB a n) with g1 | g1
    · obtain ⟨h0, h1, h2⟩ := (valB_iff a n).1 g1
      obtain ⟨k0, k1, k2⟩ := (valB_iff b m).1 g
      have hp := pw_pos m
      rw [contB_range a n b g1, contB_range a n _ g1, Bool.eq_iff_iff]
      simp only [Bool.and_eq_true, decide_eq_true_eq]
      constructor
      · rintro ⟨h3, h4, h5⟩
        refine ⟨⟨h4, h5⟩, by omega, ?_⟩
        obtain ⟨d, hd⟩ : ∃ d : Nat, m = n + d := ⟨(m - n).toNat, by omega⟩
        have hpow : pw n = 2 ^ d * pw m := by
          unfold pw; rw [← Int.pow_add]; congr 1; omega
        obtain ⟨q, hq⟩ := Int.dvd_of_emod_eq_zero h2
        obtain ⟨r, hr⟩ := Int.dvd_of_emod_eq_zero k2
        have hpn := pw_pos n
        have e1 : a + pw n = pw m * (2 ^ d * q + 2 ^ d) := by
          rw [hq, hpow, Int.mul_add]
          have : 2 ^ d * pw m * q = pw m * (2 ^ d * q) := by ac_rfl
          rw [this, Int.mul_comm (pw m) (2 ^ d)]
        have h6 : pw m * r < pw m * (2 ^ d * q + 2 ^ d) := by omega
        have h7 : r < 2 ^ d * q + 2 ^ d := Int.lt_of_mul_lt_mul_left h6 (by omega)
        have h8 : pw m * (r + 1) ≤ pw m * (2 ^ d * q + 2 ^ d) := Int.mul_le_mul_of_nonneg_left (by omega) (by omega)
        rw [Int.mul_add] at h8
        omega
      · rintro ⟨⟨h3, h4⟩, h5, h6⟩
        refine ⟨?_, h3, h4⟩
        rcases Int.lt_or_le m n with h | h
        · exfalso
          have hlt : pw n < pw m := by
            obtain ⟨d, hd⟩ : ∃ d : Nat, n = m + 1 + d := ⟨(n - m - 1).toNat, by omega⟩
            have hpow : pw (m + 1) = 2 ^ d * pw n := by
              unfold pw; rw [← Int.pow_add]; congr 1; omega
            have h1' := pw_succ m (by omega)
            have h2' := two_pos d
            have hpn := pw_pos n
            have h3' : 1 * pw n ≤ 2 ^ d * pw n := Int.mul_le_mul_of_nonneg_right h2' (by omega)
            omega
          omega
        · exact h
    · simp [contB, g1]
  · rw [coverB, g, Bool.false_and, Bool.false_and]
set_option maxHeartbeats 400000 in
theorem ref_Covers (a n b m : Int) (ha0 : 0 ≤ a) (ha1 : a ≤ 4294967295) (hb0 : 0 ≤ b) (hb1 : b ≤ 4294967295) {r : Bool} (hr : coverB a n b m = r) (w : World) :
    Calls Try.prog 113 #[.agg #[.int .u32 a, .int .i64 n], .agg #[.int .u32 b, .int .i64 m]] w fun e w' => e = .returned (.bool r) ∧ Below w.heap.size w w' := by
  subst hr
  rw [coverB_eq a n b m ha0]
  rcases Bool.eq_false_or_eq_true (valB b m) with g0 | g0
  · rcases Bool.eq_false_or_eq_true (contB a n b) with g1 | g1
    all_goals
      rcases Bool.eq_false_or_eq_true (contB a n (b + (pw m - 1))) with g2 | g2
      all_goals
        rw [g0, g1, g2]
        go_enter Try.func113, Try.ntmps113
        go_wp2_with (first | (go_at_call 98; refine (ref_Of_yes _ _ hb0 hb1 g0 _).mono ?_; rintro e w2 ⟨rfl, hb2⟩; obtain ⟨hc2, hf2⟩ := bcell hb2; have hs2 := hb2.size; (try simp at hs2); have hz2_0 : w.heap.size < w2.heap.size := (by omega); have hz2_1 : w.heap.size + 1 < w2.heap.size := (by omega)) | ((with_reducible (go_at_call 114; refine (ref_Contains _ _ _ ha0 ha1 g1 _).mono ?_; rintro e w3 ⟨rfl, hb3⟩; obtain ⟨hc3, hf3⟩ := bcell hb3; have hs3 := hb3.size; (try simp at hs3); have hz3_0 : w.heap.size < w3.heap.size := (by omega); have hz3_1 : w.heap.size + 1 < w3.heap.size := (by omega); have hz3_2 : w2.heap.size < w3.heap.size := (by omega)))) | ((with_reducible (go_at_call 114; refine (ref_Contains _ _ _ ha0 ha1 g2 _).mono ?_; rintro e w4 ⟨rfl, hb4⟩; obtain ⟨hc4, hf4⟩ := bcell hb4; have hs4 := hb4.size; (try simp at hs4); have hz4_0 : w.heap.size < w4.heap.size := (by omega)))))
        go_ret
        exact ⟨rfl, by first | ((repeat (first | exact Below.refl _ _ | refine Below.drew ?_ | refine Below.setCell ?_ (by first | (simp; done) | (simp; omega) | omega) _ | refine Below.alloc ?_ (by first | (simp; done) | (simp; omega) | omega) _ | refine Below.trans ?_ (Below.mono hb3 (by first | (simp; done) | (simp; omega) | omega)) | refine Below.trans ?_ (Below.mono hb2 (by first | (simp; done) | (simp; omega) | omega)))); done) | ((repeat (first | exact Below.refl _ _ | refine Below.drew ?_ | refine Below.setCell ?_ (by first | (simp; done) | (simp; omega) | omega) _ | refine Below.alloc ?_ (by first | (simp; done) | (simp; omega) | omega) _ | refine Below.trans ?_ (Below.mono hb4 (by first | (simp; done) | (simp; omega) | omega)) | refine Below.trans ?_ (Below.mono hb3 (by first | (simp; done) | (simp; omega) | omega)) | refine Below.trans ?_ (Below.mono hb2 (by first | (simp; done) | (simp; omega) | omega)))); done)⟩
  · rw [g0, Bool.false_and]
    go_enter Try.func113, Try.ntmps113
    go_wp2_with (go_at_call 98; refine (ref_Of_no _ _ hb0 hb1 g0 _).mono ?_; rintro e w2 ⟨rfl, hb2⟩; obtain ⟨hc2, hf2⟩ := bcell hb2; have hs2 := hb2.size; (try simp at hs2); have hz2_0 : w.heap.size < w2.heap.size := (by omega); have hz2_1 : w.heap.size + 1 < w2.heap.size := (by omega))
    go_wp2
    go_ret
    exact ⟨rfl, by ((repeat (first | exact Below.refl _ _ | refine Below.drew ?_ | refine Below.setCell ?_ (by first | (simp; done) | (simp; omega) | omega) _ | refine Below.alloc ?_ (by first | (simp; done) | (simp; omega) | omega) _ | refine Below.trans ?_ (Below.mono hb2 (by first | (simp; done) | (simp; omega) | omega)))); done)⟩
end Go.Proofs.Ytfanmniaolncbaa
