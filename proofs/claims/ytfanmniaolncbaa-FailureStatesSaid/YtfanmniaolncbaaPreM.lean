/- Plain laws on masks and powers of two: no program in sight. -/
import Derived.WalkKit
set_option linter.unusedVariables false
set_option linter.unusedSimpArgs false
namespace Go.Proofs.Ytfanmniaolncbaa
/-- the number of addresses of a prefix of n bits -/
def pw (n : Int) : Int := 2 ^ (32 - n).toNat
def mskZ (n : Int) : Int := 4294967295 * 2 ^ (32 - n).toNat % 4294967296
theorem pw_nat (n : Int) : pw n = ((2 ^ (32 - n).toNat : Nat) : Int) := by unfold pw; simp
theorem pw_pos (n : Int) : 1 ≤ pw n := by rw [pw_nat]; have := Nat.pow_pos (n := (32 - n).toNat) (show 0 < 2 by decide); omega
theorem two_pow_le32 (k : Nat) (h : k ≤ 32) : 2 ^ k ≤ 4294967296 := by
  have := Nat.pow_le_pow_right (show 0 < 2 by decide) h
  simpa using this
theorem pw_le (n : Int) (h : 0 ≤ n) : pw n ≤ 4294967296 := by rw [pw_nat]; have := two_pow_le32 (32 - n).toNat (by omega); omega
theorem pw_succ (n : Int) (h : n ≤ 31) : pw n = 2 * pw (n + 1) := by
  unfold pw
  have : (32 - n).toNat = (32 - (n + 1)).toNat + 1 := by omega
  rw [this, Int.pow_succ]; omega
theorem pw_dvd32 (n : Int) (h0 : 0 ≤ n) (h1 : n ≤ 32) : 4294967296 % pw n = 0 := by
  have h : (4294967296 : Nat) = 2 ^ (32 - (32 - n).toNat) * 2 ^ (32 - n).toNat := by
    rw [← Nat.pow_add, show 32 - (32 - n).toNat + (32 - n).toNat = 32 by omega]
  rw [pw_nat]
  have : (4294967296 : Int) = ((2 ^ (32 - (32 - n).toNat) * 2 ^ (32 - n).toNat : Nat) : Int) := by rw [← h]; rfl
  rw [this]
  rw [← Int.natCast_emod]
  simp
theorem mskZ_eq (n : Int) (h0 : 0 ≤ n) (h1 : n ≤ 32) : mskZ n = 4294967296 - pw n := by
  have hp := pw_pos n
  have hl := pw_le n h0
  unfold mskZ
  have e : (4294967295 : Int) * 2 ^ (32 - n).toNat = (4294967296 - pw n) + 4294967296 * (pw n - 1) := by
    show 4294967295 * pw n = _
    omega
  rw [e, Int.add_mul_emod_self_left]
  exact Int.emod_eq_of_lt (by omega) (by omega)
theorem mskZ_bd (n : Int) : 0 ≤ mskZ n ∧ mskZ n ≤ 4294967295 := by unfold mskZ; omega
theorem nat_and_mask (a k : Nat) (ha : a < 4294967296) (hk : k ≤ 32) : a &&& (4294967296 - 2 ^ k) = a / 2 ^ k * 2 ^ k := by
  have e : 4294967296 - 2 ^ k = (2 ^ (32 - k) - 1) * 2 ^ k := by
    rw [Nat.sub_mul, ← Nat.pow_add, show 32 - k + k = 32 by omega]; simp
  rw [e]
  apply Nat.eq_of_testBit_eq
  intro j
  rw [Nat.testBit_and, Nat.testBit_mul_two_pow, Nat.testBit_mul_two_pow, Nat.testBit_two_pow_sub_one, Nat.testBit_div_two_pow]
  by_cases h : k ≤ j
  · by_cases h2 : j < 32
    · have e2 : k + (j - k) = j := by omega
      simp [h, show j - k < 32 - k by omega]
    · have : a.testBit j = false := Nat.testBit_lt_two_pow (Nat.lt_of_lt_of_le ha (by have := Nat.pow_le_pow_right (show 0 < 2 by decide) (show 32 ≤ j by omega); simpa using this))
      have e2 : k + (j - k) = j := by omega
      simp [h, this]
  · simp [h]
theorem and_mask (a n : Int) (ha0 : 0 ≤ a) (ha : a ≤ 4294967295) (h0 : 0 ≤ n) (h1 : n ≤ 32) : bits .and .u32 a (mskZ n) = a / pw n * pw n := by
  have hb := mskZ_bd n
  rw [u32_and a (mskZ n) ha0 (by omega) hb.1 (by omega)]
  have hk : (32 - n).toNat ≤ 32 := by omega
  have hl := two_pow_le32 _ hk
  have e : (mskZ n).toNat = 4294967296 - 2 ^ (32 - n).toNat := by rw [mskZ_eq n h0 h1, pw_nat]; omega
  rw [e, nat_and_mask a.toNat _ (by omega) hk, pw_nat]
  obtain ⟨m, rfl⟩ := Int.eq_ofNat_of_zero_le ha0
  simp
theorem andNot_mask (a n : Int) (ha0 : 0 ≤ a) (ha : a ≤ 4294967295) (h0 : 0 ≤ n) (h1 : n ≤ 32) : bits .andNot .u32 a (mskZ n) = a % pw n := by
  have hb := mskZ_bd n
  rw [u32_andNot a (mskZ n) ha0 (by omega) hb.1 (by omega)]
  have hk : (32 - n).toNat ≤ 32 := by omega
  have hl := two_pow_le32 _ hk
  have hp := pw_pos n
  have e : 4294967295 - (mskZ n).toNat = 2 ^ (32 - n).toNat - 1 := by rw [mskZ_eq n h0 h1, pw_nat]; rw [pw_nat] at hp; omega
  rw [e, Nat.and_two_pow_sub_one_eq_mod, pw_nat]
  obtain ⟨m, rfl⟩ := Int.eq_ofNat_of_zero_le ha0
  simp
theorem upper_le (a n : Int) (ha : a ≤ 4294967295) (h0 : 0 ≤ n) (hv : a % pw n = 0) (ha0 : 0 ≤ a) (h1 : n ≤ 32) : a + pw n ≤ 4294967296 := by
  have hp := pw_pos n
  have hd := pw_dvd32 n h0 h1
  have h1 := Int.emod_add_mul_ediv a (pw n)
  have h2 := Int.emod_add_mul_ediv 4294967296 (pw n)
  rw [hv] at h1; rw [hd] at h2
  have h3 : pw n * (a / pw n) < pw n * (4294967296 / pw n) := by omega
  have h4 : a / pw n < 4294967296 / pw n := Int.lt_of_mul_lt_mul_left h3 (by omega)
  have h5 : pw n * (a / pw n + 1) ≤ pw n * (4294967296 / pw n) := Int.mul_le_mul_of_nonneg_left (by omega) (by omega)
  rw [Int.mul_add] at h5
  omega
end Go.Proofs.Ytfanmniaolncbaa
