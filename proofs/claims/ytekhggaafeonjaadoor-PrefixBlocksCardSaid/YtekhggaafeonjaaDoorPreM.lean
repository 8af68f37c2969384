/- Plain laws on masks and powers of two: no program in sight. -/
import Derived.WalkKit
namespace Go.Proofs.YtekhggaafeonjaaDoor
/-- the number of addresses of a prefix of n bits -/
def pw (n : Int) : Int := 2 ^ (32 - n).toNat
def mskZ (n : Int) : Int := 4294967295 * 2 ^ (32 - n).toNat % 4294967296
theorem pw_nat (n : Int) : pw n = ((2 ^ (32 - n).toNat : Nat) : Int) := by unfold pw; simp
theorem pw_pos (n : Int) : 1 ≤ pw n := by rw [pw_nat]; have := Nat.pow_pos (n := (32 - n).toNat) (show 0 < 2 by decide); omega
theorem two_pow_le32 (k : Nat) (h : k ≤ 32) : 2 ^ k ≤ 4294967296 := by
  have := Nat.pow_le_pow_right (show 0 < 2 by decide) h
  simpa using this
theorem pw_le (n : Int) (h : 0 ≤ n) : pw n ≤ 4294967296 := by rw [pw_nat]; have := two_pow_le32 (32 - n).toNat (by omega); omega
theorem pw_zero : pw 0 = 4294967296 := by decide
theorem pw_32 : pw 32 = 1 := by decide
theorem pw_succ (n : Int) (h : n ≤ 31) : pw n = 2 * pw (n + 1) := by
  unfold pw
  have : (32 - n).toNat = (32 - (n + 1)).toNat + 1 := by omega
  rw [this, Int.pow_succ]; omega
theorem pw_dvd32 (n : Int) (h0 : 0 ≤ n) (h1 : n ≤ 32) : 4294967296 % pw n = 0 := by
  have h : (4294967296 : Nat) = 2 ^ (32 - (32 - n).toNat) * 2 ^ (32 - n).toNat := by
    rw [← Nat.pow_add, show 32 - (32 - n).toNat + (32 - n).toNat = 32 by omega]
  rw [pw_nat]
  have : (4294967296 : Int) = ((2 ^ (32 - (32 - n).toNat) * 2 ^ (32 - n).toNat : Nat) : Int) := by rw [← h]; rfl
  rw [this]
  rw [← Int.natCast_emod]
  simp
theorem mskZ_eq (n : Int) (h0 : 0 ≤ n) (h1 : n ≤ 32) : mskZ n = 4294967296 - pw n := by
  have hp := pw_pos n
  have hl := pw_le n h0
  unfold mskZ
  have e : (4294967295 : Int) * 2 ^ (32 - n).toNat = (4294967296 - pw n) + 4294967296 * (pw n - 1) := by
    show 4294967295 * pw n = _
    omega
  rw [e, Int.add_mul_emod_self_left]
  exact Int.emod_eq_of_lt (by omega) (by omega)
theorem mskZ_bd (n : Int) : 0 ≤ mskZ n ∧ mskZ n ≤ 4294967295 := by unfold mskZ; omega
theorem nat_and_mask (a k : Nat) (ha : a < 4294967296) (hk : k ≤ 32) : a &&& (4294967296 - 2 ^ k) = a / 2 ^ k * 2 ^ k := by
  have e : 4294967296 - 2 ^ k = (2 ^ (32 - k) - 1) * 2 ^ k := by
    rw [Nat.sub_mul, ← Nat.pow_add, show 32 - k + k = 32 by omega]; simp
  rw [e]
  apply Nat.eq_of_testBit_eq
  intro j
  rw [Nat.testBit_and, Nat.testBit_mul_two_pow, Nat.testBit_mul_two_pow, Nat.testBit_two_pow_sub_one, Nat.testBit_div_two_pow]
  by_cases h : k ≤ j
  · by_cases h2 : j < 32
    · have e2 : k + (j - k) = j := by omega
      simp [h, show j - k < 32 - k by omega]
    · have : a.testBit j = false := Nat.testBit_lt_two_pow (Nat.lt_of_lt_of_le ha (by have := Nat.pow_le_pow_right (show 0 < 2 by decide) (show 32 ≤ j by omega); simpa using this))
      have e2 : k + (j - k) = j := by omega
      simp [h, this]
  · simp [h]
theorem and_mask (a n : Int) (ha0 : 0 ≤ a) (ha : a ≤ 4294967295) (h0 : 0 ≤ n) (h1 : n ≤ 32) : bits .and .u32 a (mskZ n) = a / pw n * pw n := by
  have hb := mskZ_bd n
  rw [u32_and a (mskZ n) ha0 (by omega) hb.1 (by omega)]
  have hk : (32 - n).toNat ≤ 32 := by omega
  have hl := two_pow_le32 _ hk
  have e : (mskZ n).toNat = 4294967296 - 2 ^ (32 - n).toNat := by rw [mskZ_eq n h0 h1, pw_nat]; omega
  rw [e, nat_and_mask a.toNat _ (by omega) hk, pw_nat]
  obtain ⟨m, rfl⟩ := Int.eq_ofNat_of_zero_le ha0
  simp
theorem andNot_mask (a n : Int) (ha0 : 0 ≤ a) (ha : a ≤ 4294967295) (h0 : 0 ≤ n) (h1 : n ≤ 32) : bits .andNot .u32 a (mskZ n) = a % pw n := by
  have hb := mskZ_bd n
  rw [u32_andNot a (mskZ n) ha0 (by omega) hb.1 (by omega)]
  have hk : (32 - n).toNat ≤ 32 := by omega
  have hl := two_pow_le32 _ hk
  have hp := pw_pos n
  have e : 4294967295 - (mskZ n).toNat = 2 ^ (32 - n).toNat - 1 := by rw [mskZ_eq n h0 h1, pw_nat]; rw [pw_nat] at hp; omega
  rw [e, Nat.and_two_pow_sub_one_eq_mod, pw_nat]
  obtain ⟨m, rfl⟩ := Int.eq_ofNat_of_zero_le ha0
  simp
theorem or_upper (a n : Int) (ha0 : 0 ≤ a) (ha : a ≤ 4294967295) (h0 : 0 ≤ n) (h1 : n ≤ 31) (hv : a % pw n = 0) : bits .or .u32 a (2 ^ (31 - n).toNat % 4294967296) = a + pw (n + 1) := by
  have e0 : (31 - n).toNat = (32 - (n + 1)).toNat := by omega
  have e1 : (2 : Int) ^ (31 - n).toNat = pw (n + 1) := by rw [e0]; rfl
  have hp := pw_pos (n + 1)
  have hs := pw_succ n h1
  have hl := pw_le n h0
  rw [e1, Int.emod_eq_of_lt (by omega) (by omega), u32_or a _ ha0 (by omega) (by omega) (by omega)]
  have hk : pw (n + 1) = ((2 ^ (31 - n).toNat : Nat) : Int) := by rw [e0]; exact pw_nat _
  obtain ⟨m, rfl⟩ := Int.eq_ofNat_of_zero_le ha0
  have hv2 : m % (2 * 2 ^ (31 - n).toNat) = 0 := by rw [hs, hk] at hv; exact_mod_cast hv
  rw [hk, Int.toNat_natCast, Int.toNat_natCast]
  have : m ||| 2 ^ (31 - n).toNat = m + 2 ^ (31 - n).toNat := by
    refine nat_join ((31 - n).toNat + 1) m _ ?_ ?_
    · rw [Nat.pow_succ, Nat.mul_comm]; exact hv2
    · rw [Nat.pow_succ]; have := Nat.pow_pos (n := (31 - n).toNat) (show 0 < 2 by decide); omega
  rw [this]; simp
theorem upper_le (a n : Int) (ha : a ≤ 4294967295) (h0 : 0 ≤ n) (hv : a % pw n = 0) (ha0 : 0 ≤ a) (h1 : n ≤ 32) : a + pw n ≤ 4294967296 := by
  have hp := pw_pos n
  have hd := pw_dvd32 n h0 h1
  have h1 := Int.emod_add_mul_ediv a (pw n)
  have h2 := Int.emod_add_mul_ediv 4294967296 (pw n)
  rw [hv] at h1; rw [hd] at h2
  have h3 : pw n * (a / pw n) < pw n * (4294967296 / pw n) := by omega
  have h4 : a / pw n < 4294967296 / pw n := Int.lt_of_mul_lt_mul_left h3 (by omega)
  have h5 : pw n * (a / pw n + 1) ≤ pw n * (4294967296 / pw n) := Int.mul_le_mul_of_nonneg_left (by omega) (by omega)
  rw [Int.mul_add] at h5
  omega
theorem or_low (a n : Int) (ha0 : 0 ≤ a) (ha : a ≤ 4294967295) (h0 : 0 ≤ n) (h1 : n ≤ 32) (hv : a % pw n = 0) : bits .or .u32 a (pw n - 1) = a + (pw n - 1) := by
  have hp := pw_pos n
  have hl := pw_le n h0
  rw [u32_or a _ ha0 (by omega) (by omega) (by omega)]
  obtain ⟨m, rfl⟩ := Int.eq_ofNat_of_zero_le ha0
  have hk := pw_nat n
  have hv2 : m % 2 ^ (32 - n).toNat = 0 := by rw [hk] at hv; exact_mod_cast hv
  have e : (pw n - 1).toNat = 2 ^ (32 - n).toNat - 1 := by omega
  have hpos := Nat.pow_pos (n := (32 - n).toNat) (show 0 < 2 by decide)
  rw [e, Int.toNat_natCast, nat_join (32 - n).toNat m _ hv2 (by omega)]
  omega
theorem not_mask (n : Int) (h0 : 0 ≤ n) (h1 : n ≤ 32) : bits .xor .u32 (if IntKind.u32.signed = true then -1 else IntKind.u32.max) (mskZ n) = pw n - 1 := by
  have hp := pw_pos n
  have hl := pw_le n h0
  have e : (if IntKind.u32.signed = true then (-1 : Int) else IntKind.u32.max) = ((4294967295 : Nat) : Int) := by decide
  have em : mskZ n = ((4294967296 - 2 ^ (32 - n).toNat : Nat) : Int) := by
    rw [mskZ_eq n h0 h1, pw_nat]; have := two_pow_le32 (32 - n).toNat (by omega); omega
  rw [e, em, u32_xor_nat _ _ (by decide) (by have := Nat.pow_pos (n := (32 - n).toNat) (show 0 < 2 by decide); omega)]
  have hk : pw n = ((2 ^ (32 - n).toNat : Nat) : Int) := pw_nat n
  have hk0 := Nat.pow_pos (n := (32 - n).toNat) (show 0 < 2 by decide)
  have hk1 := two_pow_le32 (32 - n).toNat (by omega)
  have : 4294967295 ^^^ (4294967296 - 2 ^ (32 - n).toNat) = 2 ^ (32 - n).toNat - 1 := by
    have hkk : (32 - n).toNat ≤ 32 := by omega
    generalize (32 - n).toNat = k at *
    have e : 4294967296 - 2 ^ k = (2 ^ (32 - k) - 1) * 2 ^ k := by
      rw [Nat.sub_mul, ← Nat.pow_add, show 32 - k + k = 32 by omega]; simp
    rw [e, show (4294967295 : Nat) = 2 ^ 32 - 1 by rfl]
    apply Nat.eq_of_testBit_eq
    intro j
    rw [Nat.testBit_xor, Nat.testBit_mul_two_pow, Nat.testBit_two_pow_sub_one, Nat.testBit_two_pow_sub_one, Nat.testBit_two_pow_sub_one]
    by_cases h1 : k ≤ j
    · by_cases h2 : j < 32
      · simp [h1, h2, show j - k < 32 - k by omega, show ¬ j < k by omega]
      · simp [h1, h2, show ¬ j - k < 32 - k by omega, show ¬ j < k by omega]
    · simp [h1, show j < 32 by omega, show j < k by omega]
  rw [this, hk]; omega
theorem or_join (i : Nat) (x y : Int) (hx0 : 0 ≤ x) (hx : x ≤ 4294967295) (hxm : x % 2 ^ i = 0) (hy0 : 0 ≤ y) (hy : y < 2 ^ i) (hy1 : y ≤ 4294967295) : bits .or .u32 x y = x + y := by
  rw [u32_or x y hx0 (by omega) hy0 (by omega)]
  obtain ⟨x, rfl⟩ := Int.eq_ofNat_of_zero_le hx0
  obtain ⟨y, rfl⟩ := Int.eq_ofNat_of_zero_le hy0
  rw [Int.toNat_natCast, Int.toNat_natCast, nat_join i x y (by exact_mod_cast hxm) (by exact_mod_cast hy)]
  simp
theorem or4 (p0 p1 p2 p3 : Int) (b0 : 0 ≤ p0 ∧ p0 ≤ 255) (b1 : 0 ≤ p1 ∧ p1 ≤ 255) (b2 : 0 ≤ p2 ∧ p2 ≤ 255) (b3 : 0 ≤ p3 ∧ p3 ≤ 255) :
    bits .or .u32 (bits .or .u32 (bits .or .u32 (p0 * 16777216) (p1 * 65536)) (p2 * 256)) p3 = p0 * 16777216 + p1 * 65536 + p2 * 256 + p3 := by
  rw [or_join 24 (p0 * 16777216) (p1 * 65536) (by omega) (by omega) (by simp) (by omega) (by simp; omega) (by omega)]
  rw [or_join 16 (p0 * 16777216 + p1 * 65536) (p2 * 256) (by omega) (by omega) (by simp; omega) (by omega) (by simp; omega) (by omega)]
  rw [or_join 8 (p0 * 16777216 + p1 * 65536 + p2 * 256) p3 (by omega) (by omega) (by simp; omega) (by omega) (by simp; omega) (by omega)]
theorem nat_or_low (a k : Nat) (h : a % 2 ^ k = 0) (y : Nat) (hy : y < 2 ^ k) : a ||| y = a + y := nat_join k a y h hy
end Go.Proofs.YtekhggaafeonjaaDoor
