/- Plain laws on the common prefix of two addresses: no program in sight. -/
import Derived.Test.YtekhggaafeonjaaDoorPreM
import Derived.Lib.BitFns
namespace Go.Proofs.YtekhggaafeonjaaDoor
def valB (a n : Int) : Bool := decide (0 ≤ n) && (decide (n ≤ 32) && (a % pw n == 0))
theorem valB_iff (a n : Int) : valB a n = true ↔ 0 ≤ n ∧ n ≤ 32 ∧ a % pw n = 0 := by simp [valB]
def contB (a n x : Int) : Bool := valB a n && (x / pw n * pw n == a)
def coverB (a n b m : Int) : Bool := valB b m && (decide (n ≤ m) && contB a n b)
def commN (a b : Int) : Int := 32 - (Lib.bitLen (bits .xor .u32 a b).toNat : Int)
theorem bitLen_spec : ∀ (k x : Nat), x < 2 ^ k → k ≤ 64 → x < 2 ^ Lib.bitLen x ∧ (x ≠ 0 → 1 ≤ Lib.bitLen x ∧ 2 ^ (Lib.bitLen x - 1) ≤ x)
  | 0, x, h, _ => by
    obtain rfl : x = 0 := by simpa using h
    exact ⟨by decide, fun h => absurd rfl h⟩
  | k + 1, x, h, hk => by
    by_cases h0 : x = 0
    · subst h0; exact ⟨by decide, fun h => absurd rfl h⟩
    · have h64 : x < 2 ^ 64 := Nat.lt_of_lt_of_le h (Nat.pow_le_pow_right (by decide) hk)
      have ih := bitLen_spec k (x / 2) (by rw [Nat.pow_succ] at h; omega) (by omega)
      rw [Lib.bitLen_half x h0 h64]
      refine ⟨?_, fun _ => ⟨by omega, ?_⟩⟩
      · rw [Nat.add_comm, Nat.pow_succ]; have := ih.1; omega
      · rw [show 1 + Lib.bitLen (x / 2) - 1 = Lib.bitLen (x / 2) by omega]
        by_cases h1 : x / 2 = 0
        · rw [h1]; show 2 ^ Lib.bitLen 0 ≤ x; rw [show Lib.bitLen 0 = 0 by decide]; omega
        · have ⟨g1, g2⟩ := ih.2 h1
          have e : 2 ^ Lib.bitLen (x / 2) = 2 * 2 ^ (Lib.bitLen (x / 2) - 1) := by
            rw [← Nat.pow_succ', show (Lib.bitLen (x / 2) - 1).succ = Lib.bitLen (x / 2) by omega]
          omega
theorem xor_div (a b k : Nat) (h : a ^^^ b < 2 ^ k) : a / 2 ^ k = b / 2 ^ k := by
  apply Nat.eq_of_testBit_eq
  intro j
  rw [Nat.testBit_div_two_pow, Nat.testBit_div_two_pow]
  have h1 : (a ^^^ b).testBit (k + j) = false := Nat.testBit_lt_two_pow (Nat.lt_of_lt_of_le h (Nat.pow_le_pow_right (by decide) (by omega)))
  rw [Nat.testBit_xor] at h1
  simpa [Nat.add_comm] using h1
theorem xor_div_ne (a b k : Nat) (h1 : 2 ^ k ≤ a ^^^ b) (h2 : a ^^^ b < 2 ^ (k + 1)) : a / 2 ^ k ≠ b / 2 ^ k := by
  intro e
  have h3 : (a ^^^ b).testBit k = true := Nat.testBit_of_two_pow_le_and_two_pow_add_one_gt h1 h2
  rw [Nat.testBit_xor] at h3
  have ha : a.testBit k = (a / 2 ^ k).testBit 0 := by rw [Nat.testBit_div_two_pow]; simp
  have hb : b.testBit k = (b / 2 ^ k).testBit 0 := by rw [Nat.testBit_div_two_pow]; simp
  rw [ha, hb, e] at h3
  simp at h3
theorem xor_facts (a b : Int) (ha0 : 0 ≤ a) (ha1 : a ≤ 4294967295) (hb0 : 0 ≤ b) (hb1 : b ≤ 4294967295) : bits .xor .u32 a b = ((a.toNat ^^^ b.toNat : Nat) : Int) ∧ a.toNat ^^^ b.toNat < 2 ^ 32 := by
  refine ⟨u32_xor a b ha0 (by omega) hb0 (by omega), Nat.xor_lt_two_pow (by omega) (by omega)⟩
theorem xor_bd (a b : Int) (ha0 : 0 ≤ a) (ha1 : a ≤ 4294967295) (hb0 : 0 ≤ b) (hb1 : b ≤ 4294967295) : 0 ≤ bits .xor .u32 a b ∧ bits .xor .u32 a b ≤ 4294967295 := by
  have ⟨e, h⟩ := xor_facts a b ha0 ha1 hb0 hb1
  rw [e]; simp at h; omega
theorem commN_comm (a b : Int) (ha0 : 0 ≤ a) (ha1 : a ≤ 4294967295) (hb0 : 0 ≤ b) (hb1 : b ≤ 4294967295) : commN b a = commN a b := by
  unfold commN
  rw [(xor_facts a b ha0 ha1 hb0 hb1).1, (xor_facts b a hb0 hb1 ha0 ha1).1, Nat.xor_comm]
theorem commN_bd (a b : Int) (ha0 : 0 ≤ a) (ha1 : a ≤ 4294967295) (hb0 : 0 ≤ b) (hb1 : b ≤ 4294967295) : 0 ≤ commN a b ∧ commN a b ≤ 32 := by
  unfold commN
  have ⟨e, h⟩ := xor_facts a b ha0 ha1 hb0 hb1
  have := Lib.bitLen_le (bits .xor .u32 a b).toNat 32 (by decide) (by rw [e]; exact h)
  omega
theorem commN_div (a b : Int) (ha0 : 0 ≤ a) (ha1 : a ≤ 4294967295) (hb0 : 0 ≤ b) (hb1 : b ≤ 4294967295) : a / pw (commN a b) = b / pw (commN a b) := by
  have ⟨e, h⟩ := xor_facts a b ha0 ha1 hb0 hb1
  have hs := (bitLen_spec 32 _ h (by decide)).1
  have hp : pw (commN a b) = ((2 ^ Lib.bitLen (a.toNat ^^^ b.toNat) : Nat) : Int) := by
    rw [pw_nat]; unfold commN; rw [e, Int.toNat_natCast]
    rw [show (32 - (32 - (Lib.bitLen (a.toNat ^^^ b.toNat) : Int))).toNat = Lib.bitLen (a.toNat ^^^ b.toNat) by omega]
  rw [hp]
  obtain ⟨x, rfl⟩ := Int.eq_ofNat_of_zero_le ha0
  obtain ⟨y, rfl⟩ := Int.eq_ofNat_of_zero_le hb0
  rw [Int.toNat_natCast, Int.toNat_natCast] at *
  exact_mod_cast xor_div x y _ hs
theorem commN_ne (a b : Int) (ha0 : 0 ≤ a) (ha1 : a ≤ 4294967295) (hb0 : 0 ≤ b) (hb1 : b ≤ 4294967295) (hn : commN a b ≤ 31) : a / pw (commN a b + 1) ≠ b / pw (commN a b + 1) := by
  have ⟨e, h⟩ := xor_facts a b ha0 ha1 hb0 hb1
  have hs := bitLen_spec 32 _ h (by decide)
  have hne : a.toNat ^^^ b.toNat ≠ 0 := by
    intro h0
    unfold commN at hn; rw [e, Int.toNat_natCast, h0, show Lib.bitLen 0 = 0 by decide] at hn
    omega
  have hs2 := hs.2 hne
  have hp : pw (commN a b + 1) = ((2 ^ (Lib.bitLen (a.toNat ^^^ b.toNat) - 1) : Nat) : Int) := by
    rw [pw_nat]; unfold commN; rw [e, Int.toNat_natCast]
    rw [show (32 - (32 - (Lib.bitLen (a.toNat ^^^ b.toNat) : Int) + 1)).toNat = Lib.bitLen (a.toNat ^^^ b.toNat) - 1 by omega]
  rw [hp]
  obtain ⟨x, rfl⟩ := Int.eq_ofNat_of_zero_le ha0
  obtain ⟨y, rfl⟩ := Int.eq_ofNat_of_zero_le hb0
  rw [Int.toNat_natCast, Int.toNat_natCast] at *
  intro h3
  refine xor_div_ne x y (Lib.bitLen (x ^^^ y) - 1) hs2.2 ?_ (by exact_mod_cast h3)
  rw [show Lib.bitLen (x ^^^ y) - 1 + 1 = Lib.bitLen (x ^^^ y) by omega]; exact hs.1
theorem commN_eq (a b : Int) (ha0 : 0 ≤ a) (ha1 : a ≤ 4294967295) (hb0 : 0 ≤ b) (hb1 : b ≤ 4294967295) : commN a b = 32 ↔ a = b := by
  constructor
  · intro h
    have := commN_div a b ha0 ha1 hb0 hb1
    rw [h, pw_32] at this; simpa using this
  · intro h
    subst h
    unfold commN
    rw [(xor_facts a a ha0 ha1 ha0 ha1).1, Nat.xor_self]; decide
theorem keep_mod (a n : Int) : (a / pw n * pw n) % pw n = 0 := by simp
theorem keep_bd (a n : Int) (ha0 : 0 ≤ a) : 0 ≤ a / pw n * pw n ∧ a / pw n * pw n ≤ a := by
  have hp := pw_pos n
  have h1 := Int.ediv_mul_le a (show pw n ≠ 0 by omega)
  exact ⟨Int.mul_nonneg (Int.ediv_nonneg ha0 (by omega)) (by omega), h1⟩
theorem keep_keep (a n : Int) : (a / pw n * pw n) / pw n = a / pw n := Int.mul_ediv_cancel _ (by have := pw_pos n; omega)
theorem cont_keep (a b n : Int) (h0 : 0 ≤ n) (h1 : n ≤ 32) (h : a / pw n = b / pw n) : contB (a / pw n * pw n) n b = true := by
  have : valB (a / pw n * pw n) n = true := (valB_iff _ _).2 ⟨h0, h1, keep_mod a n⟩
  rw [contB, this, h]; simp
theorem contB_mul (m x k : Int) (h0 : 0 ≤ k) (h1 : k ≤ 32) : contB (m * pw k) k x = decide (x / pw k = m) := by
  have hp := pw_pos k
  have hv : valB (m * pw k) k = true := (valB_iff _ _).2 ⟨h0, h1, by simp⟩
  rw [contB, hv, Bool.true_and]
  by_cases h : x / pw k = m
  · rw [h]; simp
  · have : ¬ x / pw k * pw k = m * pw k := fun e => h (Int.eq_of_mul_eq_mul_right (by omega) e)
    simp [h, this]
/-- the two halves of a prefix tell two addresses apart that part just there -/
theorem halves_apart (a b n : Int) (h0 : 0 ≤ n) (h1 : n ≤ 31) (he : a / pw n = b / pw n) (hne : a / pw (n + 1) ≠ b / pw (n + 1)) :
    ∃ c : Bool, contB (a / pw n * pw n) (n + 1) a = c ∧ contB (a / pw n * pw n) (n + 1) b = (!c) ∧ contB (a / pw n * pw n + pw (n + 1)) (n + 1) a = (!c) ∧ contB (a / pw n * pw n + pw (n + 1)) (n + 1) b = c := by
  have hs := pw_succ n h1
  have hp := pw_pos (n + 1)
  have key : ∀ x, x / pw n = a / pw n → x / pw (n + 1) = 2 * (a / pw n) ∨ x / pw (n + 1) = 2 * (a / pw n) + 1 := fun x hx => by
    have e : x / pw n = x / pw (n + 1) / 2 := by rw [hs, Int.mul_comm, Int.ediv_ediv_of_nonneg (by omega)]
    rw [hx] at e
    omega
  have hQ : a / pw n * pw n = 2 * (a / pw n) * pw (n + 1) := by
    have : ∀ q p : Int, q * (2 * p) = 2 * q * p := fun q p => by rw [← Int.mul_assoc, Int.mul_comm q 2]
    conv => lhs; rhs; rw [hs]
    exact this _ _
  have hQ1 : a / pw n * pw n + pw (n + 1) = (2 * (a / pw n) + 1) * pw (n + 1) := by rw [hQ, Int.add_mul, Int.one_mul]
  rw [hQ1, hQ]
  simp only [contB_mul _ _ _ (show 0 ≤ n + 1 by omega) (show n + 1 ≤ 32 by omega)]
  have ka := key a rfl
  have kb := key b he.symm
  generalize a / pw n = q at *
  generalize a / pw (n + 1) = qa at *
  generalize b / pw (n + 1) = qb at *
  refine ⟨decide (qa = 2 * q), rfl, ?_, ?_, ?_⟩
  · rw [Bool.eq_iff_iff]; simp; omega
  · rw [Bool.eq_iff_iff]; simp; omega
  · rw [Bool.eq_iff_iff]; simp; omega
end Go.Proofs.YtekhggaafeonjaaDoor
