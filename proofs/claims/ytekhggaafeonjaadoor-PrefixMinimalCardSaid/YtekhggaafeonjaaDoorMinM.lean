/- Plain laws: the blocks of a range are maximal, follow one another, and are at most 64. -/
import Derived.Test.YtekhggaafeonjaaDoorBlkM
namespace Go.Proofs.YtekhggaafeonjaaDoor
/-- bsz is a power of two, and the greatest that fits -/
theorem bsz_form (k : Nat) (lo rem : Int) (hr : 1 ≤ rem) : ∃ j, j ≤ k ∧ bsz k lo rem = 2 ^ j ∧ lo % 2 ^ j = 0 ∧ 2 ^ j ≤ rem ∧ ∀ i, j < i → i ≤ k → ¬ (lo % 2 ^ i = 0 ∧ 2 ^ i ≤ rem) := by
  induction k with
  | zero => exact ⟨0, Nat.le_refl _, by simp [bsz], by simp, by simpa using hr, fun i h1 h2 => by omega⟩
  | succ k ih =>
    by_cases h : lo % 2 ^ (k + 1) = 0 ∧ 2 ^ (k + 1) ≤ rem
    · exact ⟨k + 1, Nat.le_refl _, by rw [bsz, if_pos h], h.1, h.2, fun i h1 h2 => by omega⟩
    · obtain ⟨j, h1, h2, h3, h4, h5⟩ := ih
      refine ⟨j, by omega, by rw [bsz, if_neg h]; exact h2, h3, h4, fun i g1 g2 => ?_⟩
      by_cases e : i = k + 1
      · subst e; exact h
      · exact h5 i g1 (by omega)
theorem bsz_exact (k : Nat) (lo rem : Int) (j : Nat) (hj : j ≤ k) (h1 : lo % 2 ^ j = 0) (h2 : 2 ^ j ≤ rem) (h3 : ∀ i, j < i → i ≤ k → ¬ (lo % 2 ^ i = 0 ∧ 2 ^ i ≤ rem)) : bsz k lo rem = 2 ^ j := by
  induction k with
  | zero => obtain rfl : j = 0 := by omega
            simp [bsz]
  | succ k ih =>
    by_cases e : j = k + 1
    · subst e; exact bsz_hit _ _ _ h1 h2
    · rw [bsz_miss k lo rem (h3 (k + 1) (by omega) (Nat.le_refl _))]
      exact ih (by omega) fun i g1 g2 => h3 i g1 (by omega)
theorem pow_mod_of_le {i j : Nat} (h : i ≤ j) {x : Int} (hx : x % 2 ^ j = 0) : x % 2 ^ i = 0 := by
  obtain ⟨d, rfl⟩ := Nat.exists_eq_add_of_le h
  rw [Int.pow_add] at hx
  have h1 := Int.emod_emod_of_dvd x (Int.dvd_mul_right (2 ^ i) (2 ^ d))
  rw [hx] at h1; simpa using h1.symm
theorem pow_lt_mono {i j : Nat} (h : i ≤ j) : (2 : Int) ^ i ≤ 2 ^ j := by
  have := Nat.pow_le_pow_right (show 0 < 2 by decide) h
  have e : ∀ k, (2 : Int) ^ k = ((2 ^ k : Nat) : Int) := fun k => by simp
  rw [e, e]; omega
/-- no two neighbours of one size form a larger block -/
theorem bsz_apart (k : Nat) (p e n : Int) (hk : e ≤ 2 ^ k) (hp : 0 ≤ p) (hn : bsz k p (e - p) = n) (hpe : p < e) (h2 : n ≤ e - (p + n)) : ¬ p % (2 * n) = 0 := by
  intro hm
  obtain ⟨j, h1, h2', h3, h4, h5⟩ := bsz_form k p (e - p) (by omega)
  rw [hn] at h2'
  subst h2'
  have e1 : (2 : Int) * 2 ^ j = 2 ^ (j + 1) := by rw [Int.pow_succ]; omega
  rw [e1] at hm
  have hle : (2 : Int) ^ (j + 1) ≤ e - p := by rw [← e1]; omega
  by_cases hjk : j + 1 ≤ k
  · exact h5 (j + 1) (by omega) hjk ⟨hm, hle⟩
  · have := pow_lt_mono (show k + 1 ≤ j + 1 by omega)
    have e2 : (2 : Int) ^ (k + 1) = 2 * 2 ^ k := by rw [Int.pow_succ]; omega
    have := two_pos k
    omega
theorem pblk_cons (wd : Nat) (lo e : Int) (h : lo < e) : ∃ t, pblk wd (e - lo).toNat lo e = (lo, lo + bsz wd lo (e - lo) - 1) :: t ∧ t = pblk wd (e - (lo + bsz wd lo (e - lo))).toNat (lo + bsz wd lo (e - lo)) e := ⟨_, pblk_step wd lo e h, rfl⟩
theorem len_down (k : Nat) (hk : k ≤ 32) : ∀ (cur e : Int), 0 ≤ cur → cur ≤ e → e - cur < 2 ^ k → cur % 2 ^ k = 0 → (pblk 32 (e - cur).toNat cur e).length ≤ k := by
  induction k with
  | zero =>
    intro cur e _ h1 h2 _
    have : cur = e := by simp at h2; omega
    subst this; rw [pblk_end]; simp
  | succ k ih =>
    intro cur e h0 h1 h2 h3
    have h3' := pow_mod_of_le (show k ≤ k + 1 by omega) h3
    by_cases h4 : e - cur < 2 ^ k
    · have := ih (by omega) cur e h0 h1 h4 h3'; omega
    · have hp := two_pos k
      have e2 : (2 : Int) ^ (k + 1) = 2 * 2 ^ k := by rw [Int.pow_succ]; omega
      have hb : bsz 32 cur (e - cur) = 2 ^ k := bsz_exact 32 cur _ k (by omega) h3' (by omega) fun i g1 _ g3 => by
        have := pow_lt_mono (show k + 1 ≤ i by omega); omega
      rw [pblk_step 32 cur e (by omega), hb, List.length_cons]
      have := ih (by omega) (cur + 2 ^ k) e (by omega) (by omega) (by omega) (by simpa using h3')
      omega
theorem len_up (d : Nat) (hd : d ≤ 32) : ∀ (cur e : Int), 0 ≤ cur → cur ≤ e → e ≤ 4294967296 → cur % 2 ^ (32 - d) = 0 → (pblk 32 (e - cur).toNat cur e).length ≤ 32 + d := by
  induction d with
  | zero =>
    intro cur e h0 h1 h2 h3
    have e32 : (2 : Int) ^ 32 = 4294967296 := by decide
    by_cases h4 : e - cur < 2 ^ 32
    · have := len_down 32 (by omega) cur e h0 h1 h4 h3; omega
    · have hc : cur = 0 := by omega
      have he : e = 4294967296 := by omega
      subst hc; subst he
      rw [pblk_step 32 0 4294967296 (by decide)]
      have hb : bsz 32 0 (4294967296 - 0) = 2 ^ 32 := bsz_hit _ _ _ (by decide) (by decide)
      rw [hb]
      rw [show (0 : Int) + 2 ^ 32 = 4294967296 by decide, pblk_end]; simp
  | succ d ih =>
    intro cur e h0 h1 h2 h3
    have hp := two_pos (32 - (d + 1))
    by_cases h4 : e - cur < 2 ^ (32 - (d + 1))
    · have := len_down (32 - (d + 1)) (by omega) cur e h0 h1 h4 h3; omega
    · have hs : 32 - d = 32 - (d + 1) + 1 := by omega
      by_cases h5 : cur % 2 ^ (32 - d) = 0
      · have := ih (by omega) cur e h0 h1 h2 h5; omega
      · have hb : bsz 32 cur (e - cur) = 2 ^ (32 - (d + 1)) := bsz_exact 32 cur _ _ (by omega) h3 (by omega) fun i g1 _ g3 => h5 (pow_mod_of_le (by omega) g3.1)
        rw [pblk_step 32 cur e (by omega), hb, List.length_cons]
        have hm : (cur + 2 ^ (32 - (d + 1))) % 2 ^ (32 - d) = 0 := by
          have e2 : (2 : Int) ^ (32 - d) = 2 * 2 ^ (32 - (d + 1)) := by rw [hs, Int.pow_succ]; omega
          rw [e2] at h5 ⊢
          generalize (2 : Int) ^ (32 - (d + 1)) = q at *
          obtain ⟨c, hc⟩ := Int.dvd_of_emod_eq_zero h3
          subst hc
          have hodd : c % 2 = 1 := by
            rcases Int.emod_two_eq c with h | h
            · exfalso; apply h5
              obtain ⟨c2, hc2⟩ := Int.dvd_of_emod_eq_zero h
              subst hc2
              rw [show q * (2 * c2) = 2 * q * c2 by rw [← Int.mul_assoc, Int.mul_comm q 2]]
              simp
            · exact h
          obtain ⟨c2, hc2⟩ : ∃ c2, c + 1 = 2 * c2 := ⟨(c + 1) / 2, by omega⟩
          have : q * c + q = 2 * q * c2 := by
            have e3 : q * c + q = q * (c + 1) := by rw [Int.mul_add, Int.mul_one]
            rw [e3, hc2, ← Int.mul_assoc, Int.mul_comm q 2]
          rw [this]; simp
        have := ih (by omega) (cur + 2 ^ (32 - (d + 1))) e (by omega) (by omega) h2 hm
        omega
theorem blocks_len (lo e : Int) (h0 : 0 ≤ lo) (h1 : lo ≤ e) (h2 : e ≤ 4294967296) : (pblk 32 (e - lo).toNat lo e).length ≤ 64 :=
  len_up 32 (by omega) lo e h0 h1 h2 (by simp)
theorem nat_pow_and (j : Nat) : 2 ^ j &&& (2 ^ j - 1) = 0 := by rw [Nat.and_two_pow_sub_one_eq_mod]; simp
theorem pow_and (j : Nat) (hj : j ≤ 32) : bits .and .u64 (2 ^ j) (2 ^ j - 1) = 0 := by
  have h1 := two_pos j
  have h2 := two_le j hj
  rw [u64_and _ _ (by omega) (by omega) (by omega) (by omega)]
  have e1 : ((2 : Int) ^ j).toNat = 2 ^ j := by
    have : (2 : Int) ^ j = ((2 ^ j : Nat) : Int) := by simp
    rw [this, Int.toNat_natCast]
  rw [show ((2 : Int) ^ j - 1).toNat = 2 ^ j - 1 by omega, e1, nat_pow_and]; rfl
end Go.Proofs.YtekhggaafeonjaaDoor
