/- Plain laws: two valid prefixes are nested or apart; the halves divide. -/
import Derived.Test.YtekhggaafeonjaaDoorRef1
namespace Go.Proofs.YtekhggaafeonjaaDoor
theorem pw_split (n m : Int) (h : n ≤ m) (h1 : m ≤ 32) : pw n = pw m * ((2 ^ (m - n).toNat : Nat) : Int) := by
  rw [pw_nat n, pw_nat m, ← Int.natCast_mul, ← Nat.pow_add]
  congr 2
  omega
theorem div_keep (x n m : Int) (h : n ≤ m) (h1 : m ≤ 32) : (x / pw m * pw m) / pw n = x / pw n := by
  have hs := pw_split n m h h1
  have hp := pw_pos m
  rw [hs, ← Int.ediv_ediv_of_nonneg (by omega), ← Int.ediv_ediv_of_nonneg (by omega), Int.mul_ediv_cancel _ (by omega)]
theorem contB_iff (a n x : Int) (hv : valB a n = true) : contB a n x = true ↔ x / pw n * pw n = a := by
  rw [contB, hv]; simp
theorem nest_or (a n b m x : Int) (hv : valB a n = true) (hw : valB b m = true) (h1 : contB a n x = true) (h2 : contB b m x = true) : coverB a n b m = true ∨ coverB b m a n = true := by
  have e1 := (contB_iff a n x hv).1 h1
  have e2 := (contB_iff b m x hw).1 h2
  have b1 := (valB_iff a n).1 hv
  have b2 := (valB_iff b m).1 hw
  rcases Int.le_total n m with h | h
  · refine .inl ?_
    rw [coverB, hw]
    have : contB a n b = true := (contB_iff a n b hv).2 (by rw [← e2, div_keep x n m h b2.2.1]; exact e1)
    simp [h, this]
  · refine .inr ?_
    rw [coverB, hv]
    have : contB b m a = true := (contB_iff b m a hw).2 (by rw [← e1, div_keep x m n h b1.2.1]; exact e2)
    simp [h, this]
theorem nest_eq (a n b m : Int) (hv : valB a n = true) (hw : valB b m = true) (h1 : coverB a n b m = true) (h2 : coverB b m a n = true) : a = b ∧ n = m := by
  simp [coverB] at h1 h2
  obtain rfl : n = m := by omega
  have e1 := (contB_iff a n b hv).1 h1.2.2
  have b2 := (valB_iff b n).1 hw
  refine ⟨?_, rfl⟩
  rw [← e1]
  exact Int.ediv_mul_cancel (Int.dvd_of_emod_eq_zero b2.2.2)
theorem halves_cut (a n x : Int) (hv : valB a n = true) (hn : n ≤ 31) :
    (contB a (n + 1) x || contB (a + pw (n + 1)) (n + 1) x) = contB a n x ∧ (contB a (n + 1) x && contB (a + pw (n + 1)) (n + 1) x) = false := by
  obtain ⟨h0, h1, h2⟩ := (valB_iff a n).1 hv
  have hs := pw_succ n hn
  have hp := pw_pos (n + 1)
  obtain ⟨m, rfl⟩ : ∃ m, a = m * pw n := ⟨a / pw n, by rw [Int.ediv_mul_cancel (Int.dvd_of_emod_eq_zero h2)]⟩
  have ea : m * pw n = (2 * m) * pw (n + 1) := by rw [hs, Int.mul_comm 2 m, Int.mul_assoc]
  have eb : m * pw n + pw (n + 1) = (2 * m + 1) * pw (n + 1) := by rw [ea, Int.add_mul, Int.one_mul]
  have hd : x / pw n = x / pw (n + 1) / 2 := by rw [hs, Int.mul_comm, Int.ediv_ediv_of_nonneg (by omega)]
  rw [contB_mul m x n h0 h1, eb, ea, contB_mul (2 * m) x (n + 1) (by omega) (by omega), contB_mul (2 * m + 1) x (n + 1) (by omega) (by omega), hd]
  refine ⟨?_, ?_⟩
  · rw [Bool.eq_iff_iff]; simp; omega
  · simp; omega
theorem half_val (a n : Int) (hv : valB a n = true) (hn : n ≤ 31) (ha0 : 0 ≤ a) (ha1 : a ≤ 4294967295) : 0 ≤ a + pw (n + 1) ∧ a + pw (n + 1) ≤ 4294967295 := by
  obtain ⟨h0, h1, h2⟩ := (valB_iff a n).1 hv
  have hs := pw_succ n hn
  have hp := pw_pos (n + 1)
  have := upper_le a n ha1 h0 h2 ha0 h1
  omega
end Go.Proofs.YtekhggaafeonjaaDoor
