/- Plain laws on the common prefix of two addresses: no program in sight. -/
import Derived.Test.YtfanmniaolncbaaPreM
import Derived.Lib.BitFns
set_option linter.unusedVariables false
set_option linter.unusedSimpArgs false
namespace Go.Proofs.Ytfanmniaolncbaa
def valB (a n : Int) : Bool := decide (0 ≤ n) && (decide (n ≤ 32) && (a % pw n == 0))
theorem valB_iff (a n : Int) : valB a n = true ↔ 0 ≤ n ∧ n ≤ 32 ∧ a % pw n = 0 := by simp [valB]
def contB (a n x : Int) : Bool := valB a n && (x / pw n * pw n == a)
def coverB (a n b m : Int) : Bool := valB b m && (decide (n ≤ m) && contB a n b)
theorem contB_mul (m x k : Int) (h0 : 0 ≤ k) (h1 : k ≤ 32) : contB (m * pw k) k x = decide (x / pw k = m) := by
  have hp := pw_pos k
  have hv : valB (m * pw k) k = true := (valB_iff _ _).2 ⟨h0, h1, by simp⟩
  rw [contB, hv, Bool.true_and]
  by_cases h : x / pw k = m
  · rw [h]; simp
  · have : ¬ x / pw k * pw k = m * pw k := fun e => h (Int.eq_of_mul_eq_mul_right (by omega) e)
    simp [h, this]
end Go.Proofs.Ytfanmniaolncbaa
