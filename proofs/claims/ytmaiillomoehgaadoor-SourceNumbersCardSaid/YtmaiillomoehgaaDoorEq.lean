/- The two Bool spellings of a test on numbers. -/
import Derived.Test.YtmaiillomoehgaaDoorLib
namespace Go.Proofs.YtmaiillomoehgaaDoor
theorem neqB {a : Int} (b : Int) (h : a ≠ b) : (a != b) = true ∧ (a == b) = false := ⟨by rw [bne_iff_ne]; exact h, beq_eq_false_iff_ne.2 h⟩
theorem eqB {a : Int} (b : Int) (h : a = b) : (a != b) = false ∧ (a == b) = true := by
  subst h; simp
end Go.Proofs.YtmaiillomoehgaaDoor
