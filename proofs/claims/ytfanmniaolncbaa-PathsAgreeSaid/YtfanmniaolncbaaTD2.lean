/- Ranges. -/
import Derived.Test.YtfanmniaolncbaaU3
namespace Go.Proofs.Ytfanmniaolncbaa.V
open Go.RowKit
structure Rng where
  lo : Int
  hi : Int
def rngE : Enc Rng where
  n := 2
  cells x := [.int .u32 x.lo, .int .u32 x.hi]
  dflt := ⟨0, 0⟩
  wf D h x := inU32 x.lo ∧ inU32 x.hi
  len _ := rfl
  one x u hu := by simp only [List.mem_cons, List.not_mem_nil, or_false] at hu; rcases hu with rfl | rfl <;> rfl
  keep k h := ⟨h.1, h.2⟩
  mono k h := ⟨h.1, h.2⟩


end Go.Proofs.Ytfanmniaolncbaa.V
