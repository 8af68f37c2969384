/- Visits. -/
import Derived.Test.YtfanmniaolncbaaU3
namespace Go.Proofs.Ytfanmniaolncbaa.V
open Go.RowKit
structure Vis where
  dev : Int
  dist : Int
def visE : Enc Vis where
  n := 2
  cells x := [.int .i64 x.dev, .int .i64 x.dist]
  dflt := ⟨0, 0⟩
  wf D h x := inI64 x.dev ∧ inI64 x.dist
  len _ := rfl
  one x u hu := by simp only [List.mem_cons, List.not_mem_nil, or_false] at hu; rcases hu with rfl | rfl <;> rfl
  keep k h := ⟨h.1, h.2⟩
  mono k h := ⟨h.1, h.2⟩


end Go.Proofs.Ytfanmniaolncbaa.V
