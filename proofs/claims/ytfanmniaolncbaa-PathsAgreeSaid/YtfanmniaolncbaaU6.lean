/- A drawn region whose store stands amid heads: addresses behind it that read heads are made in any order beside it. -/
import Derived.Test.YtfanmniaolncbaaU5
import Derived.Test.YtfanmniaolncbaaU3
set_option linter.unusedVariables false
set_option linter.unusedSimpArgs false
namespace Go.Proofs.Ytfanmniaolncbaa.V
open Go.RowKit
section
variable {P : Program} {Q : Exit → Act → World → Prop}
end
theorem cat_app : ∀ (V L : List (Nat × Value)), cat V L = V ++ L
  | [], _ => rfl
  | p :: r, L => by rw [cat, cat_app r L]; rfl
theorem look_none {d : Nat} : ∀ (A : List (Nat × Value)), (∀ p ∈ A, p.1 ≠ d) → look d A = none
  | [], _ => rfl
  | (i, v) :: r, h => by
    rw [look_cons, if_neg (h _ List.mem_cons_self)]
    exact look_none r fun p hp => h p (List.mem_cons_of_mem _ hp)
section
variable {P : Program} {F : Nat → Prop} {w0 : World} {m0 : List BS} {n : Nat} {L : List (Nat × Value)} {fs : List RF} {os : List OF} {ty : TypeId} {pos : String} {af : Array Edge} {Q : Exit → Act → World → Prop}
end
end Go.Proofs.Ytfanmniaolncbaa.V
