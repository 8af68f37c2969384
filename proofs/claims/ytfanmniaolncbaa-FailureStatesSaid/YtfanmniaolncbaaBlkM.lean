/- Plain laws on blocks of ranges: no program in sight. -/
import Derived.Test.YtfanmniaolncbaaPreM
set_option linter.unusedVariables false
set_option linter.unusedSimpArgs false
namespace Go.Proofs.Ytfanmniaolncbaa
theorem two_pos (k : Nat) : (1 : Int) ≤ 2 ^ k := by have := Nat.pow_pos (n := k) (show 0 < 2 by decide); exact_mod_cast this
end Go.Proofs.Ytfanmniaolncbaa
