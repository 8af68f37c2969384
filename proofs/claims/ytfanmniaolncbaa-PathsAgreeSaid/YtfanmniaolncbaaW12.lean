/- the tolerated failure states -/
import Derived.Test.YtfanmniaolncbaaW11
namespace Go.Proofs.Ytfanmniaolncbaa.V
open Go.RowKit Go.Proofs.Ytfanmniaolncbaa
set_option linter.unusedVariables false
set_option linter.unusedSimpArgs false
end Go.Proofs.Ytfanmniaolncbaa.V
