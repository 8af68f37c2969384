/- components: the program -/
import Derived.Test.YtfanmniaolncbaaW7
namespace Go.Proofs.Ytfanmniaolncbaa.V
open Go.RowKit Go.Proofs.Ytfanmniaolncbaa
set_option linter.unusedVariables false
set_option linter.unusedSimpArgs false
end Go.Proofs.Ytfanmniaolncbaa.V
