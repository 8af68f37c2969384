/- lists of failure states -/
import Derived.Test.YtfanmniaolncbaaW10
import Derived.Test.YtfanmniaolncbaaGrpE
namespace Go.Proofs.Ytfanmniaolncbaa.V
open Go.RowKit Go.Proofs.Ytfanmniaolncbaa
set_option linter.unusedVariables false
set_option linter.unusedSimpArgs false
end Go.Proofs.Ytfanmniaolncbaa.V
