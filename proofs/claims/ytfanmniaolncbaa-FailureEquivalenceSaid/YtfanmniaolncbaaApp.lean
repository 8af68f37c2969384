/- Append of one new element to a slice of the call's own: the kit's law, its side conditions paid once. -/
import Derived.Test.YtfanmniaolncbaaLib
set_option linter.unusedVariables false
set_option linter.unusedSimpArgs false
namespace Go.Proofs.Ytfanmniaolncbaa
open Go.RowKit
section
variable {P : Program}
end
end Go.Proofs.Ytfanmniaolncbaa
