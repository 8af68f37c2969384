/- A region that draws its order: reads and quiet calls first, then a few operations in one forced order (the stores of results, say): walked once, in the order of the text, over the class of later worlds. -/
import Derived.Test.YtfanmniaolncbaaLib
import Derived.StillTail
set_option linter.unusedVariables false
set_option linter.unusedSimpArgs false
namespace Go.Proofs.Ytfanmniaolncbaa
open Go.RowKit
section
variable {P : Program} {ops : Array Oper} {md : Region.Mode} {C : World → Prop}
end
end Go.Proofs.Ytfanmniaolncbaa
