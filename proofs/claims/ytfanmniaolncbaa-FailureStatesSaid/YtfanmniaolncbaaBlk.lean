/- Walk of prefix.Blocks. -/
import Derived.Test.YtfanmniaolncbaaApp
import Derived.Test.YtfanmniaolncbaaBlkM
set_option linter.unusedVariables false
set_option linter.unusedSimpArgs false
namespace Go.Proofs.Ytfanmniaolncbaa
open Go.RowKit
theorem u64_wrap (n : Int) (h0 : 0 ≤ n) (h1 : n ≤ 18446744073709551615) : IntKind.u64.wrap n = n := by simp [IntKind.wrap, IntKind.bits, IntKind.signed]; omega
theorem u32_wrap (n : Int) (h0 : 0 ≤ n) (h1 : n ≤ 4294967295) : IntKind.u32.wrap n = n := by simp [IntKind.wrap, IntKind.bits, IntKind.signed]; omega
end Go.Proofs.Ytfanmniaolncbaa
