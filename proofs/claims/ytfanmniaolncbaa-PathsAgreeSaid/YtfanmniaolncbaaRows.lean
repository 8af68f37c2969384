/-
  No cell of these rows narrows 'for every input' (looked for: loops, veiled, ifaces, maps, wideKeys, modest, calm, conditions, laid).
  DERIVED. THE GIVEN ROWS OF THIS SEAT. 11 by the template 'for every input the law returns true; each argument reads behind the call as it read before'; 0 by the template 'total and deterministic' (their statements: YtfanmniaolncbaaTotals.lean).
  GIVEN WITH THE SEED: the statements are not yours to turn. If you find one false, say at which input.
  Laid BY PROGRAM, IN A SANDBOX (cutbox-rows.mjs): the forced cells as the released guide's own fill.sh prints them over the translation c45d261d62acd273… (all of the seat's roots in one cut). By AI agents, Wed Nov 11 2026. No macro, syntax, notation, axiom, sorry.
-/
import Derived.Test.YtfanmniaolncbaaChecked
import GoSem.Claim
import GoSem.ClaimJoined
import GoSem.ClaimMapViews
import Derived.JoinedTies
import Derived.KernelRfl
namespace Go.Proofs.Ytfanmniaolncbaa
/- THE CELL 'sum', in the pinned program and in every row, IS THE sha256 OF THE DUMP (.gsa) THAT YtfanmniaolncbaaProg.lean LOADS. Nothing in Lean hashes anything: it is a label: what it is worth is what the hold of that sum in a sandbox is worth. -/
noncomputable def Try.pinned : Pinned := { name := "ytfanmniaolncbaa", sum := "c45d261d62acd27369da6f75d9a7798f6952a139cb31e9b6e0c64cdf9935e0bb", checked := Try.checked }
namespace Rows
def none {H : Type} : Left H := { results := [], args := [] }

/-- 'nsglaw13.FailureAll': WHATEVER THE INPUT: true; the input reads as it did. -/
def failureAllSpec : ChangeSpec := { name := "failureAll", fn := fun _ => fun
  | [d1, d2] => { results := [.lit (.bool true)], args := [d1, d2] }
  | _ => none }
def failureAllRow : OpenClaim := { program := "ytfanmniaolncbaa", sum := "c45d261d62acd27369da6f75d9a7798f6952a139cb31e9b6e0c64cdf9935e0bb", func := "netsegment/nsglaw13.FailureAll", spec := "failureAll", unfollowed := true, recurses := true, apart := false }
def FailureAllSaid : Prop := failureAllRow.holds Try.pinned (OpenSpec.ofChange failureAllSpec)

/-- ITS FALSE NEIGHBOUR: 'it returns false'. Refute it at one input. -/
def failureAllWrong : ChangeSpec := { name := "failureAll", fn := fun _ => fun
  | [d1, d2] => { results := [.lit (.bool false)], args := [d1, d2] }
  | _ => none }
def FailureAllWrongFalsely : Prop := failureAllRow.holds Try.pinned (OpenSpec.ofChange failureAllWrong)

/-- 'nsglaw13.FailureStates': WHATEVER THE INPUT: true; the input reads as it did. -/
def failureStatesSpec : ChangeSpec := { name := "failureStates", fn := fun _ => fun
  | [d] => { results := [.lit (.bool true)], args := [d] }
  | _ => none }
def failureStatesRow : OpenClaim := { program := "ytfanmniaolncbaa", sum := "c45d261d62acd27369da6f75d9a7798f6952a139cb31e9b6e0c64cdf9935e0bb", func := "netsegment/nsglaw13.FailureStates", spec := "failureStates", unfollowed := true, recurses := true, apart := false }
def FailureStatesSaid : Prop := failureStatesRow.holds Try.pinned (OpenSpec.ofChange failureStatesSpec)

/-- ITS FALSE NEIGHBOUR: 'it returns false'. Refute it at one input. -/
def failureStatesWrong : ChangeSpec := { name := "failureStates", fn := fun _ => fun
  | [d] => { results := [.lit (.bool false)], args := [d] }
  | _ => none }
def FailureStatesWrongFalsely : Prop := failureStatesRow.holds Try.pinned (OpenSpec.ofChange failureStatesWrong)

/-- 'nsglaw13.FailureMonotone': WHATEVER THE INPUT: true; the input reads as it did. -/
def failureMonotoneSpec : ChangeSpec := { name := "failureMonotone", fn := fun _ => fun
  | [d] => { results := [.lit (.bool true)], args := [d] }
  | _ => none }
def failureMonotoneRow : OpenClaim := { program := "ytfanmniaolncbaa", sum := "c45d261d62acd27369da6f75d9a7798f6952a139cb31e9b6e0c64cdf9935e0bb", func := "netsegment/nsglaw13.FailureMonotone", spec := "failureMonotone", unfollowed := true, recurses := true, apart := false }
def FailureMonotoneSaid : Prop := failureMonotoneRow.holds Try.pinned (OpenSpec.ofChange failureMonotoneSpec)

/-- ITS FALSE NEIGHBOUR: 'it returns false'. Refute it at one input. -/
def failureMonotoneWrong : ChangeSpec := { name := "failureMonotone", fn := fun _ => fun
  | [d] => { results := [.lit (.bool false)], args := [d] }
  | _ => none }
def FailureMonotoneWrongFalsely : Prop := failureMonotoneRow.holds Try.pinned (OpenSpec.ofChange failureMonotoneWrong)

/-- 'nsglaw13.FailureReads': WHATEVER THE INPUT: true; the input reads as it did. -/
def failureReadsSpec : ChangeSpec := { name := "failureReads", fn := fun _ => fun
  | [d1, d2, d3, d4, d5] => { results := [.lit (.bool true)], args := [d1, d2, d3, d4, d5] }
  | _ => none }
def failureReadsRow : OpenClaim := { program := "ytfanmniaolncbaa", sum := "c45d261d62acd27369da6f75d9a7798f6952a139cb31e9b6e0c64cdf9935e0bb", func := "netsegment/nsglaw13.FailureReads", spec := "failureReads", unfollowed := true, recurses := true, apart := false }
def FailureReadsSaid : Prop := failureReadsRow.holds Try.pinned (OpenSpec.ofChange failureReadsSpec)

/-- ITS FALSE NEIGHBOUR: 'it returns false'. Refute it at one input. -/
def failureReadsWrong : ChangeSpec := { name := "failureReads", fn := fun _ => fun
  | [d1, d2, d3, d4, d5] => { results := [.lit (.bool false)], args := [d1, d2, d3, d4, d5] }
  | _ => none }
def FailureReadsWrongFalsely : Prop := failureReadsRow.holds Try.pinned (OpenSpec.ofChange failureReadsWrong)

/-- 'nsglaw13.FailureEquivalence': WHATEVER THE INPUT: true; the input reads as it did. -/
def failureEquivalenceSpec : ChangeSpec := { name := "failureEquivalence", fn := fun _ => fun
  | [d] => { results := [.lit (.bool true)], args := [d] }
  | _ => none }
def failureEquivalenceRow : OpenClaim := { program := "ytfanmniaolncbaa", sum := "c45d261d62acd27369da6f75d9a7798f6952a139cb31e9b6e0c64cdf9935e0bb", func := "netsegment/nsglaw13.FailureEquivalence", spec := "failureEquivalence", unfollowed := true, recurses := true, apart := false }
def FailureEquivalenceSaid : Prop := failureEquivalenceRow.holds Try.pinned (OpenSpec.ofChange failureEquivalenceSpec)

/-- ITS FALSE NEIGHBOUR: 'it returns false'. Refute it at one input. -/
def failureEquivalenceWrong : ChangeSpec := { name := "failureEquivalence", fn := fun _ => fun
  | [d] => { results := [.lit (.bool false)], args := [d] }
  | _ => none }
def FailureEquivalenceWrongFalsely : Prop := failureEquivalenceRow.holds Try.pinned (OpenSpec.ofChange failureEquivalenceWrong)

/-- 'nsglaw13.FailureBridges': WHATEVER THE INPUT: true; the input reads as it did. -/
def failureBridgesSpec : ChangeSpec := { name := "failureBridges", fn := fun _ => fun
  | [d] => { results := [.lit (.bool true)], args := [d] }
  | _ => none }
def failureBridgesRow : OpenClaim := { program := "ytfanmniaolncbaa", sum := "c45d261d62acd27369da6f75d9a7798f6952a139cb31e9b6e0c64cdf9935e0bb", func := "netsegment/nsglaw13.FailureBridges", spec := "failureBridges", unfollowed := true, recurses := true, apart := false }
def FailureBridgesSaid : Prop := failureBridgesRow.holds Try.pinned (OpenSpec.ofChange failureBridgesSpec)

/-- ITS FALSE NEIGHBOUR: 'it returns false'. Refute it at one input. -/
def failureBridgesWrong : ChangeSpec := { name := "failureBridges", fn := fun _ => fun
  | [d] => { results := [.lit (.bool false)], args := [d] }
  | _ => none }
def FailureBridgesWrongFalsely : Prop := failureBridgesRow.holds Try.pinned (OpenSpec.ofChange failureBridgesWrong)

/-- 'nsglaw14.PathsAgree': WHATEVER THE INPUT: true; the input reads as it did. -/
def pathsAgreeSpec : ChangeSpec := { name := "pathsAgree", fn := fun _ => fun
  | [d1, d2, d3, d4, d5] => { results := [.lit (.bool true)], args := [d1, d2, d3, d4, d5] }
  | _ => none }
def pathsAgreeRow : OpenClaim := { program := "ytfanmniaolncbaa", sum := "c45d261d62acd27369da6f75d9a7798f6952a139cb31e9b6e0c64cdf9935e0bb", func := "netsegment/nsglaw14.PathsAgree", spec := "pathsAgree", unfollowed := true, recurses := true, apart := false }
def PathsAgreeSaid : Prop := pathsAgreeRow.holds Try.pinned (OpenSpec.ofChange pathsAgreeSpec)

/-- ITS FALSE NEIGHBOUR: 'it returns false'. Refute it at one input. -/
def pathsAgreeWrong : ChangeSpec := { name := "pathsAgree", fn := fun _ => fun
  | [d1, d2, d3, d4, d5] => { results := [.lit (.bool false)], args := [d1, d2, d3, d4, d5] }
  | _ => none }
def PathsAgreeWrongFalsely : Prop := pathsAgreeRow.holds Try.pinned (OpenSpec.ofChange pathsAgreeWrong)

/-- 'nsglaw14.PathsMetric': WHATEVER THE INPUT: true; the input reads as it did. -/
def pathsMetricSpec : ChangeSpec := { name := "pathsMetric", fn := fun _ => fun
  | [d] => { results := [.lit (.bool true)], args := [d] }
  | _ => none }
def pathsMetricRow : OpenClaim := { program := "ytfanmniaolncbaa", sum := "c45d261d62acd27369da6f75d9a7798f6952a139cb31e9b6e0c64cdf9935e0bb", func := "netsegment/nsglaw14.PathsMetric", spec := "pathsMetric", unfollowed := true, recurses := true, apart := false }
def PathsMetricSaid : Prop := pathsMetricRow.holds Try.pinned (OpenSpec.ofChange pathsMetricSpec)

/-- ITS FALSE NEIGHBOUR: 'it returns false'. Refute it at one input. -/
def pathsMetricWrong : ChangeSpec := { name := "pathsMetric", fn := fun _ => fun
  | [d] => { results := [.lit (.bool false)], args := [d] }
  | _ => none }
def PathsMetricWrongFalsely : Prop := pathsMetricRow.holds Try.pinned (OpenSpec.ofChange pathsMetricWrong)

/-- 'nsglaw14.PathsWalk': WHATEVER THE INPUT: true; the input reads as it did. -/
def pathsWalkSpec : ChangeSpec := { name := "pathsWalk", fn := fun _ => fun
  | [d] => { results := [.lit (.bool true)], args := [d] }
  | _ => none }
def pathsWalkRow : OpenClaim := { program := "ytfanmniaolncbaa", sum := "c45d261d62acd27369da6f75d9a7798f6952a139cb31e9b6e0c64cdf9935e0bb", func := "netsegment/nsglaw14.PathsWalk", spec := "pathsWalk", unfollowed := true, recurses := true, apart := false }
def PathsWalkSaid : Prop := pathsWalkRow.holds Try.pinned (OpenSpec.ofChange pathsWalkSpec)

/-- ITS FALSE NEIGHBOUR: 'it returns false'. Refute it at one input. -/
def pathsWalkWrong : ChangeSpec := { name := "pathsWalk", fn := fun _ => fun
  | [d] => { results := [.lit (.bool false)], args := [d] }
  | _ => none }
def PathsWalkWrongFalsely : Prop := pathsWalkRow.holds Try.pinned (OpenSpec.ofChange pathsWalkWrong)

/-- 'nsglaw14.PathsTies': WHATEVER THE INPUT: true; the input reads as it did. -/
def pathsTiesSpec : ChangeSpec := { name := "pathsTies", fn := fun _ => fun
  | [d] => { results := [.lit (.bool true)], args := [d] }
  | _ => none }
def pathsTiesRow : OpenClaim := { program := "ytfanmniaolncbaa", sum := "c45d261d62acd27369da6f75d9a7798f6952a139cb31e9b6e0c64cdf9935e0bb", func := "netsegment/nsglaw14.PathsTies", spec := "pathsTies", unfollowed := true, recurses := true, apart := false }
def PathsTiesSaid : Prop := pathsTiesRow.holds Try.pinned (OpenSpec.ofChange pathsTiesSpec)

/-- ITS FALSE NEIGHBOUR: 'it returns false'. Refute it at one input. -/
def pathsTiesWrong : ChangeSpec := { name := "pathsTies", fn := fun _ => fun
  | [d] => { results := [.lit (.bool false)], args := [d] }
  | _ => none }
def PathsTiesWrongFalsely : Prop := pathsTiesRow.holds Try.pinned (OpenSpec.ofChange pathsTiesWrong)

/-- 'nsglaw14.PathsFailures': WHATEVER THE INPUT: true; the input reads as it did. -/
def pathsFailuresSpec : ChangeSpec := { name := "pathsFailures", fn := fun _ => fun
  | [d] => { results := [.lit (.bool true)], args := [d] }
  | _ => none }
def pathsFailuresRow : OpenClaim := { program := "ytfanmniaolncbaa", sum := "c45d261d62acd27369da6f75d9a7798f6952a139cb31e9b6e0c64cdf9935e0bb", func := "netsegment/nsglaw14.PathsFailures", spec := "pathsFailures", unfollowed := true, recurses := true, apart := false }
def PathsFailuresSaid : Prop := pathsFailuresRow.holds Try.pinned (OpenSpec.ofChange pathsFailuresSpec)

/-- ITS FALSE NEIGHBOUR: 'it returns false'. Refute it at one input. -/
def pathsFailuresWrong : ChangeSpec := { name := "pathsFailures", fn := fun _ => fun
  | [d] => { results := [.lit (.bool false)], args := [d] }
  | _ => none }
def PathsFailuresWrongFalsely : Prop := pathsFailuresRow.holds Try.pinned (OpenSpec.ofChange pathsFailuresWrong)

/- THE SECOND FORM. 'bulk': how many values and letters a reading holds, each counted each time it is reached (what is shared counts as often as it is met; a slice's spare places count too). A statement '..UptoSaid' is the law's where the arguments, and the package variables that the reading takes, are together of bulk at most 1048576: NARROWER than '..Said'. Prove '..Said' where nothing that the law and all that it calls make is longer than what came in: it says more and counts as full. Else prove '..UptoSaid'. A law counts once. -/
mutual
def uptoBulk {H : Type} : DataW H → Nat
  | .lit (.string bytes) => bytes.length + 1
  | .lit _ => 1
  | .nil => 1
  | .ptr d => uptoBulk d + 1
  | .slice elems spare => uptoBulkAll elems + uptoBulkAll spare + 1
  | .agg parts => uptoBulkAll parts + 1
  | .iface _ d => uptoBulk d + 1
  | .map entries => uptoBulkEntries entries + 1
  | .held _ => 1
def uptoBulkAll {H : Type} : List (DataW H) → Nat
  | [] => 0
  | d :: r => uptoBulk d + uptoBulkAll r
def uptoBulkEntries {H : Type} : List (Lit × DataW H) → Nat
  | [] => 0
  | x :: r => uptoBulkEntry x + uptoBulkEntries r
def uptoBulkEntry {H : Type} : Lit × DataW H → Nat
  | (.string bytes, d) => bytes.length + uptoBulk d + 1
  | (_, d) => uptoBulk d + 1
 end
def uptoSmall : (H : Type) → List (DataW H) → Bool := fun _ ds => decide (uptoBulkAll ds ≤ 1048576)
def OpenSpec.upto (s : _root_.Go.ChangeSpec) : _root_.Go.OpenSpec := { _root_.Go.OpenSpec.ofChange s with cond := some uptoSmall }

/-- 'nsglaw13.FailureAll', WHERE WHAT IT READS IS OF BULK AT MOST 1048576: true; the input reads as it did. -/
def failureAllUptoRow : OpenClaim := { program := "ytfanmniaolncbaa", sum := "c45d261d62acd27369da6f75d9a7798f6952a139cb31e9b6e0c64cdf9935e0bb", func := "netsegment/nsglaw13.FailureAll", spec := "failureAll", unfollowed := true, recurses := true, apart := false, narrowed := true }
def FailureAllUptoSaid : Prop := failureAllUptoRow.holds Try.pinned (OpenSpec.upto failureAllSpec)

/-- 'nsglaw13.FailureStates', WHERE WHAT IT READS IS OF BULK AT MOST 1048576: true; the input reads as it did. -/
def failureStatesUptoRow : OpenClaim := { program := "ytfanmniaolncbaa", sum := "c45d261d62acd27369da6f75d9a7798f6952a139cb31e9b6e0c64cdf9935e0bb", func := "netsegment/nsglaw13.FailureStates", spec := "failureStates", unfollowed := true, recurses := true, apart := false, narrowed := true }
def FailureStatesUptoSaid : Prop := failureStatesUptoRow.holds Try.pinned (OpenSpec.upto failureStatesSpec)

/-- 'nsglaw13.FailureMonotone', WHERE WHAT IT READS IS OF BULK AT MOST 1048576: true; the input reads as it did. -/
def failureMonotoneUptoRow : OpenClaim := { program := "ytfanmniaolncbaa", sum := "c45d261d62acd27369da6f75d9a7798f6952a139cb31e9b6e0c64cdf9935e0bb", func := "netsegment/nsglaw13.FailureMonotone", spec := "failureMonotone", unfollowed := true, recurses := true, apart := false, narrowed := true }
def FailureMonotoneUptoSaid : Prop := failureMonotoneUptoRow.holds Try.pinned (OpenSpec.upto failureMonotoneSpec)

/-- 'nsglaw13.FailureReads', WHERE WHAT IT READS IS OF BULK AT MOST 1048576: true; the input reads as it did. -/
def failureReadsUptoRow : OpenClaim := { program := "ytfanmniaolncbaa", sum := "c45d261d62acd27369da6f75d9a7798f6952a139cb31e9b6e0c64cdf9935e0bb", func := "netsegment/nsglaw13.FailureReads", spec := "failureReads", unfollowed := true, recurses := true, apart := false, narrowed := true }
def FailureReadsUptoSaid : Prop := failureReadsUptoRow.holds Try.pinned (OpenSpec.upto failureReadsSpec)

/-- 'nsglaw13.FailureEquivalence', WHERE WHAT IT READS IS OF BULK AT MOST 1048576: true; the input reads as it did. -/
def failureEquivalenceUptoRow : OpenClaim := { program := "ytfanmniaolncbaa", sum := "c45d261d62acd27369da6f75d9a7798f6952a139cb31e9b6e0c64cdf9935e0bb", func := "netsegment/nsglaw13.FailureEquivalence", spec := "failureEquivalence", unfollowed := true, recurses := true, apart := false, narrowed := true }
def FailureEquivalenceUptoSaid : Prop := failureEquivalenceUptoRow.holds Try.pinned (OpenSpec.upto failureEquivalenceSpec)

/-- 'nsglaw13.FailureBridges', WHERE WHAT IT READS IS OF BULK AT MOST 1048576: true; the input reads as it did. -/
def failureBridgesUptoRow : OpenClaim := { program := "ytfanmniaolncbaa", sum := "c45d261d62acd27369da6f75d9a7798f6952a139cb31e9b6e0c64cdf9935e0bb", func := "netsegment/nsglaw13.FailureBridges", spec := "failureBridges", unfollowed := true, recurses := true, apart := false, narrowed := true }
def FailureBridgesUptoSaid : Prop := failureBridgesUptoRow.holds Try.pinned (OpenSpec.upto failureBridgesSpec)

/-- 'nsglaw14.PathsAgree', WHERE WHAT IT READS IS OF BULK AT MOST 1048576: true; the input reads as it did. -/
def pathsAgreeUptoRow : OpenClaim := { program := "ytfanmniaolncbaa", sum := "c45d261d62acd27369da6f75d9a7798f6952a139cb31e9b6e0c64cdf9935e0bb", func := "netsegment/nsglaw14.PathsAgree", spec := "pathsAgree", unfollowed := true, recurses := true, apart := false, narrowed := true }
def PathsAgreeUptoSaid : Prop := pathsAgreeUptoRow.holds Try.pinned (OpenSpec.upto pathsAgreeSpec)

/-- 'nsglaw14.PathsMetric', WHERE WHAT IT READS IS OF BULK AT MOST 1048576: true; the input reads as it did. -/
def pathsMetricUptoRow : OpenClaim := { program := "ytfanmniaolncbaa", sum := "c45d261d62acd27369da6f75d9a7798f6952a139cb31e9b6e0c64cdf9935e0bb", func := "netsegment/nsglaw14.PathsMetric", spec := "pathsMetric", unfollowed := true, recurses := true, apart := false, narrowed := true }
def PathsMetricUptoSaid : Prop := pathsMetricUptoRow.holds Try.pinned (OpenSpec.upto pathsMetricSpec)

/-- 'nsglaw14.PathsWalk', WHERE WHAT IT READS IS OF BULK AT MOST 1048576: true; the input reads as it did. -/
def pathsWalkUptoRow : OpenClaim := { program := "ytfanmniaolncbaa", sum := "c45d261d62acd27369da6f75d9a7798f6952a139cb31e9b6e0c64cdf9935e0bb", func := "netsegment/nsglaw14.PathsWalk", spec := "pathsWalk", unfollowed := true, recurses := true, apart := false, narrowed := true }
def PathsWalkUptoSaid : Prop := pathsWalkUptoRow.holds Try.pinned (OpenSpec.upto pathsWalkSpec)

/-- 'nsglaw14.PathsTies', WHERE WHAT IT READS IS OF BULK AT MOST 1048576: true; the input reads as it did. -/
def pathsTiesUptoRow : OpenClaim := { program := "ytfanmniaolncbaa", sum := "c45d261d62acd27369da6f75d9a7798f6952a139cb31e9b6e0c64cdf9935e0bb", func := "netsegment/nsglaw14.PathsTies", spec := "pathsTies", unfollowed := true, recurses := true, apart := false, narrowed := true }
def PathsTiesUptoSaid : Prop := pathsTiesUptoRow.holds Try.pinned (OpenSpec.upto pathsTiesSpec)

/-- 'nsglaw14.PathsFailures', WHERE WHAT IT READS IS OF BULK AT MOST 1048576: true; the input reads as it did. -/
def pathsFailuresUptoRow : OpenClaim := { program := "ytfanmniaolncbaa", sum := "c45d261d62acd27369da6f75d9a7798f6952a139cb31e9b6e0c64cdf9935e0bb", func := "netsegment/nsglaw14.PathsFailures", spec := "pathsFailures", unfollowed := true, recurses := true, apart := false, narrowed := true }
def PathsFailuresUptoSaid : Prop := pathsFailuresUptoRow.holds Try.pinned (OpenSpec.upto pathsFailuresSpec)

end Rows
end Go.Proofs.Ytfanmniaolncbaa
