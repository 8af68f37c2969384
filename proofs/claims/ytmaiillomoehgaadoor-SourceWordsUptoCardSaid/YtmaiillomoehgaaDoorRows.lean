/-
  NARROWER THAN 'FOR EVERY INPUT', by the rows' own cells (each row's printed sentence says how): SourceLines: laid · SourceComments: laid · SourceNumbers: laid · SourceItems: laid · SourceRoundTrip: laid · SourceWords: laid.
  DERIVED. THE GIVEN ROWS OF THIS SEAT. 6 by the template 'for every input the law returns true; each argument reads behind the call as it read before'; 0 by the template 'total and deterministic' (their statements: YtmaiillomoehgaaDoorTotals.lean).
  GIVEN WITH THE SEED: the statements are not yours to turn. If you find one false, say at which input.
  Laid BY PROGRAM, IN A SANDBOX (cutbox-rows.mjs): the forced cells as the released guide's own fill.sh prints them over the translation af5d64ad37d1d304… (all of the seat's roots in one cut). By AI agents, Wed Nov 11 2026. No macro, syntax, notation, axiom, sorry.
-/
import Derived.Test.YtmaiillomoehgaaDoorChecked
import GoSem.PinnedTables
import GoSem.Claim
import GoSem.ClaimJoined
import GoSem.ClaimMapViews
import Derived.JoinedTies
import Derived.KernelRfl
namespace Go.Proofs.YtmaiillomoehgaaDoor
/- THE CELL 'sum', in the pinned program and in every row, IS THE sha256 OF THE DUMP (.gsa) THAT YtmaiillomoehgaaDoorProg.lean LOADS. Nothing in Lean hashes anything: it is a label: what it is worth is what the hold of that sum in a sandbox is worth. -/
noncomputable def Tryd.pinned : Pinned := { name := "ytmaiillomoehgaadoor", sum := "af5d64ad37d1d3049f850550cd2450ab972eeb1df6d94b0fb530aa805a6ae533", checked := Tryd.checked }
namespace Rows
def none {H : Type} : Left H := { results := [], args := [] }

/- WHAT THE LISTED PACKAGE-LEVEL VARIABLES READ AS WHEN THE CALL BEGINS. Each datum BY PROGRAM (the guide's laid-datum.mjs) off the statement by which the dump's own 'gosem.cut.vars' lays the variable. In a bare row this is a premise. The card (YtmaiillomoehgaaDoorCards.lean) ties it to the program's text. -/
def laid_unicode_utf8_acceptRanges {H : Type} : DataW H := .agg [.agg [.lit (.int .u8 128), .lit (.int .u8 191)], .agg [.lit (.int .u8 160), .lit (.int .u8 191)], .agg [.lit (.int .u8 128), .lit (.int .u8 159)], .agg [.lit (.int .u8 144), .lit (.int .u8 191)], .agg [.lit (.int .u8 128), .lit (.int .u8 143)], .agg [.lit (.int .u8 0), .lit (.int .u8 0)], .agg [.lit (.int .u8 0), .lit (.int .u8 0)], .agg [.lit (.int .u8 0), .lit (.int .u8 0)], .agg [.lit (.int .u8 0), .lit (.int .u8 0)], .agg [.lit (.int .u8 0), .lit (.int .u8 0)], .agg [.lit (.int .u8 0), .lit (.int .u8 0)], .agg [.lit (.int .u8 0), .lit (.int .u8 0)], .agg [.lit (.int .u8 0), .lit (.int .u8 0)], .agg [.lit (.int .u8 0), .lit (.int .u8 0)], .agg [.lit (.int .u8 0), .lit (.int .u8 0)], .agg [.lit (.int .u8 0), .lit (.int .u8 0)]]
/-- One of Go's own tables, pinned by name: the form's constant. -/
def laid_unicode_utf8_first : DataW Unit := Go.Pinned.utf8First

/-- 'nsglaw10.SourceLines': WHATEVER THE INPUT: true; the input reads as it did. -/
def sourceLinesSpec : ChangeSpec := { name := "sourceLines", fn := fun _ => fun
  | [d1, d2, d3] => { results := [.lit (.bool true)], args := [d1, d2, d3] }
  | _ => none }
def sourceLinesRow : OpenClaim := { program := "ytmaiillomoehgaadoor", sum := "af5d64ad37d1d3049f850550cd2450ab972eeb1df6d94b0fb530aa805a6ae533", func := "netsegment/nsglaw10.SourceLines", spec := "sourceLines", inPlace := ["internal/bytealg.CountString", "internal/bytealg.IndexByteString", "internal/bytealg.IndexString"], unfollowed := true, recurses := true, named := ["unicode/utf8.first", "unicode/utf8.acceptRanges", "internal/bytealg.MaxLen"], apart := false, laid := [("unicode/utf8.acceptRanges", laid_unicode_utf8_acceptRanges), ("unicode/utf8.first", laid_unicode_utf8_first)] }
def SourceLinesSaid : Prop := sourceLinesRow.holds Tryd.pinned (OpenSpec.ofChange sourceLinesSpec)

/-- ITS FALSE NEIGHBOUR: 'it returns false'. Refute it at one input. -/
def sourceLinesWrong : ChangeSpec := { name := "sourceLines", fn := fun _ => fun
  | [d1, d2, d3] => { results := [.lit (.bool false)], args := [d1, d2, d3] }
  | _ => none }
def SourceLinesWrongFalsely : Prop := sourceLinesRow.holds Tryd.pinned (OpenSpec.ofChange sourceLinesWrong)

/-- 'nsglaw10.SourceComments': WHATEVER THE INPUT: true; the input reads as it did. -/
def sourceCommentsSpec : ChangeSpec := { name := "sourceComments", fn := fun _ => fun
  | [d] => { results := [.lit (.bool true)], args := [d] }
  | _ => none }
def sourceCommentsRow : OpenClaim := { program := "ytmaiillomoehgaadoor", sum := "af5d64ad37d1d3049f850550cd2450ab972eeb1df6d94b0fb530aa805a6ae533", func := "netsegment/nsglaw10.SourceComments", spec := "sourceComments", inPlace := ["internal/bytealg.CountString", "internal/bytealg.IndexByteString", "internal/bytealg.IndexString"], unfollowed := true, recurses := true, named := ["unicode/utf8.first", "unicode/utf8.acceptRanges", "internal/bytealg.MaxLen"], apart := false, laid := [("unicode/utf8.acceptRanges", laid_unicode_utf8_acceptRanges), ("unicode/utf8.first", laid_unicode_utf8_first)] }
def SourceCommentsSaid : Prop := sourceCommentsRow.holds Tryd.pinned (OpenSpec.ofChange sourceCommentsSpec)

/-- ITS FALSE NEIGHBOUR: 'it returns false'. Refute it at one input. -/
def sourceCommentsWrong : ChangeSpec := { name := "sourceComments", fn := fun _ => fun
  | [d] => { results := [.lit (.bool false)], args := [d] }
  | _ => none }
def SourceCommentsWrongFalsely : Prop := sourceCommentsRow.holds Tryd.pinned (OpenSpec.ofChange sourceCommentsWrong)

/-- 'nsglaw10.SourceNumbers': WHATEVER THE INPUT: true; the input reads as it did. -/
def sourceNumbersSpec : ChangeSpec := { name := "sourceNumbers", fn := fun _ => fun
  | [d1, d2, d3] => { results := [.lit (.bool true)], args := [d1, d2, d3] }
  | _ => none }
def sourceNumbersRow : OpenClaim := { program := "ytmaiillomoehgaadoor", sum := "af5d64ad37d1d3049f850550cd2450ab972eeb1df6d94b0fb530aa805a6ae533", func := "netsegment/nsglaw10.SourceNumbers", spec := "sourceNumbers", inPlace := ["internal/bytealg.IndexByteString", "internal/bytealg.IndexString", "internal/bytealg.CountString"], unfollowed := true, recurses := true, named := ["internal/bytealg.MaxLen", "unicode/utf8.first", "unicode/utf8.acceptRanges"], apart := false, laid := [("unicode/utf8.acceptRanges", laid_unicode_utf8_acceptRanges), ("unicode/utf8.first", laid_unicode_utf8_first)] }
def SourceNumbersSaid : Prop := sourceNumbersRow.holds Tryd.pinned (OpenSpec.ofChange sourceNumbersSpec)

/-- ITS FALSE NEIGHBOUR: 'it returns false'. Refute it at one input. -/
def sourceNumbersWrong : ChangeSpec := { name := "sourceNumbers", fn := fun _ => fun
  | [d1, d2, d3] => { results := [.lit (.bool false)], args := [d1, d2, d3] }
  | _ => none }
def SourceNumbersWrongFalsely : Prop := sourceNumbersRow.holds Tryd.pinned (OpenSpec.ofChange sourceNumbersWrong)

/-- 'nsglaw10.SourceItems': WHATEVER THE INPUT: true; the input reads as it did. -/
def sourceItemsSpec : ChangeSpec := { name := "sourceItems", fn := fun _ => fun
  | [d] => { results := [.lit (.bool true)], args := [d] }
  | _ => none }
def sourceItemsRow : OpenClaim := { program := "ytmaiillomoehgaadoor", sum := "af5d64ad37d1d3049f850550cd2450ab972eeb1df6d94b0fb530aa805a6ae533", func := "netsegment/nsglaw10.SourceItems", spec := "sourceItems", inPlace := ["internal/bytealg.CountString", "internal/bytealg.IndexByteString", "internal/bytealg.IndexString"], unfollowed := true, recurses := true, named := ["unicode/utf8.first", "unicode/utf8.acceptRanges", "internal/bytealg.MaxLen"], apart := false, laid := [("unicode/utf8.acceptRanges", laid_unicode_utf8_acceptRanges), ("unicode/utf8.first", laid_unicode_utf8_first)] }
def SourceItemsSaid : Prop := sourceItemsRow.holds Tryd.pinned (OpenSpec.ofChange sourceItemsSpec)

/-- ITS FALSE NEIGHBOUR: 'it returns false'. Refute it at one input. -/
def sourceItemsWrong : ChangeSpec := { name := "sourceItems", fn := fun _ => fun
  | [d] => { results := [.lit (.bool false)], args := [d] }
  | _ => none }
def SourceItemsWrongFalsely : Prop := sourceItemsRow.holds Tryd.pinned (OpenSpec.ofChange sourceItemsWrong)

/-- 'nsglaw10.SourceRoundTrip': WHATEVER THE INPUT: true; the input reads as it did. -/
def sourceRoundTripSpec : ChangeSpec := { name := "sourceRoundTrip", fn := fun _ => fun
  | [d1, d2] => { results := [.lit (.bool true)], args := [d1, d2] }
  | _ => none }
def sourceRoundTripRow : OpenClaim := { program := "ytmaiillomoehgaadoor", sum := "af5d64ad37d1d3049f850550cd2450ab972eeb1df6d94b0fb530aa805a6ae533", func := "netsegment/nsglaw10.SourceRoundTrip", spec := "sourceRoundTrip", inPlace := ["internal/bytealg.CountString", "internal/bytealg.IndexByteString", "internal/bytealg.IndexString", "internal/abi.NoEscape", "internal/bytealg.MakeNoZero"], unfollowed := true, recurses := true, named := ["unicode/utf8.first", "unicode/utf8.acceptRanges", "internal/bytealg.MaxLen"], apart := false, laid := [("unicode/utf8.acceptRanges", laid_unicode_utf8_acceptRanges), ("unicode/utf8.first", laid_unicode_utf8_first)] }
def SourceRoundTripSaid : Prop := sourceRoundTripRow.holds Tryd.pinned (OpenSpec.ofChange sourceRoundTripSpec)

/-- ITS FALSE NEIGHBOUR: 'it returns false'. Refute it at one input. -/
def sourceRoundTripWrong : ChangeSpec := { name := "sourceRoundTrip", fn := fun _ => fun
  | [d1, d2] => { results := [.lit (.bool false)], args := [d1, d2] }
  | _ => none }
def SourceRoundTripWrongFalsely : Prop := sourceRoundTripRow.holds Tryd.pinned (OpenSpec.ofChange sourceRoundTripWrong)

/-- 'nsglaw10.SourceWords': WHATEVER THE INPUT: true; the input reads as it did. -/
def sourceWordsSpec : ChangeSpec := { name := "sourceWords", fn := fun _ => fun
  | [d1, d2, d3, d4, d5] => { results := [.lit (.bool true)], args := [d1, d2, d3, d4, d5] }
  | _ => none }
def sourceWordsRow : OpenClaim := { program := "ytmaiillomoehgaadoor", sum := "af5d64ad37d1d3049f850550cd2450ab972eeb1df6d94b0fb530aa805a6ae533", func := "netsegment/nsglaw10.SourceWords", spec := "sourceWords", inPlace := ["internal/bytealg.IndexByteString", "internal/bytealg.IndexString", "internal/abi.NoEscape", "internal/bytealg.MakeNoZero", "internal/bytealg.CountString"], unfollowed := true, recurses := true, named := ["internal/bytealg.MaxLen", "unicode/utf8.first", "unicode/utf8.acceptRanges"], apart := false, laid := [("unicode/utf8.acceptRanges", laid_unicode_utf8_acceptRanges), ("unicode/utf8.first", laid_unicode_utf8_first)] }
def SourceWordsSaid : Prop := sourceWordsRow.holds Tryd.pinned (OpenSpec.ofChange sourceWordsSpec)

/-- ITS FALSE NEIGHBOUR: 'it returns false'. Refute it at one input. -/
def sourceWordsWrong : ChangeSpec := { name := "sourceWords", fn := fun _ => fun
  | [d1, d2, d3, d4, d5] => { results := [.lit (.bool false)], args := [d1, d2, d3, d4, d5] }
  | _ => none }
def SourceWordsWrongFalsely : Prop := sourceWordsRow.holds Tryd.pinned (OpenSpec.ofChange sourceWordsWrong)

/- THE SECOND FORM. 'bulk': how many values and letters a reading holds, each counted each time it is reached (what is shared counts as often as it is met; a slice's spare places count too). A statement '..UptoSaid' is the law's where the arguments, and the package variables that the reading takes, are together of bulk at most 1048576: NARROWER than '..Said'. Prove '..Said' where nothing that the law and all that it calls make is longer than what came in: it says more and counts as full. Else prove '..UptoSaid'. A law counts once. -/
mutual
def uptoBulk {H : Type} : DataW H → Nat
  | .lit (.string bytes) => bytes.length + 1
  | .lit _ => 1
  | .nil => 1
  | .ptr d => uptoBulk d + 1
  | .slice elems spare => uptoBulkAll elems + uptoBulkAll spare + 1
  | .agg parts => uptoBulkAll parts + 1
  | .iface _ d => uptoBulk d + 1
  | .map entries => uptoBulkEntries entries + 1
  | .held _ => 1
def uptoBulkAll {H : Type} : List (DataW H) → Nat
  | [] => 0
  | d :: r => uptoBulk d + uptoBulkAll r
def uptoBulkEntries {H : Type} : List (Lit × DataW H) → Nat
  | [] => 0
  | x :: r => uptoBulkEntry x + uptoBulkEntries r
def uptoBulkEntry {H : Type} : Lit × DataW H → Nat
  | (.string bytes, d) => bytes.length + uptoBulk d + 1
  | (_, d) => uptoBulk d + 1
 end
def uptoSmall : (H : Type) → List (DataW H) → Bool := fun _ ds => decide (uptoBulkAll ds ≤ 1048576)
def OpenSpec.upto (s : _root_.Go.ChangeSpec) : _root_.Go.OpenSpec := { _root_.Go.OpenSpec.ofChange s with cond := some uptoSmall }

/-- 'nsglaw10.SourceLines', WHERE WHAT IT READS IS OF BULK AT MOST 1048576: true; the input reads as it did. -/
def sourceLinesUptoRow : OpenClaim := { program := "ytmaiillomoehgaadoor", sum := "af5d64ad37d1d3049f850550cd2450ab972eeb1df6d94b0fb530aa805a6ae533", func := "netsegment/nsglaw10.SourceLines", spec := "sourceLines", inPlace := ["internal/bytealg.CountString", "internal/bytealg.IndexByteString", "internal/bytealg.IndexString"], unfollowed := true, recurses := true, named := ["unicode/utf8.first", "unicode/utf8.acceptRanges", "internal/bytealg.MaxLen"], apart := false, laid := [("unicode/utf8.acceptRanges", laid_unicode_utf8_acceptRanges), ("unicode/utf8.first", laid_unicode_utf8_first)], narrowed := true }
def SourceLinesUptoSaid : Prop := sourceLinesUptoRow.holds Tryd.pinned (OpenSpec.upto sourceLinesSpec)

/-- 'nsglaw10.SourceComments', WHERE WHAT IT READS IS OF BULK AT MOST 1048576: true; the input reads as it did. -/
def sourceCommentsUptoRow : OpenClaim := { program := "ytmaiillomoehgaadoor", sum := "af5d64ad37d1d3049f850550cd2450ab972eeb1df6d94b0fb530aa805a6ae533", func := "netsegment/nsglaw10.SourceComments", spec := "sourceComments", inPlace := ["internal/bytealg.CountString", "internal/bytealg.IndexByteString", "internal/bytealg.IndexString"], unfollowed := true, recurses := true, named := ["unicode/utf8.first", "unicode/utf8.acceptRanges", "internal/bytealg.MaxLen"], apart := false, laid := [("unicode/utf8.acceptRanges", laid_unicode_utf8_acceptRanges), ("unicode/utf8.first", laid_unicode_utf8_first)], narrowed := true }
def SourceCommentsUptoSaid : Prop := sourceCommentsUptoRow.holds Tryd.pinned (OpenSpec.upto sourceCommentsSpec)

/-- 'nsglaw10.SourceNumbers', WHERE WHAT IT READS IS OF BULK AT MOST 1048576: true; the input reads as it did. -/
def sourceNumbersUptoRow : OpenClaim := { program := "ytmaiillomoehgaadoor", sum := "af5d64ad37d1d3049f850550cd2450ab972eeb1df6d94b0fb530aa805a6ae533", func := "netsegment/nsglaw10.SourceNumbers", spec := "sourceNumbers", inPlace := ["internal/bytealg.IndexByteString", "internal/bytealg.IndexString", "internal/bytealg.CountString"], unfollowed := true, recurses := true, named := ["internal/bytealg.MaxLen", "unicode/utf8.first", "unicode/utf8.acceptRanges"], apart := false, laid := [("unicode/utf8.acceptRanges", laid_unicode_utf8_acceptRanges), ("unicode/utf8.first", laid_unicode_utf8_first)], narrowed := true }
def SourceNumbersUptoSaid : Prop := sourceNumbersUptoRow.holds Tryd.pinned (OpenSpec.upto sourceNumbersSpec)

/-- 'nsglaw10.SourceItems', WHERE WHAT IT READS IS OF BULK AT MOST 1048576: true; the input reads as it did. -/
def sourceItemsUptoRow : OpenClaim := { program := "ytmaiillomoehgaadoor", sum := "af5d64ad37d1d3049f850550cd2450ab972eeb1df6d94b0fb530aa805a6ae533", func := "netsegment/nsglaw10.SourceItems", spec := "sourceItems", inPlace := ["internal/bytealg.CountString", "internal/bytealg.IndexByteString", "internal/bytealg.IndexString"], unfollowed := true, recurses := true, named := ["unicode/utf8.first", "unicode/utf8.acceptRanges", "internal/bytealg.MaxLen"], apart := false, laid := [("unicode/utf8.acceptRanges", laid_unicode_utf8_acceptRanges), ("unicode/utf8.first", laid_unicode_utf8_first)], narrowed := true }
def SourceItemsUptoSaid : Prop := sourceItemsUptoRow.holds Tryd.pinned (OpenSpec.upto sourceItemsSpec)

/-- 'nsglaw10.SourceRoundTrip', WHERE WHAT IT READS IS OF BULK AT MOST 1048576: true; the input reads as it did. -/
def sourceRoundTripUptoRow : OpenClaim := { program := "ytmaiillomoehgaadoor", sum := "af5d64ad37d1d3049f850550cd2450ab972eeb1df6d94b0fb530aa805a6ae533", func := "netsegment/nsglaw10.SourceRoundTrip", spec := "sourceRoundTrip", inPlace := ["internal/bytealg.CountString", "internal/bytealg.IndexByteString", "internal/bytealg.IndexString", "internal/abi.NoEscape", "internal/bytealg.MakeNoZero"], unfollowed := true, recurses := true, named := ["unicode/utf8.first", "unicode/utf8.acceptRanges", "internal/bytealg.MaxLen"], apart := false, laid := [("unicode/utf8.acceptRanges", laid_unicode_utf8_acceptRanges), ("unicode/utf8.first", laid_unicode_utf8_first)], narrowed := true }
def SourceRoundTripUptoSaid : Prop := sourceRoundTripUptoRow.holds Tryd.pinned (OpenSpec.upto sourceRoundTripSpec)

/-- 'nsglaw10.SourceWords', WHERE WHAT IT READS IS OF BULK AT MOST 1048576: true; the input reads as it did. -/
def sourceWordsUptoRow : OpenClaim := { program := "ytmaiillomoehgaadoor", sum := "af5d64ad37d1d3049f850550cd2450ab972eeb1df6d94b0fb530aa805a6ae533", func := "netsegment/nsglaw10.SourceWords", spec := "sourceWords", inPlace := ["internal/bytealg.IndexByteString", "internal/bytealg.IndexString", "internal/abi.NoEscape", "internal/bytealg.MakeNoZero", "internal/bytealg.CountString"], unfollowed := true, recurses := true, named := ["internal/bytealg.MaxLen", "unicode/utf8.first", "unicode/utf8.acceptRanges"], apart := false, laid := [("unicode/utf8.acceptRanges", laid_unicode_utf8_acceptRanges), ("unicode/utf8.first", laid_unicode_utf8_first)], narrowed := true }
def SourceWordsUptoSaid : Prop := sourceWordsUptoRow.holds Tryd.pinned (OpenSpec.upto sourceWordsSpec)

end Rows
end Go.Proofs.YtmaiillomoehgaaDoor
