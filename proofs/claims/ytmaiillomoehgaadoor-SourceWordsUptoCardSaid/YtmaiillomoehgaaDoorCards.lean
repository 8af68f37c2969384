/-
  DERIVED. GIVEN WITH THE SEED: THE CARDS: each row of YtmaiillomoehgaaDoorRows.lean that lists a variable, with what it lists TIED to the program's text (the seventh form; the later family's looks); each row that meets fmt, with fmt's text TOLD by the authors' own Lean function (tested against real Go, not proved from fmt's source: count such statements apart). THE CARD IS WHAT COUNTS. Prove the row's statement (the work); the ties are given (YtmaiillomoehgaaDoorTie.lean); close each card by the builder's one call (the guide's Derived/Test/ToyasCard.lean, 'card_holds'). Laid BY PROGRAM, IN A SANDBOX (cutbox-door.mjs). By AI agents, Wed Nov 11 2026. No macro, syntax, notation, axiom, sorry.
-/
import Derived.Test.YtmaiillomoehgaaDoorRows
import GoSem.ClaimSeven
namespace Go.Proofs.YtmaiillomoehgaaDoor
namespace Rows

/-- THE TIED CARD OF 'nsglaw10.SourceLines'. -/
def sourceLinesCard : Claim7 := { stood := { row := sourceLinesRow, standIns := [], harness := (true, "137d916a4b579399664601a45e162c9d57c4bb68c9ac98703108e07302992bdb"), looks := false }, kinds := [], alts := [], laidByText := true, laidKinds := [.data, .pinned], laidTests := true, laidLooks := .later }
def SourceLinesCardSaid : Prop := Claim7.holds Tryd.pinned (.plain (OpenSpec.ofChange sourceLinesSpec)) sourceLinesCard

/-- THE TIED CARD OF 'nsglaw10.SourceComments'. -/
def sourceCommentsCard : Claim7 := { stood := { row := sourceCommentsRow, standIns := [], harness := (true, "137d916a4b579399664601a45e162c9d57c4bb68c9ac98703108e07302992bdb"), looks := false }, kinds := [], alts := [], laidByText := true, laidKinds := [.data, .pinned], laidTests := true, laidLooks := .later }
def SourceCommentsCardSaid : Prop := Claim7.holds Tryd.pinned (.plain (OpenSpec.ofChange sourceCommentsSpec)) sourceCommentsCard

/-- THE TIED CARD OF 'nsglaw10.SourceNumbers'. -/
def sourceNumbersCard : Claim7 := { stood := { row := sourceNumbersRow, standIns := [], harness := (true, "137d916a4b579399664601a45e162c9d57c4bb68c9ac98703108e07302992bdb"), looks := false }, kinds := [], alts := [], laidByText := true, laidKinds := [.data, .pinned], laidTests := true, laidLooks := .later }
def SourceNumbersCardSaid : Prop := Claim7.holds Tryd.pinned (.plain (OpenSpec.ofChange sourceNumbersSpec)) sourceNumbersCard

/-- THE TIED CARD OF 'nsglaw10.SourceItems'. -/
def sourceItemsCard : Claim7 := { stood := { row := sourceItemsRow, standIns := [], harness := (true, "137d916a4b579399664601a45e162c9d57c4bb68c9ac98703108e07302992bdb"), looks := false }, kinds := [], alts := [], laidByText := true, laidKinds := [.data, .pinned], laidTests := true, laidLooks := .later }
def SourceItemsCardSaid : Prop := Claim7.holds Tryd.pinned (.plain (OpenSpec.ofChange sourceItemsSpec)) sourceItemsCard

/-- THE TIED CARD OF 'nsglaw10.SourceRoundTrip'. -/
def sourceRoundTripCard : Claim7 := { stood := { row := sourceRoundTripRow, standIns := [], harness := (true, "137d916a4b579399664601a45e162c9d57c4bb68c9ac98703108e07302992bdb"), looks := false }, kinds := [], alts := [], laidByText := true, laidKinds := [.data, .pinned], laidTests := true, laidLooks := .later }
def SourceRoundTripCardSaid : Prop := Claim7.holds Tryd.pinned (.plain (OpenSpec.ofChange sourceRoundTripSpec)) sourceRoundTripCard

/-- THE TIED CARD OF 'nsglaw10.SourceWords'. -/
def sourceWordsCard : Claim7 := { stood := { row := sourceWordsRow, standIns := [], harness := (true, "137d916a4b579399664601a45e162c9d57c4bb68c9ac98703108e07302992bdb"), looks := false }, kinds := [], alts := [], laidByText := true, laidKinds := [.data, .pinned], laidTests := true, laidLooks := .later }
def SourceWordsCardSaid : Prop := Claim7.holds Tryd.pinned (.plain (OpenSpec.ofChange sourceWordsSpec)) sourceWordsCard

/-- THE SECOND FORM's CARD OF 'nsglaw10.SourceLines'. -/
def sourceLinesUptoCard : Claim7 := { stood := { row := sourceLinesUptoRow, standIns := [], harness := (true, "137d916a4b579399664601a45e162c9d57c4bb68c9ac98703108e07302992bdb"), looks := false }, kinds := [], alts := [], laidByText := true, laidKinds := [.data, .pinned], laidTests := true, laidLooks := .later }
def SourceLinesUptoCardSaid : Prop := Claim7.holds Tryd.pinned (.plain (OpenSpec.upto sourceLinesSpec)) sourceLinesUptoCard

/-- THE SECOND FORM's CARD OF 'nsglaw10.SourceComments'. -/
def sourceCommentsUptoCard : Claim7 := { stood := { row := sourceCommentsUptoRow, standIns := [], harness := (true, "137d916a4b579399664601a45e162c9d57c4bb68c9ac98703108e07302992bdb"), looks := false }, kinds := [], alts := [], laidByText := true, laidKinds := [.data, .pinned], laidTests := true, laidLooks := .later }
def SourceCommentsUptoCardSaid : Prop := Claim7.holds Tryd.pinned (.plain (OpenSpec.upto sourceCommentsSpec)) sourceCommentsUptoCard

/-- THE SECOND FORM's CARD OF 'nsglaw10.SourceNumbers'. -/
def sourceNumbersUptoCard : Claim7 := { stood := { row := sourceNumbersUptoRow, standIns := [], harness := (true, "137d916a4b579399664601a45e162c9d57c4bb68c9ac98703108e07302992bdb"), looks := false }, kinds := [], alts := [], laidByText := true, laidKinds := [.data, .pinned], laidTests := true, laidLooks := .later }
def SourceNumbersUptoCardSaid : Prop := Claim7.holds Tryd.pinned (.plain (OpenSpec.upto sourceNumbersSpec)) sourceNumbersUptoCard

/-- THE SECOND FORM's CARD OF 'nsglaw10.SourceItems'. -/
def sourceItemsUptoCard : Claim7 := { stood := { row := sourceItemsUptoRow, standIns := [], harness := (true, "137d916a4b579399664601a45e162c9d57c4bb68c9ac98703108e07302992bdb"), looks := false }, kinds := [], alts := [], laidByText := true, laidKinds := [.data, .pinned], laidTests := true, laidLooks := .later }
def SourceItemsUptoCardSaid : Prop := Claim7.holds Tryd.pinned (.plain (OpenSpec.upto sourceItemsSpec)) sourceItemsUptoCard

/-- THE SECOND FORM's CARD OF 'nsglaw10.SourceRoundTrip'. -/
def sourceRoundTripUptoCard : Claim7 := { stood := { row := sourceRoundTripUptoRow, standIns := [], harness := (true, "137d916a4b579399664601a45e162c9d57c4bb68c9ac98703108e07302992bdb"), looks := false }, kinds := [], alts := [], laidByText := true, laidKinds := [.data, .pinned], laidTests := true, laidLooks := .later }
def SourceRoundTripUptoCardSaid : Prop := Claim7.holds Tryd.pinned (.plain (OpenSpec.upto sourceRoundTripSpec)) sourceRoundTripUptoCard

/-- THE SECOND FORM's CARD OF 'nsglaw10.SourceWords'. -/
def sourceWordsUptoCard : Claim7 := { stood := { row := sourceWordsUptoRow, standIns := [], harness := (true, "137d916a4b579399664601a45e162c9d57c4bb68c9ac98703108e07302992bdb"), looks := false }, kinds := [], alts := [], laidByText := true, laidKinds := [.data, .pinned], laidTests := true, laidLooks := .later }
def SourceWordsUptoCardSaid : Prop := Claim7.holds Tryd.pinned (.plain (OpenSpec.upto sourceWordsSpec)) sourceWordsUptoCard
end Rows
end Go.Proofs.YtmaiillomoehgaaDoor
