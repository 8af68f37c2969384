/-
  DERIVED. GIVEN WITH THE SEED: THE CARDS: each row of YtekhggaafeonjaaDoorRows.lean that lists a variable, with what it lists TIED to the program's text (the seventh form; the later family's looks); each row that meets fmt, with fmt's text TOLD by the authors' own Lean function (tested against real Go, not proved from fmt's source: count such statements apart). THE CARD IS WHAT COUNTS. Prove the row's statement (the work); the ties are given (YtekhggaafeonjaaDoorTie.lean); close each card by the builder's one call (the guide's Derived/Test/ToyasCard.lean, 'card_holds'). Laid BY PROGRAM, IN A SANDBOX (cutbox-door.mjs). By AI agents, Wed Nov 11 2026. No macro, syntax, notation, axiom, sorry.
-/
import Derived.Test.YtekhggaafeonjaaDoorRows
import GoSem.ClaimSeven
namespace Go.Proofs.YtekhggaafeonjaaDoor
namespace Rows

/-- THE TIED CARD OF 'nsglaw1.PrefixTexts'. -/
def prefixTextsCard : Claim7 := { stood := { row := prefixTextsRow, standIns := [], harness := (true, "5dea513b78f96856dbce428a0fc8bd4c22b90a760caaa746fedf782cd282a5a7"), looks := false }, kinds := [], alts := [], laidByText := true, laidKinds := [.data, .data, .data], laidTests := true, laidLooks := .later }
def PrefixTextsCardSaid : Prop := Claim7.holds Tryd.pinned (.plain (OpenSpec.ofChange prefixTextsSpec)) prefixTextsCard

/-- THE TIED CARD OF 'nsglaw1.PrefixRoundTrip'. -/
def prefixRoundTripCard : Claim7 := { stood := { row := prefixRoundTripRow, standIns := [], harness := (true, "5dea513b78f96856dbce428a0fc8bd4c22b90a760caaa746fedf782cd282a5a7"), looks := false }, kinds := [], alts := [], laidByText := true, laidKinds := [.data, .data, .data], laidTests := true, laidLooks := .later }
def PrefixRoundTripCardSaid : Prop := Claim7.holds Tryd.pinned (.plain (OpenSpec.ofChange prefixRoundTripSpec)) prefixRoundTripCard

/-- THE TIED CARD OF 'nsglaw1.PrefixMinimal'. -/
def prefixMinimalCard : Claim7 := { stood := { row := prefixMinimalRow, standIns := [], harness := (true, "5dea513b78f96856dbce428a0fc8bd4c22b90a760caaa746fedf782cd282a5a7"), looks := false }, kinds := [], alts := [], laidByText := true, laidKinds := [.data, .data, .data], laidTests := true, laidLooks := .later }
def PrefixMinimalCardSaid : Prop := Claim7.holds Tryd.pinned (.plain (OpenSpec.ofChange prefixMinimalSpec)) prefixMinimalCard

/-- THE TIED CARD OF 'nsglaw1.PrefixNested'. -/
def prefixNestedCard : Claim7 := { stood := { row := prefixNestedRow, standIns := [], harness := (true, "5dea513b78f96856dbce428a0fc8bd4c22b90a760caaa746fedf782cd282a5a7"), looks := false }, kinds := [], alts := [], laidByText := true, laidKinds := [.data, .data, .data], laidTests := true, laidLooks := .later }
def PrefixNestedCardSaid : Prop := Claim7.holds Tryd.pinned (.plain (OpenSpec.ofChange prefixNestedSpec)) prefixNestedCard

/-- THE TIED CARD OF 'nsglaw1.PrefixBlocks'. -/
def prefixBlocksCard : Claim7 := { stood := { row := prefixBlocksRow, standIns := [], harness := (true, "5dea513b78f96856dbce428a0fc8bd4c22b90a760caaa746fedf782cd282a5a7"), looks := false }, kinds := [], alts := [], laidByText := true, laidKinds := [.data, .data, .data], laidTests := true, laidLooks := .later }
def PrefixBlocksCardSaid : Prop := Claim7.holds Tryd.pinned (.plain (OpenSpec.ofChange prefixBlocksSpec)) prefixBlocksCard

/-- THE TIED CARD OF 'nsglaw1.PrefixCommon'. -/
def prefixCommonCard : Claim7 := { stood := { row := prefixCommonRow, standIns := [], harness := (true, "5dea513b78f96856dbce428a0fc8bd4c22b90a760caaa746fedf782cd282a5a7"), looks := false }, kinds := [], alts := [], laidByText := true, laidKinds := [.data, .data, .data], laidTests := true, laidLooks := .later }
def PrefixCommonCardSaid : Prop := Claim7.holds Tryd.pinned (.plain (OpenSpec.ofChange prefixCommonSpec)) prefixCommonCard

/-- THE TIED CARD OF 'nsglaw1.PrefixReads'. -/
def prefixReadsCard : Claim7 := { stood := { row := prefixReadsRow, standIns := [], harness := (true, "5dea513b78f96856dbce428a0fc8bd4c22b90a760caaa746fedf782cd282a5a7"), looks := false }, kinds := [], alts := [], laidByText := true, laidKinds := [.data, .data, .data], laidTests := true, laidLooks := .later }
def PrefixReadsCardSaid : Prop := Claim7.holds Tryd.pinned (.plain (OpenSpec.ofChange prefixReadsSpec)) prefixReadsCard

/-- THE SECOND FORM's CARD OF 'nsglaw1.PrefixTexts'. -/
def prefixTextsUptoCard : Claim7 := { stood := { row := prefixTextsUptoRow, standIns := [], harness := (true, "5dea513b78f96856dbce428a0fc8bd4c22b90a760caaa746fedf782cd282a5a7"), looks := false }, kinds := [], alts := [], laidByText := true, laidKinds := [.data, .data, .data], laidTests := true, laidLooks := .later }
def PrefixTextsUptoCardSaid : Prop := Claim7.holds Tryd.pinned (.plain (OpenSpec.upto prefixTextsSpec)) prefixTextsUptoCard

/-- THE SECOND FORM's CARD OF 'nsglaw1.PrefixRoundTrip'. -/
def prefixRoundTripUptoCard : Claim7 := { stood := { row := prefixRoundTripUptoRow, standIns := [], harness := (true, "5dea513b78f96856dbce428a0fc8bd4c22b90a760caaa746fedf782cd282a5a7"), looks := false }, kinds := [], alts := [], laidByText := true, laidKinds := [.data, .data, .data], laidTests := true, laidLooks := .later }
def PrefixRoundTripUptoCardSaid : Prop := Claim7.holds Tryd.pinned (.plain (OpenSpec.upto prefixRoundTripSpec)) prefixRoundTripUptoCard

/-- THE SECOND FORM's CARD OF 'nsglaw1.PrefixMinimal'. -/
def prefixMinimalUptoCard : Claim7 := { stood := { row := prefixMinimalUptoRow, standIns := [], harness := (true, "5dea513b78f96856dbce428a0fc8bd4c22b90a760caaa746fedf782cd282a5a7"), looks := false }, kinds := [], alts := [], laidByText := true, laidKinds := [.data, .data, .data], laidTests := true, laidLooks := .later }
def PrefixMinimalUptoCardSaid : Prop := Claim7.holds Tryd.pinned (.plain (OpenSpec.upto prefixMinimalSpec)) prefixMinimalUptoCard

/-- THE SECOND FORM's CARD OF 'nsglaw1.PrefixNested'. -/
def prefixNestedUptoCard : Claim7 := { stood := { row := prefixNestedUptoRow, standIns := [], harness := (true, "5dea513b78f96856dbce428a0fc8bd4c22b90a760caaa746fedf782cd282a5a7"), looks := false }, kinds := [], alts := [], laidByText := true, laidKinds := [.data, .data, .data], laidTests := true, laidLooks := .later }
def PrefixNestedUptoCardSaid : Prop := Claim7.holds Tryd.pinned (.plain (OpenSpec.upto prefixNestedSpec)) prefixNestedUptoCard

/-- THE SECOND FORM's CARD OF 'nsglaw1.PrefixBlocks'. -/
def prefixBlocksUptoCard : Claim7 := { stood := { row := prefixBlocksUptoRow, standIns := [], harness := (true, "5dea513b78f96856dbce428a0fc8bd4c22b90a760caaa746fedf782cd282a5a7"), looks := false }, kinds := [], alts := [], laidByText := true, laidKinds := [.data, .data, .data], laidTests := true, laidLooks := .later }
def PrefixBlocksUptoCardSaid : Prop := Claim7.holds Tryd.pinned (.plain (OpenSpec.upto prefixBlocksSpec)) prefixBlocksUptoCard

/-- THE SECOND FORM's CARD OF 'nsglaw1.PrefixCommon'. -/
def prefixCommonUptoCard : Claim7 := { stood := { row := prefixCommonUptoRow, standIns := [], harness := (true, "5dea513b78f96856dbce428a0fc8bd4c22b90a760caaa746fedf782cd282a5a7"), looks := false }, kinds := [], alts := [], laidByText := true, laidKinds := [.data, .data, .data], laidTests := true, laidLooks := .later }
def PrefixCommonUptoCardSaid : Prop := Claim7.holds Tryd.pinned (.plain (OpenSpec.upto prefixCommonSpec)) prefixCommonUptoCard

/-- THE SECOND FORM's CARD OF 'nsglaw1.PrefixReads'. -/
def prefixReadsUptoCard : Claim7 := { stood := { row := prefixReadsUptoRow, standIns := [], harness := (true, "5dea513b78f96856dbce428a0fc8bd4c22b90a760caaa746fedf782cd282a5a7"), looks := false }, kinds := [], alts := [], laidByText := true, laidKinds := [.data, .data, .data], laidTests := true, laidLooks := .later }
def PrefixReadsUptoCardSaid : Prop := Claim7.holds Tryd.pinned (.plain (OpenSpec.upto prefixReadsSpec)) prefixReadsUptoCard
end Rows
end Go.Proofs.YtekhggaafeonjaaDoor
