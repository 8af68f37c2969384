/-
  No cell of these rows narrows 'for every input' (looked for: loops, veiled, ifaces, maps, wideKeys, modest, calm, conditions, laid).
  DERIVED. THE GIVEN ROWS OF THIS SEAT. 16 by the template 'for every input the law returns true; each argument reads behind the call as it read before'; 0 by the template 'total and deterministic' (their statements: YtobggnpnochnnaaTotals.lean).
  GIVEN WITH THE SEED: the statements are not yours to turn. If you find one false, say at which input.
  Laid BY PROGRAM, IN A SANDBOX (cutbox-rows.mjs): the forced cells as the released guide's own fill.sh prints them over the translation 6dabbd5dbd172eeb… (all of the seat's roots in one cut). By AI agents, Wed Nov 11 2026. No macro, syntax, notation, axiom, sorry.
-/
import Derived.Test.YtobggnpnochnnaaChecked
import GoSem.Claim
import GoSem.ClaimJoined
import GoSem.ClaimMapViews
import Derived.JoinedTies
import Derived.KernelRfl
namespace Go.Proofs.Ytobggnpnochnnaa
/- THE CELL 'sum', in the pinned program and in every row, IS THE sha256 OF THE DUMP (.gsa) THAT YtobggnpnochnnaaProg.lean LOADS. Nothing in Lean hashes anything: it is a label: what it is worth is what the hold of that sum in a sandbox is worth. -/
noncomputable def Try.pinned : Pinned := { name := "ytobggnpnochnnaa", sum := "6dabbd5dbd172eebfe41de30474c543899294762b7b9de1c94064f0fc54ab1cc", checked := Try.checked }
namespace Rows
def none {H : Type} : Left H := { results := [], args := [] }

/-- 'nsglaw41.JournalEncodes': WHATEVER THE INPUT: true; the input reads as it did. -/
def journalEncodesSpec : ChangeSpec := { name := "journalEncodes", fn := fun _ => fun
  | [d1, d2] => { results := [.lit (.bool true)], args := [d1, d2] }
  | _ => none }
def journalEncodesRow : OpenClaim := { program := "ytobggnpnochnnaa", sum := "6dabbd5dbd172eebfe41de30474c543899294762b7b9de1c94064f0fc54ab1cc", func := "netsegment/nsglaw41.JournalEncodes", spec := "journalEncodes", inPlace := ["slices.overlaps[int]"], unfollowed := true, recurses := true, apart := false }
def JournalEncodesSaid : Prop := journalEncodesRow.holds Try.pinned (OpenSpec.ofChange journalEncodesSpec)

/-- ITS FALSE NEIGHBOUR: 'it returns false'. Refute it at one input. -/
def journalEncodesWrong : ChangeSpec := { name := "journalEncodes", fn := fun _ => fun
  | [d1, d2] => { results := [.lit (.bool false)], args := [d1, d2] }
  | _ => none }
def JournalEncodesWrongFalsely : Prop := journalEncodesRow.holds Try.pinned (OpenSpec.ofChange journalEncodesWrong)

/-- 'nsglaw41.JournalDecodes': WHATEVER THE INPUT: true; the input reads as it did. -/
def journalDecodesSpec : ChangeSpec := { name := "journalDecodes", fn := fun _ => fun
  | [d1, d2] => { results := [.lit (.bool true)], args := [d1, d2] }
  | _ => none }
def journalDecodesRow : OpenClaim := { program := "ytobggnpnochnnaa", sum := "6dabbd5dbd172eebfe41de30474c543899294762b7b9de1c94064f0fc54ab1cc", func := "netsegment/nsglaw41.JournalDecodes", spec := "journalDecodes", inPlace := ["slices.overlaps[int]"], unfollowed := true, recurses := true, apart := false }
def JournalDecodesSaid : Prop := journalDecodesRow.holds Try.pinned (OpenSpec.ofChange journalDecodesSpec)

/-- ITS FALSE NEIGHBOUR: 'it returns false'. Refute it at one input. -/
def journalDecodesWrong : ChangeSpec := { name := "journalDecodes", fn := fun _ => fun
  | [d1, d2] => { results := [.lit (.bool false)], args := [d1, d2] }
  | _ => none }
def JournalDecodesWrongFalsely : Prop := journalDecodesRow.holds Try.pinned (OpenSpec.ofChange journalDecodesWrong)

/-- 'nsglaw41.JournalNotices': WHATEVER THE INPUT: true; the input reads as it did. -/
def journalNoticesSpec : ChangeSpec := { name := "journalNotices", fn := fun _ => fun
  | [d1, d2, d3, d4] => { results := [.lit (.bool true)], args := [d1, d2, d3, d4] }
  | _ => none }
def journalNoticesRow : OpenClaim := { program := "ytobggnpnochnnaa", sum := "6dabbd5dbd172eebfe41de30474c543899294762b7b9de1c94064f0fc54ab1cc", func := "netsegment/nsglaw41.JournalNotices", spec := "journalNotices", inPlace := ["slices.overlaps[int]"], unfollowed := true, recurses := true, apart := false }
def JournalNoticesSaid : Prop := journalNoticesRow.holds Try.pinned (OpenSpec.ofChange journalNoticesSpec)

/-- ITS FALSE NEIGHBOUR: 'it returns false'. Refute it at one input. -/
def journalNoticesWrong : ChangeSpec := { name := "journalNotices", fn := fun _ => fun
  | [d1, d2, d3, d4] => { results := [.lit (.bool false)], args := [d1, d2, d3, d4] }
  | _ => none }
def JournalNoticesWrongFalsely : Prop := journalNoticesRow.holds Try.pinned (OpenSpec.ofChange journalNoticesWrong)

/-- 'nsglaw41.JournalReplays': WHATEVER THE INPUT: true; the input reads as it did. -/
def journalReplaysSpec : ChangeSpec := { name := "journalReplays", fn := fun _ => fun
  | [d1, d2, d3, d4] => { results := [.lit (.bool true)], args := [d1, d2, d3, d4] }
  | _ => none }
def journalReplaysRow : OpenClaim := { program := "ytobggnpnochnnaa", sum := "6dabbd5dbd172eebfe41de30474c543899294762b7b9de1c94064f0fc54ab1cc", func := "netsegment/nsglaw41.JournalReplays", spec := "journalReplays", inPlace := ["slices.overlaps[int]"], unfollowed := true, recurses := true, apart := false }
def JournalReplaysSaid : Prop := journalReplaysRow.holds Try.pinned (OpenSpec.ofChange journalReplaysSpec)

/-- ITS FALSE NEIGHBOUR: 'it returns false'. Refute it at one input. -/
def journalReplaysWrong : ChangeSpec := { name := "journalReplays", fn := fun _ => fun
  | [d1, d2, d3, d4] => { results := [.lit (.bool false)], args := [d1, d2, d3, d4] }
  | _ => none }
def JournalReplaysWrongFalsely : Prop := journalReplaysRow.holds Try.pinned (OpenSpec.ofChange journalReplaysWrong)

/-- 'nsglaw41.JournalKeeps': WHATEVER THE INPUT: true; the input reads as it did. -/
def journalKeepsSpec : ChangeSpec := { name := "journalKeeps", fn := fun _ => fun
  | [d1, d2] => { results := [.lit (.bool true)], args := [d1, d2] }
  | _ => none }
def journalKeepsRow : OpenClaim := { program := "ytobggnpnochnnaa", sum := "6dabbd5dbd172eebfe41de30474c543899294762b7b9de1c94064f0fc54ab1cc", func := "netsegment/nsglaw41.JournalKeeps", spec := "journalKeeps", inPlace := ["slices.overlaps[int]"], unfollowed := true, recurses := true, apart := false }
def JournalKeepsSaid : Prop := journalKeepsRow.holds Try.pinned (OpenSpec.ofChange journalKeepsSpec)

/-- ITS FALSE NEIGHBOUR: 'it returns false'. Refute it at one input. -/
def journalKeepsWrong : ChangeSpec := { name := "journalKeeps", fn := fun _ => fun
  | [d1, d2] => { results := [.lit (.bool false)], args := [d1, d2] }
  | _ => none }
def JournalKeepsWrongFalsely : Prop := journalKeepsRow.holds Try.pinned (OpenSpec.ofChange journalKeepsWrong)

/-- 'nsglaw41.JournalOpens': WHATEVER THE INPUT: true; the input reads as it did. -/
def journalOpensSpec : ChangeSpec := { name := "journalOpens", fn := fun _ => fun
  | [d1, d2] => { results := [.lit (.bool true)], args := [d1, d2] }
  | _ => none }
def journalOpensRow : OpenClaim := { program := "ytobggnpnochnnaa", sum := "6dabbd5dbd172eebfe41de30474c543899294762b7b9de1c94064f0fc54ab1cc", func := "netsegment/nsglaw41.JournalOpens", spec := "journalOpens", inPlace := ["slices.overlaps[int]"], unfollowed := true, recurses := true, apart := false }
def JournalOpensSaid : Prop := journalOpensRow.holds Try.pinned (OpenSpec.ofChange journalOpensSpec)

/-- ITS FALSE NEIGHBOUR: 'it returns false'. Refute it at one input. -/
def journalOpensWrong : ChangeSpec := { name := "journalOpens", fn := fun _ => fun
  | [d1, d2] => { results := [.lit (.bool false)], args := [d1, d2] }
  | _ => none }
def JournalOpensWrongFalsely : Prop := journalOpensRow.holds Try.pinned (OpenSpec.ofChange journalOpensWrong)

/-- 'nsglaw41.JournalNil': WHATEVER THE INPUT: true; the input reads as it did. -/
def journalNilSpec : ChangeSpec := { name := "journalNil", fn := fun _ => fun
  | [d1, d2, d3] => { results := [.lit (.bool true)], args := [d1, d2, d3] }
  | _ => none }
def journalNilRow : OpenClaim := { program := "ytobggnpnochnnaa", sum := "6dabbd5dbd172eebfe41de30474c543899294762b7b9de1c94064f0fc54ab1cc", func := "netsegment/nsglaw41.JournalNil", spec := "journalNil", inPlace := ["slices.overlaps[int]"], unfollowed := true, recurses := true, apart := false }
def JournalNilSaid : Prop := journalNilRow.holds Try.pinned (OpenSpec.ofChange journalNilSpec)

/-- ITS FALSE NEIGHBOUR: 'it returns false'. Refute it at one input. -/
def journalNilWrong : ChangeSpec := { name := "journalNil", fn := fun _ => fun
  | [d1, d2, d3] => { results := [.lit (.bool false)], args := [d1, d2, d3] }
  | _ => none }
def JournalNilWrongFalsely : Prop := journalNilRow.holds Try.pinned (OpenSpec.ofChange journalNilWrong)

/-- 'nsglaw41.JournalCommands': WHATEVER THE INPUT: true; the input reads as it did. -/
def journalCommandsSpec : ChangeSpec := { name := "journalCommands", fn := fun _ => fun
  | [d] => { results := [.lit (.bool true)], args := [d] }
  | _ => none }
def journalCommandsRow : OpenClaim := { program := "ytobggnpnochnnaa", sum := "6dabbd5dbd172eebfe41de30474c543899294762b7b9de1c94064f0fc54ab1cc", func := "netsegment/nsglaw41.JournalCommands", spec := "journalCommands", inPlace := ["slices.overlaps[int]"], unfollowed := true, recurses := true, apart := false }
def JournalCommandsSaid : Prop := journalCommandsRow.holds Try.pinned (OpenSpec.ofChange journalCommandsSpec)

/-- ITS FALSE NEIGHBOUR: 'it returns false'. Refute it at one input. -/
def journalCommandsWrong : ChangeSpec := { name := "journalCommands", fn := fun _ => fun
  | [d] => { results := [.lit (.bool false)], args := [d] }
  | _ => none }
def JournalCommandsWrongFalsely : Prop := journalCommandsRow.holds Try.pinned (OpenSpec.ofChange journalCommandsWrong)

/-- 'nsglaw40.RolloutPlays': WHATEVER THE INPUT: true; the input reads as it did. -/
def rolloutPlaysSpec : ChangeSpec := { name := "rolloutPlays", fn := fun _ => fun
  | [d1, d2] => { results := [.lit (.bool true)], args := [d1, d2] }
  | _ => none }
def rolloutPlaysRow : OpenClaim := { program := "ytobggnpnochnnaa", sum := "6dabbd5dbd172eebfe41de30474c543899294762b7b9de1c94064f0fc54ab1cc", func := "netsegment/nsglaw40.RolloutPlays", spec := "rolloutPlays", inPlace := ["slices.overlaps[int]"], unfollowed := true, recurses := true, apart := false }
def RolloutPlaysSaid : Prop := rolloutPlaysRow.holds Try.pinned (OpenSpec.ofChange rolloutPlaysSpec)

/-- ITS FALSE NEIGHBOUR: 'it returns false'. Refute it at one input. -/
def rolloutPlaysWrong : ChangeSpec := { name := "rolloutPlays", fn := fun _ => fun
  | [d1, d2] => { results := [.lit (.bool false)], args := [d1, d2] }
  | _ => none }
def RolloutPlaysWrongFalsely : Prop := rolloutPlaysRow.holds Try.pinned (OpenSpec.ofChange rolloutPlaysWrong)

/-- 'nsglaw40.RolloutMakes': WHATEVER THE INPUT: true; the input reads as it did. -/
def rolloutMakesSpec : ChangeSpec := { name := "rolloutMakes", fn := fun _ => fun
  | [d1, d2, d3] => { results := [.lit (.bool true)], args := [d1, d2, d3] }
  | _ => none }
def rolloutMakesRow : OpenClaim := { program := "ytobggnpnochnnaa", sum := "6dabbd5dbd172eebfe41de30474c543899294762b7b9de1c94064f0fc54ab1cc", func := "netsegment/nsglaw40.RolloutMakes", spec := "rolloutMakes", inPlace := ["slices.overlaps[int]"], unfollowed := true, recurses := true, apart := false }
def RolloutMakesSaid : Prop := rolloutMakesRow.holds Try.pinned (OpenSpec.ofChange rolloutMakesSpec)

/-- ITS FALSE NEIGHBOUR: 'it returns false'. Refute it at one input. -/
def rolloutMakesWrong : ChangeSpec := { name := "rolloutMakes", fn := fun _ => fun
  | [d1, d2, d3] => { results := [.lit (.bool false)], args := [d1, d2, d3] }
  | _ => none }
def RolloutMakesWrongFalsely : Prop := rolloutMakesRow.holds Try.pinned (OpenSpec.ofChange rolloutMakesWrong)

/-- 'nsglaw40.RolloutStaysWithin': WHATEVER THE INPUT: true; the input reads as it did. -/
def rolloutStaysWithinSpec : ChangeSpec := { name := "rolloutStaysWithin", fn := fun _ => fun
  | [d1, d2] => { results := [.lit (.bool true)], args := [d1, d2] }
  | _ => none }
def rolloutStaysWithinRow : OpenClaim := { program := "ytobggnpnochnnaa", sum := "6dabbd5dbd172eebfe41de30474c543899294762b7b9de1c94064f0fc54ab1cc", func := "netsegment/nsglaw40.RolloutStaysWithin", spec := "rolloutStaysWithin", inPlace := ["slices.overlaps[int]"], unfollowed := true, recurses := true, apart := false }
def RolloutStaysWithinSaid : Prop := rolloutStaysWithinRow.holds Try.pinned (OpenSpec.ofChange rolloutStaysWithinSpec)

/-- ITS FALSE NEIGHBOUR: 'it returns false'. Refute it at one input. -/
def rolloutStaysWithinWrong : ChangeSpec := { name := "rolloutStaysWithin", fn := fun _ => fun
  | [d1, d2] => { results := [.lit (.bool false)], args := [d1, d2] }
  | _ => none }
def RolloutStaysWithinWrongFalsely : Prop := rolloutStaysWithinRow.holds Try.pinned (OpenSpec.ofChange rolloutStaysWithinWrong)

/-- 'nsglaw40.RolloutEnds': WHATEVER THE INPUT: true; the input reads as it did. -/
def rolloutEndsSpec : ChangeSpec := { name := "rolloutEnds", fn := fun _ => fun
  | [d] => { results := [.lit (.bool true)], args := [d] }
  | _ => none }
def rolloutEndsRow : OpenClaim := { program := "ytobggnpnochnnaa", sum := "6dabbd5dbd172eebfe41de30474c543899294762b7b9de1c94064f0fc54ab1cc", func := "netsegment/nsglaw40.RolloutEnds", spec := "rolloutEnds", inPlace := ["slices.overlaps[int]"], unfollowed := true, recurses := true, apart := false }
def RolloutEndsSaid : Prop := rolloutEndsRow.holds Try.pinned (OpenSpec.ofChange rolloutEndsSpec)

/-- ITS FALSE NEIGHBOUR: 'it returns false'. Refute it at one input. -/
def rolloutEndsWrong : ChangeSpec := { name := "rolloutEnds", fn := fun _ => fun
  | [d] => { results := [.lit (.bool false)], args := [d] }
  | _ => none }
def RolloutEndsWrongFalsely : Prop := rolloutEndsRow.holds Try.pinned (OpenSpec.ofChange rolloutEndsWrong)

/-- 'nsglaw40.RolloutWaits': WHATEVER THE INPUT: true; the input reads as it did. -/
def rolloutWaitsSpec : ChangeSpec := { name := "rolloutWaits", fn := fun _ => fun
  | [d] => { results := [.lit (.bool true)], args := [d] }
  | _ => none }
def rolloutWaitsRow : OpenClaim := { program := "ytobggnpnochnnaa", sum := "6dabbd5dbd172eebfe41de30474c543899294762b7b9de1c94064f0fc54ab1cc", func := "netsegment/nsglaw40.RolloutWaits", spec := "rolloutWaits", inPlace := ["slices.overlaps[int]"], unfollowed := true, recurses := true, apart := false }
def RolloutWaitsSaid : Prop := rolloutWaitsRow.holds Try.pinned (OpenSpec.ofChange rolloutWaitsSpec)

/-- ITS FALSE NEIGHBOUR: 'it returns false'. Refute it at one input. -/
def rolloutWaitsWrong : ChangeSpec := { name := "rolloutWaits", fn := fun _ => fun
  | [d] => { results := [.lit (.bool false)], args := [d] }
  | _ => none }
def RolloutWaitsWrongFalsely : Prop := rolloutWaitsRow.holds Try.pinned (OpenSpec.ofChange rolloutWaitsWrong)

/-- 'nsglaw40.RolloutTimeouts': WHATEVER THE INPUT: true; the input reads as it did. -/
def rolloutTimeoutsSpec : ChangeSpec := { name := "rolloutTimeouts", fn := fun _ => fun
  | [d1, d2] => { results := [.lit (.bool true)], args := [d1, d2] }
  | _ => none }
def rolloutTimeoutsRow : OpenClaim := { program := "ytobggnpnochnnaa", sum := "6dabbd5dbd172eebfe41de30474c543899294762b7b9de1c94064f0fc54ab1cc", func := "netsegment/nsglaw40.RolloutTimeouts", spec := "rolloutTimeouts", inPlace := ["slices.overlaps[int]"], unfollowed := true, recurses := true, apart := false }
def RolloutTimeoutsSaid : Prop := rolloutTimeoutsRow.holds Try.pinned (OpenSpec.ofChange rolloutTimeoutsSpec)

/-- ITS FALSE NEIGHBOUR: 'it returns false'. Refute it at one input. -/
def rolloutTimeoutsWrong : ChangeSpec := { name := "rolloutTimeouts", fn := fun _ => fun
  | [d1, d2] => { results := [.lit (.bool false)], args := [d1, d2] }
  | _ => none }
def RolloutTimeoutsWrongFalsely : Prop := rolloutTimeoutsRow.holds Try.pinned (OpenSpec.ofChange rolloutTimeoutsWrong)

/-- 'nsglaw40.RolloutNil': WHATEVER THE INPUT: true; the input reads as it did. -/
def rolloutNilSpec : ChangeSpec := { name := "rolloutNil", fn := fun _ => fun
  | [d1, d2] => { results := [.lit (.bool true)], args := [d1, d2] }
  | _ => none }
def rolloutNilRow : OpenClaim := { program := "ytobggnpnochnnaa", sum := "6dabbd5dbd172eebfe41de30474c543899294762b7b9de1c94064f0fc54ab1cc", func := "netsegment/nsglaw40.RolloutNil", spec := "rolloutNil", inPlace := ["slices.overlaps[int]"], unfollowed := true, recurses := true, apart := false }
def RolloutNilSaid : Prop := rolloutNilRow.holds Try.pinned (OpenSpec.ofChange rolloutNilSpec)

/-- ITS FALSE NEIGHBOUR: 'it returns false'. Refute it at one input. -/
def rolloutNilWrong : ChangeSpec := { name := "rolloutNil", fn := fun _ => fun
  | [d1, d2] => { results := [.lit (.bool false)], args := [d1, d2] }
  | _ => none }
def RolloutNilWrongFalsely : Prop := rolloutNilRow.holds Try.pinned (OpenSpec.ofChange rolloutNilWrong)

/-- 'nsglaw41.JournalFollows': WHATEVER THE INPUT: true; the input reads as it did. -/
def journalFollowsSpec : ChangeSpec := { name := "journalFollows", fn := fun _ => fun
  | [d1, d2] => { results := [.lit (.bool true)], args := [d1, d2] }
  | _ => none }
def journalFollowsRow : OpenClaim := { program := "ytobggnpnochnnaa", sum := "6dabbd5dbd172eebfe41de30474c543899294762b7b9de1c94064f0fc54ab1cc", func := "netsegment/nsglaw41.JournalFollows", spec := "journalFollows", inPlace := ["slices.overlaps[int]"], unfollowed := true, recurses := true, apart := false }
def JournalFollowsSaid : Prop := journalFollowsRow.holds Try.pinned (OpenSpec.ofChange journalFollowsSpec)

/-- ITS FALSE NEIGHBOUR: 'it returns false'. Refute it at one input. -/
def journalFollowsWrong : ChangeSpec := { name := "journalFollows", fn := fun _ => fun
  | [d1, d2] => { results := [.lit (.bool false)], args := [d1, d2] }
  | _ => none }
def JournalFollowsWrongFalsely : Prop := journalFollowsRow.holds Try.pinned (OpenSpec.ofChange journalFollowsWrong)

/- THE SECOND FORM. 'bulk': how many values and letters a reading holds, each counted each time it is reached (what is shared counts as often as it is met; a slice's spare places count too). A statement '..UptoSaid' is the law's where the arguments, and the package variables that the reading takes, are together of bulk at most 1048576: NARROWER than '..Said'. Prove '..Said' where nothing that the law and all that it calls make is longer than what came in: it says more and counts as full. Else prove '..UptoSaid'. A law counts once. -/
mutual
def uptoBulk {H : Type} : DataW H → Nat
  | .lit (.string bytes) => bytes.length + 1
  | .lit _ => 1
  | .nil => 1
  | .ptr d => uptoBulk d + 1
  | .slice elems spare => uptoBulkAll elems + uptoBulkAll spare + 1
  | .agg parts => uptoBulkAll parts + 1
  | .iface _ d => uptoBulk d + 1
  | .map entries => uptoBulkEntries entries + 1
  | .held _ => 1
def uptoBulkAll {H : Type} : List (DataW H) → Nat
  | [] => 0
  | d :: r => uptoBulk d + uptoBulkAll r
def uptoBulkEntries {H : Type} : List (Lit × DataW H) → Nat
  | [] => 0
  | x :: r => uptoBulkEntry x + uptoBulkEntries r
def uptoBulkEntry {H : Type} : Lit × DataW H → Nat
  | (.string bytes, d) => bytes.length + uptoBulk d + 1
  | (_, d) => uptoBulk d + 1
 end
def uptoSmall : (H : Type) → List (DataW H) → Bool := fun _ ds => decide (uptoBulkAll ds ≤ 1048576)
def OpenSpec.upto (s : _root_.Go.ChangeSpec) : _root_.Go.OpenSpec := { _root_.Go.OpenSpec.ofChange s with cond := some uptoSmall }

/-- 'nsglaw41.JournalEncodes', WHERE WHAT IT READS IS OF BULK AT MOST 1048576: true; the input reads as it did. -/
def journalEncodesUptoRow : OpenClaim := { program := "ytobggnpnochnnaa", sum := "6dabbd5dbd172eebfe41de30474c543899294762b7b9de1c94064f0fc54ab1cc", func := "netsegment/nsglaw41.JournalEncodes", spec := "journalEncodes", inPlace := ["slices.overlaps[int]"], unfollowed := true, recurses := true, apart := false, narrowed := true }
def JournalEncodesUptoSaid : Prop := journalEncodesUptoRow.holds Try.pinned (OpenSpec.upto journalEncodesSpec)

/-- 'nsglaw41.JournalDecodes', WHERE WHAT IT READS IS OF BULK AT MOST 1048576: true; the input reads as it did. -/
def journalDecodesUptoRow : OpenClaim := { program := "ytobggnpnochnnaa", sum := "6dabbd5dbd172eebfe41de30474c543899294762b7b9de1c94064f0fc54ab1cc", func := "netsegment/nsglaw41.JournalDecodes", spec := "journalDecodes", inPlace := ["slices.overlaps[int]"], unfollowed := true, recurses := true, apart := false, narrowed := true }
def JournalDecodesUptoSaid : Prop := journalDecodesUptoRow.holds Try.pinned (OpenSpec.upto journalDecodesSpec)

/-- 'nsglaw41.JournalNotices', WHERE WHAT IT READS IS OF BULK AT MOST 1048576: true; the input reads as it did. -/
def journalNoticesUptoRow : OpenClaim := { program := "ytobggnpnochnnaa", sum := "6dabbd5dbd172eebfe41de30474c543899294762b7b9de1c94064f0fc54ab1cc", func := "netsegment/nsglaw41.JournalNotices", spec := "journalNotices", inPlace := ["slices.overlaps[int]"], unfollowed := true, recurses := true, apart := false, narrowed := true }
def JournalNoticesUptoSaid : Prop := journalNoticesUptoRow.holds Try.pinned (OpenSpec.upto journalNoticesSpec)

/-- 'nsglaw41.JournalReplays', WHERE WHAT IT READS IS OF BULK AT MOST 1048576: true; the input reads as it did. -/
def journalReplaysUptoRow : OpenClaim := { program := "ytobggnpnochnnaa", sum := "6dabbd5dbd172eebfe41de30474c543899294762b7b9de1c94064f0fc54ab1cc", func := "netsegment/nsglaw41.JournalReplays", spec := "journalReplays", inPlace := ["slices.overlaps[int]"], unfollowed := true, recurses := true, apart := false, narrowed := true }
def JournalReplaysUptoSaid : Prop := journalReplaysUptoRow.holds Try.pinned (OpenSpec.upto journalReplaysSpec)

/-- 'nsglaw41.JournalKeeps', WHERE WHAT IT READS IS OF BULK AT MOST 1048576: true; the input reads as it did. -/
def journalKeepsUptoRow : OpenClaim := { program := "ytobggnpnochnnaa", sum := "6dabbd5dbd172eebfe41de30474c543899294762b7b9de1c94064f0fc54ab1cc", func := "netsegment/nsglaw41.JournalKeeps", spec := "journalKeeps", inPlace := ["slices.overlaps[int]"], unfollowed := true, recurses := true, apart := false, narrowed := true }
def JournalKeepsUptoSaid : Prop := journalKeepsUptoRow.holds Try.pinned (OpenSpec.upto journalKeepsSpec)

/-- 'nsglaw41.JournalOpens', WHERE WHAT IT READS IS OF BULK AT MOST 1048576: true; the input reads as it did. -/
def journalOpensUptoRow : OpenClaim := { program := "ytobggnpnochnnaa", sum := "6dabbd5dbd172eebfe41de30474c543899294762b7b9de1c94064f0fc54ab1cc", func := "netsegment/nsglaw41.JournalOpens", spec := "journalOpens", inPlace := ["slices.overlaps[int]"], unfollowed := true, recurses := true, apart := false, narrowed := true }
def JournalOpensUptoSaid : Prop := journalOpensUptoRow.holds Try.pinned (OpenSpec.upto journalOpensSpec)

/-- 'nsglaw41.JournalNil', WHERE WHAT IT READS IS OF BULK AT MOST 1048576: true; the input reads as it did. -/
def journalNilUptoRow : OpenClaim := { program := "ytobggnpnochnnaa", sum := "6dabbd5dbd172eebfe41de30474c543899294762b7b9de1c94064f0fc54ab1cc", func := "netsegment/nsglaw41.JournalNil", spec := "journalNil", inPlace := ["slices.overlaps[int]"], unfollowed := true, recurses := true, apart := false, narrowed := true }
def JournalNilUptoSaid : Prop := journalNilUptoRow.holds Try.pinned (OpenSpec.upto journalNilSpec)

/-- 'nsglaw41.JournalCommands', WHERE WHAT IT READS IS OF BULK AT MOST 1048576: true; the input reads as it did. -/
def journalCommandsUptoRow : OpenClaim := { program := "ytobggnpnochnnaa", sum := "6dabbd5dbd172eebfe41de30474c543899294762b7b9de1c94064f0fc54ab1cc", func := "netsegment/nsglaw41.JournalCommands", spec := "journalCommands", inPlace := ["slices.overlaps[int]"], unfollowed := true, recurses := true, apart := false, narrowed := true }
def JournalCommandsUptoSaid : Prop := journalCommandsUptoRow.holds Try.pinned (OpenSpec.upto journalCommandsSpec)

/-- 'nsglaw40.RolloutPlays', WHERE WHAT IT READS IS OF BULK AT MOST 1048576: true; the input reads as it did. -/
def rolloutPlaysUptoRow : OpenClaim := { program := "ytobggnpnochnnaa", sum := "6dabbd5dbd172eebfe41de30474c543899294762b7b9de1c94064f0fc54ab1cc", func := "netsegment/nsglaw40.RolloutPlays", spec := "rolloutPlays", inPlace := ["slices.overlaps[int]"], unfollowed := true, recurses := true, apart := false, narrowed := true }
def RolloutPlaysUptoSaid : Prop := rolloutPlaysUptoRow.holds Try.pinned (OpenSpec.upto rolloutPlaysSpec)

/-- 'nsglaw40.RolloutMakes', WHERE WHAT IT READS IS OF BULK AT MOST 1048576: true; the input reads as it did. -/
def rolloutMakesUptoRow : OpenClaim := { program := "ytobggnpnochnnaa", sum := "6dabbd5dbd172eebfe41de30474c543899294762b7b9de1c94064f0fc54ab1cc", func := "netsegment/nsglaw40.RolloutMakes", spec := "rolloutMakes", inPlace := ["slices.overlaps[int]"], unfollowed := true, recurses := true, apart := false, narrowed := true }
def RolloutMakesUptoSaid : Prop := rolloutMakesUptoRow.holds Try.pinned (OpenSpec.upto rolloutMakesSpec)

/-- 'nsglaw40.RolloutStaysWithin', WHERE WHAT IT READS IS OF BULK AT MOST 1048576: true; the input reads as it did. -/
def rolloutStaysWithinUptoRow : OpenClaim := { program := "ytobggnpnochnnaa", sum := "6dabbd5dbd172eebfe41de30474c543899294762b7b9de1c94064f0fc54ab1cc", func := "netsegment/nsglaw40.RolloutStaysWithin", spec := "rolloutStaysWithin", inPlace := ["slices.overlaps[int]"], unfollowed := true, recurses := true, apart := false, narrowed := true }
def RolloutStaysWithinUptoSaid : Prop := rolloutStaysWithinUptoRow.holds Try.pinned (OpenSpec.upto rolloutStaysWithinSpec)

/-- 'nsglaw40.RolloutEnds', WHERE WHAT IT READS IS OF BULK AT MOST 1048576: true; the input reads as it did. -/
def rolloutEndsUptoRow : OpenClaim := { program := "ytobggnpnochnnaa", sum := "6dabbd5dbd172eebfe41de30474c543899294762b7b9de1c94064f0fc54ab1cc", func := "netsegment/nsglaw40.RolloutEnds", spec := "rolloutEnds", inPlace := ["slices.overlaps[int]"], unfollowed := true, recurses := true, apart := false, narrowed := true }
def RolloutEndsUptoSaid : Prop := rolloutEndsUptoRow.holds Try.pinned (OpenSpec.upto rolloutEndsSpec)

/-- 'nsglaw40.RolloutWaits', WHERE WHAT IT READS IS OF BULK AT MOST 1048576: true; the input reads as it did. -/
def rolloutWaitsUptoRow : OpenClaim := { program := "ytobggnpnochnnaa", sum := "6dabbd5dbd172eebfe41de30474c543899294762b7b9de1c94064f0fc54ab1cc", func := "netsegment/nsglaw40.RolloutWaits", spec := "rolloutWaits", inPlace := ["slices.overlaps[int]"], unfollowed := true, recurses := true, apart := false, narrowed := true }
def RolloutWaitsUptoSaid : Prop := rolloutWaitsUptoRow.holds Try.pinned (OpenSpec.upto rolloutWaitsSpec)

/-- 'nsglaw40.RolloutTimeouts', WHERE WHAT IT READS IS OF BULK AT MOST 1048576: true; the input reads as it did. -/
def rolloutTimeoutsUptoRow : OpenClaim := { program := "ytobggnpnochnnaa", sum := "6dabbd5dbd172eebfe41de30474c543899294762b7b9de1c94064f0fc54ab1cc", func := "netsegment/nsglaw40.RolloutTimeouts", spec := "rolloutTimeouts", inPlace := ["slices.overlaps[int]"], unfollowed := true, recurses := true, apart := false, narrowed := true }
def RolloutTimeoutsUptoSaid : Prop := rolloutTimeoutsUptoRow.holds Try.pinned (OpenSpec.upto rolloutTimeoutsSpec)

/-- 'nsglaw40.RolloutNil', WHERE WHAT IT READS IS OF BULK AT MOST 1048576: true; the input reads as it did. -/
def rolloutNilUptoRow : OpenClaim := { program := "ytobggnpnochnnaa", sum := "6dabbd5dbd172eebfe41de30474c543899294762b7b9de1c94064f0fc54ab1cc", func := "netsegment/nsglaw40.RolloutNil", spec := "rolloutNil", inPlace := ["slices.overlaps[int]"], unfollowed := true, recurses := true, apart := false, narrowed := true }
def RolloutNilUptoSaid : Prop := rolloutNilUptoRow.holds Try.pinned (OpenSpec.upto rolloutNilSpec)

/-- 'nsglaw41.JournalFollows', WHERE WHAT IT READS IS OF BULK AT MOST 1048576: true; the input reads as it did. -/
def journalFollowsUptoRow : OpenClaim := { program := "ytobggnpnochnnaa", sum := "6dabbd5dbd172eebfe41de30474c543899294762b7b9de1c94064f0fc54ab1cc", func := "netsegment/nsglaw41.JournalFollows", spec := "journalFollows", inPlace := ["slices.overlaps[int]"], unfollowed := true, recurses := true, apart := false, narrowed := true }
def JournalFollowsUptoSaid : Prop := journalFollowsUptoRow.holds Try.pinned (OpenSpec.upto journalFollowsSpec)

end Rows
end Go.Proofs.Ytobggnpnochnnaa
