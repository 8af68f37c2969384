/- The controller, plain: what each message does. -/
import Derived.Test.YtobggnpnochnnaaCtlN
set_option linter.unusedVariables false
set_option linter.unusedSimpArgs false
namespace Go.Proofs.Ytobggnpnochnnaa.V
open Go.RowKit
def rmC (rds : List (List Chg)) (sts : List (List Int)) (c : Ctl) (d : Int) : Ctl := advA rds sts {c with waiting := c.waiting.filter fun y => !(y == d)}
def ackC (rds : List (List Chg)) (sts : List (List Int)) (c : Ctl) (d i s : Int) : Ctl := if i = c.known.getD d.toNat 0 ∧ s = c.seq then rmC rds sts c d else c
def helloC (c : Ctl) (d i : Int) : Ctl := if c.known.getD d.toNat 0 < i then {c with known := c.known.set d.toNat i, waiting := insW c.waiting d, sent := c.sent ++ [d]} else c
def abortC (rds : List (List Chg)) (sts : List (List Int)) (c : Ctl) : Ctl := if c.back = true then c else advA rds sts (startC rds sts {c with back := true})
section
variable {n : Nat} {rds : List (List Chg)} {sts : List (List Int)} {c : Ctl}
theorem CtlOK.bk (h : CtlOK n rds.length c) (hb : ¬ c.back = true) : CtlOK n rds.length {c with back := true} :=
  ⟨h.tg, h.kn, h.wt, h.rd, h.sq.1, (fun e => by cases e), fun _ => by have h1 := h.sq.2.1 (by simpa using hb); have h2 := h.rd; show c.seq + c.round ≤ _; omega⟩
theorem abort_ok (P : PlanOK n rds sts) (h : CtlOK n rds.length c) (hb : ¬ c.back = true) : CtlOK n rds.length (startC rds sts {c with back := true}) ∧ (startC rds sts {c with back := true}).sent.length ≤ c.sent.length + 1000 := by
  obtain ⟨h1, _, _, h4⟩ := startC_ok P (h.bk hb) fun h0 h1 => ⟨(fun e => by cases e), fun _ => by
    have h2 := h.sq.2.1 (by simpa using hb)
    have h3 : c.round < rds.length := h1
    show c.seq + c.round ≤ _; omega⟩
  exact ⟨h1, h4⟩
end
end Go.Proofs.Ytobggnpnochnnaa.V
