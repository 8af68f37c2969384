/- An operation whose guard has no value. -/
import Derived.Test.YtobggnpnochnnaaGrpD
set_option linter.unusedVariables false
set_option linter.unusedSimpArgs false
namespace Go.Proofs.Ytobggnpnochnnaa.V
open Go.RowKit
section
variable {P : Program} {ops : Array Oper} {o : Oper} {F : Nat → Prop} {w0 : World} {m0 : List BS} {n : Nat} {L : List (Nat × Value)} {fs : List RF} {os : List OF}
theorem goffu (gd : Nat) {b : Bool} {gv : Value} {d : Nat} (hv : look gd L = some gv)
    (hk : ∃ j p, o.guard = some (j, b) ∧ ops[j]? = some p ∧ p.dst = some gd ∧ gd < n ∧ o.dst = some d ∧ d < n := by exact ⟨_, _, rfl, rfl, rfl, by decide, rfl, by decide⟩) (hbc : gv ≠ .bool b := by intro h; cases h) :
    One P ops (St F w0 m0 n L fs os) [] o (St F w0 m0 n ((d, undef) :: L) fs os) := fun K Q a w S k => by
  obtain ⟨j, p, h1, h2, h3, h4, h5, h6⟩ := hk
  have hw := (want_iff (a := a) (o := o) h1 h2 h3 (by rw [S.s.size]; exact h4) (S.s.get gd _ hv))
  unfold Core
  rw [if_neg (fun e => hbc (hw.1 e)), h5]
  exact k _ _ ⟨S.s.put h6, S.m⟩ (Ch.refl _)
end
end Go.Proofs.Ytobggnpnochnnaa.V
