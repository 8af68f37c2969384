/- The controller of an update, plain: its steps keep what must hold. -/
import Derived.Test.YtobggnpnochnnaaCtlM
set_option linter.unusedVariables false
set_option linter.unusedSimpArgs false
namespace Go.Proofs.Ytobggnpnochnnaa.V
open Go.RowKit
section
variable {n : Nat} {rds : List (List Chg)} {sts : List (List Int)} {c : Ctl}
theorem startC_ok (P : PlanOK n rds sts) (h : CtlOK n rds.length c) (hs : 0 ≤ c.round → c.round < rds.length → (c.back = false → c.seq ≤ c.round) ∧ (c.back = true → c.seq + c.round ≤ 2 * rds.length + 1)) :
    CtlOK n rds.length (startC rds sts c) ∧ (startC rds sts c).round = c.round ∧ (startC rds sts c).back = c.back ∧ (startC rds sts c).sent.length ≤ c.sent.length + 1000 := by
  unfold startC
  split
  · exact ⟨h, rfl, rfl, by omega⟩
  · rename_i hr
    have hx := rd_of P (k := c.round.toNat) (by omega)
    have hQ : ChgK n {c with seq := c.seq + 1} ((rds.getD c.round.toNat []).foldl (chgC (sts.getD c.round.toNat [])) {c with seq := c.seq + 1}) := foldl_chgK _ (ChgK.refl h.wt) hx.2
    revert hQ
    generalize (rds.getD c.round.toNat []).foldl (chgC (sts.getD c.round.toNat [])) {c with seq := c.seq + 1} = c1
    intro hQ
    have hwl := hQ.wt.len
    have := P.n1
    refine ⟨⟨hQ.tg.trans h.tg, (congrArg List.length hQ.kn).trans h.kn, hQ.wt, ?_, ?_⟩, hQ.rd, hQ.bk, ?_⟩
    · show -1 ≤ c1.round ∧ c1.round ≤ _; rw [hQ.rd]; exact h.rd
    · show 0 ≤ c1.seq ∧ (c1.back = false → c1.seq ≤ c1.round + 1 ∧ 0 ≤ c1.round) ∧ (c1.back = true → c1.seq + c1.round ≤ _)
      rw [hQ.sq, hQ.bk, hQ.rd]
      have h1 := h.sq
      have h2 := hs (by omega) (by omega)
      refine ⟨by show 0 ≤ c.seq + 1; omega, fun e => ?_, fun e => ?_⟩
      · have := h2.1 e; show c.seq + 1 ≤ c.round + 1 ∧ 0 ≤ c.round; omega
      · have := h2.2 e; show c.seq + 1 + c.round ≤ _; omega
    · show (c1.sent ++ c1.waiting).length ≤ _
      have e := congrArg List.length hQ.sn
      rw [List.length_append]
      have e' : c1.sent.length = c.sent.length := e
      omega
def advC (rds : List (List Chg)) (sts : List (List Int)) : Nat → Ctl → Ctl
  | 0, c => c
  | f + 1, c => if 0 < c.waiting.length then c else if c.back = true ∧ 0 ≤ c.round then advC rds sts f (startC rds sts {c with round := c.round - 1})
    else if ¬ c.back = true ∧ c.round < rds.length then advC rds sts f (startC rds sts {c with round := c.round + 1}) else c
def advA (rds : List (List Chg)) (sts : List (List Int)) (c : Ctl) : Ctl := advC rds sts 40 c
def measC (R : Nat) (c : Ctl) : Int := if c.back = true then c.round + 1 else R - c.round
theorem CtlOK.down (h : CtlOK n rds.length c) (hb : c.back = true) (h0 : 0 ≤ c.round) : CtlOK n rds.length {c with round := c.round - 1} :=
  ⟨h.tg, h.kn, h.wt, by have := h.rd; show -1 ≤ c.round - 1 ∧ c.round - 1 ≤ _; omega, h.sq.1, fun e => (Bool.false_ne_true ((show c.back = false from e).symm.trans hb)).elim, fun e => by have := h.sq.2.2 e; show c.seq + (c.round - 1) ≤ _; omega⟩
theorem CtlOK.up (h : CtlOK n rds.length c) (hb : ¬ c.back = true) (h0 : c.round < rds.length) : CtlOK n rds.length {c with round := c.round + 1} :=
  ⟨h.tg, h.kn, h.wt, by have := h.rd; show -1 ≤ c.round + 1 ∧ c.round + 1 ≤ _; omega, h.sq.1, fun e => by have := h.sq.2.1 e; show c.seq ≤ c.round + 1 + 1 ∧ 0 ≤ c.round + 1; omega, fun e => absurd e hb⟩
theorem step_down (P : PlanOK n rds sts) (h : CtlOK n rds.length c) (hb : c.back = true) (h0 : 0 ≤ c.round) :
    CtlOK n rds.length (startC rds sts {c with round := c.round - 1}) ∧ measC rds.length (startC rds sts {c with round := c.round - 1}) = measC rds.length c - 1 ∧ (startC rds sts {c with round := c.round - 1}).sent.length ≤ c.sent.length + 1000 := by
  obtain ⟨h1, h2, h3, h4⟩ := startC_ok P (h.down hb h0) fun _ _ => ⟨fun e => (Bool.false_ne_true ((show c.back = false from e).symm.trans hb)).elim, fun e => by have := h.sq.2.2 e; show c.seq + (c.round - 1) ≤ _; omega⟩
  refine ⟨h1, ?_, h4⟩
  unfold measC
  rw [h2, h3, if_pos hb, if_pos hb]
  show c.round - 1 + 1 = c.round + 1 - 1; omega
theorem step_up (P : PlanOK n rds sts) (h : CtlOK n rds.length c) (hb : ¬ c.back = true) (h0 : c.round < rds.length) :
    CtlOK n rds.length (startC rds sts {c with round := c.round + 1}) ∧ measC rds.length (startC rds sts {c with round := c.round + 1}) = measC rds.length c - 1 ∧ (startC rds sts {c with round := c.round + 1}).sent.length ≤ c.sent.length + 1000 := by
  obtain ⟨h1, h2, h3, h4⟩ := startC_ok P (h.up hb h0) fun _ _ => ⟨fun e => by have := h.sq.2.1 e; show c.seq ≤ c.round + 1; omega, fun e => absurd e hb⟩
  refine ⟨h1, ?_, h4⟩
  unfold measC
  rw [h2, h3, if_neg hb, if_neg hb]
  show _ - (c.round + 1) = _ - c.round - 1; omega
theorem advC_ok (P : PlanOK n rds sts) : ∀ (f : Nat) {c : Ctl}, CtlOK n rds.length c → CtlOK n rds.length (advC rds sts f c) ∧ (advC rds sts f c).sent.length ≤ c.sent.length + 1000 * f ∧ (advC rds sts f c).back = c.back
  | 0, c, h => ⟨h, by rw [advC]; omega, rfl⟩
  | f + 1, c, h => by
    rw [advC]
    split
    · exact ⟨h, by omega, rfl⟩
    · split
      · rename_i hb
        obtain ⟨h1, _, h3⟩ := step_down P h hb.1 hb.2
        obtain ⟨g1, g2, g3⟩ := advC_ok P f h1
        have := (startC_ok P (h.down hb.1 hb.2) fun _ _ => ⟨fun e => (Bool.false_ne_true ((show c.back = false from e).symm.trans hb.1)).elim, fun e => by have := h.sq.2.2 e; show c.seq + (c.round - 1) ≤ _; omega⟩).2.2.1
        exact ⟨g1, by omega, g3.trans this⟩
      · split
        · rename_i hb
          obtain ⟨h1, _, h3⟩ := step_up P h hb.1 hb.2
          obtain ⟨g1, g2, g3⟩ := advC_ok P f h1
          have := (startC_ok P (h.up hb.1 hb.2) fun _ _ => ⟨fun e => by have := h.sq.2.1 e; show c.seq ≤ c.round + 1; omega, fun e => absurd e hb.1⟩).2.2.1
          exact ⟨g1, by omega, g3.trans this⟩
        · exact ⟨h, by omega, rfl⟩
theorem meas_pos (h : CtlOK n rds.length c) : 0 ≤ measC rds.length c := by
  unfold measC
  have h1 := h.rd
  split <;> omega
theorem meas_le (h : CtlOK n rds.length c) (hR : rds.length ≤ 16) : measC rds.length c ≤ 17 := by
  unfold measC
  have := h.rd
  split
  · omega
  · rename_i hb
    have := h.sq.2.1 (by simpa using hb)
    omega
end
theorem keep_rds {m m1 : Mach} (h : KeepM m m1) : rdsM m1 = rdsM m := by unfold rdsM; rw [h.1]
theorem keep_sts {m m1 : Mach} (h : KeepM m m1) : stsM m1 = stsM m := by unfold stsM; rw [h.2]
theorem KeepM.trans {m m1 m2 : Mach} (h : KeepM m m1) (k : KeepM m1 m2) : KeepM m m2 := ⟨k.1.trans h.1, k.2.trans h.2⟩
theorem machOK_of {m m1 : Mach} (h : MachOK m) (k : KeepM m m1) (c : CtlOK m.target.xs.length (rdsM m).length (absM m1)) : MachOK m1 := by
  have ht : m1.target.xs.length = m.target.xs.length := c.tg
  unfold MachOK
  rw [keep_rds k, keep_sts k, ht]
  exact ⟨h.1, c⟩
end Go.Proofs.Ytobggnpnochnnaa.V
