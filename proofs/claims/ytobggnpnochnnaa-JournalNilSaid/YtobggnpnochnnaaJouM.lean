/- The state of the controller after records, plain. -/
import Derived.Test.YtobggnpnochnnaaCmdM
import Derived.Test.YtobggnpnochnnaaDecM
set_option linter.unusedVariables false
set_option linter.unusedSimpArgs false
namespace Go.Proofs.Ytobggnpnochnnaa.V
open Go.RowKit
section
variable {n : Nat} {rds : List (List Chg)} {sts : List (List Int)} {c : Ctl}
theorem CtlOK.sent (h : CtlOK n rds.length c) (l : List Int) : CtlOK n rds.length {c with sent := l} := ⟨h.tg, h.kn, h.wt, h.rd, h.sq⟩
theorem advA_ok (P : PlanOK n rds sts) (h : CtlOK n rds.length c) : CtlOK n rds.length (advA rds sts c) ∧ (advA rds sts c).sent.length ≤ c.sent.length + 40000 ∧ (advA rds sts c).back = c.back := by
  have := advC_ok P 40 h
  exact ⟨this.1, by have := this.2.1; unfold advA; omega, this.2.2⟩
theorem rmC_ok (P : PlanOK n rds sts) (h : CtlOK n rds.length c) (d : Int) : CtlOK n rds.length (rmC rds sts c d) ∧ (rmC rds sts c d).sent.length ≤ c.sent.length + 40000 := by
  have h2 : CtlOK n rds.length {c with waiting := c.waiting.filter fun y => !(y == d)} := ⟨h.tg, h.kn, h.wt.filt _, h.rd, h.sq⟩
  have := advA_ok P h2
  exact ⟨this.1, this.2.1⟩
theorem helloC_ok (h : CtlOK n rds.length c) {d i : Int} (h0 : 0 ≤ d) (h1 : d < n) : CtlOK n rds.length (helloC c d i) ∧ (helloC c d i).sent.length ≤ c.sent.length + 1 := by
  unfold helloC
  split
  · exact ⟨⟨h.tg, by simp [h.kn], h.wt.ins h0 h1, h.rd, h.sq⟩, by simp⟩
  · exact ⟨h, by omega⟩
theorem abortC_ok (P : PlanOK n rds sts) (h : CtlOK n rds.length c) : CtlOK n rds.length (abortC rds sts c) ∧ (abortC rds sts c).sent.length ≤ c.sent.length + 41000 := by
  unfold abortC
  split
  · exact ⟨h, by omega⟩
  · rename_i hb
    obtain ⟨h1, h2⟩ := abort_ok P h hb
    have := advA_ok P h1
    exact ⟨this.1, by have := this.2.1; omega⟩
/-- what a record does, before the list of commands is emptied -/
def stepK (rds : List (List Chg)) (sts : List (List Int)) (c : Ctl) (r : Rec) : Ctl :=
  if r.kind = 1 then ackC rds sts c r.dev r.inc r.seq else if r.kind = 2 then helloC c r.dev r.inc else if r.kind = 3 then rmC rds sts c r.dev else if r.kind = 4 then abortC rds sts c else c
def stepJ (rds : List (List Chg)) (sts : List (List Int)) (c : Ctl) (r : Rec) : Ctl := {stepK rds sts c r with sent := []}
theorem ackC_ok (P : PlanOK n rds sts) (h : CtlOK n rds.length c) (d i s : Int) : CtlOK n rds.length (ackC rds sts c d i s) ∧ (ackC rds sts c d i s).sent.length ≤ c.sent.length + 40000 := by
  unfold ackC
  split
  · exact rmC_ok P h d
  · exact ⟨h, by omega⟩
theorem stepK_ok (P : PlanOK n rds sts) (h : CtlOK n rds.length c) {r : Rec} (h0 : 0 ≤ r.dev) (h1 : r.dev < n) : CtlOK n rds.length (stepK rds sts c r) := by
  unfold stepK
  repeat' split
  · exact (ackC_ok P h _ _ _).1
  · exact (helloC_ok h h0 h1).1
  · exact (rmC_ok P h _).1
  · exact (abortC_ok P h).1
  · exact h
theorem stepJ_ok (P : PlanOK n rds sts) (h : CtlOK n rds.length c) {r : Rec} (h0 : 0 ≤ r.dev) (h1 : r.dev < n) : CtlOK n rds.length (stepJ rds sts c r) := (stepK_ok P h h0 h1).sent []
end
/-- the state after a list of records, from the beginning -/
def c0J (rds : List (List Chg)) (sts : List (List Int)) (n : Int) : Ctl := {startC rds sts (newC n) with sent := []}
def foldJ (rds : List (List Chg)) (sts : List (List Int)) (n : Int) (l : List Rec) : Ctl := l.foldl (stepJ rds sts) (c0J rds sts n)
def allJ (n : Int) (l : List Rec) : Prop := ∀ r ∈ l, recOK r ∧ r.dev < n
instance (n : Int) (l : List Rec) : Decidable (allJ n l) := by unfold allJ; infer_instance
/-- the answer of Replay: the error, and the state -/
def replE (p : Plan) (n : Int) (l : List Rec) : Int := if ¬ ((statesP p.staged (rdsP p) n).isSome = true ∧ p.rounds.xs.length ≤ 16) then 1 else if 4096 < l.length then 3 else if allJ n l then 0 else 1
def ctlR (r : Ctrl) (c : Ctl) : Prop := r.round = c.round ∧ r.back = c.back ∧ r.seq = c.seq ∧ r.target.xs = c.target ∧ r.known.xs = c.known ∧ r.waiting.xs = c.waiting
def zeroC : Ctl := ⟨0, false, 0, [], [], [], []⟩
def replC (p : Plan) (n : Int) (l : List Rec) : Ctl := if replE p n l = 0 then foldJ (rdsP p) (stsD (statesP p.staged (rdsP p) n)) n l else zeroC
theorem same_of_ctlR {x y : Ctrl} {c : Ctl} (h : ctlR x c) (k : ctlR y c) : sameC x y := by
  obtain ⟨h1, h2, h3, h4, h5, h6⟩ := h
  obtain ⟨k1, k2, k3, k4, k5, k6⟩ := k
  exact ⟨h1.trans k1.symm, by rw [h2, k2], h3.trans k3.symm, h4.trans k4.symm, h5.trans k5.symm, h6.trans k6.symm⟩
theorem foldJ_up {rds : List (List Chg)} {sts : List (List Int)} {n : Int} {l : List Rec} {k : Nat} (h : k < l.length) (d : Rec) : foldJ rds sts n (l.take (k + 1)) = stepJ rds sts (foldJ rds sts n (l.take k)) (l.getD k d) := by
  unfold foldJ; rw [foldl_take _ _ _ d h]
theorem foldJ_app {rds : List (List Chg)} {sts : List (List Int)} {n : Int} (l : List Rec) (r : Rec) : foldJ rds sts n (l ++ [r]) = stepJ rds sts (foldJ rds sts n l) r := by
  unfold foldJ; rw [List.foldl_append]; rfl
theorem allJ_up {n : Int} {l : List Rec} {k : Nat} (h : allJ n (l.take k)) (hk : k < l.length) {d : Rec} (h1 : recOK (l.getD k d)) (h2 : (l.getD k d).dev < n) : allJ n (l.take (k + 1)) := by
  rw [take_up hk rfl d]
  intro r hr
  rcases List.mem_append.1 hr with hr | hr
  · exact h r hr
  · obtain rfl : r = _ := by simpa using hr
    exact ⟨h1, h2⟩
theorem startC_new {n : Nat} {rds : List (List Chg)} {sts : List (List Int)} (P : PlanOK n rds sts) : CtlOK n rds.length (startC rds sts (newC n)) ∧ (startC rds sts (newC n)).sent.length ≤ 1000 := by
  have h := startC_ok P newC_ok fun _ _ => ⟨fun _ => Int.le_refl 0, fun h => by cases h⟩
  exact ⟨h.1, by simpa [newC] using h.2.2.2⟩
theorem foldJ_ok {n : Nat} {rds : List (List Chg)} {sts : List (List Int)} (P : PlanOK n rds sts) : ∀ (l : List Rec), allJ n l → CtlOK n rds.length (foldJ rds sts n l) := by
  intro l
  have : ∀ (l : List Rec) (c : Ctl), CtlOK n rds.length c → allJ n l → CtlOK n rds.length (l.foldl (stepJ rds sts) c) := by
    intro l
    induction l with
    | nil => intro c h _; exact h
    | cons r t ih =>
      intro c h ha
      have hr := ha r List.mem_cons_self
      exact ih _ (stepJ_ok P h (by have := hr.1; unfold recOK at this; omega) hr.2) fun x hx => ha x (List.mem_cons_of_mem _ hx)
  exact this l _ ((startC_new P).1.sent [])
end Go.Proofs.Ytobggnpnochnnaa.V
