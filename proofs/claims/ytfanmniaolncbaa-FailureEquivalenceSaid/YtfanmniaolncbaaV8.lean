/- Short forms of what a walk's text repeats. -/
import Derived.Test.YtfanmniaolncbaaV6
set_option linter.unusedVariables false
set_option linter.unusedSimpArgs false
namespace Go.Proofs.Ytfanmniaolncbaa.V
open Go.RowKit
abbrev bD (p : Prop) [Decidable p] : Value := .bool (decide p)
abbrev iN (n : Nat) : Value := .int .i64 (n : Int)
abbrev iI (i : Int) : Value := .int .i64 i
abbrev pT (b o : Nat) : Value := .pointer (some ⟨b, o, none⟩)
abbrev sV {α : Type} (s : Sl α) : Value := .slice s.a s.xs.length s.c
abbrev iV (v : Value) : StP (In []) := isV (In []) v
section
variable {P : Program} {Q : Exit → Act → World → Prop} {n : Nat} {L : List (Nat × Value)} {a : Act} {w : World} {ops : Array Oper} {rest : List Oper} {o : Oper} {ty : TypeId} {pos : String} {af : Array Edge}
theorem Slots.e (S : Slots n L a) {x : Operand} {v : Value} (h : evS L x = some v) : a.eval x = v := S.eval h
theorem Slots.p (S : Slots n L a) {x : Operand} {c : Prop} [Decidable c] {v u : Value} (h : evS L x = some (if c then v else u)) (hc : c) : a.eval x = v := (S.eval h).trans (if_pos hc)
theorem qv (S : Slots n L a) {d : Nat} (v : Value) {w' : World} (h : (execOp a.eval o).run P w = .ok (.value v) w') (next : ∀ a', Slots n ((d, v) :: L) a' → wpList P ops Q rest a' w')
    (hk : o.guard = none ∧ o.dst = some d ∧ d < n := by exact ⟨rfl, rfl, by decide⟩) : wpList P ops Q (o :: rest) a w := seq_val S hk.1 hk.2.1 hk.2.2 h next
theorem qm (S : Slots n L a) {d : Nat} {x : Operand} {v : Value} (h : evS L x = some v) (next : ∀ a', Slots n ((d, v) :: L) a' → wpList P ops Q rest a' w) (hdn : d < n := by decide) :
    wpList P ops Q (⟨some d, .move x, ty, pos, af, none⟩ :: rest) a w := seq_val S rfl rfl hdn (x_move (S.eval h)) next
theorem qa (S : Slots n L a) {d : Nat} {x : Operand} {v : Value} (h : evS L x = some v) (next : ∀ a', Slots n ((d, v) :: L) a' → wpList P ops Q rest a' w) (hdn : d < n := by decide) :
    wpList P ops Q (⟨some d, .assign x, ty, pos, af, none⟩ :: rest) a w := seq_val S rfl rfl hdn (x_assign (S.eval h)) next
theorem qg (S : Slots n L a) (gd : Nat) {b : Bool} {gv : Value} (hv : look gd L = some gv) (c : Prop) [Decidable c] (hc : c ↔ gv = .bool b) {e : Nat} (v : Value) (h : c → (execOp a.eval o).run P w = .ok (.value v) w)
    (next : ∀ a', Slots n ((e, if c then v else undef) :: L) a' → wpList P ops Q rest a' w)
    (hk : ∃ j p, o.guard = some (j, b) ∧ ops[j]? = some p ∧ p.dst = some gd ∧ gd < n ∧ o.dst = some e ∧ e < n := by exact ⟨_, _, rfl, rfl, rfl, by decide, rfl, by decide⟩) : wpList P ops Q (o :: rest) a w := by
  obtain ⟨j, p, h1, h2, h3, h4, h5, h6⟩ := hk
  exact seq_gd S h1 h2 h3 h4 hv hc h5 h6 h next
theorem qt {f : Act → World → Prop} (h : f a w) : wpList P ops (Exit.then f Q) [] a w := wpList_nil (then_n h)
theorem qs {id : Nat} {l : List Oper} {y : Code} (h : wpList P l.toArray (Exit.then (y.wp P Q) Q) l a w) : (Code.seq (.region id l.toArray false) y).wp P Q a w := wp_seq (wp_region_lit h)
end
section
variable {M : Nat → Prop} {E : List (Nat × StP M)} {I : World → Prop} {N i : Nat} {P : Program} {Q : Exit → Act → World → Prop} {L : List (Nat × Value)} {a : Act} {w : World} {ops : Array Oper} {o : Oper} {ty : TypeId} {pos : String} {af : Array Edge}
theorem qo (v : Value) (h : (execOp a.eval o).run P w = .ok (.value v) w) (hI : I w)
    (hk : ops[i]? = some o ∧ o.guard = none ∧ ∃ d, o.dst = some d ∧ d < N ∧ lookE E d v w := by exact ⟨rfl, rfl, _, rfl, by decide, (show _ = _ from rfl)⟩) : wpOp P ops Q i (Done o E I N a w) a w := by
  obtain ⟨h1, h2, d, h3, h4, h5⟩ := hk
  exact head_op h1 h2 (op_val h (Done.same h3 h4 h5 hI))
theorem qy (S : Slots N L a) (gd : Nat) {b : Bool} {gv : Value} (hv : look gd L = some gv) (hw : gv = .bool b) (v : Value) (h : (execOp a.eval o).run P w = .ok (.value v) w) (hI : I w)
    (hk : ops[i]? = some o ∧ ∃ j p, o.guard = some (j, b) ∧ ops[j]? = some p ∧ p.dst = some gd ∧ gd < N ∧ ∃ d, o.dst = some d ∧ d < N ∧ lookE E d v w := by
      exact ⟨rfl, _, _, rfl, rfl, rfl, by decide, _, rfl, by decide, (show _ = _ from (if_pos hg).symm)⟩) : wpOp P ops Q i (Done o E I N a w) a w := by
  obtain ⟨h1, j, p, h2, h3, h4, h5, d, h6, h7, h8⟩ := hk
  exact head_yes h1 h2 h3 h4 (by rw [S.size]; exact h5) (S.get gd _ hv) hw (op_val h (Done.same h6 h7 h8 hI))
theorem qn (S : Slots N L a) (gd : Nat) {b : Bool} {gv : Value} (hv : look gd L = some gv) (hw : ¬ gv = .bool b) (hI : I w)
    (hk : ops[i]? = some o ∧ ∃ j p, o.guard = some (j, b) ∧ ops[j]? = some p ∧ p.dst = some gd ∧ gd < N ∧ ∃ d, o.dst = some d ∧ d < N ∧ lookE E d undef w := by
      exact ⟨rfl, _, _, rfl, rfl, rfl, by decide, _, rfl, by decide, (show _ = _ from (if_neg hg).symm)⟩) : wpOp P ops Q i (Done o E I N a w) a w := by
  obtain ⟨h1, j, p, h2, h3, h4, h5, d, h6, h7, h8⟩ := hk
  exact head_no h1 h2 h3 h4 (by rw [S.size]; exact h5) (S.get gd _ hv) hw (Done.same h6 h7 h8 hI)
end
section
variable {α : Type} {F : Nat → Prop} {ms ms' chg : List BS} {w w' : World} {x : α}
theorem Tr.och (h : MS ms w) (g : Ch (In chg) w w') (hs : ∀ o, o ∈ chg → o ∈ ms := by intro o h; simp at h ⊢; first | exact .inl h | simp [h]) : Tr ms w ms w' := Tr.of_ch h g hs
theorem Tr.fra {m0 : List BS} (h : MS ms w) (t : Tr m0 w m0 w') (hs : ∀ o, o ∈ m0 → o ∈ ms := by intro o h; simp at h ⊢; first | exact .inl h | simp [h]) : Tr ms w ms w' := Tr.framed h t hs
theorem Enc.dn (E : Enc α) (H : E.wf (Fr F ms) w.heap x) (hs : ∀ o, o ∈ ms' → o ∈ ms := by intro o h; simp at h ⊢; first | exact .inl h | simp [h]) : E.wf (Fr (Ex F ms) ms') w.heap x := E.down H hs
end
end Go.Proofs.Ytfanmniaolncbaa.V
