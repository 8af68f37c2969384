/- Prefixes and names: contracts of other texts in the form of my logic; what a valid name is. -/
import Derived.Test.YtfanmniaolncbaaTopE
import Derived.Test.YtfanmniaolncbaaTD
import Derived.Test.YtfanmniaolncbaaRef1
set_option linter.unusedVariables false
set_option linter.unusedSimpArgs false
namespace Go.Proofs.Ytfanmniaolncbaa.V
open Go.RowKit Go.Proofs.Ytfanmniaolncbaa
theorem tr_below {w w' : World} (h : Below w.heap.size w w') : Tr [] w [] w' := ⟨(Ch.of_below h).mono fun _ h => h.elim, fun _ h => h.elim, MS.nil _⟩
theorem calls_ch {P : Program} {f : FuncId} {vs : Array Value} {w : World} {b : Bool} (h : Calls P f vs w fun e w' => e = .returned (.bool b) ∧ Below w.heap.size w w') : Calls P f vs w fun e w' => e = .returned (.bool (decide (b = true))) ∧ Tr [] w [] w' :=
  h.mono fun _ _ ⟨h1, h2⟩ => ⟨by rw [Bool.decide_eq_true]; exact h1, tr_below h2⟩
def pfxV (p : Pfx) : Prop := valB p.addr p.bits = true
instance (p : Pfx) : Decidable (pfxV p) := inferInstanceAs (Decidable (_ = _))
def pfxC (p q : Pfx) : Prop := coverB p.addr p.bits q.addr q.bits = true
instance (p q : Pfx) : Decidable (pfxC p q) := inferInstanceAs (Decidable (_ = _))
theorem pValid (w : World) (F : Nat → Prop) (_ : Old F w) (_ : MS [] w) (p : Pfx) (p_w : pfxE.wf (Fr F []) w.heap p) : Calls Try.prog 83 #[.agg #[.int .u32 p.addr, .int .i64 p.bits]] w fun e w' => e = .returned (.bool (decide (pfxV p))) ∧ Tr [] w [] w' :=
  calls_ch (prefix_Valid p.addr p.bits p_w.1.1 p_w.1.2 w)
theorem rValid (w : World) (F : Nat → Prop) (_ : Old F w) (_ : MS [] w) (p : Pfx) (p_w : pfxE.wf (Fr F []) w.heap p) : Calls Try.prog 91 #[.agg #[.int .u32 p.addr, .int .i64 p.bits]] w fun e w' => e = .returned (.bool (decide (pfxV p))) ∧ Tr [] w [] w' :=
  calls_ch (ref_Valid p.addr p.bits p_w.1.1 p_w.1.2 rfl w)
theorem pCovers (w : World) (F : Nat → Prop) (_ : Old F w) (_ : MS [] w) (p : Pfx) (p_w : pfxE.wf (Fr F []) w.heap p) (q : Pfx) (q_w : pfxE.wf (Fr F []) w.heap q) : Calls Try.prog 104 #[.agg #[.int .u32 p.addr, .int .i64 p.bits], .agg #[.int .u32 q.addr, .int .i64 q.bits]] w fun e w' => e = .returned (.bool (decide (pfxC p q))) ∧ Tr [] w [] w' :=
  calls_ch (prefix_Covers _ _ _ _ p_w.1.1 p_w.1.2 q_w.1.1 q_w.1.2 w)
theorem rCovers (w : World) (F : Nat → Prop) (_ : Old F w) (_ : MS [] w) (p : Pfx) (p_w : pfxE.wf (Fr F []) w.heap p) (q : Pfx) (q_w : pfxE.wf (Fr F []) w.heap q) : Calls Try.prog 113 #[.agg #[.int .u32 p.addr, .int .i64 p.bits], .agg #[.int .u32 q.addr, .int .i64 q.bits]] w fun e w' => e = .returned (.bool (decide (pfxC p q))) ∧ Tr [] w [] w' :=
  calls_ch (ref_Covers _ _ _ _ p_w.1.1 p_w.1.2 q_w.1.1 q_w.1.2 rfl w)
/-- a letter, a digit, - or _ -/
def okc (b : Int) : Prop := (97 ≤ b ∧ b ≤ 122) ∨ (48 ≤ b ∧ b ≤ 57) ∨ b = 45 ∨ b = 95
def vname (s : ByteArray) : Prop := ¬ s = ⟨#[]⟩ ∧ s.size ≤ 24 ∧ ¬ s = ⟨#[97, 110, 121]⟩ ∧ (97 ≤ bt s 0 ∧ bt s 0 ≤ 122) ∧ ∀ i, i < s.size → okc (bt s i)
noncomputable instance (s : ByteArray) : Decidable (vname s) := Classical.propDecidable _
def meets (p q : Pfx) : Prop := pfxC p q ∨ pfxC q p
instance (p q : Pfx) : Decidable (meets p q) := inferInstanceAs (Decidable (_ ∨ _))
theorem meets_comm (p q : Pfx) : meets p q ↔ meets q p := Or.comm
def devV (d : Dev) : Prop := vname d.name ∧ 0 ≤ d.cap ∧ d.cap ≤ 4096 ∧ (d.cls = ⟨#[]⟩ ∨ vname d.cls)
noncomputable instance (d : Dev) : Decidable (devV d) := Classical.propDecidable _
def edgV (n : Nat) (e : Edg) : Prop := (0 ≤ e.dev ∧ e.dev < n) ∧ (vname e.name ∧ vname e.zone) ∧ pfxV e.pfx ∧ 0 < e.pfx.bits ∧ (¬ e.planned = true ∨ e.pfx.addr = 0)
noncomputable instance (n : Nat) (e : Edg) : Decidable (edgV n e) := Classical.propDecidable _
end Go.Proofs.Ytfanmniaolncbaa.V
