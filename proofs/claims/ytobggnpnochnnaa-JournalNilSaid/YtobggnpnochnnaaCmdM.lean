/- Commands of a state of the controller, plain. -/
import Derived.Test.YtobggnpnochnnaaPlnM
set_option linter.unusedVariables false
set_option linter.unusedSimpArgs false
namespace Go.Proofs.Ytobggnpnochnnaa.V
open Go.RowKit
def cmd1 (kn : List Int) (sq d : Int) : List Rec := if 0 ≤ d ∧ d < kn.length then [⟨5, d, kn.getD d.toNat 0, sq⟩] else []
def cmdsP (kn : List Int) (sq : Int) (l : List Int) : List Rec := l.flatMap (cmd1 kn sq)
theorem cmdsP_up {kn : List Int} {sq : Int} {l : List Int} {k : Nat} (h : k < l.length) : cmdsP kn sq (l.take (k + 1)) = cmdsP kn sq (l.take k) ++ cmd1 kn sq (l.getD k intE.dflt) := by
  show _ = _ ++ cmd1 kn sq (l.getD k 0)
  unfold cmdsP
  rw [take_up h rfl 0, List.flatMap_append]; simp
theorem cmdsP_len {kn : List Int} {sq : Int} : ∀ (l : List Int), (cmdsP kn sq l).length ≤ l.length
  | [] => by simp [cmdsP]
  | d :: r => by
    have := cmdsP_len (kn := kn) (sq := sq) r
    unfold cmdsP at *
    rw [List.flatMap_cons, List.length_append, List.length_cons]
    have h1 : (cmd1 kn sq d).length ≤ 1 := by unfold cmd1; split <;> simp
    omega
def sameC (a b : Ctrl) : Prop := a.round = b.round ∧ (a.back = true ↔ b.back = true) ∧ a.seq = b.seq ∧ a.target.xs = b.target.xs ∧ a.known.xs = b.known.xs ∧ a.waiting.xs = b.waiting.xs
instance (a b : Ctrl) : Decidable (sameC a b) := by unfold sameC; infer_instance
theorem recEq {x y : Rec} (h : ¬ ¬ (x.kind = y.kind ∧ x.dev = y.dev ∧ x.inc = y.inc ∧ x.seq = y.seq)) : x = y := by
  obtain ⟨h1, h2, h3, h4⟩ := Classical.not_not.1 h
  cases x; cases y; simp_all
instance : DecidableEq Rec := fun x y => decidable_of_iff (x.kind = y.kind ∧ x.dev = y.dev ∧ x.inc = y.inc ∧ x.seq = y.seq) ⟨fun h => recEq (fun n => n h), fun h => by subst h; exact ⟨rfl, rfl, rfl, rfl⟩⟩
theorem eq_of_all {α : Type} {l m : List α} (d : α) (h : l.length = m.length) (e : ∀ i, i < l.length → l.getD i d = m.getD i d) : l = m := by
  apply List.ext_getElem h
  intro i h1 h2
  have := e i h1
  rw [List.getD_eq_getElem?_getD, List.getD_eq_getElem?_getD, List.getElem?_eq_getElem h1, List.getElem?_eq_getElem h2] at this
  exact this
end Go.Proofs.Ytobggnpnochnnaa.V
