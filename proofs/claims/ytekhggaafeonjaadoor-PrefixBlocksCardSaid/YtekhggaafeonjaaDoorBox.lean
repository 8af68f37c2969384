/- A struct that lies in a block of the call's own: its cells known, none of them frozen. -/
import Derived.Test.YtekhggaafeonjaaDoorGen1
namespace Go.Proofs.YtekhggaafeonjaaDoor
open Go.RowKit
structure Box (w : World) (b : Nat) (vs : List Value) : Prop where
  lt : b < w.heap.size
  cell : ∀ (j : Nat) (v : Value), vs[j]? = some v → w.cell? ⟨b, j, none⟩ = some v
  froz : ∀ (j : Nat) (v : Value), vs[j]? = some v → w.frozen? ⟨b, j, none⟩ = false
theorem Box.new (w : World) (c : Array Value) (t : TypeId) : Box (w.alloc (.cells c t)) w.heap.size c.toList :=
  ⟨by simp, fun j v h => by rw [World.cell?_alloc_at _ _ _ _ rfl]; simpa using h, fun j v _ => World.frozen?_alloc_at _ _ _ _ rfl⟩
theorem Box.below {w w' : World} {b B : Nat} {vs : List Value} (h : Box w b vs) (hb : Below B w w') (hB : b < B) : Box w' b vs :=
  ⟨Nat.lt_of_lt_of_le h.lt hb.size, fun j v e => (hb.cell (p := ⟨b, j, none⟩) hB).trans (h.cell j v e), fun j v e => (hb.frozen (p := ⟨b, j, none⟩) hB).trans (h.froz j v e)⟩
theorem Box.keep {w w' : World} {b T : Nat} {vs : List Value} (h : Box w b vs) (hk : Keep T w w') (hT : b ≠ T) : Box w' b vs :=
  ⟨Nat.lt_of_lt_of_le h.lt hk.size, fun j v e => (hk.cell (p := ⟨b, j, none⟩) h.lt hT).trans (h.cell j v e), fun j v e => (hk.frozen (p := ⟨b, j, none⟩) h.lt hT).trans (h.froz j v e)⟩
theorem Box.drew {w : World} {b : Nat} {vs : List Value} (h : Box w b vs) : Box w.drew b vs := ⟨h.lt, h.cell, h.froz⟩
theorem Box.alloc {w : World} {b : Nat} {vs : List Value} (h : Box w b vs) (o : Obj) : Box (w.alloc o) b vs := h.below ((Below.refl _ _).alloc (Nat.le_refl _) o) h.lt
theorem Box.other {w : World} {b : Nat} {vs : List Value} (h : Box w b vs) {c : Nat} (hc : c ≠ b) (j : Nat) (v : Value) : Box (w.setCell ⟨c, j, none⟩ v) b vs :=
  ⟨by simpa using h.lt, fun i u e => by rw [World.cell?_setCell_other _ _ _ _ (by intro e; injection e with e1; exact hc e1)]; exact h.cell i u e, fun i u e => by rw [World.frozen?_setCell]; exact h.froz i u e⟩
theorem Box.set {w : World} {b : Nat} {vs : List Value} (h : Box w b vs) (j : Nat) (hj : j < vs.length) (v : Value) : Box (w.setCell ⟨b, j, none⟩ v) b (vs.set j v) := by
  obtain ⟨x, hx⟩ : ∃ x, vs[j]? = some x := ⟨_, List.getElem?_eq_getElem hj⟩
  have key : ∀ (i : Nat) (u : Value), (vs.set j v)[i]? = some u → ∃ y, vs[i]? = some y := fun i u e => by
    have : i < (vs.set j v).length := by
      rcases Nat.lt_or_ge i (vs.set j v).length with h1 | h1
      · exact h1
      · rw [List.getElem?_eq_none h1] at e; cases e
    exact ⟨_, List.getElem?_eq_getElem (by simpa using this)⟩
  refine ⟨by simpa using h.lt, fun i u e => ?_, fun i u e => ?_⟩
  · by_cases hij : j = i
    · subst hij
      rw [List.getElem?_set] at e
      simp [hj] at e
      subst e
      exact World.cell?_setCell_same _ _ _ (h.cell j x hx)
    · rw [World.cell?_setCell_other _ _ _ _ (by intro e; injection e with _ e1 _; exact hij e1)]
      rw [List.getElem?_set_ne hij] at e
      exact h.cell i u e
  · rw [World.frozen?_setCell]
    obtain ⟨y, hy⟩ := key i u e
    exact h.froz i y hy
end Go.Proofs.YtekhggaafeonjaaDoor
