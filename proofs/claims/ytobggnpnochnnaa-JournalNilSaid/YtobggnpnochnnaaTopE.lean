/- Plain facts about lists: the first index with a property. -/
import Derived.Test.YtobggnpnochnnaaGrpB
set_option linter.unusedVariables false
set_option linter.unusedSimpArgs false
namespace Go.Proofs.Ytobggnpnochnnaa.V
open Go.RowKit
theorem getD_mem {α : Type} {xs : List α} {i : Nat} {d : α} (h : i < xs.length) : xs.getD i d ∈ xs := by
  rw [List.getD_eq_getElem?_getD, List.getElem?_eq_getElem h]; exact List.getElem_mem h
theorem mem_getD {α : Type} {xs : List α} {x : α} (d : α) (h : x ∈ xs) : ∃ i, i < xs.length ∧ xs.getD i d = x := by
  obtain ⟨i, hi, e⟩ := List.getElem_of_mem h
  exact ⟨i, hi, by rw [List.getD_eq_getElem?_getD, List.getElem?_eq_getElem hi]; exact e⟩
/-- the first index with a property, from k on, or -1 -/
def idxFrom {α : Type} (p : α → Bool) : List α → Nat → Int
  | [], _ => -1
  | x :: xs, k => if p x then (k : Int) else idxFrom p xs (k + 1)
def idxOf {α : Type} (p : α → Bool) (xs : List α) : Int := idxFrom p xs 0
theorem idxFrom_none {α : Type} (p : α → Bool) : ∀ (xs : List α) (k : Nat), (∀ x ∈ xs, p x = false) → idxFrom p xs k = -1
  | [], _, _ => rfl
  | x :: xs, k, h => by rw [idxFrom, if_neg (by rw [h x List.mem_cons_self]; simp)]; exact idxFrom_none p xs (k + 1) fun y hy => h y (List.mem_cons_of_mem _ hy)
theorem idxFrom_some {α : Type} (p : α → Bool) (d : α) : ∀ (xs : List α) (k i : Nat), i < xs.length → p (xs.getD i d) = true → (∀ j, j < i → p (xs.getD j d) = false) → idxFrom p xs k = ((k + i : Nat) : Int)
  | [], _, _, h, _, _ => by simp at h
  | x :: xs, k, 0, _, h, _ => by rw [idxFrom, if_pos (by simpa using h)]; rfl
  | x :: xs, k, i + 1, hi, h, hj => by
    rw [idxFrom, if_neg (by have := hj 0 (by omega); simpa using this), idxFrom_some p d xs (k + 1) i (by simpa using hi) (by simpa using h) (fun j hj' => by simpa using hj (j + 1) (by omega))]
    congr 1; omega
theorem idxOf_some {α : Type} {p : α → Bool} {xs : List α} {d : α} {i : Nat} (hi : i < xs.length) (h : p (xs.getD i d) = true) (hj : ∀ j, j < i → p (xs.getD j d) = false) : idxOf p xs = (i : Int) := by
  have := idxFrom_some p d xs 0 i hi h hj; rw [Nat.zero_add] at this; exact this
theorem idxOf_none {α : Type} {p : α → Bool} {xs : List α} {d : α} (h : ∀ j, j < xs.length → p (xs.getD j d) = false) : idxOf p xs = -1 :=
  idxFrom_none p xs 0 fun x hx => by obtain ⟨i, hi, rfl⟩ := mem_getD d hx; exact h i hi
theorem idxOf_nonneg {α : Type} {p : α → Bool} (xs : List α) : 0 ≤ idxOf p xs ↔ ∃ x ∈ xs, p x = true := by
  constructor
  · intro h
    apply Classical.byContradiction
    intro hn
    have : idxOf p xs = -1 := idxFrom_none p xs 0 fun x hx => by
      cases hp : p x
      · rfl
      · exact absurd ⟨x, hx, hp⟩ hn
    omega
  · rintro ⟨x, hx, hp⟩
    have : ∀ (xs : List α) (k : Nat), x ∈ xs → 0 ≤ idxFrom p xs k := by
      intro xs
      induction xs with
      | nil => intro k h; simp at h
      | cons y ys ih =>
        intro k h
        rw [idxFrom]
        split
        · omega
        · rename_i hy
          refine ih _ ?_
          rcases List.mem_cons.1 h with rfl | h
          · exact absurd hp hy
          · exact h
    exact this xs 0 hx
end Go.Proofs.Ytobggnpnochnnaa.V
