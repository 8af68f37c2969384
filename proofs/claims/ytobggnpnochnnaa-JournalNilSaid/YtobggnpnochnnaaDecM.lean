/- Records are read from bytes, plain. -/
import Derived.Test.YtobggnpnochnnaaCrcM
import Derived.Test.YtobggnpnochnnaaSlx
set_option linter.unusedVariables false
set_option linter.unusedSimpArgs false
namespace Go.Proofs.Ytobggnpnochnnaa.V
open Go.RowKit
def recX (x : List Int) : Rec := ⟨x.getD 0 0, x.getD 1 0, num4 x 2, num4 x 6⟩
def subB (b : List Int) (k : Nat) : List Int := (b.take (14 * k + 14)).drop (14 * k)
def goodX (x : List Int) : Prop := recOK (recX x) ∧ num4 x 10 = crcL (x.take 10)
instance (x : List Int) : Decidable (goodX x) := by unfold goodX; infer_instance
def decF (b : List Int) : Nat → Nat → Nat
  | 0, k => k
  | f + 1, k => if 14 * k + 14 ≤ b.length ∧ goodX (subB b k) then decF b f (k + 1) else k
def decN (b : List Int) : Nat := decF b 4096 0
def recsP (b : List Int) (n : Nat) : List Rec := (List.range n).map fun k => recX (subB b k)
theorem recsP_len (b : List Int) (n : Nat) : (recsP b n).length = n := by unfold recsP; simp
theorem recsP_up (b : List Int) (n : Nat) : recsP b (n + 1) = recsP b n ++ [recX (subB b n)] := by unfold recsP; rw [List.range_succ, List.map_append]; rfl
theorem decF_no {b : List Int} {f k : Nat} (h : f = 0 ∨ ¬ (14 * k + 14 ≤ b.length ∧ goodX (subB b k))) : decF b f k = k := by
  cases f with
  | zero => rfl
  | succ f => rw [decF, if_neg (h.resolve_left (by omega))]
theorem decF_go {b : List Int} {f k : Nat} (h1 : 14 * k + 14 ≤ b.length) (h2 : goodX (subB b k)) (hf : 0 < f) : decF b (f - 1) (k + 1) = decF b f k := by
  cases f with
  | zero => omega
  | succ f => rw [decF, if_pos ⟨h1, h2⟩]; rfl
theorem num4_in {l : List Int} {k : Nat} (h : ∀ i, i < l.length → inU8 (l.getD i 0)) (hk : k + 4 ≤ l.length) : inU32 (num4 l k) := by
  have h0 := h k (by omega)
  have h1 := h (k + 1) (by omega)
  have h2 := h (k + 2) (by omega)
  have h3 := h (k + 3) (by omega)
  unfold num4
  omega
theorem num4_drop (l : List Int) (k j : Nat) : num4 (l.drop k) j = num4 l (k + j) := by
  unfold num4
  simp only [List.getD_eq_getElem?_getD, List.getElem?_drop, Nat.add_assoc]
end Go.Proofs.Ytobggnpnochnnaa.V
