/- The tolerated failure states, as lists of elements. -/
import Derived.Test.YtfanmniaolncbaaBriM
set_option linter.unusedVariables false
set_option linter.unusedSimpArgs false
namespace Go.Proofs.Ytfanmniaolncbaa.V
open Go.RowKit
def keyF (f : Fail) : List Int × List Int := (f.links.xs, f.devs.xs)
/-- a failure state of the elements of a list: devices first, then links -/
def keyOf (n : Nat) (l : List Int) : List Int × List Int := ((l.filter fun x => decide (¬ x < (n : Int))).map fun x => x - (n : Int), l.filter fun x => decide (x < (n : Int)))
theorem keyOf_snoc {n : Nat} {l : List Int} {k : Nat} (hk : k < l.length) : keyOf n (l.take (k + 1)) = if l.getD k 0 < (n : Int) then ((keyOf n (l.take k)).1, (keyOf n (l.take k)).2 ++ [l.getD k 0]) else ((keyOf n (l.take k)).1 ++ [l.getD k 0 - (n : Int)], (keyOf n (l.take k)).2) := by
  rw [take_snocD 0 hk]
  unfold keyOf
  by_cases h : l.getD k 0 < (n : Int)
  · rw [if_pos h]; simp only [List.filter_append, List.filter_cons, List.filter_nil, h]; simp
  · rw [if_neg h]; simp only [List.filter_append, List.filter_cons, List.filter_nil, h]; simp
def singles (m : Nat) : List (List Int) := (List.range m).map fun i => [((i : Nat) : Int)]
def pairsRow (i m : Nat) : List (List Int) := ((List.range m).filter fun k => decide (i < k)).map fun k => [((i : Nat) : Int), ((k : Nat) : Int)]
def pairs (n m : Nat) : List (List Int) := (List.range m).flatMap fun i => pairsRow i n
def elems (t : Topo) : Nat := t.devs.xs.length + t.links.xs.length
noncomputable def allOf (t : Topo) : List (List Int × List Int) :=
  if topV t then (([] : List Int) :: ((if 1 ≤ t.tol then singles (elems t) else []) ++ (if 2 ≤ t.tol then pairs (elems t) (elems t) else []))).map (keyOf t.devs.xs.length) else []
theorem singles_snoc (m : Nat) : singles (m + 1) = singles m ++ [[((m : Nat) : Int)]] := by unfold singles; rw [List.range_succ, List.map_append]; rfl
theorem pairs_snoc (n m : Nat) : pairs n (m + 1) = pairs n m ++ pairsRow m n := by unfold pairs; rw [List.range_succ, List.flatMap_append]; simp
theorem pairsRow_snoc {i m : Nat} (h : i < m) : pairsRow i (m + 1) = pairsRow i m ++ [[((i : Nat) : Int), ((m : Nat) : Int)]] := by
  unfold pairsRow; rw [List.range_succ, List.filter_append, List.map_append]; simp [h]
theorem pairsRow_nil (i : Nat) : pairsRow i (i + 1) = [] := by
  unfold pairsRow
  rw [List.filter_eq_nil_iff.2]
  · rfl
  · intro k hk; have := List.mem_range.1 hk; simp; omega
theorem singles_len (m : Nat) : (singles m).length = m := by unfold singles; simp
theorem pairsRow_len (i m : Nat) : (pairsRow i m).length ≤ m := by
  unfold pairsRow; rw [List.length_map]; exact Nat.le_trans (List.length_filter_le _ _) (by simp)
theorem pairs_len (n : Nat) : ∀ m, (pairs n m).length ≤ m * n
  | 0 => by simp [pairs]
  | m + 1 => by rw [pairs_snoc, List.length_append, Nat.add_mul]; have := pairs_len n m; have := pairsRow_len m n; omega
theorem pairs_bd {n m : Nat} (hn : n ≤ 36) (hm : m ≤ 36) : (pairs n m).length ≤ 1296 := Nat.le_trans (pairs_len n m) (Nat.mul_le_mul hm hn)
def firstOf (l : List Int) : Nat := match l.getLast? with | none => 0 | some x => (x + 1).toNat
def nxTo (l : List Int) (e : Nat) : List (List Int) := ((List.range e).filter fun k => decide (firstOf l ≤ k)).map fun k => l ++ [((k : Nat) : Int)]
def lev (n : Nat) : Nat → List (List Int)
  | 0 => [[]]
  | s + 1 => (lev n s).flatMap fun l => nxTo l n
def outTo (n s : Nat) : List (List Int) := (List.range (s + 1)).flatMap (lev n)
theorem outTo_snoc (n s : Nat) : outTo n (s + 1) = outTo n s ++ lev n (s + 1) := by unfold outTo; rw [List.range_succ, List.flatMap_append]; simp
theorem outTo_zero (n : Nat) : outTo n 0 = [[]] := by unfold outTo; rfl
theorem nxTo_snoc {l : List Int} {e : Nat} (h : firstOf l ≤ e) : nxTo l (e + 1) = nxTo l e ++ [l ++ [((e : Nat) : Int)]] := by
  unfold nxTo; rw [List.range_succ, List.filter_append, List.map_append]; simp [h]
theorem nxTo_nil {l : List Int} : nxTo l (firstOf l) = [] := by
  unfold nxTo
  rw [List.filter_eq_nil_iff.2]
  · rfl
  · intro k hk; have := List.mem_range.1 hk; simp; omega
theorem nxTo_len (l : List Int) (e : Nat) : (nxTo l e).length ≤ e := by
  unfold nxTo; rw [List.length_map]; exact Nat.le_trans (List.length_filter_le _ _) (by simp)
theorem lev_one (n : Nat) : lev n 1 = singles n := by
  have h : ∀ n, lev n 1 = nxTo [] n := fun n => by simp [lev]
  rw [h]
  unfold nxTo singles
  rw [List.filter_eq_self.2]
  · rfl
  · intro k _; simp [firstOf]
theorem lev_two (n : Nat) : lev n 2 = pairs n n := by
  show (lev n 1).flatMap (fun l => nxTo l n) = _
  rw [lev_one]
  unfold singles pairs
  rw [List.flatMap_map]
  congr 1
theorem all_prog {t : Topo} (h : topV t) {s : Nat} (hs : (s : Int) = t.tol) : allOf t = (outTo (elems t) s).map (keyOf t.devs.xs.length) := by
  unfold allOf
  rw [if_pos h]
  have hb := h.1
  unfold topB at hb
  have : s = 0 ∨ s = 1 ∨ s = 2 := by omega
  rcases this with rfl | rfl | rfl
  · rw [if_neg (by omega), if_neg (by omega), outTo_zero]; rfl
  · rw [if_pos (by omega), if_neg (by omega), outTo_snoc, outTo_zero, lev_one, List.append_nil]; rfl
  · rw [if_pos (by omega), if_pos (by omega), outTo_snoc, outTo_snoc, outTo_zero, lev_one, lev_two, List.append_assoc]; rfl
theorem lev_mem {n : Nat} : ∀ {s : Nat} {l : List Int}, l ∈ lev n s → l.length = s ∧ ∀ x ∈ l, 0 ≤ x ∧ x < n
  | 0, l, h => by
    obtain rfl : l = [] := by simpa [lev] using h
    exact ⟨rfl, fun x hx => by simp at hx⟩
  | s + 1, l, h => by
    obtain ⟨m, hm, hl⟩ := List.mem_flatMap.1 h
    obtain ⟨h1, h2⟩ := lev_mem hm
    unfold nxTo at hl
    obtain ⟨k, hk, rfl⟩ := List.mem_map.1 hl
    have hkn := List.mem_range.1 (List.mem_filter.1 hk).1
    refine ⟨by simp [h1], fun x hx => ?_⟩
    rcases List.mem_append.1 hx with h | h
    · exact h2 x h
    · rw [List.mem_singleton.1 h]; omega
theorem firstOf_le {n s : Nat} {l : List Int} (h : l ∈ lev n s) : firstOf l ≤ n := by
  unfold firstOf
  cases hg : l.getLast? with
  | none => exact Nat.zero_le _
  | some x => have := (lev_mem h).2 x (List.mem_of_getLast? hg); show (x + 1).toNat ≤ n; omega
theorem firstOf_pos {l : List Int} (h : 0 < l.length) (h0 : ∀ x ∈ l, 0 ≤ x) : ((firstOf l : Nat) : Int) = l.getD (l.length - 1) 0 + 1 := by
  unfold firstOf
  rw [List.getLast?_eq_getElem?, List.getElem?_eq_getElem (by omega), List.getD_eq_getElem?_getD, List.getElem?_eq_getElem (by omega)]
  have := h0 _ (List.getElem_mem (show l.length - 1 < l.length by omega))
  show (((_ : Int) + 1).toNat : Int) = _ + 1
  simp
  omega
theorem flat_snocD {α β : Type} (d : α) {l : List α} {f : α → List β} {k : Nat} (hk : k < l.length) : (l.take (k + 1)).flatMap f = (l.take k).flatMap f ++ f (l.getD k d) := by
  rw [take_snocD d hk, List.flatMap_append]; simp
theorem flatM_len {α β : Type} {f : α → List β} {n : Nat} (h : ∀ x, (f x).length ≤ n) : ∀ (l : List α), (l.flatMap f).length ≤ l.length * n
  | [] => by simp
  | x :: l => by rw [List.flatMap_cons, List.length_append, List.length_cons, Nat.add_mul]; have := h x; have := flatM_len h l; omega
theorem lev_len {n s : Nat} (hn : n ≤ 36) (hs : s ≤ 2) : (lev n s).length ≤ 1296 ∧ (s ≤ 1 → (lev n s).length ≤ 36) := by
  have : s = 0 ∨ s = 1 ∨ s = 2 := by omega
  rcases this with rfl | rfl | rfl
  · simp [lev]
  · rw [lev_one, singles_len]; omega
  · rw [lev_two]; exact ⟨pairs_bd hn hn, fun h => by omega⟩
theorem getD_map {α β : Type} {f : α → β} {l : List α} {d : α} {k : Nat} (h : k < l.length) (d' : β) : (l.map f).getD k d' = f (l.getD k d) := by
  rw [List.getD_eq_getElem?_getD, List.getElem?_map, List.getD_eq_getElem?_getD, List.getElem?_eq_getElem h]; rfl
theorem outTo_len {n s : Nat} (hn : n ≤ 36) (hs : s ≤ 2) : (outTo n s).length ≤ 1400 := by
  have : s = 0 ∨ s = 1 ∨ s = 2 := by omega
  rcases this with rfl | rfl | rfl
  · rw [outTo_zero]; decide
  · rw [outTo_snoc, outTo_zero, List.length_append, lev_one, singles_len]; simp; omega
  · rw [outTo_snoc, outTo_snoc, outTo_zero, List.length_append, List.length_append, lev_one, lev_two, singles_len]; have := pairs_bd hn hn; simp; omega
theorem levnx_len {n s j : Nat} (hn : n ≤ 36) (hs : s ≤ 1) : (((lev n s).take j).flatMap (fun l => nxTo l n)).length ≤ 1296 := by
  have h1 := flatM_len (f := fun l => nxTo l n) (n := n) (fun x => nxTo_len x n) ((lev n s).take j)
  have h2 := (lev_len hn (show s ≤ 2 by omega)).2 hs
  have h3 : ((lev n s).take j).length ≤ 36 := by rw [List.length_take]; omega
  exact Nat.le_trans h1 (Nat.mul_le_mul h3 hn)
theorem firstOf_nil : firstOf [] = 0 := rfl
end Go.Proofs.Ytfanmniaolncbaa.V
