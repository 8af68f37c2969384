/- The tolerated failure states are valid, different, and counted. -/
import Derived.Test.YtfanmniaolncbaaLawM
set_option linter.unusedVariables false
set_option linter.unusedSimpArgs false
namespace Go.Proofs.Ytfanmniaolncbaa.V
open Go.RowKit
theorem wp_join {P : Program} {Q : Exit → Act → World → Prop} {a : Act} {w : World} {c : Code} {f : Act → World → Prop} {J : Act → Prop} (h : c.wp P (fun e a' w' => e = .normal ∧ w' = w ∧ J a') a w) (k : ∀ a', J a' → f a' w) : c.wp P (Exit.then f Q) a w :=
  wp_mono h fun e a' w' ⟨he, hw, hj⟩ => by subst he; subst hw; exact then_n (k a' hj)
theorem mul_small {n : Nat} (h : n ≤ 15) : 0 ≤ (n : Int) * ((n : Int) - 1) ∧ (n : Int) * ((n : Int) - 1) ≤ 210 := by
  have : n = 0 ∨ n = 1 ∨ n = 2 ∨ n = 3 ∨ n = 4 ∨ n = 5 ∨ n = 6 ∨ n = 7 ∨ n = 8 ∨ n = 9 ∨ n = 10 ∨ n = 11 ∨ n = 12 ∨ n = 13 ∨ n = 14 ∨ n = 15 := by omega
  rcases this with rfl | rfl | rfl | rfl | rfl | rfl | rfl | rfl | rfl | rfl | rfl | rfl | rfl | rfl | rfl | rfl <;> decide
noncomputable def elemsOf (t : Topo) : List (List Int) := ([] : List Int) :: ((if 1 ≤ t.tol then singles (elems t) else []) ++ (if 2 ≤ t.tol then pairs (elems t) (elems t) else []))
theorem all_elems {t : Topo} (h : topV t) : allOf t = (elemsOf t).map (keyOf t.devs.xs.length) := by unfold allOf elemsOf; rw [if_pos h]
theorem pairsRow_len2 (i : Nat) : ∀ m, i < m → (pairsRow i m).length = m - 1 - i
  | 0, h => absurd h (Nat.not_lt_zero _)
  | m + 1, h => by
    rcases Nat.lt_succ_iff_lt_or_eq.1 h with g | rfl
    · rw [pairsRow_snoc g, List.length_append, pairsRow_len2 i m g]; simp; omega
    · rw [pairsRow_nil]; simp
theorem pairs_len2 (n : Nat) : ∀ m, m ≤ n → 2 * (pairs n m).length + m * m + m = 2 * (m * n)
  | 0, _ => by simp [pairs]
  | m + 1, h => by
    have ih := pairs_len2 n m (by omega)
    rw [pairs_snoc, List.length_append, pairsRow_len2 m n (by omega), Nat.mul_add, Nat.add_mul, Nat.mul_add, Nat.add_mul]
    omega
theorem pairs_count (n : Nat) : ((pairs n n).length : Int) = (n : Int) * ((n : Int) - 1) / 2 := by
  have h := pairs_len2 n n (Nat.le_refl _)
  have h2 : 2 * ((pairs n n).length : Int) + (n : Int) * n + n = 2 * ((n : Int) * n) := by exact_mod_cast h
  rw [Int.mul_sub, Int.mul_one]
  omega
/-- ascending elements in range -/
def fine (n : Nat) (l : List Int) : Prop := l.Pairwise (· < ·) ∧ ∀ x ∈ l, 0 ≤ x ∧ x < (n : Int)
theorem elems_fine {t : Topo} (ht : 0 ≤ t.tol) {l : List Int} (h : l ∈ elemsOf t) : fine (elems t) l ∧ (l.length : Int) ≤ t.tol := by
  unfold elemsOf at h
  rcases List.mem_cons.1 h with rfl | h
  · exact ⟨⟨List.Pairwise.nil, fun x hx => by simp at hx⟩, ht⟩
  · rcases List.mem_append.1 h with h | h
    · split at h
      · unfold singles at h
        obtain ⟨i, hi, rfl⟩ := List.mem_map.1 h
        have := List.mem_range.1 hi
        exact ⟨⟨List.pairwise_singleton _ _, fun x hx => by rw [List.mem_singleton.1 hx]; omega⟩, by simpa using (by assumption)⟩
      · simp at h
    · split at h
      · unfold pairs at h
        obtain ⟨i, hi, hr⟩ := List.mem_flatMap.1 h
        unfold pairsRow at hr
        obtain ⟨k, hk, rfl⟩ := List.mem_map.1 hr
        have h1 := List.mem_range.1 hi
        obtain ⟨h2, h3⟩ := List.mem_filter.1 hk
        have h4 := List.mem_range.1 h2
        have h5 : i < k := by simpa using h3
        refine ⟨⟨List.pairwise_cons.2 ⟨fun y hy => by rw [List.mem_singleton.1 hy]; omega, List.pairwise_singleton _ _⟩, fun x hx => ?_⟩, by simpa using (by assumption)⟩
        simp only [List.mem_cons, List.not_mem_nil, or_false] at hx
        rcases hx with rfl | rfl <;> omega
      · simp at h
theorem key_fine {t : Topo} {l : List Int} (h : fine (elems t) l) : rising (keyOf t.devs.xs.length l).1 t.links.xs.length ∧ rising (keyOf t.devs.xs.length l).2 t.devs.xs.length ∧ (keyOf t.devs.xs.length l).1.length + (keyOf t.devs.xs.length l).2.length = l.length := by
  have he : elems t = t.devs.xs.length + t.links.xs.length := rfl
  unfold keyOf
  refine ⟨rising_iff.2 ⟨?_, fun x hx => ?_⟩, rising_iff.2 ⟨h.1.filter _, fun x hx => ?_⟩, ?_⟩
  · rw [List.pairwise_map]
    exact (h.1.filter _).imp fun {a b} hab => by omega
  · obtain ⟨y, hy, rfl⟩ := List.mem_map.1 hx
    obtain ⟨h1, h2⟩ := List.mem_filter.1 hy
    have := h.2 y h1
    have h3 : ¬ y < (t.devs.xs.length : Int) := by simpa using h2
    omega
  · obtain ⟨h1, h2⟩ := List.mem_filter.1 hx
    have := h.2 x h1
    have h3 : x < (t.devs.xs.length : Int) := by simpa using h2
    omega
  · show (List.map _ (List.filter _ l)).length + (List.filter _ l).length = l.length
    rw [List.length_map]
    induction l with
    | nil => rfl
    | cons a l ih =>
      have hr : fine (elems t) l := ⟨(List.pairwise_cons.1 h.1).2, fun x hx => h.2 x (List.mem_cons_of_mem _ hx)⟩
      have := ih hr
      by_cases hc : a < (t.devs.xs.length : Int)
      · rw [List.filter_cons_of_neg (by simpa using hc), List.filter_cons_of_pos (by simpa using hc), List.length_cons, List.length_cons]; omega
      · rw [List.filter_cons_of_pos (by simpa using hc), List.filter_cons_of_neg (by simpa using hc), List.length_cons, List.length_cons]; omega
theorem key_back {n : Nat} : ∀ {l : List Int}, l.Pairwise (· < ·) → (keyOf n l).2 ++ (keyOf n l).1.map (fun x => x + (n : Int)) = l
  | [], _ => rfl
  | a :: l, h => by
    obtain ⟨h1, h2⟩ := List.pairwise_cons.1 h
    have ih := key_back (n := n) h2
    unfold keyOf at ih ⊢
    by_cases hc : a < (n : Int)
    · rw [List.filter_cons_of_neg (by simpa using hc), List.filter_cons_of_pos (by simpa using hc), List.cons_append]
      exact congrArg (a :: ·) ih
    · have hn : l.filter (fun x => decide (x < (n : Int))) = [] := List.filter_eq_nil_iff.2 fun x hx => by have := h1 x hx; simp; omega
      have ha : l.filter (fun x => decide (¬ x < (n : Int))) = l := List.filter_eq_self.2 fun x hx => by have := h1 x hx; simp; omega
      rw [List.filter_cons_of_pos (by simpa using hc), List.filter_cons_of_neg (by simpa using hc), hn, ha, List.nil_append, List.map_cons, List.map_cons, List.map_map]
      rw [show a - (n : Int) + n = a from by omega]
      congr 1
      rw [List.map_congr_left (g := id) (fun x _ => by simp), List.map_id]
/-- a number that tells the choices apart, and grows along the list -/
def code (n : Nat) : List Int → Int
  | [] => 0
  | [i] => 1 + i
  | [i, j] => 1 + n + i * n + j
  | _ => 0
theorem elems_rise (t : Topo) : (elemsOf t).Pairwise fun a b => code (elems t) a < code (elems t) b := by
  have hs : ∀ l ∈ singles (elems t), 0 < code (elems t) l ∧ code (elems t) l < 1 + elems t := by
    intro l hl
    unfold singles at hl
    obtain ⟨i, hi, rfl⟩ := List.mem_map.1 hl
    have := List.mem_range.1 hi
    show 0 < 1 + (i : Int) ∧ 1 + (i : Int) < _
    omega
  have hp : ∀ l ∈ pairs (elems t) (elems t), 1 + (elems t : Int) ≤ code (elems t) l := by
    intro l hl
    unfold pairs at hl
    obtain ⟨i, hi, hr⟩ := List.mem_flatMap.1 hl
    unfold pairsRow at hr
    obtain ⟨k, hk, rfl⟩ := List.mem_map.1 hr
    show _ ≤ 1 + (elems t : Int) + (i : Int) * (elems t : Int) + (k : Int)
    have : 0 ≤ (i : Int) * (elems t : Int) := Int.mul_nonneg (by omega) (by omega)
    omega
  have hs2 : (singles (elems t)).Pairwise fun a b => code (elems t) a < code (elems t) b := by
    unfold singles
    rw [List.pairwise_map]
    exact List.pairwise_lt_range.imp fun {a b} h => by show 1 + (a : Int) < 1 + (b : Int); omega
  have hp2 : (pairs (elems t) (elems t)).Pairwise fun a b => code (elems t) a < code (elems t) b := by
    unfold pairs
    rw [List.pairwise_flatMap]
    refine ⟨fun i _ => ?_, List.pairwise_lt_range.imp fun {a b} hab => ?_⟩
    · unfold pairsRow
      rw [List.pairwise_map]
      exact (List.pairwise_lt_range.filter _).imp fun {a b} h => by show 1 + (elems t : Int) + (i : Int) * (elems t : Int) + (a : Int) < 1 + (elems t : Int) + (i : Int) * (elems t : Int) + (b : Int); omega
    · intro x hx y hy
      unfold pairsRow at hx hy
      obtain ⟨k, hk, rfl⟩ := List.mem_map.1 hx
      obtain ⟨k', hk', rfl⟩ := List.mem_map.1 hy
      have h1 := List.mem_range.1 (List.mem_filter.1 hk).1
      show 1 + (elems t : Int) + (a : Int) * (elems t : Int) + (k : Int) < 1 + (elems t : Int) + (b : Int) * (elems t : Int) + (k' : Int)
      have h2 : ((a : Int) + 1) * (elems t : Int) ≤ (b : Int) * (elems t : Int) := Int.mul_le_mul_of_nonneg_right (by omega) (by omega)
      rw [Int.add_mul, Int.one_mul] at h2
      omega
  unfold elemsOf
  refine List.pairwise_cons.2 ⟨fun l hl => ?_, List.pairwise_append.2 ⟨?_, ?_, fun a ha b hb => ?_⟩⟩
  · rcases List.mem_append.1 hl with h | h
    · split at h
      · exact (hs l h).1
      · simp at h
    · split at h
      · have := hp l h; show (0 : Int) < _; omega
      · simp at h
  · split
    · exact hs2
    · exact List.Pairwise.nil
  · split
    · exact hp2
    · exact List.Pairwise.nil
  · split at ha
    · split at hb
      · have := (hs a ha).2; have := hp b hb; omega
      · simp at hb
    · simp at ha
theorem all_len {t : Topo} (h : topV t) : ((allOf t).length : Int) = 1 + (if 1 ≤ t.tol then (elems t : Int) else 0) + (if 2 ≤ t.tol then (elems t : Int) * ((elems t : Int) - 1) / 2 else 0) := by
  rw [all_elems h, List.length_map]
  unfold elemsOf
  rw [List.length_cons, List.length_append, ← pairs_count]
  split <;> split <;> simp [singles_len] <;> omega
theorem all_at {t : Topo} (h : topV t) {i : Nat} (hi : i < (allOf t).length) : (allOf t).getD i ([], []) = keyOf t.devs.xs.length ((elemsOf t).getD i []) ∧ (elemsOf t).getD i [] ∈ elemsOf t := by
  have hl : (allOf t).length = (elemsOf t).length := by rw [all_elems h, List.length_map]
  rw [all_elems h, getD_map (d := []) (by omega)]
  exact ⟨rfl, getD_mem (by omega)⟩
theorem all_state {t : Topo} (h : topV t) {i : Nat} {f : Fail} (hi : i < (allOf t).length) (hf : keyF f = (allOf t).getD i ([], [])) : failV t f ∧ (f.links.xs.length : Int) + f.devs.xs.length ≤ t.tol := by
  obtain ⟨h1, h2⟩ := all_at h hi
  have hb := h.1
  unfold topB at hb
  obtain ⟨h3, h4⟩ := elems_fine (by omega) h2
  obtain ⟨h5, h6, h7⟩ := key_fine h3
  rw [h1] at hf
  have e1 : f.links.xs = _ := congrArg Prod.fst hf
  have e2 : f.devs.xs = _ := congrArg Prod.snd hf
  exact ⟨⟨⟨h, by rw [e1]; exact h5⟩, by rw [e2]; exact h6⟩, by rw [e1, e2]; omega⟩
theorem all_differ {t : Topo} (h : topV t) {i j : Nat} (hi : i < (allOf t).length) (hj : j < (allOf t).length) : i = j ↔ (allOf t).getD i ([], []) = (allOf t).getD j ([], []) := by
  refine ⟨fun e => by rw [e], fun e => ?_⟩
  obtain ⟨h1, h2⟩ := all_at h hi
  obtain ⟨h3, h4⟩ := all_at h hj
  have hb := h.1
  unfold topB at hb
  rw [h1, h3] at e
  have hij : (elemsOf t).getD i [] = (elemsOf t).getD j [] := by
    rw [← key_back (n := t.devs.xs.length) (elems_fine (by omega) h2).1.1, ← key_back (n := t.devs.xs.length) (elems_fine (by omega) h4).1.1, e]
  have hl : (allOf t).length = (elemsOf t).length := by rw [all_elems h, List.length_map]
  have hr := (pw_getD [] _ _).1 (elems_rise t)
  rcases Nat.lt_trichotomy i j with g | g | g
  · have := hr j (by omega) i g; rw [hij] at this; omega
  · exact g
  · have := hr i (by omega) j g; rw [hij] at this; omega
end Go.Proofs.Ytfanmniaolncbaa.V
