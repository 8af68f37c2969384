/- A binary heap of visits, plain. -/
import Derived.Test.YtfanmniaolncbaaGrpE
import Derived.Test.YtfanmniaolncbaaTD3
set_option linter.unusedVariables false
set_option linter.unusedSimpArgs false
namespace Go.Proofs.Ytfanmniaolncbaa.V
open Go.RowKit
def kq (xs : List Vis) (i : Nat) : Int := (xs.getD i visE.dflt).dist
def swapL (xs : List Vis) (i j : Nat) : List Vis := (xs.set i (xs.getD j visE.dflt)).set j (xs.getD i visE.dflt)
def HeapO (xs : List Vis) : Prop := ∀ i, 0 < i → i < xs.length → kq xs ((i - 1) / 2) ≤ kq xs i
structure UpI (xs : List Vis) (i : Nat) : Prop where
  lt : i < xs.length
  ord : ∀ j, 0 < j → j < xs.length → j ≠ i → kq xs ((j - 1) / 2) ≤ kq xs j
  kid : ∀ j, 0 < j → j < xs.length → (j - 1) / 2 = i → 0 < i → kq xs ((i - 1) / 2) ≤ kq xs j
structure DownI (xs : List Vis) (i : Nat) : Prop where
  ord : ∀ j, 0 < j → j < xs.length → (j - 1) / 2 ≠ i → kq xs ((j - 1) / 2) ≤ kq xs j
  kid : ∀ j, 0 < j → j < xs.length → (j - 1) / 2 = i → 0 < i → kq xs ((i - 1) / 2) ≤ kq xs j
/-- the least of i and its first children -/
structure LeastI (xs : List Vis) (i c m : Nat) : Prop where
  is : m = i ∨ 2 * i + 1 ≤ m ∧ m < c ∧ m < xs.length
  hi : c ≤ 2 * i + 3
  lo : 2 * i + 1 ≤ c
  top : kq xs m ≤ kq xs i
  all : ∀ x, 2 * i + 1 ≤ x → x < c → kq xs m ≤ kq xs x
section
variable {xs : List Vis} {i j c m : Nat} {v : Vis}
theorem swap_len : (swapL xs i j).length = xs.length := by simp [swapL]
theorem swap_perm (hi : i < xs.length) (hj : j < xs.length) : (swapL xs i j).Perm xs := by
  have h := @List.set_set_perm _ xs i j hi hj
  unfold swapL
  have e1 : xs.getD j visE.dflt = xs[j] := by rw [List.getD_eq_getElem?_getD, List.getElem?_eq_getElem hj]; rfl
  have e2 : xs.getD i visE.dflt = xs[i] := by rw [List.getD_eq_getElem?_getD, List.getElem?_eq_getElem hi]; rfl
  rw [e1, e2]; exact h
theorem swap_kq (hi : i < xs.length) (hj : j < xs.length) (x : Nat) : kq (swapL xs i j) x = if x = j then kq xs i else if x = i then kq xs j else kq xs x := by
  unfold kq swapL
  simp only [List.getD_eq_getElem?_getD]
  by_cases e : x = j
  · subst e
    rw [if_pos rfl, List.getElem?_set_self (by simpa using hj)]; rfl
  · rw [if_neg e, List.getElem?_set_ne (fun q => e q.symm)]
    by_cases e2 : x = i
    · subst e2
      rw [if_pos rfl, List.getElem?_set_self hi]; rfl
    · rw [if_neg e2, List.getElem?_set_ne (fun q => e2 q.symm)]
theorem kq_snoc (h : i < xs.length) : kq (xs ++ [v]) i = kq xs i := by
  unfold kq; rw [List.getD_eq_getElem?_getD, List.getElem?_append_left h, List.getD_eq_getElem?_getD]
theorem up_start (h : HeapO xs) : UpI (xs ++ [v]) xs.length := by
  refine ⟨by simp, fun j h0 h1 h2 => ?_, fun j h0 h1 h2 => ?_⟩
  · rw [List.length_append] at h1; simp at h1
    have hj : j < xs.length := by omega
    rw [kq_snoc hj, kq_snoc (by omega)]
    exact h j h0 hj
  · rw [List.length_append] at h1; simp at h1
    omega
theorem up_top (U : UpI xs 0) : HeapO xs := fun j h0 h1 => U.ord j h0 h1 (by omega)
theorem up_stop (U : UpI xs i) (h : kq xs ((i - 1) / 2) ≤ kq xs i) : HeapO xs := fun j h0 h1 => by
  by_cases e : j = i
  · subst e; exact h
  · exact U.ord j h0 h1 e
theorem up_swap (U : UpI xs i) (h0 : 0 < i) (h : kq xs i < kq xs ((i - 1) / 2)) : UpI (swapL xs i ((i - 1) / 2)) ((i - 1) / 2) := by
  have hi := U.lt
  have hp : (i - 1) / 2 < xs.length := by omega
  have g := swap_kq (xs := xs) hi hp
  refine ⟨by rw [swap_len]; exact hp, fun j hj0 hj hne => ?_, fun j hj0 hj he hp0 => ?_⟩
  · rw [swap_len] at hj
    rw [g, g, if_neg hne]
    by_cases e : j = i
    · subst e; rw [if_pos rfl, if_pos rfl]; omega
    · rw [if_neg e]
      have h1 := U.ord j hj0 hj e
      by_cases e2 : (j - 1) / 2 = (i - 1) / 2
      · rw [if_pos e2]; rw [e2] at h1; omega
      · rw [if_neg e2]
        by_cases e3 : (j - 1) / 2 = i
        · rw [if_pos e3]; exact U.kid j hj0 hj e3 h0
        · rw [if_neg e3]; exact h1
  · rw [swap_len] at hj
    have hpp : ((i - 1) / 2 - 1) / 2 ≠ (i - 1) / 2 := by omega
    have hpi : ((i - 1) / 2 - 1) / 2 ≠ i := by omega
    have hjp : j ≠ (i - 1) / 2 := by omega
    rw [g, g, if_neg hpp, if_neg hpi, if_neg hjp]
    have h1 := U.ord ((i - 1) / 2) hp0 hp (by omega)
    by_cases e : j = i
    · rw [if_pos e]; exact h1
    · rw [if_neg e]
      have h2 := U.ord j hj0 hj e
      rw [he] at h2; omega
theorem heap_min (h : HeapO xs) : ∀ n i, i ≤ n → i < xs.length → kq xs 0 ≤ kq xs i
  | n, i, hn, hi => by
    by_cases e : i = 0
    · subst e; exact Int.le_refl _
    · have h1 := h i (by omega) hi
      cases n with
      | zero => omega
      | succ n =>
        have h2 := heap_min h n ((i - 1) / 2) (by omega) (by omega)
        omega
theorem kq_take {k : Nat} (h : i < k) : kq (xs.take k) i = kq xs i := by
  unfold kq; rw [List.getD_eq_getElem?_getD, List.getElem?_take_of_lt h, List.getD_eq_getElem?_getD]
theorem kq_set (h : 0 < i) : kq (xs.set 0 v) i = kq xs i := by
  unfold kq; rw [List.getD_eq_getElem?_getD, List.getElem?_set_ne (by omega), List.getD_eq_getElem?_getD]
theorem down_start (h : HeapO xs) (v : Vis) : DownI ((xs.set 0 v).take (xs.length - 1)) 0 := by
  refine ⟨fun j h0 h1 h2 => ?_, fun j _ _ _ h3 => absurd h3 (Nat.lt_irrefl _)⟩
  have hj : j < xs.length - 1 := by rw [List.length_take] at h1; omega
  rw [kq_take hj, kq_take (by omega), kq_set h0, kq_set (by omega)]
  exact h j h0 (by omega)
/-- what a pop leaves -/
theorem pop_perm (h : 0 < xs.length) : xs.Perm (xs.getD 0 visE.dflt :: (xs.set 0 (xs.getD (xs.length - 1) visE.dflt)).take (xs.length - 1)) := by
  have h1 := swap_perm (xs := xs) (i := 0) (j := xs.length - 1) h (by omega)
  refine h1.symm.trans ?_
  have e : swapL xs 0 (xs.length - 1) = (xs.set 0 (xs.getD (xs.length - 1) visE.dflt)).take (xs.length - 1) ++ [xs.getD 0 visE.dflt] := by
    unfold swapL
    apply List.ext_getElem?
    intro k
    by_cases hk : k < xs.length - 1
    · rw [List.getElem?_set_ne (by omega), List.getElem?_append_left (by simp; omega), List.getElem?_take_of_lt hk]
    · by_cases hk2 : k = xs.length - 1
      · subst hk2
        rw [List.getElem?_set_self (by simp; omega), List.getElem?_append_right (by simp)]
        simp
      · rw [List.getElem?_eq_none (by simp; omega), List.getElem?_eq_none (by simp; omega)]
  rw [e]
  exact List.perm_append_comm
theorem least_start : LeastI xs i (2 * i + 1) i := ⟨.inl rfl, by omega, Nat.le_refl _, Int.le_refl _, fun x h1 h2 => by omega⟩
theorem least_less (L : LeastI xs i c m) (hc : c ≤ 2 * i + 2) (hl : c < xs.length) (h : kq xs c < kq xs m) : LeastI xs i (c + 1) c :=
  ⟨.inr ⟨L.lo, by omega, hl⟩, by omega, by have := L.lo; omega, by have := L.top; omega, fun x h1 h2 => by
    rcases Nat.lt_succ_iff_lt_or_eq.1 h2 with g | rfl
    · have := L.all x h1 g; omega
    · exact Int.le_refl _⟩
theorem least_keep (L : LeastI xs i c m) (hc : c ≤ 2 * i + 2) (h : ¬ kq xs c < kq xs m) : LeastI xs i (c + 1) m :=
  ⟨L.is.imp id fun q => ⟨q.1, by omega, q.2.2⟩, by omega, by have := L.lo; omega, L.top, fun x h1 h2 => by
    rcases Nat.lt_succ_iff_lt_or_eq.1 h2 with g | rfl
    · exact L.all x h1 g
    · omega⟩
theorem least_all (L : LeastI xs i c m) (hc : 2 * i + 2 < c ∨ xs.length ≤ c) {x : Nat} (h0 : 0 < x) (hx : x < xs.length) (hp : (x - 1) / 2 = i) : kq xs m ≤ kq xs x :=
  L.all x (by omega) (by omega)
theorem down_stop (D : DownI xs i) (L : LeastI xs i c i) (hc : 2 * i + 2 < c ∨ xs.length ≤ c) : HeapO xs := fun j h0 h1 => by
  by_cases e : (j - 1) / 2 = i
  · rw [e]; exact least_all L hc h0 h1 e
  · exact D.ord j h0 h1 e
theorem down_swap (D : DownI xs i) (L : LeastI xs i c m) (hc : 2 * i + 2 < c ∨ xs.length ≤ c) (hm : m ≠ i) : i < xs.length ∧ m < xs.length ∧ DownI (swapL xs i m) m := by
  have hi2 := L.is
  have hml : m < xs.length := by omega
  have hmi : (m - 1) / 2 = i := by have := L.hi; omega
  have hil : i < xs.length := by omega
  have g := swap_kq (xs := xs) hil hml
  refine ⟨hil, hml, fun j h0 h1 h2 => ?_, fun j h0 h1 h2 h3 => ?_⟩
  · rw [swap_len] at h1
    rw [g, g, if_neg h2]
    by_cases e : (j - 1) / 2 = i
    · rw [if_pos e]
      have h4 := least_all L hc h0 h1 e
      by_cases e2 : j = m
      · rw [if_pos e2]; exact L.top
      · rw [if_neg e2, if_neg (by omega)]; exact h4
    · rw [if_neg e]
      have h4 := D.ord j h0 h1 e
      have e2 : j ≠ m := by rintro rfl; exact e hmi
      rw [if_neg e2]
      by_cases e3 : j = i
      · rw [if_pos e3]
        exact e3 ▸ D.kid m (by omega) hml hmi (by omega)
      · rw [if_neg e3]; exact h4
  · rw [swap_len] at h1
    have hjm : j ≠ m := by omega
    have hji : j ≠ i := by omega
    rw [hmi, g, g, if_neg (by omega), if_pos rfl, if_neg hjm, if_neg hji]
    have := D.ord j h0 h1 (by omega)
    rw [h2] at this
    exact this
end
end Go.Proofs.Ytfanmniaolncbaa.V
