/- Words between commas, as plain lists: the items, joined by commas, are the words; when an item is empty. -/
import Derived.Test.YtmaiillomoehgaaDoorTD
import Derived.Test.YtmaiillomoehgaaDoorGrpD
set_option linter.unusedVariables false
set_option linter.unusedSimpArgs false
namespace Go.Proofs.YtmaiillomoehgaaDoor.V
def cma : ByteArray := ⟨#[44]⟩
def itS (acc : List (List ByteArray)) (cur : List ByteArray) : List ByteArray → List (List ByteArray)
  | [] => acc ++ [cur]
  | w :: r => if w = cma then itS (acc ++ [cur]) [] r else itS acc (cur ++ [w]) r
abbrev itemsL (ws : List ByteArray) : List (List ByteArray) := itS [] [] ws
def itOK (ws : List ByteArray) : Prop := ∀ p ∈ itemsL ws, p ≠ []
instance (ws : List ByteArray) : Decidable (itOK ws) := by unfold itOK; exact inferInstance
theorem itS_c (acc : List (List ByteArray)) (cur r : List ByteArray) {w : ByteArray} (h : w = ⟨#[44]⟩) : itS acc cur (w :: r) = itS (acc ++ [cur]) [] r := if_pos (show w = cma from h)
theorem itS_w (acc : List (List ByteArray)) (cur r : List ByteArray) {w : ByteArray} (h : w ≠ ⟨#[44]⟩) : itS acc cur (w :: r) = itS acc (cur ++ [w]) r := if_neg (show ¬ w = cma from h)
theorem itS_mem : ∀ (r : List ByteArray) (acc : List (List ByteArray)) (cur : List ByteArray) {x : List ByteArray}, x ∈ acc → x ∈ itS acc cur r
  | [], acc, cur, x, h => List.mem_append_left _ h
  | w :: r, acc, cur, x, h => by
    rw [itS]; split
    · exact itS_mem r _ _ (List.mem_append_left _ h)
    · exact itS_mem r _ _ h
theorem drop_at {xs : List ByteArray} {k : Nat} (h : k < xs.length) (d : ByteArray) : xs.drop k = xs.getD k d :: xs.drop (k + 1) := by
  rw [List.getD_eq_getElem?_getD, List.getElem?_eq_getElem h]
  exact List.drop_eq_getElem_cons h
/-- joined by commas -/
def joinC : List (List ByteArray) → List ByteArray
  | [] => []
  | [p] => p
  | p :: q :: r => p ++ cma :: joinC (q :: r)
theorem joinC_app : ∀ (l : List (List ByteArray)) (p : List ByteArray), l ≠ [] → joinC (l ++ [p]) = joinC l ++ cma :: p
  | [], _, h => absurd rfl h
  | [x], p, _ => rfl
  | x :: y :: r, p, _ => by
    show x ++ cma :: joinC (y :: r ++ [p]) = _
    rw [joinC_app (y :: r) p (by simp)]
    simp [joinC]
theorem joinC_cat : ∀ (l : List (List ByteArray)) (p q : List ByteArray), joinC (l ++ [p ++ q]) = joinC (l ++ [p]) ++ q
  | [], p, q => rfl
  | x :: l, p, q => by
    rw [joinC_app (x :: l) _ (by simp), joinC_app (x :: l) _ (by simp)]; simp
theorem itS_join : ∀ (r : List ByteArray) (acc : List (List ByteArray)) (cur : List ByteArray), joinC (itS acc cur r) = joinC (acc ++ [cur]) ++ r
  | [], acc, cur => by simp [itS]
  | w :: r, acc, cur => by
    rw [itS]; split
    · rename_i h
      rw [itS_join r, joinC_app (acc ++ [cur]) [] (by simp), h]; simp
    · rw [itS_join r, joinC_cat]; simp
theorem items_join (ws : List ByteArray) : joinC (itemsL ws) = ws := by
  rw [itemsL, itS_join]; rfl
theorem itS_noc : ∀ (r : List ByteArray) (acc : List (List ByteArray)) (cur : List ByteArray), (∀ p ∈ acc, ∀ w ∈ p, w ≠ cma) → (∀ w ∈ cur, w ≠ cma) → ∀ p ∈ itS acc cur r, ∀ w ∈ p, w ≠ cma
  | [], acc, cur, h1, h2 => fun p hp => (List.mem_append.1 hp).elim (h1 p) fun h => by obtain rfl : p = cur := by simpa using h
                                                                                       exact h2
  | w :: r, acc, cur, h1, h2 => by
    rw [itS]; split
    · exact itS_noc r _ _ (fun p hp => (List.mem_append.1 hp).elim (h1 p) fun h => by obtain rfl : p = cur := by simpa using h
                                                                                      exact h2) (fun w h => by simp at h)
    · rename_i hw
      exact itS_noc r _ _ h1 fun v hv => (List.mem_append.1 hv).elim (h2 v) fun h => by obtain rfl : v = w := by simpa using h
                                                                                        exact hw
theorem items_noc (ws : List ByteArray) : ∀ p ∈ itemsL ws, ∀ w ∈ p, w ≠ cma := itS_noc ws [] [] (fun _ h => by simp at h) (fun _ h => by simp at h)
/-- two commas side by side, the first of r after a comma or at the beginning, or a comma at the end -/
def BadAt (ws : List ByteArray) (d : ByteArray) : Prop := ws.length = 0 ∨ ws.getD 0 d = cma ∨ ws.getD (ws.length - 1) d = cma ∨ ∃ i, 1 ≤ i ∧ i < ws.length ∧ ws.getD i d = cma ∧ ws.getD (i - 1) d = cma
theorem itS_bad (d : ByteArray) (ws : List ByteArray) (hd : ¬ BadAt ws d) : ∀ (r : List ByteArray) (acc : List (List ByteArray)) (cur : List ByteArray) (k : Nat), ws.drop k = r → k ≤ ws.length → (∀ p ∈ acc, p ≠ []) → (cur = [] → k = 0 ∨ ws.getD (k - 1) d = cma) → ∀ p ∈ itS acc cur r, p ≠ []
  | [], acc, cur, k, hr, hk, h1, h2 => fun p hp => (List.mem_append.1 hp).elim (h1 p) fun h => by
      obtain rfl : p = cur := by simpa using h
      have : k = ws.length := by have := congrArg List.length hr; simp at this; omega
      intro e
      rcases h2 e with h0 | h0
      · exact hd (.inl (by omega))
      · subst this; exact hd (.inr (.inr (.inl h0)))
  | w :: r, acc, cur, k, hr, hk, h1, h2 => by
    have hlt : k < ws.length := by have := congrArg List.length hr; simp at this; omega
    have hw := drop_at hlt d
    rw [hr] at hw
    simp only [List.cons.injEq] at hw
    rw [itS]; split
    · rename_i hc
      refine itS_bad d ws hd r _ _ (k + 1) hw.2.symm (by omega) (fun p hp => (List.mem_append.1 hp).elim (h1 p) fun h => ?_) fun _ => .inr (by rw [Nat.add_sub_cancel, ← hw.1]; exact hc)
      obtain rfl : p = cur := by simpa using h
      intro e
      rcases h2 e with h0 | h0
      · subst h0; exact hd (.inr (.inl (hw.1 ▸ hc)))
      · by_cases hk0 : k = 0
        · subst hk0; exact hd (.inr (.inl (hw.1 ▸ hc)))
        · exact hd (.inr (.inr (.inr ⟨k, by omega, hlt, hw.1 ▸ hc, h0⟩)))
    · exact itS_bad d ws hd r _ _ (k + 1) hw.2.symm (by omega) h1 fun h => by simp at h
theorem not_ok_bad {ws : List ByteArray} (d : ByteArray) (h : ¬ itOK ws) : BadAt ws d :=
  Classical.byContradiction fun hd => h (itS_bad d ws hd ws [] [] 0 rfl (Nat.zero_le _) (fun _ h => by simp at h) fun _ => .inl rfl)
/-! raw slices: what they point to is told elsewhere -/
def rawE : Enc (Sl ByteArray) where
  n := 1
  cells s := [.slice s.a s.xs.length s.c]
  dflt := ⟨none, 0, []⟩
  wf _ _ _ := True
  len _ := rfl
  one _ u hu := by simp at hu; subst hu; rfl
  keep _ _ := trivial
  mono _ _ := trivial
def allE : Enc (List (Sl ByteArray)) where
  n := 0
  cells _ := []
  dflt := []
  wf D h l := ∀ x ∈ l, (slE strE).wf D h x
  len _ := rfl
  one _ u hu := by simp at hu
  keep k h x hx := (slE strE).keep k (h x hx)
  mono k h x hx := (slE strE).mono k (h x hx)
theorem all_app {D : Nat → Prop} {h : Array Obj} {l : List (Sl ByteArray)} {x : Sl ByteArray} (H : allE.wf D h l) (k : (slE strE).wf D h x) : allE.wf D h (l ++ [x]) := fun y hy =>
  (List.mem_append.1 hy).elim (H y) fun e => by obtain rfl : y = x := by simpa using e
                                                exact k
theorem getD_mem' {α : Type} {xs : List α} {i : Nat} {d : α} (h : i < xs.length) : xs.getD i d ∈ xs := by
  rw [List.getD_eq_getElem?_getD, List.getElem?_eq_getElem h]; exact List.getElem_mem h
theorem raw_wf {D : Nat → Prop} {h : Array Obj} {s : Sl (Sl ByteArray)} (H : (slE rawE).wf D h s) (A : allE.wf D h s.xs) : (slE (slE strE)).wf D h s :=
  ⟨⟨H.1.len, H.1.ad, H.1.cell, fun i hi => A _ (getD_mem' (d := (slE strE).dflt) hi)⟩, H.2⟩
theorem getD_mapS {xs : List (Sl ByteArray)} {k : Nat} (hk : k < xs.length) : (xs.map Sl.xs).getD k [] = (xs.getD k (slE strE).dflt).xs := by
  rw [List.getD_eq_getElem?_getD, List.getD_eq_getElem?_getD, List.getElem?_map, List.getElem?_eq_getElem hk]; rfl
theorem memS {xs : List (Sl ByteArray)} {k : Nat} (hk : k < xs.length) : (xs.getD k (slE strE).dflt).xs ∈ xs.map Sl.xs := List.mem_map_of_mem (getD_mem' hk)
theorem joinC_step {l : List (List ByteArray)} {k : Nat} (h : k < l.length) : joinC (l.take (k + 1)) = (if k = 0 then [] else joinC (l.take k) ++ [cma]) ++ l.getD k [] := by
  rw [List.take_add_one, List.getD_eq_getElem?_getD, List.getElem?_eq_getElem h]
  show joinC (l.take k ++ [l[k]]) = _
  split
  · rename_i h0; subst h0; rfl
  · have hne : l.take k ≠ [] := fun e => (List.take_eq_nil_iff.1 e).elim (by assumption) fun h1 => by subst h1; simp at h
    rw [joinC_app _ _ hne]; simp
theorem joinC_le (l : List (List ByteArray)) : ∀ p ∈ l, p.length ≤ (joinC l).length := by
  induction l with
  | nil => intro p h; simp at h
  | cons x r ih =>
    intro p h
    cases r with
    | nil => obtain rfl : p = x := by simpa using h
             exact Nat.le_refl _
    | cons y r =>
      show _ ≤ (x ++ cma :: joinC (y :: r)).length
      rw [List.length_append, List.length_cons]
      rcases List.mem_cons.1 h with e | e
      · subst e; omega
      · have := ih p e; omega
theorem joinC_pre : ∀ (a b : List (List ByteArray)), (joinC a).length ≤ (joinC (a ++ b)).length
  | [], _ => Nat.zero_le _
  | [p], [] => Nat.le_refl _
  | [p], q :: r => by
    show p.length ≤ (p ++ cma :: joinC (q :: r)).length
    rw [List.length_append]; omega
  | p :: q :: r, b => by
    show (p ++ cma :: joinC (q :: r)).length ≤ (p ++ cma :: joinC ((q :: r) ++ b)).length
    have := joinC_pre (q :: r) b
    rw [List.length_append, List.length_append, List.length_cons, List.length_cons]; omega
theorem joinC_take (l : List (List ByteArray)) (k : Nat) : (joinC (l.take k)).length ≤ (joinC l).length := by
  have h2 := joinC_pre (l.take k) (l.drop k)
  rwa [List.take_append_drop] at h2
end Go.Proofs.YtmaiillomoehgaaDoor.V
