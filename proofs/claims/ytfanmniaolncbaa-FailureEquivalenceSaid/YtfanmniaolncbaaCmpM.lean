/- Connected components, plain: the least index of a class; forests of members; rounds of propagated labels. -/
import Derived.Test.YtfanmniaolncbaaTopV
set_option linter.unusedVariables false
set_option linter.unusedSimpArgs false
namespace Go.Proofs.Ytfanmniaolncbaa.V
open Go.RowKit
/-- connected by steps of R in either direction -/
inductive Conn (R : Nat → Nat → Prop) : Nat → Nat → Prop
  | refl (a : Nat) : Conn R a a
  | step {a b c : Nat} (h : Conn R a b) (r : R b c ∨ R c b) : Conn R a c
section
variable {R R' : Nat → Nat → Prop} {a b c : Nat}
theorem Conn.trans (h : Conn R a b) (k : Conn R b c) : Conn R a c := by
  induction k with
  | refl => exact h
  | step _ r ih => exact .step ih r
theorem Conn.one (h : R a b) : Conn R a b := .step (.refl a) (.inl h)
theorem Conn.symm (h : Conn R a b) : Conn R b a := by
  induction h with
  | refl => exact .refl _
  | step _ r ih => exact Conn.trans (.step (.refl _) r.symm) ih
theorem Conn.mono (hR : ∀ a b, R a b → R' a b) (h : Conn R a b) : Conn R' a b := by
  induction h with
  | refl => exact .refl _
  | step _ r ih => exact .step ih (r.imp (hR _ _) (hR _ _))
theorem Conn.congr (hR : ∀ a b, R a b ↔ R' a b) : Conn R a b ↔ Conn R' a b := ⟨Conn.mono fun a b => (hR a b).1, Conn.mono fun a b => (hR a b).2⟩
/-- what R connects, R' connects -/
theorem Conn.join (hR : ∀ a b, R a b → Conn R' a b) (h : Conn R a b) : Conn R' a b := by
  induction h with
  | refl => exact .refl _
  | step _ r ih => exact ih.trans (r.elim (hR _ _) fun r => (hR _ _ r).symm)
/-- a property that no step leaves -/
theorem Conn.stay {p : Nat → Prop} (hp : ∀ a b, R a b → (p a ↔ p b)) (h : Conn R a b) : p a ↔ p b := by
  induction h with
  | refl => exact Iff.rfl
  | step _ r ih => exact ih.trans (r.elim (hp _ _) fun r => (hp _ _ r).symm)
theorem lab_ex (R : Nat → Nat → Prop) (x : Nat) : ∃ y, Conn R x y ∧ ∀ z, Conn R x z → y ≤ z := exists_least ⟨x, Conn.refl (R := R) x⟩
/-- the least of a class -/
noncomputable def lab (R : Nat → Nat → Prop) (x : Nat) : Nat := (lab_ex R x).choose
theorem lab_conn (R : Nat → Nat → Prop) (x : Nat) : Conn R x (lab R x) := (lab_ex R x).choose_spec.1
theorem lab_le {x z : Nat} (h : Conn R x z) : lab R x ≤ z := (lab_ex R x).choose_spec.2 z h
theorem lab_self (R : Nat → Nat → Prop) (x : Nat) : lab R x ≤ x := lab_le (.refl x)
theorem lab_eq {x y : Nat} : lab R x = lab R y ↔ Conn R x y := by
  constructor
  · intro h
    exact (lab_conn R x).trans (by rw [h]; exact (lab_conn R y).symm)
  · intro h
    exact Nat.le_antisymm (lab_le (h.trans (lab_conn R y))) (lab_le (h.symm.trans (lab_conn R x)))
theorem lab_of {x m : Nat} (h : Conn R x m) (hm : ∀ z, Conn R x z → m ≤ z) : lab R x = m := Nat.le_antisymm (lab_le h) (hm _ (lab_conn R x))
theorem lab_lab (R : Nat → Nat → Prop) (x : Nat) : lab R (lab R x) = lab R x := lab_eq.2 (lab_conn R x).symm
theorem lab_congr (hR : ∀ a b, R a b ↔ R' a b) (x : Nat) : lab R x = lab R' x := lab_of ((Conn.congr hR).2 (lab_conn R' x)) fun z h => lab_le ((Conn.congr hR).1 h)
/-- one more link -/
def Add (R : Nat → Nat → Prop) (p q : Nat) (a b : Nat) : Prop := R a b ∨ a = p ∧ b = q
theorem conn_add {p q x y : Nat} : Conn (Add R p q) x y ↔ Conn R x y ∨ (Conn R x p ∧ Conn R q y) ∨ (Conn R x q ∧ Conn R p y) := by
  constructor
  · intro h
    induction h with
    | refl => exact .inl (.refl _)
    | step _ r ih =>
      have key : ∀ {b c}, R b c ∨ R c b → (Conn R x b ∨ (Conn R x p ∧ Conn R q b) ∨ (Conn R x q ∧ Conn R p b)) → Conn R x c ∨ (Conn R x p ∧ Conn R q c) ∨ (Conn R x q ∧ Conn R p c) := fun r h => by
        rcases h with h | ⟨h, k⟩ | ⟨h, k⟩
        · exact .inl (.step h r)
        · exact .inr (.inl ⟨h, .step k r⟩)
        · exact .inr (.inr ⟨h, .step k r⟩)
      rcases r with (r | ⟨rfl, rfl⟩) | (r | ⟨rfl, rfl⟩)
      · exact key (.inl r) ih
      · rcases ih with h | ⟨h, k⟩ | ⟨h, k⟩
        · exact .inr (.inl ⟨h, .refl _⟩)
        · exact .inr (.inl ⟨h, .refl _⟩)
        · exact .inl h
      · exact key (.inr r) ih
      · rcases ih with h | ⟨h, k⟩ | ⟨h, k⟩
        · exact .inr (.inr ⟨h, .refl _⟩)
        · exact .inl h
        · exact .inr (.inr ⟨h, .refl _⟩)
  · have up : ∀ {a b}, Conn R a b → Conn (Add R p q) a b := fun h => h.mono fun _ _ r => .inl r
    have pq : Conn (Add R p q) p q := .one (.inr ⟨rfl, rfl⟩)
    rintro (h | ⟨h, k⟩ | ⟨h, k⟩)
    · exact up h
    · exact (up h).trans (pq.trans (up k))
    · exact (up h).trans (pq.symm.trans (up k))
theorem lab_add {p q : Nat} (x : Nat) : lab (Add R p q) x = if lab R x = lab R p ∨ lab R x = lab R q then min (lab R p) (lab R q) else lab R x := by
  have hpq : Conn (Add R p q) p q := .one (.inr ⟨rfl, rfl⟩)
  have up : ∀ {a b}, Conn R a b → Conn (Add R p q) a b := fun h => h.mono fun _ _ r => .inl r
  by_cases h : lab R x = lab R p ∨ lab R x = lab R q
  · rw [if_pos h]
    have hx : Conn (Add R p q) x p := h.elim (fun h => up (lab_eq.1 h)) fun h => (up (lab_eq.1 h)).trans hpq.symm
    refine lab_of ?_ fun z hz => ?_
    · rcases Nat.le_total (lab R p) (lab R q) with g | g
      · rw [Nat.min_eq_left g]; exact hx.trans (up (lab_conn R p))
      · rw [Nat.min_eq_right g]; exact (hx.trans hpq).trans (up (lab_conn R q))
    · rcases conn_add.1 (hx.symm.trans hz) with g | ⟨_, g⟩ | ⟨_, g⟩
      · exact Nat.le_trans (Nat.min_le_left _ _) (lab_le g)
      · exact Nat.le_trans (Nat.min_le_right _ _) (lab_le g)
      · exact Nat.le_trans (Nat.min_le_left _ _) (lab_le g)
  · rw [if_neg h]
    refine lab_of (up (lab_conn R x)) fun z hz => ?_
    rcases conn_add.1 hz with g | ⟨g, _⟩ | ⟨g, _⟩
    · exact lab_le g
    · exact absurd (.inl (lab_eq.2 g)) h
    · exact absurd (.inr (lab_eq.2 g)) h
end
/-! forests: parent pointers that go down -/
def Down (ps : List (Option Nat)) : Prop := ∀ (i j : Nat), ps[i]? = some (some j) → j < i
def rootF (ps : List (Option Nat)) : Nat → Nat → Nat
  | 0, i => i
  | f + 1, i => match ps[i]? with
    | some (some j) => rootF ps f j
    | _ => i
def rootOf (ps : List (Option Nat)) (i : Nat) : Nat := rootF ps i i
theorem rootF_enough {ps : List (Option Nat)} (hd : Down ps) : ∀ (f i : Nat), i ≤ f → rootF ps f i = rootF ps i i := by
  have key : ∀ (n f g i : Nat), i ≤ n → i ≤ f → i ≤ g → rootF ps f i = rootF ps g i := by
    intro n
    induction n with
    | zero =>
      intro f g i hn hf hg
      have hi : ps[i]? = none ∨ ps[i]? = some none := by
        rcases h : ps[i]? with _ | (_ | j)
        · exact .inl rfl
        · exact .inr rfl
        · have := hd i j h; omega
      have one : ∀ f, rootF ps f i = i := fun f => by cases f <;> rcases hi with h | h <;> simp [rootF, h]
      rw [one, one]
    | succ n ih =>
      intro f g i hn hf hg
      rcases h : ps[i]? with _ | (_ | j)
      · cases f <;> cases g <;> simp [rootF, h]
      · cases f <;> cases g <;> simp [rootF, h]
      · have hj := hd i j h
        cases f with
        | zero => omega
        | succ f => cases g with
          | zero => omega
          | succ g => simp only [rootF, h]; exact ih f g j (by omega) (by omega) (by omega)
  exact fun f i h => key i f i i (Nat.le_refl _) h (Nat.le_refl _)
section
variable {ps : List (Option Nat)} {i j k : Nat}
theorem root_up (hd : Down ps) (h : ps[i]? = some (some j)) : rootOf ps i = rootOf ps j := by
  have hj := hd i j h
  unfold rootOf
  obtain ⟨f, rfl⟩ : ∃ f, i = f + 1 := ⟨i - 1, by omega⟩
  conv => lhs; simp only [rootF, h]
  exact rootF_enough hd f j (by omega)
theorem root_top (h : ps[i]? = some none) : rootOf ps i = i := by
  unfold rootOf; cases i <;> simp [rootF, h]
theorem root_le (hd : Down ps) : ∀ n i, i ≤ n → rootOf ps i ≤ i := by
  intro n
  induction n with
  | zero =>
    intro i hi
    obtain rfl : i = 0 := by omega
    exact Nat.le_refl _
  | succ n ih =>
    intro i hi
    rcases h : ps[i]? with _ | (_ | j)
    · unfold rootOf; cases i <;> simp [rootF, h]
    · rw [root_top h]; exact Nat.le_refl _
    · have hj := hd i j h
      rw [root_up hd h]
      exact Nat.le_trans (ih j (by omega)) (by omega)
theorem root_is (hd : Down ps) (hlt : ∀ (i j : Nat), ps[i]? = some (some j) → j < ps.length) : ∀ n i, i ≤ n → i < ps.length → ps[rootOf ps i]? = some none := by
  intro n
  induction n with
  | zero =>
    intro i hi hl
    rcases h : ps[i]? with _ | (_ | j)
    · rw [List.getElem?_eq_none_iff] at h; omega
    · rw [root_top h]; exact h
    · have := hd i j h; omega
  | succ n ih =>
    intro i hi hl
    rcases h : ps[i]? with _ | (_ | j)
    · rw [List.getElem?_eq_none_iff] at h; omega
    · rw [root_top h]; exact h
    · have hj := hd i j h
      rw [root_up hd h]
      exact ih j (by omega) (hlt i j h)
/-- a parent pointer set to a node further up with the same root -/
theorem root_halve (hd : Down ps) (hi : i < ps.length) (hk : k < i) (hr : rootOf ps k = rootOf ps i) (hnn : ps[i]? ≠ some none) : Down (ps.set i (some k)) ∧ ∀ x, rootOf (ps.set i (some k)) x = rootOf ps x := by
  have hd' : Down (ps.set i (some k)) := fun a b h => by
    by_cases e : i = a
    · subst e; rw [List.getElem?_set_self hi] at h; cases h; exact hk
    · rw [List.getElem?_set_ne e] at h; exact hd a b h
  refine ⟨hd', fun x => ?_⟩
  have : ∀ n x, x ≤ n → rootOf (ps.set i (some k)) x = rootOf ps x := by
    intro n
    induction n with
    | zero =>
      intro x hx
      obtain rfl : x = 0 := by omega
      rfl
    | succ n ih =>
      intro x hx
      by_cases e : i = x
      · subst e
        rw [root_up hd' (List.getElem?_set_self hi), ih k (by omega), hr]
      · have hg : (ps.set i (some k))[x]? = ps[x]? := List.getElem?_set_ne e
        rcases h : ps[x]? with _ | (_ | j)
        · have e1 : rootOf (ps.set i (some k)) x = x := by unfold rootOf; cases x <;> simp [rootF, hg, h]
          have e2 : rootOf ps x = x := by unfold rootOf; cases x <;> simp [rootF, h]
          rw [e1, e2]
        · rw [root_top h, root_top (hg.trans h)]
        · have hj := hd x j h
          rw [root_up hd h, root_up hd' (hg.trans h), ih j (by omega)]
  exact this x x (Nat.le_refl _)
/-- a root is hung below another one -/
theorem root_hang (hd : Down ps) (hi : ps[i]? = some none) (hk : ps[k]? = some none) (hki : k < i) : Down (ps.set i (some k)) ∧ ∀ x, rootOf (ps.set i (some k)) x = if rootOf ps x = i then k else rootOf ps x := by
  have hil : i < ps.length := (List.getElem?_eq_some_iff.1 hi).1
  have hd' : Down (ps.set i (some k)) := fun a b h => by
    by_cases e : i = a
    · subst e; rw [List.getElem?_set_self hil] at h; cases h; exact hki
    · rw [List.getElem?_set_ne e] at h; exact hd a b h
  refine ⟨hd', fun x => ?_⟩
  have hk' : (ps.set i (some k))[k]? = some none := by rw [List.getElem?_set_ne (by omega)]; exact hk
  have : ∀ n x, x ≤ n → rootOf (ps.set i (some k)) x = if rootOf ps x = i then k else rootOf ps x := by
    intro n
    induction n with
    | zero =>
      intro x hx
      obtain rfl : x = 0 := by omega
      have e1 : rootOf ps 0 = 0 := rfl
      have e2 : rootOf (ps.set i (some k)) 0 = 0 := rfl
      rw [e1, e2, if_neg (by omega)]
    | succ n ih =>
      intro x hx
      by_cases e : i = x
      · subst e
        rw [root_up hd' (List.getElem?_set_self hil), root_top hk', root_top hi, if_pos rfl]
      · have hg : (ps.set i (some k))[x]? = ps[x]? := List.getElem?_set_ne e
        rcases h : ps[x]? with _ | (_ | j)
        · have e1 : rootOf (ps.set i (some k)) x = x := by unfold rootOf; cases x <;> simp [rootF, hg, h]
          have e2 : rootOf ps x = x := by unfold rootOf; cases x <;> simp [rootF, h]
          rw [e1, e2, if_neg (fun q => e q.symm)]
        · rw [root_top h, root_top (hg.trans h), if_neg (fun q => e q.symm)]
        · have hj := hd x j h
          rw [root_up hd h, root_up hd' (hg.trans h), ih j (by omega)]
  exact this x x (Nat.le_refl _)
end
theorem root_alone {ps : List (Option Nat)} {x : Nat} (h : ps.getD x none = none) : rootOf ps x = x := by
  rw [List.getD_eq_getElem?_getD] at h
  unfold rootOf
  cases x with
  | zero => rfl
  | succ x =>
    unfold rootF
    split
    · rename_i j hj; rw [hj] at h; cases h
    · rfl
/-- links below k but the skipped one, that are usable -/
def linkR (t : Topo) (f : Fail) (s : Int) (k : Nat) (a b : Nat) : Prop := ∃ i, i < k ∧ ¬ ((i : Nat) : Int) = s ∧ usableR t f i ∧ (lnk t i).a = (a : Int) ∧ (lnk t i).b = (b : Int)
theorem linkR_skip {t : Topo} {f : Fail} {s : Int} {k : Nat} (h : ¬ (¬ ((k : Nat) : Int) = s ∧ usableR t f k)) (x : Nat) : lab (linkR t f s (k + 1)) x = lab (linkR t f s k) x := by
  refine lab_congr (fun a b => ⟨?_, ?_⟩) x
  · rintro ⟨i, h1, h2, h3, h4⟩
    rcases Nat.lt_succ_iff_lt_or_eq.1 h1 with g | rfl
    · exact ⟨i, g, h2, h3, h4⟩
    · exact absurd ⟨h2, h3⟩ h
  · rintro ⟨i, h1, h2⟩
    exact ⟨i, by omega, h2⟩
theorem linkR_add {t : Topo} {f : Fail} {s : Int} {k p q : Nat} (h : ¬ ((k : Nat) : Int) = s) (hu : usableR t f k) (hp : (lnk t k).a = (p : Int)) (hq : (lnk t k).b = (q : Int)) (x : Nat) : lab (linkR t f s (k + 1)) x = lab (Add (linkR t f s k) p q) x := by
  refine lab_congr (fun a b => ⟨?_, ?_⟩) x
  · rintro ⟨i, h1, h2, h3, h4, h5⟩
    rcases Nat.lt_succ_iff_lt_or_eq.1 h1 with g | rfl
    · exact .inl ⟨i, g, h2, h3, h4, h5⟩
    · exact .inr ⟨by omega, by omega⟩
  · rintro (⟨i, h1, h2⟩ | ⟨rfl, rfl⟩)
    · exact ⟨i, by omega, h2⟩
    · exact ⟨k, by omega, h, hu, hp, hq⟩
theorem linkR_zero (t : Topo) (f : Fail) (s : Int) (x : Nat) : lab (linkR t f s 0) x = x := by
  refine lab_of (.refl x) fun z h => ?_
  induction h with
  | refl => exact Nat.le_refl _
  | step _ r ih => exact r.elim (fun ⟨_, h, _⟩ => absurd h (Nat.not_lt_zero _)) fun ⟨_, h, _⟩ => absurd h (Nat.not_lt_zero _)
/-- the component of a device, -1 if it is not alive -/
noncomputable def cv (t : Topo) (f : Fail) (s : Int) (j : Nat) : Int := if ((j : Nat) : Int) ∈ f.devs.xs then -1 else ((lab (linkR t f s t.links.xs.length) j : Nat) : Int)
noncomputable def compsOf (t : Topo) (f : Fail) (s : Int) : List Int := (List.range t.devs.xs.length).map (cv t f s)
theorem comps_len (t : Topo) (f : Fail) (s : Int) : (compsOf t f s).length = t.devs.xs.length := by unfold compsOf; simp
theorem comps_at {t : Topo} {f : Fail} {s : Int} {j : Nat} (h : j < t.devs.xs.length) : (compsOf t f s).getD j 0 = cv t f s j := by
  unfold compsOf
  rw [List.getD_eq_getElem?_getD, List.getElem?_map, List.getElem?_range h]; rfl
theorem comps_is {t : Topo} {f : Fail} {s : Int} {l : List Int} (hl : l.length = t.devs.xs.length) (h : ∀ j, j < t.devs.xs.length → l.getD j 0 = cv t f s j) : compsOf t f s = l :=
  list_ext 0 ((comps_len t f s).trans hl.symm) fun i hi => by rw [comps_len] at hi; rw [comps_at hi, h i hi]
end Go.Proofs.Ytfanmniaolncbaa.V
