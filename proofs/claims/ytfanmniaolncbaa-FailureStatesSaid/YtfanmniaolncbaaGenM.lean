/- What the generator makes: plain facts. -/
import Derived.Test.YtfanmniaolncbaaAllM
set_option linter.unusedVariables false
set_option linter.unusedSimpArgs false
namespace Go.Proofs.Ytfanmniaolncbaa.V
open Go.RowKit
def hugeT (t : Topo) : Prop := ((6 < t.devs.xs.length ∨ 9 < t.links.xs.length) ∨ 5 < t.edges.xs.length) ∨ 4 < t.pools.xs.length
instance (t : Topo) : Decidable (hugeT t) := inferInstanceAs (Decidable (_ ∨ _))
/-- a failure state whose elements are those of a topology -/
def failR (t : Topo) (f : Fail) : Prop := rising f.links.xs t.links.xs.length ∧ rising f.devs.xs t.devs.xs.length
theorem failR_valid {t : Topo} {f : Fail} (h : failR t f) (hv : topV t) : failV t f := ⟨⟨hv, h.1⟩, h.2⟩
/-- ascending numbers below k -/
def upTo (k : Nat) (l : List Int) : Prop := l.Pairwise (· < ·) ∧ ∀ x ∈ l, 0 ≤ x ∧ x < (k : Int)
theorem upTo_nil : upTo 0 [] := ⟨List.Pairwise.nil, fun x h => by simp at h⟩
theorem upTo_up {k : Nat} {l : List Int} (h : upTo k l) : upTo (k + 1) l := ⟨h.1, fun x hx => by have := h.2 x hx; omega⟩
theorem upTo_snoc {k : Nat} {l : List Int} (h : upTo k l) : upTo (k + 1) (l ++ [((k : Nat) : Int)]) :=
  ⟨List.pairwise_append.2 ⟨h.1, List.pairwise_singleton _ _, fun y hy z hz => by rw [List.mem_singleton.1 hz]; exact (h.2 y hy).2⟩, fun x hx => by
    rcases List.mem_append.1 hx with g | g
    · have := h.2 x g; omega
    · rw [List.mem_singleton.1 g]; omega⟩
theorem upTo_rising {k n : Nat} {l : List Int} (h : upTo k l) (hk : k ≤ n) : rising l n := rising_iff.2 ⟨h.1, fun x hx => by have := h.2 x hx; omega⟩
theorem upTo_len {k : Nat} {l : List Int} (h : upTo k l) : l.length ≤ k := rising_len (upTo_rising h (Nat.le_refl _))
def subnets : List Pfx := [⟨167772160, 24⟩, ⟨167772416, 24⟩, ⟨167772672, 25⟩, ⟨167772800, 26⟩, ⟨2886729728, 16⟩, ⟨3232237321, 32⟩]
def subnet (n : Int) : Pfx := subnets.getD n.toNat ⟨0, 0⟩
theorem getD_all {α : Type} {P : α → Prop} {l : List α} {d : α} (i : Nat) (h : ∀ x ∈ l, P x) (hd : P d) : P (l.getD i d) := by
  rcases Nat.lt_or_ge i l.length with g | g
  · exact h _ (getD_mem g)
  · rw [List.getD_eq_getElem?_getD, List.getElem?_eq_none g]; exact hd
/-- names, decided -/
def vnB (s : ByteArray) : Bool := decide (s.size ≠ 0) && decide (s.size ≤ 24) && decide (s ≠ ⟨#[97, 110, 121]⟩) && decide (97 ≤ bt s 0 ∧ bt s 0 ≤ 122) && s.data.toList.all fun b => decide ((97 ≤ b.toNat ∧ b.toNat ≤ 122) ∨ (48 ≤ b.toNat ∧ b.toNat ≤ 57) ∨ b.toNat = 45 ∨ b.toNat = 95)
theorem vname_of {s : ByteArray} (h : vnB s = true) : vname s := by
  simp only [vnB, Bool.and_eq_true, decide_eq_true_eq, List.all_eq_true] at h
  obtain ⟨⟨⟨⟨h1, h2⟩, h3⟩, h4⟩, h5⟩ := h
  refine ⟨fun e => h1 (by subst e; rfl), h2, h3, h4, fun i hi => ?_⟩
  have hm : s.data.toList.getD i 0 ∈ s.data.toList := getD_mem (by simpa using hi)
  have := h5 _ hm
  unfold okc bt
  omega
def rnames : List ByteArray := [⟨#[114, 49]⟩, ⟨#[114, 50]⟩, ⟨#[114, 51]⟩, ⟨#[114, 52]⟩, ⟨#[114, 53]⟩, ⟨#[114, 54]⟩]
def enames : List ByteArray := [⟨#[101, 49]⟩, ⟨#[101, 50]⟩, ⟨#[101, 51]⟩, ⟨#[101, 52]⟩, ⟨#[101, 53]⟩]
def okDev (j : Nat) (d : Dev) : Prop := d.name = rnames.getD j ⟨#[]⟩ ∧ 0 ≤ d.cap ∧ d.cap ≤ 4096 ∧ (d.cls = ⟨#[]⟩ ∨ vname d.cls)
def okEdg (n j : Nat) (e : Edg) : Prop := e.name = enames.getD j ⟨#[]⟩ ∧ (0 ≤ e.dev ∧ e.dev < n) ∧ vname e.zone ∧ e.pfx = subnet j ∧ e.planned = false
def pool1 : Pfx := ⟨168296448, 22⟩
def pool2 : Pfx := ⟨167772672, 24⟩
def okPools (ps : List Pfx) : Prop := ps = [] ∨ ps = [pool1] ∨ ps = [pool2] ∨ ps = [pool1, pool2]
theorem idx_inj {α β : Type} [DecidableEq β] {f : α → β} {l : List α} {d : α} {N : List β} {e : β} (hN : l.length ≤ N.length) (hl : ∀ j, j < l.length → f (l.getD j d) = N.getD j e) (hd : N.Nodup) (i : Nat) (hi : i < l.length) : idxOf (fun x => decide (f x = f (l.getD i d))) l = (i : Int) := by
  refine idxOf_some (d := d) hi (decide_eq_true rfl) fun j hj => decide_eq_false fun h => ?_
  rw [hl j (by omega), hl i hi] at h
  rw [List.getD_eq_getElem?_getD, List.getD_eq_getElem?_getD, List.getElem?_eq_getElem (by omega), List.getElem?_eq_getElem (by omega)] at h
  exact List.pairwise_iff_getElem.1 hd j i (by omega) (by omega) hj h
theorem rnames_valid : ∀ j, j < 6 → vname (rnames.getD j ⟨#[]⟩) := fun j hj => by
  have : ∀ x ∈ rnames, vname x := by
    intro x hx
    simp only [rnames, List.mem_cons, List.not_mem_nil, or_false] at hx
    rcases hx with rfl | rfl | rfl | rfl | rfl | rfl <;> exact vname_of (by decide)
  exact this _ (getD_mem hj)
theorem enames_valid : ∀ j, j < 5 → vname (enames.getD j ⟨#[]⟩) := fun j hj => by
  have : ∀ x ∈ enames, vname x := by
    intro x hx
    simp only [enames, List.mem_cons, List.not_mem_nil, or_false] at hx
    rcases hx with rfl | rfl | rfl | rfl | rfl <;> exact vname_of (by decide)
  exact this _ (getD_mem hj)
theorem subnets_fine : ∀ j, j < 5 → pfxV (subnet (j : Nat)) ∧ 0 < (subnet (j : Nat)).bits ∧ ∀ i, i < j → ¬ meets (subnet (j : Nat)) (subnet (i : Nat)) := by decide
theorem pools_fine : pfxV pool1 ∧ pfxV pool2 ∧ ¬ meets pool2 pool1 := by decide
theorem gen_valid {t : Topo} {n : Nat} (h1 : 1 ≤ n) (h6 : n ≤ 6) (hd : t.devs.xs.length = n) (hd2 : ∀ j, j < n → okDev j (t.devs.xs.getD j devE.dflt)) (hl : t.links.xs.length ≤ 9) (hl2 : ∀ l ∈ t.links.xs, lnkV n l)
    (he : t.edges.xs.length ≤ 5) (he2 : ∀ j, j < t.edges.xs.length → okEdg n j (t.edges.xs.getD j edgE.dflt)) (hp : okPools t.pools.xs) (ht : 0 ≤ t.tol ∧ t.tol ≤ 2) : topV t := by
  have hpl : t.pools.xs.length ≤ 2 := by rcases hp with h | h | h | h <;> rw [h] <;> decide
  refine ⟨by unfold topB; omega, fun i hi => ⟨?_, ?_⟩, fun i hi => by rw [hd]; exact hl2 _ (getD_mem hi), fun i hi => ⟨?_, ?_⟩, fun i hi j hj => ?_, fun i hi => ⟨?_, fun j hj => ?_⟩⟩
  · obtain ⟨a, b, c, d⟩ := hd2 i (by omega)
    exact ⟨by rw [a]; exact rnames_valid i (by omega), b, c, d⟩
  · exact idx_inj (f := fun d : Dev => d.name) (N := rnames) (e := ⟨#[]⟩) (by show _ ≤ 6; omega) (fun j hj => (hd2 j (by omega)).1) (by decide) i hi
  · obtain ⟨a, b, c, d, e⟩ := he2 i hi
    have := subnets_fine i (by omega)
    exact ⟨by rw [hd]; exact b, ⟨by rw [a]; exact enames_valid i (by omega), c⟩, by rw [d]; exact this.1, by rw [d]; exact this.2.1, .inl (by rw [e]; simp)⟩
  · exact idx_inj (f := fun d : Edg => d.name) (N := enames) (e := ⟨#[]⟩) (by show _ ≤ 5; omega) (fun j hj => (he2 j hj).1) (by decide) i hi
  · rintro ⟨_, hm⟩
    rw [(he2 i hi).2.2.2.1, (he2 j (by omega)).2.2.2.1] at hm
    exact (subnets_fine i (by omega)).2.2 j hj hm
  · rcases hp with h | h | h | h <;> rw [h] at hi ⊢
    · simp at hi
    · obtain rfl : i = 0 := by simpa using hi
      exact pools_fine.1
    · obtain rfl : i = 0 := by simpa using hi
      exact pools_fine.2.1
    · have : i = 0 ∨ i = 1 := by simp at hi; omega
      rcases this with rfl | rfl
      · exact pools_fine.1
      · exact pools_fine.2.1
  · rcases hp with h | h | h | h <;> rw [h] at hi ⊢
    · simp at hi
    · simp at hi; omega
    · simp at hi; omega
    · have : i = 1 ∧ j = 0 := by simp at hi; omega
      obtain ⟨rfl, rfl⟩ := this
      exact pools_fine.2.2
theorem classes_fine (i : Nat) : ([⟨#[]⟩, ⟨#[105, 112, 115]⟩, ⟨#[100, 108, 112]⟩] : List ByteArray).getD i ⟨#[]⟩ = ⟨#[]⟩ ∨ vname (([⟨#[]⟩, ⟨#[105, 112, 115]⟩, ⟨#[100, 108, 112]⟩] : List ByteArray).getD i ⟨#[]⟩) := by
  refine getD_all (P := fun s => s = ⟨#[]⟩ ∨ vname s) i (fun x hx => ?_) (.inl rfl)
  simp only [List.mem_cons, List.not_mem_nil, or_false] at hx
  rcases hx with rfl | rfl | rfl
  · exact .inl rfl
  · exact .inr (vname_of (by decide))
  · exact .inr (vname_of (by decide))
theorem caps_fine (i : Nat) : 0 ≤ ([4096, 400, 60, 20, 5, 0] : List Int).getD i 0 ∧ ([4096, 400, 60, 20, 5, 0] : List Int).getD i 0 ≤ 4096 := getD_all (P := fun x : Int => 0 ≤ x ∧ x ≤ 4096) i (by decide) (by decide)
theorem costs_fine (i : Nat) (h : i < 4) : 1 ≤ ([1, 2, 3, 1000] : List Int).getD i 0 ∧ ([1, 2, 3, 1000] : List Int).getD i 0 ≤ 1000 := by
  have : ∀ x ∈ ([1, 2, 3, 1000] : List Int), 1 ≤ x ∧ x ≤ 1000 := by decide
  exact this _ (getD_mem h)
theorem zones_fine (i : Nat) (h : i < 3) : vname (([⟨#[108, 97, 110]⟩, ⟨#[100, 109, 122]⟩, ⟨#[110, 101, 116]⟩] : List ByteArray).getD i ⟨#[]⟩) := by
  have : ∀ x ∈ ([⟨#[108, 97, 110]⟩, ⟨#[100, 109, 122]⟩, ⟨#[110, 101, 116]⟩] : List ByteArray), vname x := by
    intro x hx
    simp only [List.mem_cons, List.not_mem_nil, or_false] at hx
    rcases hx with rfl | rfl | rfl <;> exact vname_of (by decide)
  exact this _ (getD_mem h)
theorem counts_fine (i : Nat) : 0 ≤ ([2, 3, 4, 1, 5, 0] : List Int).getD i 0 ∧ ([2, 3, 4, 1, 5, 0] : List Int).getD i 0 ≤ 5 := getD_all (P := fun x : Int => 0 ≤ x ∧ x ≤ 5) i (by decide) (by decide)
theorem tols_fine (i : Nat) : 0 ≤ ([0, 1, 0, 1, 2] : List Int).getD i 0 ∧ ([0, 1, 0, 1, 2] : List Int).getD i 0 ≤ 2 := getD_all (P := fun x : Int => 0 ≤ x ∧ x ≤ 2) i (by decide) (by decide)
/-- what holds of a topology that the generator made -/
def genT (t : Topo) : Prop := topV t ∧ t.devs.xs.length ≤ 6 ∧ t.links.xs.length ≤ 9 ∧ t.edges.xs.length ≤ 5 ∧ t.pools.xs.length ≤ 2
theorem snocD {α : Type} {P : Nat → α → Prop} {xs : List α} {x d : α} {k : Nat} (hk : xs.length = k) (h : ∀ j, j < k → P j (xs.getD j d)) (hx : P k x) : ∀ j, j < k + 1 → P j ((xs ++ [x]).getD j d) := fun j hj => by
  rcases Nat.lt_succ_iff_lt_or_eq.1 hj with g | rfl
  · rw [List.getD_eq_getElem?_getD, List.getElem?_append_left (by omega), ← List.getD_eq_getElem?_getD]; exact h j g
  · rw [List.getD_eq_getElem?_getD, List.getElem?_append_right (by omega), hk, Nat.sub_self]; exact hx
theorem all_snoc {α : Type} {P : α → Prop} {xs : List α} {x : α} (h : ∀ y ∈ xs, P y) (hx : P x) : ∀ y ∈ xs ++ [x], P y := fun y hy => by
  rcases List.mem_append.1 hy with g | g
  · exact h y g
  · rw [List.mem_singleton.1 g]; exact hx
theorem lnk_mk {n : Nat} {a b c : Int} (h1 : 0 ≤ a) (h2 : a < b) (h3 : b < n) (h : 1 ≤ c ∧ c ≤ 1000) : lnkV n ⟨a, b, c⟩ := ⟨h1, h2, h3, h.1, h.2⟩
theorem edg_mk {n j : Nat} {nm zn : ByteArray} {dv : Int} {px : Pfx} (h1 : nm = enames.getD j ⟨#[]⟩) (h2 : 0 ≤ dv) (h3 : dv < n) (h4 : vname zn) (h5 : px = subnet (j : Nat)) : okEdg n j ⟨nm, dv, zn, px, false⟩ := ⟨h1, ⟨h2, h3⟩, h4, h5, rfl⟩
end Go.Proofs.Ytfanmniaolncbaa.V
