/- The examples of the chapter on paths: three devices, one link longer than the others. -/
import Derived.Test.YtfanmniaolncbaaNextM
import Derived.Test.YtfanmniaolncbaaGrpE
set_option linter.unusedVariables false
set_option linter.unusedSimpArgs false
namespace Go.Proofs.Ytfanmniaolncbaa.V
open Go.RowKit
def triQ : List Lnk := [⟨0, 1, 1⟩, ⟨1, 2, 1⟩, ⟨0, 2, 2⟩]
structure isTriP (t : Topo) : Prop where
  d : t.devs.xs = triD
  l : t.links.xs = triQ
  e : t.edges.xs = []
  p : t.pools.xs = []
  tol : t.tol = 0
section
variable {t : Topo} {f : Fail} {z : Nat}
/-- a way that is as short as potentials allow -/
theorem dOf_is {d c : Nat} (w : Way t f z d c) (L : Nat → Nat) (h0 : L z = 0) (hL : ∀ i a b, hop t f i a b → L a ≤ L b + cst t i) (hd : L d = c) : dOf t f z d = (c : Int) := by
  have key : ∀ {x k : Nat}, Way t f z x k → L x ≤ k := fun {x k} v => by
    induction v with
    | stay => omega
    | step hh _ ih => have := hL _ _ _ hh; omega
  obtain ⟨m, h1, h2, h3⟩ := dOf_spec ⟨c, w⟩
  have g1 := key h2
  have g2 := h3 c w
  omega
variable (h : isTriP t)
include h
theorem triP_top : topV t := by
  refine ⟨?_, fun i hi => ?_, fun i hi => ?_, fun i hi => ?_, fun i hi => ?_, fun i hi => ?_⟩
  · unfold topB; rw [h.d, h.l, h.e, h.p, h.tol]; decide
  · rw [h.d] at hi ⊢
    have hi3 : i = 0 ∨ i = 1 ∨ i = 2 := by have : i < 3 := hi; omega
    have hv : ∀ d ∈ triD, devV d := by
      intro d hd
      simp only [triD, List.mem_cons, List.not_mem_nil, or_false] at hd
      rcases hd with rfl | rfl | rfl <;> exact ⟨vname_of (by decide), by decide, by decide, .inl rfl⟩
    refine ⟨hv _ (getD_mem hi), ?_⟩
    rcases hi3 with rfl | rfl | rfl <;> decide
  · rw [h.l] at hi ⊢
    rw [h.d]
    have hi3 : i = 0 ∨ i = 1 ∨ i = 2 := by have : i < 3 := hi; omega
    unfold lnkV
    rcases hi3 with rfl | rfl | rfl <;> decide
  · rw [h.e] at hi; simp at hi
  · rw [h.e] at hi; simp at hi
  · rw [h.p] at hi; simp at hi
theorem triP_lnk (i : Nat) : lnk t i = triQ.getD i lnkE.dflt := by unfold lnk; rw [h.l]; rfl
theorem triP_cst : cst t 0 = 1 ∧ cst t 1 = 1 ∧ cst t 2 = 2 := by
  unfold cst
  rw [triP_lnk h, triP_lnk h, triP_lnk h]
  exact ⟨rfl, rfl, rfl⟩
theorem triP_hop (hf : f.devs.xs = []) {i a b : Nat} : hop t f i a b ↔ ¬ ((i : Nat) : Int) ∈ f.links.xs ∧ (i = 0 ∧ (a = 0 ∧ b = 1 ∨ a = 1 ∧ b = 0) ∨ i = 1 ∧ (a = 1 ∧ b = 2 ∨ a = 2 ∧ b = 1) ∨ i = 2 ∧ (a = 0 ∧ b = 2 ∨ a = 2 ∧ b = 0)) := by
  unfold hop
  rw [tri_use hf, h.l, triP_lnk h]
  constructor
  · rintro ⟨h1, h2, h3⟩
    refine ⟨h2, ?_⟩
    have hi3 : i = 0 ∨ i = 1 ∨ i = 2 := by have : i < 3 := h1; omega
    rcases hi3 with rfl | rfl | rfl
    · have e : triQ.getD 0 lnkE.dflt = ⟨0, 1, 1⟩ := rfl
      rw [e] at h3; simp only at h3; omega
    · have e : triQ.getD 1 lnkE.dflt = ⟨1, 2, 1⟩ := rfl
      rw [e] at h3; simp only at h3; omega
    · have e : triQ.getD 2 lnkE.dflt = ⟨0, 2, 2⟩ := rfl
      rw [e] at h3; simp only at h3; omega
  · rintro ⟨h2, h3⟩
    rcases h3 with ⟨rfl, ⟨rfl, rfl⟩ | ⟨rfl, rfl⟩⟩ | ⟨rfl, ⟨rfl, rfl⟩ | ⟨rfl, rfl⟩⟩ | ⟨rfl, ⟨rfl, rfl⟩ | ⟨rfl, rfl⟩⟩ <;> exact ⟨by decide, h2, by decide⟩
theorem triP_state (hf : f.devs.xs = []) (hl : f.links.xs = [] ∨ f.links.xs = [0]) : failV t f := by
  refine ⟨⟨triP_top h, ?_⟩, by rw [hf]; exact fun i hi => by simp at hi⟩
  rcases hl with e | e <;> rw [e, h.l]
  · exact fun i hi => by simp at hi
  · intro i hi
    obtain rfl : i = 0 := by simpa using hi
    exact ⟨by decide, by decide, fun h => absurd h (Nat.lt_irrefl _)⟩
theorem triP_way (hf : f.devs.xs = []) (hz : z < 3) : Way t f z z 0 := .stay (by rw [h.d]; exact hz) (by rw [hf]; simp)
/-- no link has failed: to the device 2 -/
theorem triP_free (hf : f.devs.xs = []) (hl : f.links.xs = []) : dOf t f 2 0 = 2 ∧ dOf t f 2 1 = 1 ∧ dOf t f 2 2 = 0 := by
  obtain ⟨c0, c1, c2⟩ := triP_cst h
  have H : ∀ {i a b : Nat}, hop t f i a b → (i = 0 ∧ (a = 0 ∧ b = 1 ∨ a = 1 ∧ b = 0) ∨ i = 1 ∧ (a = 1 ∧ b = 2 ∨ a = 2 ∧ b = 1) ∨ i = 2 ∧ (a = 0 ∧ b = 2 ∨ a = 2 ∧ b = 0)) := fun hh => ((triP_hop h hf).1 hh).2
  have U : ∀ {i a b : Nat}, (i = 0 ∧ (a = 0 ∧ b = 1 ∨ a = 1 ∧ b = 0) ∨ i = 1 ∧ (a = 1 ∧ b = 2 ∨ a = 2 ∧ b = 1) ∨ i = 2 ∧ (a = 0 ∧ b = 2 ∨ a = 2 ∧ b = 0)) → hop t f i a b := fun hh => (triP_hop h hf).2 ⟨by rw [hl]; simp, hh⟩
  let L : Nat → Nat := fun d => 2 - d
  have hL : ∀ i a b, hop t f i a b → L a ≤ L b + cst t i := fun i a b hh => by
    rcases H hh with ⟨rfl, h2⟩ | ⟨rfl, h2⟩ | ⟨rfl, h2⟩
    · rw [c0]; show 2 - a ≤ 2 - b + 1; omega
    · rw [c1]; show 2 - a ≤ 2 - b + 1; omega
    · rw [c2]; show 2 - a ≤ 2 - b + 2; omega
  have w0 := triP_way (f := f) (z := 2) h hf (by decide)
  have w1 : Way t f 2 1 (0 + cst t 1) := .step (U (by decide)) w0
  have w2 : Way t f 2 0 (0 + cst t 2) := .step (U (by decide)) w0
  rw [c1] at w1; rw [c2] at w2
  exact ⟨dOf_is w2 L rfl hL rfl, dOf_is w1 L rfl hL rfl, dOf_is w0 L rfl hL rfl⟩
/-- the first link has failed: to the device 1 -/
theorem triP_cut (hf : f.devs.xs = []) (hl : f.links.xs = [0]) : dOf t f 1 0 = 3 ∧ dOf t f 1 1 = 0 ∧ dOf t f 1 2 = 1 := by
  obtain ⟨c0, c1, c2⟩ := triP_cst h
  have H : ∀ {i a b : Nat}, hop t f i a b → ¬ i = 0 ∧ (i = 1 ∧ (a = 1 ∧ b = 2 ∨ a = 2 ∧ b = 1) ∨ i = 2 ∧ (a = 0 ∧ b = 2 ∨ a = 2 ∧ b = 0)) := fun {i a b} hh => by
    obtain ⟨h1, h2⟩ := (triP_hop h hf).1 hh
    rw [hl] at h1
    have h3 : ¬ i = 0 := fun e => h1 (by rw [e]; simp)
    exact ⟨h3, by omega⟩
  have U : ∀ {i a b : Nat}, (i = 1 ∧ (a = 1 ∧ b = 2 ∨ a = 2 ∧ b = 1) ∨ i = 2 ∧ (a = 0 ∧ b = 2 ∨ a = 2 ∧ b = 0)) → hop t f i a b := fun {i a b} hh => (triP_hop h hf).2 ⟨by rw [hl]; simp; omega, by omega⟩
  let L : Nat → Nat := fun d => if d = 0 then 3 else d - 1
  have hL : ∀ i a b, hop t f i a b → L a ≤ L b + cst t i := fun i a b hh => by
    show (if a = 0 then 3 else a - 1) ≤ (if b = 0 then 3 else b - 1) + cst t i
    rcases H hh with ⟨_, ⟨rfl, h2⟩ | ⟨rfl, h2⟩⟩
    · rw [c1]; split <;> split <;> omega
    · rw [c2]; split <;> split <;> omega
  have w0 := triP_way (f := f) (z := 1) h hf (by decide)
  have w1 : Way t f 1 2 (0 + cst t 1) := .step (U (by decide)) w0
  rw [c1] at w1
  have w2 : Way t f 1 0 (0 + 1 + cst t 2) := .step (U (by decide)) w1
  rw [c2] at w2
  exact ⟨dOf_is w2 L rfl hL rfl, dOf_is w0 L rfl hL rfl, dOf_is w1 L rfl hL rfl⟩
theorem triP_facts {g : Fail} (hf : f.devs.xs = []) (hl : f.links.xs = []) (hg : g.devs.xs = []) (hk : g.links.xs = [0]) :
    nextV t f 0 2 = 0 ∧ (pathV t g 0 1).length = 3 ∧ (pathV t g 0 1).getD 1 intE.dflt = 2 ∧ (distV t f 2).length = 3 ∧ (distV t f 2).getD 0 intE.dflt = 2 ∧ (linkV t f 0 2).length = 2 := by
  have hV := triP_top h
  have hF := triP_state (f := f) h hf (.inl hl)
  have hG := triP_state (f := g) h hg (.inr hk)
  have hn : t.devs.xs.length = 3 := by rw [h.d]; rfl
  have hm : t.links.xs.length = 3 := by rw [h.l]; rfl
  obtain ⟨c0, c1, c2⟩ := triP_cst h
  obtain ⟨a0, a1, a2⟩ := triP_free h hf hl
  obtain ⟨b0, b1, b2⟩ := triP_cut h hg hk
  have K : ∀ {x y : Int} {q : Fail}, failV t q → 0 ≤ x → x < 3 → 0 ≤ y → y < 3 → K2 t q x y := fun hq h1 h2 h3 h4 => ⟨⟨hq, h1, by rw [hn]; exact h2⟩, h3, by rw [hn]; exact h4⟩
  have U : ∀ {i a b : Nat}, (i = 0 ∧ (a = 0 ∧ b = 1 ∨ a = 1 ∧ b = 0) ∨ i = 1 ∧ (a = 1 ∧ b = 2 ∨ a = 2 ∧ b = 1) ∨ i = 2 ∧ (a = 0 ∧ b = 2 ∨ a = 2 ∧ b = 0)) → hop t f i a b := fun hh => (triP_hop h hf).2 ⟨by rw [hl]; simp, hh⟩
  have V : ∀ {i a b : Nat}, (i = 1 ∧ (a = 1 ∧ b = 2 ∨ a = 2 ∧ b = 1) ∨ i = 2 ∧ (a = 0 ∧ b = 2 ∨ a = 2 ∧ b = 0)) → hop t g i a b := fun {i a b} hh => (triP_hop h hg).2 ⟨by rw [hk]; simp; omega, by omega⟩
  have n02 : nextI t f 2 0 = ((0 : Nat) : Int) := firstI_at (by omega) ⟨1, U (by decide), by omega, by rw [a1, a0, c0]; rfl⟩ fun j hj => by omega
  have n12 : nextI t f 2 1 = ((1 : Nat) : Int) := firstI_at (by omega) ⟨2, U (by decide), by omega, by rw [a2, a1, c1]; rfl⟩ fun j hj => by
    obtain rfl : j = 0 := by omega
    rintro ⟨b, h1, h2, h3⟩
    have h4 := ((triP_hop h hf).1 h1).2
    obtain rfl : b = 0 := by omega
    rw [a0, a1, c0] at h3
    omega
  have no0 : ∀ {z a : Nat}, ¬ goes t g z a 0 := fun {z a} ⟨b, h1, _⟩ => by
    have := ((triP_hop h hg).1 h1).1
    rw [hk] at this; simp at this
  have n01 : nextI t g 1 0 = ((2 : Nat) : Int) := firstI_at (by omega) ⟨2, V (by decide), by omega, by rw [b2, b0, c2]; rfl⟩ fun j hj => by
    by_cases e : j = 0
    · subst e; exact no0
    · obtain rfl : j = 1 := by omega
      rintro ⟨b, h1, h2, h3⟩
      have h4 := ((triP_hop h hg).1 h1).2
      omega
  have n21 : nextI t g 1 2 = ((1 : Nat) : Int) := firstI_at (by omega) ⟨1, V (by decide), by omega, by rw [b1, b2, c1]; rfl⟩ fun j hj => by
    obtain rfl : j = 0 := by omega
    exact no0
  have p0 := path_go hV n01 (V (b := 2) (by decide)) (by omega) (by rw [b2, b0, c2]; rfl)
  have p2 := path_go hV n21 (V (b := 1) (by decide)) (by omega) (by rw [b1, b2, c1]; rfl)
  have p1 := path_stop (f := g) (z := 1) (a := 1) hV (by omega)
  have q0 := path_go hV n02 (U (b := 1) (by decide)) (by omega) (by rw [a1, a0, c0]; rfl)
  have q1 := path_go hV n12 (U (b := 2) (by decide)) (by omega) (by rw [a2, a1, c1]; rfl)
  have q2 := path_stop (f := f) (z := 2) (a := 2) hV (by omega)
  have eP : pathV t g 0 1 = [0, 2, 1] := by
    unfold pathV
    rw [if_pos ⟨K hG (by decide) (by decide) (by decide) (by decide), by show 0 ≤ dOf t g 1 0; omega⟩]
    show pathL t g 1 0 = _
    rw [p0.1, p2.1, p1.1]; rfl
  have eL : linkV t f 0 2 = [0, 1] := by
    unfold linkV
    rw [if_pos ⟨K hF (by decide) (by decide) (by decide) (by decide), by show 0 ≤ dOf t f 2 0; omega⟩]
    show linkL t f 2 0 = _
    rw [q0.2, q1.2, q2.2]; rfl
  have eD : distV t f 2 = distsOf t f 2 := distV_of (a := 0) (K hF (by decide) (by decide) (by decide) (by decide))
  refine ⟨?_, by rw [eP]; rfl, by rw [eP]; rfl, by rw [eD, dists_len, hn], by rw [eD]; exact (dists_at (by omega)).trans a0, by rw [eL]; rfl⟩
  unfold nextV
  rw [if_pos (K hF (by decide) (by decide) (by decide) (by decide))]
  exact n02
end
end Go.Proofs.Ytfanmniaolncbaa.V
