/- The laws on paths, plain: walks, further failures. -/
import Derived.Test.YtfanmniaolncbaaPLawM
import Derived.Test.YtfanmniaolncbaaGrpE
set_option linter.unusedVariables false
set_option linter.unusedSimpArgs false
namespace Go.Proofs.Ytfanmniaolncbaa.V
open Go.RowKit
section
variable {t : Topo} {f g : Fail}
/-- what holds at each step of a path -/
structure StepOk (t : Topo) (f : Fail) (z : Int) (P L : List Int) (i : Nat) : Prop where
  lk0 : 0 ≤ L.getD i intE.dflt
  lk1 : L.getD i intE.dflt < t.links.xs.length
  us : usableV t f (L.getD i intE.dflt)
  oth : otherOf (t.links.xs.getD (L.getD i intE.dflt).toNat lnkE.dflt) (P.getD i intE.dflt) = P.getD (i + 1) intE.dflt
  nx : nextV t f (P.getD i intE.dflt) z = L.getD i intE.dflt
  a0 : 0 ≤ P.getD i intE.dflt
  a1 : P.getD i intE.dflt < t.devs.xs.length
  b0 : 0 ≤ P.getD (i + 1) intE.dflt
  b1 : P.getD (i + 1) intE.dflt < t.devs.xs.length
  cost : dOf t f z.toNat (P.getD (i + 1) intE.dflt).toNat + (t.links.xs.getD (L.getD i intE.dflt).toNat lnkE.dflt).cost = dOf t f z.toNat (P.getD i intE.dflt).toNat
  c0 : 0 ≤ (t.links.xs.getD (L.getD i intE.dflt).toNat lnkE.dflt).cost
  d0 : 0 ≤ dOf t f z.toNat (P.getD (i + 1) intE.dflt).toNat
theorem walk_step {a z : Int} (hK : K2 t f a z) {P L : List Int} (T : Trail t f z.toNat a.toNat P L) {i : Nat} (hi : i < L.length) : StepOk t f z P L i := by
  have hV := hK.1.1.1.1
  have hn := next_at hK T hi
  obtain ⟨x, y, k, g1, g2, g3, g4, g5, g6, g7⟩ := T.at i hi
  have hf := hop_facts hV g5
  have ho := (hop_other hV g5).1
  have e : ∀ (l : List Int) (j : Nat), l.getD j intE.dflt = l.getD j 0 := fun l j => rfl
  have ek : t.links.xs.getD k lnkE.dflt = lnk t (k : Nat) := rfl
  have g0 := g5
  obtain ⟨k1, k2, _⟩ := g0
  constructor <;> simp only [e]
  · omega
  · omega
  · rw [g3]; exact (usable_iff hK.1.1 k1).2 k2
  · rw [g3, g1, g2, Int.toNat_natCast, ek]; exact ho
  · exact hn
  · omega
  · omega
  · omega
  · omega
  · rw [g3, g1, g2, Int.toNat_natCast, Int.toNat_natCast, Int.toNat_natCast, ek]; omega
  · rw [g3, Int.toNat_natCast, ek]; omega
  · rw [g2, Int.toNat_natCast]; exact g6
theorem walk_apart {a z : Int} (hK : K2 t f a z) {P L : List Int} (T : Trail t f z.toNat a.toNat P L) {i j : Nat} (hj : j ≤ i) (hi : i < L.length) : ¬ P.getD j intE.dflt = P.getD (i + 1) intE.dflt :=
  T.apart hK.1.1.1.1 (by omega) (by omega)
theorem walk_ends {a z : Int} (hK : K2 t f a z) {P L : List Int} (T : Trail t f z.toNat a.toNat P L) : P.getD 0 intE.dflt = a ∧ P.getD L.length intE.dflt = z ∧ P.length = L.length + 1 := by
  have h1 : P.getD 0 intE.dflt = ((a.toNat : Nat) : Int) := T.head
  have h2 : P.getD L.length intE.dflt = ((z.toNat : Nat) : Int) := T.last
  have := hK.1.2
  have := hK.2
  exact ⟨by omega, by omega, T.len⟩
theorem ex_snoc {p : Nat → Prop} {n : Nat} : (∃ j, j < n + 1 ∧ p j) ↔ (∃ j, j < n ∧ p j) ∨ p n :=
  ⟨fun ⟨j, h1, h2⟩ => by
    rcases Nat.lt_succ_iff_lt_or_eq.1 h1 with h | rfl
    · exact .inl ⟨j, h, h2⟩
    · exact .inr h2, fun h => h.elim (fun ⟨j, h1, h2⟩ => ⟨j, by omega, h2⟩) fun h => ⟨n, by omega, h⟩⟩
/-- v is one of the first n -/
def Hits (l : List Int) (v : Int) (n : Nat) : Prop := ∃ j, j < n ∧ l.getD j intE.dflt = v
theorem hits0 {l : List Int} {v : Int} : false = true ↔ Hits l v 0 := ⟨fun h => (Bool.false_ne_true h).elim, fun ⟨_, h, _⟩ => absurd h (Nat.not_lt_zero _)⟩
theorem hits1 {l : List Int} {v : Int} {n : Nat} {b : Prop} (h : b ↔ Hits l v n) : (b ∨ l.getD n intE.dflt = v) ↔ Hits l v (n + 1) := by
  rw [h]; exact ex_snoc.symm
/-! ### further failures -/
theorem hop_less (hf : failV t f) {i : Nat} (h : OneMore g f i) {k a b : Nat} : hop t g k a b ↔ hop t f k a b ∧ k ≠ i := by
  constructor
  · rintro ⟨h1, h2, h3⟩
    obtain ⟨h4, h5⟩ := (more_usable hf h k).1 h2
    exact ⟨⟨h1, h4, h3⟩, fun e => h5 (by omega)⟩
  · rintro ⟨⟨h1, h2, h3⟩, h4⟩
    exact ⟨h1, (more_usable hf h k).2 ⟨h2, fun e => h4 (by omega)⟩, h3⟩
theorem way_less (hf : failV t f) {i z d c : Nat} (h : OneMore g f i) (w : Way t g z d c) : Way t f z d c := by
  induction w with
  | stay h1 h2 => exact .stay h1 (by rwa [h.2] at h2)
  | step hh _ ih => exact .step ((hop_less hf h).1 hh).1 ih
theorem dOf_less (hf : failV t f) {i z d : Nat} (h : OneMore g f i) (hd : 0 ≤ dOf t g z d) : 0 ≤ dOf t f z d ∧ dOf t f z d ≤ dOf t g z d := by
  obtain ⟨m, h1, w, _⟩ := dOf_pos hd
  have := dOf_way (way_less hf h w)
  omega
theorem trail_less (hf : failV t f) {i z : Nat} (h : OneMore g f i) {a : Nat} {P L : List Int} (T : Trail t f z a P L) (hn : ∀ j, j < L.length → ¬ L.getD j 0 = (i : Int)) : Trail t g z a P L ∧ dOf t g z a = dOf t f z a := by
  have hV := hf.1.1
  induction T with
  | stop e =>
    obtain ⟨_, _, w, _⟩ := dOf_pos (t := t) (f := f) (z := z) (d := z) (by omega)
    have hg := w.goal
    have h0 : dOf t g z z = 0 := dOf_self hg.1 (by rw [h.2]; exact hg.2)
    exact ⟨.stop h0, by rw [h0, e]⟩
  | @go a b k P L h1 h2 h3 h4 T ih =>
    obtain ⟨T', e'⟩ := ih fun j hj => by have := hn (j + 1) (by simpa using hj); simpa using this
    have hk : k ≠ i := fun e => hn 0 (by simp) (by simp [e])
    have h2' := (hop_less hf h).2 ⟨h2, hk⟩
    have g1 := dOf_hop h2' (by omega : 0 ≤ dOf t g z b)
    have g2 := dOf_less hf h g1.1
    have ea : dOf t g z a = dOf t f z a := by omega
    have hkl := h2.1
    have hnx : nextI t g z a = (k : Int) := by
      refine firstI_at hkl ⟨b, h2', by omega, by omega⟩ fun j hj => ?_
      rintro ⟨b', q1, q2, q3⟩
      have q4 := (hop_less hf h).1 q1
      have q5 := dOf_less hf h q2
      have q6 := dOf_hop q4.1 q5.1
      rcases next_cases (f := f) (z := z) hV a with ⟨_, w2⟩ | ⟨m, b2, w1, _, _, _, _, w6⟩
      · omega
      · obtain rfl : m = k := by omega
        exact w6 j hj ⟨b', q4.1, q5.1, by omega⟩
    exact ⟨.go hnx h2' (by omega) (by omega) T', ea⟩
theorem fail_law {a z : Int} {i : Nat} (hK : K2 t f a z) (hi : i < t.links.xs.length) (h : OneMore g f i) :
    K2 t g a z ∧ (0 ≤ dOf t g z.toNat a.toNat → 0 ≤ dOf t f z.toNat a.toNat ∧ dOf t f z.toNat a.toNat ≤ dOf t g z.toNat a.toNat) ∧
    ((∀ j, j < (linkV t f a z).length → ¬ (linkV t f a z).getD j intE.dflt = (i : Int)) → dOf t f z.toNat a.toNat = dOf t g z.toNat a.toNat ∧ pathV t g a z = pathV t f a z) := by
  have hf := hK.1.1
  have hV := hf.1.1
  have hg : K2 t g a z := ⟨⟨more_valid hf hi h, hK.1.2⟩, hK.2⟩
  refine ⟨hg, dOf_less hf h, fun hn => ?_⟩
  rcases pv_cases t f a z with ⟨h1, h2, h3⟩ | ⟨_, h2, T⟩
  · have h4 : ¬ 0 ≤ dOf t f z.toNat a.toNat := fun k => h1 ⟨hK, k⟩
    have h5 : ¬ 0 ≤ dOf t g z.toNat a.toNat := fun k => h4 (dOf_less hf h k).1
    refine ⟨?_, ?_⟩
    · have := dOf_cases (t := t) (f := f) (z := z.toNat) a.toNat
      have := dOf_cases (t := t) (f := g) (z := z.toNat) a.toNat
      omega
    · rw [h2]; unfold pathV; exact if_neg fun k => h5 k.2
  · obtain ⟨T', e⟩ := trail_less hf h T hn
    refine ⟨e.symm, ?_⟩
    unfold pathV
    rw [if_pos ⟨hg, by omega⟩, if_pos ⟨hK, h2⟩, ← (T'.is hV).1, (T.is hV).1]
end
end Go.Proofs.Ytfanmniaolncbaa.V
