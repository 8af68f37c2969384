/- The laws on paths, plain. -/
import Derived.Test.YtfanmniaolncbaaNextM
set_option linter.unusedVariables false
set_option linter.unusedSimpArgs false
namespace Go.Proofs.Ytfanmniaolncbaa.V
open Go.RowKit
section
variable {t : Topo} {f g : Fail}
theorem conn_nat (hF : failV t f) {a b : Nat} (ha : a < t.devs.xs.length) (hb : b < t.devs.xs.length) : connV t f (a : Nat) (b : Nat) ↔ 0 ≤ dOf t f b a := by
  rw [conn_iff hF.1.1 hF, Int.toNat_natCast, Int.toNat_natCast]
  exact ⟨fun h => h.2, fun h => ⟨⟨⟨hF, by omega, by omega⟩, by omega, by omega⟩, h⟩⟩
theorem met_one (hF : failV t f) {a b : Nat} (ha : a < t.devs.xs.length) (hb : b < t.devs.xs.length) : dOf t f a b = dOf t f b a ∧ (0 ≤ dOf t f a b ↔ connV t f (a : Nat) (b : Nat)) ∧ (dOf t f a b = 0 → a = b) ∧ (a = b → dOf t f a b ≤ 0) := by
  have hs := dOf_symm (f := f) (z := a) hF.1.1 b
  refine ⟨hs, ?_, fun h => (dOf_zero hF.1.1 h).symm, fun e => ?_⟩
  · rw [conn_nat hF ha hb, hs]
  · subst e
    rcases dOf_cases (t := t) (f := f) (z := a) a with h | h
    · omega
    · obtain ⟨_, _, w, _⟩ := dOf_pos h
      rw [dOf_self w.goal.1 w.goal.2]; exact Int.le_refl 0
theorem met_tri {a b c : Nat} (h : 0 ≤ dOf t f a b) (k : 0 ≤ dOf t f b c) : 0 ≤ dOf t f a c ∧ dOf t f a c ≤ dOf t f a b + dOf t f b c := by
  have := dOf_tri k h
  omega
theorem met_link (hF : failV t f) {i : Nat} (hi : i < t.links.xs.length) (hu : usableV t f (i : Nat)) : dOf t f (t.links.xs.getD i lnkE.dflt).a.toNat (t.links.xs.getD i lnkE.dflt).b.toNat ≤ (t.links.xs.getD i lnkE.dflt).cost := by
  have hl := topV_link hF.1.1 hi
  have hu := (usable_iff hF hi).1 hu
  have e : t.links.xs.getD i lnkE.dflt = lnk t (i : Nat) := rfl
  rw [e] at hl ⊢
  unfold lnkV at hl
  have hh : hop t f i (lnk t (i : Nat)).b.toNat (lnk t (i : Nat)).a.toNat := ⟨hi, hu, .inr ⟨by omega, by omega⟩⟩
  have hf := hop_facts hF.1.1 hh
  have h0 := dOf_self (t := t) (f := f) hf.2.1 hf.2.2.2.2.2.2.2
  have := dOf_hop hh (by omega : 0 ≤ dOf t f (lnk t (i : Nat)).a.toNat (lnk t (i : Nat)).a.toNat)
  omega
theorem dist_nat (hF : failV t f) {a : Nat} (ha : a < t.devs.xs.length) : distV t f (a : Nat) = distsOf t f a := by
  have := distV_of (t := t) (f := f) (a := ((a : Nat) : Int)) (d := ((a : Nat) : Int)) ⟨⟨hF, by omega, by omega⟩, by omega, by omega⟩
  rwa [Int.toNat_natCast] at this
theorem other_hop (hV : topV t) {i : Nat} (hi : i < t.links.xs.length) {a : Int} (ha : 0 ≤ a) (hu : usableR t f (i : Nat)) (ho : 0 ≤ otherOf (t.links.xs.getD i lnkE.dflt) a) : hop t f i a.toNat (otherOf (t.links.xs.getD i lnkE.dflt) a).toNat := by
  have hl := topV_link hV hi
  have e : t.links.xs.getD i lnkE.dflt = lnk t (i : Nat) := rfl
  rw [e] at hl ho ⊢
  unfold lnkV at hl
  refine ⟨hi, hu, ?_⟩
  have h5 : (lnk t (i : Nat)).a = a ∧ (lnk t (i : Nat)).b = otherOf (lnk t (i : Nat)) a ∨ (lnk t (i : Nat)).a = otherOf (lnk t (i : Nat)) a ∧ (lnk t (i : Nat)).b = a := by
    unfold otherOf at ho ⊢; split at ho <;> (try split at ho) <;> (try split) <;> (try split) <;> omega
  omega
theorem distV_at {z : Int} {x : Nat} {a : Int} (hK : K2 t f a z) (hx : x < t.devs.xs.length) : (distV t f z).getD x intE.dflt = dOf t f z.toNat x := by
  rw [distV_of hK]; exact dists_at hx
theorem tie_law {a z : Int} (hK : K2 t f a z) {i : Nat} (hi : i < t.links.xs.length) (hu : ((usableV t f (i : Nat) ∧ 0 ≤ otherOf (t.links.xs.getD i lnkE.dflt) a) ∧ ¬ a = z) ∧ 0 ≤ (distV t f z).getD (otherOf (t.links.xs.getD i lnkE.dflt) a).toNat intE.dflt)
    (h : (nextV t f a z < 0 ∨ (i : Int) = nextV t f a z ∧ ¬ (distV t f z).getD (otherOf (t.links.xs.getD i lnkE.dflt) a).toNat intE.dflt + (t.links.xs.getD i lnkE.dflt).cost = (distV t f z).getD a.toNat intE.dflt) ∨ (i : Int) < nextV t f a z ∧ (distV t f z).getD (otherOf (t.links.xs.getD i lnkE.dflt) a).toNat intE.dflt + (t.links.xs.getD i lnkE.dflt).cost = (distV t f z).getD a.toNat intE.dflt) : False := by
  obtain ⟨⟨⟨h1, h2⟩, h3⟩, h4⟩ := hu
  have hF := hK.1.1
  have hV := hF.1.1
  have ha := hK.1.2
  have hz := hK.2
  have hh := other_hop hV hi ha.1 ((usable_iff hF hi).1 h1) h2
  have hf := hop_facts hV hh
  have hc : (t.links.xs.getD i lnkE.dflt).cost = ((cst t i : Nat) : Int) := hf.2.2.2.2.2.1.symm
  rw [hc, distV_at hK hf.2.1, distV_at hK hf.1] at h
  rw [distV_at hK hf.2.1] at h4
  have hp := dOf_hop hh h4
  have hn : nextV t f a z = nextI t f z.toNat a.toNat := by unfold nextV; exact if_pos hK
  rw [hn] at h
  rcases next_cases (f := f) (z := z.toNat) hV a.toNat with ⟨g1, g2⟩ | ⟨k, b, g1, g2, g3, g4, g5, g6⟩
  · have := dOf_zero (t := t) (f := f) (z := z.toNat) (d := a.toNat) hV (by omega)
    omega
  · rw [g1] at h
    rcases h with (h | ⟨h, h'⟩) | ⟨h, h'⟩
    · omega
    · obtain rfl : i = k := by omega
      have e := (hop_other hV g3).1
      have e2 := (hop_other hV hh).1
      rw [e] at e2
      obtain rfl : b = (otherOf (t.links.xs.getD i lnkE.dflt) a).toNat := by omega
      omega
    · exact g6 i (by omega) ⟨_, hh, h4, h'⟩
theorem tie_end {a z : Int} (hK : K2 t f a z) : nextV t f a z < 0 ∨ nextV t f a z < t.links.xs.length ∧ ¬ a = z := by
  have hV := hK.1.1.1.1
  have ha := hK.1.2
  have hz := hK.2
  have hn : nextV t f a z = nextI t f z.toNat a.toNat := by unfold nextV; exact if_pos hK
  rw [hn]
  rcases next_cases (f := f) (z := z.toNat) hV a.toNat with ⟨g1, g2⟩ | ⟨k, b, g1, g2, g3, g4, g5, g6⟩
  · exact .inl (by omega)
  · refine .inr ⟨by omega, fun e => ?_⟩
    rw [e, next_self hV] at g1
    omega
theorem walk_none {a z : Int} (hK : K2 t f a z) (h : (pathV t f a z).length = 0) : ((linkV t f a z).length = 0 ∧ ¬ connV t f a z) ∧ nextV t f a z = -1 := by
  have hF := hK.1.1
  rcases pv_cases t f a z with ⟨h1, h2, h3⟩ | ⟨_, _, T⟩
  · have h4 : ¬ 0 ≤ dOf t f z.toNat a.toNat := fun k => h1 ⟨hK, k⟩
    refine ⟨⟨by rw [h3]; rfl, fun k => h4 ((conn_iff hF.1.1 hF).1 k).2⟩, ?_⟩
    unfold nextV
    rw [if_pos hK]
    rcases next_cases (f := f) (z := z.toNat) hF.1.1 a.toNat with ⟨_, g⟩ | ⟨i, b, _, _, g3, g4, _⟩
    · exact g
    · exact absurd (dOf_hop g3 g4).1 h4
  · have := T.len; omega
theorem walk_some {a z : Int} (hK : K2 t f a z) (h : ¬ (pathV t f a z).length = 0) : Trail t f z.toNat a.toNat (pathV t f a z) (linkV t f a z) := by
  rcases pv_cases t f a z with ⟨_, h2, _⟩ | ⟨_, _, T⟩
  · exact absurd (by rw [h2]; rfl) h
  · exact T
theorem walk_rest {a z : Int} (hK : K2 t f a z) {P L : List Int} (T : Trail t f z.toNat a.toNat P L) (h : 1 ≤ L.length) : pathV t f (P.getD 1 intE.dflt) z = P.drop 1 := by
  have hV := hK.1.1.1.1
  obtain ⟨x, g1, g2⟩ := T.sub 1 h
  have g1' : P.getD 1 intE.dflt = (x : Int) := g1
  have hx := dOf_lt hV g2.pos
  unfold pathV
  rw [g1', Int.toNat_natCast, if_pos ⟨⟨⟨hK.1.1, by omega, by omega⟩, hK.2⟩, g2.pos⟩]
  exact (g2.is hV).1.symm
theorem walk_end {a z : Int} (hK : K2 t f a z) {P L : List Int} (T : Trail t f z.toNat a.toNat P L) : dOf t f z.toNat (P.getD L.length intE.dflt).toNat = 0 := by
  have h : P.getD L.length intE.dflt = ((z.toNat : Nat) : Int) := T.last
  rw [h, Int.toNat_natCast]
  obtain ⟨_, _, w, _⟩ := dOf_pos T.pos
  exact dOf_self w.goal.1 w.goal.2
end
end Go.Proofs.Ytfanmniaolncbaa.V
