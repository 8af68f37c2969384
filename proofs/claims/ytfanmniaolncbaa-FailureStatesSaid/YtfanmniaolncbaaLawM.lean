/- The laws on failure states, plain. -/
import Derived.Test.YtfanmniaolncbaaSanM
set_option linter.unusedVariables false
set_option linter.unusedSimpArgs false
namespace Go.Proofs.Ytfanmniaolncbaa.V
open Go.RowKit
section
variable {t : Topo} {f : Fail} (HV : failV t f)
include HV
theorem comp_at {a : Nat} (ha : a < t.devs.xs.length) : (compsV t f).getD a 0 = cv t f (-1) a := by unfold compsV; rw [if_pos HV]; exact comps_at ha
theorem alive_nat {a : Nat} (ha : a < t.devs.xs.length) : aliveV t f (a : Nat) ↔ ¬ ((a : Nat) : Int) ∈ f.devs.xs := alive_iff HV ha
theorem eqv_one {a : Nat} (ha : a < t.devs.xs.length) : (connV t f (a : Nat) (a : Nat) ↔ aliveV t f (a : Nat)) ∧ ¬ ((compsV t f).getD a 0 < 0 ↔ aliveV t f (a : Nat)) ∧ (compsV t f).getD a 0 ≤ a := by
  rw [comp_at HV ha]
  refine ⟨⟨fun h => h.1.1, fun h => ⟨⟨h, h⟩, rfl⟩⟩, ?_, ?_⟩
  · rw [alive_nat HV ha]
    unfold cv
    by_cases h : ((a : Nat) : Int) ∈ f.devs.xs
    · rw [if_pos h]; simp [h]
    · rw [if_neg h]; simp [h]
  · unfold cv
    split
    · omega
    · have := lab_self (linkR t f (-1) t.links.xs.length) a; omega
theorem eqv_two {a b : Nat} (ha : a < t.devs.xs.length) (hb : b < t.devs.xs.length) : (connV t f (a : Nat) (b : Nat) ↔ 0 ≤ (compsV t f).getD a 0 ∧ (compsV t f).getD a 0 = (compsV t f).getD b 0) ∧ (connV t f (a : Nat) (b : Nat) ↔ connV t f (b : Nat) (a : Nat)) := by
  have hcv : ∀ x : Nat, 0 ≤ cv t f (-1) x ↔ ¬ ((x : Nat) : Int) ∈ f.devs.xs := fun x => by
    unfold cv
    by_cases h : ((x : Nat) : Int) ∈ f.devs.xs
    · rw [if_pos h]; simp [h]
    · rw [if_neg h]; simp [h]
  refine ⟨?_, ⟨fun h => ⟨⟨h.1.2, h.1.1⟩, h.2.symm⟩, fun h => ⟨⟨h.1.2, h.1.1⟩, h.2.symm⟩⟩⟩
  rw [comp_at HV ha, comp_at HV hb]
  unfold connV
  rw [alive_nat HV ha, alive_nat HV hb, ← hcv, ← hcv]
  simp only [Int.toNat_natCast]
  constructor
  · rintro ⟨⟨h1, _⟩, h2⟩; exact ⟨h1, h2⟩
  · rintro ⟨h1, h2⟩; exact ⟨⟨h1, by rw [← h2]; exact h1⟩, h2⟩
theorem eqv_link {i : Nat} (hi : i < t.links.xs.length) (hu : usableV t f (i : Nat)) : (compsV t f).getD (t.links.xs.getD i lnkE.dflt).a.toNat 0 = (compsV t f).getD (t.links.xs.getD i lnkE.dflt).b.toNat 0 := by
  have hl : lnkV t.devs.xs.length (t.links.xs.getD i lnkE.dflt) := topV_link HV.1.1 hi
  unfold lnkV at hl
  rw [comp_at HV (by omega), comp_at HV (by omega)]
  have hu' := hu.2
  have e1 : (((t.links.xs.getD i lnkE.dflt).a.toNat : Nat) : Int) = (lnk t (i : Nat)).a := by show _ = (t.links.xs.getD i lnkE.dflt).a; omega
  have e2 : (((t.links.xs.getD i lnkE.dflt).b.toNat : Nat) : Int) = (lnk t (i : Nat)).b := by show _ = (t.links.xs.getD i lnkE.dflt).b; omega
  unfold cv
  rw [if_neg (by rw [e1]; exact hu'.1.2), if_neg (by rw [e2]; exact hu'.2)]
  congr 1
  exact lab_eq.2 (.one ⟨i, hi, by omega, hu', e1.symm, e2.symm⟩)
end
/-- what g connects and leaves usable, f does -/
def Mono (t : Topo) (f g : Fail) : Prop := (∀ a b, connV t g a b → connV t f a b) ∧ ∀ i, usableV t g i → usableV t f i
theorem mono_refl {t : Topo} {f : Fail} (h : failV t f) : failV t f ∧ Mono t f f := ⟨h, fun _ _ h => h, fun _ h => h⟩
theorem mono_more {t : Topo} {f g : Fail} {x : Int} (hf : failV t f) (h0 : 0 ≤ x) (hx : x < t.links.xs.length) (h : OneMore g f x) : failV t g ∧ Mono t f g := by
  obtain ⟨i, rfl⟩ : ∃ i : Nat, x = (i : Int) := ⟨x.toNat, by omega⟩
  have hi : i < t.links.xs.length := by omega
  have hg := more_valid hf hi h
  refine ⟨hg, fun a b hc => ?_, fun j hu => ⟨⟨⟨hf, hu.1.1.2⟩, hu.1.2⟩, ((more_usable hf h j).1 hu.2).1⟩⟩
  obtain ⟨⟨ha, hb⟩, hcv⟩ := hc
  have al : ∀ {d : Int}, aliveV t g d → aliveV t f d := fun h1 => ⟨⟨⟨hf, h1.1.1.2⟩, h1.1.2⟩, by rw [← h.2]; exact h1.2⟩
  refine ⟨⟨al ha, al hb⟩, ?_⟩
  obtain ⟨a0, a1⟩ := aliveV_nat ha
  obtain ⟨b0, b1⟩ := aliveV_nat hb
  have na : ¬ ((a.toNat : Nat) : Int) ∈ g.devs.xs := by rw [show ((a.toNat : Nat) : Int) = a from by omega]; exact ha.2
  have nb : ¬ ((b.toNat : Nat) : Int) ∈ g.devs.xs := by rw [show ((b.toNat : Nat) : Int) = b from by omega]; exact hb.2
  unfold cv at hcv ⊢
  rw [if_neg na, if_neg nb] at hcv
  rw [h.2] at na nb
  rw [if_neg na, if_neg nb]
  have hcn : Conn (linkR t g (-1) t.links.xs.length) a.toNat b.toNat := lab_eq.1 (by omega)
  congr 1
  exact lab_eq.2 (hcn.mono fun p q r => by
    obtain ⟨j, h1, h2, h3, h4⟩ := r
    exact ⟨j, h1, h2, ((more_usable hf h j).1 h3).1, h4⟩)
theorem card_congr {P Q : Nat → Prop} {n : Nat} (h : ∀ d, d < n → (P d ↔ Q d)) : card n P = card n Q := Nat.le_antisymm (card_mono fun d hd => (h d hd).1) (card_mono fun d hd => (h d hd).2)
theorem card_one {P Q : Nat → Prop} {m : Nat} : ∀ {n : Nat}, (∀ d, d < n → (P d ↔ Q d ∧ ¬ d = m)) → m < n → Q m → card n Q = card n P + 1
  | 0, _, h, _ => absurd h (Nat.not_lt_zero _)
  | n + 1, h, hm, hq => by
    have hn := h n (Nat.lt_succ_self n)
    unfold card
    rcases Nat.lt_succ_iff_lt_or_eq.1 hm with g | rfl
    · have := card_one (n := n) (fun d hd => h d (by omega)) g hq
      have e : P n ↔ Q n := ⟨fun h => (hn.1 h).1, fun h => hn.2 ⟨h, by omega⟩⟩
      by_cases hp : P n
      · rw [if_pos hp, if_pos (e.1 hp)]; omega
      · rw [if_neg hp, if_neg (fun h => hp (e.2 h))]; omega
    · have : card m Q = card m P := card_congr fun d hd => ⟨fun hQ => (h d (by omega)).2 ⟨hQ, by omega⟩, fun hP => ((h d (by omega)).1 hP).1⟩
      rw [if_pos hq, if_neg (fun e => (hn.1 e).2 rfl)]; omega
/-- a device that its component is named after -/
def head (t : Topo) (f : Fail) (j : Nat) : Prop := (compsV t f).getD j 0 = (j : Int)
theorem head_iff {t : Topo} {f : Fail} (h : failV t f) {j : Nat} (hj : j < t.devs.xs.length) : head t f j ↔ ¬ ((j : Nat) : Int) ∈ f.devs.xs ∧ lab (useR t f (-1)) j = j := by
  unfold head
  rw [comp_at h hj]
  unfold cv useR
  by_cases hd : ((j : Nat) : Int) ∈ f.devs.xs
  · rw [if_pos hd]; constructor
    · intro e; omega
    · intro e; exact absurd hd e.1
  · rw [if_neg hd]; constructor
    · intro e; exact ⟨hd, by omega⟩
    · intro e; rw [e.2]
theorem heads_step {t : Topo} {f g : Fail} {i : Nat} (hf : failV t f) (hi : i < t.links.xs.length) (h : OneMore g f (i : Nat)) :
    (bridge t f i → card t.devs.xs.length (head t g) = card t.devs.xs.length (head t f) + 1) ∧ (¬ bridge t f i → card t.devs.xs.length (head t g) = card t.devs.xs.length (head t f)) := by
  have hg := more_valid hf hi h
  have hl : lnkV t.devs.xs.length (lnk t (i : Nat)) := topV_link hf.1.1 hi
  unfold lnkV at hl
  have hR : ∀ a b, useR t g (-1) a b ↔ useR t f (i : Nat) a b := more_link hf h
  by_cases hu : usableR t f (i : Nat)
  · have hA : ∀ a b, useR t f (-1) a b ↔ Add (useR t g (-1)) (lnk t (i : Nat)).a.toNat (lnk t (i : Nat)).b.toNat a b := fun a b => by
      constructor
      · rintro ⟨j, h1, h2, h3, h4, h5⟩
        by_cases hj : j = i
        · subst hj; exact .inr ⟨by omega, by omega⟩
        · exact .inl ((hR a b).2 ⟨j, h1, by omega, h3, h4, h5⟩)
      · rintro (r | ⟨rfl, rfl⟩)
        · obtain ⟨j, h1, _, h3, h4⟩ := (hR a b).1 r
          exact ⟨j, h1, by omega, h3, h4⟩
        · exact ⟨i, hi, by omega, hu, by omega, by omega⟩
    have hlab : ∀ x, lab (useR t f (-1)) x = _ := fun x => (lab_congr hA x).trans (lab_add x)
    have hbr : bridge t f i ↔ ¬ lab (useR t g (-1)) (lnk t (i : Nat)).a.toNat = lab (useR t g (-1)) (lnk t (i : Nat)).b.toNat := by
      unfold bridge
      have ha : ¬ (((lnk t (i : Nat)).a.toNat : Nat) : Int) ∈ f.devs.xs := by rw [show (((lnk t (i : Nat)).a.toNat : Nat) : Int) = (lnk t (i : Nat)).a from by omega]; exact hu.1.2
      have hb : ¬ (((lnk t (i : Nat)).b.toNat : Nat) : Int) ∈ f.devs.xs := by rw [show (((lnk t (i : Nat)).b.toNat : Nat) : Int) = (lnk t (i : Nat)).b from by omega]; exact hu.2
      unfold cv
      rw [if_neg ha, if_neg hb, lab_congr hR, lab_congr hR]
      unfold useR
      constructor
      · intro h1 e; exact h1.2 (by omega)
      · intro h1; exact ⟨hu, fun e => h1 (by omega)⟩
    refine ⟨fun hb => ?_, fun hb => ?_⟩
    · have hne := hbr.1 hb
      -- the greater of the two names is lost
      have alive : ∀ {x y}, Conn (useR t g (-1)) x y → ((¬ ((x : Nat) : Int) ∈ f.devs.xs ∧ x < t.devs.xs.length) ↔ (¬ ((y : Nat) : Int) ∈ f.devs.xs ∧ y < t.devs.xs.length)) := fun c => by
        refine Conn.stay (p := fun x => ¬ ((x : Nat) : Int) ∈ f.devs.xs ∧ x < t.devs.xs.length) (fun a b r => ?_) c
        have hlt := useR_lt hf.1.1 ((hR a b).1 r)
        obtain ⟨j, _, _, h3, h4, h5⟩ := (hR a b).1 r
        exact ⟨fun _ => ⟨by rw [← h5]; exact h3.2, hlt.2⟩, fun _ => ⟨by rw [← h4]; exact h3.1.2, hlt.1⟩⟩
      have ap : ¬ ((lab (useR t g (-1)) (lnk t (i : Nat)).a.toNat : Nat) : Int) ∈ f.devs.xs ∧ lab (useR t g (-1)) (lnk t (i : Nat)).a.toNat < t.devs.xs.length :=
        (alive (lab_conn _ _)).1 ⟨by rw [show (((lnk t (i : Nat)).a.toNat : Nat) : Int) = (lnk t (i : Nat)).a from by omega]; exact hu.1.2, by omega⟩
      have aq : ¬ ((lab (useR t g (-1)) (lnk t (i : Nat)).b.toNat : Nat) : Int) ∈ f.devs.xs ∧ lab (useR t g (-1)) (lnk t (i : Nat)).b.toNat < t.devs.xs.length :=
        (alive (lab_conn _ _)).1 ⟨by rw [show (((lnk t (i : Nat)).b.toNat : Nat) : Int) = (lnk t (i : Nat)).b from by omega]; exact hu.2, by omega⟩
      have lp := lab_lab (useR t g (-1)) (lnk t (i : Nat)).a.toNat
      have lq := lab_lab (useR t g (-1)) (lnk t (i : Nat)).b.toNat
      have key : ∀ m, m = max (lab (useR t g (-1)) (lnk t (i : Nat)).a.toNat) (lab (useR t g (-1)) (lnk t (i : Nat)).b.toNat) → card t.devs.xs.length (head t g) = card t.devs.xs.length (head t f) + 1 := fun m hm => by
        have hmp : m = lab (useR t g (-1)) (lnk t (i : Nat)).a.toNat ∨ m = lab (useR t g (-1)) (lnk t (i : Nat)).b.toNat := by omega
        refine card_one (m := m) (fun d hd => ?_) (hmp.elim (fun e => by rw [e]; exact ap.2) fun e => by rw [e]; exact aq.2) ?_
        · rw [head_iff hf hd, head_iff hg hd, h.2, hlab d]
          constructor
          · rintro ⟨h1, h2⟩
            split at h2
            · rename_i hor
              have hself := lab_self (useR t g (-1)) d
              refine ⟨⟨h1, ?_⟩, by omega⟩
              rcases hor with e | e <;> omega
            · rename_i hor
              refine ⟨⟨h1, h2⟩, fun e => hor ?_⟩
              subst e
              rw [h2]
              exact hmp
          · rintro ⟨⟨h1, h2⟩, h3⟩
            refine ⟨h1, ?_⟩
            split
            · rename_i hor; omega
            · exact h2
        · refine (head_iff hg (hmp.elim (fun e => by rw [e]; exact ap.2) fun e => by rw [e]; exact aq.2)).2 ⟨by rw [h.2]; exact hmp.elim (fun e => by rw [e]; exact ap.1) fun e => by rw [e]; exact aq.1, ?_⟩
          rcases hmp with e | e
          · rw [e]; exact lp
          · rw [e]; exact lq
      exact key _ rfl
    · have heq : lab (useR t g (-1)) (lnk t (i : Nat)).a.toNat = lab (useR t g (-1)) (lnk t (i : Nat)).b.toNat := Classical.byContradiction fun e => hb (hbr.2 e)
      refine card_congr fun d hd => ?_
      rw [head_iff hf hd, head_iff hg hd, h.2, hlab d, heq, Nat.min_self]
      split
      · rename_i hor; rw [show lab (useR t g (-1)) d = lab (useR t g (-1)) (lnk t (i : Nat)).b.toNat from hor.elim id id]
      · exact Iff.rfl
  · refine ⟨fun hb => absurd hb.1 hu, fun _ => card_congr fun d hd => ?_⟩
    rw [head_iff hf hd, head_iff hg hd, h.2]
    have : lab (useR t g (-1)) d = lab (useR t f (-1)) d := lab_congr (fun a b => by
      rw [hR]
      constructor
      · rintro ⟨j, h1, _, h3, h4⟩; exact ⟨j, h1, by omega, h3, h4⟩
      · rintro ⟨j, h1, _, h3, h4⟩; exact ⟨j, h1, fun e => hu (by rw [← e]; exact h3), h3, h4⟩) d
    rw [this]
theorem mem_bridges {t : Topo} {f : Fail} (h : failV t f) {i : Nat} (hi : i < t.links.xs.length) : ((i : Nat) : Int) ∈ bridgesOf t f ↔ bridge t f i := by
  unfold bridgesOf bridgesTo
  rw [if_pos h]
  simp only [List.mem_map, List.mem_filter, List.mem_range, decide_eq_true_eq]
  constructor
  · rintro ⟨j, ⟨_, hb⟩, e⟩
    obtain rfl : j = i := by omega
    exact hb
  · intro hb; exact ⟨i, ⟨hi, hb⟩, rfl⟩
theorem bridge_law {t : Topo} {f g : Fail} {i : Nat} (hf : failV t f) (hi : i < t.links.xs.length) (h : OneMore g f (i : Nat)) :
    (((i : Nat) : Int) ∈ bridgesOf t f ↔ card t.devs.xs.length (head t f) < card t.devs.xs.length (head t g)) ∧ card t.devs.xs.length (head t g) ≤ card t.devs.xs.length (head t f) + 1 := by
  rw [mem_bridges hf hi]
  obtain ⟨h1, h2⟩ := heads_step hf hi h
  by_cases hb : bridge t f i
  · have := h1 hb; exact ⟨⟨fun _ => by omega, fun _ => hb⟩, by omega⟩
  · have := h2 hb; exact ⟨⟨fun e => absurd e hb, fun e => by omega⟩, by omega⟩
theorem card_yes {P : Nat → Prop} {n : Nat} (h : P n) : card (n + 1) P = card n P + 1 := by rw [card, if_pos h]
theorem card_no {P : Nat → Prop} {n : Nat} (h : ¬ P n) : card (n + 1) P = card n P := by rw [card, if_neg h]; rfl
theorem mem_take_snoc {l : List Int} {k : Nat} {v : Int} (hk : k < l.length) : v ∈ l.take (k + 1) ↔ v ∈ l.take k ∨ l.getD k 0 = v := by
  rw [take_snocD 0 hk, List.mem_append, List.mem_singleton]
  exact or_congr_right ⟨fun e => e.symm, fun e => e.symm⟩
end Go.Proofs.Ytfanmniaolncbaa.V
