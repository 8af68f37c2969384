/- The states of a plan, plain. -/
import Derived.Test.YtobggnpnochnnaaCtlO
set_option linter.unusedVariables false
set_option linter.unusedSimpArgs false
namespace Go.Proofs.Ytobggnpnochnnaa.V
open Go.RowKit
def rndP (st : Bool) (n : Int) : Int → List Int → List Chg → Option (List Int)
  | _, now, [] => some now
  | last, now, c :: r => if c.dev ≤ last ∨ n ≤ c.dev ∨ c.ver ≤ now.getD c.dev.toNat 0 ∨ 3 < c.ver ∨ (¬ st = true ∧ c.ver ≠ 3) then none else rndP st n c.dev (now.set c.dev.toNat c.ver) r
def stsA (st : Bool) (n : Int) : List (List Int) → List Int → List (List Chg) → Option (List (List Int))
  | acc, _, [] => some acc
  | acc, now, r :: rs => if r.length = 0 then none else match rndP st n (-1) now r with
    | none => none
    | some y => stsA st n (acc ++ [y]) y rs
def zerosP (n : Int) : List Int := List.replicate n.toNat 0
def statesP (st : Bool) (R : List (List Chg)) (n : Int) : Option (List (List Int)) := if n < 1 ∨ 12 < n then none else stsA st n [zerosP n] (zerosP n) R
def rdsP (p : Plan) : List (List Chg) := p.rounds.xs.map fun l => l.xs
theorem rdsP_len (p : Plan) : (rdsP p).length = p.rounds.xs.length := List.length_map _
theorem rdsP_at (p : Plan) (k : Nat) : (rdsP p).getD k [] = (p.rounds.xs.getD k (slE chgE).dflt).xs := by
  unfold rdsP
  rw [List.getD_eq_getElem?_getD, List.getD_eq_getElem?_getD, List.getElem?_map]
  cases p.rounds.xs[k]? <;> rfl
theorem drop_cons {α : Type} {l : List α} {k : Nat} (h : k < l.length) (d : α) : l.drop k = l.getD k d :: l.drop (k + 1) := by
  rw [List.drop_eq_getElem_cons h, List.getD_eq_getElem?_getD, List.getElem?_eq_getElem h]; rfl
theorem take_up {α : Type} {l : List α} {k m : Nat} (h : k < l.length) (e : m = k + 1) (d : α) : l.take m = l.take k ++ [l.getD k d] := by
  subst e; rw [List.take_succ_eq_append_getElem h, List.getD_eq_getElem?_getD, List.getElem?_eq_getElem h]; rfl
theorem rndP_len {st : Bool} {n : Int} : ∀ (l : List Chg) {last : Int} {now y : List Int}, rndP st n last now l = some y → y.length = now.length
  | [], _, now, y, h => by rw [rndP] at h; cases h; rfl
  | c :: r, last, now, y, h => by
    rw [rndP] at h
    split at h
    · cases h
    · rw [rndP_len r h, List.length_set]
theorem rndP_dev {st : Bool} {n : Int} : ∀ (l : List Chg) {last : Int} {now y : List Int}, -1 ≤ last → rndP st n last now l = some y → l.Pairwise (fun a b => a.dev < b.dev) ∧ ∀ x ∈ l, last < x.dev ∧ x.dev < n ∧ x.ver ≤ 3
  | [], _, now, y, _, h => ⟨.nil, fun x hx => by simp at hx⟩
  | c :: r, last, now, y, h0, h => by
    rw [rndP] at h
    split at h
    · cases h
    · rename_i hc
      obtain ⟨h1, h2⟩ := rndP_dev r (by omega) h
      refine ⟨List.pairwise_cons.2 ⟨fun x hx => (h2 x hx).1, h1⟩, fun x hx => ?_⟩
      rcases List.mem_cons.1 hx with rfl | hx
      · omega
      · have := h2 x hx; omega
theorem pw_len {n : Nat} : ∀ {l : List Chg} {b : Int}, 0 ≤ b → b ≤ n → l.Pairwise (fun a b => a.dev < b.dev) → (∀ x ∈ l, b ≤ x.dev ∧ x.dev < n) → (l.length : Int) ≤ n - b
  | [], b, _, h, _, _ => by simp; omega
  | x :: t, b, h0, h, hp, hx => by
    rw [List.pairwise_cons] at hp
    have h1 := hx x List.mem_cons_self
    have := pw_len (l := t) (b := x.dev + 1) (by omega) (by omega) hp.2 fun y hy => ⟨by have := hp.1 y hy; omega, (hx y (List.mem_cons_of_mem _ hy)).2⟩
    simp only [List.length_cons]; omega
theorem stsA_ok {st : Bool} {n : Nat} : ∀ (R : List (List Chg)) {acc sts : List (List Int)} {now : List Int}, now.length = n → (∀ l ∈ acc, l.length = n) → stsA st n acc now R = some sts →
    sts.length = acc.length + R.length ∧ (∀ l ∈ sts, l.length = n) ∧ ∀ l ∈ R, 0 < l.length ∧ l.length ≤ n ∧ (∀ x ∈ l, 0 ≤ x.dev ∧ x.dev < n)
  | [], acc, sts, now, _, ha, h => by
    rw [stsA] at h; cases h
    exact ⟨rfl, ha, fun l h => by simp at h⟩
  | r :: rs, acc, sts, now, hn, ha, h => by
    rw [stsA] at h
    split at h
    · cases h
    · rename_i h0
      split at h
      · cases h
      · rename_i y hy
        have hyl := rndP_len r hy
        obtain ⟨g1, g2⟩ := rndP_dev r (by omega) hy
        obtain ⟨k1, k2, k3⟩ := stsA_ok rs (hyl.trans hn) (fun l hl => by
          rcases List.mem_append.1 hl with hl | hl
          · exact ha l hl
          · obtain rfl : l = y := by simpa using hl
            exact hyl.trans hn) h
        have hx : ∀ x ∈ r, 0 ≤ x.dev ∧ x.dev < (n : Int) := fun x hx => by have := g2 x hx; omega
        have hle := pw_len (Int.le_refl 0) (by omega) g1 hx
        refine ⟨by rw [k1]; simp only [List.length_append, List.length_cons, List.length_nil]; omega, k2, fun l hl => ?_⟩
        rcases List.mem_cons.1 hl with rfl | hl
        · exact ⟨by omega, by omega, hx⟩
        · exact k3 l hl
theorem statesP_ok {st : Bool} {R : List (List Chg)} {n : Int} {sts : List (List Int)} (h : statesP st R n = some sts) (hR : R.length ≤ 16) : (1 ≤ n ∧ n ≤ 12) ∧ PlanOK n.toNat R sts ∧ ∀ l ∈ R, 0 < l.length := by
  unfold statesP at h
  split at h
  · cases h
  · rename_i hn
    obtain ⟨m, rfl⟩ : ∃ m : Nat, n = m := ⟨n.toNat, by omega⟩
    have hz : (zerosP m).length = m := by unfold zerosP; simp
    obtain ⟨k1, k2, k3⟩ := stsA_ok R hz (fun l hl => by obtain rfl : l = _ := by simpa using hl
                                                        exact hz) h
    simp only [List.length_singleton] at k1
    refine ⟨by omega, ⟨by simp; omega, by simp; omega, hR, by omega, fun l hl => ⟨?_, ?_⟩, fun l hl => by simpa using k2 l hl⟩, fun l hl => (k3 l hl).1⟩
    · have := (k3 l hl).2.1; omega
    · intro x hx; simpa using (k3 l hl).2.2 x hx
theorem or5 {a b c d e : Prop} : (((a ∨ b) ∨ c) ∨ d) ∨ e ↔ a ∨ b ∨ c ∨ d ∨ e := by simp only [or_assoc]
theorem rndP_no {st : Bool} {n last : Int} {now : List Int} {c : Chg} {r : List Chg} (h : c.dev ≤ last ∨ n ≤ c.dev ∨ c.ver ≤ now.getD c.dev.toNat 0 ∨ 3 < c.ver ∨ (¬ st = true ∧ c.ver ≠ 3)) : rndP st n last now (c :: r) = none := if_pos h
theorem rndP_go {st : Bool} {n last : Int} {now : List Int} {c : Chg} {r : List Chg} (h : ¬ (c.dev ≤ last ∨ n ≤ c.dev ∨ c.ver ≤ now.getD c.dev.toNat 0 ∨ 3 < c.ver ∨ (¬ st = true ∧ c.ver ≠ 3))) : rndP st n last now (c :: r) = rndP st n c.dev (now.set c.dev.toNat c.ver) r := if_neg h
/-- what the states are asked for: nothing, or the error -/
def stsD (o : Option (List (List Int))) : List (List Int) := o.getD []
def stsE (o : Option (List (List Int))) : Int := if o.isSome = true then 0 else 1
def lastD (r : List Chg) (k : Nat) : Int := if k = 0 then -1 else (r.getD ((k : Int) - 1).toNat chgE.dflt).dev
theorem lastD_le {r : List Chg} {k : Nat} {d : Int} (h : k = 0 ∨ 0 ≤ lastD r k) : d ≤ lastD r k ↔ d < 0 ∨ (0 < ((k : Nat) : Int) ∧ d ≤ (r.getD ((k : Int) - 1).toNat chgE.dflt).dev) := by
  unfold lastD at *
  split <;> omega
theorem lastD_up (r : List Chg) (k : Nat) : lastD r (k + 1) = (r.getD k chgE.dflt).dev := by
  unfold lastD
  rw [if_neg (by omega), show (((k + 1 : Nat) : Int) - 1).toNat = k from by omega]
theorem or6 {a b c d e f : Prop} : (((((a ∨ b) ∨ c) ∨ d) ∨ e) ∨ f) ↔ (a ∨ c) ∨ b ∨ d ∨ e ∨ f := by
  constructor
  · rintro (((((h | h) | h) | h) | h) | h)
    · exact .inl (.inl h)
    · exact .inr (.inl h)
    · exact .inl (.inr h)
    · exact .inr (.inr (.inl h))
    · exact .inr (.inr (.inr (.inl h)))
    · exact .inr (.inr (.inr (.inr h)))
  · rintro ((h | h) | h | h | h | h)
    · exact .inl (.inl (.inl (.inl (.inl h))))
    · exact .inl (.inl (.inl (.inr h)))
    · exact .inl (.inl (.inl (.inl (.inr h))))
    · exact .inl (.inl (.inr h))
    · exact .inl (.inr h)
    · exact .inr h
theorem stsE_0 {o : Option (List (List Int))} : stsE o = 0 ↔ o.isSome = true := by unfold stsE; cases o <;> simp
def errQ {α : Type} (q : Option α) : Int := if q.isSome = true then 0 else 1
/-- the fresh controller -/
def newC (n : Int) : Ctl := ⟨0, false, 0, zerosP n, zerosP n, [], []⟩
theorem newC_ok {n : Nat} {R : Nat} : CtlOK n R (newC n) :=
  ⟨by simp [newC, zerosP], by simp [newC, zerosP], ⟨.nil, fun x h => by simp [newC] at h⟩, by show -1 ≤ (0 : Int) ∧ (0 : Int) ≤ _; omega, Int.le_refl 0, fun _ => by show (0 : Int) ≤ 0 + 1 ∧ (0 : Int) ≤ 0; omega, fun h => by cases h⟩
end Go.Proofs.Ytobggnpnochnnaa.V
