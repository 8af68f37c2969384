/- Plain laws of package source: numbers, names, words. -/
import Derived.Test.YtmaiillomoehgaaDoorTxtM
namespace Go.Proofs.YtmaiillomoehgaaDoor
/-- the value of decimal digits -/
def decGo : List UInt8 → Nat → Option Nat
  | [], n => some n
  | c :: l, n => if c.toNat < 48 ∨ 57 < c.toNat then none else decGo l (10 * n + (c.toNat - 48))
theorem decGo_ge : ∀ (l : List UInt8) (n m : Nat), decGo l n = some m → n * 10 ^ l.length ≤ m
  | [], n, m, h => by simp only [decGo, Option.some.injEq] at h; subst h; simp
  | c :: l, n, m, h => by
    simp only [decGo] at h
    split at h
    · cases h
    · have := decGo_ge l _ m h
      rw [List.length_cons, Nat.pow_succ]
      refine Nat.le_trans ?_ this
      rw [Nat.mul_comm (10 ^ l.length) 10, ← Nat.mul_assoc]
      exact Nat.mul_le_mul_right _ (by omega)
theorem decGo_lt : ∀ (l : List UInt8) (n m : Nat), decGo l n = some m → m < (n + 1) * 10 ^ l.length
  | [], n, m, h => by simp only [decGo, Option.some.injEq] at h; subst h; simp
  | c :: l, n, m, h => by
    simp only [decGo] at h
    split at h
    · cases h
    · have := decGo_lt l _ m h
      rw [List.length_cons, Nat.pow_succ]
      refine Nat.lt_of_lt_of_le this ?_
      rw [Nat.mul_comm (10 ^ l.length) 10, ← Nat.mul_assoc]
      exact Nat.mul_le_mul_right _ (by omega)
theorem decGo_mono (l : List UInt8) (n m : Nat) (h : decGo l n = some m) : n ≤ m := by
  have h1 := decGo_ge l n m h
  have h2 : 1 ≤ 10 ^ l.length := Nat.pow_pos (by decide)
  exact Nat.le_trans (Nat.le_mul_of_pos_right n h2) h1
theorem rdGo_eq (most : Int) : ∀ (l : List UInt8) (n : Nat), (n : Int) ≤ most → rdGo most l n = (decGo l n).bind fun v => if (v : Int) ≤ most then some (v : Int) else none
  | [], n, h => by simp [rdGo, decGo, h]
  | c :: l, n, h => by
    simp only [rdGo, decGo]
    by_cases g : c.toNat < 48 ∨ 57 < c.toNat
    · rw [if_pos g, if_pos (by omega)]; rfl
    · rw [if_neg g]
      have e : (10 * (n : Int) + ((c.toNat : Int) - 48)) = ((10 * n + (c.toNat - 48) : Nat) : Int) := by omega
      by_cases g2 : most < 10 * (n : Int) + ((c.toNat : Int) - 48)
      · rw [if_pos (by omega)]
        cases hd : decGo l (10 * n + (c.toNat - 48)) with
        | none => rfl
        | some v =>
          have := decGo_mono l _ v hd
          rw [Option.bind_some, if_neg (by omega)]
      · rw [if_neg (by omega), e]
        exact rdGo_eq most l _ (by omega)
/-- the number that a word denotes between two ends -/
def numB (l : List UInt8) (least most : Int) : Option Int :=
  if most < 0 then none else (readB l most).bind fun n => if n < least then none else some n
theorem numB_bd {l : List UInt8} {least most n : Int} (h : numB l least most = some n) : least ≤ n ∧ 0 ≤ n ∧ n ≤ most := by
  unfold numB at h
  split at h
  · cases h
  · rename_i hm
    rw [Option.bind_eq_some_iff] at h
    obtain ⟨m, h1, h2⟩ := h
    have := readB_bd (by omega) h1
    split at h2
    · cases h2
    · simp only [Option.some.injEq] at h2; subst h2; omega
/-- as source.Number reckons -/
def srcOk (l : List UInt8) (most : Int) : Bool := !(decide (l = []) || decide (19 < l.length) || (decide (1 < l.length) && decide ((l.getD 0 0).toNat = 48)) || decide (most < 0))
theorem numB_no (l : List UInt8) (least most : Int) (hm : most ≤ 9223372036854775807) (h : srcOk l most = false) : numB l least most = none := by
  unfold numB
  by_cases g0 : most < 0
  · rw [if_pos g0]
  · rw [if_neg g0]
    have hr : readB l most = none := by
      unfold readB
      by_cases g1 : l = [] ∨ 1 < l.length ∧ (l.getD 0 0).toNat = 48
      · rw [if_pos g1]
      · rw [if_neg g1]
        have h19 : 19 < l.length := by
          simp only [srcOk, Bool.not_eq_false', Bool.or_eq_true, Bool.and_eq_true, decide_eq_true_eq] at h
          rcases h with ((h | h) | h) | h
          · exact absurd (.inl h) g1
          · exact h
          · exact absurd (.inr h) g1
          · exact absurd h g0
        rw [show (0 : Int) = ((0 : Nat) : Int) by rfl, rdGo_eq most l 0 (by omega)]
        cases hd : decGo l 0 with
        | none => rfl
        | some v =>
          rw [Option.bind_some, if_neg]
          match l, h19, g1, hd with
          | c :: l, h19, g1, hd =>
            simp only [decGo] at hd
            split at hd
            · cases hd
            · rename_i gc
              have h1 := decGo_ge l _ v hd
              have hz : c.toNat ≠ 48 := fun h => g1 (.inr ⟨by omega, by simpa using h⟩)
              have hp : 10 ^ 19 ≤ 10 ^ l.length := Nat.pow_le_pow_right (by decide) (by simpa using Nat.lt_succ_iff.1 h19)
              have h2 : 1 * 10 ^ l.length ≤ (10 * 0 + (c.toNat - 48)) * 10 ^ l.length := Nat.mul_le_mul_right _ (by omega)
              have h3 : (10 : Nat) ^ 19 = 10000000000000000000 := by decide
              omega
    rw [hr]; rfl
theorem numB_yes (l : List UInt8) (least most : Int) (h : srcOk l most = true) : numB l least most = (decGo l 0).bind fun v => if most < (v : Int) ∨ (v : Int) < least then none else some (v : Int) := by
  simp only [srcOk, Bool.not_eq_true', Bool.or_eq_false_iff, decide_eq_false_iff_not] at h
  obtain ⟨⟨⟨h1, h2⟩, h3⟩, h4⟩ := h
  unfold numB
  rw [if_neg h4]
  have g1 : ¬ (l = [] ∨ 1 < l.length ∧ (l.getD 0 0).toNat = 48) := by
    intro h
    rcases h with h | h
    · exact h1 h
    · simp [h.1] at h3; exact h3 (by simpa using h.2)
  unfold readB
  rw [if_neg g1, show (0 : Int) = ((0 : Nat) : Int) by rfl, rdGo_eq most l 0 (by omega)]
  cases hd : decGo l 0 with
  | none => rfl
  | some v =>
    simp only [Option.bind_some]
    by_cases g : (v : Int) ≤ most
    · rw [if_pos g, Option.bind_some]
      by_cases g2 : (v : Int) < least
      · rw [if_pos g2, if_pos (.inr g2)]
      · rw [if_neg g2, if_neg (by omega)]
    · rw [if_neg g, if_pos (.inl (by omega))]; rfl
/-- decimal digits without leading zeros -/
def allDig (l : List UInt8) : Bool := l.all fun c => decide (48 ≤ c.toNat) && decide (c.toNat ≤ 57)
def digitsB (l : List UInt8) : Bool := allDig l && (!decide (l = []) && (decide (l.length = 1) || !decide ((l.getD 0 0).toNat = 48)))
theorem rdGo_dig (most : Int) : ∀ (l : List UInt8) (n m : Int), rdGo most l n = some m → allDig l = true
  | [], _, _, _ => rfl
  | c :: l, n, m, h => by
    simp only [rdGo] at h
    split at h
    · cases h
    · have := rdGo_dig most l _ m h
      simp only [allDig, List.all_cons, Bool.and_eq_true, decide_eq_true_eq]
      exact ⟨by omega, this⟩
theorem readB_dig (l : List UInt8) (most : Int) (h : digitsB l = false) : readB l most = none := by
  unfold readB
  split
  · rfl
  · rename_i g
    cases hr : rdGo most l 0 with
    | none => rfl
    | some m =>
      have h1 := rdGo_dig most l 0 m hr
      have hne : l ≠ [] := fun h => g (.inl h)
      have hpos := List.length_pos_iff.2 hne
      rw [digitsB, h1] at h
      simp only [Bool.true_and, Bool.and_eq_false_iff, Bool.not_eq_false', decide_eq_true_eq, Bool.or_eq_false_iff, decide_eq_false_iff_not] at h
      rcases h with h | ⟨h2, h3⟩
      · exact absurd h hne
      · exact absurd (.inr ⟨by omega, h3⟩) g
/-- as the reference reckons -/
theorem numB_ref (l : List UInt8) (least most : Int) : numB l least most = if digitsB l = false ∨ most < 0 then none else (readB l most).bind fun n => if n < least then none else some n := by
  unfold numB
  by_cases g0 : most < 0
  · rw [if_pos g0, if_pos (.inr g0)]
  · rw [if_neg g0]
    by_cases g1 : digitsB l = false
    · rw [if_pos (.inl g1), readB_dig l most g1]; rfl
    · rw [if_neg (by simp [g1, g0])]
/-- a name -/
def lowB (c : UInt8) : Bool := decide (97 ≤ c.toNat) && decide (c.toNat ≤ 122)
def othB (c : UInt8) : Bool := (decide (48 ≤ c.toNat) && decide (c.toNat ≤ 57)) || (decide (c.toNat = 45) || decide (c.toNat = 95))
def nameB (l : List UInt8) : Bool := !decide (l = []) && (decide (l.length ≤ 24) && (!decide (l = [97, 110, 121]) && (lowB (l.getD 0 0) && l.all fun c => lowB c || othB c)))
end Go.Proofs.YtmaiillomoehgaaDoor
