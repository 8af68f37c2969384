/- Plain laws of texts: decimal digits, bytes as lists, parts between separators, decimal numbers with a greatest value. -/
import Derived.Test.YtekhggaafeonjaaDoorLib
import Derived.Lib.ItoaNum
import Derived.Lib.IndexLaws
namespace Go.Proofs.YtekhggaafeonjaaDoor
theorem dig_toNat (x : Nat) (h : x < 10) : (UInt8.ofNat (48 + x)).toNat = 48 + x := by
  rw [UInt8.toNat_ofNat']; omega
theorem byte_of (c : UInt8) (x : Nat) (h : c.toNat = 48 + x) : UInt8.ofNat (48 + x) = c := by
  rw [← h]; exact UInt8.ofNat_toNat
theorem decD_small (u : Nat) (h : u < 10) : Lib.decDigits u = [UInt8.ofNat (48 + u)] := Lib.decDigits_one h
theorem decD_big (u x : Nat) (h : 1 ≤ u) (hx : x < 10) : Lib.decDigits (10 * u + x) = Lib.decDigits u ++ [UInt8.ofNat (48 + x)] := by
  rw [Lib.decDigits, dif_neg (by omega), show (10 * u + x) / 10 = u by omega, show (10 * u + x) % 10 = x by omega]
theorem decD_ne (u : Nat) : Lib.decDigits u ≠ [] := by
  by_cases h : u < 10
  · rw [decD_small u h]; simp
  · rw [Lib.decDigits, dif_neg h]; simp
theorem decD_range (u : Nat) : ∀ c ∈ Lib.decDigits u, 48 ≤ c.toNat ∧ c.toNat ≤ 57 := by
  induction u using Nat.strongRecOn with
  | _ u ih =>
    by_cases h : u < 10
    · rw [decD_small u h]; intro c hc; simp only [List.mem_singleton] at hc; subst hc; rw [dig_toNat u h]; omega
    · rw [Lib.decDigits, dif_neg h]
      intro c hc
      rw [List.mem_append] at hc
      rcases hc with hc | hc
      · exact ih (u / 10) (by omega) c hc
      · simp only [List.mem_singleton] at hc; subst hc; rw [dig_toNat _ (by omega)]; omega
theorem ext_list (s : ByteArray) (a b : Nat) : (s.extract a b).data.toList = (s.data.toList.drop a).take (b - a) := by
  simp [ByteArray.data_extract, Array.toList_extract, List.extract_eq_take_drop]
theorem size_list (l : List UInt8) : (⟨l.toArray⟩ : ByteArray).size = l.length := by
  show l.toArray.size = _
  simp
theorem list_bytes (s : ByteArray) (l : List UInt8) (h : s.data.toList = l) : s = ⟨l.toArray⟩ := by
  apply ByteArray.ext; apply Array.ext'; rw [List.toList_toArray]; exact h
theorem size_len (s : ByteArray) : s.size = s.data.toList.length := by
  show s.data.size = _
  simp
theorem dec_plain (u : Nat) : ∀ x ∈ Lib.decDigits u, x ≠ 46 ∧ x ≠ 47 := fun x hx => by
  have := decD_range u x hx
  refine ⟨?_, ?_⟩ <;> (intro h; subst h; simp at this)
/-- puts bytes ahead of the first part -/
def glueL (x : List UInt8) : List (List UInt8) → List (List UInt8)
  | [] => [x]
  | h :: t => (x ++ h) :: t
def partsL (c : UInt8) : List UInt8 → List (List UInt8)
  | [] => [[]]
  | b :: l => if b = c then [] :: partsL c l else glueL [b] (partsL c l)
theorem partsL_ne (c : UInt8) (l : List UInt8) : partsL c l ≠ [] := by
  cases l with
  | nil => simp [partsL]
  | cons b l => simp only [partsL]; split <;> (cases partsL c l <;> simp [glueL])
theorem glueL_nil (c : UInt8) (l : List UInt8) : glueL [] (partsL c l) = partsL c l := by
  cases h : partsL c l with
  | nil => exact absurd h (partsL_ne c l)
  | cons a t => simp [glueL]
theorem glueL_glue (x y : List UInt8) (t : List (List UInt8)) : glueL x (glueL y t) = glueL (x ++ y) t := by
  cases t <;> simp [glueL]
theorem partsL_len (c : UInt8) (l : List UInt8) : (partsL c l).length ≤ l.length + 1 := by
  induction l with
  | nil => simp [partsL]
  | cons b l ih =>
    simp only [partsL]
    split
    · simp; omega
    · cases h : partsL c l with
      | nil => simp [glueL]
      | cons a t => rw [h] at ih; simp [glueL] at *; omega
theorem partsL_plain (c : UInt8) (x : List UInt8) (h : ∀ b ∈ x, b ≠ c) : partsL c x = [x] := by
  induction x with
  | nil => rfl
  | cons b x ih => rw [partsL, if_neg (h b (by simp)), ih fun d hd => h d (by simp [hd])]; rfl
theorem partsL_app (c : UInt8) (x y : List UInt8) (h : ∀ b ∈ x, b ≠ c) : partsL c (x ++ c :: y) = x :: partsL c y := by
  induction x with
  | nil => simp [partsL]
  | cons b x ih => rw [List.cons_append, partsL, if_neg (h b (by simp)), ih fun d hd => h d (by simp [hd])]; rfl
theorem partsL_one (c : UInt8) (l x : List UInt8) (h : partsL c l = [x]) : l = x ∧ ∀ b ∈ x, b ≠ c := by
  induction l generalizing x with
  | nil => simp [partsL] at h; subst h; simp
  | cons b l ih =>
    rw [partsL] at h
    split at h
    · have := partsL_ne c l; simp at h; exact absurd h.2 this
    · rename_i hb
      cases hp : partsL c l with
      | nil => exact absurd hp (partsL_ne c l)
      | cons a t =>
        rw [hp] at h
        simp only [glueL, List.cons.injEq] at h
        obtain ⟨rfl, rfl⟩ := h
        obtain ⟨rfl, h2⟩ := ih a hp
        refine ⟨rfl, fun d hd => ?_⟩
        simp at hd
        rcases hd with rfl | hd
        · exact hb
        · exact h2 d hd
theorem partsL_more (c : UInt8) (l x y : List UInt8) (t : List (List UInt8)) (h : partsL c l = x :: y :: t) : ∃ l', l = x ++ c :: l' ∧ partsL c l' = y :: t ∧ ∀ b ∈ x, b ≠ c := by
  induction l generalizing x with
  | nil => simp [partsL] at h
  | cons b l ih =>
    rw [partsL] at h
    split at h
    · rename_i hb
      simp at h
      obtain ⟨rfl, h⟩ := h
      exact ⟨l, by rw [hb]; rfl, h, by simp⟩
    · rename_i hb
      cases hp : partsL c l with
      | nil => exact absurd hp (partsL_ne c l)
      | cons a t' =>
        rw [hp] at h
        simp only [glueL, List.cons.injEq] at h
        obtain ⟨rfl, rfl⟩ := h
        obtain ⟨l', rfl, h1, h2⟩ := ih a hp
        refine ⟨l', rfl, h1, fun d hd => ?_⟩
        simp at hd
        rcases hd with rfl | hd
        · exact hb
        · exact h2 d hd
/-- the number of decimal digits, if it is at most 'most' -/
def rdGo (most : Int) : List UInt8 → Int → Option Int
  | [], n => some n
  | c :: l, n => if c.toNat < 48 ∨ 57 < c.toNat ∨ most < 10 * n + ((c.toNat : Int) - 48) then none else rdGo most l (10 * n + ((c.toNat : Int) - 48))
def readB (l : List UInt8) (most : Int) : Option Int := if l = [] ∨ 1 < l.length ∧ (l.getD 0 0).toNat = 48 then none else rdGo most l 0
theorem rdGo_app (most : Int) (l1 l2 : List UInt8) (n : Int) : rdGo most (l1 ++ l2) n = (rdGo most l1 n).bind (rdGo most l2) := by
  induction l1 generalizing n with
  | nil => simp [rdGo]
  | cons c l ih =>
    simp only [List.cons_append, rdGo]
    split
    · rfl
    · exact ih _
theorem rdGo_bd (most : Int) : ∀ (l : List UInt8) (n m : Int), rdGo most l n = some m → 0 ≤ n → n ≤ most → 0 ≤ m ∧ m ≤ most
  | [], n, m, h, h0, h1 => by simp only [rdGo, Option.some.injEq] at h; omega
  | c :: l, n, m, h, h0, h1 => by
    simp only [rdGo] at h
    split at h
    · cases h
    · exact rdGo_bd most l _ m h (by omega) (by omega)
theorem readB_bd {l : List UInt8} {most m : Int} (hm : 0 ≤ most) (h : readB l most = some m) : 0 ≤ m ∧ m ≤ most := by
  unfold readB at h
  split at h
  · cases h
  · exact rdGo_bd most l 0 m h (Int.le_refl _) hm
theorem rdGo_dec (most : Int) (u : Nat) (hu : (u : Int) ≤ most) : rdGo most (Lib.decDigits u) 0 = some (u : Int) := by
  induction u using Nat.strongRecOn with
  | _ u ih =>
    by_cases h : u < 10
    · rw [decD_small u h]
      simp only [rdGo, dig_toNat u h]
      rw [if_neg (by omega)]
      congr 1; omega
    · rw [Lib.decDigits, dif_neg h, rdGo_app, ih (u / 10) (by omega) (by omega), Option.bind_some]
      simp only [rdGo, dig_toNat (u % 10) (by omega)]
      rw [if_neg (by omega)]
      congr 1; omega
theorem decD_lead (u : Nat) (h : 10 ≤ u) : ((Lib.decDigits u).getD 0 0).toNat ≠ 48 := by
  induction u using Nat.strongRecOn with
  | _ u ih =>
    rw [Lib.decDigits, dif_neg (by omega)]
    have hd : ((Lib.decDigits (u / 10) ++ [UInt8.ofNat (48 + u % 10)]).getD 0 0) = (Lib.decDigits (u / 10)).getD 0 0 := by
      cases hc : Lib.decDigits (u / 10) with
      | nil => exact absurd hc (decD_ne _)
      | cons a t => rfl
    rw [hd]
    by_cases h1 : u / 10 < 10
    · rw [decD_small _ h1, List.getD_cons_zero, dig_toNat _ h1]; omega
    · exact ih (u / 10) (by omega) (by omega)
theorem readB_dec (most : Int) (u : Nat) (hu : (u : Int) ≤ most) : readB (Lib.decDigits u) most = some (u : Int) := by
  unfold readB
  rw [if_neg, rdGo_dec most u hu]
  intro h
  rcases h with h | ⟨h1, h2⟩
  · exact decD_ne u h
  · by_cases h3 : u < 10
    · rw [decD_small u h3] at h1; simp at h1
    · exact decD_lead u (by omega) h2
theorem rdGo_only (most : Int) (l1 : List UInt8) : ∀ (l2 : List UInt8) (n : Nat) (m : Int), rdGo most l2 n = some m → l1 = Lib.decDigits n → (n = 0 → l2 = []) → l1 ++ l2 = Lib.decDigits m.toNat
  | [], n, m, h, h1, _ => by
    simp only [rdGo, Option.some.injEq] at h
    subst h
    simpa using h1
  | c :: l2, n, m, h, h1, h2 => by
    have hn : 1 ≤ n := by rcases Nat.eq_zero_or_pos n with h0 | h0; · exact absurd (h2 h0) (by simp)
                          · exact h0
    simp only [rdGo] at h
    split at h
    · cases h
    · rename_i g
      obtain ⟨x, hx⟩ : ∃ x, c.toNat = 48 + x := ⟨c.toNat - 48, by omega⟩
      have hc := byte_of c x hx
      rw [hx] at h
      rw [show (10 * (n : Int) + (((48 + x : Nat) : Int) - 48)) = ((10 * n + x : Nat) : Int) by omega] at h
      have := rdGo_only most (l1 ++ [c]) l2 (10 * n + x) m h (by rw [decD_big n x hn (by omega), hc, h1]) (by omega)
      simpa using this
theorem readB_only (l : List UInt8) (most m : Int) (h : readB l most = some m) : Lib.decDigits m.toNat = l := by
  unfold readB at h
  split at h
  · cases h
  · rename_i g
    match l, g, h with
    | [], g, _ => simp at g
    | c :: l, g, h =>
      simp only [rdGo] at h
      split at h
      · cases h
      · rename_i g1
        obtain ⟨x, hx⟩ : ∃ x, c.toNat = 48 + x := ⟨c.toNat - 48, by omega⟩
        have hc := byte_of c x hx
        rw [hx] at h
        rw [show (10 * (0 : Int) + (((48 + x : Nat) : Int) - 48)) = ((x : Nat) : Int) by omega] at h
        have := rdGo_only most [c] l x m h (by rw [decD_small x (by omega), hc]) (fun h0 => by
          subst h0
          cases l with
          | nil => rfl
          | cons d l => exact absurd (.inr ⟨by simp, by simpa using hx⟩) g)
        simpa using this.symm
theorem drop_cons (s : ByteArray) (k : Nat) (h : k < s.size) : s.data.toList.drop k = s[k] :: s.data.toList.drop (k + 1) := by
  rw [List.drop_eq_getElem_cons (by simpa using h)]; rfl
end Go.Proofs.YtekhggaafeonjaaDoor
