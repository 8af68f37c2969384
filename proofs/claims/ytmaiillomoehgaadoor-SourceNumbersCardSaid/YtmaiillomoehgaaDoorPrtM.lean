/- Plain laws of package source: ranges of ports. -/
import Derived.Test.YtmaiillomoehgaaDoorSrcM
import Derived.Test.YtmaiillomoehgaaDoorStr
namespace Go.Proofs.YtmaiillomoehgaaDoor
/-- the range of ports that a word denotes -/
def portsL (l : List UInt8) : Option (Int × Int) :=
  match partsL 45 l with
  | [x] => (numB x 0 65535).bind fun a => some (a, a)
  | [x, y] => (numB x 0 65535).bind fun a => (numB y a 65535).bind fun b => some (a, b)
  | _ => none
theorem portsL_bd {l : List UInt8} {a b : Int} (h : portsL l = some (a, b)) : 0 ≤ a ∧ a ≤ b ∧ b ≤ 65535 := by
  unfold portsL at h
  split at h
  · simp only [Option.bind_eq_some_iff, Option.some.injEq, Prod.mk.injEq] at h
    obtain ⟨x, h1, rfl, rfl⟩ := h
    have := numB_bd h1; omega
  · simp only [Option.bind_eq_some_iff, Option.some.injEq, Prod.mk.injEq] at h
    obtain ⟨x, h1, y, h2, rfl, rfl⟩ := h
    have := numB_bd h1; have := numB_bd h2; omega
  · cases h
theorem numB_dig {l : List UInt8} {least most : Int} {n : Int} (h : numB l least most = some n) : allDig l = true := by
  unfold numB at h
  split at h
  · cases h
  · rw [Option.bind_eq_some_iff] at h
    obtain ⟨m, h1, _⟩ := h
    unfold readB at h1
    split at h1
    · cases h1
    · exact rdGo_dig _ _ _ _ h1
theorem numB_dash (l : List UInt8) (least most : Int) (h : (45 : UInt8) ∈ l) : numB l least most = none := by
  cases hn : numB l least most with
  | none => rfl
  | some n =>
    have := numB_dig hn
    rw [allDig, List.all_eq_true] at this
    have h1 := this 45 h
    simp at h1
/-- as source.Ports reckons -/
def portsC (l r : List UInt8) (f : Bool) : Option (Int × Int) := (numB l 0 65535).bind fun a => (numB (if f then r else l) a 65535).bind fun b => some (a, b)
theorem numB_self {l : List UInt8} {a : Int} (h : numB l 0 65535 = some a) : numB l a 65535 = some a := by
  unfold numB at *
  rw [if_neg (by decide)] at *
  rw [Option.bind_eq_some_iff] at h
  obtain ⟨m, h1, h2⟩ := h
  split at h2
  · cases h2
  · simp only [Option.some.injEq] at h2
    subst h2
    rw [h1, Option.bind_some, if_neg (by omega)]
theorem cutB_is (c : UInt8) (s : ByteArray) : ((cutB c s).2.2 = true ∧ s.data.toList = (cutB c s).1.data.toList ++ c :: (cutB c s).2.1.data.toList ∧ ∀ x ∈ (cutB c s).1.data.toList, x ≠ c) ∨ ((cutB c s) = (s, ⟨#[]⟩, false) ∧ ∀ x ∈ s.data.toList, x ≠ c) := by
  unfold cutB
  by_cases h : 0 ≤ Lib.indexByte s.data.toList c
  · rw [if_pos h]
    refine .inl ⟨rfl, ?_⟩
    obtain ⟨o, ho⟩ := Int.eq_ofNat_of_zero_le h
    have hs := Lib.indexByte_some ho
    rw [ho, Int.toNat_natCast]
    have hlt : o < s.data.toList.length := by
      rcases Nat.lt_or_ge o s.data.toList.length with h1 | h1
      · exact h1
      · rw [List.getElem?_eq_none h1] at hs; cases hs.1
    have he : s.data.toList = s.data.toList.take o ++ c :: s.data.toList.drop (o + 1) := by
      have h1 := hs.1
      rw [List.getElem?_eq_getElem hlt] at h1
      have := List.take_append_drop o s.data.toList
      rw [List.drop_eq_getElem_cons hlt, Option.some.inj h1] at this
      exact this.symm
    dsimp only
    rw [ext_list, ext_list, size_len, List.drop_zero, Nat.sub_zero, List.take_of_length_le (l := s.data.toList.drop (o + 1)) (by simp)]
    refine ⟨he, fun x hx hc => ?_⟩
    obtain ⟨k, hk, hxk⟩ := List.mem_iff_getElem.1 hx
    rw [List.length_take] at hk
    refine hs.2 k (by omega) ?_
    rw [List.getElem?_eq_getElem (by omega), ← hc, ← hxk, List.getElem_take]
  · rw [if_neg h]
    refine .inr ⟨rfl, fun x hx hc => ?_⟩
    have hge := Lib.indexByte_ge s.data.toList c
    obtain ⟨k, hk, hxk⟩ := List.mem_iff_getElem.1 hx
    exact Lib.indexByte_none (show Lib.indexByte s.data.toList c = -1 by omega) k (by rw [List.getElem?_eq_getElem hk, hxk, hc])
theorem ports_cut (s : ByteArray) : portsC (cutB 45 s).1.data.toList (cutB 45 s).2.1.data.toList (cutB 45 s).2.2 = portsL s.data.toList := by
  rcases cutB_is 45 s with ⟨hf, hs, hx⟩ | ⟨he, hx⟩
  · rw [hf, hs]
    generalize (cutB 45 s).1.data.toList = l at *
    generalize (cutB 45 s).2.1.data.toList = r at *
    unfold portsC portsL
    rw [partsL_app 45 l r hx]
    cases hp : partsL 45 r with
    | nil => exact absurd hp (partsL_ne _ _)
    | cons y t =>
      cases t with
      | nil =>
        obtain ⟨rfl, _⟩ := partsL_one _ _ _ hp
        rfl
      | cons z t =>
        obtain ⟨l', rfl, _, _⟩ := partsL_more _ _ _ _ _ hp
        dsimp only
        cases numB l 0 65535 with
        | none => rfl
        | some a => rw [Option.bind_some, if_pos rfl, numB_dash _ _ _ (by simp)]; rfl
  · rw [he]
    unfold portsC portsL
    rw [partsL_plain 45 _ hx]
    dsimp only
    cases h : numB s.data.toList 0 65535 with
    | none => rfl
    | some a => rw [Option.bind_some, if_neg Bool.false_ne_true, numB_self h]; rfl
/-- as the reference reckons -/
theorem ports_ref (l : List UInt8) : portsL l = (if 2 < (partsL 45 l).length then none else (numB ((partsL 45 l).getD 0 []) 0 65535).bind fun a => (numB ((partsL 45 l).getD ((partsL 45 l).length - 1) []) 0 65535).bind fun b => if b < a then none else some (a, b)) := by
  have key : ∀ y a, 0 ≤ a → numB y a 65535 = (numB y 0 65535).bind fun b => if b < a then none else some b := fun y a ha => by
    unfold numB
    rw [if_neg (by decide), if_neg (by decide)]
    cases hy : readB y 65535 with
    | none => rfl
    | some b =>
      have := readB_bd (by decide) hy
      rw [Option.bind_some, Option.bind_some, if_neg (show ¬ b < 0 by omega), Option.bind_some]
  unfold portsL
  split
  · rename_i x hp
    rw [hp]
    simp only [List.length_singleton, List.getD_cons_zero, Nat.sub_self]
    rw [if_neg (by decide)]
    cases h : numB x 0 65535 with
    | none => rfl
    | some a => rw [Option.bind_some, Option.bind_some, Option.bind_some, if_neg (by omega)]
  · rename_i x y hp
    rw [hp]
    simp only [List.length_cons, List.length_nil, List.getD_cons_zero, List.getD_cons_succ]
    rw [if_neg (by decide)]
    cases h : numB x 0 65535 with
    | none => rfl
    | some a =>
      rw [Option.bind_some, Option.bind_some, key y a (numB_bd h).2.1]
      show _ = (numB y 0 65535).bind _
      cases numB y 0 65535 with
      | none => rfl
      | some b =>
        simp only [Option.bind_some]
        by_cases hb : b < a
        · rw [if_pos hb, if_pos hb]; rfl
        · rw [if_neg hb, if_neg hb]; rfl
  · rename_i h1 h2
    rw [if_pos]
    cases hp : partsL 45 l with
    | nil => exact absurd hp (partsL_ne _ _)
    | cons x t =>
      cases t with
      | nil => exact absurd hp (h1 x)
      | cons y t =>
        cases t with
        | nil => exact absurd hp (h2 x y)
        | cons z t => simp
theorem cutB_sz (c : UInt8) (s : ByteArray) (hs : s.size ≤ maxLen) : (cutB c s).1.size ≤ maxLen ∧ (cutB c s).2.1.size ≤ maxLen := by
  unfold cutB; split
  · refine ⟨?_, ?_⟩ <;> (simp only [ByteArray.size_extract]; omega)
  · exact ⟨hs, by simp [ByteArray.size]⟩
end Go.Proofs.YtmaiillomoehgaaDoor
