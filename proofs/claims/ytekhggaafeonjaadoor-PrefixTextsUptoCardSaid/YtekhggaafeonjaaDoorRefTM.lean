/- Plain laws of the reference's texts: parts between separators, decimal numbers with a greatest value, addresses and prefixes. -/
import Derived.Test.YtekhggaafeonjaaDoorRTM
namespace Go.Proofs.YtekhggaafeonjaaDoor
/-- what the reference reads as an address -/
def raRes (l : List UInt8) : Int × Bool :=
  match partsL 46 l with
  | [p0, p1, p2, p3] =>
    match readB p0 255, readB p1 255, readB p2 255, readB p3 255 with
    | some a, some b, some c, some d => (((a * 256 + b) * 256 + c) * 256 + d, true)
    | _, _, _, _ => (0, false)
  | _ => (0, false)
theorem parts_fmt (a : Int) : partsL 46 (fmtTo a 4) = [Lib.decDigits (octs a 0).toNat, Lib.decDigits (octs a 1).toNat, Lib.decDigits (octs a 2).toNat, Lib.decDigits (octs a 3).toNat] := by
  have hp : ∀ u, ∀ x ∈ Lib.decDigits u, x ≠ 46 := fun u x hx => (dec_plain u x hx).1
  rw [fmt_eq, partsL_app 46 _ _ (hp _), partsL_app 46 _ _ (hp _), partsL_app 46 _ _ (hp _), partsL_plain 46 _ (hp _)]
theorem raRes_fmt (a : Int) (h0 : 0 ≤ a) (h1 : a ≤ 4294967295) : raRes (fmtTo a 4) = (a, true) := by
  have b0 := octs_bd a 0; have b1 := octs_bd a 1; have b2 := octs_bd a 2; have b3 := octs_bd a 3
  have hsum := octs_sum a h0 h1
  unfold raRes
  rw [parts_fmt]
  dsimp only
  rw [readB_dec 255 _ (by omega), readB_dec 255 _ (by omega), readB_dec 255 _ (by omega), readB_dec 255 _ (by omega)]
  dsimp only
  refine Prod.ext ?_ rfl
  dsimp only
  omega
theorem raRes_only (l : List UInt8) (a : Int) (h : raRes l = (a, true)) : fmtTo a 4 = l ∧ 0 ≤ a ∧ a ≤ 4294967295 := by
  unfold raRes at h
  split at h
  · rename_i p0 p1 p2 p3 hp
    split at h
    · rename_i x0 x1 x2 x3 e0 e1 e2 e3
      simp only [Prod.mk.injEq, and_true] at h
      have b0 := readB_bd (by decide) e0; have b1 := readB_bd (by decide) e1; have b2 := readB_bd (by decide) e2; have b3 := readB_bd (by decide) e3
      have t0 := readB_only _ _ _ e0; have t1 := readB_only _ _ _ e1; have t2 := readB_only _ _ _ e2; have t3 := readB_only _ _ _ e3
      obtain ⟨o0, o1, o2, o3⟩ := octs_val x0 x1 x2 x3 b0 b1 b2 b3 a (by omega)
      obtain ⟨l1, rfl, h1, _⟩ := partsL_more _ _ _ _ _ hp
      obtain ⟨l2, rfl, h2, _⟩ := partsL_more _ _ _ _ _ h1
      obtain ⟨l3, rfl, h3, _⟩ := partsL_more _ _ _ _ _ h2
      obtain ⟨rfl, _⟩ := partsL_one _ _ _ h3
      refine ⟨?_, by omega, by omega⟩
      rw [fmt_eq, o0, o1, o2, o3, t0, t1, t2, t3]
    · simp at h
  · simp at h
theorem raRes_false (l : List UInt8) (h : (raRes l).2 = false) : raRes l = (0, false) := by
  unfold raRes at *
  split at h
  · split at h
    · cases h
    · rfl
  · rfl
theorem paRes_false (l : List UInt8) (h : (paRes l).2 = false) : paRes l = (0, false) := by
  unfold paRes at *
  cases hg : paGo l { n := 0, d := 0, p := [0, 0, 0, 0] } with
  | none => rfl
  | some st =>
    rw [hg] at h
    simp only [paEnd] at h ⊢
    split at h
    · rw [if_pos (by assumption)]
    · simp at h
/-- program and reference read the same addresses -/
theorem addr_same (l : List UInt8) : paRes l = raRes l := by
  cases h : (paRes l).2 with
  | true =>
    obtain ⟨he, h0, h1⟩ := paRes_only l (paRes l).1 (Prod.ext rfl h)
    rw [← he, raRes_fmt _ h0 h1, paRes_fmt _ h0 h1]
  | false =>
    cases h2 : (raRes l).2 with
    | false => rw [raRes_false l h2, paRes_false l h]
    | true =>
      obtain ⟨he, h0, h1⟩ := raRes_only l (raRes l).1 (Prod.ext rfl h2)
      rw [← he, paRes_fmt _ h0 h1] at h
      cases h
/-- what the reference reads as a prefix -/
def rpRes (l : List UInt8) : Int × Int × Bool :=
  match partsL 47 l with
  | [p0, p1] =>
    match raRes p0, readB p1 32 with
    | (a, true), some n => if valB a n = true then (a, n, true) else (0, 0, false)
    | _, _ => (0, 0, false)
  | _ => (0, 0, false)
theorem rpRes_fmt (a n : Int) (h0 : 0 ≤ a) (h1 : a ≤ 4294967295) (hv : valB a n = true) : rpRes (fmtP a n) = (a, n, true) := by
  have hb := (valB_iff a n).1 hv
  obtain ⟨m, rfl⟩ := Int.eq_ofNat_of_zero_le hb.1
  unfold rpRes fmtP
  rw [show fmtTo a 4 ++ [47] ++ Lib.decDigits (m : Int).toNat = fmtTo a 4 ++ 47 :: Lib.decDigits m by simp, partsL_app 47 _ _ (fmt_plain a), partsL_plain 47 _ (fun x hx => (dec_plain m x hx).2)]
  dsimp only
  rw [raRes_fmt a h0 h1, readB_dec 32 m hb.2.1]
  dsimp only
  rw [if_pos hv]
theorem rpRes_only (l : List UInt8) (a n : Int) (h : rpRes l = (a, n, true)) : l = fmtP a n ∧ valB a n = true ∧ 0 ≤ a ∧ a ≤ 4294967295 := by
  unfold rpRes at h
  split at h
  · rename_i p0 p1 hp
    split at h
    · rename_i x m ha hr
      split at h
      · rename_i hv
        simp only [Prod.mk.injEq, and_true] at h
        obtain ⟨rfl, rfl⟩ := h
        obtain ⟨he, hb⟩ := raRes_only _ _ ha
        have ht := readB_only _ _ _ hr
        obtain ⟨l', rfl, h1, _⟩ := partsL_more _ _ _ _ _ hp
        obtain ⟨rfl, _⟩ := partsL_one _ _ _ h1
        refine ⟨?_, hv, hb⟩
        unfold fmtP
        rw [he, ht]
        simp
      · simp at h
    · simp at h
  · simp at h
theorem rpRes_false (l : List UInt8) (h : (rpRes l).2.2 = false) : rpRes l = (0, 0, false) := by
  unfold rpRes at *
  split at h
  · split at h
    · split at h
      · cases h
      · rename_i hv; rw [if_neg hv]
    · rfl
  · rfl
/-- program and reference read the same prefixes -/
theorem prefix_same (s : ByteArray) : parseP s = rpRes s.data.toList := by
  cases h : (parseP s).2.2 with
  | true =>
    obtain ⟨he, hv, h0, h1⟩ := parseP_only s (parseP s).1 (parseP s).2.1 (Prod.ext rfl (Prod.ext rfl h))
    generalize (parseP s).1 = a at *
    generalize (parseP s).2.1 = n at *
    subst he
    rw [parseP_fmt a n h0 h1 hv, rpRes_fmt a n h0 h1 hv]
  | false =>
    cases h2 : (rpRes s.data.toList).2.2 with
    | false => rw [rpRes_false _ h2, parseP_false s h]
    | true =>
      obtain ⟨he, hv, h0, h1⟩ := rpRes_only s.data.toList _ _ (Prod.ext rfl (Prod.ext rfl h2))
      have hs := list_bytes s _ he
      have e := congrArg parseP hs
      rw [parseP_fmt _ _ h0 h1 hv] at e
      rw [e] at h
      cases h
end Go.Proofs.YtekhggaafeonjaaDoor
