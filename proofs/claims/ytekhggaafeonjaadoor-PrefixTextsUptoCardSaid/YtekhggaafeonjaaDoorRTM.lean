/- Plain laws: addresses and prefixes are read back from their texts, and no other text is read as one. -/
import Derived.Test.YtekhggaafeonjaaDoorPre5
import Derived.Test.YtekhggaafeonjaaDoorTxtM
namespace Go.Proofs.YtekhggaafeonjaaDoor
theorem paGo_app (l1 l2 : List UInt8) (st : PA) : paGo (l1 ++ l2) st = (paGo l1 st).bind (paGo l2) := by
  induction l1 generalizing st with
  | nil => simp [paGo]
  | cons c l ih => simp only [List.cons_append, paGo]; cases paStep c.toNat st <;> simp [ih]
theorem paGo_one (c : UInt8) (st : PA) : paGo [c] st = paStep c.toNat st := by
  simp only [paGo]; cases paStep c.toNat st <;> rfl
theorem paStep_digit (k d x : Nat) (p : List Int) (hx : x < 10) (hz : 0 < d → p.getD k 0 ≠ 0) (hb : 10 * p.getD k 0 + x ≤ 255) : paStep (48 + x) ⟨k, d, p⟩ = some ⟨k, d + 1, p.set k (10 * p.getD k 0 + x)⟩ := by
  unfold paStep
  dsimp only
  rw [if_neg (by omega), if_neg (by omega), if_neg (by intro h; exact hz h.1 h.2), if_neg (by omega)]
  rw [show (((48 + x : Nat) : Int) - 48) = (x : Int) by omega]
theorem getD_set_same (p : List Int) (k : Nat) (hk : k < p.length) (v : Int) : (p.set k v).getD k 0 = v := by
  simp [List.getD_eq_getElem?_getD, List.getElem?_set, hk]
theorem getD_set_ne (p : List Int) (k j : Nat) (hj : j ≠ k) (v : Int) : (p.set k v).getD j 0 = p.getD j 0 := by
  simp [List.getD_eq_getElem?_getD, List.getElem?_set, Ne.symm hj]
theorem paGo_num (k : Nat) (p : List Int) (hk : k < p.length) (h0 : p.getD k 0 = 0) (u : Nat) (hu : u ≤ 255) :
    paGo (Lib.decDigits u) ⟨k, 0, p⟩ = some ⟨k, (Lib.decDigits u).length, p.set k u⟩ := by
  induction u using Nat.strongRecOn with
  | _ u ih =>
    by_cases h : u < 10
    · rw [decD_small u h, paGo_one, dig_toNat u h, paStep_digit k 0 u p h (by omega) (by rw [h0]; omega), h0]
      simp
    · have e : u = 10 * (u / 10) + u % 10 := by omega
      have hlen : 0 < (Lib.decDigits (u / 10)).length := List.length_pos_iff.2 (decD_ne _)
      have hs := getD_set_same p k hk ((u / 10 : Nat) : Int)
      have hd : Lib.decDigits u = Lib.decDigits (u / 10) ++ [UInt8.ofNat (48 + u % 10)] := by rw [Lib.decDigits, dif_neg h]
      rw [hd, paGo_app, ih (u / 10) (by omega) (by omega), Option.bind_some, paGo_one, dig_toNat _ (by omega),
        paStep_digit k _ (u % 10) _ (by omega) (by intro _; rw [hs]; omega) (by rw [hs]; omega), hs, List.set_set, List.length_append, List.length_singleton]
      congr 3
      omega
theorem paStep_dot (k d : Nat) (p : List Int) (hd : d ≠ 0) (hk : k ≠ 3) : paStep 46 ⟨k, d, p⟩ = some ⟨k + 1, 0, p⟩ := by
  unfold paStep
  rw [if_pos rfl, if_neg (by simp; omega)]
theorem paGo_part (k : Nat) (p : List Int) (hk : k < p.length) (h0 : p.getD k 0 = 0) (u : Nat) (hu : u ≤ 255) (hk3 : k ≠ 3) (l : List UInt8) :
    paGo (Lib.decDigits u ++ (46 :: l)) ⟨k, 0, p⟩ = paGo l ⟨k + 1, 0, p.set k u⟩ := by
  have hlen : (Lib.decDigits u).length ≠ 0 := by simpa using decD_ne u
  rw [paGo_app, paGo_num k p hk h0 u hu, Option.bind_some, paGo, show ((46 : UInt8).toNat) = 46 by rfl, paStep_dot k _ _ hlen hk3, Option.bind_some]
theorem fmt_eq (a : Int) : fmtTo a 4 = Lib.decDigits (octs a 0).toNat ++ 46 :: (Lib.decDigits (octs a 1).toNat ++ 46 :: (Lib.decDigits (octs a 2).toNat ++ 46 :: Lib.decDigits (octs a 3).toNat)) := by
  simp [fmtTo]
theorem octs_sum (a : Int) (h0 : 0 ≤ a) (h1 : a ≤ 4294967295) : octs a 0 * 16777216 + octs a 1 * 65536 + octs a 2 * 256 + octs a 3 = a := by
  simp only [octs, Nat.mul_zero, Nat.sub_zero, Nat.mul_one, Nat.reduceMul, Nat.reduceSub, Int.reducePow]
  omega
/-- an address is read back -/
theorem paRes_fmt (a : Int) (h0 : 0 ≤ a) (h1 : a ≤ 4294967295) : paRes (fmtTo a 4) = (a, true) := by
  have b0 := octs_bd a 0; have b1 := octs_bd a 1; have b2 := octs_bd a 2; have b3 := octs_bd a 3
  have hl : (Lib.decDigits (octs a 3).toNat).length ≠ 0 := by simpa using decD_ne _
  have hsum := octs_sum a h0 h1
  have e0 : (((octs a 0).toNat : Nat) : Int) = octs a 0 := Int.toNat_of_nonneg b0.1
  have e1 : (((octs a 1).toNat : Nat) : Int) = octs a 1 := Int.toNat_of_nonneg b1.1
  have e2 : (((octs a 2).toNat : Nat) : Int) = octs a 2 := Int.toNat_of_nonneg b2.1
  have e3 : (((octs a 3).toNat : Nat) : Int) = octs a 3 := Int.toNat_of_nonneg b3.1
  unfold paRes
  rw [fmt_eq, paGo_part 0 _ (by simp) (by simp) _ (by omega) (by omega), paGo_part 1 _ (by simp) (by simp) _ (by omega) (by omega), paGo_part 2 _ (by simp) (by simp) _ (by omega) (by omega), paGo_num 3 _ (by simp) (by simp) _ (by omega)]
  simp only [paEnd]
  rw [if_neg (by simp; exact decD_ne _)]
  simp only [paVal, List.set_cons_zero, List.set_cons_succ, List.getD_cons_zero, List.getD_cons_succ, e0, e1, e2, e3, hsum]
/-- what has been read so far -/
def partsTo (p : List Int) : Nat → List UInt8
  | 0 => []
  | k + 1 => partsTo p k ++ Lib.decDigits (p.getD k 0).toNat ++ [46]
theorem partsTo_set (p : List Int) (n : Nat) (v : Int) : ∀ k, k ≤ n → partsTo (p.set n v) k = partsTo p k
  | 0, _ => rfl
  | k + 1, h => by rw [partsTo, partsTo, partsTo_set p n v k (by omega), getD_set_ne p n k (by omega)]
structure PAinv (l : List UInt8) (st : PA) : Prop where
  n3 : st.n ≤ 3
  len : st.p.length = 4
  bd : ∀ j, 0 ≤ st.p.getD j 0 ∧ st.p.getD j 0 ≤ 255
  txt : l = partsTo st.p st.n ++ (if st.d = 0 then [] else Lib.decDigits (st.p.getD st.n 0).toNat)
  fresh : st.d = 0 → st.p.getD st.n 0 = 0
  later : ∀ j, st.n < j → st.p.getD j 0 = 0
theorem PAinv.step {l : List UInt8} {st st' : PA} (h : PAinv l st) (c : UInt8) (hs : paStep c.toNat st = some st') : PAinv (l ++ [c]) st' := by
  obtain ⟨n, d, p⟩ := st
  obtain ⟨n3, len, bd, txt, fresh, later⟩ := h
  dsimp only at *
  unfold paStep at hs
  dsimp only at hs
  by_cases g1 : c.toNat = 46
  · rw [if_pos g1] at hs
    by_cases g2 : d = 0 ∨ n = 3
    · rw [if_pos g2] at hs; cases hs
    · rw [if_neg g2] at hs
      cases hs
      obtain rfl : c = 46 := UInt8.toNat_inj.1 g1
      refine ⟨by dsimp only; omega, len, bd, ?_, fun _ => later _ (by dsimp only; omega), fun j hj => later j (by dsimp only at hj; omega)⟩
      dsimp only
      rw [txt, if_neg (by omega), if_pos rfl, partsTo, List.append_nil]
  · rw [if_neg g1] at hs
    by_cases g2 : c.toNat < 48 ∨ 57 < c.toNat
    · rw [if_pos g2] at hs; cases hs
    · rw [if_neg g2] at hs
      by_cases g3 : 0 < d ∧ p.getD n 0 = 0
      · rw [if_pos g3] at hs; cases hs
      · rw [if_neg g3] at hs
        by_cases g4 : 255 < 10 * p.getD n 0 + ((c.toNat : Int) - 48)
        · rw [if_pos g4] at hs; cases hs
        · rw [if_neg g4] at hs
          cases hs
          have hb := bd n
          obtain ⟨x, hx⟩ : ∃ x, c.toNat = 48 + x := ⟨c.toNat - 48, by omega⟩
          rw [hx, show (((48 + x : Nat) : Int) - 48) = (x : Int) by omega] at g4 ⊢
          have hc := byte_of c x hx
          refine ⟨n3, by simpa using len, fun j => ?_, ?_, fun h => by dsimp only at h; omega, fun j hj => ?_⟩
          · dsimp only
            by_cases hj : j = n
            · subst hj; rw [getD_set_same p j (by omega)]; omega
            · rw [getD_set_ne p n j hj]; exact bd j
          · dsimp only
            rw [getD_set_same p n (by omega), partsTo_set p n _ n (Nat.le_refl _), if_neg (by omega), txt, List.append_assoc]
            congr 1
            by_cases hd : d = 0
            · rw [if_pos hd, fresh hd, List.nil_append, show ((10 : Int) * 0 + (x : Int)).toNat = x by omega, decD_small x (by omega), hc]
            · rw [if_neg hd]
              have hne : p.getD n 0 ≠ 0 := fun h => g3 ⟨by omega, h⟩
              rw [show (10 * p.getD n 0 + (x : Int)).toNat = 10 * (p.getD n 0).toNat + x by omega, decD_big _ x (by omega) (by omega), hc]
          · dsimp only at hj ⊢
            rw [getD_set_ne p n j (by omega)]
            exact later j hj
theorem PAinv.go : ∀ {l2 l1 : List UInt8} {st st' : PA}, PAinv l1 st → paGo l2 st = some st' → PAinv (l1 ++ l2) st'
  | [], l1, st, st', h, hg => by simp only [paGo, Option.some.injEq] at hg; subst hg; simpa using h
  | c :: l2, l1, st, st', h, hg => by
    simp only [paGo, Option.bind_eq_some_iff] at hg
    obtain ⟨s1, h1, h2⟩ := hg
    have := PAinv.go (h.step c h1) h2
    simpa using this
theorem octs_val (p0 p1 p2 p3 : Int) (b0 : 0 ≤ p0 ∧ p0 ≤ 255) (b1 : 0 ≤ p1 ∧ p1 ≤ 255) (b2 : 0 ≤ p2 ∧ p2 ≤ 255) (b3 : 0 ≤ p3 ∧ p3 ≤ 255) (a : Int) (ha : a = p0 * 16777216 + p1 * 65536 + p2 * 256 + p3) :
    octs a 0 = p0 ∧ octs a 1 = p1 ∧ octs a 2 = p2 ∧ octs a 3 = p3 := by
  simp only [octs, Nat.mul_zero, Nat.sub_zero, Nat.mul_one, Nat.reduceMul, Nat.reduceSub, Int.reducePow]
  omega
/-- no other text is read as an address -/
theorem paRes_only (l : List UInt8) (a : Int) (h : paRes l = (a, true)) : fmtTo a 4 = l ∧ 0 ≤ a ∧ a ≤ 4294967295 := by
  have hbd := paRes_bd l
  rw [h] at hbd
  refine ⟨?_, hbd⟩
  unfold paRes at h
  cases hg : paGo l { n := 0, d := 0, p := [0, 0, 0, 0] } with
  | none => rw [hg] at h; simp [paEnd] at h
  | some st =>
    rw [hg] at h
    have hi : PAinv ([] ++ l) st := PAinv.go ⟨by simp, by simp, fun j => by rcases j with _ | _ | _ | _ | j <;> simp, by simp [partsTo], fun _ => by simp, fun j _ => by rcases j with _ | _ | _ | _ | j <;> simp⟩ hg
    simp only [paEnd] at h
    split at h
    · simp at h
    · rename_i hn
      have hn3 : st.n = 3 := by omega
      have hd : st.d ≠ 0 := by omega
      have ht := hi.txt
      rw [hn3, if_neg hd] at ht
      simp only [Prod.mk.injEq, and_true] at h
      obtain ⟨o0, o1, o2, o3⟩ := octs_val _ _ _ _ (hi.bd 0) (hi.bd 1) (hi.bd 2) (hi.bd 3) a (by rw [← h]; rfl)
      rw [fmt_eq, o0, o1, o2, o3]
      simpa [partsTo] using ht.symm
theorem indexByte_app (l1 : List UInt8) (c : UInt8) (l2 : List UInt8) (h : ∀ x ∈ l1, x ≠ c) : Lib.indexByte (l1 ++ c :: l2) c = l1.length := by
  induction l1 with
  | nil => simp [Lib.indexByte]
  | cons b l ih =>
    have hb : (b == c) = false := by simpa using h b (by simp)
    have hi := ih (fun x hx => h x (by simp [hx]))
    simp only [List.cons_append, Lib.indexByte, hb, hi]
    simp
theorem cutB_app (l1 : List UInt8) (c : UInt8) (l2 : List UInt8) (h : ∀ x ∈ l1, x ≠ c) : cutB c ⟨(l1 ++ c :: l2).toArray⟩ = (⟨l1.toArray⟩, ⟨l2.toArray⟩, true) := by
  have hi := indexByte_app l1 c l2 h
  unfold cutB
  rw [List.toList_toArray, hi, if_pos (by omega), Int.toNat_natCast]
  refine Prod.ext ?_ (Prod.ext ?_ rfl)
  · dsimp only
    refine list_bytes _ _ ?_
    rw [ext_list]
    simp
  · dsimp only
    refine list_bytes _ _ ?_
    rw [ext_list, size_list]
    rw [List.toList_toArray, ← List.drop_drop, List.drop_left, List.drop_succ_cons, List.drop_zero]
    exact List.take_of_length_le (by simp; omega)
theorem cutB_yes (c : UInt8) (s l r : ByteArray) (h : cutB c s = (l, r, true)) : s.data.toList = l.data.toList ++ c :: r.data.toList := by
  unfold cutB at h
  split at h
  · rename_i hi
    obtain ⟨o, ho⟩ := Int.eq_ofNat_of_zero_le hi
    have hs := (Lib.indexByte_some ho).1
    rw [ho, Int.toNat_natCast] at h
    simp only [Prod.mk.injEq, and_true] at h
    obtain ⟨rfl, rfl⟩ := h
    have hlt : o < s.data.toList.length := by
      rcases Nat.lt_or_ge o s.data.toList.length with h1 | h1
      · exact h1
      · rw [List.getElem?_eq_none h1] at hs; cases hs
    have he : s.data.toList = s.data.toList.take o ++ c :: s.data.toList.drop (o + 1) := by
      rw [List.getElem?_eq_getElem hlt] at hs
      have := List.take_append_drop o s.data.toList
      rw [List.drop_eq_getElem_cons hlt, Option.some.inj hs] at this
      exact this.symm
    rw [ext_list, ext_list, size_len, List.drop_zero, Nat.sub_zero, List.take_of_length_le (l := s.data.toList.drop (o + 1)) (by simp)]
    exact he
  · simp at h
theorem fmt_plain (a : Int) : ∀ x ∈ fmtTo a 4, x ≠ 47 := by
  have hd : ∀ u, ∀ x ∈ Lib.decDigits u, x ≠ 47 := fun u x hx => by
    have := decD_range u x hx
    intro h
    subst h
    simp at this
  rw [fmt_eq]
  intro x hx
  simp only [List.mem_append, List.mem_cons] at hx
  rcases hx with h | rfl | h | rfl | h | rfl | h
  · exact hd _ x h
  · decide
  · exact hd _ x h
  · decide
  · exact hd _ x h
  · decide
  · exact hd _ x h
theorem bits_read (n : Nat) (h : n ≤ 32) : bitsOk (Lib.decDigits n) = true ∧ dGo (Lib.decDigits n) 0 = some (n : Int) := by
  by_cases h1 : n < 10
  · rw [decD_small n h1]
    refine ⟨by simp [bitsOk], ?_⟩
    simp only [dGo, dig_toNat n h1]
    rw [if_neg (by omega)]
    congr 1; omega
  · rw [Lib.decDigits_two h1 (by omega)]
    have d1 := dig_toNat (n / 10) (by omega)
    have d2 := dig_toNat (n % 10) (by omega)
    refine ⟨?_, ?_⟩
    · simp only [bitsOk, List.length_cons, List.length_nil, List.getD_cons_zero, d1]
      simp; omega
    · simp only [dGo, d1, d2]
      rw [if_neg (by omega), if_neg (by omega)]
      congr 1; omega
theorem bits_only (R : List UInt8) (n : Int) (h : bitsOk R = true) (hg : dGo R 0 = some n) : 0 ≤ n ∧ Lib.decDigits n.toNat = R := by
  match R, h, hg with
  | [], h, _ => simp [bitsOk] at h
  | [c], _, hg =>
    simp only [dGo] at hg
    split at hg
    · cases hg
    · rename_i g
      obtain ⟨x, hx⟩ : ∃ x, c.toNat = 48 + x := ⟨c.toNat - 48, by omega⟩
      have hc := byte_of c x hx
      simp only [Option.some.injEq] at hg
      refine ⟨by omega, ?_⟩
      rw [show n.toNat = x by omega, decD_small x (by omega), hc]
  | [c, d], h, hg =>
    simp only [dGo] at hg
    split at hg
    · cases hg
    · split at hg
      · cases hg
      · rename_i g1 g2
        obtain ⟨x, hx⟩ : ∃ x, c.toNat = 48 + x := ⟨c.toNat - 48, by omega⟩
        obtain ⟨y, hy⟩ : ∃ y, d.toNat = 48 + y := ⟨d.toNat - 48, by omega⟩
        have hc := byte_of c x hx
        have hd := byte_of d y hy
        simp only [Option.some.injEq] at hg
        simp only [bitsOk, List.length_cons, List.length_nil, List.getD_cons_zero] at h
        simp at h
        refine ⟨by omega, ?_⟩
        rw [show n.toNat = 10 * x + y by omega, decD_big x y (by omega) (by omega), decD_small x (by omega), hc, hd]
        rfl
  | _ :: _ :: _ :: _, h, _ => simp [bitsOk] at h
/-- a valid prefix is read back -/
theorem parseP_fmt (a n : Int) (h0 : 0 ≤ a) (h1 : a ≤ 4294967295) (hv : valB a n = true) : parseP ⟨(fmtP a n).toArray⟩ = (a, n, true) := by
  have hb := (valB_iff a n).1 hv
  obtain ⟨m, rfl⟩ := Int.eq_ofNat_of_zero_le hb.1
  have hr := bits_read m (by omega)
  unfold parseP fmtP
  rw [show fmtTo a 4 ++ [47] ++ Lib.decDigits (m : Int).toNat = fmtTo a 4 ++ 47 :: Lib.decDigits m by simp, cutB_app _ _ _ (fmt_plain a)]
  dsimp only
  rw [paRes_fmt a h0 h1]
  unfold parsePost
  rw [if_pos ⟨rfl, rfl, hr.1⟩, hr.2]
  dsimp only
  rw [if_pos hv]
/-- no other text is read as a prefix -/
theorem parseP_only (s : ByteArray) (a n : Int) (h : parseP s = (a, n, true)) : s = ⟨(fmtP a n).toArray⟩ ∧ valB a n = true ∧ 0 ≤ a ∧ a ≤ 4294967295 := by
  unfold parseP at h
  cases hc : cutB 47 s with
  | mk l rf =>
    obtain ⟨r, f⟩ := rf
    rw [hc] at h
    dsimp only at h
    unfold parsePost at h
    split at h
    · rename_i hg
      obtain ⟨rfl, hq, hk⟩ := hg
      cases hd : dGo r.data.toList 0 with
      | none => rw [hd] at h; simp at h
      | some m =>
        rw [hd] at h
        dsimp only at h
        split at h
        · rename_i hv
          simp only [Prod.mk.injEq, and_true] at h
          obtain ⟨rfl, rfl⟩ := h
          have hp := paRes_only l.data.toList (paRes l.data.toList).1 (Prod.ext rfl hq)
          have hr := bits_only _ _ hk hd
          refine ⟨?_, hv, hp.2⟩
          apply ByteArray.ext
          apply Array.ext'
          rw [cutB_yes _ _ _ _ hc, List.toList_toArray]
          unfold fmtP
          rw [hp.1, hr.2]
          simp
        · simp at h
    · simp at h
theorem parseP_empty : parseP ⟨#[]⟩ = (0, 0, false) := by
  simp [parseP, cutB, parsePost, Lib.indexByte]
theorem parseP_false (s : ByteArray) (h : (parseP s).2.2 = false) : parseP s = (0, 0, false) := by
  unfold parseP parsePost at *
  split at h
  · rename_i hg
    rw [if_pos hg]
    cases hd : dGo (cutB 47 s).2.1.data.toList 0 with
    | none => rfl
    | some m =>
      rw [hd] at h
      dsimp only at h ⊢
      split at h
      · cases h
      · rename_i hv; rw [if_neg hv]
  · rename_i hg; rw [if_neg hg]
end Go.Proofs.YtekhggaafeonjaaDoor
