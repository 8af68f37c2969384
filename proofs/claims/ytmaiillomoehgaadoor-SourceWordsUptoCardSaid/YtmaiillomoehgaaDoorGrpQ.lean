/- SrcM Src1 Src2 Eq Src3 in one text -/
import Derived.Test.YtmaiillomoehgaaDoorGrpP
set_option linter.unusedVariables false
set_option linter.unusedSimpArgs false
/- Plain laws of package source: numbers, names, words. -/
namespace Go.Proofs.YtmaiillomoehgaaDoor
/-- the value of decimal digits -/
def decGo : List UInt8 → Nat → Option Nat
  | [], n => some n
  | c :: l, n => if c.toNat < 48 ∨ 57 < c.toNat then none else decGo l (10 * n + (c.toNat - 48))
theorem decGo_ge : ∀ (l : List UInt8) (n m : Nat), decGo l n = some m → n * 10 ^ l.length ≤ m
  | [], n, m, h => by simp only [decGo, Option.some.injEq] at h; subst h; simp
  | c :: l, n, m, h => by
    simp only [decGo] at h
    split at h
    · cases h
    · have := decGo_ge l _ m h
      rw [List.length_cons, Nat.pow_succ]
      refine Nat.le_trans ?_ this
      rw [Nat.mul_comm (10 ^ l.length) 10, ← Nat.mul_assoc]
      exact Nat.mul_le_mul_right _ (by omega)
theorem decGo_lt : ∀ (l : List UInt8) (n m : Nat), decGo l n = some m → m < (n + 1) * 10 ^ l.length
  | [], n, m, h => by simp only [decGo, Option.some.injEq] at h; subst h; simp
  | c :: l, n, m, h => by
    simp only [decGo] at h
    split at h
    · cases h
    · have := decGo_lt l _ m h
      rw [List.length_cons, Nat.pow_succ]
      refine Nat.lt_of_lt_of_le this ?_
      rw [Nat.mul_comm (10 ^ l.length) 10, ← Nat.mul_assoc]
      exact Nat.mul_le_mul_right _ (by omega)
theorem decGo_mono (l : List UInt8) (n m : Nat) (h : decGo l n = some m) : n ≤ m := by
  have h1 := decGo_ge l n m h
  have h2 : 1 ≤ 10 ^ l.length := Nat.pow_pos (by decide)
  exact Nat.le_trans (Nat.le_mul_of_pos_right n h2) h1
theorem rdGo_eq (most : Int) : ∀ (l : List UInt8) (n : Nat), (n : Int) ≤ most → rdGo most l n = (decGo l n).bind fun v => if (v : Int) ≤ most then some (v : Int) else none
  | [], n, h => by simp [rdGo, decGo, h]
  | c :: l, n, h => by
    simp only [rdGo, decGo]
    by_cases g : c.toNat < 48 ∨ 57 < c.toNat
    · rw [if_pos g, if_pos (by omega)]; rfl
    · rw [if_neg g]
      have e : (10 * (n : Int) + ((c.toNat : Int) - 48)) = ((10 * n + (c.toNat - 48) : Nat) : Int) := by omega
      by_cases g2 : most < 10 * (n : Int) + ((c.toNat : Int) - 48)
      · rw [if_pos (by omega)]
        cases hd : decGo l (10 * n + (c.toNat - 48)) with
        | none => rfl
        | some v =>
          have := decGo_mono l _ v hd
          rw [Option.bind_some, if_neg (by omega)]
      · rw [if_neg (by omega), e]
        exact rdGo_eq most l _ (by omega)
/-- the number that a word denotes between two ends -/
def numB (l : List UInt8) (least most : Int) : Option Int :=
  if most < 0 then none else (readB l most).bind fun n => if n < least then none else some n
theorem numB_bd {l : List UInt8} {least most n : Int} (h : numB l least most = some n) : least ≤ n ∧ 0 ≤ n ∧ n ≤ most := by
  unfold numB at h
  split at h
  · cases h
  · rename_i hm
    rw [Option.bind_eq_some_iff] at h
    obtain ⟨m, h1, h2⟩ := h
    have := readB_bd (by omega) h1
    split at h2
    · cases h2
    · simp only [Option.some.injEq] at h2; subst h2; omega
/-- as source.Number reckons -/
def srcOk (l : List UInt8) (most : Int) : Bool := !(decide (l = []) || decide (19 < l.length) || (decide (1 < l.length) && decide ((l.getD 0 0).toNat = 48)) || decide (most < 0))
theorem numB_no (l : List UInt8) (least most : Int) (hm : most ≤ 9223372036854775807) (h : srcOk l most = false) : numB l least most = none := by
  unfold numB
  by_cases g0 : most < 0
  · rw [if_pos g0]
  · rw [if_neg g0]
    have hr : readB l most = none := by
      unfold readB
      by_cases g1 : l = [] ∨ 1 < l.length ∧ (l.getD 0 0).toNat = 48
      · rw [if_pos g1]
      · rw [if_neg g1]
        have h19 : 19 < l.length := by
          simp only [srcOk, Bool.not_eq_false', Bool.or_eq_true, Bool.and_eq_true, decide_eq_true_eq] at h
          rcases h with ((h | h) | h) | h
          · exact absurd (.inl h) g1
          · exact h
          · exact absurd (.inr h) g1
          · exact absurd h g0
        rw [show (0 : Int) = ((0 : Nat) : Int) by rfl, rdGo_eq most l 0 (by omega)]
        cases hd : decGo l 0 with
        | none => rfl
        | some v =>
          rw [Option.bind_some, if_neg]
          match l, h19, g1, hd with
          | c :: l, h19, g1, hd =>
            simp only [decGo] at hd
            split at hd
            · cases hd
            · rename_i gc
              have h1 := decGo_ge l _ v hd
              have hz : c.toNat ≠ 48 := fun h => g1 (.inr ⟨by omega, by simpa using h⟩)
              have hp : 10 ^ 19 ≤ 10 ^ l.length := Nat.pow_le_pow_right (by decide) (by simpa using Nat.lt_succ_iff.1 h19)
              have h2 : 1 * 10 ^ l.length ≤ (10 * 0 + (c.toNat - 48)) * 10 ^ l.length := Nat.mul_le_mul_right _ (by omega)
              have h3 : (10 : Nat) ^ 19 = 10000000000000000000 := by decide
              omega
    rw [hr]; rfl
theorem numB_yes (l : List UInt8) (least most : Int) (h : srcOk l most = true) : numB l least most = (decGo l 0).bind fun v => if most < (v : Int) ∨ (v : Int) < least then none else some (v : Int) := by
  simp only [srcOk, Bool.not_eq_true', Bool.or_eq_false_iff, decide_eq_false_iff_not] at h
  obtain ⟨⟨⟨h1, h2⟩, h3⟩, h4⟩ := h
  unfold numB
  rw [if_neg h4]
  have g1 : ¬ (l = [] ∨ 1 < l.length ∧ (l.getD 0 0).toNat = 48) := by
    intro h
    rcases h with h | h
    · exact h1 h
    · simp [h.1] at h3; exact h3 (by simpa using h.2)
  unfold readB
  rw [if_neg g1, show (0 : Int) = ((0 : Nat) : Int) by rfl, rdGo_eq most l 0 (by omega)]
  cases hd : decGo l 0 with
  | none => rfl
  | some v =>
    simp only [Option.bind_some]
    by_cases g : (v : Int) ≤ most
    · rw [if_pos g, Option.bind_some]
      by_cases g2 : (v : Int) < least
      · rw [if_pos g2, if_pos (.inr g2)]
      · rw [if_neg g2, if_neg (by omega)]
    · rw [if_neg g, if_pos (.inl (by omega))]; rfl
/-- decimal digits without leading zeros -/
def allDig (l : List UInt8) : Bool := l.all fun c => decide (48 ≤ c.toNat) && decide (c.toNat ≤ 57)
def digitsB (l : List UInt8) : Bool := allDig l && (!decide (l = []) && (decide (l.length = 1) || !decide ((l.getD 0 0).toNat = 48)))
theorem rdGo_dig (most : Int) : ∀ (l : List UInt8) (n m : Int), rdGo most l n = some m → allDig l = true
  | [], _, _, _ => rfl
  | c :: l, n, m, h => by
    simp only [rdGo] at h
    split at h
    · cases h
    · have := rdGo_dig most l _ m h
      simp only [allDig, List.all_cons, Bool.and_eq_true, decide_eq_true_eq]
      exact ⟨by omega, this⟩
theorem readB_dig (l : List UInt8) (most : Int) (h : digitsB l = false) : readB l most = none := by
  unfold readB
  split
  · rfl
  · rename_i g
    cases hr : rdGo most l 0 with
    | none => rfl
    | some m =>
      have h1 := rdGo_dig most l 0 m hr
      have hne : l ≠ [] := fun h => g (.inl h)
      have hpos := List.length_pos_iff.2 hne
      rw [digitsB, h1] at h
      simp only [Bool.true_and, Bool.and_eq_false_iff, Bool.not_eq_false', decide_eq_true_eq, Bool.or_eq_false_iff, decide_eq_false_iff_not] at h
      rcases h with h | ⟨h2, h3⟩
      · exact absurd h hne
      · exact absurd (.inr ⟨by omega, h3⟩) g
/-- as the reference reckons -/
theorem numB_ref (l : List UInt8) (least most : Int) : numB l least most = if digitsB l = false ∨ most < 0 then none else (readB l most).bind fun n => if n < least then none else some n := by
  unfold numB
  by_cases g0 : most < 0
  · rw [if_pos g0, if_pos (.inr g0)]
  · rw [if_neg g0]
    by_cases g1 : digitsB l = false
    · rw [if_pos (.inl g1), readB_dig l most g1]; rfl
    · rw [if_neg (by simp [g1, g0])]
/-- a name -/
def lowB (c : UInt8) : Bool := decide (97 ≤ c.toNat) && decide (c.toNat ≤ 122)
def othB (c : UInt8) : Bool := (decide (48 ≤ c.toNat) && decide (c.toNat ≤ 57)) || (decide (c.toNat = 45) || decide (c.toNat = 95))
def nameB (l : List UInt8) : Bool := !decide (l = []) && (decide (l.length ≤ 24) && (!decide (l = [97, 110, 121]) && (lowB (l.getD 0 0) && l.all fun c => lowB c || othB c)))
end Go.Proofs.YtmaiillomoehgaaDoor
/- Walks of package source and of its reference: numbers. -/
namespace Go.Proofs.YtmaiillomoehgaaDoor
open Go.RowKit
theorem str_ne (s : ByteArray) (h : ¬ s.size = 0) : (¬ s.toList = []) ∧ s.toList.isEmpty = false ∧ ¬ s.data.toList = [] := by
  have h1 : ¬ s.data.toList = [] := fun h2 => h (by rw [size_len, h2]; rfl)
  have h2 : ¬ s.toList = [] := by rw [ByteArray.toList_eq]; exact h1
  exact ⟨h2, by rw [List.isEmpty_eq_false_iff]; exact h2, h1⟩
theorem head_at (s : ByteArray) (h : 0 < s.size) : s.data.toList.getD 0 0 = s[0] := by
  rw [List.getD_eq_getElem?_getD, List.getElem?_eq_getElem (by rw [← size_len]; exact h)]; rfl
theorem dec_bd (l : List UInt8) (k n : Nat) (h : decGo (l.take k) 0 = some n) (hk : k ≤ l.length) : n < 10 ^ k := by
  have := decGo_lt _ _ _ h
  rw [List.length_take, Nat.min_eq_left hk] at this
  simpa using this
theorem decGo_app (l1 l2 : List UInt8) (n : Nat) : decGo (l1 ++ l2) n = (decGo l1 n).bind (decGo l2) := by
  induction l1 generalizing n with
  | nil => simp [decGo]
  | cons c l ih =>
    simp only [List.cons_append, decGo]
    split
    · rfl
    · exact ih _
set_option maxHeartbeats 4000000 in
theorem src_Number (s : ByteArray) (least most : Int) (hl0 : -9223372036854775808 ≤ least) (hl1 : least ≤ 9223372036854775807) (hm0 : -9223372036854775808 ≤ most) (hm1 : most ≤ 9223372036854775807) (hs : s.size ≤ maxLen) {r : Option Int} (hr : numB s.data.toList least most = r) (w : World) :
    Calls Tryd.prog 21 #[.string s, .int .i64 least, .int .i64 most] w fun e w' => e = .returned (.tuple #[.int .i64 (r.getD 0), .bool r.isSome]) ∧ w = w' := by
  unfold maxLen at hs
  have HR := Lib.hid hr
  have HL := Lib.hid (size_len s)
  clear hr
  by_cases h0 : s.size = 0
  · obtain rfl := str_empty s h0
    have : r = none := by rw [← HR.out]; exact numB_no [] least most hm1 rfl
    subst this
    clear h0
    go_enter Tryd.func21, Tryd.ntmps21
    go_wp2
    go_ret2
    exact ⟨rfl, rfl⟩
  · obtain ⟨he1, he2, he3⟩ := str_ne s h0
    have hpos : 0 < s.size := by omega
    have H3 := Lib.hid he3
    have H00 := Lib.hid (head_at s hpos)
    clear he3
    have bad : srcOk s.data.toList most = false → r = none := fun h => by rw [← HR.out]; exact numB_no _ _ _ hm1 h
    have BAD := Lib.hid bad
    clear bad
    by_cases h19 : 19 < s.size
    · have : r = none := BAD.out (by simp [srcOk, ← HL.out, h19])
      subst this
      go_enter Tryd.func21, Tryd.ntmps21
      go_wp2
      go_ret2
      exact ⟨rfl, rfl⟩
    · rcases Bool.eq_false_or_eq_true (decide ((1 : Int) < (s.size : Int)) && ((s[0].toNat : Int) == 48)) with g | g
      · simp only [Bool.and_eq_true, decide_eq_true_eq] at g
        have : r = none := BAD.out (by
          have h1 : 1 < s.data.toList.length := by rw [← HL.out]; omega
          have h2 : (s.data.toList.getD 0 0).toNat = 48 := by rw [H00.out]; have := eq_of_beq g.2; omega
          simp only [srcOk, h1, h2, decide_true, Bool.and_true, Bool.or_true, Bool.true_or, Bool.not_true])
        subst this
        obtain ⟨g1, g2⟩ := g
        go_enter Tryd.func21, Tryd.ntmps21
        go_wp2
        go_ret2
        exact ⟨rfl, rfl⟩
      · have g' : decide ((1 : Int) < (s.size : Int)) = false ∨ (decide ((1 : Int) < (s.size : Int)) = true ∧ ((s[0].toNat : Int) == 48) = false) := by
          cases h1 : decide ((1 : Int) < (s.size : Int)) <;> cases h2 : ((s[0].toNat : Int) == 48) <;> simp_all
        have G := Lib.hid g
        clear g
        by_cases hm : most < 0
        · have : r = none := BAD.out (by simp [srcOk, hm])
          subst this
          rcases g' with g1 | ⟨g1, g2⟩
          all_goals
            go_enter Tryd.func21, Tryd.ntmps21
            go_wp2
            go_ret2
            exact ⟨rfl, rfl⟩
        · have hok : srcOk s.data.toList most = true := by
            have e1 : decide (s.data.toList = []) = false := by simpa using H3.out
            have e2 : decide (19 < s.data.toList.length) = false := by rw [← HL.out]; simpa using h19
            have e3 : (decide (1 < s.data.toList.length) && decide ((s.data.toList.getD 0 0).toNat = 48)) = false := by
              rw [H00.out, ← HL.out]
              have h2 := G.out
              rw [Bool.and_eq_false_iff] at h2 ⊢
              rcases h2 with h2 | h2
              · exact .inl (by simp only [decide_eq_false_iff_not] at h2 ⊢; omega)
              · exact .inr (by simp only [decide_eq_false_iff_not]; intro h3; rw [h3] at h2; simp at h2)
            have e4 : decide (most < 0) = false := by simpa using hm
            rw [srcOk, e1, e2, e3, e4]; rfl
          have HY := Lib.hid ((numB_yes _ least most hok).symm.trans HR.out)
          clear hok HR
          rcases g' with g1 | ⟨g1, g2⟩
          all_goals
            go_enter Tryd.func21, Tryd.ntmps21
            go_wp2_with fail
            try clear g2
            clear g1 he1 he2
            go_loop [8, 9] (fun n i => ∃ (k v : Nat), k ≤ s.size ∧ i = .int .i64 k ∧ n = .int .u64 v ∧ decGo (s.data.toList.take k) 0 = some v) (fun _ i => s.size - (intOf i).toNat)
            case atStart => exact ⟨0, 0, by omega, rfl, rfl, rfl⟩
            case round =>
              obtain ⟨k, v, hk, rfl, rfl, hd⟩ := hrel
              have hv := dec_bd _ _ _ hd (by rw [← HL.out]; exact hk)
              have h20 : v < 10000000000000000000 := Nat.lt_of_lt_of_le hv (Nat.pow_le_pow_right (n := 10) (by decide) (show k ≤ 19 by omega))
              by_cases hlt : k < s.size
              · have hc8 := UInt8.toNat_lt s[k]
                have hts : s.data.toList.take (k + 1) = s.data.toList.take k ++ [s[k]] := by
                  rw [List.take_succ_eq_append_getElem (by rw [← HL.out]; exact hlt)]; rfl
                have h19' : v < 1000000000000000000 := Nat.lt_of_lt_of_le hv (Nat.pow_le_pow_right (n := 10) (by decide) (show k ≤ 18 by omega))
                have HD := Lib.hid hd
                have HTS := Lib.hid hts
                clear hd hts hv
                by_cases hdig : 48 ≤ s[k].toNat ∧ s[k].toNat ≤ 57
                · obtain ⟨hd0, hd1⟩ := hdig
                  go_wp2
                  go_round
                  case rel =>
                    refine ⟨k + 1, 10 * v + (s[k].toNat - 48), by omega, rfl, by go_num, ?_⟩
                    rw [HTS.out, decGo_app, HD.out, Option.bind_some, decGo, if_neg (by omega), decGo]
                  case measure => simp [intOf]; omega
                · have : r = none := by
                    rw [← HY.out]
                    have : decGo s.data.toList 0 = none := by
                      rw [← List.take_append_drop k s.data.toList, decGo_app, HD.out, Option.bind_some, drop_cons s k hlt, decGo, if_pos (by omega)]
                    rw [this]; rfl
                  subst this
                  by_cases hd0 : 48 ≤ s[k].toNat
                  · have hd1 : 57 < s[k].toNat := by omega
                    go_wp2
                    go_ret2
                    exact ⟨rfl, rfl⟩
                  · go_wp2
                    go_ret2
                    exact ⟨rfl, rfl⟩
              · obtain rfl : k = s.size := by omega
                have hfull : decGo s.data.toList 0 = some v := by
                  rw [← hd, List.take_of_length_le (by rw [← HL.out]; exact Nat.le_refl _)]
                have hres : (if most < (v : Int) ∨ (v : Int) < least then none else some (v : Int)) = r := by
                  have := HY.out
                  rwa [hfull] at this
                have HF := Lib.hid hres
                clear hfull hres hd hv
                by_cases hb : most < (v : Int)
                · obtain rfl : r = none := by rw [← HF.out, if_pos (.inl hb)]
                  go_wp2
                  go_ret2
                  exact ⟨rfl, rfl⟩
                · by_cases hb2 : (v : Int) < least
                  · obtain rfl : r = none := by rw [← HF.out, if_pos (.inr hb2)]
                    go_wp2
                    go_ret2
                    exact ⟨rfl, rfl⟩
                  · obtain rfl : r = some (v : Int) := by rw [← HF.out, if_neg (by omega)]
                    go_wp2
                    go_ret2
                    exact ⟨rfl, rfl⟩
end Go.Proofs.YtmaiillomoehgaaDoor
/- Walks of package source and of its reference: digits, names. -/
namespace Go.Proofs.YtmaiillomoehgaaDoor
open Go.RowKit
theorem all_take_succ (p : UInt8 → Bool) (s : ByteArray) (k : Nat) (h : k < s.size) : (s.data.toList.take (k + 1)).all p = ((s.data.toList.take k).all p && p s[k]) := by
  rw [List.take_succ_eq_append_getElem (by rw [← size_len]; exact h), List.all_append]
  simp
  rfl
theorem all_split (p : UInt8 → Bool) (l : List UInt8) (k : Nat) (h : (l.take k).all p = false) : l.all p = false := by
  rw [← List.take_append_drop k l, List.all_append, h, Bool.false_and]
theorem take_full (s : ByteArray) : s.data.toList.take s.size = s.data.toList := List.take_of_length_le (by rw [← size_len]; exact Nat.le_refl _)
set_option maxHeartbeats 2000000 in
theorem ref_Digits (s : ByteArray) (hs : s.size ≤ maxLen) {b : Bool} (hb : digitsB s.data.toList = b) (w : World) :
    Calls Tryd.prog 40 #[.string s] w fun e w' => e = .returned (.bool b) ∧ w = w' := by
  unfold maxLen at hs
  have HB := Lib.hid hb
  have HL := Lib.hid (size_len s)
  clear hb
  go_enter Tryd.func40, Tryd.ntmps40
  go_wp2
  go_loop [3] (fun i => ∃ k : Nat, k ≤ s.size ∧ i = .int .i64 k ∧ allDig (s.data.toList.take k) = true) (fun i => s.size - (intOf i).toNat)
  case atStart => exact ⟨0, by omega, rfl, rfl⟩
  case round =>
    obtain ⟨k, hk, rfl, hd⟩ := hrel
    have HD := Lib.hid hd
    clear hd
    by_cases hlt : k < s.size
    · have hc8 := UInt8.toNat_lt s[k]
      have HT := Lib.hid (all_take_succ (fun c => decide (48 ≤ c.toNat) && decide (c.toNat ≤ 57)) s k hlt)
      by_cases hdig : 48 ≤ s[k].toNat ∧ s[k].toNat ≤ 57
      · obtain ⟨hd0, hd1⟩ := hdig
        go_wp2
        go_round
        case rel =>
          refine ⟨k + 1, by omega, by go_num, ?_⟩
          have h1 := HT.out
          have h2 := HD.out
          unfold allDig at h2 ⊢
          rw [h1, h2]
          simp [hd0, hd1]
        case measure => simp [intOf]; omega
      · have : b = false := by
          rw [← HB.out, digitsB]
          have : allDig s.data.toList = false := by
            refine all_split _ _ (k + 1) ?_
            rw [HT.out, Bool.and_eq_false_iff]
            refine .inr ?_
            rw [Bool.and_eq_false_iff]
            simp only [decide_eq_false_iff_not]
            omega
          rw [this]; rfl
        subst this
        by_cases hd0 : 48 ≤ s[k].toNat
        · have hd1 : 57 < s[k].toNat := by omega
          go_wp2
          go_ret
          exact ⟨rfl, rfl⟩
        · go_wp2
          go_ret
          exact ⟨rfl, rfl⟩
    · obtain rfl : k = s.size := by omega
      have hall : allDig s.data.toList = true := by have := HD.out; rwa [take_full] at this
      have hb2 : (!decide (s.data.toList = []) && (decide (s.data.toList.length = 1) || !decide ((s.data.toList.getD 0 0).toNat = 48))) = b := by
        have := HB.out
        rwa [digitsB, hall, Bool.true_and] at this
      have H2 := Lib.hid hb2
      clear hall hb2 HB HD
      by_cases h0 : s.size = 0
      · obtain rfl := str_empty s h0
        have : b = false := by rw [← H2.out]; rfl
        subst this
        clear h0
        go_wp2
        go_ret
        exact ⟨rfl, rfl⟩
      · obtain ⟨he1, he2, he3⟩ := str_ne s h0
        have hpos : 0 < s.size := by omega
        have e1 : decide (s.data.toList = []) = false := by simpa using he3
        have e3 := head_at s hpos
        have hb3 : (decide (s.size = 1) || !decide (s[0].toNat = 48)) = b := by
          have := H2.out
          rwa [e1, Bool.not_false, Bool.true_and, ← HL.out, e3] at this
        have H3 := Lib.hid hb3
        clear e1 e3 hb3 H2 he3
        rcases Bool.eq_false_or_eq_true ((s.size : Int) == 1) with g1 | g1
        · have : b = true := by
            rw [← H3.out]
            have := eq_of_beq g1
            simp only [show s.size = 1 by omega, decide_true, Bool.true_or]
          subst this
          go_wp2
          go_ret
          exact ⟨rfl, rfl⟩
        · have hn1 : decide (s.size = 1) = false := by
            simp only [decide_eq_false_iff_not]; intro h; rw [h] at g1; simp at g1
          rcases Bool.eq_false_or_eq_true ((s[0].toNat : Int) == 48) with g2 | g2
          · have : b = false := by
              rw [← H3.out, hn1]
              have := eq_of_beq g2
              simp only [show s[0].toNat = 48 by omega, decide_true, Bool.not_true, Bool.or_false]
            subst this
            have g3 : ((s[0].toNat : Int) != 48) = false := by rw [bne, g2]; rfl
            clear hn1
            go_wp2
            go_ret
            exact ⟨rfl, rfl⟩
          · have : b = true := by
              rw [← H3.out, hn1]
              have : ¬ s[0].toNat = 48 := by intro h; rw [h] at g2; simp at g2
              simp only [this, decide_false, Bool.not_false, Bool.or_true]
            subst this
            have g3 : ((s[0].toNat : Int) != 48) = true := by rw [bne, g2]; rfl
            clear hn1
            go_wp2
            go_ret
            exact ⟨rfl, rfl⟩
set_option maxHeartbeats 2000000 in
theorem ref_Num (s : ByteArray) (least most : Int) (hl0 : -9223372036854775808 ≤ least) (hl1 : least ≤ 9223372036854775807) (hm0 : -9223372036854775808 ≤ most) (hm1 : most ≤ 9223372036854775807) (hs : s.size ≤ maxLen) {r : Option Int} (hr : numB s.data.toList least most = r) (w : World) :
    Calls Tryd.prog 26 #[.string s, .int .i64 least, .int .i64 most] w fun e w' => e = .returned (.tuple #[.int .i64 (r.getD 0), .bool r.isSome]) ∧ w = w' := by
  rw [numB_ref] at hr
  obtain ⟨d, hd⟩ : ∃ d, digitsB s.data.toList = d := ⟨_, rfl⟩
  rw [hd] at hr
  have HD := Lib.hid hd
  clear hd
  cases d
  · rw [if_pos (.inl rfl)] at hr
    subst hr
    go_enter Tryd.func26, Tryd.ntmps26
    go_wp2_with (go_at_call 40; refine (ref_Digits s hs HD.out _).mono ?_; rintro e w' ⟨rfl, rfl⟩)
    go_ret2
    exact ⟨rfl, rfl⟩
  · by_cases hm : most < 0
    · rw [if_pos (.inr hm)] at hr
      subst hr
      go_enter Tryd.func26, Tryd.ntmps26
      go_wp2_with (go_at_call 40; refine (ref_Digits s hs HD.out _).mono ?_; rintro e w' ⟨rfl, rfl⟩)
      go_ret2
      exact ⟨rfl, rfl⟩
    · rw [if_neg (by simp [hm])] at hr
      have hm' : 0 ≤ most := by omega
      obtain ⟨q, hq⟩ : ∃ q, readB s.data.toList most = q := ⟨_, rfl⟩
      rw [hq] at hr
      have HQ := Lib.hid hq
      clear hq
      cases q with
      | none =>
        have : r = none := hr.symm
        subst this
        clear hr
        go_enter Tryd.func26, Tryd.ntmps26
        go_wp2_with (first | (go_at_call 40; refine (ref_Digits s hs HD.out _).mono ?_; rintro e w' ⟨rfl, rfl⟩) | (go_at_call 41; refine (ref_Read s most hm' hm1 hs HQ.out _).mono ?_; rintro e w' ⟨rfl, rfl⟩))
        go_ret2
        exact ⟨rfl, rfl⟩
      | some n =>
        rw [Option.bind_some] at hr
        by_cases hn : n < least
        · rw [if_pos hn] at hr
          subst hr
          go_enter Tryd.func26, Tryd.ntmps26
          go_wp2_with (first | (go_at_call 40; refine (ref_Digits s hs HD.out _).mono ?_; rintro e w' ⟨rfl, rfl⟩) | (go_at_call 41; refine (ref_Read s most hm' hm1 hs HQ.out _).mono ?_; rintro e w' ⟨rfl, rfl⟩))
          go_ret2
          exact ⟨rfl, rfl⟩
        · rw [if_neg hn] at hr
          subst hr
          go_enter Tryd.func26, Tryd.ntmps26
          go_wp2_with (first | (go_at_call 40; refine (ref_Digits s hs HD.out _).mono ?_; rintro e w' ⟨rfl, rfl⟩) | (go_at_call 41; refine (ref_Read s most hm' hm1 hs HQ.out _).mono ?_; rintro e w' ⟨rfl, rfl⟩))
          go_ret2
          exact ⟨rfl, rfl⟩
end Go.Proofs.YtmaiillomoehgaaDoor
/- The two Bool spellings of a test on numbers. -/
namespace Go.Proofs.YtmaiillomoehgaaDoor
theorem neqB {a : Int} (b : Int) (h : a ≠ b) : (a != b) = true ∧ (a == b) = false := ⟨by rw [bne_iff_ne]; exact h, beq_eq_false_iff_ne.2 h⟩
theorem eqB {a : Int} (b : Int) (h : a = b) : (a != b) = false ∧ (a == b) = true := by
  subst h; simp
end Go.Proofs.YtmaiillomoehgaaDoor
/- Walks of package source and of its reference: names. -/
namespace Go.Proofs.YtmaiillomoehgaaDoor
open Go.RowKit
def chrB (c : UInt8) : Bool := lowB c || othB c
theorem nameB_eq (l : List UInt8) : nameB l = (!decide (l = []) && (decide (l.length ≤ 24) && (!decide (l = [97, 110, 121]) && (lowB (l.getD 0 0) && l.all chrB)))) := rfl
theorem any_eq (s : ByteArray) : (s = ⟨#[97, 110, 121]⟩) ↔ s.data.toList = [97, 110, 121] := by
  constructor
  · rintro rfl; rfl
  · intro h; exact list_bytes s _ h
theorem chr_cases (c : Nat) : (97 ≤ c ∧ c ≤ 122) ∨ (48 ≤ c ∧ c ≤ 57) ∨ (45 ≤ c ∧ c ≤ 45) ∨ (95 ≤ c ∧ c ≤ 95) ∨ (c < 48 ∧ c ≠ 45) ∨ (57 < c ∧ c < 97 ∧ c ≠ 95) ∨ 122 < c := by omega
theorem low_yes {c : UInt8} (h : 97 ≤ c.toNat ∧ c.toNat ≤ 122) : lowB c = true ∧ chrB c = true := by simp [lowB, chrB, h.1, h.2]
theorem low_no {c : UInt8} (h : c.toNat < 97 ∨ 122 < c.toNat) : lowB c = false := by
  rw [lowB, Bool.and_eq_false_iff]; simp only [decide_eq_false_iff_not]; omega
theorem chr_oth {c : UInt8} (h : (48 ≤ c.toNat ∧ c.toNat ≤ 57) ∨ (45 ≤ c.toNat ∧ c.toNat ≤ 45) ∨ (95 ≤ c.toNat ∧ c.toNat ≤ 95)) : chrB c = true := by
  simp only [chrB, lowB, othB, Bool.or_eq_true, Bool.and_eq_true, decide_eq_true_eq]; omega
theorem chr_bad {c : UInt8} (h : (c.toNat < 48 ∧ c.toNat ≠ 45) ∨ (57 < c.toNat ∧ c.toNat < 97 ∧ c.toNat ≠ 95) ∨ 122 < c.toNat) : chrB c = false := by
  cases hc : chrB c with
  | false => rfl
  | true => simp only [chrB, lowB, othB, Bool.or_eq_true, Bool.and_eq_true, decide_eq_true_eq] at hc; omega
set_option maxHeartbeats 4000000 in
theorem src_ValidName (s : ByteArray) (hs : s.size ≤ maxLen) {b : Bool} (hb : nameB s.data.toList = b) (w : World) :
    Calls Tryd.prog 28 #[.string s] w fun e w' => e = .returned (.bool b) ∧ w = w' := by
  unfold maxLen at hs
  have HB := Lib.hid hb
  have HL := Lib.hid (size_len s)
  clear hb
  by_cases h0 : s.size = 0
  · obtain rfl := str_empty s h0
    have : b = false := by rw [← HB.out]; rfl
    subst this
    clear h0
    go_enter Tryd.func28, Tryd.ntmps28
    go_wp2
    go_ret
    exact ⟨rfl, rfl⟩
  obtain ⟨he1, he2, he3⟩ := str_ne s h0
  have hpos : 0 < s.size := by omega
  have e1 : decide (s.data.toList = []) = false := by simpa using he3
  have H00 := Lib.hid (head_at s hpos)
  have hb1 : (decide (s.size ≤ 24) && (!decide (s.data.toList = [97, 110, 121]) && (lowB s[0] && s.data.toList.all chrB))) = b := by
    have := HB.out
    rwa [nameB_eq, e1, Bool.not_false, Bool.true_and, ← HL.out, H00.out] at this
  have H1 := Lib.hid hb1
  clear e1 he3 hb1 HB h0
  by_cases h24 : 24 < s.size
  · have : b = false := by rw [← H1.out, show decide (s.size ≤ 24) = false by simp; omega, Bool.false_and]
    subst this
    go_enter Tryd.func28, Tryd.ntmps28
    go_wp2
    go_ret
    exact ⟨rfl, rfl⟩
  have h24' : decide (s.size ≤ 24) = true := by simp; omega
  have H2 := Lib.hid (by have := H1.out; rwa [h24', Bool.true_and] at this : (!decide (s.data.toList = [97, 110, 121]) && (lowB s[0] && s.data.toList.all chrB)) = b)
  clear h24' H1
  have g24 : decide ((24 : Int) < (s.size : Int)) = false := by simp only [decide_eq_false_iff_not]; omega
  by_cases hany : s.data.toList = [97, 110, 121]
  · have : b = false := by rw [← H2.out, show decide (s.data.toList = [97, 110, 121]) = true by simpa using hany]; rfl
    subst this
    obtain rfl := (any_eq s).2 hany
    clear h24 hany g24
    go_enter Tryd.func28, Tryd.ntmps28
    go_wp2
    go_ret
    exact ⟨rfl, rfl⟩
  have H3 := Lib.hid (by have := H2.out; rwa [show decide (s.data.toList = [97, 110, 121]) = false by simpa using hany, Bool.not_false, Bool.true_and] at this : (lowB s[0] && s.data.toList.all chrB) = b)
  have hy1 : ¬ s.toList = [97, 110, 121] := by rw [ByteArray.toList_eq]; exact hany
  have hy2 : (s.toList == [97, 110, 121]) = false := by rw [beq_eq_false_iff_ne]; exact hy1
  clear H2 hany h24
  by_cases hl : 97 ≤ s[0].toNat ∧ s[0].toNat ≤ 122
  · have H4 : Hid (s.data.toList.all chrB = b) := Lib.hid (by have := H3.out; rwa [(low_yes hl).1, Bool.true_and] at this)
    obtain ⟨hl0, hl1⟩ := hl
    have gl0 : decide ((s[0].toNat : Int) < 97) = false := by simp only [decide_eq_false_iff_not]; omega
    have gl1 : decide ((122 : Int) < (s[0].toNat : Int)) = false := by simp only [decide_eq_false_iff_not]; omega
    go_enter Tryd.func28, Tryd.ntmps28
    go_wp2_with fail
    clear gl0 gl1 hl0 hl1 hy1 hy2 g24 he1 he2
    go_loop [3] (fun i => ∃ k : Nat, k ≤ s.size ∧ i = .int .i64 k ∧ (s.data.toList.take k).all chrB = true) (fun i => s.size - (intOf i).toNat)
    case atStart => exact ⟨0, by omega, rfl, rfl⟩
    case round =>
      obtain ⟨k, hk, rfl, hd⟩ := hrel
      have HD := Lib.hid hd
      clear hd
      by_cases hlt : k < s.size
      · have hc8 := UInt8.toNat_lt s[k]
        have HT := Lib.hid (all_take_succ chrB s k hlt)
        rcases chr_cases s[k].toNat with h | h | h | h | h | h | h
        · have HG := Lib.hid (low_yes h).2
          obtain ⟨h1, h2⟩ := h
          go_wp2
          go_round
          case rel => exact ⟨k + 1, by omega, by go_num, by rw [HT.out, HD.out, HG.out]; rfl⟩
          case measure => simp [intOf]; omega
        · have HG := Lib.hid (chr_oth (.inl h))
          obtain ⟨h1, h2⟩ := h
          go_wp2
          go_round
          case rel => exact ⟨k + 1, by omega, by go_num, by rw [HT.out, HD.out, HG.out]; rfl⟩
          case measure => simp [intOf]; omega
        · have HG := Lib.hid (chr_oth (.inr (.inl h)))
          have g1 := (eqB 45 (show (s[k].toNat : Int) = 45 by omega)).1
          obtain ⟨h1, h2⟩ := h
          go_wp2
          go_round
          case rel => exact ⟨k + 1, by omega, by go_num, by rw [HT.out, HD.out, HG.out]; rfl⟩
          case measure => simp [intOf]; omega
        · have HG := Lib.hid (chr_oth (.inr (.inr h)))
          have g1 := (eqB 95 (show (s[k].toNat : Int) = 95 by omega)).1
          have g2 := (neqB 45 (show (s[k].toNat : Int) ≠ 45 by omega)).1
          obtain ⟨h1, h2⟩ := h
          go_wp2
          go_round
          case rel => exact ⟨k + 1, by omega, by go_num, by rw [HT.out, HD.out, HG.out]; rfl⟩
          case measure => simp [intOf]; omega
        all_goals
          have : b = false := by
            rw [← H4.out]
            refine all_split _ _ (k + 1) ?_
            rw [HT.out, chr_bad (by omega), Bool.and_false]
          subst this
          have g1 := (neqB 45 (show (s[k].toNat : Int) ≠ 45 by omega)).1
          have g2 := (neqB 95 (show (s[k].toNat : Int) ≠ 95 by omega)).1
          try have g3 : decide ((s[k].toNat : Int) ≤ 57) = false := by simp only [decide_eq_false_iff_not]; omega
          try have g4 : decide ((s[k].toNat : Int) ≤ 122) = false := by simp only [decide_eq_false_iff_not]; omega
          try obtain ⟨h1, h2⟩ := h
          try obtain ⟨h2, h3⟩ := h2
          go_wp2
          go_ret
          exact ⟨rfl, rfl⟩
      · obtain rfl : k = s.size := by omega
        have : b = true := by rw [← H4.out]; have := HD.out; rwa [take_full] at this
        subst this
        go_wp2
        go_ret
        exact ⟨rfl, rfl⟩
  · have : b = false := by rw [← H3.out, low_no (by omega), Bool.false_and]
    subst this
    by_cases hl0 : s[0].toNat < 97
    · go_enter Tryd.func28, Tryd.ntmps28
      go_wp2
      go_ret
      exact ⟨rfl, rfl⟩
    · have gl0 : decide ((s[0].toNat : Int) < 97) = false := by simp only [decide_eq_false_iff_not]; omega
      have hl1 : 122 < s[0].toNat := by omega
      go_enter Tryd.func28, Tryd.ntmps28
      go_wp2
      go_ret
      exact ⟨rfl, rfl⟩
set_option maxHeartbeats 4000000 in
theorem ref_ValidName (s : ByteArray) (hs : s.size ≤ maxLen) {b : Bool} (hb : nameB s.data.toList = b) (w : World) :
    Calls Tryd.prog 29 #[.string s] w fun e w' => e = .returned (.bool b) ∧ w = w' := by
  unfold maxLen at hs
  have HB := Lib.hid hb
  have HL := Lib.hid (size_len s)
  clear hb
  by_cases h0 : s.size = 0
  · obtain rfl := str_empty s h0
    have : b = false := by rw [← HB.out]; rfl
    subst this
    clear h0
    go_enter Tryd.func29, Tryd.ntmps29
    go_wp2
    go_ret
    exact ⟨rfl, rfl⟩
  obtain ⟨he1, he2, he3⟩ := str_ne s h0
  have hpos : 0 < s.size := by omega
  have e1 : decide (s.data.toList = []) = false := by simpa using he3
  have H00 := Lib.hid (head_at s hpos)
  have hb1 : (decide (s.size ≤ 24) && (!decide (s.data.toList = [97, 110, 121]) && (lowB s[0] && s.data.toList.all chrB))) = b := by
    have := HB.out
    rwa [nameB_eq, e1, Bool.not_false, Bool.true_and, ← HL.out, H00.out] at this
  have H1 := Lib.hid hb1
  clear e1 he3 hb1 HB h0
  by_cases h24 : 24 < s.size
  · have : b = false := by rw [← H1.out, show decide (s.size ≤ 24) = false by simp; omega, Bool.false_and]
    subst this
    go_enter Tryd.func29, Tryd.ntmps29
    go_wp2
    go_ret
    exact ⟨rfl, rfl⟩
  have h24' : decide (s.size ≤ 24) = true := by simp; omega
  have H2 := Lib.hid (by have := H1.out; rwa [h24', Bool.true_and] at this : (!decide (s.data.toList = [97, 110, 121]) && (lowB s[0] && s.data.toList.all chrB)) = b)
  clear h24' H1
  have g24 : decide ((24 : Int) < (s.size : Int)) = false := by simp only [decide_eq_false_iff_not]; omega
  by_cases hany : s.data.toList = [97, 110, 121]
  · have : b = false := by rw [← H2.out, show decide (s.data.toList = [97, 110, 121]) = true by simpa using hany]; rfl
    subst this
    obtain rfl := (any_eq s).2 hany
    clear h24 hany g24
    go_enter Tryd.func29, Tryd.ntmps29
    go_wp2
    go_ret
    exact ⟨rfl, rfl⟩
  have H3 := Lib.hid (by have := H2.out; rwa [show decide (s.data.toList = [97, 110, 121]) = false by simpa using hany, Bool.not_false, Bool.true_and] at this : (lowB s[0] && s.data.toList.all chrB) = b)
  have hy1 : ¬ s.toList = [97, 110, 121] := by rw [ByteArray.toList_eq]; exact hany
  have hy2 : (s.toList == [97, 110, 121]) = false := by rw [beq_eq_false_iff_ne]; exact hy1
  clear H2 hany h24
  go_enter Tryd.func29, Tryd.ntmps29
  go_wp2_with fail
  clear hy1 hy2 g24 he1 he2
  go_loop [3] (fun i => ∃ k : Nat, k ≤ s.size ∧ i = .int .i64 k ∧ (s.data.toList.take k).all chrB = true ∧ (k = 0 ∨ lowB s[0] = true)) (fun i => s.size - (intOf i).toNat)
  case atStart => exact ⟨0, by omega, rfl, rfl, .inl rfl⟩
  case round =>
    obtain ⟨k, hk, rfl, hd, hlo⟩ := hrel
    have HD := Lib.hid hd
    have HLO := Lib.hid hlo
    clear hd hlo
    by_cases hlt : k < s.size
    · have hc8 := UInt8.toNat_lt s[k]
      have HT := Lib.hid (all_take_succ chrB s k hlt)
      by_cases hl : 97 ≤ s[k].toNat ∧ s[k].toNat ≤ 122
      · have HG := Lib.hid (low_yes hl).2
        have HLW : Hid (lowB s[0] = true) := Lib.hid (by
          rcases HLO.out with h | h
          · subst h; exact (low_yes hl).1
          · exact h)
        obtain ⟨h1, h2⟩ := hl
        go_wp2
        go_round
        case rel => exact ⟨k + 1, by omega, by go_num, by rw [HT.out, HD.out, HG.out]; rfl, .inr HLW.out⟩
        case measure => simp [intOf]; omega
      · by_cases hk0 : k = 0
        · subst hk0
          have : b = false := by rw [← H3.out, low_no (by omega), Bool.false_and]
          subst this
          clear hk
          rcases chr_cases s[0].toNat with h | h | h | h | h | h | h
          · exact absurd h hl
          all_goals
            try have g1 := (neqB 45 (show (s[0].toNat : Int) ≠ 45 by omega)).2
            try have g1 := (eqB 45 (show (s[0].toNat : Int) = 45 by omega)).2
            try have g2 := (neqB 95 (show (s[0].toNat : Int) ≠ 95 by omega)).2
            try have g2 := (eqB 95 (show (s[0].toNat : Int) = 95 by omega)).2
            try have g3 : decide ((s[0].toNat : Int) ≤ 57) = false := by simp only [decide_eq_false_iff_not]; omega
            try have g4 : decide ((s[0].toNat : Int) ≤ 122) = false := by simp only [decide_eq_false_iff_not]; omega
            clear hl
            try obtain ⟨h1, h2⟩ := h
            try obtain ⟨h2, h3⟩ := h2
            go_wp2
            go_ret
            exact ⟨rfl, rfl⟩
        · have HLW : Hid (lowB s[0] = true) := Lib.hid (by
            rcases HLO.out with h | h
            · exact absurd h hk0
            · exact h)
          have gk : ((k : Int) == 0) = false := by rw [beq_eq_false_iff_ne]; omega
          rcases chr_cases s[k].toNat with h | h | h | h | h | h | h
          · exact absurd h hl
          · have HG := Lib.hid (chr_oth (.inl h))
            obtain ⟨h1, h2⟩ := h
            clear hl
            go_wp2
            go_round
            case rel => exact ⟨k + 1, by omega, by go_num, by rw [HT.out, HD.out, HG.out]; rfl, .inr HLW.out⟩
            case measure => simp [intOf]; omega
          · have HG := Lib.hid (chr_oth (.inr (.inl h)))
            have g1 := (eqB 45 (show (s[k].toNat : Int) = 45 by omega)).2
            obtain ⟨h1, h2⟩ := h
            clear hl
            go_wp2
            go_round
            case rel => exact ⟨k + 1, by omega, by go_num, by rw [HT.out, HD.out, HG.out]; rfl, .inr HLW.out⟩
            case measure => simp [intOf]; omega
          · have HG := Lib.hid (chr_oth (.inr (.inr h)))
            have g1 := (neqB 45 (show (s[k].toNat : Int) ≠ 45 by omega)).2
            have g2 := (eqB 95 (show (s[k].toNat : Int) = 95 by omega)).2
            obtain ⟨h1, h2⟩ := h
            clear hl
            go_wp2
            go_round
            case rel => exact ⟨k + 1, by omega, by go_num, by rw [HT.out, HD.out, HG.out]; rfl, .inr HLW.out⟩
            case measure => simp [intOf]; omega
          all_goals
            have : b = false := by
              rw [← H3.out, Bool.and_eq_false_iff]
              refine .inr (all_split _ _ (k + 1) ?_)
              rw [HT.out, chr_bad (by omega), Bool.and_false]
            subst this
            have g1 := (neqB 45 (show (s[k].toNat : Int) ≠ 45 by omega)).2
            have g2 := (neqB 95 (show (s[k].toNat : Int) ≠ 95 by omega)).2
            try have g3 : decide ((s[k].toNat : Int) ≤ 57) = false := by simp only [decide_eq_false_iff_not]; omega
            try have g4 : decide ((s[k].toNat : Int) ≤ 122) = false := by simp only [decide_eq_false_iff_not]; omega
            clear hl
            try obtain ⟨h1, h2⟩ := h
            try obtain ⟨h2, h3⟩ := h2
            go_wp2
            go_ret
            exact ⟨rfl, rfl⟩
    · obtain rfl : k = s.size := by omega
      have : b = true := by
        rw [← H3.out]
        have h1 := HD.out
        rw [take_full] at h1
        rcases HLO.out with h | h
        · omega
        · rw [h, h1]; rfl
      subst this
      go_wp2
      go_ret
      exact ⟨rfl, rfl⟩
end Go.Proofs.YtmaiillomoehgaaDoor
