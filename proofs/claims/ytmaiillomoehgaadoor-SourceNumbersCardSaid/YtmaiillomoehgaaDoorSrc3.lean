/- Walks of package source and of its reference: names. -/
import Derived.Test.YtmaiillomoehgaaDoorSrc2
namespace Go.Proofs.YtmaiillomoehgaaDoor
open Go.RowKit
def chrB (c : UInt8) : Bool := lowB c || othB c
theorem nameB_eq (l : List UInt8) : nameB l = (!decide (l = []) && (decide (l.length ≤ 24) && (!decide (l = [97, 110, 121]) && (lowB (l.getD 0 0) && l.all chrB)))) := rfl
theorem any_eq (s : ByteArray) : (s = ⟨#[97, 110, 121]⟩) ↔ s.data.toList = [97, 110, 121] := by
  constructor
  · rintro rfl; rfl
  · intro h; exact list_bytes s _ h
theorem chr_cases (c : Nat) : (97 ≤ c ∧ c ≤ 122) ∨ (48 ≤ c ∧ c ≤ 57) ∨ (45 ≤ c ∧ c ≤ 45) ∨ (95 ≤ c ∧ c ≤ 95) ∨ (c < 48 ∧ c ≠ 45) ∨ (57 < c ∧ c < 97 ∧ c ≠ 95) ∨ 122 < c := by omega
theorem low_yes {c : UInt8} (h : 97 ≤ c.toNat ∧ c.toNat ≤ 122) : lowB c = true ∧ chrB c = true := by simp [lowB, chrB, h.1, h.2]
theorem low_no {c : UInt8} (h : c.toNat < 97 ∨ 122 < c.toNat) : lowB c = false := by
  rw [lowB, Bool.and_eq_false_iff]; simp only [decide_eq_false_iff_not]; omega
theorem chr_oth {c : UInt8} (h : (48 ≤ c.toNat ∧ c.toNat ≤ 57) ∨ (45 ≤ c.toNat ∧ c.toNat ≤ 45) ∨ (95 ≤ c.toNat ∧ c.toNat ≤ 95)) : chrB c = true := by
  simp only [chrB, lowB, othB, Bool.or_eq_true, Bool.and_eq_true, decide_eq_true_eq]; omega
theorem chr_bad {c : UInt8} (h : (c.toNat < 48 ∧ c.toNat ≠ 45) ∨ (57 < c.toNat ∧ c.toNat < 97 ∧ c.toNat ≠ 95) ∨ 122 < c.toNat) : chrB c = false := by
  cases hc : chrB c with
  | false => rfl
  | true => simp only [chrB, lowB, othB, Bool.or_eq_true, Bool.and_eq_true, decide_eq_true_eq] at hc; omega
theorem neqB {a : Int} (b : Int) (h : a ≠ b) : (a != b) = true ∧ (a == b) = false := ⟨by rw [bne_iff_ne]; exact h, beq_eq_false_iff_ne.2 h⟩
theorem eqB {a : Int} (b : Int) (h : a = b) : (a != b) = false ∧ (a == b) = true := by
  subst h; simp
set_option maxHeartbeats 4000000 in
theorem src_ValidName (s : ByteArray) (hs : s.size ≤ maxLen) {b : Bool} (hb : nameB s.data.toList = b) (w : World) :
    Calls Tryd.prog 28 #[.string s] w fun e w' => e = .returned (.bool b) ∧ w = w' := by
  unfold maxLen at hs
  have HB := Lib.hid hb
  have HL := Lib.hid (size_len s)
  clear hb
  by_cases h0 : s.size = 0
  · obtain rfl := str_empty s h0
    have : b = false := by rw [← HB.out]; rfl
    subst this
    clear h0
    go_enter Tryd.func28, Tryd.ntmps28
    go_wp2
    go_ret
    exact ⟨rfl, rfl⟩
  obtain ⟨he1, he2, he3⟩ := str_ne s h0
  have hpos : 0 < s.size := by omega
  have e1 : decide (s.data.toList = []) = false := by simpa using he3
  have H00 := Lib.hid (head_at s hpos)
  have hb1 : (decide (s.size ≤ 24) && (!decide (s.data.toList = [97, 110, 121]) && (lowB s[0] && s.data.toList.all chrB))) = b := by
    have := HB.out
    rwa [nameB_eq, e1, Bool.not_false, Bool.true_and, ← HL.out, H00.out] at this
  have H1 := Lib.hid hb1
  clear e1 he3 hb1 HB h0
  by_cases h24 : 24 < s.size
  · have : b = false := by rw [← H1.out, show decide (s.size ≤ 24) = false by simp; omega, Bool.false_and]
    subst this
    go_enter Tryd.func28, Tryd.ntmps28
    go_wp2
    go_ret
    exact ⟨rfl, rfl⟩
  have h24' : decide (s.size ≤ 24) = true := by simp; omega
  have H2 := Lib.hid (by have := H1.out; rwa [h24', Bool.true_and] at this : (!decide (s.data.toList = [97, 110, 121]) && (lowB s[0] && s.data.toList.all chrB)) = b)
  clear h24' H1
  have g24 : decide ((24 : Int) < (s.size : Int)) = false := by simp only [decide_eq_false_iff_not]; omega
  by_cases hany : s.data.toList = [97, 110, 121]
  · have : b = false := by rw [← H2.out, show decide (s.data.toList = [97, 110, 121]) = true by simpa using hany]; rfl
    subst this
    obtain rfl := (any_eq s).2 hany
    clear h24 hany g24
    go_enter Tryd.func28, Tryd.ntmps28
    go_wp2
    go_ret
    exact ⟨rfl, rfl⟩
  have H3 := Lib.hid (by have := H2.out; rwa [show decide (s.data.toList = [97, 110, 121]) = false by simpa using hany, Bool.not_false, Bool.true_and] at this : (lowB s[0] && s.data.toList.all chrB) = b)
  have hy1 : ¬ s.toList = [97, 110, 121] := by rw [ByteArray.toList_eq]; exact hany
  have hy2 : (s.toList == [97, 110, 121]) = false := by rw [beq_eq_false_iff_ne]; exact hy1
  clear H2 hany h24
  by_cases hl : 97 ≤ s[0].toNat ∧ s[0].toNat ≤ 122
  · have H4 : Hid (s.data.toList.all chrB = b) := Lib.hid (by have := H3.out; rwa [(low_yes hl).1, Bool.true_and] at this)
    obtain ⟨hl0, hl1⟩ := hl
    have gl0 : decide ((s[0].toNat : Int) < 97) = false := by simp only [decide_eq_false_iff_not]; omega
    have gl1 : decide ((122 : Int) < (s[0].toNat : Int)) = false := by simp only [decide_eq_false_iff_not]; omega
    go_enter Tryd.func28, Tryd.ntmps28
    go_wp2_with fail
    clear gl0 gl1 hl0 hl1 hy1 hy2 g24 he1 he2
    go_loop [3] (fun i => ∃ k : Nat, k ≤ s.size ∧ i = .int .i64 k ∧ (s.data.toList.take k).all chrB = true) (fun i => s.size - (intOf i).toNat)
    case atStart => exact ⟨0, by omega, rfl, rfl⟩
    case round =>
      obtain ⟨k, hk, rfl, hd⟩ := hrel
      have HD := Lib.hid hd
      clear hd
      by_cases hlt : k < s.size
      · have hc8 := UInt8.toNat_lt s[k]
        have HT := Lib.hid (all_take_succ chrB s k hlt)
        rcases chr_cases s[k].toNat with h | h | h | h | h | h | h
        · have HG := Lib.hid (low_yes h).2
          obtain ⟨h1, h2⟩ := h
          go_wp2
          go_round
          case rel => exact ⟨k + 1, by omega, by go_num, by rw [HT.out, HD.out, HG.out]; rfl⟩
          case measure => simp [intOf]; omega
        · have HG := Lib.hid (chr_oth (.inl h))
          obtain ⟨h1, h2⟩ := h
          go_wp2
          go_round
          case rel => exact ⟨k + 1, by omega, by go_num, by rw [HT.out, HD.out, HG.out]; rfl⟩
          case measure => simp [intOf]; omega
        · have HG := Lib.hid (chr_oth (.inr (.inl h)))
          have g1 := (eqB 45 (show (s[k].toNat : Int) = 45 by omega)).1
          obtain ⟨h1, h2⟩ := h
          go_wp2
          go_round
          case rel => exact ⟨k + 1, by omega, by go_num, by rw [HT.out, HD.out, HG.out]; rfl⟩
          case measure => simp [intOf]; omega
        · have HG := Lib.hid (chr_oth (.inr (.inr h)))
          have g1 := (eqB 95 (show (s[k].toNat : Int) = 95 by omega)).1
          have g2 := (neqB 45 (show (s[k].toNat : Int) ≠ 45 by omega)).1
          obtain ⟨h1, h2⟩ := h
          go_wp2
          go_round
          case rel => exact ⟨k + 1, by omega, by go_num, by rw [HT.out, HD.out, HG.out]; rfl⟩
          case measure => simp [intOf]; omega
        all_goals
          have : b = false := by
            rw [← H4.out]
            refine all_split _ _ (k + 1) ?_
            rw [HT.out, chr_bad (by omega), Bool.and_false]
          subst this
          have g1 := (neqB 45 (show (s[k].toNat : Int) ≠ 45 by omega)).1
          have g2 := (neqB 95 (show (s[k].toNat : Int) ≠ 95 by omega)).1
          try have g3 : decide ((s[k].toNat : Int) ≤ 57) = false := by simp only [decide_eq_false_iff_not]; omega
          try have g4 : decide ((s[k].toNat : Int) ≤ 122) = false := by simp only [decide_eq_false_iff_not]; omega
          try obtain ⟨h1, h2⟩ := h
          try obtain ⟨h2, h3⟩ := h2
          go_wp2
          go_ret
          exact ⟨rfl, rfl⟩
      · obtain rfl : k = s.size := by omega
        have : b = true := by rw [← H4.out]; have := HD.out; rwa [take_full] at this
        subst this
        go_wp2
        go_ret
        exact ⟨rfl, rfl⟩
  · have : b = false := by rw [← H3.out, low_no (by omega), Bool.false_and]
    subst this
    by_cases hl0 : s[0].toNat < 97
    · go_enter Tryd.func28, Tryd.ntmps28
      go_wp2
      go_ret
      exact ⟨rfl, rfl⟩
    · have gl0 : decide ((s[0].toNat : Int) < 97) = false := by simp only [decide_eq_false_iff_not]; omega
      have hl1 : 122 < s[0].toNat := by omega
      go_enter Tryd.func28, Tryd.ntmps28
      go_wp2
      go_ret
      exact ⟨rfl, rfl⟩
set_option maxHeartbeats 4000000 in
theorem ref_ValidName (s : ByteArray) (hs : s.size ≤ maxLen) {b : Bool} (hb : nameB s.data.toList = b) (w : World) :
    Calls Tryd.prog 29 #[.string s] w fun e w' => e = .returned (.bool b) ∧ w = w' := by
  unfold maxLen at hs
  have HB := Lib.hid hb
  have HL := Lib.hid (size_len s)
  clear hb
  by_cases h0 : s.size = 0
  · obtain rfl := str_empty s h0
    have : b = false := by rw [← HB.out]; rfl
    subst this
    clear h0
    go_enter Tryd.func29, Tryd.ntmps29
    go_wp2
    go_ret
    exact ⟨rfl, rfl⟩
  obtain ⟨he1, he2, he3⟩ := str_ne s h0
  have hpos : 0 < s.size := by omega
  have e1 : decide (s.data.toList = []) = false := by simpa using he3
  have H00 := Lib.hid (head_at s hpos)
  have hb1 : (decide (s.size ≤ 24) && (!decide (s.data.toList = [97, 110, 121]) && (lowB s[0] && s.data.toList.all chrB))) = b := by
    have := HB.out
    rwa [nameB_eq, e1, Bool.not_false, Bool.true_and, ← HL.out, H00.out] at this
  have H1 := Lib.hid hb1
  clear e1 he3 hb1 HB h0
  by_cases h24 : 24 < s.size
  · have : b = false := by rw [← H1.out, show decide (s.size ≤ 24) = false by simp; omega, Bool.false_and]
    subst this
    go_enter Tryd.func29, Tryd.ntmps29
    go_wp2
    go_ret
    exact ⟨rfl, rfl⟩
  have h24' : decide (s.size ≤ 24) = true := by simp; omega
  have H2 := Lib.hid (by have := H1.out; rwa [h24', Bool.true_and] at this : (!decide (s.data.toList = [97, 110, 121]) && (lowB s[0] && s.data.toList.all chrB)) = b)
  clear h24' H1
  have g24 : decide ((24 : Int) < (s.size : Int)) = false := by simp only [decide_eq_false_iff_not]; omega
  by_cases hany : s.data.toList = [97, 110, 121]
  · have : b = false := by rw [← H2.out, show decide (s.data.toList = [97, 110, 121]) = true by simpa using hany]; rfl
    subst this
    obtain rfl := (any_eq s).2 hany
    clear h24 hany g24
    go_enter Tryd.func29, Tryd.ntmps29
    go_wp2
    go_ret
    exact ⟨rfl, rfl⟩
  have H3 := Lib.hid (by have := H2.out; rwa [show decide (s.data.toList = [97, 110, 121]) = false by simpa using hany, Bool.not_false, Bool.true_and] at this : (lowB s[0] && s.data.toList.all chrB) = b)
  have hy1 : ¬ s.toList = [97, 110, 121] := by rw [ByteArray.toList_eq]; exact hany
  have hy2 : (s.toList == [97, 110, 121]) = false := by rw [beq_eq_false_iff_ne]; exact hy1
  clear H2 hany h24
  go_enter Tryd.func29, Tryd.ntmps29
  go_wp2_with fail
  clear hy1 hy2 g24 he1 he2
  go_loop [3] (fun i => ∃ k : Nat, k ≤ s.size ∧ i = .int .i64 k ∧ (s.data.toList.take k).all chrB = true ∧ (k = 0 ∨ lowB s[0] = true)) (fun i => s.size - (intOf i).toNat)
  case atStart => exact ⟨0, by omega, rfl, rfl, .inl rfl⟩
  case round =>
    obtain ⟨k, hk, rfl, hd, hlo⟩ := hrel
    have HD := Lib.hid hd
    have HLO := Lib.hid hlo
    clear hd hlo
    by_cases hlt : k < s.size
    · have hc8 := UInt8.toNat_lt s[k]
      have HT := Lib.hid (all_take_succ chrB s k hlt)
      by_cases hl : 97 ≤ s[k].toNat ∧ s[k].toNat ≤ 122
      · have HG := Lib.hid (low_yes hl).2
        have HLW : Hid (lowB s[0] = true) := Lib.hid (by
          rcases HLO.out with h | h
          · subst h; exact (low_yes hl).1
          · exact h)
        obtain ⟨h1, h2⟩ := hl
        go_wp2
        go_round
        case rel => exact ⟨k + 1, by omega, by go_num, by rw [HT.out, HD.out, HG.out]; rfl, .inr HLW.out⟩
        case measure => simp [intOf]; omega
      · by_cases hk0 : k = 0
        · subst hk0
          have : b = false := by rw [← H3.out, low_no (by omega), Bool.false_and]
          subst this
          clear hk
          rcases chr_cases s[0].toNat with h | h | h | h | h | h | h
          · exact absurd h hl
          all_goals
            try have g1 := (neqB 45 (show (s[0].toNat : Int) ≠ 45 by omega)).2
            try have g1 := (eqB 45 (show (s[0].toNat : Int) = 45 by omega)).2
            try have g2 := (neqB 95 (show (s[0].toNat : Int) ≠ 95 by omega)).2
            try have g2 := (eqB 95 (show (s[0].toNat : Int) = 95 by omega)).2
            try have g3 : decide ((s[0].toNat : Int) ≤ 57) = false := by simp only [decide_eq_false_iff_not]; omega
            try have g4 : decide ((s[0].toNat : Int) ≤ 122) = false := by simp only [decide_eq_false_iff_not]; omega
            clear hl
            try obtain ⟨h1, h2⟩ := h
            try obtain ⟨h2, h3⟩ := h2
            go_wp2
            go_ret
            exact ⟨rfl, rfl⟩
        · have HLW : Hid (lowB s[0] = true) := Lib.hid (by
            rcases HLO.out with h | h
            · exact absurd h hk0
            · exact h)
          have gk : ((k : Int) == 0) = false := by rw [beq_eq_false_iff_ne]; omega
          rcases chr_cases s[k].toNat with h | h | h | h | h | h | h
          · exact absurd h hl
          · have HG := Lib.hid (chr_oth (.inl h))
            obtain ⟨h1, h2⟩ := h
            clear hl
            go_wp2
            go_round
            case rel => exact ⟨k + 1, by omega, by go_num, by rw [HT.out, HD.out, HG.out]; rfl, .inr HLW.out⟩
            case measure => simp [intOf]; omega
          · have HG := Lib.hid (chr_oth (.inr (.inl h)))
            have g1 := (eqB 45 (show (s[k].toNat : Int) = 45 by omega)).2
            obtain ⟨h1, h2⟩ := h
            clear hl
            go_wp2
            go_round
            case rel => exact ⟨k + 1, by omega, by go_num, by rw [HT.out, HD.out, HG.out]; rfl, .inr HLW.out⟩
            case measure => simp [intOf]; omega
          · have HG := Lib.hid (chr_oth (.inr (.inr h)))
            have g1 := (neqB 45 (show (s[k].toNat : Int) ≠ 45 by omega)).2
            have g2 := (eqB 95 (show (s[k].toNat : Int) = 95 by omega)).2
            obtain ⟨h1, h2⟩ := h
            clear hl
            go_wp2
            go_round
            case rel => exact ⟨k + 1, by omega, by go_num, by rw [HT.out, HD.out, HG.out]; rfl, .inr HLW.out⟩
            case measure => simp [intOf]; omega
          all_goals
            have : b = false := by
              rw [← H3.out, Bool.and_eq_false_iff]
              refine .inr (all_split _ _ (k + 1) ?_)
              rw [HT.out, chr_bad (by omega), Bool.and_false]
            subst this
            have g1 := (neqB 45 (show (s[k].toNat : Int) ≠ 45 by omega)).2
            have g2 := (neqB 95 (show (s[k].toNat : Int) ≠ 95 by omega)).2
            try have g3 : decide ((s[k].toNat : Int) ≤ 57) = false := by simp only [decide_eq_false_iff_not]; omega
            try have g4 : decide ((s[k].toNat : Int) ≤ 122) = false := by simp only [decide_eq_false_iff_not]; omega
            clear hl
            try obtain ⟨h1, h2⟩ := h
            try obtain ⟨h2, h3⟩ := h2
            go_wp2
            go_ret
            exact ⟨rfl, rfl⟩
    · obtain rfl : k = s.size := by omega
      have : b = true := by
        rw [← H3.out]
        have h1 := HD.out
        rw [take_full] at h1
        rcases HLO.out with h | h
        · omega
        · rw [h, h1]; rfl
      subst this
      go_wp2
      go_ret
      exact ⟨rfl, rfl⟩
end Go.Proofs.YtmaiillomoehgaaDoor
