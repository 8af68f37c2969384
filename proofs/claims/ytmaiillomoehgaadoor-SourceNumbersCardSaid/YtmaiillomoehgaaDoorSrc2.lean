/- Walks of package source and of its reference: digits, names. -/
import Derived.Test.YtmaiillomoehgaaDoorSrc1
namespace Go.Proofs.YtmaiillomoehgaaDoor
open Go.RowKit
theorem all_take_succ (p : UInt8 → Bool) (s : ByteArray) (k : Nat) (h : k < s.size) : (s.data.toList.take (k + 1)).all p = ((s.data.toList.take k).all p && p s[k]) := by
  rw [List.take_succ_eq_append_getElem (by rw [← size_len]; exact h), List.all_append]
  simp
  rfl
theorem all_split (p : UInt8 → Bool) (l : List UInt8) (k : Nat) (h : (l.take k).all p = false) : l.all p = false := by
  rw [← List.take_append_drop k l, List.all_append, h, Bool.false_and]
theorem take_full (s : ByteArray) : s.data.toList.take s.size = s.data.toList := List.take_of_length_le (by rw [← size_len]; exact Nat.le_refl _)
set_option maxHeartbeats 2000000 in
theorem ref_Digits (s : ByteArray) (hs : s.size ≤ maxLen) {b : Bool} (hb : digitsB s.data.toList = b) (w : World) :
    Calls Tryd.prog 40 #[.string s] w fun e w' => e = .returned (.bool b) ∧ w = w' := by
  unfold maxLen at hs
  have HB := Lib.hid hb
  have HL := Lib.hid (size_len s)
  clear hb
  go_enter Tryd.func40, Tryd.ntmps40
  go_wp2
  go_loop [3] (fun i => ∃ k : Nat, k ≤ s.size ∧ i = .int .i64 k ∧ allDig (s.data.toList.take k) = true) (fun i => s.size - (intOf i).toNat)
  case atStart => exact ⟨0, by omega, rfl, rfl⟩
  case round =>
    obtain ⟨k, hk, rfl, hd⟩ := hrel
    have HD := Lib.hid hd
    clear hd
    by_cases hlt : k < s.size
    · have hc8 := UInt8.toNat_lt s[k]
      have HT := Lib.hid (all_take_succ (fun c => decide (48 ≤ c.toNat) && decide (c.toNat ≤ 57)) s k hlt)
      by_cases hdig : 48 ≤ s[k].toNat ∧ s[k].toNat ≤ 57
      · obtain ⟨hd0, hd1⟩ := hdig
        go_wp2
        go_round
        case rel =>
          refine ⟨k + 1, by omega, by go_num, ?_⟩
          have h1 := HT.out
          have h2 := HD.out
          unfold allDig at h2 ⊢
          rw [h1, h2]
          simp [hd0, hd1]
        case measure => simp [intOf]; omega
      · have : b = false := by
          rw [← HB.out, digitsB]
          have : allDig s.data.toList = false := by
            refine all_split _ _ (k + 1) ?_
            rw [HT.out, Bool.and_eq_false_iff]
            refine .inr ?_
            rw [Bool.and_eq_false_iff]
            simp only [decide_eq_false_iff_not]
            omega
          rw [this]; rfl
        subst this
        by_cases hd0 : 48 ≤ s[k].toNat
        · have hd1 : 57 < s[k].toNat := by omega
          go_wp2
          go_ret
          exact ⟨rfl, rfl⟩
        · go_wp2
          go_ret
          exact ⟨rfl, rfl⟩
    · obtain rfl : k = s.size := by omega
      have hall : allDig s.data.toList = true := by have := HD.out; rwa [take_full] at this
      have hb2 : (!decide (s.data.toList = []) && (decide (s.data.toList.length = 1) || !decide ((s.data.toList.getD 0 0).toNat = 48))) = b := by
        have := HB.out
        rwa [digitsB, hall, Bool.true_and] at this
      have H2 := Lib.hid hb2
      clear hall hb2 HB HD
      by_cases h0 : s.size = 0
      · obtain rfl := str_empty s h0
        have : b = false := by rw [← H2.out]; rfl
        subst this
        clear h0
        go_wp2
        go_ret
        exact ⟨rfl, rfl⟩
      · obtain ⟨he1, he2, he3⟩ := str_ne s h0
        have hpos : 0 < s.size := by omega
        have e1 : decide (s.data.toList = []) = false := by simpa using he3
        have e3 := head_at s hpos
        have hb3 : (decide (s.size = 1) || !decide (s[0].toNat = 48)) = b := by
          have := H2.out
          rwa [e1, Bool.not_false, Bool.true_and, ← HL.out, e3] at this
        have H3 := Lib.hid hb3
        clear e1 e3 hb3 H2 he3
        rcases Bool.eq_false_or_eq_true ((s.size : Int) == 1) with g1 | g1
        · have : b = true := by
            rw [← H3.out]
            have := eq_of_beq g1
            simp only [show s.size = 1 by omega, decide_true, Bool.true_or]
          subst this
          go_wp2
          go_ret
          exact ⟨rfl, rfl⟩
        · have hn1 : decide (s.size = 1) = false := by
            simp only [decide_eq_false_iff_not]; intro h; rw [h] at g1; simp at g1
          rcases Bool.eq_false_or_eq_true ((s[0].toNat : Int) == 48) with g2 | g2
          · have : b = false := by
              rw [← H3.out, hn1]
              have := eq_of_beq g2
              simp only [show s[0].toNat = 48 by omega, decide_true, Bool.not_true, Bool.or_false]
            subst this
            have g3 : ((s[0].toNat : Int) != 48) = false := by rw [bne, g2]; rfl
            clear hn1
            go_wp2
            go_ret
            exact ⟨rfl, rfl⟩
          · have : b = true := by
              rw [← H3.out, hn1]
              have : ¬ s[0].toNat = 48 := by intro h; rw [h] at g2; simp at g2
              simp only [this, decide_false, Bool.not_false, Bool.or_true]
            subst this
            have g3 : ((s[0].toNat : Int) != 48) = true := by rw [bne, g2]; rfl
            clear hn1
            go_wp2
            go_ret
            exact ⟨rfl, rfl⟩
set_option maxHeartbeats 2000000 in
theorem ref_Num (s : ByteArray) (least most : Int) (hl0 : -9223372036854775808 ≤ least) (hl1 : least ≤ 9223372036854775807) (hm0 : -9223372036854775808 ≤ most) (hm1 : most ≤ 9223372036854775807) (hs : s.size ≤ maxLen) {r : Option Int} (hr : numB s.data.toList least most = r) (w : World) :
    Calls Tryd.prog 26 #[.string s, .int .i64 least, .int .i64 most] w fun e w' => e = .returned (.tuple #[.int .i64 (r.getD 0), .bool r.isSome]) ∧ w = w' := by
  rw [numB_ref] at hr
  obtain ⟨d, hd⟩ : ∃ d, digitsB s.data.toList = d := ⟨_, rfl⟩
  rw [hd] at hr
  have HD := Lib.hid hd
  clear hd
  cases d
  · rw [if_pos (.inl rfl)] at hr
    subst hr
    go_enter Tryd.func26, Tryd.ntmps26
    go_wp2_with (go_at_call 40; refine (ref_Digits s hs HD.out _).mono ?_; rintro e w' ⟨rfl, rfl⟩)
    go_ret2
    exact ⟨rfl, rfl⟩
  · by_cases hm : most < 0
    · rw [if_pos (.inr hm)] at hr
      subst hr
      go_enter Tryd.func26, Tryd.ntmps26
      go_wp2_with (go_at_call 40; refine (ref_Digits s hs HD.out _).mono ?_; rintro e w' ⟨rfl, rfl⟩)
      go_ret2
      exact ⟨rfl, rfl⟩
    · rw [if_neg (by simp [hm])] at hr
      have hm' : 0 ≤ most := by omega
      obtain ⟨q, hq⟩ : ∃ q, readB s.data.toList most = q := ⟨_, rfl⟩
      rw [hq] at hr
      have HQ := Lib.hid hq
      clear hq
      cases q with
      | none =>
        have : r = none := hr.symm
        subst this
        clear hr
        go_enter Tryd.func26, Tryd.ntmps26
        go_wp2_with (first | (go_at_call 40; refine (ref_Digits s hs HD.out _).mono ?_; rintro e w' ⟨rfl, rfl⟩) | (go_at_call 41; refine (ref_Read s most hm' hm1 hs HQ.out _).mono ?_; rintro e w' ⟨rfl, rfl⟩))
        go_ret2
        exact ⟨rfl, rfl⟩
      | some n =>
        rw [Option.bind_some] at hr
        by_cases hn : n < least
        · rw [if_pos hn] at hr
          subst hr
          go_enter Tryd.func26, Tryd.ntmps26
          go_wp2_with (first | (go_at_call 40; refine (ref_Digits s hs HD.out _).mono ?_; rintro e w' ⟨rfl, rfl⟩) | (go_at_call 41; refine (ref_Read s most hm' hm1 hs HQ.out _).mono ?_; rintro e w' ⟨rfl, rfl⟩))
          go_ret2
          exact ⟨rfl, rfl⟩
        · rw [if_neg hn] at hr
          subst hr
          go_enter Tryd.func26, Tryd.ntmps26
          go_wp2_with (first | (go_at_call 40; refine (ref_Digits s hs HD.out _).mono ?_; rintro e w' ⟨rfl, rfl⟩) | (go_at_call 41; refine (ref_Read s most hm' hm1 hs HQ.out _).mono ?_; rintro e w' ⟨rfl, rfl⟩))
          go_ret2
          exact ⟨rfl, rfl⟩
end Go.Proofs.YtmaiillomoehgaaDoor
