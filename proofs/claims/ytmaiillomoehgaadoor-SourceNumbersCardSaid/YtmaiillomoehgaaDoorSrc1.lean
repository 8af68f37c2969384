/- Walks of package source and of its reference: numbers. -/
import Derived.Test.YtmaiillomoehgaaDoorSrcM
import Derived.Test.YtmaiillomoehgaaDoorRefT1
namespace Go.Proofs.YtmaiillomoehgaaDoor
open Go.RowKit
theorem str_ne (s : ByteArray) (h : ¬ s.size = 0) : (¬ s.toList = []) ∧ s.toList.isEmpty = false ∧ ¬ s.data.toList = [] := by
  have h1 : ¬ s.data.toList = [] := fun h2 => h (by rw [size_len, h2]; rfl)
  have h2 : ¬ s.toList = [] := by rw [ByteArray.toList_eq]; exact h1
  exact ⟨h2, by rw [List.isEmpty_eq_false_iff]; exact h2, h1⟩
theorem head_at (s : ByteArray) (h : 0 < s.size) : s.data.toList.getD 0 0 = s[0] := by
  rw [List.getD_eq_getElem?_getD, List.getElem?_eq_getElem (by rw [← size_len]; exact h)]; rfl
theorem dec_bd (l : List UInt8) (k n : Nat) (h : decGo (l.take k) 0 = some n) (hk : k ≤ l.length) : n < 10 ^ k := by
  have := decGo_lt _ _ _ h
  rw [List.length_take, Nat.min_eq_left hk] at this
  simpa using this
theorem decGo_app (l1 l2 : List UInt8) (n : Nat) : decGo (l1 ++ l2) n = (decGo l1 n).bind (decGo l2) := by
  induction l1 generalizing n with
  | nil => simp [decGo]
  | cons c l ih =>
    simp only [List.cons_append, decGo]
    split
    · rfl
    · exact ih _
set_option maxHeartbeats 4000000 in
theorem src_Number (s : ByteArray) (least most : Int) (hl0 : -9223372036854775808 ≤ least) (hl1 : least ≤ 9223372036854775807) (hm0 : -9223372036854775808 ≤ most) (hm1 : most ≤ 9223372036854775807) (hs : s.size ≤ maxLen) {r : Option Int} (hr : numB s.data.toList least most = r) (w : World) :
    Calls Tryd.prog 21 #[.string s, .int .i64 least, .int .i64 most] w fun e w' => e = .returned (.tuple #[.int .i64 (r.getD 0), .bool r.isSome]) ∧ w = w' := by
  unfold maxLen at hs
  have HR := Lib.hid hr
  have HL := Lib.hid (size_len s)
  clear hr
  by_cases h0 : s.size = 0
  · obtain rfl := str_empty s h0
    have : r = none := by rw [← HR.out]; exact numB_no [] least most hm1 rfl
    subst this
    clear h0
    go_enter Tryd.func21, Tryd.ntmps21
    go_wp2
    go_ret2
    exact ⟨rfl, rfl⟩
  · obtain ⟨he1, he2, he3⟩ := str_ne s h0
    have hpos : 0 < s.size := by omega
    have H3 := Lib.hid he3
    have H00 := Lib.hid (head_at s hpos)
    clear he3
    have bad : srcOk s.data.toList most = false → r = none := fun h => by rw [← HR.out]; exact numB_no _ _ _ hm1 h
    have BAD := Lib.hid bad
    clear bad
    by_cases h19 : 19 < s.size
    · have : r = none := BAD.out (by simp [srcOk, ← HL.out, h19])
      subst this
      go_enter Tryd.func21, Tryd.ntmps21
      go_wp2
      go_ret2
      exact ⟨rfl, rfl⟩
    · rcases Bool.eq_false_or_eq_true (decide ((1 : Int) < (s.size : Int)) && ((s[0].toNat : Int) == 48)) with g | g
      · simp only [Bool.and_eq_true, decide_eq_true_eq] at g
        have : r = none := BAD.out (by
          have h1 : 1 < s.data.toList.length := by rw [← HL.out]; omega
          have h2 : (s.data.toList.getD 0 0).toNat = 48 := by rw [H00.out]; have := eq_of_beq g.2; omega
          simp only [srcOk, h1, h2, decide_true, Bool.and_true, Bool.or_true, Bool.true_or, Bool.not_true])
        subst this
        obtain ⟨g1, g2⟩ := g
        go_enter Tryd.func21, Tryd.ntmps21
        go_wp2
        go_ret2
        exact ⟨rfl, rfl⟩
      · have g' : decide ((1 : Int) < (s.size : Int)) = false ∨ (decide ((1 : Int) < (s.size : Int)) = true ∧ ((s[0].toNat : Int) == 48) = false) := by
          cases h1 : decide ((1 : Int) < (s.size : Int)) <;> cases h2 : ((s[0].toNat : Int) == 48) <;> simp_all
        have G := Lib.hid g
        clear g
        by_cases hm : most < 0
        · have : r = none := BAD.out (by simp [srcOk, hm])
          subst this
          rcases g' with g1 | ⟨g1, g2⟩
          all_goals
            go_enter Tryd.func21, Tryd.ntmps21
            go_wp2
            go_ret2
            exact ⟨rfl, rfl⟩
        · have hok : srcOk s.data.toList most = true := by
            have e1 : decide (s.data.toList = []) = false := by simpa using H3.out
            have e2 : decide (19 < s.data.toList.length) = false := by rw [← HL.out]; simpa using h19
            have e3 : (decide (1 < s.data.toList.length) && decide ((s.data.toList.getD 0 0).toNat = 48)) = false := by
              rw [H00.out, ← HL.out]
              have h2 := G.out
              rw [Bool.and_eq_false_iff] at h2 ⊢
              rcases h2 with h2 | h2
              · exact .inl (by simp only [decide_eq_false_iff_not] at h2 ⊢; omega)
              · exact .inr (by simp only [decide_eq_false_iff_not]; intro h3; rw [h3] at h2; simp at h2)
            have e4 : decide (most < 0) = false := by simpa using hm
            rw [srcOk, e1, e2, e3, e4]; rfl
          have HY := Lib.hid ((numB_yes _ least most hok).symm.trans HR.out)
          clear hok HR
          rcases g' with g1 | ⟨g1, g2⟩
          all_goals
            go_enter Tryd.func21, Tryd.ntmps21
            go_wp2_with fail
            try clear g2
            clear g1 he1 he2
            go_loop [8, 9] (fun n i => ∃ (k v : Nat), k ≤ s.size ∧ i = .int .i64 k ∧ n = .int .u64 v ∧ decGo (s.data.toList.take k) 0 = some v) (fun _ i => s.size - (intOf i).toNat)
            case atStart => exact ⟨0, 0, by omega, rfl, rfl, rfl⟩
            case round =>
              obtain ⟨k, v, hk, rfl, rfl, hd⟩ := hrel
              have hv := dec_bd _ _ _ hd (by rw [← HL.out]; exact hk)
              have h20 : v < 10000000000000000000 := Nat.lt_of_lt_of_le hv (Nat.pow_le_pow_right (n := 10) (by decide) (show k ≤ 19 by omega))
              by_cases hlt : k < s.size
              · have hc8 := UInt8.toNat_lt s[k]
                have hts : s.data.toList.take (k + 1) = s.data.toList.take k ++ [s[k]] := by
                  rw [List.take_succ_eq_append_getElem (by rw [← HL.out]; exact hlt)]; rfl
                have h19' : v < 1000000000000000000 := Nat.lt_of_lt_of_le hv (Nat.pow_le_pow_right (n := 10) (by decide) (show k ≤ 18 by omega))
                have HD := Lib.hid hd
                have HTS := Lib.hid hts
                clear hd hts hv
                by_cases hdig : 48 ≤ s[k].toNat ∧ s[k].toNat ≤ 57
                · obtain ⟨hd0, hd1⟩ := hdig
                  go_wp2
                  go_round
                  case rel =>
                    refine ⟨k + 1, 10 * v + (s[k].toNat - 48), by omega, rfl, by go_num, ?_⟩
                    rw [HTS.out, decGo_app, HD.out, Option.bind_some, decGo, if_neg (by omega), decGo]
                  case measure => simp [intOf]; omega
                · have : r = none := by
                    rw [← HY.out]
                    have : decGo s.data.toList 0 = none := by
                      rw [← List.take_append_drop k s.data.toList, decGo_app, HD.out, Option.bind_some, drop_cons s k hlt, decGo, if_pos (by omega)]
                    rw [this]; rfl
                  subst this
                  by_cases hd0 : 48 ≤ s[k].toNat
                  · have hd1 : 57 < s[k].toNat := by omega
                    go_wp2
                    go_ret2
                    exact ⟨rfl, rfl⟩
                  · go_wp2
                    go_ret2
                    exact ⟨rfl, rfl⟩
              · obtain rfl : k = s.size := by omega
                have hfull : decGo s.data.toList 0 = some v := by
                  rw [← hd, List.take_of_length_le (by rw [← HL.out]; exact Nat.le_refl _)]
                have hres : (if most < (v : Int) ∨ (v : Int) < least then none else some (v : Int)) = r := by
                  have := HY.out
                  rwa [hfull] at this
                have HF := Lib.hid hres
                clear hfull hres hd hv
                by_cases hb : most < (v : Int)
                · obtain rfl : r = none := by rw [← HF.out, if_pos (.inl hb)]
                  go_wp2
                  go_ret2
                  exact ⟨rfl, rfl⟩
                · by_cases hb2 : (v : Int) < least
                  · obtain rfl : r = none := by rw [← HF.out, if_pos (.inr hb2)]
                    go_wp2
                    go_ret2
                    exact ⟨rfl, rfl⟩
                  · obtain rfl : r = some (v : Int) := by rw [← HF.out, if_neg (by omega)]
                    go_wp2
                    go_ret2
                    exact ⟨rfl, rfl⟩
end Go.Proofs.YtmaiillomoehgaaDoor
