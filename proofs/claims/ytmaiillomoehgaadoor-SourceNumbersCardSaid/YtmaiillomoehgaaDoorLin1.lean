/- Walks of package source: printable. -/
import Derived.Test.YtmaiillomoehgaaDoorLinM
import Derived.Test.YtmaiillomoehgaaDoorSrc2
import Derived.Test.YtmaiillomoehgaaDoorEq
namespace Go.Proofs.YtmaiillomoehgaaDoor
open Go.RowKit
set_option maxHeartbeats 2000000 in
theorem src_printable (s : ByteArray) (hs : s.size ≤ maxLen) {b : Bool} (hb : s.data.toList.all prC = b) (w : World) :
    Calls Tryd.prog 33 #[.string s] w fun e w' => e = .returned (.bool b) ∧ w = w' := by
  unfold maxLen at hs
  have HB := Lib.hid hb
  clear hb
  go_enter Tryd.func33, Tryd.ntmps33
  go_wp2
  go_loop [3] (fun i => ∃ k : Nat, k ≤ s.size ∧ i = .int .i64 k ∧ (s.data.toList.take k).all prC = true) (fun i => s.size - (intOf i).toNat)
  case atStart => exact ⟨0, by omega, rfl, rfl⟩
  case round =>
    obtain ⟨k, hk, rfl, hd⟩ := hrel
    have HD := Lib.hid hd
    clear hd
    by_cases hlt : k < s.size
    · have hc8 := UInt8.toNat_lt s[k]
      have HT := Lib.hid (all_take_succ prC s k hlt)
      have bad : prC s[k] = false → b = false := fun h => by
        rw [← HB.out]
        exact all_split _ _ (k + 1) (by rw [HT.out, h, Bool.and_false])
      have BAD := Lib.hid bad
      clear bad
      by_cases h9 : s[k].toNat = 9
      · have HG : Hid (prC s[k] = true) := Lib.hid (by simp [prC, h9])
        have g1 := (eqB 9 (show (s[k].toNat : Int) = 9 by omega)).1
        clear h9
        go_wp2
        go_round
        case rel => exact ⟨k + 1, by omega, by go_num, by rw [HT.out, HD.out, HG.out]; rfl⟩
        case measure => simp [intOf]; omega
      · have g1 := (neqB 9 (show (s[k].toNat : Int) ≠ 9 by omega)).1
        by_cases h32 : s[k].toNat < 32
        · have : b = false := BAD.out (by simp only [prC, Bool.or_eq_false_iff, Bool.and_eq_false_iff, decide_eq_false_iff_not]; omega)
          subst this
          clear h9
          go_wp2
          go_ret
          exact ⟨rfl, rfl⟩
        · have g32 : decide ((s[k].toNat : Int) < 32) = false := by simp only [decide_eq_false_iff_not]; omega
          by_cases h126 : 126 < s[k].toNat
          · have : b = false := BAD.out (by simp only [prC, Bool.or_eq_false_iff, Bool.and_eq_false_iff, decide_eq_false_iff_not]; omega)
            subst this
            clear h9 h32
            go_wp2
            go_ret
            exact ⟨rfl, rfl⟩
          · have g126 : decide ((126 : Int) < (s[k].toNat : Int)) = false := by simp only [decide_eq_false_iff_not]; omega
            have HG : Hid (prC s[k] = true) := Lib.hid (by simp only [prC, Bool.or_eq_true, Bool.and_eq_true, decide_eq_true_eq]; omega)
            clear h9 h32 h126
            go_wp2
            go_round
            case rel => exact ⟨k + 1, by omega, by go_num, by rw [HT.out, HD.out, HG.out]; rfl⟩
            case measure => simp [intOf]; omega
    · obtain rfl : k = s.size := by omega
      have : b = true := by rw [← HB.out]; have := HD.out; rwa [take_full] at this
      subst this
      go_wp2
      go_ret
      exact ⟨rfl, rfl⟩
end Go.Proofs.YtmaiillomoehgaaDoor
