/- Walks of the laws of package source: digits. -/
import Derived.Test.YtmaiillomoehgaaDoorTxtM
import Derived.Test.YtmaiillomoehgaaDoorLib
namespace Go.Proofs.YtmaiillomoehgaaDoor
open Go.RowKit
theorem dig_one (d : Nat) (h : d < 10) : (⟨#[48, 49, 50, 51, 52, 53, 54, 55, 56, 57]⟩ : ByteArray).extract d (d + 1) = ⟨#[UInt8.ofNat (48 + d)]⟩ := by
  have : d = 0 ∨ d = 1 ∨ d = 2 ∨ d = 3 ∨ d = 4 ∨ d = 5 ∨ d = 6 ∨ d = 7 ∨ d = 8 ∨ d = 9 := by omega
  rcases this with rfl | rfl | rfl | rfl | rfl | rfl | rfl | rfl | rfl | rfl <;> rfl
/-- what is still to come ahead of the digits -/
def decPre (v : Nat) : List UInt8 := if v = 0 then [] else Lib.decDigits v
theorem decPre_step (v : Nat) : Lib.decDigits v = decPre (v / 10) ++ [UInt8.ofNat (48 + v % 10)] := by
  unfold decPre
  by_cases h : v < 10
  · rw [decD_small v h, if_pos (by omega), Nat.mod_eq_of_lt h]; rfl
  · rw [Lib.decDigits, dif_neg h, if_neg (by omega)]
theorem decLen : ∀ (k u : Nat), u < 10 ^ (k + 1) → (Lib.decDigits u).length ≤ k + 1
  | 0, u, h => by rw [decD_small u (by simpa using h)]; simp
  | k + 1, u, h => by
    by_cases h1 : u < 10
    · rw [decD_small u h1]; simp
    · rw [Lib.decDigits, dif_neg h1, List.length_append, List.length_singleton]
      have := decLen k (u / 10) (by rw [Nat.pow_succ] at h; omega)
      omega
/-- 1 for the empty text -/
def emptyS : Value → Nat
  | .string s => if s.size = 0 then 1 else 0
  | _ => 0
theorem emptyS_list (l : List UInt8) : emptyS (.string ⟨l.toArray⟩) = if l = [] then 1 else 0 := by
  simp only [emptyS, size_list, List.length_eq_zero_iff]
set_option maxHeartbeats 2000000 in
theorem law_digits (n : Int) (h0 : 0 ≤ n) (h1 : n ≤ 9223372036854775807) (w : World) :
    Calls Tryd.prog 20 #[.int .i64 n] w fun e w' => e = .returned (.string ⟨(Lib.decDigits n.toNat).toArray⟩) ∧ w = w' := by
  obtain ⟨n, rfl⟩ := Int.eq_ofNat_of_zero_le h0
  rw [Int.toNat_natCast]
  go_enter Tryd.func20, Tryd.ntmps20
  go_wp2
  go_loop [3, 4] (fun s v => ∃ (k : Nat) (l : List UInt8), k ≤ n ∧ v = .int .i64 k ∧ s = .string ⟨l.toArray⟩ ∧ ((l = [] ∧ k = n) ∨ (l ≠ [] ∧ Lib.decDigits n = decPre k ++ l))) (fun s v => (intOf v).toNat + emptyS s)
  case atStart => exact ⟨n, [], by omega, rfl, rfl, .inl ⟨rfl, rfl⟩⟩
  case round =>
    obtain ⟨k, l, hk, rfl, rfl, hl⟩ := hrel
    have fin : ∀ (d : List UInt8), l = [] ∧ k = n ∨ l ≠ [] ∧ Lib.decDigits n = decPre k ++ l → (l = [] ∨ 0 < k) → d = [UInt8.ofNat (48 + k % 10)] → Lib.decDigits n = decPre (k / 10) ++ (d ++ l) := fun d h hk0 hd => by
      subst hd
      rcases h with ⟨rfl, rfl⟩ | ⟨hne, h⟩
      · rw [List.append_nil]; exact decPre_step k
      · have hk1 : 0 < k := by rcases hk0 with h1 | h1; · exact absurd h1 hne
                               · exact h1
        rw [h, decPre, if_neg (by omega), decPre_step k, List.append_assoc]
    have FIN := Lib.hid fin
    have HLL := Lib.hid hl
    have HD := Lib.hid (dig_one (k % 10) (by omega))
    clear fin hl
    have hlen : l.length ≤ 20 := by
      rcases HLL.out with ⟨h, _⟩ | ⟨_, h⟩
      · rw [h]; decide
      · have h2 := decLen 19 n (by omega)
        rw [h, List.length_append] at h2
        omega
    have hsum : ¬ 9223372036854775807 < min (k % 10 + 1) 10 - k % 10 + l.length := by omega
    have app : (⟨#[48, 49, 50, 51, 52, 53, 54, 55, 56, 57]⟩ : ByteArray).extract (k % 10) (k % 10 + 1) ++ ⟨l.toArray⟩ = ⟨(UInt8.ofNat (48 + k % 10) :: l).toArray⟩ := by
      rw [HD.out, ByteArray.mk_append_mk]; congr 1
    have APP := Lib.hid app
    clear app
    by_cases h0 : k = 0
    · subst h0
      by_cases hl0 : l = []
      · subst hl0
        have hn : n = 0 := by
          rcases HLL.out with ⟨_, h⟩ | ⟨h, _⟩
          · exact h.symm
          · exact absurd rfl h
        have HN := Lib.hid hn
        clear hn
        go_wp2
        go_round
        case rel => exact ⟨0, [UInt8.ofNat 48], by omega, rfl, congrArg Value.string APP.out, .inr ⟨by simp, FIN.out [UInt8.ofNat 48] HLL.out (.inl rfl) rfl⟩⟩
        case measure => exact Nat.lt_of_lt_of_eq (show 0 + emptyS _ < 1 by rw [show ((⟨#[48, 49, 50, 51, 52, 53, 54, 55, 56, 57]⟩ : ByteArray).extract 0 1 ++ ⟨#[]⟩) = ⟨[UInt8.ofNat 48].toArray⟩ from APP.out, emptyS_list]; decide) rfl
      · have he1 : ¬ (⟨l.toArray⟩ : ByteArray).toList = [] := by rw [ByteArray.toList_eq]; simpa using hl0
        have he2 : (⟨l.toArray⟩ : ByteArray).toList.isEmpty = false := by rw [List.isEmpty_eq_false_iff]; exact he1
        have he3 : l.isEmpty = false := by rw [List.isEmpty_eq_false_iff]; exact hl0
        have hf : Lib.decDigits n = l := by
          rcases HLL.out with ⟨h, _⟩ | ⟨_, h⟩
          · exact absurd h hl0
          · rw [h]; rfl
        have HF := Lib.hid hf
        clear hf
        go_wp2
        go_ret
        exact ⟨by rw [HF.out]; rfl, rfl⟩
    · have hpos : 0 < k := by omega
      go_wp2
      go_round
      case rel => exact ⟨k / 10, UInt8.ofNat (48 + k % 10) :: l, by omega, by go_num, congrArg Value.string APP.out, .inr ⟨by simp, FIN.out [UInt8.ofNat (48 + k % 10)] HLL.out (.inr hpos) rfl⟩⟩
      case measure =>
        rw [APP.out, emptyS_list, if_neg (by simp)]
        simp only [intOf]
        omega
end Go.Proofs.YtmaiillomoehgaaDoor
