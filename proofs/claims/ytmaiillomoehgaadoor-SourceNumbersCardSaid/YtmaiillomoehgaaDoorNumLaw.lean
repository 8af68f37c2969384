/- SourceNumbers: the law. -/
import Derived.Test.YtmaiillomoehgaaDoorSane10
import Derived.Test.YtmaiillomoehgaaDoorDig
import Derived.Test.YtmaiillomoehgaaDoorGen1
namespace Go.Proofs.YtmaiillomoehgaaDoor
open Go.RowKit
theorem decD_inj (u v : Nat) (h : Lib.decDigits u = Lib.decDigits v) : u = v := by
  have h1 := readB_dec ((max u v : Nat) : Int) u (by omega)
  have h2 := readB_dec ((max u v : Nat) : Int) v (by omega)
  rw [h, h2] at h1
  simp at h1
  omega
theorem numB_dec (u : Nat) (least most : Int) (hm : 0 ≤ most) : numB (Lib.decDigits u) least most = if least ≤ (u : Int) ∧ (u : Int) ≤ most then some (u : Int) else none := by
  unfold numB
  rw [if_neg (by omega)]
  by_cases h : (u : Int) ≤ most
  · rw [readB_dec most u h, Option.bind_some]
    by_cases h2 : (u : Int) < least
    · rw [if_pos h2, if_neg (by omega)]
    · rw [if_neg h2, if_pos (by omega)]
  · rw [if_neg (by omega)]
    cases hr : readB (Lib.decDigits u) most with
    | none => rfl
    | some v =>
      have h1 := readB_bd hm hr
      have h2 := decD_inj _ _ (readB_only _ _ _ hr)
      omega
theorem ports_dec (u v : Nat) : portsL (Lib.decDigits u ++ 45 :: Lib.decDigits v) = if u ≤ v ∧ v ≤ 65535 then some ((u : Int), (v : Int)) else none := by
  have hp : ∀ w, ∀ x ∈ Lib.decDigits w, x ≠ 45 := fun w x hx h => by
    have := decD_range w x hx
    rw [h] at this
    simp at this
  unfold portsL
  rw [partsL_app 45 _ _ (hp u), partsL_plain 45 _ (hp v)]
  dsimp only
  rw [numB_dec u 0 65535 (by decide)]
  by_cases h1 : (u : Int) ≤ 65535
  · rw [if_pos (by omega), Option.bind_some, numB_dec v u 65535 (by decide)]
    by_cases h2 : u ≤ v ∧ v ≤ 65535
    · rw [if_pos (by omega), Option.bind_some, if_pos h2]
    · rw [if_neg (by omega), if_neg h2]; rfl
  · rw [if_neg (by omega), if_neg (by omega)]; rfl
theorem numB_zero (l : List UInt8) (h : l ≠ []) (least most : Int) : numB (48 :: l) least most = none := by
  unfold numB
  split
  · rfl
  · unfold readB
    rw [if_pos (.inr ⟨by simp; exact List.length_pos_iff.2 h, rfl⟩)]; rfl
theorem numB_text (s : ByteArray) (least most w : Int) (h : numB s.data.toList least most = some w) : (⟨(Lib.decDigits w.toNat).toArray⟩ : ByteArray) = s := by
  unfold numB at h
  split at h
  · cases h
  · rw [Option.bind_eq_some_iff] at h
    obtain ⟨m, h1, h2⟩ := h
    split at h2
    · cases h2
    · simp only [Option.some.injEq] at h2
      subst h2
      exact (list_bytes s _ (readB_only _ _ _ h1).symm).symm
set_option maxRecDepth 100000 in
set_option maxHeartbeats 8000000 in
theorem law_SourceNumbers (n m : Int) (s : ByteArray) (hn0 : -9223372036854775808 ≤ n) (hn1 : n ≤ 9223372036854775807) (hm0 : -9223372036854775808 ≤ m) (hm1 : m ≤ 9223372036854775807) (hs : s.size ≤ maxLen) (w : World) (hml : ML w) :
    Calls Tryd.prog 5 #[.int .i64 n, .int .i64 m, .string s] w fun e w' => e = .returned (.bool true) ∧ Below w.heap.size w w' := by
  have HMA := Lib.hid (fun w => gen_Mod n 70000 hn0 hn1 (by decide) (by decide) w)
  have HMB := Lib.hid (fun w => gen_Mod m 70000 hm0 hm1 (by decide) (by decide) w)
  have ha : 0 ≤ n % 18446744073709551616 % 70000 ∧ n % 18446744073709551616 % 70000 < 70000 := by omega
  have hb : 0 ≤ m % 18446744073709551616 % 70000 ∧ m % 18446744073709551616 % 70000 < 70000 := by omega
  generalize n % 18446744073709551616 % 70000 = a at *
  generalize m % 18446744073709551616 % 70000 = b at *
  obtain ⟨ha0, ha1⟩ := ha
  obtain ⟨hb0, hb1⟩ := hb
  obtain ⟨u, rfl⟩ := Int.eq_ofNat_of_zero_le ha0
  obtain ⟨v, rfl⟩ := Int.eq_ofNat_of_zero_le hb0
  obtain ⟨x, hx⟩ : ∃ x : ByteArray, x = ⟨(Lib.decDigits u).toArray⟩ := ⟨_, rfl⟩
  obtain ⟨y, hy⟩ : ∃ y : ByteArray, y = ⟨(Lib.decDigits v).toArray⟩ := ⟨_, rfl⟩
  have HDA : Hid (∀ w, Calls Tryd.prog 20 #[.int .i64 u] w fun e w' => e = .returned (.string x) ∧ w = w') := Lib.hid fun w => by rw [hx]; exact law_digits u ha0 (by omega) w
  have HDB : Hid (∀ w, Calls Tryd.prog 20 #[.int .i64 v] w fun e w' => e = .returned (.string y) ∧ w = w') := Lib.hid fun w => by rw [hy]; exact law_digits v hb0 (by omega) w
  have hxl : x.size ≤ 5 := by rw [hx, size_list]; exact decLen 4 u (by omega)
  have hyl : y.size ≤ 5 := by rw [hy, size_list]; exact decLen 4 v (by omega)
  have hxn : x.data.toList = Lib.decDigits u := by rw [hx]
  have hyn : y.data.toList = Lib.decDigits v := by rw [hy]
  have HNX : Hid (numB x.data.toList 0 65535 = if (u : Int) ≤ 65535 then some (u : Int) else none) := Lib.hid (by rw [hxn, numB_dec u 0 65535 (by decide)]; by_cases h : (u : Int) ≤ 65535 <;> simp [h])
  have HN0 : Hid (numB (⟨#[48]⟩ ++ x).data.toList 0 1099511627776 = none) := Lib.hid (by
    rw [ByteArray.data_append, Array.toList_append, hxn]
    exact numB_zero _ (decD_ne u) _ _)
  have HPR : Hid (portsL ((x ++ ⟨#[45]⟩) ++ y).data.toList = if u ≤ v ∧ v ≤ 65535 then some ((u : Int), (v : Int)) else none) := Lib.hid (by
    rw [ByteArray.data_append, Array.toList_append, ByteArray.data_append, Array.toList_append, hxn, hyn]
    rw [← ports_dec u v]; simp)
  obtain ⟨q, hq⟩ : ∃ q, numB s.data.toList 0 1099511627776 = q := ⟨_, rfl⟩
  have HQ := Lib.hid hq
  have HML := Lib.hid hml
  have hsx : ¬ 9223372036854775807 < 1 + x.size := by omega
  have hsy : ¬ 9223372036854775807 < x.size + 1 := by omega
  have hsz : ¬ 9223372036854775807 < x.size + 1 + y.size := by omega
  clear hx hy hxn hyn hq hml
  have hps : ((x ++ ⟨#[45]⟩) ++ y).size ≤ maxLen := by
    rw [ByteArray.size_append, ByteArray.size_append, show (⟨#[45]⟩ : ByteArray).size = 1 from rfl]; unfold maxLen; omega
  have hzs : (⟨#[48]⟩ ++ x : ByteArray).size ≤ maxLen := by
    rw [ByteArray.size_append, show (⟨#[48]⟩ : ByteArray).size = 1 from rfl]; unfold maxLen; omega
  have hxm : x.size ≤ maxLen := by unfold maxLen; omega
  have e1 := u32_in (u : Int) (by omega) (by omega)
  have e2 := u32_in (v : Int) (by omega) (by omega)
  have HDZ : ∀ z, q = some z → (0 ≤ z ∧ z ≤ 1099511627776) ∧ ∀ w, Calls Tryd.prog 20 #[.int .i64 z] w fun e w' => e = .returned (.string s) ∧ w = w' := fun z hz => by
    have h1 := HQ.out.trans hz
    have h2 := numB_bd h1
    refine ⟨h2.2, fun w => ?_⟩
    have := law_digits z h2.2.1 (by omega) w
    rwa [numB_text s _ _ z h1] at this
  have HDZ' := Lib.hid HDZ
  clear HDZ
  have key : ∀ (n1 : Option Int) (p1 : Option (Int × Int)), numB x.data.toList 0 65535 = n1 → portsL ((x ++ ⟨#[45]⟩) ++ y).data.toList = p1 →
      ((n1 = none ∧ decide ((u : Int) ≤ 65535) = false) ∨ (n1 = some (u : Int) ∧ decide ((u : Int) ≤ 65535) = true)) →
      ((p1 = none ∧ decide (u ≤ v) = false) ∨ (p1 = none ∧ decide (u ≤ v) = true ∧ decide ((v : Int) ≤ 65535) = false) ∨ (p1 = some ((u : Int), (v : Int)) ∧ decide (u ≤ v) = true ∧ decide ((v : Int) ≤ 65535) = true)) →
      Calls Tryd.prog 5 #[.int .i64 n, .int .i64 m, .string s] w fun e w' => e = .returned (.bool true) ∧ Below w.heap.size w w' := by
    intro n1 p1 hn hp hc1 hc2
    have HN1 := Lib.hid hn
    have HP1 := Lib.hid hp
    clear hn hp HNX HPR
    cases q with
    | none =>
      clear HDZ'
      rcases hc1 with ⟨rfl, g1⟩ | ⟨rfl, g1⟩ <;> rcases hc2 with ⟨rfl, g2⟩ | ⟨rfl, g2, g3⟩ | ⟨rfl, g2, g3⟩
      all_goals
        go_enter Tryd.func5, Tryd.ntmps5
        go_wp2_with (first | (go_at_call 13; with_reducible refine (HMA.out _).mono ?_; rintro e w' ⟨rfl, rfl⟩) | (go_at_call 13; with_reducible refine (HMB.out _).mono ?_; rintro e w' ⟨rfl, rfl⟩) | (go_at_call 20; with_reducible refine (HDA.out _).mono ?_; rintro e w' ⟨rfl, rfl⟩) | (go_at_call 20; with_reducible refine (HDB.out _).mono ?_; rintro e w' ⟨rfl, rfl⟩) | (go_at_call 21; with_reducible refine (src_Number _ 0 65535 (by decide) (by decide) (by decide) (by decide) hxm HN1.out _).mono ?_; rintro e w' ⟨rfl, rfl⟩) | (go_at_call 21; with_reducible refine (src_Number _ 0 1099511627776 (by decide) (by decide) (by decide) (by decide) hs HQ.out _).mono ?_; rintro e w' ⟨rfl, rfl⟩) | (go_at_call 21; with_reducible refine (src_Number _ 0 1099511627776 (by decide) (by decide) (by decide) (by decide) hzs HN0.out _).mono ?_; rintro e w' ⟨rfl, rfl⟩) | (go_at_call 22; with_reducible refine (src_Ports _ hps HP1.out _).mono ?_; rintro e w2 ⟨rfl, hb2⟩; have HB2 := Lib.hid hb2; have hs2 := hb2.size; clear hb2) | (go_at_call 15; with_reducible refine (law10_sane _ (HML.out.below (by ((repeat (first | exact Below.refl _ _ | refine Below.drew ?_ | refine Below.setCell ?_ (by first | (simp; done) | (simp; omega) | omega) _ | refine Below.alloc ?_ (by first | (simp; done) | (simp; omega) | omega) _ | refine Below.trans ?_ (Below.mono HB2.out (by first | (simp; done) | (simp; omega) | omega)))); done)))).mono ?_; rintro e w3 ⟨rfl, hb3⟩; have HB3 := Lib.hid hb3; clear hb3))
        go_ret
        exact ⟨rfl, by ((repeat (first | exact Below.refl _ _ | refine Below.drew ?_ | refine Below.setCell ?_ (by first | (simp; done) | (simp; omega) | omega) _ | refine Below.alloc ?_ (by first | (simp; done) | (simp; omega) | omega) _ | refine Below.trans ?_ (Below.mono HB3.out (by first | (simp; done) | (simp; omega) | omega)) | refine Below.trans ?_ (Below.mono HB2.out (by first | (simp; done) | (simp; omega) | omega)))); done)⟩
    | some z =>
      have HZ := Lib.hid (HDZ'.out z rfl).2
      have hz0 := (HDZ'.out z rfl).1
      clear HDZ'
      rcases hc1 with ⟨rfl, g1⟩ | ⟨rfl, g1⟩ <;> rcases hc2 with ⟨rfl, g2⟩ | ⟨rfl, g2, g3⟩ | ⟨rfl, g2, g3⟩
      all_goals
        go_enter Tryd.func5, Tryd.ntmps5
        go_wp2_with (first | (go_at_call 13; with_reducible refine (HMA.out _).mono ?_; rintro e w' ⟨rfl, rfl⟩) | (go_at_call 13; with_reducible refine (HMB.out _).mono ?_; rintro e w' ⟨rfl, rfl⟩) | (go_at_call 20; with_reducible refine (HDA.out _).mono ?_; rintro e w' ⟨rfl, rfl⟩) | (go_at_call 20; with_reducible refine (HDB.out _).mono ?_; rintro e w' ⟨rfl, rfl⟩) | (go_at_call 20; with_reducible refine (HZ.out _).mono ?_; rintro e w' ⟨rfl, rfl⟩) | (go_at_call 21; with_reducible refine (src_Number _ 0 65535 (by decide) (by decide) (by decide) (by decide) hxm HN1.out _).mono ?_; rintro e w' ⟨rfl, rfl⟩) | (go_at_call 21; with_reducible refine (src_Number _ 0 1099511627776 (by decide) (by decide) (by decide) (by decide) hs HQ.out _).mono ?_; rintro e w' ⟨rfl, rfl⟩) | (go_at_call 21; with_reducible refine (src_Number _ 0 1099511627776 (by decide) (by decide) (by decide) (by decide) hzs HN0.out _).mono ?_; rintro e w' ⟨rfl, rfl⟩) | (go_at_call 22; with_reducible refine (src_Ports _ hps HP1.out _).mono ?_; rintro e w2 ⟨rfl, hb2⟩; have HB2 := Lib.hid hb2; have hs2 := hb2.size; clear hb2) | (go_at_call 15; with_reducible refine (law10_sane _ (HML.out.below (by ((repeat (first | exact Below.refl _ _ | refine Below.drew ?_ | refine Below.setCell ?_ (by first | (simp; done) | (simp; omega) | omega) _ | refine Below.alloc ?_ (by first | (simp; done) | (simp; omega) | omega) _ | refine Below.trans ?_ (Below.mono HB2.out (by first | (simp; done) | (simp; omega) | omega)))); done)))).mono ?_; rintro e w3 ⟨rfl, hb3⟩; have HB3 := Lib.hid hb3; clear hb3))
        go_ret
        exact ⟨rfl, by ((repeat (first | exact Below.refl _ _ | refine Below.drew ?_ | refine Below.setCell ?_ (by first | (simp; done) | (simp; omega) | omega) _ | refine Below.alloc ?_ (by first | (simp; done) | (simp; omega) | omega) _ | refine Below.trans ?_ (Below.mono HB3.out (by first | (simp; done) | (simp; omega) | omega)) | refine Below.trans ?_ (Below.mono HB2.out (by first | (simp; done) | (simp; omega) | omega)))); done)⟩
  refine key _ _ rfl rfl ?_ ?_
  · rw [HNX.out]
    by_cases h : (u : Int) ≤ 65535
    · exact .inr ⟨by rw [if_pos h], by simpa using h⟩
    · exact .inl ⟨by rw [if_neg h], by simpa using h⟩
  · rw [HPR.out]
    by_cases h : u ≤ v
    · by_cases h2 : v ≤ 65535
      · exact .inr (.inr ⟨by rw [if_pos ⟨h, h2⟩], by simpa using h, by simp; omega⟩)
      · exact .inr (.inl ⟨by rw [if_neg (fun h3 => h2 h3.2)], by simpa using h, by simp; omega⟩)
    · exact .inl ⟨by rw [if_neg (fun h3 => h h3.1)], by simpa using h⟩
end Go.Proofs.YtmaiillomoehgaaDoor
