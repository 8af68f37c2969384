/- A changed byte is noticed: the checksum tells lists apart that differ in one byte; plain. -/
import Derived.Test.YtobggnpnochnnaaSanJM
set_option linter.unusedVariables false
set_option linter.unusedSimpArgs false
namespace Go.Proofs.Ytobggnpnochnnaa.V
open Go.RowKit
theorem xorN {x y : Nat} (hx : x < 4294967296) (hy : y < 4294967296) : bXor .u32 (x : Int) (y : Int) = ((x ^^^ y : Nat) : Int) ∧ x ^^^ y < 4294967296 := by
  have h : x ^^^ y < 2 ^ 32 := Nat.xor_lt_two_pow hx hy
  refine ⟨?_, h⟩
  have e : (BitVec.ofInt (IntKind.u32.bits) (x : Int) ^^^ BitVec.ofInt (IntKind.u32.bits) (y : Int)).toNat = x ^^^ y := by
    rw [BitVec.ofInt_natCast, BitVec.ofInt_natCast, BitVec.toNat_xor, BitVec.toNat_ofNat, BitVec.toNat_ofNat, show IntKind.u32.bits = 32 from rfl, Nat.mod_eq_of_lt hx, Nat.mod_eq_of_lt hy]
  unfold bXor
  rw [e]
  exact w_u32 ⟨by omega, by omega⟩
theorem xor_cancel_right {x y z : Nat} (h : x ^^^ z = y ^^^ z) : x = y := by
  have := congrArg (· ^^^ z) h
  simpa [Nat.xor_assoc] using this
theorem xor_cancel_left {x y z : Nat} (h : z ^^^ x = z ^^^ y) : x = y := xor_cancel_right (by rw [Nat.xor_comm x z, Nat.xor_comm y z]; exact h)
def crcBitN (r : Nat) : Nat := if r % 2 = 1 then (r / 2) ^^^ 3988292384 else r / 2
theorem crcBit_nat {r : Nat} (h : r < 4294967296) : crcBit (r : Int) = (crcBitN r : Int) ∧ crcBitN r < 4294967296 := by
  have hs : sHr .u32 (r : Int) 1 = ((r / 2 : Nat) : Int) := by rw [sHr_q (q := 2) rfl (by decide)]; omega
  have ha : bAnd .u32 (r : Int) 1 = ((r % 2 : Nat) : Int) := by
    have e : (BitVec.ofInt (IntKind.u32.bits) (r : Int) &&& BitVec.ofInt (IntKind.u32.bits) ((1 : Nat) : Int)).toNat = r % 2 := by
      rw [BitVec.ofInt_natCast, BitVec.ofInt_natCast, BitVec.toNat_and, BitVec.toNat_ofNat, BitVec.toNat_ofNat, show IntKind.u32.bits = 32 from rfl, Nat.mod_eq_of_lt h]
      exact Nat.and_one_is_mod r
    unfold bAnd
    rw [show (1 : Int) = ((1 : Nat) : Int) from rfl, e]
    exact w_u32 ⟨by omega, by omega⟩
  unfold crcBit crcBitN
  rw [hs, ha]
  by_cases hr : r % 2 = 1
  · rw [if_pos (by omega), if_pos hr]
    exact xorN (x := r / 2) (y := 3988292384) (by omega) (by decide)
  · rw [if_neg (by omega), if_neg hr]
    exact ⟨rfl, by omega⟩
theorem top_bit {x : Nat} (h : x < 2147483648) : x.testBit 31 = false := Nat.testBit_lt_two_pow h
theorem crcBitN_inj {r s : Nat} (hr : r < 4294967296) (hs : s < 4294967296) (h : crcBitN r = crcBitN s) : r = s := by
  have key : ∀ x y : Nat, x < 2147483648 → y < 2147483648 → x ^^^ 3988292384 = y → False := fun x y hx hy e => by
    have h1 : (x ^^^ 3988292384).testBit 31 = true := by rw [Nat.testBit_xor, top_bit hx]; decide
    rw [e, top_bit hy] at h1
    cases h1
  unfold crcBitN at h
  by_cases h1 : r % 2 = 1
  · by_cases h2 : s % 2 = 1
    · rw [if_pos h1, if_pos h2] at h
      have := xor_cancel_right h
      omega
    · rw [if_pos h1, if_neg h2] at h
      exact (key _ _ (by omega) (by omega) h).elim
  · by_cases h2 : s % 2 = 1
    · rw [if_neg h1, if_pos h2] at h
      exact (key _ _ (by omega) (by omega) h.symm).elim
    · rw [if_neg h1, if_neg h2] at h
      omega
theorem crcRep_nat : ∀ (k : Nat) (r : Nat), r < 4294967296 → ∃ q : Nat, crcRep k (r : Int) = (q : Int) ∧ q < 4294967296
  | 0, r, h => ⟨r, rfl, h⟩
  | k + 1, r, h => by
    obtain ⟨q, hq, hl⟩ := crcRep_nat k r h
    rw [crcRep, hq]
    exact ⟨_, (crcBit_nat hl).1, (crcBit_nat hl).2⟩
theorem crcRep_inj : ∀ (k : Nat) (r s : Nat), r < 4294967296 → s < 4294967296 → crcRep k (r : Int) = crcRep k (s : Int) → r = s
  | 0, r, s, _, _, h => Int.ofNat.inj h
  | k + 1, r, s, hr, hs, h => by
    obtain ⟨q, hq, hl⟩ := crcRep_nat k r hr
    obtain ⟨p, hp, hm⟩ := crcRep_nat k s hs
    rw [crcRep, crcRep, hq, hp, (crcBit_nat hl).1, (crcBit_nat hm).1] at h
    have := crcBitN_inj hl hm (Int.ofNat.inj h)
    exact crcRep_inj k r s hr hs (by rw [hq, hp, this])
theorem u32_nat {r : Int} (h : inU32 r) : ∃ n : Nat, r = (n : Int) ∧ n < 4294967296 := ⟨r.toNat, by have := h.1; omega, by have := h.1; have := h.2; omega⟩
theorem u8_u32 {x : Int} (h : inU8 x) : inU32 x := ⟨h.1, Int.le_trans h.2 (by decide)⟩
theorem crcByte_in {r x : Int} (hr : inU32 r) (hx : inU32 x) : inU32 (crcByte r x) := by
  obtain ⟨n, rfl, hn⟩ := u32_nat hr
  obtain ⟨m, rfl, hm⟩ := u32_nat hx
  unfold crcByte
  rw [(xorN hn hm).1]
  obtain ⟨q, hq, hl⟩ := crcRep_nat 8 _ (xorN hn hm).2
  rw [hq]
  exact ⟨by omega, by omega⟩
theorem crcByte_inj {r s x y : Int} (hr : inU32 r) (hs : inU32 s) (hx : inU32 x) (hy : inU32 y) (h : crcByte r x = crcByte s y) : (r = s → x = y) ∧ (x = y → r = s) := by
  obtain ⟨n, rfl, hn⟩ := u32_nat hr
  obtain ⟨m, rfl, hm⟩ := u32_nat hs
  obtain ⟨p, rfl, hp⟩ := u32_nat hx
  obtain ⟨q, rfl, hq⟩ := u32_nat hy
  unfold crcByte at h
  rw [(xorN hn hp).1, (xorN hm hq).1] at h
  have e := crcRep_inj 8 _ _ (xorN hn hp).2 (xorN hm hq).2 h
  constructor
  · intro k
    obtain rfl := Int.ofNat.inj k
    exact congrArg Int.ofNat (xor_cancel_left e)
  · intro k
    obtain rfl := Int.ofNat.inj k
    exact congrArg Int.ofNat (xor_cancel_right e)
theorem fold_in : ∀ (l : List Int) (r : Int), (∀ y ∈ l, inU8 y) → inU32 r → inU32 (l.foldl crcByte r)
  | [], _, _, h => h
  | x :: t, r, hl, h => fold_in t _ (fun y hy => hl y (.tail _ hy)) (crcByte_in h (u8_u32 (hl x (.head _))))
theorem fold_ne : ∀ (l : List Int) (r s : Int), (∀ y ∈ l, inU8 y) → inU32 r → inU32 s → r ≠ s → l.foldl crcByte r ≠ l.foldl crcByte s
  | [], _, _, _, _, _, h => h
  | x :: t, r, s, hl, hr, hs, h => by
    have hx := u8_u32 (hl x (.head _))
    exact fold_ne t _ _ (fun y hy => hl y (.tail _ hy)) (crcByte_in hr hx) (crcByte_in hs hx) fun e => h ((crcByte_inj hr hs hx hx e).2 rfl)
theorem crcReg_in {l : List Int} (hl : ∀ y ∈ l, inU8 y) : inU32 (crcReg l) := fold_in l _ hl ⟨by decide, by decide⟩
theorem crc_set {l : List Int} (hl : ∀ y ∈ l, inU8 y) {i : Nat} (hi : i < l.length) {z : Int} (hz : inU8 z) (hne : z ≠ l[i]) : crcL (l.set i z) ≠ crcL l := by
  have hm : ∀ y ∈ l.set i z, inU8 y := fun y hy => (List.mem_or_eq_of_mem_set hy).elim (hl y) fun e => e ▸ hz
  have hR : crcReg (l.set i z) ≠ crcReg l := by
    have e1 : l = l.take i ++ l[i] :: l.drop (i + 1) := by rw [List.getElem_cons_drop, List.take_append_drop]
    have e2 : l.set i z = l.take i ++ z :: l.drop (i + 1) := List.set_eq_take_append_cons_drop.trans (if_pos hi)
    have hh : inU32 ((l.take i).foldl crcByte 4294967295) := fold_in _ _ (fun y hy => hl y (List.mem_of_mem_take hy)) ⟨by decide, by decide⟩
    have hx := hl l[i] (List.getElem_mem hi)
    unfold crcReg
    rw [e2]
    conv => rhs; rw [e1]
    rw [List.foldl_append, List.foldl_append, List.foldl_cons, List.foldl_cons]
    exact fold_ne _ _ _ (fun y hy => hl y (List.mem_of_mem_drop hy)) (crcByte_in hh (u8_u32 hz)) (crcByte_in hh (u8_u32 hx)) fun e => hne ((crcByte_inj hh hh (u8_u32 hz) (u8_u32 hx) e).1 rfl)
  intro e
  apply hR
  obtain ⟨n, hn, hn2⟩ := u32_nat (crcReg_in hm)
  obtain ⟨m, hm3, hm2⟩ := u32_nat (crcReg_in hl)
  unfold crcL at e
  rw [hn, hm3, show (4294967295 : Int) = ((4294967295 : Nat) : Int) from rfl, (xorN (by decide) hn2).1, (xorN (by decide) hm2).1] at e
  rw [hn, hm3, xor_cancel_left (Int.ofNat.inj e)]
theorem getD_set_ne {l : List Int} {i j : Nat} {z : Int} (h : i ≠ j) : (l.set i z).getD j 0 = l.getD j 0 := by
  rw [List.getD_eq_getElem?_getD, List.getD_eq_getElem?_getD, List.getElem?_set_ne h]
theorem getD_set_eq {l : List Int} {i : Nat} {z : Int} (h : i < l.length) : (l.set i z).getD i 0 = z := by
  rw [List.getD_eq_getElem?_getD, List.getElem?_set_self h]; rfl
theorem good_set {x : List Int} (h14 : x.length = 14) (hx : ∀ y ∈ x, inU8 y) (hg : goodX x) {i : Nat} (hi : i < 14) {z : Int} (hz : inU8 z) (hne : z ≠ x.getD i 0) : ¬ goodX (x.set i z) := by
  rintro ⟨-, h⟩
  have h0 := hg.2
  rcases Nat.lt_or_ge i 10 with k | k
  · have e1 : num4 (x.set i z) 10 = num4 x 10 := by
      unfold num4
      rw [getD_set_ne (by omega), getD_set_ne (by omega), getD_set_ne (by omega), getD_set_ne (by omega)]
    have e2 : (x.set i z).take 10 = (x.take 10).set i z := List.take_set ..
    have hl : i < (x.take 10).length := by rw [List.length_take]; omega
    rw [e1, e2, h0] at h
    refine crc_set (l := x.take 10) (fun y hy => hx y (List.mem_of_mem_take hy)) hl hz (fun e => hne ?_) h.symm
    rw [e, List.getElem_take, List.getD_eq_getElem?_getD, List.getElem?_eq_getElem (by omega)]
    rfl
  · have e2 : (x.set i z).take 10 = x.take 10 := by rw [List.take_set, List.set_eq_of_length_le (by rw [List.length_take]; omega)]
    rw [e2, ← h0] at h
    have hs : (x.set i z).getD i 0 = z := getD_set_eq (by omega)
    unfold num4 at h
    rcases (by omega : i = 10 ∨ i = 11 ∨ i = 12 ∨ i = 13) with q | q | q | q <;> subst q
    all_goals
      simp only [hs, getD_set_ne (l := x) (z := z) (show (10 : Nat) ≠ 11 by decide), getD_set_ne (l := x) (z := z) (show (10 : Nat) ≠ 12 by decide), getD_set_ne (l := x) (z := z) (show (10 : Nat) ≠ 13 by decide), getD_set_ne (l := x) (z := z) (show (11 : Nat) ≠ 10 by decide), getD_set_ne (l := x) (z := z) (show (11 : Nat) ≠ 12 by decide), getD_set_ne (l := x) (z := z) (show (11 : Nat) ≠ 13 by decide), getD_set_ne (l := x) (z := z) (show (12 : Nat) ≠ 10 by decide), getD_set_ne (l := x) (z := z) (show (12 : Nat) ≠ 11 by decide), getD_set_ne (l := x) (z := z) (show (12 : Nat) ≠ 13 by decide), getD_set_ne (l := x) (z := z) (show (13 : Nat) ≠ 10 by decide), getD_set_ne (l := x) (z := z) (show (13 : Nat) ≠ 11 by decide), getD_set_ne (l := x) (z := z) (show (13 : Nat) ≠ 12 by decide), show 10 + 1 = 11 from rfl, show 10 + 2 = 12 from rfl, show 10 + 3 = 13 from rfl] at h
      omega
theorem enc_u8 {r : Rec} (h : recOK r) : ∀ y ∈ encR r, inU8 y := fun y hy => by
  have h2 := h
  unfold recOK at h2
  have hc := crcL_rng (encB r)
  simp only [encR, encB, be4, List.mem_append, List.mem_cons, List.not_mem_nil, or_false] at hy
  show 0 ≤ y ∧ y ≤ 255
  rcases hy with ((q | q) | q | q | q | q) | q | q | q | q
  all_goals omega
theorem bytesJ_u8 {l : List Rec} (h : ∀ r ∈ l, recOK r) : ∀ y ∈ bytesJ l, inU8 y := fun y hy => by
  unfold bytesJ at hy
  obtain ⟨r, hr, h2⟩ := List.mem_flatMap.1 hy
  rw [if_pos (h r hr)] at h2
  exact enc_u8 (h r hr) y h2
theorem bytesJ_take {l : List Rec} (h : ∀ r ∈ l, recOK r) (k : Nat) : bytesJ (l.take k) = (bytesJ l).take (14 * k) := by
  rcases Nat.lt_or_ge k l.length with hk | hk
  · have e : bytesJ l = bytesJ (l.take k) ++ bytesJ (l.drop k) := by rw [← bytesJ_app, List.take_append_drop]
    have hl : (bytesJ (l.take k)).length = 14 * k := by rw [bytesJ_lenOK fun r hr => h r (List.mem_of_mem_take hr), List.length_take]; congr 1; omega
    rw [e, List.take_left' hl]
  · rw [List.take_of_length_le hk, List.take_of_length_le (by rw [bytesJ_lenOK h]; omega)]
/-- what is left of an encoding that was cut off -/
theorem dec_cut {l : List Rec} (h : ∀ r ∈ l, recOK r) (hl : l.length ≤ 4096) {c : Nat} (hc : c ≤ (bytesJ l).length) : decN ((bytesJ l).take c) = c / 14 ∧ recsP ((bytesJ l).take c) (c / 14) = l.take (c / 14) := by
  have hb := bytesJ_lenOK h
  have h1 : (l.take (c / 14)).length = c / 14 := by rw [List.length_take]; omega
  have e : (bytesJ l).take c = bytesJ (l.take (c / 14)) ++ ((bytesJ l).take c).drop (14 * (c / 14)) := by
    rw [bytesJ_take h]
    have : (bytesJ l).take (14 * (c / 14)) = ((bytesJ l).take c).take (14 * (c / 14)) := by rw [List.take_take]; congr 1; omega
    rw [this, List.take_append_drop]
  have := dec_bytes (l := l.take (c / 14)) (fun r hr => h r (List.mem_of_mem_take hr)) (by omega) (((bytesJ l).take c).drop (14 * (c / 14))) (fun q => by have := q.1; rw [List.length_drop, List.length_take] at this; omega)
  rw [← e, h1] at this
  exact this
/-- a changed byte -/
theorem dec_chg {l : List Rec} (h : ∀ r ∈ l, recOK r) (hl : l.length ≤ 4096) {i : Nat} (hi : i < (bytesJ l).length) {z : Int} (hz : inU8 z) (hne : z ≠ (bytesJ l).getD i 0) : decN ((bytesJ l).set i z) = i / 14 ∧ recsP ((bytesJ l).set i z) (i / 14) = l.take (i / 14) := by
  have hb := bytesJ_lenOK h
  have hk : i / 14 < l.length := by omega
  have h1 : (l.take (i / 14)).length = i / 14 := by rw [List.length_take]; omega
  have hs : ((bytesJ l).set i z).length = (bytesJ l).length := List.length_set
  obtain ⟨x, hx⟩ : ∃ x, ((bytesJ l).set i z).drop (14 * (i / 14)) = x := ⟨_, rfl⟩
  have e : (bytesJ l).set i z = bytesJ (l.take (i / 14)) ++ x := by
    rw [bytesJ_take h, ← hx]
    have : (bytesJ l).take (14 * (i / 14)) = ((bytesJ l).set i z).take (14 * (i / 14)) := by rw [List.take_set, List.set_eq_of_length_le (by rw [List.length_take]; omega)]
    rw [this, List.take_append_drop]
  have hsub := subB_at h [] hk
  rw [List.append_nil] at hsub
  have hx14 : x.take 14 = (encR l[i / 14]).set (i % 14) z := by
    rw [← hsub, ← hx]
    unfold subB
    have e1 : (((bytesJ l).set i z).drop (14 * (i / 14))).take 14 = (((bytesJ l).set i z).take (14 * (i / 14) + 14)).drop (14 * (i / 14)) := by rw [List.drop_take]; congr 1; omega
    rw [e1, List.take_set, List.drop_set, if_neg (by omega)]
    congr 1; omega
  have hne2 : z ≠ (encR l[i / 14]).getD (i % 14) 0 := by
    rw [← hsub]
    unfold subB
    rw [List.getD_eq_getElem?_getD, List.getElem?_drop, List.getElem?_take_of_lt (by omega), show 14 * (i / 14) + i % 14 = i from by omega, ← List.getD_eq_getElem?_getD]
    exact hne
  have hok := h _ (List.getElem_mem hk)
  have := dec_bytes (l := l.take (i / 14)) (fun r hr => h r (List.mem_of_mem_take hr)) (by omega) x (fun q => by
    have q2 := q.2
    rw [hx14] at q2
    exact good_set (encR_len _) (enc_u8 hok) (good_enc hok) (by omega) hz hne2 q2)
  rw [← e, h1] at this
  exact this
theorem modk {x m : Int} (h : 0 < m) : ∃ k : Nat, ((k : Nat) : Int) = x % 18446744073709551616 % m ∧ ((k : Nat) : Int) < m := by
  have h1 := Int.emod_nonneg (x % 18446744073709551616) (b := m) (by omega)
  have h2 := Int.emod_lt_of_pos (x % 18446744073709551616) h
  exact ⟨(x % 18446744073709551616 % m).toNat, by omega, by omega⟩
theorem xor8 {x y : Nat} (hx : x < 256) (hy : y < 256) : bXor .u8 (x : Int) (y : Int) = ((x ^^^ y : Nat) : Int) ∧ x ^^^ y < 256 := by
  have h : x ^^^ y < 2 ^ 8 := Nat.xor_lt_two_pow hx hy
  refine ⟨?_, h⟩
  have e : (BitVec.ofInt (IntKind.u8.bits) (x : Int) ^^^ BitVec.ofInt (IntKind.u8.bits) (y : Int)).toNat = x ^^^ y := by
    rw [BitVec.ofInt_natCast, BitVec.ofInt_natCast, BitVec.toNat_xor, BitVec.toNat_ofNat, BitVec.toNat_ofNat, show IntKind.u8.bits = 8 from rfl, Nat.mod_eq_of_lt hx, Nat.mod_eq_of_lt hy]
  unfold bXor
  rw [e, wrap8]
  omega
theorem or8 {x y : Nat} (hx : x < 256) (hy : y < 256) : bOr .u8 (x : Int) (y : Int) = ((x ||| y : Nat) : Int) ∧ x ||| y < 256 := by
  have h : x ||| y < 2 ^ 8 := Nat.or_lt_two_pow hx hy
  refine ⟨?_, h⟩
  have e : (BitVec.ofInt (IntKind.u8.bits) (x : Int) ||| BitVec.ofInt (IntKind.u8.bits) (y : Int)).toNat = x ||| y := by
    rw [BitVec.ofInt_natCast, BitVec.ofInt_natCast, BitVec.toNat_or, BitVec.toNat_ofNat, BitVec.toNat_ofNat, show IntKind.u8.bits = 8 from rfl, Nat.mod_eq_of_lt hx, Nat.mod_eq_of_lt hy]
  unfold bOr
  rw [e, wrap8]
  omega
theorem flip8 {x y : Int} (hx : inU8 x) (hy : inU8 y) : inU8 (bXor .u8 x (bOr .u8 y 1)) ∧ bXor .u8 x (bOr .u8 y 1) ≠ x := by
  obtain ⟨n, rfl⟩ := Int.eq_ofNat_of_zero_le hx.1
  obtain ⟨m, rfl⟩ := Int.eq_ofNat_of_zero_le hy.1
  have hn : n < 256 := by have := hx.2; omega
  have hm : m < 256 := by have := hy.2; omega
  have h1 := or8 hm (show 1 < 256 by decide)
  have h2 := xor8 hn h1.2
  rw [show (1 : Int) = ((1 : Nat) : Int) from rfl, h1.1, h2.1]
  refine ⟨⟨by omega, by have := h2.2; omega⟩, fun e => ?_⟩
  have e2 : n ^^^ (m ||| 1) = n ^^^ 0 := by rw [Nat.xor_zero]; exact Int.ofNat.inj e
  have e3 := xor_cancel_left e2
  have e4 : (m ||| 1).testBit 0 = true := by rw [Nat.testBit_or]; simp
  rw [e3] at e4
  simp at e4
end Go.Proofs.Ytobggnpnochnnaa.V
