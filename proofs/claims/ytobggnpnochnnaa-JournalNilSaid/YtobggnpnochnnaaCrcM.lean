/- Checksums and records as bytes, plain. -/
import Derived.Test.YtobggnpnochnnaaTD
import Derived.Test.YtobggnpnochnnaaTopE
import Derived.Test.YtobggnpnochnnaaGrpU
set_option linter.unusedVariables false
set_option linter.unusedSimpArgs false
namespace Go.Proofs.Ytobggnpnochnnaa.V
open Go.RowKit
def crcBit (r : Int) : Int := if bAnd .u32 r 1 = 1 then bXor .u32 (sHr .u32 r 1) 3988292384 else sHr .u32 r 1
def crcRep : Nat → Int → Int
  | 0, r => r
  | k + 1, r => crcBit (crcRep k r)
def crcByte (r x : Int) : Int := crcRep 8 (bXor .u32 r x)
def crcReg (l : List Int) : Int := l.foldl crcByte 4294967295
def crcL (l : List Int) : Int := bXor .u32 4294967295 (crcReg l)
theorem crcReg_up {l : List Int} {k : Nat} (h : k < l.length) : crcReg (l.take (k + 1)) = crcByte (crcReg (l.take k)) (l.getD k 0) := by
  unfold crcReg
  rw [List.take_succ_eq_append_getElem h, List.foldl_append, show l.getD k 0 = l[k] from by rw [List.getD_eq_getElem?_getD, List.getElem?_eq_getElem h]; rfl]
  rfl
theorem crcBit_in {r : Int} (h : inU32 r) : inU32 (crcBit r) := by
  unfold crcBit
  split
  · exact wu32 _
  · exact sHr_in h
theorem crcL_in (l : List Int) : inU32 (crcL l) := wu32 _
section
variable {P : Program} {a : Act} {w : World} {d : Option Tmp} {ty : TypeId} {pos : String} {af : Array Edge} {g : Option (Nat × Bool)} {x : Operand} {xt : TypeId} {m : Int}
theorem x_cplu32 (hx : a.eval x = .int .u32 m) : (execOp a.eval ⟨d, .unOp .xor xt x, ty, pos, af, g⟩).run P w = .ok (.value (.int .u32 (bXor .u32 4294967295 m))) w := by
  simp [execOp, Op.unary, Op.intBits, hx, bXor, IntKind.signed, IntKind.max, IntKind.bits]
end
/-- a number of four bytes, the greatest first -/
def be4 (v : Int) : List Int := [v / 16777216 % 256, v / 65536 % 256, v / 256 % 256, v % 256]
def num4 (l : List Int) (k : Nat) : Int := l.getD k 0 * 16777216 + l.getD (k + 1) 0 * 65536 + l.getD (k + 2) 0 * 256 + l.getD (k + 3) 0
def encB (r : Rec) : List Int := [r.kind, r.dev] ++ be4 r.inc ++ be4 r.seq
def encR (r : Rec) : List Int := encB r ++ be4 (crcL (encB r))
def recOK (r : Rec) : Prop := (1 ≤ r.kind ∧ r.kind ≤ 4) ∧ (0 ≤ r.dev ∧ r.dev < 12) ∧ (0 ≤ r.inc ∧ r.inc ≤ 2147483647) ∧ (0 ≤ r.seq ∧ r.seq ≤ 2147483647) ∧ (r.kind = 2 → r.seq = 0) ∧ (r.kind = 3 → r.seq = 0 ∧ r.inc = 0) ∧ (r.kind = 4 → r.dev = 0 ∧ r.inc = 0 ∧ r.seq = 0)
instance (r : Rec) : Decidable (recOK r) := by unfold recOK; infer_instance
theorem be4_len (v : Int) : (be4 v).length = 4 := rfl
theorem encR_len (r : Rec) : (encR r).length = 14 := rfl
theorem sHr_q {k : IntKind} {v p q : Int} (h : (2 : Int) ^ (min p.toNat k.bits) = q) (hq : 0 < q) : sHr k v p = v / q := by
  unfold sHr
  rw [h, Int.fdiv_eq_ediv_of_nonneg _ (Int.le_of_lt hq)]
theorem wrap8 (v : Int) : IntKind.u8.wrap v = v % 256 := by
  unfold IntKind.wrap; simp [IntKind.signed, IntKind.bits]
/-! bits that do not meet -/
theorem bOr32 {x y : Nat} (i : Nat) (h : y < 2 ^ i) (hx : 2 ^ i * x + y < 4294967296) : bOr .u32 ((2 ^ i * x : Nat) : Int) (y : Int) = ((2 ^ i * x + y : Nat) : Int) := by
  unfold bOr
  have e : (BitVec.ofInt (IntKind.u32.bits) ((2 ^ i * x : Nat) : Int) ||| BitVec.ofInt (IntKind.u32.bits) (y : Int)).toNat = 2 ^ i * x + y := by
    rw [BitVec.ofInt_natCast, BitVec.ofInt_natCast, BitVec.toNat_or, BitVec.toNat_ofNat, BitVec.toNat_ofNat, show IntKind.u32.bits = 32 from rfl, Nat.mod_eq_of_lt (by omega), Nat.mod_eq_of_lt (by omega), Nat.two_pow_add_eq_or_of_lt h]
  rw [e]
  clear e h
  generalize 2 ^ i * x + y = z at hx ⊢
  unfold IntKind.wrap; simp [IntKind.signed, IntKind.bits]; omega
theorem bOr64 {x y : Nat} (i : Nat) (h : y < 2 ^ i) (hx : 2 ^ i * x + y < 4294967296) : bOr .i64 ((2 ^ i * x : Nat) : Int) (y : Int) = ((2 ^ i * x + y : Nat) : Int) := by
  unfold bOr
  have e : (BitVec.ofInt (IntKind.i64.bits) ((2 ^ i * x : Nat) : Int) ||| BitVec.ofInt (IntKind.i64.bits) (y : Int)).toNat = 2 ^ i * x + y := by
    rw [BitVec.ofInt_natCast, BitVec.ofInt_natCast, BitVec.toNat_or, BitVec.toNat_ofNat, BitVec.toNat_ofNat, show IntKind.i64.bits = 64 from rfl, Nat.mod_eq_of_lt (by omega), Nat.mod_eq_of_lt (by omega), Nat.two_pow_add_eq_or_of_lt h]
  rw [e]
  clear e h
  generalize 2 ^ i * x + y = z at hx ⊢
  unfold IntKind.wrap; simp [IntKind.signed, IntKind.bits]; omega
theorem sHl32 {x p : Int} {q : Int} (h : (2 : Int) ^ (min p.toNat IntKind.u32.bits) = q) (hx : 0 ≤ x * q ∧ x * q ≤ 4294967295) : sHl .u32 x p = x * q := by
  unfold sHl
  rw [h]
  generalize x * q = z at hx ⊢
  unfold IntKind.wrap; simp [IntKind.signed, IntKind.bits]; omega
theorem sHl64 {x p : Int} {q : Int} (h : (2 : Int) ^ (min p.toNat IntKind.i64.bits) = q) (hx : 0 ≤ x * q ∧ x * q ≤ 4294967295) : sHl .i64 x p = x * q := by
  unfold sHl
  rw [h]
  generalize x * q = z at hx ⊢
  unfold IntKind.wrap; simp [IntKind.signed, IntKind.bits]; omega
theorem or4_u32 {a b c d : Int} (ha : 0 ≤ a ∧ a ≤ 255) (hb : 0 ≤ b ∧ b ≤ 255) (hc : 0 ≤ c ∧ c ≤ 255) (hd : 0 ≤ d ∧ d ≤ 255) : bOr .u32 (bOr .u32 (bOr .u32 (sHl .u32 a 24) (sHl .u32 b 16)) (sHl .u32 c 8)) d = a * 16777216 + b * 65536 + c * 256 + d := by
  obtain ⟨x, rfl⟩ : ∃ n : Nat, a = n := ⟨a.toNat, by omega⟩
  obtain ⟨y, rfl⟩ : ∃ n : Nat, b = n := ⟨b.toNat, by omega⟩
  obtain ⟨z, rfl⟩ : ∃ n : Nat, c = n := ⟨c.toNat, by omega⟩
  obtain ⟨u, rfl⟩ : ∃ n : Nat, d = n := ⟨d.toNat, by omega⟩
  rw [sHl32 (q := 16777216) rfl (by omega), sHl32 (q := 65536) rfl (by omega), sHl32 (q := 256) rfl (by omega)]
  have e1 := bOr32 (x := x) (y := y * 65536) 24 (by omega) (by omega)
  have e2 := bOr32 (x := x * 256 + y) (y := z * 256) 16 (by omega) (by omega)
  have e3 := bOr32 (x := x * 65536 + y * 256 + z) (y := u) 8 (by omega) (by omega)
  rw [show (2 ^ 24 * x : Nat) = x * 16777216 from by omega] at e1
  rw [show (2 ^ 16 * (x * 256 + y) : Nat) = x * 16777216 + y * 65536 from by omega] at e2
  rw [show (2 ^ 8 * (x * 65536 + y * 256 + z) : Nat) = x * 16777216 + y * 65536 + z * 256 from by omega] at e3
  simp only [Int.natCast_add, Int.natCast_mul, Int.cast_ofNat_Int] at e1 e2 e3
  rw [e1, e2, e3]
theorem or4_i64 {a b c d : Int} (ha : 0 ≤ a ∧ a ≤ 255) (hb : 0 ≤ b ∧ b ≤ 255) (hc : 0 ≤ c ∧ c ≤ 255) (hd : 0 ≤ d ∧ d ≤ 255) : bOr .i64 (bOr .i64 (bOr .i64 (sHl .i64 a 24) (sHl .i64 b 16)) (sHl .i64 c 8)) d = a * 16777216 + b * 65536 + c * 256 + d := by
  obtain ⟨x, rfl⟩ : ∃ n : Nat, a = n := ⟨a.toNat, by omega⟩
  obtain ⟨y, rfl⟩ : ∃ n : Nat, b = n := ⟨b.toNat, by omega⟩
  obtain ⟨z, rfl⟩ : ∃ n : Nat, c = n := ⟨c.toNat, by omega⟩
  obtain ⟨u, rfl⟩ : ∃ n : Nat, d = n := ⟨d.toNat, by omega⟩
  rw [sHl64 (q := 16777216) rfl (by omega), sHl64 (q := 65536) rfl (by omega), sHl64 (q := 256) rfl (by omega)]
  have e1 := bOr64 (x := x) (y := y * 65536) 24 (by omega) (by omega)
  have e2 := bOr64 (x := x * 256 + y) (y := z * 256) 16 (by omega) (by omega)
  have e3 := bOr64 (x := x * 65536 + y * 256 + z) (y := u) 8 (by omega) (by omega)
  rw [show (2 ^ 24 * x : Nat) = x * 16777216 from by omega] at e1
  rw [show (2 ^ 16 * (x * 256 + y) : Nat) = x * 16777216 + y * 65536 from by omega] at e2
  rw [show (2 ^ 8 * (x * 65536 + y * 256 + z) : Nat) = x * 16777216 + y * 65536 + z * 256 from by omega] at e3
  simp only [Int.natCast_add, Int.natCast_mul, Int.cast_ofNat_Int] at e1 e2 e3
  rw [e1, e2, e3]
end Go.Proofs.Ytobggnpnochnnaa.V
