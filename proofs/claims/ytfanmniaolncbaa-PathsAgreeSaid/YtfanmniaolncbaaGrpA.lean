/- Lib Reg PreM ComM BlkM App Pre1 Pre2 Blk Ref1 in one text -/
import Derived.Test.YtfanmniaolncbaaRows
import Derived.WalkKit
import Derived.WalkSpells
import Derived.WalkLawsBesides
import Derived.Deep.QuietTactic
import Derived.BigQuiet
import Derived.Lib.Hide
import Derived.Laws.BytesArg
import Derived.Lib.UnsafeStr
import Derived.Lib.LaidTab
import Derived.StillTail
import Derived.Lib.BitFns
import Derived.Deep.RegionHeld3
import Derived.IntWalk
set_option linter.unusedVariables false
set_option linter.unusedSimpArgs false
/- Small laws of my own that every walk of this seat uses: worlds that only grow, a region that draws its order walked once over the class of such worlds, slices that read as lists. -/
namespace Go.Proofs.Ytfanmniaolncbaa
open Go.RowKit
theorem bcell {B : Nat} {W w1 : World} (hb : Below B W w1) : (∀ b o, b < B → w1.cell? ⟨b, o, none⟩ = W.cell? ⟨b, o, none⟩) ∧ (∀ b o, b < B → w1.frozen? ⟨b, o, none⟩ = W.frozen? ⟨b, o, none⟩) :=
  ⟨fun b o h => hb.cell (p := ⟨b, o, none⟩) h, fun b o h => hb.frozen (p := ⟨b, o, none⟩) h⟩
/-- a world in which all that 'W' has below block 'B' stands as it did -/
structure Ext (B : Nat) (W : World) where
  w : World
  below : Below B W w
instance extNonempty (B : Nat) (W : World) : Nonempty (Ext B W) := ⟨⟨W, Below.refl _ _⟩⟩
@[go_sem] theorem Ext.cell {B : Nat} {W : World} (x : Ext B W) (b o : Nat) (h : b < B) : x.w.cell? ⟨b, o, none⟩ = W.cell? ⟨b, o, none⟩ := x.below.cell (p := ⟨b, o, none⟩) h
@[go_sem] theorem Ext.frozen {B : Nat} {W : World} (x : Ext B W) (b o : Nat) (h : b < B) : x.w.frozen? ⟨b, o, none⟩ = W.frozen? ⟨b, o, none⟩ := x.below.frozen (p := ⟨b, o, none⟩) h
/-- A region that draws its order, whose operations read and whose callees give the same value in every later world: one walk in the order of the text. -/
theorem wp_region_later {P : Program} {id : Nat} {Q : Exit → Act → World → Prop} {a : Act} {w : World} {l : List Oper} (hm : P.follows .mixedOrders = true) (hB : Region.lexB .any l.toArray = true)
    (h : wpQuiet P l.toArray (fun w' => ∃ x : Ext w.heap.size w, w' = x.w) (fun a' => ∀ w', (∃ x : Ext w.heap.size w, w' = x.w) → Q .normal a' w') l a) : (Code.region id l.toArray true).wp P Q a w :=
  wp_region_quiet (C := fun w' => ∃ x : Ext w.heap.size w, w' = x.w) hm hB ⟨⟨_, (Below.refl _ _).drew⟩, rfl⟩ (by simpa using h)
theorem ext_below {B : Nat} {W w' : World} (h : ∃ x : Ext B W, w' = x.w) : Below B W w' := by obtain ⟨x, rfl⟩ := h; exact x.below
theorem calls_later {P : Program} {f : FuncId} {args : Array Value} {W : World} {x : Ext W.heap.size W} {v : Value}
    (h : Calls P f args x.w fun e w' => e = .returned v ∧ Below x.w.heap.size x.w w') : Calls P f args x.w fun e w'' => e = .returned v ∧ ∃ y : Ext W.heap.size W, w'' = y.w :=
  h.mono fun _ w' ⟨he, hb⟩ => ⟨he, ⟨w', x.below.trans (hb.mono x.below.size)⟩, rfl⟩
theorem calls_later_same {P : Program} {f : FuncId} {args : Array Value} {B : Nat} {W : World} {x : Ext B W} {v : Value}
    (h : Calls P f args x.w fun e w' => e = .returned v ∧ x.w = w') : Calls P f args x.w fun e w'' => e = .returned v ∧ ∃ y : Ext B W, w'' = y.w :=
  h.mono fun _ _ ⟨he, hb⟩ => ⟨he, x, hb.symm⟩
end Go.Proofs.Ytfanmniaolncbaa
/- A region that draws its order: reads and quiet calls first, then a few operations in one forced order (the stores of results, say): walked once, in the order of the text, over the class of later worlds. -/
namespace Go.Proofs.Ytfanmniaolncbaa
open Go.RowKit
section
variable {P : Program} {ops : Array Oper} {md : Region.Mode} {C : World → Prop}
end
end Go.Proofs.Ytfanmniaolncbaa
/- Plain laws on masks and powers of two: no program in sight. -/
namespace Go.Proofs.Ytfanmniaolncbaa
/-- the number of addresses of a prefix of n bits -/
def pw (n : Int) : Int := 2 ^ (32 - n).toNat
def mskZ (n : Int) : Int := 4294967295 * 2 ^ (32 - n).toNat % 4294967296
theorem pw_nat (n : Int) : pw n = ((2 ^ (32 - n).toNat : Nat) : Int) := by unfold pw; simp
theorem pw_pos (n : Int) : 1 ≤ pw n := by rw [pw_nat]; have := Nat.pow_pos (n := (32 - n).toNat) (show 0 < 2 by decide); omega
theorem two_pow_le32 (k : Nat) (h : k ≤ 32) : 2 ^ k ≤ 4294967296 := by
  have := Nat.pow_le_pow_right (show 0 < 2 by decide) h
  simpa using this
theorem pw_le (n : Int) (h : 0 ≤ n) : pw n ≤ 4294967296 := by rw [pw_nat]; have := two_pow_le32 (32 - n).toNat (by omega); omega
theorem pw_succ (n : Int) (h : n ≤ 31) : pw n = 2 * pw (n + 1) := by
  unfold pw
  have : (32 - n).toNat = (32 - (n + 1)).toNat + 1 := by omega
  rw [this, Int.pow_succ]; omega
theorem pw_dvd32 (n : Int) (h0 : 0 ≤ n) (h1 : n ≤ 32) : 4294967296 % pw n = 0 := by
  have h : (4294967296 : Nat) = 2 ^ (32 - (32 - n).toNat) * 2 ^ (32 - n).toNat := by
    rw [← Nat.pow_add, show 32 - (32 - n).toNat + (32 - n).toNat = 32 by omega]
  rw [pw_nat]
  have : (4294967296 : Int) = ((2 ^ (32 - (32 - n).toNat) * 2 ^ (32 - n).toNat : Nat) : Int) := by rw [← h]; rfl
  rw [this]
  rw [← Int.natCast_emod]
  simp
theorem mskZ_eq (n : Int) (h0 : 0 ≤ n) (h1 : n ≤ 32) : mskZ n = 4294967296 - pw n := by
  have hp := pw_pos n
  have hl := pw_le n h0
  unfold mskZ
  have e : (4294967295 : Int) * 2 ^ (32 - n).toNat = (4294967296 - pw n) + 4294967296 * (pw n - 1) := by
    show 4294967295 * pw n = _
    omega
  rw [e, Int.add_mul_emod_self_left]
  exact Int.emod_eq_of_lt (by omega) (by omega)
theorem mskZ_bd (n : Int) : 0 ≤ mskZ n ∧ mskZ n ≤ 4294967295 := by unfold mskZ; omega
theorem nat_and_mask (a k : Nat) (ha : a < 4294967296) (hk : k ≤ 32) : a &&& (4294967296 - 2 ^ k) = a / 2 ^ k * 2 ^ k := by
  have e : 4294967296 - 2 ^ k = (2 ^ (32 - k) - 1) * 2 ^ k := by
    rw [Nat.sub_mul, ← Nat.pow_add, show 32 - k + k = 32 by omega]; simp
  rw [e]
  apply Nat.eq_of_testBit_eq
  intro j
  rw [Nat.testBit_and, Nat.testBit_mul_two_pow, Nat.testBit_mul_two_pow, Nat.testBit_two_pow_sub_one, Nat.testBit_div_two_pow]
  by_cases h : k ≤ j
  · by_cases h2 : j < 32
    · have e2 : k + (j - k) = j := by omega
      simp [h, show j - k < 32 - k by omega]
    · have : a.testBit j = false := Nat.testBit_lt_two_pow (Nat.lt_of_lt_of_le ha (by have := Nat.pow_le_pow_right (show 0 < 2 by decide) (show 32 ≤ j by omega); simpa using this))
      have e2 : k + (j - k) = j := by omega
      simp [h, this]
  · simp [h]
theorem and_mask (a n : Int) (ha0 : 0 ≤ a) (ha : a ≤ 4294967295) (h0 : 0 ≤ n) (h1 : n ≤ 32) : bits .and .u32 a (mskZ n) = a / pw n * pw n := by
  have hb := mskZ_bd n
  rw [u32_and a (mskZ n) ha0 (by omega) hb.1 (by omega)]
  have hk : (32 - n).toNat ≤ 32 := by omega
  have hl := two_pow_le32 _ hk
  have e : (mskZ n).toNat = 4294967296 - 2 ^ (32 - n).toNat := by rw [mskZ_eq n h0 h1, pw_nat]; omega
  rw [e, nat_and_mask a.toNat _ (by omega) hk, pw_nat]
  obtain ⟨m, rfl⟩ := Int.eq_ofNat_of_zero_le ha0
  simp
theorem andNot_mask (a n : Int) (ha0 : 0 ≤ a) (ha : a ≤ 4294967295) (h0 : 0 ≤ n) (h1 : n ≤ 32) : bits .andNot .u32 a (mskZ n) = a % pw n := by
  have hb := mskZ_bd n
  rw [u32_andNot a (mskZ n) ha0 (by omega) hb.1 (by omega)]
  have hk : (32 - n).toNat ≤ 32 := by omega
  have hl := two_pow_le32 _ hk
  have hp := pw_pos n
  have e : 4294967295 - (mskZ n).toNat = 2 ^ (32 - n).toNat - 1 := by rw [mskZ_eq n h0 h1, pw_nat]; rw [pw_nat] at hp; omega
  rw [e, Nat.and_two_pow_sub_one_eq_mod, pw_nat]
  obtain ⟨m, rfl⟩ := Int.eq_ofNat_of_zero_le ha0
  simp
theorem upper_le (a n : Int) (ha : a ≤ 4294967295) (h0 : 0 ≤ n) (hv : a % pw n = 0) (ha0 : 0 ≤ a) (h1 : n ≤ 32) : a + pw n ≤ 4294967296 := by
  have hp := pw_pos n
  have hd := pw_dvd32 n h0 h1
  have h1 := Int.emod_add_mul_ediv a (pw n)
  have h2 := Int.emod_add_mul_ediv 4294967296 (pw n)
  rw [hv] at h1; rw [hd] at h2
  have h3 : pw n * (a / pw n) < pw n * (4294967296 / pw n) := by omega
  have h4 : a / pw n < 4294967296 / pw n := Int.lt_of_mul_lt_mul_left h3 (by omega)
  have h5 : pw n * (a / pw n + 1) ≤ pw n * (4294967296 / pw n) := Int.mul_le_mul_of_nonneg_left (by omega) (by omega)
  rw [Int.mul_add] at h5
  omega
end Go.Proofs.Ytfanmniaolncbaa
/- Plain laws on the common prefix of two addresses: no program in sight. -/
namespace Go.Proofs.Ytfanmniaolncbaa
def valB (a n : Int) : Bool := decide (0 ≤ n) && (decide (n ≤ 32) && (a % pw n == 0))
theorem valB_iff (a n : Int) : valB a n = true ↔ 0 ≤ n ∧ n ≤ 32 ∧ a % pw n = 0 := by simp [valB]
def contB (a n x : Int) : Bool := valB a n && (x / pw n * pw n == a)
def coverB (a n b m : Int) : Bool := valB b m && (decide (n ≤ m) && contB a n b)
theorem contB_mul (m x k : Int) (h0 : 0 ≤ k) (h1 : k ≤ 32) : contB (m * pw k) k x = decide (x / pw k = m) := by
  have hp := pw_pos k
  have hv : valB (m * pw k) k = true := (valB_iff _ _).2 ⟨h0, h1, by simp⟩
  rw [contB, hv, Bool.true_and]
  by_cases h : x / pw k = m
  · rw [h]; simp
  · have : ¬ x / pw k * pw k = m * pw k := fun e => h (Int.eq_of_mul_eq_mul_right (by omega) e)
    simp [h, this]
end Go.Proofs.Ytfanmniaolncbaa
/- Plain laws on blocks of ranges: no program in sight. -/
namespace Go.Proofs.Ytfanmniaolncbaa
theorem two_pos (k : Nat) : (1 : Int) ≤ 2 ^ k := by have := Nat.pow_pos (n := k) (show 0 < 2 by decide); exact_mod_cast this
end Go.Proofs.Ytfanmniaolncbaa
/- Append of one new element to a slice of the call's own: the kit's law, its side conditions paid once. -/
namespace Go.Proofs.Ytfanmniaolncbaa
open Go.RowKit
section
variable {P : Program}
end
end Go.Proofs.Ytfanmniaolncbaa
/- Walks of package prefix: mask, Valid, Of, Contains, Covers. -/
namespace Go.Proofs.Ytfanmniaolncbaa
open Go.RowKit
set_option maxHeartbeats 400000 in
theorem prefix_mask (n : Int) (h0 : 0 ≤ n) (h1 : n ≤ 32) (w : World) :
    Calls Try.prog 105 #[.int .i64 n] w fun e w' => e = .returned (.int .u32 (mskZ n)) ∧ w = w' := by
  go_enter Try.func105, Try.ntmps105
  go_wp2
  go_ret
  exact ⟨rfl, rfl⟩
set_option maxHeartbeats 400000 in
theorem prefix_Valid (a n : Int) (ha0 : 0 ≤ a) (ha1 : a ≤ 4294967295) (w : World) :
    Calls Try.prog 83 #[.agg #[.int .u32 a, .int .i64 n]] w fun e w' => e = .returned (.bool (valB a n)) ∧ Below w.heap.size w w' := by
  unfold valB
  rcases Bool.eq_false_or_eq_true (decide (0 ≤ n)) with g0 | g0
  rcases Bool.eq_false_or_eq_true (decide (n ≤ 32)) with g1 | g1
  rw [← andNot_mask a n ha0 ha1 (by simpa using g0) (by simpa using g1)]
  all_goals
    go_enter Try.func83, Try.ntmps83
    go_wp2
    refine wp_region_later (by kernel_rfl) (by kernel_rfl) ?_
    repeat (go_big_quiet_step ((go_at_call 105; exact calls_later_same (prefix_mask _ (by simpa using g0) (by simpa using g1) _))))
    refine wpQuiet_nil ?_
    intro w2 hw'
    have hb2 := ext_below hw'
    clear hw'
    obtain ⟨hc2, hf2⟩ := bcell hb2
    have hs2 := hb2.size
    try simp at hs2
    go_wp2
    go_ret
    exact ⟨by simp only [*]; rfl, ((Below.refl _ _).alloc (Nat.le_refl _) _).trans (hb2.mono (by simp))⟩
set_option maxHeartbeats 400000 in
theorem prefix_ValidB (a n : Int) (ha0 : 0 ≤ a) (ha1 : a ≤ 4294967295) {b : Bool} (hb : valB a n = b) (w : World) :
    Calls Try.prog 83 #[.agg #[.int .u32 a, .int .i64 n]] w fun e w' => e = .returned (.bool b) ∧ Below w.heap.size w w' := by subst hb; exact prefix_Valid a n ha0 ha1 w
set_option maxHeartbeats 400000 in
theorem prefix_Contains (a n x : Int) (ha0 : 0 ≤ a) (ha1 : a ≤ 4294967295) (hx0 : 0 ≤ x) (hx1 : x ≤ 4294967295) (w : World) :
    Calls Try.prog 112 #[.agg #[.int .u32 a, .int .i64 n], .int .u32 x] w fun e w' => e = .returned (.bool (contB a n x)) ∧ Below w.heap.size w w' := by
  unfold contB
  rcases Bool.eq_false_or_eq_true (valB a n) with g0 | g0
  rw [← and_mask x n hx0 hx1 ((valB_iff a n).1 g0).1 ((valB_iff a n).1 g0).2.1]
  all_goals
    go_enter Try.func112, Try.ntmps112
    go_wp2
    refine wp_region_later (by kernel_rfl) (by kernel_rfl) ?_
    repeat (go_big_quiet_step ((first | (go_at_call 83; exact calls_later (prefix_ValidB _ _ ha0 ha1 g0 _)) | (go_at_call 105; exact calls_later_same (prefix_mask _ ((valB_iff a n).1 g0).1 ((valB_iff a n).1 g0).2.1 _)))))
    refine wpQuiet_nil ?_
    intro w2 hw'
    have hb2 := ext_below hw'
    clear hw'
    obtain ⟨hc2, hf2⟩ := bcell hb2
    have hs2 := hb2.size
    try simp at hs2
    go_wp2
    go_ret
    exact ⟨by simp only [*]; rfl, ((Below.refl _ _).alloc (Nat.le_refl _) _).trans (hb2.mono (by simp))⟩
end Go.Proofs.Ytfanmniaolncbaa
/- Walks of package prefix: Of, Covers, Halves, Common. -/
namespace Go.Proofs.Ytfanmniaolncbaa
open Go.RowKit
set_option maxHeartbeats 400000 in
theorem prefix_Covers (a n b m : Int) (ha0 : 0 ≤ a) (ha1 : a ≤ 4294967295) (hb0 : 0 ≤ b) (hb1 : b ≤ 4294967295) (w : World) :
    Calls Try.prog 104 #[.agg #[.int .u32 a, .int .i64 n], .agg #[.int .u32 b, .int .i64 m]] w fun e w' => e = .returned (.bool (coverB a n b m)) ∧ Below w.heap.size w w' := by
  unfold coverB
  rcases Bool.eq_false_or_eq_true (valB b m) with g0 | g0
  rcases Bool.eq_false_or_eq_true (decide (n ≤ m)) with g1 | g1
  all_goals
    go_enter Try.func104, Try.ntmps104
    go_wp2_with (first | (go_at_call 83; refine (prefix_ValidB _ _ hb0 hb1 g0 _).mono ?_; rintro e w2 ⟨rfl, hb2⟩; obtain ⟨hc2, hf2⟩ := bcell hb2; have hs2 := hb2.size; (try simp at hs2)) | (go_at_call 112; refine (prefix_Contains _ _ _ ha0 ha1 hb0 hb1 _).mono ?_; rintro e w3 ⟨rfl, hb3⟩; obtain ⟨hc3, hf3⟩ := bcell hb3; have hs3 := hb3.size; (try simp at hs3)))
    go_ret
    exact ⟨by simp only [*]; rfl, by first | ((repeat (first | exact Below.refl _ _ | refine Below.drew ?_ | refine Below.setCell ?_ (by first | (simp; done) | (simp; omega) | omega) _ | refine Below.alloc ?_ (by first | (simp; done) | (simp; omega) | omega) _ | refine Below.trans ?_ (Below.mono hb2 (by first | (simp; done) | (simp; omega) | omega)))); done) | ((repeat (first | exact Below.refl _ _ | refine Below.drew ?_ | refine Below.setCell ?_ (by first | (simp; done) | (simp; omega) | omega) _ | refine Below.alloc ?_ (by first | (simp; done) | (simp; omega) | omega) _ | refine Below.trans ?_ (Below.mono hb3 (by first | (simp; done) | (simp; omega) | omega)) | refine Below.trans ?_ (Below.mono hb2 (by first | (simp; done) | (simp; omega) | omega)))); done)⟩
end Go.Proofs.Ytfanmniaolncbaa
/- Walk of prefix.Blocks. -/
namespace Go.Proofs.Ytfanmniaolncbaa
open Go.RowKit
theorem u64_wrap (n : Int) (h0 : 0 ≤ n) (h1 : n ≤ 18446744073709551615) : IntKind.u64.wrap n = n := by simp [IntKind.wrap, IntKind.bits, IntKind.signed]; omega
theorem u32_wrap (n : Int) (h0 : 0 ≤ n) (h1 : n ≤ 4294967295) : IntKind.u32.wrap n = n := by simp [IntKind.wrap, IntKind.bits, IntKind.signed]; omega
end Go.Proofs.Ytfanmniaolncbaa
/- Walks of package nsgref1: size, Valid, Of, Contains, Covers, Halves, Common: the same specifications as the program's. -/
namespace Go.Proofs.Ytfanmniaolncbaa
open Go.RowKit
set_option maxHeartbeats 400000 in
theorem ref_size (n : Int) (h0 : 0 ≤ n) (h1 : n ≤ 32) (w : World) :
    Calls Try.prog 110 #[.int .i64 n] w fun e w' => e = .returned (.int .u64 (pw n)) ∧ w = w' := by
  have hp := pw_pos n
  have hl := pw_le n h0
  have hsh : IntKind.u64.wrap (2 ^ (32 - n).toNat) = pw n := u64_wrap (pw n) (by omega) (by omega)
  go_enter Try.func110, Try.ntmps110
  go_wp2
  go_ret
  exact ⟨rfl, rfl⟩
set_option maxHeartbeats 400000 in
theorem ref_Valid (a n : Int) (ha0 : 0 ≤ a) (ha1 : a ≤ 4294967295) {b : Bool} (hb : valB a n = b) (w : World) :
    Calls Try.prog 91 #[.agg #[.int .u32 a, .int .i64 n]] w fun e w' => e = .returned (.bool b) ∧ Below w.heap.size w w' := by
  subst hb
  have hwa : IntKind.u64.wrap a = a := u64_wrap a ha0 (by omega)
  unfold valB
  rcases Bool.eq_false_or_eq_true (decide (0 ≤ n)) with g0 | g0
  rcases Bool.eq_false_or_eq_true (decide (n ≤ 32)) with g1 | g1
  all_goals
    have hp := pw_pos n
    go_enter Try.func91, Try.ntmps91
    go_wp2
    refine wp_region_later (by kernel_rfl) (by kernel_rfl) ?_
    repeat (go_big_quiet_step ((go_at_call 110; exact calls_later_same (ref_size _ (by simpa using g0) (by simpa using g1) _))))
    refine wpQuiet_nil ?_
    intro w2 hw'
    have hb2 := ext_below hw'
    clear hw'
    obtain ⟨hc2, hf2⟩ := bcell hb2
    have hs2 := hb2.size
    try simp at hs2
    go_wp2
    go_ret
    exact ⟨by simp only [*]; rfl, ((Below.refl _ _).alloc (Nat.le_refl _) _).trans (hb2.mono (by simp))⟩
set_option maxHeartbeats 400000 in
theorem ref_Of_no (a n : Int) (ha0 : 0 ≤ a) (ha1 : a ≤ 4294967295) (hv : valB a n = false) (w : World) :
    Calls Try.prog 98 #[.agg #[.int .u32 a, .int .i64 n]] w fun e w' => e = .returned (.tuple #[.agg #[.int .u32 0, .int .u32 0], .bool false]) ∧ Below w.heap.size w w' := by
  go_enter Try.func98, Try.ntmps98
  go_wp2_with (go_at_call 91; refine (ref_Valid _ _ ha0 ha1 hv _).mono ?_; rintro e w2 ⟨rfl, hb2⟩; obtain ⟨hc2, hf2⟩ := bcell hb2; have hs2 := hb2.size; (try simp at hs2); have hz2_0 : w.heap.size < w2.heap.size := (by omega); have hz2_1 : w.heap.size + 1 < w2.heap.size := (by omega))
  go_wp2
  refine bodyPost_ret (v := .tuple #[.agg #[.int .u32 0, .int .u32 0], .bool false]) (by simp [results, Try.results98, go_sem, hc2]) rfl ?_
  exact ⟨rfl, by ((repeat (first | exact Below.refl _ _ | refine Below.drew ?_ | refine Below.setCell ?_ (by first | (simp; done) | (simp; omega) | omega) _ | refine Below.alloc ?_ (by first | (simp; done) | (simp; omega) | omega) _ | refine Below.trans ?_ (Below.mono hb2 (by first | (simp; done) | (simp; omega) | omega)))); done)⟩
set_option maxHeartbeats 400000 in
theorem ref_Of_yes (a n : Int) (ha0 : 0 ≤ a) (ha1 : a ≤ 4294967295) (hv : valB a n = true) (w : World) :
    Calls Try.prog 98 #[.agg #[.int .u32 a, .int .i64 n]] w fun e w' => e = .returned (.tuple #[.agg #[.int .u32 a, .int .u32 (a + (pw n - 1))], .bool true]) ∧ Below w.heap.size w w' := by
  have hb := (valB_iff a n).1 hv
  have hn0 := hb.1
  have hn1 := hb.2.1
  have hp := pw_pos n
  have hl := pw_le n hn0
  have hu := upper_le a n ha1 hn0 hb.2.2 ha0 hn1
  have hwa : IntKind.u64.wrap a = a := u64_wrap a ha0 (by omega)
  have hwb : IntKind.u64.wrap (a + pw n) = a + pw n := u64_wrap _ (by omega) (by omega)
  have hwc : IntKind.u64.wrap (a + pw n - 1) = a + pw n - 1 := u64_wrap _ (by omega) (by omega)
  have hwd : IntKind.u32.wrap (a + pw n - 1) = a + pw n - 1 := u32_wrap _ (by omega) (by omega)
  clear hb
  go_enter Try.func98, Try.ntmps98
  go_wp2_with (go_at_call 91; refine (ref_Valid _ _ ha0 ha1 hv _).mono ?_; rintro e w2 ⟨rfl, hb2⟩; obtain ⟨hc2, hf2⟩ := bcell hb2; have hs2 := hb2.size; (try simp at hs2); have hz2_0 : w.heap.size < w2.heap.size := (by omega); have hz2_1 : w.heap.size + 1 < w2.heap.size := (by omega))
  go_region_held3 (fun w' => w'.cell? ⟨w.heap.size, 0, none⟩ = some (.int .u32 a) ∧ w'.cell? ⟨w.heap.size, 1, none⟩ = some (.int .i64 n)) (go_simp) ((go_at_call 110; refine (ref_size _ hn0 hn1 _).mono ?_; rintro e w' ⟨rfl, rfl⟩))
  go_wp2
  refine bodyPost_ret (v := .tuple #[.agg #[.int .u32 a, .int .u32 (a + pw n - 1)], .bool true]) (by simp [results, Try.results98, go_sem, hc2, hz2_0, hz2_1]) rfl ?_
  exact ⟨by rw [show a + pw n - 1 = a + (pw n - 1) by omega], by ((repeat (first | exact Below.refl _ _ | refine Below.drew ?_ | refine Below.setCell ?_ (by first | (simp; done) | (simp; omega) | omega) _ | refine Below.alloc ?_ (by first | (simp; done) | (simp; omega) | omega) _ | refine Below.trans ?_ (Below.mono hb2 (by first | (simp; done) | (simp; omega) | omega)))); done)⟩
theorem contB_range (a n x : Int) (hv : valB a n = true) : contB a n x = (decide (a ≤ x) && decide (x ≤ a + (pw n - 1))) := by
  obtain ⟨h0, h1, h2⟩ := (valB_iff a n).1 hv
  have hp := pw_pos n
  obtain ⟨m, rfl⟩ : ∃ m, a = m * pw n := ⟨a / pw n, by rw [Int.ediv_mul_cancel (Int.dvd_of_emod_eq_zero h2)]⟩
  rw [contB_mul m x n h0 h1, Bool.eq_iff_iff]
  simp only [Bool.and_eq_true, decide_eq_true_eq]
  constructor
  · intro h
    have h3 := Int.emod_add_mul_ediv x (pw n)
    have h4 := Int.emod_nonneg x (show pw n ≠ 0 by omega)
    have h5 := Int.emod_lt_of_pos x (show 0 < pw n by omega)
    rw [h, Int.mul_comm] at h3
    omega
  · rintro ⟨h3, h4⟩
    have h5 : m ≤ x / pw n := Int.le_ediv_of_mul_le (by omega) h3
    have h6 : x / pw n < m + 1 := Int.ediv_lt_of_lt_mul (by omega) (by rw [Int.add_mul]; omega)
    omega
set_option maxHeartbeats 400000 in
theorem ref_Contains (a n x : Int) (ha0 : 0 ≤ a) (ha1 : a ≤ 4294967295) {b : Bool} (hb : contB a n x = b) (w : World) :
    Calls Try.prog 114 #[.agg #[.int .u32 a, .int .i64 n], .int .u32 x] w fun e w' => e = .returned (.bool b) ∧ Below w.heap.size w w' := by
  subst hb
  rcases Bool.eq_false_or_eq_true (valB a n) with g0 | g0
  · rw [contB_range a n x g0]
    rcases Bool.eq_false_or_eq_true (decide (a ≤ x)) with g1 | g1
    all_goals
      go_enter Try.func114, Try.ntmps114
      go_wp2_with (go_at_call 98; refine (ref_Of_yes _ _ ha0 ha1 g0 _).mono ?_; rintro e w2 ⟨rfl, hb2⟩; obtain ⟨hc2, hf2⟩ := bcell hb2; have hs2 := hb2.size; (try simp at hs2); have hz2_0 : w.heap.size < w2.heap.size := (by omega))
      go_wp2
      go_ret
      exact ⟨by simp only [*]; rfl, by ((repeat (first | exact Below.refl _ _ | refine Below.drew ?_ | refine Below.setCell ?_ (by first | (simp; done) | (simp; omega) | omega) _ | refine Below.alloc ?_ (by first | (simp; done) | (simp; omega) | omega) _ | refine Below.trans ?_ (Below.mono hb2 (by first | (simp; done) | (simp; omega) | omega)))); done)⟩
  · rw [contB, g0, Bool.false_and]
    go_enter Try.func114, Try.ntmps114
    go_wp2_with (go_at_call 98; refine (ref_Of_no _ _ ha0 ha1 g0 _).mono ?_; rintro e w2 ⟨rfl, hb2⟩; obtain ⟨hc2, hf2⟩ := bcell hb2; have hs2 := hb2.size; (try simp at hs2); have hz2_0 : w.heap.size < w2.heap.size := (by omega))
    go_wp2
    go_ret
    exact ⟨rfl, by ((repeat (first | exact Below.refl _ _ | refine Below.drew ?_ | refine Below.setCell ?_ (by first | (simp; done) | (simp; omega) | omega) _ | refine Below.alloc ?_ (by first | (simp; done) | (simp; omega) | omega) _ | refine Below.trans ?_ (Below.mono hb2 (by first | (simp; done) | (simp; omega) | omega)))); done)⟩
theorem coverB_eq (a n b m : Int) (ha0 : 0 ≤ a) : coverB a n b m = (valB b m && (contB a n b && contB a n (b + (pw m - 1)))) := by
  rcases Bool.eq_false_or_eq_true (valB b m) with g | g
  · rw [coverB, g, Bool.true_and, Bool.true_and]
    rcases Bool.eq_false_or_eq_true (valB a n) with g1 | g1
    · obtain ⟨h0, h1, h2⟩ := (valB_iff a n).1 g1
      obtain ⟨k0, k1, k2⟩ := (valB_iff b m).1 g
      have hp := pw_pos m
      rw [contB_range a n b g1, contB_range a n _ g1, Bool.eq_iff_iff]
      simp only [Bool.and_eq_true, decide_eq_true_eq]
      constructor
      · rintro ⟨h3, h4, h5⟩
        refine ⟨⟨h4, h5⟩, by omega, ?_⟩
        obtain ⟨d, hd⟩ : ∃ d : Nat, m = n + d := ⟨(m - n).toNat, by omega⟩
        have hpow : pw n = 2 ^ d * pw m := by
          unfold pw; rw [← Int.pow_add]; congr 1; omega
        obtain ⟨q, hq⟩ := Int.dvd_of_emod_eq_zero h2
        obtain ⟨r, hr⟩ := Int.dvd_of_emod_eq_zero k2
        have hpn := pw_pos n
        have e1 : a + pw n = pw m * (2 ^ d * q + 2 ^ d) := by
          rw [hq, hpow, Int.mul_add]
          have : 2 ^ d * pw m * q = pw m * (2 ^ d * q) := by ac_rfl
          rw [this, Int.mul_comm (pw m) (2 ^ d)]
        have h6 : pw m * r < pw m * (2 ^ d * q + 2 ^ d) := by omega
        have h7 : r < 2 ^ d * q + 2 ^ d := Int.lt_of_mul_lt_mul_left h6 (by omega)
        have h8 : pw m * (r + 1) ≤ pw m * (2 ^ d * q + 2 ^ d) := Int.mul_le_mul_of_nonneg_left (by omega) (by omega)
        rw [Int.mul_add] at h8
        omega
      · rintro ⟨⟨h3, h4⟩, h5, h6⟩
        refine ⟨?_, h3, h4⟩
        rcases Int.lt_or_le m n with h | h
        · exfalso
          have hlt : pw n < pw m := by
            obtain ⟨d, hd⟩ : ∃ d : Nat, n = m + 1 + d := ⟨(n - m - 1).toNat, by omega⟩
            have hpow : pw (m + 1) = 2 ^ d * pw n := by
              unfold pw; rw [← Int.pow_add]; congr 1; omega
            have h1' := pw_succ m (by omega)
            have h2' := two_pos d
            have hpn := pw_pos n
            have h3' : 1 * pw n ≤ 2 ^ d * pw n := Int.mul_le_mul_of_nonneg_right h2' (by omega)
            omega
          omega
        · exact h
    · simp [contB, g1]
  · rw [coverB, g, Bool.false_and, Bool.false_and]
set_option maxHeartbeats 400000 in
theorem ref_Covers (a n b m : Int) (ha0 : 0 ≤ a) (ha1 : a ≤ 4294967295) (hb0 : 0 ≤ b) (hb1 : b ≤ 4294967295) {r : Bool} (hr : coverB a n b m = r) (w : World) :
    Calls Try.prog 113 #[.agg #[.int .u32 a, .int .i64 n], .agg #[.int .u32 b, .int .i64 m]] w fun e w' => e = .returned (.bool r) ∧ Below w.heap.size w w' := by
  subst hr
  rw [coverB_eq a n b m ha0]
  rcases Bool.eq_false_or_eq_true (valB b m) with g0 | g0
  · rcases Bool.eq_false_or_eq_true (contB a n b) with g1 | g1
    all_goals
      rcases Bool.eq_false_or_eq_true (contB a n (b + (pw m - 1))) with g2 | g2
      all_goals
        rw [g0, g1, g2]
        go_enter Try.func113, Try.ntmps113
        go_wp2_with (first | (go_at_call 98; refine (ref_Of_yes _ _ hb0 hb1 g0 _).mono ?_; rintro e w2 ⟨rfl, hb2⟩; obtain ⟨hc2, hf2⟩ := bcell hb2; have hs2 := hb2.size; (try simp at hs2); have hz2_0 : w.heap.size < w2.heap.size := (by omega); have hz2_1 : w.heap.size + 1 < w2.heap.size := (by omega)) | ((with_reducible (go_at_call 114; refine (ref_Contains _ _ _ ha0 ha1 g1 _).mono ?_; rintro e w3 ⟨rfl, hb3⟩; obtain ⟨hc3, hf3⟩ := bcell hb3; have hs3 := hb3.size; (try simp at hs3); have hz3_0 : w.heap.size < w3.heap.size := (by omega); have hz3_1 : w.heap.size + 1 < w3.heap.size := (by omega); have hz3_2 : w2.heap.size < w3.heap.size := (by omega)))) | ((with_reducible (go_at_call 114; refine (ref_Contains _ _ _ ha0 ha1 g2 _).mono ?_; rintro e w4 ⟨rfl, hb4⟩; obtain ⟨hc4, hf4⟩ := bcell hb4; have hs4 := hb4.size; (try simp at hs4); have hz4_0 : w.heap.size < w4.heap.size := (by omega)))))
        go_ret
        exact ⟨rfl, by first | ((repeat (first | exact Below.refl _ _ | refine Below.drew ?_ | refine Below.setCell ?_ (by first | (simp; done) | (simp; omega) | omega) _ | refine Below.alloc ?_ (by first | (simp; done) | (simp; omega) | omega) _ | refine Below.trans ?_ (Below.mono hb3 (by first | (simp; done) | (simp; omega) | omega)) | refine Below.trans ?_ (Below.mono hb2 (by first | (simp; done) | (simp; omega) | omega)))); done) | ((repeat (first | exact Below.refl _ _ | refine Below.drew ?_ | refine Below.setCell ?_ (by first | (simp; done) | (simp; omega) | omega) _ | refine Below.alloc ?_ (by first | (simp; done) | (simp; omega) | omega) _ | refine Below.trans ?_ (Below.mono hb4 (by first | (simp; done) | (simp; omega) | omega)) | refine Below.trans ?_ (Below.mono hb3 (by first | (simp; done) | (simp; omega) | omega)) | refine Below.trans ?_ (Below.mono hb2 (by first | (simp; done) | (simp; omega) | omega)))); done)⟩
  · rw [g0, Bool.false_and]
    go_enter Try.func113, Try.ntmps113
    go_wp2_with (go_at_call 98; refine (ref_Of_no _ _ hb0 hb1 g0 _).mono ?_; rintro e w2 ⟨rfl, hb2⟩; obtain ⟨hc2, hf2⟩ := bcell hb2; have hs2 := hb2.size; (try simp at hs2); have hz2_0 : w.heap.size < w2.heap.size := (by omega); have hz2_1 : w.heap.size + 1 < w2.heap.size := (by omega))
    go_wp2
    go_ret
    exact ⟨rfl, by ((repeat (first | exact Below.refl _ _ | refine Below.drew ?_ | refine Below.setCell ?_ (by first | (simp; done) | (simp; omega) | omega) _ | refine Below.alloc ?_ (by first | (simp; done) | (simp; omega) | omega) _ | refine Below.trans ?_ (Below.mono hb2 (by first | (simp; done) | (simp; omega) | omega)))); done)⟩
end Go.Proofs.Ytfanmniaolncbaa
