/- Lib Reg PreM ComM BlkM App Pre1 Pre2 Blk Ref1 in one text -/
import Derived.Test.YtfanmniaolncbaaRows
import Derived.WalkKit
import Derived.WalkSpells
import Derived.WalkLawsBesides
import Derived.Deep.QuietTactic
import Derived.BigQuiet
import Derived.Lib.Hide
import Derived.Laws.BytesArg
import Derived.Lib.UnsafeStr
import Derived.Lib.LaidTab
import Derived.StillTail
import Derived.Lib.BitFns
import Derived.Deep.RegionHeld3
import Derived.IntWalk
set_option linter.unusedVariables false
set_option linter.unusedSimpArgs false
/- Small laws of my own that every walk of this seat uses: worlds that only grow, a region that draws its order walked once over the class of such worlds, slices that read as lists. -/
namespace Go.Proofs.Ytfanmniaolncbaa
open Go.RowKit
theorem bcell {B : Nat} {W w1 : World} (hb : Below B W w1) : (∀ b o, b < B → w1.cell? ⟨b, o, none⟩ = W.cell? ⟨b, o, none⟩) ∧ (∀ b o, b < B → w1.frozen? ⟨b, o, none⟩ = W.frozen? ⟨b, o, none⟩) :=
  ⟨fun b o h => hb.cell (p := ⟨b, o, none⟩) h, fun b o h => hb.frozen (p := ⟨b, o, none⟩) h⟩
/-- a world in which all that 'W' has below block 'B' stands as it did -/
structure Ext (B : Nat) (W : World) where
  w : World
  below : Below B W w
instance extNonempty (B : Nat) (W : World) : Nonempty (Ext B W) := ⟨⟨W, Below.refl _ _⟩⟩
@[go_sem] theorem Ext.cell {B : Nat} {W : World} (x : Ext B W) (b o : Nat) (h : b < B) : x.w.cell? ⟨b, o, none⟩ = W.cell? ⟨b, o, none⟩ := x.below.cell (p := ⟨b, o, none⟩) h
@[go_sem] theorem Ext.frozen {B : Nat} {W : World} (x : Ext B W) (b o : Nat) (h : b < B) : x.w.frozen? ⟨b, o, none⟩ = W.frozen? ⟨b, o, none⟩ := x.below.frozen (p := ⟨b, o, none⟩) h
/-- A region that draws its order, whose operations read and whose callees give the same value in every later world: one walk in the order of the text. -/
theorem wp_region_later {P : Program} {id : Nat} {Q : Exit → Act → World → Prop} {a : Act} {w : World} {l : List Oper} (hm : P.follows .mixedOrders = true) (hB : Region.lexB .any l.toArray = true)
    (h : wpQuiet P l.toArray (fun w' => ∃ x : Ext w.heap.size w, w' = x.w) (fun a' => ∀ w', (∃ x : Ext w.heap.size w, w' = x.w) → Q .normal a' w') l a) : (Code.region id l.toArray true).wp P Q a w :=
  wp_region_quiet (C := fun w' => ∃ x : Ext w.heap.size w, w' = x.w) hm hB ⟨⟨_, (Below.refl _ _).drew⟩, rfl⟩ (by simpa using h)
theorem ext_below {B : Nat} {W w' : World} (h : ∃ x : Ext B W, w' = x.w) : Below B W w' := by obtain ⟨x, rfl⟩ := h; exact x.below
theorem calls_later {P : Program} {f : FuncId} {args : Array Value} {W : World} {x : Ext W.heap.size W} {v : Value}
    (h : Calls P f args x.w fun e w' => e = .returned v ∧ Below x.w.heap.size x.w w') : Calls P f args x.w fun e w'' => e = .returned v ∧ ∃ y : Ext W.heap.size W, w'' = y.w :=
  h.mono fun _ w' ⟨he, hb⟩ => ⟨he, ⟨w', x.below.trans (hb.mono x.below.size)⟩, rfl⟩
theorem calls_later_same {P : Program} {f : FuncId} {args : Array Value} {B : Nat} {W : World} {x : Ext B W} {v : Value}
    (h : Calls P f args x.w fun e w' => e = .returned v ∧ x.w = w') : Calls P f args x.w fun e w'' => e = .returned v ∧ ∃ y : Ext B W, w'' = y.w :=
  h.mono fun _ _ ⟨he, hb⟩ => ⟨he, x, hb.symm⟩
theorem calls_below {P : Program} {f : FuncId} {args : Array Value} {w : World} {R : Ending → Prop} (h : Calls P f args w fun e w' => R e ∧ w = w') : Calls P f args w fun e w' => R e ∧ Below w.heap.size w w' :=
  h.mono fun _ _ ⟨he, hb⟩ => ⟨he, by subst hb; exact Below.refl _ _⟩
/-- string(b) of bytes that the call owns -/
theorem conv_own_string {P : Program} {w : World} {B : Nat} {src dst e : TypeId} {v : Value} {l : List UInt8} (hs : P.underlying src = some (.slice e)) (he : P.underlying e = some (.int .u8)) (hd : P.underlying dst = some .string)
    (hown : w.ownsRow B e 1 v l.length (Lib.byteCells l)) : (convert src dst v).run P w = .ok (.string ⟨l.toArray⟩) w := by
  rcases hown.2 with ⟨rfl, h0⟩ | ⟨g, cap, cur, rfl, _⟩
  · obtain rfl : l = [] := List.length_eq_zero_iff.1 h0
    rw [run_convert_bytes_nil w src e hs he 0 0 dst hd]; rfl
  · refine run_convert_bytes_back w src dst e _ cap l hs he hd fun j hj => ?_
    exact hown.cells (g := g) rfl j _ (by simp [Lib.byteCells, hj])
/-- a package-level table reads on as it read -/
theorem tab_below {P : Program} {w w' : World} {name : String} {k : IntKind} {zs : List Int} (h : Lib.TabIs P w name k zs) {B : Nat} (hB : w.heap.size ≤ B) (hb : Below B w w') : Lib.TabIs P w' name k zs := by
  unfold Lib.TabIs at *
  unfold World.var? at h ⊢
  cases hg : P.globalNamed name with
  | none => rw [hg] at h; simp at h
  | some g =>
    rw [hg] at h
    simp only [Option.bind_some] at h ⊢
    have hlt : g < w.heap.size := by
      rcases Nat.lt_or_ge g w.heap.size with h1 | h1
      · exact h1
      · rw [Array.getElem?_eq_none h1] at h; simp at h
    rw [hb.block g (by omega)]
    exact h
end Go.Proofs.Ytfanmniaolncbaa
/- A region that draws its order: reads and quiet calls first, then a few operations in one forced order (the stores of results, say): walked once, in the order of the text, over the class of later worlds. -/
namespace Go.Proofs.Ytfanmniaolncbaa
open Go.RowKit
section
variable {P : Program} {ops : Array Oper} {md : Region.Mode} {C : World → Prop}
/-- f operations of the head are still to come, in whatever order; then L -/
def headQ (P : Program) (md : Region.Mode) (ops : Array Oper) (C : World → Prop) (n : Nat) (L : Array Bool → Act → Prop) : Nat → Array Bool → Act → Prop
  | 0, listed, a => L listed a
  | f + 1, listed, a => Region.ready md ops listed ≠ [] ∧ ∀ i ∈ Region.ready md ops listed, i < n ∧ qOp P ops C i (headQ P md ops C n L f (listed.setIfInBounds i true)) a
theorem wpAny_of_headQ {n g : Nat} {L : Array Bool → Act → Prop} {Q' : Exit → Act → World → Prop} (hL : ∀ listed a w, C w → L listed a → wpAny P md ops Q' g listed a w) (f : Nat) :
    ∀ (listed : Array Bool) (a : Act) (w : World), C w → headQ P md ops C n L f listed a → wpAny P md ops Q' (f + g) listed a w := by
  induction f with
  | zero => intro listed a w hw h; rw [Nat.zero_add]; exact hL _ _ _ hw h
  | succ f ih =>
    intro listed a w hw h
    rw [Nat.succ_add]
    exact ⟨fun h0 => absurd h0 h.1, fun i hi => wpOp_of_qOp hw (fun a' w' hw' h' => ih _ a' w' hw' h') (h.2 i hi).2⟩
/-- one of the head's operations that may come up may be taken first -/
theorem headQ_first {n i : Nat} {oi : Oper} {v : Value} {L : Array Bool → Act → Prop} (hi : ops[i]? = some oi) (hsel : ∀ (j : Nat) (o : Oper) cs b, ops[j]? = some o → o.op ≠ .select cs b)
    (hs : Region.sinkB md ops n = true) (hc : Region.chainB md ops n = true) (hn : n < ops.size) (hin : i < n)
    (hdone : ∀ listed a, L listed a → ∀ j ∈ Region.ready md ops listed, n ≤ j) (f : Nat) :
    ∀ (listed : Array Bool) (a : Act), HeadInv md ops n listed →
      (∀ j oj, ops[j]? = some oj → j ≠ i → listed.getD j true = false → (∀ e ∈ oj.after, Region.binds md e = true → e.on ≠ i) → oi.apart ops oj = true) →
      i ∈ Region.ready md ops listed → YieldsIn P ops C oi v a →
      headQ P md ops C n L f (listed.setIfInBounds i true) (a.put oi.dst v) → headQ P md ops C n L (f + 1) listed a := by
  induction f with
  | zero =>
    intro listed a inv _ hr hy H
    refine ⟨fun h => (by rw [h] at hr; cases hr), fun j hj => ?_⟩
    have hjn : j < n := Nat.lt_of_not_le fun h => tail_waits hs hc hn inv _ i rfl hin (mem_ready.1 hr).1 j h hj
    refine ⟨hjn, ?_⟩
    by_cases hji : j = i
    · subst hji; exact hy.qOp hi H
    · exact absurd (hdone _ _ H j (ready_mono hj hji)) (by omega)
  | succ f ih =>
    intro listed a inv hfree hr hy H
    have hun := (mem_ready.1 hr).1
    refine ⟨fun h => (by rw [h] at hr; cases hr), fun j hj => ?_⟩
    have hjn : j < n := Nat.lt_of_not_le fun h => tail_waits hs hc hn inv _ i rfl hin hun j h hj
    refine ⟨hjn, ?_⟩
    by_cases hji : j = i
    · subst hji; exact hy.qOp hi H
    · obtain ⟨hjun, oj, hoj, hall⟩ := mem_ready.1 hj
      have hnot : ∀ e ∈ oj.after, Region.binds md e = true → e.on ≠ i := fun e he hb heq => by
        have h1 := hall e he hb
        rw [heq, getD_both hun] at h1
        cases h1
      refine qOp_mono (fun a' h3 => ih (listed.setIfInBounds j true) a' (inv.set hj hjn) (fun k ok hk hki hun' hno => hfree k ok hk hki ?_ hno) (ready_mono hr (Ne.symm hji)) h3.1 ?_)
        (qOp_put hoj (hfree j oj hoj hji hjun hnot) (fun cs b => hsel i oi cs b hi) (fun cs b => hsel j oj cs b hoj) hy (H.2 j (ready_mono hj hji)).2)
      · by_cases hjk : j = k
        · subst hjk; exact hjun
        · rwa [getD_set_ne true hjk] at hun'
      · rw [Array.setIfInBounds_comm _ _ hji]
        exact h3.2
theorem headQ_lex {n g : Nat} {Lq : Act → Prop} (hsel : Region.noSelect ops = true) (hs : Region.sinkB md ops n = true) (hc : Region.chainB md ops n = true) (hn : n < ops.size) :
    ∀ (l : List Oper) (k : Nat) (listed : Array Bool) (a : Act), (∀ j, j < l.length → l[j]? = ops[k + j]?) → k + l.length = n → HeadInv md ops n listed →
    Region.lexHead md ops g l.length k listed = true → wpQuiet P ops C Lq l a →
    headQ P md ops C n (fun listed' a' => Region.seqB md ops g n listed' = true ∧ Lq a') l.length listed a := by
  intro l
  induction l with
  | nil =>
    intro k listed a _ hk _ hB h
    obtain rfl : k = n := by simpa using hk
    exact ⟨by simpa [Region.lexHead] using hB, h⟩
  | cons o l ih =>
    intro k listed a hl hk inv hB h
    have h0 : ops[k]? = some o := by simpa using (hl 0 (by simp)).symm
    simp only [List.length_cons, Region.lexHead, Bool.and_eq_true] at hB hk
    have hr' : k ∈ Region.ready md ops listed := by simpa using hB.1.1
    have hq : qOp P ops C k (wpQuiet P ops C Lq l) a := by unfold qOp; simp only [h0]; exact h
    obtain ⟨v, hy, hK⟩ := yieldsIn_of_qOp h0 hq
    exact headQ_first h0 (Region.noSelect_spec hsel) hs hc hn (by omega) (fun _ _ hL => seqB_ready hL.1) l.length listed a inv (Region.free_spec h0 hB.1.2) hr' hy
      (ih (k + 1) _ _ (fun j hj => by have := hl (j + 1) (by simp; omega); simpa [Nat.add_assoc, Nat.add_comm 1 j] using this) (by omega) (inv.set hr' (by omega)) hB.2 hK)
/-- The head once in the order of the text, quiet in the class; then the tail as it stands, in whatever world of the class. -/
theorem wp_region_quiet_tail {id : Nat} {Q : Exit → Act → World → Prop} {a : Act} {w : World} {l : List Oper} (n : Nat) (hm : P.follows .mixedOrders = true) (hB : Region.lexTailB .any l.toArray n = true)
    (hC : C { w with drawn := w.drawn + 1 })
    (h : wpQuiet P l.toArray C (fun a' => ∀ w', C w' → wpList P l.toArray Q (l.drop n) a' w') (l.take n) a) : (Code.region id l.toArray true).wp P Q a w := by
  simp only [Region.lexTailB, Bool.and_eq_true, decide_eq_true_eq] at hB
  obtain ⟨⟨⟨⟨hsel, hn⟩, hs⟩, hc⟩, hlex⟩ := hB
  have hn' : n < l.length := by simpa using hn
  have htl : (l.take n).length = n := by simp; omega
  have hdl : (l.drop n).length = l.toArray.size - n := by simp
  have inv0 : HeadInv .any l.toArray n (Array.replicate l.toArray.size false) :=
    ⟨by simp, fun j oj _ hl => (by rw [getD_replicate_false] at hl; cases hl), fun t _ ht => getD_in (by simpa using ht) (getD_replicate_false _ _)⟩
  have H := headQ_lex (md := .any) (g := l.toArray.size - n) hsel hs hc hn (l.take n) 0 _ a (fun j hj => by
    have hj' : j < n := by rw [htl] at hj; exact hj
    simp [hj']) (by simpa using htl) inv0 (by rw [htl]; exact hlex) h
  refine wp_region_any hm ?_
  have := wpAny_of_headQ (Q' := Q) (g := l.toArray.size - n) (fun listed a' w' hw' hL => by
    have := wpAny_of_seq (md := .any) (Q' := Q) (l.drop n) n listed a' w' (fun j => by simp [List.getElem?_drop]) (by rw [hdl]; exact hL.1) (hL.2 w' hw')
    rwa [hdl] at this) _ _ _ _ hC H
  rwa [htl, show n + (l.toArray.size - n) = l.toArray.size by omega] at this
theorem wp_region_later_tail {id : Nat} {Q : Exit → Act → World → Prop} {a : Act} {w : World} {l : List Oper} (n : Nat) (hm : P.follows .mixedOrders = true) (hB : Region.lexTailB .any l.toArray n = true)
    (h : wpQuiet P l.toArray (fun w' => ∃ x : Ext w.heap.size w, w' = x.w) (fun a' => ∀ w', (∃ x : Ext w.heap.size w, w' = x.w) → wpList P l.toArray Q (l.drop n) a' w') (l.take n) a) : (Code.region id l.toArray true).wp P Q a w :=
  wp_region_quiet_tail (C := fun w' => ∃ x : Ext w.heap.size w, w' = x.w) n hm hB ⟨⟨_, (Below.refl _ _).drew⟩, rfl⟩ h
end
end Go.Proofs.Ytfanmniaolncbaa
/- Plain laws on masks and powers of two: no program in sight. -/
namespace Go.Proofs.Ytfanmniaolncbaa
/-- the number of addresses of a prefix of n bits -/
def pw (n : Int) : Int := 2 ^ (32 - n).toNat
def mskZ (n : Int) : Int := 4294967295 * 2 ^ (32 - n).toNat % 4294967296
theorem pw_nat (n : Int) : pw n = ((2 ^ (32 - n).toNat : Nat) : Int) := by unfold pw; simp
theorem pw_pos (n : Int) : 1 ≤ pw n := by rw [pw_nat]; have := Nat.pow_pos (n := (32 - n).toNat) (show 0 < 2 by decide); omega
theorem two_pow_le32 (k : Nat) (h : k ≤ 32) : 2 ^ k ≤ 4294967296 := by
  have := Nat.pow_le_pow_right (show 0 < 2 by decide) h
  simpa using this
theorem pw_le (n : Int) (h : 0 ≤ n) : pw n ≤ 4294967296 := by rw [pw_nat]; have := two_pow_le32 (32 - n).toNat (by omega); omega
theorem pw_zero : pw 0 = 4294967296 := by decide
theorem pw_32 : pw 32 = 1 := by decide
theorem pw_succ (n : Int) (h : n ≤ 31) : pw n = 2 * pw (n + 1) := by
  unfold pw
  have : (32 - n).toNat = (32 - (n + 1)).toNat + 1 := by omega
  rw [this, Int.pow_succ]; omega
theorem pw_dvd32 (n : Int) (h0 : 0 ≤ n) (h1 : n ≤ 32) : 4294967296 % pw n = 0 := by
  have h : (4294967296 : Nat) = 2 ^ (32 - (32 - n).toNat) * 2 ^ (32 - n).toNat := by
    rw [← Nat.pow_add, show 32 - (32 - n).toNat + (32 - n).toNat = 32 by omega]
  rw [pw_nat]
  have : (4294967296 : Int) = ((2 ^ (32 - (32 - n).toNat) * 2 ^ (32 - n).toNat : Nat) : Int) := by rw [← h]; rfl
  rw [this]
  rw [← Int.natCast_emod]
  simp
theorem mskZ_eq (n : Int) (h0 : 0 ≤ n) (h1 : n ≤ 32) : mskZ n = 4294967296 - pw n := by
  have hp := pw_pos n
  have hl := pw_le n h0
  unfold mskZ
  have e : (4294967295 : Int) * 2 ^ (32 - n).toNat = (4294967296 - pw n) + 4294967296 * (pw n - 1) := by
    show 4294967295 * pw n = _
    omega
  rw [e, Int.add_mul_emod_self_left]
  exact Int.emod_eq_of_lt (by omega) (by omega)
theorem mskZ_bd (n : Int) : 0 ≤ mskZ n ∧ mskZ n ≤ 4294967295 := by unfold mskZ; omega
theorem nat_and_mask (a k : Nat) (ha : a < 4294967296) (hk : k ≤ 32) : a &&& (4294967296 - 2 ^ k) = a / 2 ^ k * 2 ^ k := by
  have e : 4294967296 - 2 ^ k = (2 ^ (32 - k) - 1) * 2 ^ k := by
    rw [Nat.sub_mul, ← Nat.pow_add, show 32 - k + k = 32 by omega]; simp
  rw [e]
  apply Nat.eq_of_testBit_eq
  intro j
  rw [Nat.testBit_and, Nat.testBit_mul_two_pow, Nat.testBit_mul_two_pow, Nat.testBit_two_pow_sub_one, Nat.testBit_div_two_pow]
  by_cases h : k ≤ j
  · by_cases h2 : j < 32
    · have e2 : k + (j - k) = j := by omega
      simp [h, show j - k < 32 - k by omega]
    · have : a.testBit j = false := Nat.testBit_lt_two_pow (Nat.lt_of_lt_of_le ha (by have := Nat.pow_le_pow_right (show 0 < 2 by decide) (show 32 ≤ j by omega); simpa using this))
      have e2 : k + (j - k) = j := by omega
      simp [h, this]
  · simp [h]
theorem and_mask (a n : Int) (ha0 : 0 ≤ a) (ha : a ≤ 4294967295) (h0 : 0 ≤ n) (h1 : n ≤ 32) : bits .and .u32 a (mskZ n) = a / pw n * pw n := by
  have hb := mskZ_bd n
  rw [u32_and a (mskZ n) ha0 (by omega) hb.1 (by omega)]
  have hk : (32 - n).toNat ≤ 32 := by omega
  have hl := two_pow_le32 _ hk
  have e : (mskZ n).toNat = 4294967296 - 2 ^ (32 - n).toNat := by rw [mskZ_eq n h0 h1, pw_nat]; omega
  rw [e, nat_and_mask a.toNat _ (by omega) hk, pw_nat]
  obtain ⟨m, rfl⟩ := Int.eq_ofNat_of_zero_le ha0
  simp
theorem andNot_mask (a n : Int) (ha0 : 0 ≤ a) (ha : a ≤ 4294967295) (h0 : 0 ≤ n) (h1 : n ≤ 32) : bits .andNot .u32 a (mskZ n) = a % pw n := by
  have hb := mskZ_bd n
  rw [u32_andNot a (mskZ n) ha0 (by omega) hb.1 (by omega)]
  have hk : (32 - n).toNat ≤ 32 := by omega
  have hl := two_pow_le32 _ hk
  have hp := pw_pos n
  have e : 4294967295 - (mskZ n).toNat = 2 ^ (32 - n).toNat - 1 := by rw [mskZ_eq n h0 h1, pw_nat]; rw [pw_nat] at hp; omega
  rw [e, Nat.and_two_pow_sub_one_eq_mod, pw_nat]
  obtain ⟨m, rfl⟩ := Int.eq_ofNat_of_zero_le ha0
  simp
theorem or_upper (a n : Int) (ha0 : 0 ≤ a) (ha : a ≤ 4294967295) (h0 : 0 ≤ n) (h1 : n ≤ 31) (hv : a % pw n = 0) : bits .or .u32 a (2 ^ (31 - n).toNat % 4294967296) = a + pw (n + 1) := by
  have e0 : (31 - n).toNat = (32 - (n + 1)).toNat := by omega
  have e1 : (2 : Int) ^ (31 - n).toNat = pw (n + 1) := by rw [e0]; rfl
  have hp := pw_pos (n + 1)
  have hs := pw_succ n h1
  have hl := pw_le n h0
  rw [e1, Int.emod_eq_of_lt (by omega) (by omega), u32_or a _ ha0 (by omega) (by omega) (by omega)]
  have hk : pw (n + 1) = ((2 ^ (31 - n).toNat : Nat) : Int) := by rw [e0]; exact pw_nat _
  obtain ⟨m, rfl⟩ := Int.eq_ofNat_of_zero_le ha0
  have hv2 : m % (2 * 2 ^ (31 - n).toNat) = 0 := by rw [hs, hk] at hv; exact_mod_cast hv
  rw [hk, Int.toNat_natCast, Int.toNat_natCast]
  have : m ||| 2 ^ (31 - n).toNat = m + 2 ^ (31 - n).toNat := by
    refine nat_join ((31 - n).toNat + 1) m _ ?_ ?_
    · rw [Nat.pow_succ, Nat.mul_comm]; exact hv2
    · rw [Nat.pow_succ]; have := Nat.pow_pos (n := (31 - n).toNat) (show 0 < 2 by decide); omega
  rw [this]; simp
theorem upper_le (a n : Int) (ha : a ≤ 4294967295) (h0 : 0 ≤ n) (hv : a % pw n = 0) (ha0 : 0 ≤ a) (h1 : n ≤ 32) : a + pw n ≤ 4294967296 := by
  have hp := pw_pos n
  have hd := pw_dvd32 n h0 h1
  have h1 := Int.emod_add_mul_ediv a (pw n)
  have h2 := Int.emod_add_mul_ediv 4294967296 (pw n)
  rw [hv] at h1; rw [hd] at h2
  have h3 : pw n * (a / pw n) < pw n * (4294967296 / pw n) := by omega
  have h4 : a / pw n < 4294967296 / pw n := Int.lt_of_mul_lt_mul_left h3 (by omega)
  have h5 : pw n * (a / pw n + 1) ≤ pw n * (4294967296 / pw n) := Int.mul_le_mul_of_nonneg_left (by omega) (by omega)
  rw [Int.mul_add] at h5
  omega
theorem or_low (a n : Int) (ha0 : 0 ≤ a) (ha : a ≤ 4294967295) (h0 : 0 ≤ n) (h1 : n ≤ 32) (hv : a % pw n = 0) : bits .or .u32 a (pw n - 1) = a + (pw n - 1) := by
  have hp := pw_pos n
  have hl := pw_le n h0
  rw [u32_or a _ ha0 (by omega) (by omega) (by omega)]
  obtain ⟨m, rfl⟩ := Int.eq_ofNat_of_zero_le ha0
  have hk := pw_nat n
  have hv2 : m % 2 ^ (32 - n).toNat = 0 := by rw [hk] at hv; exact_mod_cast hv
  have e : (pw n - 1).toNat = 2 ^ (32 - n).toNat - 1 := by omega
  have hpos := Nat.pow_pos (n := (32 - n).toNat) (show 0 < 2 by decide)
  rw [e, Int.toNat_natCast, nat_join (32 - n).toNat m _ hv2 (by omega)]
  omega
theorem not_mask (n : Int) (h0 : 0 ≤ n) (h1 : n ≤ 32) : bits .xor .u32 (if IntKind.u32.signed = true then -1 else IntKind.u32.max) (mskZ n) = pw n - 1 := by
  have hp := pw_pos n
  have hl := pw_le n h0
  have e : (if IntKind.u32.signed = true then (-1 : Int) else IntKind.u32.max) = ((4294967295 : Nat) : Int) := by decide
  have em : mskZ n = ((4294967296 - 2 ^ (32 - n).toNat : Nat) : Int) := by
    rw [mskZ_eq n h0 h1, pw_nat]; have := two_pow_le32 (32 - n).toNat (by omega); omega
  rw [e, em, u32_xor_nat _ _ (by decide) (by have := Nat.pow_pos (n := (32 - n).toNat) (show 0 < 2 by decide); omega)]
  have hk : pw n = ((2 ^ (32 - n).toNat : Nat) : Int) := pw_nat n
  have hk0 := Nat.pow_pos (n := (32 - n).toNat) (show 0 < 2 by decide)
  have hk1 := two_pow_le32 (32 - n).toNat (by omega)
  have : 4294967295 ^^^ (4294967296 - 2 ^ (32 - n).toNat) = 2 ^ (32 - n).toNat - 1 := by
    have hkk : (32 - n).toNat ≤ 32 := by omega
    generalize (32 - n).toNat = k at *
    have e : 4294967296 - 2 ^ k = (2 ^ (32 - k) - 1) * 2 ^ k := by
      rw [Nat.sub_mul, ← Nat.pow_add, show 32 - k + k = 32 by omega]; simp
    rw [e, show (4294967295 : Nat) = 2 ^ 32 - 1 by rfl]
    apply Nat.eq_of_testBit_eq
    intro j
    rw [Nat.testBit_xor, Nat.testBit_mul_two_pow, Nat.testBit_two_pow_sub_one, Nat.testBit_two_pow_sub_one, Nat.testBit_two_pow_sub_one]
    by_cases h1 : k ≤ j
    · by_cases h2 : j < 32
      · simp [h1, h2, show j - k < 32 - k by omega, show ¬ j < k by omega]
      · simp [h1, h2, show ¬ j - k < 32 - k by omega, show ¬ j < k by omega]
    · simp [h1, show j < 32 by omega, show j < k by omega]
  rw [this, hk]; omega
theorem or_join (i : Nat) (x y : Int) (hx0 : 0 ≤ x) (hx : x ≤ 4294967295) (hxm : x % 2 ^ i = 0) (hy0 : 0 ≤ y) (hy : y < 2 ^ i) (hy1 : y ≤ 4294967295) : bits .or .u32 x y = x + y := by
  rw [u32_or x y hx0 (by omega) hy0 (by omega)]
  obtain ⟨x, rfl⟩ := Int.eq_ofNat_of_zero_le hx0
  obtain ⟨y, rfl⟩ := Int.eq_ofNat_of_zero_le hy0
  rw [Int.toNat_natCast, Int.toNat_natCast, nat_join i x y (by exact_mod_cast hxm) (by exact_mod_cast hy)]
  simp
theorem or4 (p0 p1 p2 p3 : Int) (b0 : 0 ≤ p0 ∧ p0 ≤ 255) (b1 : 0 ≤ p1 ∧ p1 ≤ 255) (b2 : 0 ≤ p2 ∧ p2 ≤ 255) (b3 : 0 ≤ p3 ∧ p3 ≤ 255) :
    bits .or .u32 (bits .or .u32 (bits .or .u32 (p0 * 16777216) (p1 * 65536)) (p2 * 256)) p3 = p0 * 16777216 + p1 * 65536 + p2 * 256 + p3 := by
  rw [or_join 24 (p0 * 16777216) (p1 * 65536) (by omega) (by omega) (by simp) (by omega) (by simp; omega) (by omega)]
  rw [or_join 16 (p0 * 16777216 + p1 * 65536) (p2 * 256) (by omega) (by omega) (by simp; omega) (by omega) (by simp; omega) (by omega)]
  rw [or_join 8 (p0 * 16777216 + p1 * 65536 + p2 * 256) p3 (by omega) (by omega) (by simp; omega) (by omega) (by simp; omega) (by omega)]
theorem nat_or_low (a k : Nat) (h : a % 2 ^ k = 0) (y : Nat) (hy : y < 2 ^ k) : a ||| y = a + y := nat_join k a y h hy
end Go.Proofs.Ytfanmniaolncbaa
/- Plain laws on the common prefix of two addresses: no program in sight. -/
namespace Go.Proofs.Ytfanmniaolncbaa
def valB (a n : Int) : Bool := decide (0 ≤ n) && (decide (n ≤ 32) && (a % pw n == 0))
theorem valB_iff (a n : Int) : valB a n = true ↔ 0 ≤ n ∧ n ≤ 32 ∧ a % pw n = 0 := by simp [valB]
def contB (a n x : Int) : Bool := valB a n && (x / pw n * pw n == a)
def coverB (a n b m : Int) : Bool := valB b m && (decide (n ≤ m) && contB a n b)
def commN (a b : Int) : Int := 32 - (Lib.bitLen (bits .xor .u32 a b).toNat : Int)
theorem bitLen_spec : ∀ (k x : Nat), x < 2 ^ k → k ≤ 64 → x < 2 ^ Lib.bitLen x ∧ (x ≠ 0 → 1 ≤ Lib.bitLen x ∧ 2 ^ (Lib.bitLen x - 1) ≤ x)
  | 0, x, h, _ => by
    obtain rfl : x = 0 := by simpa using h
    exact ⟨by decide, fun h => absurd rfl h⟩
  | k + 1, x, h, hk => by
    by_cases h0 : x = 0
    · subst h0; exact ⟨by decide, fun h => absurd rfl h⟩
    · have h64 : x < 2 ^ 64 := Nat.lt_of_lt_of_le h (Nat.pow_le_pow_right (by decide) hk)
      have ih := bitLen_spec k (x / 2) (by rw [Nat.pow_succ] at h; omega) (by omega)
      rw [Lib.bitLen_half x h0 h64]
      refine ⟨?_, fun _ => ⟨by omega, ?_⟩⟩
      · rw [Nat.add_comm, Nat.pow_succ]; have := ih.1; omega
      · rw [show 1 + Lib.bitLen (x / 2) - 1 = Lib.bitLen (x / 2) by omega]
        by_cases h1 : x / 2 = 0
        · rw [h1]; show 2 ^ Lib.bitLen 0 ≤ x; rw [show Lib.bitLen 0 = 0 by decide]; omega
        · have ⟨g1, g2⟩ := ih.2 h1
          have e : 2 ^ Lib.bitLen (x / 2) = 2 * 2 ^ (Lib.bitLen (x / 2) - 1) := by
            rw [← Nat.pow_succ', show (Lib.bitLen (x / 2) - 1).succ = Lib.bitLen (x / 2) by omega]
          omega
theorem xor_div (a b k : Nat) (h : a ^^^ b < 2 ^ k) : a / 2 ^ k = b / 2 ^ k := by
  apply Nat.eq_of_testBit_eq
  intro j
  rw [Nat.testBit_div_two_pow, Nat.testBit_div_two_pow]
  have h1 : (a ^^^ b).testBit (k + j) = false := Nat.testBit_lt_two_pow (Nat.lt_of_lt_of_le h (Nat.pow_le_pow_right (by decide) (by omega)))
  rw [Nat.testBit_xor] at h1
  simpa [Nat.add_comm] using h1
theorem xor_div_ne (a b k : Nat) (h1 : 2 ^ k ≤ a ^^^ b) (h2 : a ^^^ b < 2 ^ (k + 1)) : a / 2 ^ k ≠ b / 2 ^ k := by
  intro e
  have h3 : (a ^^^ b).testBit k = true := Nat.testBit_of_two_pow_le_and_two_pow_add_one_gt h1 h2
  rw [Nat.testBit_xor] at h3
  have ha : a.testBit k = (a / 2 ^ k).testBit 0 := by rw [Nat.testBit_div_two_pow]; simp
  have hb : b.testBit k = (b / 2 ^ k).testBit 0 := by rw [Nat.testBit_div_two_pow]; simp
  rw [ha, hb, e] at h3
  simp at h3
theorem xor_facts (a b : Int) (ha0 : 0 ≤ a) (ha1 : a ≤ 4294967295) (hb0 : 0 ≤ b) (hb1 : b ≤ 4294967295) : bits .xor .u32 a b = ((a.toNat ^^^ b.toNat : Nat) : Int) ∧ a.toNat ^^^ b.toNat < 2 ^ 32 := by
  refine ⟨u32_xor a b ha0 (by omega) hb0 (by omega), Nat.xor_lt_two_pow (by omega) (by omega)⟩
theorem xor_bd (a b : Int) (ha0 : 0 ≤ a) (ha1 : a ≤ 4294967295) (hb0 : 0 ≤ b) (hb1 : b ≤ 4294967295) : 0 ≤ bits .xor .u32 a b ∧ bits .xor .u32 a b ≤ 4294967295 := by
  have ⟨e, h⟩ := xor_facts a b ha0 ha1 hb0 hb1
  rw [e]; simp at h; omega
theorem commN_comm (a b : Int) (ha0 : 0 ≤ a) (ha1 : a ≤ 4294967295) (hb0 : 0 ≤ b) (hb1 : b ≤ 4294967295) : commN b a = commN a b := by
  unfold commN
  rw [(xor_facts a b ha0 ha1 hb0 hb1).1, (xor_facts b a hb0 hb1 ha0 ha1).1, Nat.xor_comm]
theorem commN_bd (a b : Int) (ha0 : 0 ≤ a) (ha1 : a ≤ 4294967295) (hb0 : 0 ≤ b) (hb1 : b ≤ 4294967295) : 0 ≤ commN a b ∧ commN a b ≤ 32 := by
  unfold commN
  have ⟨e, h⟩ := xor_facts a b ha0 ha1 hb0 hb1
  have := Lib.bitLen_le (bits .xor .u32 a b).toNat 32 (by decide) (by rw [e]; exact h)
  omega
theorem commN_div (a b : Int) (ha0 : 0 ≤ a) (ha1 : a ≤ 4294967295) (hb0 : 0 ≤ b) (hb1 : b ≤ 4294967295) : a / pw (commN a b) = b / pw (commN a b) := by
  have ⟨e, h⟩ := xor_facts a b ha0 ha1 hb0 hb1
  have hs := (bitLen_spec 32 _ h (by decide)).1
  have hp : pw (commN a b) = ((2 ^ Lib.bitLen (a.toNat ^^^ b.toNat) : Nat) : Int) := by
    rw [pw_nat]; unfold commN; rw [e, Int.toNat_natCast]
    rw [show (32 - (32 - (Lib.bitLen (a.toNat ^^^ b.toNat) : Int))).toNat = Lib.bitLen (a.toNat ^^^ b.toNat) by omega]
  rw [hp]
  obtain ⟨x, rfl⟩ := Int.eq_ofNat_of_zero_le ha0
  obtain ⟨y, rfl⟩ := Int.eq_ofNat_of_zero_le hb0
  rw [Int.toNat_natCast, Int.toNat_natCast] at *
  exact_mod_cast xor_div x y _ hs
theorem commN_ne (a b : Int) (ha0 : 0 ≤ a) (ha1 : a ≤ 4294967295) (hb0 : 0 ≤ b) (hb1 : b ≤ 4294967295) (hn : commN a b ≤ 31) : a / pw (commN a b + 1) ≠ b / pw (commN a b + 1) := by
  have ⟨e, h⟩ := xor_facts a b ha0 ha1 hb0 hb1
  have hs := bitLen_spec 32 _ h (by decide)
  have hne : a.toNat ^^^ b.toNat ≠ 0 := by
    intro h0
    unfold commN at hn; rw [e, Int.toNat_natCast, h0, show Lib.bitLen 0 = 0 by decide] at hn
    omega
  have hs2 := hs.2 hne
  have hp : pw (commN a b + 1) = ((2 ^ (Lib.bitLen (a.toNat ^^^ b.toNat) - 1) : Nat) : Int) := by
    rw [pw_nat]; unfold commN; rw [e, Int.toNat_natCast]
    rw [show (32 - (32 - (Lib.bitLen (a.toNat ^^^ b.toNat) : Int) + 1)).toNat = Lib.bitLen (a.toNat ^^^ b.toNat) - 1 by omega]
  rw [hp]
  obtain ⟨x, rfl⟩ := Int.eq_ofNat_of_zero_le ha0
  obtain ⟨y, rfl⟩ := Int.eq_ofNat_of_zero_le hb0
  rw [Int.toNat_natCast, Int.toNat_natCast] at *
  intro h3
  refine xor_div_ne x y (Lib.bitLen (x ^^^ y) - 1) hs2.2 ?_ (by exact_mod_cast h3)
  rw [show Lib.bitLen (x ^^^ y) - 1 + 1 = Lib.bitLen (x ^^^ y) by omega]; exact hs.1
theorem commN_eq (a b : Int) (ha0 : 0 ≤ a) (ha1 : a ≤ 4294967295) (hb0 : 0 ≤ b) (hb1 : b ≤ 4294967295) : commN a b = 32 ↔ a = b := by
  constructor
  · intro h
    have := commN_div a b ha0 ha1 hb0 hb1
    rw [h, pw_32] at this; simpa using this
  · intro h
    subst h
    unfold commN
    rw [(xor_facts a a ha0 ha1 ha0 ha1).1, Nat.xor_self]; decide
theorem keep_mod (a n : Int) : (a / pw n * pw n) % pw n = 0 := by simp
theorem keep_bd (a n : Int) (ha0 : 0 ≤ a) : 0 ≤ a / pw n * pw n ∧ a / pw n * pw n ≤ a := by
  have hp := pw_pos n
  have h1 := Int.ediv_mul_le a (show pw n ≠ 0 by omega)
  exact ⟨Int.mul_nonneg (Int.ediv_nonneg ha0 (by omega)) (by omega), h1⟩
theorem keep_keep (a n : Int) : (a / pw n * pw n) / pw n = a / pw n := Int.mul_ediv_cancel _ (by have := pw_pos n; omega)
theorem cont_keep (a b n : Int) (h0 : 0 ≤ n) (h1 : n ≤ 32) (h : a / pw n = b / pw n) : contB (a / pw n * pw n) n b = true := by
  have : valB (a / pw n * pw n) n = true := (valB_iff _ _).2 ⟨h0, h1, keep_mod a n⟩
  rw [contB, this, h]; simp
theorem contB_mul (m x k : Int) (h0 : 0 ≤ k) (h1 : k ≤ 32) : contB (m * pw k) k x = decide (x / pw k = m) := by
  have hp := pw_pos k
  have hv : valB (m * pw k) k = true := (valB_iff _ _).2 ⟨h0, h1, by simp⟩
  rw [contB, hv, Bool.true_and]
  by_cases h : x / pw k = m
  · rw [h]; simp
  · have : ¬ x / pw k * pw k = m * pw k := fun e => h (Int.eq_of_mul_eq_mul_right (by omega) e)
    simp [h, this]
/-- the two halves of a prefix tell two addresses apart that part just there -/
theorem halves_apart (a b n : Int) (h0 : 0 ≤ n) (h1 : n ≤ 31) (he : a / pw n = b / pw n) (hne : a / pw (n + 1) ≠ b / pw (n + 1)) :
    ∃ c : Bool, contB (a / pw n * pw n) (n + 1) a = c ∧ contB (a / pw n * pw n) (n + 1) b = (!c) ∧ contB (a / pw n * pw n + pw (n + 1)) (n + 1) a = (!c) ∧ contB (a / pw n * pw n + pw (n + 1)) (n + 1) b = c := by
  have hs := pw_succ n h1
  have hp := pw_pos (n + 1)
  have key : ∀ x, x / pw n = a / pw n → x / pw (n + 1) = 2 * (a / pw n) ∨ x / pw (n + 1) = 2 * (a / pw n) + 1 := fun x hx => by
    have e : x / pw n = x / pw (n + 1) / 2 := by rw [hs, Int.mul_comm, Int.ediv_ediv_of_nonneg (by omega)]
    rw [hx] at e
    omega
  have hQ : a / pw n * pw n = 2 * (a / pw n) * pw (n + 1) := by
    have : ∀ q p : Int, q * (2 * p) = 2 * q * p := fun q p => by rw [← Int.mul_assoc, Int.mul_comm q 2]
    conv => lhs; rhs; rw [hs]
    exact this _ _
  have hQ1 : a / pw n * pw n + pw (n + 1) = (2 * (a / pw n) + 1) * pw (n + 1) := by rw [hQ, Int.add_mul, Int.one_mul]
  rw [hQ1, hQ]
  simp only [contB_mul _ _ _ (show 0 ≤ n + 1 by omega) (show n + 1 ≤ 32 by omega)]
  have ka := key a rfl
  have kb := key b he.symm
  generalize a / pw n = q at *
  generalize a / pw (n + 1) = qa at *
  generalize b / pw (n + 1) = qb at *
  refine ⟨decide (qa = 2 * q), rfl, ?_, ?_, ?_⟩
  · rw [Bool.eq_iff_iff]; simp; omega
  · rw [Bool.eq_iff_iff]; simp; omega
  · rw [Bool.eq_iff_iff]; simp; omega
end Go.Proofs.Ytfanmniaolncbaa
/- Plain laws on blocks of ranges: no program in sight. -/
namespace Go.Proofs.Ytfanmniaolncbaa
/-- the greatest power of two, at most 2^k, that divides lo and is at most rem -/
def bsz : Nat → Int → Int → Int
  | 0, _, _ => 1
  | k + 1, lo, rem => if lo % 2 ^ (k + 1) = 0 ∧ 2 ^ (k + 1) ≤ rem then 2 ^ (k + 1) else bsz k lo rem
def pblk (wd : Nat) : Nat → Int → Int → List (Int × Int)
  | 0, _, _ => []
  | f + 1, lo, e => if lo < e then (lo, lo + bsz wd lo (e - lo) - 1) :: pblk wd f (lo + bsz wd lo (e - lo)) e else []
def badB (lo hi width : Int) : Bool := decide (width < 0) || (decide (32 < width) || (decide (hi < lo) || decide (2 ^ width.toNat ≤ hi)))
def blocksP (lo hi width : Int) : List (Int × Int) := if badB lo hi width then [] else pblk width.toNat (hi + 1 - lo).toNat lo (hi + 1)
theorem two_pos (k : Nat) : (1 : Int) ≤ 2 ^ k := by have := Nat.pow_pos (n := k) (show 0 < 2 by decide); exact_mod_cast this
theorem two_le (k : Nat) (h : k ≤ 32) : (2 : Int) ^ k ≤ 4294967296 := by
  have h1 := two_pow_le32 k h
  have h2 : (2 : Int) ^ k = ((2 ^ k : Nat) : Int) := by simp
  rw [h2]; omega
theorem bsz_pos (k : Nat) (lo rem : Int) : 1 ≤ bsz k lo rem := by
  induction k with
  | zero => simp [bsz]
  | succ k ih => simp only [bsz]; split
                 · exact two_pos _
                 · exact ih
theorem bsz_le (k : Nat) (lo rem : Int) (h : 1 ≤ rem) : bsz k lo rem ≤ rem := by
  induction k with
  | zero => simpa [bsz] using h
  | succ k ih => simp only [bsz]; split
                 · rename_i h; exact h.2
                 · exact ih
theorem bsz_hit (k : Nat) (lo rem : Int) (h1 : lo % 2 ^ k = 0) (h2 : 2 ^ k ≤ rem) : bsz k lo rem = 2 ^ k := by
  cases k with
  | zero => simp [bsz]
  | succ k => rw [bsz, if_pos ⟨h1, h2⟩]
theorem bsz_miss (k : Nat) (lo rem : Int) (h : ¬ (lo % 2 ^ (k + 1) = 0 ∧ 2 ^ (k + 1) ≤ rem)) : bsz (k + 1) lo rem = bsz k lo rem := by
  rw [bsz, if_neg h]
theorem pblk_step (wd : Nat) (lo e : Int) (h : lo < e) : pblk wd (e - lo).toNat lo e = (lo, lo + bsz wd lo (e - lo) - 1) :: pblk wd (e - (lo + bsz wd lo (e - lo))).toNat (lo + bsz wd lo (e - lo)) e := by
  have key : ∀ (f g : Nat) (lo : Int), (e - lo).toNat ≤ f → (e - lo).toNat ≤ g → pblk wd f lo e = pblk wd g lo e := by
    intro f
    induction f with
    | zero =>
      intro g lo hf _
      cases g with
      | zero => rfl
      | succ g => rw [pblk, pblk, if_neg (by omega)]
    | succ f ih =>
      intro g lo hf hg
      cases g with
      | zero => rw [pblk, pblk, if_neg (by omega)]
      | succ g =>
        rw [pblk, pblk]
        split
        · have := bsz_pos wd lo (e - lo)
          rw [ih g _ (by omega) (by omega)]
        · rfl
  have := bsz_pos wd lo (e - lo)
  obtain ⟨n, hn⟩ : ∃ n, (e - lo).toNat = n + 1 := ⟨(e - lo).toNat - 1, by omega⟩
  rw [hn, pblk, if_pos h, key n _ _ (by omega) (Nat.le_refl _)]
theorem pblk_end (wd : Nat) (e : Int) (f : Nat) : pblk wd f e e = [] := by cases f <;> simp [pblk]
def rngCells (xs : List (Int × Int)) : List Value := xs.flatMap fun p => [.int .u32 p.1, .int .u32 p.2]
theorem rngCells_len (xs : List (Int × Int)) : (rngCells xs).length = xs.length * 2 := by
  induction xs with
  | nil => rfl
  | cons p xs ih => simp only [rngCells, List.flatMap_cons, List.length_append, List.length_cons] at *; simp at *; omega
theorem rngCells_snoc (xs : List (Int × Int)) (a b : Int) : rngCells (xs ++ [(a, b)]) = rngCells xs ++ [.int .u32 a, .int .u32 b] := by simp [rngCells]
end Go.Proofs.Ytfanmniaolncbaa
/- Append of one new element to a slice of the call's own: the kit's law, its side conditions paid once. -/
namespace Go.Proofs.Ytfanmniaolncbaa
open Go.RowKit
section
variable {P : Program}
theorem grown_below {base : Nat} {w w' : World} {e : TypeId} {size : Nat} {v : Value} {n : Nat} {xs : List Value} (hown : w.ownsRow base e size v n xs) (hg : w.grownBy w' v.ownBlock) (hbase : base ≤ w.heap.size) : Below base w w' :=
  (Below.refl _ _).grown hg hbase fun k hk => (hown.lt k hk).1
/-- x = append(x, e): the new element's cells are the last block. -/
theorem wpList_append_new {ops : Array Oper} {rest : List Oper} {o : Oper} {a : Act} {Q : Exit → Act → World → Prop} (hgd : o.guard = none) (s x : Operand) (t : TypeId)
    (ho : o.op = .call { callee := .builtin .append, args := #[s, x], argTypes := #[t, t] })
    (base : Nat) (e e' : TypeId) (z : Value) (size bytes : Nat) (ht : P.underlying t = some (.slice e)) (hi : (P.info? e).map (fun i => (i.zero, i.size, i.bytes)) = some (some z, size, bytes))
    (hzs : z.cells.size = size) (hsz : 0 < size)
    (v : Value) (n : Nat) (xs : List Value) (hs : a.eval s = v) {w : World} (hown : w.ownsRow base e size v n xs)
    (vals : Array Value) (hx : a.eval x = .slice (some ⟨w.heap.size, 0, none⟩) 1 1) (hl : vals.size = size) (h1 : ∀ u ∈ vals.toList, u.oneCell' = true)
    (hbytes : (n + 1) * bytes ≤ 140737488355328) (hb1 : 1 ≤ bytes) (hbase : base ≤ w.heap.size)
    (h : ∀ v' w', w'.ownsRow base e size v' (n + 1) (xs ++ vals.toList) → Below base w w' → (w.alloc (.cells vals e')).grownBy w' v.ownBlock → (∃ ad c, v' = .slice (some ad) (n + 1) c) → wpList P ops Q rest (a.put o.dst v') w') :
    wpList P ops Q (o :: rest) a (w.alloc (.cells vals e')) := by
  obtain ⟨i0, hi0, hz0, hz1, hz2⟩ := info_parts hi
  have hn : n + 1 ≤ 140737488355328 := Nat.le_trans (Nat.le_mul_of_pos_right (n + 1) hb1) hbytes
  refine wpList_append_own _ hgd s x t ho base e i0 z size bytes ht hi0 hz0 hz1 hz2 hzs hsz v n xs hs (hown.alloc _) ⟨w.heap.size, 0, none⟩ 1 1 vals.toList hx (by simp [hl]) ?_ h1 (by unfold maxLen; omega) hbytes (by simp; omega) fun v' w' h2 h3 h4 => ?_
  · intro j u hj
    rw [show (⟨w.heap.size, 0, none⟩ : Addr).add j = ⟨w.heap.size, j, none⟩ by simp only [Addr.add, Nat.zero_add]; split <;> simp_all]
    rw [World.cell?_alloc_at _ _ _ _ rfl]
    simpa using hj
  · refine h v' w' h2 (((Below.refl _ _).alloc hbase _).trans (grown_below (hown.alloc _) h3 (by simp; omega))) h3 ?_
    rcases h2.2 with ⟨_, h0⟩ | ⟨g, cap, cur, hv, _⟩
    · omega
    · exact ⟨_, _, hv⟩
end
end Go.Proofs.Ytfanmniaolncbaa
/- Walks of package prefix: mask, Valid, Of, Contains, Covers. -/
namespace Go.Proofs.Ytfanmniaolncbaa
open Go.RowKit
set_option maxHeartbeats 400000 in
theorem prefix_mask (n : Int) (h0 : 0 ≤ n) (h1 : n ≤ 32) (w : World) :
    Calls Try.prog 105 #[.int .i64 n] w fun e w' => e = .returned (.int .u32 (mskZ n)) ∧ w = w' := by
  go_enter Try.func105, Try.ntmps105
  go_wp2
  go_ret
  exact ⟨rfl, rfl⟩
set_option maxHeartbeats 400000 in
theorem prefix_Valid (a n : Int) (ha0 : 0 ≤ a) (ha1 : a ≤ 4294967295) (w : World) :
    Calls Try.prog 83 #[.agg #[.int .u32 a, .int .i64 n]] w fun e w' => e = .returned (.bool (valB a n)) ∧ Below w.heap.size w w' := by
  unfold valB
  rcases Bool.eq_false_or_eq_true (decide (0 ≤ n)) with g0 | g0
  rcases Bool.eq_false_or_eq_true (decide (n ≤ 32)) with g1 | g1
  rw [← andNot_mask a n ha0 ha1 (by simpa using g0) (by simpa using g1)]
  all_goals
    go_enter Try.func83, Try.ntmps83
    go_wp2
    refine wp_region_later (by kernel_rfl) (by kernel_rfl) ?_
    repeat (go_big_quiet_step ((go_at_call 105; exact calls_later_same (prefix_mask _ (by simpa using g0) (by simpa using g1) _))))
    refine wpQuiet_nil ?_
    intro w2 hw'
    have hb2 := ext_below hw'
    clear hw'
    obtain ⟨hc2, hf2⟩ := bcell hb2
    have hs2 := hb2.size
    try simp at hs2
    go_wp2
    go_ret
    exact ⟨by simp only [*]; rfl, ((Below.refl _ _).alloc (Nat.le_refl _) _).trans (hb2.mono (by simp))⟩
set_option maxHeartbeats 400000 in
theorem prefix_ValidB (a n : Int) (ha0 : 0 ≤ a) (ha1 : a ≤ 4294967295) {b : Bool} (hb : valB a n = b) (w : World) :
    Calls Try.prog 83 #[.agg #[.int .u32 a, .int .i64 n]] w fun e w' => e = .returned (.bool b) ∧ Below w.heap.size w w' := by subst hb; exact prefix_Valid a n ha0 ha1 w
set_option maxHeartbeats 400000 in
theorem prefix_Contains (a n x : Int) (ha0 : 0 ≤ a) (ha1 : a ≤ 4294967295) (hx0 : 0 ≤ x) (hx1 : x ≤ 4294967295) (w : World) :
    Calls Try.prog 112 #[.agg #[.int .u32 a, .int .i64 n], .int .u32 x] w fun e w' => e = .returned (.bool (contB a n x)) ∧ Below w.heap.size w w' := by
  unfold contB
  rcases Bool.eq_false_or_eq_true (valB a n) with g0 | g0
  rw [← and_mask x n hx0 hx1 ((valB_iff a n).1 g0).1 ((valB_iff a n).1 g0).2.1]
  all_goals
    go_enter Try.func112, Try.ntmps112
    go_wp2
    refine wp_region_later (by kernel_rfl) (by kernel_rfl) ?_
    repeat (go_big_quiet_step ((first | (go_at_call 83; exact calls_later (prefix_ValidB _ _ ha0 ha1 g0 _)) | (go_at_call 105; exact calls_later_same (prefix_mask _ ((valB_iff a n).1 g0).1 ((valB_iff a n).1 g0).2.1 _)))))
    refine wpQuiet_nil ?_
    intro w2 hw'
    have hb2 := ext_below hw'
    clear hw'
    obtain ⟨hc2, hf2⟩ := bcell hb2
    have hs2 := hb2.size
    try simp at hs2
    go_wp2
    go_ret
    exact ⟨by simp only [*]; rfl, ((Below.refl _ _).alloc (Nat.le_refl _) _).trans (hb2.mono (by simp))⟩
end Go.Proofs.Ytfanmniaolncbaa
/- Walks of package prefix: Of, Covers, Halves, Common. -/
namespace Go.Proofs.Ytfanmniaolncbaa
open Go.RowKit
set_option maxHeartbeats 400000 in
theorem prefix_Covers (a n b m : Int) (ha0 : 0 ≤ a) (ha1 : a ≤ 4294967295) (hb0 : 0 ≤ b) (hb1 : b ≤ 4294967295) (w : World) :
    Calls Try.prog 104 #[.agg #[.int .u32 a, .int .i64 n], .agg #[.int .u32 b, .int .i64 m]] w fun e w' => e = .returned (.bool (coverB a n b m)) ∧ Below w.heap.size w w' := by
  unfold coverB
  rcases Bool.eq_false_or_eq_true (valB b m) with g0 | g0
  rcases Bool.eq_false_or_eq_true (decide (n ≤ m)) with g1 | g1
  all_goals
    go_enter Try.func104, Try.ntmps104
    go_wp2_with (first | (go_at_call 83; refine (prefix_ValidB _ _ hb0 hb1 g0 _).mono ?_; rintro e w2 ⟨rfl, hb2⟩; obtain ⟨hc2, hf2⟩ := bcell hb2; have hs2 := hb2.size; (try simp at hs2)) | (go_at_call 112; refine (prefix_Contains _ _ _ ha0 ha1 hb0 hb1 _).mono ?_; rintro e w3 ⟨rfl, hb3⟩; obtain ⟨hc3, hf3⟩ := bcell hb3; have hs3 := hb3.size; (try simp at hs3)))
    go_ret
    exact ⟨by simp only [*]; rfl, by first | ((repeat (first | exact Below.refl _ _ | refine Below.drew ?_ | refine Below.setCell ?_ (by first | (simp; done) | (simp; omega) | omega) _ | refine Below.alloc ?_ (by first | (simp; done) | (simp; omega) | omega) _ | refine Below.trans ?_ (Below.mono hb2 (by first | (simp; done) | (simp; omega) | omega)))); done) | ((repeat (first | exact Below.refl _ _ | refine Below.drew ?_ | refine Below.setCell ?_ (by first | (simp; done) | (simp; omega) | omega) _ | refine Below.alloc ?_ (by first | (simp; done) | (simp; omega) | omega) _ | refine Below.trans ?_ (Below.mono hb3 (by first | (simp; done) | (simp; omega) | omega)) | refine Below.trans ?_ (Below.mono hb2 (by first | (simp; done) | (simp; omega) | omega)))); done)⟩
end Go.Proofs.Ytfanmniaolncbaa
/- Walk of prefix.Blocks. -/
namespace Go.Proofs.Ytfanmniaolncbaa
open Go.RowKit
theorem infoRng : (Try.prog.info? 116).map (fun i => (i.zero, i.size, i.bytes)) = some (some (.agg #[.int .u32 0, .int .u32 0]), 2, 8) := by kernel_rfl
theorem u64_wrap (n : Int) (h0 : 0 ≤ n) (h1 : n ≤ 18446744073709551615) : IntKind.u64.wrap n = n := by simp [IntKind.wrap, IntKind.bits, IntKind.signed]; omega
theorem u32_wrap (n : Int) (h0 : 0 ≤ n) (h1 : n ≤ 4294967295) : IntKind.u32.wrap n = n := by simp [IntKind.wrap, IntKind.bits, IntKind.signed]; omega
/-- a slice that is not empty, as it lies -/
theorem own_some {w : World} {B : Nat} {e : TypeId} {size : Nat} {v : Value} {n : Nat} {xs : List Value} (h : w.ownsRow B e size v n xs) (hn : n ≠ 0) :
    ∃ g cap, v = .slice (some ⟨g, 0, none⟩) n cap ∧ B ≤ g ∧ g < w.heap.size ∧ n ≤ cap ∧ cap ≤ maxLen ∧ ∀ j (u : Value), xs[j]? = some u → w.cell? ⟨g, j, none⟩ = some u := by
  have hc := fun g (hg : v.ownBlock = some g) => h.cells hg
  have hlt := h.lt
  rcases h.2 with ⟨_, h0⟩ | ⟨g, cap, cur, rfl, hB, hh, hcap, hm, _⟩
  · exact absurd h0 hn
  · refine ⟨g, cap, rfl, hB, (hlt g rfl).2, hcap, hm, fun j u hj => ?_⟩
    have := hc g rfl j u hj
    rwa [show (⟨g, 0, none⟩ : Addr).add j = ⟨g, j, none⟩ by simp only [Addr.add, Nat.zero_add]; split <;> simp_all] at this
end Go.Proofs.Ytfanmniaolncbaa
/- Walks of package nsgref1: size, Valid, Of, Contains, Covers, Halves, Common: the same specifications as the program's. -/
namespace Go.Proofs.Ytfanmniaolncbaa
open Go.RowKit
set_option maxHeartbeats 400000 in
theorem ref_size (n : Int) (h0 : 0 ≤ n) (h1 : n ≤ 32) (w : World) :
    Calls Try.prog 110 #[.int .i64 n] w fun e w' => e = .returned (.int .u64 (pw n)) ∧ w = w' := by
  have hp := pw_pos n
  have hl := pw_le n h0
  have hsh : IntKind.u64.wrap (2 ^ (32 - n).toNat) = pw n := u64_wrap (pw n) (by omega) (by omega)
  go_enter Try.func110, Try.ntmps110
  go_wp2
  go_ret
  exact ⟨rfl, rfl⟩
set_option maxHeartbeats 400000 in
theorem ref_Valid (a n : Int) (ha0 : 0 ≤ a) (ha1 : a ≤ 4294967295) {b : Bool} (hb : valB a n = b) (w : World) :
    Calls Try.prog 91 #[.agg #[.int .u32 a, .int .i64 n]] w fun e w' => e = .returned (.bool b) ∧ Below w.heap.size w w' := by
  subst hb
  have hwa : IntKind.u64.wrap a = a := u64_wrap a ha0 (by omega)
  unfold valB
  rcases Bool.eq_false_or_eq_true (decide (0 ≤ n)) with g0 | g0
  rcases Bool.eq_false_or_eq_true (decide (n ≤ 32)) with g1 | g1
  all_goals
    have hp := pw_pos n
    go_enter Try.func91, Try.ntmps91
    go_wp2
    refine wp_region_later (by kernel_rfl) (by kernel_rfl) ?_
    repeat (go_big_quiet_step ((go_at_call 110; exact calls_later_same (ref_size _ (by simpa using g0) (by simpa using g1) _))))
    refine wpQuiet_nil ?_
    intro w2 hw'
    have hb2 := ext_below hw'
    clear hw'
    obtain ⟨hc2, hf2⟩ := bcell hb2
    have hs2 := hb2.size
    try simp at hs2
    go_wp2
    go_ret
    exact ⟨by simp only [*]; rfl, ((Below.refl _ _).alloc (Nat.le_refl _) _).trans (hb2.mono (by simp))⟩
set_option maxHeartbeats 400000 in
theorem ref_Of_no (a n : Int) (ha0 : 0 ≤ a) (ha1 : a ≤ 4294967295) (hv : valB a n = false) (w : World) :
    Calls Try.prog 98 #[.agg #[.int .u32 a, .int .i64 n]] w fun e w' => e = .returned (.tuple #[.agg #[.int .u32 0, .int .u32 0], .bool false]) ∧ Below w.heap.size w w' := by
  go_enter Try.func98, Try.ntmps98
  go_wp2_with (go_at_call 91; refine (ref_Valid _ _ ha0 ha1 hv _).mono ?_; rintro e w2 ⟨rfl, hb2⟩; obtain ⟨hc2, hf2⟩ := bcell hb2; have hs2 := hb2.size; (try simp at hs2); have hz2_0 : w.heap.size < w2.heap.size := (by omega); have hz2_1 : w.heap.size + 1 < w2.heap.size := (by omega))
  go_wp2
  refine bodyPost_ret (v := .tuple #[.agg #[.int .u32 0, .int .u32 0], .bool false]) (by simp [results, Try.results98, go_sem, hc2]) rfl ?_
  exact ⟨rfl, by ((repeat (first | exact Below.refl _ _ | refine Below.drew ?_ | refine Below.setCell ?_ (by first | (simp; done) | (simp; omega) | omega) _ | refine Below.alloc ?_ (by first | (simp; done) | (simp; omega) | omega) _ | refine Below.trans ?_ (Below.mono hb2 (by first | (simp; done) | (simp; omega) | omega)))); done)⟩
set_option maxHeartbeats 400000 in
theorem ref_Of_yes (a n : Int) (ha0 : 0 ≤ a) (ha1 : a ≤ 4294967295) (hv : valB a n = true) (w : World) :
    Calls Try.prog 98 #[.agg #[.int .u32 a, .int .i64 n]] w fun e w' => e = .returned (.tuple #[.agg #[.int .u32 a, .int .u32 (a + (pw n - 1))], .bool true]) ∧ Below w.heap.size w w' := by
  have hb := (valB_iff a n).1 hv
  have hn0 := hb.1
  have hn1 := hb.2.1
  have hp := pw_pos n
  have hl := pw_le n hn0
  have hu := upper_le a n ha1 hn0 hb.2.2 ha0 hn1
  have hwa : IntKind.u64.wrap a = a := u64_wrap a ha0 (by omega)
  have hwb : IntKind.u64.wrap (a + pw n) = a + pw n := u64_wrap _ (by omega) (by omega)
  have hwc : IntKind.u64.wrap (a + pw n - 1) = a + pw n - 1 := u64_wrap _ (by omega) (by omega)
  have hwd : IntKind.u32.wrap (a + pw n - 1) = a + pw n - 1 := u32_wrap _ (by omega) (by omega)
  clear hb
  go_enter Try.func98, Try.ntmps98
  go_wp2_with (go_at_call 91; refine (ref_Valid _ _ ha0 ha1 hv _).mono ?_; rintro e w2 ⟨rfl, hb2⟩; obtain ⟨hc2, hf2⟩ := bcell hb2; have hs2 := hb2.size; (try simp at hs2); have hz2_0 : w.heap.size < w2.heap.size := (by omega); have hz2_1 : w.heap.size + 1 < w2.heap.size := (by omega))
  go_region_held3 (fun w' => w'.cell? ⟨w.heap.size, 0, none⟩ = some (.int .u32 a) ∧ w'.cell? ⟨w.heap.size, 1, none⟩ = some (.int .i64 n)) (go_simp) ((go_at_call 110; refine (ref_size _ hn0 hn1 _).mono ?_; rintro e w' ⟨rfl, rfl⟩))
  go_wp2
  refine bodyPost_ret (v := .tuple #[.agg #[.int .u32 a, .int .u32 (a + pw n - 1)], .bool true]) (by simp [results, Try.results98, go_sem, hc2, hz2_0, hz2_1]) rfl ?_
  exact ⟨by rw [show a + pw n - 1 = a + (pw n - 1) by omega], by ((repeat (first | exact Below.refl _ _ | refine Below.drew ?_ | refine Below.setCell ?_ (by first | (simp; done) | (simp; omega) | omega) _ | refine Below.alloc ?_ (by first | (simp; done) | (simp; omega) | omega) _ | refine Below.trans ?_ (Below.mono hb2 (by first | (simp; done) | (simp; omega) | omega)))); done)⟩
theorem contB_range (a n x : Int) (hv : valB a n = true) : contB a n x = (decide (a ≤ x) && decide (x ≤ a + (pw n - 1))) := by
  obtain ⟨h0, h1, h2⟩ := (valB_iff a n).1 hv
  have hp := pw_pos n
  obtain ⟨m, rfl⟩ : ∃ m, a = m * pw n := ⟨a / pw n, by rw [Int.ediv_mul_cancel (Int.dvd_of_emod_eq_zero h2)]⟩
  rw [contB_mul m x n h0 h1, Bool.eq_iff_iff]
  simp only [Bool.and_eq_true, decide_eq_true_eq]
  constructor
  · intro h
    have h3 := Int.emod_add_mul_ediv x (pw n)
    have h4 := Int.emod_nonneg x (show pw n ≠ 0 by omega)
    have h5 := Int.emod_lt_of_pos x (show 0 < pw n by omega)
    rw [h, Int.mul_comm] at h3
    omega
  · rintro ⟨h3, h4⟩
    have h5 : m ≤ x / pw n := Int.le_ediv_of_mul_le (by omega) h3
    have h6 : x / pw n < m + 1 := Int.ediv_lt_of_lt_mul (by omega) (by rw [Int.add_mul]; omega)
    omega
set_option maxHeartbeats 400000 in
theorem ref_Contains (a n x : Int) (ha0 : 0 ≤ a) (ha1 : a ≤ 4294967295) {b : Bool} (hb : contB a n x = b) (w : World) :
    Calls Try.prog 114 #[.agg #[.int .u32 a, .int .i64 n], .int .u32 x] w fun e w' => e = .returned (.bool b) ∧ Below w.heap.size w w' := by
  subst hb
  rcases Bool.eq_false_or_eq_true (valB a n) with g0 | g0
  · rw [contB_range a n x g0]
    rcases Bool.eq_false_or_eq_true (decide (a ≤ x)) with g1 | g1
    all_goals
      go_enter Try.func114, Try.ntmps114
      go_wp2_with (go_at_call 98; refine (ref_Of_yes _ _ ha0 ha1 g0 _).mono ?_; rintro e w2 ⟨rfl, hb2⟩; obtain ⟨hc2, hf2⟩ := bcell hb2; have hs2 := hb2.size; (try simp at hs2); have hz2_0 : w.heap.size < w2.heap.size := (by omega))
      go_wp2
      go_ret
      exact ⟨by simp only [*]; rfl, by ((repeat (first | exact Below.refl _ _ | refine Below.drew ?_ | refine Below.setCell ?_ (by first | (simp; done) | (simp; omega) | omega) _ | refine Below.alloc ?_ (by first | (simp; done) | (simp; omega) | omega) _ | refine Below.trans ?_ (Below.mono hb2 (by first | (simp; done) | (simp; omega) | omega)))); done)⟩
  · rw [contB, g0, Bool.false_and]
    go_enter Try.func114, Try.ntmps114
    go_wp2_with (go_at_call 98; refine (ref_Of_no _ _ ha0 ha1 g0 _).mono ?_; rintro e w2 ⟨rfl, hb2⟩; obtain ⟨hc2, hf2⟩ := bcell hb2; have hs2 := hb2.size; (try simp at hs2); have hz2_0 : w.heap.size < w2.heap.size := (by omega))
    go_wp2
    go_ret
    exact ⟨rfl, by ((repeat (first | exact Below.refl _ _ | refine Below.drew ?_ | refine Below.setCell ?_ (by first | (simp; done) | (simp; omega) | omega) _ | refine Below.alloc ?_ (by first | (simp; done) | (simp; omega) | omega) _ | refine Below.trans ?_ (Below.mono hb2 (by first | (simp; done) | (simp; omega) | omega)))); done)⟩
theorem coverB_eq (a n b m : Int) (ha0 : 0 ≤ a) : coverB a n b m = (valB b m && (contB a n b && contB a n (b + (pw m - 1)))) := by
  rcases Bool.eq_false_or_eq_true (valB b m) with g | g
  · rw [coverB, g, Bool.true_and, Bool.true_and]
    rcases Bool.eq_false_or_eq_true (valB a n) with g1 | g1
    · obtain ⟨h0, h1, h2⟩ := (valB_iff a n).1 g1
      obtain ⟨k0, k1, k2⟩ := (valB_iff b m).1 g
      have hp := pw_pos m
      rw [contB_range a n b g1, contB_range a n _ g1, Bool.eq_iff_iff]
      simp only [Bool.and_eq_true, decide_eq_true_eq]
      constructor
      · rintro ⟨h3, h4, h5⟩
        refine ⟨⟨h4, h5⟩, by omega, ?_⟩
        obtain ⟨d, hd⟩ : ∃ d : Nat, m = n + d := ⟨(m - n).toNat, by omega⟩
        have hpow : pw n = 2 ^ d * pw m := by
          unfold pw; rw [← Int.pow_add]; congr 1; omega
        obtain ⟨q, hq⟩ := Int.dvd_of_emod_eq_zero h2
        obtain ⟨r, hr⟩ := Int.dvd_of_emod_eq_zero k2
        have hpn := pw_pos n
        have e1 : a + pw n = pw m * (2 ^ d * q + 2 ^ d) := by
          rw [hq, hpow, Int.mul_add]
          have : 2 ^ d * pw m * q = pw m * (2 ^ d * q) := by ac_rfl
          rw [this, Int.mul_comm (pw m) (2 ^ d)]
        have h6 : pw m * r < pw m * (2 ^ d * q + 2 ^ d) := by omega
        have h7 : r < 2 ^ d * q + 2 ^ d := Int.lt_of_mul_lt_mul_left h6 (by omega)
        have h8 : pw m * (r + 1) ≤ pw m * (2 ^ d * q + 2 ^ d) := Int.mul_le_mul_of_nonneg_left (by omega) (by omega)
        rw [Int.mul_add] at h8
        omega
      · rintro ⟨⟨h3, h4⟩, h5, h6⟩
        refine ⟨?_, h3, h4⟩
        rcases Int.lt_or_le m n with h | h
        · exfalso
          have hlt : pw n < pw m := by
            obtain ⟨d, hd⟩ : ∃ d : Nat, n = m + 1 + d := ⟨(n - m - 1).toNat, by omega⟩
            have hpow : pw (m + 1) = 2 ^ d * pw n := by
              unfold pw; rw [← Int.pow_add]; congr 1; omega
            have h1' := pw_succ m (by omega)
            have h2' := two_pos d
            have hpn := pw_pos n
            have h3' : 1 * pw n ≤ 2 ^ d * pw n := Int.mul_le_mul_of_nonneg_right h2' (by omega)
            omega
          omega
        · exact h
    · simp [contB, g1]
  · rw [coverB, g, Bool.false_and, Bool.false_and]
set_option maxHeartbeats 400000 in
theorem ref_Covers (a n b m : Int) (ha0 : 0 ≤ a) (ha1 : a ≤ 4294967295) (hb0 : 0 ≤ b) (hb1 : b ≤ 4294967295) {r : Bool} (hr : coverB a n b m = r) (w : World) :
    Calls Try.prog 113 #[.agg #[.int .u32 a, .int .i64 n], .agg #[.int .u32 b, .int .i64 m]] w fun e w' => e = .returned (.bool r) ∧ Below w.heap.size w w' := by
  subst hr
  rw [coverB_eq a n b m ha0]
  rcases Bool.eq_false_or_eq_true (valB b m) with g0 | g0
  · rcases Bool.eq_false_or_eq_true (contB a n b) with g1 | g1
    all_goals
      rcases Bool.eq_false_or_eq_true (contB a n (b + (pw m - 1))) with g2 | g2
      all_goals
        rw [g0, g1, g2]
        go_enter Try.func113, Try.ntmps113
        go_wp2_with (first | (go_at_call 98; refine (ref_Of_yes _ _ hb0 hb1 g0 _).mono ?_; rintro e w2 ⟨rfl, hb2⟩; obtain ⟨hc2, hf2⟩ := bcell hb2; have hs2 := hb2.size; (try simp at hs2); have hz2_0 : w.heap.size < w2.heap.size := (by omega); have hz2_1 : w.heap.size + 1 < w2.heap.size := (by omega)) | ((with_reducible (go_at_call 114; refine (ref_Contains _ _ _ ha0 ha1 g1 _).mono ?_; rintro e w3 ⟨rfl, hb3⟩; obtain ⟨hc3, hf3⟩ := bcell hb3; have hs3 := hb3.size; (try simp at hs3); have hz3_0 : w.heap.size < w3.heap.size := (by omega); have hz3_1 : w.heap.size + 1 < w3.heap.size := (by omega); have hz3_2 : w2.heap.size < w3.heap.size := (by omega)))) | ((with_reducible (go_at_call 114; refine (ref_Contains _ _ _ ha0 ha1 g2 _).mono ?_; rintro e w4 ⟨rfl, hb4⟩; obtain ⟨hc4, hf4⟩ := bcell hb4; have hs4 := hb4.size; (try simp at hs4); have hz4_0 : w.heap.size < w4.heap.size := (by omega)))))
        go_ret
        exact ⟨rfl, by first | ((repeat (first | exact Below.refl _ _ | refine Below.drew ?_ | refine Below.setCell ?_ (by first | (simp; done) | (simp; omega) | omega) _ | refine Below.alloc ?_ (by first | (simp; done) | (simp; omega) | omega) _ | refine Below.trans ?_ (Below.mono hb3 (by first | (simp; done) | (simp; omega) | omega)) | refine Below.trans ?_ (Below.mono hb2 (by first | (simp; done) | (simp; omega) | omega)))); done) | ((repeat (first | exact Below.refl _ _ | refine Below.drew ?_ | refine Below.setCell ?_ (by first | (simp; done) | (simp; omega) | omega) _ | refine Below.alloc ?_ (by first | (simp; done) | (simp; omega) | omega) _ | refine Below.trans ?_ (Below.mono hb4 (by first | (simp; done) | (simp; omega) | omega)) | refine Below.trans ?_ (Below.mono hb3 (by first | (simp; done) | (simp; omega) | omega)) | refine Below.trans ?_ (Below.mono hb2 (by first | (simp; done) | (simp; omega) | omega)))); done)⟩
  · rw [g0, Bool.false_and]
    go_enter Try.func113, Try.ntmps113
    go_wp2_with (go_at_call 98; refine (ref_Of_no _ _ hb0 hb1 g0 _).mono ?_; rintro e w2 ⟨rfl, hb2⟩; obtain ⟨hc2, hf2⟩ := bcell hb2; have hs2 := hb2.size; (try simp at hs2); have hz2_0 : w.heap.size < w2.heap.size := (by omega); have hz2_1 : w.heap.size + 1 < w2.heap.size := (by omega))
    go_wp2
    go_ret
    exact ⟨rfl, by ((repeat (first | exact Below.refl _ _ | refine Below.drew ?_ | refine Below.setCell ?_ (by first | (simp; done) | (simp; omega) | omega) _ | refine Below.alloc ?_ (by first | (simp; done) | (simp; omega) | omega) _ | refine Below.trans ?_ (Below.mono hb2 (by first | (simp; done) | (simp; omega) | omega)))); done)⟩
end Go.Proofs.Ytfanmniaolncbaa
