/- Lib Reg App TxtM Gen1 RefT1 in one text -/
import Derived.Test.YtmaiillomoehgaaDoorRows
import Derived.WalkKit
import Derived.WalkSpells
import Derived.WalkLawsBesides
import Derived.Deep.QuietTactic
import Derived.BigQuiet
import Derived.Lib.Hide
import Derived.Laws.BytesArg
import Derived.Lib.UnsafeStr
import Derived.Lib.LaidTab
import Derived.StillTail
import Derived.Lib.ItoaNum
import Derived.Lib.IndexLaws
import Derived.Deep.RegionHeld3
set_option linter.unusedVariables false
set_option linter.unusedSimpArgs false
/- Small laws of my own that every walk of this seat uses: worlds that only grow, a region that draws its order walked once over the class of such worlds, slices that read as lists. -/
namespace Go.Proofs.YtmaiillomoehgaaDoor
open Go.RowKit
theorem bcell {B : Nat} {W w1 : World} (hb : Below B W w1) : (∀ b o, b < B → w1.cell? ⟨b, o, none⟩ = W.cell? ⟨b, o, none⟩) ∧ (∀ b o, b < B → w1.frozen? ⟨b, o, none⟩ = W.frozen? ⟨b, o, none⟩) :=
  ⟨fun b o h => hb.cell (p := ⟨b, o, none⟩) h, fun b o h => hb.frozen (p := ⟨b, o, none⟩) h⟩
/-- a world in which all that 'W' has below block 'B' stands as it did -/
structure Ext (B : Nat) (W : World) where
  w : World
  below : Below B W w
instance extNonempty (B : Nat) (W : World) : Nonempty (Ext B W) := ⟨⟨W, Below.refl _ _⟩⟩
@[go_sem] theorem Ext.cell {B : Nat} {W : World} (x : Ext B W) (b o : Nat) (h : b < B) : x.w.cell? ⟨b, o, none⟩ = W.cell? ⟨b, o, none⟩ := x.below.cell (p := ⟨b, o, none⟩) h
@[go_sem] theorem Ext.frozen {B : Nat} {W : World} (x : Ext B W) (b o : Nat) (h : b < B) : x.w.frozen? ⟨b, o, none⟩ = W.frozen? ⟨b, o, none⟩ := x.below.frozen (p := ⟨b, o, none⟩) h
/-- A region that draws its order, whose operations read and whose callees give the same value in every later world: one walk in the order of the text. -/
theorem wp_region_later {P : Program} {id : Nat} {Q : Exit → Act → World → Prop} {a : Act} {w : World} {l : List Oper} (hm : P.follows .mixedOrders = true) (hB : Region.lexB .any l.toArray = true)
    (h : wpQuiet P l.toArray (fun w' => ∃ x : Ext w.heap.size w, w' = x.w) (fun a' => ∀ w', (∃ x : Ext w.heap.size w, w' = x.w) → Q .normal a' w') l a) : (Code.region id l.toArray true).wp P Q a w :=
  wp_region_quiet (C := fun w' => ∃ x : Ext w.heap.size w, w' = x.w) hm hB ⟨⟨_, (Below.refl _ _).drew⟩, rfl⟩ (by simpa using h)
theorem ext_below {B : Nat} {W w' : World} (h : ∃ x : Ext B W, w' = x.w) : Below B W w' := by obtain ⟨x, rfl⟩ := h; exact x.below
theorem calls_later {P : Program} {f : FuncId} {args : Array Value} {W : World} {x : Ext W.heap.size W} {v : Value}
    (h : Calls P f args x.w fun e w' => e = .returned v ∧ Below x.w.heap.size x.w w') : Calls P f args x.w fun e w'' => e = .returned v ∧ ∃ y : Ext W.heap.size W, w'' = y.w :=
  h.mono fun _ w' ⟨he, hb⟩ => ⟨he, ⟨w', x.below.trans (hb.mono x.below.size)⟩, rfl⟩
theorem calls_later_same {P : Program} {f : FuncId} {args : Array Value} {B : Nat} {W : World} {x : Ext B W} {v : Value}
    (h : Calls P f args x.w fun e w' => e = .returned v ∧ x.w = w') : Calls P f args x.w fun e w'' => e = .returned v ∧ ∃ y : Ext B W, w'' = y.w :=
  h.mono fun _ _ ⟨he, hb⟩ => ⟨he, x, hb.symm⟩
theorem calls_below {P : Program} {f : FuncId} {args : Array Value} {w : World} {R : Ending → Prop} (h : Calls P f args w fun e w' => R e ∧ w = w') : Calls P f args w fun e w' => R e ∧ Below w.heap.size w w' :=
  h.mono fun _ _ ⟨he, hb⟩ => ⟨he, by subst hb; exact Below.refl _ _⟩
/-- string(b) of bytes that the call owns -/
theorem conv_own_string {P : Program} {w : World} {B : Nat} {src dst e : TypeId} {v : Value} {l : List UInt8} (hs : P.underlying src = some (.slice e)) (he : P.underlying e = some (.int .u8)) (hd : P.underlying dst = some .string)
    (hown : w.ownsRow B e 1 v l.length (Lib.byteCells l)) : (convert src dst v).run P w = .ok (.string ⟨l.toArray⟩) w := by
  rcases hown.2 with ⟨rfl, h0⟩ | ⟨g, cap, cur, rfl, _⟩
  · obtain rfl : l = [] := List.length_eq_zero_iff.1 h0
    rw [run_convert_bytes_nil w src e hs he 0 0 dst hd]; rfl
  · refine run_convert_bytes_back w src dst e _ cap l hs he hd fun j hj => ?_
    exact hown.cells (g := g) rfl j _ (by simp [Lib.byteCells, hj])
/-- a package-level table reads on as it read -/
theorem tab_below {P : Program} {w w' : World} {name : String} {k : IntKind} {zs : List Int} (h : Lib.TabIs P w name k zs) {B : Nat} (hB : w.heap.size ≤ B) (hb : Below B w w') : Lib.TabIs P w' name k zs := by
  unfold Lib.TabIs at *
  unfold World.var? at h ⊢
  cases hg : P.globalNamed name with
  | none => rw [hg] at h; simp at h
  | some g =>
    rw [hg] at h
    simp only [Option.bind_some] at h ⊢
    have hlt : g < w.heap.size := by
      rcases Nat.lt_or_ge g w.heap.size with h1 | h1
      · exact h1
      · rw [Array.getElem?_eq_none h1] at h; simp at h
    rw [hb.block g (by omega)]
    exact h
end Go.Proofs.YtmaiillomoehgaaDoor
/- A region that draws its order: reads and quiet calls first, then a few operations in one forced order (the stores of results, say): walked once, in the order of the text, over the class of later worlds. -/
namespace Go.Proofs.YtmaiillomoehgaaDoor
open Go.RowKit
section
variable {P : Program} {ops : Array Oper} {md : Region.Mode} {C : World → Prop}
/-- f operations of the head are still to come, in whatever order; then L -/
def headQ (P : Program) (md : Region.Mode) (ops : Array Oper) (C : World → Prop) (n : Nat) (L : Array Bool → Act → Prop) : Nat → Array Bool → Act → Prop
  | 0, listed, a => L listed a
  | f + 1, listed, a => Region.ready md ops listed ≠ [] ∧ ∀ i ∈ Region.ready md ops listed, i < n ∧ qOp P ops C i (headQ P md ops C n L f (listed.setIfInBounds i true)) a
theorem wpAny_of_headQ {n g : Nat} {L : Array Bool → Act → Prop} {Q' : Exit → Act → World → Prop} (hL : ∀ listed a w, C w → L listed a → wpAny P md ops Q' g listed a w) (f : Nat) :
    ∀ (listed : Array Bool) (a : Act) (w : World), C w → headQ P md ops C n L f listed a → wpAny P md ops Q' (f + g) listed a w := by
  induction f with
  | zero => intro listed a w hw h; rw [Nat.zero_add]; exact hL _ _ _ hw h
  | succ f ih =>
    intro listed a w hw h
    rw [Nat.succ_add]
    exact ⟨fun h0 => absurd h0 h.1, fun i hi => wpOp_of_qOp hw (fun a' w' hw' h' => ih _ a' w' hw' h') (h.2 i hi).2⟩
/-- one of the head's operations that may come up may be taken first -/
theorem headQ_first {n i : Nat} {oi : Oper} {v : Value} {L : Array Bool → Act → Prop} (hi : ops[i]? = some oi) (hsel : ∀ (j : Nat) (o : Oper) cs b, ops[j]? = some o → o.op ≠ .select cs b)
    (hs : Region.sinkB md ops n = true) (hc : Region.chainB md ops n = true) (hn : n < ops.size) (hin : i < n)
    (hdone : ∀ listed a, L listed a → ∀ j ∈ Region.ready md ops listed, n ≤ j) (f : Nat) :
    ∀ (listed : Array Bool) (a : Act), HeadInv md ops n listed →
      (∀ j oj, ops[j]? = some oj → j ≠ i → listed.getD j true = false → (∀ e ∈ oj.after, Region.binds md e = true → e.on ≠ i) → oi.apart ops oj = true) →
      i ∈ Region.ready md ops listed → YieldsIn P ops C oi v a →
      headQ P md ops C n L f (listed.setIfInBounds i true) (a.put oi.dst v) → headQ P md ops C n L (f + 1) listed a := by
  induction f with
  | zero =>
    intro listed a inv _ hr hy H
    refine ⟨fun h => (by rw [h] at hr; cases hr), fun j hj => ?_⟩
    have hjn : j < n := Nat.lt_of_not_le fun h => tail_waits hs hc hn inv _ i rfl hin (mem_ready.1 hr).1 j h hj
    refine ⟨hjn, ?_⟩
    by_cases hji : j = i
    · subst hji; exact hy.qOp hi H
    · exact absurd (hdone _ _ H j (ready_mono hj hji)) (by omega)
  | succ f ih =>
    intro listed a inv hfree hr hy H
    have hun := (mem_ready.1 hr).1
    refine ⟨fun h => (by rw [h] at hr; cases hr), fun j hj => ?_⟩
    have hjn : j < n := Nat.lt_of_not_le fun h => tail_waits hs hc hn inv _ i rfl hin hun j h hj
    refine ⟨hjn, ?_⟩
    by_cases hji : j = i
    · subst hji; exact hy.qOp hi H
    · obtain ⟨hjun, oj, hoj, hall⟩ := mem_ready.1 hj
      have hnot : ∀ e ∈ oj.after, Region.binds md e = true → e.on ≠ i := fun e he hb heq => by
        have h1 := hall e he hb
        rw [heq, getD_both hun] at h1
        cases h1
      refine qOp_mono (fun a' h3 => ih (listed.setIfInBounds j true) a' (inv.set hj hjn) (fun k ok hk hki hun' hno => hfree k ok hk hki ?_ hno) (ready_mono hr (Ne.symm hji)) h3.1 ?_)
        (qOp_put hoj (hfree j oj hoj hji hjun hnot) (fun cs b => hsel i oi cs b hi) (fun cs b => hsel j oj cs b hoj) hy (H.2 j (ready_mono hj hji)).2)
      · by_cases hjk : j = k
        · subst hjk; exact hjun
        · rwa [getD_set_ne true hjk] at hun'
      · rw [Array.setIfInBounds_comm _ _ hji]
        exact h3.2
theorem headQ_lex {n g : Nat} {Lq : Act → Prop} (hsel : Region.noSelect ops = true) (hs : Region.sinkB md ops n = true) (hc : Region.chainB md ops n = true) (hn : n < ops.size) :
    ∀ (l : List Oper) (k : Nat) (listed : Array Bool) (a : Act), (∀ j, j < l.length → l[j]? = ops[k + j]?) → k + l.length = n → HeadInv md ops n listed →
    Region.lexHead md ops g l.length k listed = true → wpQuiet P ops C Lq l a →
    headQ P md ops C n (fun listed' a' => Region.seqB md ops g n listed' = true ∧ Lq a') l.length listed a := by
  intro l
  induction l with
  | nil =>
    intro k listed a _ hk _ hB h
    obtain rfl : k = n := by simpa using hk
    exact ⟨by simpa [Region.lexHead] using hB, h⟩
  | cons o l ih =>
    intro k listed a hl hk inv hB h
    have h0 : ops[k]? = some o := by simpa using (hl 0 (by simp)).symm
    simp only [List.length_cons, Region.lexHead, Bool.and_eq_true] at hB hk
    have hr' : k ∈ Region.ready md ops listed := by simpa using hB.1.1
    have hq : qOp P ops C k (wpQuiet P ops C Lq l) a := by unfold qOp; simp only [h0]; exact h
    obtain ⟨v, hy, hK⟩ := yieldsIn_of_qOp h0 hq
    exact headQ_first h0 (Region.noSelect_spec hsel) hs hc hn (by omega) (fun _ _ hL => seqB_ready hL.1) l.length listed a inv (Region.free_spec h0 hB.1.2) hr' hy
      (ih (k + 1) _ _ (fun j hj => by have := hl (j + 1) (by simp; omega); simpa [Nat.add_assoc, Nat.add_comm 1 j] using this) (by omega) (inv.set hr' (by omega)) hB.2 hK)
/-- The head once in the order of the text, quiet in the class; then the tail as it stands, in whatever world of the class. -/
theorem wp_region_quiet_tail {id : Nat} {Q : Exit → Act → World → Prop} {a : Act} {w : World} {l : List Oper} (n : Nat) (hm : P.follows .mixedOrders = true) (hB : Region.lexTailB .any l.toArray n = true)
    (hC : C { w with drawn := w.drawn + 1 })
    (h : wpQuiet P l.toArray C (fun a' => ∀ w', C w' → wpList P l.toArray Q (l.drop n) a' w') (l.take n) a) : (Code.region id l.toArray true).wp P Q a w := by
  simp only [Region.lexTailB, Bool.and_eq_true, decide_eq_true_eq] at hB
  obtain ⟨⟨⟨⟨hsel, hn⟩, hs⟩, hc⟩, hlex⟩ := hB
  have hn' : n < l.length := by simpa using hn
  have htl : (l.take n).length = n := by simp; omega
  have hdl : (l.drop n).length = l.toArray.size - n := by simp
  have inv0 : HeadInv .any l.toArray n (Array.replicate l.toArray.size false) :=
    ⟨by simp, fun j oj _ hl => (by rw [getD_replicate_false] at hl; cases hl), fun t _ ht => getD_in (by simpa using ht) (getD_replicate_false _ _)⟩
  have H := headQ_lex (md := .any) (g := l.toArray.size - n) hsel hs hc hn (l.take n) 0 _ a (fun j hj => by
    have hj' : j < n := by rw [htl] at hj; exact hj
    simp [hj']) (by simpa using htl) inv0 (by rw [htl]; exact hlex) h
  refine wp_region_any hm ?_
  have := wpAny_of_headQ (Q' := Q) (g := l.toArray.size - n) (fun listed a' w' hw' hL => by
    have := wpAny_of_seq (md := .any) (Q' := Q) (l.drop n) n listed a' w' (fun j => by simp [List.getElem?_drop]) (by rw [hdl]; exact hL.1) (hL.2 w' hw')
    rwa [hdl] at this) _ _ _ _ hC H
  rwa [htl, show n + (l.toArray.size - n) = l.toArray.size by omega] at this
theorem wp_region_later_tail {id : Nat} {Q : Exit → Act → World → Prop} {a : Act} {w : World} {l : List Oper} (n : Nat) (hm : P.follows .mixedOrders = true) (hB : Region.lexTailB .any l.toArray n = true)
    (h : wpQuiet P l.toArray (fun w' => ∃ x : Ext w.heap.size w, w' = x.w) (fun a' => ∀ w', (∃ x : Ext w.heap.size w, w' = x.w) → wpList P l.toArray Q (l.drop n) a' w') (l.take n) a) : (Code.region id l.toArray true).wp P Q a w :=
  wp_region_quiet_tail (C := fun w' => ∃ x : Ext w.heap.size w, w' = x.w) n hm hB ⟨⟨_, (Below.refl _ _).drew⟩, rfl⟩ h
end
end Go.Proofs.YtmaiillomoehgaaDoor
/- Append of one new element to a slice of the call's own: the kit's law, its side conditions paid once. -/
namespace Go.Proofs.YtmaiillomoehgaaDoor
open Go.RowKit
section
variable {P : Program}
theorem grown_below {base : Nat} {w w' : World} {e : TypeId} {size : Nat} {v : Value} {n : Nat} {xs : List Value} (hown : w.ownsRow base e size v n xs) (hg : w.grownBy w' v.ownBlock) (hbase : base ≤ w.heap.size) : Below base w w' :=
  (Below.refl _ _).grown hg hbase fun k hk => (hown.lt k hk).1
/-- x = append(x, e): the new element's cells are the last block. -/
theorem wpList_append_new {ops : Array Oper} {rest : List Oper} {o : Oper} {a : Act} {Q : Exit → Act → World → Prop} (hgd : o.guard = none) (s x : Operand) (t : TypeId)
    (ho : o.op = .call { callee := .builtin .append, args := #[s, x], argTypes := #[t, t] })
    (base : Nat) (e e' : TypeId) (z : Value) (size bytes : Nat) (ht : P.underlying t = some (.slice e)) (hi : (P.info? e).map (fun i => (i.zero, i.size, i.bytes)) = some (some z, size, bytes))
    (hzs : z.cells.size = size) (hsz : 0 < size)
    (v : Value) (n : Nat) (xs : List Value) (hs : a.eval s = v) {w : World} (hown : w.ownsRow base e size v n xs)
    (vals : Array Value) (hx : a.eval x = .slice (some ⟨w.heap.size, 0, none⟩) 1 1) (hl : vals.size = size) (h1 : ∀ u ∈ vals.toList, u.oneCell' = true)
    (hbytes : (n + 1) * bytes ≤ 140737488355328) (hb1 : 1 ≤ bytes) (hbase : base ≤ w.heap.size)
    (h : ∀ v' w', w'.ownsRow base e size v' (n + 1) (xs ++ vals.toList) → Below base w w' → (w.alloc (.cells vals e')).grownBy w' v.ownBlock → (∃ ad c, v' = .slice (some ad) (n + 1) c) → wpList P ops Q rest (a.put o.dst v') w') :
    wpList P ops Q (o :: rest) a (w.alloc (.cells vals e')) := by
  obtain ⟨i0, hi0, hz0, hz1, hz2⟩ := info_parts hi
  have hn : n + 1 ≤ 140737488355328 := Nat.le_trans (Nat.le_mul_of_pos_right (n + 1) hb1) hbytes
  refine wpList_append_own _ hgd s x t ho base e i0 z size bytes ht hi0 hz0 hz1 hz2 hzs hsz v n xs hs (hown.alloc _) ⟨w.heap.size, 0, none⟩ 1 1 vals.toList hx (by simp [hl]) ?_ h1 (by unfold maxLen; omega) hbytes (by simp; omega) fun v' w' h2 h3 h4 => ?_
  · intro j u hj
    rw [show (⟨w.heap.size, 0, none⟩ : Addr).add j = ⟨w.heap.size, j, none⟩ by simp only [Addr.add, Nat.zero_add]; split <;> simp_all]
    rw [World.cell?_alloc_at _ _ _ _ rfl]
    simpa using hj
  · refine h v' w' h2 (((Below.refl _ _).alloc hbase _).trans (grown_below (hown.alloc _) h3 (by simp; omega))) h3 ?_
    rcases h2.2 with ⟨_, h0⟩ | ⟨g, cap, cur, hv, _⟩
    · omega
    · exact ⟨_, _, hv⟩
end
end Go.Proofs.YtmaiillomoehgaaDoor
/- Plain laws of texts: decimal digits, bytes as lists, parts between separators, decimal numbers with a greatest value. -/
namespace Go.Proofs.YtmaiillomoehgaaDoor
theorem dig_toNat (x : Nat) (h : x < 10) : (UInt8.ofNat (48 + x)).toNat = 48 + x := by
  rw [UInt8.toNat_ofNat']; omega
theorem byte_of (c : UInt8) (x : Nat) (h : c.toNat = 48 + x) : UInt8.ofNat (48 + x) = c := by
  rw [← h]; exact UInt8.ofNat_toNat
theorem decD_small (u : Nat) (h : u < 10) : Lib.decDigits u = [UInt8.ofNat (48 + u)] := Lib.decDigits_one h
theorem decD_big (u x : Nat) (h : 1 ≤ u) (hx : x < 10) : Lib.decDigits (10 * u + x) = Lib.decDigits u ++ [UInt8.ofNat (48 + x)] := by
  rw [Lib.decDigits, dif_neg (by omega), show (10 * u + x) / 10 = u by omega, show (10 * u + x) % 10 = x by omega]
theorem decD_ne (u : Nat) : Lib.decDigits u ≠ [] := by
  by_cases h : u < 10
  · rw [decD_small u h]; simp
  · rw [Lib.decDigits, dif_neg h]; simp
theorem decD_range (u : Nat) : ∀ c ∈ Lib.decDigits u, 48 ≤ c.toNat ∧ c.toNat ≤ 57 := by
  induction u using Nat.strongRecOn with
  | _ u ih =>
    by_cases h : u < 10
    · rw [decD_small u h]; intro c hc; simp only [List.mem_singleton] at hc; subst hc; rw [dig_toNat u h]; omega
    · rw [Lib.decDigits, dif_neg h]
      intro c hc
      rw [List.mem_append] at hc
      rcases hc with hc | hc
      · exact ih (u / 10) (by omega) c hc
      · simp only [List.mem_singleton] at hc; subst hc; rw [dig_toNat _ (by omega)]; omega
theorem ext_list (s : ByteArray) (a b : Nat) : (s.extract a b).data.toList = (s.data.toList.drop a).take (b - a) := by
  simp [ByteArray.data_extract, Array.toList_extract, List.extract_eq_take_drop]
theorem size_list (l : List UInt8) : (⟨l.toArray⟩ : ByteArray).size = l.length := by
  show l.toArray.size = _
  simp
theorem list_bytes (s : ByteArray) (l : List UInt8) (h : s.data.toList = l) : s = ⟨l.toArray⟩ := by
  apply ByteArray.ext; apply Array.ext'; rw [List.toList_toArray]; exact h
theorem size_len (s : ByteArray) : s.size = s.data.toList.length := by
  show s.data.size = _
  simp
theorem dec_plain (u : Nat) : ∀ x ∈ Lib.decDigits u, x ≠ 46 ∧ x ≠ 47 := fun x hx => by
  have := decD_range u x hx
  refine ⟨?_, ?_⟩ <;> (intro h; subst h; simp at this)
/-- puts bytes ahead of the first part -/
def glueL (x : List UInt8) : List (List UInt8) → List (List UInt8)
  | [] => [x]
  | h :: t => (x ++ h) :: t
def partsL (c : UInt8) : List UInt8 → List (List UInt8)
  | [] => [[]]
  | b :: l => if b = c then [] :: partsL c l else glueL [b] (partsL c l)
theorem partsL_ne (c : UInt8) (l : List UInt8) : partsL c l ≠ [] := by
  cases l with
  | nil => simp [partsL]
  | cons b l => simp only [partsL]; split <;> (cases partsL c l <;> simp [glueL])
theorem glueL_nil (c : UInt8) (l : List UInt8) : glueL [] (partsL c l) = partsL c l := by
  cases h : partsL c l with
  | nil => exact absurd h (partsL_ne c l)
  | cons a t => simp [glueL]
theorem glueL_glue (x y : List UInt8) (t : List (List UInt8)) : glueL x (glueL y t) = glueL (x ++ y) t := by
  cases t <;> simp [glueL]
theorem partsL_len (c : UInt8) (l : List UInt8) : (partsL c l).length ≤ l.length + 1 := by
  induction l with
  | nil => simp [partsL]
  | cons b l ih =>
    simp only [partsL]
    split
    · simp; omega
    · cases h : partsL c l with
      | nil => simp [glueL]
      | cons a t => rw [h] at ih; simp [glueL] at *; omega
theorem partsL_plain (c : UInt8) (x : List UInt8) (h : ∀ b ∈ x, b ≠ c) : partsL c x = [x] := by
  induction x with
  | nil => rfl
  | cons b x ih => rw [partsL, if_neg (h b (by simp)), ih fun d hd => h d (by simp [hd])]; rfl
theorem partsL_app (c : UInt8) (x y : List UInt8) (h : ∀ b ∈ x, b ≠ c) : partsL c (x ++ c :: y) = x :: partsL c y := by
  induction x with
  | nil => simp [partsL]
  | cons b x ih => rw [List.cons_append, partsL, if_neg (h b (by simp)), ih fun d hd => h d (by simp [hd])]; rfl
theorem partsL_one (c : UInt8) (l x : List UInt8) (h : partsL c l = [x]) : l = x ∧ ∀ b ∈ x, b ≠ c := by
  induction l generalizing x with
  | nil => simp [partsL] at h; subst h; simp
  | cons b l ih =>
    rw [partsL] at h
    split at h
    · have := partsL_ne c l; simp at h; exact absurd h.2 this
    · rename_i hb
      cases hp : partsL c l with
      | nil => exact absurd hp (partsL_ne c l)
      | cons a t =>
        rw [hp] at h
        simp only [glueL, List.cons.injEq] at h
        obtain ⟨rfl, rfl⟩ := h
        obtain ⟨rfl, h2⟩ := ih a hp
        refine ⟨rfl, fun d hd => ?_⟩
        simp at hd
        rcases hd with rfl | hd
        · exact hb
        · exact h2 d hd
theorem partsL_more (c : UInt8) (l x y : List UInt8) (t : List (List UInt8)) (h : partsL c l = x :: y :: t) : ∃ l', l = x ++ c :: l' ∧ partsL c l' = y :: t ∧ ∀ b ∈ x, b ≠ c := by
  induction l generalizing x with
  | nil => simp [partsL] at h
  | cons b l ih =>
    rw [partsL] at h
    split at h
    · rename_i hb
      simp at h
      obtain ⟨rfl, h⟩ := h
      exact ⟨l, by rw [hb]; rfl, h, by simp⟩
    · rename_i hb
      cases hp : partsL c l with
      | nil => exact absurd hp (partsL_ne c l)
      | cons a t' =>
        rw [hp] at h
        simp only [glueL, List.cons.injEq] at h
        obtain ⟨rfl, rfl⟩ := h
        obtain ⟨l', rfl, h1, h2⟩ := ih a hp
        refine ⟨l', rfl, h1, fun d hd => ?_⟩
        simp at hd
        rcases hd with rfl | hd
        · exact hb
        · exact h2 d hd
/-- the number of decimal digits, if it is at most 'most' -/
def rdGo (most : Int) : List UInt8 → Int → Option Int
  | [], n => some n
  | c :: l, n => if c.toNat < 48 ∨ 57 < c.toNat ∨ most < 10 * n + ((c.toNat : Int) - 48) then none else rdGo most l (10 * n + ((c.toNat : Int) - 48))
def readB (l : List UInt8) (most : Int) : Option Int := if l = [] ∨ 1 < l.length ∧ (l.getD 0 0).toNat = 48 then none else rdGo most l 0
theorem rdGo_app (most : Int) (l1 l2 : List UInt8) (n : Int) : rdGo most (l1 ++ l2) n = (rdGo most l1 n).bind (rdGo most l2) := by
  induction l1 generalizing n with
  | nil => simp [rdGo]
  | cons c l ih =>
    simp only [List.cons_append, rdGo]
    split
    · rfl
    · exact ih _
theorem rdGo_bd (most : Int) : ∀ (l : List UInt8) (n m : Int), rdGo most l n = some m → 0 ≤ n → n ≤ most → 0 ≤ m ∧ m ≤ most
  | [], n, m, h, h0, h1 => by simp only [rdGo, Option.some.injEq] at h; omega
  | c :: l, n, m, h, h0, h1 => by
    simp only [rdGo] at h
    split at h
    · cases h
    · exact rdGo_bd most l _ m h (by omega) (by omega)
theorem readB_bd {l : List UInt8} {most m : Int} (hm : 0 ≤ most) (h : readB l most = some m) : 0 ≤ m ∧ m ≤ most := by
  unfold readB at h
  split at h
  · cases h
  · exact rdGo_bd most l 0 m h (Int.le_refl _) hm
theorem rdGo_dec (most : Int) (u : Nat) (hu : (u : Int) ≤ most) : rdGo most (Lib.decDigits u) 0 = some (u : Int) := by
  induction u using Nat.strongRecOn with
  | _ u ih =>
    by_cases h : u < 10
    · rw [decD_small u h]
      simp only [rdGo, dig_toNat u h]
      rw [if_neg (by omega)]
      congr 1; omega
    · rw [Lib.decDigits, dif_neg h, rdGo_app, ih (u / 10) (by omega) (by omega), Option.bind_some]
      simp only [rdGo, dig_toNat (u % 10) (by omega)]
      rw [if_neg (by omega)]
      congr 1; omega
theorem decD_lead (u : Nat) (h : 10 ≤ u) : ((Lib.decDigits u).getD 0 0).toNat ≠ 48 := by
  induction u using Nat.strongRecOn with
  | _ u ih =>
    rw [Lib.decDigits, dif_neg (by omega)]
    have hd : ((Lib.decDigits (u / 10) ++ [UInt8.ofNat (48 + u % 10)]).getD 0 0) = (Lib.decDigits (u / 10)).getD 0 0 := by
      cases hc : Lib.decDigits (u / 10) with
      | nil => exact absurd hc (decD_ne _)
      | cons a t => rfl
    rw [hd]
    by_cases h1 : u / 10 < 10
    · rw [decD_small _ h1, List.getD_cons_zero, dig_toNat _ h1]; omega
    · exact ih (u / 10) (by omega) (by omega)
theorem readB_dec (most : Int) (u : Nat) (hu : (u : Int) ≤ most) : readB (Lib.decDigits u) most = some (u : Int) := by
  unfold readB
  rw [if_neg, rdGo_dec most u hu]
  intro h
  rcases h with h | ⟨h1, h2⟩
  · exact decD_ne u h
  · by_cases h3 : u < 10
    · rw [decD_small u h3] at h1; simp at h1
    · exact decD_lead u (by omega) h2
theorem rdGo_only (most : Int) (l1 : List UInt8) : ∀ (l2 : List UInt8) (n : Nat) (m : Int), rdGo most l2 n = some m → l1 = Lib.decDigits n → (n = 0 → l2 = []) → l1 ++ l2 = Lib.decDigits m.toNat
  | [], n, m, h, h1, _ => by
    simp only [rdGo, Option.some.injEq] at h
    subst h
    simpa using h1
  | c :: l2, n, m, h, h1, h2 => by
    have hn : 1 ≤ n := by rcases Nat.eq_zero_or_pos n with h0 | h0; · exact absurd (h2 h0) (by simp)
                          · exact h0
    simp only [rdGo] at h
    split at h
    · cases h
    · rename_i g
      obtain ⟨x, hx⟩ : ∃ x, c.toNat = 48 + x := ⟨c.toNat - 48, by omega⟩
      have hc := byte_of c x hx
      rw [hx] at h
      rw [show (10 * (n : Int) + (((48 + x : Nat) : Int) - 48)) = ((10 * n + x : Nat) : Int) by omega] at h
      have := rdGo_only most (l1 ++ [c]) l2 (10 * n + x) m h (by rw [decD_big n x hn (by omega), hc, h1]) (by omega)
      simpa using this
theorem readB_only (l : List UInt8) (most m : Int) (h : readB l most = some m) : Lib.decDigits m.toNat = l := by
  unfold readB at h
  split at h
  · cases h
  · rename_i g
    match l, g, h with
    | [], g, _ => simp at g
    | c :: l, g, h =>
      simp only [rdGo] at h
      split at h
      · cases h
      · rename_i g1
        obtain ⟨x, hx⟩ : ∃ x, c.toNat = 48 + x := ⟨c.toNat - 48, by omega⟩
        have hc := byte_of c x hx
        rw [hx] at h
        rw [show (10 * (0 : Int) + (((48 + x : Nat) : Int) - 48)) = ((x : Nat) : Int) by omega] at h
        have := rdGo_only most [c] l x m h (by rw [decD_small x (by omega), hc]) (fun h0 => by
          subst h0
          cases l with
          | nil => rfl
          | cons d l => exact absurd (.inr ⟨by simp, by simpa using hx⟩) g)
        simpa using this.symm
theorem drop_cons (s : ByteArray) (k : Nat) (h : k < s.size) : s.data.toList.drop k = s[k] :: s.data.toList.drop (k + 1) := by
  rw [List.drop_eq_getElem_cons (by simpa using h)]; rfl
end Go.Proofs.YtmaiillomoehgaaDoor
/- The generator's tape: what a call of it leaves as it was, and Next's contract: some number below n. -/
namespace Go.Proofs.YtmaiillomoehgaaDoor
open Go.RowKit
/-- all that w holds, but for block T, stands in w' as it stood -/
structure Keep (T : Nat) (w w' : World) : Prop where
  os : w'.os = w.os
  tape : w'.tape = w.tape
  output : w'.output = w.output
  size : w.heap.size ≤ w'.heap.size
  block : ∀ k, k < w.heap.size → k ≠ T → w'.heap[k]? = w.heap[k]?
theorem Keep.refl (T : Nat) (w : World) : Keep T w w := ⟨rfl, rfl, rfl, Nat.le_refl _, fun _ _ _ => rfl⟩
theorem Keep.trans {T : Nat} {a b c : World} (h : Keep T a b) (k : Keep T b c) : Keep T a c :=
  ⟨k.os.trans h.os, k.tape.trans h.tape, k.output.trans h.output, Nat.le_trans h.size k.size, fun i hi hT => (k.block i (Nat.lt_of_lt_of_le hi h.size) hT).trans (h.block i hi hT)⟩
theorem Keep.of_below {T : Nat} {w w' : World} (h : Below w.heap.size w w') : Keep T w w' := ⟨h.os, h.tape, h.output, h.size, fun k hk _ => h.block k hk⟩
theorem Keep.cell {T : Nat} {w w' : World} (h : Keep T w w') {p : Addr} (hp : p.block < w.heap.size) (hT : p.block ≠ T) : w'.cell? p = w.cell? p := World.cell?_of_block (w := w) (h.block p.block hp hT)
theorem Keep.frozen {T : Nat} {w w' : World} (h : Keep T w w') {p : Addr} (hp : p.block < w.heap.size) (hT : p.block ≠ T) : w'.frozen? p = w.frozen? p := World.frozen?_of_block (w := w) (h.block p.block hp hT)
theorem Keep.drew {T : Nat} {a w : World} (h : Keep T a w) : Keep T a w.drew := ⟨h.os, h.tape, h.output, h.size, h.block⟩
theorem Keep.alloc {T : Nat} {a w : World} (h : Keep T a w) (o : Obj) : Keep T a (w.alloc o) := h.trans (.of_below ((Below.refl _ _).alloc (Nat.le_refl _) o))
theorem Keep.setCell {T : Nat} {a w : World} (h : Keep T a w) {p : Addr} (hp : a.heap.size ≤ p.block ∨ p.block = T) (u : Value) : Keep T a (w.setCell p u) :=
  ⟨h.os, h.tape, h.output, by simpa [World.setCell] using h.size, fun k hk hT => by rw [Below.heap_setCell _ _ _ _ (by omega)]; exact h.block k hk hT⟩
theorem Keep.below {T B : Nat} {w w' : World} (h : Keep T w w') (hB : B ≤ T) (hw : B ≤ w.heap.size) : Below B w w' := ⟨h.os, h.tape, h.output, h.size, fun k hk => h.block k (by omega) (by omega)⟩
/-- a slice of whole numbers that is read -/
def Ints (w : World) (T : Nat) (lv : Value) (len : Nat) : Prop :=
  ∃ a cap, lv = .slice a len cap ∧ (len = 0 ∨ ∃ b off, a = some ⟨b, off, none⟩ ∧ b < T ∧ ∀ j, j < len → ∃ z : Int, w.cell? ⟨b, off + j, none⟩ = some (.int .i64 z) ∧ -9223372036854775808 ≤ z ∧ z ≤ 9223372036854775807)
/-- the tape lies in block T -/
def Tp (T : Nat) (w : World) : Prop :=
  ∃ (lv : Value) (len i : Nat), i ≤ len ∧ len ≤ 9223372036854775807 ∧ w.heap[T]? = some (.cells #[lv, .int .i64 i] 58 (0, 0)) ∧ Ints w T lv len
theorem Tp.lt {T : Nat} {w : World} (h : Tp T w) : T < w.heap.size := by
  obtain ⟨lv, len, i, _, _, hb, _⟩ := h
  rcases Nat.lt_or_ge T w.heap.size with g | g
  · exact g
  · rw [Array.getElem?_eq_none g] at hb; cases hb
theorem Ints.below {w w' : World} {T : Nat} {lv : Value} {len : Nat} (h : Ints w T lv len) (hk : ∀ k, k < w.heap.size → k ≠ T → w'.heap[k]? = w.heap[k]?) : Ints w' T lv len := by
  obtain ⟨a, cap, rfl, h⟩ := h
  refine ⟨a, cap, rfl, h.imp id fun ⟨b, off, ha, hT, hc⟩ => ⟨b, off, ha, hT, fun j hj => ?_⟩⟩
  obtain ⟨z, hz, h1, h2⟩ := hc j hj
  refine ⟨z, ?_, h1, h2⟩
  rw [World.cell?_of_block (w := w) (hk b (World.block_lt_of_cell? w _ hz) (Nat.ne_of_lt hT))]
  exact hz
theorem Tp.of_below {T : Nat} {w w' : World} (h : Tp T w) (hb : Below w.heap.size w w') : Tp T w' := by
  have hlt := h.lt
  obtain ⟨lv, len, i, h1, h2, h3, h4⟩ := h
  exact ⟨lv, len, i, h1, h2, (hb.block T hlt).trans h3, h4.below fun k hk _ => hb.block k hk⟩
theorem Tp.drew {T : Nat} {w : World} (h : Tp T w) : Tp T w.drew := h
theorem Tp.alloc {T : Nat} {w : World} (h : Tp T w) (o : Obj) : Tp T (w.alloc o) := h.of_below ((Below.refl _ _).alloc (Nat.le_refl _) o)
theorem Tp.setCell {T : Nat} {w : World} (h : Tp T w) {p : Addr} (hp : T < p.block) (u : Value) : Tp T (w.setCell p u) := by
  obtain ⟨lv, len, i, h1, h2, h3, h4⟩ := h
  refine ⟨lv, len, i, h1, h2, by rw [Below.heap_setCell _ _ _ _ (Nat.ne_of_lt hp)]; exact h3, ?_⟩
  obtain ⟨a, cap, rfl, h4⟩ := h4
  refine ⟨a, cap, rfl, h4.imp id fun ⟨b, off, ha, hT, hc⟩ => ⟨b, off, ha, hT, fun j hj => ?_⟩⟩
  obtain ⟨z, hz, h1, h2⟩ := hc j hj
  refine ⟨z, ?_, h1, h2⟩
  rw [World.cell?_setCell_other _ _ _ _ (by intro e; subst e; exact absurd hp (by dsimp only; omega))]
  exact hz
def NextPost (T : Nat) (n : Int) (w : World) (e : Ending) (w' : World) : Prop := ∃ c : Int, e = .returned (.int .i64 c) ∧ 0 ≤ c ∧ (c < n ∨ c = 0) ∧ Tp T w' ∧ Keep T w w'
set_option maxHeartbeats 400000 in
theorem gen_Mod (v n : Int) (hv0 : -9223372036854775808 ≤ v) (hv1 : v ≤ 9223372036854775807) (hn0 : 1 ≤ n) (hn1 : n ≤ 9223372036854775807) (w : World) :
    Calls Tryd.prog 13 #[.int .i64 v, .int .i64 n] w fun e w' => e = .returned (.int .i64 (v % 18446744073709551616 % n)) ∧ w = w' := by
  go_enter Tryd.func13, Tryd.ntmps13
  go_wp2
  go_ret
  refine ⟨?_, rfl⟩
  have e1 : IntKind.u64.wrap v = v % 18446744073709551616 := by simp [IntKind.wrap, IntKind.bits, IntKind.signed]
  have h0 : 0 ≤ v % 18446744073709551616 := by omega
  have e2 : (v % 18446744073709551616).tmod n = v % 18446744073709551616 % n := Int.tmod_eq_emod_of_nonneg h0
  have h1 : 0 ≤ v % 18446744073709551616 % n := Int.emod_nonneg _ (by omega)
  have h2 : v % 18446744073709551616 % n < n := Int.emod_lt_of_pos _ (by omega)
  have e3 : wrap64 (v % 18446744073709551616 % n) = v % 18446744073709551616 % n := IntWalk.wrap64_in _ ⟨by omega, by omega⟩
  show Ending.returned (Value.int IntKind.i64 (wrap64 ((IntKind.u64.wrap v).tmod n))) = _
  rw [e1, e2, e3]
theorem Tp.cells {T : Nat} {w : World} {lv : Value} {i : Nat} (h : w.heap[T]? = some (.cells #[lv, .int .i64 i] 58 (0, 0))) :
    w.cell? ⟨T, 0, none⟩ = some lv ∧ w.cell? ⟨T, 1, none⟩ = some (.int .i64 i) ∧ w.frozen? ⟨T, 1, none⟩ = false := by
  refine ⟨?_, ?_, ?_⟩ <;> simp [World.cell?, World.frozen?, h]
set_option maxHeartbeats 400000 in
theorem gen_Next_zero (T : Nat) (n : Int) (w : World) (h : Tp T w) (hz : n ≤ 1) :
    Calls Tryd.prog 14 #[.pointer (some ⟨T, 0, none⟩), .int .i64 n] w fun e w' => e = .returned (.int .i64 0) ∧ Tp T w' ∧ Keep T w w' := by
  have H := Lib.hid h
  have g0 : decide (n ≤ 1) = true := by simpa using hz
  clear h hz
  go_enter Tryd.func14, Tryd.ntmps14
  go_wp2
  refine wp_region_later (by kernel_rfl) (by kernel_rfl) ?_
  repeat (go_big_quiet_step ((fail)))
  refine wpQuiet_nil ?_
  intro w2 hw'
  have hb2 := ext_below hw'
  clear hw'
  obtain ⟨hc2, hf2⟩ := bcell hb2
  have hs2 := hb2.size
  try simp at hs2
  go_wp2
  go_ret
  exact ⟨rfl, H.out.of_below hb2, Keep.of_below hb2⟩
set_option maxHeartbeats 400000 in
theorem gen_Next_end (T : Nat) (n : Int) (w : World) (h : Tp T w) (hz : 2 ≤ n) {a : Option Addr} {len cap i : Nat} (hi : len ≤ i) (hb : w.heap[T]? = some (.cells #[.slice a len cap, .int .i64 i] 58 (0, 0))) :
    Calls Tryd.prog 14 #[.pointer (some ⟨T, 0, none⟩), .int .i64 n] w fun e w' => e = .returned (.int .i64 0) ∧ Tp T w' ∧ Keep T w w' := by
  have H := Lib.hid h
  obtain ⟨hc0, hc1, hf1⟩ := Tp.cells hb
  have g0 : decide (n ≤ 1) = false := by simp; omega
  have gge : decide ((len : Int) ≤ i) = true := by simp; omega
  have hTl := h.lt
  clear h hz hb
  go_enter Tryd.func14, Tryd.ntmps14
  go_wp2
  refine wp_region_later (by kernel_rfl) (by kernel_rfl) ?_
  repeat (go_big_quiet_step ((fail)))
  refine wpQuiet_nil ?_
  intro w2 hw'
  have hb2 := ext_below hw'
  clear hw'
  obtain ⟨hc2, hf2⟩ := bcell hb2
  have hs2 := hb2.size
  try simp at hs2
  go_wp2
  go_ret
  exact ⟨rfl, H.out.of_below hb2, Keep.of_below hb2⟩
set_option maxHeartbeats 400000 in
theorem gen_Next_hit (T : Nat) (n : Int) (hn1 : n ≤ 9223372036854775807) (w : World) (h : Tp T w) (hn2 : 2 ≤ n) {b off len cap i : Nat} {z : Int} (hil : i < len) (hlen : len ≤ 9223372036854775807)
    (hb : w.heap[T]? = some (.cells #[.slice (some ⟨b, off, none⟩) len cap, .int .i64 i] 58 (0, 0))) (hbT : b < T)
    (hcells : ∀ j, j < len → ∃ z : Int, w.cell? ⟨b, off + j, none⟩ = some (.int .i64 z) ∧ -9223372036854775808 ≤ z ∧ z ≤ 9223372036854775807)
    (hz : w.cell? ⟨b, off + i, none⟩ = some (.int .i64 z)) (hz0 : -9223372036854775808 ≤ z) (hz1 : z ≤ 9223372036854775807) :
    Calls Tryd.prog 14 #[.pointer (some ⟨T, 0, none⟩), .int .i64 n] w fun e w' => e = .returned (.int .i64 (z % 18446744073709551616 % n)) ∧ Tp T w' ∧ Keep T w w' := by
  have HTp := Lib.hid h
  obtain ⟨hc0, hc1, hf1⟩ := Tp.cells hb
  have HB := Lib.hid hb
  have g0 : decide (n ≤ 1) = false := by simp; omega
  have hlt : (i : Int) < len := by omega
  have gge : decide ((len : Int) ≤ i) = false := by simp; omega
  have hbl : b < w.heap.size := World.block_lt_of_cell? w _ hz
  have hTl := h.lt
  have hCs := Lib.hid hcells
  obtain ⟨r, hr⟩ : ∃ r, z % 18446744073709551616 % n = r := ⟨_, rfl⟩
  have HM := Lib.hid (fun w => gen_Mod z n hz0 hz1 (by omega) hn1 w)
  rw [hr]
  simp only [hr] at HM
  clear h hcells hb hr
  go_enter Tryd.func14, Tryd.ntmps14
  go_wp2
  refine wp_region_later (by kernel_rfl) (by kernel_rfl) ?_
  repeat (go_big_quiet_step ((fail)))
  refine wpQuiet_nil ?_
  intro w2 hw'
  have hb2 := ext_below hw'
  clear hw'
  obtain ⟨hc2, hf2⟩ := bcell hb2
  have hs2 := hb2.size
  try simp at hs2
  have hbl2 : b < w2.heap.size := by omega
  have hTl2 : T < w2.heap.size := by omega
  have hzz : w2.cell? ⟨b, off + i, none⟩ = some (.int .i64 z) := by rw [hc2 _ _ hbl]; exact hz
  go_wp2
  have hzz3 : (w2.setCell ⟨T, 1, none⟩ (.int .i64 ((i : Int) + 1))).cell? ⟨b, off + i, none⟩ = some (.int .i64 z) := by
    rw [World.cell?_setCell_other _ _ _ _ (by intro e; injection e with e1 _ _; exact Nat.ne_of_lt hbT e1.symm)]; exact hzz
  have hc0' : (w2.setCell ⟨T, 1, none⟩ (.int .i64 ((i : Int) + 1))).cell? ⟨T, 0, none⟩ = some (.slice (some ⟨b, off, none⟩) len cap) := by
    rw [World.cell?_setCell_other _ _ _ _ (by intro e; injection e with _ e1 _; exact absurd e1 (by decide))]
    rw [hc2 _ _ hTl]; exact hc0
  have hc1' : (w2.setCell ⟨T, 1, none⟩ (.int .i64 ((i : Int) + 1))).cell? ⟨T, 1, none⟩ = some (.int .i64 ((i : Int) + 1)) := by
    refine World.cell?_setCell_same _ _ _ (u := .int .i64 i) ?_
    rw [hc2 _ _ hTl]; exact hc1
  have hS : T < (w2.setCell ⟨T, 1, none⟩ (.int .i64 ((i : Int) + 1))).heap.size := by simpa [World.setCell] using hTl2
  have hS2 : b < (w2.setCell ⟨T, 1, none⟩ (.int .i64 ((i : Int) + 1))).heap.size := by simpa [World.setCell] using hbl2
  have hKs : Keep T w (w2.setCell ⟨T, 1, none⟩ (.int .i64 ((i : Int) + 1))) := Keep.setCell (T := T) (p := ⟨T, 1, none⟩) (Keep.of_below hb2) (.inr rfl) _
  have hTs : Tp T (w2.setCell ⟨T, 1, none⟩ (.int .i64 ((i : Int) + 1))) := by
    refine ⟨_, len, i + 1, by omega, hlen, ?_, (show Ints w T (.slice (some ⟨b, off, none⟩) len cap) len from ⟨_, _, rfl, .inr ⟨b, off, rfl, hbT, hCs.out⟩⟩).below hKs.block⟩
    have hb' := (hb2.block T hTl).trans HB.out
    simp only [World.setCell, Array.getElem?_modify, if_true, hb', Option.map_some]
    simp
  have HKs := Lib.hid hKs
  have HTs := Lib.hid hTs
  clear hKs hTs hzz hc2 hf2 hc0 hc1 hz
  generalize (w2.setCell ⟨T, 1, none⟩ (.int .i64 ((i : Int) + 1))) = w3 at *
  refine wp_region_later (by kernel_rfl) (by kernel_rfl) ?_
  repeat (go_big_quiet_step (((go_at_call 13; exact calls_later_same (HM.out _)))))
  refine wpQuiet_nil ?_
  intro w4 hw'
  have hb4 := ext_below hw'
  clear hw'
  obtain ⟨hc4, hf4⟩ := bcell hb4
  have hs4 := hb4.size
  try simp at hs4
  go_wp2
  go_ret
  exact ⟨rfl, HTs.out.of_below hb4, HKs.out.trans (Keep.of_below hb4)⟩
/-- what Next will return is known before it is called, as long as nothing that lies there has been turned -/
theorem gen_Next_in (T : Nat) (n : Int) (hn1 : n ≤ 9223372036854775807) (W : World) (h : Tp T W) :
    ∃ c : Int, 0 ≤ c ∧ (c < n ∨ c = 0) ∧ ∀ w, Below W.heap.size W w → Calls Tryd.prog 14 #[.pointer (some ⟨T, 0, none⟩), .int .i64 n] w fun e w' => e = .returned (.int .i64 c) ∧ Tp T w' ∧ Keep T w w' := by
  have hTp := h
  obtain ⟨lv, len, i, hi, hlen, hb, a, cap, rfl, hcell⟩ := h
  by_cases hn : n ≤ 1
  · exact ⟨0, Int.le_refl _, .inr rfl, fun w hw => gen_Next_zero T n w (hTp.of_below hw) hn⟩
  · by_cases hil : i < len
    · obtain ⟨b, off, rfl, hbT, hcells⟩ : ∃ b off, a = some ⟨b, off, none⟩ ∧ b < T ∧ ∀ j, j < len → ∃ z : Int, W.cell? ⟨b, off + j, none⟩ = some (.int .i64 z) ∧ -9223372036854775808 ≤ z ∧ z ≤ 9223372036854775807 := by
        rcases hcell with h0 | h0
        · omega
        · exact h0
      obtain ⟨z, hz, hz0, hz1⟩ := hcells i hil
      have hbl : b < W.heap.size := World.block_lt_of_cell? W _ hz
      refine ⟨z % 18446744073709551616 % n, Int.emod_nonneg _ (by omega), Or.inl (Int.emod_lt_of_pos _ (by omega)), fun w hw => ?_⟩
      exact gen_Next_hit T n hn1 w (hTp.of_below hw) (by omega) hil hlen ((hw.block T hTp.lt).trans hb) hbT
        (fun j hj => by obtain ⟨z, h1, h2⟩ := hcells j hj; exact ⟨z, (hw.cell (p := ⟨b, off + j, none⟩) hbl).trans h1, h2⟩) ((hw.cell (p := ⟨b, off + i, none⟩) hbl).trans hz) hz0 hz1
    · exact ⟨0, Int.le_refl _, .inr rfl, fun w hw => gen_Next_end T n w (hTp.of_below hw) (by omega) (by omega) ((hw.block T hTp.lt).trans hb)⟩
theorem gen_Next (T : Nat) (n : Int) (hn1 : n ≤ 9223372036854775807) (w : World) (h : Tp T w) :
    Calls Tryd.prog 14 #[.pointer (some ⟨T, 0, none⟩), .int .i64 n] w (NextPost T n w) := by
  obtain ⟨c, h0, h1, h2⟩ := gen_Next_in T n hn1 w h
  exact (h2 w (Below.refl _ _)).mono fun _ _ ⟨he, hT, hK⟩ => ⟨c, he, h0, h1, hT, hK⟩
/-- a world later than W in which the tape stands -/
def RS (T : Nat) (W w : World) : Prop := Tp T w ∧ Keep T W w
theorem RS.refl {T : Nat} {W : World} (h : Tp T W) : RS T W W := ⟨h, Keep.refl _ _⟩
theorem RS.drew {T : Nat} {W w : World} (h : RS T W w) : RS T W w.drew := ⟨h.1.drew, h.2.drew⟩
theorem RS.alloc {T : Nat} {W w : World} (h : RS T W w) (o : Obj) : RS T W (w.alloc o) := ⟨h.1.alloc o, h.2.alloc o⟩
theorem RS.step {T : Nat} {W w w' : World} (h : RS T W w) (hT : Tp T w') (hK : Keep T w w') : RS T W w' := ⟨hT, h.2.trans hK⟩
theorem RS.below {T : Nat} {W w w' : World} (h : RS T W w) (hb : Below w.heap.size w w') : RS T W w' := ⟨h.1.of_below hb, h.2.trans (Keep.of_below hb)⟩
theorem RS.setCell {T : Nat} {W w : World} (h : RS T W w) {p : Addr} (hp : W.heap.size ≤ p.block) (hT : T < W.heap.size) (u : Value) : RS T W (w.setCell p u) := ⟨h.1.setCell (by omega) u, h.2.setCell (.inl hp) u⟩
theorem RS.cell {T : Nat} {W w : World} (h : RS T W w) {b o : Nat} (hb : b < W.heap.size) (hne : ¬ b = T) : w.cell? ⟨b, o, none⟩ = W.cell? ⟨b, o, none⟩ := h.2.cell (p := ⟨b, o, none⟩) hb hne
theorem kcell {T : Nat} {W w1 : World} (hb : Keep T W w1) : (∀ b o, b < W.heap.size → ¬ b = T → w1.cell? ⟨b, o, none⟩ = W.cell? ⟨b, o, none⟩) ∧ (∀ b o, b < W.heap.size → ¬ b = T → w1.frozen? ⟨b, o, none⟩ = W.frozen? ⟨b, o, none⟩) :=
  ⟨fun b o h hT => hb.cell (p := ⟨b, o, none⟩) h hT, fun b o h hT => hb.frozen (p := ⟨b, o, none⟩) h hT⟩
end Go.Proofs.YtmaiillomoehgaaDoor
/- Walks of the reference's texts: Parts, Read, Number. -/
namespace Go.Proofs.YtmaiillomoehgaaDoor
open Go.RowKit
theorem infoStr : (Tryd.prog.info? 9).map (fun i => (i.zero, i.size, i.bytes)) = some (some (.string ⟨#[]⟩), 1, 16) := by kernel_rfl
def strCells (xs : List (List UInt8)) : List Value := xs.map fun l => .string ⟨l.toArray⟩
theorem strCells_snoc (xs : List (List UInt8)) (l : List UInt8) : strCells (xs ++ [l]) = strCells xs ++ [.string ⟨l.toArray⟩] := by simp [strCells]
/-- where the division stands -/
def PartsAt (c : UInt8) (l : List UInt8) (k f : Nat) (done : List (List UInt8)) : Prop :=
  f ≤ k ∧ done.length ≤ k ∧ (k ≤ l.length ∧ partsL c l = done ++ glueL ((l.drop f).take (k - f)) (partsL c (l.drop k)) ∨ k = l.length + 1 ∧ partsL c l = done)
theorem PartsAt.start (c : UInt8) (l : List UInt8) : PartsAt c l 0 0 [] := ⟨by omega, by simp, .inl ⟨by omega, by simp [glueL_nil]⟩⟩
theorem PartsAt.last {c : UInt8} {l : List UInt8} {f : Nat} {done : List (List UInt8)} (h : PartsAt c l l.length f done) : PartsAt c l (l.length + 1) (l.length + 1) (done ++ [(l.drop f).take (l.length - f)]) := by
  obtain ⟨h1, h2, h3 | h3⟩ := h
  · refine ⟨by omega, by simp; omega, .inr ⟨rfl, ?_⟩⟩
    rw [h3.2, List.drop_length, partsL, glueL, List.append_nil]
  · omega
theorem PartsAt.hit {c : UInt8} {l : List UInt8} {k f : Nat} {done : List (List UInt8)} (h : PartsAt c l k f done) (hk : k < l.length) (hc : l[k] = c) : PartsAt c l (k + 1) (k + 1) (done ++ [(l.drop f).take (k - f)]) := by
  obtain ⟨h1, h2, h3 | h3⟩ := h
  · refine ⟨by omega, by simp; omega, .inl ⟨by omega, ?_⟩⟩
    rw [h3.2, List.drop_eq_getElem_cons hk, hc, partsL, if_pos rfl, glueL, List.append_nil, Nat.sub_self, List.take_zero, glueL_nil, List.append_assoc]
    rfl
  · omega
theorem PartsAt.miss {c : UInt8} {l : List UInt8} {k f : Nat} {done : List (List UInt8)} (h : PartsAt c l k f done) (hk : k < l.length) (hc : l[k] ≠ c) : PartsAt c l (k + 1) f done := by
  obtain ⟨h1, h2, h3 | h3⟩ := h
  · refine ⟨by omega, by omega, .inl ⟨by omega, ?_⟩⟩
    rw [h3.2, List.drop_eq_getElem_cons hk, partsL, if_neg hc, glueL_glue]
    congr 2
    rw [show k + 1 - f = (k - f) + 1 by omega, List.take_succ_eq_append_getElem (by simp; omega), List.getElem_drop]
    congr 2
    simp [show f + (k - f) = k by omega]
  · omega
theorem PartsAt.done {c : UInt8} {l : List UInt8} {f : Nat} {done : List (List UInt8)} (h : PartsAt c l (l.length + 1) f done) : partsL c l = done := by
  obtain ⟨h1, h2, h3 | h3⟩ := h
  · omega
  · exact h3.2
theorem ext_str (s : ByteArray) (a b : Nat) : (Value.string (s.extract a b)) = .string ⟨((s.data.toList.drop a).take (b - a)).toArray⟩ := by
  rw [← list_bytes (s.extract a b) _ (ext_list s a b)]
theorem byte_eqB (a b : UInt8) : (((a.toNat : Int) == (b.toNat : Int)) = true ↔ a = b) := by
  rw [beq_iff_eq, Int.natCast_inj, UInt8.toNat_inj]
set_option maxHeartbeats 2000000 in
theorem ref_Parts (s : ByteArray) (c : UInt8) (hs : s.size ≤ 4398046511104) (w : World) :
    Calls Tryd.prog 42 #[.string s, .int .u8 c.toNat] w fun e w' => ∃ v, e = .returned v ∧ w'.ownsRow w.heap.size 9 1 v (partsL c s.data.toList).length (strCells (partsL c s.data.toList)) ∧ Below w.heap.size w w' := by
  have hlen := size_len s
  go_enter Tryd.func42, Tryd.ntmps42
  go_wp2
  go_loopw [5, 6, 7] (fun v fr i wr => ∃ (k f : Nat) (done : List (List UInt8)), k ≤ s.size + 1 ∧ i = .int .i64 k ∧ fr = .int .i64 f ∧ PartsAt c s.data.toList k f done ∧ wr.ownsRow w.heap.size 9 1 v done.length (strCells done) ∧ Below w.heap.size w wr)
    (fun _ _ i _ => s.size + 1 - (intOf i).toNat)
  case atStart => exact ⟨0, 0, [], by omega, rfl, rfl, PartsAt.start _ _, World.ownsRow_nil _ _ _ _, by ((repeat (first | exact Below.refl _ _ | refine Below.drew ?_ | refine Below.setCell ?_ (by first | (simp; done) | (simp; omega) | omega) _ | refine Below.alloc ?_ (by first | (simp; done) | (simp; omega) | omega) _)); done)⟩
  case round =>
    obtain ⟨k, f, done, hk, rfl, rfl, hp, hown, hb⟩ := hrel
    have hsz := hb.size
    have hfk := hp.1
    have hdk := hp.2.1
    have HP := Lib.hid hp
    have HLN := Lib.hid hlen
    have HO := Lib.hid hown
    have HB := Lib.hid hb
    clear hp hlen hown hb
    by_cases hlt : k < s.size
    · have hltL : k < s.data.toList.length := by rw [← HLN.out]; exact hlt
      have g0 : ((k : Int) == (s.size : Int)) = false := by rw [beq_eq_false_iff_ne]; omega
      have g1 : (k == s.size) = false := by rw [beq_eq_false_iff_ne]; omega
      have hle : (k : Int) ≤ (s.size : Int) := by omega
      rcases Bool.eq_false_or_eq_true ((s[k].toNat : Int) == (c.toNat : Int)) with gc | gc
      · have hc : s.data.toList[k] = c := (byte_eqB _ _).1 gc
        have HC := Lib.hid hc
        clear hc
        go_wp2_with (at_builtin; refine wpList_append_new rfl _ _ 29 rfl w.heap.size 9 _ (.string ⟨#[]⟩) 1 16 Tryd.underlying29 infoStr rfl (by decide) _ _ _ rfl HO.out _ rfl rfl (by intro u hu; simp at hu; subst hu; rfl) (by omega) (by decide) hsz ?_; intro v1 w1 h1 hb1 _ _)
        go_roundw
        case rel =>
          refine ⟨k + 1, k + 1, done ++ [(s.data.toList.drop f).take (k - f)], by omega, rfl, rfl, PartsAt.hit HP.out hltL HC.out, by rw [strCells_snoc, List.length_append, ← ext_str]; exact h1, HB.out.trans hb1⟩
        case measure => simp [intOf]; omega
      · have hc : s.data.toList[k] ≠ c := fun h => absurd ((byte_eqB s[k] c).2 h) (by rw [gc]; exact Bool.false_ne_true)
        have HC := Lib.hid hc
        clear hc
        go_wp2
        go_roundw
        case rel => exact ⟨k + 1, f, done, by omega, rfl, rfl, PartsAt.miss HP.out hltL HC.out, HO.out, HB.out⟩
        case measure => simp [intOf]; omega
    · by_cases heq : k = s.size
      · subst heq
        have hL := HLN.out
        have HP' : Hid (PartsAt c s.data.toList s.data.toList.length f done) := Lib.hid (by rw [← hL]; exact HP.out)
        clear hL
        have g0 : ((s.size : Int) == (s.size : Int)) = true := by simp
        go_wp2_with (at_builtin; refine wpList_append_new rfl _ _ 29 rfl w.heap.size 9 _ (.string ⟨#[]⟩) 1 16 Tryd.underlying29 infoStr rfl (by decide) _ _ _ rfl HO.out _ rfl rfl (by intro u hu; simp at hu; subst hu; rfl) (by omega) (by decide) hsz ?_; intro v1 w1 h1 hb1 _ _)
        go_roundw
        case rel =>
          refine ⟨s.size + 1, s.size + 1, done ++ [(s.data.toList.drop f).take (s.size - f)], by omega, rfl, rfl, ?_, by rw [strCells_snoc, List.length_append, ← ext_str]; exact h1, HB.out.trans hb1⟩
          have := HP'.out.last
          rw [← HLN.out] at this
          exact this
        case measure => simp [intOf]
      · obtain rfl : k = s.size + 1 := by omega
        have hd : partsL c s.data.toList = done := by
          have h := HP.out
          rw [HLN.out] at h
          exact h.done
        have HD := Lib.hid hd
        clear hd
        go_wp2
        go_ret
        exact ⟨_, rfl, by rw [HD.out]; exact HO.out, HB.out⟩
/-- a decimal number -/
theorem str_empty (s : ByteArray) (h : s.size = 0) : s = ⟨#[]⟩ := by
  have := list_bytes s [] (by rw [size_len] at h; exact List.length_eq_zero_iff.1 h)
  simpa using this
set_option maxHeartbeats 2000000 in
theorem ref_Read (s : ByteArray) (most : Int) (hm0 : 0 ≤ most) (hm1 : most ≤ 9223372036854775807) (hs : s.size ≤ maxLen) {r : Option Int} (hr : readB s.data.toList most = r) (w : World) :
    Calls Tryd.prog 41 #[.string s, .int .i64 most] w fun e w' => e = .returned (.tuple #[.int .i64 (r.getD 0), .bool r.isSome]) ∧ w = w' := by
  unfold maxLen at hs
  have hlen := size_len s
  by_cases h0 : s.size = 0
  · obtain rfl := str_empty s h0
    have : r = none := by rw [← hr]; simp [readB]
    subst this
    clear hr hlen h0
    go_enter Tryd.func41, Tryd.ntmps41
    go_wp2
    go_ret2
    exact ⟨rfl, rfl⟩
  · have hlt : 0 < s.size := by omega
    have HL := Lib.hid hlen
    have he1 : ¬ s.toList = [] := by
      rw [ByteArray.toList_eq]; intro h; rw [h] at hlen; exact h0 (by simpa using hlen)
    have he2 : s.toList.isEmpty = false := by rw [List.isEmpty_eq_false_iff]; exact he1
    have hdl : ¬ s.data.toList = [] := by rw [← ByteArray.toList_eq]; exact he1
    have HDL := Lib.hid hdl
    have h00 : s.data.toList.getD 0 0 = s[0] := by
      rw [List.getD_eq_getElem?_getD, List.getElem?_eq_getElem (by rw [← hlen]; exact hlt)]; rfl
    have H00 := Lib.hid h00
    have HR := Lib.hid hr
    clear hr hlen h0 hdl h00
    rcases Bool.eq_false_or_eq_true (decide ((1 : Int) < (s.size : Int)) && ((s[0].toNat : Int) == 48)) with g | g
    · have : r = none := by
        simp only [Bool.and_eq_true, decide_eq_true_eq, beq_iff_eq] at g
        have hc : s.data.toList = [] ∨ 1 < s.data.toList.length ∧ (s.data.toList.getD 0 0).toNat = 48 := .inr ⟨by have := HL.out; omega, by rw [H00.out]; omega⟩
        rw [← HR.out, readB, if_pos hc]
      subst this
      have g1 : (1 : Int) < (s.size : Int) := by simp at g; omega
      have g2 : ((s[0].toNat : Int) == 48) = true := by simp at g ⊢; exact g.2
      clear g
      go_enter Tryd.func41, Tryd.ntmps41
      go_wp2
      all_goals
        go_ret2
        exact ⟨rfl, rfl⟩
    · have hz : ¬ (s.data.toList = [] ∨ 1 < s.data.toList.length ∧ (s.data.toList.getD 0 0).toNat = 48) := by
        rw [H00.out, ← HL.out]
        intro h
        rcases h with h | ⟨h1, h2⟩
        · exact HDL.out h
        · simp at g; omega
      have HZ : Hid (rdGo most s.data.toList 0 = r) := Lib.hid (by have := HR.out; rwa [readB, if_neg hz] at this)
      clear hz HR
      have g' : decide ((1 : Int) < (s.size : Int)) = false ∨ (decide ((1 : Int) < (s.size : Int)) = true ∧ ((s[0].toNat : Int) == 48) = false) := by
        cases h1 : decide ((1 : Int) < (s.size : Int)) <;> cases h2 : ((s[0].toNat : Int) == 48) <;> simp_all
      clear g
      rcases g' with g1 | ⟨g1, g2⟩
      all_goals
        go_enter Tryd.func41, Tryd.ntmps41
        go_wp2_with fail
        try clear g2
        clear g1 he1 he2
        go_loop [6, 7] (fun n i => ∃ (k : Nat) (v : Int), k ≤ s.size ∧ i = .int .i64 k ∧ n = .int .i64 v ∧ 0 ≤ v ∧ v ≤ most ∧ rdGo most (s.data.toList.drop k) v = r) (fun _ i => s.size - (intOf i).toNat)
        case atStart => exact ⟨0, 0, by omega, rfl, rfl, by omega, by omega, HZ.out⟩
        case round =>
          obtain ⟨k, v, hk, rfl, rfl, hv0, hv1, hrd⟩ := hrel
          by_cases hlt : k < s.size
          · have hc8 := UInt8.toNat_lt s[k]
            rw [drop_cons s k hlt, rdGo] at hrd
            have HRD := Lib.hid hrd
            clear hrd
            by_cases hd : 48 ≤ s[k].toNat ∧ s[k].toNat ≤ 57
            · obtain ⟨hd0, hd1⟩ := hd
              by_cases hm : most < 10 * v + ((s[k].toNat : Int) - 48)
              · have : r = none := by rw [← HRD.out, if_pos (by omega)]
                subst this
                by_cases hx : most < (s[k].toNat : Int) - 48
                · go_wp2
                  all_goals
                    go_ret2
                    exact ⟨rfl, rfl⟩
                · have hq : (most - ((s[k].toNat : Int) - 48)) / 10 < v := by omega
                  go_wp2
                  go_ret2
                  exact ⟨rfl, rfl⟩
              · have hq : ¬ (most - ((s[k].toNat : Int) - 48)) / 10 < v := by omega
                have hx : ¬ most < (s[k].toNat : Int) - 48 := by omega
                have HN : Hid (rdGo most (s.data.toList.drop (k + 1)) (10 * v + ((s[k].toNat : Int) - 48)) = r) := Lib.hid (by have := HRD.out; rwa [if_neg (by omega)] at this)
                go_wp2
                go_round
                case rel => exact ⟨k + 1, 10 * v + ((s[k].toNat : Int) - 48), by omega, rfl, rfl, by omega, by omega, HN.out⟩
                case measure => simp [intOf]; omega
            · have : r = none := by rw [← HRD.out, if_pos (by omega)]
              subst this
              by_cases hd0 : 48 ≤ s[k].toNat
              · have hd1 : 57 < s[k].toNat := by omega
                go_wp2
                go_ret2
                exact ⟨rfl, rfl⟩
              · go_wp2
                go_ret2
                exact ⟨rfl, rfl⟩
          · obtain rfl : k = s.size := by omega
            have : r = some v := by
              rw [← hrd, List.drop_of_length_le (by rw [← HL.out]; exact Nat.le_refl _), rdGo]
            subst this
            clear hrd
            go_wp2
            go_ret2
            exact ⟨rfl, rfl⟩
end Go.Proofs.YtmaiillomoehgaaDoor
