/- U3 U4 U8 in one text -/
import Derived.Test.YtmaiillomoehgaaDoorGrpD
import Derived.Deep.Upon
set_option linter.unusedVariables false
set_option linter.unusedSimpArgs false
/- Arithmetic on bits and without bounds; a part of an element of a row is written. -/
namespace Go.Proofs.YtmaiillomoehgaaDoor.V
open Go.RowKit
theorem wu32 (x : Int) : inU32 (IntKind.u32.wrap x) := by
  unfold IntKind.wrap; simp [IntKind.signed, IntKind.bits]; omega
theorem wu64 (x : Int) : inU64 (IntKind.u64.wrap x) := by
  unfold IntKind.wrap; simp [IntKind.signed, IntKind.bits]; omega
theorem wu8 (x : Int) : inU8 (IntKind.u8.wrap x) := by
  unfold IntKind.wrap; simp [IntKind.signed, IntKind.bits]; omega
theorem wu16 (x : Int) : inU16 (IntKind.u16.wrap x) := by
  unfold IntKind.wrap; simp [IntKind.signed, IntKind.bits]; omega
theorem wi64 (x : Int) : inI64 (IntKind.i64.wrap x) := by
  unfold IntKind.wrap; simp [IntKind.signed, IntKind.bits]; split <;> omega
def bOr (k : IntKind) (x y : Int) : Int := k.wrap ((BitVec.ofInt k.bits x ||| BitVec.ofInt k.bits y).toNat : Int)
def bXor (k : IntKind) (x y : Int) : Int := k.wrap ((BitVec.ofInt k.bits x ^^^ BitVec.ofInt k.bits y).toNat : Int)
def bAnd (k : IntKind) (x y : Int) : Int := k.wrap ((BitVec.ofInt k.bits x &&& BitVec.ofInt k.bits y).toNat : Int)
def sHl (k : IntKind) (x n : Int) : Int := k.wrap (x * 2 ^ (min n.toNat k.bits))
def sHr (k : IntKind) (x n : Int) : Int := x.fdiv (2 ^ (min n.toNat k.bits))
theorem sHr_in {k : IntKind} {x n m : Int} (h : 0 ≤ x ∧ x ≤ m) : 0 ≤ sHr k x n ∧ sHr k x n ≤ m := by
  unfold sHr
  have hp : (0 : Int) < 2 ^ (min n.toNat k.bits) := Int.pow_pos (by decide)
  rw [Int.fdiv_eq_ediv_of_nonneg _ (Int.le_of_lt hp)]
  exact ⟨Int.ediv_nonneg h.1 (Int.le_of_lt hp), Int.le_trans (Int.ediv_le_self _ h.1) h.2⟩
section
variable {P : Program} {a : Act} {w : World} {d : Option Tmp} {ty : TypeId} {pos : String} {af : Array Edge} {g : Option (Nat × Bool)} {x y : Operand} {xt yt : TypeId} {k k' : IntKind} {m p : Int}
theorem x_bor (hx : a.eval x = .int k m) (hy : a.eval y = .int k p) : (execOp a.eval ⟨d, .binOp .or xt x y yt, ty, pos, af, g⟩).run P w = .ok (.value (.int k (bOr k m p))) w := by simp [execOp, eqGuard, binOp, Op.intBits, hx, hy, bOr]
theorem x_bxor (hx : a.eval x = .int k m) (hy : a.eval y = .int k p) : (execOp a.eval ⟨d, .binOp .xor xt x y yt, ty, pos, af, g⟩).run P w = .ok (.value (.int k (bXor k m p))) w := by simp [execOp, eqGuard, binOp, Op.intBits, hx, hy, bXor]
theorem x_band (hx : a.eval x = .int k m) (hy : a.eval y = .int k p) : (execOp a.eval ⟨d, .binOp .and xt x y yt, ty, pos, af, g⟩).run P w = .ok (.value (.int k (bAnd k m p))) w := by simp [execOp, eqGuard, binOp, Op.intBits, hx, hy, bAnd]
theorem x_shl (hx : a.eval x = .int k m) (hy : a.eval y = .int k' p) (h0 : 0 ≤ p) : (execOp a.eval ⟨d, .binOp .shl xt x y yt, ty, pos, af, g⟩).run P w = .ok (.value (.int k (sHl k m p))) w := by
  have : ¬ p < 0 := by omega
  simp [execOp, eqGuard, binOp, Op.shift, hx, hy, sHl, this]
theorem x_shr (hx : a.eval x = .int k m) (hy : a.eval y = .int k' p) (h0 : 0 ≤ p) : (execOp a.eval ⟨d, .binOp .shr xt x y yt, ty, pos, af, g⟩).run P w = .ok (.value (.int k (sHr k m p))) w := by
  have : ¬ p < 0 := by omega
  simp [execOp, eqGuard, binOp, Op.shift, hx, hy, sHr, this]
end
theorem retcw2 {P : Program} {n : Nat} {L : List (Nat × Value)} {a : Act} {w : World} {fn : Func} {R : Ending → World → Prop} {t t' T : Nat} {b : Nat} {v' : Value} {cs : List Value} (hr : fn.results = #[.cell t T, .tmp t']) (S : Slots n L a) (hv : look t L = some (.pointer (some ⟨b, 0, none⟩))) (hv' : look t' L = some v') (hc : ∀ j v, cs[j]? = some v → hcell w.heap b (0 + j) = some v) (hs : Wide P T cs.length) (h : R (.returned (.tuple #[.agg cs.toArray, v'])) w) : bodyPost P fn R .ret a w := by
  refine ⟨S.defers, _, ?_, h⟩
  have hl := run_loadVar_wide (P := P) (w := w) cs hs hc
  have h1 := S.get t _ hv
  have h2 := S.get t' _ hv'
  simp only [Array.getD_eq_getD_getElem?] at h1 h2
  simp [results, hr, h1, h2, asAddr, hl]
theorem stx {P : Program} {ops : Array Oper} {F : Nat → Prop} {w0 : World} {m0 : List BS} {n : Nat} {L : List (Nat × Value)} {fs : List RF} {os : List OF} {ty : TypeId} {pos : String} {af : Array Edge} {x y : Operand} {v : Value} {t e : TypeId} {b f : Nat} {cs : List Value} {u : Value} (i : Nat) (cs' : List Value) (hx : evS L x = some (.pointer (some ⟨b, f, none⟩))) (hy : evS L y = some v) (hb : nth os i = some (blO b cs e)) (hcs : cs.set f v = cs') (ho : cs[f]? = some u := by rfl) (h1 : v.oneCell' = true := by rfl) (hz : (P.info? t).map (·.size) = some 1 := by kernel_rfl) :
    One P ops (St F w0 m0 n L fs os) [one b] ⟨none, .store t x y, ty, pos, af, none⟩ (St F w0 m0 n L fs (os.set i (blO b cs' e))) := by
  subst hcs; exact stk i hx hy hb ho h1 hz
theorem take_splice {α : Type _} (l vs : List α) (a K : Nat) (h : a + vs.length ≤ K) (hl : K ≤ l.length) : (l.take a ++ vs ++ l.drop (a + vs.length)).take K = (l.take K).take a ++ vs ++ (l.take K).drop (a + vs.length) := by
  have e1 : (l.take a).length = a := by rw [List.length_take]; omega
  rw [List.append_assoc, List.take_append, e1, List.take_append, List.take_of_length_le (by rw [e1]; omega : (l.take a).length ≤ K), List.take_of_length_le (by omega : vs.length ≤ K - a), List.take_take, Nat.min_eq_left (by omega), List.append_assoc]
  congr 2
  rw [List.drop_take]
  congr 1
  omega
theorem flat_splice {α : Type} {E : Enc α} (x' : α) (j : Nat) (vs : List Value) (hj : j + vs.length ≤ E.n) : ∀ (xs : List α) (m : Nat), m < xs.length → E.cells x' = (E.cells (xs.getD m E.dflt)).take j ++ vs ++ (E.cells (xs.getD m E.dflt)).drop (j + vs.length) →
    (xs.set m x').flatMap E.cells = (xs.flatMap E.cells).take (m * E.n + j) ++ vs ++ (xs.flatMap E.cells).drop (m * E.n + j + vs.length)
  | [], m, h, _ => by simp at h
  | x :: xs, 0, _, h => by
    have h' : E.cells x' = (E.cells x).take j ++ vs ++ (E.cells x).drop (j + vs.length) := by simpa using h
    have hl := E.len x
    rw [List.set_cons_zero, List.flatMap_cons, List.flatMap_cons, h', Nat.zero_mul, Nat.zero_add, List.take_append_of_le_length (by omega), List.drop_append_of_le_length (by omega)]
    simp [List.append_assoc]
  | x :: xs, m + 1, hm, h => by
    have hl := E.len x
    rw [List.set_cons_succ, List.flatMap_cons, List.flatMap_cons, flat_splice x' j vs hj xs m (by simpa using hm) (by simpa using h), Nat.add_mul, Nat.one_mul]
    rw [show m * E.n + E.n + j = (E.cells x).length + (m * E.n + j) from by omega, List.take_length_add_append, show (E.cells x).length + (m * E.n + j) + vs.length = (E.cells x).length + (m * E.n + j + vs.length) from by omega, List.drop_length_add_append]
    simp [List.append_assoc]
section
variable {P : Program} {ops : Array Oper} {F : Nat → Prop} {w0 : World} {m0 : List BS} {n : Nat} {L : List (Nat × Value)} {fs : List RF} {os : List OF} {ty : TypeId} {pos : String} {af : Array Edge} {x y : Operand}
/-- several cells of an element of a row of the call's own are written -/
theorem strw_wp {α : Type} {E : Enc α} {et : TypeId} {t : TypeId} {ad : Option Addr} {cap ob bs : Nat} {xs : List α} {vs : List Value} (i : Nat) (hx : evS L x = some (.pointer (some ⟨blk ad, ob, none⟩))) (hy : evS L y = some (.agg vs.toArray)) (hr : nth os i = some (rwO E et bs ad cap xs)) (m j : Nat) (hm : m < xs.length) (hj : j + vs.length ≤ E.n) (x' : α) (hw : ∀ {a w}, St F w0 m0 n L fs os a w → E.wf (Fr F (ow os)) w.heap x') (hc : E.cells x' = (E.cells (xs.getD m E.dflt)).take j ++ vs ++ (E.cells (xs.getD m E.dflt)).drop (j + vs.length)) (hob : ob = m * E.n + j) (h1 : vs.all (·.oneCell') = true) (hz : (P.info? t).map (·.size) = some vs.length := by kernel_rfl) {a : Act} {w : World} {K : Act → World → Prop} {Q : Exit → Act → World → Prop} (S : St F w0 m0 n L fs os a w) (k : ∀ a' w', St F w0 m0 n L fs (os.set i (rwO E et bs ad cap (xs.set m x'))) a' w' → Ch (In [abk ad]) w w' → K a' w') :
    Oper.wp P ⟨none, .store t x y, ty, pos, af, none⟩ a w K Q := by
  subst hob
  have R := S.row i hr
  rcases R.form with ⟨_, h, _⟩ | ⟨had, hb, hlt, _⟩
  · rw [h] at hm; simp at hm
  · have hne : ad ≠ none := fun e => by rw [e] at had; cases had
    rcases R.own.2 with ⟨h1', h2⟩ | ⟨g, c, cur, g1, g2, g3, g4, g5, g6, g7⟩
    · rw [h2] at hm; omega
    · injection g1 with g1 _ g8
      subst g1 g8
      have hmn : m * E.n + j + vs.length ≤ xs.length * E.n := by
        have : (m + 1) * E.n ≤ xs.length * E.n := Nat.mul_le_mul_right _ hm
        rw [Nat.add_mul] at this; omega
      have hcs : xs.length * E.n ≤ cur.size := by rw [g6]; exact Nat.mul_le_mul_right _ g4
      have hst := run_storeCells_at P g (m * E.n + j) et vs 0 cur w g3 (by omega) (fun v hv => List.all_eq_true.1 h1 v hv)
      simp only [Nat.add_zero] at hst
      generalize hcur : (cur.toList.take (m * E.n + j) ++ vs ++ cur.toList.drop (m * E.n + j + vs.length)).toArray = cur' at hst
      have hg : Ch (In [abk (some ⟨g, 0, none⟩)]) w (w.setRow g cur') := (setRow_ch w g cur').mono fun k hk => hk.imp (fun h => by rw [abk_one]; exact h) id
      have hrun : (execOp a.eval ⟨none, .store t x y, ty, pos, af, none⟩).run P w = .ok .skip (w.setRow g cur') := by
        cases hi : P.info? t with
        | none => simp [hi] at hz
        | some ie =>
          have h6 : ie.size = vs.length := by simpa [hi] using hz
          simp [execOp, Instr.storeAt, S.e hx, S.e hy, Instr.sureAddr, storeVar, Value.cells, sizeOf, typeInfo, hi, h6, blk, hst]
      have hsz : cur'.size = cur.size := by rw [← hcur]; simp; omega
      have hheap : (w.setRow g cur').heap[g]? = some (.cells cur' et (0, 0)) := by simp [World.setRow, Array.getElem?_modify, g3]
      have hM := S.m.k1 i hr (rwO E et bs (some ⟨g, 0, none⟩) cap (xs.set m x')) rfl hg ?_
      · exact op_skip hrun (k _ _ ⟨S.s, hM⟩ hg)
      · have hkp : Kp (Fr F (ow os)) w.heap (w.setRow g cur').heap := hg.kp fun k _ h1 h2 => h1.1 (in_mem (ow_mem (nth_mem hr)) (In.one.1 h2))
        refine ⟨⟨by rw [flat_len E.len, List.length_set], .inr ⟨g, cap, cur', by rw [List.length_set], g2, hheap, by rw [List.length_set]; exact g4, g5, by rw [hsz]; exact g6, ?_⟩⟩, fun q hq => ?_⟩
        · rw [flat_splice x' j vs hj xs m hm hc, List.length_set, ← hcur, ← g7]
          exact take_splice _ _ _ _ hmn (by simpa using hcs)
        · rcases List.mem_or_eq_of_mem_set hq with q1 | q1
          · exact E.keep hkp (R.wf q q1)
          · subst q1; exact E.keep hkp (hw S)
theorem strw {α : Type} {E : Enc α} {et : TypeId} {t : TypeId} {ad : Option Addr} {cap ob bs : Nat} {xs : List α} {vs : List Value} (i : Nat) (hx : evS L x = some (.pointer (some ⟨blk ad, ob, none⟩))) (hy : evS L y = some (.agg vs.toArray)) (hr : nth os i = some (rwO E et bs ad cap xs)) (m j : Nat) (hm : m < xs.length) (hj : j + vs.length ≤ E.n) (x' : α) (hw : ∀ {a w}, St F w0 m0 n L fs os a w → E.wf (Fr F (ow os)) w.heap x') (hc : E.cells x' = (E.cells (xs.getD m E.dflt)).take j ++ vs ++ (E.cells (xs.getD m E.dflt)).drop (j + vs.length)) (hob : ob = m * E.n + j) (h1 : vs.all (·.oneCell') = true) (hz : (P.info? t).map (·.size) = some vs.length := by kernel_rfl) :
    One P ops (St F w0 m0 n L fs os) [abk ad] ⟨none, .store t x y, ty, pos, af, none⟩ (St F w0 m0 n L fs (os.set i (rwO E et bs ad cap (xs.set m x')))) := fun K Q a w S k => by
  unfold Core
  rw [if_pos (by simp [Region.wanted])]
  exact .inl (strw_wp i hx hy hr m j hm hj x' hw hc hob h1 hz S k)
end
end Go.Proofs.YtmaiillomoehgaaDoor.V
/- Regions that draw their order and make several rows of their own: which blocks differ. -/
namespace Go.Proofs.YtmaiillomoehgaaDoor.V
open Go.RowKit
section
variable {P : Program}
theorem head_main3 {ops : Array Oper} {n : Nat} {Q : Exit → Act → World → Prop} {E : Nat → Value → World → Prop} {C : Array Bool → Act → World → Prop} {a₀ : Act} (tail : List Oper) (htl : tail = ops.toList.drop n) (hok : headOk ops n = true) (htail : tailOk ops n = true)
    (step : ∀ i, i < n → ∀ o, ops[i]? = some o → ∀ (listed : Array Bool) a w, listed.getD i true = false → (∀ e ∈ o.after, Region.binds .any e = true → listed.getD e.on false = true) → listed.size = ops.size → C listed a w → HeadState ops n E a₀ listed a w → a.tmps.size = a₀.tmps.size → a.defers = a₀.defers → (∀ t, (∀ j, j < n → ∀ o, ops[j]? = some o → o.dst ≠ some t) → a.tmps.getD t undef = a₀.tmps.getD t undef) →
      (∀ j p d, j < n → ops[j]? = some p → p.dst = some d → d ∈ o.looksAt ops → E d (a.tmps.getD d undef) w) →
      wpOp P ops Q i (fun a' w' => (∃ v, a' = a.put o.dst v ∧ (∀ d, o.dst = some d → d < a.tmps.size ∧ E d v w')) ∧ C (listed.setIfInBounds i true) a' w' ∧ ∀ t v, E t v w → E t v w') a w)
    (fin : ∀ a w, C (Array.replicate n true ++ Array.replicate (ops.size - n) false) a w → HeadState ops n E a₀ (Array.replicate n true) a w → wpList P ops Q tail a w) :
    ∀ (f : Nat) (listed : Array Bool) (a : Act) (w : World), left n listed = f → HeadInv .any ops n listed → C listed a w → HeadState ops n E a₀ listed a w → wpAny P .any ops Q (f + (ops.size - n)) listed a w := by
  simp only [tailOk, Bool.and_eq_true, decide_eq_true_eq] at htail
  obtain ⟨⟨hn, hsc⟩, hseq⟩ := htail
  intro f
  induction f with
  | zero =>
    intro listed a w hf inv hC st
    have hall := left_zero hf
    have hl : listed = Array.replicate n true ++ Array.replicate (ops.size - n) false := by
      apply Array.ext
      · simp [inv.size]; omega
      · intro i h1 h2
        by_cases hi : i < n
        · have h3 := hall i hi
          simp [h1] at h3
          simp [Array.getElem_append, hi, h3]
        · have h3 := inv.tail i (by omega) (by rw [← inv.size]; exact h1)
          simp [h1] at h3
          simp [Array.getElem_append, hi, h3]
    subst hl
    have hlen : tail.length = ops.size - n := by rw [htl]; simp
    have h := wpAny_of_seq (P := P) (ops := ops) (md := .any) (Q' := Q) tail n (Array.replicate n true ++ Array.replicate (ops.size - n) false) a w (fun j => by rw [htl, List.getElem?_drop, Array.getElem?_toList]) (by rw [hlen]; exact hseq) (fin a w hC
      ⟨st.size, st.defers, st.base, fun j hj _ o d ho hd => st.done j hj (by simp [Array.getElem?_append, hj]) o d ho hd⟩)
    rw [hlen] at h
    rw [Nat.zero_add]
    exact h
  | succ f ih =>
    intro listed a w hf inv hC st
    rw [show f + 1 + (ops.size - n) = (f + (ops.size - n)) + 1 from by omega]
    obtain ⟨j, hjn, hjl, hjmin⟩ := left_pos (n := n) (listed := listed) (by omega)
    have hget : ∀ i, i < n → ∃ o, ops[i]? = some o := fun i hi => ⟨_, Array.getElem?_eq_getElem (Nat.lt_of_lt_of_le hi hn)⟩
    have hready : j ∈ Region.ready .any ops listed := by
      obtain ⟨o, ho⟩ := hget j hjn
      refine mem_ready.2 ⟨hjl, o, ho, fun e he hb => ?_⟩
      have h1 := List.all_eq_true.1 hok j (List.mem_range.2 hjn)
      simp only [ho, Bool.and_eq_true] at h1
      have h2 := Array.all_eq_true_iff_forall_mem.1 h1.1 e he
      simp only [hb, Bool.not_true, Bool.false_or, decide_eq_true_eq] at h2
      have h3 := hjmin e.on h2
      have h4 : e.on < listed.size := by rw [inv.size]; omega
      simp [h4] at h3 ⊢
      exact h3
    refine ⟨fun h => (by rw [h] at hready; cases hready), fun i hi => ?_⟩
    have hin : i < n := by
      rcases hsc' : (n == ops.size) with _ | _
      · rw [hsc', Bool.false_or, Bool.and_eq_true] at hsc
        have hlt : n < ops.size := by
          have : n ≠ ops.size := by simpa using hsc'
          omega
        exact Nat.lt_of_not_le fun h => tail_waits hsc.1 hsc.2 hlt inv _ j rfl hjn hjl i h hi
      · have : n = ops.size := by simpa using hsc'
        obtain ⟨_, o, ho, _⟩ := mem_ready.1 hi
        have := (Array.getElem?_eq_some_iff.1 ho).1
        omega
    obtain ⟨hil, o, ho, hall⟩ := mem_ready.1 hi
    refine wpOp_mono ?_ (step i hin o ho listed a w hil hall inv.size hC st st.size st.defers st.base ?_)
    · rintro a' w' ⟨⟨v, rfl, hv⟩, hC', hmono⟩
      have hl' := left_set hin hil
      refine ih (listed.setIfInBounds i true) _ w' (by omega) (inv.set hi hin) hC' ⟨?_, ?_, ?_, ?_⟩
      · cases o.dst <;> simp [Act.put, st.size]
      · cases o.dst <;> simp [Act.put, st.defers]
      · intro t ht
        rw [← st.base t ht]
        have hne := ht i hin o ho
        cases hd : o.dst with
        | none => rfl
        | some d =>
          have : d ≠ t := fun e => hne (by rw [hd, e])
          simp [Act.put, Array.getElem?_setIfInBounds_ne this]
      · intro k hk hkl p d hp hd
        by_cases hki : k = i
        · subst hki
          obtain rfl : o = p := Option.some.inj (ho.symm.trans hp)
          obtain ⟨h1, h2⟩ := hv d hd
          rw [hd, getD_put a d d v h1, if_pos rfl]
          exact h2
        · rw [getD_set_ne false (Ne.symm hki)] at hkl
          have h1 := hmono d _ (st.done k hk hkl p d hp hd)
          have hdist : o.dst ≠ some d := by
            have g1 := List.all_eq_true.1 hok i (List.mem_range.2 hin)
            simp only [ho, Bool.and_eq_true] at g1
            have g2 := List.all_eq_true.1 g1.2 k (List.mem_range.2 hk)
            simp only [hp, hd, Bool.and_eq_true, Bool.or_eq_true, beq_iff_eq, bne_iff_ne, Option.isNone_some, Bool.false_eq_true, or_false] at g2
            exact fun e => (g2.1.resolve_left hki) e.symm
          cases hod : o.dst with
          | none => exact h1
          | some d' =>
            have : d' ≠ d := fun e => hdist (by rw [hod, e])
            rw [show (a.put (some d') v).tmps.getD d undef = a.tmps.getD d undef from by simp [Act.put, Array.getElem?_setIfInBounds_ne this]]
            exact h1
    · intro k p d hk hp hd hlook
      have g1 := List.all_eq_true.1 hok i (List.mem_range.2 hin)
      simp only [ho, Bool.and_eq_true] at g1
      have g2 := List.all_eq_true.1 g1.2 k (List.mem_range.2 hk)
      simp only [hp, hd, Bool.and_eq_true, Bool.or_eq_true, Bool.not_eq_true'] at g2
      rcases g2.2 with g3 | g3
      · rw [List.contains_eq_mem] at g3
        simp [hlook] at g3
      · obtain ⟨e, he, hb⟩ := Array.any_eq_true'.1 g3
        simp only [Bool.and_eq_true, beq_iff_eq] at hb
        exact st.done k hk (by rw [← hb.2]; exact hall e he hb.1) p d hp hd
theorem wp_region_heads3 {id : Nat} {Q : Exit → Act → World → Prop} {a₀ : Act} {w : World} {l : List Oper} (n : Nat) (E : Nat → Value → World → Prop) (C : Array Bool → Act → World → Prop) (tail : List Oper) (htl : tail = l.drop n) (hm : P.follows .mixedOrders = true) (hok : headOk l.toArray n = true) (htail : tailOk l.toArray n = true)
    (hC : C (Array.replicate l.length false) a₀ { w with drawn := w.drawn + 1 })
    (step : ∀ i, i < n → ∀ o, l.toArray[i]? = some o → ∀ (listed : Array Bool) a w, listed.getD i true = false → (∀ e ∈ o.after, Region.binds .any e = true → listed.getD e.on false = true) → listed.size = l.length → C listed a w → HeadState l.toArray n E a₀ listed a w → a.tmps.size = a₀.tmps.size → a.defers = a₀.defers → (∀ t, (∀ j, j < n → ∀ o, l.toArray[j]? = some o → o.dst ≠ some t) → a.tmps.getD t undef = a₀.tmps.getD t undef) →
      (∀ j p d, j < n → l.toArray[j]? = some p → p.dst = some d → d ∈ o.looksAt l.toArray → E d (a.tmps.getD d undef) w) →
      wpOp P l.toArray Q i (fun a' w' => (∃ v, a' = a.put o.dst v ∧ (∀ d, o.dst = some d → d < a.tmps.size ∧ E d v w')) ∧ C (listed.setIfInBounds i true) a' w' ∧ ∀ t v, E t v w → E t v w') a w)
    (fin : ∀ a w, C (Array.replicate n true ++ Array.replicate (l.length - n) false) a w → HeadState l.toArray n E a₀ (Array.replicate n true) a w → wpList P l.toArray Q tail a w) : (Code.region id l.toArray true).wp P Q a₀ w := by
  refine wp_region_any hm ?_
  have hn : n ≤ l.length := by
    simp only [tailOk, Bool.and_eq_true, decide_eq_true_eq] at htail
    simpa using htail.1.1
  have inv0 : HeadInv .any l.toArray n (Array.replicate l.toArray.size false) :=
    ⟨by simp, fun j oj _ hl => (by rw [getD_replicate_false] at hl; cases hl), fun t _ ht => getD_in (by simpa using ht) (getD_replicate_false _ _)⟩
  have hleft : left n (Array.replicate l.toArray.size false) = n := by
    unfold left
    rw [List.filter_eq_self.2]
    · simp
    · intro j hj
      have := List.mem_range.1 hj
      rw [getD_in (by simp; omega) (getD_replicate_false _ _)]
      rfl
  have h := head_main3 (P := P) (Q := Q) (E := E) (C := C) (a₀ := a₀) tail (by simpa using htl) hok htail step fin n (Array.replicate l.toArray.size false) a₀ { w with drawn := w.drawn + 1 } hleft inv0 hC
    ⟨rfl, rfl, fun _ _ => rfl, fun j _ hl => (by rw [getD_replicate_false] at hl; cases hl)⟩
  rwa [show n + (l.toArray.size - n) = l.toArray.size from by simp; omega] at h
end
def blks : Value → Nat → Prop
  | .agg vs => fun k => ∃ v ∈ vs.toList, blkOf v = some k
  | v => fun k => blkOf v = some k
def Ap (ap : List (Nat × Nat)) (d e : Nat) : Bool := ap.contains (d, e) || ap.contains (e, d)
theorem Ap.symm {ap : List (Nat × Nat)} {d e : Nat} (h : Ap ap d e = true) : Ap ap e d = true := by unfold Ap at *; rw [Bool.or_comm]; exact h
def PairD (A : List Nat) (ap : List (Nat × Nat)) (D : List Nat) (a : Act) : Prop := ∀ d e, (D.contains d && D.contains e && A.contains d && A.contains e && Ap ap d e) = true → ∀ b, blks (a.tmps.getD d undef) b → ¬ blks (a.tmps.getD e undef) b
structure DoneC {M : Nat → Prop} (A : List Nat) (cls : List (Nat × Nat)) (D : List Nat) (o : Oper) (E : List (Nat × StP M)) (I : World → Prop) (N : Nat) (a : Act) (w : World) (a' : Act) (w' : World) : Prop where
  put : ∃ v, a' = a.put o.dst v ∧ ∀ d, o.dst = some d → d < N ∧ lookE E d v w' ∧ (d ∈ A → ∀ b, blks v b → w.heap.size ≤ b ∨ ∃ e, e ∈ D ∧ e ∈ A ∧ (∀ k, k ∈ A → Ap cls d k = true → Ap cls e k = true) ∧ blks (a.tmps.getD e undef) b)
  ch : Ch M w w'
  inv : I w'
def stepsC {M : Nat → Prop} (A : List Nat) (cls : List (Nat × Nat)) (P : Program) (ops : Array Oper) (Q : Exit → Act → World → Prop) (N : Nat) (L : List (Nat × Value)) (W : World) (E : List (Nat × StP M)) (I : World → Prop) : Nat → List Oper → List (List Nat) → Prop
  | i, o :: r, D :: Ds => (∀ a w, Ch M W w → I w → Slots N L a → deps E a w D → PairD A cls D a → wpOp P ops Q i (DoneC A cls D o E I N a w) a w) ∧ stepsC A cls P ops Q N L W E I (i + 1) r Ds
  | _, _, _ => True
def PairsC (A : List Nat) (cls : List (Nat × Nat)) (ops : Array Oper) (n : Nat) (listed : Array Bool) (a : Act) : Prop :=
  ∀ j k p q d e, j < n → k < n → listed.getD j false = true → listed.getD k false = true → ops[j]? = some p → ops[k]? = some q → p.dst = some d → q.dst = some e → d ∈ A → e ∈ A → Ap cls d e = true → ∀ b, blks (a.tmps.getD d undef) b → ¬ blks (a.tmps.getD e undef) b
theorem stepsC_get {M : Nat → Prop} {A : List Nat} {cls : List (Nat × Nat)} {P : Program} {ops : Array Oper} {Q : Exit → Act → World → Prop} {N : Nat} {L : List (Nat × Value)} {W : World} {E : List (Nat × StP M)} {I : World → Prop} : ∀ (l : List Oper) (Ds : List (List Nat)) (k i : Nat), i < Ds.length → l.length = Ds.length →
    stepsC A cls P ops Q N L W E I k l Ds → ∃ o D, l[i]? = some o ∧ Ds[i]? = some D ∧ ∀ a w, Ch M W w → I w → Slots N L a → deps E a w D → PairD A cls D a → wpOp P ops Q (k + i) (DoneC A cls D o E I N a w) a w
  | [], Ds, _, i, h, hl, _ => by simp at hl; omega
  | o :: l, [], _, i, h, _, _ => by simp at h
  | o :: l, D :: Ds, k, 0, _, _, h => ⟨o, D, rfl, rfl, h.1⟩
  | o :: l, D :: Ds, k, i + 1, hi, hl, h => by
    obtain ⟨o', D', h1, h2, h3⟩ := stepsC_get l Ds (k + 1) i (by simpa using hi) (by simpa using hl) h.2
    exact ⟨o', D', by simpa using h1, by simpa using h2, by rw [show k + (i + 1) = k + 1 + i from by omega]; exact h3⟩
theorem wp_heads3 {M : Nat → Prop} {P : Program} {id : Nat} {Q : Exit → Act → World → Prop} {a₀ : Act} {w : World} {l : List Oper} {N : Nat} {L : List (Nat × Value)} (S : Slots N L a₀) (n : Nat) (E : List (Nat × StP M)) (I : World → Prop) (Ds : List (List Nat)) (outs : List Nat) (A : List Nat) (cls : List (Nat × Nat)) (hirr : ∀ d ∈ A, Ap cls d d = false) (hA : ∀ d ∈ A, ∀ u w, lookE E d u w → ∀ x, blks u x → x < w.heap.size) (tail : List Oper)
    (htl : tail = l.drop n) (hm : P.follows .mixedOrders = true) (hok : (headOk l.toArray n && depsOk l.toArray n 0 Ds && keysOk l.toArray n L && outsOk l.toArray n outs && tailOk l.toArray n) = true) (hlen : Ds.length = n) (hI : I { w with drawn := w.drawn + 1 })
    (step : stepsC A cls P l.toArray Q N L w E I 0 (l.take n) Ds)
    (fin : ∀ a w', Ch M w w' → I w' → Slots N L a → deps E a w' outs → (∀ d e, isHead l.toArray n d = true → isHead l.toArray n e = true → d ∈ A → e ∈ A → Ap cls d e = true → ∀ b, blks (a.tmps.getD d undef) b → ¬ blks (a.tmps.getD e undef) b) → wpList P l.toArray Q tail a w') : (Code.region id l.toArray true).wp P Q a₀ w := by
  simp only [Bool.and_eq_true] at hok
  obtain ⟨⟨⟨⟨h1, h2⟩, h3⟩, h4⟩, h5⟩ := hok
  have hn : n ≤ l.length := by
    simp only [tailOk, Bool.and_eq_true, decide_eq_true_eq] at h5
    simpa using h5.1.1
  refine wp_region_heads3 n (lookE E) (fun listed a w' => (Ch M w w' ∧ I w') ∧ PairsC A cls l.toArray n listed a) tail htl hm h1 h5 ⟨⟨(Ch.refl _).drew, hI⟩, fun j k p q d e _ _ hj => absurd (getD_replicate_false l.length j) (by simpa using hj)⟩ ?_ ?_
  · intro i hi o ho listed a w' hil hrdy hls hC0 hst hs hd hb hE
    obtain ⟨hC, hP⟩ := hC0
    obtain ⟨o', D, e1, e2, h⟩ := stepsC_get (l.take n) Ds 0 i (by omega) (by simp; omega) step
    obtain rfl : o' = o := by
      rw [List.getElem?_take_of_lt hi] at e1
      have : l.toArray[i]? = l[i]? := by simp
      rw [this, e1] at ho
      exact Option.some.inj ho
    have hdep : ∀ D', (∀ d ∈ D', d ∈ D) → deps E a w' D' := by
      intro D'
      induction D' with
      | nil => intro _; trivial
      | cons d r ih =>
        intro hsub
        refine ⟨?_, ih fun d hd => hsub d (List.mem_cons_of_mem _ hd)⟩
        have hget : ∀ (Ds : List (List Nat)) (k i : Nat), depsOk l.toArray n k Ds = true → Ds[i]? = some D → ∃ o, l.toArray[k + i]? = some o ∧ ∀ d ∈ D, d ∈ o.looksAt l.toArray ∧ isHead l.toArray n d = true := by
          intro Ds
          induction Ds with
          | nil => intro k i _ h; simp at h
          | cons D0 Ds ih =>
            intro k i hk hi
            simp only [depsOk, Bool.and_eq_true] at hk
            cases i with
            | zero =>
              obtain rfl : D0 = D := by simpa using hi
              cases hp : l.toArray[k]? with
              | none => rw [hp] at hk; cases hk.1
              | some p =>
                rw [hp] at hk
                refine ⟨p, rfl, fun d hd => ?_⟩
                have := List.all_eq_true.1 hk.1 d hd
                simpa [Bool.and_eq_true, List.contains_iff_mem] using this
            | succ i =>
              obtain ⟨o, g1, g2⟩ := ih (k + 1) i hk.2 (by simpa using hi)
              exact ⟨o, by rw [show k + (i + 1) = k + 1 + i from by omega]; exact g1, g2⟩
        obtain ⟨o2, g1, g2⟩ := hget Ds 0 i h2 e2
        rw [Nat.zero_add, ho] at g1
        obtain rfl := Option.some.inj g1
        obtain ⟨g3, g4⟩ := g2 d (hsub d List.mem_cons_self)
        obtain ⟨j, p, g5, g6, g7⟩ := isHead_spec g4
        exact hE j p d g5 g6 g7 g3
    have look_hd : ∀ e, e ∈ D → ∃ j p, j < n ∧ l.toArray[j]? = some p ∧ p.dst = some e ∧ listed.getD j false = true := fun e he => by
      have hget : ∀ (Ds : List (List Nat)) (k i : Nat), depsOk l.toArray n k Ds = true → Ds[i]? = some D → ∃ o, l.toArray[k + i]? = some o ∧ ∀ d ∈ D, d ∈ o.looksAt l.toArray ∧ isHead l.toArray n d = true := by
        intro Ds
        induction Ds with
        | nil => intro k i _ h; simp at h
        | cons D0 Ds ih =>
          intro k i hk hi
          simp only [depsOk, Bool.and_eq_true] at hk
          cases i with
          | zero =>
            obtain rfl : D0 = D := by simpa using hi
            cases hp : l.toArray[k]? with
            | none => rw [hp] at hk; cases hk.1
            | some p =>
              rw [hp] at hk
              refine ⟨p, rfl, fun d hd => ?_⟩
              have := List.all_eq_true.1 hk.1 d hd
              simpa [Bool.and_eq_true, List.contains_iff_mem] using this
          | succ i =>
            obtain ⟨o, g1, g2⟩ := ih (k + 1) i hk.2 (by simpa using hi)
            exact ⟨o, by rw [show k + (i + 1) = k + 1 + i from by omega]; exact g1, g2⟩
      obtain ⟨o2, g1, g2⟩ := hget Ds 0 i h2 e2
      rw [Nat.zero_add, ho] at g1
      obtain rfl := Option.some.inj g1
      obtain ⟨g3, g4⟩ := g2 e he
      obtain ⟨j, p, g5, g6, g7⟩ := isHead_spec g4
      refine ⟨j, p, g5, g6, g7, ?_⟩
      have q1 := List.all_eq_true.1 h1 i (List.mem_range.2 hi)
      simp only [ho, Bool.and_eq_true] at q1
      have q2 := List.all_eq_true.1 q1.2 j (List.mem_range.2 g5)
      simp only [g6, g7, Bool.and_eq_true, Bool.or_eq_true, Bool.not_eq_true'] at q2
      rcases q2.2 with q3 | q3
      · rw [List.contains_eq_mem] at q3; simp [g3] at q3
      · obtain ⟨ed, he1, hb1⟩ := Array.any_eq_true'.1 q3
        simp only [Bool.and_eq_true, beq_iff_eq] at hb1
        rw [← hb1.2]
        exact hrdy ed he1 hb1.1
    have hpd : PairD A cls D a := fun d e hde => by
      simp only [Bool.and_eq_true, List.contains_iff_mem] at hde
      obtain ⟨j', p', g5, g6, g7, g8⟩ := look_hd d hde.1.1.1.1
      obtain ⟨k', q', f5, f6, f7, f8⟩ := look_hd e hde.1.1.1.2
      exact hP j' k' p' q' d e g5 f5 g8 f8 g6 f6 g7 f7 hde.1.1.2 hde.1.2 hde.2
    have h' := h a w' hC.1 hC.2 (S.base h3 hs hd hb) (hdep D fun d hd => hd) hpd
    rw [Nat.zero_add] at h'
    refine wpOp_mono ?_ h'
    rintro a' w2 ⟨⟨v, hv, hd'⟩, hc, hi'⟩
    refine ⟨⟨v, hv, fun d hdd => ⟨by rw [hs, S.size]; exact (hd' d hdd).1, (hd' d hdd).2.1⟩⟩, ⟨⟨hC.1.same hc, hi'⟩, ?_⟩, fun t v => lookE_st E t v _ _ hc⟩
    subst hv
    have own : ∀ d, o'.dst = some d → (a.put o'.dst v).tmps.getD d undef = v := fun d hd => by
      rw [hd, getD_put a d d v (by rw [hs, S.size]; exact (hd' d hd).1), if_pos rfl]
    have other : ∀ d, o'.dst ≠ some d → (a.put o'.dst v).tmps.getD d undef = a.tmps.getD d undef := fun d hd => by
      cases hod : o'.dst with
      | none => rfl
      | some d' =>
        have : d' ≠ d := fun e => hd (by rw [hod, e])
        simp [Act.put, Array.getElem?_setIfInBounds_ne this]
    have apart : ∀ k q e, k < n → listed.getD k false = true → l.toArray[k]? = some q → q.dst = some e → e ∈ A → ∀ d, o'.dst = some d → d ∈ A → Ap cls d e = true → ∀ b, blks v b → ¬ blks (a.tmps.getD e undef) b := fun k q e hk hl hq he hA' d hd hdA hcl b hb hx => by
      have hlt := hA e hA' _ w' (hst.done k hk hl q e hq he) b hx
      rcases (hd' d hd).2.2 hdA b hb with hb2 | ⟨e', he1, he2, he3, he4⟩
      · omega
      · obtain ⟨j', p', g5, g6, g7, g8⟩ := look_hd e' he1
        exact hP j' k p' q e' e g5 hk g8 hl g6 hq g7 he he2 hA' (he3 e hA' hcl) b he4 hx
    intro j k p q d e hj hk hlj hlk hp hq hd2 he hdA heA hne
    by_cases hji : j = i
    · subst hji
      obtain rfl : o' = p := Option.some.inj (ho.symm.trans hp)
      by_cases hki : k = j
      · subst hki
        obtain rfl : o' = q := Option.some.inj (ho.symm.trans hq)
        rw [hd2] at he; have e0 := Option.some.inj he; subst e0; exact absurd hne (by rw [hirr d hdA]; simp)
      · rw [getD_set_ne false (Ne.symm hki)] at hlk
        rw [own d hd2, other e (headOk_dst h1 hj hk ho hq he hki)]
        exact apart k q e hk hlk hq he heA d hd2 hdA hne
    · rw [getD_set_ne false (Ne.symm hji)] at hlj
      by_cases hki : k = i
      · subst hki
        obtain rfl : o' = q := Option.some.inj (ho.symm.trans hq)
        rw [own e he, other d (headOk_dst h1 hk hj ho hp hd2 hji)]
        exact fun b h1' h2' => apart j p d hj hlj hp hd2 hdA e he heA (Ap.symm hne) b h2' h1'
      · rw [getD_set_ne false (Ne.symm hki)] at hlk
        rw [other d (headOk_dst h1 hi hj ho hp hd2 hji), other e (headOk_dst h1 hi hk ho hq he hki)]
        exact hP j k p q d e hj hk hlj hlk hp hq hd2 he hdA heA hne
  · intro a w' hC st
    refine fin a w' hC.1.1 hC.1.2 (S.base h3 st.size st.defers st.base) ?_ fun d e hd he hdA heA hne => ?_
    rotate_left
    · obtain ⟨j, p, g5, g6, g7⟩ := isHead_spec hd
      obtain ⟨k, q, f5, f6, f7⟩ := isHead_spec he
      exact hC.2 j k p q d e g5 f5 (by simp [Array.getElem?_append, g5]) (by simp [Array.getElem?_append, f5]) g6 f6 g7 f7 hdA heA hne
    have : ∀ outs', (∀ d ∈ outs', isHead l.toArray n d = true) → deps E a w' outs' := by
      intro outs'
      induction outs' with
      | nil => intro _; trivial
      | cons d r ih =>
        intro h
        obtain ⟨j, p, g5, g6, g7⟩ := isHead_spec (h d List.mem_cons_self)
        exact ⟨st.done j g5 (by simp [g5]) p d g6 g7, ih fun d hd => h d (List.mem_cons_of_mem _ hd)⟩
    exact this outs (List.all_eq_true.1 h4)
/-- append to a slice of the call's own that has no room: nothing old is written -/
theorem op_append0 {α : Type} {En : Enc α} {P : Program} {o : Oper} {a : Act} {w : World} {K : Act → World → Prop} {Q : Exit → Act → World → Prop} {D : Nat → Prop} {ts t : TypeId} {z0 : Nat} (s x : Operand) (ho : o.op = .call { callee := .builtin .append, args := #[s, x], argTypes := #[ts, ts] })
    (z : Value) (bytes : Nat) (ht : P.underlying ts = some (.slice t)) (hi : (P.info? t).map (fun i => (i.zero, i.size, i.bytes)) = some (some z, En.n, bytes)) (hzs : z.cells.size = En.n) {ad : Option Addr} (hs : a.eval s = .slice ad 0 0) (hb : ad = none ∨ ∃ b, ad = some ⟨b, 0, none⟩ ∧ z0 ≤ b ∧ Blk w.heap b [] t) (hz0 : z0 ≤ w.heap.size) (ys : List α)
    (sa : Option Addr) (sc : Nat) (hx : a.eval x = .slice sa ys.length sc) (hsrc : LAt En D w.heap sa ys) (h63 : ys.length ≤ maxLen) (hbytes : ys.length * bytes ≤ 140737488355328)
    (h : ∀ ad' cap' w', w'.ownsRow z0 t En.n (.slice ad' ys.length cap') ys.length (ys.flatMap En.cells) → Ch (In []) w w' → (∀ k, abk ad' k → abk ad k ∨ k = w.heap.size) → K (a.put o.dst (.slice ad' ys.length cap')) w') : o.wp P a w K Q := by
  obtain ⟨i0, hi0, hz0', hz1, hz2⟩ := info_of hi
  have hlen : (ys.flatMap En.cells).length = ys.length * En.n := flat_len En.len ys
  have key : ∃ ad' cap' w', (Builtin.append_ #[ts, ts] o.type #[.slice ad 0 0, .slice sa ys.length sc]).run P w = .ok (.slice ad' ys.length cap') w' ∧ w'.ownsRow z0 t En.n (.slice ad' ys.length cap') ys.length (ys.flatMap En.cells) ∧ Ch (In []) w w' ∧ (∀ k, abk ad' k → abk ad k ∨ k = w.heap.size) := by
    rcases Nat.eq_zero_or_pos ys.length with e | e
    · have hy : ys = [] := List.length_eq_zero_iff.1 e
      subst hy
      have hsrc0 : Src P i0.size ts (.slice sa 0 sc) 0 [] w := by
        cases sa with
        | none => exact Src.ofNil w ht sc
        | some p => exact Src.ofSlice w ht p 0 sc [] (by simp) (fun j u hj => by simp at hj) (fun u hu => by simp at hu)
      refine ⟨ad, 0, w, run_append_nothing w ts ts o.type t i0 ht hi0 ad 0 0 (Nat.le_refl _) _ hsrc0, ?_, Ch.refl _, fun k hk => .inl hk⟩
      rcases hb with rfl | ⟨b, rfl, hb1, hb2⟩
      · exact ⟨by simp, .inl ⟨rfl, rfl⟩⟩
      · exact (row_of_nil (E := En) (ms := []) (F := No) hb2 hb1).own
    · have h1 := (hsrc.ad e).1
      have hnews : ∀ j u, (ys.flatMap En.cells)[j]? = some u → w.cell? ((⟨blk sa, off sa, none⟩ : Addr).add j) = some u := fun j u hj => by
        have hj' := (List.getElem?_eq_some_iff.1 hj).1
        rw [hlen] at hj'
        have hn0 : 0 < En.n := by
          rcases Nat.eq_zero_or_pos En.n with q | q
          · rw [q, Nat.mul_zero] at hj'; omega
          · exact q
        have hm : j / En.n < ys.length := (Nat.div_lt_iff_lt_mul hn0).2 hj'
        have hdm : j / En.n * En.n + j % En.n = j := by rw [Nat.mul_comm]; exact Nat.div_add_mod j En.n
        have hmod : j % En.n < (En.cells (ys.getD (j / En.n) En.dflt)).length := by rw [En.len]; exact Nat.mod_lt _ hn0
        have h2 := flat_get En.len ys (j / En.n) hm (j % En.n) _ (List.getElem?_eq_getElem hmod)
        rw [hdm, hj] at h2
        have h3 := hsrc.cell (j / En.n) hm (j % En.n) u (by rw [List.getElem?_eq_getElem hmod]; exact h2.symm)
        rw [show off sa + j / En.n * En.n + j % En.n = off sa + j from by omega] at h3
        rw [addr_add]; exact h3
      have hge : ys.length ≤ grownCap w ys.length 0 t := grownCap_ge w ys.length 0 t
      have hcm : grownCap w ys.length 0 t ≤ maxLen := grownCap_le_maxLen w ys.length 0 t h63
      have hfin : ∀ q : Array Value, q = (ys.flatMap En.cells).toArray ++ Builtin.zeroCells z.cells (grownCap w ys.length 0 t - ys.length) → ((w.drew.alloc (.cells q t)).ownsRow z0 t En.n (.slice (some ⟨w.heap.size, 0, none⟩) ys.length (grownCap w ys.length 0 t)) ys.length (ys.flatMap En.cells)) ∧ Ch (In []) w (w.drew.alloc (.cells q t)) := fun q hq => by
        subst hq
        refine ⟨⟨hlen, .inr ⟨w.heap.size, _, _, rfl, hz0, heap_alloc_new w.drew _, hge, hcm, ?_, ?_⟩⟩, ⟨rfl, rfl, rfl, by simp, fun k hk _ => (by show (w.heap.push _)[k]? = _; rw [Array.getElem?_push_lt hk, Array.getElem?_eq_getElem hk])⟩⟩
        · simp only [Array.size_append, List.size_toArray, size_zeroCells, hzs, hlen, ← Nat.add_mul]
          congr 1
          omega
        · simp only [Array.toList_append]
          rw [← hlen]
          exact List.take_left
      have habk : ∀ k, abk (some ⟨w.heap.size, 0, none⟩) k → abk ad k ∨ k = w.heap.size := fun k hk => .inr (by rw [abk_one] at hk; exact hk)
      rw [h1]
      rcases hb with rfl | ⟨b, rfl, hb1, hb2⟩
      · have hr := run_append_nil (P := P) w ts o.type t i0 z ht hi0 hz0' ⟨blk sa, off sa, none⟩ ys.length sc _ (by rw [hz1]; exact hlen) hnews e (by simp only [maxLen] at h63; omega) (by rw [hz2]; omega)
        have hf := hfin _ rfl
        exact ⟨_, _, _, hr, hf.1, hf.2, habk⟩
      · have hr := run_append_grow (P := P) w ts o.type t i0 z ht hi0 hz0' ⟨b, 0, none⟩ 0 0 [] (by simp) (fun j v hj => by simp at hj) ⟨blk sa, off sa, none⟩ ys.length sc _ (by rw [hz1]; exact hlen) hnews (by omega) (by simp only [maxLen] at h63; omega) (growslice_fits (by omega) (by rw [hz2, Nat.zero_add]; omega))
        simp only [Nat.zero_add] at hr
        have hf := hfin (#[] ++ (ys.flatMap En.cells).toArray ++ Builtin.zeroCells z.cells (grownCap w ys.length 0 t - ys.length)) (by rw [Array.empty_append])
        exact ⟨_, _, _, hr, hf.1, hf.2, habk⟩
  obtain ⟨ad', cap', w', k1, k2, k3, k4⟩ := key
  unfold Oper.wp execOp
  simp only [ho, resolve, invoke, builtin, Sem.run_bind, Sem.run_pure, Result.andThen_ok, List.map_toArray, List.map_cons, List.map_nil, hs, hx, k1]
  exact h ad' cap' w' k2 k3 k4
/-! what is told of new blocks -/
section
variable {chg : List BS}
theorem own_ch {α : Type} {En : Enc α} {t : TypeId} {z0 cap : Nat} {ad : Option Addr} {ys : List α} {w w' : World} (c : Ch (In chg) w w') (hn : ∀ k, abk ad k → ¬ In chg k) (H : w.ownsRow z0 t En.n (.slice ad ys.length cap) ys.length (ys.flatMap En.cells)) : w'.ownsRow z0 t En.n (.slice ad ys.length cap) ys.length (ys.flatMap En.cells) := by
  refine ⟨H.1, ?_⟩
  rcases H.2 with h1 | ⟨b, c', cur, h1, h2, h3, h4⟩
  · exact .inl h1
  · refine .inr ⟨b, c', cur, h1, h2, ?_, h4⟩
    injection h1 with h1
    subst h1
    refine (c.block b ?_ (hn b rfl)).trans h3
    rcases Nat.lt_or_ge b w.heap.size with k | k
    · exact k
    · rw [Array.getElem?_eq_none k] at h3; cases h3
def rowT {α : Type} (En : Enc α) (t : TypeId) (z0 : Nat) (chg : List BS) (ys : List α) : Td (In chg) :=
  .of (fun z w => ∃ ad cap, z = .slice ad ys.length cap ∧ w.ownsRow z0 t En.n (.slice ad ys.length cap) ys.length (ys.flatMap En.cells) ∧ ∀ k, abk ad k → ¬ In chg k) fun _ _ _ c ⟨ad, cap, e, h, hn⟩ => ⟨ad, cap, e, own_ch c hn h, hn⟩
def nilT (t : TypeId) (z0 : Nat) (chg : List BS) : Td (In chg) :=
  .of (fun z w => ∃ b, z = .slice (some ⟨b, 0, none⟩) 0 0 ∧ Blk w.heap b [] t ∧ z0 ≤ b ∧ ¬ In chg b) fun _ _ _ c ⟨b, e, h, hn⟩ => ⟨b, e, h.tr c hn.2, hn⟩
def varT (cs : List Value) (t : TypeId) (z0 : Nat) (chg : List BS) : Td (In chg) :=
  .of (fun z w => ∃ b, z = .pointer (some ⟨b, 0, none⟩) ∧ Blk w.heap b cs t ∧ z0 ≤ b ∧ ¬ In chg b) fun _ _ _ c ⟨b, e, h, hn⟩ => ⟨b, e, h.tr c hn.2, hn⟩
def Owns (q : Td (In chg)) : Prop := ∀ u w, q.q.p u w → ∀ x, blks u x → x < w.heap.size
theorem own_lt {α : Type} {En : Enc α} {t : TypeId} {z0 cap : Nat} {ad : Option Addr} {ys : List α} {w : World} (H : w.ownsRow z0 t En.n (.slice ad ys.length cap) ys.length (ys.flatMap En.cells)) : ∀ x, blkOf (.slice ad ys.length cap) = some x → z0 ≤ x ∧ x < w.heap.size := fun x hx => by
  rcases H.2 with ⟨h1, _⟩ | ⟨b, c', cur, h1, h2, h3, h4⟩
  · injection h1 with h1; subst h1; cases hx
  · injection h1 with h1
    subst h1
    obtain rfl : b = x := Option.some.inj hx
    refine ⟨h2, ?_⟩
    rcases Nat.lt_or_ge b w.heap.size with k | k
    · exact k
    · rw [Array.getElem?_eq_none k] at h3; cases h3
theorem rowT_owns {α : Type} {En : Enc α} {t : TypeId} {z0 : Nat} {ys : List α} : Owns (rowT En t z0 chg ys) := fun _ _ ⟨_, _, e, h, _⟩ x hx => by rw [e] at hx; exact (own_lt h x hx).2
theorem nilT_owns {t : TypeId} {z0 : Nat} : Owns (nilT t z0 chg) := fun _ _ ⟨_, e, h, _⟩ x hx => by rw [e] at hx; cases hx; exact h.lt
theorem varT_owns {t : TypeId} {z0 : Nat} {cs : List Value} : Owns (varT cs t z0 chg) := fun _ _ ⟨_, e, h, _⟩ x hx => by rw [e] at hx; cases hx; exact h.lt
def OwnAll (E : List (Nat × Td (In chg))) : List Nat → Prop
  | [] => True
  | d :: r => (∃ q, lookT d E = some q ∧ Owns q) ∧ OwnAll E r
theorem OwnAll.get {E : List (Nat × Td (In chg))} : ∀ {A : List Nat}, OwnAll E A → ∀ d ∈ A, ∀ u w, lookE (tq E) d u w → ∀ x, blks u x → x < w.heap.size
  | _ :: _, h, d, hd, u, w, hl => (List.mem_cons.1 hd).elim (fun e => by subst e; obtain ⟨⟨q, h1, h2⟩, _⟩ := h; exact h2 u w ((look_tq h1).1 hl)) fun hd => OwnAll.get h.2 d hd u w hl
end
section
variable {P : Program} {ops : Array Oper} {F : Nat → Prop} {w0 W : World} {m0 chg : List BS} {n i : Nat} {L : List (Nat × Value)} {fs : List RF} {os : List OF} {o : Oper} {ty : TypeId} {pos : String} {af : Array Edge} {Q : Exit → Act → World → Prop} {E : List (Nat × Td (In chg))} {D A : List Nat} {cls : List (Nat × Nat)}
def HDC (A : List Nat) (cls : List (Nat × Nat)) (P : Program) (ops : Array Oper) (Q : Exit → Act → World → Prop) (F : Nat → Prop) (w0 W : World) (m0 : List BS) (n : Nat) (L : List (Nat × Value)) (fs : List RF) (os : List OF) {chg : List BS} (E : List (Nat × Td (In chg))) (i : Nat) (o : Oper) (D : List Nat) : Prop :=
  ∀ a w, St F w0 m0 n (cat (vals E D) L) fs os a w → Ch (In chg) W w → pdeps E a w D → PairD A cls D a → wpOp P ops Q i (DoneC A cls D o (tq E) (Mm F w0 m0 fs os) n a w) a w
def HSC (A : List Nat) (cls : List (Nat × Nat)) (P : Program) (ops : Array Oper) (Q : Exit → Act → World → Prop) (F : Nat → Prop) (w0 W : World) (m0 : List BS) (n : Nat) (L : List (Nat × Value)) (fs : List RF) (os : List OF) {chg : List BS} (E : List (Nat × Td (In chg))) : Nat → List Oper → List (List Nat) → Prop
  | i, o :: r, D :: Ds => HDC A cls P ops Q F w0 W m0 n L fs os E i o D ∧ HSC A cls P ops Q F w0 W m0 n L fs os E (i + 1) r Ds
  | _, _, _ => True
theorem HSC.steps : ∀ (l : List Oper) (Ds : List (List Nat)) (i : Nat), HSC A cls P ops Q F w0 W m0 n L fs os E i l Ds → stepsC A cls P ops Q n L W (tq E) (Mm F w0 m0 fs os) i l Ds
  | [], _, _, _ => by cases ‹List (List Nat)› <;> trivial
  | _ :: _, [], _, _ => trivial
  | o :: r, D :: Ds, i, h => ⟨fun a w hc hm s hd hp => by
      obtain ⟨h1, h2⟩ := deps_open s D hd
      exact h.1 a w ⟨h1, hm⟩ hc h2 hp, HSC.steps r Ds (i + 1) h.2⟩
theorem qdc (h : HD P ops Q F w0 W m0 n L fs os E i o D) (hA : ∀ d, o.dst = some d → d ∉ A := by intro d h; cases h; decide) : HDC A cls P ops Q F w0 W m0 n L fs os E i o D :=
  fun a w S G p _ => wpOp_mono (fun a' w' ⟨⟨v, h1, h2⟩, h3, h4⟩ => ⟨⟨v, h1, fun d hd => ⟨(h2 d hd).1, (h2 d hd).2, fun hm => absurd hm (hA d hd)⟩⟩, h3, h4⟩) (h a w S G p)
theorem hcb {d : Nat} {v : Value} {ob : Obj} {a : Act} {w : World} (M : Mm F w0 m0 fs os w) (h : (execOp a.eval o).run P w = .ok (.value v) (w.alloc ob)) (hv : ∀ b, blks v b → b = w.heap.size) (hd : o.dst = some d ∧ d < n) (ht : lookE (tq E) d v (w.alloc ob)) (hk : ops[i]? = some o ∧ o.guard = none) : wpOp P ops Q i (DoneC A cls D o (tq E) (Mm F w0 m0 fs os) n a w) a w :=
  head_op hk.1 hk.2 (op_val h ⟨⟨v, rfl, fun e he => by rw [hd.1] at he; cases he; exact ⟨hd.2, ht, fun _ b hb => .inl (by rw [hv b hb]; exact Nat.le_refl _)⟩⟩, (ch_alloc w ob).mono fun _ h => h.elim, M.k0 (ch_alloc w ob)⟩)
theorem not_chg {js : List Nat} {w : World} (S : Mm F w0 m0 fs os w) : ¬ In (picks (ow os) js) w.heap.size := fun h => absurd (S.c.ms.lt _ (in_picks h)) (Nat.lt_irrefl _)
/-- an empty literal -/
theorem hcn {d : Nat} {t e : TypeId} {z : Value} {by_ sz z0 : Nat} {js : List Nat} {E : List (Nat × Td (In (picks (ow os) js)))} (he : lookT d E = some (nilT e z0 (picks (ow os) js))) (hz : z0 = W.heap.size) (ht : P.underlying t = some (.slice e)) (hi : (P.info? e).map (fun i => (i.zero, i.size, i.bytes)) = some (some z, sz, by_))
    (hk : ops[i]? = some ⟨some d, .buildSlice t 0 #[], ty, pos, af, none⟩ ∧ d < n := by exact ⟨rfl, by decide⟩) : HDC A cls P ops Q F w0 W m0 n L fs os E i ⟨some d, .buildSlice t 0 #[], ty, pos, af, none⟩ D := fun a w S G _ _ =>
  hcb S.m (x_bsl0 ht hi) (fun b hb => (Option.some.inj hb).symm) ⟨rfl, hk.2⟩ ((look_tq he).2 ⟨_, rfl, Blk.new _ [] e, by rw [hz]; exact G.size, not_chg S.m⟩) ⟨hk.1, rfl⟩
/-- a variable -/
theorem hcv {d : Nat} {t : TypeId} {z : Value} {by_ sz z0 : Nat} {cs : List Value} {js : List Nat} {E : List (Nat × Td (In (picks (ow os) js)))} (he : lookT d E = some (varT cs t z0 (picks (ow os) js))) (hz : z0 = W.heap.size) (hi : (P.info? t).map (fun i => (i.zero, i.size, i.bytes)) = some (some z, sz, by_)) (hv : z.cells = cs.toArray)
    (hk : ops[i]? = some ⟨some d, .alloc t, ty, pos, af, none⟩ ∧ d < n := by exact ⟨rfl, by decide⟩) : HDC A cls P ops Q F w0 W m0 n L fs os E i ⟨some d, .alloc t, ty, pos, af, none⟩ D := fun a w S G _ _ =>
  hcb S.m (x_allocz cs hi hv) (fun b hb => (Option.some.inj hb).symm) ⟨rfl, hk.2⟩ ((look_tq he).2 ⟨_, rfl, Blk.new _ cs t, by rw [hz]; exact G.size, not_chg S.m⟩) ⟨hk.1, rfl⟩
/-- append to what has no room -/
theorem hca {α : Type} {En : Enc α} {d b : Nat} {t ts : TypeId} {z : Value} {bytes z0 : Nat} {ys : List α} {sa : Option Addr} {sc : Nat} {Dm : Nat → Prop} {s x : Operand} {js : List Nat} {E : List (Nat × Td (In (picks (ow os) js)))} {a : Act} {w : World} {L' : List (Nat × Value)} {rs' : List RF} (e : Nat) (S : St F w0 m0 n L' rs' os a w) (M : Mm F w0 m0 fs os w) (G : Ch (In (picks (ow os) js)) W w)
    (he : lookT d E = some (rowT En t z0 (picks (ow os) js) ys)) (hz0 : z0 = W.heap.size) (hb : a.tmps.getD e undef = .slice (some ⟨b, 0, none⟩) 0 0 ∧ Blk w.heap b [] t ∧ z0 ≤ b ∧ ¬ In (picks (ow os) js) b) (hs : evS L' s = some (.slice (some ⟨b, 0, none⟩) 0 0)) (hx : evS L' x = some (.slice sa ys.length sc)) (hsrc : LAt En Dm w.heap sa ys) (h63 : ys.length ≤ maxLen ∧ ys.length * bytes ≤ 140737488355328)
    (ht : P.underlying ts = some (.slice t)) (hi : (P.info? t).map (fun i => (i.zero, i.size, i.bytes)) = some (some z, En.n, bytes)) (hin : (D.contains e && A.contains e && A.all (fun k => !Ap cls d k || Ap cls e k)) = true) (hzs : z.cells.size = En.n := by rfl)
    (hk : ops[i]? = some ⟨some d, .call ⟨.builtin .append, #[s, x], #[ts, ts]⟩, ty, pos, af, none⟩ ∧ d < n := by exact ⟨rfl, by decide⟩) : wpOp P ops Q i (DoneC A cls D ⟨some d, .call ⟨.builtin .append, #[s, x], #[ts, ts]⟩, ty, pos, af, none⟩ (tq E) (Mm F w0 m0 fs os) n a w) a w := by
  simp only [Bool.and_eq_true, List.contains_iff_mem] at hin
  refine head_op hk.1 rfl (op_append0 (En := En) (z0 := z0) s x rfl z bytes ht hi hzs (S.e hs) (.inr ⟨b, rfl, hb.2.2.1, hb.2.1⟩) (by rw [hz0]; exact G.size) ys sa sc (S.e hx) hsrc h63.1 h63.2 fun ad' cap' w' h1 h2 h3 => ?_)
  refine ⟨⟨_, rfl, fun e' he' => ?_⟩, h2.mono fun _ h => h.elim, M.k0 h2⟩
  have hee : e' = d := (Option.some.inj he').symm
  subst hee
  refine ⟨hk.2, (look_tq he).2 ⟨ad', cap', rfl, h1, fun k hk' => (h3 k hk').elim (fun q => by rw [abk_one] at q; cases q; exact hb.2.2.2) fun q => by rw [q]; exact not_chg M⟩, fun _ k hk' => ?_⟩
  have hk2 : abk ad' k := by cases ad' with
    | none => cases hk'
    | some p => exact hk'
  rcases h3 k hk2 with q | q
  · rw [abk_one] at q; cases q
    refine .inr ⟨e, hin.1.1, hin.1.2, fun k hk hd' => ?_, by rw [hb.1]; rfl⟩
    have := List.all_eq_true.1 hin.2 k hk
    rw [hd'] at this; simpa using this
  · exact .inl (by omega)
theorem dr3 {id : Nat} {a : Act} {w : World} {l : List Oper} (S : St F w0 m0 n L fs os a w) (N : Nat) (A : List Nat) (cls : List (Nat × Nat)) (js : List Nat) (E : List (Nat × Td (In (picks (ow os) js)))) (Ds : List (List Nat)) (outs : List Nat) (tail : List Oper) (hA : OwnAll E A) (step : HSC A cls P l.toArray Q F w0 w m0 n L fs os E 0 (l.take N) Ds)
    (fin : ∀ a w', St F w0 m0 n (cat (vals E outs) L) fs os a w' → Ch (In (picks (ow os) js)) w w' → pdeps E a w' outs → (∀ d e, (A.contains d && A.contains e && Ap cls d e) = true → ∀ b, blks (a.tmps.getD d undef) b → ¬ blks (a.tmps.getD e undef) b) → wpList P l.toArray Q tail a w')
    (htl : tail = l.drop N := by rfl) (hm : P.follows .mixedOrders = true := by exact mixed) (hok : (headOk l.toArray N && depsOk l.toArray N 0 Ds && keysOk l.toArray N L && outsOk l.toArray N outs && tailOk l.toArray N) = true := by kernel_rfl) (hlen : Ds.length = N := by rfl) (hAh : A.all (isHead l.toArray N) = true := by kernel_rfl) (hirr : A.all (fun d => !Ap cls d d) = true := by decide) : (Code.region id l.toArray true).wp P Q a w :=
  wp_heads3 S.s N (tq E) (Mm F w0 m0 fs os) Ds outs A cls (fun d hd => by have := List.all_eq_true.1 hirr d hd; simpa using this) hA.get tail htl hm hok hlen S.m.drew (HSC.steps _ _ _ step) fun a w' hc hm s hd hp => by
    obtain ⟨h1, h2⟩ := deps_open s outs hd
    refine fin a w' ⟨h1, hm⟩ hc h2 fun d e hde => ?_
    simp only [Bool.and_eq_true, List.contains_iff_mem] at hde
    have hh := List.all_eq_true.1 hAh
    exact hp d e (hh d hde.1.1) (hh e hde.1.2) hde.1.1 hde.1.2 hde.2
/-- the new blocks become the call's own -/
theorem St.ownM {a a0 : Act} {w : World} {L0 : List (Nat × Value)} (S0 : St F w0 m0 n L0 fs os a0 W) (S : St F w0 m0 n L fs os a w) (js : List Nat) (G : Ch (In (picks (ow os) js)) W w) (hj : ∀ j f, j ∈ js → nth os j = some f → ∀ V1 V2, f.p F V1 w → f.p F V2 w) (nw : List OF) (hsep : Sep (ow nw)) (hn : ∀ f ∈ nw, ∀ k, f.o k → W.heap.size ≤ k ∧ k < w.heap.size)
    (hp : Mv (In (ow os)) (In (ow os ++ ow nw)) W.heap w.heap → ∀ f ∈ nw, f.p F (In (ow os ++ ow nw)) w) : St F w0 m0 n L fs (os ++ nw) a w := by
  have hn' : ∀ k, In (ow nw) k → W.heap.size ≤ k ∧ k < w.heap.size := fun k hk => by
    obtain ⟨o, h1, h2⟩ := in_ex hk
    rw [ow_map] at h1
    obtain ⟨f, h3, rfl⟩ := List.mem_map.1 h1
    exact hn f h3 k h2
  have hin : ∀ k, In (ow nw) k → ¬ In (ow os) k := fun k h1 h2 => by have := hn' k h1; have := S0.M.lt k h2; omega
  have hMS : ∀ (x : List BS), Sep x → (∀ k, In x k → W.heap.size ≤ k ∧ k < w.heap.size) → (∀ k, In x k → ¬ In (ow os) k) → MS (x ++ ow os) w := by
    intro x
    induction x with
    | nil => intro _ _ _; exact S.M
    | cons o r ih =>
      intro s h1 h2
      exact (ih s.2 (fun k hk => h1 k (.inr hk)) (fun k hk => h2 k (.inr hk))).cons fun k hk => ⟨(h1 k (.inl hk)).2, fun hm => (in_app.1 hm).elim (s.1 k hk) (h2 k (.inl hk))⟩
  have M := hMS _ hsep hn' hin
  have T : Tr (ow os) W (ow os ++ ow nw) w := Tr.comm ⟨G.mono fun k hk => in_picks hk, fun k hk => (in_app.1 hk).elim (fun h => .inr (hn' k h).1) .inl, M⟩
  have T0 : Tr m0 w0 (ow os ++ ow nw) w := Tr.comm ⟨S.m.c.ch, fun k hk => (in_app.1 hk).elim (fun h => .inr (Nat.le_trans S0.m.c.size (hn' k h).1)) (S.m.c.sub k), M⟩
  refine ⟨S.s, by rw [ow_app]; exact T0, S.m.f, fun f hf => by rw [ow_app]; exact f.st T.mv (S0.m.r f hf), fun f hf => ?_⟩
  rw [ow_app]
  rcases List.mem_append.1 hf with h | h
  · obtain ⟨i, hi⟩ := idx_of h
    by_cases hc : js.contains i = true
    · exact hj i f (List.contains_iff_mem.1 hc) hi _ _ (S.m.o f h)
    · exact f.st T.mv (fun k hk ho => G.block k hk fun hm => S0.m.sep hi js (by simpa using hc) ho hm) (S0.m.o f h)
  · exact hp T.mv f h
/-- a head that only computes, of new blocks -/
theorem hcx {d : Nat} {v : Value} {a : Act} {w : World} (M : Mm F w0 m0 fs os w) (h : (execOp a.eval o).run P w = .ok (.value v) w) (hd : o.dst = some d ∧ d < n) (ht : lookE (tq E) d v w) (hin : ∀ b, blks v b → ∃ e, (D.contains e && A.contains e && A.all (fun k => !Ap cls d k || Ap cls e k)) = true ∧ blks (a.tmps.getD e undef) b) (hk : ops[i]? = some o ∧ o.guard = none := by exact ⟨rfl, rfl⟩) : wpOp P ops Q i (DoneC A cls D o (tq E) (Mm F w0 m0 fs os) n a w) a w :=
  head_op hk.1 hk.2 (op_val h ⟨⟨v, rfl, fun e he => by
    rw [hd.1] at he; cases he
    refine ⟨hd.2, ht, fun _ b hb => ?_⟩
    obtain ⟨e, h1, h2⟩ := hin b hb
    simp only [Bool.and_eq_true, List.contains_iff_mem] at h1
    refine .inr ⟨e, h1.1.1, h1.1.2, fun k hk hd' => ?_, h2⟩
    have := List.all_eq_true.1 h1.2 k hk
    rw [hd'] at this; simpa using this⟩, Ch.refl _, M⟩)
end
theorem Row.lower3 {α : Type} {En : Enc α} {t : TypeId} {z0 b cap : Nat} {w : World} {ad : Option Addr} {ys : List α} (h : w.ownsRow z0 t En.n (.slice ad ys.length cap) ys.length (ys.flatMap En.cells)) (hb : b ≤ z0) : w.ownsRow b t En.n (.slice ad ys.length cap) ys.length (ys.flatMap En.cells) :=
  ⟨h.1, h.2.imp id fun ⟨g, c, cur, h1, h2, h3⟩ => ⟨g, c, cur, h1, Nat.le_trans hb h2, h3⟩⟩
theorem row_blk {α : Type} {En : Enc α} {t : TypeId} {z0 cap : Nat} {w : World} {ad : Option Addr} {ys : List α} (h : w.ownsRow z0 t En.n (.slice ad ys.length cap) ys.length (ys.flatMap En.cells)) : ∀ k, abk ad k → z0 ≤ k ∧ k < w.heap.size := fun k hk => by
  refine own_lt h k ?_
  cases ad with
  | none => cases hk
  | some p => exact hk
theorem var_blk {z0 b : Nat} {w : World} {cs : List Value} {t : TypeId} (h : Blk w.heap b cs t) (hz : z0 ≤ b) : ∀ k, one b k → z0 ≤ k ∧ k < w.heap.size := fun k hk => by
  cases hk; exact ⟨hz, h.lt⟩
theorem abk_blks {ad : Option Addr} {q c k : Nat} {u : Value} (e : u = .slice ad q c) (h : abk ad k) : blks u k := by
  subst e; cases ad with
  | none => cases h
  | some p => exact h
theorem abk_agg {vs : List Value} {ad : Option Addr} {q c k : Nat} {u : Value} (e : u = .agg vs.toArray) (hv : .slice ad q c ∈ vs) (h : abk ad k) : blks u k := by
  subst e; cases ad with
  | none => cases h
  | some p => exact ⟨.slice (some p) q c, by simpa using hv, h⟩
theorem one_blks {b k : Nat} {u : Value} (e : u = .pointer (some ⟨b, 0, none⟩)) (h : one b k) : blks u k := by subst e; cases h; rfl
theorem blk_abk {ad : Option Addr} {q c k : Nat} (h : blkOf (.slice ad q c) = some k) : abk ad k := by
  cases ad with
  | none => cases h
  | some p => exact h
def agg2T {α1 : Type} {α2 : Type} (E1 : Enc α1) (t1 : TypeId) (ys1 : List α1) (E2 : Enc α2) (t2 : TypeId) (ys2 : List α2) (vs : Value → Value → List Value) (z0 : Nat) (chg : List BS) : Td (In chg) :=
  .of (fun z w => ∃ (ad1 : Option Addr) (c1 : Nat) (ad2 : Option Addr) (c2 : Nat), z = .agg (vs (.slice ad1 ys1.length c1) (.slice ad2 ys2.length c2)).toArray ∧ w.ownsRow z0 t1 E1.n (.slice ad1 ys1.length c1) ys1.length (ys1.flatMap E1.cells) ∧ (∀ k, abk ad1 k → ¬ In chg k) ∧ w.ownsRow z0 t2 E2.n (.slice ad2 ys2.length c2) ys2.length (ys2.flatMap E2.cells) ∧ (∀ k, abk ad2 k → ¬ In chg k) ∧ (∀ k, abk ad1 k → ¬ abk ad2 k)) fun _ _ _ c ⟨ad1, c1, ad2, c2, e, h1, n1, h2, n2, d12⟩ => ⟨ad1, c1, ad2, c2, e, own_ch c n1 h1, n1, own_ch c n2 h2, n2, d12⟩
theorem agg2T_owns {α1 : Type} {α2 : Type} {E1 : Enc α1} {t1 : TypeId} {ys1 : List α1} {E2 : Enc α2} {t2 : TypeId} {ys2 : List α2} {vs : Value → Value → List Value} {z0 : Nat} {chg : List BS} (hvs : ∀ x1 x2 v, v ∈ vs x1 x2 → v = x1 ∨ v = x2 ∨ blkOf v = none) : Owns (agg2T E1 t1 ys1 E2 t2 ys2 vs z0 chg) := fun u w ⟨ad1, c1, ad2, c2, e, h1, n1, h2, n2, d12⟩ x hx => by
  subst e
  obtain ⟨v, hv, hb⟩ := hx
  rcases hvs _ _ v (by simpa using hv) with q | q | q
  · subst q; exact (own_lt h1 x hb).2
  · subst q; exact (own_lt h2 x hb).2
  · rw [q] at hb; cases hb
theorem hag2 {P : Program} {ops : Array Oper} {F : Nat → Prop} {w0 : World} {m0 chg : List BS} {n i : Nat} {fs : List RF} {os : List OF} {o : Oper} {Q : Exit → Act → World → Prop} {E : List (Nat × Td (In chg))} {D A : List Nat} {cls : List (Nat × Nat)} {α1 : Type} {α2 : Type} {E1 : Enc α1} {t1 : TypeId} {ys1 : List α1} {E2 : Enc α2} {t2 : TypeId} {ys2 : List α2} {vs : Value → Value → List Value} {z0 : Nat} {a : Act} {w : World} {ad1 : Option Addr} {c1 : Nat} {ad2 : Option Addr} {c2 : Nat} (d e1 e2 : Nat) (M : Mm F w0 m0 fs os w) (he : lookT d E = some (agg2T E1 t1 ys1 E2 t2 ys2 vs z0 chg)) (k1 : a.tmps.getD e1 undef = (.slice ad1 ys1.length c1) ∧ w.ownsRow z0 t1 E1.n (.slice ad1 ys1.length c1) ys1.length (ys1.flatMap E1.cells) ∧ (∀ k, abk ad1 k → ¬ In chg k)) (k2 : a.tmps.getD e2 undef = (.slice ad2 ys2.length c2) ∧ w.ownsRow z0 t2 E2.n (.slice ad2 ys2.length c2) ys2.length (ys2.flatMap E2.cells) ∧ (∀ k, abk ad2 k → ¬ In chg k)) (hQ : PairD A cls D a)
    (h : (execOp a.eval o).run P w = .ok (.value (.agg (vs (.slice ad1 ys1.length c1) (.slice ad2 ys2.length c2)).toArray)) w) (hin : ((D.contains e1 && A.contains e1 && A.all (fun k => !Ap cls d k || Ap cls e1 k)) && (D.contains e2 && A.contains e2 && A.all (fun k => !Ap cls d k || Ap cls e2 k)) && Ap cls e1 e2) = true) (hvs : ∀ x1 x2 v, v ∈ vs x1 x2 → v = x1 ∨ v = x2 ∨ blkOf v = none) (hd : o.dst = some d ∧ d < n := by exact ⟨rfl, by decide⟩) (hk : ops[i]? = some o ∧ o.guard = none := by exact ⟨rfl, rfl⟩) : wpOp P ops Q i (DoneC A cls D o (tq E) (Mm F w0 m0 fs os) n a w) a w := by
  simp only [Bool.and_eq_true] at hin
  refine hcx M h hd ((look_tq he).2 ⟨ad1, c1, ad2, c2, rfl, k1.2.1, k1.2.2, k2.2.1, k2.2.2, fun k a1 a2 => hQ e1 e2 (by simp only [Bool.and_eq_true]; simp_all) k (abk_blks k1.1 a1) (abk_blks k2.1 a2)⟩) (fun b hb => ?_) hk
  obtain ⟨v, hv, hb⟩ := hb
  rcases hvs _ _ v (by simpa using hv) with q | q | q
  · subst q; exact ⟨e1, by simp only [Bool.and_eq_true]; simp_all, abk_blks k1.1 (blk_abk hb)⟩
  · subst q; exact ⟨e2, by simp only [Bool.and_eq_true]; simp_all, abk_blks k2.1 (blk_abk hb)⟩
  · rw [q] at hb; cases hb
def agg3T {α1 : Type} {α2 : Type} {α3 : Type} (E1 : Enc α1) (t1 : TypeId) (ys1 : List α1) (E2 : Enc α2) (t2 : TypeId) (ys2 : List α2) (E3 : Enc α3) (t3 : TypeId) (ys3 : List α3) (vs : Value → Value → Value → List Value) (z0 : Nat) (chg : List BS) : Td (In chg) :=
  .of (fun z w => ∃ (ad1 : Option Addr) (c1 : Nat) (ad2 : Option Addr) (c2 : Nat) (ad3 : Option Addr) (c3 : Nat), z = .agg (vs (.slice ad1 ys1.length c1) (.slice ad2 ys2.length c2) (.slice ad3 ys3.length c3)).toArray ∧ w.ownsRow z0 t1 E1.n (.slice ad1 ys1.length c1) ys1.length (ys1.flatMap E1.cells) ∧ (∀ k, abk ad1 k → ¬ In chg k) ∧ w.ownsRow z0 t2 E2.n (.slice ad2 ys2.length c2) ys2.length (ys2.flatMap E2.cells) ∧ (∀ k, abk ad2 k → ¬ In chg k) ∧ w.ownsRow z0 t3 E3.n (.slice ad3 ys3.length c3) ys3.length (ys3.flatMap E3.cells) ∧ (∀ k, abk ad3 k → ¬ In chg k) ∧ (∀ k, abk ad1 k → ¬ abk ad2 k) ∧ (∀ k, abk ad1 k → ¬ abk ad3 k) ∧ (∀ k, abk ad2 k → ¬ abk ad3 k)) fun _ _ _ c ⟨ad1, c1, ad2, c2, ad3, c3, e, h1, n1, h2, n2, h3, n3, d12, d13, d23⟩ => ⟨ad1, c1, ad2, c2, ad3, c3, e, own_ch c n1 h1, n1, own_ch c n2 h2, n2, own_ch c n3 h3, n3, d12, d13, d23⟩
theorem agg3T_owns {α1 : Type} {α2 : Type} {α3 : Type} {E1 : Enc α1} {t1 : TypeId} {ys1 : List α1} {E2 : Enc α2} {t2 : TypeId} {ys2 : List α2} {E3 : Enc α3} {t3 : TypeId} {ys3 : List α3} {vs : Value → Value → Value → List Value} {z0 : Nat} {chg : List BS} (hvs : ∀ x1 x2 x3 v, v ∈ vs x1 x2 x3 → v = x1 ∨ v = x2 ∨ v = x3 ∨ blkOf v = none) : Owns (agg3T E1 t1 ys1 E2 t2 ys2 E3 t3 ys3 vs z0 chg) := fun u w ⟨ad1, c1, ad2, c2, ad3, c3, e, h1, n1, h2, n2, h3, n3, d12, d13, d23⟩ x hx => by
  subst e
  obtain ⟨v, hv, hb⟩ := hx
  rcases hvs _ _ _ v (by simpa using hv) with q | q | q | q
  · subst q; exact (own_lt h1 x hb).2
  · subst q; exact (own_lt h2 x hb).2
  · subst q; exact (own_lt h3 x hb).2
  · rw [q] at hb; cases hb
theorem hag3 {P : Program} {ops : Array Oper} {F : Nat → Prop} {w0 : World} {m0 chg : List BS} {n i : Nat} {fs : List RF} {os : List OF} {o : Oper} {Q : Exit → Act → World → Prop} {E : List (Nat × Td (In chg))} {D A : List Nat} {cls : List (Nat × Nat)} {α1 : Type} {α2 : Type} {α3 : Type} {E1 : Enc α1} {t1 : TypeId} {ys1 : List α1} {E2 : Enc α2} {t2 : TypeId} {ys2 : List α2} {E3 : Enc α3} {t3 : TypeId} {ys3 : List α3} {vs : Value → Value → Value → List Value} {z0 : Nat} {a : Act} {w : World} {ad1 : Option Addr} {c1 : Nat} {ad2 : Option Addr} {c2 : Nat} {ad3 : Option Addr} {c3 : Nat} (d e1 e2 e3 : Nat) (M : Mm F w0 m0 fs os w) (he : lookT d E = some (agg3T E1 t1 ys1 E2 t2 ys2 E3 t3 ys3 vs z0 chg)) (k1 : a.tmps.getD e1 undef = (.slice ad1 ys1.length c1) ∧ w.ownsRow z0 t1 E1.n (.slice ad1 ys1.length c1) ys1.length (ys1.flatMap E1.cells) ∧ (∀ k, abk ad1 k → ¬ In chg k)) (k2 : a.tmps.getD e2 undef = (.slice ad2 ys2.length c2) ∧ w.ownsRow z0 t2 E2.n (.slice ad2 ys2.length c2) ys2.length (ys2.flatMap E2.cells) ∧ (∀ k, abk ad2 k → ¬ In chg k)) (k3 : a.tmps.getD e3 undef = (.slice ad3 ys3.length c3) ∧ w.ownsRow z0 t3 E3.n (.slice ad3 ys3.length c3) ys3.length (ys3.flatMap E3.cells) ∧ (∀ k, abk ad3 k → ¬ In chg k)) (hQ : PairD A cls D a)
    (h : (execOp a.eval o).run P w = .ok (.value (.agg (vs (.slice ad1 ys1.length c1) (.slice ad2 ys2.length c2) (.slice ad3 ys3.length c3)).toArray)) w) (hin : ((D.contains e1 && A.contains e1 && A.all (fun k => !Ap cls d k || Ap cls e1 k)) && (D.contains e2 && A.contains e2 && A.all (fun k => !Ap cls d k || Ap cls e2 k)) && (D.contains e3 && A.contains e3 && A.all (fun k => !Ap cls d k || Ap cls e3 k)) && Ap cls e1 e2 && Ap cls e1 e3 && Ap cls e2 e3) = true) (hvs : ∀ x1 x2 x3 v, v ∈ vs x1 x2 x3 → v = x1 ∨ v = x2 ∨ v = x3 ∨ blkOf v = none) (hd : o.dst = some d ∧ d < n := by exact ⟨rfl, by decide⟩) (hk : ops[i]? = some o ∧ o.guard = none := by exact ⟨rfl, rfl⟩) : wpOp P ops Q i (DoneC A cls D o (tq E) (Mm F w0 m0 fs os) n a w) a w := by
  simp only [Bool.and_eq_true] at hin
  refine hcx M h hd ((look_tq he).2 ⟨ad1, c1, ad2, c2, ad3, c3, rfl, k1.2.1, k1.2.2, k2.2.1, k2.2.2, k3.2.1, k3.2.2, fun k a1 a2 => hQ e1 e2 (by simp only [Bool.and_eq_true]; simp_all) k (abk_blks k1.1 a1) (abk_blks k2.1 a2), fun k a1 a2 => hQ e1 e3 (by simp only [Bool.and_eq_true]; simp_all) k (abk_blks k1.1 a1) (abk_blks k3.1 a2), fun k a1 a2 => hQ e2 e3 (by simp only [Bool.and_eq_true]; simp_all) k (abk_blks k2.1 a1) (abk_blks k3.1 a2)⟩) (fun b hb => ?_) hk
  obtain ⟨v, hv, hb⟩ := hb
  rcases hvs _ _ _ v (by simpa using hv) with q | q | q | q
  · subst q; exact ⟨e1, by simp only [Bool.and_eq_true]; simp_all, abk_blks k1.1 (blk_abk hb)⟩
  · subst q; exact ⟨e2, by simp only [Bool.and_eq_true]; simp_all, abk_blks k2.1 (blk_abk hb)⟩
  · subst q; exact ⟨e3, by simp only [Bool.and_eq_true]; simp_all, abk_blks k3.1 (blk_abk hb)⟩
  · rw [q] at hb; cases hb
end Go.Proofs.YtmaiillomoehgaaDoor.V
/- Strings put together; a cell of the library that everybody may read. -/
namespace Go.Proofs.YtmaiillomoehgaaDoor.V
open Go.RowKit
theorem ba_sz (a : Array UInt8) : (⟨a⟩ : ByteArray).size = a.size := rfl
section
variable {P : Program} {a : Act} {w : World} {d : Option Tmp} {ty : TypeId} {pos : String} {af : Array Edge} {g : Option (Nat × Bool)}
theorem x_sadd {x y : Operand} {xt yt : TypeId} {s t : ByteArray} (hx : a.eval x = .string s) (hy : a.eval y = .string t) (h : s.size + t.size ≤ 9223372036854775807) : (execOp a.eval ⟨d, .binOp .add xt x y yt, ty, pos, af, g⟩).run P w = .ok (.value (.string (s ++ t))) w := by
  have h' : ¬ ((s.size + t.size : Nat) : Int) > IntKind.i64.max := by
    show ¬ ((s.size + t.size : Nat) : Int) > 9223372036854775807
    omega
  simp only [execOp, eqGuard, binOp, Op.stringOp, hx, hy, if_neg h']
  rfl
theorem x_sslh {x y : Operand} {t : TypeId} {s : ByteArray} {k : IntKind} {i : Int} (ht : P.underlying t = some .string) (hx : a.eval x = .string s) (hy : a.eval y = .int k i) (m : Nat) (hm : i = (m : Int)) (hl : m ≤ s.size) : (execOp a.eval ⟨d, .slice t x none (some y) none, ty, pos, af, g⟩).run P w = .ok (.value (.string (s.extract 0 m))) w := by
  subst hm
  have h1 := run_slice_string_h (P := P) w t s ht k (m : Int) (by omega) (by omega)
  rw [Int.toNat_natCast] at h1
  simp [execOp, hx, hy, run_sliceAt_string _ t _ _ _ _ ht, h1]
theorem ext_sz (s : ByteArray) {m : Nat} (h : m ≤ s.size) : (s.extract 0 m).size = m := by rw [ByteArray.size_extract]; omega
end
/-- the number that the library lays in its first cell -/
def hasML (h : Array Obj) : Prop := ∃ m : Int, hcell h 0 0 = some (.int .i64 m)
theorem hasML.keep {h h' : Array Obj} (H : hasML h) (k : h'[0]? = h[0]?) : hasML h' := by
  obtain ⟨m, hm⟩ := H
  refine ⟨m, ?_⟩
  unfold hcell at hm ⊢
  rw [k]; exact hm
theorem hasML.pos {h : Array Obj} (H : hasML h) : 0 < h.size := by
  obtain ⟨m, hm⟩ := H
  rcases Nat.eq_zero_or_pos h.size with e | e
  · unfold hcell at hm
    rw [Array.getElem?_eq_none (by omega)] at hm
    cases hm
  · exact e
def glF : RF := ⟨fun _ W h => ¬ W 0 ∧ hasML h, fun m H => ⟨(m.2 0 H.2.pos H.1).2, H.2.keep (m.2 0 H.2.pos H.1).1⟩⟩
theorem St.gl {F : Nat → Prop} {w0 w : World} {m0 : List BS} {n : Nat} {L : List (Nat × Value)} {rs : List RF} {os : List OF} {a : Act} (S : St F w0 m0 n L rs os a w) (i : Nat) (h : nth rs i = some glF) : hasML w.heap := (S.m.r _ (nth_mem h)).2
end Go.Proofs.YtmaiillomoehgaaDoor.V
