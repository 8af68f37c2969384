/- U3 U4 U8 U9 U10 U11 U12 U14 U15 in one text -/
import Derived.Test.YtobggnpnochnnaaGrpD
import Derived.Deep.Upon
import Derived.Laws.StructEq
import Derived.Laws.BytesArg
set_option linter.unusedVariables false
set_option linter.unusedSimpArgs false
/- Arithmetic on bits and without bounds; a part of an element of a row is written. -/
namespace Go.Proofs.Ytobggnpnochnnaa.V
open Go.RowKit
theorem wu32 (x : Int) : inU32 (IntKind.u32.wrap x) := by
  unfold IntKind.wrap; simp [IntKind.signed, IntKind.bits]; omega
theorem wu64 (x : Int) : inU64 (IntKind.u64.wrap x) := by
  unfold IntKind.wrap; simp [IntKind.signed, IntKind.bits]; omega
theorem wu8 (x : Int) : inU8 (IntKind.u8.wrap x) := by
  unfold IntKind.wrap; simp [IntKind.signed, IntKind.bits]; omega
theorem wu16 (x : Int) : inU16 (IntKind.u16.wrap x) := by
  unfold IntKind.wrap; simp [IntKind.signed, IntKind.bits]; omega
theorem wi64 (x : Int) : inI64 (IntKind.i64.wrap x) := by
  unfold IntKind.wrap; simp [IntKind.signed, IntKind.bits]; split <;> omega
def bOr (k : IntKind) (x y : Int) : Int := k.wrap ((BitVec.ofInt k.bits x ||| BitVec.ofInt k.bits y).toNat : Int)
def bXor (k : IntKind) (x y : Int) : Int := k.wrap ((BitVec.ofInt k.bits x ^^^ BitVec.ofInt k.bits y).toNat : Int)
def bAnd (k : IntKind) (x y : Int) : Int := k.wrap ((BitVec.ofInt k.bits x &&& BitVec.ofInt k.bits y).toNat : Int)
def sHl (k : IntKind) (x n : Int) : Int := k.wrap (x * 2 ^ (min n.toNat k.bits))
def sHr (k : IntKind) (x n : Int) : Int := x.fdiv (2 ^ (min n.toNat k.bits))
theorem sHr_in {k : IntKind} {x n m : Int} (h : 0 ≤ x ∧ x ≤ m) : 0 ≤ sHr k x n ∧ sHr k x n ≤ m := by
  unfold sHr
  have hp : (0 : Int) < 2 ^ (min n.toNat k.bits) := Int.pow_pos (by decide)
  rw [Int.fdiv_eq_ediv_of_nonneg _ (Int.le_of_lt hp)]
  exact ⟨Int.ediv_nonneg h.1 (Int.le_of_lt hp), Int.le_trans (Int.ediv_le_self _ h.1) h.2⟩
section
variable {P : Program} {a : Act} {w : World} {d : Option Tmp} {ty : TypeId} {pos : String} {af : Array Edge} {g : Option (Nat × Bool)} {x y : Operand} {xt yt : TypeId} {k k' : IntKind} {m p : Int}
theorem x_bor (hx : a.eval x = .int k m) (hy : a.eval y = .int k p) : (execOp a.eval ⟨d, .binOp .or xt x y yt, ty, pos, af, g⟩).run P w = .ok (.value (.int k (bOr k m p))) w := by simp [execOp, eqGuard, binOp, Op.intBits, hx, hy, bOr]
theorem x_bxor (hx : a.eval x = .int k m) (hy : a.eval y = .int k p) : (execOp a.eval ⟨d, .binOp .xor xt x y yt, ty, pos, af, g⟩).run P w = .ok (.value (.int k (bXor k m p))) w := by simp [execOp, eqGuard, binOp, Op.intBits, hx, hy, bXor]
theorem x_band (hx : a.eval x = .int k m) (hy : a.eval y = .int k p) : (execOp a.eval ⟨d, .binOp .and xt x y yt, ty, pos, af, g⟩).run P w = .ok (.value (.int k (bAnd k m p))) w := by simp [execOp, eqGuard, binOp, Op.intBits, hx, hy, bAnd]
theorem x_shl (hx : a.eval x = .int k m) (hy : a.eval y = .int k' p) (h0 : 0 ≤ p) : (execOp a.eval ⟨d, .binOp .shl xt x y yt, ty, pos, af, g⟩).run P w = .ok (.value (.int k (sHl k m p))) w := by
  have : ¬ p < 0 := by omega
  simp [execOp, eqGuard, binOp, Op.shift, hx, hy, sHl, this]
theorem x_shr (hx : a.eval x = .int k m) (hy : a.eval y = .int k' p) (h0 : 0 ≤ p) : (execOp a.eval ⟨d, .binOp .shr xt x y yt, ty, pos, af, g⟩).run P w = .ok (.value (.int k (sHr k m p))) w := by
  have : ¬ p < 0 := by omega
  simp [execOp, eqGuard, binOp, Op.shift, hx, hy, sHr, this]
end
theorem retcw2 {P : Program} {n : Nat} {L : List (Nat × Value)} {a : Act} {w : World} {fn : Func} {R : Ending → World → Prop} {t t' T : Nat} {b : Nat} {v' : Value} {cs : List Value} (hr : fn.results = #[.cell t T, .tmp t']) (S : Slots n L a) (hv : look t L = some (.pointer (some ⟨b, 0, none⟩))) (hv' : look t' L = some v') (hc : ∀ j v, cs[j]? = some v → hcell w.heap b (0 + j) = some v) (hs : Wide P T cs.length) (h : R (.returned (.tuple #[.agg cs.toArray, v'])) w) : bodyPost P fn R .ret a w := by
  refine ⟨S.defers, _, ?_, h⟩
  have hl := run_loadVar_wide (P := P) (w := w) cs hs hc
  have h1 := S.get t _ hv
  have h2 := S.get t' _ hv'
  simp only [Array.getD_eq_getD_getElem?] at h1 h2
  simp [results, hr, h1, h2, asAddr, hl]
theorem stx {P : Program} {ops : Array Oper} {F : Nat → Prop} {w0 : World} {m0 : List BS} {n : Nat} {L : List (Nat × Value)} {fs : List RF} {os : List OF} {ty : TypeId} {pos : String} {af : Array Edge} {x y : Operand} {v : Value} {t e : TypeId} {b f : Nat} {cs : List Value} {u : Value} (i : Nat) (cs' : List Value) (hx : evS L x = some (.pointer (some ⟨b, f, none⟩))) (hy : evS L y = some v) (hb : nth os i = some (blO b cs e)) (hcs : cs.set f v = cs') (ho : cs[f]? = some u := by rfl) (h1 : v.oneCell' = true := by rfl) (hz : (P.info? t).map (·.size) = some 1 := by kernel_rfl) :
    One P ops (St F w0 m0 n L fs os) [one b] ⟨none, .store t x y, ty, pos, af, none⟩ (St F w0 m0 n L fs (os.set i (blO b cs' e))) := by
  subst hcs; exact stk i hx hy hb ho h1 hz
theorem take_splice {α : Type _} (l vs : List α) (a K : Nat) (h : a + vs.length ≤ K) (hl : K ≤ l.length) : (l.take a ++ vs ++ l.drop (a + vs.length)).take K = (l.take K).take a ++ vs ++ (l.take K).drop (a + vs.length) := by
  have e1 : (l.take a).length = a := by rw [List.length_take]; omega
  rw [List.append_assoc, List.take_append, e1, List.take_append, List.take_of_length_le (by rw [e1]; omega : (l.take a).length ≤ K), List.take_of_length_le (by omega : vs.length ≤ K - a), List.take_take, Nat.min_eq_left (by omega), List.append_assoc]
  congr 2
  rw [List.drop_take]
  congr 1
  omega
theorem flat_splice {α : Type} {E : Enc α} (x' : α) (j : Nat) (vs : List Value) (hj : j + vs.length ≤ E.n) : ∀ (xs : List α) (m : Nat), m < xs.length → E.cells x' = (E.cells (xs.getD m E.dflt)).take j ++ vs ++ (E.cells (xs.getD m E.dflt)).drop (j + vs.length) →
    (xs.set m x').flatMap E.cells = (xs.flatMap E.cells).take (m * E.n + j) ++ vs ++ (xs.flatMap E.cells).drop (m * E.n + j + vs.length)
  | [], m, h, _ => by simp at h
  | x :: xs, 0, _, h => by
    have h' : E.cells x' = (E.cells x).take j ++ vs ++ (E.cells x).drop (j + vs.length) := by simpa using h
    have hl := E.len x
    rw [List.set_cons_zero, List.flatMap_cons, List.flatMap_cons, h', Nat.zero_mul, Nat.zero_add, List.take_append_of_le_length (by omega), List.drop_append_of_le_length (by omega)]
    simp [List.append_assoc]
  | x :: xs, m + 1, hm, h => by
    have hl := E.len x
    rw [List.set_cons_succ, List.flatMap_cons, List.flatMap_cons, flat_splice x' j vs hj xs m (by simpa using hm) (by simpa using h), Nat.add_mul, Nat.one_mul]
    rw [show m * E.n + E.n + j = (E.cells x).length + (m * E.n + j) from by omega, List.take_length_add_append, show (E.cells x).length + (m * E.n + j) + vs.length = (E.cells x).length + (m * E.n + j + vs.length) from by omega, List.drop_length_add_append]
    simp [List.append_assoc]
section
variable {P : Program} {ops : Array Oper} {F : Nat → Prop} {w0 : World} {m0 : List BS} {n : Nat} {L : List (Nat × Value)} {fs : List RF} {os : List OF} {ty : TypeId} {pos : String} {af : Array Edge} {x y : Operand}
/-- several cells of an element of a row of the call's own are written -/
theorem strw_wp {α : Type} {E : Enc α} {et : TypeId} {t : TypeId} {ad : Option Addr} {cap ob bs : Nat} {xs : List α} {vs : List Value} (i : Nat) (hx : evS L x = some (.pointer (some ⟨blk ad, ob, none⟩))) (hy : evS L y = some (.agg vs.toArray)) (hr : nth os i = some (rwO E et bs ad cap xs)) (m j : Nat) (hm : m < xs.length) (hj : j + vs.length ≤ E.n) (x' : α) (hw : ∀ {a w}, St F w0 m0 n L fs os a w → E.wf (Fr F (ow os)) w.heap x') (hc : E.cells x' = (E.cells (xs.getD m E.dflt)).take j ++ vs ++ (E.cells (xs.getD m E.dflt)).drop (j + vs.length)) (hob : ob = m * E.n + j) (h1 : vs.all (·.oneCell') = true) (hz : (P.info? t).map (·.size) = some vs.length := by kernel_rfl) {a : Act} {w : World} {K : Act → World → Prop} {Q : Exit → Act → World → Prop} (S : St F w0 m0 n L fs os a w) (k : ∀ a' w', St F w0 m0 n L fs (os.set i (rwO E et bs ad cap (xs.set m x'))) a' w' → Ch (In [abk ad]) w w' → K a' w') :
    Oper.wp P ⟨none, .store t x y, ty, pos, af, none⟩ a w K Q := by
  subst hob
  have R := S.row i hr
  rcases R.form with ⟨_, h, _⟩ | ⟨had, hb, hlt, _⟩
  · rw [h] at hm; simp at hm
  · have hne : ad ≠ none := fun e => by rw [e] at had; cases had
    rcases R.own.2 with ⟨h1', h2⟩ | ⟨g, c, cur, g1, g2, g3, g4, g5, g6, g7⟩
    · rw [h2] at hm; omega
    · injection g1 with g1 _ g8
      subst g1 g8
      have hmn : m * E.n + j + vs.length ≤ xs.length * E.n := by
        have : (m + 1) * E.n ≤ xs.length * E.n := Nat.mul_le_mul_right _ hm
        rw [Nat.add_mul] at this; omega
      have hcs : xs.length * E.n ≤ cur.size := by rw [g6]; exact Nat.mul_le_mul_right _ g4
      have hst := run_storeCells_at P g (m * E.n + j) et vs 0 cur w g3 (by omega) (fun v hv => List.all_eq_true.1 h1 v hv)
      simp only [Nat.add_zero] at hst
      generalize hcur : (cur.toList.take (m * E.n + j) ++ vs ++ cur.toList.drop (m * E.n + j + vs.length)).toArray = cur' at hst
      have hg : Ch (In [abk (some ⟨g, 0, none⟩)]) w (w.setRow g cur') := (setRow_ch w g cur').mono fun k hk => hk.imp (fun h => by rw [abk_one]; exact h) id
      have hrun : (execOp a.eval ⟨none, .store t x y, ty, pos, af, none⟩).run P w = .ok .skip (w.setRow g cur') := by
        cases hi : P.info? t with
        | none => simp [hi] at hz
        | some ie =>
          have h6 : ie.size = vs.length := by simpa [hi] using hz
          simp [execOp, Instr.storeAt, S.e hx, S.e hy, Instr.sureAddr, storeVar, Value.cells, sizeOf, typeInfo, hi, h6, blk, hst]
      have hsz : cur'.size = cur.size := by rw [← hcur]; simp; omega
      have hheap : (w.setRow g cur').heap[g]? = some (.cells cur' et (0, 0)) := by simp [World.setRow, Array.getElem?_modify, g3]
      have hM := S.m.k1 i hr (rwO E et bs (some ⟨g, 0, none⟩) cap (xs.set m x')) rfl hg ?_
      · exact op_skip hrun (k _ _ ⟨S.s, hM⟩ hg)
      · have hkp : Kp (Fr F (ow os)) w.heap (w.setRow g cur').heap := hg.kp fun k _ h1 h2 => h1.1 (in_mem (ow_mem (nth_mem hr)) (In.one.1 h2))
        refine ⟨⟨by rw [flat_len E.len, List.length_set], .inr ⟨g, cap, cur', by rw [List.length_set], g2, hheap, by rw [List.length_set]; exact g4, g5, by rw [hsz]; exact g6, ?_⟩⟩, fun q hq => ?_⟩
        · rw [flat_splice x' j vs hj xs m hm hc, List.length_set, ← hcur, ← g7]
          exact take_splice _ _ _ _ hmn (by simpa using hcs)
        · rcases List.mem_or_eq_of_mem_set hq with q1 | q1
          · exact E.keep hkp (R.wf q q1)
          · subst q1; exact E.keep hkp (hw S)
theorem strw {α : Type} {E : Enc α} {et : TypeId} {t : TypeId} {ad : Option Addr} {cap ob bs : Nat} {xs : List α} {vs : List Value} (i : Nat) (hx : evS L x = some (.pointer (some ⟨blk ad, ob, none⟩))) (hy : evS L y = some (.agg vs.toArray)) (hr : nth os i = some (rwO E et bs ad cap xs)) (m j : Nat) (hm : m < xs.length) (hj : j + vs.length ≤ E.n) (x' : α) (hw : ∀ {a w}, St F w0 m0 n L fs os a w → E.wf (Fr F (ow os)) w.heap x') (hc : E.cells x' = (E.cells (xs.getD m E.dflt)).take j ++ vs ++ (E.cells (xs.getD m E.dflt)).drop (j + vs.length)) (hob : ob = m * E.n + j) (h1 : vs.all (·.oneCell') = true) (hz : (P.info? t).map (·.size) = some vs.length := by kernel_rfl) :
    One P ops (St F w0 m0 n L fs os) [abk ad] ⟨none, .store t x y, ty, pos, af, none⟩ (St F w0 m0 n L fs (os.set i (rwO E et bs ad cap (xs.set m x')))) := fun K Q a w S k => by
  unfold Core
  rw [if_pos (by simp [Region.wanted])]
  exact .inl (strw_wp i hx hy hr m j hm hj x' hw hc hob h1 hz S k)
end
end Go.Proofs.Ytobggnpnochnnaa.V
/- Regions that draw their order and make several rows of their own: which blocks differ. -/
namespace Go.Proofs.Ytobggnpnochnnaa.V
open Go.RowKit
section
variable {P : Program}
theorem head_main3 {ops : Array Oper} {n : Nat} {Q : Exit → Act → World → Prop} {E : Nat → Value → World → Prop} {C : Array Bool → Act → World → Prop} {a₀ : Act} (tail : List Oper) (htl : tail = ops.toList.drop n) (hok : headOk ops n = true) (htail : tailOk ops n = true)
    (step : ∀ i, i < n → ∀ o, ops[i]? = some o → ∀ (listed : Array Bool) a w, listed.getD i true = false → (∀ e ∈ o.after, Region.binds .any e = true → listed.getD e.on false = true) → listed.size = ops.size → C listed a w → HeadState ops n E a₀ listed a w → a.tmps.size = a₀.tmps.size → a.defers = a₀.defers → (∀ t, (∀ j, j < n → ∀ o, ops[j]? = some o → o.dst ≠ some t) → a.tmps.getD t undef = a₀.tmps.getD t undef) →
      (∀ j p d, j < n → ops[j]? = some p → p.dst = some d → d ∈ o.looksAt ops → E d (a.tmps.getD d undef) w) →
      wpOp P ops Q i (fun a' w' => (∃ v, a' = a.put o.dst v ∧ (∀ d, o.dst = some d → d < a.tmps.size ∧ E d v w')) ∧ C (listed.setIfInBounds i true) a' w' ∧ ∀ t v, E t v w → E t v w') a w)
    (fin : ∀ a w, C (Array.replicate n true ++ Array.replicate (ops.size - n) false) a w → HeadState ops n E a₀ (Array.replicate n true) a w → wpList P ops Q tail a w) :
    ∀ (f : Nat) (listed : Array Bool) (a : Act) (w : World), left n listed = f → HeadInv .any ops n listed → C listed a w → HeadState ops n E a₀ listed a w → wpAny P .any ops Q (f + (ops.size - n)) listed a w := by
  simp only [tailOk, Bool.and_eq_true, decide_eq_true_eq] at htail
  obtain ⟨⟨hn, hsc⟩, hseq⟩ := htail
  intro f
  induction f with
  | zero =>
    intro listed a w hf inv hC st
    have hall := left_zero hf
    have hl : listed = Array.replicate n true ++ Array.replicate (ops.size - n) false := by
      apply Array.ext
      · simp [inv.size]; omega
      · intro i h1 h2
        by_cases hi : i < n
        · have h3 := hall i hi
          simp [h1] at h3
          simp [Array.getElem_append, hi, h3]
        · have h3 := inv.tail i (by omega) (by rw [← inv.size]; exact h1)
          simp [h1] at h3
          simp [Array.getElem_append, hi, h3]
    subst hl
    have hlen : tail.length = ops.size - n := by rw [htl]; simp
    have h := wpAny_of_seq (P := P) (ops := ops) (md := .any) (Q' := Q) tail n (Array.replicate n true ++ Array.replicate (ops.size - n) false) a w (fun j => by rw [htl, List.getElem?_drop, Array.getElem?_toList]) (by rw [hlen]; exact hseq) (fin a w hC
      ⟨st.size, st.defers, st.base, fun j hj _ o d ho hd => st.done j hj (by simp [Array.getElem?_append, hj]) o d ho hd⟩)
    rw [hlen] at h
    rw [Nat.zero_add]
    exact h
  | succ f ih =>
    intro listed a w hf inv hC st
    rw [show f + 1 + (ops.size - n) = (f + (ops.size - n)) + 1 from by omega]
    obtain ⟨j, hjn, hjl, hjmin⟩ := left_pos (n := n) (listed := listed) (by omega)
    have hget : ∀ i, i < n → ∃ o, ops[i]? = some o := fun i hi => ⟨_, Array.getElem?_eq_getElem (Nat.lt_of_lt_of_le hi hn)⟩
    have hready : j ∈ Region.ready .any ops listed := by
      obtain ⟨o, ho⟩ := hget j hjn
      refine mem_ready.2 ⟨hjl, o, ho, fun e he hb => ?_⟩
      have h1 := List.all_eq_true.1 hok j (List.mem_range.2 hjn)
      simp only [ho, Bool.and_eq_true] at h1
      have h2 := Array.all_eq_true_iff_forall_mem.1 h1.1 e he
      simp only [hb, Bool.not_true, Bool.false_or, decide_eq_true_eq] at h2
      have h3 := hjmin e.on h2
      have h4 : e.on < listed.size := by rw [inv.size]; omega
      simp [h4] at h3 ⊢
      exact h3
    refine ⟨fun h => (by rw [h] at hready; cases hready), fun i hi => ?_⟩
    have hin : i < n := by
      rcases hsc' : (n == ops.size) with _ | _
      · rw [hsc', Bool.false_or, Bool.and_eq_true] at hsc
        have hlt : n < ops.size := by
          have : n ≠ ops.size := by simpa using hsc'
          omega
        exact Nat.lt_of_not_le fun h => tail_waits hsc.1 hsc.2 hlt inv _ j rfl hjn hjl i h hi
      · have : n = ops.size := by simpa using hsc'
        obtain ⟨_, o, ho, _⟩ := mem_ready.1 hi
        have := (Array.getElem?_eq_some_iff.1 ho).1
        omega
    obtain ⟨hil, o, ho, hall⟩ := mem_ready.1 hi
    refine wpOp_mono ?_ (step i hin o ho listed a w hil hall inv.size hC st st.size st.defers st.base ?_)
    · rintro a' w' ⟨⟨v, rfl, hv⟩, hC', hmono⟩
      have hl' := left_set hin hil
      refine ih (listed.setIfInBounds i true) _ w' (by omega) (inv.set hi hin) hC' ⟨?_, ?_, ?_, ?_⟩
      · cases o.dst <;> simp [Act.put, st.size]
      · cases o.dst <;> simp [Act.put, st.defers]
      · intro t ht
        rw [← st.base t ht]
        have hne := ht i hin o ho
        cases hd : o.dst with
        | none => rfl
        | some d =>
          have : d ≠ t := fun e => hne (by rw [hd, e])
          simp [Act.put, Array.getElem?_setIfInBounds_ne this]
      · intro k hk hkl p d hp hd
        by_cases hki : k = i
        · subst hki
          obtain rfl : o = p := Option.some.inj (ho.symm.trans hp)
          obtain ⟨h1, h2⟩ := hv d hd
          rw [hd, getD_put a d d v h1, if_pos rfl]
          exact h2
        · rw [getD_set_ne false (Ne.symm hki)] at hkl
          have h1 := hmono d _ (st.done k hk hkl p d hp hd)
          have hdist : o.dst ≠ some d := by
            have g1 := List.all_eq_true.1 hok i (List.mem_range.2 hin)
            simp only [ho, Bool.and_eq_true] at g1
            have g2 := List.all_eq_true.1 g1.2 k (List.mem_range.2 hk)
            simp only [hp, hd, Bool.and_eq_true, Bool.or_eq_true, beq_iff_eq, bne_iff_ne, Option.isNone_some, Bool.false_eq_true, or_false] at g2
            exact fun e => (g2.1.resolve_left hki) e.symm
          cases hod : o.dst with
          | none => exact h1
          | some d' =>
            have : d' ≠ d := fun e => hdist (by rw [hod, e])
            rw [show (a.put (some d') v).tmps.getD d undef = a.tmps.getD d undef from by simp [Act.put, Array.getElem?_setIfInBounds_ne this]]
            exact h1
    · intro k p d hk hp hd hlook
      have g1 := List.all_eq_true.1 hok i (List.mem_range.2 hin)
      simp only [ho, Bool.and_eq_true] at g1
      have g2 := List.all_eq_true.1 g1.2 k (List.mem_range.2 hk)
      simp only [hp, hd, Bool.and_eq_true, Bool.or_eq_true, Bool.not_eq_true'] at g2
      rcases g2.2 with g3 | g3
      · rw [List.contains_eq_mem] at g3
        simp [hlook] at g3
      · obtain ⟨e, he, hb⟩ := Array.any_eq_true'.1 g3
        simp only [Bool.and_eq_true, beq_iff_eq] at hb
        exact st.done k hk (by rw [← hb.2]; exact hall e he hb.1) p d hp hd
theorem wp_region_heads3 {id : Nat} {Q : Exit → Act → World → Prop} {a₀ : Act} {w : World} {l : List Oper} (n : Nat) (E : Nat → Value → World → Prop) (C : Array Bool → Act → World → Prop) (tail : List Oper) (htl : tail = l.drop n) (hm : P.follows .mixedOrders = true) (hok : headOk l.toArray n = true) (htail : tailOk l.toArray n = true)
    (hC : C (Array.replicate l.length false) a₀ { w with drawn := w.drawn + 1 })
    (step : ∀ i, i < n → ∀ o, l.toArray[i]? = some o → ∀ (listed : Array Bool) a w, listed.getD i true = false → (∀ e ∈ o.after, Region.binds .any e = true → listed.getD e.on false = true) → listed.size = l.length → C listed a w → HeadState l.toArray n E a₀ listed a w → a.tmps.size = a₀.tmps.size → a.defers = a₀.defers → (∀ t, (∀ j, j < n → ∀ o, l.toArray[j]? = some o → o.dst ≠ some t) → a.tmps.getD t undef = a₀.tmps.getD t undef) →
      (∀ j p d, j < n → l.toArray[j]? = some p → p.dst = some d → d ∈ o.looksAt l.toArray → E d (a.tmps.getD d undef) w) →
      wpOp P l.toArray Q i (fun a' w' => (∃ v, a' = a.put o.dst v ∧ (∀ d, o.dst = some d → d < a.tmps.size ∧ E d v w')) ∧ C (listed.setIfInBounds i true) a' w' ∧ ∀ t v, E t v w → E t v w') a w)
    (fin : ∀ a w, C (Array.replicate n true ++ Array.replicate (l.length - n) false) a w → HeadState l.toArray n E a₀ (Array.replicate n true) a w → wpList P l.toArray Q tail a w) : (Code.region id l.toArray true).wp P Q a₀ w := by
  refine wp_region_any hm ?_
  have hn : n ≤ l.length := by
    simp only [tailOk, Bool.and_eq_true, decide_eq_true_eq] at htail
    simpa using htail.1.1
  have inv0 : HeadInv .any l.toArray n (Array.replicate l.toArray.size false) :=
    ⟨by simp, fun j oj _ hl => (by rw [getD_replicate_false] at hl; cases hl), fun t _ ht => getD_in (by simpa using ht) (getD_replicate_false _ _)⟩
  have hleft : left n (Array.replicate l.toArray.size false) = n := by
    unfold left
    rw [List.filter_eq_self.2]
    · simp
    · intro j hj
      have := List.mem_range.1 hj
      rw [getD_in (by simp; omega) (getD_replicate_false _ _)]
      rfl
  have h := head_main3 (P := P) (Q := Q) (E := E) (C := C) (a₀ := a₀) tail (by simpa using htl) hok htail step fin n (Array.replicate l.toArray.size false) a₀ { w with drawn := w.drawn + 1 } hleft inv0 hC
    ⟨rfl, rfl, fun _ _ => rfl, fun j _ hl => (by rw [getD_replicate_false] at hl; cases hl)⟩
  rwa [show n + (l.toArray.size - n) = l.toArray.size from by simp; omega] at h
end
def blks : Value → Nat → Prop
  | .agg vs => fun k => ∃ v ∈ vs.toList, blkOf v = some k
  | v => fun k => blkOf v = some k
def Ap (ap : List (Nat × Nat)) (d e : Nat) : Bool := ap.contains (d, e) || ap.contains (e, d)
theorem Ap.symm {ap : List (Nat × Nat)} {d e : Nat} (h : Ap ap d e = true) : Ap ap e d = true := by unfold Ap at *; rw [Bool.or_comm]; exact h
def PairD (A : List Nat) (ap : List (Nat × Nat)) (D : List Nat) (a : Act) : Prop := ∀ d e, (D.contains d && D.contains e && A.contains d && A.contains e && Ap ap d e) = true → ∀ b, blks (a.tmps.getD d undef) b → ¬ blks (a.tmps.getD e undef) b
structure DoneC {M : Nat → Prop} (A : List Nat) (cls : List (Nat × Nat)) (D : List Nat) (o : Oper) (E : List (Nat × StP M)) (I : World → Prop) (N : Nat) (a : Act) (w : World) (a' : Act) (w' : World) : Prop where
  put : ∃ v, a' = a.put o.dst v ∧ ∀ d, o.dst = some d → d < N ∧ lookE E d v w' ∧ (d ∈ A → ∀ b, blks v b → w.heap.size ≤ b ∨ ∃ e, e ∈ D ∧ e ∈ A ∧ (∀ k, k ∈ A → Ap cls d k = true → Ap cls e k = true) ∧ blks (a.tmps.getD e undef) b)
  ch : Ch M w w'
  inv : I w'
def stepsC {M : Nat → Prop} (A : List Nat) (cls : List (Nat × Nat)) (P : Program) (ops : Array Oper) (Q : Exit → Act → World → Prop) (N : Nat) (L : List (Nat × Value)) (W : World) (E : List (Nat × StP M)) (I : World → Prop) : Nat → List Oper → List (List Nat) → Prop
  | i, o :: r, D :: Ds => (∀ a w, Ch M W w → I w → Slots N L a → deps E a w D → PairD A cls D a → wpOp P ops Q i (DoneC A cls D o E I N a w) a w) ∧ stepsC A cls P ops Q N L W E I (i + 1) r Ds
  | _, _, _ => True
def PairsC (A : List Nat) (cls : List (Nat × Nat)) (ops : Array Oper) (n : Nat) (listed : Array Bool) (a : Act) : Prop :=
  ∀ j k p q d e, j < n → k < n → listed.getD j false = true → listed.getD k false = true → ops[j]? = some p → ops[k]? = some q → p.dst = some d → q.dst = some e → d ∈ A → e ∈ A → Ap cls d e = true → ∀ b, blks (a.tmps.getD d undef) b → ¬ blks (a.tmps.getD e undef) b
theorem stepsC_get {M : Nat → Prop} {A : List Nat} {cls : List (Nat × Nat)} {P : Program} {ops : Array Oper} {Q : Exit → Act → World → Prop} {N : Nat} {L : List (Nat × Value)} {W : World} {E : List (Nat × StP M)} {I : World → Prop} : ∀ (l : List Oper) (Ds : List (List Nat)) (k i : Nat), i < Ds.length → l.length = Ds.length →
    stepsC A cls P ops Q N L W E I k l Ds → ∃ o D, l[i]? = some o ∧ Ds[i]? = some D ∧ ∀ a w, Ch M W w → I w → Slots N L a → deps E a w D → PairD A cls D a → wpOp P ops Q (k + i) (DoneC A cls D o E I N a w) a w
  | [], Ds, _, i, h, hl, _ => by simp at hl; omega
  | o :: l, [], _, i, h, _, _ => by simp at h
  | o :: l, D :: Ds, k, 0, _, _, h => ⟨o, D, rfl, rfl, h.1⟩
  | o :: l, D :: Ds, k, i + 1, hi, hl, h => by
    obtain ⟨o', D', h1, h2, h3⟩ := stepsC_get l Ds (k + 1) i (by simpa using hi) (by simpa using hl) h.2
    exact ⟨o', D', by simpa using h1, by simpa using h2, by rw [show k + (i + 1) = k + 1 + i from by omega]; exact h3⟩
theorem heads3_step {M : Nat → Prop} {P : Program} {Q : Exit → Act → World → Prop} {a₀ : Act} {w : World} {l : List Oper} {N : Nat} {L : List (Nat × Value)} (S : Slots N L a₀) (n : Nat) (E : List (Nat × StP M)) (I : World → Prop) (Ds : List (List Nat)) (A : List Nat) (cls : List (Nat × Nat)) (hirr : ∀ d ∈ A, Ap cls d d = false) (hA : ∀ d ∈ A, ∀ u w, lookE E d u w → ∀ x, blks u x → x < w.heap.size)
    (h1 : headOk l.toArray n = true) (h2 : depsOk l.toArray n 0 Ds = true) (h3 : keysOk l.toArray n L = true) (hlen : Ds.length = n) (hn : n ≤ l.length)
    (step : stepsC A cls P l.toArray Q N L w E I 0 (l.take n) Ds) :
    ∀ i, i < n → ∀ o, l.toArray[i]? = some o → ∀ (listed : Array Bool) a w', listed.getD i true = false → (∀ e ∈ o.after, Region.binds .any e = true → listed.getD e.on false = true) → listed.size = l.length → ((Ch M w w' ∧ I w') ∧ PairsC A cls l.toArray n listed a) → HeadState l.toArray n (lookE E) a₀ listed a w' → a.tmps.size = a₀.tmps.size → a.defers = a₀.defers → (∀ t, (∀ j, j < n → ∀ o, l.toArray[j]? = some o → o.dst ≠ some t) → a.tmps.getD t undef = a₀.tmps.getD t undef) →
      (∀ j p d, j < n → l.toArray[j]? = some p → p.dst = some d → d ∈ o.looksAt l.toArray → lookE E d (a.tmps.getD d undef) w') →
      wpOp P l.toArray Q i (fun a' w2 => (∃ v, a' = a.put o.dst v ∧ (∀ d, o.dst = some d → d < a.tmps.size ∧ lookE E d v w2)) ∧ ((Ch M w w2 ∧ I w2) ∧ PairsC A cls l.toArray n (listed.setIfInBounds i true) a') ∧ ∀ t v, lookE E t v w' → lookE E t v w2) a w' := by
  intro i hi o ho listed a w' hil hrdy hls hC0 hst hs hd hb hE
  obtain ⟨hC, hP⟩ := hC0
  obtain ⟨o', D, e1, e2, h⟩ := stepsC_get (l.take n) Ds 0 i (by omega) (by simp; omega) step
  obtain rfl : o' = o := by
    rw [List.getElem?_take_of_lt hi] at e1
    have : l.toArray[i]? = l[i]? := by simp
    rw [this, e1] at ho
    exact Option.some.inj ho
  have hdep : ∀ D', (∀ d ∈ D', d ∈ D) → deps E a w' D' := by
    intro D'
    induction D' with
    | nil => intro _; trivial
    | cons d r ih =>
      intro hsub
      refine ⟨?_, ih fun d hd => hsub d (List.mem_cons_of_mem _ hd)⟩
      have hget : ∀ (Ds : List (List Nat)) (k i : Nat), depsOk l.toArray n k Ds = true → Ds[i]? = some D → ∃ o, l.toArray[k + i]? = some o ∧ ∀ d ∈ D, d ∈ o.looksAt l.toArray ∧ isHead l.toArray n d = true := by
        intro Ds
        induction Ds with
        | nil => intro k i _ h; simp at h
        | cons D0 Ds ih =>
          intro k i hk hi
          simp only [depsOk, Bool.and_eq_true] at hk
          cases i with
          | zero =>
            obtain rfl : D0 = D := by simpa using hi
            cases hp : l.toArray[k]? with
            | none => rw [hp] at hk; cases hk.1
            | some p =>
              rw [hp] at hk
              refine ⟨p, rfl, fun d hd => ?_⟩
              have := List.all_eq_true.1 hk.1 d hd
              simpa [Bool.and_eq_true, List.contains_iff_mem] using this
          | succ i =>
            obtain ⟨o, g1, g2⟩ := ih (k + 1) i hk.2 (by simpa using hi)
            exact ⟨o, by rw [show k + (i + 1) = k + 1 + i from by omega]; exact g1, g2⟩
      obtain ⟨o2, g1, g2⟩ := hget Ds 0 i h2 e2
      rw [Nat.zero_add, ho] at g1
      obtain rfl := Option.some.inj g1
      obtain ⟨g3, g4⟩ := g2 d (hsub d List.mem_cons_self)
      obtain ⟨j, p, g5, g6, g7⟩ := isHead_spec g4
      exact hE j p d g5 g6 g7 g3
  have look_hd : ∀ e, e ∈ D → ∃ j p, j < n ∧ l.toArray[j]? = some p ∧ p.dst = some e ∧ listed.getD j false = true := fun e he => by
    have hget : ∀ (Ds : List (List Nat)) (k i : Nat), depsOk l.toArray n k Ds = true → Ds[i]? = some D → ∃ o, l.toArray[k + i]? = some o ∧ ∀ d ∈ D, d ∈ o.looksAt l.toArray ∧ isHead l.toArray n d = true := by
      intro Ds
      induction Ds with
      | nil => intro k i _ h; simp at h
      | cons D0 Ds ih =>
        intro k i hk hi
        simp only [depsOk, Bool.and_eq_true] at hk
        cases i with
        | zero =>
          obtain rfl : D0 = D := by simpa using hi
          cases hp : l.toArray[k]? with
          | none => rw [hp] at hk; cases hk.1
          | some p =>
            rw [hp] at hk
            refine ⟨p, rfl, fun d hd => ?_⟩
            have := List.all_eq_true.1 hk.1 d hd
            simpa [Bool.and_eq_true, List.contains_iff_mem] using this
        | succ i =>
          obtain ⟨o, g1, g2⟩ := ih (k + 1) i hk.2 (by simpa using hi)
          exact ⟨o, by rw [show k + (i + 1) = k + 1 + i from by omega]; exact g1, g2⟩
    obtain ⟨o2, g1, g2⟩ := hget Ds 0 i h2 e2
    rw [Nat.zero_add, ho] at g1
    obtain rfl := Option.some.inj g1
    obtain ⟨g3, g4⟩ := g2 e he
    obtain ⟨j, p, g5, g6, g7⟩ := isHead_spec g4
    refine ⟨j, p, g5, g6, g7, ?_⟩
    have q1 := List.all_eq_true.1 h1 i (List.mem_range.2 hi)
    simp only [ho, Bool.and_eq_true] at q1
    have q2 := List.all_eq_true.1 q1.2 j (List.mem_range.2 g5)
    simp only [g6, g7, Bool.and_eq_true, Bool.or_eq_true, Bool.not_eq_true'] at q2
    rcases q2.2 with q3 | q3
    · rw [List.contains_eq_mem] at q3; simp [g3] at q3
    · obtain ⟨ed, he1, hb1⟩ := Array.any_eq_true'.1 q3
      simp only [Bool.and_eq_true, beq_iff_eq] at hb1
      rw [← hb1.2]
      exact hrdy ed he1 hb1.1
  have hpd : PairD A cls D a := fun d e hde => by
    simp only [Bool.and_eq_true, List.contains_iff_mem] at hde
    obtain ⟨j', p', g5, g6, g7, g8⟩ := look_hd d hde.1.1.1.1
    obtain ⟨k', q', f5, f6, f7, f8⟩ := look_hd e hde.1.1.1.2
    exact hP j' k' p' q' d e g5 f5 g8 f8 g6 f6 g7 f7 hde.1.1.2 hde.1.2 hde.2
  have h' := h a w' hC.1 hC.2 (S.base h3 hs hd hb) (hdep D fun d hd => hd) hpd
  rw [Nat.zero_add] at h'
  refine wpOp_mono ?_ h'
  rintro a' w2 ⟨⟨v, hv, hd'⟩, hc, hi'⟩
  refine ⟨⟨v, hv, fun d hdd => ⟨by rw [hs, S.size]; exact (hd' d hdd).1, (hd' d hdd).2.1⟩⟩, ⟨⟨hC.1.same hc, hi'⟩, ?_⟩, fun t v => lookE_st E t v _ _ hc⟩
  subst hv
  have own : ∀ d, o'.dst = some d → (a.put o'.dst v).tmps.getD d undef = v := fun d hd => by
    rw [hd, getD_put a d d v (by rw [hs, S.size]; exact (hd' d hd).1), if_pos rfl]
  have other : ∀ d, o'.dst ≠ some d → (a.put o'.dst v).tmps.getD d undef = a.tmps.getD d undef := fun d hd => by
    cases hod : o'.dst with
    | none => rfl
    | some d' =>
      have : d' ≠ d := fun e => hd (by rw [hod, e])
      simp [Act.put, Array.getElem?_setIfInBounds_ne this]
  have apart : ∀ k q e, k < n → listed.getD k false = true → l.toArray[k]? = some q → q.dst = some e → e ∈ A → ∀ d, o'.dst = some d → d ∈ A → Ap cls d e = true → ∀ b, blks v b → ¬ blks (a.tmps.getD e undef) b := fun k q e hk hl hq he hA' d hd hdA hcl b hb hx => by
    have hlt := hA e hA' _ w' (hst.done k hk hl q e hq he) b hx
    rcases (hd' d hd).2.2 hdA b hb with hb2 | ⟨e', he1, he2, he3, he4⟩
    · omega
    · obtain ⟨j', p', g5, g6, g7, g8⟩ := look_hd e' he1
      exact hP j' k p' q e' e g5 hk g8 hl g6 hq g7 he he2 hA' (he3 e hA' hcl) b he4 hx
  intro j k p q d e hj hk hlj hlk hp hq hd2 he hdA heA hne
  by_cases hji : j = i
  · subst hji
    obtain rfl : o' = p := Option.some.inj (ho.symm.trans hp)
    by_cases hki : k = j
    · subst hki
      obtain rfl : o' = q := Option.some.inj (ho.symm.trans hq)
      rw [hd2] at he; have e0 := Option.some.inj he; subst e0; exact absurd hne (by rw [hirr d hdA]; simp)
    · rw [getD_set_ne false (Ne.symm hki)] at hlk
      rw [own d hd2, other e (headOk_dst h1 hj hk ho hq he hki)]
      exact apart k q e hk hlk hq he heA d hd2 hdA hne
  · rw [getD_set_ne false (Ne.symm hji)] at hlj
    by_cases hki : k = i
    · subst hki
      obtain rfl : o' = q := Option.some.inj (ho.symm.trans hq)
      rw [own e he, other d (headOk_dst h1 hk hj ho hp hd2 hji)]
      exact fun b h1' h2' => apart j p d hj hlj hp hd2 hdA e he heA (Ap.symm hne) b h2' h1'
    · rw [getD_set_ne false (Ne.symm hki)] at hlk
      rw [other d (headOk_dst h1 hi hj ho hp hd2 hji), other e (headOk_dst h1 hi hk ho hq he hki)]
      exact hP j k p q d e hj hk hlj hlk hp hq hd2 he hdA heA hne
theorem wp_heads3 {M : Nat → Prop} {P : Program} {id : Nat} {Q : Exit → Act → World → Prop} {a₀ : Act} {w : World} {l : List Oper} {N : Nat} {L : List (Nat × Value)} (S : Slots N L a₀) (n : Nat) (E : List (Nat × StP M)) (I : World → Prop) (Ds : List (List Nat)) (outs : List Nat) (A : List Nat) (cls : List (Nat × Nat)) (hirr : ∀ d ∈ A, Ap cls d d = false) (hA : ∀ d ∈ A, ∀ u w, lookE E d u w → ∀ x, blks u x → x < w.heap.size) (tail : List Oper)
    (htl : tail = l.drop n) (hm : P.follows .mixedOrders = true) (hok : (headOk l.toArray n && depsOk l.toArray n 0 Ds && keysOk l.toArray n L && outsOk l.toArray n outs && tailOk l.toArray n) = true) (hlen : Ds.length = n) (hI : I { w with drawn := w.drawn + 1 })
    (step : stepsC A cls P l.toArray Q N L w E I 0 (l.take n) Ds)
    (fin : ∀ a w', Ch M w w' → I w' → Slots N L a → deps E a w' outs → (∀ d e, isHead l.toArray n d = true → isHead l.toArray n e = true → d ∈ A → e ∈ A → Ap cls d e = true → ∀ b, blks (a.tmps.getD d undef) b → ¬ blks (a.tmps.getD e undef) b) → wpList P l.toArray Q tail a w') : (Code.region id l.toArray true).wp P Q a₀ w := by
  simp only [Bool.and_eq_true] at hok
  obtain ⟨⟨⟨⟨h1, h2⟩, h3⟩, h4⟩, h5⟩ := hok
  have hn : n ≤ l.length := by
    simp only [tailOk, Bool.and_eq_true, decide_eq_true_eq] at h5
    simpa using h5.1.1
  refine wp_region_heads3 n (lookE E) (fun listed a w' => (Ch M w w' ∧ I w') ∧ PairsC A cls l.toArray n listed a) tail htl hm h1 h5 ⟨⟨(Ch.refl _).drew, hI⟩, fun j k p q d e _ _ hj => absurd (getD_replicate_false l.length j) (by simpa using hj)⟩ (heads3_step S n E I Ds A cls hirr hA h1 h2 h3 hlen hn step) ?_
  · intro a w' hC st
    refine fin a w' hC.1.1 hC.1.2 (S.base h3 st.size st.defers st.base) ?_ fun d e hd he hdA heA hne => ?_
    rotate_left
    · obtain ⟨j, p, g5, g6, g7⟩ := isHead_spec hd
      obtain ⟨k, q, f5, f6, f7⟩ := isHead_spec he
      exact hC.2 j k p q d e g5 f5 (by simp [Array.getElem?_append, g5]) (by simp [Array.getElem?_append, f5]) g6 f6 g7 f7 hdA heA hne
    have : ∀ outs', (∀ d ∈ outs', isHead l.toArray n d = true) → deps E a w' outs' := by
      intro outs'
      induction outs' with
      | nil => intro _; trivial
      | cons d r ih =>
        intro h
        obtain ⟨j, p, g5, g6, g7⟩ := isHead_spec (h d List.mem_cons_self)
        exact ⟨st.done j g5 (by simp [g5]) p d g6 g7, ih fun d hd => h d (List.mem_cons_of_mem _ hd)⟩
    exact this outs (List.all_eq_true.1 h4)
/-- append to a slice of the call's own that has no room: nothing old is written -/
theorem op_append0 {α : Type} {En : Enc α} {P : Program} {o : Oper} {a : Act} {w : World} {K : Act → World → Prop} {Q : Exit → Act → World → Prop} {D : Nat → Prop} {ts t : TypeId} {z0 : Nat} (s x : Operand) (ho : o.op = .call { callee := .builtin .append, args := #[s, x], argTypes := #[ts, ts] })
    (z : Value) (bytes : Nat) (ht : P.underlying ts = some (.slice t)) (hi : (P.info? t).map (fun i => (i.zero, i.size, i.bytes)) = some (some z, En.n, bytes)) (hzs : z.cells.size = En.n) {ad : Option Addr} (hs : a.eval s = .slice ad 0 0) (hb : ad = none ∨ ∃ b, ad = some ⟨b, 0, none⟩ ∧ z0 ≤ b ∧ Blk w.heap b [] t) (hz0 : z0 ≤ w.heap.size) (ys : List α)
    (sa : Option Addr) (sc : Nat) (hx : a.eval x = .slice sa ys.length sc) (hsrc : LAt En D w.heap sa ys) (h63 : ys.length ≤ maxLen) (hbytes : ys.length * bytes ≤ 140737488355328)
    (h : ∀ ad' cap' w', w'.ownsRow z0 t En.n (.slice ad' ys.length cap') ys.length (ys.flatMap En.cells) → Ch (In []) w w' → (∀ k, abk ad' k → abk ad k ∨ k = w.heap.size) → K (a.put o.dst (.slice ad' ys.length cap')) w') : o.wp P a w K Q := by
  obtain ⟨i0, hi0, hz0', hz1, hz2⟩ := info_of hi
  have hlen : (ys.flatMap En.cells).length = ys.length * En.n := flat_len En.len ys
  have key : ∃ ad' cap' w', (Builtin.append_ #[ts, ts] o.type #[.slice ad 0 0, .slice sa ys.length sc]).run P w = .ok (.slice ad' ys.length cap') w' ∧ w'.ownsRow z0 t En.n (.slice ad' ys.length cap') ys.length (ys.flatMap En.cells) ∧ Ch (In []) w w' ∧ (∀ k, abk ad' k → abk ad k ∨ k = w.heap.size) := by
    rcases Nat.eq_zero_or_pos ys.length with e | e
    · have hy : ys = [] := List.length_eq_zero_iff.1 e
      subst hy
      have hsrc0 : Src P i0.size ts (.slice sa 0 sc) 0 [] w := by
        cases sa with
        | none => exact Src.ofNil w ht sc
        | some p => exact Src.ofSlice w ht p 0 sc [] (by simp) (fun j u hj => by simp at hj) (fun u hu => by simp at hu)
      refine ⟨ad, 0, w, run_append_nothing w ts ts o.type t i0 ht hi0 ad 0 0 (Nat.le_refl _) _ hsrc0, ?_, Ch.refl _, fun k hk => .inl hk⟩
      rcases hb with rfl | ⟨b, rfl, hb1, hb2⟩
      · exact ⟨by simp, .inl ⟨rfl, rfl⟩⟩
      · exact (row_of_nil (E := En) (ms := []) (F := No) hb2 hb1).own
    · have h1 := (hsrc.ad e).1
      have hnews : ∀ j u, (ys.flatMap En.cells)[j]? = some u → w.cell? ((⟨blk sa, off sa, none⟩ : Addr).add j) = some u := fun j u hj => by
        have hj' := (List.getElem?_eq_some_iff.1 hj).1
        rw [hlen] at hj'
        have hn0 : 0 < En.n := by
          rcases Nat.eq_zero_or_pos En.n with q | q
          · rw [q, Nat.mul_zero] at hj'; omega
          · exact q
        have hm : j / En.n < ys.length := (Nat.div_lt_iff_lt_mul hn0).2 hj'
        have hdm : j / En.n * En.n + j % En.n = j := by rw [Nat.mul_comm]; exact Nat.div_add_mod j En.n
        have hmod : j % En.n < (En.cells (ys.getD (j / En.n) En.dflt)).length := by rw [En.len]; exact Nat.mod_lt _ hn0
        have h2 := flat_get En.len ys (j / En.n) hm (j % En.n) _ (List.getElem?_eq_getElem hmod)
        rw [hdm, hj] at h2
        have h3 := hsrc.cell (j / En.n) hm (j % En.n) u (by rw [List.getElem?_eq_getElem hmod]; exact h2.symm)
        rw [show off sa + j / En.n * En.n + j % En.n = off sa + j from by omega] at h3
        rw [addr_add]; exact h3
      have hge : ys.length ≤ grownCap w ys.length 0 t := grownCap_ge w ys.length 0 t
      have hcm : grownCap w ys.length 0 t ≤ maxLen := grownCap_le_maxLen w ys.length 0 t h63
      have hfin : ∀ q : Array Value, q = (ys.flatMap En.cells).toArray ++ Builtin.zeroCells z.cells (grownCap w ys.length 0 t - ys.length) → ((w.drew.alloc (.cells q t)).ownsRow z0 t En.n (.slice (some ⟨w.heap.size, 0, none⟩) ys.length (grownCap w ys.length 0 t)) ys.length (ys.flatMap En.cells)) ∧ Ch (In []) w (w.drew.alloc (.cells q t)) := fun q hq => by
        subst hq
        refine ⟨⟨hlen, .inr ⟨w.heap.size, _, _, rfl, hz0, heap_alloc_new w.drew _, hge, hcm, ?_, ?_⟩⟩, ⟨rfl, rfl, rfl, by simp, fun k hk _ => (by show (w.heap.push _)[k]? = _; rw [Array.getElem?_push_lt hk, Array.getElem?_eq_getElem hk])⟩⟩
        · simp only [Array.size_append, List.size_toArray, size_zeroCells, hzs, hlen, ← Nat.add_mul]
          congr 1
          omega
        · simp only [Array.toList_append]
          rw [← hlen]
          exact List.take_left
      have habk : ∀ k, abk (some ⟨w.heap.size, 0, none⟩) k → abk ad k ∨ k = w.heap.size := fun k hk => .inr (by rw [abk_one] at hk; exact hk)
      rw [h1]
      rcases hb with rfl | ⟨b, rfl, hb1, hb2⟩
      · have hr := run_append_nil (P := P) w ts o.type t i0 z ht hi0 hz0' ⟨blk sa, off sa, none⟩ ys.length sc _ (by rw [hz1]; exact hlen) hnews e (by simp only [maxLen] at h63; omega) (by rw [hz2]; omega)
        have hf := hfin _ rfl
        exact ⟨_, _, _, hr, hf.1, hf.2, habk⟩
      · have hr := run_append_grow (P := P) w ts o.type t i0 z ht hi0 hz0' ⟨b, 0, none⟩ 0 0 [] (by simp) (fun j v hj => by simp at hj) ⟨blk sa, off sa, none⟩ ys.length sc _ (by rw [hz1]; exact hlen) hnews (by omega) (by simp only [maxLen] at h63; omega) (growslice_fits (by omega) (by rw [hz2, Nat.zero_add]; omega))
        simp only [Nat.zero_add] at hr
        have hf := hfin (#[] ++ (ys.flatMap En.cells).toArray ++ Builtin.zeroCells z.cells (grownCap w ys.length 0 t - ys.length)) (by rw [Array.empty_append])
        exact ⟨_, _, _, hr, hf.1, hf.2, habk⟩
  obtain ⟨ad', cap', w', k1, k2, k3, k4⟩ := key
  unfold Oper.wp execOp
  simp only [ho, resolve, invoke, builtin, Sem.run_bind, Sem.run_pure, Result.andThen_ok, List.map_toArray, List.map_cons, List.map_nil, hs, hx, k1]
  exact h ad' cap' w' k2 k3 k4
/-! what is told of new blocks -/
section
variable {chg : List BS}
theorem own_ch {α : Type} {En : Enc α} {t : TypeId} {z0 cap : Nat} {ad : Option Addr} {ys : List α} {w w' : World} (c : Ch (In chg) w w') (hn : ∀ k, abk ad k → ¬ In chg k) (H : w.ownsRow z0 t En.n (.slice ad ys.length cap) ys.length (ys.flatMap En.cells)) : w'.ownsRow z0 t En.n (.slice ad ys.length cap) ys.length (ys.flatMap En.cells) := by
  refine ⟨H.1, ?_⟩
  rcases H.2 with h1 | ⟨b, c', cur, h1, h2, h3, h4⟩
  · exact .inl h1
  · refine .inr ⟨b, c', cur, h1, h2, ?_, h4⟩
    injection h1 with h1
    subst h1
    refine (c.block b ?_ (hn b rfl)).trans h3
    rcases Nat.lt_or_ge b w.heap.size with k | k
    · exact k
    · rw [Array.getElem?_eq_none k] at h3; cases h3
def rowT {α : Type} (En : Enc α) (t : TypeId) (z0 : Nat) (chg : List BS) (ys : List α) : Td (In chg) :=
  .of (fun z w => ∃ ad cap, z = .slice ad ys.length cap ∧ w.ownsRow z0 t En.n (.slice ad ys.length cap) ys.length (ys.flatMap En.cells) ∧ ∀ k, abk ad k → ¬ In chg k) fun _ _ _ c ⟨ad, cap, e, h, hn⟩ => ⟨ad, cap, e, own_ch c hn h, hn⟩
def nilT (t : TypeId) (z0 : Nat) (chg : List BS) : Td (In chg) :=
  .of (fun z w => ∃ b, z = .slice (some ⟨b, 0, none⟩) 0 0 ∧ Blk w.heap b [] t ∧ z0 ≤ b ∧ ¬ In chg b) fun _ _ _ c ⟨b, e, h, hn⟩ => ⟨b, e, h.tr c hn.2, hn⟩
def varT (cs : List Value) (t : TypeId) (z0 : Nat) (chg : List BS) : Td (In chg) :=
  .of (fun z w => ∃ b, z = .pointer (some ⟨b, 0, none⟩) ∧ Blk w.heap b cs t ∧ z0 ≤ b ∧ ¬ In chg b) fun _ _ _ c ⟨b, e, h, hn⟩ => ⟨b, e, h.tr c hn.2, hn⟩
def Owns (q : Td (In chg)) : Prop := ∀ u w, q.q.p u w → ∀ x, blks u x → x < w.heap.size
theorem own_lt {α : Type} {En : Enc α} {t : TypeId} {z0 cap : Nat} {ad : Option Addr} {ys : List α} {w : World} (H : w.ownsRow z0 t En.n (.slice ad ys.length cap) ys.length (ys.flatMap En.cells)) : ∀ x, blkOf (.slice ad ys.length cap) = some x → z0 ≤ x ∧ x < w.heap.size := fun x hx => by
  rcases H.2 with ⟨h1, _⟩ | ⟨b, c', cur, h1, h2, h3, h4⟩
  · injection h1 with h1; subst h1; cases hx
  · injection h1 with h1
    subst h1
    obtain rfl : b = x := Option.some.inj hx
    refine ⟨h2, ?_⟩
    rcases Nat.lt_or_ge b w.heap.size with k | k
    · exact k
    · rw [Array.getElem?_eq_none k] at h3; cases h3
theorem rowT_owns {α : Type} {En : Enc α} {t : TypeId} {z0 : Nat} {ys : List α} : Owns (rowT En t z0 chg ys) := fun _ _ ⟨_, _, e, h, _⟩ x hx => by rw [e] at hx; exact (own_lt h x hx).2
theorem nilT_owns {t : TypeId} {z0 : Nat} : Owns (nilT t z0 chg) := fun _ _ ⟨_, e, h, _⟩ x hx => by rw [e] at hx; cases hx; exact h.lt
theorem varT_owns {t : TypeId} {z0 : Nat} {cs : List Value} : Owns (varT cs t z0 chg) := fun _ _ ⟨_, e, h, _⟩ x hx => by rw [e] at hx; cases hx; exact h.lt
def OwnAll (E : List (Nat × Td (In chg))) : List Nat → Prop
  | [] => True
  | d :: r => (∃ q, lookT d E = some q ∧ Owns q) ∧ OwnAll E r
theorem OwnAll.get {E : List (Nat × Td (In chg))} : ∀ {A : List Nat}, OwnAll E A → ∀ d ∈ A, ∀ u w, lookE (tq E) d u w → ∀ x, blks u x → x < w.heap.size
  | _ :: _, h, d, hd, u, w, hl => (List.mem_cons.1 hd).elim (fun e => by subst e; obtain ⟨⟨q, h1, h2⟩, _⟩ := h; exact h2 u w ((look_tq h1).1 hl)) fun hd => OwnAll.get h.2 d hd u w hl
end
section
variable {P : Program} {ops : Array Oper} {F : Nat → Prop} {w0 W : World} {m0 chg : List BS} {n i : Nat} {L : List (Nat × Value)} {fs : List RF} {os : List OF} {o : Oper} {ty : TypeId} {pos : String} {af : Array Edge} {Q : Exit → Act → World → Prop} {E : List (Nat × Td (In chg))} {D A : List Nat} {cls : List (Nat × Nat)}
def HDC (A : List Nat) (cls : List (Nat × Nat)) (P : Program) (ops : Array Oper) (Q : Exit → Act → World → Prop) (F : Nat → Prop) (w0 W : World) (m0 : List BS) (n : Nat) (L : List (Nat × Value)) (fs : List RF) (os : List OF) {chg : List BS} (E : List (Nat × Td (In chg))) (i : Nat) (o : Oper) (D : List Nat) : Prop :=
  ∀ a w, St F w0 m0 n (cat (vals E D) L) fs os a w → Ch (In chg) W w → pdeps E a w D → PairD A cls D a → wpOp P ops Q i (DoneC A cls D o (tq E) (Mm F w0 m0 fs os) n a w) a w
def HSC (A : List Nat) (cls : List (Nat × Nat)) (P : Program) (ops : Array Oper) (Q : Exit → Act → World → Prop) (F : Nat → Prop) (w0 W : World) (m0 : List BS) (n : Nat) (L : List (Nat × Value)) (fs : List RF) (os : List OF) {chg : List BS} (E : List (Nat × Td (In chg))) : Nat → List Oper → List (List Nat) → Prop
  | i, o :: r, D :: Ds => HDC A cls P ops Q F w0 W m0 n L fs os E i o D ∧ HSC A cls P ops Q F w0 W m0 n L fs os E (i + 1) r Ds
  | _, _, _ => True
theorem HSC.steps : ∀ (l : List Oper) (Ds : List (List Nat)) (i : Nat), HSC A cls P ops Q F w0 W m0 n L fs os E i l Ds → stepsC A cls P ops Q n L W (tq E) (Mm F w0 m0 fs os) i l Ds
  | [], _, _, _ => by cases ‹List (List Nat)› <;> trivial
  | _ :: _, [], _, _ => trivial
  | o :: r, D :: Ds, i, h => ⟨fun a w hc hm s hd hp => by
      obtain ⟨h1, h2⟩ := deps_open s D hd
      exact h.1 a w ⟨h1, hm⟩ hc h2 hp, HSC.steps r Ds (i + 1) h.2⟩
theorem qdc (h : HD P ops Q F w0 W m0 n L fs os E i o D) (hA : ∀ d, o.dst = some d → d ∉ A := by intro d h; cases h; decide) : HDC A cls P ops Q F w0 W m0 n L fs os E i o D :=
  fun a w S G p _ => wpOp_mono (fun a' w' ⟨⟨v, h1, h2⟩, h3, h4⟩ => ⟨⟨v, h1, fun d hd => ⟨(h2 d hd).1, (h2 d hd).2, fun hm => absurd hm (hA d hd)⟩⟩, h3, h4⟩) (h a w S G p)
theorem hcb {d : Nat} {v : Value} {ob : Obj} {a : Act} {w : World} (M : Mm F w0 m0 fs os w) (h : (execOp a.eval o).run P w = .ok (.value v) (w.alloc ob)) (hv : ∀ b, blks v b → b = w.heap.size) (hd : o.dst = some d ∧ d < n) (ht : lookE (tq E) d v (w.alloc ob)) (hk : ops[i]? = some o ∧ o.guard = none) : wpOp P ops Q i (DoneC A cls D o (tq E) (Mm F w0 m0 fs os) n a w) a w :=
  head_op hk.1 hk.2 (op_val h ⟨⟨v, rfl, fun e he => by rw [hd.1] at he; cases he; exact ⟨hd.2, ht, fun _ b hb => .inl (by rw [hv b hb]; exact Nat.le_refl _)⟩⟩, (ch_alloc w ob).mono fun _ h => h.elim, M.k0 (ch_alloc w ob)⟩)
theorem not_chg {js : List Nat} {w : World} (S : Mm F w0 m0 fs os w) : ¬ In (picks (ow os) js) w.heap.size := fun h => absurd (S.c.ms.lt _ (in_picks h)) (Nat.lt_irrefl _)
/-- an empty literal -/
theorem hcn {d : Nat} {t e : TypeId} {z : Value} {by_ sz z0 : Nat} {js : List Nat} {E : List (Nat × Td (In (picks (ow os) js)))} (he : lookT d E = some (nilT e z0 (picks (ow os) js))) (hz : z0 = W.heap.size) (ht : P.underlying t = some (.slice e)) (hi : (P.info? e).map (fun i => (i.zero, i.size, i.bytes)) = some (some z, sz, by_))
    (hk : ops[i]? = some ⟨some d, .buildSlice t 0 #[], ty, pos, af, none⟩ ∧ d < n := by exact ⟨rfl, by decide⟩) : HDC A cls P ops Q F w0 W m0 n L fs os E i ⟨some d, .buildSlice t 0 #[], ty, pos, af, none⟩ D := fun a w S G _ _ =>
  hcb S.m (x_bsl0 ht hi) (fun b hb => (Option.some.inj hb).symm) ⟨rfl, hk.2⟩ ((look_tq he).2 ⟨_, rfl, Blk.new _ [] e, by rw [hz]; exact G.size, not_chg S.m⟩) ⟨hk.1, rfl⟩
/-- a variable -/
theorem hcv {d : Nat} {t : TypeId} {z : Value} {by_ sz z0 : Nat} {cs : List Value} {js : List Nat} {E : List (Nat × Td (In (picks (ow os) js)))} (he : lookT d E = some (varT cs t z0 (picks (ow os) js))) (hz : z0 = W.heap.size) (hi : (P.info? t).map (fun i => (i.zero, i.size, i.bytes)) = some (some z, sz, by_)) (hv : z.cells = cs.toArray)
    (hk : ops[i]? = some ⟨some d, .alloc t, ty, pos, af, none⟩ ∧ d < n := by exact ⟨rfl, by decide⟩) : HDC A cls P ops Q F w0 W m0 n L fs os E i ⟨some d, .alloc t, ty, pos, af, none⟩ D := fun a w S G _ _ =>
  hcb S.m (x_allocz cs hi hv) (fun b hb => (Option.some.inj hb).symm) ⟨rfl, hk.2⟩ ((look_tq he).2 ⟨_, rfl, Blk.new _ cs t, by rw [hz]; exact G.size, not_chg S.m⟩) ⟨hk.1, rfl⟩
/-- append to what has no room -/
theorem hca {α : Type} {En : Enc α} {d b : Nat} {t ts : TypeId} {z : Value} {bytes z0 : Nat} {ys : List α} {sa : Option Addr} {sc : Nat} {Dm : Nat → Prop} {s x : Operand} {js : List Nat} {E : List (Nat × Td (In (picks (ow os) js)))} {a : Act} {w : World} {L' : List (Nat × Value)} {rs' : List RF} (e : Nat) (S : St F w0 m0 n L' rs' os a w) (M : Mm F w0 m0 fs os w) (G : Ch (In (picks (ow os) js)) W w)
    (he : lookT d E = some (rowT En t z0 (picks (ow os) js) ys)) (hz0 : z0 = W.heap.size) (hb : a.tmps.getD e undef = .slice (some ⟨b, 0, none⟩) 0 0 ∧ Blk w.heap b [] t ∧ z0 ≤ b ∧ ¬ In (picks (ow os) js) b) (hs : evS L' s = some (.slice (some ⟨b, 0, none⟩) 0 0)) (hx : evS L' x = some (.slice sa ys.length sc)) (hsrc : LAt En Dm w.heap sa ys) (h63 : ys.length ≤ maxLen ∧ ys.length * bytes ≤ 140737488355328)
    (ht : P.underlying ts = some (.slice t)) (hi : (P.info? t).map (fun i => (i.zero, i.size, i.bytes)) = some (some z, En.n, bytes)) (hin : (D.contains e && A.contains e && A.all (fun k => !Ap cls d k || Ap cls e k)) = true) (hzs : z.cells.size = En.n := by rfl)
    (hk : ops[i]? = some ⟨some d, .call ⟨.builtin .append, #[s, x], #[ts, ts]⟩, ty, pos, af, none⟩ ∧ d < n := by exact ⟨rfl, by decide⟩) : wpOp P ops Q i (DoneC A cls D ⟨some d, .call ⟨.builtin .append, #[s, x], #[ts, ts]⟩, ty, pos, af, none⟩ (tq E) (Mm F w0 m0 fs os) n a w) a w := by
  simp only [Bool.and_eq_true, List.contains_iff_mem] at hin
  refine head_op hk.1 rfl (op_append0 (En := En) (z0 := z0) s x rfl z bytes ht hi hzs (S.e hs) (.inr ⟨b, rfl, hb.2.2.1, hb.2.1⟩) (by rw [hz0]; exact G.size) ys sa sc (S.e hx) hsrc h63.1 h63.2 fun ad' cap' w' h1 h2 h3 => ?_)
  refine ⟨⟨_, rfl, fun e' he' => ?_⟩, h2.mono fun _ h => h.elim, M.k0 h2⟩
  have hee : e' = d := (Option.some.inj he').symm
  subst hee
  refine ⟨hk.2, (look_tq he).2 ⟨ad', cap', rfl, h1, fun k hk' => (h3 k hk').elim (fun q => by rw [abk_one] at q; cases q; exact hb.2.2.2) fun q => by rw [q]; exact not_chg M⟩, fun _ k hk' => ?_⟩
  have hk2 : abk ad' k := by cases ad' with
    | none => cases hk'
    | some p => exact hk'
  rcases h3 k hk2 with q | q
  · rw [abk_one] at q; cases q
    refine .inr ⟨e, hin.1.1, hin.1.2, fun k hk hd' => ?_, by rw [hb.1]; rfl⟩
    have := List.all_eq_true.1 hin.2 k hk
    rw [hd'] at this; simpa using this
  · exact .inl (by omega)
theorem dr3 {id : Nat} {a : Act} {w : World} {l : List Oper} (S : St F w0 m0 n L fs os a w) (N : Nat) (A : List Nat) (cls : List (Nat × Nat)) (js : List Nat) (E : List (Nat × Td (In (picks (ow os) js)))) (Ds : List (List Nat)) (outs : List Nat) (tail : List Oper) (hA : OwnAll E A) (step : HSC A cls P l.toArray Q F w0 w m0 n L fs os E 0 (l.take N) Ds)
    (fin : ∀ a w', St F w0 m0 n (cat (vals E outs) L) fs os a w' → Ch (In (picks (ow os) js)) w w' → pdeps E a w' outs → (∀ d e, (A.contains d && A.contains e && Ap cls d e) = true → ∀ b, blks (a.tmps.getD d undef) b → ¬ blks (a.tmps.getD e undef) b) → wpList P l.toArray Q tail a w')
    (htl : tail = l.drop N := by rfl) (hm : P.follows .mixedOrders = true := by exact mixed) (hok : (headOk l.toArray N && depsOk l.toArray N 0 Ds && keysOk l.toArray N L && outsOk l.toArray N outs && tailOk l.toArray N) = true := by kernel_rfl) (hlen : Ds.length = N := by rfl) (hAh : A.all (isHead l.toArray N) = true := by kernel_rfl) (hirr : A.all (fun d => !Ap cls d d) = true := by decide) : (Code.region id l.toArray true).wp P Q a w :=
  wp_heads3 S.s N (tq E) (Mm F w0 m0 fs os) Ds outs A cls (fun d hd => by have := List.all_eq_true.1 hirr d hd; simpa using this) hA.get tail htl hm hok hlen S.m.drew (HSC.steps _ _ _ step) fun a w' hc hm s hd hp => by
    obtain ⟨h1, h2⟩ := deps_open s outs hd
    refine fin a w' ⟨h1, hm⟩ hc h2 fun d e hde => ?_
    simp only [Bool.and_eq_true, List.contains_iff_mem] at hde
    have hh := List.all_eq_true.1 hAh
    exact hp d e (hh d hde.1.1) (hh e hde.1.2) hde.1.1 hde.1.2 hde.2
/-- the new blocks become the call's own -/
theorem St.ownM {a a0 : Act} {w : World} {L0 : List (Nat × Value)} (S0 : St F w0 m0 n L0 fs os a0 W) (S : St F w0 m0 n L fs os a w) (js : List Nat) (G : Ch (In (picks (ow os) js)) W w) (hj : ∀ j f, j ∈ js → nth os j = some f → ∀ V1 V2, f.p F V1 w → f.p F V2 w) (nw : List OF) (hsep : Sep (ow nw)) (hn : ∀ f ∈ nw, ∀ k, f.o k → W.heap.size ≤ k ∧ k < w.heap.size)
    (hp : Mv (In (ow os)) (In (ow os ++ ow nw)) W.heap w.heap → ∀ f ∈ nw, f.p F (In (ow os ++ ow nw)) w) : St F w0 m0 n L fs (os ++ nw) a w := by
  have hn' : ∀ k, In (ow nw) k → W.heap.size ≤ k ∧ k < w.heap.size := fun k hk => by
    obtain ⟨o, h1, h2⟩ := in_ex hk
    rw [ow_map] at h1
    obtain ⟨f, h3, rfl⟩ := List.mem_map.1 h1
    exact hn f h3 k h2
  have hin : ∀ k, In (ow nw) k → ¬ In (ow os) k := fun k h1 h2 => by have := hn' k h1; have := S0.M.lt k h2; omega
  have hMS : ∀ (x : List BS), Sep x → (∀ k, In x k → W.heap.size ≤ k ∧ k < w.heap.size) → (∀ k, In x k → ¬ In (ow os) k) → MS (x ++ ow os) w := by
    intro x
    induction x with
    | nil => intro _ _ _; exact S.M
    | cons o r ih =>
      intro s h1 h2
      exact (ih s.2 (fun k hk => h1 k (.inr hk)) (fun k hk => h2 k (.inr hk))).cons fun k hk => ⟨(h1 k (.inl hk)).2, fun hm => (in_app.1 hm).elim (s.1 k hk) (h2 k (.inl hk))⟩
  have M := hMS _ hsep hn' hin
  have T : Tr (ow os) W (ow os ++ ow nw) w := Tr.comm ⟨G.mono fun k hk => in_picks hk, fun k hk => (in_app.1 hk).elim (fun h => .inr (hn' k h).1) .inl, M⟩
  have T0 : Tr m0 w0 (ow os ++ ow nw) w := Tr.comm ⟨S.m.c.ch, fun k hk => (in_app.1 hk).elim (fun h => .inr (Nat.le_trans S0.m.c.size (hn' k h).1)) (S.m.c.sub k), M⟩
  refine ⟨S.s, by rw [ow_app]; exact T0, S.m.f, fun f hf => by rw [ow_app]; exact f.st T.mv (S0.m.r f hf), fun f hf => ?_⟩
  rw [ow_app]
  rcases List.mem_append.1 hf with h | h
  · obtain ⟨i, hi⟩ := idx_of h
    by_cases hc : js.contains i = true
    · exact hj i f (List.contains_iff_mem.1 hc) hi _ _ (S.m.o f h)
    · exact f.st T.mv (fun k hk ho => G.block k hk fun hm => S0.m.sep hi js (by simpa using hc) ho hm) (S0.m.o f h)
  · exact hp T.mv f h
/-- a head that only computes, of new blocks -/
theorem hcx {d : Nat} {v : Value} {a : Act} {w : World} (M : Mm F w0 m0 fs os w) (h : (execOp a.eval o).run P w = .ok (.value v) w) (hd : o.dst = some d ∧ d < n) (ht : lookE (tq E) d v w) (hin : ∀ b, blks v b → ∃ e, (D.contains e && A.contains e && A.all (fun k => !Ap cls d k || Ap cls e k)) = true ∧ blks (a.tmps.getD e undef) b) (hk : ops[i]? = some o ∧ o.guard = none := by exact ⟨rfl, rfl⟩) : wpOp P ops Q i (DoneC A cls D o (tq E) (Mm F w0 m0 fs os) n a w) a w :=
  head_op hk.1 hk.2 (op_val h ⟨⟨v, rfl, fun e he => by
    rw [hd.1] at he; cases he
    refine ⟨hd.2, ht, fun _ b hb => ?_⟩
    obtain ⟨e, h1, h2⟩ := hin b hb
    simp only [Bool.and_eq_true, List.contains_iff_mem] at h1
    refine .inr ⟨e, h1.1.1, h1.1.2, fun k hk hd' => ?_, h2⟩
    have := List.all_eq_true.1 h1.2 k hk
    rw [hd'] at this; simpa using this⟩, Ch.refl _, M⟩)
end
theorem Row.lower3 {α : Type} {En : Enc α} {t : TypeId} {z0 b cap : Nat} {w : World} {ad : Option Addr} {ys : List α} (h : w.ownsRow z0 t En.n (.slice ad ys.length cap) ys.length (ys.flatMap En.cells)) (hb : b ≤ z0) : w.ownsRow b t En.n (.slice ad ys.length cap) ys.length (ys.flatMap En.cells) :=
  ⟨h.1, h.2.imp id fun ⟨g, c, cur, h1, h2, h3⟩ => ⟨g, c, cur, h1, Nat.le_trans hb h2, h3⟩⟩
theorem row_blk {α : Type} {En : Enc α} {t : TypeId} {z0 cap : Nat} {w : World} {ad : Option Addr} {ys : List α} (h : w.ownsRow z0 t En.n (.slice ad ys.length cap) ys.length (ys.flatMap En.cells)) : ∀ k, abk ad k → z0 ≤ k ∧ k < w.heap.size := fun k hk => by
  refine own_lt h k ?_
  cases ad with
  | none => cases hk
  | some p => exact hk
theorem var_blk {z0 b : Nat} {w : World} {cs : List Value} {t : TypeId} (h : Blk w.heap b cs t) (hz : z0 ≤ b) : ∀ k, one b k → z0 ≤ k ∧ k < w.heap.size := fun k hk => by
  cases hk; exact ⟨hz, h.lt⟩
theorem abk_blks {ad : Option Addr} {q c k : Nat} {u : Value} (e : u = .slice ad q c) (h : abk ad k) : blks u k := by
  subst e; cases ad with
  | none => cases h
  | some p => exact h
theorem abk_agg {vs : List Value} {ad : Option Addr} {q c k : Nat} {u : Value} (e : u = .agg vs.toArray) (hv : .slice ad q c ∈ vs) (h : abk ad k) : blks u k := by
  subst e; cases ad with
  | none => cases h
  | some p => exact ⟨.slice (some p) q c, by simpa using hv, h⟩
theorem one_blks {b k : Nat} {u : Value} (e : u = .pointer (some ⟨b, 0, none⟩)) (h : one b k) : blks u k := by subst e; cases h; rfl
theorem blk_abk {ad : Option Addr} {q c k : Nat} (h : blkOf (.slice ad q c) = some k) : abk ad k := by
  cases ad with
  | none => cases h
  | some p => exact h
def agg2T {α1 : Type} {α2 : Type} (E1 : Enc α1) (t1 : TypeId) (ys1 : List α1) (E2 : Enc α2) (t2 : TypeId) (ys2 : List α2) (vs : Value → Value → List Value) (z0 : Nat) (chg : List BS) : Td (In chg) :=
  .of (fun z w => ∃ (ad1 : Option Addr) (c1 : Nat) (ad2 : Option Addr) (c2 : Nat), z = .agg (vs (.slice ad1 ys1.length c1) (.slice ad2 ys2.length c2)).toArray ∧ w.ownsRow z0 t1 E1.n (.slice ad1 ys1.length c1) ys1.length (ys1.flatMap E1.cells) ∧ (∀ k, abk ad1 k → ¬ In chg k) ∧ w.ownsRow z0 t2 E2.n (.slice ad2 ys2.length c2) ys2.length (ys2.flatMap E2.cells) ∧ (∀ k, abk ad2 k → ¬ In chg k) ∧ (∀ k, abk ad1 k → ¬ abk ad2 k)) fun _ _ _ c ⟨ad1, c1, ad2, c2, e, h1, n1, h2, n2, d12⟩ => ⟨ad1, c1, ad2, c2, e, own_ch c n1 h1, n1, own_ch c n2 h2, n2, d12⟩
theorem agg2T_owns {α1 : Type} {α2 : Type} {E1 : Enc α1} {t1 : TypeId} {ys1 : List α1} {E2 : Enc α2} {t2 : TypeId} {ys2 : List α2} {vs : Value → Value → List Value} {z0 : Nat} {chg : List BS} (hvs : ∀ x1 x2 v, v ∈ vs x1 x2 → v = x1 ∨ v = x2 ∨ blkOf v = none) : Owns (agg2T E1 t1 ys1 E2 t2 ys2 vs z0 chg) := fun u w ⟨ad1, c1, ad2, c2, e, h1, n1, h2, n2, d12⟩ x hx => by
  subst e
  obtain ⟨v, hv, hb⟩ := hx
  rcases hvs _ _ v (by simpa using hv) with q | q | q
  · subst q; exact (own_lt h1 x hb).2
  · subst q; exact (own_lt h2 x hb).2
  · rw [q] at hb; cases hb
theorem hag2 {P : Program} {ops : Array Oper} {F : Nat → Prop} {w0 : World} {m0 chg : List BS} {n i : Nat} {fs : List RF} {os : List OF} {o : Oper} {Q : Exit → Act → World → Prop} {E : List (Nat × Td (In chg))} {D A : List Nat} {cls : List (Nat × Nat)} {α1 : Type} {α2 : Type} {E1 : Enc α1} {t1 : TypeId} {ys1 : List α1} {E2 : Enc α2} {t2 : TypeId} {ys2 : List α2} {vs : Value → Value → List Value} {z0 : Nat} {a : Act} {w : World} {ad1 : Option Addr} {c1 : Nat} {ad2 : Option Addr} {c2 : Nat} (d e1 e2 : Nat) (M : Mm F w0 m0 fs os w) (he : lookT d E = some (agg2T E1 t1 ys1 E2 t2 ys2 vs z0 chg)) (k1 : a.tmps.getD e1 undef = (.slice ad1 ys1.length c1) ∧ w.ownsRow z0 t1 E1.n (.slice ad1 ys1.length c1) ys1.length (ys1.flatMap E1.cells) ∧ (∀ k, abk ad1 k → ¬ In chg k)) (k2 : a.tmps.getD e2 undef = (.slice ad2 ys2.length c2) ∧ w.ownsRow z0 t2 E2.n (.slice ad2 ys2.length c2) ys2.length (ys2.flatMap E2.cells) ∧ (∀ k, abk ad2 k → ¬ In chg k)) (hQ : PairD A cls D a)
    (h : (execOp a.eval o).run P w = .ok (.value (.agg (vs (.slice ad1 ys1.length c1) (.slice ad2 ys2.length c2)).toArray)) w) (hin : ((D.contains e1 && A.contains e1 && A.all (fun k => !Ap cls d k || Ap cls e1 k)) && (D.contains e2 && A.contains e2 && A.all (fun k => !Ap cls d k || Ap cls e2 k)) && Ap cls e1 e2) = true) (hvs : ∀ x1 x2 v, v ∈ vs x1 x2 → v = x1 ∨ v = x2 ∨ blkOf v = none) (hd : o.dst = some d ∧ d < n := by exact ⟨rfl, by decide⟩) (hk : ops[i]? = some o ∧ o.guard = none := by exact ⟨rfl, rfl⟩) : wpOp P ops Q i (DoneC A cls D o (tq E) (Mm F w0 m0 fs os) n a w) a w := by
  simp only [Bool.and_eq_true] at hin
  refine hcx M h hd ((look_tq he).2 ⟨ad1, c1, ad2, c2, rfl, k1.2.1, k1.2.2, k2.2.1, k2.2.2, fun k a1 a2 => hQ e1 e2 (by simp only [Bool.and_eq_true]; simp_all) k (abk_blks k1.1 a1) (abk_blks k2.1 a2)⟩) (fun b hb => ?_) hk
  obtain ⟨v, hv, hb⟩ := hb
  rcases hvs _ _ v (by simpa using hv) with q | q | q
  · subst q; exact ⟨e1, by simp only [Bool.and_eq_true]; simp_all, abk_blks k1.1 (blk_abk hb)⟩
  · subst q; exact ⟨e2, by simp only [Bool.and_eq_true]; simp_all, abk_blks k2.1 (blk_abk hb)⟩
  · rw [q] at hb; cases hb
def agg3T {α1 : Type} {α2 : Type} {α3 : Type} (E1 : Enc α1) (t1 : TypeId) (ys1 : List α1) (E2 : Enc α2) (t2 : TypeId) (ys2 : List α2) (E3 : Enc α3) (t3 : TypeId) (ys3 : List α3) (vs : Value → Value → Value → List Value) (z0 : Nat) (chg : List BS) : Td (In chg) :=
  .of (fun z w => ∃ (ad1 : Option Addr) (c1 : Nat) (ad2 : Option Addr) (c2 : Nat) (ad3 : Option Addr) (c3 : Nat), z = .agg (vs (.slice ad1 ys1.length c1) (.slice ad2 ys2.length c2) (.slice ad3 ys3.length c3)).toArray ∧ w.ownsRow z0 t1 E1.n (.slice ad1 ys1.length c1) ys1.length (ys1.flatMap E1.cells) ∧ (∀ k, abk ad1 k → ¬ In chg k) ∧ w.ownsRow z0 t2 E2.n (.slice ad2 ys2.length c2) ys2.length (ys2.flatMap E2.cells) ∧ (∀ k, abk ad2 k → ¬ In chg k) ∧ w.ownsRow z0 t3 E3.n (.slice ad3 ys3.length c3) ys3.length (ys3.flatMap E3.cells) ∧ (∀ k, abk ad3 k → ¬ In chg k) ∧ (∀ k, abk ad1 k → ¬ abk ad2 k) ∧ (∀ k, abk ad1 k → ¬ abk ad3 k) ∧ (∀ k, abk ad2 k → ¬ abk ad3 k)) fun _ _ _ c ⟨ad1, c1, ad2, c2, ad3, c3, e, h1, n1, h2, n2, h3, n3, d12, d13, d23⟩ => ⟨ad1, c1, ad2, c2, ad3, c3, e, own_ch c n1 h1, n1, own_ch c n2 h2, n2, own_ch c n3 h3, n3, d12, d13, d23⟩
theorem agg3T_owns {α1 : Type} {α2 : Type} {α3 : Type} {E1 : Enc α1} {t1 : TypeId} {ys1 : List α1} {E2 : Enc α2} {t2 : TypeId} {ys2 : List α2} {E3 : Enc α3} {t3 : TypeId} {ys3 : List α3} {vs : Value → Value → Value → List Value} {z0 : Nat} {chg : List BS} (hvs : ∀ x1 x2 x3 v, v ∈ vs x1 x2 x3 → v = x1 ∨ v = x2 ∨ v = x3 ∨ blkOf v = none) : Owns (agg3T E1 t1 ys1 E2 t2 ys2 E3 t3 ys3 vs z0 chg) := fun u w ⟨ad1, c1, ad2, c2, ad3, c3, e, h1, n1, h2, n2, h3, n3, d12, d13, d23⟩ x hx => by
  subst e
  obtain ⟨v, hv, hb⟩ := hx
  rcases hvs _ _ _ v (by simpa using hv) with q | q | q | q
  · subst q; exact (own_lt h1 x hb).2
  · subst q; exact (own_lt h2 x hb).2
  · subst q; exact (own_lt h3 x hb).2
  · rw [q] at hb; cases hb
theorem hag3 {P : Program} {ops : Array Oper} {F : Nat → Prop} {w0 : World} {m0 chg : List BS} {n i : Nat} {fs : List RF} {os : List OF} {o : Oper} {Q : Exit → Act → World → Prop} {E : List (Nat × Td (In chg))} {D A : List Nat} {cls : List (Nat × Nat)} {α1 : Type} {α2 : Type} {α3 : Type} {E1 : Enc α1} {t1 : TypeId} {ys1 : List α1} {E2 : Enc α2} {t2 : TypeId} {ys2 : List α2} {E3 : Enc α3} {t3 : TypeId} {ys3 : List α3} {vs : Value → Value → Value → List Value} {z0 : Nat} {a : Act} {w : World} {ad1 : Option Addr} {c1 : Nat} {ad2 : Option Addr} {c2 : Nat} {ad3 : Option Addr} {c3 : Nat} (d e1 e2 e3 : Nat) (M : Mm F w0 m0 fs os w) (he : lookT d E = some (agg3T E1 t1 ys1 E2 t2 ys2 E3 t3 ys3 vs z0 chg)) (k1 : a.tmps.getD e1 undef = (.slice ad1 ys1.length c1) ∧ w.ownsRow z0 t1 E1.n (.slice ad1 ys1.length c1) ys1.length (ys1.flatMap E1.cells) ∧ (∀ k, abk ad1 k → ¬ In chg k)) (k2 : a.tmps.getD e2 undef = (.slice ad2 ys2.length c2) ∧ w.ownsRow z0 t2 E2.n (.slice ad2 ys2.length c2) ys2.length (ys2.flatMap E2.cells) ∧ (∀ k, abk ad2 k → ¬ In chg k)) (k3 : a.tmps.getD e3 undef = (.slice ad3 ys3.length c3) ∧ w.ownsRow z0 t3 E3.n (.slice ad3 ys3.length c3) ys3.length (ys3.flatMap E3.cells) ∧ (∀ k, abk ad3 k → ¬ In chg k)) (hQ : PairD A cls D a)
    (h : (execOp a.eval o).run P w = .ok (.value (.agg (vs (.slice ad1 ys1.length c1) (.slice ad2 ys2.length c2) (.slice ad3 ys3.length c3)).toArray)) w) (hin : ((D.contains e1 && A.contains e1 && A.all (fun k => !Ap cls d k || Ap cls e1 k)) && (D.contains e2 && A.contains e2 && A.all (fun k => !Ap cls d k || Ap cls e2 k)) && (D.contains e3 && A.contains e3 && A.all (fun k => !Ap cls d k || Ap cls e3 k)) && Ap cls e1 e2 && Ap cls e1 e3 && Ap cls e2 e3) = true) (hvs : ∀ x1 x2 x3 v, v ∈ vs x1 x2 x3 → v = x1 ∨ v = x2 ∨ v = x3 ∨ blkOf v = none) (hd : o.dst = some d ∧ d < n := by exact ⟨rfl, by decide⟩) (hk : ops[i]? = some o ∧ o.guard = none := by exact ⟨rfl, rfl⟩) : wpOp P ops Q i (DoneC A cls D o (tq E) (Mm F w0 m0 fs os) n a w) a w := by
  simp only [Bool.and_eq_true] at hin
  refine hcx M h hd ((look_tq he).2 ⟨ad1, c1, ad2, c2, ad3, c3, rfl, k1.2.1, k1.2.2, k2.2.1, k2.2.2, k3.2.1, k3.2.2, fun k a1 a2 => hQ e1 e2 (by simp only [Bool.and_eq_true]; simp_all) k (abk_blks k1.1 a1) (abk_blks k2.1 a2), fun k a1 a2 => hQ e1 e3 (by simp only [Bool.and_eq_true]; simp_all) k (abk_blks k1.1 a1) (abk_blks k3.1 a2), fun k a1 a2 => hQ e2 e3 (by simp only [Bool.and_eq_true]; simp_all) k (abk_blks k2.1 a1) (abk_blks k3.1 a2)⟩) (fun b hb => ?_) hk
  obtain ⟨v, hv, hb⟩ := hb
  rcases hvs _ _ _ v (by simpa using hv) with q | q | q | q
  · subst q; exact ⟨e1, by simp only [Bool.and_eq_true]; simp_all, abk_blks k1.1 (blk_abk hb)⟩
  · subst q; exact ⟨e2, by simp only [Bool.and_eq_true]; simp_all, abk_blks k2.1 (blk_abk hb)⟩
  · subst q; exact ⟨e3, by simp only [Bool.and_eq_true]; simp_all, abk_blks k3.1 (blk_abk hb)⟩
  · rw [q] at hb; cases hb
end Go.Proofs.Ytobggnpnochnnaa.V
/- Strings put together; a cell of the library that everybody may read. -/
namespace Go.Proofs.Ytobggnpnochnnaa.V
open Go.RowKit
theorem ba_sz (a : Array UInt8) : (⟨a⟩ : ByteArray).size = a.size := rfl
section
variable {P : Program} {a : Act} {w : World} {d : Option Tmp} {ty : TypeId} {pos : String} {af : Array Edge} {g : Option (Nat × Bool)}
theorem x_sadd {x y : Operand} {xt yt : TypeId} {s t : ByteArray} (hx : a.eval x = .string s) (hy : a.eval y = .string t) (h : s.size + t.size ≤ 9223372036854775807) : (execOp a.eval ⟨d, .binOp .add xt x y yt, ty, pos, af, g⟩).run P w = .ok (.value (.string (s ++ t))) w := by
  have h' : ¬ ((s.size + t.size : Nat) : Int) > IntKind.i64.max := by
    show ¬ ((s.size + t.size : Nat) : Int) > 9223372036854775807
    omega
  simp only [execOp, eqGuard, binOp, Op.stringOp, hx, hy, if_neg h']
  rfl
theorem x_sslh {x y : Operand} {t : TypeId} {s : ByteArray} {k : IntKind} {i : Int} (ht : P.underlying t = some .string) (hx : a.eval x = .string s) (hy : a.eval y = .int k i) (m : Nat) (hm : i = (m : Int)) (hl : m ≤ s.size) : (execOp a.eval ⟨d, .slice t x none (some y) none, ty, pos, af, g⟩).run P w = .ok (.value (.string (s.extract 0 m))) w := by
  subst hm
  have h1 := run_slice_string_h (P := P) w t s ht k (m : Int) (by omega) (by omega)
  rw [Int.toNat_natCast] at h1
  simp [execOp, hx, hy, run_sliceAt_string _ t _ _ _ _ ht, h1]
theorem ext_sz (s : ByteArray) {m : Nat} (h : m ≤ s.size) : (s.extract 0 m).size = m := by rw [ByteArray.size_extract]; omega
end
/-- the number that the library lays in its first cell -/
def hasML (h : Array Obj) : Prop := ∃ m : Int, hcell h 0 0 = some (.int .i64 m)
theorem hasML.keep {h h' : Array Obj} (H : hasML h) (k : h'[0]? = h[0]?) : hasML h' := by
  obtain ⟨m, hm⟩ := H
  refine ⟨m, ?_⟩
  unfold hcell at hm ⊢
  rw [k]; exact hm
theorem hasML.pos {h : Array Obj} (H : hasML h) : 0 < h.size := by
  obtain ⟨m, hm⟩ := H
  rcases Nat.eq_zero_or_pos h.size with e | e
  · unfold hcell at hm
    rw [Array.getElem?_eq_none (by omega)] at hm
    cases hm
  · exact e
def glF : RF := ⟨fun _ W h => ¬ W 0 ∧ hasML h, fun m H => ⟨(m.2 0 H.2.pos H.1).2, H.2.keep (m.2 0 H.2.pos H.1).1⟩⟩
theorem St.gl {F : Nat → Prop} {w0 w : World} {m0 : List BS} {n : Nat} {L : List (Nat × Value)} {rs : List RF} {os : List OF} {a : Act} (S : St F w0 m0 n L rs os a w) (i : Nat) (h : nth rs i = some glF) : hasML w.heap := (S.m.r _ (nth_mem h)).2
end Go.Proofs.Ytobggnpnochnnaa.V
/- Objects: facts of the call's own behind a pointer, bundled. -/
namespace Go.Proofs.Ytobggnpnochnnaa.V
open Go.RowKit
/-- a fact that stands where less may be written -/
def OF.Mo (f : OF) : Prop := ∀ {F W F' W' : Nat → Prop} {w : World}, (∀ k, W' k ∨ F' k → W k ∨ F k) → f.p F W w → f.p F' W' w
theorem wf_mo {α : Type} (E : Enc α) {F W F' W' : Nat → Prop} {h : Array Obj} {x : α} (s : ∀ k, W' k ∨ F' k → W k ∨ F k) (H : E.wf (Fw F W) h x) : E.wf (Fw F' W') h x :=
  E.mono (fun k _ g => ⟨fun e => (s k (.inl e)).elim g.1 g.2, fun e => (s k (.inr e)).elim g.1 g.2⟩) H
theorem mo_no : noO.Mo := fun _ h => h
theorem mo_bl {b : Nat} {cs : List Value} {t : TypeId} : (blO b cs t).Mo := fun _ h => h
theorem mo_tp {t : TypeId} {T : Nat} {tl : Sl Int} : (tpO t T tl).Mo := fun _ h => h
theorem mo_rw {α : Type} {E : Enc α} {t : TypeId} {base : Nat} {ad : Option Addr} {cap : Nat} {xs : List α} : (rwO E t base ad cap xs).Mo := fun s h => ⟨h.1, fun x hx => wf_mo E s (h.2 x hx)⟩
/-- data that is read, as a fact of an object -/
def daO {α : Type} (E : Enc α) (x : α) : OF := ⟨fun _ => False, fun F W w => E.wf (Fw F W) w.heap x, fun m _ H => E.mv m H⟩
theorem mo_da {α : Type} {E : Enc α} {x : α} : (daO E x).Mo := fun s h => wf_mo E s h
def AllMo : List OF → Prop
  | [] => True
  | f :: r => f.Mo ∧ AllMo r
theorem AllMo.get : ∀ {fs : List OF}, AllMo fs → ∀ f ∈ fs, OF.Mo f
  | g :: r, h, f, hf => by
    rcases List.mem_cons.1 hf with e | e
    · subst e; exact h.1
    · exact AllMo.get h.2 f e
def AllP (F W : Nat → Prop) (w : World) : List OF → Prop
  | [] => True
  | f :: r => f.p F W w ∧ AllP F W w r
theorem AllP.get {F W : Nat → Prop} {w : World} : ∀ {fs : List OF}, AllP F W w fs → ∀ f ∈ fs, f.p F W w
  | _ :: _, h, f, hf => (List.mem_cons.1 hf).elim (fun e => e ▸ h.1) (h.2.get f)
/-- a bundle of facts -/
def bnO (fs : List OF) : OF :=
  ⟨In (ow fs), fun F W w => Sep (ow fs) ∧ ∀ f ∈ fs, f.p F W w, fun m h H => ⟨H.1, fun f hf => f.st m (fun k hk ho => h k hk (in_mem (ow_mem hf) ho)) (H.2 f hf)⟩⟩
theorem mo_bn {fs : List OF} (h : AllMo fs) : (bnO fs).Mo := fun s H => ⟨H.1, fun f hf => h.get f hf s (H.2 f hf)⟩
theorem sep_app {x y : List BS} : Sep (x ++ y) ↔ Sep x ∧ Sep y ∧ ∀ k, In x k → ¬ In y k := by
  induction x with
  | nil => exact ⟨fun h => ⟨trivial, h, fun k h => h.elim⟩, fun h => h.2.1⟩
  | cons o r ih =>
    show (_ ∧ Sep (r ++ y)) ↔ (_ ∧ Sep r) ∧ Sep y ∧ _
    rw [ih]
    constructor
    · rintro ⟨h1, h2, h3, h4⟩
      exact ⟨⟨fun k hk hm => h1 k hk (in_app.2 (.inl hm)), h2⟩, h3, fun k hk hm => hk.elim (fun e => h1 k e (in_app.2 (.inr hm))) fun e => h4 k e hm⟩
    · rintro ⟨⟨h1, h2⟩, h3, h4⟩
      exact ⟨fun k hk hm => (in_app.1 hm).elim (h1 k hk) (h4 k (.inl hk)), h2, h3, fun k hk => h4 k (.inr hk)⟩
section
variable {F : Nat → Prop} {w0 w w' : World} {m0 : List BS} {n : Nat} {L L' : List (Nat × Value)} {rs : List RF} {ks fs os : List OF} {a a' : Act}
theorem in_bn {k : Nat} : In (ow (ks ++ [bnO fs])) k ↔ In (ow (ks ++ fs)) k := by
  rw [ow_app, ow_app]
  exact ⟨fun h => in_app.2 ((in_app.1 h).imp id fun h => h.elim id False.elim), fun h => in_app.2 ((in_app.1 h).imp id .inl)⟩
/-- a bundle is taken apart -/
theorem St.opn (S : St F w0 m0 n L rs (ks ++ [bnO fs]) a w) : St F w0 m0 n L rs (ks ++ fs) a w := by
  obtain ⟨h3, h4⟩ := S.m.o (bnO fs) (List.mem_append_right _ List.mem_cons_self)
  have hM := S.M
  have hs := hM.sep
  rw [ow_app] at hs
  obtain ⟨g1, _, g3⟩ := sep_app.1 hs
  have T : Tr (ow (ks ++ [bnO fs])) w (ow (ks ++ fs)) w := by
    refine ⟨Ch.refl w, fun k hk => .inl (in_bn.2 hk), ⟨fun k hk => hM.lt k (in_bn.2 hk), ?_⟩⟩
    rw [ow_app]
    exact sep_app.2 ⟨g1, h3, fun k hk hm => g3 k hk (.inl hm)⟩
  refine ⟨S.s, S.m.go T fun f hf => ?_⟩
  rcases List.mem_append.1 hf with h | h
  · exact f.st T.mv (fun _ _ _ => rfl) (S.m.o f (List.mem_append_left _ h))
  · exact f.st T.mv (fun _ _ _ => rfl) (h4 f h)
/-- .. and put together -/
theorem St.cls (S : St F w0 m0 n L rs (ks ++ fs) a w) : St F w0 m0 n L rs (ks ++ [bnO fs]) a w := by
  have hM := S.M
  have hs := hM.sep
  rw [ow_app] at hs
  obtain ⟨g1, g2, g3⟩ := sep_app.1 hs
  have T : Tr (ow (ks ++ fs)) w (ow (ks ++ [bnO fs])) w := by
    refine ⟨Ch.refl w, fun k hk => .inl (in_bn.1 hk), ⟨fun k hk => hM.lt k (in_bn.1 hk), ?_⟩⟩
    rw [ow_app]
    exact sep_app.2 ⟨g1, ⟨fun k _ h => h, trivial⟩, fun k hk hm => g3 k hk (hm.elim id False.elim)⟩
  refine ⟨S.s, S.m.go T fun f hf => ?_⟩
  rcases List.mem_append.1 hf with h' | h'
  · exact f.st T.mv (fun _ _ _ => rfl) (S.m.o f (List.mem_append_left _ h'))
  · obtain rfl : f = _ := by simpa using h'
    exact ⟨g2, fun q hq => q.st T.mv (fun _ _ _ => rfl) (S.m.o q (List.mem_append_right _ hq))⟩
theorem own_b0 {w : World} {base n : Nat} {t : TypeId} {v : Value} {l : Nat} {cs : List Value} (h : w.ownsRow base t n v l cs) : w.ownsRow 0 t n v l cs := ⟨h.1, h.2.imp id fun ⟨g, c, cur, h1, h2, h3⟩ => ⟨g, c, cur, h1, Nat.zero_le _, h3⟩⟩
theorem Row.b0 {α : Type} {E : Enc α} {t : TypeId} {base : Nat} {ms : List BS} {ad : Option Addr} {cap : Nat} {xs : List α} (r : Row E t base F ms w ad cap xs) : Row E t 0 F ms w ad cap xs := ⟨own_b0 r.own, r.wf⟩
theorem St.b0 {α : Type} {E : Enc α} {t : TypeId} {base : Nat} {ad : Option Addr} {cap : Nat} {xs : List α} (S : St F w0 m0 n L rs os a w) (i : Nat) (hi : nth os i = some (rwO E t base ad cap xs)) : St F w0 m0 n L rs (os.set i (rwO E t 0 ad cap xs)) a w :=
  have H := S.m.o _ (nth_mem hi)
  S.k1s i hi (rwO E t 0 ad cap xs) rfl S.s (Ch.refl w) ⟨own_b0 H.1, H.2⟩
theorem St.da {α : Type} {E : Enc α} {x : α} (S : St F w0 m0 n L rs os a w) (i : Nat) (h : nth os i = some (daO E x)) : E.wf (Fr F (ow os)) w.heap x := S.m.o _ (nth_mem h)
/-- data that is known is laid among the own facts -/
theorem St.oda {α : Type} {E : Enc α} {x : α} (S : St F w0 m0 n L rs os a w) (H : E.wf (Fr F (ow os)) w.heap x) : St F w0 m0 n L rs (os ++ [daO E x]) a w := by
  have e : ∀ k, In (ow (os ++ [daO E x])) k ↔ In (ow os) k := fun k => by
    rw [ow_app]; exact ⟨fun h => (in_app.1 h).elim id fun h => h.elim False.elim False.elim, fun h => in_app.2 (.inl h)⟩
  have hs := S.M.sep
  have T : Tr (ow os) w (ow (os ++ [daO E x])) w := ⟨Ch.refl w, fun k hk => .inl ((e k).1 hk), ⟨fun k hk => S.M.lt k ((e k).1 hk), by
    rw [ow_app]; exact sep_app.2 ⟨hs, ⟨fun k h => h.elim, trivial⟩, fun k _ hm => hm.elim id id⟩⟩⟩
  refine ⟨S.s, S.m.go T fun f hf => ?_⟩
  rcases List.mem_append.1 hf with h | h
  · exact f.st T.mv (fun _ _ _ => rfl) (S.m.o f h)
  · obtain rfl : f = _ := by simpa using h
    exact Enc.mono E (fun k _ g => ⟨fun h => g.1 ((e k).1 h), g.2⟩) H
/-- the facts that a callee may change, as it gets them -/
theorem St.mF (S : St F w0 m0 n L rs (ks ++ fs) a w) : MS (ow fs) w := by
  have hM := S.M
  rw [ow_app] at hM
  exact ⟨fun k hk => hM.lt k (in_app.2 (.inr hk)), (sep_app.1 hM.sep).2.1⟩
theorem St.dF (S : St F w0 m0 n L rs (ks ++ fs) a w) {f : OF} (i : Nat) (hi : nth fs i = some f) (mo : f.Mo) : f.p (Exc F (ow (ks ++ fs)) (ow fs)) (In (ow fs)) w :=
  mo (fun k hk => by
    rcases hk with h | ⟨h, _⟩ | h
    · exact .inl (by rw [ow_app]; exact in_app.2 (.inr h))
    · exact .inl h
    · exact .inr h) (S.m.o f (List.mem_append_right _ (nth_mem hi)))
/-- data as an argument of such a callee -/
theorem dnF {α : Type} {E : Enc α} {x : α} {h : Array Obj} (H : E.wf (Fr F (ow (ks ++ fs))) h x) : E.wf (Fr (Exc F (ow (ks ++ fs)) (ow fs)) (ow fs)) h x :=
  E.mono (fun k _ g => ⟨fun e => g.1 (by rw [ow_app]; exact in_app.2 (.inr e)), fun e => e.elim (fun e => g.1 e.1) g.2⟩) H
/-- .. and data that it gives -/
theorem St.upF {α : Type} {E : Enc α} {x : α} {h : Array Obj} (S : St F w0 m0 n L rs (ks ++ fs) a w) {fs' : List OF} (H : E.wf (Fr (Exc F (ow (ks ++ fs)) (ow fs)) (ow fs')) h x) : E.wf (Fr F (ow (ks ++ fs'))) h x :=
  E.mono (fun k _ g => ⟨fun e => by
    rw [ow_app] at e
    rcases in_app.1 e with e | e
    · have hs := S.M.sep
      rw [ow_app] at hs
      exact g.2 (.inl ⟨by rw [ow_app]; exact in_app.2 (.inl e), (sep_app.1 hs).2.2 k e⟩)
    · exact g.1 e, fun e => g.2 (.inr e)⟩) H
/-- what may be written is none of F -/
theorem St.nf (S : St F w0 m0 n L rs os a w) (hD : ∀ k, In m0 k → ¬ F k) {k : Nat} (h : In (ow os) k) : ¬ F k := fun e =>
  (S.m.c.sub k h).elim (fun h => hD k h e) fun h => by have := S.m.f k e; omega
theorem St.nfF (S : St F w0 m0 n L rs (ks ++ fs) a w) (hD : ∀ k, In m0 k → ¬ F k) : ∀ k, In (ow fs) k → ¬ Exc F (ow (ks ++ fs)) (ow fs) k := fun k h e =>
  e.elim (fun e => e.2 h) fun e => S.nf hD (by rw [ow_app]; exact in_app.2 (.inr h)) e
/-- a callee changed the last facts, or gave new ones -/
theorem St.kF (S : St F w0 m0 n L rs (ks ++ fs) a w) (fs' : List OF) (s : Slots n L' a') (t : Tr (ow fs) w (ow fs') w') (hf : AllP (Exc F (ow (ks ++ fs)) (ow fs)) (In (ow fs')) w' fs') (mo : AllMo fs') : St F w0 m0 n L' rs (ks ++ fs') a' w' := by
  have hM := S.M
  have e2 : ow (ks ++ fs) = ow ks ++ ow fs := ow_app ks fs
  have e3 : ow (ks ++ fs') = ow ks ++ ow fs' := ow_app ks fs'
  have hs := hM.sep
  rw [e2] at hs
  obtain ⟨g1, g2, g3⟩ := sep_app.1 hs
  have T : Tr (ow (ks ++ fs)) w (ow (ks ++ fs')) w' := by
    refine ⟨t.ch.mono fun k hk => by rw [e2]; exact in_app.2 (.inr hk), fun k hk => ?_, ⟨fun k hk => ?_, ?_⟩⟩
    · rw [e3] at hk
      rcases in_app.1 hk with h | h
      · exact .inl (by rw [e2]; exact in_app.2 (.inl h))
      · exact (t.sub k h).imp (fun h => by rw [e2]; exact in_app.2 (.inr h)) id
    · rw [e3] at hk
      rcases in_app.1 hk with h | h
      · exact Nat.lt_of_lt_of_le (hM.lt k (by rw [e2]; exact in_app.2 (.inl h))) t.size
      · exact t.ms.lt k h
    · rw [e3]
      refine sep_app.2 ⟨g1, t.ms.sep, fun k hk hm => ?_⟩
      rcases t.sub k hm with h | h
      · exact g3 k hk h
      · have := hM.lt k (by rw [e2]; exact in_app.2 (.inl hk)); omega
  refine ⟨s, S.m.go T fun f hq => ?_⟩
  rcases List.mem_append.1 hq with h | h
  · exact f.st T.mv (fun k hk ho => t.ch.block k hk fun hm => g3 k (in_mem (ow_mem h) ho) hm) (S.m.o f (List.mem_append_left _ h))
  · refine mo.get f h (fun k hk => ?_) (hf.get f h)
    rcases hk with h2 | h2
    · rw [e3] at h2
      rcases in_app.1 h2 with h3 | h3
      · exact .inr (.inl ⟨by rw [e2]; exact in_app.2 (.inl h3), g3 k h3⟩)
      · exact .inl h3
    · exact .inr (.inr h2)
/-- a row as an argument that is only read; a row that is only read from now on (the row may be older than the call) -/
theorem St.rargD {α : Type} {E : Enc α} {t : TypeId} {base : Nat} {ad : Option Addr} {cap : Nat} {xs : List α} (S : St F w0 m0 n L rs os a w) (hD : ∀ k, In m0 k → ¬ F k) (i : Nat) (hi : nth os i = some (rwO E t base ad cap xs)) (hn : 0 < E.n) (o : List BS) (ho : abk ad ∈ o) : (slE E).wf (Fr (Exc F (ow os) o) []) w.heap ⟨ad, cap, xs⟩ := by
  have R := S.row i hi
  exact R.argx hn (fun k e => S.nf hD (in_mem (ow_mem (nth_mem hi)) e)) (fun k e => ⟨in_mem ho e, fun e => e⟩) fun _ h => by simp at h
theorem St.fzD {α : Type} {E : Enc α} {t : TypeId} {base : Nat} {ad : Option Addr} {cap : Nat} {xs : List α} (S : St F w0 m0 n L rs os a w) (hD : ∀ k, In m0 k → ¬ F k) (i : Nat) (hi : nth os i = some (rwO E t base ad cap xs)) (hn : 0 < E.n := by first | decide | exact Nat.one_pos) : St F w0 m0 n L (rs ++ [wfF (slE E) ⟨ad, cap, xs⟩]) (os.set i noO) a w := by
  have R := S.row i hi
  have hF : ∀ k, abk ad k → ¬ F k := fun k e => S.nf hD (in_mem (ow_mem (nth_mem hi)) e)
  have T : Tr (ow os) w (ow (os.set i noO)) w := by
    have hM := S.M
    have e1 := rowSplit hi
    have e2 := ow_setx (g := noO) hi
    rw [e2]; rw [e1] at hM
    conv => arg 1; rw [e1]
    exact Tr.swap hM (Ch.refl _) fun k hk => hk.elim
  have hs : ∀ k, In (ow (os.set i noO)) k → In (ow os) k := fun k hk => (T.sub k hk).elim id fun e => absurd (T.ms.lt k hk) (by omega)
  have hW : (slE E).wf (Fr F (ow (os.set i noO))) w.heap ⟨ad, cap, xs⟩ := by
    refine ⟨R.latD hn (fun k hk => ⟨fun hm => ?_, hF k hk⟩) fun x hx => Enc.mono _ (fun k _ h => ⟨fun e => h.1 (hs k e), h.2⟩) (R.wf x hx), R.cap_le⟩
    rw [ow_setx hi] at hm
    have hsep := S.M.sep
    rw [rowSplit hi] at hsep
    refine Sep.mid (pre := []) hk hsep ?_
    rcases in_app.1 hm with q | q | q
    · exact in_app.2 (.inl q)
    · exact q.elim
    · exact in_app.2 (.inr q)
  exact St.ar ⟨S.s, S.m.sw i hi noO T (Ch.refl _) trivial⟩ _ hW
/-- of a bundle of the call's own: as an argument of a callee that only reads it -/
theorem St.rO (S : St F w0 m0 n L rs os a w) (i : Nat) (hi : nth os i = some (bnO fs)) (mo : AllMo fs) : ∀ f ∈ fs, f.p (Exc F (ow os) [In (ow fs)]) (fun k => In (ow os) k ∧ ¬ In (ow fs) k) w ∧ (∀ k, f.o k → In (ow fs) k ∧ k < w.heap.size) := fun f hf => by
  have H := S.m.o _ (nth_mem hi)
  have hin : ∀ k, In (ow fs) k → In (ow os) k := fun k hk => in_mem (ow_mem (nth_mem hi)) hk
  refine ⟨mo.get f hf (fun k hk => ?_) (H.2 f hf), fun k hk => ⟨in_mem (ow_mem hf) hk, S.M.lt k (hin k (in_mem (ow_mem hf) hk))⟩⟩
  rcases hk with h | ⟨h, _⟩ | h
  · exact .inl h.1
  · exact .inl h
  · exact .inr h
end
end Go.Proofs.Ytobggnpnochnnaa.V
/- Rows that a callee makes anew, as data that is read. -/
namespace Go.Proofs.Ytobggnpnochnnaa.V
open Go.RowKit
section
variable {α : Type} {E : Enc α} {F F' : Nat → Prop} {w0 w w2 : World} {m0 ms : List BS} {n : Nat} {L : List (Nat × Value)} {rs : List RF} {os : List OF} {a : Act} {t : TypeId} {ad : Option Addr} {cap : Nat} {xs : List α}
theorem Row.frz (R : Row E t w.heap.size F' ms w2 ad cap xs) (hn : 0 < E.n) (o : Old (Ex F (ow os)) w) (fl : ∀ x, E.wf (Fr F' ms) w2.heap x → E.wf (Fr F (ow os)) w2.heap x) : (slE E).wf (Fr F (ow os)) w2.heap ⟨ad, cap, xs⟩ := by
  have hb := row_blk R.own
  refine ⟨R.latD hn (fun k hk => ?_) fun x hx => fl x (R.wf x hx), R.cap_le⟩
  have h1 := (hb k hk).1
  exact ⟨fun hm => by have := o k (.inl hm); omega, fun hF => by have := o k (.inr hF); omega⟩
/-- elements without pointers -/
theorem St.frz (S : St F w0 m0 n L rs os a w) (R : Row E t w.heap.size F' ms w2 ad cap xs) (hn : 0 < E.n) (fl : ∀ x, E.wf (Fr F' ms) w2.heap x → E.wf (Fr F (ow os)) w2.heap x) : (slE E).wf (Fr F (ow os)) w2.heap ⟨ad, cap, xs⟩ := R.frz hn S.x fl
theorem LAt.nil_xs {D : Nat → Prop} {h : Array Obj} (l : LAt E D h ad xs) (h0 : ad = none) : xs = [] := by
  cases xs with
  | nil => rfl
  | cons x r =>
    have := (l.ad (by simp)).1
    rw [h0] at this; cases this
end
end Go.Proofs.Ytobggnpnochnnaa.V
/- Pointers to data that is read; objects that a callee reads, or gives. -/
namespace Go.Proofs.Ytobggnpnochnnaa.V
open Go.RowKit
/-- a pointer to data that is read -/
def ptE {α : Type} (E : Enc α) (t : TypeId) : Enc (Nat × α) where
  n := 1
  cells x := [.pointer (some ⟨x.1, 0, none⟩)]
  dflt := (0, E.dflt)
  wf D h x := Blk h x.1 (E.cells x.2) t ∧ D x.1 ∧ E.wf D h x.2
  len _ := rfl
  one x u hu := by simp at hu; subst hu; rfl
  keep k h := ⟨h.1.keep k h.2.1, h.2.1, E.keep k h.2.2⟩
  mono k h := ⟨h.1, k _ h.1.lt h.2.1, E.mono k h.2.2⟩
/-- a pointer of which nothing is asked -/
def pvE {α : Type} (d : α) : Enc (Nat × α) := ⟨1, fun x => [.pointer (some ⟨x.1, 0, none⟩)], (0, d), fun _ _ _ => True, fun _ => rfl, fun _ u hu => by simp at hu; subst hu; rfl, fun _ h => h, fun _ h => h⟩
section
variable {α : Type} {E : Enc α} {F W D : Nat → Prop} {w0 w : World} {m0 : List BS} {n : Nat} {L : List (Nat × Value)} {rs : List RF} {os fs : List OF} {a : Act} {t : TypeId} {base : Nat} {ad : Option Addr} {cap : Nat} {xs : List α}
theorem rd_rw (H : (rwO E t base ad cap xs).p F W w) (hn : 0 < E.n) (h1 : ∀ k, abk ad k → k < w.heap.size → D k) (h2 : ∀ k, k < w.heap.size → Fw F W k → D k) : (slE E).wf D w.heap ⟨ad, cap, xs⟩ :=
  have R : Row E t base F [W] w ad cap xs := ⟨H.1, fun x hx => E.mono (fun k _ h => ⟨fun e => e.elim h.1 id, h.2⟩) (H.2 x hx)⟩
  ⟨R.latD hn (fun k hk => h1 k hk (row_blk H.1 k hk).2) fun x hx => E.mono h2 (H.2 x hx), R.cap_le⟩
/-- an object of the call's own, as data that a callee reads -/
theorem St.rob (S : St F w0 m0 n L rs os a w) (hD : ∀ k, In m0 k → ¬ F k) (i : Nat) (hi : nth os i = some (bnO fs)) {X : (Nat → Prop) → Prop} (rd : ∀ D, (∀ f ∈ fs, f.p F (In (ow os)) w) → (∀ k, In (ow fs) k → k < w.heap.size → D k) → (∀ k, k < w.heap.size → Fw F (In (ow os)) k → D k) → X D) (o : List BS) (ho : In (ow fs) ∈ o) : X (Fr (Exc F (ow os) o) []) :=
  rd _ (S.m.o _ (nth_mem hi)).2 (fun _ hk _ => ⟨id, fun e => e.elim (fun e => e.2 (in_mem ho hk)) (S.nf hD (in_mem (ow_mem (nth_mem hi)) hk))⟩) fun _ _ h => ⟨id, fun e => e.elim (fun e => h.1 e.1) h.2⟩
/-- a row of a function that may write nothing old is new -/
theorem St.raise {os : List OF} (S : St F w0 [] n L rs os a w) (i : Nat) (hi : nth os i = some (rwO E t base ad cap xs)) : St F w0 [] n L rs (os.set i (rwO E t w0.heap.size ad cap xs)) a w :=
  have R := S.row i hi
  have R2 := R.raise (b := w0.heap.size) fun k hk => (S.m.c.sub k (in_mem (ow_mem (nth_mem hi)) hk)).elim False.elim id
  S.k1s i hi (rwO E t w0.heap.size ad cap xs) rfl S.s (Ch.refl w) ⟨R2.own, R2.wf⟩
/-- rows of plain elements that a callee gives which may read blocks of the call's own -/
def FlatL : List Rw → Prop
  | [] => True
  | r :: l => (∀ (D D' : Nat → Prop) h x, r.E.wf D h x → r.E.wf D' h x) ∧ FlatL l
theorem FlatL.get : ∀ {l : List Rw}, FlatL l → ∀ r ∈ l, ∀ (D D' : Nat → Prop) h x, r.E.wf D h x → r.E.wf D' h x
  | _ :: _, h, r, hr => (List.mem_cons.1 hr).elim (fun e => e ▸ h.1) fun hr => h.2.get r hr
theorem St.krx {a' : Act} {L' : List (Nat × Value)} {w' : World} {o : List BS} (S : St F w0 m0 n L rs os a w) (l : List Rw) (s : Slots n L' a') (t : Tr [] w (abks l) w') (h : RwsOk w.heap.size (Exc F (ow os) o) (abks l) w' l) (hf : FlatL l) : St F w0 m0 n L' rs (os ++ ofs w0.heap.size l) a' w' := by
  refine S.kr l s t ?_
  have : ∀ (k : List Rw), (∀ r ∈ k, r ∈ l) → RwsOk w.heap.size (Exc F (ow os) o) (abks l) w' k → RwsOk w.heap.size (Ex F (ow os)) (abks l) w' k := by
    intro k
    induction k with
    | nil => intro _ _; trivial
    | cons r q ih =>
      intro hm hk
      exact ⟨⟨hk.1.own, fun x hx => hf.get r (hm r List.mem_cons_self) _ _ _ _ (hk.1.wf x hx)⟩, ih (fun r hr => hm r (List.mem_cons_of_mem _ hr)) hk.2⟩
  exact this l (fun _ h => h) h
/-- an object, or none -/
def optP {α : Type} (q : Option (Nat × α)) : Value := .pointer (q.map fun x => ⟨x.1, 0, none⟩)
/-- an empty bundle -/
theorem St.emp (S : St F w0 m0 n L rs os a w) : St F w0 m0 n L rs (os ++ [bnO []]) a w := by
  have e : ∀ k, In (ow (os ++ [bnO []])) k ↔ In (ow os) k := fun k => by
    rw [ow_app]; exact ⟨fun h => (in_app.1 h).elim id fun h => h.elim False.elim False.elim, fun h => in_app.2 (.inl h)⟩
  have hs := S.M.sep
  have T : Tr (ow os) w (ow (os ++ [bnO []])) w := ⟨Ch.refl w, fun k hk => .inl ((e k).1 hk), ⟨fun k hk => S.M.lt k ((e k).1 hk), by
    rw [ow_app]; exact sep_app.2 ⟨hs, ⟨fun k h => h.elim, trivial⟩, fun k _ hm => hm.elim id id⟩⟩⟩
  refine ⟨S.s, S.m.go T fun f hf => ?_⟩
  rcases List.mem_append.1 hf with h | h
  · exact f.st T.mv (fun _ _ _ => rfl) (S.m.o f h)
  · obtain rfl : f = _ := by simpa using h
    exact ⟨trivial, fun f h => by simp at h⟩
variable {P : Program} {d : Option Tmp} {ty : TypeId} {pos : String} {af : Array Edge} {g : Option (Nat × Bool)}
theorem x_peqN {x y : Operand} {xt yt e : TypeId} {q : Option Addr} (hu : P.underlying xt = some (.pointer e)) (hx : a.eval x = .pointer q) (hy : a.eval y = .pointer none) : (execOp a.eval ⟨d, .binOp .eql xt x y yt, ty, pos, af, g⟩).run P w = .ok (.value (.bool q.isNone)) w := by
  refine x_bin hx hy (by simp [eqGuard]) ?_
  rw [run_eql_pointer_nil w xt _ (by rw [hu]; simp [Program.pointee, hu])]
theorem x_pneN {x y : Operand} {xt yt e : TypeId} {q : Option Addr} (hu : P.underlying xt = some (.pointer e)) (hx : a.eval x = .pointer q) (hy : a.eval y = .pointer none) : (execOp a.eval ⟨d, .binOp .neq xt x y yt, ty, pos, af, g⟩).run P w = .ok (.value (.bool (!q.isNone))) w := by
  refine x_bin hx hy (by simp [eqGuard]) ?_
  rw [run_neq_pointer_nil w xt _ (by rw [hu]; simp [Program.pointee, hu])]
end
section
variable {P : Program} {ops : Array Oper} {F : Nat → Prop} {w0 W : World} {m0 : List BS} {n i : Nat} {fs : List RF} {os : List OF} {ty : TypeId} {pos : String} {af : Array Edge} {Q : Exit → Act → World → Prop} {D A : List Nat} {cls : List (Nat × Nat)}
/-- a call that gives a new row, in a drawn region -/
theorem hcr {α : Type} {En : Enc α} {d : Nat} {t : TypeId} {z0 : Nat} {ys : List α} {js : List Nat} {E : List (Nat × Td (In (picks (ow os) js)))} {a : Act} {w : World} {L' : List (Nat × Value)} {rs' : List RF} {f : FuncId} {args : Array Operand} {ats : Array TypeId} {vs : Array Value} {R : Ending → World → Prop} (S : St F w0 m0 n L' rs' os a w) (M : Mm F w0 m0 fs os w) (G : Ch (In (picks (ow os) js)) W w)
    (hc : Calls P f vs w R) (hf : Callable P f) (he : lookT d E = some (rowT En t z0 (picks (ow os) js) ys)) (hz0 : z0 = W.heap.size)
    (hR : ∀ e w', R e w' → ∃ ra rc, e = .returned (.slice ra ys.length rc) ∧ w'.ownsRow w.heap.size t En.n (.slice ra ys.length rc) ys.length (ys.flatMap En.cells) ∧ Ch (In []) w w')
    (hv : args.toList.map (evS L') = vs.toList.map some := by rfl) (hk : ops[i]? = some ⟨some d, .call ⟨.value (.func f), args, ats⟩, ty, pos, af, none⟩ ∧ d < n := by exact ⟨rfl, by decide⟩) : wpOp P ops Q i (DoneC A cls D ⟨some d, .call ⟨.value (.func f), args, ats⟩, ty, pos, af, none⟩ (tq E) (Mm F w0 m0 fs os) n a w) a w :=
  head_op hk.1 rfl (op_call (args_eval S.s hv) hf hc fun e w' he' => by
    obtain ⟨ra, rc, h1, h2, h3⟩ := hR e w' he'
    have hb := row_blk (En := En) h2
    refine ⟨_, h1, ⟨⟨_, rfl, fun e' he'' => ?_⟩, h3.mono fun _ h => h.elim, M.k0 h3⟩⟩
    have hee : e' = d := (Option.some.inj he'').symm
    subst hee
    refine ⟨hk.2, (look_tq he).2 ⟨ra, rc, rfl, ⟨h2.1, h2.2.imp id fun ⟨g, c, cur, q1, q2, q3⟩ => ⟨g, c, cur, q1, Nat.le_trans (by rw [hz0]; exact G.size) q2, q3⟩⟩, fun k hk' hm => ?_⟩, fun _ k hk' => .inl (own_lt h2 k hk').1⟩
    have := M.c.ms.lt _ (in_picks hm)
    have := (hb k hk').1
    omega)
end
section
variable {P : Program} {ops : Array Oper} {F : Nat → Prop} {w0 : World} {m0 : List BS} {n : Nat} {L : List (Nat × Value)} {fs : List RF} {os : List OF} {ty : TypeId} {pos : String} {af : Array Edge}
/-- a call whose guard is known to be on -/
theorem ocon (gd : Nat) {j : Nat} {b : Bool} {d : Nat} {f : FuncId} {args : Array Operand} {ats : Array TypeId} {vs : Array Value} {v : Value} (hv : look gd L = some (.bool b)) (h : ∀ {a w}, St F w0 m0 n L fs os a w → Calls P f vs w fun e w' => e = .returned v ∧ Tr [] w [] w') (hf : Callable P f) (ha : args.toList.map (evS L) = vs.toList.map some := by rfl)
    (hk : ∃ p, ops[j]? = some p ∧ p.dst = some gd ∧ gd < n ∧ d < n := by exact ⟨_, rfl, rfl, by decide, by decide⟩) :
    One P ops (St F w0 m0 n L fs os) [] ⟨some d, .call ⟨.value (.func f), args, ats⟩, ty, pos, af, some (j, b)⟩ (St F w0 m0 n ((d, v) :: L) fs os) := fun K Q a w S k => by
  obtain ⟨p, h2, h3, h4, h6⟩ := hk
  have hw := want_iff (a := a) (o := ⟨some d, .call ⟨.value (.func f), args, ats⟩, ty, pos, af, some (j, b)⟩) rfl h2 h3 (by rw [S.s.size]; exact h4) (S.s.get gd _ hv)
  unfold Core
  rw [if_pos (hw.2 rfl)]
  exact .inl (op_call (args_eval S.s ha) hf (h S) fun e w' ⟨he, t⟩ => ⟨v, he, k _ _ (S.k0 (S.s.put h6) t) t.ch⟩)
end
end Go.Proofs.Ytobggnpnochnnaa.V
/- Structs of numbers and truth values are compared. -/
namespace Go.Proofs.Ytobggnpnochnnaa.V
open Go.RowKit
inductive Cmp (P : Program) : TypeId → Value → Value → Prop → Prop
  | int {t : TypeId} {k : IntKind} {a b : Int} (h : P.underlying t = some (.int k)) : Cmp P t (.int k a) (.int k b) (a = b)
  | bool {t : TypeId} {p q : Prop} [Decidable p] [Decidable q] (h : P.underlying t = some .bool) : Cmp P t (.bool (decide p)) (.bool (decide q)) (p ↔ q)
  | boolF {t : TypeId} {p : Prop} [Decidable p] (h : P.underlying t = some .bool) : Cmp P t (.bool (decide p)) (.bool false) (¬ p)
  | boolT {t : TypeId} {p : Prop} [Decidable p] (h : P.underlying t = some .bool) : Cmp P t (.bool (decide p)) (.bool true) p
inductive CmpL (P : Program) (xs ys : Array Value) : List Field → Nat → Prop → Prop
  | one {f : Field} {o : Nat} {u v : Value} {q : Prop} (n : (f.name != "_") = true) (ho : f.offset = o) (hx : xs[o]? = some u) (hy : ys[o]? = some v) (c : Cmp P f.type u v q) : CmpL P xs ys [f] o q
  | cons {f g : Field} {fs : List Field} {o : Nat} {u v : Value} {q r : Prop} (n : (f.name != "_") = true) (ho : f.offset = o) (hx : xs[o]? = some u) (hy : ys[o]? = some v) (c : Cmp P f.type u v q) (h : CmpL P xs ys (g :: fs) (o + 1) r) : CmpL P xs ys (f :: g :: fs) o (q ∧ r)
section
variable {P : Program} {w : World} {xs ys : Array Value}
theorem Cmp.run {t : TypeId} {u v : Value} {q : Prop} (h : Cmp P t u v q) : (∃ b : Bool, (Op.equalIn 9999 t u v).run P w = .ok b w ∧ (b = true ↔ q)) ∧ ∀ (zs : Array Value) (o : Nat) (z : Value), zs[o]? = some z → (part t zs o).run P w = .ok z w := by
  cases h with
  | int h => exact ⟨⟨_, run_equalIn_int (P := P) w 9998 t _ _ _ _ h, by simp⟩, fun zs o z hz => by simp [part, isAgg, run_underlying h, hz]⟩
  | bool h => exact ⟨⟨_, run_equalIn_bool (P := P) w 9998 t _ _ h, by simp⟩, fun zs o z hz => by simp [part, isAgg, run_underlying h, hz]⟩
  | boolF h => exact ⟨⟨_, run_equalIn_bool (P := P) w 9998 t _ _ h, by simp⟩, fun zs o z hz => by simp [part, isAgg, run_underlying h, hz]⟩
  | boolT h => exact ⟨⟨_, run_equalIn_bool (P := P) w 9998 t _ _ h, by simp⟩, fun zs o z hz => by simp [part, isAgg, run_underlying h, hz]⟩
theorem CmpL.run : ∀ {fs : List Field} {o : Nat} {q : Prop}, CmpL P xs ys fs o q → ∃ b : Bool, (Op.eqFields 9999 xs ys fs).run P w = .ok b w ∧ (b = true ↔ q)
  | _, _, _, .one n ho hx hy c => by
    obtain ⟨⟨b, h1, h2⟩, h3⟩ := c.run (w := w)
    subst ho
    have n' := bne_iff_ne.1 n
    refine ⟨b, ?_, h2⟩
    simp only [Op.eqFields, if_pos n', Sem.run_bind, h3 _ _ _ hx, h3 _ _ _ hy, Result.andThen_ok, h1, Sem.run_ite, Sem.run_pure]
    cases b <;> rfl
  | _, _, _, .cons n ho hx hy c r => by
    obtain ⟨⟨b, h1, h2⟩, h3⟩ := c.run (w := w)
    obtain ⟨b2, h4, h5⟩ := r.run
    subst ho
    have n' := bne_iff_ne.1 n
    refine ⟨b && b2, ?_, by rw [Bool.and_eq_true, h2, h5]⟩
    rw [Op.eqFields]
    simp only [if_pos n', Sem.run_bind, h3 _ _ _ hx, h3 _ _ _ hy, Result.andThen_ok, h1, Sem.run_ite, Sem.run_pure]
    cases b
    · rfl
    · simpa using h4
theorem cmp_run {t : TypeId} {fa : Array Field} {q : Prop} [Decidable q] (ht : P.underlying t = some (.struct fa)) (hs : P.stoodInHeld t = false) (hc : CmpL P xs ys fa.toList 0 q) : (Op.equalIn 10000 t (.agg xs) (.agg ys)).run P w = .ok (decide q) w := by
  have ht' : P.underlying t = some (.struct (P.fieldsOf t)) := by unfold Program.fieldsOf; rw [ht]
  have hf : (P.fieldsOf t).toList = fa.toList := by unfold Program.fieldsOf; rw [ht]
  obtain ⟨b, h1, h2⟩ := hc.run (w := w)
  rw [run_equalIn_struct (P := P) w 9999 t _ _ ht' hs, hf, h1]
  congr 1
  cases b <;> simp_all
variable {act : Act} {d : Option Tmp} {ty : TypeId} {pos : String} {af : Array Edge} {g : Option (Nat × Bool)} {x y : Operand} {t yt : TypeId} {fa : Array Field} {q : Prop} [Decidable q]
theorem x_agneq (ht : P.underlying t = some (.struct fa)) (hs : P.stoodInHeld t = false) (hg : P.eqGuardType P.depth t = false) (hx : act.eval x = .agg xs) (hy : act.eval y = .agg ys) (hc : CmpL P xs ys fa.toList 0 q) :
    (execOp act.eval ⟨d, .binOp .neq t x y yt, ty, pos, af, g⟩).run P w = .ok (.value (.bool (decide (¬ q)))) w := by
  simp only [execOp, hx, hy, Sem.run_bind, run_eqGuard_agg (P := P) w .neq t x y _ _ hg, Result.andThen_ok, run_neq_struct, cmp_run ht hs hc]
  simp
theorem x_ageql (ht : P.underlying t = some (.struct fa)) (hs : P.stoodInHeld t = false) (hg : P.eqGuardType P.depth t = false) (hx : act.eval x = .agg xs) (hy : act.eval y = .agg ys) (hc : CmpL P xs ys fa.toList 0 q) :
    (execOp act.eval ⟨d, .binOp .eql t x y yt, ty, pos, af, g⟩).run P w = .ok (.value (.bool (decide q))) w := by
  simp only [execOp, hx, hy, Sem.run_bind, run_eqGuard_agg (P := P) w .eql t x y _ _ hg, Result.andThen_ok, run_eql_struct, cmp_run ht hs hc, Sem.run_pure]
end
end Go.Proofs.Ytobggnpnochnnaa.V
/- Regions that draw their order: operations that give the same value whenever they run are taken as soon as they may. -/
namespace Go.Proofs.Ytobggnpnochnnaa.V
open Go.RowKit
theorem getD_set_any {b : Array Bool} {i j : Nat} {v d : Bool} (h : i ≠ j) : (b.setIfInBounds i v).getD j d = b.getD j d := by
  simp [Array.getElem?_setIfInBounds_ne h]
def seqT (ops : Array Oper) : List Nat → Array Bool → Bool
  | [], listed => (Region.ready .any ops listed).isEmpty
  | k :: ks, listed => decide (Region.ready .any ops listed = [k]) && seqT ops ks (listed.setIfInBounds k true)
def fullB (m : Nat) (ks : List Nat) : Array Bool := ((List.range m).map fun j => !ks.contains j).toArray
theorem fullB_get {m : Nat} {ks : List Nat} {j : Nat} (h : j < m) (d : Bool) : (fullB m ks).getD j d = !ks.contains j := by unfold fullB; simp [h]
def cntB (m : Nat) (ks : List Nat) (listed : Array Bool) : Nat := ((List.range m).filter fun j => !ks.contains j && !listed.getD j true).length
theorem cnt_set {m : Nat} {ks : List Nat} {listed : Array Bool} {i : Nat} (hi : i < m) (hk : ks.contains i = false) (hl : listed.getD i true = false) : cntB m ks listed = cntB m ks (listed.setIfInBounds i true) + 1 := by
  unfold cntB
  induction m with
  | zero => omega
  | succ m ih =>
    rw [List.range_succ, List.filter_append, List.filter_append, List.length_append, List.length_append]
    have hs : (listed.setIfInBounds i true).getD i true = true := by
      rcases Nat.lt_or_ge i listed.size with h | h
      · simp [h]
      · simp [h]
    by_cases h : i = m
    · subst h
      have e : ((List.range i).filter fun j => !ks.contains j && !(listed.setIfInBounds i true).getD j true) = (List.range i).filter fun j => !ks.contains j && !listed.getD j true := by
        apply List.filter_congr
        intro j hj
        have := List.mem_range.1 hj
        rw [getD_set_any (by omega)]
      rw [e]
      simp only [List.filter_cons, List.filter_nil, hk, hl, hs, Bool.not_false, Bool.not_true, Bool.and_self, Bool.and_false, if_true, Bool.false_eq_true, if_false, List.length_cons, List.length_nil]
    · have := ih (by omega)
      have e : (listed.setIfInBounds i true).getD m true = listed.getD m true := getD_set_any h
      rw [this]
      simp only [List.filter_cons, List.filter_nil, e]
      omega
def freeS (ops : Array Oper) (z : Nat) : Bool := match ops[z]? with
  | none => false
  | some oi => oi.guard.isNone && (List.range ops.size).all fun j => j == z || match ops[j]? with
    | some oj => oj.after.any (fun e => Region.binds .any e && e.on == z) || oi.after.any (fun e => Region.binds .any e && e.on == j) || oi.apart ops oj
    | none => true
/-- i, and all that waits for it, has not come up -/
def downS (ops : Array Oper) (i : Nat) (b : Array Bool) (j : Nat) : Array Bool := match ops[j]? with
  | some o => bif j == i || o.after.any (fun e => Region.binds .any e && !b.getD e.on true) then b.setIfInBounds j false else b
  | none => b
def downB (ops : Array Oper) (i : Nat) : List Nat → Array Bool → Array Bool
  | [], b => b
  | j :: r, b => downB ops i r (downS ops i b j)
theorem downB_le {ops : Array Oper} {i : Nat} {listed : Array Bool} (hi : listed.getD i false = false) (hc : ∀ t o, ops[t]? = some o → listed.getD t false = true → ∀ e ∈ o.after, Region.binds .any e = true → listed.getD e.on false = true) :
    ∀ (l : List Nat) (b : Array Bool), (∀ t, listed.getD t false = true → b.getD t false = true) → ∀ t, listed.getD t false = true → (downB ops i l b).getD t false = true
  | [], _, h => h
  | j :: r, b, h => by
    rw [downB]
    refine downB_le hi hc r _ fun t ht => ?_
    unfold downS
    cases ho : ops[j]? with
    | none => exact h t ht
    | some o =>
      dsimp only
      cases hb : (j == i || o.after.any fun e => Region.binds .any e && !b.getD e.on true) with
      | false => exact h t ht
      | true =>
        show (b.setIfInBounds j false).getD t false = true
        by_cases hj : j = t
        · subst hj
          exfalso
          rcases Bool.or_eq_true_iff.1 hb with q | q
          · have : j = i := by simpa using q
            subst this; rw [hi] at ht; cases ht
          · obtain ⟨e, he, hb2⟩ := Array.any_eq_true'.1 q
            simp only [Bool.and_eq_true, Bool.not_eq_true'] at hb2
            have := h e.on (hc j o ho ht e he hb2.1)
            have h2 := getD_both hb2.2
            rw [h2] at this; cases this
        · rw [getD_set_any hj]; exact h t ht
theorem downB_no {ops : Array Oper} {i t : Nat} : ∀ (l : List Nat) (b : Array Bool), b.getD t true = false → (downB ops i l b).getD t true = false
  | [], _, h => h
  | j :: r, b, h => by
    rw [downB]
    refine downB_no r _ ?_
    unfold downS
    cases ops[j]? with
    | none => exact h
    | some o =>
      dsimp only
      cases (j == i || o.after.any fun e => Region.binds .any e && !b.getD e.on true) with
      | false => exact h
      | true =>
        show (b.setIfInBounds j false).getD t true = false
        by_cases hj : j = t
        · subst hj
          have hlt : j < b.size := by
            rcases Nat.lt_or_ge j b.size with g | g
            · exact g
            · simp [Array.getElem?_eq_none g] at h
          simp [hlt]
        · rw [getD_set_any hj]; exact h
def chk5 (ops : Array Oper) (n : Nat) (zs ks : List Nat) : Bool :=
  decide (n ≤ ops.size) && zs.all (fun z => decide (z < ops.size) && !ks.contains z && freeS ops z) && ks.all (fun k => decide (n ≤ k)) &&
  (List.range ops.size).all (fun j => ks.contains j || ((decide (j < n) || zs.contains j) && match ops[j]? with
    | some o => o.after.all fun e => !Region.binds .any e || (decide (e.on < j) && !ks.contains e.on)
    | none => false)) &&
  (List.range n).all (fun i => (Region.ready .any ops (downB ops i (List.range ops.size) (fullB ops.size ks))).all fun t => !ks.contains t) &&
  seqT ops ks (fullB ops.size ks) && Region.noSelect ops && decide (cntB ops.size ks (Array.replicate ops.size false) + ks.length = ops.size)
section
variable {P : Program} {Q : Exit → Act → World → Prop} {ops : Array Oper}
theorem wpAny_of_seqT : ∀ (l : List Oper) (ks : List Nat) (listed : Array Bool) (a : Act) (w : World), l.map some = ks.map (fun k => ops[k]?) → seqT ops ks listed = true → wpList P ops Q l a w → wpAny P .any ops Q ks.length listed a w
  | [], [], _, _, _, _, hB, h => ⟨by simpa [seqT] using hB, h⟩
  | o :: l, k :: ks, listed, a, w, hl, hB, h => by
    rw [List.map_cons, List.map_cons, List.cons.injEq] at hl
    simp only [seqT, Bool.and_eq_true, decide_eq_true_eq] at hB
    refine ⟨fun h1 => (by rw [hB.1] at h1; cases h1), fun i hi => ?_⟩
    rw [hB.1] at hi
    obtain rfl : i = k := by simpa using hi
    have hw : wpOp P ops Q i (wpList P ops Q l) a w := by unfold wpOp; simp only [← hl.1]; exact h
    exact wpOp_mono (fun a' w' h' => wpAny_of_seqT l ks _ a' w' hl.2 hB.2 h') hw
  | [], _ :: _, _, _, _, hl, _, _ => by simp at hl
  | _ :: _, [], _, _, _, hl, _, _ => by simp at hl
theorem sched5 {G : Array Bool → Act → World → Prop} (n : Nat) (zs ks : List Nat) (tail : List Oper) (htl : tail.map some = ks.map fun k => ops[k]?) (chk : chk5 ops n zs ks = true) (hQ : ∀ c a d v w, Q (.panic c) (a.put (some d) v) w → Q (.panic c) a w)
    (hhead : ∀ i, i < n → ∀ listed a w, listed.size = ops.size → G listed a w → i ∈ Region.ready .any ops listed → wpOp P ops Q i (fun a' w' => G (listed.setIfInBounds i true) a' w') a w)
    (hlazy : ∀ z ∈ zs, ∀ listed a w, G listed a w → z ∈ Region.ready .any ops listed → ∃ o v d, ops[z]? = some o ∧ o.dst = some d ∧ Yields P ops o v a ∧ G (listed.setIfInBounds z true) (a.put o.dst v) w)
    (fin : ∀ a w, G (fullB ops.size ks) a w → wpList P ops Q tail a w) :
    ∀ (f : Nat) (listed : Array Bool) (a : Act) (w : World), cntB ops.size ks listed = f → listed.size = ops.size → (∀ k ∈ ks, ∀ d, k < ops.size → listed.getD k d = false) → (∀ t o, ops[t]? = some o → listed.getD t false = true → ∀ e ∈ o.after, Region.binds .any e = true → listed.getD e.on false = true) → G listed a w → wpAny P .any ops Q (f + ks.length) listed a w := by
  simp only [chk5, Bool.and_eq_true, decide_eq_true_eq] at chk
  obtain ⟨⟨⟨⟨⟨⟨⟨c1, c2⟩, c3⟩, c4⟩, c5⟩, c6⟩, c7⟩, _⟩ := chk
  have hc4 : ∀ j, j < ops.size → ks.contains j = false → (j < n ∨ j ∈ zs) ∧ ∃ o, ops[j]? = some o ∧ ∀ e ∈ o.after, Region.binds .any e = true → e.on < j ∧ ks.contains e.on = false := fun j hj hk => by
    have h := List.all_eq_true.1 c4 j (List.mem_range.2 hj)
    rw [hk, Bool.false_or] at h
    cases ho : ops[j]? with
    | none => rw [ho] at h; simp at h
    | some o =>
      rw [ho] at h
      simp only [Bool.and_eq_true, Bool.or_eq_true, decide_eq_true_eq, List.contains_iff_mem] at h
      refine ⟨h.1, o, rfl, fun e he hb => ?_⟩
      have := Array.all_eq_true_iff_forall_mem.1 h.2 e he
      simpa [hb] using this
  intro f
  induction f with
  | zero =>
    intro listed a w hf hs hks hcl hG
    have hl : listed = fullB ops.size ks := by
      apply Array.ext
      · rw [hs]; simp [fullB]
      · intro i h1 h2
        have hi : i < ops.size := by omega
        have key : listed.getD i true = (fullB ops.size ks).getD i true := by
          rw [fullB_get hi]
          by_cases hk : ks.contains i = true
          · rw [hk, hks i (List.contains_iff_mem.1 hk) true hi]; rfl
          · have hk' : ks.contains i = false := by simpa using hk
            have h3 := List.filter_eq_nil_iff.1 (List.length_eq_zero_iff.1 hf) i (List.mem_range.2 hi)
            rw [hk'] at h3 ⊢
            simpa using h3
        simpa [h1, h2] using key
    subst hl
    rw [Nat.zero_add]
    exact wpAny_of_seqT tail ks _ a w htl c6 (fin a w hG)
  | succ f ih =>
    intro listed a w hf hs hks hcl hG
    rw [show f + 1 + ks.length = (f + ks.length) + 1 from by omega]
    -- the first that has not come up
    have hex : ∃ j, j < ops.size ∧ ks.contains j = false ∧ listed.getD j true = false ∧ ∀ k, k < j → ks.contains k = false → listed.getD k true = true := by
      have hne : ∃ j, (j < ops.size ∧ ks.contains j = false ∧ listed.getD j true = false) := by
        have h0 : ((List.range ops.size).filter fun j => !ks.contains j && !listed.getD j true) ≠ [] := fun h => by
          unfold cntB at hf; rw [h] at hf; simp at hf
        obtain ⟨j, hj⟩ := List.exists_mem_of_ne_nil _ h0
        have := List.mem_filter.1 hj
        simp only [Bool.and_eq_true, Bool.not_eq_true'] at this
        exact ⟨j, List.mem_range.1 this.1, this.2.1, this.2.2⟩
      obtain ⟨j, hj⟩ := hne
      induction j using Nat.strongRecOn with
      | _ j ihj =>
        by_cases hk : ∃ k, k < j ∧ ks.contains k = false ∧ listed.getD k true = false
        · obtain ⟨k, h1, h2, h3⟩ := hk
          exact ihj k h1 ⟨by omega, h2, h3⟩
        · refine ⟨j, hj.1, hj.2.1, hj.2.2, fun k h1 h2 => ?_⟩
          cases h : listed.getD k true
          · exact absurd ⟨k, h1, h2, h⟩ hk
          · rfl
    obtain ⟨j, hj1, hj2, hj3, hj4⟩ := hex
    have hjr : j ∈ Region.ready .any ops listed := by
      obtain ⟨_, o, ho, h⟩ := hc4 j hj1 hj2
      refine mem_ready.2 ⟨hj3, o, ho, fun e he hb => ?_⟩
      obtain ⟨h1, h2⟩ := h e he hb
      have h3 := hj4 e.on h1 h2
      have h4 : e.on < listed.size := by omega
      simp [h4] at h3 ⊢
      exact h3
    have next : ∀ i, i ∈ Region.ready .any ops listed → ks.contains i = false → ∀ a' w', G (listed.setIfInBounds i true) a' w' → wpAny P .any ops Q (f + ks.length) (listed.setIfInBounds i true) a' w' := fun i hi hk a' w' hG' => by
      obtain ⟨hil, o, ho, hall⟩ := mem_ready.1 hi
      have hlt := (Array.getElem?_eq_some_iff.1 ho).1
      have := cnt_set hlt hk hil
      refine ih _ a' w' (by omega) (by simp [hs]) (fun k hkm d hlt' => ?_) (fun t p hp ht e he hb => ?_) hG'
      rotate_left
      · by_cases hti : i = t
        · subst hti
          obtain rfl := Option.some.inj (ho.symm.trans hp)
          exact getD_set_true (hall e he hb)
        · rw [getD_set_any hti] at ht
          exact getD_set_true (hcl t p hp ht e he hb)
      rw [getD_set_any (fun e => by subst e; rw [List.contains_iff_mem.2 hkm] at hk; cases hk)]
      exact hks k hkm d hlt'
    by_cases hz : ∃ z, z ∈ zs ∧ z ∈ Region.ready .any ops listed
    · obtain ⟨z, hzs, hzr⟩ := hz
      have hc := List.all_eq_true.1 c2 z hzs
      simp only [Bool.and_eq_true, decide_eq_true_eq, Bool.not_eq_true'] at hc
      obtain ⟨o, v, dd, ho, hdd, hy, hG'⟩ := hlazy z hzs listed a w hG hzr
      obtain ⟨_, o', ho', hall⟩ := mem_ready.1 hzr
      obtain rfl := Option.some.inj (ho.symm.trans ho')
      refine wpAny_first ho (Region.noSelect_spec c7) (fun c a w hq => hQ c a dd v w (by rw [hdd] at hq; exact hq)) _ listed a w (fun k ok hk hkz hkl hno => ?_) hzr hy (next z hzr hc.1.2 _ w hG')
      have hfr := hc.2
      unfold freeS at hfr
      rw [ho] at hfr
      simp only [Bool.and_eq_true] at hfr
      have h1 := List.all_eq_true.1 hfr.2 k (List.mem_range.2 (Array.getElem?_eq_some_iff.1 hk).1)
      rw [hk] at h1
      simp only [Bool.or_eq_true, beq_iff_eq, hkz, false_or] at h1
      rcases h1 with (h1 | h1) | h1
      · obtain ⟨e, he, hb⟩ := Array.any_eq_true'.1 h1
        simp only [Bool.and_eq_true, beq_iff_eq] at hb
        exact absurd hb.2 (hno e he hb.1)
      · obtain ⟨e, he, hb⟩ := Array.any_eq_true'.1 h1
        simp only [Bool.and_eq_true, beq_iff_eq] at hb
        have h2 := hall e he hb.1
        rw [hb.2, getD_both hkl] at h2; cases h2
      · exact h1
    · have hjn : j < n := by
        rcases (hc4 j hj1 hj2).1 with h | h
        · exact h
        · exact absurd ⟨j, h, hjr⟩ hz
      refine ⟨fun h => (by rw [h] at hjr; cases hjr), fun i hi => ?_⟩
      obtain ⟨hil, o, ho, hall⟩ := mem_ready.1 hi
      have hlt := (Array.getElem?_eq_some_iff.1 ho).1
      have hik : ks.contains i = false := by
        cases hk : ks.contains i
        · rfl
        · have hge : n ≤ i := by have := List.all_eq_true.1 c3 i (List.contains_iff_mem.1 hk); simpa using this
          have hmem : i ∈ Region.ready .any ops (downB ops j (List.range ops.size) (fullB ops.size ks)) := by
            refine mem_ready.2 ⟨downB_no _ _ (by rw [fullB_get hlt, hk]; rfl), o, ho, fun e he hb => ?_⟩
            refine downB_le (getD_both hj3) hcl _ _ (fun t ht => ?_) e.on (hall e he hb)
            have hlt2 : t < ops.size := by
              rcases Nat.lt_or_ge t listed.size with g | g
              · omega
              · simp [Array.getElem?_eq_none g] at ht
            rw [fullB_get hlt2]
            cases hk2 : ks.contains t
            · rfl
            · rw [hks t (List.contains_iff_mem.1 hk2) false hlt2] at ht; cases ht
          have h2 := List.all_eq_true.1 (List.all_eq_true.1 c5 j (List.mem_range.2 hjn)) i hmem
          rw [hk] at h2; cases h2
      have hin : i < n := by
        rcases (hc4 i hlt hik).1 with h | h
        · exact h
        · exact absurd ⟨i, h, hi⟩ hz
      exact wpOp_mono (fun a' w' hG' => next i hi hik a' w' hG') (hhead i hin listed a w hs hG hi)
end
section
variable {P : Program} {F : Nat → Prop} {w0 : World} {m0 : List BS} {n : Nat} {L : List (Nat × Value)} {fs : List RF} {os : List OF} {Q : Exit → Act → World → Prop}
/-- an operation that gives the same value whenever it runs: index, slot, value, which slots of heads and of its kind it reads -/
structure Zop where
  i : Nat
  d : Nat
  v : Value
  D : List Nat
def zix : List Zop → List Nat
  | [] => []
  | z :: r => z.i :: zix r
theorem zix_mem {i : Nat} : ∀ {Z : List Zop}, i ∈ zix Z → ∃ z, z ∈ Z ∧ z.i = i
  | z :: r, h => (List.mem_cons.1 h).elim (fun e => ⟨z, List.mem_cons_self, e.symm⟩) fun h => let ⟨q, h1, h2⟩ := zix_mem h; ⟨q, List.mem_cons_of_mem _ h1, h2⟩
def LZ5 (P : Program) (ops : Array Oper) (N : Nat) (L : List (Nat × Value)) {M : Nat → Prop} (E : List (Nat × Td M)) : List Zop → Prop
  | [] => True
  | z :: r => ((∃ o, ops[z.i]? = some o ∧ o.guard = none ∧ o.dst = some z.d ∧ ∀ a w, Slots N (cat (vals E z.D) L) a → (execOp a.eval o).run P w = .ok (.value z.v) w) ∧ z.d < N ∧ lookT z.d E = some (.is z.v)) ∧ LZ5 P ops N L E r
theorem LZ5.get {ops : Array Oper} {N : Nat} {M : Nat → Prop} {E : List (Nat × Td M)} : ∀ {Z : List Zop}, LZ5 P ops N L E Z → ∀ z ∈ Z, (∃ o, ops[z.i]? = some o ∧ o.guard = none ∧ o.dst = some z.d ∧ ∀ a w, Slots N (cat (vals E z.D) L) a → (execOp a.eval o).run P w = .ok (.value z.v) w) ∧ z.d < N ∧ lookT z.d E = some (.is z.v)
  | _ :: _, h, z, hz => (List.mem_cons.1 hz).elim (fun e => e ▸ h.1) fun hz => LZ5.get h.2 z hz
def dstOf (ops : Array Oper) (j : Nat) : Option Nat := (ops[j]?).bind (·.dst)
def zOk5 (ops : Array Oper) (N : Nat) (L : List (Nat × Value)) (outs : List Nat) (Z : List Zop) : Bool :=
  Z.all (fun z => decide (N ≤ z.i) && z.D.all fun d => (List.range N ++ zix Z).any fun j => dstOf ops j == some d && match ops[z.i]? with | some o => o.after.any (fun e => Region.binds .any e && e.on == j) | none => false) &&
  (List.range N ++ zix Z).all (fun j => (List.range N ++ zix Z).all fun k => j == k || (dstOf ops j).isNone || dstOf ops j != dstOf ops k) &&
  L.all (fun p => Z.all fun z => z.d != p.1) && outs.all fun d => (List.range N ++ zix Z).any fun j => dstOf ops j == some d
def pickT (l : List Oper) : List Nat → List Oper
  | [] => []
  | k :: r => match l[k]? with
    | some o => o :: pickT l r
    | none => pickT l r
theorem pickT_map {l : List Oper} : ∀ {ks : List Nat}, (ks.all fun k => decide (k < l.length)) = true → (pickT l ks).map some = ks.map fun k => l.toArray[k]?
  | [], _ => rfl
  | k :: r, h => by
    simp only [List.all_cons, Bool.and_eq_true, decide_eq_true_eq] at h
    have e := List.getElem?_eq_getElem h.1
    rw [pickT, e, List.map_cons, List.map_cons, pickT_map h.2]
    simp [h.1]
/-- as dr3, with operations that are taken as soon as they may -/
theorem dr5 {id : Nat} {a : Act} {w : World} {l : List Oper} (S : St F w0 m0 n L fs os a w) (N : Nat) (Z : List Zop) (ks : List Nat) (A : List Nat) (cls : List (Nat × Nat)) (js : List Nat) (E : List (Nat × Td (In (picks (ow os) js)))) (Ds : List (List Nat)) (outs : List Nat) (tail : List Oper) (hA : OwnAll E A) (hz : LZ5 P l.toArray n L E Z)
    (step : HSC A cls P l.toArray Q F w0 w m0 n L fs os E 0 (l.take N) Ds)
    (fin : ∀ a w', St F w0 m0 n (cat (vals E outs) L) fs os a w' → Ch (In (picks (ow os) js)) w w' → pdeps E a w' outs → (∀ d e, (A.contains d && A.contains e && Ap cls d e) = true → ∀ b, blks (a.tmps.getD d undef) b → ¬ blks (a.tmps.getD e undef) b) → wpList P l.toArray Q tail a w')
    (htl : tail = pickT l ks := by rfl) (hm : P.follows .mixedOrders = true := by exact mixed)
    (hok : (headOk l.toArray N && depsOk l.toArray N 0 Ds && keysOk l.toArray N L && chk5 l.toArray N (zix Z) ks && zOk5 l.toArray N L outs Z && ks.all fun k => decide (k < l.length)) = true := by kernel_rfl) (hlen : Ds.length = N := by rfl) (hAh : A.all (isHead l.toArray N) = true := by kernel_rfl) (hirr : A.all (fun d => !Ap cls d d) = true := by decide)
    (hQ : ∀ c a d v w, Q (.panic c) (a.put (some d) v) w → Q (.panic c) a w := by exact fun _ _ _ _ _ h => h) : (Code.region id l.toArray true).wp P Q a w := by
  simp only [Bool.and_eq_true] at hok
  obtain ⟨⟨⟨⟨⟨h1, h2⟩, h3⟩, h5⟩, h6⟩, h7⟩ := hok
  have htl' : tail.map some = ks.map fun k => l.toArray[k]? := htl ▸ pickT_map h7
  simp only [zOk5, Bool.and_eq_true] at h6
  obtain ⟨⟨⟨z1, z2⟩, z3⟩, z4⟩ := h6
  have h5' := h5
  simp only [chk5, Bool.and_eq_true, decide_eq_true_eq] at h5'
  obtain ⟨⟨⟨⟨⟨⟨⟨c1, _⟩, _⟩, _⟩, _⟩, _⟩, _⟩, c8⟩ := h5'
  have hN : N ≤ l.length := by simpa using c1
  have hirr' : ∀ d ∈ A, Ap cls d d = false := fun d hd => by have := List.all_eq_true.1 hirr d hd; simpa using this
  have hdist : ∀ j k o p d, (j < N ∨ j ∈ zix Z) → (k < N ∨ k ∈ zix Z) → j ≠ k → l.toArray[j]? = some o → l.toArray[k]? = some p → o.dst = some d → p.dst ≠ some d := fun j k o p d hj hk hne ho hp hd => by
    have hm : ∀ j, (j < N ∨ j ∈ zix Z) → j ∈ List.range N ++ zix Z := fun j hj => List.mem_append.2 (hj.imp List.mem_range.2 fun h => h)
    have := List.all_eq_true.1 (List.all_eq_true.1 z2 j (hm j hj)) k (hm k hk)
    simp only [dstOf, ho, hp, Option.bind_some, hd, Option.isNone_some, Bool.or_eq_true, beq_iff_eq, bne_iff_ne, Bool.false_eq_true, or_false] at this
    exact fun e => (this.resolve_left hne) e.symm
  have hput : ∀ (a : Act) (o : Oper) (v : Value) d, o.dst ≠ some d → (a.put o.dst v).tmps.getD d undef = a.tmps.getD d undef := fun a o v d hd => by
    cases hod : o.dst with
    | none => rfl
    | some d' =>
      have : d' ≠ d := fun e => hd (by rw [hod, e])
      simp [Act.put, Array.getElem?_setIfInBounds_ne this]
  have hkey : ∀ j o, (j < N ∨ j ∈ zix Z) → l.toArray[j]? = some o → ∀ i v, look i L = some v → o.dst ≠ some i := fun j o hj ho i v hv hd => by
    rcases hj with hj | hj
    · have := List.all_eq_true.1 h3 _ (look_mem hv)
      have h : isHead l.toArray N i = true := List.any_eq_true.2 ⟨j, List.mem_range.2 hj, by rw [ho]; simp [hd]⟩
      rw [h] at this; cases this
    · obtain ⟨z, hzm, hzi⟩ := zix_mem hj
      obtain ⟨⟨o', ho', _, hd', _⟩, _, _⟩ := hz.get z hzm
      rw [hzi] at ho'
      obtain rfl := Option.some.inj (ho.symm.trans ho')
      have := List.all_eq_true.1 (List.all_eq_true.1 z3 _ (look_mem hv)) z hzm
      rw [hd] at hd'
      have e := Option.some.inj hd'
      simp [e] at this
  have hslots : ∀ (a : Act) j o v, (j < N ∨ j ∈ zix Z) → l.toArray[j]? = some o → Slots n L a → Slots n L (a.put o.dst v) := fun a j o v hj ho s => by
    refine ⟨by cases o.dst <;> simp [Act.put, s.size], by cases o.dst <;> simp [Act.put, s.defers], fun i u hu => ?_⟩
    rw [hput a o v i (hkey j o hj ho i u hu)]; exact s.get i u hu
  let G : Array Bool → Act → World → Prop := fun listed a w2 => ((Ch (In (picks (ow os) js)) w w2 ∧ Mm F w0 m0 fs os w2) ∧ PairsC A cls l.toArray N listed a) ∧ Slots n L a ∧ ∀ j, (j < N ∨ j ∈ zix Z) → listed.getD j false = true → ∀ o d, l.toArray[j]? = some o → o.dst = some d → lookE (tq E) d (a.tmps.getD d undef) w2
  have hstart : G (Array.replicate l.length false) a { w with drawn := w.drawn + 1 } :=
    ⟨⟨⟨(Ch.refl _).drew, S.m.drew⟩, fun j k p q d e _ _ hl => by rw [getD_replicate_false] at hl; cases hl⟩, ⟨S.s.size, S.s.defers, S.s.get⟩, fun j _ hl => by rw [getD_replicate_false] at hl; cases hl⟩
  refine wp_region_any hm ?_
  have hc8 : cntB l.toArray.size ks (Array.replicate l.toArray.size false) + ks.length = l.toArray.size := c8
  suffices key : wpAny P .any l.toArray Q (cntB l.toArray.size ks (Array.replicate l.toArray.size false) + ks.length) (Array.replicate l.toArray.size false) a { w with drawn := w.drawn + 1 } by
    rw [hc8] at key; exact key
  refine sched5 (G := G) N (zix Z) ks tail htl' h5 hQ ?_ ?_ ?_ _ _ a _ rfl (by simp) (fun k _ d hk => by simp [show k < l.length from by simpa using hk]) (fun t _ _ ht => by rw [getD_replicate_false] at ht; cases ht) hstart
  · intro i hi listed a1 w1 hls hG hr
    obtain ⟨hC, s, hdone⟩ := hG
    obtain ⟨hil, o, ho, hall⟩ := mem_ready.1 hr
    refine wpOp_mono ?_ (heads3_step (w := w) s N (tq E) (Mm F w0 m0 fs os) Ds A cls hirr' hA.get h1 h2 h3 hlen hN (HSC.steps _ _ _ step) i hi o ho listed a1 w1 hil hall (by simpa using hls) hC ⟨rfl, rfl, fun _ _ => rfl, fun j hj hl => hdone j (.inl hj) hl⟩ rfl rfl (fun _ _ => rfl) ?_)
    · rintro a' w2 ⟨⟨v, rfl, hv⟩, hC', hmono⟩
      refine ⟨hC', hslots a1 i o v (.inl hi) ho s, fun j hj hl p d hp hd => ?_⟩
      by_cases hji : j = i
      · subst hji
        obtain rfl : o = p := Option.some.inj (ho.symm.trans hp)
        obtain ⟨k1, k2⟩ := hv d hd
        rw [hd, getD_put a1 d d v k1, if_pos rfl]; exact k2
      · rw [getD_set_ne false (Ne.symm hji)] at hl
        rw [hput a1 o v d (hdist j i p o d hj (.inl hi) hji hp ho hd)]
        exact hmono d _ (hdone j hj hl p d hp hd)
    · intro k p d hk hp hd hlook
      have g1 := List.all_eq_true.1 h1 i (List.mem_range.2 hi)
      simp only [ho, Bool.and_eq_true] at g1
      have g2 := List.all_eq_true.1 g1.2 k (List.mem_range.2 hk)
      simp only [hp, hd, Bool.and_eq_true, Bool.or_eq_true, Bool.not_eq_true'] at g2
      rcases g2.2 with g3 | g3
      · rw [List.contains_eq_mem] at g3
        simp [hlook] at g3
      · obtain ⟨e, he, hb⟩ := Array.any_eq_true'.1 g3
        simp only [Bool.and_eq_true, beq_iff_eq] at hb
        exact hdone k (.inl hk) (by rw [← hb.2]; exact hall e he hb.1) p d hp hd
  · intro zi hzi listed a1 w1 hG hr
    obtain ⟨hC, s, hdone⟩ := hG
    obtain ⟨hil, o, ho, hall⟩ := mem_ready.1 hr
    obtain ⟨z, hzm, rfl⟩ := zix_mem hzi
    obtain ⟨⟨o', ho', hg, hd, hrun⟩, hzd, hlk⟩ := hz.get z hzm
    obtain rfl := Option.some.inj (ho.symm.trans ho')
    have hzz := List.all_eq_true.1 z1 z hzm
    simp only [Bool.and_eq_true, decide_eq_true_eq] at hzz
    have hdeps : ∀ D, (∀ d ∈ D, d ∈ z.D) → deps (tq E) a1 w1 D := by
      intro D
      induction D with
      | nil => intro _; trivial
      | cons d r ih =>
        intro hsub
        refine ⟨?_, ih fun d hd => hsub d (List.mem_cons_of_mem _ hd)⟩
        obtain ⟨j, hj, hj2⟩ := List.any_eq_true.1 (List.all_eq_true.1 hzz.2 d (hsub d List.mem_cons_self))
        rw [ho] at hj2
        simp only [Bool.and_eq_true, beq_iff_eq] at hj2
        obtain ⟨e, he, hb⟩ := Array.any_eq_true'.1 hj2.2
        simp only [Bool.and_eq_true, beq_iff_eq] at hb
        have hl := hall e he hb.1
        rw [hb.2] at hl
        have hj3 : j < N ∨ j ∈ zix Z := (List.mem_append.1 hj).imp List.mem_range.1 fun h => h
        cases hp : l.toArray[j]? with
        | none => simp [dstOf, hp] at hj2
        | some p => exact hdone j hj3 hl p d hp (by simpa [dstOf, hp] using hj2.1)
    have hS := (deps_open s z.D (hdeps z.D fun d hd => hd)).1
    refine ⟨o, z.v, z.d, ho, hd, .inl ⟨by simp [Region.wanted, hg], fun w' => hrun a1 w' hS⟩, ⟨⟨hC.1, fun j k p q d e hj hk hlj hlk' hp hq hd2 he hdA heA hne => ?_⟩, hslots a1 z.i o z.v (.inr hzi) ho s, fun j hj hl p d hp hd2 => ?_⟩⟩
    · rw [getD_set_ne false (by omega)] at hlj hlk'
      rw [hput a1 o z.v d (hdist j z.i p o d (.inl hj) (.inr hzi) (by omega) hp ho hd2), hput a1 o z.v e (hdist k z.i q o e (.inl hk) (.inr hzi) (by omega) hq ho he)]
      exact hC.2 j k p q d e hj hk hlj hlk' hp hq hd2 he hdA heA hne
    · by_cases hji : j = z.i
      · subst hji
        obtain rfl : o = p := Option.some.inj (ho.symm.trans hp)
        have e := Option.some.inj (hd.symm.trans hd2)
        subst e
        rw [hd, getD_put a1 z.d z.d z.v (by rw [s.size]; exact hzd), if_pos rfl]
        exact (look_tq hlk).2 rfl
      · rw [getD_set_ne false (Ne.symm hji)] at hl
        rw [hput a1 o z.v d (hdist j z.i p o d hj (.inr hzi) hji hp ho hd2)]
        exact hdone j hj hl p d hp hd2
  · intro a1 w1 hG
    obtain ⟨hC, s, hdone⟩ := hG
    have hin : ∀ j, (j < N ∨ j ∈ zix Z) → (fullB l.toArray.size ks).getD j false = true := fun j hj => by
      simp only [chk5, Bool.and_eq_true, decide_eq_true_eq] at h5
      obtain ⟨⟨⟨⟨⟨⟨⟨_, c2⟩, c3⟩, _⟩, _⟩, _⟩, _⟩, _⟩ := h5
      rcases hj with hj | hj
      · rw [fullB_get (by simpa using Nat.lt_of_lt_of_le hj hN)]
        cases hk : ks.contains j
        · rfl
        · have := List.all_eq_true.1 c3 j (List.contains_iff_mem.1 hk)
          simp at this; omega
      · have := List.all_eq_true.1 c2 j hj
        simp only [Bool.and_eq_true, decide_eq_true_eq, Bool.not_eq_true'] at this
        rw [fullB_get this.1.1, this.1.2]; rfl
    have hdeps : ∀ D, (∀ d ∈ D, d ∈ outs) → deps (tq E) a1 w1 D := by
      intro D
      induction D with
      | nil => intro _; trivial
      | cons d r ih =>
        intro hsub
        refine ⟨?_, ih fun d hd => hsub d (List.mem_cons_of_mem _ hd)⟩
        obtain ⟨j, hj, hj2⟩ := List.any_eq_true.1 (List.all_eq_true.1 z4 d (hsub d List.mem_cons_self))
        have hj3 : j < N ∨ j ∈ zix Z := (List.mem_append.1 hj).imp List.mem_range.1 fun h => h
        cases hp : l.toArray[j]? with
        | none => simp [dstOf, hp] at hj2
        | some p => exact hdone j hj3 (hin j hj3) p d hp (by simpa [dstOf, hp] using hj2)
    obtain ⟨k1, k2⟩ := deps_open s outs (hdeps outs fun d hd => hd)
    refine fin a1 w1 ⟨k1, hC.1.2⟩ hC.1.1 k2 fun d e hde => ?_
    simp only [Bool.and_eq_true, List.contains_iff_mem] at hde
    have hh := List.all_eq_true.1 hAh
    obtain ⟨j, p, g5, g6, g7⟩ := isHead_spec (hh d hde.1.1)
    obtain ⟨k, q, f5, f6, f7⟩ := isHead_spec (hh e hde.1.2)
    exact hC.2 j k p q d e g5 f5 (hin j (.inl g5)) (hin k (.inl f5)) g6 f6 g7 f7 hde.1.1 hde.1.2 hde.2
variable {chg : List BS} {ops : Array Oper} {o : Oper} {W : World} {A D : List Nat} {cls : List (Nat × Nat)} {i : Nat}
/-- a literal with elements, as a row of the call's own -/
def litT (q : Nat) (cs : List Value) (t : TypeId) (z0 : Nat) (chg : List BS) : Td (In chg) :=
  .of (fun z w => ∃ b, z = .slice (some ⟨b, 0, none⟩) q q ∧ Blk w.heap b cs t ∧ z0 ≤ b ∧ ¬ In chg b) fun _ _ _ c ⟨b, e, h, hn⟩ => ⟨b, e, h.tr c hn.2, hn⟩
theorem litT_owns {q t : Nat} {z0 : Nat} {cs : List Value} : Owns (litT q cs t z0 chg) := fun _ _ ⟨_, e, h, _⟩ x hx => by rw [e] at hx; cases hx; exact h.lt
theorem hcs {d q t z0 : Nat} {cs : List Value} {js : List Nat} {E : List (Nat × Td (In (picks (ow os) js)))} (he : lookT d E = some (litT q cs t z0 (picks (ow os) js))) (hz : z0 = W.heap.size)
    (hrun : ∀ {a w}, St F w0 m0 n (cat (vals E D) L) fs os a w → (execOp a.eval o).run P w = .ok (.value (.slice (some ⟨w.heap.size, 0, none⟩) q q)) (w.alloc (.cells cs.toArray t)))
    (hk : ops[i]? = some o ∧ o.guard = none ∧ o.dst = some d ∧ d < n := by exact ⟨rfl, rfl, rfl, by decide⟩) : HDC A cls P ops Q F w0 W m0 n L fs os E i o D := fun a w S G _ _ =>
  hcb S.m (hrun S) (fun b hb => (Option.some.inj hb).symm) ⟨hk.2.2.1, hk.2.2.2⟩ ((look_tq he).2 ⟨_, rfl, Blk.new _ cs t, by rw [hz]; exact G.size, not_chg S.m⟩) ⟨hk.1, hk.2.1⟩
end
end Go.Proofs.Ytobggnpnochnnaa.V
/- Bytes as a string. -/
namespace Go.Proofs.Ytobggnpnochnnaa.V
open Go.RowKit
section
variable {P : Program} {a : Act} {w : World} {d : Option Tmp} {ty : TypeId} {pos : String} {af : Array Edge} {g : Option (Nat × Bool)} {x : Operand} {src dst e : TypeId}
theorem x_bstr {D : Nat → Prop} (s : Sl Int) (H : (slE u8E).wf D w.heap s) (hs : P.underlying src = some (.slice e)) (he : P.underlying e = some (.int .u8)) (hd : P.underlying dst = some .string) (hx : a.eval x = .slice s.a s.xs.length s.c) : (execOp a.eval ⟨d, .convert src dst x, ty, pos, af, g⟩).run P w = .ok (.value (.string (strOfNums s.xs))) w := by
  have key : (convert src dst (.slice s.a s.xs.length s.c)).run P w = .ok (.string (strOfNums s.xs)) w := by
    rcases Nat.eq_zero_or_pos s.xs.length with h | h
    · cases hsa : s.a with
      | none =>
        rw [run_convert_bytes_string w src dst e none _ _ hs he hd, List.eq_nil_of_length_eq_zero h]
        rfl
      | some b =>
        rw [run_convert_bytes_string w src dst e (some b) _ _ hs he hd, List.eq_nil_of_length_eq_zero h]
        rfl
    · have hq := (H.1.ad h).1
      rw [hq]
      exact run_convert_bytes_arg (P := P) w src e hs he _ _ _ s.c s.xs rfl (fun i hi => by have h1 := H.1.cell i hi 0 (.int .u8 (s.xs.getD i 0)) rfl; rw [Nat.add_zero, show u8E.n = 1 from rfl, Nat.mul_one] at h1; exact h1) dst hd
  simp [execOp, hx, key]
theorem pbT {o : Oper} {b : Bool} (h : (execOp a.eval o).run P w = .ok (.value (.bool b)) w) (hb : b = true := by rfl) : (execOp a.eval o).run P w = .ok (.value (.bool (decide True))) w := by subst hb; exact h
theorem pbF {o : Oper} {b : Bool} (h : (execOp a.eval o).run P w = .ok (.value (.bool b)) w) (hb : b = false := by rfl) : (execOp a.eval o).run P w = .ok (.value (.bool (decide False))) w := by subst hb; exact h
theorem x_fldv {s : TypeId} {cs : List Value} {i : Nat} {fs : Array Field} {f : Field} {v : Value} (hu : P.underlying s = some (.struct fs)) (hf : fs[i]? = some f) (hs : Scalar P f.type) (hx : a.eval x = .agg cs.toArray) (hv : cs[f.offset]? = some v) : (execOp a.eval ⟨d, .field s x i, ty, pos, af, g⟩).run P w = .ok (.value v) w := by
  have hq : (part f.type cs.toArray f.offset).run P w = .ok v w := by
    have h2 : cs.toArray[f.offset]? = some v := by rw [List.getElem?_toArray]; exact hv
    unfold part
    simp [Sem.run_bind, Result.andThen, run_isAgg_scalar hs, h2, Sem.run_pure]
  simp [execOp, Instr.field, run_underlying hu, hf, hx, asAgg, hq]
theorem strN_len (xs : List Int) : (strOfNums xs).size = xs.length := strOfNums_size xs
theorem strN_in {xs : List Int} (h : xs.length ≤ maxLen) : inStr (strOfNums xs) := by unfold inStr; rw [strN_len]; exact h
end
end Go.Proofs.Ytobggnpnochnnaa.V
