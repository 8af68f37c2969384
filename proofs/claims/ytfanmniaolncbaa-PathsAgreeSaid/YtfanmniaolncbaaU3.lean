/- Arithmetic on bits and without bounds; a part of an element of a row is written. -/
import Derived.Test.YtfanmniaolncbaaGrpD
set_option linter.unusedVariables false
set_option linter.unusedSimpArgs false
namespace Go.Proofs.Ytfanmniaolncbaa.V
open Go.RowKit
theorem wu32 (x : Int) : inU32 (IntKind.u32.wrap x) := by
  unfold IntKind.wrap; simp [IntKind.signed, IntKind.bits]; omega
theorem wu64 (x : Int) : inU64 (IntKind.u64.wrap x) := by
  unfold IntKind.wrap; simp [IntKind.signed, IntKind.bits]; omega
theorem wi64 (x : Int) : inI64 (IntKind.i64.wrap x) := by
  unfold IntKind.wrap; simp [IntKind.signed, IntKind.bits]; split <;> omega
def bOr (k : IntKind) (x y : Int) : Int := k.wrap ((BitVec.ofInt k.bits x ||| BitVec.ofInt k.bits y).toNat : Int)
def bXor (k : IntKind) (x y : Int) : Int := k.wrap ((BitVec.ofInt k.bits x ^^^ BitVec.ofInt k.bits y).toNat : Int)
def sHl (k : IntKind) (x n : Int) : Int := k.wrap (x * 2 ^ (min n.toNat k.bits))
def sHr (k : IntKind) (x n : Int) : Int := x.fdiv (2 ^ (min n.toNat k.bits))
section
variable {P : Program} {a : Act} {w : World} {d : Option Tmp} {ty : TypeId} {pos : String} {af : Array Edge} {g : Option (Nat × Bool)} {x y : Operand} {xt yt : TypeId} {k k' : IntKind} {m p : Int}
theorem x_bor (hx : a.eval x = .int k m) (hy : a.eval y = .int k p) : (execOp a.eval ⟨d, .binOp .or xt x y yt, ty, pos, af, g⟩).run P w = .ok (.value (.int k (bOr k m p))) w := by simp [execOp, eqGuard, binOp, Op.intBits, hx, hy, bOr]
theorem x_bxor (hx : a.eval x = .int k m) (hy : a.eval y = .int k p) : (execOp a.eval ⟨d, .binOp .xor xt x y yt, ty, pos, af, g⟩).run P w = .ok (.value (.int k (bXor k m p))) w := by simp [execOp, eqGuard, binOp, Op.intBits, hx, hy, bXor]
theorem x_shl (hx : a.eval x = .int k m) (hy : a.eval y = .int k' p) (h0 : 0 ≤ p) : (execOp a.eval ⟨d, .binOp .shl xt x y yt, ty, pos, af, g⟩).run P w = .ok (.value (.int k (sHl k m p))) w := by
  have : ¬ p < 0 := by omega
  simp [execOp, eqGuard, binOp, Op.shift, hx, hy, sHl, this]
theorem x_shr (hx : a.eval x = .int k m) (hy : a.eval y = .int k' p) (h0 : 0 ≤ p) : (execOp a.eval ⟨d, .binOp .shr xt x y yt, ty, pos, af, g⟩).run P w = .ok (.value (.int k (sHr k m p))) w := by
  have : ¬ p < 0 := by omega
  simp [execOp, eqGuard, binOp, Op.shift, hx, hy, sHr, this]
end
theorem retcw2 {P : Program} {n : Nat} {L : List (Nat × Value)} {a : Act} {w : World} {fn : Func} {R : Ending → World → Prop} {t t' T : Nat} {b : Nat} {v' : Value} {cs : List Value} (hr : fn.results = #[.cell t T, .tmp t']) (S : Slots n L a) (hv : look t L = some (.pointer (some ⟨b, 0, none⟩))) (hv' : look t' L = some v') (hc : ∀ j v, cs[j]? = some v → hcell w.heap b (0 + j) = some v) (hs : Wide P T cs.length) (h : R (.returned (.tuple #[.agg cs.toArray, v'])) w) : bodyPost P fn R .ret a w := by
  refine ⟨S.defers, _, ?_, h⟩
  have hl := run_loadVar_wide (P := P) (w := w) cs hs hc
  have h1 := S.get t _ hv
  have h2 := S.get t' _ hv'
  simp only [Array.getD_eq_getD_getElem?] at h1 h2
  simp [results, hr, h1, h2, asAddr, hl]
theorem stx {P : Program} {ops : Array Oper} {F : Nat → Prop} {w0 : World} {m0 : List BS} {n : Nat} {L : List (Nat × Value)} {fs : List RF} {os : List OF} {ty : TypeId} {pos : String} {af : Array Edge} {x y : Operand} {v : Value} {t e : TypeId} {b f : Nat} {cs : List Value} {u : Value} (i : Nat) (cs' : List Value) (hx : evS L x = some (.pointer (some ⟨b, f, none⟩))) (hy : evS L y = some v) (hb : nth os i = some (blO b cs e)) (hcs : cs.set f v = cs') (ho : cs[f]? = some u := by rfl) (h1 : v.oneCell' = true := by rfl) (hz : (P.info? t).map (·.size) = some 1 := by kernel_rfl) :
    One P ops (St F w0 m0 n L fs os) [one b] ⟨none, .store t x y, ty, pos, af, none⟩ (St F w0 m0 n L fs (os.set i (blO b cs' e))) := by
  subst hcs; exact stk i hx hy hb ho h1 hz
theorem take_splice {α : Type _} (l vs : List α) (a K : Nat) (h : a + vs.length ≤ K) (hl : K ≤ l.length) : (l.take a ++ vs ++ l.drop (a + vs.length)).take K = (l.take K).take a ++ vs ++ (l.take K).drop (a + vs.length) := by
  have e1 : (l.take a).length = a := by rw [List.length_take]; omega
  rw [List.append_assoc, List.take_append, e1, List.take_append, List.take_of_length_le (by rw [e1]; omega : (l.take a).length ≤ K), List.take_of_length_le (by omega : vs.length ≤ K - a), List.take_take, Nat.min_eq_left (by omega), List.append_assoc]
  congr 2
  rw [List.drop_take]
  congr 1
  omega
theorem flat_splice {α : Type} {E : Enc α} (x' : α) (j : Nat) (vs : List Value) (hj : j + vs.length ≤ E.n) : ∀ (xs : List α) (m : Nat), m < xs.length → E.cells x' = (E.cells (xs.getD m E.dflt)).take j ++ vs ++ (E.cells (xs.getD m E.dflt)).drop (j + vs.length) →
    (xs.set m x').flatMap E.cells = (xs.flatMap E.cells).take (m * E.n + j) ++ vs ++ (xs.flatMap E.cells).drop (m * E.n + j + vs.length)
  | [], m, h, _ => by simp at h
  | x :: xs, 0, _, h => by
    have h' : E.cells x' = (E.cells x).take j ++ vs ++ (E.cells x).drop (j + vs.length) := by simpa using h
    have hl := E.len x
    rw [List.set_cons_zero, List.flatMap_cons, List.flatMap_cons, h', Nat.zero_mul, Nat.zero_add, List.take_append_of_le_length (by omega), List.drop_append_of_le_length (by omega)]
    simp [List.append_assoc]
  | x :: xs, m + 1, hm, h => by
    have hl := E.len x
    rw [List.set_cons_succ, List.flatMap_cons, List.flatMap_cons, flat_splice x' j vs hj xs m (by simpa using hm) (by simpa using h), Nat.add_mul, Nat.one_mul]
    rw [show m * E.n + E.n + j = (E.cells x).length + (m * E.n + j) from by omega, List.take_length_add_append, show (E.cells x).length + (m * E.n + j) + vs.length = (E.cells x).length + (m * E.n + j + vs.length) from by omega, List.drop_length_add_append]
    simp [List.append_assoc]
section
variable {P : Program} {ops : Array Oper} {F : Nat → Prop} {w0 : World} {m0 : List BS} {n : Nat} {L : List (Nat × Value)} {fs : List RF} {os : List OF} {ty : TypeId} {pos : String} {af : Array Edge} {x y : Operand}
/-- several cells of an element of a row of the call's own are written -/
theorem strw_wp {α : Type} {E : Enc α} {et : TypeId} {t : TypeId} {ad : Option Addr} {cap ob bs : Nat} {xs : List α} {vs : List Value} (i : Nat) (hx : evS L x = some (.pointer (some ⟨blk ad, ob, none⟩))) (hy : evS L y = some (.agg vs.toArray)) (hr : nth os i = some (rwO E et bs ad cap xs)) (m j : Nat) (hm : m < xs.length) (hj : j + vs.length ≤ E.n) (x' : α) (hw : ∀ {a w}, St F w0 m0 n L fs os a w → E.wf (Fr F (ow os)) w.heap x') (hc : E.cells x' = (E.cells (xs.getD m E.dflt)).take j ++ vs ++ (E.cells (xs.getD m E.dflt)).drop (j + vs.length)) (hob : ob = m * E.n + j) (h1 : vs.all (·.oneCell') = true) (hz : (P.info? t).map (·.size) = some vs.length := by kernel_rfl) {a : Act} {w : World} {K : Act → World → Prop} {Q : Exit → Act → World → Prop} (S : St F w0 m0 n L fs os a w) (k : ∀ a' w', St F w0 m0 n L fs (os.set i (rwO E et bs ad cap (xs.set m x'))) a' w' → Ch (In [abk ad]) w w' → K a' w') :
    Oper.wp P ⟨none, .store t x y, ty, pos, af, none⟩ a w K Q := by
  subst hob
  have R := S.row i hr
  rcases R.form with ⟨_, h, _⟩ | ⟨had, hb, hlt, _⟩
  · rw [h] at hm; simp at hm
  · have hne : ad ≠ none := fun e => by rw [e] at had; cases had
    rcases R.own.2 with ⟨h1', h2⟩ | ⟨g, c, cur, g1, g2, g3, g4, g5, g6, g7⟩
    · rw [h2] at hm; omega
    · injection g1 with g1 _ g8
      subst g1 g8
      have hmn : m * E.n + j + vs.length ≤ xs.length * E.n := by
        have : (m + 1) * E.n ≤ xs.length * E.n := Nat.mul_le_mul_right _ hm
        rw [Nat.add_mul] at this; omega
      have hcs : xs.length * E.n ≤ cur.size := by rw [g6]; exact Nat.mul_le_mul_right _ g4
      have hst := run_storeCells_at P g (m * E.n + j) et vs 0 cur w g3 (by omega) (fun v hv => List.all_eq_true.1 h1 v hv)
      simp only [Nat.add_zero] at hst
      generalize hcur : (cur.toList.take (m * E.n + j) ++ vs ++ cur.toList.drop (m * E.n + j + vs.length)).toArray = cur' at hst
      have hg : Ch (In [abk (some ⟨g, 0, none⟩)]) w (w.setRow g cur') := (setRow_ch w g cur').mono fun k hk => hk.imp (fun h => by rw [abk_one]; exact h) id
      have hrun : (execOp a.eval ⟨none, .store t x y, ty, pos, af, none⟩).run P w = .ok .skip (w.setRow g cur') := by
        cases hi : P.info? t with
        | none => simp [hi] at hz
        | some ie =>
          have h6 : ie.size = vs.length := by simpa [hi] using hz
          simp [execOp, Instr.storeAt, S.e hx, S.e hy, Instr.sureAddr, storeVar, Value.cells, sizeOf, typeInfo, hi, h6, blk, hst]
      have hsz : cur'.size = cur.size := by rw [← hcur]; simp; omega
      have hheap : (w.setRow g cur').heap[g]? = some (.cells cur' et (0, 0)) := by simp [World.setRow, Array.getElem?_modify, g3]
      have hM := S.m.k1 i hr (rwO E et bs (some ⟨g, 0, none⟩) cap (xs.set m x')) rfl hg ?_
      · exact op_skip hrun (k _ _ ⟨S.s, hM⟩ hg)
      · have hkp : Kp (Fr F (ow os)) w.heap (w.setRow g cur').heap := hg.kp fun k _ h1 h2 => h1.1 (in_mem (ow_mem (nth_mem hr)) (In.one.1 h2))
        refine ⟨⟨by rw [flat_len E.len, List.length_set], .inr ⟨g, cap, cur', by rw [List.length_set], g2, hheap, by rw [List.length_set]; exact g4, g5, by rw [hsz]; exact g6, ?_⟩⟩, fun q hq => ?_⟩
        · rw [flat_splice x' j vs hj xs m hm hc, List.length_set, ← hcur, ← g7]
          exact take_splice _ _ _ _ hmn (by simpa using hcs)
        · rcases List.mem_or_eq_of_mem_set hq with q1 | q1
          · exact E.keep hkp (R.wf q q1)
          · subst q1; exact E.keep hkp (hw S)
theorem strw {α : Type} {E : Enc α} {et : TypeId} {t : TypeId} {ad : Option Addr} {cap ob bs : Nat} {xs : List α} {vs : List Value} (i : Nat) (hx : evS L x = some (.pointer (some ⟨blk ad, ob, none⟩))) (hy : evS L y = some (.agg vs.toArray)) (hr : nth os i = some (rwO E et bs ad cap xs)) (m j : Nat) (hm : m < xs.length) (hj : j + vs.length ≤ E.n) (x' : α) (hw : ∀ {a w}, St F w0 m0 n L fs os a w → E.wf (Fr F (ow os)) w.heap x') (hc : E.cells x' = (E.cells (xs.getD m E.dflt)).take j ++ vs ++ (E.cells (xs.getD m E.dflt)).drop (j + vs.length)) (hob : ob = m * E.n + j) (h1 : vs.all (·.oneCell') = true) (hz : (P.info? t).map (·.size) = some vs.length := by kernel_rfl) :
    One P ops (St F w0 m0 n L fs os) [abk ad] ⟨none, .store t x y, ty, pos, af, none⟩ (St F w0 m0 n L fs (os.set i (rwO E et bs ad cap (xs.set m x')))) := fun K Q a w S k => by
  unfold Core
  rw [if_pos (by simp [Region.wanted])]
  exact .inl (strw_wp i hx hy hr m j hm hj x' hw hc hob h1 hz S k)
end
end Go.Proofs.Ytfanmniaolncbaa.V
