/- A small logic of my own over the model: what is known of a frame's slots, steps of one operation, regions that draw their order by what each operation leaves. -/
import Derived.WalkKit
import Derived.StillTail
import Derived.Deep.LoopGhost
import Derived.Deep.AppendLies
import Derived.Great.BuildSlice
set_option linter.unusedVariables false
set_option linter.unusedSimpArgs false
namespace Go.Proofs.Ytfanmniaolncbaa.V
open Go.RowKit
def look (t : Nat) : List (Nat × Value) → Option Value
  | [] => none
  | (i, v) :: r => bif Nat.beq i t then some v else look t r
def evS (L : List (Nat × Value)) : Operand → Option Value
  | .tmp t => look t L
  | .const v => some v
  | .global g => some (.pointer (some ⟨g, 0, none⟩))
  | .func f => some (.func (.func f) #[] #[])
/-- what is known of the frame: its size, no deferred call, and the values of some slots -/
structure Slots (n : Nat) (L : List (Nat × Value)) (a : Act) : Prop where
  size : a.tmps.size = n
  defers : a.defers = []
  get : ∀ i v, look i L = some v → a.tmps.getD i undef = v
section
variable {n : Nat} {L L' : List (Nat × Value)} {a : Act}
theorem Slots.eval (S : Slots n L a) {x : Operand} {v : Value} (h : evS L x = some v) : a.eval x = v := by
  cases x with
  | tmp t => exact S.get t v h
  | const u => exact Option.some.inj h
  | global g => exact Option.some.inj h
  | func f => exact Option.some.inj h
theorem look_cons (i t : Nat) (v : Value) : look i ((t, v) :: L) = if t = i then some v else look i L := by
  show (bif Nat.beq t i then some v else look i L) = _
  by_cases h : t = i
  · subst h; simp
  · rw [if_neg h, show Nat.beq t i = false from (match hb : Nat.beq t i with | true => absurd (Nat.eq_of_beq_eq_true hb) h | false => rfl)]; rfl
theorem Slots.ext (S : Slots n L a) {d : Nat} {v : Value} (h : a.tmps.getD d undef = v) : Slots n ((d, v) :: L) a :=
  ⟨S.size, S.defers, fun i u hu => by
    rw [look_cons] at hu
    by_cases e : d = i
    · rw [if_pos e] at hu; subst e; rw [h]; exact Option.some.inj hu
    · rw [if_neg e] at hu; exact S.get i u hu⟩
theorem getD_put (a : Act) (d i : Nat) (v : Value) (h : d < a.tmps.size) : (a.put (some d) v).tmps.getD i undef = if d = i then v else a.tmps.getD i undef := by
  by_cases e : d = i
  · subst e; simp [Act.put, h]
  · rw [if_neg e]; simp [Act.put, Array.getElem?_setIfInBounds_ne e]
theorem Slots.put (S : Slots n L a) {d : Nat} {v : Value} (hd : d < n) : Slots n ((d, v) :: L) (a.put (some d) v) :=
  ⟨by simp [Act.put, S.size], S.defers, fun i u hu => by
    rw [look_cons] at hu
    rw [getD_put a d i v (by rw [S.size]; exact hd)]
    by_cases e : d = i
    · rw [if_pos e] at hu ⊢; exact Option.some.inj hu
    · rw [if_neg e] at hu ⊢; exact S.get i u hu⟩
def Sub (L : List (Nat × Value)) : List (Nat × Value) → Prop
  | [] => True
  | (i, v) :: r => look i L = some v ∧ Sub L r
theorem Slots.sub (S : Slots n L a) (h : Sub L L') : Slots n L' a :=
  ⟨S.size, S.defers, fun i u hu => S.get i u (by
    revert hu
    induction L' with
    | nil => intro hu; cases hu
    | cons p r ih =>
      obtain ⟨j, v⟩ := p
      intro hu
      rw [look_cons] at hu
      by_cases e : j = i
      · rw [if_pos e] at hu; subst e; rw [← Option.some.inj hu]; exact h.1
      · rw [if_neg e] at hu; exact ih h.2 hu)⟩
def zipL : Nat → List Value → List (Nat × Value)
  | _, [] => []
  | k, v :: r => (k, v) :: zipL (k + 1) r
theorem look_zip : ∀ (l : List Value) (k i : Nat) (v : Value), look i (zipL k l) = some v → k ≤ i ∧ l[i - k]? = some v
  | [], _, _, _, h => by cases h
  | u :: r, k, i, v, h => by
    rw [zipL, look_cons] at h
    by_cases e : k = i
    · subst e; rw [if_pos rfl] at h; simpa using h
    · rw [if_neg e] at h
      obtain ⟨h1, h2⟩ := look_zip r (k + 1) i v h
      refine ⟨by omega, ?_⟩
      rw [show i - k = (i - (k + 1)) + 1 from by omega, List.getElem?_cons_succ]
      exact h2
end
section
variable {P : Program} {Q : Exit → Act → World → Prop} {n : Nat} {L L' : List (Nat × Value)} {a : Act} {w : World}
/-- entering a function -/
theorem enter {f : FuncId} {fn : Func} {c : Code} {args : Array Value} {R : Ending → World → Prop} (hf : P.funcs[f]? = some fn) (hb : fn.body = some c) (n : Nat) (hn : fn.ntmps = n) (hsz : args.size ≤ n)
    (h : ∀ a, Slots n (zipL 0 args.toList) a → c.wp P (bodyPost P fn R) a w) : Calls P f args w R := by
  refine calls_of_wp hf hb (h _ ⟨?_, rfl, fun i v hv => ?_⟩)
  · simp [hn]; omega
  · obtain ⟨_, h2⟩ := look_zip _ _ _ _ hv
    have h3 : args[i]? = some v := by simpa using h2
    obtain ⟨h4, h5⟩ := Array.getElem?_eq_some_iff.1 h3
    simp [Array.getElem?_append, h4, h5]
theorem ret1 {fn : Func} {R : Ending → World → Prop} {t : Nat} {v : Value} (hr : fn.results = #[.tmp t]) (S : Slots n L a) (hv : look t L = some v) (h : R (.returned v) w) : bodyPost P fn R .ret a w := by
  refine ⟨S.defers, v, ?_, h⟩
  simp [results, hr, ← S.get t v hv]
theorem ret2 {fn : Func} {R : Ending → World → Prop} {t t' : Nat} {v v' : Value} (hr : fn.results = #[.tmp t, .tmp t']) (S : Slots n L a) (hv : look t L = some v) (hv' : look t' L = some v') (h : R (.returned (.tuple #[v, v'])) w) : bodyPost P fn R .ret a w := by
  refine ⟨S.defers, _, ?_, h⟩
  simp [results, hr, ← S.get t v hv, ← S.get t' v' hv']
theorem ret3 {fn : Func} {R : Ending → World → Prop} {t t' t2 : Nat} {v v' v2 : Value} (hr : fn.results = #[.tmp t, .tmp t', .tmp t2]) (S : Slots n L a) (hv : look t L = some v) (hv' : look t' L = some v') (hv2 : look t2 L = some v2) (h : R (.returned (.tuple #[v, v', v2])) w) : bodyPost P fn R .ret a w := by
  refine ⟨S.defers, _, ?_, h⟩
  simp [results, hr, ← S.get t v hv, ← S.get t' v' hv', ← S.get t2 v2 hv2]
theorem ret0 {fn : Func} {R : Ending → World → Prop} (hr : fn.results = #[]) (S : Slots n L a) (h : R (.returned (.tuple #[])) w) : bodyPost P fn R .ret a w := by
  refine ⟨S.defers, _, ?_, h⟩
  simp [results, hr]
theorem end0 {fn : Func} {R : Ending → World → Prop} (hr : fn.results = #[]) (S : Slots n L a) (h : R (.returned (.tuple #[])) w) : bodyPost P fn R .normal a w := by
  refine ⟨S.defers, _, ?_, h⟩
  simp [results, hr]
theorem cond_dec {c : Operand} {x y : Code} {p : Prop} [Decidable p] (S : Slots n L a) (hc : evS L c = some (.bool (decide p))) (ht : p → x.wp P Q a w) (hf : ¬ p → y.wp P Q a w) : (Code.cond c x y).wp P Q a w := by
  refine wp_cond (S.eval hc) ?_
  by_cases h : p
  · simpa [h] using ht h
  · simpa [h] using hf h
theorem cond_bool {c : Operand} {x y : Code} {b : Bool} (S : Slots n L a) (hc : evS L c = some (.bool b)) (ht : b = true → x.wp P Q a w) (hf : b = false → y.wp P Q a w) : (Code.cond c x y).wp P Q a w := by
  refine wp_cond (S.eval hc) ?_
  cases b
  · exact hf rfl
  · exact ht rfl
theorem cond_t {c : Operand} {x y : Code} (S : Slots n L a) (hc : evS L c = some (.bool true)) (h : x.wp P Q a w) : (Code.cond c x y).wp P Q a w := wp_cond (S.eval hc) h
theorem cond_f {c : Operand} {x y : Code} (S : Slots n L a) (hc : evS L c = some (.bool false)) (h : y.wp P Q a w) : (Code.cond c x y).wp P Q a w := wp_cond (S.eval hc) h
theorem then_n {f : Act → World → Prop} (h : f a w) : Exit.then f Q .normal a w := h
theorem then_r {f : Act → World → Prop} (h : Q .ret a w) : Exit.then f Q .ret a w := h
theorem then_e {f : Act → World → Prop} {i : Nat} (h : Q (.exit i) a w) : Exit.then f Q (.exit i) a w := h
theorem blk_n {i : Nat} (h : Q .normal a w) : Exit.inBlock i Q .normal a w := h
theorem blk_r {i : Nat} (h : Q .ret a w) : Exit.inBlock i Q .ret a w := h
theorem blk_e {i : Nat} (h : Q .normal a w) : Exit.inBlock i Q (.exit i) a w := by show (if i = i then _ else _); rw [if_pos rfl]; exact h
theorem blk_o {i j : Nat} (hj : j ≠ i) (h : Q (.exit j) a w) : Exit.inBlock i Q (.exit j) a w := by show (if j = i then _ else _); rw [if_neg hj]; exact h
/-- a loop whose state is told by the proof -/
theorem loop {σ : Type} {c : Code} (J : σ → Act → World → Prop) (μ : σ → Nat) (s₀ : σ) (h₀ : J s₀ a w)
    (round : ∀ s a w, J s a w → c.wp P (Exit.then (fun a' w' => ∃ s', J s' a' w' ∧ μ s' < μ s) Q) a w) : (Code.loop c).wp P Q a w := by
  refine wp_loop_ghost (fun k a w => ∃ s, J s a w ∧ μ s = k) (μ s₀) ⟨s₀, h₀, rfl⟩ fun k a w ⟨s, hs, hk⟩ => ?_
  refine wp_mono (round s a w hs) fun e a' w' hq => ?_
  cases e with
  | normal =>
    obtain ⟨s', h1, h2⟩ := hq
    exact ⟨μ s', by omega, s', h1, rfl⟩
  | exit id => exact hq
  | goto l => exact hq
  | ret => exact hq
  | panic ch => exact hq
  | outgrown => exact hq
theorem op_val {o : Oper} {v : Value} {w' : World} {K : Act → World → Prop} (h : (execOp a.eval o).run P w = .ok (.value v) w') (hK : K (a.put o.dst v) w') : o.wp P a w K Q := by
  unfold Oper.wp; rw [h]; exact hK
theorem op_skip {o : Oper} {w' : World} {K : Act → World → Prop} (h : (execOp a.eval o).run P w = .ok .skip w') (hK : K (a.put o.dst undef) w') : o.wp P a w K Q := by
  unfold Oper.wp; rw [h]; exact hK
variable {ops : Array Oper} {rest : List Oper} {o : Oper}
/-- one operation of a plain region -/
theorem seq_op (hg : o.guard = none) (h : o.wp P a w (wpList P ops Q rest) Q) : wpList P ops Q (o :: rest) a w := by
  unfold wpList
  rw [if_pos (by simp [Region.wanted, hg])]
  exact .inl h
theorem seq_val (S : Slots n L a) (hg : o.guard = none) {d : Nat} (hd : o.dst = some d) (hdn : d < n) {v : Value} {w' : World} (h : (execOp a.eval o).run P w = .ok (.value v) w')
    (next : ∀ a', Slots n ((d, v) :: L) a' → wpList P ops Q rest a' w') : wpList P ops Q (o :: rest) a w :=
  seq_op hg (op_val h (by rw [hd]; exact next _ (S.put hdn)))
theorem seq_val0 (S : Slots n L a) (hg : o.guard = none) (hd : o.dst = none) {v : Value} {w' : World} (h : (execOp a.eval o).run P w = .ok (.value v) w')
    (next : ∀ a', Slots n L a' → wpList P ops Q rest a' w') : wpList P ops Q (o :: rest) a w :=
  seq_op hg (op_val h (by rw [hd]; exact next _ S))
theorem seq_skip (S : Slots n L a) (hg : o.guard = none) (hd : o.dst = none) {w' : World} (h : (execOp a.eval o).run P w = .ok .skip w')
    (next : ∀ a', Slots n L a' → wpList P ops Q rest a' w') : wpList P ops Q (o :: rest) a w :=
  seq_op hg (op_skip h (by rw [hd]; exact next _ S))
/-- a function of the program that has a body -/
def Callable (P : Program) (f : FuncId) : Prop := ∃ fn, P.funcs[f]? = some fn ∧ (fn.name == "runtime.NumGoroutine") = false ∧ fn.body.isNone = false
theorem op_call {d : Option Tmp} {ty : TypeId} {pos : String} {af : Array Edge} {g : Option (Nat × Bool)} {f : FuncId} {args : Array Operand} {ats : Array TypeId} {vs : Array Value} {R : Ending → World → Prop} {K : Act → World → Prop}
    (hv : args.map a.eval = vs) (hf : Callable P f) (hc : Calls P f vs w R) (hR : ∀ e w', R e w' → ∃ v, e = .returned v ∧ K (a.put d v) w') :
    Oper.wp P ⟨d, .call ⟨.value (.func f), args, ats⟩, ty, pos, af, g⟩ a w K Q := by
  obtain ⟨fn, h1, h2, h3⟩ := hf
  subst hv
  have hr : (execOp a.eval ⟨d, .call ⟨.value (.func f), args, ats⟩, ty, pos, af, g⟩).run P w = .ok (.enter f (args.map a.eval)) w := by
    have h2' : ¬ fn.name = "runtime.NumGoroutine" := by simpa using h2
    have h3' : ¬ fn.body = none := fun e => by simp [e] at h3
    simp [execOp, resolve, Act.eval, Deferred.ofValue, invoke, callFunc, h1, h2', h3']
  unfold Oper.wp
  rw [hr]
  show Calls P f _ w _
  refine hc.mono fun e w' he => ?_
  obtain ⟨v, rfl, hK⟩ := hR e w' he
  exact hK
theorem seq_call (S : Slots n L a) {d : Nat} (hdn : d < n) {ty : TypeId} {pos : String} {af : Array Edge} {f : FuncId} {args : Array Operand} {ats : Array TypeId} {vs : Array Value} {R : Ending → World → Prop}
    (hv : args.toList.map (evS L) = vs.toList.map some) (hf : Callable P f) (hc : Calls P f vs w R) (hR : ∀ e w', R e w' → ∃ v, e = .returned v ∧ ∀ a', Slots n ((d, v) :: L) a' → wpList P ops Q rest a' w') :
    wpList P ops Q (⟨some d, .call ⟨.value (.func f), args, ats⟩, ty, pos, af, none⟩ :: rest) a w := by
  refine seq_op rfl (op_call ?_ hf hc fun e w' he => ?_)
  · apply Array.ext'
    rw [Array.toList_map]
    have : ∀ (l : List Operand) (u : List Value), l.map (evS L) = u.map some → l.map a.eval = u := by
      intro l
      induction l with
      | nil => intro u hu; cases u <;> simp_all
      | cons x l ih =>
        intro u hu
        cases u with
        | nil => simp at hu
        | cons v u =>
          simp only [List.map_cons, List.cons.injEq] at hu ⊢
          exact ⟨S.eval hu.1, ih u hu.2⟩
    exact this _ _ hv
  · obtain ⟨v, h1, h2⟩ := hR e w' he
    exact ⟨v, h1, h2 _ (S.put hdn)⟩
theorem args_eval (S : Slots n L a) {args : Array Operand} {vs : Array Value} (hv : args.toList.map (evS L) = vs.toList.map some) : args.map a.eval = vs := by
  apply Array.ext'
  rw [Array.toList_map]
  have : ∀ (l : List Operand) (u : List Value), l.map (evS L) = u.map some → l.map a.eval = u := by
    intro l
    induction l with
    | nil => intro u hu; cases u <;> simp_all
    | cons x l ih =>
      intro u hu
      cases u with
      | nil => simp at hu
      | cons v u =>
        simp only [List.map_cons, List.cons.injEq] at hu ⊢
        exact ⟨S.eval hu.1, ih u hu.2⟩
  exact this _ _ hv
end
/-! Regions that draw their order: first n operations in whatever order, of which each leaves in its slot what E tells; then the others one after another. -/
section
variable {P : Program}
def headOk (ops : Array Oper) (n : Nat) : Bool :=
  (List.range n).all fun i => match ops[i]? with
    | none => false
    | some o => (o.after.all fun e => !Region.binds .any e || decide (e.on < i)) &&
      (List.range n).all fun j => match ops[j]? with
        | none => false
        | some p => (j == i || p.dst.isNone || p.dst != o.dst) && (match p.dst with
          | some d => !(o.looksAt ops).contains d || o.after.any fun e => Region.binds .any e && e.on == j
          | none => true)
def tailOk (ops : Array Oper) (n : Nat) : Bool :=
  decide (n ≤ ops.size) && (n == ops.size || (Region.sinkB .any ops n && Region.chainB .any ops n)) &&
  Region.seqB .any ops (ops.size - n) n (Array.replicate n true ++ Array.replicate (ops.size - n) false)
structure HeadState (ops : Array Oper) (n : Nat) (E : Nat → Value → World → Prop) (a₀ : Act) (listed : Array Bool) (a : Act) (w : World) : Prop where
  size : a.tmps.size = a₀.tmps.size
  defers : a.defers = a₀.defers
  base : ∀ t, (∀ j, j < n → ∀ o, ops[j]? = some o → o.dst ≠ some t) → a.tmps.getD t undef = a₀.tmps.getD t undef
  done : ∀ j, j < n → listed.getD j false = true → ∀ o d, ops[j]? = some o → o.dst = some d → E d (a.tmps.getD d undef) w
def left (n : Nat) (listed : Array Bool) : Nat := ((List.range n).filter fun j => !listed.getD j true).length
theorem left_set {n i : Nat} {listed : Array Bool} (hi : i < n) (hl : listed.getD i true = false) : left n listed = left n (listed.setIfInBounds i true) + 1 := by
  unfold left
  induction n with
  | zero => omega
  | succ n ih =>
    rw [List.range_succ, List.filter_append, List.filter_append, List.length_append, List.length_append]
    by_cases h : i = n
    · subst h
      have h1 : ((List.range i).filter fun j => !listed.getD j true) = (List.range i).filter fun j => !(listed.setIfInBounds i true).getD j true :=
        List.filter_congr fun j hj => by rw [getD_set_ne true (by have := List.mem_range.1 hj; omega)]
      have hlt : i < listed.size := by
        rcases Nat.lt_or_ge i listed.size with g | g
        · exact g
        · simp [Array.getElem?_eq_none g] at hl
      have h2 : (listed.setIfInBounds i true).getD i true = true := by simp [hlt]
      rw [h1]
      simp only [List.filter_cons, List.filter_nil, hl, h2]
      simp
    · have h1 := ih (by omega)
      rw [h1]
      have h2 : (listed.setIfInBounds i true).getD n true = listed.getD n true := getD_set_ne true h
      simp only [List.filter_cons, List.filter_nil, h2]
      omega
theorem left_zero {n : Nat} {listed : Array Bool} (h : left n listed = 0) : ∀ j, j < n → listed.getD j true = true := by
  intro j hj
  unfold left at h
  have h1 := List.length_eq_zero_iff.1 h
  have h2 := List.filter_eq_nil_iff.1 h1 j (List.mem_range.2 hj)
  simpa using h2
theorem left_pos {n : Nat} {listed : Array Bool} (h : left n listed ≠ 0) : ∃ j, j < n ∧ listed.getD j true = false ∧ ∀ k, k < j → listed.getD k true = true := by
  have : ∃ j, j < n ∧ listed.getD j true = false := by
    apply Classical.byContradiction
    intro hn
    apply h
    unfold left
    rw [List.length_eq_zero_iff, List.filter_eq_nil_iff]
    intro j hj
    cases hl : listed.getD j true
    · exact absurd ⟨j, List.mem_range.1 hj, hl⟩ hn
    · simp
  obtain ⟨j, ⟨h1, h2⟩, hmin⟩ := exists_least this
  refine ⟨j, h1, h2, fun k hk => ?_⟩
  cases hl : listed.getD k true
  · have := hmin k ⟨by omega, hl⟩; omega
  · rfl
theorem head_main {ops : Array Oper} {n : Nat} {Q : Exit → Act → World → Prop} {E : Nat → Value → World → Prop} {C : World → Prop} {a₀ : Act} (tail : List Oper) (htl : tail = ops.toList.drop n) (hok : headOk ops n = true) (htail : tailOk ops n = true)
    (step : ∀ i, i < n → ∀ o, ops[i]? = some o → ∀ a w, C w → a.tmps.size = a₀.tmps.size → a.defers = a₀.defers → (∀ t, (∀ j, j < n → ∀ o, ops[j]? = some o → o.dst ≠ some t) → a.tmps.getD t undef = a₀.tmps.getD t undef) →
      (∀ j p d, j < n → ops[j]? = some p → p.dst = some d → d ∈ o.looksAt ops → E d (a.tmps.getD d undef) w) →
      wpOp P ops Q i (fun a' w' => (∃ v, a' = a.put o.dst v ∧ (∀ d, o.dst = some d → d < a.tmps.size ∧ E d v w')) ∧ C w' ∧ ∀ t v, E t v w → E t v w') a w)
    (fin : ∀ a w, C w → HeadState ops n E a₀ (Array.replicate n true) a w → wpList P ops Q tail a w) :
    ∀ (f : Nat) (listed : Array Bool) (a : Act) (w : World), left n listed = f → HeadInv .any ops n listed → C w → HeadState ops n E a₀ listed a w → wpAny P .any ops Q (f + (ops.size - n)) listed a w := by
  simp only [tailOk, Bool.and_eq_true, decide_eq_true_eq] at htail
  obtain ⟨⟨hn, hsc⟩, hseq⟩ := htail
  intro f
  induction f with
  | zero =>
    intro listed a w hf inv hC st
    have hall := left_zero hf
    have hl : listed = Array.replicate n true ++ Array.replicate (ops.size - n) false := by
      apply Array.ext
      · simp [inv.size]; omega
      · intro i h1 h2
        by_cases hi : i < n
        · have h3 := hall i hi
          simp [h1] at h3
          simp [Array.getElem_append, hi, h3]
        · have h3 := inv.tail i (by omega) (by rw [← inv.size]; exact h1)
          simp [h1] at h3
          simp [Array.getElem_append, hi, h3]
    subst hl
    have hlen : tail.length = ops.size - n := by rw [htl]; simp
    have h := wpAny_of_seq (P := P) (ops := ops) (md := .any) (Q' := Q) tail n (Array.replicate n true ++ Array.replicate (ops.size - n) false) a w (fun j => by rw [htl, List.getElem?_drop, Array.getElem?_toList]) (by rw [hlen]; exact hseq) (fin a w hC
      ⟨st.size, st.defers, st.base, fun j hj _ o d ho hd => st.done j hj (by simp [Array.getElem?_append, hj]) o d ho hd⟩)
    rw [hlen] at h
    rw [Nat.zero_add]
    exact h
  | succ f ih =>
    intro listed a w hf inv hC st
    rw [show f + 1 + (ops.size - n) = (f + (ops.size - n)) + 1 from by omega]
    obtain ⟨j, hjn, hjl, hjmin⟩ := left_pos (n := n) (listed := listed) (by omega)
    have hget : ∀ i, i < n → ∃ o, ops[i]? = some o := fun i hi => ⟨_, Array.getElem?_eq_getElem (Nat.lt_of_lt_of_le hi hn)⟩
    have hready : j ∈ Region.ready .any ops listed := by
      obtain ⟨o, ho⟩ := hget j hjn
      refine mem_ready.2 ⟨hjl, o, ho, fun e he hb => ?_⟩
      have h1 := List.all_eq_true.1 hok j (List.mem_range.2 hjn)
      simp only [ho, Bool.and_eq_true] at h1
      have h2 := Array.all_eq_true_iff_forall_mem.1 h1.1 e he
      simp only [hb, Bool.not_true, Bool.false_or, decide_eq_true_eq] at h2
      have h3 := hjmin e.on h2
      have h4 : e.on < listed.size := by rw [inv.size]; omega
      simp [h4] at h3 ⊢
      exact h3
    refine ⟨fun h => (by rw [h] at hready; cases hready), fun i hi => ?_⟩
    have hin : i < n := by
      rcases hsc' : (n == ops.size) with _ | _
      · rw [hsc', Bool.false_or, Bool.and_eq_true] at hsc
        have hlt : n < ops.size := by
          have : n ≠ ops.size := by simpa using hsc'
          omega
        exact Nat.lt_of_not_le fun h => tail_waits hsc.1 hsc.2 hlt inv _ j rfl hjn hjl i h hi
      · have : n = ops.size := by simpa using hsc'
        obtain ⟨_, o, ho, _⟩ := mem_ready.1 hi
        have := (Array.getElem?_eq_some_iff.1 ho).1
        omega
    obtain ⟨hil, o, ho, hall⟩ := mem_ready.1 hi
    refine wpOp_mono ?_ (step i hin o ho a w hC st.size st.defers st.base ?_)
    · rintro a' w' ⟨⟨v, rfl, hv⟩, hC', hmono⟩
      have hl' := left_set hin hil
      refine ih (listed.setIfInBounds i true) _ w' (by omega) (inv.set hi hin) hC' ⟨?_, ?_, ?_, ?_⟩
      · cases o.dst <;> simp [Act.put, st.size]
      · cases o.dst <;> simp [Act.put, st.defers]
      · intro t ht
        rw [← st.base t ht]
        have hne := ht i hin o ho
        cases hd : o.dst with
        | none => rfl
        | some d =>
          have : d ≠ t := fun e => hne (by rw [hd, e])
          simp [Act.put, Array.getElem?_setIfInBounds_ne this]
      · intro k hk hkl p d hp hd
        by_cases hki : k = i
        · subst hki
          obtain rfl : o = p := Option.some.inj (ho.symm.trans hp)
          obtain ⟨h1, h2⟩ := hv d hd
          rw [hd, getD_put a d d v h1, if_pos rfl]
          exact h2
        · rw [getD_set_ne false (Ne.symm hki)] at hkl
          have h1 := hmono d _ (st.done k hk hkl p d hp hd)
          have hdist : o.dst ≠ some d := by
            have g1 := List.all_eq_true.1 hok i (List.mem_range.2 hin)
            simp only [ho, Bool.and_eq_true] at g1
            have g2 := List.all_eq_true.1 g1.2 k (List.mem_range.2 hk)
            simp only [hp, hd, Bool.and_eq_true, Bool.or_eq_true, beq_iff_eq, bne_iff_ne, Option.isNone_some, Bool.false_eq_true, or_false] at g2
            exact fun e => (g2.1.resolve_left hki) e.symm
          cases hod : o.dst with
          | none => exact h1
          | some d' =>
            have : d' ≠ d := fun e => hdist (by rw [hod, e])
            rw [show (a.put (some d') v).tmps.getD d undef = a.tmps.getD d undef from by simp [Act.put, Array.getElem?_setIfInBounds_ne this]]
            exact h1
    · intro k p d hk hp hd hlook
      have g1 := List.all_eq_true.1 hok i (List.mem_range.2 hin)
      simp only [ho, Bool.and_eq_true] at g1
      have g2 := List.all_eq_true.1 g1.2 k (List.mem_range.2 hk)
      simp only [hp, hd, Bool.and_eq_true, Bool.or_eq_true, Bool.not_eq_true'] at g2
      rcases g2.2 with g3 | g3
      · rw [List.contains_eq_mem] at g3
        simp [hlook] at g3
      · obtain ⟨e, he, hb⟩ := Array.any_eq_true'.1 g3
        simp only [Bool.and_eq_true, beq_iff_eq] at hb
        exact st.done k hk (by rw [← hb.2]; exact hall e he hb.1) p d hp hd
theorem wp_region_heads {id : Nat} {Q : Exit → Act → World → Prop} {a₀ : Act} {w : World} {l : List Oper} (n : Nat) (E : Nat → Value → World → Prop) (C : World → Prop) (tail : List Oper) (htl : tail = l.drop n) (hm : P.follows .mixedOrders = true) (hok : headOk l.toArray n = true) (htail : tailOk l.toArray n = true)
    (hC : C { w with drawn := w.drawn + 1 })
    (step : ∀ i, i < n → ∀ o, l.toArray[i]? = some o → ∀ a w, C w → a.tmps.size = a₀.tmps.size → a.defers = a₀.defers → (∀ t, (∀ j, j < n → ∀ o, l.toArray[j]? = some o → o.dst ≠ some t) → a.tmps.getD t undef = a₀.tmps.getD t undef) →
      (∀ j p d, j < n → l.toArray[j]? = some p → p.dst = some d → d ∈ o.looksAt l.toArray → E d (a.tmps.getD d undef) w) →
      wpOp P l.toArray Q i (fun a' w' => (∃ v, a' = a.put o.dst v ∧ (∀ d, o.dst = some d → d < a.tmps.size ∧ E d v w')) ∧ C w' ∧ ∀ t v, E t v w → E t v w') a w)
    (fin : ∀ a w, C w → HeadState l.toArray n E a₀ (Array.replicate n true) a w → wpList P l.toArray Q tail a w) : (Code.region id l.toArray true).wp P Q a₀ w := by
  refine wp_region_any hm ?_
  have hn : n ≤ l.length := by
    simp only [tailOk, Bool.and_eq_true, decide_eq_true_eq] at htail
    simpa using htail.1.1
  have inv0 : HeadInv .any l.toArray n (Array.replicate l.toArray.size false) :=
    ⟨by simp, fun j oj _ hl => (by rw [getD_replicate_false] at hl; cases hl), fun t _ ht => getD_in (by simpa using ht) (getD_replicate_false _ _)⟩
  have hleft : left n (Array.replicate l.toArray.size false) = n := by
    unfold left
    rw [List.filter_eq_self.2]
    · simp
    · intro j hj
      have := List.mem_range.1 hj
      rw [getD_in (by simp; omega) (getD_replicate_false _ _)]
      rfl
  have h := head_main (P := P) (Q := Q) (E := E) (C := C) (a₀ := a₀) tail (by simpa using htl) hok htail step fin n (Array.replicate l.toArray.size false) a₀ { w with drawn := w.drawn + 1 } hleft inv0 hC
    ⟨rfl, rfl, fun _ _ => rfl, fun j _ hl => (by rw [getD_replicate_false] at hl; cases hl)⟩
  rwa [show n + (l.toArray.size - n) = l.toArray.size from by simp; omega] at h
end
end Go.Proofs.Ytfanmniaolncbaa.V
