/- Texts of this claim in one: part A. -/
import Derived.WalkKit
import Derived.StillTail
import Derived.Deep.LoopGhost
import Derived.Deep.AppendLies
import Derived.Great.BuildSlice
import Derived.Laws.Small
import Derived.Laws.OwnMore
import Derived.OwnWalk
import Derived.WalkSpells
set_option linter.unusedVariables false
set_option linter.unusedSimpArgs false
set_option maxHeartbeats 4000000
set_option maxRecDepth 20000
/- A small logic of my own over the model: what is known of a frame's slots,steps of one operation,regions that draw their order by what each operation leaves. -/
namespace Go.Proofs.Ytobggnpnochnnaa.V
open Go.RowKit
def look (t : Nat) : List (Nat × Value) → Option Value
  | []=>none
  | (i,v) :: r=>bif Nat.beq i t then some v else look t r
def evS (L : List (Nat × Value)) : Operand → Option Value
  | .tmp t=>look t L
  | .const v=>some v
  | .global g=>some (.pointer (some ⟨g,0,none⟩))
  | .func f=>some (.func (.func f) #[] #[])
structure Slots (n : Nat) (L : List (Nat × Value)) (a : Act) : Prop where
  size : a.tmps.size = n
  defers : a.defers = []
  get : ∀ i v,look i L = some v → a.tmps.getD i undef = v
section
variable {n : Nat} {L L' : List (Nat × Value)} {a : Act}
theorem Slots.eval (S : Slots n L a) {x : Operand} {v : Value} (h : evS L x = some v) : a.eval x = v:=by
  cases x with
  | tmp t=>exact S.get t v h
  | const u=>exact Option.some.inj h
  | global g=>exact Option.some.inj h
  | func f=>exact Option.some.inj h
theorem look_cons (i t : Nat) (v : Value) : look i ((t,v) :: L) = if t = i then some v else look i L:=by
  show (bif Nat.beq t i then some v else look i L) = _
  by_cases h : t = i
  · subst h;simp
  · rw [if_neg h,show Nat.beq t i = false from (match hb : Nat.beq t i with | true=>absurd (Nat.eq_of_beq_eq_true hb) h | false=>rfl)];rfl
theorem Slots.ext (S : Slots n L a) {d : Nat} {v : Value} (h : a.tmps.getD d undef = v) : Slots n ((d,v) :: L) a :=
  ⟨S.size,S.defers,fun i u hu=>by
    rw [look_cons] at hu
    by_cases e : d = i
    · rw [if_pos e] at hu;subst e;rw [h];exact Option.some.inj hu
    · rw [if_neg e] at hu;exact S.get i u hu⟩
theorem getD_put (a : Act) (d i : Nat) (v : Value) (h : d < a.tmps.size) : (a.put (some d) v).tmps.getD i undef = if d = i then v else a.tmps.getD i undef:=by
  by_cases e : d = i
  · subst e;simp [Act.put,h]
  · rw [if_neg e];simp [Act.put,Array.getElem?_setIfInBounds_ne e]
theorem Slots.put (S : Slots n L a) {d : Nat} {v : Value} (hd : d < n) : Slots n ((d,v) :: L) (a.put (some d) v) :=
  ⟨by simp [Act.put,S.size],S.defers,fun i u hu=>by
    rw [look_cons] at hu;rw [getD_put a d i v (by rw [S.size];exact hd)]
    by_cases e : d = i
    · rw [if_pos e] at hu ⊢;exact Option.some.inj hu
    · rw [if_neg e] at hu ⊢;exact S.get i u hu⟩
def Sub (L : List (Nat × Value)) : List (Nat × Value) → Prop
  | []=>True
  | (i,v) :: r=>look i L = some v ∧ Sub L r
theorem Slots.sub (S : Slots n L a) (h : Sub L L') : Slots n L' a :=
  ⟨S.size,S.defers,fun i u hu=>S.get i u (by
    revert hu
    induction L' with
    | nil=>intro hu;cases hu
    | cons p r ih =>
      obtain ⟨j,v⟩:=p;intro hu;rw [look_cons] at hu
      by_cases e : j = i
      · rw [if_pos e] at hu;subst e;rw [← Option.some.inj hu];exact h.1
      · rw [if_neg e] at hu;exact ih h.2 hu)⟩
def zipL : Nat → List Value → List (Nat × Value)
  | _,[]=>[]
  | k,v :: r=>(k,v) :: zipL (k + 1) r
theorem look_zip : ∀ (l : List Value) (k i : Nat) (v : Value), look i (zipL k l) = some v → k ≤ i ∧ l[i - k]? = some v
  | [],_,_,_,h=>by cases h
  | u :: r,k,i,v,h=>by
    rw [zipL,look_cons] at h
    by_cases e : k = i
    · subst e;rw [if_pos rfl] at h;simpa using h
    · rw [if_neg e] at h;obtain ⟨h1,h2⟩:=look_zip r (k + 1) i v h;refine ⟨by omega,?_⟩;rw [show i - k = (i - (k + 1)) + 1 from by omega,List.getElem?_cons_succ];exact h2
end
section
variable {P : Program} {Q : Exit → Act → World → Prop} {n : Nat} {L L' : List (Nat × Value)} {a : Act} {w : World}
theorem enter {f : FuncId} {fn : Func} {c : Code} {args : Array Value} {R : Ending → World → Prop} (hf : P.funcs[f]? = some fn) (hb : fn.body = some c) (n : Nat) (hn : fn.ntmps = n) (hsz : args.size ≤ n)
    (h : ∀ a,Slots n (zipL 0 args.toList) a → c.wp P (bodyPost P fn R) a w) : Calls P f args w R:=by
  refine calls_of_wp hf hb (h _ ⟨?_,rfl,fun i v hv=>?_⟩)
  · simp [hn];omega
  · obtain ⟨_, h2⟩ := look_zip _ _ _ _ hv;have h3 : args[i]? = some v := by simpa using h2
    obtain ⟨h4,h5⟩:=Array.getElem?_eq_some_iff.1 h3;simp [Array.getElem?_append,h4,h5]
theorem ret1 {fn : Func} {R : Ending → World → Prop} {t : Nat} {v : Value} (hr : fn.results = #[.tmp t]) (S : Slots n L a) (hv : look t L = some v) (h : R (.returned v) w) : bodyPost P fn R .ret a w:=by
  refine ⟨S.defers,v,?_,h⟩;simp [results,hr,← S.get t v hv]
theorem ret2 {fn : Func} {R : Ending → World → Prop} {t t' : Nat} {v v' : Value} (hr : fn.results = #[.tmp t,.tmp t']) (S : Slots n L a) (hv : look t L = some v) (hv' : look t' L = some v') (h : R (.returned (.tuple #[v,v'])) w) : bodyPost P fn R .ret a w:=by
  refine ⟨S.defers,_,?_,h⟩;simp [results,hr,← S.get t v hv,← S.get t' v' hv']
theorem ret0 {fn : Func} {R : Ending → World → Prop} (hr : fn.results = #[]) (S : Slots n L a) (h : R (.returned (.tuple #[])) w) : bodyPost P fn R .ret a w:=by
  refine ⟨S.defers,_,?_,h⟩;simp [results,hr]
theorem end0 {fn : Func} {R : Ending → World → Prop} (hr : fn.results = #[]) (S : Slots n L a) (h : R (.returned (.tuple #[])) w) : bodyPost P fn R .normal a w:=by
  refine ⟨S.defers,_,?_,h⟩;simp [results,hr]
theorem cond_dec {c : Operand} {x y : Code} {p : Prop} [Decidable p] (S : Slots n L a) (hc : evS L c = some (.bool (decide p))) (ht : p → x.wp P Q a w) (hf : ¬ p → y.wp P Q a w) : (Code.cond c x y).wp P Q a w:=by
  refine wp_cond (S.eval hc) ?_
  by_cases h : p
  · simpa [h] using ht h
  · simpa [h] using hf h
theorem cond_t {c : Operand} {x y : Code} (S : Slots n L a) (hc : evS L c = some (.bool true)) (h : x.wp P Q a w) : (Code.cond c x y).wp P Q a w:=wp_cond (S.eval hc) h
theorem cond_f {c : Operand} {x y : Code} (S : Slots n L a) (hc : evS L c = some (.bool false)) (h : y.wp P Q a w) : (Code.cond c x y).wp P Q a w:=wp_cond (S.eval hc) h
theorem then_n {f : Act → World → Prop} (h : f a w) : Exit.then f Q .normal a w:=h
theorem then_r {f : Act → World → Prop} (h : Q .ret a w) : Exit.then f Q .ret a w:=h
theorem then_e {f : Act → World → Prop} {i : Nat} (h : Q (.exit i) a w) : Exit.then f Q (.exit i) a w:=h
theorem blk_n {i : Nat} (h : Q .normal a w) : Exit.inBlock i Q .normal a w:=h
theorem blk_r {i : Nat} (h : Q .ret a w) : Exit.inBlock i Q .ret a w:=h
theorem blk_e {i : Nat} (h : Q .normal a w) : Exit.inBlock i Q (.exit i) a w:=by show (if i = i then _ else _);rw [if_pos rfl];exact h
theorem loop {σ : Type} {c : Code} (J : σ → Act → World → Prop) (μ : σ → Nat) (s₀ : σ) (h₀ : J s₀ a w)
    (round : ∀ s a w,J s a w → c.wp P (Exit.then (fun a' w'=>∃ s',J s' a' w' ∧ μ s' < μ s) Q) a w) : (Code.loop c).wp P Q a w:=by
  refine wp_loop_ghost (fun k a w=>∃ s,J s a w ∧ μ s = k) (μ s₀) ⟨s₀,h₀,rfl⟩ fun k a w ⟨s,hs,hk⟩=>?_;refine wp_mono (round s a w hs) fun e a' w' hq=>?_
  cases e with
  | normal =>
    obtain ⟨s',h1,h2⟩:=hq;exact ⟨μ s',by omega,s',h1,rfl⟩
  | exit id=>exact hq
  | goto l=>exact hq
  | ret=>exact hq
  | panic ch=>exact hq
  | outgrown=>exact hq
theorem op_val {o : Oper} {v : Value} {w' : World} {K : Act → World → Prop} (h : (execOp a.eval o).run P w = .ok (.value v) w') (hK : K (a.put o.dst v) w') : o.wp P a w K Q:=by
  unfold Oper.wp;rw [h];exact hK
theorem op_skip {o : Oper} {w' : World} {K : Act → World → Prop} (h : (execOp a.eval o).run P w = .ok .skip w') (hK : K (a.put o.dst undef) w') : o.wp P a w K Q:=by
  unfold Oper.wp;rw [h];exact hK
variable {ops : Array Oper} {rest : List Oper} {o : Oper}
theorem seq_op (hg : o.guard = none) (h : o.wp P a w (wpList P ops Q rest) Q) : wpList P ops Q (o :: rest) a w:=by
  unfold wpList;rw [if_pos (by simp [Region.wanted,hg])];exact .inl h
theorem seq_val (S : Slots n L a) (hg : o.guard = none) {d : Nat} (hd : o.dst = some d) (hdn : d < n) {v : Value} {w' : World} (h : (execOp a.eval o).run P w = .ok (.value v) w')
    (next : ∀ a',Slots n ((d,v) :: L) a' → wpList P ops Q rest a' w') : wpList P ops Q (o :: rest) a w :=
  seq_op hg (op_val h (by rw [hd];exact next _ (S.put hdn)))
def Callable (P : Program) (f : FuncId) : Prop := ∃ fn, P.funcs[f]? = some fn ∧ (fn.name == "runtime.NumGoroutine") = false ∧ fn.body.isNone = false
theorem op_call {d : Option Tmp} {ty : TypeId} {pos : String} {af : Array Edge} {g : Option (Nat × Bool)} {f : FuncId} {args : Array Operand} {ats : Array TypeId} {vs : Array Value} {R : Ending → World → Prop} {K : Act → World → Prop}
    (hv : args.map a.eval = vs) (hf : Callable P f) (hc : Calls P f vs w R) (hR : ∀ e w',R e w' → ∃ v,e = .returned v ∧ K (a.put d v) w') :
    Oper.wp P ⟨d,.call ⟨.value (.func f),args,ats⟩,ty,pos,af,g⟩ a w K Q:=by
  obtain ⟨fn,h1,h2,h3⟩:=hf;subst hv;have hr : (execOp a.eval ⟨d,.call ⟨.value (.func f),args,ats⟩,ty,pos,af,g⟩).run P w = .ok (.enter f (args.map a.eval)) w:=by
    have h2' : ¬ fn.name = "runtime.NumGoroutine" := by simpa using h2
    have h3' : ¬ fn.body = none:=fun e=>by simp [e] at h3
    simp [execOp,resolve,Act.eval,Deferred.ofValue,invoke,callFunc,h1,h2',h3']
  unfold Oper.wp;rw [hr];show Calls P f _ w _;refine hc.mono fun e w' he=>?_;obtain ⟨v,rfl,hK⟩:=hR e w' he;exact hK
theorem seq_call (S : Slots n L a) {d : Nat} (hdn : d < n) {ty : TypeId} {pos : String} {af : Array Edge} {f : FuncId} {args : Array Operand} {ats : Array TypeId} {vs : Array Value} {R : Ending → World → Prop}
    (hv : args.toList.map (evS L) = vs.toList.map some) (hf : Callable P f) (hc : Calls P f vs w R) (hR : ∀ e w',R e w' → ∃ v,e = .returned v ∧ ∀ a',Slots n ((d,v) :: L) a' → wpList P ops Q rest a' w') :
    wpList P ops Q (⟨some d,.call ⟨.value (.func f),args,ats⟩,ty,pos,af,none⟩ :: rest) a w:=by
  refine seq_op rfl (op_call ?_ hf hc fun e w' he=>?_)
  · apply Array.ext'
    rw [Array.toList_map];have : ∀ (l : List Operand) (u : List Value),l.map (evS L) = u.map some → l.map a.eval = u:=by
      intro l
      induction l with
      | nil=>intro u hu;cases u <;> simp_all
      | cons x l ih =>
        intro u hu
        cases u with
        | nil=>simp at hu
        | cons v u =>
          simp only [List.map_cons,List.cons.injEq] at hu ⊢;exact ⟨S.eval hu.1,ih u hu.2⟩
    exact this _ _ hv
  · obtain ⟨v,h1,h2⟩:=hR e w' he;exact ⟨v,h1,h2 _ (S.put hdn)⟩
theorem args_eval (S : Slots n L a) {args : Array Operand} {vs : Array Value} (hv : args.toList.map (evS L) = vs.toList.map some) : args.map a.eval = vs:=by
  apply Array.ext'
  rw [Array.toList_map];have : ∀ (l : List Operand) (u : List Value),l.map (evS L) = u.map some → l.map a.eval = u:=by
    intro l
    induction l with
    | nil=>intro u hu;cases u <;> simp_all
    | cons x l ih =>
      intro u hu
      cases u with
      | nil=>simp at hu
      | cons v u =>
        simp only [List.map_cons,List.cons.injEq] at hu ⊢;exact ⟨S.eval hu.1,ih u hu.2⟩
  exact this _ _ hv
end
section
variable {P : Program}
def headOk (ops : Array Oper) (n : Nat) : Bool :=
  (List.range n).all fun i=>match ops[i]? with
    | none=>false
    | some o => (o.after.all fun e => !Region.binds .any e || decide (e.on < i)) &&
      (List.range n).all fun j=>match ops[j]? with
        | none=>false
        | some p=>(j == i || p.dst.isNone || p.dst != o.dst) && (match p.dst with
          | some d=>!(o.looksAt ops).contains d || o.after.any fun e=>Region.binds .any e && e.on == j
          | none=>true)
def tailOk (ops : Array Oper) (n : Nat) : Bool :=
  decide (n ≤ ops.size) && (n == ops.size || (Region.sinkB .any ops n && Region.chainB .any ops n)) &&
  Region.seqB .any ops (ops.size - n) n (Array.replicate n true ++ Array.replicate (ops.size - n) false)
structure HeadState (ops : Array Oper) (n : Nat) (E : Nat → Value → World → Prop) (a₀ : Act) (listed : Array Bool) (a : Act) (w : World) : Prop where
  size : a.tmps.size = a₀.tmps.size
  defers : a.defers = a₀.defers
  base : ∀ t,(∀ j,j < n → ∀ o,ops[j]? = some o → o.dst ≠ some t) → a.tmps.getD t undef = a₀.tmps.getD t undef
  done : ∀ j,j < n → listed.getD j false = true → ∀ o d,ops[j]? = some o → o.dst = some d → E d (a.tmps.getD d undef) w
def left (n : Nat) (listed : Array Bool) : Nat:=((List.range n).filter fun j=>!listed.getD j true).length
theorem left_set {n i : Nat} {listed : Array Bool} (hi : i < n) (hl : listed.getD i true = false) : left n listed = left n (listed.setIfInBounds i true) + 1:=by
  unfold left
  induction n with
  | zero=>omega
  | succ n ih =>
    rw [List.range_succ,List.filter_append,List.filter_append,List.length_append,List.length_append]
    by_cases h : i = n
    · subst h;have h1 : ((List.range i).filter fun j=>!listed.getD j true) = (List.range i).filter fun j=>!(listed.setIfInBounds i true).getD j true :=
        List.filter_congr fun j hj=>by rw [getD_set_ne true (by have:=List.mem_range.1 hj;omega)]
      have hlt : i < listed.size:=by
        rcases Nat.lt_or_ge i listed.size with g | g
        · exact g
        · simp [Array.getElem?_eq_none g] at hl
      have h2 : (listed.setIfInBounds i true).getD i true = true:=by simp [hlt]
      rw [h1];simp only [List.filter_cons,List.filter_nil,hl,h2];simp
    · have h1:=ih (by omega);rw [h1];have h2 : (listed.setIfInBounds i true).getD n true = listed.getD n true:=getD_set_ne true h;simp only [List.filter_cons,List.filter_nil,h2];omega
theorem left_zero {n : Nat} {listed : Array Bool} (h : left n listed = 0) : ∀ j,j < n → listed.getD j true = true:=by
  intro j hj;unfold left at h;have h1:=List.length_eq_zero_iff.1 h;have h2:=List.filter_eq_nil_iff.1 h1 j (List.mem_range.2 hj)
  simpa using h2
theorem left_pos {n : Nat} {listed : Array Bool} (h : left n listed ≠ 0) : ∃ j,j < n ∧ listed.getD j true = false ∧ ∀ k,k < j → listed.getD k true = true:=by
  have : ∃ j,j < n ∧ listed.getD j true = false:=by
    apply Classical.byContradiction
    intro hn
    apply h
    unfold left;rw [List.length_eq_zero_iff,List.filter_eq_nil_iff];intro j hj
    cases hl : listed.getD j true
    · exact absurd ⟨j,List.mem_range.1 hj,hl⟩ hn
    · simp
  obtain ⟨j,⟨h1,h2⟩,hmin⟩:=exists_least this;refine ⟨j,h1,h2,fun k hk=>?_⟩
  cases hl : listed.getD k true
  · have:=hmin k ⟨by omega,hl⟩;omega
  · rfl
theorem head_main {ops : Array Oper} {n : Nat} {Q : Exit → Act → World → Prop} {E : Nat → Value → World → Prop} {C : World → Prop} {a₀ : Act} (tail : List Oper) (htl : tail = ops.toList.drop n) (hok : headOk ops n = true) (htail : tailOk ops n = true)
    (step : ∀ i, i < n → ∀ o, ops[i]? = some o → ∀ a w, C w → a.tmps.size = a₀.tmps.size → a.defers = a₀.defers → (∀ t, (∀ j, j < n → ∀ o, ops[j]? = some o → o.dst ≠ some t) → a.tmps.getD t undef = a₀.tmps.getD t undef) →
      (∀ j p d,j < n → ops[j]? = some p → p.dst = some d → d ∈ o.looksAt ops → E d (a.tmps.getD d undef) w) →
      wpOp P ops Q i (fun a' w'=>(∃ v,a' = a.put o.dst v ∧ (∀ d,o.dst = some d → d < a.tmps.size ∧ E d v w')) ∧ C w' ∧ ∀ t v,E t v w → E t v w') a w)
    (fin : ∀ a w,C w → HeadState ops n E a₀ (Array.replicate n true) a w → wpList P ops Q tail a w) :
    ∀ (f : Nat) (listed : Array Bool) (a : Act) (w : World),left n listed = f → HeadInv .any ops n listed → C w → HeadState ops n E a₀ listed a w → wpAny P .any ops Q (f + (ops.size - n)) listed a w:=by
  simp only [tailOk,Bool.and_eq_true,decide_eq_true_eq] at htail;obtain ⟨⟨hn,hsc⟩,hseq⟩:=htail;intro f
  induction f with
  | zero =>
    intro listed a w hf inv hC st;have hall:=left_zero hf;have hl : listed = Array.replicate n true ++ Array.replicate (ops.size - n) false:=by
      apply Array.ext
      · simp [inv.size];omega
      · intro i h1 h2
        by_cases hi : i < n
        · have h3:=hall i hi;simp [h1] at h3;simp [Array.getElem_append,hi,h3]
        · have h3:=inv.tail i (by omega) (by rw [← inv.size];exact h1);simp [h1] at h3;simp [Array.getElem_append,hi,h3]
    subst hl;have hlen : tail.length = ops.size - n:=by rw [htl];simp
    have h := wpAny_of_seq (P := P) (ops := ops) (md := .any) (Q' := Q) tail n (Array.replicate n true ++ Array.replicate (ops.size - n) false) a w (fun j => by rw [htl, List.getElem?_drop, Array.getElem?_toList]) (by rw [hlen]; exact hseq) (fin a w hC
      ⟨st.size,st.defers,st.base,fun j hj _ o d ho hd=>st.done j hj (by simp [Array.getElem?_append,hj]) o d ho hd⟩)
    rw [hlen] at h;rw [Nat.zero_add];exact h
  | succ f ih =>
    intro listed a w hf inv hC st;rw [show f + 1 + (ops.size - n) = (f + (ops.size - n)) + 1 from by omega];obtain ⟨j,hjn,hjl,hjmin⟩:=left_pos (n:=n) (listed:=listed) (by omega);have hget : ∀ i,i < n → ∃ o,ops[i]? = some o:=fun i hi=>⟨_,Array.getElem?_eq_getElem (Nat.lt_of_lt_of_le hi hn)⟩;have hready : j ∈ Region.ready .any ops listed:=by
      obtain ⟨o,ho⟩:=hget j hjn;refine mem_ready.2 ⟨hjl,o,ho,fun e he hb=>?_⟩;have h1:=List.all_eq_true.1 hok j (List.mem_range.2 hjn);simp only [ho,Bool.and_eq_true] at h1;have h2:=Array.all_eq_true_iff_forall_mem.1 h1.1 e he;simp only [hb,Bool.not_true,Bool.false_or,decide_eq_true_eq] at h2;have h3:=hjmin e.on h2;have h4 : e.on < listed.size:=by rw [inv.size];omega
      simp [h4] at h3 ⊢;exact h3
    refine ⟨fun h=>(by rw [h] at hready;cases hready),fun i hi=>?_⟩;have hin : i < n:=by
      rcases hsc' : (n == ops.size) with _ | _
      · rw [hsc',Bool.false_or,Bool.and_eq_true] at hsc;have hlt : n < ops.size:=by
          have : n ≠ ops.size:=by simpa using hsc'
          omega
        exact Nat.lt_of_not_le fun h=>tail_waits hsc.1 hsc.2 hlt inv _ j rfl hjn hjl i h hi
      · have : n = ops.size := by simpa using hsc'
        obtain ⟨_,o,ho,_⟩:=mem_ready.1 hi;have:=(Array.getElem?_eq_some_iff.1 ho).1;omega
    obtain ⟨hil,o,ho,hall⟩:=mem_ready.1 hi;refine wpOp_mono ?_ (step i hin o ho a w hC st.size st.defers st.base ?_)
    · rintro a' w' ⟨⟨v, rfl, hv⟩, hC', hmono⟩;have hl' := left_set hin hil;refine ih (listed.setIfInBounds i true) _ w' (by omega) (inv.set hi hin) hC' ⟨?_, ?_, ?_, ?_⟩
      · cases o.dst <;> simp [Act.put,st.size]
      · cases o.dst <;> simp [Act.put,st.defers]
      · intro t ht;rw [← st.base t ht];have hne := ht i hin o ho
        cases hd : o.dst with
        | none=>rfl
        | some d =>
          have : d ≠ t:=fun e=>hne (by rw [hd,e]);simp [Act.put,Array.getElem?_setIfInBounds_ne this]
      · intro k hk hkl p d hp hd
        by_cases hki : k = i
        · subst hki;obtain rfl : o = p:=Option.some.inj (ho.symm.trans hp);obtain ⟨h1,h2⟩:=hv d hd;rw [hd,getD_put a d d v h1,if_pos rfl];exact h2
        · rw [getD_set_ne false (Ne.symm hki)] at hkl;have h1:=hmono d _ (st.done k hk hkl p d hp hd);have hdist : o.dst ≠ some d:=by
            have g1:=List.all_eq_true.1 hok i (List.mem_range.2 hin);simp only [ho,Bool.and_eq_true] at g1;have g2:=List.all_eq_true.1 g1.2 k (List.mem_range.2 hk);simp only [hp,hd,Bool.and_eq_true,Bool.or_eq_true,beq_iff_eq,bne_iff_ne,Option.isNone_some,Bool.false_eq_true,or_false] at g2;exact fun e=>(g2.1.resolve_left hki) e.symm
          cases hod : o.dst with
          | none=>exact h1
          | some d' =>
            have : d' ≠ d:=fun e=>hdist (by rw [hod,e]);rw [show (a.put (some d') v).tmps.getD d undef = a.tmps.getD d undef from by simp [Act.put,Array.getElem?_setIfInBounds_ne this]];exact h1
    · intro k p d hk hp hd hlook;have g1 := List.all_eq_true.1 hok i (List.mem_range.2 hin);simp only [ho, Bool.and_eq_true] at g1;have g2 := List.all_eq_true.1 g1.2 k (List.mem_range.2 hk);simp only [hp, hd, Bool.and_eq_true, Bool.or_eq_true, Bool.not_eq_true'] at g2
      rcases g2.2 with g3 | g3
      · rw [List.contains_eq_mem] at g3;simp [hlook] at g3
      · obtain ⟨e,he,hb⟩:=Array.any_eq_true'.1 g3;simp only [Bool.and_eq_true,beq_iff_eq] at hb;exact st.done k hk (by rw [← hb.2];exact hall e he hb.1) p d hp hd
theorem wp_region_heads {id : Nat} {Q : Exit → Act → World → Prop} {a₀ : Act} {w : World} {l : List Oper} (n : Nat) (E : Nat → Value → World → Prop) (C : World → Prop) (tail : List Oper) (htl : tail = l.drop n) (hm : P.follows .mixedOrders = true) (hok : headOk l.toArray n = true) (htail : tailOk l.toArray n = true)
    (hC : C { w with drawn:=w.drawn + 1 })
    (step : ∀ i, i < n → ∀ o, l.toArray[i]? = some o → ∀ a w, C w → a.tmps.size = a₀.tmps.size → a.defers = a₀.defers → (∀ t, (∀ j, j < n → ∀ o, l.toArray[j]? = some o → o.dst ≠ some t) → a.tmps.getD t undef = a₀.tmps.getD t undef) →
      (∀ j p d,j < n → l.toArray[j]? = some p → p.dst = some d → d ∈ o.looksAt l.toArray → E d (a.tmps.getD d undef) w) →
      wpOp P l.toArray Q i (fun a' w'=>(∃ v,a' = a.put o.dst v ∧ (∀ d,o.dst = some d → d < a.tmps.size ∧ E d v w')) ∧ C w' ∧ ∀ t v,E t v w → E t v w') a w)
    (fin : ∀ a w,C w → HeadState l.toArray n E a₀ (Array.replicate n true) a w → wpList P l.toArray Q tail a w) : (Code.region id l.toArray true).wp P Q a₀ w:=by
  refine wp_region_any hm ?_;have hn : n ≤ l.length:=by
    simp only [tailOk,Bool.and_eq_true,decide_eq_true_eq] at htail
    simpa using htail.1.1
  have inv0 : HeadInv .any l.toArray n (Array.replicate l.toArray.size false) :=
    ⟨by simp,fun j oj _ hl=>(by rw [getD_replicate_false] at hl;cases hl),fun t _ ht=>getD_in (by simpa using ht) (getD_replicate_false _ _)⟩
  have hleft : left n (Array.replicate l.toArray.size false) = n:=by
    unfold left;rw [List.filter_eq_self.2]
    · simp
    · intro j hj;have := List.mem_range.1 hj;rw [getD_in (by simp; omega) (getD_replicate_false _ _)]
      rfl
  have h := head_main (P := P) (Q := Q) (E := E) (C := C) (a₀ := a₀) tail (by simpa using htl) hok htail step fin n (Array.replicate l.toArray.size false) a₀ { w with drawn := w.drawn + 1 } hleft inv0 hC
    ⟨rfl,rfl,fun _ _=>rfl,fun j _ hl=>(by rw [getD_replicate_false] at hl;cases hl)⟩
  rwa [show n + (l.toArray.size - n) = l.toArray.size from by simp;omega] at h
end
end Go.Proofs.Ytobggnpnochnnaa.V
/- Memory as my logic sees it: what a step leaves as it was,cells,blocks,slices that read as lists;what each operation gives. -/
namespace Go.Proofs.Ytobggnpnochnnaa.V
open Go.RowKit
structure Ch (M : Nat → Prop) (w w' : World) : Prop where
  os : w'.os = w.os
  tape : w'.tape = w.tape
  output : w'.output = w.output
  size : w.heap.size ≤ w'.heap.size
  block : ∀ k,k < w.heap.size → ¬ M k → w'.heap[k]? = w.heap[k]?
def No : Nat → Prop:=fun _=>False
theorem Ch.refl {M : Nat → Prop} (w : World) : Ch M w w:=⟨rfl,rfl,rfl,Nat.le_refl _,fun _ _ _=>rfl⟩
theorem Ch.trans {M M' M'' : Nat → Prop} {w w1 w2 : World} (h : Ch M w w1) (k : Ch M' w1 w2) (hM : ∀ k,k < w.heap.size → M k ∨ M' k → M'' k) : Ch M'' w w2 :=
  ⟨k.os.trans h.os,k.tape.trans h.tape,k.output.trans h.output,Nat.le_trans h.size k.size,fun i hi hm =>
    (k.block i (Nat.lt_of_lt_of_le hi h.size) (fun e=>hm (hM i hi (.inr e)))).trans (h.block i hi (fun e=>hm (hM i hi (.inl e))))⟩
theorem Ch.then {M : Nat → Prop} {w w1 w2 : World} (h : Ch M w w1) (k : Ch No w1 w2) : Ch M w w2:=h.trans k fun _ _ e=>e.elim id False.elim
theorem Ch.own {M M' : Nat → Prop} {w w1 w2 : World} (h : Ch M w w1) (k : Ch M' w1 w2) (hM : ∀ k,M' k → w.heap.size ≤ k) : Ch M w w2:=h.trans k fun i hi e=>e.elim id fun e=>absurd (hM i e) (by omega)
theorem Ch.same {M : Nat → Prop} {w w1 w2 : World} (h : Ch M w w1) (k : Ch M w1 w2) : Ch M w w2:=h.trans k fun _ _ e=>e.elim id id
theorem Ch.mono {M M' : Nat → Prop} {w w1 : World} (h : Ch M w w1) (hM : ∀ k,M k → M' k) : Ch M' w w1:=⟨h.os,h.tape,h.output,h.size,fun k hk hm=>h.block k hk fun e=>hm (hM k e)⟩
theorem Ch.drew {M : Nat → Prop} {w w1 : World} (h : Ch M w w1) : Ch M w { w1 with drawn:=w1.drawn + 1 }:=⟨h.os,h.tape,h.output,h.size,h.block⟩
theorem Ch.of_below {w w' : World} (h : Below w.heap.size w w') : Ch No w w':=⟨h.os,h.tape,h.output,h.size,fun k hk _=>h.block k hk⟩
theorem Ch.below {w w' : World} (h : Ch No w w') : Below w.heap.size w w':=⟨h.os,h.tape,h.output,h.size,fun k hk=>h.block k hk id⟩
theorem Ch.alloc (w : World) (o : Obj) : Ch No w (w.alloc o):=.of_below ((Below.refl _ _).alloc (Nat.le_refl _) o)
theorem Ch.set (w : World) (b o : Nat) (u : Value) : Ch (fun k=>k = b) w (w.setCell ⟨b,o,none⟩ u) :=
  ⟨rfl,rfl,rfl,by simp [World.setCell],fun _ _ hm=>Below.heap_setCell _ _ _ _ hm⟩
theorem Ch.of_grown {w w' : World} {row : Option Nat} (h : w.grownBy w' row) : Ch (fun k=>row = some k) w w':=⟨h.os,h.tape,h.output,h.size,fun k hk hm=>h.block k hk fun e=>hm e.symm⟩
def Kp (D : Nat → Prop) (h h' : Array Obj) : Prop:=h.size ≤ h'.size ∧ ∀ k,k < h.size → D k → h'[k]? = h[k]?
theorem Ch.kp {M D : Nat → Prop} {w w' : World} (h : Ch M w w') (hd : ∀ k,k < w.heap.size → D k → ¬ M k) : Kp D w.heap w'.heap:=⟨h.size,fun k hk hD=>h.block k hk (hd k hk hD)⟩
def hcell (h : Array Obj) (b o : Nat) : Option Value:=match h[b]? with | some (.cells c _ _)=>c[o]? | _=>none
theorem hcell_kp {D : Nat → Prop} {h h' : Array Obj} (k : Kp D h h') {b o : Nat} {v : Value} (hD : D b) (hc : hcell h b o = some v) : hcell h' b o = some v:=by
  have hlt : b < h.size:=by
    rcases Nat.lt_or_ge b h.size with g | g
    · exact g
    · simp [hcell,Array.getElem?_eq_none g] at hc
  unfold hcell at *;rw [k.2 b hlt hD];exact hc
def Blk (h : Array Obj) (b : Nat) (cs : List Value) (e : TypeId) : Prop:=h[b]? = some (.cells cs.toArray e (0,0))
theorem Blk.lt {h : Array Obj} {b : Nat} {cs : List Value} {e : TypeId} (k : Blk h b cs e) : b < h.size:=by
  rcases Nat.lt_or_ge b h.size with g | g
  · exact g
  · unfold Blk at k;rw [Array.getElem?_eq_none g] at k;cases k
theorem Blk.keep {D : Nat → Prop} {h h' : Array Obj} {b : Nat} {cs : List Value} {e : TypeId} (k : Blk h b cs e) (g : Kp D h h') (hD : D b) : Blk h' b cs e:=(g.2 b k.lt hD).trans k
theorem Blk.kp {M : Nat → Prop} {w w' : World} {b : Nat} {cs : List Value} {e : TypeId} (k : Blk w.heap b cs e) (g : Ch M w w') (hb : ¬ M b) : Blk w'.heap b cs e:=k.keep (D:=fun k=>k = b) (g.kp fun _ _ e=>by subst e;exact hb) rfl
theorem Blk.cell {h : Array Obj} {b j : Nat} {cs : List Value} {e : TypeId} {v : Value} (k : Blk h b cs e) (hj : cs[j]? = some v) : hcell h b j = some v:=by
  unfold hcell;rw [show h[b]? = _ from k];simpa using hj
theorem Blk.set {w : World} {b o : Nat} {cs : List Value} {e : TypeId} (u : Value) (k : Blk w.heap b cs e) : Blk (w.setCell ⟨b,o,none⟩ u).heap b (cs.set o u) e:=by
  unfold Blk at *;simp only [World.setCell,Array.getElem?_modify,if_pos,k,Option.map_some];simp
theorem Blk.new (w : World) (cs : List Value) (e : TypeId) : Blk (w.alloc (.cells cs.toArray e)).heap w.heap.size cs e:=heap_alloc_new w _
def blk (a : Option Addr) : Nat:=(a.getD ⟨0,0,none⟩).block
def off (a : Option Addr) : Nat:=(a.getD ⟨0,0,none⟩).off
structure Enc (α : Type) where
  n : Nat
  cells : α → List Value
  dflt : α
  wf : (Nat → Prop) → Array Obj → α → Prop
  len : ∀ x,(cells x).length = n
  one : ∀ x,∀ u ∈ cells x,u.oneCell' = true
  keep : ∀ {D h h' x},Kp D h h' → wf D h x → wf D h' x
  mono : ∀ {D D' h x},(∀ k,k < h.size → D k → D' k) → wf D h x → wf D' h x
structure LAt {α : Type} (E : Enc α) (D : Nat → Prop) (h : Array Obj) (a : Option Addr) (xs : List α) : Prop where
  len : xs.length ≤ maxLen
  ad : 0 < xs.length → a = some ⟨blk a,off a,none⟩ ∧ D (blk a) ∧ blk a < h.size
  cell : ∀ i,i < xs.length → ∀ j v,(E.cells (xs.getD i E.dflt))[j]? = some v → hcell h (blk a) (off a + i * E.n + j) = some v
  wf : ∀ i,i < xs.length → E.wf D h (xs.getD i E.dflt)
section
variable {α : Type} {E : Enc α} {D D' : Nat → Prop} {h h' : Array Obj} {a : Option Addr} {xs : List α}
theorem LAt.keep (l : LAt E D h a xs) (k : Kp D h h') : LAt E D h' a xs :=
  ⟨l.len,fun h0=>⟨(l.ad h0).1,(l.ad h0).2.1,Nat.lt_of_lt_of_le (l.ad h0).2.2 k.1⟩,fun i hi j v hv=>hcell_kp k (l.ad (by omega)).2.1 (l.cell i hi j v hv),fun i hi=>E.keep k (l.wf i hi)⟩
theorem LAt.mono (l : LAt E D h a xs) (hD : ∀ k,k < h.size → D k → D' k) : LAt E D' h a xs :=
  ⟨l.len,fun h0=>⟨(l.ad h0).1,hD _ (l.ad h0).2.2 (l.ad h0).2.1,(l.ad h0).2.2⟩,l.cell,fun i hi=>E.mono hD (l.wf i hi)⟩
theorem LAt.nil : LAt E D h a []:=⟨by simp [maxLen],fun h=>by simp at h,fun i hi=>by simp at hi,fun i hi=>by simp at hi⟩
theorem LAt.adr (l : LAt E D h a xs) {i : Nat} (hi : i < xs.length) : a = some ⟨blk a,off a,none⟩:=(l.ad (by omega)).1
theorem LAt.sub (l : LAt E D h a xs) (i j : Nat) (hij : i ≤ j) (hj : j ≤ xs.length) (a' : Option Addr) (ha : i < j → a' = some ⟨blk a, off a + i * E.n, none⟩) :
    LAt E D h a' ((xs.take j).drop i):=by
  have hl : ((xs.take j).drop i).length = j - i:=by simp;omega
  have hg : ∀ k,k < j - i → ((xs.take j).drop i).getD k E.dflt = xs.getD (i + k) E.dflt:=fun k hk=>by
    simp only [List.getD_eq_getElem?_getD,List.getElem?_drop];rw [List.getElem?_take_of_lt (by omega)]
  refine ⟨by have:=l.len;omega,fun h0=>?_,fun k hk m v hv=>?_,fun k hk=>?_⟩
  · have h1:=ha (by omega);have h2:=l.ad (by omega);rw [h1];exact ⟨rfl,h2.2⟩
  · rw [hl] at hk;rw [hg k hk] at hv;have h1:=l.cell (i + k) (by omega) m v hv;have h3:=ha (by omega);rw [h3];show hcell h (blk a) (off a + i * E.n + k * E.n + m) = _;rw [show off a + i * E.n + k * E.n + m = off a + (i + k) * E.n + m from by rw [Nat.add_mul];omega];exact h1
  · rw [hl] at hk;rw [hg k hk];exact l.wf _ (by omega)
theorem LAt.take (l : LAt E D h a xs) (j : Nat) (hj : j ≤ xs.length) : LAt E D h a (xs.take j) :=
  l.sub 0 j (Nat.zero_le _) hj a fun h0=>by rw [Nat.zero_mul,Nat.add_zero];exact l.adr (i:=0) (by omega)
theorem LAt.drop (l : LAt E D h a xs) (i : Nat) (hi : i ≤ xs.length) (a' : Option Addr) (ha : i < xs.length → a' = some ⟨blk a,off a + i * E.n,none⟩) : LAt E D h a' (xs.drop i):=by
  have:=l.sub i xs.length hi (Nat.le_refl _) a' ha
  rwa [List.take_length] at this
theorem LAt.wcell (l : LAt E D h a xs) (m : Nat) (hm : m < xs.length) (cs : List Value) (hcs : E.cells (xs.getD m E.dflt) = cs) (o : Nat) (ho : off a + m * E.n = o) : ∀ j v,cs[j]? = some v → hcell h (blk a) (o + j) = some v:=by
  subst hcs ho;exact l.cell m hm
end
structure Sl (α : Type) where
  a : Option Addr
  c : Nat
  xs : List α
def slE {α : Type} (E : Enc α) : Enc (Sl α) where
  n:=1
  cells s:=[.slice s.a s.xs.length s.c]
  dflt:=⟨none,0,[]⟩
  wf D h s:=LAt E D h s.a s.xs ∧ s.xs.length ≤ s.c ∧ (s.a = none → s.c = 0)
  len _:=rfl
  one _ u hu:=by simp at hu;subst hu;rfl
  keep k h:=⟨h.1.keep k,h.2⟩
  mono k h:=⟨h.1.mono k,h.2⟩
theorem sl_nil {α : Type} {E : Enc α} {D : Nat → Prop} {h : Array Obj} : (slE E).wf D h ⟨none,0,[]⟩:=⟨LAt.nil,Nat.le_refl _,fun _=>rfl⟩
abbrev inI64 (x : Int) : Prop:=-9223372036854775808 ≤ x ∧ x ≤ 9223372036854775807
abbrev BS:=Nat → Prop
def one (b : Nat) : BS:=fun k=>k = b
def In : List BS → Nat → Prop
  | []=>fun _=>False
  | o :: r=>fun k=>o k ∨ In r k
theorem in_mem {o : BS} {k : Nat} : ∀ {ms : List BS}, o ∈ ms → o k → In ms k
  | _ :: _,h,hk=>(List.mem_cons.1 h).elim (fun e=>.inl (e ▸ hk)) fun h=>.inr (in_mem h hk)
theorem in_ex {k : Nat} : ∀ {ms : List BS}, In ms k → ∃ o, o ∈ ms ∧ o k
  | _ :: _,.inl h=>⟨_,List.mem_cons_self,h⟩
  | _ :: _,.inr h=>let ⟨o,h1,h2⟩:=in_ex h;⟨o,List.mem_cons_of_mem _ h1,h2⟩
theorem in_sub {m0 ms : List BS} (hs : ∀ o,o ∈ m0 → o ∈ ms) {k : Nat} (h : In m0 k) : In ms k:=let ⟨_,h1,h2⟩:=in_ex h;in_mem (hs _ h1) h2
theorem in_app {k : Nat} : ∀ {a b : List BS}, In (a ++ b) k ↔ In a k ∨ In b k
  | [],b=>⟨.inr,fun h=>h.elim False.elim id⟩
  | o :: a,b=>by
    show o k ∨ In (a ++ b) k ↔ (o k ∨ In a k) ∨ In b k;rw [in_app (a:=a),or_assoc]
def Fr (F : Nat → Prop) (ms : List BS) : Nat → Prop:=fun k=>¬ In ms k ∧ ¬ F k
def Ex (F : Nat → Prop) (ms : List BS) : Nat → Prop:=fun k=>In ms k ∨ F k
def abk (a : Option Addr) : BS:=fun k=>a.map (·.block) = some k
def Sep : List BS → Prop
  | []=>True
  | o :: r=>(∀ k,o k → ¬ In r k) ∧ Sep r
structure MS (ms : List BS) (w : World) : Prop where
  lt : ∀ k,In ms k → k < w.heap.size
  sep : Sep ms
theorem MS.nil (w : World) : MS [] w:=⟨fun _ h=>h.elim,trivial⟩
theorem Sep.ne : ∀ {ms : List BS} (_ : Sep ms) (i j : Nat) (_ : i ≠ j) {o o' : BS} (_ : ms[i]? = some o) (_ : ms[j]? = some o') {k : Nat} (_ : o k), ¬ o' k
  | [],_,i,_,_,_,_,h,_,_,_=>by simp at h
  | o :: r,s,0,0,h,_,_,_,_,_,_=>absurd rfl h
  | o :: r,s,0,j + 1,_,_,_,h1,h2,k,hk=>by
    simp at h1 h2;subst h1;exact fun hk'=>s.1 k hk (in_mem (List.mem_of_getElem? h2) hk')
  | o :: r,s,i + 1,0,_,_,_,h1,h2,k,hk=>by
    simp at h1 h2;subst h2;exact fun hk'=>s.1 k hk' (in_mem (List.mem_of_getElem? h1) hk)
  | o :: r,s,i + 1,j + 1,h,_,_,h1,h2,_,hk=>s.2.ne i j (by omega) (by simpa using h1) (by simpa using h2) hk
def picks (ms : List BS) (is : List Nat) : List BS:=is.filterMap fun i=>ms[i]?
theorem Sep.out {ms : List BS} (s : Sep ms) (i : Nat) (is : List Nat) (h : is.contains i = false) {o : BS} (hi : ms[i]? = some o) {k : Nat} (hk : o k) : ¬ In (picks ms is) k:=by
  intro hm;obtain ⟨o',h1,h2⟩:=in_ex hm;obtain ⟨j,hj,h3⟩:=List.mem_filterMap.1 h1;have : i ≠ j:=by rintro rfl;rw [List.contains_iff_mem.2 hj] at h;cases h
  exact s.ne i j this hi h3 hk h2
structure Tr (ms : List BS) (w : World) (ms' : List BS) (w' : World) : Prop where
  ch : Ch (In ms) w w'
  sub : ∀ k,In ms' k → In ms k ∨ w.heap.size ≤ k
  ms : MS ms' w'
section
variable {F : Nat → Prop} {ms ms' ms'' : List BS} {w w' w'' : World} {α : Type} {E : Enc α} {x : α}
theorem Tr.refl (h : MS ms w) : Tr ms w ms w:=⟨Ch.refl w,fun _=>.inl,h⟩
theorem Tr.size (t : Tr ms w ms' w') : w.heap.size ≤ w'.heap.size:=t.ch.size
theorem Tr.trans (t : Tr ms w ms' w') (u : Tr ms' w' ms'' w'') : Tr ms w ms'' w'' :=
  ⟨⟨u.ch.os.trans t.ch.os,u.ch.tape.trans t.ch.tape,u.ch.output.trans t.ch.output,Nat.le_trans t.size u.size,fun k hk hn =>
    (u.ch.block k (Nat.lt_of_lt_of_le hk t.size) fun h=>(t.sub k h).elim hn fun e=>absurd e (by omega)).trans (t.ch.block k hk hn)⟩,
   fun k h=>(u.sub k h).elim (fun h=>t.sub k h) fun e=>.inr (Nat.le_trans t.size e),u.ms⟩
theorem Enc.tr (E : Enc α) (H : E.wf (Fr F ms) w.heap x) (t : Tr ms w ms' w') : E.wf (Fr F ms') w'.heap x:=by
  have h1 : E.wf (fun k=>k < w.heap.size ∧ Fr F ms k) w.heap x:=E.mono (fun k hk h=>⟨hk,h⟩) H;have h2:=E.keep (h':=w'.heap) ⟨t.size,fun k hk h=>t.ch.block k hk h.2.1⟩ h1;exact E.mono (fun k _ h=>⟨fun hm=>(t.sub k hm).elim h.2.1 fun e=>absurd e (by have:=h.1;omega),h.2.2⟩) h2
theorem Enc.down (E : Enc α) (H : E.wf (Fr F ms) w.heap x) (hs : ∀ o,o ∈ ms' → o ∈ ms) : E.wf (Fr (Ex F ms) ms') w.heap x:=E.mono (fun k _ h=>⟨fun hm=>h.1 (in_sub hs hm),fun e=>e.elim h.1 h.2⟩) H
theorem Enc.up (E : Enc α) (H : E.wf (Fr (Ex F ms) ms') w.heap x) : E.wf (Fr F ms) w.heap x:=E.mono (fun _ _ h=>⟨fun e=>h.2 (.inl e),fun e=>h.2 (.inr e)⟩) H
theorem Enc.less (E : Enc α) (H : E.wf (Fr F ms) w.heap x) (hs : ∀ o,o ∈ ms' → o ∈ ms) : E.wf (Fr F ms') w.heap x:=E.mono (fun k _ h=>⟨fun hm=>h.1 (in_sub hs hm),h.2⟩) H
theorem Enc.kp (E : Enc α) {chg : List BS} (H : E.wf (Fr F ms) w.heap x) (g : Ch (In chg) w w') (hs : ∀ o,o ∈ chg → o ∈ ms) : E.wf (Fr F ms) w'.heap x :=
  E.keep (g.kp fun k _ h hm=>h.1 (in_sub hs hm)) H
def Old (F : Nat → Prop) (w : World) : Prop:=∀ k,F k → k < w.heap.size
theorem Tr.old (t : Tr ms w ms' w') (h : Old F w) : Old (Ex F ms') w':=fun k e=>e.elim (t.ms.lt k) fun e=>Nat.lt_of_lt_of_le (h k e) t.size
theorem old_no (w : World) : Old No w:=fun _ h=>h.elim
theorem Tr.of_ch {chg : List BS} (h : MS ms w) (g : Ch (In chg) w w') (hs : ∀ o,o ∈ chg → o ∈ ms) : Tr ms w ms w' :=
  ⟨g.mono fun k hk=>in_sub hs hk,fun _=>.inl,⟨fun k hk=>Nat.lt_of_lt_of_le (h.lt k hk) g.size,h.sep⟩⟩
theorem Tr.of_ch0 (h : MS ms w) (g : Ch (In []) w w') : Tr ms w ms w':=Tr.of_ch h g fun _ h=>by simp at h
theorem Sep.filter {p : Nat → Bool} : ∀ {ms : List BS} (is : List Nat) (_ : Sep ms), is.Pairwise (· < ·) → Sep (picks ms is)
  | ms,[],_,_=>trivial
  | ms,i :: is,s,hp=>by
    have ih:=Sep.filter (p:=p) (ms:=ms) is s (List.pairwise_cons.1 hp).2;unfold picks
    cases h : ms[i]? with
    | none=>rw [List.filterMap_cons,h];exact ih
    | some o =>
      rw [List.filterMap_cons,h];refine ⟨fun k hk hm=>?_,ih⟩;refine s.out i is ?_ h hk hm
      cases hc : is.contains i
      · rfl
      · have:=(List.pairwise_cons.1 hp).1 i (List.contains_iff_mem.1 hc);omega
theorem mem_picks {is : List Nat} {o : BS} (h : o ∈ picks ms is) : o ∈ ms:=by
  obtain ⟨j,_,h2⟩:=List.mem_filterMap.1 h;exact List.mem_of_getElem? h2
theorem in_picks {is : List Nat} {k : Nat} (h : In (picks ms is) k) : In ms k:=in_sub (fun _=>mem_picks) h
theorem MS.picks (h : MS ms w) (is : List Nat) (hi : is.Pairwise (· < ·)) : MS (V.picks ms is) w:=⟨fun k hk=>h.lt k (in_picks hk),Sep.filter (p:=fun _=>true) is h.sep hi⟩
theorem Tr.drop (h : MS ms w) (is : List Nat) (hi : is.Pairwise (· < ·)) : Tr ms w (picks ms is) w:=⟨Ch.refl w,fun k hk=>.inl (in_picks hk),h.picks is hi⟩
theorem MS.cons {b : BS} (h : MS ms w) (hb : ∀ k,b k → k < w.heap.size ∧ ¬ In ms k) : MS (b :: ms) w :=
  ⟨fun k hk=>hk.elim (fun e=>(hb k e).1) (h.lt k),fun k hk=>(hb k hk).2,h.sep⟩
theorem Tr.cons {b : BS} (t : Tr ms w ms' w') (hb : ∀ k,b k → w.heap.size ≤ k ∧ k < w'.heap.size ∧ ¬ In ms' k) : Tr ms w (b :: ms') w' :=
  ⟨t.ch,fun k hk=>hk.elim (fun e=>.inr (hb k e).1) (t.sub k),t.ms.cons fun k e=>(hb k e).2⟩
theorem Tr.frame {m0 nw : List BS} (h : MS ms w) (t : Tr m0 w (nw ++ m0) w') (hs : ∀ o,o ∈ m0 → o ∈ ms) : Tr ms w (nw ++ ms) w':=by
  have hnew : ∀ k,In nw k → w.heap.size ≤ k ∧ k < w'.heap.size:=fun k hk=>by
    refine ⟨?_,t.ms.lt k (in_app.2 (.inl hk))⟩
    rcases t.sub k (in_app.2 (.inl hk)) with h1 | h1
    · have : ∀ (nw : List BS),Sep (nw ++ m0) → In nw k → False:=by
        intro nw
        induction nw with
        | nil=>intro _ h;exact h
        | cons o r ih =>
          intro s hm
          rcases hm with e | e
          · exact s.1 k e (in_app.2 (.inr h1))
          · exact ih s.2 e
      exact (this nw t.ms.sep hk).elim
    · exact h1
  refine ⟨t.ch.mono fun k hk=>in_sub hs hk,fun k hk=>?_,⟨fun k hk=>?_,?_⟩⟩
  · rcases in_app.1 hk with h1 | h1
    · exact .inr (hnew k h1).1
    · exact .inl h1
  · rcases in_app.1 hk with h1 | h1
    · exact (hnew k h1).2
    · exact Nat.lt_of_lt_of_le (h.lt k h1) t.size
  · have : ∀ (nw : List BS),Sep (nw ++ m0) → (∀ k,In nw k → w.heap.size ≤ k) → Sep (nw ++ ms):=by
      intro nw
      induction nw with
      | nil=>intro _ _;exact h.sep
      | cons o r ih =>
        intro s hn;refine ⟨fun k hk hm=>?_,ih s.2 fun k hk=>hn k (.inr hk)⟩
        rcases in_app.1 hm with h1 | h1
        · exact s.1 k hk (in_app.2 (.inl h1))
        · have:=hn k (.inl hk);have:=h.lt k h1;omega
    exact this nw t.ms.sep fun k hk=>(hnew k hk).1
theorem Tr.in (t : Tr ms w ms' w') : Ch (In ms) w w':=t.ch
theorem Blk.tr {b : Nat} {cs : List Value} {e : TypeId} {chg : List BS} (k : Blk w.heap b cs e) (g : Ch (In chg) w w') (hb : ¬ In chg b) : Blk w'.heap b cs e:=k.kp g hb
end
section
variable {P : Program} {a : Act} {w : World} {d : Option Tmp} {ty : TypeId} {pos : String} {af : Array Edge} {g : Option (Nat × Bool)}
theorem wrap_eq {k : IntKind} {z r lo hi : Int} (hk : k.signed = true ∧ (k.bits = 64 ∧ lo = -9223372036854775808 ∧ hi = 9223372036854775807 ∨ k.bits = 32 ∧ lo = -2147483648 ∧ hi = 2147483647) ∨ k.signed = false ∧ (k.bits = 64 ∧ lo = 0 ∧ hi = 18446744073709551615 ∨ k.bits = 32 ∧ lo = 0 ∧ hi = 4294967295 ∨ k.bits = 16 ∧ lo = 0 ∧ hi = 65535 ∨ k.bits = 8 ∧ lo = 0 ∧ hi = 255))
    (h : z = r ∧ lo ≤ r ∧ r ≤ hi) : k.wrap z = r:=by
  obtain ⟨rfl,h1,h2⟩:=h
  rcases hk with ⟨hs,h | h⟩ | ⟨hs,h | h | h | h⟩ <;> (obtain ⟨hb,rfl,rfl⟩:=h;unfold IntKind.wrap;rw [hs,hb];simp;try omega)
theorem w_i64 {z r : Int} (h : z = r ∧ -9223372036854775808 ≤ r ∧ r ≤ 9223372036854775807) : IntKind.i64.wrap z = r:=wrap_eq (.inl ⟨rfl,.inl ⟨rfl,rfl,rfl⟩⟩) h
theorem w_u64 {z r : Int} (h : z = r ∧ 0 ≤ r ∧ r ≤ 18446744073709551615) : IntKind.u64.wrap z = r:=wrap_eq (.inr ⟨rfl,.inl ⟨rfl,rfl,rfl⟩⟩) h
theorem x_move {x : Operand} {v : Value} (hx : a.eval x = v) : (execOp a.eval ⟨d,.move x,ty,pos,af,g⟩).run P w = .ok (.value v) w:=by simp [execOp,hx]
theorem x_assign {x : Operand} {v : Value} (hx : a.eval x = v) : (execOp a.eval ⟨d,.assign x,ty,pos,af,g⟩).run P w = .ok (.value v) w:=by simp [execOp,hx]
theorem x_pickt {c x y : Operand} {v : Value} (hc : a.eval c = .bool true) (hx : a.eval x = v) : (execOp a.eval ⟨d,.pick c x y,ty,pos,af,g⟩).run P w = .ok (.value v) w:=by
  simp [execOp,hc,hx,asBool]
theorem x_pickf {c x y : Operand} {v : Value} (hc : a.eval c = .bool false) (hx : a.eval y = v) : (execOp a.eval ⟨d,.pick c x y,ty,pos,af,g⟩).run P w = .ok (.value v) w:=by
  simp [execOp,hc,hx,asBool]
section
variable {x y : Operand} {xt yt : TypeId} {k : IntKind} {m p r : Int} (hx : a.eval x = .int k m) (hy : a.eval y = .int k p)
include hx hy
theorem x_add (hr : k.wrap (m + p) = r) : (execOp a.eval ⟨d,.binOp .add xt x y yt,ty,pos,af,g⟩).run P w = .ok (.value (.int k r)) w:=by simp [execOp,eqGuard,binOp,Op.intArith,hx,hy,hr]
theorem x_sub (hr : k.wrap (m - p) = r) : (execOp a.eval ⟨d,.binOp .sub xt x y yt,ty,pos,af,g⟩).run P w = .ok (.value (.int k r)) w:=by simp [execOp,eqGuard,binOp,Op.intArith,hx,hy,hr]
theorem x_rem (h0 : ¬ p = 0) (hr : m.tmod p = r) : (execOp a.eval ⟨d,.binOp .rem xt x y yt,ty,pos,af,g⟩).run P w = .ok (.value (.int k r)) w:=by simp [execOp,eqGuard,binOp,Op.intDiv,hx,hy,hr,h0]
theorem x_lss : (execOp a.eval ⟨d,.binOp .lss xt x y yt,ty,pos,af,g⟩).run P w = .ok (.value (.bool (decide (m < p)))) w:=by simp [execOp,eqGuard,binOp,Op.intCmp,hx,hy]
theorem x_leq : (execOp a.eval ⟨d,.binOp .leq xt x y yt,ty,pos,af,g⟩).run P w = .ok (.value (.bool (decide (m ≤ p)))) w:=by simp [execOp,eqGuard,binOp,Op.intCmp,hx,hy]
theorem x_gtr : (execOp a.eval ⟨d,.binOp .gtr xt x y yt,ty,pos,af,g⟩).run P w = .ok (.value (.bool (decide (p < m)))) w:=by simp [execOp,eqGuard,binOp,Op.intCmp,hx,hy]
theorem x_geq : (execOp a.eval ⟨d,.binOp .geq xt x y yt,ty,pos,af,g⟩).run P w = .ok (.value (.bool (decide (p ≤ m)))) w:=by simp [execOp,eqGuard,binOp,Op.intCmp,hx,hy]
theorem x_eql : (execOp a.eval ⟨d,.binOp .eql xt x y yt,ty,pos,af,g⟩).run P w = .ok (.value (.bool (decide (m = p)))) w:=by
  rw [show decide (m = p) = (m == p) from rfl];simp [execOp,eqGuard,binOp,Op.intCmp,hx,hy]
theorem x_neq : (execOp a.eval ⟨d,.binOp .neq xt x y yt,ty,pos,af,g⟩).run P w = .ok (.value (.bool (decide (¬ m = p)))) w:=by
  have : (decide (¬ m = p)) = (m != p):=by rw [decide_not];rfl
  rw [this];simp [execOp,eqGuard,binOp,Op.intCmp,hx,hy]
end
theorem x_not {x : Operand} {xt : TypeId} {b : Bool} (hx : a.eval x = .bool b) : (execOp a.eval ⟨d,.unOp .not xt x,ty,pos,af,g⟩).run P w = .ok (.value (.bool (!b))) w:=by simp [execOp,Op.unary,hx]
theorem x_notp {x : Operand} {xt : TypeId} {q : Prop} [Decidable q] (hx : a.eval x = .bool (decide q)) : (execOp a.eval ⟨d,.unOp .not xt x,ty,pos,af,g⟩).run P w = .ok (.value (.bool (decide (¬ q)))) w:=by
  rw [decide_not];simp [execOp,Op.unary,hx]
theorem x_bin {op : BinOp} {x y : Operand} {xt yt : TypeId} {u v r : Value} (hx : a.eval x = u) (hy : a.eval y = v) (hg : (eqGuard op xt x y u v).run P w = .ok () w) (h : (binOp op xt u v).run P w = .ok r w) :
    (execOp a.eval ⟨d,.binOp op xt x y yt,ty,pos,af,g⟩).run P w = .ok (.value r) w:=by
  unfold execOp;simp only [hx,hy,Sem.run_bind,hg,h,Result.andThen_ok,Sem.run_pure]
theorem x_bneq {x y : Operand} {xt yt : TypeId} {b c : Bool} (hu : P.underlying xt = some .bool) (hx : a.eval x = .bool b) (hy : a.eval y = .bool c) : (execOp a.eval ⟨d,.binOp .neq xt x y yt,ty,pos,af,g⟩).run P w = .ok (.value (.bool (decide (¬ b = c)))) w:=by
  refine x_bin hx hy (by simp [eqGuard]) ?_;rw [run_neq_bool w xt b c hu];cases b <;> cases c <;> rfl
theorem x_conv {x : Operand} {src dst : TypeId} {k k' : IntKind} {m r : Int} {ds : TypeDesc} (hs : P.underlying src = some ds) (hd : P.underlying dst = some (.int k)) (hx : a.eval x = .int k' m) (hr : k.wrap m = r) :
    (execOp a.eval ⟨d,.convert src dst x,ty,pos,af,g⟩).run P w = .ok (.value (.int k r)) w:=by
  simp [execOp,convert,run_underlying hs,run_underlying hd,hx,Conv.intToInt,hr]
theorem x_extract {x : Operand} {vs : Array Value} {i : Nat} {v : Value} (hx : a.eval x = .tuple vs) (hv : vs[i]? = some v) : (execOp a.eval ⟨d,.extract x i,ty,pos,af,g⟩).run P w = .ok (.value v) w:=by
  simp [execOp,Instr.extract,hx,hv]
theorem x_len {x : Operand} {t e : TypeId} {s : Option Addr} {n c : Nat} (ht : P.underlying t = some (.slice e)) (hx : a.eval x = .slice s n c) :
    (execOp a.eval ⟨d,.call ⟨.builtin .len,#[x],#[t]⟩,ty,pos,af,g⟩).run P w = .ok (.value (.int .i64 n)) w:=by
  simp [execOp,resolve,invoke,builtin,Builtin.len_,run_underlying ht,hx,goInt]
theorem addr_add (b o n : Nat) : (⟨b,o,none⟩ : Addr).add n = ⟨b,o + n,none⟩:=by unfold Addr.add;split <;> simp_all
theorem x_idx {x y : Operand} {t e : TypeId} {s : Option Addr} {n c b o sz : Nat} {k : IntKind} {i : Int} (ht : P.underlying t = some (.slice e)) (hsz : (P.info? e).map (·.size) = some sz) (hx : a.eval x = .slice s n c) (hy : a.eval y = .int k i) (m : Nat) (hm : i = (m : Int)) (hlt : m < n) (hs : s = some ⟨b, o, none⟩) :
    (execOp a.eval ⟨d,.indexAddr t x y,ty,pos,af,g⟩).run P w = .ok (.value (.pointer (some ⟨b,o + m * sz,none⟩))) w:=by
  subst hs hm
  cases hi : P.info? e with
  | none=>simp [hi] at hsz
  | some ie =>
    have h1 : ie.size = sz:=by simpa [hi] using hsz
    simp [execOp,Instr.indexAt,run_underlying ht,hx,hy,asIntOf,sizeOf,typeInfo,hi,h1,hlt,addr_add]
theorem x_fld {x : Operand} {s : TypeId} {fs : Array Field} {i b z : Nat} {f : Field} (o fo : Nat) (hu : P.underlying s = some (.struct fs)) (hf : fs[i]? = some f) (hfo : f.offset = fo) (hz : (P.info? f.type).map (·.size) = some (z + 1)) (hx : a.eval x = .pointer (some ⟨b, o, none⟩)) :
    (execOp a.eval ⟨d,.fieldAddr s x i,ty,pos,af,g⟩).run P w = .ok (.value (.pointer (some ⟨b,o + fo,none⟩))) w:=by
  subst hfo
  cases hi : P.info? f.type with
  | none=>simp [hi] at hz
  | some ie =>
    have h1 : ie.size = z + 1:=by simpa [hi] using hz
    simp [execOp,Instr.fieldAt,run_underlying hu,hf,hx,Instr.sureAddr,fieldPlace,sizeOf,typeInfo,hi,h1,addr_add]
def Scalar (P : Program) (t : TypeId) : Prop:=∃ ds,P.underlying t = some ds ∧ (match ds with | .struct _ | .array _ _=>false | _=>true) = true
def Wide (P : Program) (t : TypeId) (n : Nat) : Prop:=∃ ds,P.underlying t = some ds ∧ (match ds with | .struct _ | .array _ _=>true | _=>false) = true ∧ (P.info? t).map (·.size) = some n
theorem run_isAgg_scalar {t : TypeId} (h : Scalar P t) : (isAgg t).run P w = .ok false w:=by
  obtain ⟨ds,h1,h2⟩:=h;unfold isAgg;rw [Sem.run_bind,run_underlying h1 w]
  cases ds <;> simp_all
theorem run_isAgg_wide {t : TypeId} {n : Nat} (h : Wide P t n) : (isAgg t).run P w = .ok true w:=by
  obtain ⟨ds,h1,h2,_⟩:=h;unfold isAgg;rw [Sem.run_bind,run_underlying h1 w]
  cases ds <;> simp_all
theorem x_load {x : Operand} {t : TypeId} {b o : Nat} {v : Value} (hs : Scalar P t) (hx : a.eval x = .pointer (some ⟨b, o, none⟩)) (hc : hcell w.heap b o = some v) :
    (execOp a.eval ⟨d,.load t x,ty,pos,af,g⟩).run P w = .ok (.value v) w:=by
  have hc' : w.cell? ⟨b,o,none⟩ = some v:=hc;simp [execOp,Instr.loadAt,hx,Instr.sureAddr,loadVar,run_isAgg_scalar hs,hc']
theorem run_loadVar_wide {t : TypeId} {b o : Nat} (cs : List Value) (hs : Wide P t cs.length) (hc : ∀ j v, cs[j]? = some v → hcell w.heap b (o + j) = some v) :
    (loadVar t ⟨b,o,none⟩).run P w = .ok (.agg cs.toArray) w:=by
  have hl:=run_loadCells_list (P:=P) w ⟨b,o,none⟩ cs (fun j v hv=>by rw [addr_add];exact hc j v hv);obtain ⟨ds,h1,h2,h3⟩:=id hs
  cases hi : P.info? t with
  | none=>simp [hi] at h3
  | some ie =>
    have h4 : ie.size = cs.length:=by simpa [hi] using h3
    simp [loadVar,run_isAgg_wide hs,sizeOf,typeInfo,hi,h4,hl]
theorem x_loadw {x : Operand} {t : TypeId} {b o : Nat} (cs : List Value) (hs : Wide P t cs.length) (hx : a.eval x = .pointer (some ⟨b, o, none⟩)) (hc : ∀ j v, cs[j]? = some v → hcell w.heap b (o + j) = some v) :
    (execOp a.eval ⟨d,.load t x,ty,pos,af,g⟩).run P w = .ok (.value (.agg cs.toArray)) w:=by
  simp [execOp,Instr.loadAt,hx,Instr.sureAddr,run_loadVar_wide cs hs hc]
theorem x_box {x : Operand} {e : TypeId} {v : Value} (cs : List Value) (hx : a.eval x = v) (hv : v.cells = cs.toArray) :
    (execOp a.eval ⟨d,.box e x,ty,pos,af,g⟩).run P w = .ok (.value (.pointer (some ⟨w.heap.size,0,none⟩))) (w.alloc (.cells cs.toArray e)):=by
  simp [execOp,Instr.box,hx,newVar,newRow,hv]
theorem x_alloc {e : TypeId} {z : Value} (cs : List Value) (hz : (P.info? e).bind (·.zero) = some z) (hv : z.cells = cs.toArray) :
    (execOp a.eval ⟨d,.alloc e,ty,pos,af,g⟩).run P w = .ok (.value (.pointer (some ⟨w.heap.size,0,none⟩))) (w.alloc (.cells cs.toArray e)):=by
  cases hi : P.info? e with
  | none=>simp [hi] at hz
  | some ie =>
    have h1 : ie.zero = some z:=by simpa [hi] using hz
    simp [execOp,Instr.alloc,zeroValue,typeInfo,hi,h1,newVar,newRow,hv]
theorem run_store_blk {b o : Nat} {v u : Value} {cs : List Value} {e : TypeId} (h1 : v.oneCell' = true) (hb : Blk w.heap b cs e) (ho : cs[o]? = some u) (m : Mode) :
    (store ⟨b,o,none⟩ v m).run P w = .ok () (w.setCell ⟨b,o,none⟩ v):=by
  rw [run_store P w _ v m h1];have hc : w.cell? ⟨b,o,none⟩ = some u:=hb.cell ho;have hf : w.frozen? ⟨b,o,none⟩ = false:=by
    simp [World.frozen?,show w.heap[b]? = _ from hb]
  simp [hc,hf]
theorem x_store {x y : Operand} {t : TypeId} {b o : Nat} {v u : Value} {cs : List Value} {e : TypeId} (hz : (P.info? t).map (·.size) = some 1) (hx : a.eval x = .pointer (some ⟨b, o, none⟩)) (hy : a.eval y = v) (h1 : v.oneCell' = true) (hb : Blk w.heap b cs e) (ho : cs[o]? = some u) :
    (execOp a.eval ⟨d,.store t x y,ty,pos,af,g⟩).run P w = .ok .skip (w.setCell ⟨b,o,none⟩ v):=by
  have hcs : v.cells = #[v]:=by cases v <;> simp [Value.oneCell'] at h1 <;> rfl
  cases hi : P.info? t with
  | none=>simp [hi] at hz
  | some ie =>
    have h2 : ie.size = 1:=by simpa [hi] using hz
    simp [execOp,Instr.storeAt,hx,hy,Instr.sureAddr,storeVar,hcs,sizeOf,typeInfo,hi,h2,storeCells,addr_add,run_store_blk h1 hb ho]
theorem x_build {t : TypeId} {parts : Array (Nat × Operand)} (vs : List (Nat × Value)) (cs : List Value) (hv : parts.toList.map (fun p => (p.1, a.eval p.2)) = vs) (hb : P.built t vs = some cs.toArray) :
    (execOp a.eval ⟨d,.build t parts,ty,pos,af,g⟩).run P w = .ok (.value (.agg cs.toArray)) w:=by
  have h:=run_build (P:=P) w t (parts.map fun (i,x)=>(i,a.eval x)) cs.toArray (by
    have : (parts.map fun (i,x)=>(i,a.eval x)).toList = vs:=by rw [Array.toList_map,← hv]
    rw [this];exact hb)
  unfold execOp;simp only [Sem.run_bind,h,Result.andThen_ok,Sem.run_pure]
theorem x_bslice {t e : TypeId} {len : Nat} {parts : Array (Nat × Operand)} (vs : List (Nat × Value)) (cs : List Value) (ie : TypeInfo) (z : Value) (ht : P.underlying t = some (.slice e)) (hie : P.info? e = some ie) (hz : ie.zero = some z) (hsmall : ¬ len * ie.size > 2 ^ 24) (hpos : ¬ len * ie.size = 0)
    (hv : parts.toList.map (fun p=>(p.1,a.eval p.2)) = vs) (hf : Instr.fill (fun i=>some (i * ie.size,ie.size)) ((Array.range (len * ie.size)).map (z.cells[· % z.cells.size]!)) vs = some cs.toArray) :
    (execOp a.eval ⟨d,.buildSlice t len parts,ty,pos,af,g⟩).run P w = .ok (.value (.slice (some ⟨w.heap.size,0,none⟩) len len)) (w.alloc (.cells cs.toArray e)):=by
  have h:=run_buildSlice (P:=P) w t e len (parts.map fun (i,x)=>(i,a.eval x)) cs.toArray ie z ht hie hz hsmall hpos (by
    have : (parts.map fun (i,x)=>(i,a.eval x)).toList = vs:=by rw [Array.toList_map,← hv]
    rw [this];exact hf)
  unfold execOp;simp only [Sem.run_bind,h,Result.andThen_ok,Sem.run_pure]
end
end Go.Proofs.Ytobggnpnochnnaa.V
/- Regions that draw their order,in the form that my walks use: a list of what each slot holds afterwards,one obligation an operation. -/
namespace Go.Proofs.Ytobggnpnochnnaa.V
open Go.RowKit
structure StP (M : Nat → Prop) where
  p : Value → World → Prop
  st : ∀ v w w',Ch M w w' → p v w → p v w'
def isV (M : Nat → Prop) (v : Value) : StP M:=⟨fun u _=>u = v,fun _ _ _ _ h=>h⟩
def lookE {M : Nat → Prop} (E : List (Nat × StP M)) (t : Nat) (v : Value) (w : World) : Prop :=
  match E with
  | []=>True
  | (i,p) :: r=>bif Nat.beq i t then p.p v w else lookE r t v w
theorem lookE_st {M : Nat → Prop} : ∀ (E : List (Nat × StP M)) (t : Nat) (v : Value) (w w' : World), Ch M w w' → lookE E t v w → lookE E t v w'
  | [],_,_,_,_,_,h=>h
  | (i,p) :: r,t,v,w,w',hc,h=>by
    unfold lookE at *
    cases hb : Nat.beq i t
    · rw [hb] at h;exact lookE_st r t v w w' hc h
    · rw [hb] at h;exact p.st v w w' hc h
def deps {M : Nat → Prop} (E : List (Nat × StP M)) (a : Act) (w : World) : List Nat → Prop
  | []=>True
  | d :: r=>lookE E d (a.tmps.getD d undef) w ∧ deps E a w r
structure Done {M : Nat → Prop} (o : Oper) (E : List (Nat × StP M)) (I : World → Prop) (N : Nat) (a : Act) (w : World) (a' : Act) (w' : World) : Prop where
  put : ∃ v,a' = a.put o.dst v ∧ ∀ d,o.dst = some d → d < N ∧ lookE E d v w'
  ch : Ch M w w'
  inv : I w'
theorem Done.same {M : Nat → Prop} {o : Oper} {E : List (Nat × StP M)} {I : World → Prop} {N : Nat} {a : Act} {w : World} {v : Value} {d : Nat} (hd : o.dst = some d) (hN : d < N) (hE : lookE E d v w) (hI : I w) : Done o E I N a w (a.put o.dst v) w :=
  ⟨⟨v,rfl,fun e he=>by rw [hd] at he;cases he;exact ⟨hN,hE⟩⟩,Ch.refl _,hI⟩
theorem Done.mk' {M : Nat → Prop} {o : Oper} {E : List (Nat × StP M)} {I : World → Prop} {N : Nat} {a : Act} {w w' : World} {v : Value} {d : Nat} (hd : o.dst = some d) (hN : d < N) (hE : lookE E d v w') (hc : Ch M w w') (hI : I w') : Done o E I N a w (a.put o.dst v) w' :=
  ⟨⟨v,rfl,fun e he=>by rw [hd] at he;cases he;exact ⟨hN,hE⟩⟩,hc,hI⟩
theorem Done.none {M : Nat → Prop} {o : Oper} {E : List (Nat × StP M)} {I : World → Prop} {N : Nat} {a : Act} {w : World} {v : Value} (hd : o.dst = none) (hI : I w) : Done o E I N a w (a.put o.dst v) w :=
  ⟨⟨v,rfl,fun e he=>by rw [hd] at he;cases he⟩,Ch.refl _,hI⟩
def steps {M : Nat → Prop} (P : Program) (ops : Array Oper) (Q : Exit → Act → World → Prop) (N : Nat) (L : List (Nat × Value)) (W : World) (E : List (Nat × StP M)) (I : World → Prop) : Nat → List Oper → List (List Nat) → Prop
  | i,o :: r,D :: Ds=>(∀ a w,Ch M W w → I w → Slots N L a → deps E a w D → wpOp P ops Q i (Done o E I N a w) a w) ∧ steps P ops Q N L W E I (i + 1) r Ds
  | _,_,_=>True
def isHead (ops : Array Oper) (n d : Nat) : Bool:=(List.range n).any fun j=>match ops[j]? with | some p=>p.dst == some d | none=>false
def depsOk (ops : Array Oper) (n : Nat) : Nat → List (List Nat) → Bool
  | _,[]=>true
  | i,D :: Ds=>(match ops[i]? with | none=>false | some o=>D.all fun d=>(o.looksAt ops).contains d && isHead ops n d) && depsOk ops n (i + 1) Ds
def keysOk (ops : Array Oper) (n : Nat) (L : List (Nat × Value)) : Bool:=L.all fun p=>!isHead ops n p.1
def outsOk (ops : Array Oper) (n : Nat) (outs : List Nat) : Bool:=outs.all (isHead ops n)
theorem isHead_spec {ops : Array Oper} {n d : Nat} (h : isHead ops n d = true) : ∃ j p,j < n ∧ ops[j]? = some p ∧ p.dst = some d:=by
  obtain ⟨j,hj,h2⟩:=List.any_eq_true.1 h
  cases hp : ops[j]? with
  | none=>rw [hp] at h2;cases h2
  | some p=>rw [hp] at h2;exact ⟨j,p,List.mem_range.1 hj,hp,by simpa using h2⟩
theorem look_mem {i : Nat} {v : Value} : ∀ {L : List (Nat × Value)}, look i L = some v → (i, v) ∈ L
  | [],h=>by cases h
  | (j,u) :: r,h=>by
    rw [look_cons] at h
    by_cases e : j = i
    · rw [if_pos e] at h;subst e;cases h;exact List.mem_cons_self
    · rw [if_neg e] at h;exact List.mem_cons_of_mem _ (look_mem h)
theorem Slots.base {N n : Nat} {L : List (Nat × Value)} {a₀ a : Act} {ops : Array Oper} (S : Slots N L a₀) (hk : keysOk ops n L = true) (h1 : a.tmps.size = a₀.tmps.size) (h2 : a.defers = a₀.defers)
    (h3 : ∀ t,(∀ j,j < n → ∀ o,ops[j]? = some o → o.dst ≠ some t) → a.tmps.getD t undef = a₀.tmps.getD t undef) : Slots N L a :=
  ⟨h1.trans S.size,h2.trans S.defers,fun i v hv=>by
    rw [h3 i ?_]
    · exact S.get i v hv
    · intro j hj o ho hd;have h4 := List.all_eq_true.1 hk _ (look_mem hv);simp only [Bool.not_eq_true'] at h4;have : isHead ops n i = true := List.any_eq_true.2 ⟨j, List.mem_range.2 hj, by rw [ho]; simp [hd]⟩
      rw [this] at h4;cases h4⟩
theorem steps_get {M : Nat → Prop} {P : Program} {ops : Array Oper} {Q : Exit → Act → World → Prop} {N : Nat} {L : List (Nat × Value)} {W : World} {E : List (Nat × StP M)} {I : World → Prop} : ∀ (l : List Oper) (Ds : List (List Nat)) (k i : Nat), i < Ds.length → l.length = Ds.length →
    steps P ops Q N L W E I k l Ds → ∃ o D,l[i]? = some o ∧ Ds[i]? = some D ∧ ∀ a w,Ch M W w → I w → Slots N L a → deps E a w D → wpOp P ops Q (k + i) (Done o E I N a w) a w
  | [],Ds,_,i,h,hl,_=>by simp at hl;omega
  | o :: l,[],_,i,h,_,_=>by simp at h
  | o :: l,D :: Ds,k,0,_,_,h=>⟨o,D,rfl,rfl,h.1⟩
  | o :: l,D :: Ds,k,i + 1,hi,hl,h=>by
    obtain ⟨o',D',h1,h2,h3⟩:=steps_get l Ds (k + 1) i (by simpa using hi) (by simpa using hl) h.2;exact ⟨o',D',by simpa using h1,by simpa using h2,by rw [show k + (i + 1) = k + 1 + i from by omega];exact h3⟩
theorem wp_heads {M : Nat → Prop} {P : Program} {id : Nat} {Q : Exit → Act → World → Prop} {a₀ : Act} {w : World} {l : List Oper} {N : Nat} {L : List (Nat × Value)} (S : Slots N L a₀) (n : Nat) (E : List (Nat × StP M)) (I : World → Prop) (Ds : List (List Nat)) (outs : List Nat) (tail : List Oper)
    (htl : tail = l.drop n) (hm : P.follows .mixedOrders = true) (hok : (headOk l.toArray n && depsOk l.toArray n 0 Ds && keysOk l.toArray n L && outsOk l.toArray n outs && tailOk l.toArray n) = true) (hlen : Ds.length = n) (hI : I { w with drawn:=w.drawn + 1 })
    (step : steps P l.toArray Q N L w E I 0 (l.take n) Ds)
    (fin : ∀ a w',Ch M w w' → I w' → Slots N L a → deps E a w' outs → wpList P l.toArray Q tail a w') : (Code.region id l.toArray true).wp P Q a₀ w:=by
  simp only [Bool.and_eq_true] at hok;obtain ⟨⟨⟨⟨h1,h2⟩,h3⟩,h4⟩,h5⟩:=hok;have hn : n ≤ l.length:=by
    simp only [tailOk,Bool.and_eq_true,decide_eq_true_eq] at h5
    simpa using h5.1.1
  refine wp_region_heads n (lookE E) (fun w'=>Ch M w w' ∧ I w') tail htl hm h1 h5 ⟨(Ch.refl _).drew,hI⟩ ?_ ?_
  · intro i hi o ho a w' hC hs hd hb hE;obtain ⟨o',D,e1,e2,h⟩:=steps_get (l.take n) Ds 0 i (by omega) (by simp;omega) step;obtain rfl : o' = o:=by
      rw [List.getElem?_take_of_lt hi] at e1;have : l.toArray[i]? = l[i]?:=by simp
      rw [this,e1] at ho;exact Option.some.inj ho
    have hdep : ∀ D',(∀ d ∈ D',d ∈ D) → deps E a w' D':=by
      intro D'
      induction D' with
      | nil=>intro _;trivial
      | cons d r ih =>
        intro hsub;refine ⟨?_,ih fun d hd=>hsub d (List.mem_cons_of_mem _ hd)⟩;have hget : ∀ (Ds : List (List Nat)) (k i : Nat),depsOk l.toArray n k Ds = true → Ds[i]? = some D → ∃ o,l.toArray[k + i]? = some o ∧ ∀ d ∈ D,d ∈ o.looksAt l.toArray ∧ isHead l.toArray n d = true:=by
          intro Ds
          induction Ds with
          | nil=>intro k i _ h;simp at h
          | cons D0 Ds ih =>
            intro k i hk hi;simp only [depsOk,Bool.and_eq_true] at hk
            cases i with
            | zero =>
              obtain rfl : D0 = D:=by simpa using hi
              cases hp : l.toArray[k]? with
              | none=>rw [hp] at hk;cases hk.1
              | some p =>
                rw [hp] at hk;refine ⟨p,rfl,fun d hd=>?_⟩;have:=List.all_eq_true.1 hk.1 d hd
                simpa [Bool.and_eq_true,List.contains_iff_mem] using this
            | succ i =>
              obtain ⟨o,g1,g2⟩:=ih (k + 1) i hk.2 (by simpa using hi);exact ⟨o,by rw [show k + (i + 1) = k + 1 + i from by omega];exact g1,g2⟩
        obtain ⟨o2,g1,g2⟩:=hget Ds 0 i h2 e2;rw [Nat.zero_add,ho] at g1;obtain rfl:=Option.some.inj g1;obtain ⟨g3,g4⟩:=g2 d (hsub d List.mem_cons_self);obtain ⟨j,p,g5,g6,g7⟩:=isHead_spec g4;exact hE j p d g5 g6 g7 g3
    have h':=h a w' hC.1 hC.2 (S.base h3 hs hd hb) (hdep D fun d hd=>hd);rw [Nat.zero_add] at h';refine wpOp_mono ?_ h';rintro a' w2 ⟨⟨v,hv,hd'⟩,hc,hi'⟩;refine ⟨⟨v,hv,fun d hdd=>?_⟩,⟨hC.1.same hc,hi'⟩,fun t v=>lookE_st E t v _ _ hc⟩;obtain ⟨k1,k2⟩:=hd' d hdd;exact ⟨by rw [hs,S.size];exact k1,k2⟩
  · intro a w' hC st;refine fin a w' hC.1 hC.2 (S.base h3 st.size st.defers st.base) ?_;have : ∀ outs',(∀ d ∈ outs',isHead l.toArray n d = true) → deps E a w' outs':=by
      intro outs'
      induction outs' with
      | nil=>intro _;trivial
      | cons d r ih =>
        intro h;obtain ⟨j,p,g5,g6,g7⟩:=isHead_spec (h d List.mem_cons_self);exact ⟨st.done j g5 (by simp [g5]) p d g6 g7,ih fun d hd=>h d (List.mem_cons_of_mem _ hd)⟩
    exact this outs (List.all_eq_true.1 h4)
theorem get_bool {a : Act} {d : Nat} {b : Bool} (h : a.tmps.getD d undef = .bool b) : a.tmps[d]? = some (.bool b):=by
  rw [Array.getD_eq_getD_getElem?] at h
  cases hc : a.tmps[d]? with
  | none=>rw [hc] at h;cases h
  | some v=>rw [hc] at h;exact congrArg some h
section
variable {P : Program} {ops : Array Oper} {Q : Exit → Act → World → Prop} {i : Nat} {o : Oper} {a : Act} {w : World} {K : Act → World → Prop}
theorem head_op (ho : ops[i]? = some o) (hg : o.guard = none) (h : o.wp P a w K Q) : wpOp P ops Q i K a w:=by
  unfold wpOp;rw [ho];simp only [Region.wanted,hg,if_true];exact .inl h
end
end Go.Proofs.Ytobggnpnochnnaa.V
/- Guarded operations (&&,||) without a split;rows of the call's own,append. -/
namespace Go.Proofs.Ytobggnpnochnnaa.V
open Go.RowKit
section
variable {q g : Prop} [Decidable q] [Decidable g]
theorem gt : q ↔ Value.bool (decide q) = .bool true:=by simp
theorem gf : ¬ q ↔ Value.bool (decide q) = .bool false:=by simp
theorem ggt : (g ∧ q) ↔ (if g then Value.bool (decide q) else undef) = .bool true:=by
  by_cases h : g <;> simp [h,undef]
theorem ggf : (g ∧ ¬ q) ↔ (if g then Value.bool (decide q) else undef) = .bool false:=by
  by_cases h : g <;> simp [h,undef]
end
section
variable {P : Program} {Q : Exit → Act → World → Prop} {n : Nat} {L : List (Nat × Value)} {a : Act} {w : World} {ops : Array Oper} {rest : List Oper} {o : Oper}
theorem want_iff {j gd : Nat} {b : Bool} {p : Oper} {gv : Value} (hg : o.guard = some (j,b)) (hj : ops[j]? = some p) (hd : p.dst = some gd) (hs : gd < a.tmps.size) (hv : a.tmps.getD gd undef = gv) : Region.wanted o (yielded ops a.tmps) = true ↔ gv = .bool b:=by
  have h1 : a.tmps[gd]? = some gv:=by rw [Array.getD_eq_getD_getElem?] at hv;rw [Array.getElem?_eq_getElem hs] at hv ⊢;exact congrArg some hv
  simp only [Region.wanted,hg,yielded,hj,hd,Option.bind_some,h1]
  cases gv <;> simp
end
section
variable {P : Program} {a : Act} {w : World} {d : Option Tmp} {ty : TypeId} {pos : String} {af : Array Edge} {g : Option (Nat × Bool)}
theorem x_and {c x y : Operand} {p q : Prop} [Decidable p] [Decidable q] (hc : a.eval c = .bool (decide p)) (hx : p → a.eval x = .bool (decide q)) (hy : a.eval y = .bool false) : (execOp a.eval ⟨d,.pick c x y,ty,pos,af,g⟩).run P w = .ok (.value (.bool (decide (p ∧ q)))) w:=by
  by_cases h : p
  · have:=hx h;simp [execOp,hc,this,h,asBool]
  · simp [execOp,hc,hy,h,asBool]
theorem x_or {c x y : Operand} {p q : Prop} [Decidable p] [Decidable q] (hc : a.eval c = .bool (decide p)) (hx : a.eval x = .bool true) (hy : ¬ p → a.eval y = .bool (decide q)) : (execOp a.eval ⟨d,.pick c x y,ty,pos,af,g⟩).run P w = .ok (.value (.bool (decide (p ∨ q)))) w:=by
  by_cases h : p
  · simp [execOp,hc,hx,h,asBool]
  · have:=hy h;simp [execOp,hc,this,h,asBool]
end
theorem info_of {P : Program} {e : TypeId} {z : Value} {size bytes : Nat} (hi : (P.info? e).map (fun i=>(i.zero,i.size,i.bytes)) = some (some z,size,bytes)) : ∃ i,P.info? e = some i ∧ i.zero = some z ∧ i.size = size ∧ i.bytes = bytes:=by
  cases h : P.info? e with
  | none=>simp [h] at hi
  | some i=>simp [h] at hi;exact ⟨i,rfl,hi.1,hi.2.1,hi.2.2⟩
structure Row {α : Type} (E : Enc α) (t : TypeId) (base : Nat) (F : Nat → Prop) (ms : List BS) (w : World) (ad : Option Addr) (cap : Nat) (xs : List α) : Prop where
  own : w.ownsRow base t E.n (.slice ad xs.length cap) xs.length (xs.flatMap E.cells)
  wf : ∀ x ∈ xs,E.wf (Fr F ms) w.heap x
section
variable {α : Type} {E : Enc α} {t : TypeId} {base : Nat} {F : Nat → Prop} {ms ms' : List BS} {w w' w0 : World} {ad : Option Addr} {cap : Nat} {xs : List α}
theorem Row.nil (E : Enc α) (t : TypeId) (base : Nat) (F : Nat → Prop) (ms : List BS) (w : World) : Row E t base F ms w none 0 []:=⟨⟨by simp,.inl ⟨rfl,rfl⟩⟩,fun x h=>by simp at h⟩
theorem Row.form (r : Row E t base F ms w ad cap xs) : ad = none ∧ xs = [] ∧ cap = 0 ∨ ad = some ⟨blk ad,0,none⟩ ∧ base ≤ blk ad ∧ blk ad < w.heap.size ∧ xs.length ≤ cap:=by
  rcases r.own.2 with ⟨h1,h2⟩ | ⟨g,c,cur,h1,h2,h3,h4,_⟩
  · left
    injection h1 with h1 _ h3
    exact ⟨h1,List.length_eq_zero_iff.1 h2,h3⟩
  · right
    injection h1 with h1 _ h5
    subst h1 h5;have h6 : g < w.heap.size:=by
      rcases Nat.lt_or_ge g w.heap.size with k | k
      · exact k
      · rw [Array.getElem?_eq_none k] at h3;cases h3
    exact ⟨rfl,h2,h6,h4⟩
theorem Row.cap_le (r : Row E t base F ms w ad cap xs) : xs.length ≤ cap ∧ (ad = none → cap = 0):=by
  rcases r.form with ⟨h1,h2,h3⟩ | ⟨h1,_,_,h4⟩
  · subst h2 h3;exact ⟨Nat.le_refl _,fun _=>rfl⟩
  · exact ⟨h4,fun e=>by rw [e] at h1;cases h1⟩
theorem Row.len_le (r : Row E t base F ms w ad cap xs) : xs.length ≤ maxLen:=by
  rcases r.own.2 with ⟨_,h2⟩ | ⟨g,c,cur,h1,h2,h3,h4,h5,_⟩
  · rw [h2];exact Nat.zero_le _
  · omega
theorem abk_some {ad : Option Addr} {k : Nat} (h : abk ad k) : ad ≠ none ∧ blk ad = k:=by
  cases ad with
  | none=>cases h
  | some p=>exact ⟨by simp,Option.some.inj h⟩
theorem abk_of {ad : Option Addr} (h : ad ≠ none) : abk ad (blk ad):=by
  cases ad with
  | none=>exact absurd rfl h
  | some p=>rfl
theorem abk_none {k : Nat} : ¬ abk none k:=fun h=>by cases h
theorem In.nil {k : Nat} : ¬ In [] k:=id
theorem In.one {o : BS} {k : Nat} : In [o] k ↔ o k:=⟨fun h=>h.elim id False.elim,.inl⟩
theorem Row.new (r : Row E t base F ms w ad cap xs) : ∀ k,abk ad k → base ≤ k ∧ k < w.heap.size:=fun k hk=>by
  obtain ⟨h1,h2⟩:=abk_some hk
  rcases r.form with ⟨h,_⟩ | ⟨_,h3,h4,_⟩
  · exact absurd h h1
  · rw [← h2];exact ⟨h3,h4⟩
theorem Row.tr (r : Row E t base F ms w ad cap xs) (T : Tr ms w ms' w') {chg : List BS} (g : Ch (In chg) w w') (hn : ∀ k,abk ad k → ¬ In chg k) : Row E t base F ms' w' ad cap xs:=by
  refine ⟨⟨r.own.1,?_⟩,fun x hx=>E.tr (r.wf x hx) T⟩
  rcases r.own.2 with h1 | ⟨b,c,cur,h1,h2,h3,h4⟩
  · exact .inl h1
  · refine .inr ⟨b, c, cur, h1, h2, ?_, h4⟩
    injection h1 with h1
    subst h1;refine (g.block b ?_ (hn b rfl)).trans h3
    rcases Nat.lt_or_ge b w.heap.size with k | k
    · exact k
    · rw [Array.getElem?_eq_none k] at h3;cases h3
theorem Row.lower (r : Row E t base F ms w ad cap xs) {b : Nat} (hb : b ≤ base) : Row E t b F ms w ad cap xs :=
  ⟨⟨r.own.1,r.own.2.imp id fun ⟨g,c,cur,h1,h2,h3⟩=>⟨g,c,cur,h1,Nat.le_trans hb h2,h3⟩⟩,r.wf⟩
theorem flat_get (hE : ∀ x, (E.cells x).length = E.n) : ∀ (xs : List α) (i : Nat), i < xs.length → ∀ j v, (E.cells (xs.getD i E.dflt))[j]? = some v → (xs.flatMap E.cells)[i * E.n + j]? = some v
  | [],i,h,_,_,_=>by simp at h
  | x :: xs,0,_,j,v,hv=>by
    rw [List.flatMap_cons,Nat.zero_mul,Nat.zero_add];have hv' : (E.cells x)[j]? = some v:=by simpa using hv
    have:=(List.getElem?_eq_some_iff.1 hv').1;rw [List.getElem?_append_left this];exact hv'
  | x :: xs,i + 1,h,j,v,hv=>by
    rw [List.flatMap_cons,List.getElem?_append_right (by rw [hE,Nat.add_mul];omega),hE,show (i + 1) * E.n + j - E.n = i * E.n + j from by rw [Nat.add_mul];omega];exact flat_get hE xs i (by simpa using h) j v (by simpa using hv)
theorem flat_len (hE : ∀ x, (E.cells x).length = E.n) : ∀ (xs : List α), (xs.flatMap E.cells).length = xs.length * E.n
  | []=>by simp
  | x :: xs=>by rw [List.flatMap_cons,List.length_append,hE,flat_len hE xs,List.length_cons,Nat.add_mul];omega
theorem flat_set (hE : ∀ x, (E.cells x).length = E.n) (x' : α) (j : Nat) (v : Value) (hj : j < E.n) : ∀ (xs : List α) (m : Nat), m < xs.length → E.cells x' = (E.cells (xs.getD m E.dflt)).set j v → (xs.set m x').flatMap E.cells = (xs.flatMap E.cells).set (m * E.n + j) v
  | [],m,h,_=>by simp at h
  | x :: xs,0,_,h=>by
    have h' : E.cells x' = (E.cells x).set j v:=by simpa using h
    rw [List.set_cons_zero,List.flatMap_cons,List.flatMap_cons,h',Nat.zero_mul,Nat.zero_add,List.set_append_left _ _ (by rw [hE];exact hj)]
  | x :: xs,m + 1,hm,h=>by
    rw [List.set_cons_succ,List.flatMap_cons,List.flatMap_cons,flat_set hE x' j v hj xs m (by simpa using hm) (by simpa using h),List.set_append_right _ _ (by rw [hE,Nat.add_mul];omega),hE,show (m + 1) * E.n + j - E.n = m * E.n + j from by rw [Nat.add_mul];omega]
theorem Row.wfi (r : Row E t base F ms w ad cap xs) (m : Nat) (hm : m < xs.length) : E.wf (Fr F ms) w.heap (xs.getD m E.dflt):=by
  rw [List.getD_eq_getElem?_getD,List.getElem?_eq_getElem hm];exact r.wf _ (List.getElem_mem hm)
theorem Row.latD {D : Nat → Prop} (r : Row E t base F ms w ad cap xs) (hn : 0 < E.n) (hD : ∀ k,abk ad k → D k) (hw : ∀ x ∈ xs,E.wf D w.heap x) : LAt E D w.heap ad xs:=by
  have hwf : ∀ i,i < xs.length → E.wf D w.heap (xs.getD i E.dflt):=fun i hi=>by
    rw [List.getD_eq_getElem?_getD,List.getElem?_eq_getElem hi];exact hw _ (List.getElem_mem hi)
  rcases r.own.2 with ⟨h1,h2⟩ | ⟨g,c,cur,h1,h2,h3,h4,h5,h6,h7⟩
  · have:=List.length_eq_zero_iff.1 h2;subst this;exact LAt.nil
  · injection h1 with h1
    subst h1;refine ⟨by omega,fun _=>⟨rfl,hD _ rfl,?_⟩,fun i hi j v hv=>?_,hwf⟩
    · show g < w.heap.size
      rcases Nat.lt_or_ge g w.heap.size with k | k
      · exact k
      · rw [Array.getElem?_eq_none k] at h3;cases h3
    · have h8:=flat_get E.len xs i hi j v hv;rw [← h7] at h8;show hcell w.heap g (0 + i * E.n + j) = some v;unfold hcell;rw [h3,Nat.zero_add];show cur[i * E.n + j]? = some v;rw [← Array.getElem?_toList];have:=List.getElem?_eq_some_iff.1 h8;obtain ⟨hlt,_⟩:=this;rw [List.length_take] at hlt;rw [List.getElem?_take_of_lt (by omega)] at h8;exact h8
def Any : Nat → Prop:=fun _=>True
theorem Row.lat (r : Row E t base F ms w ad cap xs) (hn : 0 < E.n) : LAt E Any w.heap ad xs:=r.latD hn (fun _ _=>trivial) fun x hx=>E.mono (fun _ _ _=>trivial) (r.wf x hx)
theorem Row.latz (r : Row E t base F ms w ad cap xs) (hn : 0 < E.n) : LAt E Any w.heap (some ⟨blk ad,0,none⟩) xs:=by
  rcases r.form with ⟨_,h,_⟩ | ⟨h,_⟩
  · subst h;exact LAt.nil
  · have:=r.lat hn;rw [h] at this;exact this
theorem Row.arg {m0 : List BS} (r : Row E t base F ms w ad cap xs) (hn : 0 < E.n) (hs : ∀ o,o ∈ m0 → o ∈ ms) (ha : ∀ k,abk ad k → ¬ In m0 k ∧ ¬ F k) : (slE E).wf (Fr F m0) w.heap ⟨ad,cap,xs⟩ :=
  ⟨r.latD hn ha fun x hx=>E.less (r.wf x hx) hs,r.cap_le⟩
theorem Row.notF (r : Row E t base F ms w ad cap xs) (hF : Old F w0) (hb : w0.heap.size ≤ base) : ∀ k,abk ad k → ¬ F k:=fun k e h=>by
  have h1:=(r.new k e).1;have h2:=hF k h;omega
def Exc (F : Nat → Prop) (ms os : List BS) : Nat → Prop:=fun k=>(In ms k ∧ ¬ In os k) ∨ F k
theorem Row.argx {os m0 : List BS} (r : Row E t base F ms w ad cap xs) (hn : 0 < E.n) (hF : ∀ k,abk ad k → ¬ F k) (ho : ∀ k,abk ad k → In os k ∧ ¬ In m0 k) (hs : ∀ o,o ∈ m0 → o ∈ ms) : (slE E).wf (Fr (Exc F ms os) m0) w.heap ⟨ad,cap,xs⟩ :=
  ⟨r.latD hn (fun k e=>⟨(ho k e).2,fun h=>h.elim (fun h=>h.2 (ho k e).1) (hF k e)⟩) fun x hx=>E.mono (fun k _ h=>⟨fun e=>h.1 (in_sub hs e),fun e=>e.elim (fun e=>h.1 e.1) h.2⟩) (r.wf x hx),r.cap_le⟩
theorem Tr.oldx {os ms'' : List BS} (t : Tr ms'' w0 ms w) (h : Old F w0) : Old (Exc F ms os) w:=fun k e=>e.elim (fun e=>t.ms.lt k e.1) fun e=>Nat.lt_of_lt_of_le (h k e) t.size
theorem Sep.mid {pre post : List BS} {o : BS} {k : Nat} (hk : o k) : ∀ {pre : List BS}, Sep (pre ++ o :: post) → ¬ In (pre ++ post) k
  | [],s=>s.1 k hk
  | _ :: _,s=>fun h=>h.elim (fun e=>s.1 k e (in_app.2 (.inr (.inl hk)))) (Sep.mid (pre:=pre) hk s.2)
theorem Tr.leave {pre post : List BS} {o : BS} (hM : MS (pre ++ o :: post) w) : Tr (pre ++ o :: post) w (pre ++ post) w:=by
  have hin : ∀ k,In (pre ++ post) k → In (pre ++ o :: post) k:=fun k hp=>by
    rcases in_app.1 hp with h | h
    · exact in_app.2 (.inl h)
    · exact in_app.2 (.inr (.inr h))
  refine ⟨Ch.refl w,fun k hk=>.inl (hin _ hk),fun k hk=>hM.lt k (hin _ hk),?_⟩;have : ∀ (pre : List BS),Sep (pre ++ o :: post) → Sep (pre ++ post):=by
    intro pre
    induction pre with
    | nil=>intro s;exact s.2
    | cons p r ih =>
      intro s;refine ⟨fun k hk hm=>s.1 k hk ?_,ih s.2⟩
      rcases in_app.1 hm with h | h
      · exact in_app.2 (.inl h)
      · exact in_app.2 (.inr (.inr h))
  exact this pre hM.sep
theorem Tr.swap {pre post : List BS} {o o' : BS} (hM : MS (pre ++ o :: post) w) (g : Ch (In [o]) w w') (ho : ∀ k,o' k → o k ∨ w.heap.size ≤ k ∧ k < w'.heap.size) : Tr (pre ++ o :: post) w (pre ++ o' :: post) w':=by
  have hin : ∀ k,In (pre ++ o' :: post) k → In (pre ++ o :: post) k ∨ w.heap.size ≤ k ∧ k < w'.heap.size:=fun k hp=>by
    rcases in_app.1 hp with h | h | h
    · exact .inl (in_app.2 (.inl h))
    · exact (ho k h).imp (fun h=>in_app.2 (.inr (.inl h))) id
    · exact .inl (in_app.2 (.inr (.inr h)))
  refine ⟨g.mono fun k hk=>in_app.2 (.inr (.inl (In.one.1 hk))),fun k hk=>(hin k hk).imp id And.left,fun k hk=>?_,?_⟩
  · exact (hin k hk).elim (fun h=>Nat.lt_of_lt_of_le (hM.lt k h) g.size) And.right
  · have hlt:=hM.lt;have : ∀ (pre : List BS),(∀ k,In (pre ++ o :: post) k → k < w.heap.size) → Sep (pre ++ o :: post) → Sep (pre ++ o' :: post):=by
      intro pre
      induction pre with
      | nil =>
        intro hl s;refine ⟨fun k hk hm=>(ho k hk).elim (fun h=>s.1 k h hm) fun h=>?_,s.2⟩;have:=hl k (.inr hm);omega
      | cons p r ih =>
        intro hl s;refine ⟨fun k hk hm=>?_,ih (fun k h=>hl k (.inr h)) s.2⟩
        rcases in_app.1 hm with h | h | h
        · exact s.1 k hk (in_app.2 (.inl h))
        · rcases ho k h with h | h
          · exact s.1 k hk (in_app.2 (.inr (.inl h)))
          · have:=hl k (.inl hk);omega
        · exact s.1 k hk (in_app.2 (.inr (.inr h)))
    exact this pre hlt hM.sep
theorem op_append {P : Program} {o : Oper} {a : Act} {K : Act → World → Prop} {Q : Exit → Act → World → Prop} {D : Nat → Prop} (pre post : List BS) (s x : Operand) (ts : TypeId) (ho : o.op = .call { callee := .builtin .append, args := #[s, x], argTypes := #[ts, ts] })
    (z : Value) (bytes : Nat) (ht : P.underlying ts = some (.slice t)) (hi : (P.info? t).map (fun i=>(i.zero,i.size,i.bytes)) = some (some z,E.n,bytes)) (hzs : z.cells.size = E.n) (hsz : 0 < E.n)
    (hms : ms = pre ++ abk ad :: post) (hM : MS ms w) (hs : a.eval s = .slice ad xs.length cap) (r : Row E t base F ms w ad cap xs) (ys : List α)
    (sa : Option Addr) (sc : Nat) (hx : a.eval x = .slice sa ys.length sc) (hsrc : LAt E D w.heap sa ys) (hsc : sa = none → sc = 0) (hyw : ∀ y ∈ ys,E.wf (Fr F ms) w.heap y)
    (h63 : xs.length + ys.length ≤ maxLen) (hbytes : (xs.length + ys.length) * bytes ≤ 140737488355328) (hbase : base ≤ w.heap.size)
    (h : ∀ ad' cap' w',Row E t base F (pre ++ abk ad' :: post) w' ad' cap' (xs ++ ys) → Tr (pre ++ abk ad :: post) w (pre ++ abk ad' :: post) w' → Ch (In [abk ad]) w w' → K (a.put o.dst (.slice ad' (xs ++ ys).length cap')) w') : o.wp P a w K Q:=by
  subst hms;obtain ⟨i0,hi0,hz0,hz1,hz2⟩:=info_of hi;have e1 : xs.length + ys.length = (xs ++ ys).length:=by simp
  have key : ∃ v' w',(Builtin.append_ #[ts,ts] o.type #[.slice ad xs.length cap,.slice sa ys.length sc]).run P w = .ok v' w' ∧ w'.ownsRow base t E.n v' (xs.length + ys.length) (xs.flatMap E.cells ++ ys.flatMap E.cells) ∧ w.grownBy w' (ad.map (·.block)) ∧ (v'.ownBlock = ad.map (·.block) ∨ v'.ownBlock = some w.heap.size):=by
    have hlen : (ys.flatMap E.cells).length = ys.length * E.n:=flat_len E.len ys;have h1c : ∀ u ∈ ys.flatMap E.cells,u.oneCell' = true:=fun u hu=>by
      obtain ⟨y,hy,hu'⟩:=List.mem_flatMap.1 hu;exact E.one y u hu'
    cases sa with
    | some p =>
      have hob : (Value.slice ad xs.length cap).ownBlock = ad.map (·.block):=by cases ad <;> rfl
      have hnews : ∀ j u,(ys.flatMap E.cells)[j]? = some u → w.cell? (p.add j) = some u:=fun j u hj=>by
        have hj':=(List.getElem?_eq_some_iff.1 hj).1;rw [hlen] at hj';have hm : j / E.n < ys.length:=(Nat.div_lt_iff_lt_mul hsz).2 hj';have hdm : j / E.n * E.n + j % E.n = j:=by rw [Nat.mul_comm];exact Nat.div_add_mod j E.n
        have hpos : 0 < ys.length:=Nat.lt_of_le_of_lt (Nat.zero_le _) hm;have hmod : j % E.n < (E.cells (ys.getD (j / E.n) E.dflt)).length:=by rw [E.len];exact Nat.mod_lt _ hsz
        have h2:=flat_get E.len ys (j / E.n) hm (j % E.n) _ (List.getElem?_eq_getElem hmod);rw [hdm,hj] at h2;have h3:=hsrc.cell (j / E.n) hm (j % E.n) u (by rw [List.getElem?_eq_getElem hmod];exact h2.symm);rw [show off (some p) + j / E.n * E.n + j % E.n = off (some p) + j from by omega] at h3;have h4:=(hsrc.ad hpos).1;rw [Option.some.inj h4,addr_add];exact h3
      obtain ⟨v',w',k1,k2,k3,_,k5⟩:=run_append_own_at (P:=P) w base ts o.type t i0 z E.n bytes ht hi0 hz0 hz1 hz2 hzs hsz _ xs.length _ r.own p ys.length sc (ys.flatMap E.cells) hlen hnews h1c h63 hbytes hbase;rw [hob] at k3 k5;exact ⟨v',w',k1,k2,k3,k5⟩
    | none =>
      have hy : ys = []:=by
        rcases Nat.eq_zero_or_pos ys.length with e | e
        · exact List.length_eq_zero_iff.1 e
        · have:=(hsrc.ad e).1;cases this
      subst hy;rw [hsc rfl];refine ⟨.slice ad xs.length cap,w,?_,by simpa using r.own,⟨rfl,rfl,rfl,Nat.le_refl _,fun _ _ _=>rfl⟩,.inl (by cases ad <;> rfl)⟩
      rcases r.own.2 with ⟨h1,h2⟩ | ⟨g,c,cur,h1,h2,h3⟩
      · injection h1 with h1 h4 h5
        subst h1 h5;rw [h2];simp [Builtin.append_,run_underlying ht,sizeOf,typeInfo,hi0,Builtin.lenOf,Builtin.firstCells,loadCells,loadCellsFrom]
      · injection h1 with h1 h4 h5
        subst h1 h5;exact run_append_owned_none (P:=P) w base ts o.type t i0 E.n ht hi0 _ xs.length _ r.own
  obtain ⟨v',w',k1,k2,k3,k4⟩:=key;rw [← List.flatMap_append,e1] at k2;have hch : Ch (In [abk ad]) w w':=(Ch.of_grown k3).mono fun k hk=>.inl hk;obtain ⟨ad',cap',hv'⟩ : ∃ ad' cap',v' = .slice ad' (xs ++ ys).length cap':=by
    rcases k2.2 with ⟨h1,h2⟩ | ⟨g,c,cur,h1,_⟩
    · exact ⟨none,0,by rw [h1,h2]⟩
    · exact ⟨_,_,h1⟩
  subst hv';have hob : ∀ (p : Option Addr) (n c : Nat),(Value.slice p n c).ownBlock = p.map (·.block):=fun p n c=>by cases p <;> rfl
  rw [hob] at k4;have hnew : ∀ k,abk ad' k → abk ad k ∨ w.heap.size ≤ k ∧ k < w'.heap.size:=fun k hk=>by
    rcases k4 with k4 | k4
    · exact .inl (by unfold abk at *;rw [← k4];exact hk)
    · right
      obtain rfl : w.heap.size = k:=by unfold abk at hk;rw [k4] at hk;exact Option.some.inj hk
      refine ⟨Nat.le_refl _,?_⟩
      rcases k2.2 with ⟨h1,h2⟩ | ⟨g,c,cur,h1,h2,h3,_⟩
      · injection h1 with h1;subst h1;cases k4
      · injection h1 with h1
        subst h1;obtain rfl : g = w.heap.size:=Option.some.inj k4
        rcases Nat.lt_or_ge w.heap.size w'.heap.size with q | q
        · exact q
        · rw [Array.getElem?_eq_none q] at h3;cases h3
  have T:=Tr.swap hM hch hnew;unfold Oper.wp execOp;simp only [ho,resolve,invoke,builtin,Sem.run_bind,Sem.run_pure,Result.andThen_ok,List.map_toArray,List.map_cons,List.map_nil,hs,hx,k1];refine h ad' cap' w' ⟨k2,fun x hx=>?_⟩ T hch
  rcases List.mem_append.1 hx with q | q
  · exact E.tr (r.wf x q) T
  · exact E.tr (hyw x q) T
theorem LAt.mem {D : Nat → Prop} {h : Array Obj} {a : Option Addr} (l : LAt E D h a xs) : ∀ y ∈ xs,E.wf D h y:=fun y hy=>by
  obtain ⟨i,hi,e⟩:=List.getElem_of_mem hy;have:=l.wf i hi
  rwa [List.getD_eq_getElem?_getD,List.getElem?_eq_getElem hi,Option.getD_some,e] at this
theorem row_set {ob : Nat} (r : Row E t base F ms w ad cap xs) (m j : Nat) (hm : m < xs.length) (hj : j < E.n) (x' : α) (v : Value) (hc : E.cells x' = (E.cells (xs.getD m E.dflt)).set j v) (hin : abk ad ∈ ms) (hw : E.wf (Fr F ms) w.heap x') (hob : ob = m * E.n + j) :
    Row E t base F ms (w.setCell ⟨blk ad,ob,none⟩ v) ad cap (xs.set m x') ∧ Ch (In [abk ad]) w (w.setCell ⟨blk ad,ob,none⟩ v) ∧ ∃ cur,w.heap[blk ad]? = some (.cells cur t (0,0)) ∧ ob < cur.size:=by
  subst hob
  rcases r.form with ⟨_,h,_⟩ | ⟨had,hb,hlt,_⟩
  · rw [h] at hm;simp at hm
  · have hne : ad ≠ none := fun e => by rw [e] at had; cases had
    have hch : Ch (In [abk ad]) w (w.setCell ⟨blk ad,m * E.n + j,none⟩ v):=(Ch.set w _ _ _).mono fun k hk=>by
      subst hk;exact .inl (abk_of hne)
    have hkp : Kp (Fr F ms) w.heap (w.setCell ⟨blk ad,m * E.n + j,none⟩ v).heap:=hch.kp fun k _ h1 h2=>h1.1 (in_mem hin (In.one.1 h2))
    rcases r.own.2 with ⟨h1,h2⟩ | ⟨g,c,cur,h1,h2,h3,h4,h5,h6,h7⟩
    · rw [h2] at hm;omega
    · injection h1 with h1 _ h8
      subst h1 h8;have hmn : m * E.n + j < xs.length * E.n:=by
        have : (m + 1) * E.n ≤ xs.length * E.n:=Nat.mul_le_mul_right _ hm;rw [Nat.add_mul] at this;omega
      have hsz : m * E.n + j < cur.size:=by
        rw [h6];exact Nat.lt_of_lt_of_le hmn (Nat.mul_le_mul_right _ h4)
      refine ⟨⟨⟨by rw [flat_len E.len,List.length_set],.inr ⟨g,cap,cur.setIfInBounds (m * E.n + j) v,by rw [List.length_set],h2,?_,by rw [List.length_set];exact h4,h5,by simpa using h6,?_⟩⟩,fun x hx=>?_⟩,hch,cur,h3,hsz⟩
      · simp only [World.setCell,Array.getElem?_modify];show (if g = g then _ else _) = _;rw [if_pos rfl,h3];rfl
      · rw [flat_set E.len x' j v hj xs m hm hc,← h7,List.length_set,Array.toList_setIfInBounds,List.take_set]
      · have : x ∈ xs ∨ x = x':=by
          rcases List.mem_or_eq_of_mem_set hx with q | q
          · exact .inl q
          · exact .inr q
        rcases this with q | q
        · exact E.keep hkp (r.wf x q)
        · subst q;exact E.keep hkp hw
end
end Go.Proofs.Ytobggnpnochnnaa.V
/- Steps that make or write memory;how data of the program lie in cells. -/
namespace Go.Proofs.Ytobggnpnochnnaa.V
open Go.RowKit
section
variable {P : Program} {Q : Exit → Act → World → Prop} {n : Nat} {L : List (Nat × Value)} {a : Act} {w : World} {ops : Array Oper} {rest : List Oper} {o : Oper}
theorem ch_alloc (w : World) (o : Obj) : Ch (In []) w (w.alloc o):=(Ch.alloc w o).mono fun _ h=>h.elim
theorem ch_set (w : World) (b o : Nat) (u : Value) : Ch (In [one b]) w (w.setCell ⟨b,o,none⟩ u):=(Ch.set w b o u).mono fun k h=>.inl h
theorem Tr.fresh {ms : List BS} {w w' : World} {b : Nat} (hM : MS ms w) (hb : w.heap.size = b) (hl : b < w'.heap.size) (g : Ch (In []) w w') : Tr ms w (one b :: ms) w' :=
  (Tr.of_ch0 hM g).cons fun k e=>by
    cases e
    exact ⟨by omega,hl,fun h=>by have:=hM.lt _ h;omega⟩
theorem fr_fresh {F : Nat → Prop} {m0 ms : List BS} {w0 w : World} {b : Nat} (C : Tr m0 w0 ms w) (hF : Old F w0) (hb : w.heap.size = b) : Fr F ms b:=⟨fun h=>by have:=C.ms.lt _ h;omega,fun h=>by have:=hF _ h;have:=C.size;omega⟩
theorem sl_of_blk {α : Type} {E : Enc α} {D : Nat → Prop} {h : Array Obj} {b : Nat} {cs : List Value} {e : TypeId} (k : Blk h b cs e) (xs : List α) (n : Nat) (hn : xs.length = n) (hm : n ≤ maxLen) (h0 : 0 < n) (hcs : xs.flatMap E.cells = cs) (hD : D b) (hw : ∀ x ∈ xs,E.wf D h x) : (slE E).wf D h ⟨some ⟨b,0,none⟩,n,xs⟩:=by
  subst hn;refine ⟨⟨hm,fun _=>⟨rfl,hD,k.lt⟩,fun i hi j v hv=>?_,fun i hi=>?_⟩,Nat.le_refl _,fun e=>by cases e⟩
  · have h8:=flat_get E.len xs i hi j v hv;rw [hcs] at h8;show hcell h b (0 + i * E.n + j) = some v;rw [Nat.zero_add];exact k.cell h8
  · rw [List.getD_eq_getElem?_getD,List.getElem?_eq_getElem hi];exact hw _ (List.getElem_mem hi)
end
theorem Blk.mid {h : Array Obj} {b : Nat} {all : List Value} {e : TypeId} (k : Blk h b all e) (pre cs post : List Value) (ha : all = pre ++ (cs ++ post)) (f : Nat) (hf : pre.length = f) : ∀ j v,cs[j]? = some v → hcell h b (f + j) = some v:=by
  subst ha hf;intro j v hv;refine k.cell ?_;rw [List.getElem?_append_right (by omega),Nat.add_sub_cancel_left,List.getElem?_append_left (List.getElem?_eq_some_iff.1 hv).1];exact hv
def intE : Enc Int:=⟨1,fun x=>[.int .i64 x],0,fun _ _ x=>inI64 x,fun _=>rfl,fun _ u hu=>by simp at hu;subst hu;rfl,fun _ h=>h,fun _ h=>h⟩
def boolE : Enc Bool:=⟨1,fun x=>[.bool (decide (x = true))],false,fun _ _ _=>True,fun _=>rfl,fun _ u hu=>by simp at hu;subst hu;rfl,fun _ h=>h,fun _ h=>h⟩
def TpB (e : TypeId) (T : Nat) (tl : Sl Int) (w : World) : Prop:=∃ i : Nat,i ≤ tl.xs.length ∧ Blk w.heap T [.slice tl.a tl.xs.length tl.c,.int .i64 i] e
theorem TpB.tr {e : TypeId} {T : Nat} {tl : Sl Int} {w w' : World} {chg : List BS} (t : TpB e T tl w) (g : Ch (In chg) w w') (h : ¬ In chg T) : TpB e T tl w':=let ⟨i,hi,k⟩:=t;⟨i,hi,k.tr g h⟩
end Go.Proofs.Ytobggnpnochnnaa.V
/- More operations: bytes of strings,closures,slice expressions,whole structs stored. -/
namespace Go.Proofs.Ytobggnpnochnnaa.V
open Go.RowKit
section
variable {P : Program} {a : Act} {w : World} {d : Option Tmp} {ty : TypeId} {pos : String} {af : Array Edge} {g : Option (Nat × Bool)}
theorem x_mkfn {f : FuncId} {caps : Array Operand} {cs : Array Value} (hc : caps.map a.eval = cs) : (execOp a.eval ⟨d,.makeFunc (.func f) #[] caps,ty,pos,af,g⟩).run P w = .ok (.value (.func (.func f) #[] cs)) w:=by
  simp [execOp,Instr.makeFunc,hc]
theorem x_sllo {x y : Operand} {t e : TypeId} {s : Option Addr} {n c : Nat} {k : IntKind} {i : Int} {z : Value} {sz by_ : Nat} (ht : P.underlying t = some (.slice e)) (hi : (P.info? e).map (fun i => (i.zero, i.size, i.bytes)) = some (some z, sz, by_)) (hx : a.eval x = .slice s n c) (hy : a.eval y = .int k i) (m : Nat) (hm : i = (m : Int)) (hn : m ≤ n) :
    (execOp a.eval ⟨d,.slice t x (some y) none none,ty,pos,af,g⟩).run P w = .ok (.value (.slice (if c = m then s else s.map (fun q=>q.add (m * sz))) (n - m) (c - m))) w:=by
  subst hm;obtain ⟨ie,hie,_,hz,_⟩:=info_of hi;simp [execOp,Instr.sliceAt,Instr.slice,Instr.sliceBounds,Instr.sliceBound,run_underlying ht,hx,hy,asIntOf,hn,sizeOf,typeInfo,hie,hz]
theorem x_bsl {t e : TypeId} {len : Nat} {parts : Array (Nat × Operand)} (vs : List (Nat × Value)) (cs : List Value) {z : Value} {sz by_ : Nat} (ht : P.underlying t = some (.slice e)) (hi : (P.info? e).map (fun i => (i.zero, i.size, i.bytes)) = some (some z, sz, by_)) (hsmall : ¬ len * sz > 2 ^ 24) (hpos : ¬ len * sz = 0)
    (hv : parts.toList.map (fun p=>(p.1,a.eval p.2)) = vs) (hf : Instr.fill (fun i=>some (i * sz,sz)) ((Array.range (len * sz)).map (z.cells[· % z.cells.size]!)) vs = some cs.toArray) :
    (execOp a.eval ⟨d,.buildSlice t len parts,ty,pos,af,g⟩).run P w = .ok (.value (.slice (some ⟨w.heap.size,0,none⟩) len len)) (w.alloc (.cells cs.toArray e)):=by
  obtain ⟨ie,hie,hz,hs,_⟩:=info_of hi;subst hs;exact x_bslice vs cs ie z ht hie hz hsmall hpos hv hf
theorem x_storew {x y : Operand} {t : TypeId} {b : Nat} {cs vs : List Value} {e : TypeId} (hz : (P.info? t).map (·.size) = some vs.length) (hx : a.eval x = .pointer (some ⟨b, 0, none⟩)) (hy : a.eval y = .agg vs.toArray) (h1 : vs.all (·.oneCell') = true) (hb : Blk w.heap b cs e) (hl : cs.length = vs.length) :
    (execOp a.eval ⟨d,.store t x y,ty,pos,af,g⟩).run P w = .ok .skip (w.setRow b vs.toArray):=by
  have:=run_storeVar_row (P:=P) w b e t cs.toArray vs.toArray hb (by simpa using hz) (by simpa using hl) (by simpa using h1);simp [execOp,Instr.storeAt,hx,hy,Instr.sureAddr,this]
end
theorem setRow_ch (w : World) (b : Nat) (vs : Array Value) : Ch (In [one b]) w (w.setRow b vs) :=
  ⟨rfl,rfl,rfl,by simp [World.setRow],fun k _ hk=>by
    simp only [World.setRow,Array.getElem?_modify]
    rw [if_neg (fun e=>hk (by subst e;exact .inl rfl))]⟩
theorem setRow_blk {w : World} {b : Nat} {cs : List Value} {e : TypeId} (vs : List Value) (h : Blk w.heap b cs e) : Blk (w.setRow b vs.toArray).heap b vs e:=by
  unfold Blk at *;simp [World.setRow,Array.getElem?_modify,h]
def Tests {α : Type} (P : Program) (E : Enc α) (w : World) (f : FuncId) (caps : Array Value) (xs : List α) (p : α → Prop) [DecidablePred p] : Prop :=
  Callable P f ∧ ∀ w',Tr [] w [] w' → ∀ i,i < xs.length → Calls P f (#[.agg (E.cells (xs.getD i E.dflt)).toArray] ++ caps) w' fun e w''=>e = .returned (.bool (decide (p (xs.getD i E.dflt)))) ∧ Tr [] w' [] w''
theorem Tr.drew {ms ms' : List BS} {w w' : World} (t : Tr ms w ms' w') : Tr ms w ms' { w' with drawn:=w'.drawn + 1 }:=⟨t.ch.drew,t.sub,⟨t.ms.lt,t.ms.sep⟩⟩
theorem vb {p q : Prop} [Decidable p] [Decidable q] (h : p ↔ q) : Value.bool (decide p) = Value.bool (decide q):=congrArg Value.bool (decide_eq_decide.2 h)
theorem vt {q : Prop} [Decidable q] (h : q) : Value.bool true = Value.bool (decide q):=congrArg Value.bool (decide_eq_true h).symm
theorem vf {q : Prop} [Decidable q] (h : ¬ q) : Value.bool false = Value.bool (decide q):=congrArg Value.bool (decide_eq_false h).symm
theorem vi {k : IntKind} {x y : Int} (h : x = y) : Value.int k x = Value.int k y:=congrArg _ h
theorem vs {x y : ByteArray} (h : x = y) : Value.string x = Value.string y:=congrArg _ h
theorem r1 {x y : Value} (h : x = y) : Ending.returned x = Ending.returned y:=congrArg _ h
theorem r2 {x y x' y' : Value} (h : x = y) (h' : x' = y') : Ending.returned (.tuple #[x,x']) = Ending.returned (.tuple #[y,y']):=by rw [h,h']
theorem r3 {x y x' y' x2 y2 : Value} (h : x = y) (h' : x' = y') (h2 : x2 = y2) : Ending.returned (.tuple #[x,x',x2]) = Ending.returned (.tuple #[y,y',y2]):=by rw [h,h',h2]
theorem x_nilck {P : Program} {a : Act} {w : World} {d : Option Tmp} {ty : TypeId} {pos : String} {af : Array Edge} {g : Option (Nat × Bool)} {x : Operand} {p : Addr} (hx : a.eval x = .pointer (some p)) : (execOp a.eval ⟨d,.nilCheck x,ty,pos,af,g⟩).run P w = .ok (.value (.pointer (some p))) w:=by
  simp [execOp,hx]
/- out[m] = v -/
section
variable {P : Program} {Q : Exit → Act → World → Prop} {n : Nat} {L : List (Nat × Value)} {a : Act} {w : World} {ops : Array Oper} {rest : List Oper} {o : Oper}
theorem run_store_cell {b f : Nat} {v : Value} {cur : Array Value} {e : TypeId} (h1 : v.oneCell' = true) (hb : w.heap[b]? = some (.cells cur e (0, 0))) (ho : f < cur.size) (m : Mode) :
    (store ⟨b,f,none⟩ v m).run P w = .ok () (w.setCell ⟨b,f,none⟩ v):=by
  rw [run_store P w _ v m h1];have hc : w.cell? ⟨b,f,none⟩ = some cur[f]:=by
    show hcell w.heap b f = _;unfold hcell;rw [hb];simp [ho]
  have hf : w.frozen? ⟨b,f,none⟩ = false:=by simp [World.frozen?,hb]
  simp [hc,hf]
end
theorem row_off {α : Type} {E : Enc α} {et : TypeId} {base : Nat} {F : Nat → Prop} {ms : List BS} {w : World} {ad : Option Addr} {cap : Nat} {xs : List α} (r : Row E et base F ms w ad cap xs) {m : Nat} (hm : m < xs.length) : ad = some ⟨blk ad,0,none⟩:=by
  rcases r.form with ⟨_,h,_⟩ | ⟨h,_⟩
  · rw [h] at hm;simp at hm
  · exact h
end Go.Proofs.Ytobggnpnochnnaa.V
/- More steps: captured blocks,results in cells,slices cut,lists made. -/
namespace Go.Proofs.Ytobggnpnochnnaa.V
open Go.RowKit
structure BlkR (ms : List BS) (h : Array Obj) (b : Nat) (cs : List Value) (e : TypeId) : Prop where
  k : Blk h b cs e
  n : ¬ In ms b
theorem BlkR.tr {ms ms' : List BS} {w w' : World} {b : Nat} {cs : List Value} {e : TypeId} (r : BlkR ms w.heap b cs e) (T : Tr ms w ms' w') : BlkR ms' w'.heap b cs e :=
  ⟨(T.ch.block b r.k.lt r.n).trans r.k,fun h=>(T.sub b h).elim r.n fun e=>absurd e (by have:=r.k.lt;omega)⟩
theorem BlkR.cell {ms : List BS} {h : Array Obj} {b j : Nat} {cs : List Value} {e : TypeId} {v : Value} (k : BlkR ms h b cs e) (hj : cs[j]? = some v) : hcell h b j = some v:=k.k.cell hj
theorem BlkR.mid {ms : List BS} {h : Array Obj} {b : Nat} {all : List Value} {e : TypeId} (k : BlkR ms h b all e) (pre cs post : List Value) (ha : all = pre ++ (cs ++ post)) (f : Nat) (hf : pre.length = f) : ∀ j v,cs[j]? = some v → hcell h b (f + j) = some v:=k.k.mid pre cs post ha f hf
section
variable {P : Program} {Q : Exit → Act → World → Prop} {n : Nat} {L : List (Nat × Value)} {a : Act} {w : World} {d : Option Tmp} {ty : TypeId} {pos : String} {af : Array Edge} {g : Option (Nat × Bool)}
theorem retcw {fn : Func} {R : Ending → World → Prop} {t T : Nat} {b : Nat} (hr : fn.results = #[.cell t T]) (S : Slots n L a) (hv : look t L = some (.pointer (some ⟨b,0,none⟩))) (cs : List Value) (hs : Wide P T cs.length) (hc : ∀ j v,cs[j]? = some v → hcell w.heap b (0 + j) = some v) (h : R (.returned (.agg cs.toArray)) w) : bodyPost P fn R .ret a w:=by
  refine ⟨S.defers,_,?_,h⟩;have hl:=run_loadVar_wide cs hs hc;have h1:=S.get t _ hv;simp only [Array.getD_eq_getD_getElem?] at h1;simp [results,hr,h1,asAddr,hl]
theorem x_bpneq {x y : Operand} {xt yt : TypeId} {p q : Prop} [Decidable p] [Decidable q] (hu : P.underlying xt = some .bool) (hx : a.eval x = .bool (decide p)) (hy : a.eval y = .bool (decide q)) : (execOp a.eval ⟨d,.binOp .neq xt x y yt,ty,pos,af,g⟩).run P w = .ok (.value (.bool (decide (¬ (p ↔ q))))) w:=by
  rw [x_bneq hu hx hy]
  congr 3
  simp only [decide_eq_decide]
theorem x_allocz {e : TypeId} {z : Value} {size bytes : Nat} (cs : List Value) (hi : (P.info? e).map (fun i => (i.zero, i.size, i.bytes)) = some (some z, size, bytes)) (hv : z.cells = cs.toArray) :
    (execOp a.eval ⟨d,.alloc e,ty,pos,af,g⟩).run P w = .ok (.value (.pointer (some ⟨w.heap.size,0,none⟩))) (w.alloc (.cells cs.toArray e)):=by
  obtain ⟨i,h1,h2,_⟩:=info_of hi;exact x_alloc cs (by rw [h1];exact h2) hv
def slFrom {α : Type} (E : Enc α) (s : Sl α) (m : Nat) : Sl α:=⟨if s.c = m then s.a else s.a.map (fun q=>q.add (m * E.n)),s.c - m,s.xs.drop m⟩
theorem sl_from {α : Type} {E : Enc α} {D : Nat → Prop} {h : Array Obj} {s : Sl α} (H : (slE E).wf D h s) (m : Nat) (hm : m ≤ s.xs.length) : (slE E).wf D h (slFrom E s m):=by
  refine ⟨H.1.drop m hm _ fun hlt=>?_,by have:=H.2.1;simp [slFrom];omega,fun e=>?_⟩
  · have h1 := H.1.adr hlt;have h2 : ¬ s.c = m := by have := H.2.1; omega
    show (if s.c = m then _ else _) = _;rw [if_neg h2,h1];simp [addr_add,blk,off]
  · show s.c - m = 0
    by_cases hc : s.c = m
    · omega
    · have : (if s.c = m then s.a else s.a.map (fun q=>q.add (m * E.n))) = none:=e;rw [if_neg hc] at this;have h3 : s.a = none:=by cases hs : s.a with
        | none=>rfl
        | some p=>rw [hs] at this;cases this
      have:=H.2.2 h3;omega
theorem x_slfrom {α : Type} (E : Enc α) {x y : Operand} {t e : TypeId} (s : Sl α) {k : IntKind} {i : Int} {z : Value} {by_ : Nat} (ht : P.underlying t = some (.slice e)) (hi : (P.info? e).map (fun i => (i.zero, i.size, i.bytes)) = some (some z, E.n, by_)) (hx : a.eval x = .slice s.a s.xs.length s.c) (hy : a.eval y = .int k i) (m : Nat) (hm : i = (m : Int)) (hn : m ≤ s.xs.length) :
    (execOp a.eval ⟨d,.slice t x (some y) none none,ty,pos,af,g⟩).run P w = .ok (.value (.slice (slFrom E s m).a (slFrom E s m).xs.length (slFrom E s m).c)) w:=by
  rw [x_sllo ht hi hx hy m hm hn];simp [slFrom]
end
theorem x_bsl0 {P : Program} {a : Act} {w : World} {d : Option Tmp} {ty : TypeId} {pos : String} {af : Array Edge} {g : Option (Nat × Bool)} {t e : TypeId} {z : Value} {sz by_ : Nat} (ht : P.underlying t = some (.slice e)) (hi : (P.info? e).map (fun i => (i.zero, i.size, i.bytes)) = some (some z, sz, by_)) :
    (execOp a.eval ⟨d,.buildSlice t 0 #[],ty,pos,af,g⟩).run P w = .ok (.value (.slice (some ⟨w.heap.size,0,none⟩) 0 0)) (w.alloc (.cells #[] e)):=by
  obtain ⟨ie,hie,_,_,_⟩:=info_of hi;simp [execOp,Instr.buildSlice,run_underlying ht,sizeOf,typeInfo,hie,newRow,Instr.fill]
  congr 2;apply Array.eq_empty_of_size_eq_zero;simp
theorem row_of_nil {α : Type} {E : Enc α} {base : Nat} {F : Nat → Prop} {ms : List BS} {w : World} {b : Nat} {e : TypeId} (k : Blk w.heap b [] e) (hb : base ≤ b) : Row E e base F ms w (some ⟨b,0,none⟩) 0 [] :=
  ⟨⟨by simp,.inr ⟨b,0,#[],rfl,hb,k,Nat.le_refl _,by simp [maxLen],by simp,by simp⟩⟩,fun x h=>by simp at h⟩
theorem abk_one (b : Nat) : abk (some ⟨b,0,none⟩) = one b:=by
  funext k;unfold abk one;simp [eq_comm]
theorem Tr.freshRow {ms : List BS} {w w' : World} {b : Nat} (hM : MS ms w) (hb : w.heap.size = b) (hl : b < w'.heap.size) (g : Ch (In []) w w') : Tr ms w (abk (some ⟨b,0,none⟩) :: ms) w':=by
  rw [abk_one];exact Tr.fresh hM hb hl g
theorem Row.up {α : Type} {E : Enc α} {t : TypeId} {base b0 : Nat} {F : Nat → Prop} {ms m0 : List BS} {w : World} {ad : Option Addr} {cap : Nat} {xs : List α} (r : Row E t base (Ex F ms) (abk ad :: m0) w ad cap xs) (hb : b0 ≤ base) : Row E t b0 F (abk ad :: ms) w ad cap xs :=
  ⟨(r.lower hb).own,fun x hx=>E.mono (fun k _ h=>⟨fun e=>e.elim (fun e=>h.1 (.inl e)) fun e=>h.2 (.inl e),fun e=>h.2 (.inr e)⟩) (r.wf x hx)⟩
section
variable {P : Program} {a : Act} {w : World} {d : Option Tmp} {ty : TypeId} {pos : String} {af : Array Edge} {g : Option (Nat × Bool)} {x y : Operand} {xt yt e : TypeId} {s : Option Addr} {n c n' c' : Nat}
theorem x_sleql (hu : P.underlying xt = some (.slice e)) (hx : a.eval x = .slice s n c) (hy : a.eval y = .slice none n' c') : (execOp a.eval ⟨d,.binOp .eql xt x y yt,ty,pos,af,g⟩).run P w = .ok (.value (.bool (decide (s = none)))) w:=by
  refine x_bin hx hy (by simp [eqGuard]) ?_;rw [Lib.run_eql_slice_nil w xt e s n c n' c' hu];cases s <;> rfl
end
theorem strip {P : Program} {Q : Exit → Act → World → Prop} {n : Nat} {L : List (Nat × Value)} {a : Act} {w : World} {ops : Array Oper} {rest : List Oper} {dst : Option Tmp} {op : Op} {ty : TypeId} {pos : String} {af : Array Edge} {j gd : Nat} {b : Bool} {p : Oper} (S : Slots n L a) (hj : ops[j]? = some p) (hd : p.dst = some gd) (hv : look gd L = some (.bool b)) (h : wpList P ops Q (⟨dst,op,ty,pos,af,none⟩ :: rest) a w) : wpList P ops Q (⟨dst,op,ty,pos,af,some (j,b)⟩ :: rest) a w:=by
  unfold wpList at *;have hv':=get_bool (S.get gd _ hv);rw [if_pos (by simp [Region.wanted,yielded,hj,hd,hv'])];rw [if_pos (by simp [Region.wanted])] at h;exact h
theorem op_make {α : Type} {E : Enc α} {P : Program} {o : Oper} {a : Act} {K : Act → World → Prop} {Q : Exit → Act → World → Prop} {t e : TypeId} {ms : List BS} {w w0 : World} {F : Nat → Prop} (l c : Operand) (hop : o.op = .makeSlice t l c) (z : Value) (bytes : Nat) (ht : P.underlying t = some (.slice e)) (hi : (P.info? e).map (fun i => (i.zero, i.size, i.bytes)) = some (some z, E.n, bytes)) (hn : E.n = 1) (x0 : α) (h0 : E.cells x0 = [z]) (hz : z.cells = #[z])
    {kl kc : IntKind} {L C : Int} (n : Nat) (hl : a.eval l = .int kl L) (hc : a.eval c = .int kc C) (hL : L = (n : Int)) (hC : C = (n : Int)) (hb : bytes * n ≤ 281474976710656) (hm : n ≤ maxLen) (hM : MS ms w) (hw : ∀ h,E.wf (Fr F (abk (some ⟨w.heap.size,0,none⟩) :: ms)) h x0) (hF0 : w0.heap.size ≤ w.heap.size)
    (h : ∀ ad w',Row E e w0.heap.size F (abk ad :: ms) w' ad n (List.replicate n x0) → Tr ms w (abk ad :: ms) w' → Ch (In []) w w' → K (a.put o.dst (.slice ad n n)) w') : o.wp P a w K Q:=by
  obtain ⟨i0,hi0,hz0,hz1,hz2⟩:=info_of hi;subst hL hC;obtain ⟨w',hr,h2,h3⟩:=run_make_full (P:=P) w w0.heap.size t e i0 z E.n ht hi0 hz0 hz1 kl kc n (by rw [hz2];exact hb) hm hF0;have hch : Ch (In []) w w':=(Ch.of_grown h3).mono fun k hk=>by cases hk
  have hcells : (madeCells z.cells (n * E.n)).toList = (List.replicate n x0).flatMap E.cells:=by
    have e2 : (List.replicate n x0).flatMap E.cells = List.replicate n z:=by
      clear h2 hr hb hm hl hc h
      induction n with
      | zero=>rfl
      | succ n ih=>rw [List.replicate_succ,List.flatMap_cons,ih,h0];rfl
    rw [e2];simp only [hn,hz,madeCells,Nat.mul_one]
    apply List.ext_getElem
    · simp
    · intro i h1 h2;simp [Nat.mod_one]
  have hlt : w.heap.size < w'.heap.size:=by
    rcases h2.2 with ⟨h1,_⟩ | ⟨g,c,cur,h1,_,h3,_⟩
    · cases h1
    · injection h1 with h1
      have : g = w.heap.size:=by injection h1 with h1;injection h1 with h1;exact h1.symm
      subst this
      rcases Nat.lt_or_ge w.heap.size w'.heap.size with k | k
      · exact k
      · rw [Array.getElem?_eq_none k] at h3;cases h3
  have T : Tr ms w (abk (some ⟨w.heap.size,0,none⟩) :: ms) w':=(Tr.of_ch0 hM hch).cons fun k e=>by
    cases e
    exact ⟨Nat.le_refl _,hlt,fun h=>absurd (hM.lt _ h) (Nat.lt_irrefl _)⟩
  unfold Oper.wp execOp;simp only [hop,hl,hc,Sem.run_bind,hr,Result.andThen_ok,Sem.run_pure];refine h (some ⟨w.heap.size,0,none⟩) w' ⟨?_,fun x hx=>?_⟩ T hch
  · rw [List.length_replicate,← hcells];exact h2
  · obtain rfl:=List.eq_of_mem_replicate hx;exact hw _
end Go.Proofs.Ytobggnpnochnnaa.V
/- Regions in which an address is made beside an append,in either order: x.f = append(x.f,..). -/
namespace Go.Proofs.Ytobggnpnochnnaa.V
open Go.RowKit
theorem Oper.wp_put {P : Program} {o : Oper} {a : Act} {w : World} {K : Act → World → Prop} {Q : Exit → Act → World → Prop} (h : o.wp P a w K Q) : o.wp P a w (fun a' w'=>K a' w' ∧ ∃ v,a'.tmps = (a.put o.dst v).tmps) Q:=by
  unfold Oper.wp at *
  generalize (execOp a.eval o).run P w = r at *
  cases r with
  | ok n w' =>
    cases n <;> simp only [Oper.upon] at h ⊢ <;>
      first
        | exact ⟨h,_,rfl⟩
        | exact ⟨h,undef,by cases o.dst <;> rfl⟩
        | exact Calls.mono h (fun e w'' he=>by cases e <;> first | exact ⟨he,_,rfl⟩ | exact he)
        | exact Rows.mono h (fun _ _ he=>⟨he,_,rfl⟩)
  | halt x w'=>cases x <;> simp only [Oper.upon] at h ⊢ <;> exact h
section
variable {P : Program} {Q : Exit → Act → World → Prop}
theorem Slots.both {N : Nat} {L Z : List (Nat × Value)} {a : Act} (S : Slots N L a) (T : Slots N Z a) : Slots N (Z ++ L) a:=by
  refine ⟨S.size,S.defers,fun i u hu=>?_⟩
  induction Z with
  | nil=>exact S.get i u hu
  | cons p r ih =>
    obtain ⟨j,v⟩:=p;rw [List.cons_append,look_cons] at hu
    by_cases e : j = i
    · rw [if_pos e] at hu;exact T.get i u (by rw [look_cons,if_pos e];exact hu)
    · rw [if_neg e] at hu
      by_cases hr : ∃ x,look i r = some x
      · obtain ⟨x,hx⟩:=hr;have hx2 : look i (r ++ L) = some x:=by
          clear ih T hu
          induction r with
          | nil=>cases hx
          | cons q r ih =>
            obtain ⟨k,y⟩:=q;rw [List.cons_append,look_cons];rw [look_cons] at hx
            by_cases ek : k = i
            · rw [if_pos ek] at hx ⊢;exact hx
            · rw [if_neg ek] at hx ⊢;exact ih hx
        rw [hx2] at hu;rw [← Option.some.inj hu];exact T.get i x (by rw [look_cons,if_neg e];exact hx)
      · have hn : look i r = none:=by
          cases h : look i r with
          | none=>rfl
          | some x=>exact absurd ⟨x,h⟩ hr
        have : look i (r ++ L) = look i L:=by
          clear ih T hu hr
          induction r with
          | nil=>rfl
          | cons q r ih =>
            obtain ⟨k,y⟩:=q;rw [look_cons] at hn;rw [List.cons_append,look_cons]
            by_cases ek : k = i
            · rw [if_pos ek] at hn;cases hn
            · rw [if_neg ek] at hn ⊢;exact ih hn
        rw [this] at hu;exact S.get i u hu
end
end Go.Proofs.Ytobggnpnochnnaa.V
/- Short forms of what a walk's text repeats. -/
namespace Go.Proofs.Ytobggnpnochnnaa.V
open Go.RowKit
abbrev bD (p : Prop) [Decidable p] : Value:=.bool (decide p)
abbrev iN (n : Nat) : Value:=.int .i64 (n : Int)
abbrev iI (i : Int) : Value:=.int .i64 i
abbrev pT (b o : Nat) : Value:=.pointer (some ⟨b,o,none⟩)
abbrev sV {α : Type} (s : Sl α) : Value:=.slice s.a s.xs.length s.c
section
variable {P : Program} {Q : Exit → Act → World → Prop} {n : Nat} {L : List (Nat × Value)} {a : Act} {w : World} {ops : Array Oper} {rest : List Oper} {o : Oper} {ty : TypeId} {pos : String} {af : Array Edge}
theorem Slots.e (S : Slots n L a) {x : Operand} {v : Value} (h : evS L x = some v) : a.eval x = v:=S.eval h
theorem Slots.p (S : Slots n L a) {x : Operand} {c : Prop} [Decidable c] {v u : Value} (h : evS L x = some (if c then v else u)) (hc : c) : a.eval x = v:=(S.eval h).trans (if_pos hc)
end
end Go.Proofs.Ytobggnpnochnnaa.V
/- Regions that draw their order and make several new blocks: what is told of two of them. -/
namespace Go.Proofs.Ytobggnpnochnnaa.V
open Go.RowKit
def blkOf : Value → Option Nat
  | .pointer (some ⟨b,_,_⟩)=>some b
  | .slice (some ⟨b,_,_⟩) _ _=>some b
  | _=>none
structure DoneN {M : Nat → Prop} (A : List Nat) (o : Oper) (E : List (Nat × StP M)) (I : World → Prop) (N : Nat) (a : Act) (w : World) (a' : Act) (w' : World) : Prop where
  put : ∃ v,a' = a.put o.dst v ∧ ∀ d,o.dst = some d → d < N ∧ lookE E d v w' ∧ (d ∈ A → ∃ b,blkOf v = some b ∧ w.heap.size ≤ b)
  ch : Ch M w w'
  inv : I w'
def stepsN {M : Nat → Prop} (A : List Nat) (P : Program) (ops : Array Oper) (Q : Exit → Act → World → Prop) (N : Nat) (L : List (Nat × Value)) (W : World) (E : List (Nat × StP M)) (I : World → Prop) : Nat → List Oper → List (List Nat) → Prop
  | i,o :: r,D :: Ds=>(∀ a w,Ch M W w → I w → Slots N L a → deps E a w D → wpOp P ops Q i (DoneN A o E I N a w) a w) ∧ stepsN A P ops Q N L W E I (i + 1) r Ds
  | _,_,_=>True
theorem headOk_dst {ops : Array Oper} {n i k d : Nat} {o p : Oper} (hok : headOk ops n = true) (hi : i < n) (hk : k < n) (ho : ops[i]? = some o) (hp : ops[k]? = some p) (hd : p.dst = some d) (hki : k ≠ i) : o.dst ≠ some d:=by
  have g1:=List.all_eq_true.1 hok i (List.mem_range.2 hi);simp only [ho,Bool.and_eq_true] at g1;have g2:=List.all_eq_true.1 g1.2 k (List.mem_range.2 hk);simp only [hp,hd,Bool.and_eq_true,Bool.or_eq_true,beq_iff_eq,bne_iff_ne,Option.isNone_some,Bool.false_eq_true,or_false] at g2;exact fun e=>(g2.1.resolve_left hki) e.symm
theorem Row.ups {α : Type} {E : Enc α} {t : TypeId} {base b0 : Nat} {F : Nat → Prop} {ms m0 nw : List BS} {w : World} {ad : Option Addr} {cap : Nat} {xs : List α} (r : Row E t base (Ex F ms) (nw ++ m0) w ad cap xs) (hb : b0 ≤ base) : Row E t b0 F (nw ++ ms) w ad cap xs :=
  ⟨(r.lower hb).own,fun x hx=>E.mono (fun k _ h=>⟨fun e=>(in_app.1 e).elim (fun e=>h.1 (in_app.2 (.inl e))) fun e=>h.2 (.inl e),fun e=>h.2 (.inr e)⟩) (r.wf x hx)⟩
end Go.Proofs.Ytobggnpnochnnaa.V
/- One bundle of all that is known at a point of a walk: the slots,the data that is read,the blocks of the call's own. -/
namespace Go.Proofs.Ytobggnpnochnnaa.V
open Go.RowKit
def Mv (W W' : Nat → Prop) (h h' : Array Obj) : Prop:=h.size ≤ h'.size ∧ ∀ k,k < h.size → ¬ W k → h'[k]? = h[k]? ∧ ¬ W' k
def Fw (F W : Nat → Prop) : Nat → Prop:=fun k=>¬ W k ∧ ¬ F k
theorem Enc.mv {α : Type} (E : Enc α) {x : α} {F W W' : Nat → Prop} {h h' : Array Obj} (m : Mv W W' h h') (H : E.wf (Fw F W) h x) : E.wf (Fw F W') h' x:=by
  have h1 : E.wf (fun k=>k < h.size ∧ Fw F W k) h x:=E.mono (fun k hk h=>⟨hk,h⟩) H;have h2:=E.keep (h':=h') ⟨m.1,fun k hk h=>(m.2 k hk h.2.1).1⟩ h1;exact E.mono (fun k _ h=>⟨(m.2 k h.1 h.2.1).2,h.2.2⟩) h2
structure RF where
  p : (F W : Nat → Prop) → Array Obj → Prop
  st : ∀ {F W W' : Nat → Prop} {h h' : Array Obj},Mv W W' h h' → p F W h → p F W' h'
structure OF where
  o : BS
  p : (F W : Nat → Prop) → World → Prop
  st : ∀ {F W W' : Nat → Prop} {w w' : World},Mv W W' w.heap w'.heap → (∀ k,k < w.heap.size → o k → w'.heap[k]? = w.heap[k]?) → p F W w → p F W' w'
def wfF {α : Type} (E : Enc α) (x : α) : RF:=⟨fun F W h=>E.wf (Fw F W) h x,fun m H=>E.mv m H⟩
def blF (b : Nat) (cs : List Value) (t : TypeId) : RF:=⟨fun _ W h=>¬ W b ∧ Blk h b cs t,fun m H=>⟨(m.2 b H.2.lt H.1).2,(m.2 b H.2.lt H.1).1.trans H.2⟩⟩
def noO : OF:=⟨fun _=>False,fun _ _ _=>True,fun _ _ _=>trivial⟩
def blO (b : Nat) (cs : List Value) (t : TypeId) : OF:=⟨one b,fun _ _ w=>Blk w.heap b cs t,fun _ h H=>(h b H.lt rfl).trans H⟩
def tpO (t : TypeId) (T : Nat) (tl : Sl Int) : OF:=⟨one T,fun _ _ w=>TpB t T tl w,fun _ h ⟨i,hi,k⟩=>⟨i,hi,(h T k.lt rfl).trans k⟩⟩
def rwO {α : Type} (E : Enc α) (t : TypeId) (base : Nat) (ad : Option Addr) (cap : Nat) (xs : List α) : OF :=
  ⟨abk ad,fun F W w=>w.ownsRow base t E.n (.slice ad xs.length cap) xs.length (xs.flatMap E.cells) ∧ ∀ x ∈ xs,E.wf (Fw F W) w.heap x,fun m h H=>by
    refine ⟨⟨H.1.1,?_⟩,fun x hx=>E.mv m (H.2 x hx)⟩
    rcases H.1.2 with h1 | ⟨b,c,cur,h1,h2,h3,h4⟩
    · exact .inl h1
    · refine .inr ⟨b, c, cur, h1, h2, ?_, h4⟩
      injection h1 with h1
      subst h1;refine (h b ?_ rfl).trans h3
      rcases Nat.lt_or_ge b (Array.size _) with k | k
      · exact k
      · rw [Array.getElem?_eq_none k] at h3;cases h3⟩
def ow : List OF → List BS
  | []=>[]
  | f :: r=>f.o :: ow r
def nth {α : Type _} : List α → Nat → Option α
  | [],_=>none
  | x :: _,0=>some x
  | _ :: r,i + 1=>nth r i
theorem nth_get {α : Type _} : ∀ (l : List α) (i : Nat), nth l i = l[i]?
  | [],_=>by simp [nth]
  | _ :: _,0=>rfl
  | _ :: r,i + 1=>by rw [nth,nth_get r i,List.getElem?_cons_succ]
theorem nth_mem {α : Type _} {l : List α} {i : Nat} {x : α} (h : nth l i = some x) : x ∈ l:=List.mem_of_getElem? ((nth_get l i).symm.trans h)
theorem ow_map : ∀ (os : List OF), ow os = os.map OF.o
  | []=>rfl
  | f :: r=>by rw [ow,ow_map r];rfl
theorem ow_get {os : List OF} {i : Nat} {f : OF} (h : nth os i = some f) : (ow os)[i]? = some f.o:=by
  rw [ow_map,List.getElem?_map,← nth_get,h];rfl
theorem ow_mem {os : List OF} {f : OF} (h : f ∈ os) : f.o ∈ ow os:=by rw [ow_map];exact List.mem_map_of_mem h
theorem ow_app (os nw : List OF) : ow (os ++ nw) = ow os ++ ow nw:=by simp [ow_map]
theorem ow_set {os : List OF} {i : Nat} {f g : OF} (h : nth os i = some f) (e : g.o = f.o) : ow (os.set i g) = ow os:=by
  rw [ow_map,ow_map,List.map_set,e]
  apply List.ext_getElem?
  intro j;rw [List.getElem?_set];have h1 : (os.map OF.o)[i]? = some f.o:=by rw [← ow_map];exact ow_get h
  split
  · rename_i hj; subst hj; rw [h1]; split
    · rfl
    · rename_i hl;exact absurd (List.getElem?_eq_some_iff.1 h1).1 hl
  · rfl
structure Mm (F : Nat → Prop) (w0 : World) (m0 : List BS) (rs : List RF) (os : List OF) (w : World) : Prop where
  c : Tr m0 w0 (ow os) w
  f : Old F w0
  r : ∀ f ∈ rs,f.p F (In (ow os)) w.heap
  o : ∀ f ∈ os,f.p F (In (ow os)) w
structure St (F : Nat → Prop) (w0 : World) (m0 : List BS) (n : Nat) (L : List (Nat × Value)) (rs : List RF) (os : List OF) (a : Act) (w : World) : Prop where
  s : Slots n L a
  m : Mm F w0 m0 rs os w
section
variable {F : Nat → Prop} {w0 w w' : World} {m0 ms ms' : List BS} {n : Nat} {L L' : List (Nat × Value)} {rs : List RF} {os os' nw : List OF} {a a' : Act}
theorem Tr.mv (T : Tr ms w ms' w') : Mv (In ms) (In ms') w.heap w'.heap :=
  ⟨T.size,fun k hk hD=>⟨T.ch.block k hk hD,fun hm=>(T.sub k hm).elim hD fun e=>absurd hk (by omega)⟩⟩
theorem St.e (S : St F w0 m0 n L rs os a w) {x : Operand} {v : Value} (h : evS L x = some v) : a.eval x = v:=S.s.eval h
theorem St.p (S : St F w0 m0 n L rs os a w) {x : Operand} {c : Prop} [Decidable c] {v u : Value} (h : evS L x = some (if c then v else u)) (hc : c) : a.eval x = v:=(S.s.eval h).trans (if_pos hc)
theorem St.u {α : Type} {E : Enc α} {x : α} (S : St F w0 m0 n L rs os a w) (i : Nat) (h : nth rs i = some (wfF E x)) : E.wf (Fr F (ow os)) w.heap x:=S.m.r _ (nth_mem h)
theorem St.b {b : Nat} {cs : List Value} {t : TypeId} (S : St F w0 m0 n L rs os a w) (i : Nat) (h : nth rs i = some (blF b cs t)) : BlkR (ow os) w.heap b cs t:=⟨(S.m.r _ (nth_mem h)).2,(S.m.r _ (nth_mem h)).1⟩
theorem St.k {b : Nat} {cs : List Value} {t : TypeId} (S : St F w0 m0 n L rs os a w) (i : Nat) (h : nth os i = some (blO b cs t)) : Blk w.heap b cs t:=S.m.o _ (nth_mem h)
theorem St.t {t : TypeId} {T : Nat} {tl : Sl Int} (S : St F w0 m0 n L rs os a w) (i : Nat) (h : nth os i = some (tpO t T tl)) : TpB t T tl w:=S.m.o _ (nth_mem h)
theorem St.row {α : Type} {E : Enc α} {t : TypeId} {base : Nat} {ad : Option Addr} {cap : Nat} {xs : List α} (S : St F w0 m0 n L rs os a w) (i : Nat) (h : nth os i = some (rwO E t base ad cap xs)) : Row E t base F (ow os) w ad cap xs:=⟨(S.m.o _ (nth_mem h)).1,(S.m.o _ (nth_mem h)).2⟩
theorem St.x (S : St F w0 m0 n L rs os a w) : Old (Ex F (ow os)) w:=S.m.c.old S.m.f
theorem St.xx (S : St F w0 m0 n L rs os a w) (o : List BS) : Old (Exc F (ow os) o) w:=S.m.c.oldx S.m.f
theorem St.M (S : St F w0 m0 n L rs os a w) : MS (ow os) w:=S.m.c.ms
theorem dn0 {α : Type} {E : Enc α} {x : α} {h : Array Obj} (H : E.wf (Fr F ms) h x) : E.wf (Fr (Ex F ms) []) h x:=E.mono (fun k _ h=>⟨fun e=>e,fun e=>e.elim h.1 h.2⟩) H
theorem dnx {α : Type} {E : Enc α} {x : α} {h : Array Obj} {o : List BS} (H : E.wf (Fr F ms) h x) : E.wf (Fr (Exc F ms o) []) h x:=E.mono (fun k _ h=>⟨fun e=>e,fun e=>e.elim (fun e=>h.1 e.1) h.2⟩) H
theorem dn1 {α : Type} {E : Enc α} {x : α} {h : Array Obj} {js : List Nat} (H : E.wf (Fr F ms) h x) : E.wf (Fr (Ex F ms) (picks ms js)) h x:=E.mono (fun k _ h=>⟨fun e=>h.1 (in_picks e),fun e=>e.elim h.1 h.2⟩) H
theorem Mm.go (M : Mm F w0 m0 rs os w) (T : Tr (ow os) w (ow os') w') (ho : ∀ f ∈ os',f.p F (In (ow os')) w') : Mm F w0 m0 rs os' w' :=
  ⟨M.c.trans T,M.f,fun f hf=>f.st T.mv (M.r f hf),ho⟩
theorem Mm.sep (M : Mm F w0 m0 rs os w) {i : Nat} {f : OF} (hi : nth os i = some f) (js : List Nat) (hj : js.contains i = false) {k : Nat} (hk : f.o k) : ¬ In (picks (ow os) js) k:=M.c.ms.sep.out i js hj (ow_get hi) hk
theorem idx_of {α : Type _} {l : List α} {x : α} (h : x ∈ l) : ∃ i,nth l i = some x:=by
  obtain ⟨i,hi,e⟩:=List.getElem_of_mem h;exact ⟨i,by rw [nth_get,List.getElem?_eq_getElem hi,e]⟩
theorem Mm.k0 (M : Mm F w0 m0 rs os w) (g : Ch (In []) w w') : Mm F w0 m0 rs os w':=by
  have T:=Tr.of_ch0 M.c.ms g;exact M.go T fun f hf=>f.st T.mv (fun k hk _=>g.block k hk id) (M.o f hf)
theorem St.k0 (S : St F w0 m0 n L rs os a w) (s : Slots n L' a') (t : Tr [] w [] w') : St F w0 m0 n L' rs os a' w':=⟨s,S.m.k0 t.ch⟩
theorem Mm.k1 (M : Mm F w0 m0 rs os w) (j : Nat) {f : OF} (hj : nth os j = some f) (f' : OF) (e : f'.o = f.o) (t : Ch (In [f.o]) w w') (hf : f'.p F (In (ow os)) w') : Mm F w0 m0 rs (os.set j f') w':=by
  have T : Tr (ow os) w (ow (os.set j f')) w':=by
    rw [ow_set hj e];exact Tr.of_ch M.c.ms t fun o ho=>by simp at ho;subst ho;exact ow_mem (nth_mem hj)
  refine M.go T fun g hg=>?_;rw [ow_set hj e] at T ⊢;obtain ⟨i,hi⟩:=idx_of hg;rw [nth_get,List.getElem?_set] at hi
  split at hi
  · split at hi
    · cases hi;exact hf
    · cases hi
  · rename_i hne;rw [← nth_get] at hi;refine g.st T.mv (fun k hk ho=>t.block k hk fun hm=>?_) (M.o g (nth_mem hi));have:=M.sep hi [j] (by simp;omega) ho;simp only [picks,List.filterMap_cons,ow_get hj,List.filterMap_nil] at this;exact this hm
theorem set_nth {os : List OF} {j : Nat} {f : OF} (h : nth os j = some f) : os.set j f = os:=by
  apply List.ext_getElem?
  intro i;rw [List.getElem?_set]
  split
  · rename_i e; subst e; rw [← nth_get, h]; split
    · rfl
    · rename_i hl;rw [nth_get] at h;exact absurd (List.getElem?_eq_some_iff.1 h).1 hl
  · rfl
theorem St.k1 (S : St F w0 m0 n L rs os a w) (j : Nat) {f : OF} (hj : nth os j = some f) (s : Slots n L' a') (t : Tr [f.o] w [f.o] w') (hf : f.p F (In (ow os)) w') : St F w0 m0 n L' rs os a' w' :=
  ⟨s,by have:=S.m.k1 j hj f rfl t.ch hf;rwa [set_nth hj] at this⟩
theorem St.k1s (S : St F w0 m0 n L rs os a w) (j : Nat) {f : OF} (hj : nth os j = some f) (f' : OF) (e : f'.o = f.o) (s : Slots n L' a') (t : Ch (In [f.o]) w w') (hf : f'.p F (In (ow os)) w') : St F w0 m0 n L' rs (os.set j f') a' w':=⟨s,S.m.k1 j hj f' e t hf⟩
theorem Sep.comm : ∀ {x y : List BS}, Sep (x ++ y) → Sep (y ++ x)
  | [],y,s=>by simpa using s
  | o :: x,y,s=>by
    have h1:=Sep.comm s.2;have : ∀ (y : List BS),Sep (y ++ x) → (∀ k,o k → ¬ In (y ++ x) k) → Sep (y ++ o :: x):=by
      intro y
      induction y with
      | nil=>intro s h;exact ⟨h,s⟩
      | cons p r ih =>
        intro s h;refine ⟨fun k hk hm=>?_,ih s.2 fun k hk hm=>h k hk (.inr hm)⟩
        rcases in_app.1 hm with q | q | q
        · exact s.1 k hk (in_app.2 (.inl q))
        · exact h k q (.inl hk)
        · exact s.1 k hk (in_app.2 (.inr q))
    exact this y h1 fun k hk hm=>s.1 k hk (in_app.2 ((in_app.1 hm).symm))
theorem Tr.comm {x y : List BS} (t : Tr ms w (x ++ y) w') : Tr ms w (y ++ x) w' :=
  ⟨t.ch,fun k hk=>t.sub k (in_app.2 (in_app.1 hk).symm),⟨fun k hk=>t.ms.lt k (in_app.2 (in_app.1 hk).symm),t.ms.sep.comm⟩⟩
theorem Mm.nu (M : Mm F w0 m0 rs os w) (nw : List OF) (T : Tr (ow os) w (ow nw ++ ow os) w') (g : Ch (In []) w w') (hn : ∀ f ∈ nw,f.p F (In (ow os ++ ow nw)) w') : Mm F w0 m0 rs (os ++ nw) w':=by
  have T':=T.comm;refine M.go (by rw [ow_app];exact T') fun f hf=>?_;rw [ow_app]
  rcases List.mem_append.1 hf with h | h
  · exact f.st T'.mv (fun k hk _=>g.block k hk id) (M.o f h)
  · exact hn f h
theorem Mm.n1 (M : Mm F w0 m0 rs os w) (f : OF) {b : Nat} (hb : w.heap.size = b) (hl : b < w'.heap.size) (ho : ∀ k,f.o k → k = b) (g : Ch (In []) w w') (hf : f.p F (In (ow os ++ [f.o])) w') : Mm F w0 m0 rs (os ++ [f]) w' :=
  M.nu [f] ((Tr.of_ch0 M.c.ms g).cons fun k hk=>by
    obtain rfl:=ho k hk
    exact ⟨by omega,hl,fun h=>by have:=M.c.ms.lt _ h;omega⟩) g fun f' h=>by simp at h;subst h;exact hf
structure Rw where
  α : Type
  E : Enc α
  t : TypeId
  ad : Option Addr
  cap : Nat
  xs : List α
def Rw.of (r : Rw) (base : Nat) : OF:=rwO r.E r.t base r.ad r.cap r.xs
def Rw.ok (r : Rw) (base : Nat) (F : Nat → Prop) (ms : List BS) (w : World) : Prop:=Row r.E r.t base F ms w r.ad r.cap r.xs
def abks : List Rw → List BS
  | []=>[]
  | r :: l=>abk r.ad :: abks l
def RwsOk (base : Nat) (F : Nat → Prop) (ms : List BS) (w : World) : List Rw → Prop
  | []=>True
  | r :: l=>r.ok base F ms w ∧ RwsOk base F ms w l
theorem RwsOk.get {base : Nat} {ms : List BS} : ∀ {l : List Rw}, RwsOk base F ms w l → ∀ r ∈ l, r.ok base F ms w
  | _ :: _,h,r,hr=>(List.mem_cons.1 hr).elim (fun e=>e ▸ h.1) fun hr=>h.2.get r hr
def ofs (base : Nat) : List Rw → List OF
  | []=>[]
  | r :: l=>r.of base :: ofs base l
theorem ow_ofs (base : Nat) : ∀ l : List Rw, ow (ofs base l) = abks l
  | []=>rfl
  | r :: l=>by rw [ofs,ow,ow_ofs base l];rfl
theorem mem_ofs {base : Nat} {f : OF} : ∀ {l : List Rw}, f ∈ ofs base l → ∃ r ∈ l, f = r.of base
  | r :: l,h=>(List.mem_cons.1 h).elim (fun e=>⟨r,List.mem_cons_self,e⟩) fun h=>let ⟨q,h1,h2⟩:=mem_ofs h;⟨q,List.mem_cons_of_mem _ h1,h2⟩
theorem St.kr (S : St F w0 m0 n L rs os a w) (l : List Rw) (s : Slots n L' a') (t : Tr [] w (abks l) w') (h : RwsOk w.heap.size (Ex F (ow os)) (abks l) w' l) : St F w0 m0 n L' rs (os ++ ofs w0.heap.size l) a' w':=by
  refine ⟨s,S.m.nu (ofs w0.heap.size l) ?_ t.ch fun f hf=>?_⟩
  · rw [ow_ofs];exact Tr.frame (m0:=[]) S.M (by simpa using t) fun _ h=>by simp at h
  · obtain ⟨r,hr,rfl⟩:=mem_ofs hf;have h1:=Row.ups (m0:=[]) (nw:=abks l) (by have:=h.get r hr;unfold Rw.ok at this;simpa using this) S.m.c.size;rw [ow_ofs];refine ⟨h1.own,fun x hx=>Enc.mono _ (fun k _ hk=>⟨fun e=>hk.1 (in_app.2 (in_app.1 e).symm),hk.2⟩) (h1.wf x hx)⟩
theorem St.kr1 (S : St F w0 m0 n L rs os a w) (j : Nat) {f : OF} (hj : nth os j = some f) (l : List Rw) (s : Slots n L' a') (t : Tr [f.o] w (abks l ++ [f.o]) w') (h : RwsOk w.heap.size (Ex F (ow os)) (abks l ++ [f.o]) w' l) (hf : ∀ W,f.p F W w') : St F w0 m0 n L' rs (os ++ ofs w0.heap.size l) a' w':=by
  have hsub : ∀ o,o ∈ [f.o] → o ∈ ow os:=fun o ho=>by simp at ho;subst ho;exact ow_mem (nth_mem hj)
  have T:=(Tr.frame S.M t hsub).comm;have e : ow (os ++ ofs w0.heap.size l) = ow os ++ abks l:=by rw [ow_app,ow_ofs]
  refine ⟨s,S.m.go (by rw [e];exact T) fun g hg=>?_⟩;rw [e]
  rcases List.mem_append.1 hg with q | q
  · obtain ⟨i, hi⟩ := idx_of q
    by_cases hij : i = j
    · subst hij; rw [hj] at hi; cases hi
      exact hf _
    · refine g.st T.mv (fun k hk ho=>t.ch.block k hk fun hm=>?_) (S.m.o g q);have:=S.m.sep hi [j] (by simp;omega) ho;simp only [picks,List.filterMap_cons,ow_get hj,List.filterMap_nil] at this;exact this hm
  · obtain ⟨r,hr,rfl⟩:=mem_ofs q;have h1:=Row.ups (nw:=abks l) (h.get r hr) S.m.c.size;exact ⟨h1.own,fun x hx=>Enc.mono _ (fun k _ hk=>⟨fun e=>hk.1 (in_app.2 (in_app.1 e).symm),hk.2⟩) (h1.wf x hx)⟩
theorem St.ar (S : St F w0 m0 n L rs os a w) (f : RF) (h : f.p F (In (ow os)) w.heap) : St F w0 m0 n L (rs ++ [f]) os a w :=
  ⟨S.s,S.m.c,S.m.f,fun g hg=>(List.mem_append.1 hg).elim (S.m.r g) fun hg=>by simp at hg;subst hg;exact h,S.m.o⟩
theorem Sep.pick : ∀ {ms : List BS} (is : List Nat) (_ : Sep ms), is.Nodup → Sep (picks ms is)
  | ms,[],_,_=>trivial
  | ms,i :: is,s,hp=>by
    have ih:=Sep.pick (ms:=ms) is s (List.nodup_cons.1 hp).2;unfold picks
    cases h : ms[i]? with
    | none=>rw [List.filterMap_cons,h];exact ih
    | some o =>
      rw [List.filterMap_cons,h];refine ⟨fun k hk hm=>?_,ih⟩;refine s.out i is ?_ h hk hm
      cases hc : is.contains i
      · rfl
      · exact absurd (List.contains_iff_mem.1 hc) (List.nodup_cons.1 hp).1
theorem MS.pick (h : MS ms w) (is : List Nat) (hi : is.Nodup) : MS (V.picks ms is) w:=⟨fun k hk=>h.lt k (in_picks hk),h.sep.pick is hi⟩
def pickO (os : List OF) : List Nat → List OF
  | []=>[]
  | i :: is=>match nth os i with
    | some f=>f :: pickO os is
    | none=>pickO os is
theorem ow_pick (os : List OF) : ∀ is, ow (pickO os is) = picks (ow os) is
  | []=>rfl
  | i :: is=>by
    unfold pickO picks;rw [List.filterMap_cons]
    cases h : nth os i with
    | some f=>rw [ow_get h];simp only;rw [ow,ow_pick os is];rfl
    | none =>
      have : (ow os)[i]? = none:=by rw [ow_map,List.getElem?_map,← nth_get,h];rfl
      rw [this];exact ow_pick os is
theorem mem_pick {os : List OF} {f : OF} : ∀ {is : List Nat}, f ∈ pickO os is → f ∈ os
  | i :: is,h=>by
    unfold pickO at h
    cases hi : nth os i with
    | some g=>rw [hi] at h;exact (List.mem_cons.1 h).elim (fun e=>e ▸ nth_mem hi) fun h=>mem_pick h
    | none=>rw [hi] at h;exact mem_pick h
theorem St.pk (S : St F w0 m0 n L rs os a w) (is : List Nat) {os' : List OF} (hi : is.Nodup:=by decide) (e : pickO os is = os':=by rfl) : St F w0 m0 n L rs os' a w:=by
  subst e;have T : Tr (ow os) w (ow (pickO os is)) w:=by
    rw [ow_pick];exact ⟨Ch.refl w,fun k hk=>.inl (in_picks hk),S.M.pick is hi⟩
  exact ⟨S.s,S.m.go T fun f hf=>f.st T.mv (fun _ _ _=>rfl) (S.m.o f (mem_pick hf))⟩
theorem nz {a n : Nat} (h : a < n:=by first | decide | exact Nat.one_pos | exact Nat.succ_pos _) : a < n:=h
theorem bo {p : Prop} (h : p:=by omega) : p:=h
class NthC (os : List OF) (i : Nat) (f : outParam OF) : Prop where
  eq : nth os i = some f
instance nthC0 (f : OF) (os : List OF) : NthC (f :: os) 0 f:=⟨rfl⟩
instance nthCs (g f : OF) (os : List OF) (i : Nat) [h : NthC os i f] : NthC (g :: os) (i + 1) f:=⟨h.eq⟩
class PkC (os : List OF) (is : List Nat) (os' : outParam (List OF)) : Prop where
  eq : pickO os is = os'
instance pkC0 (os : List OF) : PkC os [] []:=⟨rfl⟩
instance pkCs (os os' : List OF) (i : Nat) (is : List Nat) (f : OF) [h : NthC os i f] [k : PkC os is os'] : PkC os (i :: is) (f :: os'):=⟨by rw [pickO,h.eq,k.eq]⟩
class SetC (os : List OF) (i : Nat) (v : OF) (os' : outParam (List OF)) : Prop where
  eq : os.set i v = os'
instance setC0 (f v : OF) (os : List OF) : SetC (f :: os) 0 v (v :: os):=⟨rfl⟩
instance setCs (f v : OF) (os os' : List OF) (i : Nat) [h : SetC os i v os'] : SetC (f :: os) (i + 1) v (f :: os'):=⟨by rw [List.set_cons_succ,h.eq]⟩
class ApC (a b : List OF) (c : outParam (List OF)) : Prop where
  eq : a ++ b = c
instance apC0 (b : List OF) : ApC [] b b:=⟨rfl⟩
instance apCs (x : OF) (a b c : List OF) [h : ApC a b c] : ApC (x :: a) b (x :: c):=⟨by rw [List.cons_append,h.eq]⟩
class TkC (n : Nat) (os : List OF) (ks fs : outParam (List OF)) : Prop where
  eq : os = ks ++ fs
instance tkC0 (os : List OF) : TkC 0 os [] os:=⟨rfl⟩
instance tkCs (n : Nat) (x : OF) (os ks fs : List OF) [h : TkC n os ks fs] : TkC (n + 1) (x :: os) (x :: ks) fs:=⟨by rw [List.cons_append,← h.eq]⟩
class VsC (l : List Value) (i : Nat) (v : Value) (l' : outParam (List Value)) : Prop where
  eq : l.set i v = l'
instance vsC0 (x v : Value) (l : List Value) : VsC (x :: l) 0 v (v :: l):=⟨rfl⟩
instance vsCs (x v : Value) (l l' : List Value) (i : Nat) [h : VsC l i v l'] : VsC (x :: l) (i + 1) v (x :: l'):=⟨by rw [List.set_cons_succ,h.eq]⟩
class VlC (l : List Value) (l' : outParam (List Value)) : Prop where
  eq : l = l'
instance vlC0 (l : List Value) : VlC l l:=⟨rfl⟩
instance vlCset (l l1 l2 : List Value) (i : Nat) (v : Value) [h : VlC l l1] [k : VsC l1 i v l2] : VlC (l.set i v) l2:=⟨by rw [h.eq,k.eq]⟩
class OfC (x : OF) (x' : outParam OF) : Prop where
  eq : x = x'
instance ofC0 (x : OF) : OfC x x:=⟨rfl⟩
instance ofCb (b t : Nat) (l l' : List Value) [h : VlC l l'] : OfC (blO b l t) (blO b l' t):=⟨by rw [h.eq]⟩
class ShC (os : List OF) (os' : outParam (List OF)) : Prop where
  eq : os = os'
instance shC0 : ShC [] []:=⟨rfl⟩
instance shCs (x x' : OF) (a b : List OF) [q : OfC x x'] [h : ShC a b] : ShC (x :: a) (x' :: b):=⟨by rw [h.eq,q.eq]⟩
instance shCo0 (base : Nat) : ShC (ofs base []) []:=⟨rfl⟩
instance shCo (base : Nat) (α : Type) (E : Enc α) (t : TypeId) (ad : Option Addr) (cap : Nat) (xs : List α) (l : List Rw) (l' : List OF) [h : ShC (ofs base l) l'] : ShC (ofs base (⟨α,E,t,ad,cap,xs⟩ :: l)) (rwO E t base ad cap xs :: l'):=⟨by rw [ofs,h.eq];rfl⟩
instance shCa (a b a' b' c : List OF) [h : ShC a a'] [k : ShC b b'] [q : ApC a' b' c] : ShC (a ++ b) c:=⟨by rw [h.eq,k.eq,q.eq]⟩
instance shCset (a a' b : List OF) (i : Nat) (v v' : OF) [h : ShC a a'] [q : OfC v v'] [k : SetC a' i v' b] : ShC (a.set i v) b:=⟨by rw [h.eq,q.eq,k.eq]⟩
theorem St.pkc {os1 os' : List OF} (S : St F w0 m0 n L rs os a w) (is : List Nat) [q : ShC os os1] [h : PkC os1 is os'] (hi : is.Nodup:=by decide) : St F w0 m0 n L rs os' a w:=St.pk (q.eq ▸ S) is hi h.eq
theorem St.sh {os' : List OF} (S : St F w0 m0 n L rs os a w) [h : ShC os os'] : St F w0 m0 n L rs os' a w:=h.eq ▸ S
theorem St.spl {os1 ks fs : List OF} (S : St F w0 m0 n L rs os a w) (k : Nat) [q : ShC os os1] [h : TkC k os1 ks fs] : St F w0 m0 n L rs (ks ++ fs) a w:=h.eq ▸ q.eq ▸ S
theorem Mm.sub (M : Mm F w0 m0 rs os w) {rs' : List RF} (h : ∀ f ∈ rs',f ∈ rs) : Mm F w0 m0 rs' os w:=⟨M.c,M.f,fun f hf=>M.r f (h f hf),M.o⟩
def SubL (L : List (Nat × Value)) : List (Nat × Value) → Prop
  | []=>True
  | (i,v) :: r=>look i L = some v ∧ SubL L r
theorem SubL.sub : ∀ {L' : List (Nat × Value)}, SubL L L' → Sub L L'
  | [],_=>trivial
  | _ :: _,h=>⟨h.1,h.2.sub⟩
theorem St.re {rs' : List RF} (S : St F w0 m0 n L rs os a w) (hL : Sub L L') (hr : rs.take rs'.length = rs') (ho : os.take os'.length = os') : St F w0 m0 n L' rs' os' a w:=by
  have h1 : St F w0 m0 n L rs os' a w:=by
    have e : pickO os (List.range os'.length) = os':=by
      have : ∀ (m : Nat),pickO os ((List.range m)) = os.take m:=by
        intro m;have key : ∀ (l : List Nat),pickO os l = l.filterMap (nth os):=by
          intro l
          induction l with
          | nil=>rfl
          | cons i l ih=>unfold pickO;rw [List.filterMap_cons];cases nth os i <;> simp [ih]
        rw [key];have k2 : ∀ (os : List OF) (m : Nat),(List.range m).filterMap (nth os) = os.take m:=by
          intro os
          induction os with
          | nil=>intro m;simp [nth]
          | cons x r ih =>
            intro m
            cases m with
            | zero=>rfl
            | succ m =>
              rw [List.range_succ_eq_map,List.filterMap_cons];simp only [nth,List.filterMap_map,List.take_succ_cons,List.cons.injEq,true_and];exact ih m
        exact k2 os m
      rw [this];exact ho
    exact S.pk _ (hi:=List.nodup_range) (e:=e)
  exact ⟨h1.s.sub hL,h1.m.sub fun f hf=>List.mem_of_mem_take (hr ▸ hf)⟩
theorem rowSplit {os : List OF} {i : Nat} {f : OF} (h : nth os i = some f) : ow os = (ow os).take i ++ f.o :: (ow os).drop (i + 1):=by
  have h1:=ow_get h;obtain ⟨h2,h3⟩:=List.getElem?_eq_some_iff.1 h1;rw [← h3,List.getElem_cons_drop,List.take_append_drop]
theorem ow_setx {os : List OF} {i : Nat} {f g : OF} (h : nth os i = some f) : ow (os.set i g) = (ow os).take i ++ g.o :: (ow os).drop (i + 1):=by
  have h1:=ow_get h;obtain ⟨h2,h3⟩:=List.getElem?_eq_some_iff.1 h1;have h4 : ow (os.set i g) = (ow os).set i g.o:=by rw [ow_map,ow_map,List.map_set]
  rw [h4,List.set_eq_take_append_cons_drop,if_pos h2]
theorem Mm.sw (M : Mm F w0 m0 rs os w) (i : Nat) {f : OF} (hi : nth os i = some f) (f' : OF) (T : Tr (ow os) w (ow (os.set i f')) w') (g : Ch (In [f.o]) w w') (hf : f'.p F (In (ow (os.set i f'))) w') : Mm F w0 m0 rs (os.set i f') w':=by
  refine M.go T fun q hq=>?_;obtain ⟨j,hj⟩:=idx_of hq;rw [nth_get,List.getElem?_set] at hj
  split at hj
  · split at hj
    · cases hj;exact hf
    · cases hj
  · rename_i hne;rw [← nth_get] at hj;refine q.st T.mv (fun k hk ho=>g.block k hk fun hm=>?_) (M.o q (nth_mem hj));have:=M.sep hj [i] (by simp;omega) ho;simp only [picks,List.filterMap_cons,ow_get hi,List.filterMap_nil] at this;exact this hm
theorem St.fz {α : Type} {E : Enc α} {t : TypeId} {ad : Option Addr} {cap : Nat} {xs : List α} (S : St F w0 m0 n L rs os a w) (i : Nat) (hi : nth os i = some (rwO E t w0.heap.size ad cap xs)) (hn : 0 < E.n:=by first | decide | exact Nat.one_pos) : St F w0 m0 n L (rs ++ [wfF (slE E) ⟨ad,cap,xs⟩]) (os.set i noO) a w:=by
  have R:=S.row i hi;have hF:=R.notF S.m.f (Nat.le_refl _);have T : Tr (ow os) w (ow (os.set i noO)) w:=by
    have hM:=S.M;have e1:=rowSplit hi;have e2:=ow_setx (g:=noO) hi;rw [e2];rw [e1] at hM
    conv=>arg 1;rw [e1]
    exact Tr.swap hM (Ch.refl _) fun k hk=>hk.elim
  have hs : ∀ k,In (ow (os.set i noO)) k → In (ow os) k:=fun k hk=>(T.sub k hk).elim id fun e=>absurd (T.ms.lt k hk) (by omega);have hD : (slE E).wf (Fr F (ow (os.set i noO))) w.heap ⟨ad,cap,xs⟩:=by
    refine ⟨R.latD hn (fun k hk=>⟨fun hm=>?_,hF k hk⟩) fun x hx=>Enc.mono _ (fun k _ h=>⟨fun e=>h.1 (hs k e),h.2⟩) (R.wf x hx),R.cap_le⟩;rw [ow_setx hi] at hm;have hsep:=S.M.sep;rw [rowSplit hi] at hsep;refine Sep.mid (pre:=[]) hk hsep ?_
    rcases in_app.1 hm with q | q | q
    · exact in_app.2 (.inl q)
    · exact q.elim
    · exact in_app.2 (.inr q)
  exact St.ar ⟨S.s,S.m.sw i hi noO T (Ch.refl _) trivial⟩ _ hD
end
end Go.Proofs.Ytobggnpnochnnaa.V
/- Operations over the bundle: each takes one bundle to the next;regions,calls,loops,returns. -/
namespace Go.Proofs.Ytobggnpnochnnaa.V
open Go.RowKit
def Core (P : Program) (ops : Array Oper) (o : Oper) (a : Act) (w : World) (K : Act → World → Prop) (Q : Exit → Act → World → Prop) : Prop :=
  if Region.wanted o (yielded ops a.tmps) then o.wp P a w K Q ∨ (o.asks P a w ∧ LetsOut Q) else K (a.put o.dst undef) w
def One (P : Program) (ops : Array Oper) (X : Act → World → Prop) (c : List BS) (o : Oper) (Y : Act → World → Prop) : Prop :=
  ∀ (K : Act → World → Prop) (Q : Exit → Act → World → Prop) a w,X a w → (∀ a' w',Y a' w' → Ch (In c) w w' → K a' w') → Core P ops o a w K Q
def Steps (P : Program) (ops : Array Oper) (X : Act → World → Prop) (l : List Oper) (Y : Act → World → Prop) (l' : List Oper) : Prop :=
  ∀ (Q : Exit → Act → World → Prop) a w,X a w → (∀ a' w',Y a' w' → wpList P ops Q l' a' w') → wpList P ops Q l a w
section
variable {P : Program} {ops : Array Oper} {X Y Z : Act → World → Prop} {c : List BS} {o : Oper} {l l' : List Oper} {a : Act} {w : World} {Q : Exit → Act → World → Prop}
theorem tr (h : One P ops X c o Y) (k : Steps P ops Y l Z l') : Steps P ops X (o :: l) Z l':=fun Q a w hX hZ=>by
  unfold wpList;exact h _ Q a w hX fun a' w' hY _=>k Q a' w' hY hZ
theorem la (h : One P ops X c o Y) : Steps P ops X (o :: l) Y l:=fun Q a w hX hY=>by
  unfold wpList;exact h _ Q a w hX fun a' w' hy _=>hY a' w' hy
theorem rg {id : Nat} {l : List Oper} (S : X a w) (h : Steps P l.toArray X l Y []) (k : ∀ a w,Y a w → Q .normal a w) : (Code.region id l.toArray false).wp P Q a w :=
  wp_region_lit (h Q a w S fun a w hY=>wpList_nil (k a w hY))
theorem rs {id : Nat} {l : List Oper} {y : Code} (S : X a w) (h : Steps P l.toArray X l Y []) (k : ∀ a w,Y a w → y.wp P Q a w) : (Code.seq (.region id l.toArray false) y).wp P Q a w :=
  wp_seq (rg S h fun a w hY=>then_n (k a w hY))
theorem r0 {id : Nat} {l : List Oper} (h : wpList P l.toArray Q l a w) : (Code.region id l.toArray false).wp P Q a w:=wp_region_lit h
theorem rs0 {id : Nat} {l : List Oper} {y : Code} (h : wpList P l.toArray (Exit.then (y.wp P Q) Q) l a w) : (Code.seq (.region id l.toArray false) y).wp P Q a w:=wp_seq (wp_region_lit h)
theorem sp (S : X a w) (h : Steps P ops X l Y l') (k : ∀ a w,Y a w → wpList P ops Q l' a w) : wpList P ops Q l a w:=h Q a w S k
theorem en (S : X a w) (h : Steps P ops X l Y []) (k : ∀ a w,Y a w → Q .normal a w) : wpList P ops Q l a w:=h Q a w S k
theorem nn (k : Q .normal a w) : wpList P ops Q [] a w:=k
theorem ent {f : Act → World → Prop} (h : f a w) : wpList P ops (Exit.then f Q) [] a w:=wpList_nil (then_n h)
theorem ens {f : Act → World → Prop} (S : X a w) (h : Steps P ops X l Y []) (k : ∀ a w,Y a w → f a w) : wpList P ops (Exit.then f Q) l a w:=h _ a w S fun a w hY=>then_n (k a w hY)
end
section
variable {P : Program} {ops : Array Oper} {F : Nat → Prop} {w0 : World} {m0 : List BS} {n : Nat} {L L' : List (Nat × Value)} {fs : List RF} {os os' : List OF} {o : Oper} {ty : TypeId} {pos : String} {af : Array Edge} {Q : Exit → Act → World → Prop}
theorem ov {d : Nat} {v : Value} (h : ∀ {a w}, St F w0 m0 n L fs os a w → (execOp a.eval o).run P w = .ok (.value v) w) (hk : o.guard = none ∧ o.dst = some d ∧ d < n := by exact ⟨rfl, rfl, by decide⟩) :
    One P ops (St F w0 m0 n L fs os) [] o (St F w0 m0 n ((d,v) :: L) fs os):=fun K Q a w S k=>by
  unfold Core;rw [if_pos (by simp [Region.wanted,hk.1])];exact .inl (op_val (h S) (by rw [hk.2.1];exact k _ _ ⟨S.s.put hk.2.2,S.m⟩ (Ch.refl _)))
theorem og (gd : Nat) {b : Bool} {gv : Value} (hv : look gd L = some gv) {c : Prop} [Decidable c] (hc : c ↔ gv = .bool b) {e : Nat} {v : Value} (h : ∀ {a w}, St F w0 m0 n L fs os a w → c → (execOp a.eval o).run P w = .ok (.value v) w)
    (hk : ∃ j p,o.guard = some (j,b) ∧ ops[j]? = some p ∧ p.dst = some gd ∧ gd < n ∧ o.dst = some e ∧ e < n:=by exact ⟨_,_,rfl,rfl,rfl,by decide,rfl,by decide⟩) :
    One P ops (St F w0 m0 n L fs os) [] o (St F w0 m0 n ((e,if c then v else undef) :: L) fs os):=fun K Q a w S k=>by
  obtain ⟨j,p,h1,h2,h3,h4,h5,h6⟩:=hk;have hw:=(want_iff (a:=a) (o:=o) h1 h2 h3 (by rw [S.s.size];exact h4) (S.s.get gd _ hv)).trans hc.symm;unfold Core
  by_cases hcc : c
  · rw [if_pos (hw.2 hcc)];refine .inl (op_val (h S hcc) ?_);rw [h5];exact k _ _ ⟨by rw [if_pos hcc];exact S.s.put h6,S.m⟩ (Ch.refl _)
  · rw [if_neg (fun e=>hcc (hw.1 e)),h5];exact k _ _ ⟨by rw [if_neg hcc];exact S.s.put h6,S.m⟩ (Ch.refl _)
theorem gon (gd : Nat) {b : Bool} {d : Nat} {v : Value} (hv : look gd L = some (.bool b)) (h : ∀ {a w}, St F w0 m0 n L fs os a w → (execOp a.eval o).run P w = .ok (.value v) w)
    (hk : ∃ j p,o.guard = some (j,b) ∧ ops[j]? = some p ∧ p.dst = some gd ∧ gd < n ∧ o.dst = some d ∧ d < n:=by exact ⟨_,_,rfl,rfl,rfl,by decide,rfl,by decide⟩) :
    One P ops (St F w0 m0 n L fs os) [] o (St F w0 m0 n ((d,v) :: L) fs os):=fun K Q a w S k=>by
  obtain ⟨j,p,h1,h2,h3,h4,h5,h6⟩:=hk;have hw:=(want_iff (a:=a) (o:=o) h1 h2 h3 (by rw [S.s.size];exact h4) (S.s.get gd _ hv));unfold Core;rw [if_pos (hw.2 rfl)];refine .inl (op_val (h S) ?_);rw [h5];exact k _ _ ⟨S.s.put h6,S.m⟩ (Ch.refl _)
theorem goff (gd : Nat) {b c : Bool} {d : Nat} (hv : look gd L = some (.bool c))
    (hk : ∃ j p,o.guard = some (j,b) ∧ ops[j]? = some p ∧ p.dst = some gd ∧ gd < n ∧ o.dst = some d ∧ d < n:=by exact ⟨_,_,rfl,rfl,rfl,by decide,rfl,by decide⟩) (hbc : c ≠ b:=by decide) :
    One P ops (St F w0 m0 n L fs os) [] o (St F w0 m0 n ((d,undef) :: L) fs os):=fun K Q a w S k=>by
  obtain ⟨j,p,h1,h2,h3,h4,h5,h6⟩:=hk;have hw:=(want_iff (a:=a) (o:=o) h1 h2 h3 (by rw [S.s.size];exact h4) (S.s.get gd _ hv));unfold Core;rw [if_neg (fun e=>hbc (by have:=hw.1 e;injection this)),h5];exact k _ _ ⟨S.s.put h6,S.m⟩ (Ch.refl _)
theorem oc {d : Nat} {f : FuncId} {args : Array Operand} {ats : Array TypeId} {vs : Array Value} {v : Value} (h : ∀ {a w}, St F w0 m0 n L fs os a w → Calls P f vs w fun e w' => e = .returned v ∧ Tr [] w [] w') (hf : Callable P f) (hv : args.toList.map (evS L) = vs.toList.map some := by rfl) (hd : d < n := by decide) :
    One P ops (St F w0 m0 n L fs os) [] ⟨some d,.call ⟨.value (.func f),args,ats⟩,ty,pos,af,none⟩ (St F w0 m0 n ((d,v) :: L) fs os):=fun K Q a w S k=>by
  unfold Core;rw [if_pos (by simp [Region.wanted])];exact .inl (op_call (args_eval S.s hv) hf (h S) fun e w' ⟨he,t⟩=>⟨v,he,k _ _ (S.k0 (S.s.put hd) t) t.ch⟩)
def GA (c : Prop) (a : Act) : List Operand → List Value → Prop
  | [],[]=>True
  | x :: xs,v :: vs=>(c → a.eval x = v) ∧ GA c a xs vs
  | _,_=>False
theorem GA.get {c : Prop} {a : Act} {xs : Array Operand} {vs : Array Value} (h : GA c a xs.toList vs.toList) (hc : c) : xs.map a.eval = vs:=by
  apply Array.ext'
  rw [Array.toList_map];have : ∀ (l : List Operand) (u : List Value),GA c a l u → l.map a.eval = u:=by
    intro l
    induction l with
    | nil=>intro u hu;cases u with
      | nil=>rfl
      | cons _ _=>exact hu.elim
    | cons x l ih=>intro u hu;cases u with
      | nil=>exact hu.elim
      | cons v u=>rw [List.map_cons,hu.1 hc,ih u hu.2]
  exact this _ _ h
theorem ocg (gd : Nat) {j : Nat} {b : Bool} {gv : Value} (hv : look gd L = some gv) {c : Prop} [Decidable c] (hc : c ↔ gv = .bool b) {d : Nat} {f : FuncId} {args : Array Operand} {ats : Array TypeId} {vs : Array Value} {v : Value} (h : ∀ {a w}, St F w0 m0 n L fs os a w → c → Calls P f vs w fun e w' => e = .returned v ∧ Tr [] w [] w') (hf : Callable P f) (ha : ∀ {a w}, St F w0 m0 n L fs os a w → GA c a args.toList vs.toList)
    (hk : ∃ p,ops[j]? = some p ∧ p.dst = some gd ∧ gd < n ∧ d < n:=by exact ⟨_,rfl,rfl,by decide,by decide⟩) :
    One P ops (St F w0 m0 n L fs os) [] ⟨some d,.call ⟨.value (.func f),args,ats⟩,ty,pos,af,some (j,b)⟩ (St F w0 m0 n ((d,if c then v else undef) :: L) fs os):=fun K Q a w S k=>by
  obtain ⟨p,h2,h3,h4,h6⟩:=hk;have hw:=(want_iff (a:=a) (o:=⟨some d,.call ⟨.value (.func f),args,ats⟩,ty,pos,af,some (j,b)⟩) rfl h2 h3 (by rw [S.s.size];exact h4) (S.s.get gd _ hv)).trans hc.symm;unfold Core
  by_cases hcc : c
  · rw [if_pos (hw.2 hcc)];exact .inl (op_call (GA.get (ha S) hcc) hf (h S hcc) fun e w' ⟨he,t⟩=>⟨v,he,k _ _ (S.k0 (by rw [if_pos hcc];exact S.s.put h6) t) t.ch⟩)
  · rw [if_neg (fun e=>hcc (hw.1 e))];exact k _ _ ⟨by rw [if_neg hcc];exact S.s.put h6,S.m⟩ (Ch.refl _)
def szpos (P : Program) (t : TypeId) : Bool:=match P.info? t with
  | some i=>decide (0 < i.size)
  | none=>false
theorem szpos_ex {P : Program} {t : TypeId} (h : szpos P t = true) : ∃ q,(P.info? t).map (·.size) = some (q + 1):=by
  unfold szpos at h
  cases hi : P.info? t with
  | none=>rw [hi] at h;cases h
  | some i=>rw [hi] at h;exact ⟨i.size - 1,by simp at h ⊢;omega⟩
theorem xf {P : Program} {a : Act} {w : World} {d : Option Tmp} {ty : TypeId} {pos : String} {af : Array Edge} {g : Option (Nat × Bool)} {x : Operand} {s : TypeId} {fs : Array Field} {i b : Nat} {f : Field} (o fo : Nat) (hu : P.underlying s = some (.struct fs)) (hx : a.eval x = .pointer (some ⟨b, o, none⟩)) (hk : fs[i]? = some f ∧ f.offset = fo := by exact ⟨rfl, rfl⟩) (hz : szpos P f.type = true := by kernel_rfl) :
    (execOp a.eval ⟨d,.fieldAddr s x i,ty,pos,af,g⟩).run P w = .ok (.value (.pointer (some ⟨b,o + fo,none⟩))) w:=by
  obtain ⟨q,hq⟩:=szpos_ex hz;exact x_fld o fo hu hk.1 hk.2 hq hx
section
variable {d : Nat} {x y z : Operand} {xt yt : TypeId} {k : IntKind} {m p r : Int} {v : Value}
theorem mv (h : evS L x = some v) (hd : d < n:=by decide) : One P ops (St F w0 m0 n L fs os) [] ⟨some d,.move x,ty,pos,af,none⟩ (St F w0 m0 n ((d,v) :: L) fs os):=ov (fun S=>x_move (S.e h)) ⟨rfl,rfl,hd⟩
theorem av (h : evS L x = some v) (hd : d < n:=by decide) : One P ops (St F w0 m0 n L fs os) [] ⟨some d,.assign x,ty,pos,af,none⟩ (St F w0 m0 n ((d,v) :: L) fs os):=ov (fun S=>x_assign (S.e h)) ⟨rfl,rfl,hd⟩
theorem lssi (hx : evS L x = some (.int k m)) (hy : evS L y = some (.int k p)) (hd : d < n:=by decide) : One P ops (St F w0 m0 n L fs os) [] ⟨some d,.binOp .lss xt x y yt,ty,pos,af,none⟩ (St F w0 m0 n ((d,.bool (decide (m < p))) :: L) fs os):=ov (fun S=>x_lss (S.e hx) (S.e hy)) ⟨rfl,rfl,hd⟩
theorem leqi (hx : evS L x = some (.int k m)) (hy : evS L y = some (.int k p)) (hd : d < n:=by decide) : One P ops (St F w0 m0 n L fs os) [] ⟨some d,.binOp .leq xt x y yt,ty,pos,af,none⟩ (St F w0 m0 n ((d,.bool (decide (m ≤ p))) :: L) fs os):=ov (fun S=>x_leq (S.e hx) (S.e hy)) ⟨rfl,rfl,hd⟩
theorem gtri (hx : evS L x = some (.int k m)) (hy : evS L y = some (.int k p)) (hd : d < n:=by decide) : One P ops (St F w0 m0 n L fs os) [] ⟨some d,.binOp .gtr xt x y yt,ty,pos,af,none⟩ (St F w0 m0 n ((d,.bool (decide (p < m))) :: L) fs os):=ov (fun S=>x_gtr (S.e hx) (S.e hy)) ⟨rfl,rfl,hd⟩
theorem geqi (hx : evS L x = some (.int k m)) (hy : evS L y = some (.int k p)) (hd : d < n:=by decide) : One P ops (St F w0 m0 n L fs os) [] ⟨some d,.binOp .geq xt x y yt,ty,pos,af,none⟩ (St F w0 m0 n ((d,.bool (decide (p ≤ m))) :: L) fs os):=ov (fun S=>x_geq (S.e hx) (S.e hy)) ⟨rfl,rfl,hd⟩
theorem eqli (hx : evS L x = some (.int k m)) (hy : evS L y = some (.int k p)) (hd : d < n:=by decide) : One P ops (St F w0 m0 n L fs os) [] ⟨some d,.binOp .eql xt x y yt,ty,pos,af,none⟩ (St F w0 m0 n ((d,.bool (decide (m = p))) :: L) fs os):=ov (fun S=>x_eql (S.e hx) (S.e hy)) ⟨rfl,rfl,hd⟩
theorem neqi (hx : evS L x = some (.int k m)) (hy : evS L y = some (.int k p)) (hd : d < n:=by decide) : One P ops (St F w0 m0 n L fs os) [] ⟨some d,.binOp .neq xt x y yt,ty,pos,af,none⟩ (St F w0 m0 n ((d,.bool (decide (¬ m = p))) :: L) fs os):=ov (fun S=>x_neq (S.e hx) (S.e hy)) ⟨rfl,rfl,hd⟩
theorem addi (r : Int) (hx : evS L x = some (.int k m)) (hy : evS L y = some (.int k p)) (hr : k.wrap (m + p) = r) (hd : d < n:=by decide) : One P ops (St F w0 m0 n L fs os) [] ⟨some d,.binOp .add xt x y yt,ty,pos,af,none⟩ (St F w0 m0 n ((d,.int k r) :: L) fs os):=ov (fun S=>x_add (S.e hx) (S.e hy) hr) ⟨rfl,rfl,hd⟩
theorem subi (r : Int) (hx : evS L x = some (.int k m)) (hy : evS L y = some (.int k p)) (hr : k.wrap (m - p) = r) (hd : d < n:=by decide) : One P ops (St F w0 m0 n L fs os) [] ⟨some d,.binOp .sub xt x y yt,ty,pos,af,none⟩ (St F w0 m0 n ((d,.int k r) :: L) fs os):=ov (fun S=>x_sub (S.e hx) (S.e hy) hr) ⟨rfl,rfl,hd⟩
theorem noti {q : Prop} [Decidable q] (hx : evS L x = some (.bool (decide q))) (hd : d < n:=by decide) : One P ops (St F w0 m0 n L fs os) [] ⟨some d,.unOp .not xt x,ty,pos,af,none⟩ (St F w0 m0 n ((d,.bool (decide (¬ q))) :: L) fs os):=ov (fun S=>x_notp (S.e hx)) ⟨rfl,rfl,hd⟩
theorem andi {q u : Prop} {v : Value} [Decidable q] [Decidable u] (hc : evS L z = some (.bool (decide q))) (hx : evS L x = some (if q then .bool (decide u) else v)) (hy : evS L y = some (.bool false)) (hd : d < n:=by decide) : One P ops (St F w0 m0 n L fs os) [] ⟨some d,.pick z x y,ty,pos,af,none⟩ (St F w0 m0 n ((d,.bool (decide (q ∧ u))) :: L) fs os):=ov (fun S=>x_and (S.e hc) (fun h=>(S.e hx).trans (if_pos h)) (S.e hy)) ⟨rfl,rfl,hd⟩
theorem ori {q u : Prop} {v : Value} [Decidable q] [Decidable u] (hc : evS L z = some (.bool (decide q))) (hx : evS L x = some (.bool true)) (hy : evS L y = some (if ¬ q then .bool (decide u) else v)) (hd : d < n:=by decide) : One P ops (St F w0 m0 n L fs os) [] ⟨some d,.pick z x y,ty,pos,af,none⟩ (St F w0 m0 n ((d,.bool (decide (q ∨ u))) :: L) fs os):=ov (fun S=>x_or (S.e hc) (S.e hx) (fun h=>(S.e hy).trans (if_pos h))) ⟨rfl,rfl,hd⟩
theorem leni {t e : TypeId} {s : Option Addr} {q c : Nat} (ht : P.underlying t = some (.slice e)) (hx : evS L x = some (.slice s q c)) (hd : d < n:=by decide) : One P ops (St F w0 m0 n L fs os) [] ⟨some d,.call ⟨.builtin .len,#[x],#[t]⟩,ty,pos,af,none⟩ (St F w0 m0 n ((d,.int .i64 (q : Nat)) :: L) fs os):=ov (fun S=>x_len ht (S.e hx)) ⟨rfl,rfl,hd⟩
theorem exi {vs : Array Value} {i : Nat} (hx : evS L x = some (.tuple vs)) (hv : vs[i]? = some v) (hd : d < n:=by decide) : One P ops (St F w0 m0 n L fs os) [] ⟨some d,.extract x i,ty,pos,af,none⟩ (St F w0 m0 n ((d,v) :: L) fs os):=ov (fun S=>x_extract (S.e hx) hv) ⟨rfl,rfl,hd⟩
theorem idxi {t e : TypeId} {s : Option Addr} {q c sz : Nat} {kk : IntKind} {i : Int} (ht : P.underlying t = some (.slice e)) (hsz : (P.info? e).map (·.size) = some sz) (hx : evS L x = some (.slice s q c)) (hy : evS L y = some (.int kk i)) (j : Nat) (hj : i = (j : Int)) (hlt : j < q) (hs : s = some ⟨blk s, off s, none⟩) (hd : d < n := by decide) :
    One P ops (St F w0 m0 n L fs os) [] ⟨some d,.indexAddr t x y,ty,pos,af,none⟩ (St F w0 m0 n ((d,.pointer (some ⟨blk s,off s + j * sz,none⟩)) :: L) fs os):=ov (fun S=>x_idx ht hsz (S.e hx) (S.e hy) j hj hlt hs) ⟨rfl,rfl,hd⟩
theorem fldi {s : TypeId} {gs : Array Field} {i b : Nat} {f : Field} (of_ fo : Nat) (hx : evS L x = some (.pointer (some ⟨b, of_, none⟩))) (hu : P.underlying s = some (.struct gs)) (hk : gs[i]? = some f ∧ f.offset = fo := by exact ⟨rfl, rfl⟩) (hz : szpos P f.type = true := by kernel_rfl) (hd : d < n := by decide) :
    One P ops (St F w0 m0 n L fs os) [] ⟨some d,.fieldAddr s x i,ty,pos,af,none⟩ (St F w0 m0 n ((d,.pointer (some ⟨b,of_ + fo,none⟩)) :: L) fs os):=by
  obtain ⟨q,hq⟩:=szpos_ex hz;exact ov (fun S=>x_fld of_ fo hu hk.1 hk.2 hq (S.e hx)) ⟨rfl,rfl,hd⟩
theorem ldk {t e : TypeId} {b f : Nat} {cs : List Value} (i : Nat) (hs : Scalar P t) (hx : evS L x = some (.pointer (some ⟨b, f, none⟩))) (hb : nth os i = some (blO b cs e)) (hv : cs[f]? = some v) (hd : d < n := by decide) :
    One P ops (St F w0 m0 n L fs os) [] ⟨some d,.load t x,ty,pos,af,none⟩ (St F w0 m0 n ((d,v) :: L) fs os):=ov (fun S=>x_load hs (S.e hx) ((S.k i hb).cell hv)) ⟨rfl,rfl,hd⟩
theorem ldkw {t e : TypeId} {b : Nat} {cs : List Value} (i : Nat) (hx : evS L x = some (.pointer (some ⟨b, 0, none⟩))) (hb : nth os i = some (blO b cs e)) (hs : Wide P t cs.length) (hd : d < n := by decide) :
    One P ops (St F w0 m0 n L fs os) [] ⟨some d,.load t x,ty,pos,af,none⟩ (St F w0 m0 n ((d,.agg cs.toArray) :: L) fs os):=ov (fun S=>x_loadw cs hs (S.e hx) (fun j v hv=>by rw [Nat.zero_add];exact (S.k i hb).cell hv)) ⟨rfl,rfl,hd⟩
theorem stk {t e : TypeId} {b f : Nat} {cs : List Value} {u : Value} (i : Nat) (hx : evS L x = some (.pointer (some ⟨b, f, none⟩))) (hy : evS L y = some v) (hb : nth os i = some (blO b cs e)) (ho : cs[f]? = some u := by rfl) (h1 : v.oneCell' = true := by rfl) (hz : (P.info? t).map (·.size) = some 1 := by kernel_rfl) :
    One P ops (St F w0 m0 n L fs os) [one b] ⟨none,.store t x y,ty,pos,af,none⟩ (St F w0 m0 n L fs (os.set i (blO b (cs.set f v) e))):=fun K Q a w S k=>by
  have hB:=S.k i hb;unfold Core;rw [if_pos (by simp [Region.wanted])];exact .inl (op_skip (x_store hz (S.e hx) (S.e hy) h1 hB ho) (k _ _ (S.k1s i hb (blO b (cs.set f v) e) rfl S.s (ch_set w b f v) (hB.set v)) (ch_set w b f v)))
theorem stkw {t e : TypeId} {b : Nat} {cs vs : List Value} (i : Nat) (hx : evS L x = some (.pointer (some ⟨b, 0, none⟩))) (hy : evS L y = some (.agg vs.toArray)) (hb : nth os i = some (blO b cs e)) (hl : cs.length = vs.length := by rfl) (h1 : vs.all (·.oneCell') = true := by rfl) (hz : (P.info? t).map (·.size) = some vs.length := by kernel_rfl) :
    One P ops (St F w0 m0 n L fs os) [one b] ⟨none,.store t x y,ty,pos,af,none⟩ (St F w0 m0 n L fs (os.set i (blO b vs e))):=fun K Q a w S k=>by
  have hB:=S.k i hb;unfold Core;rw [if_pos (by simp [Region.wanted])];exact .inl (op_skip (x_storew hz (S.e hx) (S.e hy) h1 hB hl) (k _ _ (S.k1s i hb (blO b vs e) rfl S.s (setRow_ch w b _) (setRow_blk vs hB)) (setRow_ch w b _)))
theorem str {α : Type} {E : Enc α} {et : TypeId} {t : TypeId} {ad : Option Addr} {cap ob bs : Nat} {xs : List α} (i : Nat) (hz : (P.info? t).map (·.size) = some 1) (hx : evS L x = some (.pointer (some ⟨blk ad, ob, none⟩))) (hy : evS L y = some v) (hr : nth os i = some (rwO E et bs ad cap xs)) (m j : Nat) (hm : m < xs.length) (hj : j < E.n) (x' : α) (hw : ∀ {a w}, St F w0 m0 n L fs os a w → E.wf (Fr F (ow os)) w.heap x') (hc : E.cells x' = (E.cells (xs.getD m E.dflt)).set j v) (hob : ob = m * E.n + j) (h1 : v.oneCell' = true) :
    One P ops (St F w0 m0 n L fs os) [abk ad] ⟨none,.store t x y,ty,pos,af,none⟩ (St F w0 m0 n L fs (os.set i (rwO E et bs ad cap (xs.set m x')))):=fun K Q a w S k=>by
  have R:=S.row i hr;obtain ⟨h2,h3,cur,h4,h5⟩:=row_set R m j hm hj x' v hc (ow_mem (nth_mem hr)) (hw S) hob;unfold Core;rw [if_pos (by simp [Region.wanted])];refine .inl (op_skip ?_ (k _ _ (S.k1s i hr (rwO E et bs ad cap (xs.set m x')) rfl S.s h3 ⟨h2.own,h2.wf⟩) h3));have hcs : v.cells = #[v]:=by cases v <;> simp [Value.oneCell'] at h1 <;> rfl
  cases hi : P.info? t with
  | none=>simp [hi] at hz
  | some ie =>
    have h6 : ie.size = 1:=by simpa [hi] using hz
    simp [execOp,Instr.storeAt,S.e hx,S.e hy,Instr.sureAddr,storeVar,hcs,sizeOf,typeInfo,hi,h6,storeCells,addr_add,run_store_cell h1 h4 h5]
end
theorem Blk.all {h : Array Obj} {b : Nat} {cs : List Value} {e : TypeId} (k : Blk h b cs e) : ∀ j v,cs[j]? = some v → hcell h b (0 + j) = some v:=fun j v hv=>by rw [Nat.zero_add];exact k.cell hv
theorem BlkR.all {ms : List BS} {h : Array Obj} {b : Nat} {cs : List Value} {e : TypeId} (k : BlkR ms h b cs e) : ∀ j v,cs[j]? = some v → hcell h b (0 + j) = some v:=k.k.all
theorem x_ldw {P : Program} {a : Act} {w : World} {d : Option Tmp} {ty : TypeId} {pos : String} {af : Array Edge} {g : Option (Nat × Bool)} {x : Operand} {t : TypeId} {b o : Nat} {cs : List Value} (hx : a.eval x = .pointer (some ⟨b, o, none⟩)) (hc : ∀ j v, cs[j]? = some v → hcell w.heap b (o + j) = some v) (hs : Wide P t cs.length) :
    (execOp a.eval ⟨d,.load t x,ty,pos,af,g⟩).run P w = .ok (.value (.agg cs.toArray)) w:=x_loadw cs hs hx hc
theorem x_bs {a : Act} {w : World} {d : Option Tmp} {g : Option (Nat × Bool)} {t e : TypeId} {len : Nat} {parts : Array (Nat × Operand)} {cs : List Value} (S : St F w0 m0 n L fs os a w) (vs : List (Nat × Value)) {z : Value} {sz by_ : Nat} (ht : P.underlying t = some (.slice e)) (hi : (P.info? e).map (fun i => (i.zero, i.size, i.bytes)) = some (some z, sz, by_))
    (hv : parts.toList.map (fun p=>(p.1,evS L p.2)) = vs.map (fun p=>(p.1,some p.2)):=by rfl) (hsmall : ¬ len * sz > 2 ^ 24:=by decide) (hpos : ¬ len * sz = 0:=by decide) (hf : Instr.fill (fun i=>some (i * sz,sz)) ((Array.range (len * sz)).map (z.cells[· % z.cells.size]!)) vs = some cs.toArray:=by kernel_rfl) :
    (execOp a.eval ⟨d,.buildSlice t len parts,ty,pos,af,g⟩).run P w = .ok (.value (.slice (some ⟨w.heap.size,0,none⟩) len len)) (w.alloc (.cells cs.toArray e)):=by
  refine x_bsl vs cs ht hi hsmall hpos ?_ hf;have : ∀ (l : List (Nat × Operand)) (u : List (Nat × Value)),l.map (fun p=>(p.1,evS L p.2)) = u.map (fun p=>(p.1,some p.2)) → l.map (fun p=>(p.1,a.eval p.2)) = u:=by
    intro l
    induction l with
    | nil=>intro u hu;cases u <;> simp_all
    | cons x l ih =>
      intro u hu
      cases u with
      | nil=>simp at hu
      | cons v u =>
        obtain ⟨v1,v2⟩:=v;simp only [List.map_cons,List.cons.injEq,Prod.mk.injEq] at hu ⊢;exact ⟨⟨hu.1.1,S.s.eval hu.1.2⟩,ih u hu.2⟩
  exact this _ _ hv
theorem x_bd {a : Act} {w : World} {d : Option Tmp} {g : Option (Nat × Bool)} {t : TypeId} {parts : Array (Nat × Operand)} (S : St F w0 m0 n L fs os a w) (vs : List (Nat × Value)) (cs : List Value) (hv : parts.toList.map (fun p => (p.1, evS L p.2)) = vs.map (fun p => (p.1, some p.2)) := by rfl) (hb : P.built t vs = some cs.toArray := by kernel_rfl) :
    (execOp a.eval ⟨d,.build t parts,ty,pos,af,g⟩).run P w = .ok (.value (.agg cs.toArray)) w:=by
  refine x_build vs cs ?_ hb;have : ∀ (l : List (Nat × Operand)) (u : List (Nat × Value)),l.map (fun p=>(p.1,evS L p.2)) = u.map (fun p=>(p.1,some p.2)) → l.map (fun p=>(p.1,a.eval p.2)) = u:=by
    intro l
    induction l with
    | nil=>intro u hu;cases u <;> simp_all
    | cons x l ih =>
      intro u hu
      cases u with
      | nil=>simp at hu
      | cons v u =>
        obtain ⟨v1,v2⟩:=v;simp only [List.map_cons,List.cons.injEq,Prod.mk.injEq] at hu ⊢;exact ⟨⟨hu.1.1,S.s.eval hu.1.2⟩,ih u hu.2⟩
  exact this _ _ hv
section
variable {rest : List Oper} {a : Act} {w : World}
theorem nb {d : Nat} (mk : Nat → Value) {cs : List Value} {e : TypeId} (S : St F w0 m0 n L fs os a w) (h : (execOp a.eval o).run P w = .ok (.value (mk w.heap.size)) (w.alloc (.cells cs.toArray e)))
    (next : ∀ a' w' b,St F w0 m0 n ((d,mk b) :: L) fs (os ++ [blO b cs e]) a' w' → wpList P ops Q rest a' w') (hk : o.guard = none ∧ o.dst = some d ∧ d < n:=by exact ⟨rfl,rfl,by decide⟩) : wpList P ops Q (o :: rest) a w :=
  seq_val S.s hk.1 hk.2.1 hk.2.2 h fun a' S'=>next a' _ _ ⟨S',S.m.n1 (blO w.heap.size cs e) rfl (by simp) (fun k hk=>hk) (ch_alloc w _) (Blk.new w cs e)⟩
theorem nbp {d : Nat} {cs : List Value} {e : TypeId} (S : St F w0 m0 n L fs os a w) (h : (execOp a.eval o).run P w = .ok (.value (.pointer (some ⟨w.heap.size, 0, none⟩))) (w.alloc (.cells cs.toArray e)))
    (next : ∀ a' w' b,St F w0 m0 n ((d,.pointer (some ⟨b,0,none⟩)) :: L) fs (os ++ [blO b cs e]) a' w' → wpList P ops Q rest a' w') (hk : o.guard = none ∧ o.dst = some d ∧ d < n:=by exact ⟨rfl,rfl,by decide⟩) : wpList P ops Q (o :: rest) a w:=nb (fun b=>.pointer (some ⟨b,0,none⟩)) S h next hk
theorem nbs {α : Type} {d : Nat} {e : TypeId} {q : Nat} (E : Enc α) (S : St F w0 m0 n L fs os a w) (xs : List α) (h : (execOp a.eval o).run P w = .ok (.value (.slice (some ⟨w.heap.size, 0, none⟩) q q)) (w.alloc (.cells (xs.flatMap E.cells).toArray e)))
    (hw : ∀ x ∈ xs,E.wf (Fr F (ow os)) w.heap x) (next : ∀ a' w' b,St F w0 m0 n ((d,.slice (some ⟨b,0,none⟩) q q) :: L) (fs ++ [wfF (slE E) ⟨some ⟨b,0,none⟩,q,xs⟩]) os a' w' → wpList P ops Q rest a' w')
    (hq : xs.length = q ∧ q ≤ maxLen ∧ 0 < q:=by exact ⟨rfl,by decide,by decide⟩) (hk : o.guard = none ∧ o.dst = some d ∧ d < n:=by exact ⟨rfl,rfl,by decide⟩) : wpList P ops Q (o :: rest) a w :=
  seq_val S.s hk.1 hk.2.1 hk.2.2 h fun a' S'=>by
    have g:=ch_alloc w (.cells (xs.flatMap E.cells).toArray e);have M:=S.m.k0 g;refine next a' _ w.heap.size (St.ar ⟨S',M⟩ _ (sl_of_blk (Blk.new w (xs.flatMap E.cells) e) xs q hq.1 hq.2.1 hq.2.2 rfl (fr_fresh S.m.c S.m.f rfl) fun x hx=>E.mv (Tr.of_ch0 S.M g).mv (hw x hx)))
theorem nbr {α : Type} {d : Nat} {e : TypeId} {q : Nat} (E : Enc α) (S : St F w0 m0 n L fs os a w) (xs : List α) (h : (execOp a.eval o).run P w = .ok (.value (.slice (some ⟨w.heap.size, 0, none⟩) q q)) (w.alloc (.cells (xs.flatMap E.cells).toArray e)))
    (hw : ∀ x ∈ xs,E.wf (Fr F (ow os)) w.heap x) (next : ∀ a' w' b,St F w0 m0 n ((d,.slice (some ⟨b,0,none⟩) q q) :: L) fs (os ++ [rwO E e w0.heap.size (some ⟨b,0,none⟩) q xs]) a' w' → wpList P ops Q rest a' w')
    (hq : xs.length = q ∧ q ≤ maxLen:=by exact ⟨rfl,by decide⟩) (hk : o.guard = none ∧ o.dst = some d ∧ d < n:=by exact ⟨rfl,rfl,by decide⟩) : wpList P ops Q (o :: rest) a w :=
  seq_val S.s hk.1 hk.2.1 hk.2.2 h fun a' S'=>by
    obtain ⟨h1,h2⟩:=hq
    generalize hcs : xs.flatMap E.cells = cs
    have g:=ch_alloc w (.cells cs.toArray e);have S2:=next a' (w.alloc (.cells cs.toArray e)) w.heap.size
    refine S2 ⟨S',S.m.n1 (rwO E e w0.heap.size (some ⟨w.heap.size,0,none⟩) q xs) (b:=w.heap.size) rfl (by simp) (fun k hk=>by rw [show (rwO E e w0.heap.size (some ⟨w.heap.size,0,none⟩) q xs).o = one w.heap.size from abk_one _] at hk;exact hk) g ?_⟩;have T : Tr (ow os) w (ow os ++ [(rwO E e w0.heap.size (some ⟨w.heap.size,0,none⟩) q xs).o]) (w.alloc (.cells cs.toArray e)):=by
      have:=(Tr.freshRow S.M rfl (by simp) g);exact Tr.comm (x:=[_]) this
    have hwf : ∀ x ∈ xs,E.wf (Fr F (ow os ++ [(rwO E e w0.heap.size (some ⟨w.heap.size,0,none⟩) q xs).o])) (w.alloc (.cells cs.toArray e)).heap x:=fun x hx=>E.mv T.mv (hw x hx);refine ⟨⟨flat_len E.len xs,.inr ⟨w.heap.size,q,cs.toArray,by rw [h1],S.m.c.size,Blk.new w cs e,by omega,h2,?_,?_⟩⟩,hwf⟩
    · rw [← hcs,List.size_toArray,flat_len E.len,h1]
    · rw [← flat_len E.len xs,hcs,List.take_length]
theorem cl {d : Nat} {f : FuncId} {args : Array Operand} {ats : Array TypeId} {vs : Array Value} {R : Ending → World → Prop} (S : St F w0 m0 n L fs os a w) (hc : Calls P f vs w R) (hf : Callable P f)
    (hR : ∀ e w',R e w' → ∃ v,e = .returned v ∧ ∀ a',Slots n ((d,v) :: L) a' → wpList P ops Q rest a' w') (hv : args.toList.map (evS L) = vs.toList.map some:=by rfl) (hd : d < n:=by decide) : wpList P ops Q (⟨some d,.call ⟨.value (.func f),args,ats⟩,ty,pos,af,none⟩ :: rest) a w:=seq_call S.s hd hv hf hc hR
theorem ap {α : Type} {E : Enc α} {d : Nat} {t ts : TypeId} {ad sa : Option Addr} {cap sc bs : Nat} {xs ys : List α} {D : Nat → Prop} {z : Value} {bytes : Nat} {s x : Operand} (S : St F w0 m0 n L fs os a w) (i : Nat) (hi : nth os i = some (rwO E t bs ad cap xs)) (ht : P.underlying ts = some (.slice t)) (hz : (P.info? t).map (fun i => (i.zero, i.size, i.bytes)) = some (some z, E.n, bytes))
    (hs : evS L s = some (.slice ad xs.length cap)) (hx : evS L x = some (.slice sa ys.length sc)) (hsrc : LAt E D w.heap sa ys) (hsc : sa = none → sc = 0) (hyw : ∀ y ∈ ys,E.wf (Fr F (ow os)) w.heap y) (h63 : xs.length + ys.length ≤ maxLen ∧ (xs.length + ys.length) * bytes ≤ 140737488355328)
    (next : ∀ a' w' ad' cap',St F w0 m0 n ((d,.slice ad' (xs ++ ys).length cap') :: L) fs (os.set i (rwO E t bs ad' cap' (xs ++ ys))) a' w' → wpList P ops Q rest a' w') (hzz : z.cells.size = E.n ∧ 0 < E.n:=by exact ⟨rfl,by decide⟩) (hd : d < n:=by decide) (hbs : bs ≤ w0.heap.size:=by first | exact Nat.le_refl _ | exact Nat.zero_le _ | assumption) :
    wpList P ops Q (⟨some d,.call ⟨.builtin .append,#[s,x],#[ts,ts]⟩,ty,pos,af,none⟩ :: rest) a w:=by
  refine seq_op rfl (op_append (E:=E) ((ow os).take i) ((ow os).drop (i + 1)) s x ts rfl z bytes ht hz hzz.1 hzz.2 (rowSplit hi) S.M (S.e hs) (S.row i hi) ys sa sc (S.e hx) hsrc hsc hyw h63.1 h63.2 (Nat.le_trans hbs S.m.c.size) fun ad' cap' w' R T g=>?_);have e1:=rowSplit hi;have e2:=ow_setx (g:=rwO E t bs ad' cap' (xs ++ ys)) hi;have T' : Tr (ow os) w (ow (os.set i (rwO E t bs ad' cap' (xs ++ ys)))) w':=by
    rw [e2]
    conv=>arg 1;rw [e1]
    exact T
  exact next _ _ ad' cap' ⟨S.s.put hd,S.m.sw i hi _ T' g (by rw [e2];exact ⟨R.own,R.wf⟩)⟩
theorem mk {α : Type} {E : Enc α} {d : Nat} {t e : TypeId} {l c : Operand} {z : Value} {bytes : Nat} {kl kc : IntKind} {A B : Int} (S : St F w0 m0 n L fs os a w) (x0 : α) (q : Nat) (ht : P.underlying t = some (.slice e)) (hi : (P.info? e).map (fun i => (i.zero, i.size, i.bytes)) = some (some z, E.n, bytes))
    (hl : evS L l = some (.int kl A)) (hc : evS L c = some (.int kc B)) (hA : A = (q : Int)) (hB : B = (q : Int)) (hb : bytes * q ≤ 281474976710656) (hm : q ≤ maxLen) (hw : ∀ D h,E.wf D h x0)
    (next : ∀ a' w' ad,St F w0 m0 n ((d,.slice ad (List.replicate q x0).length q) :: L) fs (os ++ [rwO E e w0.heap.size ad q (List.replicate q x0)]) a' w' → wpList P ops Q rest a' w') (hzz : E.n = 1 ∧ E.cells x0 = [z] ∧ z.cells = #[z]:=by exact ⟨rfl,rfl,rfl⟩) (hd : d < n:=by decide) :
    wpList P ops Q (⟨some d,.makeSlice t l c,ty,pos,af,none⟩ :: rest) a w:=by
  refine seq_op rfl (op_make (E:=E) (F:=F) (w0:=w0) l c rfl z bytes ht hi hzz.1 x0 hzz.2.1 hzz.2.2 q (S.e hl) (S.e hc) hA hB hb hm S.M (fun h=>hw _ h) S.m.c.size fun ad w' R T g=>?_);refine next _ _ ad ⟨by have:=S.s.put (v:=.slice ad q q) hd;rwa [List.length_replicate],S.m.nu [rwO E e w0.heap.size ad q (List.replicate q x0)] T g fun f hf=>?_⟩
  simp only [List.mem_singleton] at hf;subst hf;exact ⟨R.own,fun x hx=>Enc.mono _ (fun k _ hk=>⟨fun e=>hk.1 ((in_app.1 e).elim .inr fun e=>.inl (In.one.1 e)),hk.2⟩) (R.wf x hx)⟩
end
theorem Tests.tr {α : Type} {P : Program} {E : Enc α} {w w' : World} {f : FuncId} {caps : Array Value} {xs : List α} {p : α → Prop} [DecidablePred p] (T : Tests P E w f caps xs p) (t : Tr [] w [] w') : Tests P E w' f caps xs p:=⟨T.1,fun w2 t2=>T.2 w2 (t.trans t2)⟩
theorem St.nr {α : Type} {a : Act} {w : World} (S : St F w0 m0 n L fs os a w) (E : Enc α) (t : TypeId) : St F w0 m0 n L fs (os ++ [rwO E t w0.heap.size none 0 []]) a w :=
  ⟨S.s,S.m.nu [rwO E t w0.heap.size none 0 []] ((Tr.refl S.M).cons (b:=abk none) fun k e=>absurd e abk_none) (Ch.refl _) fun f hf=>by
    simp only [List.mem_singleton] at hf;subst hf
    exact ⟨⟨by simp,.inl ⟨rfl,rfl⟩⟩,fun x h=>by simp at h⟩⟩
theorem St.kt {t : TypeId} {T : Nat} {tl : Sl Int} {a a' : Act} {w w' : World} (S : St F w0 m0 n L fs os a w) (s : Slots n L' a') (T0 : Tr [] w [one T] w') (K : TpB t T tl w') : St F w0 m0 n L' fs (os ++ [tpO t T tl]) a' w' :=
  ⟨s,S.m.nu [tpO t T tl] (Tr.frame (m0:=[]) (nw:=[one T]) S.M T0 fun _ h=>by simp at h) T0.ch fun f hf=>by simp only [List.mem_singleton] at hf;subst hf;exact K⟩
theorem St.rt {a : Act} {w : World} (S : St F w0 m0 n L fs os a w) (k : Nat) : St F w0 m0 n L (fs.take k) os a w:=⟨S.s,S.m.sub fun _ h=>List.mem_of_mem_take h⟩
theorem subM {L L' : List (Nat × Value)} (h : L'.map (fun p=>look p.1 L) = L'.map (fun p=>some p.2)) : Sub L L':=by
  induction L' with
  | nil=>trivial
  | cons p r ih=>obtain ⟨i,v⟩:=p;simp only [List.map_cons,List.cons.injEq] at h;exact ⟨h.1,ih h.2⟩
def RAll (F W : Nat → Prop) (h : Array Obj) : List RF → Prop
  | []=>True
  | f :: r=>f.p F W h ∧ RAll F W h r
def OAll (F W : Nat → Prop) (w : World) : List OF → Prop
  | []=>True
  | f :: r=>f.p F W w ∧ OAll F W w r
theorem RAll.get {F W : Nat → Prop} {h : Array Obj} : ∀ {l : List RF}, RAll F W h l → ∀ f ∈ l, f.p F W h
  | _ :: _,k,f,hf=>(List.mem_cons.1 hf).elim (fun e=>e ▸ k.1) fun hf=>k.2.get f hf
theorem OAll.get {F W : Nat → Prop} {h : World} : ∀ {l : List OF}, OAll F W h l → ∀ f ∈ l, f.p F W h
  | _ :: _,k,f,hf=>(List.mem_cons.1 hf).elim (fun e=>e ▸ k.1) fun hf=>k.2.get f hf
theorem go {f : FuncId} {fn : Func} {c : Code} {args : Array Value} {R : Ending → World → Prop} (hf : P.funcs[f]? = some fn) (hb : fn.body = some c) (n : Nat) (hn : fn.ntmps = n) (fs : List RF) (os : List OF) (hF : Old F w0) (M : MS (ow os) w0) (hr : RAll F (In (ow os)) w0.heap fs) (ho : OAll F (In (ow os)) w0 os)
    (h : ∀ a,St F w0 (ow os) n (zipL 0 args.toList) fs os a w0 → c.wp P (bodyPost P fn R) a w0) (hsz : args.size ≤ n:=by exact Nat.le_of_ble_eq_true rfl) : Calls P f args w0 R :=
  enter hf hb n hn hsz fun a S=>h a ⟨S,Tr.refl M,hF,hr.get,ho.get⟩
section
variable {a : Act} {w : World}
theorem cd {c : Operand} {x y : Code} {p : Prop} [Decidable p] (S : St F w0 m0 n L fs os a w) (hc : evS L c = some (.bool (decide p))) (ht : p → x.wp P Q a w) (hf : ¬ p → y.wp P Q a w) : (Code.cond c x y).wp P Q a w:=cond_dec S.s hc ht hf
theorem cdt {c : Operand} {x y : Code} (S : St F w0 m0 n L fs os a w) (hc : evS L c = some (.bool true)) (h : x.wp P Q a w) : (Code.cond c x y).wp P Q a w:=cond_t S.s hc h
theorem cdf {c : Operand} {x y : Code} (S : St F w0 m0 n L fs os a w) (hc : evS L c = some (.bool false)) (h : y.wp P Q a w) : (Code.cond c x y).wp P Q a w:=cond_f S.s hc h
theorem St.l (S : St F w0 m0 n L fs os a w) (L' : List (Nat × Value)) (h : Sub L L') : St F w0 m0 n L' fs os a w:=⟨S.s.sub h,S.m⟩
theorem St.ext (S : St F w0 m0 n L fs os a w) {d : Nat} {v : Value} (h : a.tmps.getD d undef = v) : St F w0 m0 n ((d,v) :: L) fs os a w:=⟨S.s.ext h,S.m⟩
theorem St.get (S : St F w0 m0 n L fs os a w) (d : Nat) {v : Value} (h : look d L = some v) : a.tmps.getD d undef = v:=S.s.get d v h
theorem St.c1 {d : Nat} {v v' : Value} (S : St F w0 m0 n ((d,v) :: L) fs os a w) (h : v = v') : St F w0 m0 n ((d,v') :: L) fs os a w:=h ▸ S
end
theorem lp1 {α : Type} {c : Code} {a : Act} {w : World} (L' : α → List (Nat × Value)) (os' : α → List OF) (R : α → Prop) (μ : α → Nat) (S : St F w0 m0 n L fs os a w) (x0 : α) (hL : Sub L (L' x0)) (ho : os' x0 = os) (h0 : R x0)
    (round : ∀ (x0 : α) a w,St F w0 m0 n (L' x0) fs (os' x0) a w → R x0 → c.wp P (Exit.then (fun a' w'=>∃ (y0 : α),St F w0 m0 n (L' y0) fs (os' y0) a' w' ∧ R y0 ∧ μ y0 < μ x0) Q) a w) : (Code.loop c).wp P Q a w:=by
  refine wp_loop_ghost (fun m a w=>∃ (y0 : α),St F w0 m0 n (L' y0) fs (os' y0) a w ∧ R y0 ∧ μ y0 = m) (μ x0) ⟨x0,⟨S.s.sub hL,by rw [ho];exact S.m⟩,h0,rfl⟩ fun m a w ⟨y0,S,hR,hm⟩=>?_;subst hm;refine wp_mono (round y0 a w S hR) fun e a' w' hq=>?_
  cases e with
  | normal=>obtain ⟨x0,h1,h2,h3⟩:=hq;exact ⟨_,h3,x0,h1,h2,rfl⟩
  | exit id=>exact hq
  | goto l=>exact hq
  | ret=>exact hq
  | panic ch=>exact hq
  | outgrown=>exact hq
theorem lp2 {α : Type} {β : Type} {c : Code} {a : Act} {w : World} (L' : α → β → List (Nat × Value)) (os' : α → β → List OF) (R : α → β → Prop) (μ : α → β → Nat) (S : St F w0 m0 n L fs os a w) (x0 : α) (x1 : β) (hL : Sub L (L' x0 x1)) (ho : os' x0 x1 = os) (h0 : R x0 x1)
    (round : ∀ (x0 : α) (x1 : β) a w,St F w0 m0 n (L' x0 x1) fs (os' x0 x1) a w → R x0 x1 → c.wp P (Exit.then (fun a' w'=>∃ (y0 : α) (y1 : β),St F w0 m0 n (L' y0 y1) fs (os' y0 y1) a' w' ∧ R y0 y1 ∧ μ y0 y1 < μ x0 x1) Q) a w) : (Code.loop c).wp P Q a w:=by
  refine wp_loop_ghost (fun m a w=>∃ (y0 : α) (y1 : β),St F w0 m0 n (L' y0 y1) fs (os' y0 y1) a w ∧ R y0 y1 ∧ μ y0 y1 = m) (μ x0 x1) ⟨x0,x1,⟨S.s.sub hL,by rw [ho];exact S.m⟩,h0,rfl⟩ fun m a w ⟨y0,y1,S,hR,hm⟩=>?_;subst hm;refine wp_mono (round y0 y1 a w S hR) fun e a' w' hq=>?_
  cases e with
  | normal=>obtain ⟨x0,x1,h1,h2,h3⟩:=hq;exact ⟨_,h3,x0,x1,h1,h2,rfl⟩
  | exit id=>exact hq
  | goto l=>exact hq
  | ret=>exact hq
  | panic ch=>exact hq
  | outgrown=>exact hq
theorem lq2 {α : Type} {β : Type} {c : Code} {a : Act} {w : World} (L' : α → β → List (Nat × Value)) (fs' : α → β → List RF) (os' : α → β → List OF) (R : α → β → Prop) (μ : α → β → Nat) (S : St F w0 m0 n L fs os a w) (x0 : α) (x1 : β) (hL : Sub L (L' x0 x1)) (hf : fs' x0 x1 = fs) (ho : os' x0 x1 = os) (h0 : R x0 x1)
    (round : ∀ (x0 : α) (x1 : β) a w,St F w0 m0 n (L' x0 x1) (fs' x0 x1) (os' x0 x1) a w → R x0 x1 → c.wp P (Exit.then (fun a' w'=>∃ (y0 : α) (y1 : β),St F w0 m0 n (L' y0 y1) (fs' y0 y1) (os' y0 y1) a' w' ∧ R y0 y1 ∧ μ y0 y1 < μ x0 x1) Q) a w) : (Code.loop c).wp P Q a w:=by
  refine wp_loop_ghost (fun m a w=>∃ (y0 : α) (y1 : β),St F w0 m0 n (L' y0 y1) (fs' y0 y1) (os' y0 y1) a w ∧ R y0 y1 ∧ μ y0 y1 = m) (μ x0 x1) ⟨x0,x1,⟨S.s.sub hL,by rw [ho,hf];exact S.m⟩,h0,rfl⟩ fun m a w ⟨y0,y1,S,hR,hm⟩=>?_;subst hm;refine wp_mono (round y0 y1 a w S hR) fun e a' w' hq=>?_
  cases e with
  | normal=>obtain ⟨x0,x1,h1,h2,h3⟩:=hq;exact ⟨_,h3,x0,x1,h1,h2,rfl⟩
  | exit id=>exact hq
  | goto l=>exact hq
  | ret=>exact hq
  | panic ch=>exact hq
  | outgrown=>exact hq
theorem lp4 {α : Type} {β : Type} {γ : Type} {δ : Type} {c : Code} {a : Act} {w : World} (L' : α → β → γ → δ → List (Nat × Value)) (os' : α → β → γ → δ → List OF) (R : α → β → γ → δ → Prop) (μ : α → β → γ → δ → Nat) (S : St F w0 m0 n L fs os a w) (x0 : α) (x1 : β) (x2 : γ) (x3 : δ) (hL : Sub L (L' x0 x1 x2 x3)) (ho : os' x0 x1 x2 x3 = os) (h0 : R x0 x1 x2 x3)
    (round : ∀ (x0 : α) (x1 : β) (x2 : γ) (x3 : δ) a w,St F w0 m0 n (L' x0 x1 x2 x3) fs (os' x0 x1 x2 x3) a w → R x0 x1 x2 x3 → c.wp P (Exit.then (fun a' w'=>∃ (y0 : α) (y1 : β) (y2 : γ) (y3 : δ),St F w0 m0 n (L' y0 y1 y2 y3) fs (os' y0 y1 y2 y3) a' w' ∧ R y0 y1 y2 y3 ∧ μ y0 y1 y2 y3 < μ x0 x1 x2 x3) Q) a w) : (Code.loop c).wp P Q a w:=by
  refine wp_loop_ghost (fun m a w=>∃ (y0 : α) (y1 : β) (y2 : γ) (y3 : δ),St F w0 m0 n (L' y0 y1 y2 y3) fs (os' y0 y1 y2 y3) a w ∧ R y0 y1 y2 y3 ∧ μ y0 y1 y2 y3 = m) (μ x0 x1 x2 x3) ⟨x0,x1,x2,x3,⟨S.s.sub hL,by rw [ho];exact S.m⟩,h0,rfl⟩ fun m a w ⟨y0,y1,y2,y3,S,hR,hm⟩=>?_;subst hm;refine wp_mono (round y0 y1 y2 y3 a w S hR) fun e a' w' hq=>?_
  cases e with
  | normal=>obtain ⟨x0,x1,x2,x3,h1,h2,h3⟩:=hq;exact ⟨_,h3,x0,x1,x2,x3,h1,h2,rfl⟩
  | exit id=>exact hq
  | goto l=>exact hq
  | ret=>exact hq
  | panic ch=>exact hq
  | outgrown=>exact hq
theorem lp5 {α : Type} {β : Type} {γ : Type} {δ : Type} {ε : Type} {c : Code} {a : Act} {w : World} (L' : α → β → γ → δ → ε → List (Nat × Value)) (os' : α → β → γ → δ → ε → List OF) (R : α → β → γ → δ → ε → Prop) (μ : α → β → γ → δ → ε → Nat) (S : St F w0 m0 n L fs os a w) (x0 : α) (x1 : β) (x2 : γ) (x3 : δ) (x4 : ε) (hL : Sub L (L' x0 x1 x2 x3 x4)) (ho : os' x0 x1 x2 x3 x4 = os) (h0 : R x0 x1 x2 x3 x4)
    (round : ∀ (x0 : α) (x1 : β) (x2 : γ) (x3 : δ) (x4 : ε) a w,St F w0 m0 n (L' x0 x1 x2 x3 x4) fs (os' x0 x1 x2 x3 x4) a w → R x0 x1 x2 x3 x4 → c.wp P (Exit.then (fun a' w'=>∃ (y0 : α) (y1 : β) (y2 : γ) (y3 : δ) (y4 : ε),St F w0 m0 n (L' y0 y1 y2 y3 y4) fs (os' y0 y1 y2 y3 y4) a' w' ∧ R y0 y1 y2 y3 y4 ∧ μ y0 y1 y2 y3 y4 < μ x0 x1 x2 x3 x4) Q) a w) : (Code.loop c).wp P Q a w:=by
  refine wp_loop_ghost (fun m a w=>∃ (y0 : α) (y1 : β) (y2 : γ) (y3 : δ) (y4 : ε),St F w0 m0 n (L' y0 y1 y2 y3 y4) fs (os' y0 y1 y2 y3 y4) a w ∧ R y0 y1 y2 y3 y4 ∧ μ y0 y1 y2 y3 y4 = m) (μ x0 x1 x2 x3 x4) ⟨x0,x1,x2,x3,x4,⟨S.s.sub hL,by rw [ho];exact S.m⟩,h0,rfl⟩ fun m a w ⟨y0,y1,y2,y3,y4,S,hR,hm⟩=>?_;subst hm;refine wp_mono (round y0 y1 y2 y3 y4 a w S hR) fun e a' w' hq=>?_
  cases e with
  | normal=>obtain ⟨x0,x1,x2,x3,x4,h1,h2,h3⟩:=hq;exact ⟨_,h3,x0,x1,x2,x3,x4,h1,h2,rfl⟩
  | exit id=>exact hq
  | goto l=>exact hq
  | ret=>exact hq
  | panic ch=>exact hq
  | outgrown=>exact hq
theorem lq5 {α : Type} {β : Type} {γ : Type} {δ : Type} {ε : Type} {c : Code} {a : Act} {w : World} (L' : α → β → γ → δ → ε → List (Nat × Value)) (fs' : α → β → γ → δ → ε → List RF) (os' : α → β → γ → δ → ε → List OF) (R : α → β → γ → δ → ε → Prop) (μ : α → β → γ → δ → ε → Nat) (S : St F w0 m0 n L fs os a w) (x0 : α) (x1 : β) (x2 : γ) (x3 : δ) (x4 : ε) (hL : Sub L (L' x0 x1 x2 x3 x4)) (hf : fs' x0 x1 x2 x3 x4 = fs) (ho : os' x0 x1 x2 x3 x4 = os) (h0 : R x0 x1 x2 x3 x4)
    (round : ∀ (x0 : α) (x1 : β) (x2 : γ) (x3 : δ) (x4 : ε) a w,St F w0 m0 n (L' x0 x1 x2 x3 x4) (fs' x0 x1 x2 x3 x4) (os' x0 x1 x2 x3 x4) a w → R x0 x1 x2 x3 x4 → c.wp P (Exit.then (fun a' w'=>∃ (y0 : α) (y1 : β) (y2 : γ) (y3 : δ) (y4 : ε),St F w0 m0 n (L' y0 y1 y2 y3 y4) (fs' y0 y1 y2 y3 y4) (os' y0 y1 y2 y3 y4) a' w' ∧ R y0 y1 y2 y3 y4 ∧ μ y0 y1 y2 y3 y4 < μ x0 x1 x2 x3 x4) Q) a w) : (Code.loop c).wp P Q a w:=by
  refine wp_loop_ghost (fun m a w=>∃ (y0 : α) (y1 : β) (y2 : γ) (y3 : δ) (y4 : ε),St F w0 m0 n (L' y0 y1 y2 y3 y4) (fs' y0 y1 y2 y3 y4) (os' y0 y1 y2 y3 y4) a w ∧ R y0 y1 y2 y3 y4 ∧ μ y0 y1 y2 y3 y4 = m) (μ x0 x1 x2 x3 x4) ⟨x0,x1,x2,x3,x4,⟨S.s.sub hL,by rw [ho,hf];exact S.m⟩,h0,rfl⟩ fun m a w ⟨y0,y1,y2,y3,y4,S,hR,hm⟩=>?_;subst hm;refine wp_mono (round y0 y1 y2 y3 y4 a w S hR) fun e a' w' hq=>?_
  cases e with
  | normal=>obtain ⟨x0,x1,x2,x3,x4,h1,h2,h3⟩:=hq;exact ⟨_,h3,x0,x1,x2,x3,x4,h1,h2,rfl⟩
  | exit id=>exact hq
  | goto l=>exact hq
  | ret=>exact hq
  | panic ch=>exact hq
  | outgrown=>exact hq
theorem lp7 {α : Type} {β : Type} {γ : Type} {δ : Type} {ε : Type} {ζ : Type} {η : Type} {c : Code} {a : Act} {w : World} (L' : α → β → γ → δ → ε → ζ → η → List (Nat × Value)) (os' : α → β → γ → δ → ε → ζ → η → List OF) (R : α → β → γ → δ → ε → ζ → η → Prop) (μ : α → β → γ → δ → ε → ζ → η → Nat) (S : St F w0 m0 n L fs os a w) (x0 : α) (x1 : β) (x2 : γ) (x3 : δ) (x4 : ε) (x5 : ζ) (x6 : η) (hL : Sub L (L' x0 x1 x2 x3 x4 x5 x6)) (ho : os' x0 x1 x2 x3 x4 x5 x6 = os) (h0 : R x0 x1 x2 x3 x4 x5 x6)
    (round : ∀ (x0 : α) (x1 : β) (x2 : γ) (x3 : δ) (x4 : ε) (x5 : ζ) (x6 : η) a w,St F w0 m0 n (L' x0 x1 x2 x3 x4 x5 x6) fs (os' x0 x1 x2 x3 x4 x5 x6) a w → R x0 x1 x2 x3 x4 x5 x6 → c.wp P (Exit.then (fun a' w'=>∃ (y0 : α) (y1 : β) (y2 : γ) (y3 : δ) (y4 : ε) (y5 : ζ) (y6 : η),St F w0 m0 n (L' y0 y1 y2 y3 y4 y5 y6) fs (os' y0 y1 y2 y3 y4 y5 y6) a' w' ∧ R y0 y1 y2 y3 y4 y5 y6 ∧ μ y0 y1 y2 y3 y4 y5 y6 < μ x0 x1 x2 x3 x4 x5 x6) Q) a w) : (Code.loop c).wp P Q a w:=by
  refine wp_loop_ghost (fun m a w=>∃ (y0 : α) (y1 : β) (y2 : γ) (y3 : δ) (y4 : ε) (y5 : ζ) (y6 : η),St F w0 m0 n (L' y0 y1 y2 y3 y4 y5 y6) fs (os' y0 y1 y2 y3 y4 y5 y6) a w ∧ R y0 y1 y2 y3 y4 y5 y6 ∧ μ y0 y1 y2 y3 y4 y5 y6 = m) (μ x0 x1 x2 x3 x4 x5 x6) ⟨x0,x1,x2,x3,x4,x5,x6,⟨S.s.sub hL,by rw [ho];exact S.m⟩,h0,rfl⟩ fun m a w ⟨y0,y1,y2,y3,y4,y5,y6,S,hR,hm⟩=>?_;subst hm;refine wp_mono (round y0 y1 y2 y3 y4 y5 y6 a w S hR) fun e a' w' hq=>?_
  cases e with
  | normal=>obtain ⟨x0,x1,x2,x3,x4,x5,x6,h1,h2,h3⟩:=hq;exact ⟨_,h3,x0,x1,x2,x3,x4,x5,x6,h1,h2,rfl⟩
  | exit id=>exact hq
  | goto l=>exact hq
  | ret=>exact hq
  | panic ch=>exact hq
  | outgrown=>exact hq
theorem lp8 {α : Type} {β : Type} {γ : Type} {δ : Type} {ε : Type} {ζ : Type} {η : Type} {θ : Type} {c : Code} {a : Act} {w : World} (L' : α → β → γ → δ → ε → ζ → η → θ → List (Nat × Value)) (os' : α → β → γ → δ → ε → ζ → η → θ → List OF) (R : α → β → γ → δ → ε → ζ → η → θ → Prop) (μ : α → β → γ → δ → ε → ζ → η → θ → Nat) (S : St F w0 m0 n L fs os a w) (x0 : α) (x1 : β) (x2 : γ) (x3 : δ) (x4 : ε) (x5 : ζ) (x6 : η) (x7 : θ) (hL : Sub L (L' x0 x1 x2 x3 x4 x5 x6 x7)) (ho : os' x0 x1 x2 x3 x4 x5 x6 x7 = os) (h0 : R x0 x1 x2 x3 x4 x5 x6 x7)
    (round : ∀ (x0 : α) (x1 : β) (x2 : γ) (x3 : δ) (x4 : ε) (x5 : ζ) (x6 : η) (x7 : θ) a w,St F w0 m0 n (L' x0 x1 x2 x3 x4 x5 x6 x7) fs (os' x0 x1 x2 x3 x4 x5 x6 x7) a w → R x0 x1 x2 x3 x4 x5 x6 x7 → c.wp P (Exit.then (fun a' w'=>∃ (y0 : α) (y1 : β) (y2 : γ) (y3 : δ) (y4 : ε) (y5 : ζ) (y6 : η) (y7 : θ),St F w0 m0 n (L' y0 y1 y2 y3 y4 y5 y6 y7) fs (os' y0 y1 y2 y3 y4 y5 y6 y7) a' w' ∧ R y0 y1 y2 y3 y4 y5 y6 y7 ∧ μ y0 y1 y2 y3 y4 y5 y6 y7 < μ x0 x1 x2 x3 x4 x5 x6 x7) Q) a w) : (Code.loop c).wp P Q a w:=by
  refine wp_loop_ghost (fun m a w=>∃ (y0 : α) (y1 : β) (y2 : γ) (y3 : δ) (y4 : ε) (y5 : ζ) (y6 : η) (y7 : θ),St F w0 m0 n (L' y0 y1 y2 y3 y4 y5 y6 y7) fs (os' y0 y1 y2 y3 y4 y5 y6 y7) a w ∧ R y0 y1 y2 y3 y4 y5 y6 y7 ∧ μ y0 y1 y2 y3 y4 y5 y6 y7 = m) (μ x0 x1 x2 x3 x4 x5 x6 x7) ⟨x0,x1,x2,x3,x4,x5,x6,x7,⟨S.s.sub hL,by rw [ho];exact S.m⟩,h0,rfl⟩ fun m a w ⟨y0,y1,y2,y3,y4,y5,y6,y7,S,hR,hm⟩=>?_;subst hm;refine wp_mono (round y0 y1 y2 y3 y4 y5 y6 y7 a w S hR) fun e a' w' hq=>?_
  cases e with
  | normal=>obtain ⟨x0,x1,x2,x3,x4,x5,x6,x7,h1,h2,h3⟩:=hq;exact ⟨_,h3,x0,x1,x2,x3,x4,x5,x6,x7,h1,h2,rfl⟩
  | exit id=>exact hq
  | goto l=>exact hq
  | ret=>exact hq
  | panic ch=>exact hq
  | outgrown=>exact hq
end
end Go.Proofs.Ytobggnpnochnnaa.V
/- Regions that draw their order,over the bundle. -/
namespace Go.Proofs.Ytobggnpnochnnaa.V
open Go.RowKit
inductive Td (M : Nat → Prop)
  | is (x : Value)
  | of (q : Value → World → Prop) (st : ∀ v w w',Ch M w w' → q v w → q v w')
def Td.q {M : Nat → Prop} : Td M → StP M
  | .is x=>isV M x
  | .of q st=>⟨q,st⟩
def tq {M : Nat → Prop} : List (Nat × Td M) → List (Nat × StP M)
  | []=>[]
  | (i,t) :: r=>(i,t.q) :: tq r
def lookT {M : Nat → Prop} (t : Nat) : List (Nat × Td M) → Option (Td M)
  | []=>none
  | (i,v) :: r=>bif Nat.beq i t then some v else lookT t r
theorem look_tq {M : Nat → Prop} {t : Nat} {q : Td M} {v : Value} {w : World} : ∀ {E : List (Nat × Td M)}, lookT t E = some q → (lookE (tq E) t v w ↔ q.q.p v w)
  | [],h=>by cases h
  | (i,u) :: r,h=>by
    unfold tq lookE;unfold lookT at h
    cases hb : Nat.beq i t
    · rw [hb] at h;exact look_tq (E:=r) h
    · rw [hb] at h;cases h;exact Iff.rfl
def vals {M : Nat → Prop} (E : List (Nat × Td M)) : List Nat → List (Nat × Value)
  | []=>[]
  | d :: r=>match lookT d E with
    | some (.is x)=>(d,x) :: vals E r
    | _=>vals E r
def pdeps {M : Nat → Prop} (E : List (Nat × Td M)) (a : Act) (w : World) : List Nat → Prop
  | []=>True
  | d :: r=>match lookT d E with
    | some (.of p _)=>p (a.tmps.getD d undef) w ∧ pdeps E a w r
    | _=>pdeps E a w r
def cat (x y : List (Nat × Value)) : List (Nat × Value):=match x with
  | []=>y
  | p :: r=>p :: cat r y
theorem deps_open {M : Nat → Prop} {E : List (Nat × Td M)} {a : Act} {w : World} {n : Nat} {L : List (Nat × Value)} (s : Slots n L a) : ∀ (D : List Nat), deps (tq E) a w D → Slots n (cat (vals E D) L) a ∧ pdeps E a w D
  | [],_=>⟨s,trivial⟩
  | d :: r,h=>by
    obtain ⟨h1,h2⟩:=deps_open s r h.2;unfold vals pdeps
    cases hl : lookT d E with
    | none=>exact ⟨h1,h2⟩
    | some q =>
      cases q with
      | is x=>exact ⟨h1.ext ((look_tq hl).1 h.1),h2⟩
      | of p st=>exact ⟨h1,(look_tq hl).1 h.1,h2⟩
theorem Core.put {P : Program} {ops : Array Oper} {o : Oper} {a : Act} {w : World} {K : Act → World → Prop} {Q : Exit → Act → World → Prop} (h : Core P ops o a w K Q) : Core P ops o a w (fun a' w'=>K a' w' ∧ ∃ v,a'.tmps = (a.put o.dst v).tmps) Q:=by
  unfold Core at *
  by_cases hw : Region.wanted o (yielded ops a.tmps) = true
  · rw [if_pos hw] at h ⊢;exact h.imp Oper.wp_put id
  · rw [if_neg hw] at h ⊢;exact ⟨h,undef,rfl⟩
theorem Core.mono {P : Program} {ops : Array Oper} {o : Oper} {a : Act} {w : World} {K K' : Act → World → Prop} {Q : Exit → Act → World → Prop} (h : Core P ops o a w K Q) (hk : ∀ a w,K a w → K' a w) : Core P ops o a w K' Q:=by
  unfold Core at *
  by_cases hw : Region.wanted o (yielded ops a.tmps) = true
  · rw [if_pos hw] at h ⊢;exact h.imp (Oper.wp_mono hk) id
  · rw [if_neg hw] at h ⊢;exact hk _ _ h
theorem core_op {P : Program} {ops : Array Oper} {i : Nat} {o : Oper} {a : Act} {w : World} {K : Act → World → Prop} {Q : Exit → Act → World → Prop} (ho : ops[i]? = some o) (h : Core P ops o a w K Q) : wpOp P ops Q i K a w:=by
  unfold wpOp;rw [ho];exact h
section
variable {P : Program} {ops : Array Oper} {F : Nat → Prop} {w0 W : World} {m0 chg : List BS} {n i : Nat} {L : List (Nat × Value)} {fs : List RF} {os : List OF} {o : Oper} {ty : TypeId} {pos : String} {af : Array Edge} {Q : Exit → Act → World → Prop} {E : List (Nat × Td (In chg))} {D : List Nat}
def HD (P : Program) (ops : Array Oper) (Q : Exit → Act → World → Prop) (F : Nat → Prop) (w0 W : World) (m0 : List BS) (n : Nat) (L : List (Nat × Value)) (fs : List RF) (os : List OF) {chg : List BS} (E : List (Nat × Td (In chg))) (i : Nat) (o : Oper) (D : List Nat) : Prop :=
  ∀ a w,St F w0 m0 n (cat (vals E D) L) fs os a w → Ch (In chg) W w → pdeps E a w D → wpOp P ops Q i (Done o (tq E) (Mm F w0 m0 fs os) n a w) a w
def HS (P : Program) (ops : Array Oper) (Q : Exit → Act → World → Prop) (F : Nat → Prop) (w0 W : World) (m0 : List BS) (n : Nat) (L : List (Nat × Value)) (fs : List RF) (os : List OF) {chg : List BS} (E : List (Nat × Td (In chg))) : Nat → List Oper → List (List Nat) → Prop
  | i,o :: r,D :: Ds=>HD P ops Q F w0 W m0 n L fs os E i o D ∧ HS P ops Q F w0 W m0 n L fs os E (i + 1) r Ds
  | _,_,_=>True
theorem HS.steps : ∀ (l : List Oper) (Ds : List (List Nat)) (i : Nat), HS P ops Q F w0 W m0 n L fs os E i l Ds → steps P ops Q n L W (tq E) (Mm F w0 m0 fs os) i l Ds
  | [],_,_,_=>by cases ‹List (List Nat)› <;> trivial
  | _ :: _,[],_,_=>trivial
  | o :: r,D :: Ds,i,h=>⟨fun a w hc hm s hd=>by
      obtain ⟨h1,h2⟩:=deps_open s D hd
      exact h.1 a w ⟨h1,hm⟩ hc h2,HS.steps r Ds (i + 1) h.2⟩
theorem Mm.drew {w : World} (M : Mm F w0 m0 fs os w) : Mm F w0 m0 fs os { w with drawn:=w.drawn + 1 }:=M.k0 (Ch.refl w).drew
theorem dr {id : Nat} {a : Act} {w : World} {l : List Oper} (S : St F w0 m0 n L fs os a w) (N : Nat) (chg : List BS) (E : List (Nat × Td (In chg))) (Ds : List (List Nat)) (outs : List Nat) (tail : List Oper) (step : HS P l.toArray Q F w0 w m0 n L fs os E 0 (l.take N) Ds)
    (fin : ∀ a w',St F w0 m0 n (cat (vals E outs) L) fs os a w' → Ch (In chg) w w' → pdeps E a w' outs → wpList P l.toArray Q tail a w')
    (htl : tail = l.drop N:=by rfl) (hm : P.follows .mixedOrders = true:=by exact mixed) (hok : (headOk l.toArray N && depsOk l.toArray N 0 Ds && keysOk l.toArray N L && outsOk l.toArray N outs && tailOk l.toArray N) = true:=by kernel_rfl) (hlen : Ds.length = N:=by rfl) : (Code.region id l.toArray true).wp P Q a w :=
  wp_heads S.s N (tq E) (Mm F w0 m0 fs os) Ds outs tail htl hm hok hlen S.m.drew (HS.steps _ _ _ step) fun a w' hc hm s hd=>by
    obtain ⟨h1,h2⟩:=deps_open s outs hd;exact fin a w' ⟨h1,hm⟩ hc h2
theorem one_done {c : List BS} {d : Nat} {v : Value} {L' : List (Nat × Value)} {a : Act} {w : World} (S : St F w0 m0 n L' fs os a w) (h : One P ops (St F w0 m0 n L' fs os) c o (St F w0 m0 n ((d,v) :: L') fs os)) (hd : o.dst = some d) (hn : d < n) (he : lookE (tq E) d v w ∧ (∀ w',lookE (tq E) d v w → lookE (tq E) d v w')) (hc : ∀ k,In c k → In chg k) : Core P ops o a w (Done o (tq E) (Mm F w0 m0 fs os) n a w) Q:=by
  refine Core.mono (Core.put (h _ Q a w S fun a' w' Y g=>(⟨Y,g⟩ : St F w0 m0 n ((d,v) :: L') fs os a' w' ∧ Ch (In c) w w'))) ?_;rintro a' w' ⟨⟨Y,g⟩,u,hu⟩;have h1 : a'.tmps.getD d undef = v:=Y.s.get d v (by rw [look_cons,if_pos rfl]);have h2 : (a.put o.dst u).tmps.getD d undef = u:=by rw [hd,getD_put a d d u (by rw [S.s.size];exact hn),if_pos rfl]
  rw [hu,h2] at h1;subst h1;have h3 : a' = a.put o.dst u:=by
    have e1:=Y.s.defers;have e2 : (a.put o.dst u).defers = []:=by rw [← S.s.defers];cases o.dst <;> rfl
    cases a'
    cases hp : a.put o.dst u
    rw [hp] at hu e2
    simp_all
  exact ⟨⟨u,h3,fun e he'=>by rw [hd] at he';cases he';exact ⟨hn,he.2 w' he.1⟩⟩,g.mono hc,Y.m⟩
theorem qd {c : List BS} {d : Nat} {v : Value} (h : One P ops (St F w0 m0 n (cat (vals E D) L) fs os) c o (St F w0 m0 n ((d,v) :: cat (vals E D) L) fs os)) (hk : ops[i]? = some o ∧ o.dst = some d ∧ d < n:=by exact ⟨rfl,rfl,by decide⟩) (he : lookT d E = some (.is v):=by rfl) (hc : ∀ k,In c k → In chg k:=by intro k h;first | exact h.elim | exact h) : HD P ops Q F w0 W m0 n L fs os E i o D :=
  fun a w S _ _=>core_op hk.1 (one_done S h hk.2.1 hk.2.2 ⟨(look_tq he).2 rfl,fun w' _=>(look_tq he).2 rfl⟩ hc)
section
variable {a : Act} {w : World} {L' : List (Nat × Value)} {rs' : List RF}
theorem hvl (d : Nat) {v : Value} (S : St F w0 m0 n L' rs' os a w) (M : Mm F w0 m0 fs os w) (h : (execOp a.eval o).run P w = .ok (.value v) w) (ht : lookE (tq E) d v w) (hk : ops[i]? = some o ∧ o.guard = none ∧ o.dst = some d ∧ d < n:=by exact ⟨rfl,rfl,rfl,by decide⟩) : wpOp P ops Q i (Done o (tq E) (Mm F w0 m0 fs os) n a w) a w :=
  head_op hk.1 hk.2.1 (op_val h (Done.same hk.2.2.1 hk.2.2.2 ht M))
theorem hcl {d : Nat} {f : FuncId} {args : Array Operand} {ats : Array TypeId} {vs : Array Value} {R : Ending → World → Prop} (S : St F w0 m0 n L' rs' os a w) (hc : Calls P f vs w R) (hf : Callable P f)
    (hR : ∀ e w',R e w' → ∃ v,e = .returned v ∧ lookE (tq E) d v w' ∧ Ch (In chg) w w' ∧ Mm F w0 m0 fs os w') (hv : args.toList.map (evS L') = vs.toList.map some:=by rfl) (hk : ops[i]? = some ⟨some d,.call ⟨.value (.func f),args,ats⟩,ty,pos,af,none⟩ ∧ d < n:=by exact ⟨rfl,by decide⟩) :
    wpOp P ops Q i (Done ⟨some d,.call ⟨.value (.func f),args,ats⟩,ty,pos,af,none⟩ (tq E) (Mm F w0 m0 fs os) n a w) a w :=
  head_op hk.1 rfl (op_call (args_eval S.s hv) hf hc fun e w' he=>let ⟨v,h1,h2,h3,h4⟩:=hR e w' he;⟨v,h1,Done.mk' rfl hk.2 h2 h3 h4⟩)
theorem hnb (d : Nat) {v : Value} {ob : Obj} (M : Mm F w0 m0 fs os w) (h : (execOp a.eval o).run P w = .ok (.value v) (w.alloc ob)) (ht : Ch (In []) w (w.alloc ob) → lookE (tq E) d v (w.alloc ob)) (hk : ops[i]? = some o ∧ o.guard = none ∧ o.dst = some d ∧ d < n:=by exact ⟨rfl,rfl,rfl,by decide⟩) : wpOp P ops Q i (Done o (tq E) (Mm F w0 m0 fs os) n a w) a w :=
  head_op hk.1 hk.2.1 (op_val h (Done.mk' hk.2.2.1 hk.2.2.2 (ht (ch_alloc w ob)) ((ch_alloc w ob).mono fun _ h=>h.elim) (M.k0 (ch_alloc w ob))))
end
theorem St.z {a : Act} {w : World} {rs : List RF} {L' : List (Nat × Value)} (_ : St F w0 m0 n L' rs os a w) : ∃ z,z = w.heap.size:=⟨_,rfl⟩
def HDN (A : List Nat) (P : Program) (ops : Array Oper) (Q : Exit → Act → World → Prop) (F : Nat → Prop) (w0 W : World) (m0 : List BS) (n : Nat) (L : List (Nat × Value)) (fs : List RF) (os : List OF) {chg : List BS} (E : List (Nat × Td (In chg))) (i : Nat) (o : Oper) (D : List Nat) : Prop :=
  ∀ a w,St F w0 m0 n (cat (vals E D) L) fs os a w → Ch (In chg) W w → pdeps E a w D → wpOp P ops Q i (DoneN A o (tq E) (Mm F w0 m0 fs os) n a w) a w
def HSN (A : List Nat) (P : Program) (ops : Array Oper) (Q : Exit → Act → World → Prop) (F : Nat → Prop) (w0 W : World) (m0 : List BS) (n : Nat) (L : List (Nat × Value)) (fs : List RF) (os : List OF) {chg : List BS} (E : List (Nat × Td (In chg))) : Nat → List Oper → List (List Nat) → Prop
  | i,o :: r,D :: Ds=>HDN A P ops Q F w0 W m0 n L fs os E i o D ∧ HSN A P ops Q F w0 W m0 n L fs os E (i + 1) r Ds
  | _,_,_=>True
theorem HSN.steps {A : List Nat} : ∀ (l : List Oper) (Ds : List (List Nat)) (i : Nat), HSN A P ops Q F w0 W m0 n L fs os E i l Ds → stepsN A P ops Q n L W (tq E) (Mm F w0 m0 fs os) i l Ds
  | [],_,_,_=>by cases ‹List (List Nat)› <;> trivial
  | _ :: _,[],_,_=>trivial
  | o :: r,D :: Ds,i,h=>⟨fun a w hc hm s hd=>by
      obtain ⟨h1,h2⟩:=deps_open s D hd
      exact h.1 a w ⟨h1,hm⟩ hc h2,HSN.steps r Ds (i + 1) h.2⟩
theorem St.own {a a0 : Act} {w W : World} {L0 : List (Nat × Value)} (S0 : St F w0 m0 n L0 fs os a0 W) (S : St F w0 m0 n L fs os a w) (js : List Nat) (G : Ch (In (picks (ow os) js)) W w) (hj : ∀ j f,j ∈ js → nth os j = some f → ∀ V1 V2,f.p F V1 w → f.p F V2 w) (nw : List OF) (hsep : Sep (ow nw)) (hn : ∀ k,In (ow nw) k → W.heap.size ≤ k ∧ k < w.heap.size) (hp : ∀ f ∈ nw,∀ V,f.p F V w) : St F w0 m0 n L fs (os ++ nw) a w:=by
  have hin : ∀ k,In (ow nw) k → ¬ In (ow os) k:=fun k h1 h2=>by have:=hn k h1;have:=S0.M.lt k h2;omega
  have hMS : ∀ (x : List BS),Sep x → (∀ k,In x k → W.heap.size ≤ k ∧ k < w.heap.size) → (∀ k,In x k → ¬ In (ow os) k) → MS (x ++ ow os) w:=by
    intro x
    induction x with
    | nil=>intro _ _ _;exact S.M
    | cons o r ih =>
      intro s h1 h2;exact (ih s.2 (fun k hk=>h1 k (.inr hk)) (fun k hk=>h2 k (.inr hk))).cons fun k hk=>⟨(h1 k (.inl hk)).2,fun hm=>(in_app.1 hm).elim (s.1 k hk) (h2 k (.inl hk))⟩
  have M:=hMS (ow nw) hsep hn hin;have T : Tr (ow os) W (ow os ++ ow nw) w:=Tr.comm ⟨G.mono fun k hk=>in_picks hk,fun k hk=>(in_app.1 hk).elim (fun h=>.inr (hn k h).1) .inl,M⟩;have T0 : Tr m0 w0 (ow os ++ ow nw) w:=Tr.comm ⟨S.m.c.ch,fun k hk=>(in_app.1 hk).elim (fun h=>.inr (Nat.le_trans S0.m.c.size (hn k h).1)) (S.m.c.sub k),M⟩;refine ⟨S.s,by rw [ow_app];exact T0,S.m.f,fun f hf=>by rw [ow_app];exact f.st T.mv (S0.m.r f hf),fun f hf=>?_⟩;rw [ow_app]
  rcases List.mem_append.1 hf with h | h
  · obtain ⟨i, hi⟩ := idx_of h
    by_cases hc : js.contains i = true
    · exact hj i f (List.contains_iff_mem.1 hc) hi _ _ (S.m.o f h)
    · exact f.st T.mv (fun k hk ho=>G.block k hk fun hm=>S0.m.sep hi js (by simpa using hc) ho hm) (S0.m.o f h)
  · exact hp f h _
end
end Go.Proofs.Ytobggnpnochnnaa.V
/- A call in a region that draws its order,with operations behind it that may run before it. -/
namespace Go.Proofs.Ytobggnpnochnnaa.V
open Go.RowKit
def pickZ (Z : List (Nat × Value)) (D : List Nat) : List (Nat × Value):=D.filterMap fun k=>Z[k]?
section
variable {P : Program} {F : Nat → Prop} {w0 : World} {m0 chg : List BS} {n : Nat} {L : List (Nat × Value)} {rs : List RF} {os ks : List OF} {Q : Exit → Act → World → Prop}
def LZ (P : Program) (n N : Nat) (L : List (Nat × Value)) (F : Nat → Prop) (w0 : World) (m0 : List BS) (rs : List RF) (ks : List OF) (Z : List (Nat × Value)) : List Oper → List (Nat × Value) → List (List Nat) → Prop
  | o :: r,z :: zs,D :: Ds=>((z.1 < n ∧ (D.all fun k=>o.after.any fun e=>Region.binds .any e && e.on == N + 1 + k) = true) ∧ ∀ fs a w,St F w0 m0 n (pickZ Z D ++ L) rs (ks ++ fs) a w → (execOp a.eval o).run P w = .ok (.value z.2) w) ∧ LZ P n N L F w0 m0 rs ks Z r zs Ds
  | _,_,_=>True
theorem LZ.get {N : Nat} {Z : List (Nat × Value)} : ∀ (r : List Oper) (zs : List (Nat × Value)) (Ds : List (List Nat)) (k : Nat), k < zs.length → zs.length ≤ r.length → Ds.length = zs.length → LZ P n N L F w0 m0 rs ks Z r zs Ds → ∃ o z D, r[k]? = some o ∧ zs[k]? = some z ∧ (z.1 < n ∧ (D.all fun k => o.after.any fun e => Region.binds .any e && e.on == N + 1 + k) = true) ∧ ∀ fs a w, St F w0 m0 n (pickZ Z D ++ L) rs (ks ++ fs) a w → (execOp a.eval o).run P w = .ok (.value z.2) w
  | [],zs,_,_,h,hl,_,_=>by simp at hl;subst hl;simp at h
  | o :: r,[],_,_,h,_,_,_=>by simp at h
  | o :: r,z :: zs,[],_,_,_,hD,_=>by simp at hD
  | o :: r,z :: zs,D :: Ds,0,_,_,_,h=>⟨o,z,D,rfl,rfl,h.1.1,h.1.2⟩
  | o :: r,z :: zs,D :: Ds,k + 1,hk,hl,hD,h=>by
    obtain ⟨o',z',D',h1,h2,h3⟩:=LZ.get r zs Ds k (by simpa using hk) (by simpa using hl) (by simpa using hD) h.2;exact ⟨o',z',D',by simpa using h1,by simpa using h2,h3⟩
end
end Go.Proofs.Ytobggnpnochnnaa.V
