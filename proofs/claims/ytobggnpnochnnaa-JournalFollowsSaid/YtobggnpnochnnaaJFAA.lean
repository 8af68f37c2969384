/- Texts of this claim in one: part A. -/
import Derived.WalkKit
import Derived.StillTail
import Derived.Deep.LoopGhost
import Derived.Deep.AppendLies
import Derived.Great.BuildSlice
import Derived.Laws.Small
import Derived.Laws.OwnMore
import Derived.OwnWalk
import Derived.WalkSpells
set_option linter.unusedVariables false
set_option linter.unusedSimpArgs false
set_option maxHeartbeats 4000000
set_option maxRecDepth 20000
/- A small logic of my own over the model: what is known of a frame's slots,steps of one operation,regions that draw their order by what each operation leaves. -/
namespace Go.Proofs.Ytobggnpnochnnaa.V
open Go.RowKit
def look (t : Nat) : List (Nat × Value) → Option Value
  | []=>none
  | (i,v)::r=>bif Nat.beq i t then some v else look t r
def evS (L : List (Nat × Value)) : Operand → Option Value
  | .tmp t=>look t L
  | .const v=>some v
  | .global g=>some (.pointer (some ⟨g,0,none⟩))
  | .func f=>some (.func (.func f) #[] #[])
structure aP (n:Nat) (L:List (Nat × Value)) (a:Act):Prop where
  size:a.tmps.size=n
  defers:a.defers=[]
  get:∀ i v,look i L=some v→a.tmps.getD i undef=v
section
variable {n:Nat} {L L':List (Nat × Value)} {a:Act}
theorem aP.eval (S:aP n L a) {x:Operand} {v:Value} (h:evS L x=some v):a.eval x=v:=by
  cases x with
  | tmp t=>exact S.get t v h
  | const u=>exact Option.some.inj h
  | global g=>exact Option.some.inj h
  | func f=>exact Option.some.inj h
theorem bW (i t:Nat) (v:Value):look i ((t,v)::L)=if t=i then some v else look i L:=by
  show (bif Nat.beq t i then some v else look i L)=_
  by_cases h:t=i
  · subst h;simp
  · rw [if_neg h,show Nat.beq t i=false from (match hb:Nat.beq t i with | true=>absurd (Nat.eq_of_beq_eq_true hb) h | false=>rfl)];rfl
theorem aP.ext (S:aP n L a) {d:Nat} {v:Value} (h:a.tmps.getD d undef=v):aP n ((d,v)::L) a :=
  ⟨S.size,S.defers,fun i u hu=>by
    rw [bW] at hu
    by_cases e:d=i
    · rw [if_pos e] at hu;subst e;rw [h];exact Option.some.inj hu
    · rw [if_neg e] at hu;exact S.get i u hu⟩
theorem dg (a:Act) (d i:Nat) (v:Value) (h:d < a.tmps.size):(a.put (some d) v).tmps.getD i undef=if d=i then v else a.tmps.getD i undef:=by
  by_cases e:d=i
  · subst e;simp [Act.put,h]
  · rw [if_neg e];simp [Act.put,Array.getElem?_setIfInBounds_ne e]
theorem aP.put (S:aP n L a) {d:Nat} {v:Value} (hd:d < n):aP n ((d,v)::L) (a.put (some d) v) :=
  ⟨by simp [Act.put,S.size],S.defers,fun i u hu=>by
    rw [bW] at hu;rw [dg a d i v (by rw [S.size];exact hd)]
    by_cases e:d=i
    · rw [if_pos e] at hu ⊢;exact Option.some.inj hu
    · rw [if_neg e] at hu ⊢;exact S.get i u hu⟩
def Sub (L : List (Nat × Value)) : List (Nat × Value) → Prop
  | []=>True
  | (i,v)::r=>look i L=some v∧Sub L r
theorem aP.sub (S:aP n L a) (h:Sub L L'):aP n L' a :=
  ⟨S.size,S.defers,fun i u hu=>S.get i u (by
    revert hu
    induction L' with
    | nil=>intro hu;cases hu
    | cons p r ih =>
      obtain ⟨j,v⟩:=p;intro hu;rw [bW] at hu
      by_cases e:j=i
      · rw [if_pos e] at hu;subst e;rw [← Option.some.inj hu];exact h.1
      · rw [if_neg e] at hu;exact ih h.2 hu)⟩
def sX : Nat → List Value → List (Nat × Value)
  | _,[]=>[]
  | k,v::r=>(k,v)::sX (k+1) r
theorem pj : ∀ (l : List Value) (k i : Nat) (v : Value), look i (sX k l) = some v → k ≤ i ∧ l[i - k]? = some v
  | [],_,_,_,h=>by cases h
  | u::r,k,i,v,h=>by
    rw [sX,bW] at h
    by_cases e:k=i
    · subst e;rw [if_pos rfl] at h;simpa using h
    · rw [if_neg e] at h;obtain ⟨h1,h2⟩:=pj r (k+1) i v h;refine ⟨by omega,?_⟩;rw [show i - k=(i - (k+1))+1 from by omega,List.getElem?_cons_succ];exact h2
end
section
variable {P:Program} {Q:Exit→Act→World→Prop} {n:Nat} {L L':List (Nat × Value)} {a:Act} {w:World}
theorem enter {f : FuncId} {fn : Func} {c : Code} {args : Array Value} {R : Ending → World → Prop} (hf : P.funcs[f]? = some fn) (hb : fn.body = some c) (n : Nat) (hn : fn.ntmps = n) (hsz : args.size ≤ n)
    (h:∀ a,aP n (sX 0 args.toList) a→c.wp P (bodyPost P fn R) a w):Calls P f args w R:=by
  refine calls_of_wp hf hb (h _ ⟨?_,rfl,fun i v hv=>?_⟩)
  · simp [hn];omega
  · obtain ⟨_, h2⟩ := pj _ _ _ _ hv;have h3 : args[i]? = some v := by simpa using h2
    obtain ⟨h4,h5⟩:=Array.getElem?_eq_some_iff.1 h3;simp [Array.getElem?_append,h4,h5]
theorem bw {fn:Func} {R:Ending→World→Prop} {t:Nat} {v:Value} (hr:fn.results = #[.tmp t]) (S:aP n L a) (hv:look t L=some v) (h:R (.returned v) w):bodyPost P fn R .ret a w:=by
  refine ⟨S.defers,v,?_,h⟩;simp [results,hr,← S.get t v hv]
theorem gE {fn:Func} {R:Ending→World→Prop} {t t':Nat} {v v':Value} (hr:fn.results = #[.tmp t,.tmp t']) (S:aP n L a) (hv:look t L=some v) (hv':look t' L=some v') (h:R (.returned (.tuple #[v,v'])) w):bodyPost P fn R .ret a w:=by
  refine ⟨S.defers,_,?_,h⟩;simp [results,hr,← S.get t v hv,← S.get t' v' hv']
theorem si {fn:Func} {R:Ending→World→Prop} {t t' t2:Nat} {v v' v2:Value} (hr:fn.results = #[.tmp t,.tmp t',.tmp t2]) (S:aP n L a) (hv:look t L=some v) (hv':look t' L=some v') (hv2:look t2 L=some v2) (h:R (.returned (.tuple #[v,v',v2])) w):bodyPost P fn R .ret a w:=by
  refine ⟨S.defers,_,?_,h⟩;simp [results,hr,← S.get t v hv,← S.get t' v' hv',← S.get t2 v2 hv2]
theorem tY {fn:Func} {R:Ending→World→Prop} (hr:fn.results = #[]) (S:aP n L a) (h:R (.returned (.tuple #[])) w):bodyPost P fn R .ret a w:=by
  refine ⟨S.defers,_,?_,h⟩;simp [results,hr]
theorem dS {fn:Func} {R:Ending→World→Prop} (hr:fn.results = #[]) (S:aP n L a) (h:R (.returned (.tuple #[])) w):bodyPost P fn R .normal a w:=by
  refine ⟨S.defers,_,?_,h⟩;simp [results,hr]
theorem uW {c:Operand} {x y:Code} {p:Prop} [Decidable p] (S:aP n L a) (hc:evS L c=some (.bool (decide p))) (ht:p→x.wp P Q a w) (hf:¬ p→y.wp P Q a w):(Code.cond c x y).wp P Q a w:=by
  refine wp_cond (S.eval hc) ?_
  by_cases h:p
  · simpa [h] using ht h
  · simpa [h] using hf h
theorem yF {c:Operand} {x y:Code} (S:aP n L a) (hc:evS L c=some (.bool true)) (h:x.wp P Q a w):(Code.cond c x y).wp P Q a w:=wp_cond (S.eval hc) h
theorem yG {c:Operand} {x y:Code} (S:aP n L a) (hc:evS L c=some (.bool false)) (h:y.wp P Q a w):(Code.cond c x y).wp P Q a w:=wp_cond (S.eval hc) h
theorem ak {f:Act→World→Prop} (h:f a w):Exit.then f Q .normal a w:=h
theorem aF {f:Act→World→Prop} (h:Q .ret a w):Exit.then f Q .ret a w:=h
theorem aR {f:Act→World→Prop} {i:Nat} (h:Q (.exit i) a w):Exit.then f Q (.exit i) a w:=h
theorem bf {i:Nat} (h:Q .normal a w):Exit.inBlock i Q .normal a w:=h
theorem bR {i:Nat} (h:Q .ret a w):Exit.inBlock i Q .ret a w:=h
theorem cC {i:Nat} (h:Q .normal a w):Exit.inBlock i Q (.exit i) a w:=by show (if i=i then _ else _);rw [if_pos rfl];exact h
theorem Aq {i j:Nat} (hj:j≠i) (h:Q (.exit j) a w):Exit.inBlock i Q (.exit j) a w:=by show (if j=i then _ else _);rw [if_neg hj];exact h
theorem fL {o:Oper} {v:Value} {w':World} {K:Act→World→Prop} (h:(execOp a.eval o).run P w = .ok (.value v) w') (hK:K (a.put o.dst v) w'):o.wp P a w K Q:=by
  unfold Oper.wp;rw [h];exact hK
theorem jd {o:Oper} {w':World} {K:Act→World→Prop} (h:(execOp a.eval o).run P w = .ok .skip w') (hK:K (a.put o.dst undef) w'):o.wp P a w K Q:=by
  unfold Oper.wp;rw [h];exact hK
variable {ops:Array Oper} {rest:List Oper} {o:Oper}
theorem nJ (hg:o.guard=none) (h:o.wp P a w (wpList P ops Q rest) Q):wpList P ops Q (o::rest) a w:=by
  unfold wpList;rw [if_pos (by simp [Region.wanted,hg])];exact .inl h
theorem nI (S : aP n L a) (hg : o.guard = none) {d : Nat} (hd : o.dst = some d) (hdn : d < n) {v : Value} {w' : World} (h : (execOp a.eval o).run P w = .ok (.value v) w')
    (next:∀ a',aP n ((d,v)::L) a'→wpList P ops Q rest a' w'):wpList P ops Q (o::rest) a w :=
  nJ hg (fL h (by rw [hd];exact next _ (S.put hdn)))
def az (P : Program) (f : FuncId) : Prop := ∃ fn, P.funcs[f]? = some fn ∧ (fn.name == "runtime.NumGoroutine") = false ∧ fn.body.isNone = false
theorem gx {d : Option Tmp} {ty : TypeId} {pos : String} {af : Array Edge} {g : Option (Nat × Bool)} {f : FuncId} {args : Array Operand} {ats : Array TypeId} {vs : Array Value} {R : Ending → World → Prop} {K : Act → World → Prop}
    (hv:args.map a.eval=vs) (hf:az P f) (hc:Calls P f vs w R) (hR:∀ e w',R e w'→∃ v,e = .returned v∧K (a.put d v) w') :
    Oper.wp P ⟨d,.call ⟨.value (.func f),args,ats⟩,ty,pos,af,g⟩ a w K Q:=by
  obtain ⟨fn,h1,h2,h3⟩:=hf;subst hv;have hr:(execOp a.eval ⟨d,.call ⟨.value (.func f),args,ats⟩,ty,pos,af,g⟩).run P w = .ok (.enter f (args.map a.eval)) w:=by
    have h2' : ¬ fn.name = "runtime.NumGoroutine" := by simpa using h2
    have h3':¬ fn.body=none:=fun e=>by simp [e] at h3
    simp [execOp,resolve,Act.eval,Deferred.ofValue,invoke,callFunc,h1,h2',h3']
  unfold Oper.wp;rw [hr];show Calls P f _ w _;refine hc.mono fun e w' he=>?_;obtain ⟨v,rfl,hK⟩:=hR e w' he;exact hK
theorem tR (S : aP n L a) {d : Nat} (hdn : d < n) {ty : TypeId} {pos : String} {af : Array Edge} {f : FuncId} {args : Array Operand} {ats : Array TypeId} {vs : Array Value} {R : Ending → World → Prop}
    (hv:args.toList.map (evS L)=vs.toList.map some) (hf:az P f) (hc:Calls P f vs w R) (hR:∀ e w',R e w'→∃ v,e = .returned v∧∀ a',aP n ((d,v)::L) a'→wpList P ops Q rest a' w') :
    wpList P ops Q (⟨some d,.call ⟨.value (.func f),args,ats⟩,ty,pos,af,none⟩::rest) a w:=by
  refine nJ rfl (gx ?_ hf hc fun e w' he=>?_)
  · apply Array.ext'
    rw [Array.toList_map];have:∀ (l:List Operand) (u:List Value),l.map (evS L)=u.map some→l.map a.eval=u:=by
      intro l
      induction l with
      | nil=>intro u hu;cases u <;> simp_all
      | cons x l ih =>
        intro u hu
        cases u with
        | nil=>simp at hu
        | cons v u =>
          simp only [List.map_cons,List.cons.injEq] at hu ⊢;exact ⟨S.eval hu.1,ih u hu.2⟩
    exact this _ _ hv
  · obtain ⟨v,h1,h2⟩:=hR e w' he;exact ⟨v,h1,h2 _ (S.put hdn)⟩
theorem gY (S:aP n L a) {args:Array Operand} {vs:Array Value} (hv:args.toList.map (evS L)=vs.toList.map some):args.map a.eval=vs:=by
  apply Array.ext'
  rw [Array.toList_map];have:∀ (l:List Operand) (u:List Value),l.map (evS L)=u.map some→l.map a.eval=u:=by
    intro l
    induction l with
    | nil=>intro u hu;cases u <;> simp_all
    | cons x l ih =>
      intro u hu
      cases u with
      | nil=>simp at hu
      | cons v u =>
        simp only [List.map_cons,List.cons.injEq] at hu ⊢;exact ⟨S.eval hu.1,ih u hu.2⟩
  exact this _ _ hv
end
section
variable {P:Program}
def dY (ops:Array Oper) (n:Nat):Bool :=
  (List.range n).all fun i=>match ops[i]? with
    | none=>false
    | some o => (o.after.all fun e => !Region.binds .any e || decide (e.on < i)) &&
      (List.range n).all fun j=>match ops[j]? with
        | none=>false
        | some p=>(j == i || p.dst.isNone || p.dst != o.dst) && (match p.dst with
          | some d=>!(o.looksAt ops).contains d || o.after.any fun e=>Region.binds .any e && e.on == j
          | none=>true)
def eT (ops:Array Oper) (n:Nat):Bool :=
  decide (n≤ops.size) && (n == ops.size || (Region.sinkB .any ops n && Region.chainB .any ops n)) &&
  Region.seqB .any ops (ops.size - n) n (Array.replicate n true++Array.replicate (ops.size - n) false)
structure dV (ops:Array Oper) (n:Nat) (E:Nat→Value→World→Prop) (a₀:Act) (listed:Array Bool) (a:Act) (w:World):Prop where
  size:a.tmps.size=a₀.tmps.size
  defers:a.defers=a₀.defers
  base:∀ t,(∀ j,j < n→∀ o,ops[j]?=some o→o.dst≠some t)→a.tmps.getD t undef=a₀.tmps.getD t undef
  done:∀ j,j < n→listed.getD j false=true→∀ o d,ops[j]?=some o→o.dst=some d→E d (a.tmps.getD d undef) w
def left (n:Nat) (listed:Array Bool):Nat:=((List.range n).filter fun j=>!listed.getD j true).length
theorem jZ {n i:Nat} {listed:Array Bool} (hi:i < n) (hl:listed.getD i true=false):left n listed=left n (listed.setIfInBounds i true)+1:=by
  unfold left
  induction n with
  | zero=>omega
  | succ n ih =>
    rw [List.range_succ,List.filter_append,List.filter_append,List.length_append,List.length_append]
    by_cases h:i=n
    · subst h;have h1:((List.range i).filter fun j=>!listed.getD j true)=(List.range i).filter fun j=>!(listed.setIfInBounds i true).getD j true :=
        List.filter_congr fun j hj=>by rw [getD_set_ne true (by have:=List.mem_range.1 hj;omega)]
      have hlt:i < listed.size:=by
        rcases Nat.lt_or_ge i listed.size with g | g
        · exact g
        · simp [Array.getElem?_eq_none g] at hl
      have h2:(listed.setIfInBounds i true).getD i true=true:=by simp [hlt]
      rw [h1];simp only [List.filter_cons,List.filter_nil,hl,h2];simp
    · have h1:=ih (by omega);rw [h1];have h2:(listed.setIfInBounds i true).getD n true=listed.getD n true:=getD_set_ne true h;simp only [List.filter_cons,List.filter_nil,h2];omega
theorem je {n:Nat} {listed:Array Bool} (h:left n listed=0):∀ j,j < n→listed.getD j true=true:=by
  intro j hj;unfold left at h;have h1:=List.length_eq_zero_iff.1 h;have h2:=List.filter_eq_nil_iff.1 h1 j (List.mem_range.2 hj)
  simpa using h2
theorem j2 {n:Nat} {listed:Array Bool} (h:left n listed≠0):∃ j,j < n∧listed.getD j true=false∧∀ k,k < j→listed.getD k true=true:=by
  have:∃ j,j < n∧listed.getD j true=false:=by
    apply Classical.byContradiction
    intro hn
    apply h
    unfold left;rw [List.length_eq_zero_iff,List.filter_eq_nil_iff];intro j hj
    cases hl:listed.getD j true
    · exact absurd ⟨j,List.mem_range.1 hj,hl⟩ hn
    · simp
  obtain ⟨j,⟨h1,h2⟩,hmin⟩:=exists_least this;refine ⟨j,h1,h2,fun k hk=>?_⟩
  cases hl:listed.getD k true
  · have:=hmin k ⟨by omega,hl⟩;omega
  · rfl
theorem sG {ops : Array Oper} {n : Nat} {Q : Exit → Act → World → Prop} {E : Nat → Value → World → Prop} {C : World → Prop} {a₀ : Act} (tail : List Oper) (htl : tail = ops.toList.drop n) (hok : dY ops n = true) (htail : eT ops n = true)
    (step : ∀ i, i < n → ∀ o, ops[i]? = some o → ∀ a w, C w → a.tmps.size = a₀.tmps.size → a.defers = a₀.defers → (∀ t, (∀ j, j < n → ∀ o, ops[j]? = some o → o.dst ≠ some t) → a.tmps.getD t undef = a₀.tmps.getD t undef) →
      (∀ j p d,j < n→ops[j]?=some p→p.dst=some d→d∈o.looksAt ops→E d (a.tmps.getD d undef) w) →
      wpOp P ops Q i (fun a' w'=>(∃ v,a'=a.put o.dst v∧(∀ d,o.dst=some d→d < a.tmps.size∧E d v w'))∧C w'∧∀ t v,E t v w→E t v w') a w)
    (fin:∀ a w,C w→dV ops n E a₀ (Array.replicate n true) a w→wpList P ops Q tail a w) :
    ∀ (f:Nat) (listed:Array Bool) (a:Act) (w:World),left n listed=f→HeadInv .any ops n listed→C w→dV ops n E a₀ listed a w→wpAny P .any ops Q (f+(ops.size - n)) listed a w:=by
  simp only [eT,Bool.and_eq_true,decide_eq_true_eq] at htail;obtain ⟨⟨hn,hsc⟩,hseq⟩:=htail;intro f
  induction f with
  | zero =>
    intro listed a w hf inv hC st;have hall:=je hf;have hl:listed=Array.replicate n true++Array.replicate (ops.size - n) false:=by
      apply Array.ext
      · simp [inv.size];omega
      · intro i h1 h2
        by_cases hi:i < n
        · have h3:=hall i hi;simp [h1] at h3;simp [Array.getElem_append,hi,h3]
        · have h3:=inv.tail i (by omega) (by rw [← inv.size];exact h1);simp [h1] at h3;simp [Array.getElem_append,hi,h3]
    subst hl;have hlen:tail.length=ops.size - n:=by rw [htl];simp
    have h := wpAny_of_seq (P := P) (ops := ops) (md := .any) (Q' := Q) tail n (Array.replicate n true ++ Array.replicate (ops.size - n) false) a w (fun j => by rw [htl, List.getElem?_drop, Array.getElem?_toList]) (by rw [hlen]; exact hseq) (fin a w hC
      ⟨st.size,st.defers,st.base,fun j hj _ o d ho hd=>st.done j hj (by simp [Array.getElem?_append,hj]) o d ho hd⟩)
    rw [hlen] at h;rw [Nat.zero_add];exact h
  | succ f ih =>
    intro listed a w hf inv hC st;rw [show f+1+(ops.size - n)=(f+(ops.size - n))+1 from by omega];obtain ⟨j,hjn,hjl,hjmin⟩:=j2 (n:=n) (listed:=listed) (by omega);have hget:∀ i,i < n→∃ o,ops[i]?=some o:=fun i hi=>⟨_,Array.getElem?_eq_getElem (Nat.lt_of_lt_of_le hi hn)⟩;have hready:j∈Region.ready .any ops listed:=by
      obtain ⟨o,ho⟩:=hget j hjn;refine mem_ready.2 ⟨hjl,o,ho,fun e he hb=>?_⟩;have h1:=List.all_eq_true.1 hok j (List.mem_range.2 hjn);simp only [ho,Bool.and_eq_true] at h1;have h2:=Array.all_eq_true_iff_forall_mem.1 h1.1 e he;simp only [hb,Bool.not_true,Bool.false_or,decide_eq_true_eq] at h2;have h3:=hjmin e.on h2;have h4:e.on < listed.size:=by rw [inv.size];omega
      simp [h4] at h3 ⊢;exact h3
    refine ⟨fun h=>(by rw [h] at hready;cases hready),fun i hi=>?_⟩;have hin:i < n:=by
      rcases hsc':(n == ops.size) with _ | _
      · rw [hsc',Bool.false_or,Bool.and_eq_true] at hsc;have hlt:n < ops.size:=by
          have:n≠ops.size:=by simpa using hsc'
          omega
        exact Nat.lt_of_not_le fun h=>tail_waits hsc.1 hsc.2 hlt inv _ j rfl hjn hjl i h hi
      · have : n = ops.size := by simpa using hsc'
        obtain ⟨_,o,ho,_⟩:=mem_ready.1 hi;have:=(Array.getElem?_eq_some_iff.1 ho).1;omega
    obtain ⟨hil,o,ho,hall⟩:=mem_ready.1 hi;refine wpOp_mono ?_ (step i hin o ho a w hC st.size st.defers st.base ?_)
    · rintro a' w' ⟨⟨v, rfl, hv⟩, hC', hmono⟩;have hl' := jZ hin hil;refine ih (listed.setIfInBounds i true) _ w' (by omega) (inv.set hi hin) hC' ⟨?_, ?_, ?_, ?_⟩
      · cases o.dst <;> simp [Act.put,st.size]
      · cases o.dst <;> simp [Act.put,st.defers]
      · intro t ht;rw [← st.base t ht];have hne := ht i hin o ho
        cases hd:o.dst with
        | none=>rfl
        | some d =>
          have:d≠t:=fun e=>hne (by rw [hd,e]);simp [Act.put,Array.getElem?_setIfInBounds_ne this]
      · intro k hk hkl p d hp hd
        by_cases hki:k=i
        · subst hki;obtain rfl:o=p:=Option.some.inj (ho.symm.trans hp);obtain ⟨h1,h2⟩:=hv d hd;rw [hd,dg a d d v h1,if_pos rfl];exact h2
        · rw [getD_set_ne false (Ne.symm hki)] at hkl;have h1:=hmono d _ (st.done k hk hkl p d hp hd);have hdist:o.dst≠some d:=by
            have g1:=List.all_eq_true.1 hok i (List.mem_range.2 hin);simp only [ho,Bool.and_eq_true] at g1;have g2:=List.all_eq_true.1 g1.2 k (List.mem_range.2 hk);simp only [hp,hd,Bool.and_eq_true,Bool.or_eq_true,beq_iff_eq,bne_iff_ne,Option.isNone_some,Bool.false_eq_true,or_false] at g2;exact fun e=>(g2.1.resolve_left hki) e.symm
          cases hod:o.dst with
          | none=>exact h1
          | some d' =>
            have:d'≠d:=fun e=>hdist (by rw [hod,e]);rw [show (a.put (some d') v).tmps.getD d undef=a.tmps.getD d undef from by simp [Act.put,Array.getElem?_setIfInBounds_ne this]];exact h1
    · intro k p d hk hp hd hlook;have g1 := List.all_eq_true.1 hok i (List.mem_range.2 hin);simp only [ho, Bool.and_eq_true] at g1;have g2 := List.all_eq_true.1 g1.2 k (List.mem_range.2 hk);simp only [hp, hd, Bool.and_eq_true, Bool.or_eq_true, Bool.not_eq_true'] at g2
      rcases g2.2 with g3 | g3
      · rw [List.contains_eq_mem] at g3;simp [hlook] at g3
      · obtain ⟨e,he,hb⟩:=Array.any_eq_true'.1 g3;simp only [Bool.and_eq_true,beq_iff_eq] at hb;exact st.done k hk (by rw [← hb.2];exact hall e he hb.1) p d hp hd
theorem kS {id : Nat} {Q : Exit → Act → World → Prop} {a₀ : Act} {w : World} {l : List Oper} (n : Nat) (E : Nat → Value → World → Prop) (C : World → Prop) (tail : List Oper) (htl : tail = l.drop n) (hm : P.follows .mixedOrders = true) (hok : dY l.toArray n = true) (htail : eT l.toArray n = true)
    (hC:C { w with drawn:=w.drawn+1 })
    (step : ∀ i, i < n → ∀ o, l.toArray[i]? = some o → ∀ a w, C w → a.tmps.size = a₀.tmps.size → a.defers = a₀.defers → (∀ t, (∀ j, j < n → ∀ o, l.toArray[j]? = some o → o.dst ≠ some t) → a.tmps.getD t undef = a₀.tmps.getD t undef) →
      (∀ j p d,j < n→l.toArray[j]?=some p→p.dst=some d→d∈o.looksAt l.toArray→E d (a.tmps.getD d undef) w) →
      wpOp P l.toArray Q i (fun a' w'=>(∃ v,a'=a.put o.dst v∧(∀ d,o.dst=some d→d < a.tmps.size∧E d v w'))∧C w'∧∀ t v,E t v w→E t v w') a w)
    (fin:∀ a w,C w→dV l.toArray n E a₀ (Array.replicate n true) a w→wpList P l.toArray Q tail a w):(Code.region id l.toArray true).wp P Q a₀ w:=by
  refine wp_region_any hm ?_;have hn:n≤l.length:=by
    simp only [eT,Bool.and_eq_true,decide_eq_true_eq] at htail
    simpa using htail.1.1
  have inv0:HeadInv .any l.toArray n (Array.replicate l.toArray.size false) :=
    ⟨by simp,fun j oj _ hl=>(by rw [getD_replicate_false] at hl;cases hl),fun t _ ht=>getD_in (by simpa using ht) (getD_replicate_false _ _)⟩
  have hleft:left n (Array.replicate l.toArray.size false)=n:=by
    unfold left;rw [List.filter_eq_self.2]
    · simp
    · intro j hj;have := List.mem_range.1 hj;rw [getD_in (by simp; omega) (getD_replicate_false _ _)]
      rfl
  have h := sG (P := P) (Q := Q) (E := E) (C := C) (a₀ := a₀) tail (by simpa using htl) hok htail step fin n (Array.replicate l.toArray.size false) a₀ { w with drawn := w.drawn + 1 } hleft inv0 hC
    ⟨rfl,rfl,fun _ _=>rfl,fun j _ hl=>(by rw [getD_replicate_false] at hl;cases hl)⟩
  rwa [show n+(l.toArray.size - n)=l.toArray.size from by simp;omega] at h
end
end Go.Proofs.Ytobggnpnochnnaa.V
/- Memory as my logic sees it: what a step leaves as it was,cells,blocks,slices that read as lists;what each operation gives. -/
namespace Go.Proofs.Ytobggnpnochnnaa.V
open Go.RowKit
structure Ch (M:Nat→Prop) (w w':World):Prop where
  os:w'.os=w.os
  tape:w'.tape=w.tape
  output:w'.output=w.output
  size:w.heap.size≤w'.heap.size
  block:∀ k,k < w.heap.size→¬ M k→w'.heap[k]?=w.heap[k]?
def No:Nat→Prop:=fun _=>False
theorem Ch.refl {M:Nat→Prop} (w:World):Ch M w w:=⟨rfl,rfl,rfl,Nat.le_refl _,fun _ _ _=>rfl⟩
theorem Ch.trans {M M' M'':Nat→Prop} {w w1 w2:World} (h:Ch M w w1) (k:Ch M' w1 w2) (hM:∀ k,k < w.heap.size→M k∨M' k→M'' k):Ch M'' w w2 :=
  ⟨k.os.trans h.os,k.tape.trans h.tape,k.output.trans h.output,Nat.le_trans h.size k.size,fun i hi hm =>
    (k.block i (Nat.lt_of_lt_of_le hi h.size) (fun e=>hm (hM i hi (.inr e)))).trans (h.block i hi (fun e=>hm (hM i hi (.inl e))))⟩
theorem Ch.then {M:Nat→Prop} {w w1 w2:World} (h:Ch M w w1) (k:Ch No w1 w2):Ch M w w2:=h.trans k fun _ _ e=>e.elim id False.elim
theorem Ch.own {M M':Nat→Prop} {w w1 w2:World} (h:Ch M w w1) (k:Ch M' w1 w2) (hM:∀ k,M' k→w.heap.size≤k):Ch M w w2:=h.trans k fun i hi e=>e.elim id fun e=>absurd (hM i e) (by omega)
theorem Ch.same {M:Nat→Prop} {w w1 w2:World} (h:Ch M w w1) (k:Ch M w1 w2):Ch M w w2:=h.trans k fun _ _ e=>e.elim id id
theorem Ch.mono {M M':Nat→Prop} {w w1:World} (h:Ch M w w1) (hM:∀ k,M k→M' k):Ch M' w w1:=⟨h.os,h.tape,h.output,h.size,fun k hk hm=>h.block k hk fun e=>hm (hM k e)⟩
theorem Ch.drew {M:Nat→Prop} {w w1:World} (h:Ch M w w1):Ch M w { w1 with drawn:=w1.drawn+1 }:=⟨h.os,h.tape,h.output,h.size,h.block⟩
theorem Ch.ur {w w':World} (h:Below w.heap.size w w'):Ch No w w':=⟨h.os,h.tape,h.output,h.size,fun k hk _=>h.block k hk⟩
theorem Ch.below {w w':World} (h:Ch No w w'):Below w.heap.size w w':=⟨h.os,h.tape,h.output,h.size,fun k hk=>h.block k hk id⟩
theorem Ch.alloc (w:World) (o:Obj):Ch No w (w.alloc o):=.ur ((Below.refl _ _).alloc (Nat.le_refl _) o)
theorem Ch.set (w:World) (b o:Nat) (u:Value):Ch (fun k=>k=b) w (w.setCell ⟨b,o,none⟩ u) :=
  ⟨rfl,rfl,rfl,by simp [World.setCell],fun _ _ hm=>Below.heap_setCell _ _ _ _ hm⟩
theorem Ch.lT {w w':World} {row:Option Nat} (h:w.grownBy w' row):Ch (fun k=>row=some k) w w':=⟨h.os,h.tape,h.output,h.size,fun k hk hm=>h.block k hk fun e=>hm e.symm⟩
def Kp (D:Nat→Prop) (h h':Array Obj):Prop:=h.size≤h'.size∧∀ k,k < h.size→D k→h'[k]?=h[k]?
theorem Ch.kp {M D:Nat→Prop} {w w':World} (h:Ch M w w') (hd:∀ k,k < w.heap.size→D k→¬ M k):Kp D w.heap w'.heap:=⟨h.size,fun k hk hD=>h.block k hk (hd k hk hD)⟩
def df (h:Array Obj) (b o:Nat):Option Value:=match h[b]? with | some (.cells c _ _)=>c[o]? | _=>none
theorem uI {D:Nat→Prop} {h h':Array Obj} (k:Kp D h h') {b o:Nat} {v:Value} (hD:D b) (hc:df h b o=some v):df h' b o=some v:=by
  have hlt:b < h.size:=by
    rcases Nat.lt_or_ge b h.size with g | g
    · exact g
    · simp [df,Array.getElem?_eq_none g] at hc
  unfold df at *;rw [k.2 b hlt hD];exact hc
def Blk (h:Array Obj) (b:Nat) (cs:List Value) (e:TypeId):Prop:=h[b]?=some (.cells cs.toArray e (0,0))
theorem Blk.lt {h:Array Obj} {b:Nat} {cs:List Value} {e:TypeId} (k:Blk h b cs e):b < h.size:=by
  rcases Nat.lt_or_ge b h.size with g | g
  · exact g
  · unfold Blk at k;rw [Array.getElem?_eq_none g] at k;cases k
theorem Blk.keep {D:Nat→Prop} {h h':Array Obj} {b:Nat} {cs:List Value} {e:TypeId} (k:Blk h b cs e) (g:Kp D h h') (hD:D b):Blk h' b cs e:=(g.2 b k.lt hD).trans k
theorem Blk.kp {M:Nat→Prop} {w w':World} {b:Nat} {cs:List Value} {e:TypeId} (k:Blk w.heap b cs e) (g:Ch M w w') (hb:¬ M b):Blk w'.heap b cs e:=k.keep (D:=fun k=>k=b) (g.kp fun _ _ e=>by subst e;exact hb) rfl
theorem Blk.cell {h:Array Obj} {b j:Nat} {cs:List Value} {e:TypeId} {v:Value} (k:Blk h b cs e) (hj:cs[j]?=some v):df h b j=some v:=by
  unfold df;rw [show h[b]?=_ from k];simpa using hj
theorem Blk.set {w:World} {b o:Nat} {cs:List Value} {e:TypeId} (u:Value) (k:Blk w.heap b cs e):Blk (w.setCell ⟨b,o,none⟩ u).heap b (cs.set o u) e:=by
  unfold Blk at *;simp only [World.setCell,Array.getElem?_modify,if_pos,k,Option.map_some];simp
theorem Blk.new (w:World) (cs:List Value) (e:TypeId):Blk (w.alloc (.cells cs.toArray e)).heap w.heap.size cs e:=heap_alloc_new w _
def blk (a:Option Addr):Nat:=(a.getD ⟨0,0,none⟩).block
def off (a:Option Addr):Nat:=(a.getD ⟨0,0,none⟩).off
structure Enc (α:Type) where
  n:Nat
  cells:α→List Value
  aa:α
  wf:(Nat→Prop)→Array Obj→α→Prop
  len:∀ x,(cells x).length=n
  one:∀ x,∀ u∈cells x,u.oneCell'=true
  keep:∀ {D h h' x},Kp D h h'→wf D h x→wf D h' x
  mono:∀ {D D' h x},(∀ k,k < h.size→D k→D' k)→wf D h x→wf D' h x
structure LAt {α:Type} (E:Enc α) (D:Nat→Prop) (h:Array Obj) (a:Option Addr) (xs:List α):Prop where
  len:xs.length≤maxLen
  ad:0 < xs.length→a=some ⟨blk a,off a,none⟩∧D (blk a)∧blk a < h.size
  cell:∀ i,i < xs.length→∀ j v,(E.cells (xs.getD i E.aa))[j]?=some v→df h (blk a) (off a+i * E.n+j)=some v
  wf:∀ i,i < xs.length→E.wf D h (xs.getD i E.aa)
section
variable {α:Type} {E:Enc α} {D D':Nat→Prop} {h h':Array Obj} {a:Option Addr} {xs:List α}
theorem LAt.keep (l:LAt E D h a xs) (k:Kp D h h'):LAt E D h' a xs :=
  ⟨l.len,fun h0=>⟨(l.ad h0).1,(l.ad h0).2.1,Nat.lt_of_lt_of_le (l.ad h0).2.2 k.1⟩,fun i hi j v hv=>uI k (l.ad (by omega)).2.1 (l.cell i hi j v hv),fun i hi=>E.keep k (l.wf i hi)⟩
theorem LAt.mono (l:LAt E D h a xs) (hD:∀ k,k < h.size→D k→D' k):LAt E D' h a xs :=
  ⟨l.len,fun h0=>⟨(l.ad h0).1,hD _ (l.ad h0).2.2 (l.ad h0).2.1,(l.ad h0).2.2⟩,l.cell,fun i hi=>E.mono hD (l.wf i hi)⟩
theorem LAt.nil:LAt E D h a []:=⟨by simp [maxLen],fun h=>by simp at h,fun i hi=>by simp at hi,fun i hi=>by simp at hi⟩
theorem LAt.adr (l:LAt E D h a xs) {i:Nat} (hi:i < xs.length):a=some ⟨blk a,off a,none⟩:=(l.ad (by omega)).1
theorem LAt.sub (l : LAt E D h a xs) (i j : Nat) (hij : i ≤ j) (hj : j ≤ xs.length) (a' : Option Addr) (ha : i < j → a' = some ⟨blk a, off a + i * E.n, none⟩) :
    LAt E D h a' ((xs.take j).drop i):=by
  have hl:((xs.take j).drop i).length=j - i:=by simp;omega
  have hg:∀ k,k < j - i→((xs.take j).drop i).getD k E.aa=xs.getD (i+k) E.aa:=fun k hk=>by
    simp only [List.getD_eq_getElem?_getD,List.getElem?_drop];rw [List.getElem?_take_of_lt (by omega)]
  refine ⟨by have:=l.len;omega,fun h0=>?_,fun k hk m v hv=>?_,fun k hk=>?_⟩
  · have h1:=ha (by omega);have h2:=l.ad (by omega);rw [h1];exact ⟨rfl,h2.2⟩
  · rw [hl] at hk;rw [hg k hk] at hv;have h1:=l.cell (i+k) (by omega) m v hv;have h3:=ha (by omega);rw [h3];show df h (blk a) (off a+i * E.n+k * E.n+m)=_;rw [show off a+i * E.n+k * E.n+m=off a+(i+k) * E.n+m from by rw [Nat.add_mul];omega];exact h1
  · rw [hl] at hk;rw [hg k hk];exact l.wf _ (by omega)
theorem LAt.take (l:LAt E D h a xs) (j:Nat) (hj:j≤xs.length):LAt E D h a (xs.take j) :=
  l.sub 0 j (Nat.zero_le _) hj a fun h0=>by rw [Nat.zero_mul,Nat.add_zero];exact l.adr (i:=0) (by omega)
theorem LAt.drop (l:LAt E D h a xs) (i:Nat) (hi:i≤xs.length) (a':Option Addr) (ha:i < xs.length→a'=some ⟨blk a,off a+i * E.n,none⟩):LAt E D h a' (xs.drop i):=by
  have:=l.sub i xs.length hi (Nat.le_refl _) a' ha
  rwa [List.take_length] at this
theorem LAt.fO (l:LAt E D h a xs) (m:Nat) (hm:m < xs.length) (cs:List Value) (hcs:E.cells (xs.getD m E.aa)=cs) (o:Nat) (ho:off a+m * E.n=o):∀ j v,cs[j]?=some v→df h (blk a) (o+j)=some v:=by
  subst hcs ho;exact l.cell m hm
end
structure Sl (α:Type) where
  a:Option Addr
  c:Nat
  xs:List α
def slE {α:Type} (E:Enc α):Enc (Sl α) where
  n:=1
  cells s:=[.slice s.a s.xs.length s.c]
  aa:=⟨none,0,[]⟩
  wf D h s:=LAt E D h s.a s.xs∧s.xs.length≤s.c∧(s.a=none→s.c=0)
  len _:=rfl
  one _ u hu:=by simp at hu;subst hu;rfl
  keep k h:=⟨h.1.keep k,h.2⟩
  mono k h:=⟨h.1.mono k,h.2⟩
theorem cg {α:Type} {E:Enc α} {D:Nat→Prop} {h:Array Obj}:(slE E).wf D h ⟨none,0,[]⟩:=⟨LAt.nil,Nat.le_refl _,fun _=>rfl⟩
theorem kY {α:Type} {E:Enc α} {D:Nat→Prop} {h:Array Obj} {s:Sl α} (H:(slE E).wf D h s) (m:Nat) (hm:m≤s.xs.length):(slE E).wf D h ⟨s.a,s.c,s.xs.take m⟩ :=
  ⟨H.1.take m hm,by have:=H.2.1;simp;omega,H.2.2⟩
abbrev ah (x:Int):Prop:=-9223372036854775808≤x∧x≤9223372036854775807
abbrev eL (x:Int):Prop:=0≤x∧x≤4294967295
abbrev iA (x:Int):Prop:=0≤x∧x≤255
abbrev BS:=Nat→Prop
def one (b:Nat):BS:=fun k=>k=b
def In : List BS → Nat → Prop
  | []=>fun _=>False
  | o::r=>fun k=>o k∨In r k
theorem cw {o : BS} {k : Nat} : ∀ {ms : List BS}, o ∈ ms → o k → In ms k
  | _::_,h,hk=>(List.mem_cons.1 h).elim (fun e=>.inl (e▸hk)) fun h=>.inr (cw h hk)
theorem rA {k : Nat} : ∀ {ms : List BS}, In ms k → ∃ o, o ∈ ms ∧ o k
  | _::_,.inl h=>⟨_,List.mem_cons_self,h⟩
  | _::_,.inr h=>let ⟨o,h1,h2⟩:=rA h;⟨o,List.mem_cons_of_mem _ h1,h2⟩
theorem jF {m0 ms:List BS} (hs:∀ o,o∈m0→o∈ms) {k:Nat} (h:In m0 k):In ms k:=let ⟨_,h1,h2⟩:=rA h;cw (hs _ h1) h2
theorem aK {k : Nat} : ∀ {a b : List BS}, In (a ++ b) k ↔ In a k ∨ In b k
  | [],b=>⟨.inr,fun h=>h.elim False.elim id⟩
  | o::a,b=>by
    show o k∨In (a++b) k↔(o k∨In a k)∨In b k;rw [aK (a:=a),or_assoc]
def Fr (F:Nat→Prop) (ms:List BS):Nat→Prop:=fun k=>¬ In ms k∧¬ F k
def Ex (F:Nat→Prop) (ms:List BS):Nat→Prop:=fun k=>In ms k∨F k
def abk (a:Option Addr):BS:=fun k=>a.map (·.block)=some k
def Sep : List BS → Prop
  | []=>True
  | o::r=>(∀ k,o k→¬ In r k)∧Sep r
structure MS (ms:List BS) (w:World):Prop where
  lt:∀ k,In ms k→k < w.heap.size
  sep:Sep ms
theorem MS.nil (w:World):MS [] w:=⟨fun _ h=>h.elim,trivial⟩
theorem Sep.ne : ∀ {ms : List BS} (_ : Sep ms) (i j : Nat) (_ : i ≠ j) {o o' : BS} (_ : ms[i]? = some o) (_ : ms[j]? = some o') {k : Nat} (_ : o k), ¬ o' k
  | [],_,i,_,_,_,_,h,_,_,_=>by simp at h
  | o::r,s,0,0,h,_,_,_,_,_,_=>absurd rfl h
  | o::r,s,0,j+1,_,_,_,h1,h2,k,hk=>by
    simp at h1 h2;subst h1;exact fun hk'=>s.1 k hk (cw (List.mem_of_getElem? h2) hk')
  | o::r,s,i+1,0,_,_,_,h1,h2,k,hk=>by
    simp at h1 h2;subst h2;exact fun hk'=>s.1 k hk' (cw (List.mem_of_getElem? h1) hk)
  | o::r,s,i+1,j+1,h,_,_,h1,h2,_,hk=>s.2.ne i j (by omega) (by simpa using h1) (by simpa using h2) hk
def cj (ms:List BS) (is:List Nat):List BS:=is.filterMap fun i=>ms[i]?
theorem Sep.out {ms:List BS} (s:Sep ms) (i:Nat) (is:List Nat) (h:is.contains i=false) {o:BS} (hi:ms[i]?=some o) {k:Nat} (hk:o k):¬ In (cj ms is) k:=by
  intro hm;obtain ⟨o',h1,h2⟩:=rA hm;obtain ⟨j,hj,h3⟩:=List.mem_filterMap.1 h1;have:i≠j:=by rintro rfl;rw [List.contains_iff_mem.2 hj] at h;cases h
  exact s.ne i j this hi h3 hk h2
structure Tr (ms:List BS) (w:World) (ms':List BS) (w':World):Prop where
  ch:Ch (In ms) w w'
  sub:∀ k,In ms' k→In ms k∨w.heap.size≤k
  ms:MS ms' w'
section
variable {F:Nat→Prop} {ms ms' ms'':List BS} {w w' w'':World} {α:Type} {E:Enc α} {x:α}
theorem Tr.refl (h:MS ms w):Tr ms w ms w:=⟨Ch.refl w,fun _=>.inl,h⟩
theorem Tr.size (t:Tr ms w ms' w'):w.heap.size≤w'.heap.size:=t.ch.size
theorem Tr.trans (t:Tr ms w ms' w') (u:Tr ms' w' ms'' w''):Tr ms w ms'' w'' :=
  ⟨⟨u.ch.os.trans t.ch.os,u.ch.tape.trans t.ch.tape,u.ch.output.trans t.ch.output,Nat.le_trans t.size u.size,fun k hk hn =>
    (u.ch.block k (Nat.lt_of_lt_of_le hk t.size) fun h=>(t.sub k h).elim hn fun e=>absurd e (by omega)).trans (t.ch.block k hk hn)⟩,
   fun k h=>(u.sub k h).elim (fun h=>t.sub k h) fun e=>.inr (Nat.le_trans t.size e),u.ms⟩
theorem Enc.tr (E:Enc α) (H:E.wf (Fr F ms) w.heap x) (t:Tr ms w ms' w'):E.wf (Fr F ms') w'.heap x:=by
  have h1:E.wf (fun k=>k < w.heap.size∧Fr F ms k) w.heap x:=E.mono (fun k hk h=>⟨hk,h⟩) H;have h2:=E.keep (h':=w'.heap) ⟨t.size,fun k hk h=>t.ch.block k hk h.2.1⟩ h1;exact E.mono (fun k _ h=>⟨fun hm=>(t.sub k hm).elim h.2.1 fun e=>absurd e (by have:=h.1;omega),h.2.2⟩) h2
theorem Enc.up (E:Enc α) (H:E.wf (Fr (Ex F ms) ms') w.heap x):E.wf (Fr F ms) w.heap x:=E.mono (fun _ _ h=>⟨fun e=>h.2 (.inl e),fun e=>h.2 (.inr e)⟩) H
theorem Enc.kp (E:Enc α) {chg:List BS} (H:E.wf (Fr F ms) w.heap x) (g:Ch (In chg) w w') (hs:∀ o,o∈chg→o∈ms):E.wf (Fr F ms) w'.heap x :=
  E.keep (g.kp fun k _ h hm=>h.1 (jF hs hm)) H
def Old (F:Nat→Prop) (w:World):Prop:=∀ k,F k→k < w.heap.size
theorem Tr.old (t:Tr ms w ms' w') (h:Old F w):Old (Ex F ms') w':=fun k e=>e.elim (t.ms.lt k) fun e=>Nat.lt_of_lt_of_le (h k e) t.size
theorem yn (w:World):Old No w:=fun _ h=>h.elim
theorem Tr.uq {chg:List BS} (h:MS ms w) (g:Ch (In chg) w w') (hs:∀ o,o∈chg→o∈ms):Tr ms w ms w' :=
  ⟨g.mono fun k hk=>jF hs hk,fun _=>.inl,⟨fun k hk=>Nat.lt_of_lt_of_le (h.lt k hk) g.size,h.sep⟩⟩
theorem Tr.iK (h:MS ms w) (g:Ch (In []) w w'):Tr ms w ms w':=Tr.uq h g fun _ h=>by simp at h
theorem Sep.filter {p : Nat → Bool} : ∀ {ms : List BS} (is : List Nat) (_ : Sep ms), is.Pairwise (· < ·) → Sep (cj ms is)
  | ms,[],_,_=>trivial
  | ms,i::is,s,hp=>by
    have ih:=Sep.filter (p:=p) (ms:=ms) is s (List.pairwise_cons.1 hp).2;unfold cj
    cases h:ms[i]? with
    | none=>rw [List.filterMap_cons,h];exact ih
    | some o =>
      rw [List.filterMap_cons,h];refine ⟨fun k hk hm=>?_,ih⟩;refine s.out i is ?_ h hk hm
      cases hc:is.contains i
      · rfl
      · have:=(List.pairwise_cons.1 hp).1 i (List.contains_iff_mem.1 hc);omega
theorem ss {is:List Nat} {o:BS} (h:o∈cj ms is):o∈ms:=by
  obtain ⟨j,_,h2⟩:=List.mem_filterMap.1 h;exact List.mem_of_getElem? h2
theorem dR {is:List Nat} {k:Nat} (h:In (cj ms is) k):In ms k:=jF (fun _=>ss) h
theorem MS.cj (h:MS ms w) (is:List Nat) (hi:is.Pairwise (· < ·)):MS (V.cj ms is) w:=⟨fun k hk=>h.lt k (dR hk),Sep.filter (p:=fun _=>true) is h.sep hi⟩
theorem MS.cons {b:BS} (h:MS ms w) (hb:∀ k,b k→k < w.heap.size∧¬ In ms k):MS (b::ms) w :=
  ⟨fun k hk=>hk.elim (fun e=>(hb k e).1) (h.lt k),fun k hk=>(hb k hk).2,h.sep⟩
theorem Tr.cons {b:BS} (t:Tr ms w ms' w') (hb:∀ k,b k→w.heap.size≤k∧k < w'.heap.size∧¬ In ms' k):Tr ms w (b::ms') w' :=
  ⟨t.ch,fun k hk=>hk.elim (fun e=>.inr (hb k e).1) (t.sub k),t.ms.cons fun k e=>(hb k e).2⟩
theorem Tr.frame {m0 nw:List BS} (h:MS ms w) (t:Tr m0 w (nw++m0) w') (hs:∀ o,o∈m0→o∈ms):Tr ms w (nw++ms) w':=by
  have hnew:∀ k,In nw k→w.heap.size≤k∧k < w'.heap.size:=fun k hk=>by
    refine ⟨?_,t.ms.lt k (aK.2 (.inl hk))⟩
    rcases t.sub k (aK.2 (.inl hk)) with h1 | h1
    · have:∀ (nw:List BS),Sep (nw++m0)→In nw k→False:=by
        intro nw
        induction nw with
        | nil=>intro _ h;exact h
        | cons o r ih =>
          intro s hm
          rcases hm with e | e
          · exact s.1 k e (aK.2 (.inr h1))
          · exact ih s.2 e
      exact (this nw t.ms.sep hk).elim
    · exact h1
  refine ⟨t.ch.mono fun k hk=>jF hs hk,fun k hk=>?_,⟨fun k hk=>?_,?_⟩⟩
  · rcases aK.1 hk with h1 | h1
    · exact .inr (hnew k h1).1
    · exact .inl h1
  · rcases aK.1 hk with h1 | h1
    · exact (hnew k h1).2
    · exact Nat.lt_of_lt_of_le (h.lt k h1) t.size
  · have:∀ (nw:List BS),Sep (nw++m0)→(∀ k,In nw k→w.heap.size≤k)→Sep (nw++ms):=by
      intro nw
      induction nw with
      | nil=>intro _ _;exact h.sep
      | cons o r ih =>
        intro s hn;refine ⟨fun k hk hm=>?_,ih s.2 fun k hk=>hn k (.inr hk)⟩
        rcases aK.1 hm with h1 | h1
        · exact s.1 k hk (aK.2 (.inl h1))
        · have:=hn k (.inl hk);have:=h.lt k h1;omega
    exact this nw t.ms.sep fun k hk=>(hnew k hk).1
theorem Tr.in (t:Tr ms w ms' w'):Ch (In ms) w w':=t.ch
theorem Blk.tr {b:Nat} {cs:List Value} {e:TypeId} {chg:List BS} (k:Blk w.heap b cs e) (g:Ch (In chg) w w') (hb:¬ In chg b):Blk w'.heap b cs e:=k.kp g hb
end
section
variable {P:Program} {a:Act} {w:World} {d:Option Tmp} {ty:TypeId} {pos:String} {af:Array Edge} {g:Option (Nat × Bool)}
theorem nG {k : IntKind} {z r lo hi : Int} (hk : k.signed = true ∧ (k.bits = 64 ∧ lo = -9223372036854775808 ∧ hi = 9223372036854775807 ∨ k.bits = 32 ∧ lo = -2147483648 ∧ hi = 2147483647) ∨ k.signed = false ∧ (k.bits = 64 ∧ lo = 0 ∧ hi = 18446744073709551615 ∨ k.bits = 32 ∧ lo = 0 ∧ hi = 4294967295 ∨ k.bits = 16 ∧ lo = 0 ∧ hi = 65535 ∨ k.bits = 8 ∧ lo = 0 ∧ hi = 255))
    (h:z=r∧lo≤r∧r≤hi):k.wrap z=r:=by
  obtain ⟨rfl,h1,h2⟩:=h
  rcases hk with ⟨hs,h | h⟩ | ⟨hs,h | h | h | h⟩ <;> (obtain ⟨hb,rfl,rfl⟩:=h;unfold IntKind.wrap;rw [hs,hb];simp;try omega)
theorem bu {z r:Int} (h:z=r ∧ -9223372036854775808≤r∧r≤9223372036854775807):IntKind.i64.wrap z=r:=nG (.inl ⟨rfl,.inl ⟨rfl,rfl,rfl⟩⟩) h
theorem xd {z r:Int} (h:z=r∧0≤r∧r≤18446744073709551615):IntKind.u64.wrap z=r:=nG (.inr ⟨rfl,.inl ⟨rfl,rfl,rfl⟩⟩) h
theorem ln {z r:Int} (h:z=r∧0≤r∧r≤4294967295):IntKind.u32.wrap z=r:=nG (.inr ⟨rfl,.inr (.inl ⟨rfl,rfl,rfl⟩)⟩) h
theorem aB {x:Operand} {v:Value} (hx:a.eval x=v):(execOp a.eval ⟨d,.move x,ty,pos,af,g⟩).run P w = .ok (.value v) w:=by simp [execOp,hx]
theorem gJ {x:Operand} {v:Value} (hx:a.eval x=v):(execOp a.eval ⟨d,.assign x,ty,pos,af,g⟩).run P w = .ok (.value v) w:=by simp [execOp,hx]
theorem dh {c x y:Operand} {v:Value} (hc:a.eval c = .bool true) (hx:a.eval x=v):(execOp a.eval ⟨d,.pick c x y,ty,pos,af,g⟩).run P w = .ok (.value v) w:=by
  simp [execOp,hc,hx,asBool]
theorem bC {c x y:Operand} {v:Value} (hc:a.eval c = .bool false) (hx:a.eval y=v):(execOp a.eval ⟨d,.pick c x y,ty,pos,af,g⟩).run P w = .ok (.value v) w:=by
  simp [execOp,hc,hx,asBool]
section
variable {x y:Operand} {xt yt:TypeId} {k:IntKind} {m p r:Int} (hx:a.eval x = .int k m) (hy:a.eval y = .int k p)
include hx hy
theorem xb (hr:k.wrap (m+p)=r):(execOp a.eval ⟨d,.binOp .add xt x y yt,ty,pos,af,g⟩).run P w = .ok (.value (.int k r)) w:=by simp [execOp,eqGuard,binOp,Op.intArith,hx,hy,hr]
theorem qK (hr:k.wrap (m - p)=r):(execOp a.eval ⟨d,.binOp .sub xt x y yt,ty,pos,af,g⟩).run P w = .ok (.value (.int k r)) w:=by simp [execOp,eqGuard,binOp,Op.intArith,hx,hy,hr]
theorem yX (h0:¬ p=0) (hr:m.tmod p=r):(execOp a.eval ⟨d,.binOp .rem xt x y yt,ty,pos,af,g⟩).run P w = .ok (.value (.int k r)) w:=by simp [execOp,eqGuard,binOp,Op.intDiv,hx,hy,hr,h0]
theorem jo:(execOp a.eval ⟨d,.binOp .lss xt x y yt,ty,pos,af,g⟩).run P w = .ok (.value (.bool (decide (m < p)))) w:=by simp [execOp,eqGuard,binOp,Op.intCmp,hx,hy]
theorem tu:(execOp a.eval ⟨d,.binOp .leq xt x y yt,ty,pos,af,g⟩).run P w = .ok (.value (.bool (decide (m≤p)))) w:=by simp [execOp,eqGuard,binOp,Op.intCmp,hx,hy]
theorem iv:(execOp a.eval ⟨d,.binOp .gtr xt x y yt,ty,pos,af,g⟩).run P w = .ok (.value (.bool (decide (p < m)))) w:=by simp [execOp,eqGuard,binOp,Op.intCmp,hx,hy]
theorem gr:(execOp a.eval ⟨d,.binOp .geq xt x y yt,ty,pos,af,g⟩).run P w = .ok (.value (.bool (decide (p≤m)))) w:=by simp [execOp,eqGuard,binOp,Op.intCmp,hx,hy]
theorem dG:(execOp a.eval ⟨d,.binOp .eql xt x y yt,ty,pos,af,g⟩).run P w = .ok (.value (.bool (decide (m=p)))) w:=by
  rw [show decide (m=p)=(m == p) from rfl];simp [execOp,eqGuard,binOp,Op.intCmp,hx,hy]
theorem fX:(execOp a.eval ⟨d,.binOp .neq xt x y yt,ty,pos,af,g⟩).run P w = .ok (.value (.bool (decide (¬ m=p)))) w:=by
  have:(decide (¬ m=p))=(m != p):=by rw [decide_not];rfl
  rw [this];simp [execOp,eqGuard,binOp,Op.intCmp,hx,hy]
end
theorem kM (s:ByteArray):s.toList=s.data.toList:=ByteArray.toList_eq s
theorem Ar (s t:ByteArray):(s.toList == t.toList)=decide (s=t):=by
  have h:s.toList=t.toList↔s=t:=⟨fun h=>by
    rw [kM,kM] at h
    cases s;cases t;congr 1;exact Array.ext' h,fun h=>by rw [h]⟩
  by_cases e:s=t
  · subst e;simp
  · have:¬ s.toList=t.toList:=fun h'=>e (h.1 h');simp [e,this]
theorem xQ {x y:Operand} {xt yt:TypeId} {s t:ByteArray} (hx:a.eval x = .string s) (hy:a.eval y = .string t):(execOp a.eval ⟨d,.binOp .eql xt x y yt,ty,pos,af,g⟩).run P w = .ok (.value (.bool (decide (s=t)))) w:=by
  rw [← Ar];simp [execOp,eqGuard,binOp,Op.stringOp,hx,hy]
theorem gI {x:Operand} {xt:TypeId} {b:Bool} (hx:a.eval x = .bool b):(execOp a.eval ⟨d,.unOp .not xt x,ty,pos,af,g⟩).run P w = .ok (.value (.bool (!b))) w:=by simp [execOp,Op.unary,hx]
theorem gz {x:Operand} {xt:TypeId} {q:Prop} [Decidable q] (hx:a.eval x = .bool (decide q)):(execOp a.eval ⟨d,.unOp .not xt x,ty,pos,af,g⟩).run P w = .ok (.value (.bool (decide (¬ q)))) w:=by
  rw [decide_not];simp [execOp,Op.unary,hx]
theorem qL {op : BinOp} {x y : Operand} {xt yt : TypeId} {u v r : Value} (hx : a.eval x = u) (hy : a.eval y = v) (hg : (eqGuard op xt x y u v).run P w = .ok () w) (h : (binOp op xt u v).run P w = .ok r w) :
    (execOp a.eval ⟨d,.binOp op xt x y yt,ty,pos,af,g⟩).run P w = .ok (.value r) w:=by
  unfold execOp;simp only [hx,hy,Sem.run_bind,hg,h,Result.andThen_ok,Sem.run_pure]
theorem xT {x y:Operand} {xt yt:TypeId} {b c:Bool} (hu:P.underlying xt=some .bool) (hx:a.eval x = .bool b) (hy:a.eval y = .bool c):(execOp a.eval ⟨d,.binOp .eql xt x y yt,ty,pos,af,g⟩).run P w = .ok (.value (.bool (decide (b=c)))) w:=by
  refine qL hx hy (by simp [eqGuard]) ?_;rw [run_eql_bool w xt b c hu];cases b <;> cases c <;> rfl
theorem di {x : Operand} {src dst : TypeId} {k k' : IntKind} {m r : Int} {ds : TypeDesc} (hs : P.underlying src = some ds) (hd : P.underlying dst = some (.int k)) (hx : a.eval x = .int k' m) (hr : k.wrap m = r) :
    (execOp a.eval ⟨d,.convert src dst x,ty,pos,af,g⟩).run P w = .ok (.value (.int k r)) w:=by
  simp [execOp,convert,run_underlying hs,run_underlying hd,hx,Conv.intToInt,hr]
theorem iU {x:Operand} {vs:Array Value} {i:Nat} {v:Value} (hx:a.eval x = .tuple vs) (hv:vs[i]?=some v):(execOp a.eval ⟨d,.extract x i,ty,pos,af,g⟩).run P w = .ok (.value v) w:=by
  simp [execOp,Instr.extract,hx,hv]
theorem eb {x : Operand} {t e : TypeId} {s : Option Addr} {n c : Nat} (ht : P.underlying t = some (.slice e)) (hx : a.eval x = .slice s n c) :
    (execOp a.eval ⟨d,.call ⟨.builtin .len,#[x],#[t]⟩,ty,pos,af,g⟩).run P w = .ok (.value (.int .i64 n)) w:=by
  simp [execOp,resolve,invoke,builtin,Builtin.len_,run_underlying ht,hx,goInt]
theorem fI (b o n:Nat):(⟨b,o,none⟩:Addr).add n=⟨b,o+n,none⟩:=by unfold Addr.add;split <;> simp_all
theorem br {x y : Operand} {t e : TypeId} {s : Option Addr} {n c b o sz : Nat} {k : IntKind} {i : Int} (ht : P.underlying t = some (.slice e)) (hsz : (P.info? e).map (·.size) = some sz) (hx : a.eval x = .slice s n c) (hy : a.eval y = .int k i) (m : Nat) (hm : i = (m : Int)) (hlt : m < n) (hs : s = some ⟨b, o, none⟩) :
    (execOp a.eval ⟨d,.indexAddr t x y,ty,pos,af,g⟩).run P w = .ok (.value (.pointer (some ⟨b,o+m * sz,none⟩))) w:=by
  subst hs hm
  cases hi:P.info? e with
  | none=>simp [hi] at hsz
  | some ie =>
    have h1:ie.size=sz:=by simpa [hi] using hsz
    simp [execOp,Instr.indexAt,run_underlying ht,hx,hy,asIntOf,sizeOf,typeInfo,hi,h1,hlt,fI]
theorem aT {x : Operand} {s : TypeId} {fs : Array Field} {i b z : Nat} {f : Field} (o fo : Nat) (hu : P.underlying s = some (.struct fs)) (hf : fs[i]? = some f) (hfo : f.offset = fo) (hz : (P.info? f.type).map (·.size) = some (z + 1)) (hx : a.eval x = .pointer (some ⟨b, o, none⟩)) :
    (execOp a.eval ⟨d,.fieldAddr s x i,ty,pos,af,g⟩).run P w = .ok (.value (.pointer (some ⟨b,o+fo,none⟩))) w:=by
  subst hfo
  cases hi:P.info? f.type with
  | none=>simp [hi] at hz
  | some ie =>
    have h1:ie.size=z+1:=by simpa [hi] using hz
    simp [execOp,Instr.fieldAt,run_underlying hu,hf,hx,Instr.sureAddr,fieldPlace,sizeOf,typeInfo,hi,h1,fI]
def dc (P:Program) (t:TypeId):Prop:=∃ ds,P.underlying t=some ds∧(match ds with | .struct _ | .array _ _=>false | _=>true)=true
def iS (P:Program) (t:TypeId) (n:Nat):Prop:=∃ ds,P.underlying t=some ds∧(match ds with | .struct _ | .array _ _=>true | _=>false)=true∧(P.info? t).map (·.size)=some n
theorem gO {t:TypeId} (h:dc P t):(isAgg t).run P w = .ok false w:=by
  obtain ⟨ds,h1,h2⟩:=h;unfold isAgg;rw [Sem.run_bind,run_underlying h1 w]
  cases ds <;> simp_all
theorem lJ {t:TypeId} {n:Nat} (h:iS P t n):(isAgg t).run P w = .ok true w:=by
  obtain ⟨ds,h1,h2,_⟩:=h;unfold isAgg;rw [Sem.run_bind,run_underlying h1 w]
  cases ds <;> simp_all
theorem aq {x : Operand} {t : TypeId} {b o : Nat} {v : Value} (hs : dc P t) (hx : a.eval x = .pointer (some ⟨b, o, none⟩)) (hc : df w.heap b o = some v) :
    (execOp a.eval ⟨d,.load t x,ty,pos,af,g⟩).run P w = .ok (.value v) w:=by
  have hc':w.cell? ⟨b,o,none⟩=some v:=hc;simp [execOp,Instr.loadAt,hx,Instr.sureAddr,loadVar,gO hs,hc']
theorem fj {t : TypeId} {b o : Nat} (cs : List Value) (hs : iS P t cs.length) (hc : ∀ j v, cs[j]? = some v → df w.heap b (o + j) = some v) :
    (loadVar t ⟨b,o,none⟩).run P w = .ok (.agg cs.toArray) w:=by
  have hl:=run_loadCells_list (P:=P) w ⟨b,o,none⟩ cs (fun j v hv=>by rw [fI];exact hc j v hv);obtain ⟨ds,h1,h2,h3⟩:=id hs
  cases hi:P.info? t with
  | none=>simp [hi] at h3
  | some ie =>
    have h4:ie.size=cs.length:=by simpa [hi] using h3
    simp [loadVar,lJ hs,sizeOf,typeInfo,hi,h4,hl]
theorem kV {x : Operand} {t : TypeId} {b o : Nat} (cs : List Value) (hs : iS P t cs.length) (hx : a.eval x = .pointer (some ⟨b, o, none⟩)) (hc : ∀ j v, cs[j]? = some v → df w.heap b (o + j) = some v) :
    (execOp a.eval ⟨d,.load t x,ty,pos,af,g⟩).run P w = .ok (.value (.agg cs.toArray)) w:=by
  simp [execOp,Instr.loadAt,hx,Instr.sureAddr,fj cs hs hc]
theorem cU {x : Operand} {e : TypeId} {v : Value} (cs : List Value) (hx : a.eval x = v) (hv : v.cells = cs.toArray) :
    (execOp a.eval ⟨d,.box e x,ty,pos,af,g⟩).run P w = .ok (.value (.pointer (some ⟨w.heap.size,0,none⟩))) (w.alloc (.cells cs.toArray e)):=by
  simp [execOp,Instr.box,hx,newVar,newRow,hv]
theorem vK {e : TypeId} {z : Value} (cs : List Value) (hz : (P.info? e).bind (·.zero) = some z) (hv : z.cells = cs.toArray) :
    (execOp a.eval ⟨d,.alloc e,ty,pos,af,g⟩).run P w = .ok (.value (.pointer (some ⟨w.heap.size,0,none⟩))) (w.alloc (.cells cs.toArray e)):=by
  cases hi:P.info? e with
  | none=>simp [hi] at hz
  | some ie =>
    have h1:ie.zero=some z:=by simpa [hi] using hz
    simp [execOp,Instr.alloc,zeroValue,typeInfo,hi,h1,newVar,newRow,hv]
theorem mM {b o : Nat} {v u : Value} {cs : List Value} {e : TypeId} (h1 : v.oneCell' = true) (hb : Blk w.heap b cs e) (ho : cs[o]? = some u) (m : Mode) :
    (store ⟨b,o,none⟩ v m).run P w = .ok () (w.setCell ⟨b,o,none⟩ v):=by
  rw [run_store P w _ v m h1];have hc:w.cell? ⟨b,o,none⟩=some u:=hb.cell ho;have hf:w.frozen? ⟨b,o,none⟩=false:=by
    simp [World.frozen?,show w.heap[b]?=_ from hb]
  simp [hc,hf]
theorem nE {x y : Operand} {t : TypeId} {b o : Nat} {v u : Value} {cs : List Value} {e : TypeId} (hz : (P.info? t).map (·.size) = some 1) (hx : a.eval x = .pointer (some ⟨b, o, none⟩)) (hy : a.eval y = v) (h1 : v.oneCell' = true) (hb : Blk w.heap b cs e) (ho : cs[o]? = some u) :
    (execOp a.eval ⟨d,.store t x y,ty,pos,af,g⟩).run P w = .ok .skip (w.setCell ⟨b,o,none⟩ v):=by
  have hcs:v.cells = #[v]:=by cases v <;> simp [Value.oneCell'] at h1 <;> rfl
  cases hi:P.info? t with
  | none=>simp [hi] at hz
  | some ie =>
    have h2:ie.size=1:=by simpa [hi] using hz
    simp [execOp,Instr.storeAt,hx,hy,Instr.sureAddr,storeVar,hcs,sizeOf,typeInfo,hi,h2,storeCells,fI,mM h1 hb ho]
theorem vI {t : TypeId} {parts : Array (Nat × Operand)} (vs : List (Nat × Value)) (cs : List Value) (hv : parts.toList.map (fun p => (p.1, a.eval p.2)) = vs) (hb : P.built t vs = some cs.toArray) :
    (execOp a.eval ⟨d,.build t parts,ty,pos,af,g⟩).run P w = .ok (.value (.agg cs.toArray)) w:=by
  have h:=run_build (P:=P) w t (parts.map fun (i,x)=>(i,a.eval x)) cs.toArray (by
    have:(parts.map fun (i,x)=>(i,a.eval x)).toList=vs:=by rw [Array.toList_map,← hv]
    rw [this];exact hb)
  unfold execOp;simp only [Sem.run_bind,h,Result.andThen_ok,Sem.run_pure]
theorem tz {t e : TypeId} {len : Nat} {parts : Array (Nat × Operand)} (vs : List (Nat × Value)) (cs : List Value) (ie : TypeInfo) (z : Value) (ht : P.underlying t = some (.slice e)) (hie : P.info? e = some ie) (hz : ie.zero = some z) (hsmall : ¬ len * ie.size > 2 ^ 24) (hpos : ¬ len * ie.size = 0)
    (hv:parts.toList.map (fun p=>(p.1,a.eval p.2))=vs) (hf:Instr.fill (fun i=>some (i * ie.size,ie.size)) ((Array.range (len * ie.size)).map (z.cells[· % z.cells.size]!)) vs=some cs.toArray) :
    (execOp a.eval ⟨d,.buildSlice t len parts,ty,pos,af,g⟩).run P w = .ok (.value (.slice (some ⟨w.heap.size,0,none⟩) len len)) (w.alloc (.cells cs.toArray e)):=by
  have h:=run_buildSlice (P:=P) w t e len (parts.map fun (i,x)=>(i,a.eval x)) cs.toArray ie z ht hie hz hsmall hpos (by
    have:(parts.map fun (i,x)=>(i,a.eval x)).toList=vs:=by rw [Array.toList_map,← hv]
    rw [this];exact hf)
  unfold execOp;simp only [Sem.run_bind,h,Result.andThen_ok,Sem.run_pure]
end
end Go.Proofs.Ytobggnpnochnnaa.V
/- Regions that draw their order,in the form that my walks use: a list of what each slot holds afterwards,one obligation an operation. -/
namespace Go.Proofs.Ytobggnpnochnnaa.V
open Go.RowKit
structure StP (M:Nat→Prop) where
  p:Value→World→Prop
  st:∀ v w w',Ch M w w'→p v w→p v w'
def isV (M:Nat→Prop) (v:Value):StP M:=⟨fun u _=>u=v,fun _ _ _ _ h=>h⟩
def cz {M:Nat→Prop} (E:List (Nat × StP M)) (t:Nat) (v:Value) (w:World):Prop :=
  match E with
  | []=>True
  | (i,p)::r=>bif Nat.beq i t then p.p v w else cz r t v w
theorem iO {M : Nat → Prop} : ∀ (E : List (Nat × StP M)) (t : Nat) (v : Value) (w w' : World), Ch M w w' → cz E t v w → cz E t v w'
  | [],_,_,_,_,_,h=>h
  | (i,p)::r,t,v,w,w',hc,h=>by
    unfold cz at *
    cases hb:Nat.beq i t
    · rw [hb] at h;exact iO r t v w w' hc h
    · rw [hb] at h;exact p.st v w w' hc h
def fN {M : Nat → Prop} (E : List (Nat × StP M)) (a : Act) (w : World) : List Nat → Prop
  | []=>True
  | d::r=>cz E d (a.tmps.getD d undef) w∧fN E a w r
structure fT {M:Nat→Prop} (o:Oper) (E:List (Nat × StP M)) (I:World→Prop) (N:Nat) (a:Act) (w:World) (a':Act) (w':World):Prop where
  put:∃ v,a'=a.put o.dst v∧∀ d,o.dst=some d→d < N∧cz E d v w'
  ch:Ch M w w'
  inv:I w'
theorem fT.same {M:Nat→Prop} {o:Oper} {E:List (Nat × StP M)} {I:World→Prop} {N:Nat} {a:Act} {w:World} {v:Value} {d:Nat} (hd:o.dst=some d) (hN:d < N) (hE:cz E d v w) (hI:I w):fT o E I N a w (a.put o.dst v) w :=
  ⟨⟨v,rfl,fun e he=>by rw [hd] at he;cases he;exact ⟨hN,hE⟩⟩,Ch.refl _,hI⟩
theorem fT.mk' {M:Nat→Prop} {o:Oper} {E:List (Nat × StP M)} {I:World→Prop} {N:Nat} {a:Act} {w w':World} {v:Value} {d:Nat} (hd:o.dst=some d) (hN:d < N) (hE:cz E d v w') (hc:Ch M w w') (hI:I w'):fT o E I N a w (a.put o.dst v) w' :=
  ⟨⟨v,rfl,fun e he=>by rw [hd] at he;cases he;exact ⟨hN,hE⟩⟩,hc,hI⟩
theorem fT.none {M:Nat→Prop} {o:Oper} {E:List (Nat × StP M)} {I:World→Prop} {N:Nat} {a:Act} {w:World} {v:Value} (hd:o.dst=none) (hI:I w):fT o E I N a w (a.put o.dst v) w :=
  ⟨⟨v,rfl,fun e he=>by rw [hd] at he;cases he⟩,Ch.refl _,hI⟩
def steps {M : Nat → Prop} (P : Program) (ops : Array Oper) (Q : Exit → Act → World → Prop) (N : Nat) (L : List (Nat × Value)) (W : World) (E : List (Nat × StP M)) (I : World → Prop) : Nat → List Oper → List (List Nat) → Prop
  | i,o::r,D::Ds=>(∀ a w,Ch M W w→I w→aP N L a→fN E a w D→wpOp P ops Q i (fT o E I N a w) a w)∧steps P ops Q N L W E I (i+1) r Ds
  | _,_,_=>True
def dD (ops:Array Oper) (n d:Nat):Bool:=(List.range n).any fun j=>match ops[j]? with | some p=>p.dst == some d | none=>false
def dm (ops : Array Oper) (n : Nat) : Nat → List (List Nat) → Bool
  | _,[]=>true
  | i,D::Ds=>(match ops[i]? with | none=>false | some o=>D.all fun d=>(o.looksAt ops).contains d && dD ops n d) && dm ops n (i+1) Ds
def fM (ops:Array Oper) (n:Nat) (L:List (Nat × Value)):Bool:=L.all fun p=>!dD ops n p.1
def jB (ops:Array Oper) (n:Nat) (outs:List Nat):Bool:=outs.all (dD ops n)
theorem cO {ops:Array Oper} {n d:Nat} (h:dD ops n d=true):∃ j p,j < n∧ops[j]?=some p∧p.dst=some d:=by
  obtain ⟨j,hj,h2⟩:=List.any_eq_true.1 h
  cases hp:ops[j]? with
  | none=>rw [hp] at h2;cases h2
  | some p=>rw [hp] at h2;exact ⟨j,p,List.mem_range.1 hj,hp,by simpa using h2⟩
theorem fF {i : Nat} {v : Value} : ∀ {L : List (Nat × Value)}, look i L = some v → (i, v) ∈ L
  | [],h=>by cases h
  | (j,u)::r,h=>by
    rw [bW] at h
    by_cases e:j=i
    · rw [if_pos e] at h;subst e;cases h;exact List.mem_cons_self
    · rw [if_neg e] at h;exact List.mem_cons_of_mem _ (fF h)
theorem aP.base {N n : Nat} {L : List (Nat × Value)} {a₀ a : Act} {ops : Array Oper} (S : aP N L a₀) (hk : fM ops n L = true) (h1 : a.tmps.size = a₀.tmps.size) (h2 : a.defers = a₀.defers)
    (h3:∀ t,(∀ j,j < n→∀ o,ops[j]?=some o→o.dst≠some t)→a.tmps.getD t undef=a₀.tmps.getD t undef):aP N L a :=
  ⟨h1.trans S.size,h2.trans S.defers,fun i v hv=>by
    rw [h3 i ?_]
    · exact S.get i v hv
    · intro j hj o ho hd;have h4 := List.all_eq_true.1 hk _ (fF hv);simp only [Bool.not_eq_true'] at h4;have : dD ops n i = true := List.any_eq_true.2 ⟨j, List.mem_range.2 hj, by rw [ho]; simp [hd]⟩
      rw [this] at h4;cases h4⟩
theorem iX {M : Nat → Prop} {P : Program} {ops : Array Oper} {Q : Exit → Act → World → Prop} {N : Nat} {L : List (Nat × Value)} {W : World} {E : List (Nat × StP M)} {I : World → Prop} : ∀ (l : List Oper) (Ds : List (List Nat)) (k i : Nat), i < Ds.length → l.length = Ds.length →
    steps P ops Q N L W E I k l Ds→∃ o D,l[i]?=some o∧Ds[i]?=some D∧∀ a w,Ch M W w→I w→aP N L a→fN E a w D→wpOp P ops Q (k+i) (fT o E I N a w) a w
  | [],Ds,_,i,h,hl,_=>by simp at hl;omega
  | o::l,[],_,i,h,_,_=>by simp at h
  | o::l,D::Ds,k,0,_,_,h=>⟨o,D,rfl,rfl,h.1⟩
  | o::l,D::Ds,k,i+1,hi,hl,h=>by
    obtain ⟨o',D',h1,h2,h3⟩:=iX l Ds (k+1) i (by simpa using hi) (by simpa using hl) h.2;exact ⟨o',D',by simpa using h1,by simpa using h2,by rw [show k+(i+1)=k+1+i from by omega];exact h3⟩
theorem tE {M : Nat → Prop} {P : Program} {id : Nat} {Q : Exit → Act → World → Prop} {a₀ : Act} {w : World} {l : List Oper} {N : Nat} {L : List (Nat × Value)} (S : aP N L a₀) (n : Nat) (E : List (Nat × StP M)) (I : World → Prop) (Ds : List (List Nat)) (outs : List Nat) (tail : List Oper)
    (htl:tail=l.drop n) (hm:P.follows .mixedOrders=true) (hok:(dY l.toArray n && dm l.toArray n 0 Ds && fM l.toArray n L && jB l.toArray n outs && eT l.toArray n)=true) (hlen:Ds.length=n) (hI:I { w with drawn:=w.drawn+1 })
    (step:steps P l.toArray Q N L w E I 0 (l.take n) Ds)
    (fin:∀ a w',Ch M w w'→I w'→aP N L a→fN E a w' outs→wpList P l.toArray Q tail a w'):(Code.region id l.toArray true).wp P Q a₀ w:=by
  simp only [Bool.and_eq_true] at hok;obtain ⟨⟨⟨⟨h1,h2⟩,h3⟩,h4⟩,h5⟩:=hok;have hn:n≤l.length:=by
    simp only [eT,Bool.and_eq_true,decide_eq_true_eq] at h5
    simpa using h5.1.1
  refine kS n (cz E) (fun w'=>Ch M w w'∧I w') tail htl hm h1 h5 ⟨(Ch.refl _).drew,hI⟩ ?_ ?_
  · intro i hi o ho a w' hC hs hd hb hE;obtain ⟨o',D,e1,e2,h⟩:=iX (l.take n) Ds 0 i (by omega) (by simp;omega) step;obtain rfl:o'=o:=by
      rw [List.getElem?_take_of_lt hi] at e1;have:l.toArray[i]?=l[i]?:=by simp
      rw [this,e1] at ho;exact Option.some.inj ho
    have hdep:∀ D',(∀ d∈D',d∈D)→fN E a w' D':=by
      intro D'
      induction D' with
      | nil=>intro _;trivial
      | cons d r ih =>
        intro hsub;refine ⟨?_,ih fun d hd=>hsub d (List.mem_cons_of_mem _ hd)⟩;have hget:∀ (Ds:List (List Nat)) (k i:Nat),dm l.toArray n k Ds=true→Ds[i]?=some D→∃ o,l.toArray[k+i]?=some o∧∀ d∈D,d∈o.looksAt l.toArray∧dD l.toArray n d=true:=by
          intro Ds
          induction Ds with
          | nil=>intro k i _ h;simp at h
          | cons D0 Ds ih =>
            intro k i hk hi;simp only [dm,Bool.and_eq_true] at hk
            cases i with
            | zero =>
              obtain rfl:D0=D:=by simpa using hi
              cases hp:l.toArray[k]? with
              | none=>rw [hp] at hk;cases hk.1
              | some p =>
                rw [hp] at hk;refine ⟨p,rfl,fun d hd=>?_⟩;have:=List.all_eq_true.1 hk.1 d hd
                simpa [Bool.and_eq_true,List.contains_iff_mem] using this
            | succ i =>
              obtain ⟨o,g1,g2⟩:=ih (k+1) i hk.2 (by simpa using hi);exact ⟨o,by rw [show k+(i+1)=k+1+i from by omega];exact g1,g2⟩
        obtain ⟨o2,g1,g2⟩:=hget Ds 0 i h2 e2;rw [Nat.zero_add,ho] at g1;obtain rfl:=Option.some.inj g1;obtain ⟨g3,g4⟩:=g2 d (hsub d List.mem_cons_self);obtain ⟨j,p,g5,g6,g7⟩:=cO g4;exact hE j p d g5 g6 g7 g3
    have h':=h a w' hC.1 hC.2 (S.base h3 hs hd hb) (hdep D fun d hd=>hd);rw [Nat.zero_add] at h';refine wpOp_mono ?_ h';rintro a' w2 ⟨⟨v,hv,hd'⟩,hc,hi'⟩;refine ⟨⟨v,hv,fun d hdd=>?_⟩,⟨hC.1.same hc,hi'⟩,fun t v=>iO E t v _ _ hc⟩;obtain ⟨k1,k2⟩:=hd' d hdd;exact ⟨by rw [hs,S.size];exact k1,k2⟩
  · intro a w' hC st;refine fin a w' hC.1 hC.2 (S.base h3 st.size st.defers st.base) ?_;have:∀ outs',(∀ d∈outs',dD l.toArray n d=true)→fN E a w' outs':=by
      intro outs'
      induction outs' with
      | nil=>intro _;trivial
      | cons d r ih =>
        intro h;obtain ⟨j,p,g5,g6,g7⟩:=cO (h d List.mem_cons_self);exact ⟨st.done j g5 (by simp [g5]) p d g6 g7,ih fun d hd=>h d (List.mem_cons_of_mem _ hd)⟩
    exact this outs (List.all_eq_true.1 h4)
theorem mg {a:Act} {d:Nat} {b:Bool} (h:a.tmps.getD d undef = .bool b):a.tmps[d]?=some (.bool b):=by
  rw [Array.getD_eq_getD_getElem?] at h
  cases hc:a.tmps[d]? with
  | none=>rw [hc] at h;cases h
  | some v=>rw [hc] at h;exact congrArg some h
section
variable {P:Program} {ops:Array Oper} {Q:Exit→Act→World→Prop} {i:Nat} {o:Oper} {a:Act} {w:World} {K:Act→World→Prop}
theorem ez (ho:ops[i]?=some o) (hg:o.guard=none) (h:o.wp P a w K Q):wpOp P ops Q i K a w:=by
  unfold wpOp;rw [ho];simp only [Region.wanted,hg,if_true];exact .inl h
end
end Go.Proofs.Ytobggnpnochnnaa.V
/- Guarded operations (&&,||) without a split;rows of the call's own,append. -/
namespace Go.Proofs.Ytobggnpnochnnaa.V
open Go.RowKit
section
variable {q g:Prop} [Decidable q] [Decidable g]
theorem gt:q↔Value.bool (decide q) = .bool true:=by simp
theorem gf:¬ q↔Value.bool (decide q) = .bool false:=by simp
theorem ggt:(g∧q)↔(if g then Value.bool (decide q) else undef) = .bool true:=by
  by_cases h:g <;> simp [h,undef]
theorem ggf:(g∧¬ q)↔(if g then Value.bool (decide q) else undef) = .bool false:=by
  by_cases h:g <;> simp [h,undef]
end
section
variable {P:Program} {Q:Exit→Act→World→Prop} {n:Nat} {L:List (Nat × Value)} {a:Act} {w:World} {ops:Array Oper} {rest:List Oper} {o:Oper}
theorem fv {j gd:Nat} {b:Bool} {p:Oper} {gv:Value} (hg:o.guard=some (j,b)) (hj:ops[j]?=some p) (hd:p.dst=some gd) (hs:gd < a.tmps.size) (hv:a.tmps.getD gd undef=gv):Region.wanted o (yielded ops a.tmps)=true↔gv = .bool b:=by
  have h1:a.tmps[gd]?=some gv:=by rw [Array.getD_eq_getD_getElem?] at hv;rw [Array.getElem?_eq_getElem hs] at hv ⊢;exact congrArg some hv
  simp only [Region.wanted,hg,yielded,hj,hd,Option.bind_some,h1]
  cases gv <;> simp
end
section
variable {P:Program} {a:Act} {w:World} {d:Option Tmp} {ty:TypeId} {pos:String} {af:Array Edge} {g:Option (Nat × Bool)}
theorem oS {c x y:Operand} {p q:Prop} [Decidable p] [Decidable q] (hc:a.eval c = .bool (decide p)) (hx:p→a.eval x = .bool (decide q)) (hy:a.eval y = .bool false):(execOp a.eval ⟨d,.pick c x y,ty,pos,af,g⟩).run P w = .ok (.value (.bool (decide (p∧q)))) w:=by
  by_cases h:p
  · have:=hx h;simp [execOp,hc,this,h,asBool]
  · simp [execOp,hc,hy,h,asBool]
theorem yY {c x y:Operand} {p q:Prop} [Decidable p] [Decidable q] (hc:a.eval c = .bool (decide p)) (hx:a.eval x = .bool true) (hy:¬ p→a.eval y = .bool (decide q)):(execOp a.eval ⟨d,.pick c x y,ty,pos,af,g⟩).run P w = .ok (.value (.bool (decide (p∨q)))) w:=by
  by_cases h:p
  · simp [execOp,hc,hx,h,asBool]
  · have:=hy h;simp [execOp,hc,this,h,asBool]
end
theorem ft {P:Program} {e:TypeId} {z:Value} {size bytes:Nat} (hi:(P.info? e).map (fun i=>(i.zero,i.size,i.bytes))=some (some z,size,bytes)):∃ i,P.info? e=some i∧i.zero=some z∧i.size=size∧i.bytes=bytes:=by
  cases h:P.info? e with
  | none=>simp [h] at hi
  | some i=>simp [h] at hi;exact ⟨i,rfl,hi.1,hi.2.1,hi.2.2⟩
structure Row {α:Type} (E:Enc α) (t:TypeId) (base:Nat) (F:Nat→Prop) (ms:List BS) (w:World) (ad:Option Addr) (cap:Nat) (xs:List α):Prop where
  own:w.ownsRow base t E.n (.slice ad xs.length cap) xs.length (xs.flatMap E.cells)
  wf:∀ x∈xs,E.wf (Fr F ms) w.heap x
section
variable {α:Type} {E:Enc α} {t:TypeId} {base:Nat} {F:Nat→Prop} {ms ms':List BS} {w w' w0:World} {ad:Option Addr} {cap:Nat} {xs:List α}
theorem Row.nil (E:Enc α) (t:TypeId) (base:Nat) (F:Nat→Prop) (ms:List BS) (w:World):Row E t base F ms w none 0 []:=⟨⟨by simp,.inl ⟨rfl,rfl⟩⟩,fun x h=>by simp at h⟩
theorem Row.form (r:Row E t base F ms w ad cap xs):ad=none∧xs=[]∧cap=0∨ad=some ⟨blk ad,0,none⟩∧base≤blk ad∧blk ad < w.heap.size∧xs.length≤cap:=by
  rcases r.own.2 with ⟨h1,h2⟩ | ⟨g,c,cur,h1,h2,h3,h4,_⟩
  · left
    injection h1 with h1 _ h3
    exact ⟨h1,List.length_eq_zero_iff.1 h2,h3⟩
  · right
    injection h1 with h1 _ h5
    subst h1 h5;have h6:g < w.heap.size:=by
      rcases Nat.lt_or_ge g w.heap.size with k | k
      · exact k
      · rw [Array.getElem?_eq_none k] at h3;cases h3
    exact ⟨rfl,h2,h6,h4⟩
theorem Row.fq (r:Row E t base F ms w ad cap xs):xs.length≤cap∧(ad=none→cap=0):=by
  rcases r.form with ⟨h1,h2,h3⟩ | ⟨h1,_,_,h4⟩
  · subst h2 h3;exact ⟨Nat.le_refl _,fun _=>rfl⟩
  · exact ⟨h4,fun e=>by rw [e] at h1;cases h1⟩
theorem Row.aE (r:Row E t base F ms w ad cap xs):xs.length≤maxLen:=by
  rcases r.own.2 with ⟨_,h2⟩ | ⟨g,c,cur,h1,h2,h3,h4,h5,_⟩
  · rw [h2];exact Nat.zero_le _
  · omega
theorem vw {ad:Option Addr} {k:Nat} (h:abk ad k):ad≠none∧blk ad=k:=by
  cases ad with
  | none=>cases h
  | some p=>exact ⟨by simp,Option.some.inj h⟩
theorem yT {ad:Option Addr} (h:ad≠none):abk ad (blk ad):=by
  cases ad with
  | none=>exact absurd rfl h
  | some p=>rfl
theorem vx {k:Nat}:¬ abk none k:=fun h=>by cases h
theorem In.nil {k:Nat}:¬ In [] k:=id
theorem In.one {o:BS} {k:Nat}:In [o] k↔o k:=⟨fun h=>h.elim id False.elim,.inl⟩
theorem Row.new (r:Row E t base F ms w ad cap xs):∀ k,abk ad k→base≤k∧k < w.heap.size:=fun k hk=>by
  obtain ⟨h1,h2⟩:=vw hk
  rcases r.form with ⟨h,_⟩ | ⟨_,h3,h4,_⟩
  · exact absurd h h1
  · rw [← h2];exact ⟨h3,h4⟩
theorem Row.tr (r:Row E t base F ms w ad cap xs) (T:Tr ms w ms' w') {chg:List BS} (g:Ch (In chg) w w') (hn:∀ k,abk ad k→¬ In chg k):Row E t base F ms' w' ad cap xs:=by
  refine ⟨⟨r.own.1,?_⟩,fun x hx=>E.tr (r.wf x hx) T⟩
  rcases r.own.2 with h1 | ⟨b,c,cur,h1,h2,h3,h4⟩
  · exact .inl h1
  · refine .inr ⟨b, c, cur, h1, h2, ?_, h4⟩
    injection h1 with h1
    subst h1;refine (g.block b ?_ (hn b rfl)).trans h3
    rcases Nat.lt_or_ge b w.heap.size with k | k
    · exact k
    · rw [Array.getElem?_eq_none k] at h3;cases h3
theorem Row.lower (r:Row E t base F ms w ad cap xs) {b:Nat} (hb:b≤base):Row E t b F ms w ad cap xs :=
  ⟨⟨r.own.1,r.own.2.imp id fun ⟨g,c,cur,h1,h2,h3⟩=>⟨g,c,cur,h1,Nat.le_trans hb h2,h3⟩⟩,r.wf⟩
theorem Row.raise (r:Row E t base F ms w ad cap xs) {b:Nat} (hb:∀ k,abk ad k→b≤k):Row E t b F ms w ad cap xs :=
  ⟨⟨r.own.1,r.own.2.imp id fun ⟨g,c,cur,h1,h2,h3⟩=>⟨g,c,cur,h1,hb g (by injection h1 with h1;rw [h1];rfl),h3⟩⟩,r.wf⟩
theorem flat_get (hE : ∀ x, (E.cells x).length = E.n) : ∀ (xs : List α) (i : Nat), i < xs.length → ∀ j v, (E.cells (xs.getD i E.aa))[j]? = some v → (xs.flatMap E.cells)[i * E.n + j]? = some v
  | [],i,h,_,_,_=>by simp at h
  | x::xs,0,_,j,v,hv=>by
    rw [List.flatMap_cons,Nat.zero_mul,Nat.zero_add];have hv':(E.cells x)[j]?=some v:=by simpa using hv
    have:=(List.getElem?_eq_some_iff.1 hv').1;rw [List.getElem?_append_left this];exact hv'
  | x::xs,i+1,h,j,v,hv=>by
    rw [List.flatMap_cons,List.getElem?_append_right (by rw [hE,Nat.add_mul];omega),hE,show (i+1) * E.n+j - E.n=i * E.n+j from by rw [Nat.add_mul];omega];exact flat_get hE xs i (by simpa using h) j v (by simpa using hv)
theorem gi (hE : ∀ x, (E.cells x).length = E.n) : ∀ (xs : List α), (xs.flatMap E.cells).length = xs.length * E.n
  | []=>by simp
  | x::xs=>by rw [List.flatMap_cons,List.length_append,hE,gi hE xs,List.length_cons,Nat.add_mul];omega
theorem pB (hE : ∀ x, (E.cells x).length = E.n) (x' : α) (j : Nat) (v : Value) (hj : j < E.n) : ∀ (xs : List α) (m : Nat), m < xs.length → E.cells x' = (E.cells (xs.getD m E.aa)).set j v → (xs.set m x').flatMap E.cells = (xs.flatMap E.cells).set (m * E.n + j) v
  | [],m,h,_=>by simp at h
  | x::xs,0,_,h=>by
    have h':E.cells x'=(E.cells x).set j v:=by simpa using h
    rw [List.set_cons_zero,List.flatMap_cons,List.flatMap_cons,h',Nat.zero_mul,Nat.zero_add,List.set_append_left _ _ (by rw [hE];exact hj)]
  | x::xs,m+1,hm,h=>by
    rw [List.set_cons_succ,List.flatMap_cons,List.flatMap_cons,pB hE x' j v hj xs m (by simpa using hm) (by simpa using h),List.set_append_right _ _ (by rw [hE,Nat.add_mul];omega),hE,show (m+1) * E.n+j - E.n=m * E.n+j from by rw [Nat.add_mul];omega]
theorem Row.wfi (r:Row E t base F ms w ad cap xs) (m:Nat) (hm:m < xs.length):E.wf (Fr F ms) w.heap (xs.getD m E.aa):=by
  rw [List.getD_eq_getElem?_getD,List.getElem?_eq_getElem hm];exact r.wf _ (List.getElem_mem hm)
theorem Row.sA {D:Nat→Prop} (r:Row E t base F ms w ad cap xs) (hn:0 < E.n) (hD:∀ k,abk ad k→D k) (hw:∀ x∈xs,E.wf D w.heap x):LAt E D w.heap ad xs:=by
  have hwf:∀ i,i < xs.length→E.wf D w.heap (xs.getD i E.aa):=fun i hi=>by
    rw [List.getD_eq_getElem?_getD,List.getElem?_eq_getElem hi];exact hw _ (List.getElem_mem hi)
  rcases r.own.2 with ⟨h1,h2⟩ | ⟨g,c,cur,h1,h2,h3,h4,h5,h6,h7⟩
  · have:=List.length_eq_zero_iff.1 h2;subst this;exact LAt.nil
  · injection h1 with h1
    subst h1;refine ⟨by omega,fun _=>⟨rfl,hD _ rfl,?_⟩,fun i hi j v hv=>?_,hwf⟩
    · show g < w.heap.size
      rcases Nat.lt_or_ge g w.heap.size with k | k
      · exact k
      · rw [Array.getElem?_eq_none k] at h3;cases h3
    · have h8:=flat_get E.len xs i hi j v hv;rw [← h7] at h8;show df w.heap g (0+i * E.n+j)=some v;unfold df;rw [h3,Nat.zero_add];show cur[i * E.n+j]?=some v;rw [← Array.getElem?_toList];have:=List.getElem?_eq_some_iff.1 h8;obtain ⟨hlt,_⟩:=this;rw [List.length_take] at hlt;rw [List.getElem?_take_of_lt (by omega)] at h8;exact h8
def Any:Nat→Prop:=fun _=>True
theorem Row.lat (r:Row E t base F ms w ad cap xs) (hn:0 < E.n):LAt E Any w.heap ad xs:=r.sA hn (fun _ _=>trivial) fun x hx=>E.mono (fun _ _ _=>trivial) (r.wf x hx)
theorem Row.db (r:Row E t base F ms w ad cap xs) (hn:0 < E.n):LAt E Any w.heap (some ⟨blk ad,0,none⟩) xs:=by
  rcases r.form with ⟨_,h,_⟩ | ⟨h,_⟩
  · subst h;exact LAt.nil
  · have:=r.lat hn;rw [h] at this;exact this
theorem Row.notF (r:Row E t base F ms w ad cap xs) (hF:Old F w0) (hb:w0.heap.size≤base):∀ k,abk ad k→¬ F k:=fun k e h=>by
  have h1:=(r.new k e).1;have h2:=hF k h;omega
def Exc (F:Nat→Prop) (ms os:List BS):Nat→Prop:=fun k=>(In ms k∧¬ In os k)∨F k
theorem Row.argx {os m0:List BS} (r:Row E t base F ms w ad cap xs) (hn:0 < E.n) (hF:∀ k,abk ad k→¬ F k) (ho:∀ k,abk ad k→In os k∧¬ In m0 k) (hs:∀ o,o∈m0→o∈ms):(slE E).wf (Fr (Exc F ms os) m0) w.heap ⟨ad,cap,xs⟩ :=
  ⟨r.sA hn (fun k e=>⟨(ho k e).2,fun h=>h.elim (fun h=>h.2 (ho k e).1) (hF k e)⟩) fun x hx=>E.mono (fun k _ h=>⟨fun e=>h.1 (jF hs e),fun e=>e.elim (fun e=>h.1 e.1) h.2⟩) (r.wf x hx),r.fq⟩
theorem Tr.oldx {os ms'':List BS} (t:Tr ms'' w0 ms w) (h:Old F w0):Old (Exc F ms os) w:=fun k e=>e.elim (fun e=>t.ms.lt k e.1) fun e=>Nat.lt_of_lt_of_le (h k e) t.size
theorem Sep.mid {pre post : List BS} {o : BS} {k : Nat} (hk : o k) : ∀ {pre : List BS}, Sep (pre ++ o :: post) → ¬ In (pre ++ post) k
  | [],s=>s.1 k hk
  | _::_,s=>fun h=>h.elim (fun e=>s.1 k e (aK.2 (.inr (.inl hk)))) (Sep.mid (pre:=pre) hk s.2)
theorem Tr.leave {pre post:List BS} {o:BS} (hM:MS (pre++o::post) w):Tr (pre++o::post) w (pre++post) w:=by
  have hin:∀ k,In (pre++post) k→In (pre++o::post) k:=fun k hp=>by
    rcases aK.1 hp with h | h
    · exact aK.2 (.inl h)
    · exact aK.2 (.inr (.inr h))
  refine ⟨Ch.refl w,fun k hk=>.inl (hin _ hk),fun k hk=>hM.lt k (hin _ hk),?_⟩;have:∀ (pre:List BS),Sep (pre++o::post)→Sep (pre++post):=by
    intro pre
    induction pre with
    | nil=>intro s;exact s.2
    | cons p r ih =>
      intro s;refine ⟨fun k hk hm=>s.1 k hk ?_,ih s.2⟩
      rcases aK.1 hm with h | h
      · exact aK.2 (.inl h)
      · exact aK.2 (.inr (.inr h))
  exact this pre hM.sep
theorem Tr.swap {pre post:List BS} {o o':BS} (hM:MS (pre++o::post) w) (g:Ch (In [o]) w w') (ho:∀ k,o' k→o k∨w.heap.size≤k∧k < w'.heap.size):Tr (pre++o::post) w (pre++o'::post) w':=by
  have hin:∀ k,In (pre++o'::post) k→In (pre++o::post) k∨w.heap.size≤k∧k < w'.heap.size:=fun k hp=>by
    rcases aK.1 hp with h | h | h
    · exact .inl (aK.2 (.inl h))
    · exact (ho k h).imp (fun h=>aK.2 (.inr (.inl h))) id
    · exact .inl (aK.2 (.inr (.inr h)))
  refine ⟨g.mono fun k hk=>aK.2 (.inr (.inl (In.one.1 hk))),fun k hk=>(hin k hk).imp id And.left,fun k hk=>?_,?_⟩
  · exact (hin k hk).elim (fun h=>Nat.lt_of_lt_of_le (hM.lt k h) g.size) And.right
  · have hlt:=hM.lt;have:∀ (pre:List BS),(∀ k,In (pre++o::post) k→k < w.heap.size)→Sep (pre++o::post)→Sep (pre++o'::post):=by
      intro pre
      induction pre with
      | nil =>
        intro hl s;refine ⟨fun k hk hm=>(ho k hk).elim (fun h=>s.1 k h hm) fun h=>?_,s.2⟩;have:=hl k (.inr hm);omega
      | cons p r ih =>
        intro hl s;refine ⟨fun k hk hm=>?_,ih (fun k h=>hl k (.inr h)) s.2⟩
        rcases aK.1 hm with h | h | h
        · exact s.1 k hk (aK.2 (.inl h))
        · rcases ho k h with h | h
          · exact s.1 k hk (aK.2 (.inr (.inl h)))
          · have:=hl k (.inl hk);omega
        · exact s.1 k hk (aK.2 (.inr (.inr h)))
    exact this pre hlt hM.sep
theorem nc {P : Program} {o : Oper} {a : Act} {K : Act → World → Prop} {Q : Exit → Act → World → Prop} {D : Nat → Prop} (pre post : List BS) (s x : Operand) (ts : TypeId) (ho : o.op = .call { callee := .builtin .append, args := #[s, x], argTypes := #[ts, ts] })
    (z:Value) (bytes:Nat) (ht:P.underlying ts=some (.slice t)) (hi:(P.info? t).map (fun i=>(i.zero,i.size,i.bytes))=some (some z,E.n,bytes)) (hzs:z.cells.size=E.n) (hsz:0 < E.n)
    (hms:ms=pre++abk ad::post) (hM:MS ms w) (hs:a.eval s = .slice ad xs.length cap) (r:Row E t base F ms w ad cap xs) (ys:List α)
    (sa:Option Addr) (sc:Nat) (hx:a.eval x = .slice sa ys.length sc) (hsrc:LAt E D w.heap sa ys) (hsc:sa=none→sc=0) (hyw:∀ y∈ys,E.wf (Fr F ms) w.heap y)
    (h63:xs.length+ys.length≤maxLen) (hbytes:(xs.length+ys.length) * bytes≤140737488355328) (hbase:base≤w.heap.size)
    (h:∀ ad' cap' w',Row E t base F (pre++abk ad'::post) w' ad' cap' (xs++ys)→Tr (pre++abk ad::post) w (pre++abk ad'::post) w'→Ch (In [abk ad]) w w'→K (a.put o.dst (.slice ad' (xs++ys).length cap')) w'):o.wp P a w K Q:=by
  subst hms;obtain ⟨i0,hi0,hz0,hz1,hz2⟩:=ft hi;have e1:xs.length+ys.length=(xs++ys).length:=by simp
  have key:∃ v' w',(Builtin.append_ #[ts,ts] o.type #[.slice ad xs.length cap,.slice sa ys.length sc]).run P w = .ok v' w'∧w'.ownsRow base t E.n v' (xs.length+ys.length) (xs.flatMap E.cells++ys.flatMap E.cells)∧w.grownBy w' (ad.map (·.block))∧(v'.ownBlock=ad.map (·.block)∨v'.ownBlock=some w.heap.size):=by
    have hlen:(ys.flatMap E.cells).length=ys.length * E.n:=gi E.len ys;have h1c:∀ u∈ys.flatMap E.cells,u.oneCell'=true:=fun u hu=>by
      obtain ⟨y,hy,hu'⟩:=List.mem_flatMap.1 hu;exact E.one y u hu'
    cases sa with
    | some p =>
      have hob:(Value.slice ad xs.length cap).ownBlock=ad.map (·.block):=by cases ad <;> rfl
      have hnews:∀ j u,(ys.flatMap E.cells)[j]?=some u→w.cell? (p.add j)=some u:=fun j u hj=>by
        have hj':=(List.getElem?_eq_some_iff.1 hj).1;rw [hlen] at hj';have hm:j / E.n < ys.length:=(Nat.div_lt_iff_lt_mul hsz).2 hj';have hdm:j / E.n * E.n+j % E.n=j:=by rw [Nat.mul_comm];exact Nat.div_add_mod j E.n
        have hpos:0 < ys.length:=Nat.lt_of_le_of_lt (Nat.zero_le _) hm;have hmod:j % E.n < (E.cells (ys.getD (j / E.n) E.aa)).length:=by rw [E.len];exact Nat.mod_lt _ hsz
        have h2:=flat_get E.len ys (j / E.n) hm (j % E.n) _ (List.getElem?_eq_getElem hmod);rw [hdm,hj] at h2;have h3:=hsrc.cell (j / E.n) hm (j % E.n) u (by rw [List.getElem?_eq_getElem hmod];exact h2.symm);rw [show off (some p)+j / E.n * E.n+j % E.n=off (some p)+j from by omega] at h3;have h4:=(hsrc.ad hpos).1;rw [Option.some.inj h4,fI];exact h3
      obtain ⟨v',w',k1,k2,k3,_,k5⟩:=run_append_own_at (P:=P) w base ts o.type t i0 z E.n bytes ht hi0 hz0 hz1 hz2 hzs hsz _ xs.length _ r.own p ys.length sc (ys.flatMap E.cells) hlen hnews h1c h63 hbytes hbase;rw [hob] at k3 k5;exact ⟨v',w',k1,k2,k3,k5⟩
    | none =>
      have hy:ys=[]:=by
        rcases Nat.eq_zero_or_pos ys.length with e | e
        · exact List.length_eq_zero_iff.1 e
        · have:=(hsrc.ad e).1;cases this
      subst hy;rw [hsc rfl];refine ⟨.slice ad xs.length cap,w,?_,by simpa using r.own,⟨rfl,rfl,rfl,Nat.le_refl _,fun _ _ _=>rfl⟩,.inl (by cases ad <;> rfl)⟩
      rcases r.own.2 with ⟨h1,h2⟩ | ⟨g,c,cur,h1,h2,h3⟩
      · injection h1 with h1 h4 h5
        subst h1 h5;rw [h2];simp [Builtin.append_,run_underlying ht,sizeOf,typeInfo,hi0,Builtin.lenOf,Builtin.firstCells,loadCells,loadCellsFrom]
      · injection h1 with h1 h4 h5
        subst h1 h5;exact run_append_owned_none (P:=P) w base ts o.type t i0 E.n ht hi0 _ xs.length _ r.own
  obtain ⟨v',w',k1,k2,k3,k4⟩:=key;rw [← List.flatMap_append,e1] at k2;have hch:Ch (In [abk ad]) w w':=(Ch.lT k3).mono fun k hk=>.inl hk;obtain ⟨ad',cap',hv'⟩:∃ ad' cap',v' = .slice ad' (xs++ys).length cap':=by
    rcases k2.2 with ⟨h1,h2⟩ | ⟨g,c,cur,h1,_⟩
    · exact ⟨none,0,by rw [h1,h2]⟩
    · exact ⟨_,_,h1⟩
  subst hv';have hob:∀ (p:Option Addr) (n c:Nat),(Value.slice p n c).ownBlock=p.map (·.block):=fun p n c=>by cases p <;> rfl
  rw [hob] at k4;have hnew:∀ k,abk ad' k→abk ad k∨w.heap.size≤k∧k < w'.heap.size:=fun k hk=>by
    rcases k4 with k4 | k4
    · exact .inl (by unfold abk at *;rw [← k4];exact hk)
    · right
      obtain rfl:w.heap.size=k:=by unfold abk at hk;rw [k4] at hk;exact Option.some.inj hk
      refine ⟨Nat.le_refl _,?_⟩
      rcases k2.2 with ⟨h1,h2⟩ | ⟨g,c,cur,h1,h2,h3,_⟩
      · injection h1 with h1;subst h1;cases k4
      · injection h1 with h1
        subst h1;obtain rfl:g=w.heap.size:=Option.some.inj k4
        rcases Nat.lt_or_ge w.heap.size w'.heap.size with q | q
        · exact q
        · rw [Array.getElem?_eq_none q] at h3;cases h3
  have T:=Tr.swap hM hch hnew;unfold Oper.wp execOp;simp only [ho,resolve,invoke,builtin,Sem.run_bind,Sem.run_pure,Result.andThen_ok,List.map_toArray,List.map_cons,List.map_nil,hs,hx,k1];refine h ad' cap' w' ⟨k2,fun x hx=>?_⟩ T hch
  rcases List.mem_append.1 hx with q | q
  · exact E.tr (r.wf x q) T
  · exact E.tr (hyw x q) T
theorem LAt.mem {D:Nat→Prop} {h:Array Obj} {a:Option Addr} (l:LAt E D h a xs):∀ y∈xs,E.wf D h y:=fun y hy=>by
  obtain ⟨i,hi,e⟩:=List.getElem_of_mem hy;have:=l.wf i hi
  rwa [List.getD_eq_getElem?_getD,List.getElem?_eq_getElem hi,Option.getD_some,e] at this
theorem vZ {ob : Nat} (r : Row E t base F ms w ad cap xs) (m j : Nat) (hm : m < xs.length) (hj : j < E.n) (x' : α) (v : Value) (hc : E.cells x' = (E.cells (xs.getD m E.aa)).set j v) (hin : abk ad ∈ ms) (hw : E.wf (Fr F ms) w.heap x') (hob : ob = m * E.n + j) :
    Row E t base F ms (w.setCell ⟨blk ad,ob,none⟩ v) ad cap (xs.set m x')∧Ch (In [abk ad]) w (w.setCell ⟨blk ad,ob,none⟩ v)∧∃ cur,w.heap[blk ad]?=some (.cells cur t (0,0))∧ob < cur.size:=by
  subst hob
  rcases r.form with ⟨_,h,_⟩ | ⟨had,hb,hlt,_⟩
  · rw [h] at hm;simp at hm
  · have hne : ad ≠ none := fun e => by rw [e] at had; cases had
    have hch:Ch (In [abk ad]) w (w.setCell ⟨blk ad,m * E.n+j,none⟩ v):=(Ch.set w _ _ _).mono fun k hk=>by
      subst hk;exact .inl (yT hne)
    have hkp:Kp (Fr F ms) w.heap (w.setCell ⟨blk ad,m * E.n+j,none⟩ v).heap:=hch.kp fun k _ h1 h2=>h1.1 (cw hin (In.one.1 h2))
    rcases r.own.2 with ⟨h1,h2⟩ | ⟨g,c,cur,h1,h2,h3,h4,h5,h6,h7⟩
    · rw [h2] at hm;omega
    · injection h1 with h1 _ h8
      subst h1 h8;have hmn:m * E.n+j < xs.length * E.n:=by
        have:(m+1) * E.n≤xs.length * E.n:=Nat.mul_le_mul_right _ hm;rw [Nat.add_mul] at this;omega
      have hsz:m * E.n+j < cur.size:=by
        rw [h6];exact Nat.lt_of_lt_of_le hmn (Nat.mul_le_mul_right _ h4)
      refine ⟨⟨⟨by rw [gi E.len,List.length_set],.inr ⟨g,cap,cur.setIfInBounds (m * E.n+j) v,by rw [List.length_set],h2,?_,by rw [List.length_set];exact h4,h5,by simpa using h6,?_⟩⟩,fun x hx=>?_⟩,hch,cur,h3,hsz⟩
      · simp only [World.setCell,Array.getElem?_modify];show (if g=g then _ else _)=_;rw [if_pos rfl,h3];rfl
      · rw [pB E.len x' j v hj xs m hm hc,← h7,List.length_set,Array.toList_setIfInBounds,List.take_set]
      · have:x∈xs∨x=x':=by
          rcases List.mem_or_eq_of_mem_set hx with q | q
          · exact .inl q
          · exact .inr q
        rcases this with q | q
        · exact E.keep hkp (r.wf x q)
        · subst q;exact E.keep hkp hw
end
end Go.Proofs.Ytobggnpnochnnaa.V
/- Steps that make or write memory;how data of the program lie in cells. -/
namespace Go.Proofs.Ytobggnpnochnnaa.V
open Go.RowKit
section
variable {P:Program} {Q:Exit→Act→World→Prop} {n:Nat} {L:List (Nat × Value)} {a:Act} {w:World} {ops:Array Oper} {rest:List Oper} {o:Oper}
theorem fH (w:World) (o:Obj):Ch (In []) w (w.alloc o):=(Ch.alloc w o).mono fun _ h=>h.elim
theorem oK (w:World) (b o:Nat) (u:Value):Ch (In [one b]) w (w.setCell ⟨b,o,none⟩ u):=(Ch.set w b o u).mono fun k h=>.inl h
theorem Tr.fresh {ms:List BS} {w w':World} {b:Nat} (hM:MS ms w) (hb:w.heap.size=b) (hl:b < w'.heap.size) (g:Ch (In []) w w'):Tr ms w (one b::ms) w' :=
  (Tr.iK hM g).cons fun k e=>by
    cases e
    exact ⟨by omega,hl,fun h=>by have:=hM.lt _ h;omega⟩
theorem mh {F:Nat→Prop} {m0 ms:List BS} {w0 w:World} {b:Nat} (C:Tr m0 w0 ms w) (hF:Old F w0) (hb:w.heap.size=b):Fr F ms b:=⟨fun h=>by have:=C.ms.lt _ h;omega,fun h=>by have:=hF _ h;have:=C.size;omega⟩
theorem km {α:Type} {E:Enc α} {D:Nat→Prop} {h:Array Obj} {b:Nat} {cs:List Value} {e:TypeId} (k:Blk h b cs e) (xs:List α) (n:Nat) (hn:xs.length=n) (hm:n≤maxLen) (h0:0 < n) (hcs:xs.flatMap E.cells=cs) (hD:D b) (hw:∀ x∈xs,E.wf D h x):(slE E).wf D h ⟨some ⟨b,0,none⟩,n,xs⟩:=by
  subst hn;refine ⟨⟨hm,fun _=>⟨rfl,hD,k.lt⟩,fun i hi j v hv=>?_,fun i hi=>?_⟩,Nat.le_refl _,fun e=>by cases e⟩
  · have h8:=flat_get E.len xs i hi j v hv;rw [hcs] at h8;show df h b (0+i * E.n+j)=some v;rw [Nat.zero_add];exact k.cell h8
  · rw [List.getD_eq_getElem?_getD,List.getElem?_eq_getElem hi];exact hw _ (List.getElem_mem hi)
end
section
variable {P:Program} {ops:Array Oper} {Q:Exit→Act→World→Prop} {i:Nat} {o:Oper} {a:Act} {w:World} {K:Act→World→Prop}
theorem px {j gd:Nat} {b:Bool} {p:Oper} (ho:ops[i]?=some o) (hg:o.guard=some (j,b)) (hj:ops[j]?=some p) (hd:p.dst=some gd) (hs:gd < a.tmps.size) {gv:Value} (hv:a.tmps.getD gd undef=gv) (hw:gv = .bool b) (h:o.wp P a w K Q):wpOp P ops Q i K a w:=by
  unfold wpOp;rw [ho];simp only [(fv hg hj hd hs hv).2 hw,if_true];exact .inl h
theorem wC {j gd:Nat} {b:Bool} {p:Oper} (ho:ops[i]?=some o) (hg:o.guard=some (j,b)) (hj:ops[j]?=some p) (hd:p.dst=some gd) (hs:gd < a.tmps.size) {gv:Value} (hv:a.tmps.getD gd undef=gv) (hw:¬ gv = .bool b) (h:K (a.put o.dst undef) w):wpOp P ops Q i K a w:=by
  unfold wpOp;rw [ho];have:¬ Region.wanted o (yielded ops a.tmps)=true:=fun e=>hw ((fv hg hj hd hs hv).1 e);simp only [this];exact h
end
theorem Blk.mid {h:Array Obj} {b:Nat} {all:List Value} {e:TypeId} (k:Blk h b all e) (pre cs post:List Value) (ha:all=pre++(cs++post)) (f:Nat) (hf:pre.length=f):∀ j v,cs[j]?=some v→df h b (f+j)=some v:=by
  subst ha hf;intro j v hv;refine k.cell ?_;rw [List.getElem?_append_right (by omega),Nat.add_sub_cancel_left,List.getElem?_append_left (List.getElem?_eq_some_iff.1 hv).1];exact hv
def ae:Enc Int:=⟨1,fun x=>[.int .i64 x],0,fun _ _ x=>ah x,fun _=>rfl,fun _ u hu=>by simp at hu;subst hu;rfl,fun _ h=>h,fun _ h=>h⟩
def u8E:Enc Int:=⟨1,fun x=>[.int .u8 x],0,fun _ _ x=>iA x,fun _=>rfl,fun _ u hu=>by simp at hu;subst hu;rfl,fun _ h=>h,fun _ h=>h⟩
def aS:Enc Bool:=⟨1,fun x=>[.bool (decide (x=true))],false,fun _ _ _=>True,fun _=>rfl,fun _ u hu=>by simp at hu;subst hu;rfl,fun _ h=>h,fun _ h=>h⟩
def TpB (e:TypeId) (T:Nat) (tl:Sl Int) (w:World):Prop:=∃ i:Nat,i≤tl.xs.length∧Blk w.heap T [.slice tl.a tl.xs.length tl.c,.int .i64 i] e
theorem TpB.tr {e:TypeId} {T:Nat} {tl:Sl Int} {w w':World} {chg:List BS} (t:TpB e T tl w) (g:Ch (In chg) w w') (h:¬ In chg T):TpB e T tl w':=let ⟨i,hi,k⟩:=t;⟨i,hi,k.tr g h⟩
end Go.Proofs.Ytobggnpnochnnaa.V
/- More operations: bytes of strings,closures,slice expressions,whole structs stored. -/
namespace Go.Proofs.Ytobggnpnochnnaa.V
open Go.RowKit
section
variable {P:Program} {a:Act} {w:World} {d:Option Tmp} {ty:TypeId} {pos:String} {af:Array Edge} {g:Option (Nat × Bool)}
theorem xS {f:FuncId} {caps:Array Operand} {cs:Array Value} (hc:caps.map a.eval=cs):(execOp a.eval ⟨d,.makeFunc (.func f) #[] caps,ty,pos,af,g⟩).run P w = .ok (.value (.func (.func f) #[] cs)) w:=by
  simp [execOp,Instr.makeFunc,hc]
theorem xP {x y : Operand} {t e : TypeId} {s : Option Addr} {n c : Nat} {k : IntKind} {i : Int} {z : Value} {sz by_ : Nat} (ht : P.underlying t = some (.slice e)) (hi : (P.info? e).map (fun i => (i.zero, i.size, i.bytes)) = some (some z, sz, by_)) (hx : a.eval x = .slice s n c) (hy : a.eval y = .int k i) (m : Nat) (hm : i = (m : Int)) (hc : m ≤ c) (hs : s = none → c = 0) :
    (execOp a.eval ⟨d,.slice t x none (some y) none,ty,pos,af,g⟩).run P w = .ok (.value (.slice s m c)) w:=by
  subst hm;obtain ⟨ie,hie,_,_,_⟩:=ft hi;have h2:s.map (fun q=>q.add 0)=s:=by cases s <;> simp [Addr.add]
  simp [execOp,Instr.sliceAt,Instr.slice,Instr.sliceBounds,Instr.sliceBound,run_underlying ht,hx,hy,asIntOf,hc,sizeOf,typeInfo,hie,h2]
theorem xO {x y : Operand} {t e : TypeId} {s : Option Addr} {n c : Nat} {k : IntKind} {i : Int} {z : Value} {sz by_ : Nat} (ht : P.underlying t = some (.slice e)) (hi : (P.info? e).map (fun i => (i.zero, i.size, i.bytes)) = some (some z, sz, by_)) (hx : a.eval x = .slice s n c) (hy : a.eval y = .int k i) (m : Nat) (hm : i = (m : Int)) (hn : m ≤ n) :
    (execOp a.eval ⟨d,.slice t x (some y) none none,ty,pos,af,g⟩).run P w = .ok (.value (.slice (if c=m then s else s.map (fun q=>q.add (m * sz))) (n - m) (c - m))) w:=by
  subst hm;obtain ⟨ie,hie,_,hz,_⟩:=ft hi;simp [execOp,Instr.sliceAt,Instr.slice,Instr.sliceBounds,Instr.sliceBound,run_underlying ht,hx,hy,asIntOf,hn,sizeOf,typeInfo,hie,hz]
theorem tA {t e : TypeId} {len : Nat} {parts : Array (Nat × Operand)} (vs : List (Nat × Value)) (cs : List Value) {z : Value} {sz by_ : Nat} (ht : P.underlying t = some (.slice e)) (hi : (P.info? e).map (fun i => (i.zero, i.size, i.bytes)) = some (some z, sz, by_)) (hsmall : ¬ len * sz > 2 ^ 24) (hpos : ¬ len * sz = 0)
    (hv:parts.toList.map (fun p=>(p.1,a.eval p.2))=vs) (hf:Instr.fill (fun i=>some (i * sz,sz)) ((Array.range (len * sz)).map (z.cells[· % z.cells.size]!)) vs=some cs.toArray) :
    (execOp a.eval ⟨d,.buildSlice t len parts,ty,pos,af,g⟩).run P w = .ok (.value (.slice (some ⟨w.heap.size,0,none⟩) len len)) (w.alloc (.cells cs.toArray e)):=by
  obtain ⟨ie,hie,hz,hs,_⟩:=ft hi;subst hs;exact tz vs cs ie z ht hie hz hsmall hpos hv hf
theorem tp {x y : Operand} {t : TypeId} {b : Nat} {cs vs : List Value} {e : TypeId} (hz : (P.info? t).map (·.size) = some vs.length) (hx : a.eval x = .pointer (some ⟨b, 0, none⟩)) (hy : a.eval y = .agg vs.toArray) (h1 : vs.all (·.oneCell') = true) (hb : Blk w.heap b cs e) (hl : cs.length = vs.length) :
    (execOp a.eval ⟨d,.store t x y,ty,pos,af,g⟩).run P w = .ok .skip (w.setRow b vs.toArray):=by
  have:=run_storeVar_row (P:=P) w b e t cs.toArray vs.toArray hb (by simpa using hz) (by simpa using hl) (by simpa using h1);simp [execOp,Instr.storeAt,hx,hy,Instr.sureAddr,this]
end
theorem iZ (w:World) (b:Nat) (vs:Array Value):Ch (In [one b]) w (w.setRow b vs) :=
  ⟨rfl,rfl,rfl,by simp [World.setRow],fun k _ hk=>by
    simp only [World.setRow,Array.getElem?_modify]
    rw [if_neg (fun e=>hk (by subst e;exact .inl rfl))]⟩
theorem lE {w:World} {b:Nat} {cs:List Value} {e:TypeId} (vs:List Value) (h:Blk w.heap b cs e):Blk (w.setRow b vs.toArray).heap b vs e:=by
  unfold Blk at *;simp [World.setRow,Array.getElem?_modify,h]
def vy {α:Type} (P:Program) (E:Enc α) (w:World) (f:FuncId) (caps:Array Value) (xs:List α) (p:α→Prop) [DecidablePred p]:Prop :=
  az P f∧∀ w',Tr [] w [] w'→∀ i,i < xs.length→Calls P f (#[.agg (E.cells (xs.getD i E.aa)).toArray]++caps) w' fun e w''=>e = .returned (.bool (decide (p (xs.getD i E.aa))))∧Tr [] w' [] w''
theorem Tr.drew {ms ms':List BS} {w w':World} (t:Tr ms w ms' w'):Tr ms w ms' { w' with drawn:=w'.drawn+1 }:=⟨t.ch.drew,t.sub,⟨t.ms.lt,t.ms.sep⟩⟩
theorem vb {p q:Prop} [Decidable p] [Decidable q] (h:p↔q):Value.bool (decide p)=Value.bool (decide q):=congrArg Value.bool (decide_eq_decide.2 h)
theorem vt {q:Prop} [Decidable q] (h:q):Value.bool true=Value.bool (decide q):=congrArg Value.bool (decide_eq_true h).symm
theorem vf {q:Prop} [Decidable q] (h:¬ q):Value.bool false=Value.bool (decide q):=congrArg Value.bool (decide_eq_false h).symm
theorem vi {k:IntKind} {x y:Int} (h:x=y):Value.int k x=Value.int k y:=congrArg _ h
theorem vs {x y:ByteArray} (h:x=y):Value.string x=Value.string y:=congrArg _ h
theorem r1 {x y:Value} (h:x=y):Ending.returned x=Ending.returned y:=congrArg _ h
theorem r2 {x y x' y':Value} (h:x=y) (h':x'=y'):Ending.returned (.tuple #[x,x'])=Ending.returned (.tuple #[y,y']):=by rw [h,h']
theorem r3 {x y x' y' x2 y2:Value} (h:x=y) (h':x'=y') (h2:x2=y2):Ending.returned (.tuple #[x,x',x2])=Ending.returned (.tuple #[y,y',y2]):=by rw [h,h',h2]
theorem bx {P:Program} {a:Act} {w:World} {d:Option Tmp} {ty:TypeId} {pos:String} {af:Array Edge} {g:Option (Nat × Bool)} {x:Operand} {p:Addr} (hx:a.eval x = .pointer (some p)):(execOp a.eval ⟨d,.nilCheck x,ty,pos,af,g⟩).run P w = .ok (.value (.pointer (some p))) w:=by
  simp [execOp,hx]
/- out[m]=v -/
section
variable {P:Program} {Q:Exit→Act→World→Prop} {n:Nat} {L:List (Nat × Value)} {a:Act} {w:World} {ops:Array Oper} {rest:List Oper} {o:Oper}
theorem lI {b f : Nat} {v : Value} {cur : Array Value} {e : TypeId} (h1 : v.oneCell' = true) (hb : w.heap[b]? = some (.cells cur e (0, 0))) (ho : f < cur.size) (m : Mode) :
    (store ⟨b,f,none⟩ v m).run P w = .ok () (w.setCell ⟨b,f,none⟩ v):=by
  rw [run_store P w _ v m h1];have hc:w.cell? ⟨b,f,none⟩=some cur[f]:=by
    show df w.heap b f=_;unfold df;rw [hb];simp [ho]
  have hf:w.frozen? ⟨b,f,none⟩=false:=by simp [World.frozen?,hb]
  simp [hc,hf]
end
theorem aN {α:Type} {E:Enc α} {et:TypeId} {base:Nat} {F:Nat→Prop} {ms:List BS} {w:World} {ad:Option Addr} {cap:Nat} {xs:List α} (r:Row E et base F ms w ad cap xs) {m:Nat} (hm:m < xs.length):ad=some ⟨blk ad,0,none⟩:=by
  rcases r.form with ⟨_,h,_⟩ | ⟨h,_⟩
  · rw [h] at hm;simp at hm
  · exact h
end Go.Proofs.Ytobggnpnochnnaa.V
/- More steps: captured blocks,results in cells,slices cut,lists made. -/
namespace Go.Proofs.Ytobggnpnochnnaa.V
open Go.RowKit
structure pR (ms:List BS) (h:Array Obj) (b:Nat) (cs:List Value) (e:TypeId):Prop where
  k:Blk h b cs e
  n:¬ In ms b
theorem pR.tr {ms ms':List BS} {w w':World} {b:Nat} {cs:List Value} {e:TypeId} (r:pR ms w.heap b cs e) (T:Tr ms w ms' w'):pR ms' w'.heap b cs e :=
  ⟨(T.ch.block b r.k.lt r.n).trans r.k,fun h=>(T.sub b h).elim r.n fun e=>absurd e (by have:=r.k.lt;omega)⟩
theorem pR.cell {ms:List BS} {h:Array Obj} {b j:Nat} {cs:List Value} {e:TypeId} {v:Value} (k:pR ms h b cs e) (hj:cs[j]?=some v):df h b j=some v:=k.k.cell hj
section
variable {P:Program} {Q:Exit→Act→World→Prop} {n:Nat} {L:List (Nat × Value)} {a:Act} {w:World} {d:Option Tmp} {ty:TypeId} {pos:String} {af:Array Edge} {g:Option (Nat × Bool)}
theorem ix {fn:Func} {R:Ending→World→Prop} {t T:Nat} {b:Nat} (hr:fn.results = #[.cell t T]) (S:aP n L a) (hv:look t L=some (.pointer (some ⟨b,0,none⟩))) (cs:List Value) (hs:iS P T cs.length) (hc:∀ j v,cs[j]?=some v→df w.heap b (0+j)=some v) (h:R (.returned (.agg cs.toArray)) w):bodyPost P fn R .ret a w:=by
  refine ⟨S.defers,_,?_,h⟩;have hl:=fj cs hs hc;have h1:=S.get t _ hv;simp only [Array.getD_eq_getD_getElem?] at h1;simp [results,hr,h1,asAddr,hl]
theorem vJ {x y:Operand} {xt yt:TypeId} {p q:Prop} [Decidable p] [Decidable q] (hu:P.underlying xt=some .bool) (hx:a.eval x = .bool (decide p)) (hy:a.eval y = .bool (decide q)):(execOp a.eval ⟨d,.binOp .eql xt x y yt,ty,pos,af,g⟩).run P w = .ok (.value (.bool (decide (p↔q)))) w:=by
  rw [xT hu hx hy]
  congr 3
  simp only [decide_eq_decide]
theorem bq {e : TypeId} {z : Value} {size bytes : Nat} (cs : List Value) (hi : (P.info? e).map (fun i => (i.zero, i.size, i.bytes)) = some (some z, size, bytes)) (hv : z.cells = cs.toArray) :
    (execOp a.eval ⟨d,.alloc e,ty,pos,af,g⟩).run P w = .ok (.value (.pointer (some ⟨w.heap.size,0,none⟩))) (w.alloc (.cells cs.toArray e)):=by
  obtain ⟨i,h1,h2,_⟩:=ft hi;exact vK cs (by rw [h1];exact h2) hv
theorem nF {x y : Operand} {t e : TypeId} {s : Option Addr} {n c : Nat} {k : IntKind} {i : Int} {z : Value} {sz by_ : Nat} (ht : P.underlying t = some (.slice e)) (hi : (P.info? e).map (fun i => (i.zero, i.size, i.bytes)) = some (some z, sz, by_)) (hx : a.eval x = .slice s n c) (hy : a.eval y = .int k i) (m : Nat) (hm : i = (m : Int)) (hc : m ≤ c) (hs : s = none → c = 0) (n' : Nat) (hn : m = n') :
    (execOp a.eval ⟨d,.slice t x none (some y) none,ty,pos,af,g⟩).run P w = .ok (.value (.slice s n' c)) w:=by
  subst hn;exact xP ht hi hx hy m hm hc hs
def bm {α:Type} (E:Enc α) (s:Sl α) (m:Nat):Sl α:=⟨if s.c=m then s.a else s.a.map (fun q=>q.add (m * E.n)),s.c - m,s.xs.drop m⟩
theorem ew {α:Type} {E:Enc α} {D:Nat→Prop} {h:Array Obj} {s:Sl α} (H:(slE E).wf D h s) (m:Nat) (hm:m≤s.xs.length):(slE E).wf D h (bm E s m):=by
  refine ⟨H.1.drop m hm _ fun hlt=>?_,by have:=H.2.1;simp [bm];omega,fun e=>?_⟩
  · have h1 := H.1.adr hlt;have h2 : ¬ s.c = m := by have := H.2.1; omega
    show (if s.c=m then _ else _)=_;rw [if_neg h2,h1];simp [fI,blk,off]
  · show s.c - m = 0
    by_cases hc:s.c=m
    · omega
    · have:(if s.c=m then s.a else s.a.map (fun q=>q.add (m * E.n)))=none:=e;rw [if_neg hc] at this;have h3:s.a=none:=by cases hs:s.a with
        | none=>rfl
        | some p=>rw [hs] at this;cases this
      have:=H.2.2 h3;omega
theorem ea {α : Type} (E : Enc α) {x y : Operand} {t e : TypeId} (s : Sl α) {k : IntKind} {i : Int} {z : Value} {by_ : Nat} (ht : P.underlying t = some (.slice e)) (hi : (P.info? e).map (fun i => (i.zero, i.size, i.bytes)) = some (some z, E.n, by_)) (hx : a.eval x = .slice s.a s.xs.length s.c) (hy : a.eval y = .int k i) (m : Nat) (hm : i = (m : Int)) (hn : m ≤ s.xs.length) :
    (execOp a.eval ⟨d,.slice t x (some y) none none,ty,pos,af,g⟩).run P w = .ok (.value (.slice (bm E s m).a (bm E s m).xs.length (bm E s m).c)) w:=by
  rw [xO ht hi hx hy m hm hn];simp [bm]
end
theorem eC {P : Program} {a : Act} {w : World} {d : Option Tmp} {ty : TypeId} {pos : String} {af : Array Edge} {g : Option (Nat × Bool)} {t e : TypeId} {z : Value} {sz by_ : Nat} (ht : P.underlying t = some (.slice e)) (hi : (P.info? e).map (fun i => (i.zero, i.size, i.bytes)) = some (some z, sz, by_)) :
    (execOp a.eval ⟨d,.buildSlice t 0 #[],ty,pos,af,g⟩).run P w = .ok (.value (.slice (some ⟨w.heap.size,0,none⟩) 0 0)) (w.alloc (.cells #[] e)):=by
  obtain ⟨ie,hie,_,_,_⟩:=ft hi;simp [execOp,Instr.buildSlice,run_underlying ht,sizeOf,typeInfo,hie,newRow,Instr.fill]
  congr 2;apply Array.eq_empty_of_size_eq_zero;simp
theorem p6 {α:Type} {E:Enc α} {base:Nat} {F:Nat→Prop} {ms:List BS} {w:World} {b:Nat} {e:TypeId} (k:Blk w.heap b [] e) (hb:base≤b):Row E e base F ms w (some ⟨b,0,none⟩) 0 [] :=
  ⟨⟨by simp,.inr ⟨b,0,#[],rfl,hb,k,Nat.le_refl _,by simp [maxLen],by simp,by simp⟩⟩,fun x h=>by simp at h⟩
theorem iu (b:Nat):abk (some ⟨b,0,none⟩)=one b:=by
  funext k;unfold abk one;simp [eq_comm]
theorem Tr.uK {ms:List BS} {w w':World} {b:Nat} (hM:MS ms w) (hb:w.heap.size=b) (hl:b < w'.heap.size) (g:Ch (In []) w w'):Tr ms w (abk (some ⟨b,0,none⟩)::ms) w':=by
  rw [iu];exact Tr.fresh hM hb hl g
theorem Row.up {α:Type} {E:Enc α} {t:TypeId} {base b0:Nat} {F:Nat→Prop} {ms m0:List BS} {w:World} {ad:Option Addr} {cap:Nat} {xs:List α} (r:Row E t base (Ex F ms) (abk ad::m0) w ad cap xs) (hb:b0≤base):Row E t b0 F (abk ad::ms) w ad cap xs :=
  ⟨(r.lower hb).own,fun x hx=>E.mono (fun k _ h=>⟨fun e=>e.elim (fun e=>h.1 (.inl e)) fun e=>h.2 (.inl e),fun e=>h.2 (.inr e)⟩) (r.wf x hx)⟩
section
variable {P:Program} {a:Act} {w:World} {d:Option Tmp} {ty:TypeId} {pos:String} {af:Array Edge} {g:Option (Nat × Bool)} {x y:Operand} {xt yt e:TypeId} {s:Option Addr} {n c n' c':Nat}
theorem kU (hu:P.underlying xt=some (.slice e)) (hx:a.eval x = .slice s n c) (hy:a.eval y = .slice none n' c'):(execOp a.eval ⟨d,.binOp .eql xt x y yt,ty,pos,af,g⟩).run P w = .ok (.value (.bool (decide (s=none)))) w:=by
  refine qL hx hy (by simp [eqGuard]) ?_;rw [Lib.run_eql_slice_nil w xt e s n c n' c' hu];cases s <;> rfl
end
theorem strip {P:Program} {Q:Exit→Act→World→Prop} {n:Nat} {L:List (Nat × Value)} {a:Act} {w:World} {ops:Array Oper} {rest:List Oper} {dst:Option Tmp} {op:Op} {ty:TypeId} {pos:String} {af:Array Edge} {j gd:Nat} {b:Bool} {p:Oper} (S:aP n L a) (hj:ops[j]?=some p) (hd:p.dst=some gd) (hv:look gd L=some (.bool b)) (h:wpList P ops Q (⟨dst,op,ty,pos,af,none⟩::rest) a w):wpList P ops Q (⟨dst,op,ty,pos,af,some (j,b)⟩::rest) a w:=by
  unfold wpList at *;have hv':=mg (S.get gd _ hv);rw [if_pos (by simp [Region.wanted,yielded,hj,hd,hv'])];rw [if_pos (by simp [Region.wanted])] at h;exact h
theorem nY {α : Type} {E : Enc α} {P : Program} {o : Oper} {a : Act} {K : Act → World → Prop} {Q : Exit → Act → World → Prop} {t e : TypeId} {ms : List BS} {w w0 : World} {F : Nat → Prop} (l c : Operand) (hop : o.op = .makeSlice t l c) (z : Value) (bytes : Nat) (ht : P.underlying t = some (.slice e)) (hi : (P.info? e).map (fun i => (i.zero, i.size, i.bytes)) = some (some z, E.n, bytes)) (hn : E.n = 1) (x0 : α) (h0 : E.cells x0 = [z]) (hz : z.cells = #[z])
    {kl kc:IntKind} {L C:Int} (n:Nat) (hl:a.eval l = .int kl L) (hc:a.eval c = .int kc C) (hL:L=(n:Int)) (hC:C=(n:Int)) (hb:bytes * n≤281474976710656) (hm:n≤maxLen) (hM:MS ms w) (hw:∀ h,E.wf (Fr F (abk (some ⟨w.heap.size,0,none⟩)::ms)) h x0) (hF0:w0.heap.size≤w.heap.size)
    (h:∀ ad w',Row E e w0.heap.size F (abk ad::ms) w' ad n (List.replicate n x0)→Tr ms w (abk ad::ms) w'→Ch (In []) w w'→K (a.put o.dst (.slice ad n n)) w'):o.wp P a w K Q:=by
  obtain ⟨i0,hi0,hz0,hz1,hz2⟩:=ft hi;subst hL hC;obtain ⟨w',hr,h2,h3⟩:=run_make_full (P:=P) w w0.heap.size t e i0 z E.n ht hi0 hz0 hz1 kl kc n (by rw [hz2];exact hb) hm hF0;have hch:Ch (In []) w w':=(Ch.lT h3).mono fun k hk=>by cases hk
  have hcells:(madeCells z.cells (n * E.n)).toList=(List.replicate n x0).flatMap E.cells:=by
    have e2:(List.replicate n x0).flatMap E.cells=List.replicate n z:=by
      clear h2 hr hb hm hl hc h
      induction n with
      | zero=>rfl
      | succ n ih=>rw [List.replicate_succ,List.flatMap_cons,ih,h0];rfl
    rw [e2];simp only [hn,hz,madeCells,Nat.mul_one]
    apply List.ext_getElem
    · simp
    · intro i h1 h2;simp [Nat.mod_one]
  have hlt:w.heap.size < w'.heap.size:=by
    rcases h2.2 with ⟨h1,_⟩ | ⟨g,c,cur,h1,_,h3,_⟩
    · cases h1
    · injection h1 with h1
      have:g=w.heap.size:=by injection h1 with h1;injection h1 with h1;exact h1.symm
      subst this
      rcases Nat.lt_or_ge w.heap.size w'.heap.size with k | k
      · exact k
      · rw [Array.getElem?_eq_none k] at h3;cases h3
  have T:Tr ms w (abk (some ⟨w.heap.size,0,none⟩)::ms) w':=(Tr.iK hM hch).cons fun k e=>by
    cases e
    exact ⟨Nat.le_refl _,hlt,fun h=>absurd (hM.lt _ h) (Nat.lt_irrefl _)⟩
  unfold Oper.wp execOp;simp only [hop,hl,hc,Sem.run_bind,hr,Result.andThen_ok,Sem.run_pure];refine h (some ⟨w.heap.size,0,none⟩) w' ⟨?_,fun x hx=>?_⟩ T hch
  · rw [List.length_replicate,← hcells];exact h2
  · obtain rfl:=List.eq_of_mem_replicate hx;exact hw _
end Go.Proofs.Ytobggnpnochnnaa.V
/- Regions in which an address is made beside an append,in either order: x.f=append(x.f,..). -/
namespace Go.Proofs.Ytobggnpnochnnaa.V
open Go.RowKit
theorem Oper.pU {P:Program} {o:Oper} {a:Act} {w:World} {K:Act→World→Prop} {Q:Exit→Act→World→Prop} (h:o.wp P a w K Q):o.wp P a w (fun a' w'=>K a' w'∧∃ v,a'.tmps=(a.put o.dst v).tmps) Q:=by
  unfold Oper.wp at *
  generalize (execOp a.eval o).run P w=r at *
  cases r with
  | ok n w' =>
    cases n <;> simp only [Oper.upon] at h ⊢ <;>
      first
        | exact ⟨h,_,rfl⟩
        | exact ⟨h,undef,by cases o.dst <;> rfl⟩
        | exact Calls.mono h (fun e w'' he=>by cases e <;> first | exact ⟨he,_,rfl⟩ | exact he)
        | exact Rows.mono h (fun _ _ he=>⟨he,_,rfl⟩)
  | halt x w'=>cases x <;> simp only [Oper.upon] at h ⊢ <;> exact h
def jE (ops:Array Oper) (n m:Nat) (L:List (Nat × Value)) (Z:List (Nat × Value)):Bool :=
  decide (n+m+1 < ops.size) && Region.sinkB .any ops n && Region.sinkB .any ops (n+m+1) && Region.chainB .any ops (n+m+1) &&
  Region.seqB .any ops (ops.size - (n+m+1)) (n+m+1) (Array.replicate (n+m+1) true++Array.replicate (ops.size - (n+m+1)) false) &&
  L.all (fun p=>(List.range (n+m+1)).all fun j=>match ops[j]? with | some q=>q.dst != some p.1 | none=>false) &&
  (match ops[n]? with | some o=>o.after.all fun e=>!Region.binds .any e || decide (e.on < n) | none=>false) &&
  decide (Z.length=m) && (List.range m).all fun k=>match ops[n+1+k]?,Z[k]? with
    | some o, some z => o.dst == some z.1 && o.guard.isNone && ((o.after.all fun e => !Region.binds .any e || (decide (n < e.on) && decide (e.on < n + 1 + k))) &&
        (List.range (n+m+1)).all fun j=>match ops[j]? with
          | some p=>(j == n+1+k || p.dst != some z.1) && (decide (n≤j) || !(p.looksAt ops).contains z.1)
          | none=>false)
    | _,_=>false
theorem kL {ops:Array Oper} {n:Nat} {listed:Array Bool} (hs:Region.sinkB .any ops n=true) (hcl:∀ j oj,ops[j]?=some oj→listed.getD j false=true∨j=n→∀ e∈oj.after,Region.binds .any e=true→listed.getD e.on false=true):∀ d i,n - i=d→i < n→listed.getD i false=true:=by
  intro d
  induction d using Nat.strongRecOn with
  | _ d ih =>
    intro i hd hi;have h1:=List.all_eq_true.1 hs i (List.mem_range.2 hi);obtain ⟨j,hj,hj2⟩:=List.any_eq_true.1 h1;simp only [Bool.and_eq_true,decide_eq_true_eq] at hj2;obtain ⟨oj,hoj,e,he,hb,hon⟩:=Region.waitsFor_spec hj2.2;have hjle:j≤n:=by have:=List.mem_range.1 hj;omega
    rw [← hon];refine hcl j oj hoj ?_ e he hb
    rcases Nat.lt_or_ge j n with g | g
    · exact .inl (ih (n - j) (by omega) j rfl g)
    · exact .inr (by omega)
section
variable {P:Program} {Q:Exit→Act→World→Prop}
theorem su {M : Nat → Prop} {ops : Array Oper} {n m N : Nat} {L Z : List (Nat × Value)} {W : World} {E : List (Nat × StP M)} {I LW : World → Prop} {Ds : List (List Nat)} {outs : List Nat} {J : Act → World → Prop} {t1 : Oper} {rest : List Oper}
    (ht1:ops[n]?=some t1) (hg1:t1.guard=none) (hrest:rest=ops.toList.drop (n+m+1))
    (hok:(dY ops n && dm ops n 0 Ds && fM ops n L && jB ops n outs && jE ops n m L Z)=true) (hlen:Ds.length=n)
    (step:∀ i,i < n→∃ o D,ops[i]?=some o∧Ds[i]?=some D∧∀ a w,Ch M W w→I w→aP N L a→fN E a w D→wpOp P ops Q i (fT o E I N a w) a w)
    (lzy:∀ k,k < m→∃ (o:Oper) (z:Nat × Value) (D:List Nat),ops[n+1+k]?=some o∧Z[k]?=some z∧z.1 < N∧(∀ k'∈D,∃ e,e∈o.after∧Region.binds .any e=true∧e.on=n+1+k')∧∀ a w,aP N L a→LW w→(∀ k'∈D,∀ z',Z[k']?=some z'→a.tmps.getD z'.1 undef=z'.2)→(execOp a.eval o).run P w = .ok (.value z.2) w)
    (hLI:∀ w,I w→LW w) (hLJ:∀ a w,J a w→LW w)
    (main:∀ a w,Ch M W w→I w→aP N L a→fN E a w outs→t1.wp P a w J Q)
    (stay:∀ a w d v,(∃ (k:Nat) (z:Nat × Value),Z[k]?=some z∧z.1=d)→J a w→J (a.put (some d) v) w) (hJ:∀ a w,J a w→aP N L a)
    (fin:∀ a w,J a w→aP N Z a→wpList P ops Q rest a w) :
    ∀ (f : Nat) (listed : Array Bool) (a : Act) (w : World), left (n + m + 1) listed = f → HeadInv .any ops (n + m + 1) listed → aP N L a →
      (∀ k z,Z[k]?=some z→listed.getD (n+1+k) false=true→a.tmps.getD z.1 undef=z.2) →
      (listed.getD n false=false→Ch M W w∧I w∧∀ j,j < n→listed.getD j false=true→∀ o d,ops[j]?=some o→o.dst=some d→cz E d (a.tmps.getD d undef) w) →
      (listed.getD n false=true→J a w) →
      wpAny P .any ops Q (f+(ops.size - (n+m+1))) listed a w:=by
  simp only [Bool.and_eq_true] at hok;obtain ⟨⟨⟨⟨h1,h2⟩,h3⟩,h4⟩,h5⟩:=hok;simp only [jE,Bool.and_eq_true,decide_eq_true_eq] at h5;obtain ⟨⟨⟨⟨⟨⟨⟨⟨hsz,hsink⟩,hsink2⟩,hchain⟩,hseq⟩,hLk⟩,ht1e⟩,hZl⟩,hz⟩:=h5
  have zfact : ∀ k, k < m → ∃ (o : Oper) (z : Nat × Value), ops[n + 1 + k]? = some o ∧ Z[k]? = some z ∧ o.dst = some z.1 ∧ o.guard = none ∧ (∀ e ∈ o.after, Region.binds .any e = true → n < e.on ∧ e.on < n + 1 + k) ∧
      ∀ j,j < n+m+1→∃ p,ops[j]?=some p∧(j=n+1+k∨p.dst≠some z.1)∧(n≤j∨z.1 ∉ p.looksAt ops):=fun k hk=>by
    have g:=List.all_eq_true.1 hz k (List.mem_range.2 hk)
    cases ho:ops[n+1+k]? with
    | none=>rw [ho] at g;cases g
    | some o =>
      cases hzk:Z[k]? with
      | none=>rw [ho,hzk] at g;cases g
      | some z =>
        rw [ho,hzk] at g;simp only [Bool.and_eq_true,beq_iff_eq,Option.isNone_iff_eq_none] at g;refine ⟨o,z,rfl,rfl,g.1.1,g.1.2,fun e he hb=>?_,fun j hj=>?_⟩
        · have := Array.all_eq_true_iff_forall_mem.1 g.2.1 e he
          simpa [hb] using this
        have g2:=List.all_eq_true.1 g.2.2 j (List.mem_range.2 hj)
        cases hp:ops[j]? with
        | none=>rw [hp] at g2;cases g2
        | some p =>
          rw [hp] at g2;simp only [Bool.and_eq_true,Bool.or_eq_true,beq_iff_eq,bne_iff_ne,decide_eq_true_eq,Bool.not_eq_true'] at g2;exact ⟨p,rfl,g2.1,g2.2.imp id fun h hm=>by rw [List.contains_eq_mem] at h;simp [hm] at h⟩
  -- no key of L is written
  have nokey:∀ j,j < n+m+1→∀ p,ops[j]?=some p→∀ i v,look i L=some v→p.dst≠some i:=fun j hj p hp i v hv=>by
    have g:=List.all_eq_true.1 hLk _ (fF hv);have g2:=List.all_eq_true.1 g j (List.mem_range.2 hj);rw [hp] at g2
    simpa using g2
  have putL:∀ {j:Nat} {p:Oper} {a:Act} {v:Value},j < n+m+1→ops[j]?=some p→aP N L a→aP N L (a.put p.dst v):=fun {j p a v} hj hp S=>by
    cases hd:p.dst with
    | none=>exact S
    | some d =>
      refine ⟨by simp [Act.put,S.size],S.defers,fun i u hu=>?_⟩;have hne:=nokey j hj p hp i u hu;rw [hd] at hne;rw [show (a.put (some d) v).tmps.getD i undef=a.tmps.getD i undef from by simp [Act.put,Array.getElem?_setIfInBounds_ne (fun (e:d=i)=>hne (by rw [e]))]];exact S.get i u hu
  intro f
  induction f with
  | zero =>
    intro listed a w hf inv S hZ hno hyes;have hall:=je hf;have get':∀ i,i < n+m+1→listed.getD i false=true:=fun i hi=>by
      have g3:=hall i hi;have hs:=inv.size;have hlt:i < listed.size:=by omega
      simp [hlt] at g3 ⊢;exact g3
    have hl:listed=Array.replicate (n+m+1) true++Array.replicate (ops.size - (n+m+1)) false:=by
      apply Array.ext
      · simp [inv.size];omega
      · intro i g1 g2
        by_cases hi:i < n+m+1
        · have g3:=hall i hi;simp [g1] at g3;simp [Array.getElem_append,hi,g3]
        · have g3:=inv.tail i (by omega) (by rw [← inv.size];exact g1);simp [g1] at g3;simp [Array.getElem_append,hi,g3]
    have hJ':J a w:=hyes (get' n (by omega))
    have SZ:aP N Z a:=⟨S.size,S.defers,fun i v hv=>by
      have:∀ (Z':List (Nat × Value)) (k:Nat),(∀ k' z,Z'[k']?=some z→Z[k+k']?=some z)→look i Z'=some v→∃ (k':Nat) (z:Nat × Value),Z[k']?=some z∧z.1=i∧z.2=v:=by
        intro Z'
        induction Z' with
        | nil=>intro k _ h;cases h
        | cons p r ih =>
          obtain ⟨q,u⟩:=p;intro k hk h;rw [bW] at h
          by_cases e:q=i
          · rw [if_pos e] at h;exact ⟨k,(q,u),by simpa using hk 0 _ rfl,e,Option.some.inj h⟩
          · rw [if_neg e] at h;exact ih (k+1) (fun k' z hz'=>by have:=hk (k'+1) z (by simpa using hz');rwa [show k+(k'+1)=k+1+k' from by omega] at this) h
      obtain ⟨k',z,e1,e2,e3⟩:=this Z 0 (fun k' z h=>by rw [Nat.zero_add];exact h) hv;have hk':k' < m:=by rw [← hZl];exact (List.getElem?_eq_some_iff.1 e1).1
      have:=hZ k' z e1 (get' _ (by omega))
      rw [← e2,← e3];exact this⟩
    subst hl;have hlen':rest.length=ops.size - (n+m+1):=by rw [hrest];simp
    have h:=wpAny_of_seq (P:=P) (ops:=ops) (md:=.any) (Q':=Q) rest (n+m+1) (Array.replicate (n+m+1) true++Array.replicate (ops.size - (n+m+1)) false) a w (fun j=>by rw [hrest,List.getElem?_drop,Array.getElem?_toList]) (by rw [hlen'];exact hseq) (fin a w hJ' SZ);rw [hlen'] at h;rw [Nat.zero_add];exact h
  | succ f ih =>
    intro listed a w hf inv S hZ hno hyes;rw [show f+1+(ops.size - (n+m+1))=(f+(ops.size - (n+m+1)))+1 from by omega];obtain ⟨j0,hj0n,hj0l,hj0min⟩:=j2 (n:=n+m+1) (listed:=listed) (by omega);have notready:∀ i,i∈Region.ready .any ops listed→i < n+m+1:=fun i hi=>Nat.lt_of_not_le fun h=>tail_waits hsink2 hchain hsz inv _ j0 rfl hj0n hj0l i h hi;refine ⟨fun hr=>?_,fun i hi=>?_⟩
    · exfalso;have hlow:∀ i,i < j0→listed.getD i false=true:=fun i hi=>by
        have g3:=hj0min i hi;have hs:=inv.size;have hlt:i < listed.size:=by omega
        simp [hlt] at g3 ⊢;exact g3
      have hmem:j0∈Region.ready .any ops listed:=by
        have hlt:j0 < ops.size:=by omega
        refine mem_ready.2 ⟨hj0l,ops[j0],Array.getElem?_eq_getElem hlt,fun e he hb=>hlow _ ?_⟩
        rcases Nat.lt_trichotomy j0 n with g | g | g
        · have q1 := List.all_eq_true.1 h1 j0 (List.mem_range.2 g);rw [Array.getElem?_eq_getElem hlt] at q1;simp only [Bool.and_eq_true] at q1;have q2 := Array.all_eq_true_iff_forall_mem.1 q1.1 e he
          simpa [hb] using q2
        · subst g;rw [Array.getElem?_eq_getElem hlt] at ht1e;have q2 := Array.all_eq_true_iff_forall_mem.1 ht1e e he
          simpa [hb] using q2
        · obtain ⟨o2,z,e1,_,_,_,e4,_⟩:=zfact (j0 - (n+1)) (by omega);rw [show n+1+(j0 - (n+1))=j0 from by omega,Array.getElem?_eq_getElem hlt] at e1;obtain rfl:=Option.some.inj e1;have:=(e4 e he hb).2;omega
      rw [hr] at hmem;cases hmem
    · have hin:=notready i hi;obtain ⟨hil,o,ho,hall⟩:=mem_ready.1 hi;have hil':=getD_both hil;have hl':=jZ hin hil;have inv':=inv.set hi hin;have zkeep:∀ {p:Oper} {v:Value} , ops[i]?=some p→(∀ k,i≠n+1+k)→∀ k z,Z[k]?=some z→(listed.setIfInBounds i true).getD (n+1+k) false=true→(a.put p.dst v).tmps.getD z.1 undef=z.2:=fun {p v} hp hne k z hzk hl=>by
        rw [getD_set_ne false (hne k)] at hl;have hk':k < m:=by rw [← hZl];exact (List.getElem?_eq_some_iff.1 hzk).1
        obtain ⟨o2,z2,_,e2,_,_,_,e5⟩:=zfact k hk';obtain rfl:=Option.some.inj (hzk.symm.trans e2);obtain ⟨p2,e6,e7,_⟩:=e5 i hin;obtain rfl:=Option.some.inj (hp.symm.trans e6);have e8:=e7.resolve_left (hne k);have:=hZ k z hzk hl
        cases hd:p.dst with
        | none=>exact this
        | some d =>
          have:d≠z.1:=fun e=>e8 (by rw [hd,e]);rw [show (a.put (some d) v).tmps.getD z.1 undef=a.tmps.getD z.1 undef from by simp [Act.put,Array.getElem?_setIfInBounds_ne this]]
          assumption
      rcases Nat.lt_trichotomy i n with hlt | heq | hgt
      · -- a head
        have hn1:listed.getD n false=false:=by
          cases hc:listed.getD n false
          · rfl
          · have:=kL hsink (fun j oj hoj h e he hb=>by
              rcases h with h | h
              · exact inv.closed j oj hoj h e he hb
              · subst h;exact inv.closed j oj hoj hc e he hb) _ i rfl hlt
            rw [hil'] at this;cases this
        obtain ⟨hC,hI,hE⟩:=hno hn1;obtain ⟨o',D,e1,e2,hst⟩:=step i hlt;obtain rfl:=Option.some.inj (ho.symm.trans e1);have hdep:∀ D',(∀ d∈D',d∈D)→fN E a w D':=by
          intro D'
          induction D' with
          | nil=>intro _;trivial
          | cons d r ihD =>
            intro hsub;refine ⟨?_,ihD fun d hd=>hsub d (List.mem_cons_of_mem _ hd)⟩;have hget:∀ (Ds:List (List Nat)) (k i:Nat),dm ops n k Ds=true→Ds[i]?=some D→∃ o,ops[k+i]?=some o∧∀ d∈D,d∈o.looksAt ops∧dD ops n d=true:=by
              intro Ds
              induction Ds with
              | nil=>intro k i _ h;simp at h
              | cons D0 Ds ihh =>
                intro k i hk hi;simp only [dm,Bool.and_eq_true] at hk
                cases i with
                | zero =>
                  obtain rfl:D0=D:=by simpa using hi
                  cases hp:ops[k]? with
                  | none=>rw [hp] at hk;cases hk.1
                  | some p =>
                    rw [hp] at hk;refine ⟨p,rfl,fun d hd=>?_⟩;have:=List.all_eq_true.1 hk.1 d hd
                    simpa [Bool.and_eq_true,List.contains_iff_mem] using this
                | succ i =>
                  obtain ⟨o,g1,g2⟩:=ihh (k+1) i hk.2 (by simpa using hi);exact ⟨o,by rw [show k+(i+1)=k+1+i from by omega];exact g1,g2⟩
            obtain ⟨o2,g1,g2⟩:=hget Ds 0 i h2 e2;rw [Nat.zero_add,ho] at g1;obtain rfl:=Option.some.inj g1;obtain ⟨g3,g4⟩:=g2 d (hsub d List.mem_cons_self);obtain ⟨k,p,g5,g6,g7⟩:=cO g4;have q1:=List.all_eq_true.1 h1 i (List.mem_range.2 hlt);simp only [ho,Bool.and_eq_true] at q1;have q2:=List.all_eq_true.1 q1.2 k (List.mem_range.2 g5);simp only [g6,g7,Bool.and_eq_true,Bool.or_eq_true,Bool.not_eq_true'] at q2
            rcases q2.2 with q3 | q3
            · rw [List.contains_eq_mem] at q3;simp [g3] at q3
            · obtain ⟨e,he,hb⟩:=Array.any_eq_true'.1 q3;simp only [Bool.and_eq_true,beq_iff_eq] at hb;exact hE k g5 (by rw [← hb.2];exact hall e he hb.1) p d g6 g7
        refine wpOp_mono ?_ (hst a w hC hI S (hdep D fun d hd=>hd));rintro a' w2 ⟨⟨v,rfl,hd'⟩,hc,hi'⟩;refine ih _ _ w2 (by omega) inv' (putL hin ho S) (zkeep ho (fun k=>by omega)) (fun _=>⟨hC.same hc,hi',fun k hk hkl p d hp hd=>?_⟩) fun hh=>?_
        · by_cases hki : k = i
          · subst hki;obtain rfl:=Option.some.inj (ho.symm.trans hp);obtain ⟨k1,k2⟩:=hd' d hd;rw [hd,dg a d d v (by rw [S.size];exact k1),if_pos rfl];exact k2
          · rw [getD_set_ne false (Ne.symm hki)] at hkl;have g1:=iO E d _ _ _ hc (hE k hk hkl p d hp hd);have hdist:o.dst≠some d:=by
              have q1:=List.all_eq_true.1 h1 i (List.mem_range.2 hlt);simp only [ho,Bool.and_eq_true] at q1;have q2:=List.all_eq_true.1 q1.2 k (List.mem_range.2 hk);simp only [hp,hd,Bool.and_eq_true,Bool.or_eq_true,beq_iff_eq,bne_iff_ne,Option.isNone_some,Bool.false_eq_true,or_false] at q2;exact fun e=>(q2.1.resolve_left hki) e.symm
            cases hod:o.dst with
            | none=>exact g1
            | some d2 =>
              have:d2≠d:=fun e=>hdist (by rw [hod,e]);rw [show (a.put (some d2) v).tmps.getD d undef=a.tmps.getD d undef from by simp [Act.put,Array.getElem?_setIfInBounds_ne this]];exact g1
        · rw [getD_set_ne false (by omega),hn1] at hh;cases hh
      · -- what may not be moved
        subst heq;obtain rfl:=Option.some.inj (ht1.symm.trans ho);obtain ⟨hC,hI,hE⟩:=hno hil';have hdown:=kL hsink (listed:=listed) fun j oj hoj h e he hb=>by
          rcases h with h | h
          · exact inv.closed j oj hoj h e he hb
          · subst h;obtain rfl:=Option.some.inj (ho.symm.trans hoj);exact hall e he hb
        have hde:∀ outs',(∀ d∈outs',dD ops i d=true)→fN E a w outs':=by
          intro outs'
          induction outs' with
          | nil=>intro _;trivial
          | cons d r ihd =>
            intro h;obtain ⟨k,p,g5,g6,g7⟩:=cO (h d List.mem_cons_self);exact ⟨hE k g5 (hdown _ k rfl g5) p d g6 g7,ihd fun d hd=>h d (List.mem_cons_of_mem _ hd)⟩
        have hm:=Oper.pU (main a w hC hI S (hde outs (List.all_eq_true.1 h4)));unfold wpOp;rw [ho];simp only [Region.wanted,hg1,if_true];refine .inl (Oper.wp_mono ?_ hm);rintro a' w2 ⟨hJ2,v,hv⟩;refine ih _ _ w2 (by omega) inv' (hJ _ _ hJ2) (fun k z hzk hl=>?_) (fun hh=>?_) fun _=>hJ2
        · rw [hv];exact zkeep (v:=v) ho (fun k=>by omega) k z hzk hl
        · have hlt : i < listed.size := by rw [inv.size]; omega
          simp [hlt] at hh
      · -- an address
        obtain ⟨k,hk⟩:∃ k,i=n+1+k:=⟨i - (n+1),by omega⟩;subst hk;have hkm:k < m:=by omega
        obtain ⟨o2,z,e1,e2,e3,e4,_,e5⟩:=zfact k hkm;obtain rfl:=Option.some.inj (ho.symm.trans e1);obtain ⟨o3,z3,D3,e6,e7,e8,eD,e9⟩:=lzy k hkm;obtain rfl:=Option.some.inj (ho.symm.trans e6);obtain rfl:=Option.some.inj (e2.symm.trans e7);unfold wpOp;rw [ho];simp only [Region.wanted,e4,if_true];have hlw:LW w:=by
          cases hc:listed.getD n false
          · exact hLI w (hno hc).2.1
          · exact hLJ a w (hyes hc)
        have hD3:∀ k'∈D3,∀ z',Z[k']?=some z'→a.tmps.getD z'.1 undef=z'.2:=fun k' hk' z' hz'=>by
          obtain ⟨e,he,hb,hon⟩:=eD k' hk';refine hZ k' z' hz' ?_;rw [← hon];exact hall e he hb
        refine .inl (fL (e9 a w S hlw hD3) ?_);rw [e3];have hput:∀ d,d≠z.1→(a.put (some z.1) z.2).tmps.getD d undef=a.tmps.getD d undef:=fun d hd=>by simp [Act.put,Array.getElem?_setIfInBounds_ne (Ne.symm hd)]
        refine ih _ _ w (by omega) inv' (by have:=putL (v:=z.2) hin ho S;rwa [e3] at this) (fun k' z' hzk hl=>?_) (fun hh=>?_) fun hh=>?_
        · by_cases hkk : k = k'
          · subst hkk;obtain rfl:=Option.some.inj (e2.symm.trans hzk);rw [dg a z.1 z.1 z.2 (by rw [S.size];exact e8),if_pos rfl]
          · rw [getD_set_ne false (by omega)] at hl;have hk' : k' < m := by rw [← hZl]; exact (List.getElem?_eq_some_iff.1 hzk).1
            obtain ⟨o4,z4,f1,f2,f3,_,_,f5⟩:=zfact k' hk';obtain rfl:=Option.some.inj (hzk.symm.trans f2);obtain ⟨p,f6,f7,_⟩:=f5 (n+1+k) hin;obtain rfl:=Option.some.inj (ho.symm.trans f6);have f8:=f7.resolve_left (by omega);rw [hput z'.1 (fun e=>f8 (by rw [e3,e]))];exact hZ k' z' hzk hl
        · rw [getD_set_ne false (by omega)] at hh;obtain ⟨hC,hI,hE⟩:=hno hh;refine ⟨hC,hI,fun j hj hjl p d hp hd=>?_⟩;rw [getD_set_ne false (by omega)] at hjl;obtain ⟨p2,f6,f7,_⟩:=e5 j (by omega);obtain rfl:=Option.some.inj (hp.symm.trans f6);have f8:=f7.resolve_left (by omega);rw [hput d (fun e=>f8 (by rw [hd,e]))];exact hE j hj hjl p d hp hd
        · rw [getD_set_ne false (by omega)] at hh;exact stay a w z.1 z.2 ⟨k,z,e2,rfl⟩ (hyes hh)
theorem tC {M : Nat → Prop} {LW : World → Prop} {id : Nat} {a₀ : Act} {w : World} {l : List Oper} {N : Nat} {L : List (Nat × Value)} (S : aP N L a₀) (n m : Nat) (E : List (Nat × StP M)) (I : World → Prop) (Ds : List (List Nat)) (outs : List Nat) (Z : List (Nat × Value)) (t1 : Oper) (rest : List Oper) (J : Act → World → Prop)
    (ht1:l[n]?=some t1) (hg1:t1.guard=none) (hrest:rest=l.drop (n+m+1)) (hm:P.follows .mixedOrders=true) (hok:(dY l.toArray n && dm l.toArray n 0 Ds && fM l.toArray n L && jB l.toArray n outs && jE l.toArray n m L Z)=true) (hlen:Ds.length=n) (hZ:Z.length=m) (hI:I { w with drawn:=w.drawn+1 })
    (step:steps P l.toArray Q N L w E I 0 (l.take n) Ds) (lzy:∀ k,k < m→∃ (o:Oper) (z:Nat × Value) (D:List Nat),l[n+1+k]?=some o∧Z[k]?=some z∧z.1 < N∧(∀ k'∈D,∃ e,e∈o.after∧Region.binds .any e=true∧e.on=n+1+k')∧∀ a w,aP N L a→LW w→(∀ k'∈D,∀ z',Z[k']?=some z'→a.tmps.getD z'.1 undef=z'.2)→(execOp a.eval o).run P w = .ok (.value z.2) w)
    (hLI:∀ w,I w→LW w) (hLJ:∀ a w,J a w→LW w)
    (main:∀ a w',Ch M w w'→I w'→aP N L a→fN E a w' outs→t1.wp P a w' J Q)
    (stay:∀ a w d v,(∃ (k:Nat) (z:Nat × Value),Z[k]?=some z∧z.1=d)→J a w→J (a.put (some d) v) w) (hJ:∀ a w,J a w→aP N L a)
    (fin:∀ a w,J a w→aP N Z a→wpList P l.toArray Q rest a w):(Code.region id l.toArray true).wp P Q a₀ w:=by
  have hsz:n+m+1 < l.length:=by
    have h:=hok;simp only [Bool.and_eq_true,jE,decide_eq_true_eq] at h
    simpa using h.2.1.1.1.1.1.1.1.1
  refine wp_region_any hm ?_;have inv0:HeadInv .any l.toArray (n+m+1) (Array.replicate l.toArray.size false) :=
    ⟨by simp,fun j oj _ hl=>(by rw [getD_replicate_false] at hl;cases hl),fun t _ ht=>getD_in (by simpa using ht) (getD_replicate_false _ _)⟩
  have hleft:left (n+m+1) (Array.replicate l.toArray.size false)=n+m+1:=by
    unfold left;rw [List.filter_eq_self.2]
    · simp
    · intro j hj;have := List.mem_range.1 hj;rw [getD_in (by simp; omega) (getD_replicate_false _ _)]
      rfl
  have h := su (P := P) (Q := Q) (M := M) (ops := l.toArray) (n := n) (m := m) (N := N) (L := L) (Z := Z) (W := w) (E := E) (I := I) (LW := LW) (Ds := Ds) (outs := outs) (J := J) (t1 := t1) (rest := rest) (by simpa using ht1) hg1 (by simpa using hrest) hok hlen
    (fun i hi=>by
      obtain ⟨o,D,e1,e2,h⟩:=iX (l.take n) Ds 0 i (by omega) (by simp;omega) step;rw [List.getElem?_take_of_lt hi] at e1;rw [Nat.zero_add] at h
      exact ⟨o,D,by simpa using e1,e2,h⟩)
    (fun k hk=>by
      obtain ⟨o,z,D,e1,e⟩:=lzy k hk
      exact ⟨o,z,D,by simpa using e1,e⟩) hLI hLJ
    main stay hJ fin (n+m+1) (Array.replicate l.toArray.size false) a₀ { w with drawn:=w.drawn+1 } hleft inv0 ⟨S.size,S.defers,S.get⟩
    (fun k z _ hl=>by rw [getD_replicate_false] at hl;cases hl) (fun _=>⟨(Ch.refl _).drew,hI,fun j _ hl=>(by rw [getD_replicate_false] at hl;cases hl)⟩) (fun hl=>by rw [getD_replicate_false] at hl;cases hl)
  rwa [show n+m+1+(l.toArray.size - (n+m+1))=l.toArray.size from by simp;omega] at h
theorem aP.jz {N d:Nat} {L:List (Nat × Value)} {a:Act} {v:Value} (S:aP N L a) (hd:look d L=none):aP N L (a.put (some d) v):=by
  refine ⟨by simp [Act.put,S.size],S.defers,fun i u hu=>?_⟩;have:d≠i:=by rintro rfl;rw [hd] at hu;cases hu
  rw [show (a.put (some d) v).tmps.getD i undef=a.tmps.getD i undef from by simp [Act.put,Array.getElem?_setIfInBounds_ne this]];exact S.get i u hu
theorem aP.both {N:Nat} {L Z:List (Nat × Value)} {a:Act} (S:aP N L a) (T:aP N Z a):aP N (Z++L) a:=by
  refine ⟨S.size,S.defers,fun i u hu=>?_⟩
  induction Z with
  | nil=>exact S.get i u hu
  | cons p r ih =>
    obtain ⟨j,v⟩:=p;rw [List.cons_append,bW] at hu
    by_cases e:j=i
    · rw [if_pos e] at hu;exact T.get i u (by rw [bW,if_pos e];exact hu)
    · rw [if_neg e] at hu
      by_cases hr:∃ x,look i r=some x
      · obtain ⟨x,hx⟩:=hr;have hx2:look i (r++L)=some x:=by
          clear ih T hu
          induction r with
          | nil=>cases hx
          | cons q r ih =>
            obtain ⟨k,y⟩:=q;rw [List.cons_append,bW];rw [bW] at hx
            by_cases ek:k=i
            · rw [if_pos ek] at hx ⊢;exact hx
            · rw [if_neg ek] at hx ⊢;exact ih hx
        rw [hx2] at hu;rw [← Option.some.inj hu];exact T.get i x (by rw [bW,if_neg e];exact hx)
      · have hn:look i r=none:=by
          cases h:look i r with
          | none=>rfl
          | some x=>exact absurd ⟨x,h⟩ hr
        have:look i (r++L)=look i L:=by
          clear ih T hu hr
          induction r with
          | nil=>rfl
          | cons q r ih =>
            obtain ⟨k,y⟩:=q;rw [bW] at hn;rw [List.cons_append,bW]
            by_cases ek:k=i
            · rw [if_pos ek] at hn;cases hn
            · rw [if_neg ek] at hn ⊢;exact ih hn
        rw [this] at hu;exact S.get i u hu
end
end Go.Proofs.Ytobggnpnochnnaa.V
/- Short forms of what a walk's text repeats. -/
namespace Go.Proofs.Ytobggnpnochnnaa.V
open Go.RowKit
abbrev bD (p:Prop) [Decidable p]:Value:=.bool (decide p)
abbrev iN (n:Nat):Value:=.int .i64 (n:Int)
abbrev iI (i:Int):Value:=.int .i64 i
abbrev pT (b o:Nat):Value:=.pointer (some ⟨b,o,none⟩)
abbrev sV {α:Type} (s:Sl α):Value:=.slice s.a s.xs.length s.c
section
variable {P:Program} {Q:Exit→Act→World→Prop} {n:Nat} {L:List (Nat × Value)} {a:Act} {w:World} {ops:Array Oper} {rest:List Oper} {o:Oper} {ty:TypeId} {pos:String} {af:Array Edge}
theorem aP.e (S:aP n L a) {x:Operand} {v:Value} (h:evS L x=some v):a.eval x=v:=S.eval h
theorem aP.p (S:aP n L a) {x:Operand} {c:Prop} [Decidable c] {v u:Value} (h:evS L x=some (if c then v else u)) (hc:c):a.eval x=v:=(S.eval h).trans (if_pos hc)
end
end Go.Proofs.Ytobggnpnochnnaa.V
/- Regions that draw their order and make several new blocks: what is told of two of them. -/
namespace Go.Proofs.Ytobggnpnochnnaa.V
open Go.RowKit
def rX : Value → Option Nat
  | .pointer (some ⟨b,_,_⟩)=>some b
  | .slice (some ⟨b,_,_⟩) _ _=>some b
  | _=>none
structure xK {M:Nat→Prop} (A:List Nat) (o:Oper) (E:List (Nat × StP M)) (I:World→Prop) (N:Nat) (a:Act) (w:World) (a':Act) (w':World):Prop where
  put:∃ v,a'=a.put o.dst v∧∀ d,o.dst=some d→d < N∧cz E d v w'∧(d∈A→∃ b,rX v=some b∧w.heap.size≤b)
  ch:Ch M w w'
  inv:I w'
def tL {M : Nat → Prop} (A : List Nat) (P : Program) (ops : Array Oper) (Q : Exit → Act → World → Prop) (N : Nat) (L : List (Nat × Value)) (W : World) (E : List (Nat × StP M)) (I : World → Prop) : Nat → List Oper → List (List Nat) → Prop
  | i,o::r,D::Ds=>(∀ a w,Ch M W w→I w→aP N L a→fN E a w D→wpOp P ops Q i (xK A o E I N a w) a w)∧tL A P ops Q N L W E I (i+1) r Ds
  | _,_,_=>True
theorem ik {ops:Array Oper} {n i k d:Nat} {o p:Oper} (hok:dY ops n=true) (hi:i < n) (hk:k < n) (ho:ops[i]?=some o) (hp:ops[k]?=some p) (hd:p.dst=some d) (hki:k≠i):o.dst≠some d:=by
  have g1:=List.all_eq_true.1 hok i (List.mem_range.2 hi);simp only [ho,Bool.and_eq_true] at g1;have g2:=List.all_eq_true.1 g1.2 k (List.mem_range.2 hk);simp only [hp,hd,Bool.and_eq_true,Bool.or_eq_true,beq_iff_eq,bne_iff_ne,Option.isNone_some,Bool.false_eq_true,or_false] at g2;exact fun e=>(g2.1.resolve_left hki) e.symm
theorem Row.ups {α:Type} {E:Enc α} {t:TypeId} {base b0:Nat} {F:Nat→Prop} {ms m0 nw:List BS} {w:World} {ad:Option Addr} {cap:Nat} {xs:List α} (r:Row E t base (Ex F ms) (nw++m0) w ad cap xs) (hb:b0≤base):Row E t b0 F (nw++ms) w ad cap xs :=
  ⟨(r.lower hb).own,fun x hx=>E.mono (fun k _ h=>⟨fun e=>(aK.1 e).elim (fun e=>h.1 (aK.2 (.inl e))) fun e=>h.2 (.inl e),fun e=>h.2 (.inr e)⟩) (r.wf x hx)⟩
end Go.Proofs.Ytobggnpnochnnaa.V
