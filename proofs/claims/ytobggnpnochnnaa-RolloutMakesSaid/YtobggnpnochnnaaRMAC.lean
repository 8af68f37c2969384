/- Texts of this claim in one: part C. -/
import Derived.Test.YtobggnpnochnnaaRMAB
import Derived.Test.YtobggnpnochnnaaRMAA
import Derived.Test.YtobggnpnochnnaaProg
import Derived.Shelf.SlicesE.DeleteFunc
import Derived.Shelf.Spec.SlicesInsertGrow
import Derived.Laws.AppendOwn
set_option linter.unusedVariables false
set_option linter.unusedSimpArgs false
set_option maxHeartbeats 4000000
set_option maxRecDepth 20000
namespace Go.Proofs.Ytobggnpnochnnaa.V
open Go.RowKit
section
variable {P : Program} {F : Nat → Prop} {w0 : World} {m0 : List BS} {n : Nat} {L : List (Nat × Value)} {fs : List RF} {os : List OF} {Q : Exit → Act → World → Prop}
def LZR (P : Program) (ops : Array Oper) (n : Nat) (L : List (Nat × Value)) (F : Nat → Prop) (w0 : World) (m0 : List BS) (fs : List RF) (os : List OF) (Z : List Zop) : List Zop → Prop
  | []=>True
  | z :: r=>((∃ o,ops[z.i]? = some o ∧ o.guard = none ∧ o.dst = some z.d ∧ ∀ a w,St F w0 m0 n (cat (vals (zTd Z) z.D) L) fs os a w → (execOp a.eval o).run P w = .ok (.value z.v) w) ∧ z.d < n ∧ lookT z.d (zTd Z) = some (.is z.v)) ∧ LZR P ops n L F w0 m0 fs os Z r
theorem zix_in {p : Zop} : ∀ {Z : List Zop}, p ∈ Z → p.i ∈ zix Z
  | y :: r,h=>(List.mem_cons.1 h).elim (fun e=>by subst e;exact List.mem_cons_self) fun h=>List.mem_cons_of_mem _ (zix_in h)
theorem LZR.get {ops : Array Oper} {Z : List Zop} : ∀ {Y : List Zop}, LZR P ops n L F w0 m0 fs os Z Y → ∀ z ∈ Y, (∃ o, ops[z.i]? = some o ∧ o.guard = none ∧ o.dst = some z.d ∧ ∀ a w, St F w0 m0 n (cat (vals (zTd Z) z.D) L) fs os a w → (execOp a.eval o).run P w = .ok (.value z.v) w) ∧ z.d < n ∧ lookT z.d (zTd Z) = some (.is z.v)
  | _ :: _,h,z,hz=>(List.mem_cons.1 hz).elim (fun e=>e ▸ h.1) fun hz=>LZR.get h.2 z hz
def chainC (ops : Array Oper) : List Nat → List (Nat × Nat) → Bool
  | D,(i,k) :: r=>D.contains k && okA.waitsA ops k i && chainC ops (i :: D) r
  | _,[]=>true
theorem chainC_all {ops : Array Oper} {listed : Array Bool} (hcl : ∀ t o, ops[t]? = some o → listed.getD t false = true → ∀ e ∈ o.after, Region.binds .any e = true → listed.getD e.on false = true) : ∀ (C : List (Nat × Nat)) (D : List Nat), (∀ k ∈ D, ∀ o, ops[k]? = some o → ∀ e ∈ o.after, Region.binds .any e = true → listed.getD e.on false = true) → chainC ops D C = true → ∀ p ∈ C, listed.getD p.1 false = true
  | (i,k) :: r,D,hD,h,p,hp=>by
    simp only [chainC,Bool.and_eq_true,List.contains_iff_mem] at h;obtain ⟨⟨h1,h2⟩,h3⟩:=h;have hi : listed.getD i false = true:=by
      unfold okA.waitsA at h2
      cases ho : ops[k]? with
      | none=>rw [ho] at h2;cases h2
      | some o =>
        rw [ho] at h2;obtain ⟨e,he,hb⟩:=Array.any_eq_true'.1 h2;simp only [Bool.and_eq_true,beq_iff_eq] at hb;rw [← hb.2];exact hD k h1 o ho e he hb.1
    rcases List.mem_cons.1 hp with rfl | hp
    · exact hi
    · exact chainC_all hcl r (i :: D) (fun q hq o ho=>(List.mem_cons.1 hq).elim (fun e=>by subst e;exact hcl q o ho hi) fun hq=>hD q hq o ho) h3 p hp
def okE (ops : Array Oper) (N d : Nat) (L : List (Nat × Value)) (Z : List Zop) (C : List (Nat × Nat)) : Bool :=
  (List.range N).all (fun i=>(Z.any fun z=>z.i == i) || C.any fun p=>p.1 == i) && chainC ops [N] C && C.all (fun p=>decide (p.1 < N)) &&
  Z.all (fun z=>z.i != N && z.d != d && (look z.d L).isNone && (z.D.all fun e=>Z.any fun y=>y.d == e && okA.waitsA ops z.i y.i) && (Z.all fun y=>y.i == z.i || y.d != z.d) && (List.range N).all fun i=>i == z.i || dstOf ops i != some z.d) &&
  (List.range N).all (fun i=>dstOf ops i != some d) && (look d L).isNone && decide (N < ops.size)
theorem lzE {α : Type} {id : Nat} {a : Act} {w : World} {l : List Oper} {d : Nat} {t ts : TypeId} {ad : Option Addr} {cap : Nat} {xs : List α} {z : Value} {bytes : Nat} {s x : Operand} {ty : TypeId} {pos : String} {af : Array Edge} (En : Enc α) (γ : Type) (S : St F w0 m0 n L fs os a w) (N : Nat) (chg : List BS) (E : List (Nat × Td (In chg))) (Ds : List (List Nat)) (outs : List Nat) (Z : List Zop) (C : List (Nat × Nat)) (ks : List Nat) (tail : List Oper) (j : Nat) (hj : nth os j = some (rwO En t w0.heap.size ad cap xs))
    (V : γ → List (Nat × Value)) (R : γ → Prop) (ys : γ → List α) (step : HS P l.toArray Q F w0 w m0 n L fs os E 0 (l.take N) Ds) (lz0 : LZR P l.toArray n L F w0 m0 fs os Z Z) (lz1 : ∀ g ad' cap',LZR P l.toArray n L F w0 m0 fs (os.set j (rwO En t w0.heap.size ad' cap' (xs ++ ys g))) Z Z)
    (hEZ : ∀ p ∈ Z,p.i < N → lookT p.d E = some (.is p.v))
    (main : ∀ a w',St F w0 m0 n (cat (vals E outs) L) fs os a w' → Ch (In chg) w w' → pdeps E a w' outs → ∃ (g : γ) (sa : Option Addr) (sc : Nat) (D : Nat → Prop),Slots n (cat (V g) L) a ∧ R g ∧ evS (cat (V g) L) s = some (.slice ad xs.length cap) ∧ evS (cat (V g) L) x = some (.slice sa (ys g).length sc) ∧ LAt En D w'.heap sa (ys g) ∧ (sa = none → sc = 0) ∧ (∀ y ∈ ys g,En.wf (Fr F (ow os)) w'.heap y) ∧ (xs.length + (ys g).length ≤ maxLen ∧ (xs.length + (ys g).length) * bytes ≤ 140737488355328))
    (fin : ∀ g ad' cap' a w,St F w0 m0 n (zvals Z ((d,.slice ad' (xs ++ ys g).length cap') :: L)) fs (os.set j (rwO En t w0.heap.size ad' cap' (xs ++ ys g))) a w → R g → wpList P l.toArray Q tail a w)
    (ht : P.underlying ts = some (.slice t)) (hz : (P.info? t).map (fun i=>(i.zero,i.size,i.bytes)) = some (some z,En.n,bytes)) (hzz : z.cells.size = En.n ∧ 0 < En.n:=by exact ⟨rfl,by decide⟩) (ht1 : l.toArray[N]? = some ⟨some d,.call ⟨.builtin .append,#[s,x],#[ts,ts]⟩,ty,pos,af,none⟩:=by rfl) (htl : tail = pickT l ks:=by rfl) (hm : P.follows .mixedOrders = true:=by exact mixed)
    (hok : (headOk l.toArray N && depsOk l.toArray N 0 Ds && keysOk l.toArray N L && okE l.toArray N d L Z C && (outs.all fun e=>isHead l.toArray N e && (List.range N).any fun i=>dstOf l.toArray i == some e && okA.waitsA l.toArray N i) && chk6 l.toArray (List.range (N + 1) ++ (zix Z).filter (fun i=>decide (N < i))) [] ks && ks.all fun k=>decide (k < l.length)) = true:=by kernel_rfl) (hlen : Ds.length = N:=by rfl) (hdn : d < n:=by decide)
    (hQ : ∀ c a d v w,Q (.panic c) (a.put (some d) v) w → Q (.panic c) a w:=by exact fun _ _ _ _ _ h=>h) : (Code.region id l.toArray true).wp P Q a w:=by
  simp only [Bool.and_eq_true] at hok;obtain ⟨⟨⟨⟨⟨⟨h1,h2⟩,h3⟩,h6⟩,h4⟩,h5⟩,h7⟩:=hok;have htl' : tail.map some = ks.map fun k=>l.toArray[k]?:=htl ▸ pickT_map h7;simp only [okE,Bool.and_eq_true,decide_eq_true_eq] at h6;obtain ⟨⟨⟨⟨⟨⟨e1,e2⟩,e3⟩,e4⟩,e5⟩,e6⟩,e7⟩:=h6;have h5':=h5;simp only [chk6,Bool.and_eq_true,decide_eq_true_eq] at h5';obtain ⟨⟨⟨⟨⟨⟨⟨_,_⟩,c3⟩,_⟩,_⟩,_⟩,_⟩,c8⟩:=h5'
  have hNl : N ≤ l.length := by have : N < l.length := by simpa using e7
                                omega
  have hz2 : ∀ p ∈ Z,p.i ≠ N ∧ p.d ≠ d ∧ look p.d L = none ∧ (∀ e ∈ p.D,∃ y ∈ Z,y.d = e ∧ okA.waitsA l.toArray p.i y.i = true) ∧ (∀ y ∈ Z,y.i ≠ p.i → y.d ≠ p.d) ∧ ∀ i,i < N → i ≠ p.i → dstOf l.toArray i ≠ some p.d:=fun p hp=>by
    have h:=List.all_eq_true.1 e4 p hp;simp only [Bool.and_eq_true,bne_iff_ne,Option.isNone_iff_eq_none] at h;obtain ⟨⟨⟨⟨⟨a1,a2⟩,a3⟩,a4⟩,a5⟩,a6⟩:=h;refine ⟨a1,a2,a3,fun e he=>?_,fun y hy hne=>?_,fun i hi hne=>?_⟩
    · obtain ⟨y,hy,h⟩:=List.any_eq_true.1 (List.all_eq_true.1 a4 e he);simp only [Bool.and_eq_true,beq_iff_eq] at h;exact ⟨y,hy,h.1,h.2⟩
    · have:=List.all_eq_true.1 a5 y hy;simp only [Bool.or_eq_true,beq_iff_eq,bne_iff_ne] at this;exact this.resolve_left hne
    · have:=List.all_eq_true.1 a6 i (List.mem_range.2 hi);simp only [Bool.or_eq_true,beq_iff_eq,bne_iff_ne] at this;exact this.resolve_left hne
  have hput : ∀ (a : Act) (o : Oper) (v : Value) d,o.dst ≠ some d → (a.put o.dst v).tmps.getD d undef = a.tmps.getD d undef:=fun a o v d hd=>by
    cases hod : o.dst with
    | none=>rfl
    | some d' =>
      have : d' ≠ d:=fun e=>hd (by rw [hod,e]);simp [Act.put,Array.getElem?_setIfInBounds_ne this]
  have hwt : ∀ (listed : Array Bool) (i : Nat) (o : Oper),l.toArray[i]? = some o → (∀ e ∈ o.after,Region.binds .any e = true → listed.getD e.on false = true) → ∀ k,okA.waitsA l.toArray i k = true → listed.getD k false = true:=fun listed i o ho hall k hk=>by
    unfold okA.waitsA at hk;rw [ho] at hk;obtain ⟨e,he,hb⟩:=Array.any_eq_true'.1 hk;simp only [Bool.and_eq_true,beq_iff_eq] at hb;rw [← hb.2];exact hall e he hb.1
  have hsl : ∀ (a : Act) (o : Oper) (v : Value),(∀ i v,look i L = some v → o.dst ≠ some i) → Slots n L a → Slots n L (a.put o.dst v):=fun a o v hk s=>by
    refine ⟨by cases o.dst <;> simp [Act.put,s.size],by cases o.dst <;> simp [Act.put,s.defers],fun i u hu=>?_⟩;rw [hput a o v i (hk i u hu)];exact s.get i u hu
  let G : Array Bool → Act → World → Prop := fun listed a w2 => (∀ t o, l.toArray[t]? = some o → listed.getD t false = true → ∀ e ∈ o.after, Region.binds .any e = true → listed.getD e.on false = true) ∧ Slots n L a ∧ (∀ p ∈ Z, listed.getD p.i false = true → a.tmps.getD p.d undef = p.v) ∧
    ((listed.getD N false = false ∧ Ch (In chg) w w2 ∧ Mm F w0 m0 fs os w2 ∧ ∀ i,i < N → listed.getD i false = true → ∀ o e,l.toArray[i]? = some o → o.dst = some e → lookE (tq E) e (a.tmps.getD e undef) w2) ∨
    (listed.getD N false = true ∧ (∀ p ∈ C,listed.getD p.1 false = true) ∧ ∃ g ad' cap',a.tmps.getD d undef = .slice ad' (xs ++ ys g).length cap' ∧ Mm F w0 m0 fs (os.set j (rwO En t w0.heap.size ad' cap' (xs ++ ys g))) w2 ∧ R g))
  have hstart : G (Array.replicate l.length false) a { w with drawn:=w.drawn + 1 } :=
    ⟨fun t o _ ht=>(by rw [getD_replicate_false] at ht;cases ht),⟨S.s.size,S.s.defers,S.s.get⟩,fun p _ h=>(by rw [getD_replicate_false] at h;cases h),.inl ⟨getD_replicate_false ..,(Ch.refl _).drew,S.m.drew,fun i _ hl=>by rw [getD_replicate_false] at hl;cases hl⟩⟩
  refine wp_region_any hm ?_;have hc8 : cntB l.toArray.size ks (Array.replicate l.toArray.size false) + ks.length = l.toArray.size:=c8
  suffices key : wpAny P .any l.toArray Q (cntB l.toArray.size ks (Array.replicate l.toArray.size false) + ks.length) (Array.replicate l.toArray.size false) a { w with drawn:=w.drawn + 1 } by
    rw [hc8] at key;exact key
  refine sched6 (G:=G) (List.range (N + 1) ++ (zix Z).filter (fun i=>decide (N < i))) [] ks tail htl' h5 hQ ?_ (fun z hz=>by cases hz) ?_ _ _ a _ rfl (by simp) (fun k hk d hlt=>by simp [show k < l.length from by simpa using hlt]) (fun t _ _ ht=>by rw [getD_replicate_false] at ht;cases ht) hstart
  · intro i hi listed a1 w1 hls hG hr;obtain ⟨hil, o, ho, hall⟩ := mem_ready.1 hr;have hlt : i < listed.size := by rw [hls]; exact (Array.getElem?_eq_some_iff.1 ho).1
    have hil' : listed.getD i false = false:=by
      rw [Array.getD_eq_getD_getElem?,Array.getElem?_eq_getElem hlt] at hil ⊢;exact hil
    obtain ⟨hcl,s,hZ,hcase⟩:=hG;have hcl2 : ∀ t o,l.toArray[t]? = some o → (listed.setIfInBounds i true).getD t false = true → ∀ e ∈ o.after,Region.binds .any e = true → (listed.setIfInBounds i true).getD e.on false = true:=fun t p hp ht e he hb=>by
      by_cases hti : t = i
      · subst hti;obtain rfl:=Option.some.inj (ho.symm.trans hp);exact getD_set_true (hall e he hb)
      · rw [getD_set_any (Ne.symm hti)] at ht;exact getD_set_true (hcl t p hp ht e he hb)
    by_cases hzi : ∃ p ∈ Z,p.i = i
    · obtain ⟨p,hp,rfl⟩:=hzi;obtain ⟨n1,n2,n7,n8,n9,n10⟩:=hz2 p hp;have hrun : ∀ os',Mm F w0 m0 fs os' w1 → LZR P l.toArray n L F w0 m0 fs os' Z Z → ∃ o',l.toArray[p.i]? = some o' ∧ o'.guard = none ∧ o'.dst = some p.d ∧ p.d < n ∧ (execOp a1.eval o').run P w1 = .ok (.value p.v) w1:=fun os' hM hl=>by
        obtain ⟨⟨o',ho',hg,hd,hr⟩,hpn,_⟩:=hl.get p hp;refine ⟨o',ho',hg,hd,hpn,hr a1 w1 ⟨?_,hM⟩⟩;have hdp : ∀ D,(∀ d ∈ D,d ∈ p.D) → deps (tq (zTd Z : List (Nat × Td (In ([] : List BS))))) a1 w1 D:=by
          intro D
          induction D with
          | nil=>intro _;trivial
          | cons d r ih =>
            intro hs;refine ⟨?_,ih fun d hd=>hs d (List.mem_cons_of_mem _ hd)⟩;obtain ⟨y,hy,rfl,hyw⟩:=n8 d (hs d List.mem_cons_self);rw [look_tq (hl.get y hy).2.2];exact hZ y hy (hwt listed p.i o ho hall y.i hyw)
        exact (deps_open s p.D (hdp p.D fun d hd=>hd)).1
      have hZ2 : ∀ v,v = p.v → o.dst = some p.d → p.d < n → ∀ y ∈ Z,(listed.setIfInBounds p.i true).getD y.i false = true → (a1.put o.dst v).tmps.getD y.d undef = y.v:=fun v hv hod hpn y hy hyl=>by
        subst hv
        by_cases hyp : y.i = p.i
        · obtain ⟨⟨oy, hoy, _, hoyd, _⟩, _, hly⟩ := lz0.get y hy;rw [hyp] at hoy;obtain rfl := Option.some.inj (ho.symm.trans hoy);have hyd : p.d = y.d := Option.some.inj (hod.symm.trans hoyd);rw [← hyd, (lz0.get p hp).2.2] at hly;have hv : p.v = y.v := by injection Option.some.inj hly
          rw [← hyd,hod,getD_put a1 p.d p.d p.v (by rw [s.size];exact hpn),if_pos rfl,hv]
        · rw [getD_set_any (fun e=>hyp e.symm)] at hyl;rw [hput a1 o p.v y.d (by rw [hod];exact fun e=>n9 y hy hyp (Option.some.inj e).symm)];exact hZ y hy hyl
      rcases hcase with ⟨k0,hC,hM,hdone⟩ | ⟨k1,hc,g,ad',cap',hsd,hM,hR⟩
      · obtain ⟨o', ho', hg, hd, hpn, hrn⟩ := hrun os hM lz0;obtain rfl := Option.some.inj (ho.symm.trans ho');refine head_op ho hg (op_val hrn ⟨hcl2, hsl a1 o p.v (fun i v hv e => by rw [hd] at e; rw [Option.some.inj e] at n7; rw [n7] at hv; cases hv) s, hZ2 p.v rfl hd hpn, .inl ⟨by rw [getD_set_any n1]; exact k0, hC, hM, fun q hq hql p' e hp' he => ?_⟩⟩)
        by_cases hqi : q = p.i
        · subst hqi;obtain rfl:=Option.some.inj (ho.symm.trans hp');have:=Option.some.inj (hd.symm.trans he);subst this;rw [hd,getD_put a1 p.d p.d p.v (by rw [s.size];exact hpn),if_pos rfl];exact (look_tq (hEZ p hp hq)).2 rfl
        · rw [getD_set_any (fun e=>hqi e.symm)] at hql;have hne : o.dst ≠ some e:=fun h=>n10 q hq hqi (by simp only [dstOf,hp',Option.bind_some,he];rw [← h,hd]);rw [hput a1 o p.v e hne];exact hdone q hq hql p' e hp' he
      · obtain ⟨o',ho',hg,hd,hpn,hrn⟩:=hrun _ hM (lz1 g ad' cap');obtain rfl:=Option.some.inj (ho.symm.trans ho');refine head_op ho hg (op_val hrn ⟨hcl2,hsl a1 o p.v (fun i v hv e=>by rw [hd] at e;rw [Option.some.inj e] at n7;rw [n7] at hv;cases hv) s,hZ2 p.v rfl hd hpn,.inr ⟨by rw [getD_set_any n1];exact k1,fun q hq=>getD_set_true (hc q hq),g,ad',cap',?_,hM,hR⟩⟩);rw [hput a1 o p.v d (by rw [hd];exact fun e=>n2 (Option.some.inj e))];exact hsd
    · have hiN : i < N + 1:=by
        rcases List.mem_append.1 hi with h | h
        · exact List.mem_range.1 h
        · obtain ⟨p,hp,hpi⟩:=zix_mem (List.mem_filter.1 h).1;exact absurd ⟨p,hp,hpi⟩ hzi
      by_cases hN : i = N
      · subst hN;obtain rfl := Option.some.inj (ht1.symm.trans ho)
        rcases hcase with ⟨k0,hC,hM,hdone⟩ | ⟨k1,_⟩
        · have hdeps : ∀ D,(∀ d ∈ D,d ∈ outs) → deps (tq E) a1 w1 D:=by
            intro D
            induction D with
            | nil=>intro _;trivial
            | cons e r ih =>
              intro hsub;refine ⟨?_,ih fun d hd=>hsub d (List.mem_cons_of_mem _ hd)⟩;have h8:=List.all_eq_true.1 h4 e (hsub e List.mem_cons_self);simp only [Bool.and_eq_true] at h8;obtain ⟨q,hq,h9⟩:=List.any_eq_true.1 h8.2;simp only [Bool.and_eq_true,beq_iff_eq] at h9
              cases hp : l.toArray[q]? with
              | none=>simp [dstOf,hp] at h9
              | some p=>exact hdone q (List.mem_range.1 hq) (hwt listed i _ ht1 hall q h9.2) p e hp (by simpa [dstOf,hp] using h9.1)
          obtain ⟨f1,f2⟩:=deps_open s outs (hdeps outs fun d hd=>hd);obtain ⟨g,sa,sc,D,k1,k2,k3,k4,k5,k6,k7,k8⟩:=main a1 w1 ⟨f1,hM⟩ hC f2;have e1':=rowSplit hj
          have hCl:=chainC_all (listed:=listed) hcl C [i] (fun k hk o ho2=>by
            obtain rfl:=List.mem_singleton.1 hk;obtain rfl:=Option.some.inj (ht1.symm.trans ho2)
            exact hall) e2
          refine head_op ho rfl (op_append (E:=En) ((ow os).take j) ((ow os).drop (j + 1)) _ _ ts rfl z bytes ht hz hzz.1 hzz.2 (rowSplit hj) hM.c.ms (k1.eval k3) (St.row ⟨k1,hM⟩ j hj) (ys g) sa sc (k1.eval k4) k5 k6 k7 k8.1 k8.2 hM.c.size fun ad' cap' w2 Rw T gg=>?_);have e2':=ow_setx (g:=rwO En t w0.heap.size ad' cap' (xs ++ ys g)) hj;have T' : Tr (ow os) w1 (ow (os.set j (rwO En t w0.heap.size ad' cap' (xs ++ ys g)))) w2:=by
            rw [e2'];conv=>arg 1;rw [e1']
            exact T
          refine ⟨hcl2,hsl a1 _ _ (fun i2 v hv e=>?_) s,fun p hp hpl=>?_,.inr ⟨by simp [hlt],fun q hq=>getD_set_true (hCl q hq),g,ad',cap',?_,hM.sw j hj _ T' gg (by rw [e2'];exact ⟨Rw.own,Rw.wf⟩),k2⟩⟩
          · have:=Option.some.inj e;subst this;rw [Option.isNone_iff_eq_none.1 e6] at hv;cases hv
          · obtain ⟨n1,n2,_⟩:=hz2 p hp;rw [getD_set_any (fun e=>n1 e.symm)] at hpl;rw [hput a1 _ _ p.d (fun e=>n2 (Option.some.inj e).symm)];exact hZ p hp hpl
          · exact (getD_put a1 d d _ (by rw [s.size];exact hdn)).trans (if_pos rfl)
        · rw [hil'] at k1;cases k1
      · have hi2 : i < N := by omega
        rcases hcase with ⟨k0,hC,hM,hdone⟩ | ⟨k1,hc,_⟩
        · obtain ⟨o',D,q1,q2,h⟩:=steps_get (l.take N) Ds 0 i (by omega) (by simp;omega) (HS.steps _ _ _ step);obtain rfl : o' = o:=by
            rw [List.getElem?_take_of_lt hi2] at q1;have : l.toArray[i]? = l[i]?:=by simp
            rw [this,q1] at ho;exact Option.some.inj ho
          have hdep : ∀ D',(∀ d ∈ D',d ∈ D) → deps (tq E) a1 w1 D':=by
            intro D'
            induction D' with
            | nil=>intro _;trivial
            | cons d r ih =>
              intro hsub;refine ⟨?_,ih fun d hd=>hsub d (List.mem_cons_of_mem _ hd)⟩;have hget : ∀ (Ds : List (List Nat)) (k i : Nat),depsOk l.toArray N k Ds = true → Ds[i]? = some D → ∃ o,l.toArray[k + i]? = some o ∧ ∀ d ∈ D,d ∈ o.looksAt l.toArray ∧ isHead l.toArray N d = true:=by
                intro Ds
                induction Ds with
                | nil=>intro k i _ h;simp at h
                | cons D0 Ds ih =>
                  intro k i hk hi;simp only [depsOk,Bool.and_eq_true] at hk
                  cases i with
                  | zero =>
                    obtain rfl : D0 = D:=by simpa using hi
                    cases hp : l.toArray[k]? with
                    | none=>rw [hp] at hk;cases hk.1
                    | some p =>
                      rw [hp] at hk;refine ⟨p,rfl,fun d hd=>?_⟩;have:=List.all_eq_true.1 hk.1 d hd
                      simpa [Bool.and_eq_true,List.contains_iff_mem] using this
                  | succ i =>
                    obtain ⟨o,g1,g2⟩:=ih (k + 1) i hk.2 (by simpa using hi);exact ⟨o,by rw [show k + (i + 1) = k + 1 + i from by omega];exact g1,g2⟩
              obtain ⟨o2,g1,g2⟩:=hget Ds 0 i h2 q2;rw [Nat.zero_add,ho] at g1;obtain rfl:=Option.some.inj g1;obtain ⟨g3,g4⟩:=g2 d (hsub d List.mem_cons_self);obtain ⟨j,p,g5,g6,g7⟩:=isHead_spec g4;have q1:=List.all_eq_true.1 h1 i (List.mem_range.2 hi2);simp only [ho,Bool.and_eq_true] at q1;have q2:=List.all_eq_true.1 q1.2 j (List.mem_range.2 g5);simp only [g6,g7,Bool.and_eq_true,Bool.or_eq_true,Bool.not_eq_true'] at q2
              rcases q2.2 with q3 | q3
              · rw [List.contains_eq_mem] at q3;simp [g3] at q3
              · obtain ⟨e,he,hb⟩:=Array.any_eq_true'.1 q3;simp only [Bool.and_eq_true,beq_iff_eq] at hb;exact hdone j g5 (by rw [← hb.2];exact hall e he hb.1) p d g6 g7
          have h':=h a1 w1 hC hM s (hdep D fun d hd=>hd);rw [Nat.zero_add] at h';refine wpOp_mono ?_ h';rintro a' w2 ⟨⟨v,rfl,hd'⟩,hc,hi'⟩;refine ⟨hcl2,hsl a1 o' v (fun i0 v hv hd=>?_) s,fun p hp hpl=>?_,.inl ⟨by rw [getD_set_any hN];exact k0,hC.same hc,hi',fun q hq hql p e hp he=>?_⟩⟩
          · have:=List.all_eq_true.1 h3 _ (look_mem hv);have h : isHead l.toArray N i0 = true:=List.any_eq_true.2 ⟨i,List.mem_range.2 hi2,by rw [ho];simp [hd]⟩;rw [h] at this;cases this
          · have hpi : p.i ≠ i:=fun e=>hzi ⟨p,hp,e⟩;rw [getD_set_any (fun e=>hpi e.symm)] at hpl;have hne : o'.dst ≠ some p.d:=fun h=>(hz2 p hp).2.2.2.2.2 i hi2 (fun e=>hpi e.symm) (by simp only [dstOf,ho,Option.bind_some,h]);rw [hput a1 o' v p.d hne];exact hZ p hp hpl
          · by_cases hqi : q = i
            · subst hqi;obtain rfl : o' = p:=Option.some.inj (ho.symm.trans hp);obtain ⟨k1,k2⟩:=hd' e he;rw [he,getD_put a1 e e v (by rw [s.size];exact k1),if_pos rfl];exact k2
            · rw [getD_set_any (fun e=>hqi e.symm)] at hql;have hne : o'.dst ≠ some e:=fun h=>by
                have r1:=List.all_eq_true.1 h1 i (List.mem_range.2 hi2);simp only [ho,Bool.and_eq_true] at r1;have r2:=List.all_eq_true.1 r1.2 q (List.mem_range.2 hq);simp only [hp,he,h] at r2;simp [hqi,Ne.symm hqi] at r2
              rw [hput a1 o' v e hne];exact lookE_st _ e _ _ _ hc (hdone q hq hql p e hp he)
        · have h8 := List.all_eq_true.1 e1 i (List.mem_range.2 hi2)
          rcases Bool.or_eq_true_iff.1 h8 with h9 | h9
          · obtain ⟨p,hp,h⟩:=List.any_eq_true.1 h9;exact absurd ⟨p,hp,by simpa using h⟩ hzi
          · obtain ⟨p,hp,h⟩:=List.any_eq_true.1 h9;have:=hc p hp;rw [show p.1 = i from by simpa using h,hil'] at this;cases this
  · intro a1 w1 hG;obtain ⟨hcl,s,hZ,hcase⟩:=hG;have hnk : ∀ i,i ∈ List.range (N + 1) ++ (zix Z).filter (fun i=>decide (N < i)) → i < l.toArray.size → (fullB l.toArray.size ks).getD i false = true:=fun i hi hlt=>by
      rw [fullB_get hlt]
      cases hk : ks.contains i
      · rfl
      · have:=List.all_eq_true.1 c3 i (List.contains_iff_mem.1 hk);rw [Bool.not_eq_true',List.contains_eq_mem] at this;simp only [decide_eq_false_iff_not] at this;exact absurd hi this
    have hkk:=hnk N (List.mem_append.2 (.inl (List.mem_range.2 (by omega)))) (by simpa using e7)
    rcases hcase with ⟨k0,_⟩ | ⟨_,_,g,ad',cap',hsd,hM,hR⟩
    · rw [hkk] at k0;cases k0
    · refine fin g ad' cap' a1 w1 ⟨zvals_slots Z (s.ext hsd) fun p hp => hZ p hp ?_, hM⟩ hR;obtain ⟨⟨o, ho, _⟩, _⟩ := lz0.get p hp;refine hnk p.i (List.mem_append.2 ?_) (Array.getElem?_eq_some_iff.1 ho).1
      by_cases h : p.i < N + 1
      · exact .inl (List.mem_range.2 h)
      · exact .inr (List.mem_filter.2 ⟨zix_in hp,by simp;omega⟩)
end
section
variable {P : Program} {F : Nat → Prop} {w0 : World} {m0 : List BS} {n : Nat} {L : List (Nat × Value)} {fs : List RF} {os : List OF} {Q : Exit → Act → World → Prop}
structure Efx where
  i : Nat
  D : List Nat
  os : List OF
def EFS (P : Program) (ops : Array Oper) (n : Nat) (L : List (Nat × Value)) (F : Nat → Prop) (w0 : World) (m0 : List BS) (fs : List RF) (Z : List Zop) : List OF → List Efx → Prop
  | os,e :: r=>(∃ o c,ops[e.i]? = some o ∧ o.dst = none ∧ One P ops (St F w0 m0 n (cat (vals (zTd Z : List (Nat × Td (In ([] : List BS)))) e.D) L) fs os) c o (St F w0 m0 n (cat (vals (zTd Z : List (Nat × Td (In ([] : List BS)))) e.D) L) fs e.os)) ∧ EFS P ops n L F w0 m0 fs Z e.os r
  | _,[]=>True
def osAt : Nat → List OF → List Efx → List OF
  | 0,os,_=>os
  | _ + 1,os,[]=>os
  | k + 1,_,e :: r=>osAt k e.os r
theorem EFS.get {ops : Array Oper} {Z : List Zop} : ∀ {T : List Efx} {os : List OF}, EFS P ops n L F w0 m0 fs Z os T → ∀ k e, T[k]? = some e → (∃ o c, ops[e.i]? = some o ∧ o.dst = none ∧ One P ops (St F w0 m0 n (cat (vals (zTd Z : List (Nat × Td (In ([] : List BS)))) e.D) L) fs (osAt k os T)) c o (St F w0 m0 n (cat (vals (zTd Z : List (Nat × Td (In ([] : List BS)))) e.D) L) fs (osAt (k + 1) os T)))
  | _ :: _,os,h,0,e,he=>by
    obtain rfl:=Option.some.inj he;exact h.1
  | _ :: r,os,h,k + 1,e,he=>EFS.get (T:=r) h.2 k e (by simpa using he)
end
structure Zg (Γ : Type) where
  i : Nat
  d : Nat
  lev : Nat
  v : Γ → Value
  D : List Nat
structure Eg (Γ : Type) where
  i : Nat
  d : Option Nat
  v : Γ → Value
  D : List Nat
  fs : Γ → List RF
  os : Γ → List OF
  R : Γ → Prop
section
variable {Γ : Type}
def zin (g : Γ) : List (Zg Γ) → List Zop
  | []=>[]
  | z :: r=>⟨z.i,z.d,z.v g,z.D⟩ :: zin g r
def ein (g : Γ) : List (Eg Γ) → List Zop
  | []=>[]
  | e :: r=>match e.d with
    | some d=>⟨e.i,d,e.v g,[]⟩ :: ein g r
    | none=>ein g r
def appZ (x y : List Zop) : List Zop:=match x with
  | []=>y
  | p :: r=>p :: appZ r y
def allZ (g : Γ) (Z : List (Zg Γ)) (E : List (Eg Γ)) : List Zop:=appZ (zin g Z) (ein g E)
def fsAt (fs : List RF) (E : List (Eg Γ)) (g : Γ) : Nat → List RF
  | 0=>fs
  | k + 1=>match E[k]? with
    | some e=>e.fs g
    | none=>fs
def osAtG (os : List OF) (E : List (Eg Γ)) (g : Γ) : Nat → List OF
  | 0=>os
  | k + 1=>match E[k]? with
    | some e=>e.os g
    | none=>os
def RAt (E : List (Eg Γ)) (g : Γ) : Nat → Prop
  | 0=>True
  | k + 1=>match E[k]? with
    | some e=>e.R g
    | none=>True
theorem mem_appZ {p : Zop} : ∀ {x y : List Zop}, p ∈ appZ x y ↔ p ∈ x ∨ p ∈ y
  | [],y=>by simp [appZ]
  | q :: r,y=>by simp [appZ,mem_appZ (x:=r) (y:=y),or_assoc]
theorem mem_ein {g : Γ} {p : Zop} : ∀ {E : List (Eg Γ)}, p ∈ ein g E ↔ ∃ e ∈ E, ∃ d, e.d = some d ∧ p = ⟨e.i, d, e.v g, []⟩
  | []=>by simp [ein]
  | q :: r=>by
    unfold ein
    cases hq : q.d with
    | none=>simp [mem_ein (E:=r),hq]
    | some d=>simp [mem_ein (E:=r),hq]
end
section
variable {P : Program} {F : Nat → Prop} {w0 : World} {m0 : List BS} {n : Nat} {L : List (Nat × Value)} {fs : List RF} {os : List OF} {Q : Exit → Act → World → Prop} {Γ : Type}
def shE (T : List (Eg Γ)) : List (Nat × Option Nat × List Nat):=T.map fun e=>(e.i,e.d,e.D)
def vG (Z : List (Zg Γ)) (E : List (Eg Γ)) (g : Γ) (D : List Nat) (L : List (Nat × Value)) : List (Nat × Value):=cat (vals (zTd (allZ g Z E) : List (Nat × Td (In ([] : List BS)))) D) L
def LZG (P : Program) (ops : Array Oper) (n : Nat) (L : List (Nat × Value)) (F : Nat → Prop) (w0 : World) (m0 : List BS) (fs : List RF) (os : List OF) (Z : List (Zg Γ)) (E : List (Eg Γ)) (k : Nat) (g : Γ) : List (Zg Γ) → Prop
  | []=>True
  | z :: r=>(z.lev ≤ k → ∃ o,ops[z.i]? = some o ∧ o.guard = none ∧ o.dst = some z.d ∧ ∀ a w,St F w0 m0 n (vG Z E g z.D L) (fsAt fs E g k) (osAtG os E g k) a w → RAt E g k → (execOp a.eval o).run P w = .ok (.value (z.v g)) w) ∧ LZG P ops n L F w0 m0 fs os Z E k g r
theorem LZG.get {ops : Array Oper} {Z : List (Zg Γ)} {E : List (Eg Γ)} {k : Nat} {g : Γ} : ∀ {Y : List (Zg Γ)}, LZG P ops n L F w0 m0 fs os Z E k g Y → ∀ z ∈ Y, z.lev ≤ k → ∃ o, ops[z.i]? = some o ∧ o.guard = none ∧ o.dst = some z.d ∧ ∀ a w, St F w0 m0 n (vG Z E g z.D L) (fsAt fs E g k) (osAtG os E g k) a w → RAt E g k → (execOp a.eval o).run P w = .ok (.value (z.v g)) w
  | _ :: _,h,z,hz=>(List.mem_cons.1 hz).elim (fun e=>e ▸ h.1) fun hz=>LZG.get h.2 z hz
def EK (F : Nat → Prop) (w0 : World) (m0 : List BS) (fs : List RF) (os : List OF) (Z : List (Zg Γ)) (E : List (Eg Γ)) (k : Nat) (e : Eg Γ) (g : Γ) (a a' : Act) (w' : World) : Prop :=
  ∃ v,a'.tmps = (a.put e.d v).tmps ∧ a'.defers = a.defers ∧ ∃ g',(e.d.isSome = true → v = e.v g') ∧ (∀ z ∈ Z,z.lev ≤ k → z.v g' = z.v g) ∧ (∀ j q,j < k → E[j]? = some q → q.v g' = q.v g) ∧ Mm F w0 m0 (e.fs g') (e.os g') w' ∧ e.R g'
def EFG (P : Program) (ops : Array Oper) (n : Nat) (L : List (Nat × Value)) (F : Nat → Prop) (w0 : World) (m0 : List BS) (fs : List RF) (os : List OF) (Q : Exit → Act → World → Prop) (Z : List (Zg Γ)) (E : List (Eg Γ)) : Nat → List (Eg Γ) → Prop
  | _,[]=>True
  | k,e :: r=>(∃ o,ops[e.i]? = some o ∧ o.guard = none ∧ o.dst = e.d ∧ ∀ g a w,St F w0 m0 n (vG Z E g e.D L) (fsAt fs E g k) (osAtG os E g k) a w → RAt E g k → o.wp P a w (EK F w0 m0 fs os Z E k e g a) Q) ∧ EFG P ops n L F w0 m0 fs os Q Z E (k + 1) r
theorem EFG.get {ops : Array Oper} {Z : List (Zg Γ)} {E : List (Eg Γ)} : ∀ {T : List (Eg Γ)} {b : Nat}, EFG P ops n L F w0 m0 fs os Q Z E b T → ∀ k e, T[k]? = some e → ∃ o, ops[e.i]? = some o ∧ o.guard = none ∧ o.dst = e.d ∧ ∀ g a w, St F w0 m0 n (vG Z E g e.D L) (fsAt fs E g (b + k)) (osAtG os E g (b + k)) a w → RAt E g (b + k) → o.wp P a w (EK F w0 m0 fs os Z E (b + k) e g a) Q
  | _ :: _,_,h,0,e,he=>by obtain rfl:=Option.some.inj he;exact h.1
  | _ :: r,b,h,k + 1,e,he=>by
    have:=EFG.get (T:=r) h.2 k e (by simpa using he)
    rwa [show b + 1 + k = b + (k + 1) from by omega] at this
def LKS (X : List Zop) : List Zop → Prop
  | []=>True
  | p :: r=>lookT p.d (zTd X : List (Nat × Td (In ([] : List BS)))) = some (.is p.v) ∧ LKS X r
theorem LKS.get {X : List Zop} : ∀ {Y : List Zop}, LKS X Y → ∀ p ∈ Y, lookT p.d (zTd X : List (Nat × Td (In ([] : List BS)))) = some (.is p.v)
  | _ :: _,h,p,hp=>(List.mem_cons.1 hp).elim (fun e=>e ▸ h.1) fun hp=>LKS.get h.2 p hp
end
structure Zh (Γ : Type) where
  i : Nat
  d : Nat
  lev : Nat
  hi : Nat
  lo : List Nat
  up : List Nat
  v : Γ → Value
  D : List Nat
section
variable {Γ : Type}
def zinH (g : Γ) : List (Zh Γ) → List Zop
  | []=>[]
  | z :: r=>⟨z.i,z.d,z.v g,[]⟩ :: zinH g r
def ainH (g : Γ) : List (Zh Γ × (Γ → Bool)) → List Zop
  | []=>[]
  | z :: r=>⟨z.1.i,z.1.d,z.1.v g,[]⟩ :: ainH g r
def allH (g : Γ) (Z : List (Zh Γ)) (A : List (Zh Γ × (Γ → Bool))) (E : List (Eg Γ)) : List Zop:=appZ (zinH g Z) (appZ (ainH g A) (ein g E))
theorem mem_zinH {g : Γ} {p : Zop} : ∀ {Z : List (Zh Γ)}, p ∈ zinH g Z ↔ ∃ z ∈ Z, p = ⟨z.i, z.d, z.v g, []⟩
  | []=>by simp [zinH]
  | q :: r=>by simp [zinH,mem_zinH (Z:=r)]
theorem mem_ainH {g : Γ} {p : Zop} : ∀ {Z : List (Zh Γ × (Γ → Bool))}, p ∈ ainH g Z ↔ ∃ z ∈ Z, p = ⟨z.1.i, z.1.d, z.1.v g, []⟩
  | []=>by simp [ainH]
  | q :: r=>by simp [ainH,mem_ainH (Z:=r)]
def fsH (fs : Γ → List RF) (E : List (Eg Γ)) (g : Γ) : Nat → List RF
  | 0=>fs g
  | k + 1=>match E[k]? with
    | some e=>e.fs g
    | none=>fs g
def osH (os : Γ → List OF) (E : List (Eg Γ)) (g : Γ) : Nat → List OF
  | 0=>os g
  | k + 1=>match E[k]? with
    | some e=>e.os g
    | none=>os g
class EgC (E : List (Eg Γ)) (k : Nat) (e : outParam (Eg Γ)) : Prop where
  h : E[k]? = some e
instance (e : Eg Γ) (r : List (Eg Γ)) : EgC (e :: r) 0 e:=⟨rfl⟩
instance (x e : Eg Γ) (r : List (Eg Γ)) (k : Nat) [c : EgC r k e] : EgC (x :: r) (k + 1) e:=⟨by simpa using c.h⟩
theorem St.hk {F : Nat → Prop} {w0 : World} {m0 : List BS} {n : Nat} {V : List (Nat × Value)} {fs : Γ → List RF} {os : Γ → List OF} {E : List (Eg Γ)} {e : Eg Γ} {g : Γ} {k : Nat} {a : Act} {w : World} (S : St F w0 m0 n V (fsH fs E g (k + 1)) (osH os E g (k + 1)) a w) [c : EgC E k e] : St F w0 m0 n V (e.fs g) (e.os g) a w:=by
  simpa only [fsH,osH,c.h] using S
theorem St.h0 {F : Nat → Prop} {w0 : World} {m0 : List BS} {n : Nat} {V : List (Nat × Value)} {fs : Γ → List RF} {os : Γ → List OF} {E : List (Eg Γ)} {g : Γ} {a : Act} {w : World} (S : St F w0 m0 n V (fsH fs E g 0) (osH os E g 0) a w) : St F w0 m0 n V (fs g) (os g) a w:=S
def DNs (D : List Nat) (g : Γ) : List (Zh Γ × (Γ → Bool)) → Prop
  | []=>True
  | y :: r=>(D.contains y.1.d = true → y.2 g = true) ∧ DNs D g r
theorem DNs.mk' {D : List Nat} {g : Γ} : ∀ {A : List (Zh Γ × (Γ → Bool))}, (∀ y ∈ A, y.1.d ∈ D → y.2 g = true) → DNs D g A
  | [],_=>trivial
  | y :: r,h=>⟨fun hc=>h y List.mem_cons_self (List.contains_iff_mem.1 hc),DNs.mk' fun q hq=>h q (List.mem_cons_of_mem _ hq)⟩
def AGZ (k : Nat) (g g' : Γ) : List (Zh Γ) → Prop
  | []=>True
  | z :: r=>(z.lev ≤ k → z.v g' = z.v g) ∧ AGZ k g g' r
theorem AGZ.get {k : Nat} {g g' : Γ} : ∀ {Z : List (Zh Γ)}, AGZ k g g' Z → ∀ z ∈ Z, z.lev ≤ k → z.v g' = z.v g
  | _ :: _,h,z,hz=>(List.mem_cons.1 hz).elim (fun e=>e ▸ h.1) fun hz=>AGZ.get h.2 z hz
def AGE (g g' : Γ) : Nat → List (Eg Γ) → Prop
  | 0,_=>True
  | _,[]=>True
  | k + 1,e :: r=>e.v g' = e.v g ∧ AGE g g' k r
theorem AGE.get {g g' : Γ} : ∀ {k : Nat} {E : List (Eg Γ)}, AGE g g' k E → ∀ j q, j < k → E[j]? = some q → q.v g' = q.v g
  | k + 1,e :: r,h,0,q,_,hq=>by obtain rfl:=Option.some.inj hq;exact h.1
  | k + 1,e :: r,h,j + 1,q,hj,hq=>AGE.get (k:=k) (E:=r) h.2 j q (by omega) (by simpa using hq)
def AGA (i : Option Nat) (g g' : Γ) : List (Zh Γ × (Γ → Bool)) → Prop
  | []=>True
  | y :: r=>(i = some y.1.i ∨ (y.2 g' = y.2 g ∧ y.1.v g' = y.1.v g)) ∧ AGA i g g' r
theorem AGA.get {i : Option Nat} {g g' : Γ} : ∀ {A : List (Zh Γ × (Γ → Bool))}, AGA i g g' A → ∀ y ∈ A, i = some y.1.i ∨ (y.2 g' = y.2 g ∧ y.1.v g' = y.1.v g)
  | _ :: _,h,z,hz=>(List.mem_cons.1 hz).elim (fun e=>e ▸ h.1) fun hz=>AGA.get h.2 z hz
theorem inj_nodup {α : Type} {f : α → Nat} : ∀ {l : List α}, (l.map f).Nodup → ∀ x ∈ l, ∀ y ∈ l, f x = f y → x = y
  | [],_,x,hx,_,_,_=>by cases hx
  | a :: r,h,x,hx,y,hy,e=>by
    rw [List.map_cons,List.nodup_cons] at h
    rcases List.mem_cons.1 hx with h1 | h1
    · rcases List.mem_cons.1 hy with h2 | h2
      · rw [h1,h2]
      · exact absurd (by rw [← h1,e];exact List.mem_map_of_mem h2) h.1
    · rcases List.mem_cons.1 hy with h2 | h2
      · exact absurd (by rw [← h2,← e];exact List.mem_map_of_mem h1) h.1
      · exact inj_nodup h.2 x h1 y h2 e
end
def chainP (ops : Array Oper) : List Nat → Bool
  | x :: y :: r=>okA.waitsA ops x y && chainP ops (y :: r)
  | _=>true
theorem chainP_all {ops : Array Oper} {listed : Array Bool} (hcl : ∀ i k, listed.getD i false = true → okA.waitsA ops i k = true → listed.getD k false = true) : ∀ (x : Nat) (p : List Nat), chainP ops (x :: p) = true → listed.getD x false = true → ∀ y ∈ p, listed.getD y false = true
  | x,y :: r,h,hx,q,hq=>by
    simp only [chainP,Bool.and_eq_true] at h;have hy:=hcl x y hx h.1
    rcases List.mem_cons.1 hq with rfl | hq
    · exact hy
    · exact chainP_all hcl y r h.2 hy q hq
def chainW (ops : Array Oper) : List Nat → List (List Nat) → Bool
  | x :: y :: r,p :: ps=>chainP ops (y :: p) && p.contains x && chainW ops (y :: r) ps
  | _ :: _ :: _,[]=>false
  | _,_=>true
theorem chainW_get {ops : Array Oper} : ∀ {T : List Nat} {ps : List (List Nat)}, chainW ops T ps = true → ∀ (m x y : Nat), T[m]? = some x → T[m + 1]? = some y → ∃ p, chainP ops (y :: p) = true ∧ x ∈ p
  | [],_,_,m,x,y,h,_=>by cases h
  | [_],_,_,m,x,y,_,h=>by cases h
  | a :: b :: r,[],h,_,_,_,_,_=>by cases h
  | a :: b :: r,p :: ps,h,0,x,y,hx,hy=>by
    simp only [chainW,Bool.and_eq_true] at h;obtain rfl:=Option.some.inj hx;obtain rfl:=Option.some.inj hy;exact ⟨p,h.1.1,List.contains_iff_mem.1 h.1.2⟩
  | a :: b :: r,p :: ps,h,m + 1,x,y,hx,hy=>by
    simp only [chainW,Bool.and_eq_true] at h;exact chainW_get h.2 m x y (by simpa using hx) (by simpa using hy)
def okH (ops : Array Oper) (n : Nat) (L : List (Nat × Value)) (Z : List (Nat × Nat × Nat × Nat × List Nat × List Nat × List Nat)) (T : List (Nat × Option Nat × List Nat)) (ways : List (List Nat)) (ks : List Nat) : Bool :=
  let ds:=(Z.map fun z=>(z.1,z.2.1)) ++ (T.filterMap fun e=>e.2.1.map fun d=>(e.1,d))
  chainW ops (T.map (·.1)) ways &&
  (List.range ops.size).all (fun i=>(Z.any fun z=>z.1 == i) || (T.any fun e=>e.1 == i) || ks.contains i) &&
  Z.all (fun z=>!(T.any fun e=>e.1 == z.1) && !ks.contains z.1 && decide (z.1 < ops.size)) && T.all (fun e=>!ks.contains e.1 && decide (e.1 < ops.size) && (match ops[e.1]? with | some o=>o.dst == e.2.1 | none=>false)) &&
  decide ((Z.map (·.1)).Nodup) && decide ((T.map (·.1)).Nodup) &&
  ds.all (fun p=>(look p.2 L).isNone && decide (p.2 < n) && ds.all fun q=>q.1 == p.1 || q.2 != p.2) &&
  Z.all (fun z=>z.2.2.2.2.2.2.all fun d=>ds.any fun p=>p.2 == d && okA.waitsA ops z.1 p.1) && T.all (fun e=>e.2.2.all fun d=>ds.any fun p=>p.2 == d && okA.waitsA ops e.1 p.1) &&
  Z.all (fun z => (z.2.2.1 == 0 || (match (T.map (·.1))[z.2.2.1 - 1]? with | some i => chainP ops (z.1 :: z.2.2.2.2.1) && z.2.2.2.2.1.contains i | none => false)) &&
    (decide (T.length ≤ z.2.2.2.1) || (match (T.map (·.1))[z.2.2.2.1]? with | some i=>chainP ops (i :: z.2.2.2.2.2.1) && z.2.2.2.2.2.1.contains z.1 | none=>false)))
section
variable {P : Program} {F : Nat → Prop} {w0 : World} {m0 : List BS} {n : Nat} {L : List (Nat × Value)} {Q : Exit → Act → World → Prop} {Γ : Type} {fs : Γ → List RF} {os : Γ → List OF}
def shH (Z : List (Zh Γ)) : List (Nat × Nat × Nat × Nat × List Nat × List Nat × List Nat):=Z.map fun z=>(z.i,z.d,z.lev,z.hi,z.lo,z.up,z.D)
def fstH : List (Zh Γ × (Γ → Bool)) → List (Zh Γ)
  | []=>[]
  | y :: r=>y.1 :: fstH r
theorem mem_fstH {z : Zh Γ} : ∀ {A : List (Zh Γ × (Γ → Bool))}, z ∈ fstH A ↔ ∃ y ∈ A, z = y.1
  | []=>by simp [fstH]
  | q :: r=>by simp [fstH,mem_fstH (A:=r)]
def appH (x y : List (Zh Γ)) : List (Zh Γ):=match x with
  | []=>y
  | p :: r=>p :: appH r y
theorem mem_appH {p : Zh Γ} : ∀ {x y : List (Zh Γ)}, p ∈ appH x y ↔ p ∈ x ∨ p ∈ y
  | [],y=>by simp [appH]
  | q :: r,y=>by simp [appH,mem_appH (x:=r) (y:=y),or_assoc]
theorem appH_eq : ∀ (x y : List (Zh Γ)), appH x y = x ++ y
  | [],_=>rfl
  | p :: r,y=>congrArg (p :: ·) (appH_eq r y)
theorem fstH_eq : ∀ (A : List (Zh Γ × (Γ → Bool))), fstH A = A.map (·.1)
  | []=>rfl
  | p :: r=>congrArg (p.1 :: ·) (fstH_eq r)
def vH (Z : List (Zh Γ)) (A : List (Zh Γ × (Γ → Bool))) (E : List (Eg Γ)) (g : Γ) (D : List Nat) (L : List (Nat × Value)) : List (Nat × Value):=cat (vals (zTd (allH g Z A E) : List (Nat × Td (In ([] : List BS)))) D) L
def SG (F : Nat → Prop) (w0 : World) (m0 : List BS) (n : Nat) (L : List (Nat × Value)) (fs : Γ → List RF) (os : Γ → List OF) (Z : List (Zh Γ)) (A : List (Zh Γ × (Γ → Bool))) (E : List (Eg Γ)) (k : Nat) (g : Γ) (D : List Nat) (a : Act) (w : World) : Prop :=
  St F w0 m0 n (vH Z A E g D L) (fsH fs E g k) (osH os E g k) a w ∧ RAt E g k ∧ DNs D g A
def Lk (P : Program) (ops : Array Oper) (o : Oper) (a : Act) (w : World) (v : Value) : Prop:=(Region.wanted o (yielded ops a.tmps) = true → (execOp a.eval o).run P w = .ok (.value v) w) ∧ (Region.wanted o (yielded ops a.tmps) = false → v = undef)
theorem lk0 {ops : Array Oper} {o : Oper} {a : Act} {w : World} {v : Value} (hg : o.guard = none) (h : (execOp a.eval o).run P w = .ok (.value v) w) : Lk P ops o a w v:=⟨fun _=>h,fun e=>by simp [Region.wanted,hg] at e⟩
theorem vbt {p : Prop} [Decidable p] (h : p) : Value.bool (decide p) = .bool true:=by rw [decide_eq_true h]
theorem vbf {p : Prop} [Decidable p] (h : ¬ p) : Value.bool (decide p) = .bool false:=by rw [decide_eq_false h]
theorem lk_core {ops : Array Oper} {i : Nat} {o : Oper} {a : Act} {w : World} {v : Value} {K : Act → World → Prop} (ho : ops[i]? = some o) (h : Lk P ops o a w v) (hK : K (a.put o.dst v) w) : wpOp P ops Q i K a w:=by
  unfold wpOp;rw [ho];dsimp only
  cases hw : Region.wanted o (yielded ops a.tmps) with
  | true=>rw [if_pos rfl];exact .inl (op_val (h.1 hw) hK)
  | false=>rw [if_neg (by decide),← h.2 hw];exact hK
def LZH (P : Program) (ops : Array Oper) (F : Nat → Prop) (w0 : World) (m0 : List BS) (n : Nat) (L : List (Nat × Value)) (fs : Γ → List RF) (os : Γ → List OF) (Z : List (Zh Γ)) (A : List (Zh Γ × (Γ → Bool))) (E : List (Eg Γ)) (k : Nat) (g : Γ) : List (Zh Γ) → Prop
  | []=>True
  | z :: r=>(z.lev ≤ k → k ≤ z.hi → ∃ o,ops[z.i]? = some o ∧ o.dst = some z.d ∧ ∀ a w,SG F w0 m0 n L fs os Z A E k g z.D a w → Lk P ops o a w (z.v g)) ∧ LZH P ops F w0 m0 n L fs os Z A E k g r
theorem LZH.get {ops : Array Oper} {Z : List (Zh Γ)} {A : List (Zh Γ × (Γ → Bool))} {E : List (Eg Γ)} {k : Nat} {g : Γ} : ∀ {Y : List (Zh Γ)}, LZH P ops F w0 m0 n L fs os Z A E k g Y → ∀ z ∈ Y, z.lev ≤ k → k ≤ z.hi → ∃ o, ops[z.i]? = some o ∧ o.dst = some z.d ∧ ∀ a w, SG F w0 m0 n L fs os Z A E k g z.D a w → Lk P ops o a w (z.v g)
  | _ :: _,h,z,hz=>(List.mem_cons.1 hz).elim (fun e=>e ▸ h.1) fun hz=>LZH.get h.2 z hz
theorem lkq {ops : Array Oper} {Z : List (Zh Γ)} {A : List (Zh Γ × (Γ → Bool))} {E : List (Eg Γ)} {k : Nat} {g : Γ} {z : Zh Γ} {o : Oper} (ho : ops[z.i]? = some o) (h : ∀ {a w}, St F w0 m0 n (vH Z A E g z.D L) (fsH fs E g k) (osH os E g k) a w → (execOp a.eval o).run P w = .ok (.value (z.v g)) w) (hd : o.dst = some z.d := by rfl) (hg : o.guard = none := by rfl) :
    z.lev ≤ k → k ≤ z.hi → ∃ o,ops[z.i]? = some o ∧ o.dst = some z.d ∧ ∀ a w,SG F w0 m0 n L fs os Z A E k g z.D a w → Lk P ops o a w (z.v g):=fun _ _=>⟨o,ho,hd,fun _ _ s=>lk0 hg (h s.1)⟩
theorem lkn {z : Zh Γ} {k : Nat} {X : Prop} (h : Nat.ble k z.hi = false:=by rfl) : z.lev ≤ k → k ≤ z.hi → X:=fun _ q=>absurd (Nat.ble_eq_true_of_le q) (by rw [h];decide)
theorem lkm {z : Zh Γ} {k : Nat} {X : Prop} (h : Nat.ble z.lev k = false:=by rfl) : z.lev ≤ k → X:=fun q=>absurd (Nat.ble_eq_true_of_le q) (by rw [h];decide)
theorem agz {k : Nat} {g g' : Γ} {Z : List (Zh Γ)} (h : AGZ k g g' Z:=by repeat (first | exact trivial | refine ⟨fun _=>rfl,?_⟩ | refine ⟨lkm,?_⟩)) : AGZ k g g' Z:=h
theorem coreL {ops : Array Oper} {o : Oper} {a : Act} {w : World} {K : Act → World → Prop} (h : wpList P ops (Exit.then K Q) [o] a w) : Core P ops o a w K Q:=by
  unfold wpList at h;unfold Core;exact h
def KA (F : Nat → Prop) (w0 : World) (m0 : List BS) (fs : Γ → List RF) (os : Γ → List OF) (Z : List (Zh Γ)) (A : List (Zh Γ × (Γ → Bool))) (E : List (Eg Γ)) (k : Nat) (y : Zh Γ × (Γ → Bool)) (g : Γ) (a' : Act) (w' : World) : Prop :=
  a'.defers = [] ∧ ∃ g',a'.tmps.getD y.1.d undef = y.1.v g' ∧ y.2 g' = true ∧ AGZ k g g' Z ∧ AGA (some y.1.i) g g' A ∧ AGE g g' k E ∧ Mm F w0 m0 (fsH fs E g' k) (osH os E g' k) w' ∧ RAt E g' k
def LAH (P : Program) (ops : Array Oper) (F : Nat → Prop) (w0 : World) (m0 : List BS) (n : Nat) (L : List (Nat × Value)) (fs : Γ → List RF) (os : Γ → List OF) (Q : Exit → Act → World → Prop) (Z : List (Zh Γ)) (A : List (Zh Γ × (Γ → Bool))) (E : List (Eg Γ)) (k : Nat) (g : Γ) : List (Zh Γ × (Γ → Bool)) → Prop
  | []=>True
  | y :: r=>(y.1.lev ≤ k → k ≤ y.1.hi → ∃ o,ops[y.1.i]? = some o ∧ o.guard = none ∧ o.dst = some y.1.d ∧ ∀ a w,SG F w0 m0 n L fs os Z A E k g y.1.D a w → y.2 g = false → wpList P ops (Exit.then (KA F w0 m0 fs os Z A E k y g) Q) [o] a w) ∧ LAH P ops F w0 m0 n L fs os Q Z A E k g r
theorem LAH.get {ops : Array Oper} {Z : List (Zh Γ)} {A : List (Zh Γ × (Γ → Bool))} {E : List (Eg Γ)} {k : Nat} {g : Γ} : ∀ {Y : List (Zh Γ × (Γ → Bool))}, LAH P ops F w0 m0 n L fs os Q Z A E k g Y → ∀ y ∈ Y, y.1.lev ≤ k → k ≤ y.1.hi → ∃ o, ops[y.1.i]? = some o ∧ o.guard = none ∧ o.dst = some y.1.d ∧ ∀ a w, SG F w0 m0 n L fs os Z A E k g y.1.D a w → y.2 g = false → wpList P ops (Exit.then (KA F w0 m0 fs os Z A E k y g) Q) [o] a w
  | _ :: _,h,z,hz=>(List.mem_cons.1 hz).elim (fun e=>e ▸ h.1) fun hz=>LAH.get h.2 z hz
def KH (F : Nat → Prop) (w0 : World) (m0 : List BS) (Z : List (Zh Γ)) (A : List (Zh Γ × (Γ → Bool))) (E : List (Eg Γ)) (k : Nat) (e : Eg Γ) (g : Γ) (a' : Act) (w' : World) : Prop :=
  a'.defers = [] ∧ ∃ g',(∀ d,e.d = some d → a'.tmps.getD d undef = e.v g') ∧ AGZ k g g' Z ∧ AGA none g g' A ∧ AGE g g' k E ∧ Mm F w0 m0 (e.fs g') (e.os g') w' ∧ e.R g'
def EFH (P : Program) (ops : Array Oper) (F : Nat → Prop) (w0 : World) (m0 : List BS) (n : Nat) (L : List (Nat × Value)) (fs : Γ → List RF) (os : Γ → List OF) (Q : Exit → Act → World → Prop) (Z : List (Zh Γ)) (A : List (Zh Γ × (Γ → Bool))) (E : List (Eg Γ)) : Nat → List (Eg Γ) → Prop
  | _,[]=>True
  | k,e :: r=>(∃ o,ops[e.i]? = some o ∧ o.dst = e.d ∧ ∀ g a w,SG F w0 m0 n L fs os Z A E k g e.D a w → wpList P ops (Exit.then (KH F w0 m0 Z A E k e g) Q) [o] a w) ∧ EFH P ops F w0 m0 n L fs os Q Z A E (k + 1) r
theorem EFH.get {ops : Array Oper} {Z : List (Zh Γ)} {A : List (Zh Γ × (Γ → Bool))} {E : List (Eg Γ)} : ∀ {T : List (Eg Γ)} {b : Nat}, EFH P ops F w0 m0 n L fs os Q Z A E b T → ∀ k e, T[k]? = some e → ∃ o, ops[e.i]? = some o ∧ o.dst = e.d ∧ ∀ g a w, SG F w0 m0 n L fs os Z A E (b + k) g e.D a w → wpList P ops (Exit.then (KH F w0 m0 Z A E (b + k) e g) Q) [o] a w
  | _ :: _,_,h,0,e,he=>by obtain rfl:=Option.some.inj he;exact h.1
  | _ :: r,b,h,k + 1,e,he=>by
    have:=EFH.get (T:=r) h.2 k e (by simpa using he)
    rwa [show b + 1 + k = b + (k + 1) from by omega] at this
theorem closed_set {ops : Array Oper} {listed : Array Bool} {i : Nat} {o : Oper} (hcl : ∀ i k, listed.getD i false = true → okA.waitsA ops i k = true → listed.getD k false = true) (ho : ops[i]? = some o) (hall : ∀ e ∈ o.after, Region.binds .any e = true → listed.getD e.on false = true) (hi : i < listed.size) :
    ∀ j k,(listed.setIfInBounds i true).getD j false = true → okA.waitsA ops j k = true → (listed.setIfInBounds i true).getD k false = true:=fun j k hj hw=>by
  have hup : ∀ k,listed.getD k false = true → (listed.setIfInBounds i true).getD k false = true:=fun k hk=>by
    by_cases h : i = k
    · subst h;simp [hi]
    · rw [getD_set_any h];exact hk
  refine hup k ?_
  by_cases h : i = j
  · subst h;unfold okA.waitsA at hw;rw [ho] at hw;obtain ⟨e,he,hb⟩:=Array.any_eq_true'.1 hw;simp only [Bool.and_eq_true,beq_iff_eq] at hb;rw [← hb.2];exact hall e he hb.1
  · rw [getD_set_any h] at hj;exact hcl j k hj hw
theorem drH {id : Nat} {a : Act} {w : World} {l : List Oper} (Γ : Type) (g0 : Γ) (fs : Γ → List RF) (os : Γ → List OF) (Z : List (Zh Γ)) (A : List (Zh Γ × (Γ → Bool))) (E : List (Eg Γ)) (ways : List (List Nat)) (ks : List Nat) (tail : List Oper) (S : St F w0 m0 n L (fs g0) (os g0) a w) (hd0 : ∀ y ∈ A, y.2 g0 = false)
    (hlk : ∀ g,LKS (allH g Z A E) (allH g Z A E))
    (hlz : ∀ k g,k ≤ E.length → LZH P l.toArray F w0 m0 n L fs os Z A E k g Z)
    (hla : ∀ k g,k ≤ E.length → LAH P l.toArray F w0 m0 n L fs os Q Z A E k g A)
    (ef : EFH P l.toArray F w0 m0 n L fs os Q Z A E 0 E)
    (fin : ∀ g a w',(∀ y ∈ A,y.2 g = true) → St F w0 m0 n (zvals (allH g Z A E) L) (fsH fs E g E.length) (osH os E g E.length) a w' → RAt E g E.length → wpList P l.toArray Q tail a w') (htl : tail = pickT l ks:=by rfl) (hm : P.follows .mixedOrders = true:=by exact mixed)
    (hok : (okH l.toArray n L (shH (appH Z (fstH A))) (shE E) ways ks && chk6 l.toArray ((List.range l.length).filter fun i=>!ks.contains i) [] ks && ks.all fun k=>decide (k < l.length)) = true:=by kernel_rfl)
    (hQ : ∀ c a d v w,Q (.panic c) (a.put (some d) v) w → Q (.panic c) a w:=by exact fun _ _ _ _ _ h=>h) : (Code.region id l.toArray true).wp P Q a w:=by
  simp only [Bool.and_eq_true] at hok;obtain ⟨⟨h6,h5⟩,h7⟩:=hok;have htl' : tail.map some = ks.map fun k=>l.toArray[k]?:=htl ▸ pickT_map h7;simp only [okH,Bool.and_eq_true,decide_eq_true_eq] at h6;obtain ⟨⟨⟨⟨⟨⟨⟨⟨⟨e1,e2⟩,e3⟩,e4⟩,e5⟩,e5'⟩,e6⟩,e8⟩,e9⟩,e10⟩:=h6;have h5':=h5;simp only [chk6,Bool.and_eq_true,decide_eq_true_eq] at h5';obtain ⟨⟨⟨⟨⟨⟨⟨_,_⟩,c3⟩,_⟩,_⟩,_⟩,_⟩,c8⟩:=h5';have hEm : (shE E).map (·.1) = E.map Eg.i:=by simp [shE,Function.comp_def]
  have hEget : ∀ (j : Nat) (e : Eg Γ),E[j]? = some e → ((shE E).map (·.1))[j]? = some e.i:=fun j e h=>by rw [hEm,List.getElem?_map,h];rfl
  have hEget' : ∀ (j i : Nat),((shE E).map (·.1))[j]? = some i → ∃ e,E[j]? = some e ∧ e.i = i:=fun j i h=>by
    rw [hEm,List.getElem?_map] at h
    cases he : E[j]? with
    | none=>rw [he] at h;cases h
    | some e=>rw [he] at h;exact ⟨e,rfl,Option.some.inj h⟩
  have hmB : ∀ z ∈ appH Z (fstH A),(z.i,z.d,z.lev,z.hi,z.lo,z.up,z.D) ∈ shH (appH Z (fstH A)):=fun z hz=>List.mem_map_of_mem (f:=fun z : Zh Γ=>(z.i,z.d,z.lev,z.hi,z.lo,z.up,z.D)) hz;have hZB : ∀ z ∈ Z,z ∈ appH Z (fstH A):=fun z hz=>mem_appH.2 (.inl hz);have hAB : ∀ y ∈ A,y.1 ∈ appH Z (fstH A):=fun y hy=>mem_appH.2 (.inr (mem_fstH.2 ⟨y,hy,rfl⟩));have hmE : ∀ e ∈ E,(e.i,e.d,e.D) ∈ shE E:=fun e he=>List.mem_map_of_mem (f:=fun e : Eg Γ=>(e.i,e.d,e.D)) he;have hiB : ((appH Z (fstH A)).map Zh.i).Nodup:=by
    have : (shH (appH Z (fstH A))).map (·.1) = (appH Z (fstH A)).map Zh.i:=by simp [shH,Function.comp_def]
    rw [← this];exact e5
  have hBinj : ∀ z ∈ appH Z (fstH A),∀ y ∈ appH Z (fstH A),z.i = y.i → z = y:=inj_nodup hiB;have hZA : ∀ z ∈ Z,∀ y ∈ A,z.i ≠ y.1.i:=fun z hz y hy e=>by
    rw [appH_eq,List.map_append] at hiB;have:=(List.nodup_append.1 hiB).2.2 z.i (List.mem_map_of_mem hz) y.1.i (List.mem_map_of_mem (mem_fstH.2 ⟨y,hy,rfl⟩));exact this e
  have hAinj : ∀ x ∈ A,∀ y ∈ A,x.1.i = y.1.i → x = y:=by
    have : (A.map fun y=>y.1.i).Nodup:=by
      rw [appH_eq,List.map_append] at hiB;have:=(List.nodup_append.1 hiB).2.1;rw [fstH_eq,List.map_map] at this;exact this
    exact inj_nodup this
  have hEinj : ∀ (j j' : Nat) (e e' : Eg Γ),E[j]? = some e → E[j']? = some e' → j ≠ j' → e.i ≠ e'.i:=fun j j' e e' h h' hne heq=>by
    have hj:=(List.getElem?_eq_some_iff.1 (hEget j e h)).1;have:=(List.getElem?_inj (i:=j) (j:=j') hj e5').1 ((hEget j e h).trans ((congrArg some heq).trans (hEget j' e' h').symm));exact hne this
  have hdsZ : ∀ z ∈ appH Z (fstH A),(z.i,z.d) ∈ ((shH (appH Z (fstH A))).map fun z=>(z.1,z.2.1)) ++ ((shE E).filterMap fun e=>e.2.1.map fun d=>(e.1,d)):=fun z hz=>List.mem_append.2 (.inl (List.mem_map.2 ⟨_,hmB z hz,rfl⟩));have hdsE : ∀ e ∈ E,∀ d,e.d = some d → (e.i,d) ∈ ((shH (appH Z (fstH A))).map fun z=>(z.1,z.2.1)) ++ ((shE E).filterMap fun e=>e.2.1.map fun d=>(e.1,d)):=fun e he d hd=>List.mem_append.2 (.inr (List.mem_filterMap.2 ⟨_,hmE e he,by simp [hd]⟩));have hds : ∀ p ∈ ((shH (appH Z (fstH A))).map fun z=>(z.1,z.2.1)) ++ ((shE E).filterMap fun e=>e.2.1.map fun d=>(e.1,d)),look p.2 L = none ∧ p.2 < n ∧ ∀ q ∈ ((shH (appH Z (fstH A))).map fun z=>(z.1,z.2.1)) ++ ((shE E).filterMap fun e=>e.2.1.map fun d=>(e.1,d)),q.1 = p.1 ∨ q.2 ≠ p.2:=fun p hp=>by
    have h:=List.all_eq_true.1 e6 p hp;simp only [Bool.and_eq_true,Option.isNone_iff_eq_none,decide_eq_true_eq] at h;refine ⟨h.1.1,h.1.2,fun q hq=>?_⟩;have:=List.all_eq_true.1 h.2 q hq
    simpa using this
  have hZE : ∀ z ∈ appH Z (fstH A),∀ e ∈ E,z.i ≠ e.i:=fun z hz e he h=>by
    have h1:=List.all_eq_true.1 e3 _ (hmB z hz);simp only [Bool.and_eq_true,Bool.not_eq_true'] at h1;have h2 : ((shE E).any fun q=>q.1 == z.i) = true:=List.any_eq_true.2 ⟨_,hmE e he,by simp [h]⟩;rw [h2] at h1;cases h1.1.1
  have hwt : ∀ (listed : Array Bool) (i : Nat) (o : Oper),l.toArray[i]? = some o → (∀ e ∈ o.after,Region.binds .any e = true → listed.getD e.on false = true) → ∀ k,okA.waitsA l.toArray i k = true → listed.getD k false = true:=fun listed i o ho hall k hk=>by
    unfold okA.waitsA at hk;rw [ho] at hk;obtain ⟨e,he,hb⟩:=Array.any_eq_true'.1 hk;simp only [Bool.and_eq_true,beq_iff_eq] at hb;rw [← hb.2];exact hall e he hb.1
  have hput : ∀ (a : Act) (q : Option Nat) (v : Value) d,q ≠ some d → (a.put q v).tmps.getD d undef = a.tmps.getD d undef:=fun a q v d hd=>by
    cases hod : q with
    | none=>rfl
    | some d' =>
      have : d' ≠ d:=fun e=>hd (by rw [hod,e]);simp [Act.put,Array.getElem?_setIfInBounds_ne this]
  let G : Array Bool → Act → World → Prop:=fun listed a w2=>(∀ i k,listed.getD i false = true → okA.waitsA l.toArray i k = true → listed.getD k false = true) ∧ Slots n L a ∧ ∃ (g : Γ) (k : Nat),k ≤ E.length ∧ (∀ j e,E[j]? = some e → (listed.getD e.i false = true ↔ j < k)) ∧ (∀ z ∈ Z,listed.getD z.i false = true → z.lev ≤ k ∧ a.tmps.getD z.d undef = z.v g) ∧ (∀ y ∈ A,listed.getD y.1.i false = y.2 g ∧ (y.2 g = true → a.tmps.getD y.1.d undef = y.1.v g)) ∧ (∀ j e d,j < k → E[j]? = some e → e.d = some d → a.tmps.getD d undef = e.v g) ∧ Mm F w0 m0 (fsH fs E g k) (osH os E g k) w2 ∧ RAt E g k
  have hstart : G (Array.replicate l.length false) a { w with drawn:=w.drawn + 1 } :=
    ⟨fun i k h=>(by rw [getD_replicate_false] at h;cases h),⟨S.s.size,S.s.defers,S.s.get⟩,g0,0,Nat.zero_le _,fun j e _=>⟨fun h=>(by rw [getD_replicate_false] at h;cases h),fun h=>absurd h (Nat.not_lt_zero _)⟩,fun z _ h=>(by rw [getD_replicate_false] at h;cases h),fun y hy=>⟨(getD_replicate_false ..).trans (hd0 y hy).symm,fun h=>(by rw [hd0 y hy] at h;cases h)⟩,fun j e d h=>absurd h (Nat.not_lt_zero _),S.m.drew,trivial⟩
  refine wp_region_any hm ?_;have hc8 : cntB l.toArray.size ks (Array.replicate l.toArray.size false) + ks.length = l.toArray.size:=c8
  suffices key : wpAny P .any l.toArray Q (cntB l.toArray.size ks (Array.replicate l.toArray.size false) + ks.length) (Array.replicate l.toArray.size false) a { w with drawn:=w.drawn + 1 } by
    rw [hc8] at key;exact key
  refine sched6 (G:=G) ((List.range l.length).filter fun i=>!ks.contains i) [] ks tail htl' h5 hQ ?_ (fun z hz=>by cases hz) ?_ _ _ a _ rfl (by simp) (fun k hk d hlt=>by simp [show k < l.length from by simpa using hlt]) (fun t _ _ ht=>by rw [getD_replicate_false] at ht;cases ht) hstart
  · intro i hi listed a1 w1 hls hG hr;obtain ⟨hil, o, ho, hall⟩ := mem_ready.1 hr;have hlt : i < listed.size := by rw [hls]; exact (Array.getElem?_eq_some_iff.1 ho).1
    have hil' : listed.getD i false = false:=by
      rw [Array.getD_eq_getD_getElem?,Array.getElem?_eq_getElem hlt] at hil ⊢;exact hil
    obtain ⟨hcl,s,g,k,hk,hcnt,hZ,hA,hEv,hM,hR⟩:=hG;have hcl':=closed_set hcl ho hall hlt;have hdsl : ∀ (p : Nat × Nat),p ∈ ((shH (appH Z (fstH A))).map fun z=>(z.1,z.2.1)) ++ ((shE E).filterMap fun e=>e.2.1.map fun d=>(e.1,d)) → listed.getD p.1 false = true → ∃ v,lookT p.2 (zTd (allH g Z A E) : List (Nat × Td (In ([] : List BS)))) = some (.is v) ∧ a1.tmps.getD p.2 undef = v:=fun p hp hpl=>by
      rcases List.mem_append.1 hp with h | h
      · obtain ⟨q, hq, rfl⟩ := List.mem_map.1 h;obtain ⟨z, hz, rfl⟩ := List.mem_map.1 hq
        rcases mem_appH.1 hz with hz | hz
        · exact ⟨z.v g,(hlk g).get ⟨z.i,z.d,z.v g,[]⟩ (mem_appZ.2 (.inl (mem_zinH.2 ⟨z,hz,rfl⟩))),(hZ z hz hpl).2⟩
        · obtain ⟨y,hy,rfl⟩:=mem_fstH.1 hz;exact ⟨y.1.v g,(hlk g).get ⟨y.1.i,y.1.d,y.1.v g,[]⟩ (mem_appZ.2 (.inr (mem_appZ.2 (.inl (mem_ainH.2 ⟨y,hy,rfl⟩))))),(hA y hy).2 ((hA y hy).1.symm.trans hpl)⟩
      · obtain ⟨q, hq, hqd⟩ := List.mem_filterMap.1 h;obtain ⟨e, he, rfl⟩ := List.mem_map.1 hq
        cases hd : e.d with
        | none=>rw [hd] at hqd;cases hqd
        | some d =>
          rw [hd] at hqd;obtain rfl : (e.i,d) = p:=Option.some.inj hqd;obtain ⟨j,hj⟩:=List.getElem?_of_mem he;exact ⟨e.v g,(hlk g).get ⟨e.i,d,e.v g,[]⟩ (mem_appZ.2 (.inr (mem_appZ.2 (.inr (mem_ein.2 ⟨e,he,d,hd,rfl⟩))))),hEv j e d ((hcnt j e hj).1 hpl) hj hd⟩
    have hdp : ∀ D,(∀ d ∈ D,∃ p ∈ ((shH (appH Z (fstH A))).map fun z=>(z.1,z.2.1)) ++ ((shE E).filterMap fun e=>e.2.1.map fun d=>(e.1,d)),p.2 = d ∧ okA.waitsA l.toArray i p.1 = true) → deps (tq (zTd (allH g Z A E) : List (Nat × Td (In ([] : List BS))))) a1 w1 D:=by
      intro D
      induction D with
      | nil=>intro _;trivial
      | cons d r ih =>
        intro hs;refine ⟨?_,ih fun d hd=>hs d (List.mem_cons_of_mem _ hd)⟩;obtain ⟨p,hp,rfl,hpw⟩:=hs d List.mem_cons_self;obtain ⟨v,hv1,hv2⟩:=hdsl p hp (hwt listed i o ho hall p.1 hpw);rw [look_tq hv1];exact hv2
    have hdn : ∀ D,(∀ d ∈ D,∃ p ∈ ((shH (appH Z (fstH A))).map fun z=>(z.1,z.2.1)) ++ ((shE E).filterMap fun e=>e.2.1.map fun d=>(e.1,d)),p.2 = d ∧ okA.waitsA l.toArray i p.1 = true) → DNs D g A:=fun D hs=>DNs.mk' fun y hy hd=>by
      obtain ⟨p,hp,hpd,hpw⟩:=hs _ hd;have hpl:=hwt listed i o ho hall p.1 hpw;have hpi : p.1 = y.1.i:=by
        rcases (hds _ (hdsZ _ (hAB y hy))).2.2 p hp with h | h
        · exact h
        · exact absurd hpd h
      rw [← (hA y hy).1,← hpi];exact hpl
    have hSL : ∀ q v,(∀ d,q = some d → look d L = none) → Slots n L (a1.put q v):=fun q v hq=>by
      refine ⟨by cases q <;> simp [Act.put,s.size],by cases q <;> simp [Act.put,s.defers],fun j u hu=>?_⟩;rw [hput a1 q v j (fun e=>by rw [hq j e] at hu;cases hu)];exact s.get j u hu
    have hwin : ∀ z ∈ appH Z (fstH A),z.i = i → z.lev ≤ k ∧ k ≤ z.hi:=fun z hz hzi=>by
      have h1:=List.all_eq_true.1 e10 _ (hmB z hz);simp only [Bool.and_eq_true,Bool.or_eq_true,beq_iff_eq,decide_eq_true_eq] at h1;obtain ⟨h1,h2⟩:=h1
      constructor
      · rcases h1 with h1 | h1
        · omega
        · cases hq : ((shE E).map (·.1))[z.lev - 1]? with
          | none=>rw [hq] at h1;cases h1
          | some q =>
            rw [hq] at h1;simp only [Bool.and_eq_true,List.contains_iff_mem] at h1;obtain ⟨e,he,rfl⟩:=hEget' _ _ hq;have : listed.getD e.i false = true:=by
              cases hlo : z.lo with
              | nil=>rw [hlo] at h1;cases h1.2
              | cons y r =>
                rw [hlo] at h1;have h3:=h1.1;simp only [chainP,Bool.and_eq_true] at h3;have hy:=hwt listed i o ho hall y (hzi ▸ h3.1)
                rcases List.mem_cons.1 h1.2 with h4 | h4
                · rw [h4];exact hy
                · exact chainP_all hcl y r h3.2 hy _ h4
            have:=(hcnt _ e he).1 this;omega
      · rcases h2 with h2 | h2
        · have : (shE E).length = E.length := by simp [shE]
          omega
        · cases hq : ((shE E).map (·.1))[z.hi]? with
          | none=>rw [hq] at h2;cases h2
          | some q =>
            rw [hq] at h2;simp only [Bool.and_eq_true,List.contains_iff_mem] at h2;obtain ⟨e,he,rfl⟩:=hEget' _ _ hq
            rcases Nat.lt_or_ge z.hi k with hlt2 | hge
            · have h3:=(hcnt _ e he).2 hlt2;have:=chainP_all hcl _ _ h2.1 h3 _ h2.2;rw [hzi,hil'] at this;cases this
            · exact hge
    by_cases hzi : ∃ z ∈ Z,z.i = i
    · obtain ⟨z,hz,rfl⟩:=hzi;obtain ⟨hzl,hzh⟩:=hwin z (hZB z hz) rfl;obtain ⟨o',ho',hd,hrun⟩:=(hlz k g hk).get z hz hzl hzh;obtain rfl:=Option.some.inj (ho.symm.trans ho');have h8:=List.all_eq_true.1 e8 _ (hmB z (hZB z hz));have hD : ∀ d ∈ z.D,∃ p ∈ ((shH (appH Z (fstH A))).map fun z=>(z.1,z.2.1)) ++ ((shE E).filterMap fun e=>e.2.1.map fun d=>(e.1,d)),p.2 = d ∧ okA.waitsA l.toArray z.i p.1 = true:=fun d hd=>by
        obtain ⟨p,hp,h⟩:=List.any_eq_true.1 (List.all_eq_true.1 h8 d hd);simp only [Bool.and_eq_true,beq_iff_eq] at h;exact ⟨p,hp,h.1,h.2⟩
      have hS:=(deps_open s z.D (hdp z.D hD)).1;obtain ⟨q1,q2,q3⟩:=hds _ (hdsZ z (hZB z hz));refine lk_core ho (hrun a1 w1 ⟨⟨hS,hM⟩,hR,hdn z.D hD⟩) (⟨hcl',hSL o.dst _ (fun d h=>by rw [hd] at h;obtain rfl:=Option.some.inj h;exact q1),g,k,hk,fun j e he=>?_,fun y hy hyl=>?_,fun y hy=>?_,fun j e d hj he hed=>?_,hM,hR⟩)
      · rw [getD_set_any (hZE z (hZB z hz) e (List.mem_of_getElem? he))];exact hcnt j e he
      · by_cases hyz : y.i = z.i
        · obtain rfl:=hBinj y (hZB y hy) z (hZB z hz) hyz;exact ⟨hzl,by rw [hd,getD_put a1 y.d y.d (y.v g) (by rw [s.size];exact q2),if_pos rfl]⟩
        · rw [getD_set_any (fun e=>hyz e.symm)] at hyl;refine ⟨(hZ y hy hyl).1,?_⟩;rw [hput a1 o.dst (z.v g) y.d (by rw [hd];exact fun e=>(q3 _ (hdsZ y (hZB y hy))).elim (fun h=>hyz h) fun h=>h (Option.some.inj e).symm)];exact (hZ y hy hyl).2
      · rw [getD_set_any (hZA z hz y hy)];refine ⟨(hA y hy).1,fun hyd=>?_⟩;rw [hput a1 o.dst (z.v g) y.1.d (by rw [hd];exact fun e=>(q3 _ (hdsZ y.1 (hAB y hy))).elim (fun h=>hZA z hz y hy h.symm) fun h=>h (Option.some.inj e).symm)];exact (hA y hy).2 hyd
      · have he':=List.mem_of_getElem? he;rw [hput a1 o.dst (z.v g) d (by rw [hd];exact fun h=>(q3 _ (hdsE e he' d hed)).elim (fun h'=>hZE z (hZB z hz) e he' h'.symm) fun h'=>h' (Option.some.inj h).symm)];exact hEv j e d hj he hed
    · by_cases hai : ∃ y ∈ A, y.1.i = i
      · obtain ⟨z,hz,rfl⟩:=hai;obtain ⟨hzl,hzh⟩:=hwin z.1 (hAB z hz) rfl;obtain ⟨o',ho',hg,hd,hrun⟩:=(hla k g hk).get z hz hzl hzh;obtain rfl:=Option.some.inj (ho.symm.trans ho');have h8:=List.all_eq_true.1 e8 _ (hmB z.1 (hAB z hz));have hD : ∀ d ∈ z.1.D,∃ p ∈ ((shH (appH Z (fstH A))).map fun z=>(z.1,z.2.1)) ++ ((shE E).filterMap fun e=>e.2.1.map fun d=>(e.1,d)),p.2 = d ∧ okA.waitsA l.toArray z.1.i p.1 = true:=fun d hd=>by
          obtain ⟨p,hp,h⟩:=List.any_eq_true.1 (List.all_eq_true.1 h8 d hd);simp only [Bool.and_eq_true,beq_iff_eq] at h;exact ⟨p,hp,h.1,h.2⟩
        have hS:=(deps_open s z.1.D (hdp z.1.D hD)).1;obtain ⟨q1,q2,q3⟩:=hds _ (hdsZ z.1 (hAB z hz));refine core_op ho (Core.mono (Core.put (coreL (hrun a1 w1 ⟨⟨hS,hM⟩,hR,hdn z.1.D hD⟩ ((hA z hz).1.symm.trans hil')))) ?_);rintro a' w' ⟨⟨hdf,g',hv0,hdn',agz,aga,age,hM',hR'⟩,v,ht⟩;rw [hd] at ht;have hv : v = z.1.v g':=by rw [ht,getD_put a1 z.1.d z.1.d v (by rw [s.size];exact q2),if_pos rfl] at hv0;exact hv0
        have hs1:=hSL (some z.1.d) v fun d h=>by obtain rfl:=Option.some.inj h;exact q1
        refine ⟨hcl',⟨by rw [ht];exact hs1.size,hdf,fun j u hu=>by rw [ht];exact hs1.get j u hu⟩,g',k,hk,fun j e he=>?_,fun y hy hyl=>?_,fun y hy=>?_,fun j e d hj he hed=>?_,hM',hR'⟩
        · rw [getD_set_any (hZE z.1 (hAB z hz) e (List.mem_of_getElem? he))];exact hcnt j e he
        · have hne : y.i ≠ z.1.i:=hZA y hy z hz;rw [getD_set_any hne.symm] at hyl;obtain ⟨y1,y2⟩:=hZ y hy hyl;refine ⟨y1,?_⟩;rw [ht,hput a1 (some z.1.d) v y.d (fun e=>(q3 _ (hdsZ y (hZB y hy))).elim (fun h=>hne h) fun h=>h (Option.some.inj e).symm),agz.get y hy y1];exact y2
        · by_cases hyz : y.1.i = z.1.i
          · obtain rfl:=hAinj y hy z hz hyz;refine ⟨by rw [hdn'];simp [hlt],fun _=>?_⟩;rw [ht,getD_put a1 y.1.d y.1.d v (by rw [s.size];exact q2),if_pos rfl];exact hv
          · rcases aga.get y hy with h | ⟨h1, h2⟩
            · exact absurd (Option.some.inj h).symm hyz
            · rw [getD_set_any (fun e=>hyz e.symm),h1,h2];refine ⟨(hA y hy).1,fun hyd=>?_⟩;rw [ht,hput a1 (some z.1.d) v y.1.d (fun e=>(q3 _ (hdsZ y.1 (hAB y hy))).elim (fun h=>hyz h) fun h=>h (Option.some.inj e).symm)];exact (hA y hy).2 hyd
        · have he':=List.mem_of_getElem? he;rw [ht,hput a1 (some z.1.d) v d (fun h=>(q3 _ (hdsE e he' d hed)).elim (fun h'=>hZE z.1 (hAB z hz) e he' h'.symm) fun h'=>h' (Option.some.inj h).symm),age.get j e hj he];exact hEv j e d hj he hed
      · have hik : ks.contains i = false:=by
          have:=(List.mem_filter.1 hi).2
          simpa using this
        have hiE : ∃ e ∈ E,e.i = i:=by
          have h8:=List.all_eq_true.1 e2 i (List.mem_range.2 (by rw [← hls];exact hlt));simp only [Bool.or_eq_true] at h8
          rcases h8 with (h8 | h8) | h8
          · obtain ⟨p, hp, h⟩ := List.any_eq_true.1 h8;obtain ⟨z, hz, rfl⟩ := List.mem_map.1 hp
            rcases mem_appH.1 hz with hz | hz
            · exact absurd ⟨z,hz,by simpa using h⟩ hzi
            · obtain ⟨y,hy,rfl⟩:=mem_fstH.1 hz;exact absurd ⟨y,hy,by simpa using h⟩ hai
          · obtain ⟨p,hp,h⟩:=List.any_eq_true.1 h8;obtain ⟨e,he,rfl⟩:=List.mem_map.1 hp;exact ⟨e,he,by simpa using h⟩
          · rw [hik] at h8;cases h8
        obtain ⟨e,hem,hei⟩:=hiE;obtain ⟨q,he⟩:=List.getElem?_of_mem hem;have hqT:=(List.getElem?_eq_some_iff.1 he).1;subst hei;have hqk : ¬ q < k:=fun h=>by rw [(hcnt q e he).2 h] at hil';cases hil'
        have hkq : k = q:=by
          rcases Nat.eq_or_lt_of_le (Nat.le_of_not_lt hqk) with h | h
          · exact h
          · exfalso;obtain ⟨m,rfl⟩ : ∃ m,q = m + 1:=⟨q - 1,by omega⟩;obtain ⟨e',he'⟩ : ∃ e',E[m]? = some e':=⟨_,List.getElem?_eq_getElem (by omega)⟩;obtain ⟨p,hp,hx⟩:=chainW_get e1 m e'.i e.i (hEget m e' he') (hEget (m + 1) e he);have : listed.getD e'.i false = true:=by
              cases hlo : p with
              | nil=>rw [hlo] at hx;cases hx
              | cons y r =>
                rw [hlo] at hp hx;simp only [chainP,Bool.and_eq_true] at hp;have hy:=hwt listed e.i o ho hall y hp.1
                rcases List.mem_cons.1 hx with h4 | h4
                · rw [h4];exact hy
                · exact chainP_all hcl y r hp.2 hy _ h4
            have:=(hcnt m e' he').1 this;omega
        subst hkq;obtain ⟨o',ho',hod,hwp⟩:=ef.get k e he;rw [Nat.zero_add] at hwp;obtain rfl:=Option.some.inj (ho.symm.trans ho');have h9:=List.all_eq_true.1 e9 _ (hmE e hem);have hD : ∀ d ∈ e.D,∃ p ∈ ((shH (appH Z (fstH A))).map fun z=>(z.1,z.2.1)) ++ ((shE E).filterMap fun e=>e.2.1.map fun d=>(e.1,d)),p.2 = d ∧ okA.waitsA l.toArray e.i p.1 = true:=fun d hd=>by
          obtain ⟨p,hp,h⟩:=List.any_eq_true.1 (List.all_eq_true.1 h9 d hd);simp only [Bool.and_eq_true,beq_iff_eq] at h;exact ⟨p,hp,h.1,h.2⟩
        have hS:=(deps_open s e.D (hdp e.D hD)).1;refine core_op ho (Core.mono (Core.put (coreL (hwp g a1 w1 ⟨⟨hS,hM⟩,hR,hdn e.D hD⟩))) ?_);rintro a' w' ⟨⟨hdf,g',hv0,agz,aga,age,hM',hR'⟩,v,ht⟩;rw [hod] at ht;have hLd : ∀ d,e.d = some d → look d L = none ∧ d < n:=fun d hd=>by
          obtain ⟨q1,q2,_⟩:=hds _ (hdsE e hem d hd);exact ⟨q1,q2⟩
        have hs1:=hSL e.d v fun d h=>(hLd d h).1;have hv : e.d.isSome = true → v = e.v g':=fun h=>by
          obtain ⟨d,hd⟩:=Option.isSome_iff_exists.1 h;have h0:=hv0 d hd;rw [ht,hd,getD_put a1 d d v (by rw [s.size];exact (hLd d hd).2),if_pos rfl] at h0;exact h0
        refine ⟨hcl',⟨by rw [ht];exact hs1.size,hdf,fun j u hu=>by rw [ht];exact hs1.get j u hu⟩,g',k + 1,hqT,fun j e' he'=>?_,fun y hy hyl=>?_,fun y hy=>?_,fun j e' d hj he' hed=>?_,?_,?_⟩
        · by_cases hje : j = k
          · subst hje;obtain rfl:=Option.some.inj (he.symm.trans he');exact ⟨fun _=>Nat.lt_succ_self _,fun _=>by simp [hlt]⟩
          · rw [getD_set_any (hEinj k j e e' he he' (fun h=>hje h.symm)),hcnt j e' he'];omega
        · rw [getD_set_any (fun h=>hZE y (hZB y hy) e hem h.symm)] at hyl;obtain ⟨y1,y2⟩:=hZ y hy hyl;refine ⟨by omega,?_⟩;rw [ht,hput a1 e.d v y.d (fun h=>((hds _ (hdsE e hem y.d h)).2.2 _ (hdsZ y (hZB y hy))).elim (fun h'=>hZE y (hZB y hy) e hem h') fun h'=>h' rfl),agz.get y hy y1];exact y2
        · rcases aga.get y hy with h | ⟨h1, h2⟩
          · cases h
          · rw [getD_set_any (fun h=>hZE y.1 (hAB y hy) e hem h.symm),h1,h2];refine ⟨(hA y hy).1,fun hyd=>?_⟩;rw [ht,hput a1 e.d v y.1.d (fun h=>((hds _ (hdsE e hem y.1.d h)).2.2 _ (hdsZ y.1 (hAB y hy))).elim (fun h'=>hZE y.1 (hAB y hy) e hem h') fun h'=>h' rfl)];exact (hA y hy).2 hyd
        · by_cases hje : j = k
          · subst hje;obtain rfl:=Option.some.inj (he.symm.trans he');rw [ht,hed,getD_put a1 d d v (by rw [s.size];exact (hLd d hed).2),if_pos rfl];exact hv (by rw [hed];rfl)
          · have he'':=List.mem_of_getElem? he';rw [ht,hput a1 e.d v d (fun h=>((hds _ (hdsE e hem d h)).2.2 _ (hdsE e' he'' d hed)).elim (fun h'=>hEinj j k e' e he' he hje h') fun h'=>h' rfl),age.get j e' (by omega) he'];exact hEv j e' d (by omega) he' hed
        · show Mm F w0 m0 (fsH fs E g' (k + 1)) (osH os E g' (k + 1)) w';simp only [fsH,osH,he];exact hM'
        · show RAt E g' (k + 1);simp only [RAt,he];exact hR'
  · intro a1 w1 hG;obtain ⟨hcl, s, g, k, hk, hcnt, hZ, hA, hEv, hM, hR⟩ := hG;have hin : ∀ i, i < l.toArray.size → ks.contains i = false → (fullB l.toArray.size ks).getD i false = true := fun i hi hk => by rw [fullB_get hi, hk]; rfl
    have hEin : ∀ e ∈ E,(fullB l.toArray.size ks).getD e.i false = true:=fun e he=>by
      have h1:=List.all_eq_true.1 e4 _ (hmE e he);simp only [Bool.and_eq_true,Bool.not_eq_true',decide_eq_true_eq] at h1;exact hin e.i h1.1.2 h1.1.1
    have hZin : ∀ z ∈ appH Z (fstH A),(fullB l.toArray.size ks).getD z.i false = true:=fun z hz=>by
      have h1:=List.all_eq_true.1 e3 _ (hmB z hz);simp only [Bool.and_eq_true,Bool.not_eq_true',decide_eq_true_eq] at h1;exact hin z.i h1.2 h1.1.2
    have hkl : k = E.length:=by
      rcases Nat.eq_or_lt_of_le hk with h | h
      · exact h
      · exfalso;obtain ⟨e,he⟩ : ∃ e,E[k]? = some e:=⟨_,List.getElem?_eq_getElem h⟩;have:=(hcnt k e he).1 (hEin e (List.mem_of_getElem? he));omega
    subst hkl;have hall : ∀ y ∈ A,y.2 g = true:=fun y hy=>(hA y hy).1.symm.trans (hZin y.1 (hAB y hy));refine fin g a1 w1 hall ⟨zvals_slots (allH g Z A E) s fun p hp=>?_,hM⟩ hR
    rcases mem_appZ.1 hp with h | h
    · obtain ⟨z,hz,rfl⟩:=mem_zinH.1 h;exact (hZ z hz (hZin z (hZB z hz))).2
    · rcases mem_appZ.1 h with h | h
      · obtain ⟨y,hy,rfl⟩:=mem_ainH.1 h;exact (hA y hy).2 (hall y hy)
      · obtain ⟨e,he,d,hd,rfl⟩:=mem_ein.1 h;obtain ⟨j,hj⟩:=List.getElem?_of_mem he;exact hEv j e d (List.getElem?_eq_some_iff.1 hj).1 hj hd
end
end Go.Proofs.Ytobggnpnochnnaa.V
/- Two facts of the call's own that a callee changes at once: a struct that holds a row. -/
namespace Go.Proofs.Ytobggnpnochnnaa.V
open Go.RowKit
theorem sep_idx : ∀ {ms : List BS}, (∀ i j : Nat, i ≠ j → ∀ (o p : BS), ms[i]? = some o → ms[j]? = some p → ∀ k, o k → ¬ p k) → Sep ms
  | [],_=>trivial
  | o :: r,h=>⟨fun k hk hm=>by
      have : ∀ {l : List BS},In l k → ∃ (j : Nat) (p : BS),l[j]? = some p ∧ p k:=fun {l}=>by
        induction l with
        | nil=>intro h;exact h.elim
        | cons q l ih =>
          intro h
          rcases h with h | h
          · exact ⟨0,q,rfl,h⟩
          · obtain ⟨j,p,h1,h2⟩:=ih h;exact ⟨j + 1,p,h1,h2⟩
      obtain ⟨j,p,h1,h2⟩:=this hm;exact h 0 (j + 1) (by omega) o p rfl h1 k hk h2,
    sep_idx fun i j hij a b ha hb=>h (i + 1) (j + 1) (by omega) a b ha hb⟩
theorem in_at {l : List BS} {k : Nat} : In l k ↔ ∃ (j : Nat) (p : BS),l[j]? = some p ∧ p k:=by
  induction l with
  | nil=>exact ⟨fun h=>h.elim,fun ⟨j,p,h,_⟩=>by simp at h⟩
  | cons q l ih =>
    constructor
    · rintro (h | h)
      · exact ⟨0,q,rfl,h⟩
      · obtain ⟨j,p,h1,h2⟩:=ih.1 h;exact ⟨j + 1,p,h1,h2⟩
    · rintro ⟨j, p, h1, h2⟩
      cases j with
      | zero=>cases h1;exact .inl h2
      | succ j=>exact .inr (ih.2 ⟨j,p,h1,h2⟩)
section
variable {F : Nat → Prop} {w0 w w' : World} {m0 : List BS} {n : Nat} {L : List (Nat × Value)} {rs : List RF} {os : List OF} {a : Act} {α : Type} {E : Enc α} {t : TypeId} {base : Nat} {ms : List BS} {ad : Option Addr} {cap : Nat} {xs : List α}
theorem Row.dn1 (r : Row E t base F ms w ad cap xs) {js : List Nat} : Row E t base (Ex F ms) (picks ms js) w ad cap xs:=⟨r.own,fun x hx=>V.dn1 (r.wf x hx)⟩
theorem Row.ret {m : List BS} (r : Row E t base (Ex F ms) m w ad cap xs) : (rwO E t base ad cap xs).p F (In ms) w:=⟨r.own,fun x hx=>Enc.mono _ (fun _ _ h=>⟨fun e=>h.2 (.inl e),fun e=>h.2 (.inr e)⟩) (r.wf x hx)⟩
theorem Row.ret2 {m : List BS} {W : Nat → Prop} (r : Row E t base (Ex F ms) m w ad cap xs) (h : ∀ k,W k → In ms k ∨ In m k) : (rwO E t base ad cap xs).p F W w:=⟨r.own,fun x hx=>Enc.mono _ (fun k _ g=>⟨fun e=>(h k e).elim (fun e=>g.2 (.inl e)) g.1,fun e=>g.2 (.inr e)⟩) (r.wf x hx)⟩
end
section
variable {F : Nat → Prop} {w0 w w' : World} {m0 : List BS} {n : Nat} {L L' : List (Nat × Value)} {rs : List RF} {os : List OF} {a a' : Act}
theorem St.k2 {f g : OF} (S : St F w0 m0 n L rs os a w) (i j : Nat) (hij : i ≠ j) (hi : nth os i = some f) (hj : nth os j = some g) (f' g' : OF) (s : Slots n L' a') (t : Tr [f.o, g.o] w [f'.o, g'.o] w')
    (hf : ∀ W,f'.p F W w') (hg : ∀ W,(∀ k,W k → In (ow os) k ∨ In [f'.o,g'.o] k) → g'.p F W w') : St F w0 m0 n L' rs ((os.set i f').set j g') a' w':=by
  have hof:=ow_get hi;have hog:=ow_get hj;have il : i < os.length:=by rw [nth_get] at hi;exact (List.getElem?_eq_some_iff.1 hi).1
  have jl : j < os.length:=by rw [nth_get] at hj;exact (List.getElem?_eq_some_iff.1 hj).1
  have hget : ∀ k o,(ow ((os.set i f').set j g'))[k]? = some o → (k = j ∧ o = g'.o) ∨ (k = i ∧ k ≠ j ∧ o = f'.o) ∨ (k ≠ i ∧ k ≠ j ∧ (ow os)[k]? = some o):=fun k o h=>by
    rw [ow_map,List.getElem?_map,List.getElem?_set,List.getElem?_set] at h
    by_cases e : j = k
    · subst e;rw [if_pos rfl,if_pos (by rw [List.length_set];exact jl)] at h;exact .inl ⟨rfl,(Option.some.inj h).symm⟩
    · rw [if_neg e] at h
      by_cases e2 : i = k
      · subst e2;rw [if_pos rfl,if_pos il] at h;exact .inr (.inl ⟨rfl,fun q=>e q.symm,(Option.some.inj h).symm⟩)
      · rw [if_neg e2] at h;refine .inr (.inr ⟨fun q=>e2 q.symm,fun q=>e q.symm,?_⟩);rw [ow_map,List.getElem?_map];exact h
  have hsub : ∀ k,In [f.o,g.o] k → In (ow os) k:=fun k hk=>by
    rcases hk with hk | hk | hk
    · exact in_at.2 ⟨i,_,hof,hk⟩
    · exact in_at.2 ⟨j,_,hog,hk⟩
    · exact hk.elim
  have hnew : ∀ k,In (ow ((os.set i f').set j g')) k → In (ow os) k ∨ In [f'.o,g'.o] k:=fun k hk=>by
    obtain ⟨m,o,h1,h2⟩:=in_at.1 hk
    rcases hget m o h1 with ⟨_,rfl⟩ | ⟨_,_,rfl⟩ | ⟨_,_,h⟩
    · exact .inr (.inr (.inl h2))
    · exact .inr (.inl h2)
    · exact .inl (in_at.2 ⟨m,o,h,h2⟩)
  have hMS:=S.m.c.ms
  -- a block of the changed ones is none of another fact's
  have hout : ∀ m o,m ≠ i → m ≠ j → (ow os)[m]? = some o → ∀ k,o k → ¬ In [f'.o,g'.o] k:=fun m o hmi hmj hm k hk hin=>by
    rcases t.sub k hin with h | h
    · have:=hMS.sep.out m [i,j] (by simp;omega) hm hk;simp only [picks,List.filterMap_cons,hof,hog,List.filterMap_nil] at this;exact this h
    · have:=hMS.lt k (in_at.2 ⟨m,o,hm,hk⟩);omega
  have hfg : ∀ k,f'.o k → ¬ g'.o k:=fun k h1 h2=>t.ms.sep.1 k h1 (.inl h2);have T : Tr (ow os) w (ow ((os.set i f').set j g')) w':=by
    refine ⟨t.ch.mono hsub,fun k hk=>?_,⟨fun k hk=>?_,sep_idx fun x y hxy o p hx hy k ho hp=>?_⟩⟩
    · rcases hnew k hk with h | h
      · exact .inl h
      · exact (t.sub k h).imp (hsub k) id
    · rcases hnew k hk with h | h
      · exact Nat.lt_of_lt_of_le (hMS.lt k h) t.size
      · exact t.ms.lt k h
    · rcases hget x o hx with ⟨rfl, rfl⟩ | ⟨rfl, hxj, rfl⟩ | ⟨hxi, hxj, hx2⟩ <;> rcases hget y p hy with ⟨rfl, rfl⟩ | ⟨rfl, hyj, rfl⟩ | ⟨hyi, hyj, hy2⟩
      · exact hxy rfl
      · exact hfg k hp ho
      · exact hout y p hyi hyj hy2 k hp (.inr (.inl ho))
      · exact hfg k ho hp
      · exact hxy rfl
      · exact hout y p hyi hyj hy2 k hp (.inl ho)
      · exact hout x o hxi hxj hx2 k ho (.inr (.inl hp))
      · exact hout x o hxi hxj hx2 k ho (.inl hp)
      · have:=hMS.sep.out x [y] (by simp;omega) hx2 ho;simp only [picks,List.filterMap_cons,hy2,List.filterMap_nil] at this;exact this (.inl hp)
  refine ⟨s,S.m.go T fun q hq=>?_⟩;obtain ⟨m,hm⟩:=idx_of hq;rw [nth_get,List.getElem?_set,List.getElem?_set] at hm
  by_cases e : j = m
  · subst e;rw [if_pos rfl, if_pos (by rw [List.length_set]; exact jl)] at hm
    cases hm
    exact hg _ hnew
  · rw [if_neg e] at hm
    by_cases e2 : i = m
    · subst e2;rw [if_pos rfl, if_pos il] at hm
      cases hm
      exact hf _
    · rw [if_neg e2,← nth_get] at hm;refine q.st T.mv (fun k hk ho=>t.ch.block k hk fun hin=>?_) (S.m.o q (nth_mem hm));have:=hMS.sep.out m [i,j] (by simp;omega) (ow_get hm) ho;simp only [picks,List.filterMap_cons,hof,hog,List.filterMap_nil] at this;exact this hin
end
end Go.Proofs.Ytobggnpnochnnaa.V
/- A drawn region whose store stands amid heads: addresses behind it that read heads are made in any order beside it. -/
namespace Go.Proofs.Ytobggnpnochnnaa.V
open Go.RowKit
end Go.Proofs.Ytobggnpnochnnaa.V
/- A drawn region whose store stands amid heads,one of which may run behind it (a move that is read only later). -/
namespace Go.Proofs.Ytobggnpnochnnaa.V
open Go.RowKit
open Go.RowKit Go.Proofs.Ytobggnpnochnnaa
theorem mixed : Try.prog.follows .mixedOrders = true:=by kernel_rfl
theorem cB19 : Callable Try.prog 19:=⟨_,Try.func19,by kernel_rfl,by kernel_rfl⟩
theorem cB26 : Callable Try.prog 26:=⟨_,Try.func26,by kernel_rfl,by kernel_rfl⟩
theorem cB29 : Callable Try.prog 29:=⟨_,Try.func29,by kernel_rfl,by kernel_rfl⟩
theorem cB30 : Callable Try.prog 30:=⟨_,Try.func30,by kernel_rfl,by kernel_rfl⟩
theorem cB31 : Callable Try.prog 31:=⟨_,Try.func31,by kernel_rfl,by kernel_rfl⟩
theorem cB40 : Callable Try.prog 40:=⟨_,Try.func40,by kernel_rfl,by kernel_rfl⟩
theorem cB45 : Callable Try.prog 45:=⟨_,Try.func45,by kernel_rfl,by kernel_rfl⟩
theorem cB48 : Callable Try.prog 48:=⟨_,Try.func48,by kernel_rfl,by kernel_rfl⟩
theorem cB49 : Callable Try.prog 49:=⟨_,Try.func49,by kernel_rfl,by kernel_rfl⟩
theorem cB50 : Callable Try.prog 50:=⟨_,Try.func50,by kernel_rfl,by kernel_rfl⟩
theorem cB52 : Callable Try.prog 52:=⟨_,Try.func52,by kernel_rfl,by kernel_rfl⟩
theorem cB54 : Callable Try.prog 54:=⟨_,Try.func54,by kernel_rfl,by kernel_rfl⟩
theorem cB55 : Callable Try.prog 55:=⟨_,Try.func55,by kernel_rfl,by kernel_rfl⟩
theorem cB56 : Callable Try.prog 56:=⟨_,Try.func56,by kernel_rfl,by kernel_rfl⟩
theorem cB71 : Callable Try.prog 71:=⟨_,Try.func71,by kernel_rfl,by kernel_rfl⟩
theorem cB77 : Callable Try.prog 77:=⟨_,Try.func77,by kernel_rfl,by kernel_rfl⟩
theorem cB79 : Callable Try.prog 79:=⟨_,Try.func79,by kernel_rfl,by kernel_rfl⟩
theorem cB80 : Callable Try.prog 80:=⟨_,Try.func80,by kernel_rfl,by kernel_rfl⟩
theorem cB81 : Callable Try.prog 81:=⟨_,Try.func81,by kernel_rfl,by kernel_rfl⟩
theorem cB82 : Callable Try.prog 82:=⟨_,Try.func82,by kernel_rfl,by kernel_rfl⟩
theorem cB83 : Callable Try.prog 83:=⟨_,Try.func83,by kernel_rfl,by kernel_rfl⟩
theorem cB84 : Callable Try.prog 84:=⟨_,Try.func84,by kernel_rfl,by kernel_rfl⟩
theorem cB85 : Callable Try.prog 85:=⟨_,Try.func85,by kernel_rfl,by kernel_rfl⟩
theorem cB86 : Callable Try.prog 86:=⟨_,Try.func86,by kernel_rfl,by kernel_rfl⟩
theorem cB87 : Callable Try.prog 87:=⟨_,Try.func87,by kernel_rfl,by kernel_rfl⟩
theorem cB88 : Callable Try.prog 88:=⟨_,Try.func88,by kernel_rfl,by kernel_rfl⟩
theorem cB97 : Callable Try.prog 97:=⟨_,Try.func97,by kernel_rfl,by kernel_rfl⟩
theorem cB98 : Callable Try.prog 98:=⟨_,Try.func98,by kernel_rfl,by kernel_rfl⟩
theorem cB100 : Callable Try.prog 100:=⟨_,Try.func100,by kernel_rfl,by kernel_rfl⟩
theorem cB101 : Callable Try.prog 101:=⟨_,Try.func101,by kernel_rfl,by kernel_rfl⟩
theorem cB103 : Callable Try.prog 103:=⟨_,Try.func103,by kernel_rfl,by kernel_rfl⟩
theorem cB104 : Callable Try.prog 104:=⟨_,Try.func104,by kernel_rfl,by kernel_rfl⟩
theorem cB105 : Callable Try.prog 105:=⟨_,Try.func105,by kernel_rfl,by kernel_rfl⟩
theorem cB106 : Callable Try.prog 106:=⟨_,Try.func106,by kernel_rfl,by kernel_rfl⟩
theorem cB107 : Callable Try.prog 107:=⟨_,Try.func107,by kernel_rfl,by kernel_rfl⟩
theorem cB108 : Callable Try.prog 108:=⟨_,Try.func108,by kernel_rfl,by kernel_rfl⟩
theorem cB110 : Callable Try.prog 110:=⟨_,Try.func110,by kernel_rfl,by kernel_rfl⟩
theorem cB111 : Callable Try.prog 111:=⟨_,Try.func111,by kernel_rfl,by kernel_rfl⟩
theorem cB112 : Callable Try.prog 112:=⟨_,Try.func112,by kernel_rfl,by kernel_rfl⟩
theorem cB113 : Callable Try.prog 113:=⟨_,Try.func113,by kernel_rfl,by kernel_rfl⟩
theorem cB114 : Callable Try.prog 114:=⟨_,Try.func114,by kernel_rfl,by kernel_rfl⟩
theorem cB115 : Callable Try.prog 115:=⟨_,Try.func115,by kernel_rfl,by kernel_rfl⟩
theorem cB116 : Callable Try.prog 116:=⟨_,Try.func116,by kernel_rfl,by kernel_rfl⟩
theorem cB117 : Callable Try.prog 117:=⟨_,Try.func117,by kernel_rfl,by kernel_rfl⟩
theorem cB118 : Callable Try.prog 118:=⟨_,Try.func118,by kernel_rfl,by kernel_rfl⟩
theorem cB122 : Callable Try.prog 122:=⟨_,Try.func122,by kernel_rfl,by kernel_rfl⟩
theorem cB123 : Callable Try.prog 123:=⟨_,Try.func123,by kernel_rfl,by kernel_rfl⟩
theorem cB124 : Callable Try.prog 124:=⟨_,Try.func124,by kernel_rfl,by kernel_rfl⟩
theorem cB126 : Callable Try.prog 126:=⟨_,Try.func126,by kernel_rfl,by kernel_rfl⟩
theorem cB127 : Callable Try.prog 127:=⟨_,Try.func127,by kernel_rfl,by kernel_rfl⟩
theorem cB128 : Callable Try.prog 128:=⟨_,Try.func128,by kernel_rfl,by kernel_rfl⟩
theorem cB130 : Callable Try.prog 130:=⟨_,Try.func130,by kernel_rfl,by kernel_rfl⟩
theorem cB131 : Callable Try.prog 131:=⟨_,Try.func131,by kernel_rfl,by kernel_rfl⟩
theorem cB134 : Callable Try.prog 134:=⟨_,Try.func134,by kernel_rfl,by kernel_rfl⟩
def zero_3 : Value:=.int .i64 0
theorem iZ3 : (Try.prog.info? 3).map (fun i=>(i.zero,i.size,i.bytes)) = some (some zero_3,1,8):=by kernel_rfl
def zero_4 : Value:=.bool false
theorem iZ4 : (Try.prog.info? 4).map (fun i=>(i.zero,i.size,i.bytes)) = some (some zero_4,1,1):=by kernel_rfl
def zero_22 : Value:=.slice none 0 0
theorem iZ22 : (Try.prog.info? 22).map (fun i=>(i.zero,i.size,i.bytes)) = some (some zero_22,1,24):=by kernel_rfl
def zero_47 : Value:=.agg #[.bool false,.slice none 0 0]
theorem iZ47 : (Try.prog.info? 47).map (fun i=>(i.zero,i.size,i.bytes)) = some (some zero_47,2,32):=by kernel_rfl
def zero_57 : Value:=.agg #[.int .i64 0,.bool false,.int .i64 0,.slice none 0 0,.slice none 0 0,.slice none 0 0]
theorem iZ57 : (Try.prog.info? 57).map (fun i=>(i.zero,i.size,i.bytes)) = some (some zero_57,6,96):=by kernel_rfl
def zero_78 : Value:=.agg #[.int .i64 0,.int .i64 0]
theorem iZ78 : (Try.prog.info? 78).map (fun i=>(i.zero,i.size,i.bytes)) = some (some zero_78,2,16):=by kernel_rfl
def zero_101 : Value:=.agg #[.bool false,.bool false,.int .i64 0,.int .i64 0,.int .i64 0,.int .i64 0]
theorem iZ101 : (Try.prog.info? 101).map (fun i=>(i.zero,i.size,i.bytes)) = some (some zero_101,6,40):=by kernel_rfl
def zero_122 : Value:=.slice none 0 0
theorem iZ122 : (Try.prog.info? 122).map (fun i=>(i.zero,i.size,i.bytes)) = some (some zero_122,1,24):=by kernel_rfl
def zero_124 : Value:=.agg #[.int .i64 0,.int .i64 0]
theorem iZ124 : (Try.prog.info? 124).map (fun i=>(i.zero,i.size,i.bytes)) = some (some zero_124,2,16):=by kernel_rfl
def zero_138 : Value:=.pointer none
theorem iZ138 : (Try.prog.info? 138).map (fun i=>(i.zero,i.size,i.bytes)) = some (some zero_138,1,8):=by kernel_rfl
def zero_161 : Value:=.agg #[.int .i64 0,.int .i64 0,.int .i64 0]
theorem iZ161 : (Try.prog.info? 161).map (fun i=>(i.zero,i.size,i.bytes)) = some (some zero_161,3,24):=by kernel_rfl
def zero_164 : Value:=.agg #[.bool false,.int .i64 0,.int .i64 0]
theorem iZ164 : (Try.prog.info? 164).map (fun i=>(i.zero,i.size,i.bytes)) = some (some zero_164,3,24):=by kernel_rfl
theorem sC3 : Scalar Try.prog 3:=⟨_,Try.underlying3,rfl⟩
theorem sC4 : Scalar Try.prog 4:=⟨_,Try.underlying4,rfl⟩
theorem sC22 : Scalar Try.prog 22:=⟨_,Try.underlying22,rfl⟩
theorem sC45 : Scalar Try.prog 45:=⟨_,Try.underlying45,rfl⟩
theorem wD47 : Wide Try.prog 47 2:=⟨_,Try.underlying47,rfl,by kernel_rfl⟩
theorem wD57 : Wide Try.prog 57 6:=⟨_,Try.underlying57,rfl,by kernel_rfl⟩
theorem sC66 : Scalar Try.prog 66:=⟨_,Try.underlying66,rfl⟩
theorem wD78 : Wide Try.prog 78 2:=⟨_,Try.underlying78,rfl,by kernel_rfl⟩
theorem wD101 : Wide Try.prog 101 6:=⟨_,Try.underlying101,rfl,by kernel_rfl⟩
theorem sC122 : Scalar Try.prog 122:=⟨_,Try.underlying122,rfl⟩
theorem wD124 : Wide Try.prog 124 2:=⟨_,Try.underlying124,rfl,by kernel_rfl⟩
theorem sC125 : Scalar Try.prog 125:=⟨_,Try.underlying125,rfl⟩
theorem sC135 : Scalar Try.prog 135:=⟨_,Try.underlying135,rfl⟩
theorem sC138 : Scalar Try.prog 138:=⟨_,Try.underlying138,rfl⟩
theorem sC150 : Scalar Try.prog 150:=⟨_,Try.underlying150,rfl⟩
theorem sC153 : Scalar Try.prog 153:=⟨_,Try.underlying153,rfl⟩
theorem wD161 : Wide Try.prog 161 3:=⟨_,Try.underlying161,rfl,by kernel_rfl⟩
theorem wD164 : Wide Try.prog 164 3:=⟨_,Try.underlying164,rfl,by kernel_rfl⟩
theorem sZ3 : (Try.prog.info? 3).map (·.size) = some 1:=by kernel_rfl
theorem sZ122 : (Try.prog.info? 122).map (·.size) = some 1:=by kernel_rfl
theorem sZ22 : (Try.prog.info? 22).map (·.size) = some 1:=by kernel_rfl
theorem sZ4 : (Try.prog.info? 4).map (·.size) = some 1:=by kernel_rfl
theorem sZ124 : (Try.prog.info? 124).map (·.size) = some 2:=by kernel_rfl
theorem sZ138 : (Try.prog.info? 138).map (·.size) = some 1:=by kernel_rfl
theorem sZ161 : (Try.prog.info? 161).map (·.size) = some 3:=by kernel_rfl
theorem sZ164 : (Try.prog.info? 164).map (·.size) = some 3:=by kernel_rfl
abbrev uT3:=@Try.underlying3
abbrev uT4:=@Try.underlying4
abbrev uT22:=@Try.underlying22
abbrev uT40:=@Try.underlying40
abbrev uT45:=@Try.underlying45
abbrev uT47:=@Try.underlying47
abbrev uT57:=@Try.underlying57
abbrev uT66:=@Try.underlying66
abbrev uT72:=@Try.underlying72
abbrev uT73:=@Try.underlying73
abbrev uT78:=@Try.underlying78
abbrev uT83:=@Try.underlying83
abbrev uT101:=@Try.underlying101
abbrev uT112:=@Try.underlying112
abbrev uT122:=@Try.underlying122
abbrev uT124:=@Try.underlying124
abbrev uT125:=@Try.underlying125
abbrev uT135:=@Try.underlying135
abbrev uT137:=@Try.underlying137
abbrev uT150:=@Try.underlying150
abbrev uT152:=@Try.underlying152
abbrev uT153:=@Try.underlying153
abbrev uT155:=@Try.underlying155
abbrev uT157:=@Try.underlying157
abbrev uT161:=@Try.underlying161
abbrev uT164:=@Try.underlying164
abbrev uT166:=@Try.underlying166
open Go.RowKit Go.Proofs.Ytobggnpnochnnaa
theorem qPutC (w : World) (F : Nat → Prop) (hF : Old F w) (sn_b : Nat) (sn : Sta) (M : MS [In (ow (staF sn_b sn))] w) (hD : ∀ k, In [In (ow (staF sn_b sn))] k → ¬ F k) (sn_k : staK sn) (sn_K : (bnO (staF sn_b sn)).p F (In [In (ow (staF sn_b sn))]) w) (xe : Cmd) (xe_w : cmdE.wf (Fr F [In (ow (staF sn_b sn))]) w.heap xe) (hb : sn.cmds.xs.length ≤ 10000000) :
 Calls Try.prog 118 #[pT sn_b 7,.agg (cmdE.cells xe).toArray] w fun e w'=>∃ (sn_1 : Sta),e = .returned (.tuple #[]) ∧ staK sn_1 ∧ (bnO (staF sn_b sn_1)).p F (In [In (ow (staF sn_b sn_1))]) w' ∧ (psOf sn_1 = {psOf sn with cmd:=sn.cmds.xs ++ [xe]}) ∧ Tr [In (ow (staF sn_b sn))] w [In (ow (staF sn_b sn_1))] w':=by
 obtain ⟨_,_⟩ : inI64 xe.inc:=xe_w.1;obtain ⟨_,_⟩ : inI64 xe.seq:=xe_w.2.1;obtain ⟨_,_⟩ : inI64 xe.ver:=xe_w.2.2;refine go Try.func118 rfl 14 rfl [wfF cmdE xe] [bnO (staF sn_b sn)] hF M ⟨xe_w,trivial⟩ ⟨sn_K,trivial⟩ ?_;intro a S;refine rs0 ?_;refine nbp S (x_box _ (S.e rfl) rfl) ?_;clear S;intro a u b3 S;refine ent ?_;replace S:=S.pkc [1,0];replace S:=S.opnN 1 [blO sn_b [bD (sn.up = true),bD (sn.quar = true),iI sn.run,iI sn.sav,iI sn.seq,iI sn.inc,bD (sn.vol = true),sV sn.cmds,sV sn.msgs] 157,rwO cmdE 161 0 sn.cmds.a sn.cmds.c sn.cmds.xs,rwO msgE 164 0 sn.msgs.a sn.msgs.c sn.msgs.xs];have : sn.cmds.xs.length ≤ 9223372036854775807:=(S.row 2 rfl).len_le;have : sn.msgs.xs.length ≤ 9223372036854775807:=(S.row 3 rfl).len_le;obtain ⟨_,_⟩ : inI64 sn.run:=sn_k.1;obtain ⟨_,_⟩ : inI64 sn.sav:=sn_k.2.1;obtain ⟨_,_⟩ : inI64 sn.seq:=sn_k.2.2.1;obtain ⟨_,_⟩ : inI64 sn.inc:=sn_k.2.2.2;refine drH (P:=Try.prog) (Nat × (Option Addr) × Nat) (0,none,0) (fun g=>[wfF cmdE xe]) (fun g=>[blO b3 (cmdE.cells xe) 161,blO sn_b [bD (sn.up = true),bD (sn.quar = true),iI sn.run,iI sn.sav,iI sn.seq,iI sn.inc,bD (sn.vol = true),sV sn.cmds,sV sn.msgs] 157,rwO cmdE 161 0 sn.cmds.a sn.cmds.c sn.cmds.xs,rwO msgE 164 0 sn.msgs.a sn.msgs.c sn.msgs.xs]) [⟨0,4,0,2,[],[0],fun g=>pT sn_b 7,[]⟩,⟨1,5,0,1,[],[4,3,2,1],fun g=>pT sn_b 7,[]⟩,⟨2,6,0,1,[],[4,3,2],fun g=>pT sn_b 7,[5]⟩,⟨3,7,0,1,[],[4,3],fun g=>pT sn_b (7 + 0),[6]⟩,⟨4,8,0,1,[],[4],fun g=>sV sn.cmds,[7]⟩,⟨5,9,0,0,[],[5],fun g=>.agg (cmdE.cells xe).toArray,[]⟩,⟨8,12,2,2,[7],[9,8],fun g=>pT sn_b 7,[4]⟩,⟨9,13,2,2,[7],[9],fun g=>pT sn_b (7 + 0),[12]⟩] [] [⟨6,some 10,fun g=>.slice (some ⟨g.1,0,none⟩) 1 1,[9],fun g=>[wfF cmdE xe,wfF (slE cmdE) (Sl.mk (some ⟨g.1,0,none⟩) 1 ([xe]))],fun g=>[blO b3 (cmdE.cells xe) 161,blO sn_b [bD (sn.up = true),bD (sn.quar = true),iI sn.run,iI sn.sav,iI sn.seq,iI sn.inc,bD (sn.vol = true),sV sn.cmds,sV sn.msgs] 157,rwO cmdE 161 0 sn.cmds.a sn.cmds.c sn.cmds.xs,rwO msgE 164 0 sn.msgs.a sn.msgs.c sn.msgs.xs],fun g=>True⟩,⟨7,some 11,fun g=>.slice g.2.1 ((sn.cmds.xs ++ [xe]).length) g.2.2,[8,10],fun g=>[wfF cmdE xe,wfF (slE cmdE) (Sl.mk (some ⟨g.1,0,none⟩) 1 ([xe]))],fun g=>[blO b3 (cmdE.cells xe) 161,blO sn_b [bD (sn.up = true),bD (sn.quar = true),iI sn.run,iI sn.sav,iI sn.seq,iI sn.inc,bD (sn.vol = true),sV sn.cmds,sV sn.msgs] 157,rwO cmdE 161 0 g.2.1 g.2.2 (sn.cmds.xs ++ [xe]),rwO msgE 164 0 sn.msgs.a sn.msgs.c sn.msgs.xs],fun g=>True⟩,⟨10,none,fun g=>undef,[13,11],fun g=>[wfF cmdE xe,wfF (slE cmdE) (Sl.mk (some ⟨g.1,0,none⟩) 1 ([xe]))],fun g=>[blO b3 (cmdE.cells xe) 161,blO sn_b [bD (sn.up = true),bD (sn.quar = true),iI sn.run,iI sn.sav,iI sn.seq,iI sn.inc,bD (sn.vol = true),.slice g.2.1 ((sn.cmds.xs ++ [xe]).length) g.2.2,sV sn.msgs] 157,rwO cmdE 161 0 g.2.1 g.2.2 (sn.cmds.xs ++ [xe]),rwO msgE 164 0 sn.msgs.a sn.msgs.c sn.msgs.xs],fun g=>True⟩] [[6],[7]] [] [] S (fun y hy=>by cases hy) (fun ⟨b10,ad11,cap11⟩=>⟨rfl,rfl,rfl,rfl,rfl,rfl,rfl,rfl,rfl,rfl,trivial⟩) ?_ ?_ ⟨⟨_,rfl,rfl,?_⟩,⟨_,rfl,rfl,?_⟩,⟨_,rfl,rfl,?_⟩,trivial⟩ ?_
 ·intro k g hk; obtain ⟨b10, ad11, cap11⟩ := g; obtain rfl | rfl | rfl | rfl : k = 0 ∨ k = 1 ∨ k = 2 ∨ k = 3 := by simp only [List.length_cons, List.length_nil] at hk; omega
  ·exact ⟨lkq rfl fun S=>x_move (S.e rfl),lkq rfl fun S=>x_move (S.e rfl),lkq rfl fun S=>x_nilck (S.e rfl),lkq rfl fun S=>x_fld (z:=0) (7) 0 uT152 rfl rfl (by kernel_rfl) (S.e rfl),lkq rfl fun S=>x_load sC150 (S.e rfl) ((S.k 1 rfl).cell (j:=7) rfl),lkq rfl fun S=>x_ldw (S.e rfl) (S.k 0 rfl).all wD161,lkm,lkm,trivial⟩
  ·exact ⟨lkq rfl fun S=>x_move (S.e rfl),lkq rfl fun S=>x_move (S.e rfl),lkq rfl fun S=>x_nilck (S.e rfl),lkq rfl fun S=>x_fld (z:=0) (7) 0 uT152 rfl rfl (by kernel_rfl) (S.e rfl),lkq rfl fun S=>x_load sC150 (S.e rfl) ((S.k 1 rfl).cell (j:=7) rfl),lkn,lkm,lkm,trivial⟩
  ·exact ⟨lkq rfl fun S=>x_move (S.e rfl),lkn,lkn,lkn,lkn,lkn,lkq rfl fun S=>x_nilck (S.e rfl),lkq rfl fun S=>x_fld (z:=0) (7) 0 uT152 rfl rfl (by kernel_rfl) (S.e rfl),trivial⟩
  exact ⟨lkn,lkn,lkn,lkn,lkn,lkn,lkn,lkn,trivial⟩
 ·exact fun _ _ _=>trivial
 ·skip;intro g a u h;obtain ⟨b10,ad11,cap11⟩:=g;obtain ⟨S,hR,hN⟩:=h;replace S:=S.h0;dsimp only at S;refine nbs cmdE S [xe] (x_bs S [(0,.agg (cmdE.cells xe).toArray)] uT150 iZ161) (fun x hx=>by simp only [List.mem_cons,List.not_mem_nil,or_false] at hx;rw [hx];exact (show cmdE.wf _ _ xe from ⟨(S.u 0 rfl).1,(S.u 0 rfl).2.1,(S.u 0 rfl).2.2⟩)) ?_;clear S;intro a u b10 S;refine ent ?_;exact ⟨S.s.defers,(b10,ad11,cap11),(fun d h=>by obtain rfl:=Option.some.inj h;exact S.s.get _ _ rfl),agz,trivial,trivial,S.m,trivial⟩
 ·skip;intro g a u h;obtain ⟨b10,ad11,cap11⟩:=g;obtain ⟨S,hR,hN⟩:=h;replace S:=S.hk (k:=0);dsimp only at S;refine ap (E:=cmdE) (ys:=[xe]) S 2 rfl uT150 iZ161 rfl rfl (show LAt cmdE _ _ (some ⟨b10,0,none⟩) ([xe]) from ((S.u 1 rfl)).1) ((S.u 1 rfl)).2.2 (LAt.mem (show LAt cmdE _ _ (some ⟨b10,0,none⟩) ([xe]) from ((S.u 1 rfl)).1)) ⟨by unfold maxLen;(try simp only [List.length_cons,List.length_nil,List.length_append,List.length_map]);omega,by (try simp only [List.length_cons,List.length_nil,List.length_append,List.length_map]);omega⟩ ?_;clear S;intro a u ad11 cap11 S;refine ent ?_;exact ⟨S.s.defers,(b10,ad11,cap11),(fun d h=>by obtain rfl:=Option.some.inj h;exact S.s.get _ _ rfl),agz,trivial,⟨rfl,trivial⟩,S.m,trivial⟩
 ·skip;intro g a u h;obtain ⟨b10,ad11,cap11⟩:=g;obtain ⟨S,hR,hN⟩:=h;replace S:=S.hk (k:=1);dsimp only at S;refine ens S (la (stk 1 rfl rfl rfl)) ?_;clear S;intro a u S;exact ⟨S.s.defers,(b10,ad11,cap11),(fun d h=>by cases h),agz,trivial,⟨rfl,rfl,trivial⟩,S.m,trivial⟩
 clear S;intro g a u hA S hR;obtain ⟨b10,ad11,cap11⟩:=g;replace S:=(S.hk (k:=2)).l [(0,pT sn_b 7),(1,.agg (cmdE.cells xe).toArray),(3,pT b3 0),(4,pT sn_b 7),(5,pT sn_b 7),(6,pT sn_b 7),(7,pT sn_b (7 + 0)),(8,sV sn.cmds),(9,.agg (cmdE.cells xe).toArray),(10,.slice (some ⟨b10,0,none⟩) 1 1),(11,.slice ad11 ((sn.cmds.xs ++ [xe]).length) cap11),(12,pT sn_b 7),(13,pT sn_b (7 + 0))] (subM rfl);dsimp only at S;refine nn ?_;have hk2 : staK (⟨sn.up,sn.quar,sn.run,sn.sav,sn.seq,sn.inc,sn.vol,(Sl.mk ad11 cap11 (sn.cmds.xs ++ [xe])),sn.msgs⟩ : Sta):=⟨sn_k.1,sn_k.2.1,sn_k.2.2.1,sn_k.2.2.2⟩;replace S:=S.clsN 1 (staF sn_b (⟨sn.up,sn.quar,sn.run,sn.sav,sn.seq,sn.inc,sn.vol,(Sl.mk ad11 cap11 (sn.cmds.xs ++ [xe])),sn.msgs⟩ : Sta));refine end0 rfl S.s ?_;replace S:=S.pkc [1];refine ⟨(⟨sn.up,sn.quar,sn.run,sn.sav,sn.seq,sn.inc,sn.vol,(Sl.mk ad11 cap11 (sn.cmds.xs ++ [xe])),(Sl.mk sn.msgs.a sn.msgs.c sn.msgs.xs)⟩ : Sta),rfl,hk2,(S.m.o _ (nth_mem (i:=0) rfl)),?_,S.m.c⟩
 first | assumption | trivial | rfl
theorem sCloneC (w : World) (F : Nat → Prop) (hF : Old F w) (M : MS [] w) (x : Sl Cmd) (x_w : (slE cmdE).wf (Fr F []) w.heap x) (hb : x.xs.length ≤ 100000000) :
 Calls Try.prog 100 #[sV x] w fun e w'=>∃ (ra : Option Addr) (rc : Nat),e = .returned (.slice ra x.xs.length rc) ∧ Row cmdE 161 w.heap.size F [abk ra] w' ra rc x.xs ∧ Tr [] w [abk ra] w':=by
 have : x.xs.length ≤ 9223372036854775807:=(x_w).1.len;refine go Try.func100 rfl 8 rfl [wfF (slE cmdE) x] [] hF M ⟨x_w,trivial⟩ trivial ?_;intro a S;have hD : ∀ k,In ([] : List BS) k → ¬ F k:=fun _ h=>h.elim;refine rs S (la (av rfl)) ?_;clear S;intro a u S;refine wp_seq ?_;refine rs S (tr (mv rfl)<|la (ov fun S=>x_sleql uT150 (S.e rfl) (S.e rfl))) ?_;clear S;intro a u S;refine cd S rfl ?_ ?_
 ·intro hc0;refine rs S (la (av rfl)) ?_;clear S;intro a u S;refine wp_ret (then_r ?_);replace S:=S.nr cmdE 161;refine ret1 rfl S.s rfl ?_;have hx4 : x.xs = []:=by
   exact (S.u 0 rfl).1.nil_xs hc0
  rw [hx4];refine ⟨none,0,rfl,(S.row 0 rfl),S.m.c⟩
 intro hc1;refine wp_skip (then_n (rs0 ?_));refine nbr (q:=0) cmdE S [] (x_bsl0 uT150 iZ161) (fun _ h=>by simp at h) ?_;clear S;intro a u b5 S;refine sp S (la (mv rfl)) ?_;clear S;intro a u S;refine ap (E:=cmdE) (ys:=x.xs) S 0 rfl uT150 iZ161 rfl rfl ((S.u 0 rfl)).1 ((S.u 0 rfl)).2.2 (LAt.mem ((S.u 0 rfl)).1) ⟨by unfold maxLen;(try simp only [List.length_cons,List.length_nil,List.length_append,List.length_map]);omega,by (try simp only [List.length_cons,List.length_nil,List.length_append,List.length_map]);omega⟩ ?_;clear S;intro a u ad7 cap7 S;refine ens S (la (av rfl)) ?_;clear S;intro a u S;refine wp_ret ?_;refine ret1 rfl S.s rfl ?_;have hx6 : x.xs = ([] ++ x.xs):=by
  first | rfl | simp
 rw [hx6];refine ⟨ad7,cap7,rfl,(S.row 0 rfl),S.m.c⟩
theorem qTakeC (w : World) (F : Nat → Prop) (hF : Old F w) (sn_b : Nat) (sn : Sta) (M : MS [In (ow (staF sn_b sn))] w) (hD : ∀ k, In [In (ow (staF sn_b sn))] k → ¬ F k) (sn_k : staK sn) (sn_K : (bnO (staF sn_b sn)).p F (In [In (ow (staF sn_b sn))]) w) (hb : 0 < sn.cmds.xs.length ∧ sn.cmds.xs.length ≤ 10000000) :
 Calls Try.prog 112 #[pT sn_b 7] w fun e w'=>∃ (r : Cmd) (sn_1 : Sta),e = .returned (.agg (cmdE.cells r).toArray) ∧ cmdE.wf (Fr F [In (ow (staF sn_b sn_1))]) w'.heap r ∧ r = sn.cmds.xs.getD 0 cmdE.dflt ∧ staK sn_1 ∧ (bnO (staF sn_b sn_1)).p F (In [In (ow (staF sn_b sn_1))]) w' ∧ (psOf sn_1 = {psOf sn with cmd:=sn.cmds.xs.drop 1}) ∧ Tr [In (ow (staF sn_b sn))] w [In (ow (staF sn_b sn_1))] w':=by
 obtain ⟨hb1,hb2⟩:=hb;refine go Try.func112 rfl 20 rfl [] [bnO (staF sn_b sn)] hF M trivial ⟨sn_K,trivial⟩ ?_;intro a S;refine rs0 ?_;refine nbp S (x_allocz _ iZ161 rfl) ?_;clear S;intro a u b2 S;refine ent (rs0 ?_);refine sp S (tr (mv rfl)<|la (ov fun S=>x_nilck (S.e rfl))) ?_;clear S;intro a u S;replace S:=S.pkc [1,0];replace S:=S.opnN 1 [blO sn_b [bD (sn.up = true),bD (sn.quar = true),iI sn.run,iI sn.sav,iI sn.seq,iI sn.inc,bD (sn.vol = true),sV sn.cmds,sV sn.msgs] 157,rwO cmdE 161 0 sn.cmds.a sn.cmds.c sn.cmds.xs,rwO msgE 164 0 sn.msgs.a sn.msgs.c sn.msgs.xs];have : sn.cmds.xs.length ≤ 9223372036854775807:=(S.row 2 rfl).len_le;have : sn.msgs.xs.length ≤ 9223372036854775807:=(S.row 3 rfl).len_le;obtain ⟨_,_⟩ : inI64 sn.run:=sn_k.1;obtain ⟨_,_⟩ : inI64 sn.sav:=sn_k.2.1;obtain ⟨_,_⟩ : inI64 sn.seq:=sn_k.2.2.1;obtain ⟨_,_⟩ : inI64 sn.inc:=sn_k.2.2.2;obtain ⟨hl3,hu3⟩ : inI64 ((sn.cmds.xs.getD 0 cmdE.dflt).inc):=id (((S.row 2 rfl).wfi 0 bo).1);obtain ⟨hl4,hu4⟩ : inI64 ((sn.cmds.xs.getD 0 cmdE.dflt).seq):=id (((S.row 2 rfl).wfi 0 bo).2.1);obtain ⟨hl5,hu5⟩ : inI64 ((sn.cmds.xs.getD 0 cmdE.dflt).ver):=id (((S.row 2 rfl).wfi 0 bo).2.2);refine sp S (tr (fldi 7 0 rfl uT152)<|tr (ldk 1 sC150 rfl rfl rfl)<|tr (ov fun S=>x_idx uT150 sZ161 (S.e rfl) (S.e rfl) 0 rfl bo (row_off (S.row 2 rfl) (m:=0) bo))<|la (ov fun S=>x_ldw (S.e rfl) (((S.row 2 rfl).latz nz).wcell 0 bo _ rfl _ rfl) wD161)) ?_;clear S;intro a u S;obtain ⟨hd,hhd⟩ : ∃ z : Cmd,z = (sn.cmds.xs.getD 0 cmdE.dflt):=⟨_,rfl⟩;replace S:=S.ar (wfF cmdE hd) (by rw [hhd];exact (S.row 2 rfl).wf _ (getD_mem (d:=cmdE.dflt) (i:=0) bo));rw [← hhd] at S;refine nbp S (x_allocz _ iZ161 rfl) ?_;clear S;intro a u b3 S;refine ens S (la (stkw 4 rfl rfl rfl)) ?_;clear S;intro a u S;refine rs0 ?_;refine sp S (tr (mv rfl)<|tr (mv rfl)<|tr (ov fun S=>x_nilck (S.e rfl))<|tr (fldi 7 0 rfl uT152)<|la (ldk 1 sC150 rfl rfl rfl)) ?_;clear S;intro a u S;replace S:=S.fzD hD 2 rfl (by show 0 < cmdE.n;decide);have hk7 : (slFrom cmdE (Sl.mk sn.cmds.a sn.cmds.c sn.cmds.xs) 1).xs.length = sn.cmds.xs.length - 1:=List.length_drop;refine sp S (la (ov (v:=sV (slFrom cmdE (Sl.mk sn.cmds.a sn.cmds.c sn.cmds.xs) 1)) fun S=>x_slfrom cmdE (s:=(Sl.mk sn.cmds.a sn.cmds.c sn.cmds.xs)) uT150 iZ161 (S.e rfl) (S.e rfl) 1 rfl (by dsimp only;omega))) ?_;clear S;intro a u S;refine cl S (sCloneC _ _ S.x (.nil _) (slFrom cmdE (Sl.mk sn.cmds.a sn.cmds.c sn.cmds.xs) 1) (dn0 (sl_from (E:=cmdE) (S.u 1 rfl) 1 (by dsimp only;omega))) (by first | omega | (dsimp only;omega) | (simp only [List.length_drop];omega) | (dsimp only;simp only [List.length_drop];omega))) cB100 ?_;rintro e u ⟨ra_t16,rc_t16,rfl,R_t16,T0⟩;refine ⟨_,rfl,fun a s=>?_⟩;replace S:=(S.kr [⟨_,cmdE,161,ra_t16,rc_t16,(slFrom cmdE (Sl.mk sn.cmds.a sn.cmds.c sn.cmds.xs) 1).xs⟩] s T0 ⟨R_t16,trivial⟩).sh;clear s T0 R_t16;refine ens S (tr (ov fun S=>x_nilck (S.e rfl))<|tr (fldi 7 0 rfl uT152)<|la (stk 1 rfl rfl rfl)) ?_;clear S;intro a u S;refine rs S (tr (ldkw 4 rfl rfl wD161)<|la (stkw 0 rfl rfl rfl)) ?_;clear S;intro a u S;refine wp_ret ?_;replace S:=(S.b0 5 rfl).sh;replace S:=S.pkc [0,4,1,5,3];have hk9 : staK (⟨sn.up,sn.quar,sn.run,sn.sav,sn.seq,sn.inc,sn.vol,(Sl.mk ra_t16 rc_t16 ((slFrom cmdE sn.cmds 1).xs)),sn.msgs⟩ : Sta):=⟨sn_k.1,sn_k.2.1,sn_k.2.2.1,sn_k.2.2.2⟩;replace S:=S.clsN 2 (staF sn_b (⟨sn.up,sn.quar,sn.run,sn.sav,sn.seq,sn.inc,sn.vol,(Sl.mk ra_t16 rc_t16 ((slFrom cmdE sn.cmds 1).xs)),sn.msgs⟩ : Sta));refine retcw rfl S.s rfl [iI hd.inc,iI hd.seq,iI hd.ver] wD161 (fun j v hv=>by rw [Nat.zero_add];exact (S.k 0 rfl).cell hv) ?_;replace S:=S.pkc [2];refine ⟨hd,(⟨sn.up,sn.quar,sn.run,sn.sav,sn.seq,sn.inc,sn.vol,(Sl.mk ra_t16 rc_t16 ((slFrom cmdE (Sl.mk sn.cmds.a sn.cmds.c sn.cmds.xs) 1).xs)),(Sl.mk sn.msgs.a sn.msgs.c sn.msgs.xs)⟩ : Sta),rfl,(S.u 0 rfl),?_,hk9,(S.m.o _ (nth_mem (i:=0) rfl)),?_,S.m.c⟩
 ·exact hhd
 rfl
theorem qPutM (w : World) (F : Nat → Prop) (hF : Old F w) (sn_b : Nat) (sn : Sta) (M : MS [In (ow (staF sn_b sn))] w) (hD : ∀ k, In [In (ow (staF sn_b sn))] k → ¬ F k) (sn_k : staK sn) (sn_K : (bnO (staF sn_b sn)).p F (In [In (ow (staF sn_b sn))]) w) (xe : Msg) (xe_w : msgE.wf (Fr F [In (ow (staF sn_b sn))]) w.heap xe) (hb : sn.msgs.xs.length ≤ 10000000) :
 Calls Try.prog 114 #[pT sn_b 8,.agg (msgE.cells xe).toArray] w fun e w'=>∃ (sn_1 : Sta),e = .returned (.tuple #[]) ∧ staK sn_1 ∧ (bnO (staF sn_b sn_1)).p F (In [In (ow (staF sn_b sn_1))]) w' ∧ (psOf sn_1 = {psOf sn with msg:=sn.msgs.xs ++ [xe]}) ∧ Tr [In (ow (staF sn_b sn))] w [In (ow (staF sn_b sn_1))] w':=by
 obtain ⟨_,_⟩ : inI64 xe.inc:=xe_w.2.1;obtain ⟨_,_⟩ : inI64 xe.seq:=xe_w.2.2;refine go Try.func114 rfl 14 rfl [wfF msgE xe] [bnO (staF sn_b sn)] hF M ⟨xe_w,trivial⟩ ⟨sn_K,trivial⟩ ?_;intro a S;refine rs0 ?_;refine nbp S (x_box _ (S.e rfl) rfl) ?_;clear S;intro a u b3 S;refine ent ?_;replace S:=S.pkc [1,0];replace S:=S.opnN 1 [blO sn_b [bD (sn.up = true),bD (sn.quar = true),iI sn.run,iI sn.sav,iI sn.seq,iI sn.inc,bD (sn.vol = true),sV sn.cmds,sV sn.msgs] 157,rwO cmdE 161 0 sn.cmds.a sn.cmds.c sn.cmds.xs,rwO msgE 164 0 sn.msgs.a sn.msgs.c sn.msgs.xs];have : sn.cmds.xs.length ≤ 9223372036854775807:=(S.row 2 rfl).len_le;have : sn.msgs.xs.length ≤ 9223372036854775807:=(S.row 3 rfl).len_le;obtain ⟨_,_⟩ : inI64 sn.run:=sn_k.1;obtain ⟨_,_⟩ : inI64 sn.sav:=sn_k.2.1;obtain ⟨_,_⟩ : inI64 sn.seq:=sn_k.2.2.1;obtain ⟨_,_⟩ : inI64 sn.inc:=sn_k.2.2.2;refine drH (P:=Try.prog) (Nat × (Option Addr) × Nat) (0,none,0) (fun g=>[wfF msgE xe]) (fun g=>[blO b3 (msgE.cells xe) 164,blO sn_b [bD (sn.up = true),bD (sn.quar = true),iI sn.run,iI sn.sav,iI sn.seq,iI sn.inc,bD (sn.vol = true),sV sn.cmds,sV sn.msgs] 157,rwO cmdE 161 0 sn.cmds.a sn.cmds.c sn.cmds.xs,rwO msgE 164 0 sn.msgs.a sn.msgs.c sn.msgs.xs]) [⟨0,4,0,2,[],[0],fun g=>pT sn_b 8,[]⟩,⟨1,5,0,1,[],[4,3,2,1],fun g=>pT sn_b 8,[]⟩,⟨2,6,0,1,[],[4,3,2],fun g=>pT sn_b 8,[5]⟩,⟨3,7,0,1,[],[4,3],fun g=>pT sn_b (8 + 0),[6]⟩,⟨4,8,0,1,[],[4],fun g=>sV sn.msgs,[7]⟩,⟨5,9,0,0,[],[5],fun g=>.agg (msgE.cells xe).toArray,[]⟩,⟨8,12,2,2,[7],[9,8],fun g=>pT sn_b 8,[4]⟩,⟨9,13,2,2,[7],[9],fun g=>pT sn_b (8 + 0),[12]⟩] [] [⟨6,some 10,fun g=>.slice (some ⟨g.1,0,none⟩) 1 1,[9],fun g=>[wfF msgE xe,wfF (slE msgE) (Sl.mk (some ⟨g.1,0,none⟩) 1 ([xe]))],fun g=>[blO b3 (msgE.cells xe) 164,blO sn_b [bD (sn.up = true),bD (sn.quar = true),iI sn.run,iI sn.sav,iI sn.seq,iI sn.inc,bD (sn.vol = true),sV sn.cmds,sV sn.msgs] 157,rwO cmdE 161 0 sn.cmds.a sn.cmds.c sn.cmds.xs,rwO msgE 164 0 sn.msgs.a sn.msgs.c sn.msgs.xs],fun g=>True⟩,⟨7,some 11,fun g=>.slice g.2.1 ((sn.msgs.xs ++ [xe]).length) g.2.2,[8,10],fun g=>[wfF msgE xe,wfF (slE msgE) (Sl.mk (some ⟨g.1,0,none⟩) 1 ([xe]))],fun g=>[blO b3 (msgE.cells xe) 164,blO sn_b [bD (sn.up = true),bD (sn.quar = true),iI sn.run,iI sn.sav,iI sn.seq,iI sn.inc,bD (sn.vol = true),sV sn.cmds,sV sn.msgs] 157,rwO cmdE 161 0 sn.cmds.a sn.cmds.c sn.cmds.xs,rwO msgE 164 0 g.2.1 g.2.2 (sn.msgs.xs ++ [xe])],fun g=>True⟩,⟨10,none,fun g=>undef,[13,11],fun g=>[wfF msgE xe,wfF (slE msgE) (Sl.mk (some ⟨g.1,0,none⟩) 1 ([xe]))],fun g=>[blO b3 (msgE.cells xe) 164,blO sn_b [bD (sn.up = true),bD (sn.quar = true),iI sn.run,iI sn.sav,iI sn.seq,iI sn.inc,bD (sn.vol = true),sV sn.cmds,.slice g.2.1 ((sn.msgs.xs ++ [xe]).length) g.2.2] 157,rwO cmdE 161 0 sn.cmds.a sn.cmds.c sn.cmds.xs,rwO msgE 164 0 g.2.1 g.2.2 (sn.msgs.xs ++ [xe])],fun g=>True⟩] [[6],[7]] [] [] S (fun y hy=>by cases hy) (fun ⟨b10,ad11,cap11⟩=>⟨rfl,rfl,rfl,rfl,rfl,rfl,rfl,rfl,rfl,rfl,trivial⟩) ?_ ?_ ⟨⟨_,rfl,rfl,?_⟩,⟨_,rfl,rfl,?_⟩,⟨_,rfl,rfl,?_⟩,trivial⟩ ?_
 ·intro k g hk; obtain ⟨b10, ad11, cap11⟩ := g; obtain rfl | rfl | rfl | rfl : k = 0 ∨ k = 1 ∨ k = 2 ∨ k = 3 := by simp only [List.length_cons, List.length_nil] at hk; omega
  ·exact ⟨lkq rfl fun S=>x_move (S.e rfl),lkq rfl fun S=>x_move (S.e rfl),lkq rfl fun S=>x_nilck (S.e rfl),lkq rfl fun S=>x_fld (z:=0) (8) 0 uT155 rfl rfl (by kernel_rfl) (S.e rfl),lkq rfl fun S=>x_load sC153 (S.e rfl) ((S.k 1 rfl).cell (j:=8) rfl),lkq rfl fun S=>x_ldw (S.e rfl) (S.k 0 rfl).all wD164,lkm,lkm,trivial⟩
  ·exact ⟨lkq rfl fun S=>x_move (S.e rfl),lkq rfl fun S=>x_move (S.e rfl),lkq rfl fun S=>x_nilck (S.e rfl),lkq rfl fun S=>x_fld (z:=0) (8) 0 uT155 rfl rfl (by kernel_rfl) (S.e rfl),lkq rfl fun S=>x_load sC153 (S.e rfl) ((S.k 1 rfl).cell (j:=8) rfl),lkn,lkm,lkm,trivial⟩
  ·exact ⟨lkq rfl fun S=>x_move (S.e rfl),lkn,lkn,lkn,lkn,lkn,lkq rfl fun S=>x_nilck (S.e rfl),lkq rfl fun S=>x_fld (z:=0) (8) 0 uT155 rfl rfl (by kernel_rfl) (S.e rfl),trivial⟩
  exact ⟨lkn,lkn,lkn,lkn,lkn,lkn,lkn,lkn,trivial⟩
 ·exact fun _ _ _=>trivial
 ·skip;intro g a u h;obtain ⟨b10,ad11,cap11⟩:=g;obtain ⟨S,hR,hN⟩:=h;replace S:=S.h0;dsimp only at S;refine nbs msgE S [xe] (x_bs S [(0,.agg (msgE.cells xe).toArray)] uT153 iZ164) (fun x hx=>by simp only [List.mem_cons,List.not_mem_nil,or_false] at hx;rw [hx];exact (show msgE.wf _ _ xe from ⟨trivial,(S.u 0 rfl).2.1,(S.u 0 rfl).2.2⟩)) ?_;clear S;intro a u b10 S;refine ent ?_;exact ⟨S.s.defers,(b10,ad11,cap11),(fun d h=>by obtain rfl:=Option.some.inj h;exact S.s.get _ _ rfl),agz,trivial,trivial,S.m,trivial⟩
 ·skip;intro g a u h;obtain ⟨b10,ad11,cap11⟩:=g;obtain ⟨S,hR,hN⟩:=h;replace S:=S.hk (k:=0);dsimp only at S;refine ap (E:=msgE) (ys:=[xe]) S 3 rfl uT153 iZ164 rfl rfl (show LAt msgE _ _ (some ⟨b10,0,none⟩) ([xe]) from ((S.u 1 rfl)).1) ((S.u 1 rfl)).2.2 (LAt.mem (show LAt msgE _ _ (some ⟨b10,0,none⟩) ([xe]) from ((S.u 1 rfl)).1)) ⟨by unfold maxLen;(try simp only [List.length_cons,List.length_nil,List.length_append,List.length_map]);omega,by (try simp only [List.length_cons,List.length_nil,List.length_append,List.length_map]);omega⟩ ?_;clear S;intro a u ad11 cap11 S;refine ent ?_;exact ⟨S.s.defers,(b10,ad11,cap11),(fun d h=>by obtain rfl:=Option.some.inj h;exact S.s.get _ _ rfl),agz,trivial,⟨rfl,trivial⟩,S.m,trivial⟩
 ·skip;intro g a u h;obtain ⟨b10,ad11,cap11⟩:=g;obtain ⟨S,hR,hN⟩:=h;replace S:=S.hk (k:=1);dsimp only at S;refine ens S (la (stk 1 rfl rfl rfl)) ?_;clear S;intro a u S;exact ⟨S.s.defers,(b10,ad11,cap11),(fun d h=>by cases h),agz,trivial,⟨rfl,rfl,trivial⟩,S.m,trivial⟩
 clear S;intro g a u hA S hR;obtain ⟨b10,ad11,cap11⟩:=g;replace S:=(S.hk (k:=2)).l [(0,pT sn_b 8),(1,.agg (msgE.cells xe).toArray),(3,pT b3 0),(4,pT sn_b 8),(5,pT sn_b 8),(6,pT sn_b 8),(7,pT sn_b (8 + 0)),(8,sV sn.msgs),(9,.agg (msgE.cells xe).toArray),(10,.slice (some ⟨b10,0,none⟩) 1 1),(11,.slice ad11 ((sn.msgs.xs ++ [xe]).length) cap11),(12,pT sn_b 8),(13,pT sn_b (8 + 0))] (subM rfl);dsimp only at S;refine nn ?_;have hk2 : staK (⟨sn.up,sn.quar,sn.run,sn.sav,sn.seq,sn.inc,sn.vol,sn.cmds,(Sl.mk ad11 cap11 (sn.msgs.xs ++ [xe]))⟩ : Sta):=⟨sn_k.1,sn_k.2.1,sn_k.2.2.1,sn_k.2.2.2⟩;replace S:=S.clsN 1 (staF sn_b (⟨sn.up,sn.quar,sn.run,sn.sav,sn.seq,sn.inc,sn.vol,sn.cmds,(Sl.mk ad11 cap11 (sn.msgs.xs ++ [xe]))⟩ : Sta));refine end0 rfl S.s ?_;replace S:=S.pkc [1];refine ⟨(⟨sn.up,sn.quar,sn.run,sn.sav,sn.seq,sn.inc,sn.vol,(Sl.mk sn.cmds.a sn.cmds.c sn.cmds.xs),(Sl.mk ad11 cap11 (sn.msgs.xs ++ [xe]))⟩ : Sta),rfl,hk2,(S.m.o _ (nth_mem (i:=0) rfl)),?_,S.m.c⟩
 first | assumption | trivial | rfl
theorem sCloneM (w : World) (F : Nat → Prop) (hF : Old F w) (M : MS [] w) (x : Sl Msg) (x_w : (slE msgE).wf (Fr F []) w.heap x) (hb : x.xs.length ≤ 100000000) :
 Calls Try.prog 101 #[sV x] w fun e w'=>∃ (ra : Option Addr) (rc : Nat),e = .returned (.slice ra x.xs.length rc) ∧ Row msgE 164 w.heap.size F [abk ra] w' ra rc x.xs ∧ Tr [] w [abk ra] w':=by
 have : x.xs.length ≤ 9223372036854775807:=(x_w).1.len;refine go Try.func101 rfl 8 rfl [wfF (slE msgE) x] [] hF M ⟨x_w,trivial⟩ trivial ?_;intro a S;have hD : ∀ k,In ([] : List BS) k → ¬ F k:=fun _ h=>h.elim;refine rs S (la (av rfl)) ?_;clear S;intro a u S;refine wp_seq ?_;refine rs S (tr (mv rfl)<|la (ov fun S=>x_sleql uT153 (S.e rfl) (S.e rfl))) ?_;clear S;intro a u S;refine cd S rfl ?_ ?_
 ·intro hc0;refine rs S (la (av rfl)) ?_;clear S;intro a u S;refine wp_ret (then_r ?_);replace S:=S.nr msgE 164;refine ret1 rfl S.s rfl ?_;have hx4 : x.xs = []:=by
   exact (S.u 0 rfl).1.nil_xs hc0
  rw [hx4];refine ⟨none,0,rfl,(S.row 0 rfl),S.m.c⟩
 intro hc1;refine wp_skip (then_n (rs0 ?_));refine nbr (q:=0) msgE S [] (x_bsl0 uT153 iZ164) (fun _ h=>by simp at h) ?_;clear S;intro a u b5 S;refine sp S (la (mv rfl)) ?_;clear S;intro a u S;refine ap (E:=msgE) (ys:=x.xs) S 0 rfl uT153 iZ164 rfl rfl ((S.u 0 rfl)).1 ((S.u 0 rfl)).2.2 (LAt.mem ((S.u 0 rfl)).1) ⟨by unfold maxLen;(try simp only [List.length_cons,List.length_nil,List.length_append,List.length_map]);omega,by (try simp only [List.length_cons,List.length_nil,List.length_append,List.length_map]);omega⟩ ?_;clear S;intro a u ad7 cap7 S;refine ens S (la (av rfl)) ?_;clear S;intro a u S;refine wp_ret ?_;refine ret1 rfl S.s rfl ?_;have hx6 : x.xs = ([] ++ x.xs):=by
  first | rfl | simp
 rw [hx6];refine ⟨ad7,cap7,rfl,(S.row 0 rfl),S.m.c⟩
theorem qTakeM (w : World) (F : Nat → Prop) (hF : Old F w) (sn_b : Nat) (sn : Sta) (M : MS [In (ow (staF sn_b sn))] w) (hD : ∀ k, In [In (ow (staF sn_b sn))] k → ¬ F k) (sn_k : staK sn) (sn_K : (bnO (staF sn_b sn)).p F (In [In (ow (staF sn_b sn))]) w) (hb : 0 < sn.msgs.xs.length ∧ sn.msgs.xs.length ≤ 10000000) :
 Calls Try.prog 115 #[pT sn_b 8] w fun e w'=>∃ (r : Msg) (sn_1 : Sta),e = .returned (.agg (msgE.cells r).toArray) ∧ msgE.wf (Fr F [In (ow (staF sn_b sn_1))]) w'.heap r ∧ r = sn.msgs.xs.getD 0 msgE.dflt ∧ staK sn_1 ∧ (bnO (staF sn_b sn_1)).p F (In [In (ow (staF sn_b sn_1))]) w' ∧ (psOf sn_1 = {psOf sn with msg:=sn.msgs.xs.drop 1}) ∧ Tr [In (ow (staF sn_b sn))] w [In (ow (staF sn_b sn_1))] w':=by
 obtain ⟨hb1,hb2⟩:=hb;refine go Try.func115 rfl 20 rfl [] [bnO (staF sn_b sn)] hF M trivial ⟨sn_K,trivial⟩ ?_;intro a S;refine rs0 ?_;refine nbp S (x_allocz _ iZ164 rfl) ?_;clear S;intro a u b2 S;refine ent (rs0 ?_);refine sp S (tr (mv rfl)<|la (ov fun S=>x_nilck (S.e rfl))) ?_;clear S;intro a u S;replace S:=S.pkc [1,0];replace S:=S.opnN 1 [blO sn_b [bD (sn.up = true),bD (sn.quar = true),iI sn.run,iI sn.sav,iI sn.seq,iI sn.inc,bD (sn.vol = true),sV sn.cmds,sV sn.msgs] 157,rwO cmdE 161 0 sn.cmds.a sn.cmds.c sn.cmds.xs,rwO msgE 164 0 sn.msgs.a sn.msgs.c sn.msgs.xs];have : sn.cmds.xs.length ≤ 9223372036854775807:=(S.row 2 rfl).len_le;have : sn.msgs.xs.length ≤ 9223372036854775807:=(S.row 3 rfl).len_le;obtain ⟨_,_⟩ : inI64 sn.run:=sn_k.1;obtain ⟨_,_⟩ : inI64 sn.sav:=sn_k.2.1;obtain ⟨_,_⟩ : inI64 sn.seq:=sn_k.2.2.1;obtain ⟨_,_⟩ : inI64 sn.inc:=sn_k.2.2.2;obtain ⟨hl3,hu3⟩ : inI64 ((sn.msgs.xs.getD 0 msgE.dflt).inc):=id (((S.row 3 rfl).wfi 0 bo).2.1);obtain ⟨hl4,hu4⟩ : inI64 ((sn.msgs.xs.getD 0 msgE.dflt).seq):=id (((S.row 3 rfl).wfi 0 bo).2.2);refine sp S (tr (fldi 8 0 rfl uT155)<|tr (ldk 1 sC153 rfl rfl rfl)<|tr (ov fun S=>x_idx uT153 sZ164 (S.e rfl) (S.e rfl) 0 rfl bo (row_off (S.row 3 rfl) (m:=0) bo))<|la (ov fun S=>x_ldw (S.e rfl) (((S.row 3 rfl).latz nz).wcell 0 bo _ rfl _ rfl) wD164)) ?_;clear S;intro a u S;obtain ⟨hd,hhd⟩ : ∃ z : Msg,z = (sn.msgs.xs.getD 0 msgE.dflt):=⟨_,rfl⟩;replace S:=S.ar (wfF msgE hd) (by rw [hhd];exact (S.row 3 rfl).wf _ (getD_mem (d:=msgE.dflt) (i:=0) bo));rw [← hhd] at S;refine nbp S (x_allocz _ iZ164 rfl) ?_;clear S;intro a u b3 S;refine ens S (la (stkw 4 rfl rfl rfl)) ?_;clear S;intro a u S;refine rs0 ?_;refine sp S (tr (mv rfl)<|tr (mv rfl)<|tr (ov fun S=>x_nilck (S.e rfl))<|tr (fldi 8 0 rfl uT155)<|la (ldk 1 sC153 rfl rfl rfl)) ?_;clear S;intro a u S;replace S:=S.fzD hD 3 rfl (by show 0 < msgE.n;decide);have hk6 : (slFrom msgE (Sl.mk sn.msgs.a sn.msgs.c sn.msgs.xs) 1).xs.length = sn.msgs.xs.length - 1:=List.length_drop;refine sp S (la (ov (v:=sV (slFrom msgE (Sl.mk sn.msgs.a sn.msgs.c sn.msgs.xs) 1)) fun S=>x_slfrom msgE (s:=(Sl.mk sn.msgs.a sn.msgs.c sn.msgs.xs)) uT153 iZ164 (S.e rfl) (S.e rfl) 1 rfl (by dsimp only;omega))) ?_;clear S;intro a u S;refine cl S (sCloneM _ _ S.x (.nil _) (slFrom msgE (Sl.mk sn.msgs.a sn.msgs.c sn.msgs.xs) 1) (dn0 (sl_from (E:=msgE) (S.u 1 rfl) 1 (by dsimp only;omega))) (by first | omega | (dsimp only;omega) | (simp only [List.length_drop];omega) | (dsimp only;simp only [List.length_drop];omega))) cB101 ?_;rintro e u ⟨ra_t16,rc_t16,rfl,R_t16,T0⟩;refine ⟨_,rfl,fun a s=>?_⟩;replace S:=(S.kr [⟨_,msgE,164,ra_t16,rc_t16,(slFrom msgE (Sl.mk sn.msgs.a sn.msgs.c sn.msgs.xs) 1).xs⟩] s T0 ⟨R_t16,trivial⟩).sh;clear s T0 R_t16;refine ens S (tr (ov fun S=>x_nilck (S.e rfl))<|tr (fldi 8 0 rfl uT155)<|la (stk 1 rfl rfl rfl)) ?_;clear S;intro a u S;refine rs S (tr (ldkw 4 rfl rfl wD164)<|la (stkw 0 rfl rfl rfl)) ?_;clear S;intro a u S;refine wp_ret ?_;replace S:=(S.b0 5 rfl).sh;replace S:=S.pkc [0,4,1,2,5];have hk8 : staK (⟨sn.up,sn.quar,sn.run,sn.sav,sn.seq,sn.inc,sn.vol,sn.cmds,(Sl.mk ra_t16 rc_t16 ((slFrom msgE sn.msgs 1).xs))⟩ : Sta):=⟨sn_k.1,sn_k.2.1,sn_k.2.2.1,sn_k.2.2.2⟩;replace S:=S.clsN 2 (staF sn_b (⟨sn.up,sn.quar,sn.run,sn.sav,sn.seq,sn.inc,sn.vol,sn.cmds,(Sl.mk ra_t16 rc_t16 ((slFrom msgE sn.msgs 1).xs))⟩ : Sta));refine retcw rfl S.s rfl [bD (hd.hello = true),iI hd.inc,iI hd.seq] wD164 (fun j v hv=>by rw [Nat.zero_add];exact (S.k 0 rfl).cell hv) ?_;replace S:=S.pkc [2];refine ⟨hd,(⟨sn.up,sn.quar,sn.run,sn.sav,sn.seq,sn.inc,sn.vol,(Sl.mk sn.cmds.a sn.cmds.c sn.cmds.xs),(Sl.mk ra_t16 rc_t16 ((slFrom msgE (Sl.mk sn.msgs.a sn.msgs.c sn.msgs.xs) 1).xs))⟩ : Sta),rfl,(S.u 0 rfl),?_,hk8,(S.m.o _ (nth_mem (i:=0) rfl)),?_,S.m.c⟩
 ·exact hhd
 rfl
open Go.RowKit Go.Proofs.Ytobggnpnochnnaa
theorem sHello (w : World) (F : Nat → Prop) (hF : Old F w) (sn_b : Nat) (sn : Sta) (M : MS [In (ow (staF sn_b sn))] w) (hD : ∀ k, In [In (ow (staF sn_b sn))] k → ¬ F k) (sn_k : staK sn) (sn_K : (bnO (staF sn_b sn)).p F (In [In (ow (staF sn_b sn))]) w) (hb : sn.msgs.xs.length ≤ 9000000) :
 Calls Try.prog 113 #[pT sn_b 0] w fun e w'=>∃ (sn_1 : Sta),e = .returned (.tuple #[]) ∧ staK sn_1 ∧ (bnO (staF sn_b sn_1)).p F (In [In (ow (staF sn_b sn_1))]) w' ∧ (psOf sn_1 = helloT (psOf sn)) ∧ Tr [In (ow (staF sn_b sn))] w [In (ow (staF sn_b sn_1))] w':=by
 refine go Try.func113 rfl 12 rfl [] [bnO (staF sn_b sn)] hF M trivial ⟨sn_K,trivial⟩ ?_;intro a S;replace S:=S.opnN 0 [blO sn_b [bD (sn.up = true),bD (sn.quar = true),iI sn.run,iI sn.sav,iI sn.seq,iI sn.inc,bD (sn.vol = true),sV sn.cmds,sV sn.msgs] 157,rwO cmdE 161 0 sn.cmds.a sn.cmds.c sn.cmds.xs,rwO msgE 164 0 sn.msgs.a sn.msgs.c sn.msgs.xs];have : sn.cmds.xs.length ≤ 9223372036854775807:=(S.row 1 rfl).len_le;have : sn.msgs.xs.length ≤ 9223372036854775807:=(S.row 2 rfl).len_le;obtain ⟨_,_⟩ : inI64 sn.run:=sn_k.1;obtain ⟨_,_⟩ : inI64 sn.sav:=sn_k.2.1;obtain ⟨_,_⟩ : inI64 sn.seq:=sn_k.2.2.1;obtain ⟨_,_⟩ : inI64 sn.inc:=sn_k.2.2.2;refine dr (P:=Try.prog) S 9 [] [(2,.is _),(3,.is _),(4,.is _),(5,.is _),(6,.is _),(7,.is _),(8,.is _),(9,.is _),(10,.is _)] [[],[2],[3],[],[5],[6],[7],[8],[9]] [4,10] _ ⟨qd (mv rfl),qd (ov fun S=>x_nilck (S.e rfl)),qd (fldi 0 8 rfl uT157),qd (mv rfl),qd (ov fun S=>x_nilck (S.e rfl)),qd (fldi 0 0 rfl uT157),qd (fldi (0 + 0) 5 rfl uT101),qd (ldk 0 sC3 rfl rfl rfl),qd (ov fun S=>x_bd S [(0,.bool true),(1,iI sn.inc)] [.bool true,iI sn.inc,iI 0]),trivial⟩ ?_;clear S;intro a u S G hE;obtain ⟨hl1,hu1⟩ : inI64 sn.inc:=id sn_k.2.2.2;have hk2 : staK (⟨sn.up,sn.quar,sn.run,sn.sav,sn.seq,sn.inc,sn.vol,sn.cmds,sn.msgs⟩ : Sta):=⟨sn_k.1,sn_k.2.1,sn_k.2.2.1,sn_k.2.2.2⟩;replace S:=S.clsN 0 (staF sn_b (⟨sn.up,sn.quar,sn.run,sn.sav,sn.seq,sn.inc,sn.vol,sn.cmds,sn.msgs⟩ : Sta));obtain ⟨y3,hy3⟩ : ∃ y : Sta,(⟨sn.up,sn.quar,sn.run,sn.sav,sn.seq,sn.inc,sn.vol,sn.cmds,sn.msgs⟩ : Sta) = y:=⟨_,rfl⟩;rw [hy3] at S hk2;replace S:=S.spl 0;refine cl S (qPutM _ _ S.xxF sn_b y3 S.mF (S.nfF hD) hk2 (S.dF   0 rfl (mo_bn (mo_sta _ _))) (⟨true,sn.inc,0⟩ : Msg) ⟨trivial,sn_k.2.2.2,(show inI64 0 from ⟨by omega,by omega⟩)⟩ (by subst hy3;exact (by first | omega | (dsimp only;omega) | assumption))) cB114 ?_;rintro e u ⟨sn_t11,rfl,hk_sn_t11,hK_sn_t11,hq_sn_t11,T0⟩;refine ⟨_,rfl,fun a s=>?_⟩;have S2:=S.kF   [bnO (staF sn_b sn_t11)] s T0 ⟨hK_sn_t11,trivial⟩ ⟨(mo_bn (mo_sta _ _)),trivial⟩;replace S2:=S2.sh;clear S;have S:=S2;clear S2 s T0 hK_sn_t11;subst hy3;refine nn ?_;refine end0 rfl S.s ?_;refine ⟨sn_t11,rfl,hk_sn_t11,(S.m.o _ (nth_mem (i:=0) rfl)),?_,S.m.c⟩;exact hq_sn_t11
theorem sAck (w : World) (F : Nat → Prop) (hF : Old F w) (sn_b : Nat) (sn : Sta) (M : MS [In (ow (staF sn_b sn))] w) (hD : ∀ k, In [In (ow (staF sn_b sn))] k → ¬ F k) (sn_k : staK sn) (sn_K : (bnO (staF sn_b sn)).p F (In [In (ow (staF sn_b sn))]) w) (hb : sn.msgs.xs.length ≤ 9000000) :
 Calls Try.prog 81 #[pT sn_b 0] w fun e w'=>∃ (sn_1 : Sta),e = .returned (.tuple #[]) ∧ staK sn_1 ∧ (bnO (staF sn_b sn_1)).p F (In [In (ow (staF sn_b sn_1))]) w' ∧ (psOf sn_1 = saveT (psOf sn)) ∧ Tr [In (ow (staF sn_b sn))] w [In (ow (staF sn_b sn_1))] w':=by
 refine go Try.func81 rfl 26 rfl [] [bnO (staF sn_b sn)] hF M trivial ⟨sn_K,trivial⟩ ?_;intro a S;refine rs0 ?_;refine sp S (tr (mv rfl)<|tr (mv rfl)<|la (ov fun S=>x_nilck (S.e rfl))) ?_;clear S;intro a u S;replace S:=S.opnN 0 [blO sn_b [bD (sn.up = true),bD (sn.quar = true),iI sn.run,iI sn.sav,iI sn.seq,iI sn.inc,bD (sn.vol = true),sV sn.cmds,sV sn.msgs] 157,rwO cmdE 161 0 sn.cmds.a sn.cmds.c sn.cmds.xs,rwO msgE 164 0 sn.msgs.a sn.msgs.c sn.msgs.xs];have : sn.cmds.xs.length ≤ 9223372036854775807:=(S.row 1 rfl).len_le;have : sn.msgs.xs.length ≤ 9223372036854775807:=(S.row 2 rfl).len_le;obtain ⟨_,_⟩ : inI64 sn.run:=sn_k.1;obtain ⟨_,_⟩ : inI64 sn.sav:=sn_k.2.1;obtain ⟨_,_⟩ : inI64 sn.seq:=sn_k.2.2.1;obtain ⟨_,_⟩ : inI64 sn.inc:=sn_k.2.2.2;refine ens S (tr (fldi 0 0 rfl uT157)<|tr (fldi (0 + 0) 2 rfl uT101)<|tr (ldk 0 sC3 rfl rfl rfl)<|tr (ov fun S=>x_nilck (S.e rfl))<|tr (fldi 0 0 rfl uT157)<|tr (fldi (0 + 0) 3 rfl uT101)<|la (stk 0 rfl rfl rfl)) ?_;clear S;intro a u S;refine dr (P:=Try.prog) S 14 [] [(11,.is _),(12,.is _),(13,.is _),(14,.is _),(15,.is _),(16,.is _),(17,.is _),(18,.is _),(19,.is _),(20,.is _),(21,.is _),(22,.is _),(23,.is _),(24,.is _)] [[],[11],[12],[],[14],[15],[16],[17],[],[19],[20],[21],[22],[18,23]] [13,24] _ ⟨qd (mv rfl),qd (ov fun S=>x_nilck (S.e rfl)),qd (fldi 0 8 rfl uT157),qd (mv rfl),qd (ov fun S=>x_nilck (S.e rfl)),qd (fldi 0 0 rfl uT157),qd (fldi (0 + 0) 5 rfl uT101),qd (ldk 0 sC3 rfl rfl rfl),qd (mv rfl),qd (ov fun S=>x_nilck (S.e rfl)),qd (fldi 0 0 rfl uT157),qd (fldi (0 + 0) 4 rfl uT101),qd (ldk 0 sC3 rfl rfl rfl),qd (ov fun S=>x_bd S [(1,iI sn.inc),(2,iI sn.seq)] [.bool false,iI sn.inc,iI sn.seq]),trivial⟩ ?_;clear S;intro a u S G hE;obtain ⟨hl2,hu2⟩ : inI64 sn.inc:=id sn_k.2.2.2;obtain ⟨hl3,hu3⟩ : inI64 sn.seq:=id sn_k.2.2.1;have hk4 : staK (⟨sn.up,sn.quar,sn.run,sn.run,sn.seq,sn.inc,sn.vol,sn.cmds,sn.msgs⟩ : Sta):=⟨sn_k.1,sn_k.1,sn_k.2.2.1,sn_k.2.2.2⟩;replace S:=S.clsN 0 (staF sn_b (⟨sn.up,sn.quar,sn.run,sn.run,sn.seq,sn.inc,sn.vol,sn.cmds,sn.msgs⟩ : Sta));obtain ⟨y5,hy5⟩ : ∃ y : Sta,(⟨sn.up,sn.quar,sn.run,sn.run,sn.seq,sn.inc,sn.vol,sn.cmds,sn.msgs⟩ : Sta) = y:=⟨_,rfl⟩;rw [hy5] at S hk4;replace S:=S.spl 0;refine cl S (qPutM _ _ S.xxF sn_b y5 S.mF (S.nfF hD) hk4 (S.dF   0 rfl (mo_bn (mo_sta _ _))) (⟨false,sn.inc,sn.seq⟩ : Msg) ⟨trivial,sn_k.2.2.2,sn_k.2.2.1⟩ (by subst hy5;exact (by first | omega | (dsimp only;omega) | assumption))) cB114 ?_;rintro e u ⟨sn_t25,rfl,hk_sn_t25,hK_sn_t25,hq_sn_t25,T0⟩;refine ⟨_,rfl,fun a s=>?_⟩;have S2:=S.kF   [bnO (staF sn_b sn_t25)] s T0 ⟨hK_sn_t25,trivial⟩ ⟨(mo_bn (mo_sta _ _)),trivial⟩;replace S2:=S2.sh;clear S;have S:=S2;clear S2 s T0 hK_sn_t25;subst hy5;refine nn ?_;refine end0 rfl S.s ?_;refine ⟨sn_t25,rfl,hk_sn_t25,(S.m.o _ (nth_mem (i:=0) rfl)),?_,S.m.c⟩;exact hq_sn_t25
theorem sDown (w : World) (F : Nat → Prop) (hF : Old F w) (sn_b : Nat) (sn : Sta) (M : MS [In (ow (staF sn_b sn))] w) (hD : ∀ k, In [In (ow (staF sn_b sn))] k → ¬ F k) (sn_k : staK sn) (sn_K : (bnO (staF sn_b sn)).p F (In [In (ow (staF sn_b sn))]) w) :
 Calls Try.prog 83 #[pT sn_b 0] w fun e w'=>∃ (sn_1 : Sta),e = .returned (.tuple #[]) ∧ staK sn_1 ∧ (bnO (staF sn_b sn_1)).p F (In [In (ow (staF sn_b sn_1))]) w' ∧ (psOf sn_1 = downT (psOf sn)) ∧ Tr [In (ow (staF sn_b sn))] w [In (ow (staF sn_b sn_1))] w':=by
 refine go Try.func83 rfl 10 rfl [] [bnO (staF sn_b sn)] hF M trivial ⟨sn_K,trivial⟩ ?_;intro a S;refine rs0 ?_;refine sp S (tr (mv rfl)<|la (ov fun S=>x_nilck (S.e rfl))) ?_;clear S;intro a u S;replace S:=S.opnN 0 [blO sn_b [bD (sn.up = true),bD (sn.quar = true),iI sn.run,iI sn.sav,iI sn.seq,iI sn.inc,bD (sn.vol = true),sV sn.cmds,sV sn.msgs] 157,rwO cmdE 161 0 sn.cmds.a sn.cmds.c sn.cmds.xs,rwO msgE 164 0 sn.msgs.a sn.msgs.c sn.msgs.xs];have : sn.cmds.xs.length ≤ 9223372036854775807:=(S.row 1 rfl).len_le;have : sn.msgs.xs.length ≤ 9223372036854775807:=(S.row 2 rfl).len_le;obtain ⟨_,_⟩ : inI64 sn.run:=sn_k.1;obtain ⟨_,_⟩ : inI64 sn.sav:=sn_k.2.1;obtain ⟨_,_⟩ : inI64 sn.seq:=sn_k.2.2.1;obtain ⟨_,_⟩ : inI64 sn.inc:=sn_k.2.2.2;refine ens S (tr (fldi 0 0 rfl uT157)<|tr (fldi (0 + 0) 0 rfl uT101)<|la (stk 0 rfl rfl rfl)) ?_;clear S;intro a u S;refine rg S (tr (mv rfl)<|tr (ov fun S=>x_bd S [] [.slice none 0 0])<|tr (ov fun S=>x_nilck (S.e rfl))<|tr (fldi 0 7 rfl uT157)<|la (stkp 0 [.bool false,bD (sn.quar = true),iI sn.run,iI sn.sav,iI sn.seq,iI sn.inc,bD (sn.vol = true),.slice none 0 0,sV sn.msgs] rfl rfl rfl)) ?_;clear S;intro a u S;replace S:=S.nr cmdE 161;replace S:=(S.b0 3 rfl).sh;replace S:=S.pkc [1,0,3,2];have hk3 : staK (⟨false,sn.quar,sn.run,sn.sav,sn.seq,sn.inc,sn.vol,(Sl.mk none 0 ([])),sn.msgs⟩ : Sta):=⟨sn_k.1,sn_k.2.1,sn_k.2.2.1,sn_k.2.2.2⟩;replace S:=S.clsN 1 (staF sn_b (⟨false,sn.quar,sn.run,sn.sav,sn.seq,sn.inc,sn.vol,(Sl.mk none 0 ([])),sn.msgs⟩ : Sta));refine end0 rfl S.s ?_;replace S:=S.pkc [1];refine ⟨(⟨false,sn.quar,sn.run,sn.sav,sn.seq,sn.inc,sn.vol,(Sl.mk none 0 ([])),(Sl.mk sn.msgs.a sn.msgs.c sn.msgs.xs)⟩ : Sta),rfl,hk3,(S.m.o _ (nth_mem (i:=0) rfl)),?_,S.m.c⟩
 rfl
theorem sUp (w : World) (F : Nat → Prop) (hF : Old F w) (sn_b : Nat) (sn : Sta) (M : MS [In (ow (staF sn_b sn))] w) (hD : ∀ k, In [In (ow (staF sn_b sn))] k → ¬ F k) (sn_k : staK sn) (sn_K : (bnO (staF sn_b sn)).p F (In [In (ow (staF sn_b sn))]) w) (hb : sn.msgs.xs.length ≤ 8000000 ∧ sn.inc ≤ 8000000) :
 Calls Try.prog 84 #[pT sn_b 0] w fun e w'=>∃ (sn_1 : Sta),e = .returned (.tuple #[]) ∧ staK sn_1 ∧ (bnO (staF sn_b sn_1)).p F (In [In (ow (staF sn_b sn_1))]) w' ∧ (psOf sn_1 = upT (psOf sn)) ∧ Tr [In (ow (staF sn_b sn))] w [In (ow (staF sn_b sn_1))] w':=by
 obtain ⟨hb1,hb2⟩:=hb;refine go Try.func84 rfl 31 rfl [] [bnO (staF sn_b sn)] hF M trivial ⟨sn_K,trivial⟩ ?_;intro a S;refine rs0 ?_;refine sp S (tr (mv rfl)<|la (ov fun S=>x_nilck (S.e rfl))) ?_;clear S;intro a u S;replace S:=S.opnN 0 [blO sn_b [bD (sn.up = true),bD (sn.quar = true),iI sn.run,iI sn.sav,iI sn.seq,iI sn.inc,bD (sn.vol = true),sV sn.cmds,sV sn.msgs] 157,rwO cmdE 161 0 sn.cmds.a sn.cmds.c sn.cmds.xs,rwO msgE 164 0 sn.msgs.a sn.msgs.c sn.msgs.xs];have : sn.cmds.xs.length ≤ 9223372036854775807:=(S.row 1 rfl).len_le;have : sn.msgs.xs.length ≤ 9223372036854775807:=(S.row 2 rfl).len_le;obtain ⟨_,_⟩ : inI64 sn.run:=sn_k.1;obtain ⟨_,_⟩ : inI64 sn.sav:=sn_k.2.1;obtain ⟨_,_⟩ : inI64 sn.seq:=sn_k.2.2.1;obtain ⟨_,_⟩ : inI64 sn.inc:=sn_k.2.2.2;refine ens S (tr (fldi 0 0 rfl uT157)<|la (av rfl)) ?_;clear S;intro a u S;refine rs S (tr (mv rfl)<|tr (mv rfl)<|tr (ov fun S=>x_nilck (S.e rfl))<|tr (fldi (0 + 0) 0 rfl uT101)<|tr (stk 0 rfl rfl rfl)<|tr (ov fun S=>x_nilck (S.e rfl))<|tr (fldi (0 + 0) 1 rfl uT101)<|la (stk 0 rfl rfl rfl)) ?_;clear S;intro a u S;refine rs S (tr (mv rfl)<|tr (ov fun S=>x_nilck (S.e rfl))<|tr (fldi (0 + 0) 5 rfl uT101)<|tr (ldk 0 sC3 rfl rfl rfl)<|tr (addi (sn.inc + 1) rfl rfl (w_i64 bo))<|tr (ov fun S=>x_nilck (S.e rfl))<|tr (fldi (0 + 0) 5 rfl uT101)<|la (stk 0 rfl rfl rfl)) ?_;clear S;intro a u S;refine rs S (tr (mv rfl)<|tr (mv rfl)<|tr (mv rfl)<|tr (ov fun S=>x_nilck (S.e rfl))<|tr (fldi (0 + 0) 3 rfl uT101)<|tr (ldk 0 sC3 rfl rfl rfl)<|tr (ov fun S=>x_nilck (S.e rfl))<|tr (fldi (0 + 0) 2 rfl uT101)<|tr (stk 0 rfl rfl rfl)<|tr (ov fun S=>x_nilck (S.e rfl))<|tr (fldi (0 + 0) 4 rfl uT101)<|la (stk 0 rfl rfl rfl)) ?_;clear S;intro a u S;refine r0 ?_;refine sp S (la (mv rfl)) ?_;clear S;intro a u S;have hk6 : staK (⟨true,true,sn.sav,sn.sav,0,(sn.inc + 1),sn.vol,sn.cmds,sn.msgs⟩ : Sta):=⟨sn_k.2.1,sn_k.2.1,(show inI64 0 from ⟨by omega,by omega⟩),(show inI64 (sn.inc + 1) from ⟨by omega,by omega⟩)⟩;replace S:=S.clsN 0 (staF sn_b (⟨true,true,sn.sav,sn.sav,0,(sn.inc + 1),sn.vol,sn.cmds,sn.msgs⟩ : Sta));obtain ⟨y7,hy7⟩ : ∃ y : Sta,(⟨true,true,sn.sav,sn.sav,0,(sn.inc + 1),sn.vol,sn.cmds,sn.msgs⟩ : Sta) = y:=⟨_,rfl⟩;rw [hy7] at S hk6;replace S:=S.spl 0;refine cl S (sHello _ _ S.xxF sn_b y7 S.mF (S.nfF hD) hk6 (S.dF   0 rfl (mo_bn (mo_sta _ _))) (by subst hy7;exact (by first | omega | (dsimp only;omega) | assumption))) cB113 ?_;rintro e u ⟨sn_t30,rfl,hk_sn_t30,hK_sn_t30,hq_sn_t30,T0⟩;refine ⟨_,rfl,fun a s=>?_⟩;have S2:=S.kF   [bnO (staF sn_b sn_t30)] s T0 ⟨hK_sn_t30,trivial⟩ ⟨(mo_bn (mo_sta _ _)),trivial⟩;replace S2:=S2.sh;clear S;have S:=S2;clear S2 s T0 hK_sn_t30;subst hy7;refine nn ?_;refine end0 rfl S.s ?_;refine ⟨sn_t30,rfl,hk_sn_t30,(S.m.o _ (nth_mem (i:=0) rfl)),?_,S.m.c⟩;exact hq_sn_t30
theorem sDeliver (w : World) (F : Nat → Prop) (hF : Old F w) (sn_b : Nat) (sn : Sta) (M : MS [In (ow (staF sn_b sn))] w) (hD : ∀ k, In [In (ow (staF sn_b sn))] k → ¬ F k) (sn_k : staK sn) (sn_K : (bnO (staF sn_b sn)).p F (In [In (ow (staF sn_b sn))]) w) (hb : sn.msgs.xs.length ≤ 8000000 ∧ 0 < sn.cmds.xs.length ∧ sn.cmds.xs.length ≤ 8000000) :
 Calls Try.prog 80 #[pT sn_b 0] w fun e w'=>∃ (sn_1 : Sta),e = .returned (.tuple #[]) ∧ staK sn_1 ∧ (bnO (staF sn_b sn_1)).p F (In [In (ow (staF sn_b sn_1))]) w' ∧ (psOf sn_1 = deliverT (psOf sn)) ∧ Tr [In (ow (staF sn_b sn))] w [In (ow (staF sn_b sn_1))] w':=by
 obtain ⟨hb1,hb2,hb3⟩:=hb;refine go Try.func80 rfl 56 rfl [] [bnO (staF sn_b sn)] hF M trivial ⟨sn_K,trivial⟩ ?_;intro a S;refine rs0 ?_;refine sp S (tr (mv rfl)<|la (ov fun S=>x_nilck (S.e rfl))) ?_;clear S;intro a u S;replace S:=S.opnN 0 [blO sn_b [bD (sn.up = true),bD (sn.quar = true),iI sn.run,iI sn.sav,iI sn.seq,iI sn.inc,bD (sn.vol = true),sV sn.cmds,sV sn.msgs] 157,rwO cmdE 161 0 sn.cmds.a sn.cmds.c sn.cmds.xs,rwO msgE 164 0 sn.msgs.a sn.msgs.c sn.msgs.xs];have : sn.cmds.xs.length ≤ 9223372036854775807:=(S.row 1 rfl).len_le;have : sn.msgs.xs.length ≤ 9223372036854775807:=(S.row 2 rfl).len_le;obtain ⟨_,_⟩ : inI64 sn.run:=sn_k.1;obtain ⟨_,_⟩ : inI64 sn.sav:=sn_k.2.1;obtain ⟨_,_⟩ : inI64 sn.seq:=sn_k.2.2.1;obtain ⟨_,_⟩ : inI64 sn.inc:=sn_k.2.2.2;refine sp S (la (fldi 0 7 rfl uT157)) ?_;clear S;intro a u S;have hk2 : staK (⟨sn.up,sn.quar,sn.run,sn.sav,sn.seq,sn.inc,sn.vol,sn.cmds,sn.msgs⟩ : Sta):=⟨sn_k.1,sn_k.2.1,sn_k.2.2.1,sn_k.2.2.2⟩;replace S:=S.clsN 0 (staF sn_b (⟨sn.up,sn.quar,sn.run,sn.sav,sn.seq,sn.inc,sn.vol,sn.cmds,sn.msgs⟩ : Sta));obtain ⟨y3,hy3⟩ : ∃ y : Sta,(⟨sn.up,sn.quar,sn.run,sn.sav,sn.seq,sn.inc,sn.vol,sn.cmds,sn.msgs⟩ : Sta) = y:=⟨_,rfl⟩;rw [hy3] at S hk2;replace S:=S.spl 0;refine cl S (qTakeC _ _ S.xxF sn_b y3 S.mF (S.nfF hD) hk2 (S.dF   0 rfl (mo_bn (mo_sta _ _))) (by subst hy3;exact (⟨by first | omega | (dsimp only;omega) | assumption,by first | omega | (dsimp only;omega) | assumption⟩))) cB112 ?_;rintro e u ⟨r_t7,sn_t7,rfl,R_t7,hr_t7,hk_sn_t7,hK_sn_t7,hq_sn_t7,T0⟩;refine ⟨_,rfl,fun a s=>?_⟩;have S2:=S.kF   [bnO (staF sn_b sn_t7)] s T0 ⟨hK_sn_t7,trivial⟩ ⟨(mo_bn (mo_sta _ _)),trivial⟩;replace S2:=S2.ar (wfF cmdE r_t7) (S.upF   (fs':=[bnO (staF sn_b sn_t7)]) R_t7);replace S2:=S2.sh;clear S;have S:=S2;clear S2 s T0 hK_sn_t7 R_t7;subst hy3;have hq0:=hq_sn_t7;simp only [psOf,PS.mk.injEq,Agt.mk.injEq] at hq0;obtain ⟨⟨h1,h2,h3,h4,h5,h6⟩,h7,h8,h9⟩:=hq0;have hml:=congrArg List.length h9;have hrv : headT (psOf sn) = r_t7:=hr_t7.symm;obtain ⟨hl4,hu4⟩ : inI64 r_t7.inc:=id ((S.u 0 rfl).1);obtain ⟨hl5,hu5⟩ : inI64 r_t7.seq:=id ((S.u 0 rfl).2.1);obtain ⟨hl6,hu6⟩ : inI64 r_t7.ver:=id ((S.u 0 rfl).2.2);refine nbp S (x_allocz _ iZ161 rfl) ?_;clear S;intro a u b2 S;refine ens S (la (stkw 1 rfl rfl rfl)) ?_;clear S;intro a u S;refine rs0 ?_;refine sp S (tr (mv rfl)<|la (ov fun S=>x_nilck (S.e rfl))) ?_;clear S;intro a u S;replace S:=S.pkc [1,0];replace S:=S.opnN 1 [blO sn_b [bD (sn_t7.up = true),bD (sn_t7.quar = true),iI sn_t7.run,iI sn_t7.sav,iI sn_t7.seq,iI sn_t7.inc,bD (sn_t7.vol = true),sV sn_t7.cmds,sV sn_t7.msgs] 157,rwO cmdE 161 0 sn_t7.cmds.a sn_t7.cmds.c sn_t7.cmds.xs,rwO msgE 164 0 sn_t7.msgs.a sn_t7.msgs.c sn_t7.msgs.xs];have : sn_t7.cmds.xs.length ≤ 9223372036854775807:=(S.row 2 rfl).len_le;have : sn_t7.msgs.xs.length ≤ 9223372036854775807:=(S.row 3 rfl).len_le;obtain ⟨_,_⟩ : inI64 sn_t7.run:=hk_sn_t7.1;obtain ⟨_,_⟩ : inI64 sn_t7.sav:=hk_sn_t7.2.1;obtain ⟨_,_⟩ : inI64 sn_t7.seq:=hk_sn_t7.2.2.1;obtain ⟨_,_⟩ : inI64 sn_t7.inc:=hk_sn_t7.2.2.2;refine ens S (tr (fldi 0 0 rfl uT157)<|la (av rfl)) ?_;clear S;intro a u S;refine wp_block ?_;refine rs S (tr (mv rfl)<|tr (ov fun S=>x_nilck (S.e rfl))<|tr (fldi (0 + 0) 0 rfl uT101)<|tr (ldk 1 sC4 rfl rfl rfl)<|tr (noti rfl)<|la (av rfl)) ?_;clear S;intro a u S;refine cd S rfl ?_ ?_
 ·intro hc0;refine wp_skip (blk_n ?_);have hk9 : staK (⟨sn_t7.up,sn_t7.quar,sn_t7.run,sn_t7.sav,sn_t7.seq,sn_t7.inc,sn_t7.vol,sn_t7.cmds,sn_t7.msgs⟩ : Sta):=⟨hk_sn_t7.1,hk_sn_t7.2.1,hk_sn_t7.2.2.1,hk_sn_t7.2.2.2⟩;replace S:=S.clsN 1 (staF sn_b (⟨sn_t7.up,sn_t7.quar,sn_t7.run,sn_t7.sav,sn_t7.seq,sn_t7.inc,sn_t7.vol,sn_t7.cmds,sn_t7.msgs⟩ : Sta));refine end0 rfl S.s ?_;replace S:=S.pkc [1];refine ⟨(⟨sn_t7.up,sn_t7.quar,sn_t7.run,sn_t7.sav,sn_t7.seq,sn_t7.inc,sn_t7.vol,(Sl.mk sn_t7.cmds.a sn_t7.cmds.c sn_t7.cmds.xs),(Sl.mk sn_t7.msgs.a sn_t7.msgs.c sn_t7.msgs.xs)⟩ : Sta),rfl,hk9,(S.m.o _ (nth_mem (i:=0) rfl)),?_,S.m.c⟩;unfold deliverT;rw [if_pos (show ¬ (psOf sn).ag.up = true by show ¬ sn.up = true;rw [← h1];assumption)];exact hq_sn_t7
 intro hc1;refine wp_seq ?_;refine dr (P:=Try.prog) S 8 [] [(47,.is _),(48,.is _),(49,.is _),(50,.is _),(51,.is _),(52,.is _),(53,.is _),(46,.is _)] [[],[47],[],[49],[50],[51],[48,52],[53]] [46] _ ⟨qd (fldi 0 0 rfl uT161),qd (ldk 0 sC3 rfl rfl rfl),qd (mv rfl),qd (ov fun S=>x_nilck (S.e rfl)),qd (fldi (0 + 0) 5 rfl uT101),qd (ldk 1 sC3 rfl rfl rfl),qd (neqi rfl rfl),qd (av rfl),trivial⟩ ?_;clear S;intro a u S G hE;obtain ⟨hl10,hu10⟩ : inI64 sn_t7.inc:=id hk_sn_t7.2.2.2;refine ent ?_;refine cd S rfl ?_ ?_
 ·intro hc2;refine r0 ?_;refine sp S (la (mv rfl)) ?_;clear S;intro a u S;have hk12 : staK (⟨sn_t7.up,sn_t7.quar,sn_t7.run,sn_t7.sav,sn_t7.seq,sn_t7.inc,sn_t7.vol,sn_t7.cmds,sn_t7.msgs⟩ : Sta):=⟨hk_sn_t7.1,hk_sn_t7.2.1,hk_sn_t7.2.2.1,hk_sn_t7.2.2.2⟩;replace S:=S.clsN 1 (staF sn_b (⟨sn_t7.up,sn_t7.quar,sn_t7.run,sn_t7.sav,sn_t7.seq,sn_t7.inc,sn_t7.vol,sn_t7.cmds,sn_t7.msgs⟩ : Sta));obtain ⟨y13,hy13⟩ : ∃ y : Sta,(⟨sn_t7.up,sn_t7.quar,sn_t7.run,sn_t7.sav,sn_t7.seq,sn_t7.inc,sn_t7.vol,sn_t7.cmds,sn_t7.msgs⟩ : Sta) = y:=⟨_,rfl⟩;rw [hy13] at S hk12;replace S:=S.spl 1;refine cl S (sHello _ _ S.xxF sn_b y13 S.mF (S.nfF hD) hk12 (S.dF   0 rfl (mo_bn (mo_sta _ _))) (by subst hy13;exact (by first | omega | (dsimp only;omega) | assumption))) cB113 ?_;rintro e u ⟨sn_t55,rfl,hk_sn_t55,hK_sn_t55,hq_sn_t55,T0⟩;refine ⟨_,rfl,fun a s=>?_⟩;have S2:=S.kF   [bnO (staF sn_b sn_t55)] s T0 ⟨hK_sn_t55,trivial⟩ ⟨(mo_bn (mo_sta _ _)),trivial⟩;replace S2:=S2.sh;clear S;have S:=S2;clear S2 s T0 hK_sn_t55;subst hy13;refine nn (blk_n ?_);refine end0 rfl S.s ?_;replace S:=S.pkc [1];refine ⟨sn_t55,rfl,hk_sn_t55,(S.m.o _ (nth_mem (i:=0) rfl)),?_,S.m.c⟩;unfold deliverT;rw [if_neg (show ¬ ¬ (psOf sn).ag.up = true by show ¬ ¬ sn.up = true;rw [← h1];assumption),if_pos (show (headT (psOf sn)).inc ≠ (psOf sn).ag.inc by show (headT (psOf sn)).inc ≠ sn.inc;rw [hrv,← h6];assumption)];exact hq_sn_t55.trans (congrArg helloT hq_sn_t7)
 intro hc3;refine wp_seq ?_;refine drH (P:=Try.prog) (Unit) () (fun g=>[wfF cmdE r_t7]) (fun g=>[blO b2 (cmdE.cells r_t7) 161,blO sn_b [bD (sn_t7.up = true),bD (sn_t7.quar = true),iI sn_t7.run,iI sn_t7.sav,iI sn_t7.seq,iI sn_t7.inc,bD (sn_t7.vol = true),sV sn_t7.cmds,sV sn_t7.msgs] 157,rwO cmdE 161 0 sn_t7.cmds.a sn_t7.cmds.c sn_t7.cmds.xs,rwO msgE 164 0 sn_t7.msgs.a sn_t7.msgs.c sn_t7.msgs.xs]) [⟨0,11,0,0,[],[0],fun g=>pT sn_b (0 + 0),[]⟩,⟨1,12,0,1,[],[1],fun g=>pT sn_b (0 + 0),[]⟩,⟨2,13,0,2,[],[2],fun g=>pT sn_b (0 + 0),[]⟩,⟨3,14,0,0,[],[3],fun g=>pT b2 (0 + 2),[]⟩,⟨4,15,0,0,[],[4],fun g=>iI r_t7.ver,[14]⟩,⟨5,16,0,1,[],[5],fun g=>pT b2 (0 + 1),[]⟩,⟨6,17,0,1,[],[6],fun g=>iI r_t7.seq,[16]⟩,⟨7,18,0,0,[],[8,7],fun g=>pT sn_b (0 + 0),[11]⟩,⟨8,19,0,0,[],[8],fun g=>pT sn_b (0 + 0 + 2),[18]⟩,⟨10,20,1,1,[9],[11,10],fun g=>pT sn_b (0 + 0),[12]⟩,⟨11,21,1,1,[9],[11],fun g=>pT sn_b (0 + 0 + 4),[20]⟩,⟨13,22,2,2,[12],[14,13],fun g=>pT sn_b (0 + 0),[13]⟩,⟨14,23,2,2,[12],[14],fun g=>pT sn_b (0 + 0 + 1),[22]⟩] [] [⟨9,none,fun g=>undef,[19,15],fun g=>[wfF cmdE r_t7],fun g=>[blO b2 (cmdE.cells r_t7) 161,blO sn_b [bD (sn_t7.up = true),bD (sn_t7.quar = true),iI r_t7.ver,iI sn_t7.sav,iI sn_t7.seq,iI sn_t7.inc,bD (sn_t7.vol = true),sV sn_t7.cmds,sV sn_t7.msgs] 157,rwO cmdE 161 0 sn_t7.cmds.a sn_t7.cmds.c sn_t7.cmds.xs,rwO msgE 164 0 sn_t7.msgs.a sn_t7.msgs.c sn_t7.msgs.xs],fun g=>True⟩,⟨12,none,fun g=>undef,[21,17],fun g=>[wfF cmdE r_t7],fun g=>[blO b2 (cmdE.cells r_t7) 161,blO sn_b [bD (sn_t7.up = true),bD (sn_t7.quar = true),iI r_t7.ver,iI sn_t7.sav,iI r_t7.seq,iI sn_t7.inc,bD (sn_t7.vol = true),sV sn_t7.cmds,sV sn_t7.msgs] 157,rwO cmdE 161 0 sn_t7.cmds.a sn_t7.cmds.c sn_t7.cmds.xs,rwO msgE 164 0 sn_t7.msgs.a sn_t7.msgs.c sn_t7.msgs.xs],fun g=>True⟩,⟨15,none,fun g=>undef,[23],fun g=>[wfF cmdE r_t7],fun g=>[blO b2 (cmdE.cells r_t7) 161,blO sn_b [bD (sn_t7.up = true),.bool false,iI r_t7.ver,iI sn_t7.sav,iI r_t7.seq,iI sn_t7.inc,bD (sn_t7.vol = true),sV sn_t7.cmds,sV sn_t7.msgs] 157,rwO cmdE 161 0 sn_t7.cmds.a sn_t7.cmds.c sn_t7.cmds.xs,rwO msgE 164 0 sn_t7.msgs.a sn_t7.msgs.c sn_t7.msgs.xs],fun g=>True⟩] [[9],[12]] [] [] S (fun y hy=>by cases hy) (fun g=>⟨rfl,rfl,rfl,rfl,rfl,rfl,rfl,rfl,rfl,rfl,rfl,rfl,rfl,trivial⟩) ?_ ?_ ⟨⟨_,rfl,rfl,?_⟩,⟨_,rfl,rfl,?_⟩,⟨_,rfl,rfl,?_⟩,trivial⟩ ?_
 ·intro k g hk; obtain rfl | rfl | rfl | rfl : k = 0 ∨ k = 1 ∨ k = 2 ∨ k = 3 := by simp only [List.length_cons, List.length_nil] at hk; omega
  ·exact ⟨lkq rfl fun S=>x_move (S.e rfl),lkq rfl fun S=>x_move (S.e rfl),lkq rfl fun S=>x_move (S.e rfl),lkq rfl fun S=>x_fld (z:=0) (0) 2 uT161 rfl rfl (by kernel_rfl) (S.e rfl),lkq rfl fun S=>x_load sC3 (S.e rfl) ((S.k 0 rfl).cell (j:=2) rfl),lkq rfl fun S=>x_fld (z:=0) (0) 1 uT161 rfl rfl (by kernel_rfl) (S.e rfl),lkq rfl fun S=>x_load sC3 (S.e rfl) ((S.k 0 rfl).cell (j:=1) rfl),lkq rfl fun S=>x_nilck (S.e rfl),lkq rfl fun S=>x_fld (z:=0) (0 + 0) 2 uT101 rfl rfl (by kernel_rfl) (S.e rfl),lkm,lkm,lkm,lkm,trivial⟩
  ·exact ⟨lkn,lkq rfl fun S=>x_move (S.e rfl),lkq rfl fun S=>x_move (S.e rfl),lkn,lkn,lkq rfl fun S=>x_fld (z:=0) (0) 1 uT161 rfl rfl (by kernel_rfl) (S.e rfl),lkq rfl fun S=>x_load sC3 (S.e rfl) ((S.k 0 rfl).cell (j:=1) rfl),lkn,lkn,lkq rfl fun S=>x_nilck (S.e rfl),lkq rfl fun S=>x_fld (z:=0) (0 + 0) 4 uT101 rfl rfl (by kernel_rfl) (S.e rfl),lkm,lkm,trivial⟩
  ·exact ⟨lkn,lkn,lkq rfl fun S=>x_move (S.e rfl),lkn,lkn,lkn,lkn,lkn,lkn,lkn,lkn,lkq rfl fun S=>x_nilck (S.e rfl),lkq rfl fun S=>x_fld (z:=0) (0 + 0) 1 uT101 rfl rfl (by kernel_rfl) (S.e rfl),trivial⟩
  exact ⟨lkn,lkn,lkn,lkn,lkn,lkn,lkn,lkn,lkn,lkn,lkn,lkn,lkn,trivial⟩
 ·exact fun _ _ _=>trivial
 ·skip;intro g a u h;obtain ⟨S,hR,hN⟩:=h;replace S:=S.h0;dsimp only at S;refine ens S (la (stk 1 rfl rfl rfl)) ?_;clear S;intro a u S;exact ⟨S.s.defers,(),(fun d h=>by cases h),agz,trivial,trivial,S.m,trivial⟩
 ·skip;intro g a u h;obtain ⟨S,hR,hN⟩:=h;replace S:=S.hk (k:=0);dsimp only at S;refine ens S (la (stk 1 rfl rfl rfl)) ?_;clear S;intro a u S;exact ⟨S.s.defers,(),(fun d h=>by cases h),agz,trivial,⟨rfl,trivial⟩,S.m,trivial⟩
 ·skip;intro g a u h;obtain ⟨S,hR,hN⟩:=h;replace S:=S.hk (k:=1);dsimp only at S;refine ens S (la (stk 1 rfl rfl rfl)) ?_;clear S;intro a u S;exact ⟨S.s.defers,(),(fun d h=>by cases h),agz,trivial,⟨rfl,rfl,trivial⟩,S.m,trivial⟩
 clear S;intro g a u hA S hR;skip;replace S:=(S.hk (k:=2)).l ((0,pT sn_b 0) :: (4,pT sn_b 0) :: (5,pT sn_b 0) :: (6,pT sn_b (0 + 7)) :: (7,.agg (cmdE.cells r_t7).toArray) :: (2,pT b2 0) :: (8,pT sn_b 0) :: (9,pT sn_b 0) :: (10,pT sn_b (0 + 0)) :: (3,pT sn_b (0 + 0)) :: (41,pT sn_b (0 + 0)) :: (42,pT sn_b (0 + 0)) :: (43,pT sn_b (0 + 0 + 0)) :: (44,bD (sn_t7.up = true)) :: (45,bD (¬ (sn_t7.up = true))) :: (40,bD (¬ (sn_t7.up = true))) :: (46,bD (¬ r_t7.inc = sn_t7.inc)) :: (11,pT sn_b (0 + 0)) :: (12,pT sn_b (0 + 0)) :: (13,pT sn_b (0 + 0)) :: (14,pT b2 (0 + 2)) :: (15,iI r_t7.ver) :: (16,pT b2 (0 + 1)) :: (17,iI r_t7.seq) :: (18,pT sn_b (0 + 0)) :: (19,pT sn_b (0 + 0 + 2)) :: (20,pT sn_b (0 + 0)) :: (21,pT sn_b (0 + 0 + 4)) :: (22,pT sn_b (0 + 0)) :: (23,pT sn_b (0 + 0 + 1)) :: []) (subM rfl);dsimp only at S;refine ent (wp_seq ?_);refine dr (P:=Try.prog) S 14 [] [(24,.is _),(25,.is _),(26,.is _),(27,.is _),(28,.is _),(29,.is _),(30,.is _),(31,.is _),(32,.is _),(33,.is _),(34,.is _),(35,.is _),(36,.is _),(37,.is _)] [[],[24],[25],[26],[27],[28],[29],[29,30],[29,31],[29,32],[29],[29,34],[29,33,35],[29,36]] [37] _ ⟨qd (mv rfl),qd (ov fun S=>x_nilck (S.e rfl)),qd (fldi 0 6 rfl uT157),qd (ldk 1 sC4 rfl rfl rfl),qd (noti rfl),qd (mv rfl),qd (og 29 rfl gf fun S hg=>x_move (S.e rfl)),qd (og 29 rfl gf fun S hg=>x_nilck (S.p rfl hg)),qd (og 29 rfl gf fun S hg=>xf (0 + 0) 3 uT101 (S.p rfl hg)),qd (og 29 rfl gf fun S hg=>x_load sC3 (S.p rfl hg) ((S.k 1 rfl).cell (j:=3) rfl)),qd (og 29 rfl gf fun S hg=>xf (0) 2 uT161 (S.e rfl)),qd (og 29 rfl gf fun S hg=>x_load sC3 (S.p rfl hg) ((S.k 0 rfl).cell (j:=2) rfl)),qd (og 29 rfl gf fun S hg=>x_eql (S.p rfl hg) (S.p rfl hg)),qd (ori rfl rfl rfl),trivial⟩ ?_;clear S;intro a u S G hE;refine ent ?_;refine cd S rfl ?_ ?_
 ·intro hc4;refine r0 ?_;refine sp S (la (mv rfl)) ?_;clear S;intro a u S;have hk15 : staK (⟨sn_t7.up,false,r_t7.ver,sn_t7.sav,r_t7.seq,sn_t7.inc,sn_t7.vol,sn_t7.cmds,sn_t7.msgs⟩ : Sta):=⟨(S.u 0 rfl).2.2,hk_sn_t7.2.1,(S.u 0 rfl).2.1,hk_sn_t7.2.2.2⟩;replace S:=S.clsN 1 (staF sn_b (⟨sn_t7.up,false,r_t7.ver,sn_t7.sav,r_t7.seq,sn_t7.inc,sn_t7.vol,sn_t7.cmds,sn_t7.msgs⟩ : Sta));obtain ⟨y16,hy16⟩ : ∃ y : Sta,(⟨sn_t7.up,false,r_t7.ver,sn_t7.sav,r_t7.seq,sn_t7.inc,sn_t7.vol,sn_t7.cmds,sn_t7.msgs⟩ : Sta) = y:=⟨_,rfl⟩;rw [hy16] at S hk15;replace S:=S.spl 1;refine cl S (sAck _ _ S.xxF sn_b y16 S.mF (S.nfF hD) hk15 (S.dF   0 rfl (mo_bn (mo_sta _ _))) (by subst hy16;exact (by first | omega | (dsimp only;omega) | assumption))) cB81 ?_;rintro e u ⟨sn_t39,rfl,hk_sn_t39,hK_sn_t39,hq_sn_t39,T0⟩;refine ⟨_,rfl,fun a s=>?_⟩;have S2:=S.kF   [bnO (staF sn_b sn_t39)] s T0 ⟨hK_sn_t39,trivial⟩ ⟨(mo_bn (mo_sta _ _)),trivial⟩;replace S2:=S2.sh;clear S;have S:=S2;clear S2 s T0 hK_sn_t39;subst hy16;refine nn (blk_n ?_);refine end0 rfl S.s ?_;replace S:=S.pkc [1];refine ⟨sn_t39,rfl,hk_sn_t39,(S.m.o _ (nth_mem (i:=0) rfl)),?_,S.m.c⟩;unfold deliverT;rw [if_neg (show ¬ ¬ (psOf sn).ag.up = true by show ¬ ¬ sn.up = true;rw [← h1];assumption),if_neg (show ¬ (headT (psOf sn)).inc ≠ (psOf sn).ag.inc by show ¬ (headT (psOf sn)).inc ≠ sn.inc;rw [hrv,← h6];assumption),if_pos (show (¬ (psOf sn).vol = true ∨ (psOf sn).ag.sav = (headT (psOf sn)).ver) by show (¬ sn.vol = true ∨ sn.sav = (headT (psOf sn)).ver);rw [hrv,← h7,← h4];assumption)];rw [hq_sn_t39,hrv];refine congrArg saveT ?_;simp only [psOf,h1,h4,h6,h7,h8,h9]
 intro hc5;refine wp_skip (blk_n ?_);have hk17 : staK (⟨sn_t7.up,false,r_t7.ver,sn_t7.sav,r_t7.seq,sn_t7.inc,sn_t7.vol,sn_t7.cmds,sn_t7.msgs⟩ : Sta):=⟨(S.u 0 rfl).2.2,hk_sn_t7.2.1,(S.u 0 rfl).2.1,hk_sn_t7.2.2.2⟩;replace S:=S.clsN 1 (staF sn_b (⟨sn_t7.up,false,r_t7.ver,sn_t7.sav,r_t7.seq,sn_t7.inc,sn_t7.vol,sn_t7.cmds,sn_t7.msgs⟩ : Sta));refine end0 rfl S.s ?_;replace S:=S.pkc [1];refine ⟨(⟨sn_t7.up,false,r_t7.ver,sn_t7.sav,r_t7.seq,sn_t7.inc,sn_t7.vol,(Sl.mk sn_t7.cmds.a sn_t7.cmds.c sn_t7.cmds.xs),(Sl.mk sn_t7.msgs.a sn_t7.msgs.c sn_t7.msgs.xs)⟩ : Sta),rfl,hk17,(S.m.o _ (nth_mem (i:=0) rfl)),?_,S.m.c⟩;unfold deliverT;rw [if_neg (show ¬ ¬ (psOf sn).ag.up = true by show ¬ ¬ sn.up = true;rw [← h1];assumption),if_neg (show ¬ (headT (psOf sn)).inc ≠ (psOf sn).ag.inc by show ¬ (headT (psOf sn)).inc ≠ sn.inc;rw [hrv,← h6];assumption),if_neg (show ¬ (¬ (psOf sn).vol = true ∨ (psOf sn).ag.sav = (headT (psOf sn)).ver) by show ¬ (¬ sn.vol = true ∨ sn.sav = (headT (psOf sn)).ver);rw [hrv,← h7,← h4];assumption)];rw [hrv];simp only [psOf,h1,h4,h6,h7,h8,h9]
open Go.RowKit Go.Shelf
def renDf : Go.Shelf.Ren:=⟨fun | 6=>129 | 10=>124 | n=>n,fun | 0=>0 | 3=>3 | 4=>4 | 22=>22 | 23=>3 | 25=>171 | n=>n,fun n=>n⟩
theorem layDf : Go.Proofs.SlLaysH.n10 Try.prog renDf := {
  mixed:=by kernel_rfl
  f6 := ⟨"slices.IndexFunc[[]int,int]", by decide, Try.func129.trans (congrArg some (by kernel_rfl))⟩
  f10 := ⟨"slices.DeleteFunc[[]int,int]", by decide, Try.func124.trans (congrArg some (by kernel_rfl))⟩
  t0:=Try.underlying0
  a0:=Try.isAgg0
  z0:=Try.sizeOf0
  v0:=Try.zeroValue0
  t3:=Try.underlying3
  a3:=Try.isAgg3
  z3:=Try.sizeOf3
  v3:=Try.zeroValue3
  t4:=Try.underlying4
  a4:=Try.isAgg4
  z4:=Try.sizeOf4
  v4:=Try.zeroValue4
  t22:=Try.underlying22
  a22:=Try.isAgg22
  z22:=Try.sizeOf22
  v22:=Try.zeroValue22
  a23:=Try.isAgg3
  z23:=Try.sizeOf3
  t25:=Try.underlying171
  a25:=Try.isAgg171
  z25:=Try.sizeOf171
  v25:=Try.zeroValue171 }
theorem rm1 (b : Nat) (d x : Int) (W : World) (hc : W.cell? ⟨b,0,none⟩ = some (.int .i64 d)) : Calls Try.prog 125 #[.int .i64 x,.pointer (some ⟨b,0,none⟩)] W fun e w'=>e = .returned (.bool (x == d)) ∧ w' = W:=by
  have t3:=Try.underlying3;have a3:=Try.isAgg3;have z3:=Try.sizeOf3
  go_enter Try.func125,(show Try.f125.ntmps = 7 from rfl)
  go_wp2
  refine bodyPost_ret (v:=.bool (x == d)) (by simp [results,Try.results125,go_sem]) rfl ?_;exact ⟨rfl,rfl⟩
theorem cell_heap {w w' : World} {b : Nat} (h : w'.heap[b]? = w.heap[b]?) : w'.cell? ⟨b,0,none⟩ = w.cell? ⟨b,0,none⟩:=by simp [World.cell?,h]
abbrev encI (x : Int) : Value:=.int .i64 x
theorem delDf (w : World) (b : Nat) (d : Int) (hK : Blk w.heap b [.int .i64 d] 3) (g cap : Nat) (xs : List Int) (cur : Array Value) (hg : w.heap[g]? = some (.cells cur 3 (0, 0))) (hcs : cur.toList.take xs.length = xs.map encI) (hsz : cur.size = cap) (hl : xs.length ≤ cap) (hm : cap ≤ maxLen) (hne : g ≠ b) :
    Calls Try.prog 124 #[.slice (some ⟨g,0,none⟩) xs.length cap,.func (.func 125) #[] #[.pointer (some ⟨b,0,none⟩)]] w fun e w'=>e = .returned (.slice (some ⟨g,0,none⟩) (xs.filter fun x=>!(x == d)).length cap) ∧ ∃ q,w' = Sort.putRow encI (Sort.ahead w q) g 0 ((xs.filter fun x=>!(x == d)) ++ List.replicate (xs.length - (xs.filter fun x=>!(x == d)).length) 0).toArray:=by
  have hc : w.cell? ⟨b,0,none⟩ = some (.int .i64 d):=by unfold Blk at hK;simp [World.cell?,hK]
  have hblt : b < w.heap.size:=hK.lt;have hp : PredAt Try.prog 125 #[.pointer (some ⟨b,0,none⟩)] encI (fun x=>x == d) w:=fun W x hb=>by
    refine (rm1 b d x W ((cell_heap (hb.block b hblt)).trans hc)).mono ?_;rintro e w' ⟨h1,h2⟩;exact ⟨h1,0,h2⟩
  have hpo : PredOver Try.prog 125 #[.pointer (some ⟨b,0,none⟩)] encI (fun x=>x == d) g 0 xs.toArray.size w:=fun n os dk x _=>by
    have hb : (sortWorld encI w g 0 n dk os).heap[b]? = w.heap[b]?:=by
      show ((w.heap.modify g _) ++ os)[b]? = _;rw [Array.getElem?_append_left (by simpa using hblt),Array.getElem?_modify,if_neg hne]
    refine (rm1 b d x _ ((cell_heap hb).trans hc)).mono ?_;rintro e w' ⟨h1,h2⟩;exact ⟨h1,0,h2⟩
  have hH : Sort.Holds encI w g 0 xs.toArray:=fun j hj=>by
    have hj' : j < xs.length:=by simpa using hj
    have h1 : cur.toList[j]? = some (encI xs[j]):=by
      have : (cur.toList.take xs.length)[j]? = some (encI xs[j]):=by rw [hcs,List.getElem?_map,List.getElem?_eq_getElem hj'];rfl
      rwa [List.getElem?_take_of_lt hj'] at this
    have h2 : xs.toArray[j]! = xs[j]:=by rw [getElem!_pos xs.toArray j hj];simp
    rw [h2]
    constructor
    · simp [World.cell?,hg];simpa using h1
    · simp [World.frozen?,hg]
  have key:=Go.Proofs.AnyE.slices_DeleteFunc (P:=Try.prog) (ρ:=renDf) layDf encI (fun _=>rfl) (fun x=>x == d) 125 #[.pointer (some ⟨b,0,none⟩)] (enters_of Try.func125 (by decide) (show Try.f125.body = some _ from rfl)) 0 Try.zeroValue3 g 0 cap xs.toArray w hp hpo hH (by simp;unfold maxLen at hm;omega) (by simpa using hl);rw [show renDf.f 10 = 124 from rfl] at key
  simpa using key
theorem idx0 (b c : Nat) (w : World) : Calls Try.prog 129 #[.slice none 0 c,.func (.func 125) #[] #[.pointer (some ⟨b,0,none⟩)]] w fun e w'=>e = .returned (.int .i64 (-1)) ∧ w' = w:=by
  have t22:=Try.underlying22;have t3:=Try.underlying3
  go_enter Try.func129,(show Try.f129.ntmps = 19 from rfl)
  go_wp2
  go_loopg [8] 0 (fun _ s8 wr=>s8 = .int .i64 0 ∧ wr = w)
  case atStart=>exact ⟨rfl,rfl⟩
  case round =>
    obtain ⟨rfl,rfl⟩:=hrel
    go_wp2
    refine bodyPost_ret (v:=.int .i64 (-1)) (by simp [results,Try.results129,go_sem]) rfl ?_;exact ⟨rfl,rfl⟩
theorem del0 (b c : Nat) (w : World) : Calls Try.prog 124 #[.slice none 0 c,.func (.func 125) #[] #[.pointer (some ⟨b,0,none⟩)]] w fun e w'=>e = .returned (.slice none 0 c) ∧ w' = w:=by
  have t22:=Try.underlying22;have t3:=Try.underlying3;have H:=idx0 b c
  go_enter Try.func124,(show Try.f124.ntmps = 42 from rfl)
  go_wp2_with (go_at_call 129;refine (H _).mono ?_;rintro e w2 ⟨rfl,rfl⟩)
  refine bodyPost_ret (v:=.slice none 0 c) (by simp [results,Try.results124,go_sem]) rfl ?_;exact ⟨rfl,rfl⟩
theorem flat_int (x : List Int) : x.flatMap intE.cells = x.map encI:=by
  induction x with
  | nil=>rfl
  | cons y r ih=>rw [List.flatMap_cons,ih];rfl
theorem del_row {w : World} {F : Nat → Prop} {x_a : Option Addr} {x_c : Nat} {x : List Int} (M : MS [abk x_a] w) (R : Row intE 3 0 F [abk x_a] w x_a x_c x) (b : Nat) (d : Int) (hK : Blk w.heap b [.int .i64 d] 3) (hb : ¬ In [abk x_a] b) :
    Calls Try.prog 124 #[.slice x_a x.length x_c,.func (.func 125) #[] #[.pointer (some ⟨b,0,none⟩)]] w fun e w'=>∃ (ra : Option Addr) (rc : Nat),e = .returned (.slice ra (x.filter fun y=>!(y == d)).length rc) ∧ Row intE 3 0 F [abk ra] w' ra rc (x.filter fun y=>!(y == d)) ∧ Tr [abk x_a] w [abk ra] w':=by
  have hlen : (x.filter fun y=>!(y == d)).length ≤ x.length:=List.length_filter_le _ _
  rcases R.own.2 with ⟨h1,h2⟩ | ⟨g,c,cur,h1,_,h3,h4,h5,h6,h7⟩
  · injection h1 with e1 e2 e3
    subst e1 e3;have hx : x = []:=List.eq_nil_of_length_eq_zero h2;subst hx;refine (del0 b 0 w).mono ?_;rintro e w2 ⟨rfl,rfl⟩;exact ⟨none,0,rfl,R,Tr.refl M⟩
  · injection h1 with e1 e2 e3
    subst e1 e3;have hne : g ≠ b:=fun e=>hb (.inl (by subst e;rfl));have hm : intE.n = 1:=rfl;rw [hm,Nat.mul_one] at h6 h7;rw [flat_int] at h7;refine (delDf w b d hK g x_c x cur h3 h7 h6 h4 h5 hne).mono ?_;rintro e w2 ⟨rfl,q,rfl⟩;obtain ⟨ys,hys⟩ : ∃ ys,(x.filter fun y=>!(y == d)) = ys:=⟨_,rfl⟩;rw [hys] at hlen ⊢;obtain ⟨zs,hzs⟩ : ∃ zs,(ys ++ List.replicate (x.length - ys.length) 0).toArray = zs:=⟨_,rfl⟩;have hg : (Sort.putRow encI (Sort.ahead w q) g 0 zs).heap[g]? = some (.cells (Sort.putCells encI 0 zs cur) 3 (0,0)):=by
      show (w.heap.modify g _)[g]? = _;rw [Array.getElem?_modify,if_pos rfl,h3];rfl
    have hch : Ch (In [abk (some ⟨g,0,none⟩)]) w (Sort.putRow encI (Sort.ahead w q) g 0 zs):=by
      refine ⟨rfl,rfl,rfl,?_,fun k hk hn=>?_⟩
      · show w.heap.size ≤ (w.heap.modify g _).size;rw [Array.size_modify];exact Nat.le_refl _
      · show (w.heap.modify g _)[k]? = _;rw [Array.getElem?_modify,if_neg fun e=>hn (.inl (by subst e;rfl))]
    rw [hzs];have T:=Tr.of_ch M hch fun o ho=>ho;refine ⟨some ⟨g,0,none⟩,x_c,rfl,⟨⟨by rw [flat_int,List.length_map,hm,Nat.mul_one],.inr ⟨g,x_c,_,rfl,Nat.zero_le _,hg,by omega,h5,?_,?_⟩⟩,fun y hy=>?_⟩,T⟩
    · simp [Sort.putCells,hm,h6]
    · rw [flat_int, hm, Nat.mul_one]
      apply List.ext_getElem?
      intro i
      rcases Nat.lt_or_ge i ys.length with hi | hi
      · have hic : i < cur.size := by omega
        have hzz : i < zs.size:=by rw [← hzs];simp;omega
        have hz : zs[i] = ys[i]:=by
          subst hzs;simp [List.getElem_append_left hi]
        rw [List.getElem?_take_of_lt hi,List.getElem?_map,List.getElem?_eq_getElem hi];simp [Sort.putCells,hic,hzz,hz]
      · rw [List.getElem?_eq_none (by simp;omega),List.getElem?_eq_none (by simp;omega)]
    · have : y ∈ x := by rw [← hys] at hy; exact (List.mem_filter.1 hy).1
      exact R.wf y this

open Go.RowKit Go.Shelf
def renIn : Go.Shelf.Ren:=⟨fun | 21=>127 | 27=>132 | 28=>133 | 35=>135 | 39=>136 | n=>n,fun | 0=>0 | 3=>3 | 4=>4 | 22=>22 | n=>n,fun n=>n⟩
theorem layIn : Lays2.n21 Try.prog renIn := {
  mixed:=by kernel_rfl
  f21:=Try.func127.trans (congrArg some (by kernel_rfl))
  f27:=Try.func132.trans (congrArg some (by kernel_rfl))
  f28:=Try.func133.trans (congrArg some (by kernel_rfl))
  f35:=Try.func135.trans (congrArg some (by kernel_rfl))
  f39:=Try.func136.trans (congrArg some (by kernel_rfl))
  t0:=Try.underlying0
  a0:=Try.isAgg0
  z0:=Try.sizeOf0
  v0:=Try.zeroValue0
  t3:=Try.underlying3
  a3:=Try.isAgg3
  z3:=Try.sizeOf3
  v3:=Try.zeroValue3
  t4:=Try.underlying4
  a4:=Try.isAgg4
  z4:=Try.sizeOf4
  v4:=Try.zeroValue4
  t22:=Try.underlying22
  a22:=Try.isAgg22
  z22:=Try.sizeOf22
  v22:=Try.zeroValue22
  i3:=by kernel_rfl }
theorem sc_rest (b : Nat) : ∀ (vs : List Value) (o : Nat) (w : World), (w.setCells b o vs).os = w.os ∧ (w.setCells b o vs).tape = w.tape ∧ (w.setCells b o vs).output = w.output ∧ (w.setCells b o vs).heap.size = w.heap.size ∧ ∀ k, k ≠ b → (w.setCells b o vs).heap[k]? = w.heap[k]?
  | [],_,_=>⟨rfl,rfl,rfl,rfl,fun _ _=>rfl⟩
  | v :: r,o,w=>by
    obtain ⟨h1,h2,h3,h4,h5⟩:=sc_rest b r (o + 1) (w.setCell ⟨b,o,none⟩ v);rw [World.setCells];exact ⟨h1.trans rfl,h2.trans rfl,h3.trans rfl,h4.trans (by simp [World.setCell]),fun k hk=>(h5 k hk).trans (heap_setCell_other w ⟨b,o,none⟩ k v hk)⟩
theorem sc_heap (b : Nat) (t : TypeId) : ∀ (vs : List Value) (o : Nat) (w : World) (cur : Array Value), w.heap[b]? = some (.cells cur t (0, 0)) → o + vs.length ≤ cur.size → ∃ cur' : Array Value, (w.setCells b o vs).heap[b]? = some (.cells cur' t (0, 0)) ∧ cur'.toList = cur.toList.take o ++ vs ++ cur.toList.drop (o + vs.length)
  | [],o,w,cur,h,_=>⟨cur,h,by simp⟩
  | v :: r,o,w,cur,h,hl=>by
    rw [World.setCells];rw [List.length_cons] at hl;obtain ⟨c',h1,h2⟩:=sc_heap b t r (o + 1) _ _ (heap_setCell_same w b o cur t v h) (by simp;omega);refine ⟨c',h1,h2.trans ?_⟩;have ho : o < cur.toList.length:=by simp;omega
    have e : (cur.setIfInBounds o v).toList = cur.toList.set o v:=by simp
    rw [e,List.length_cons,List.take_add_one,List.take_set_of_le (Nat.le_refl _),List.getElem?_set_self ho,List.drop_set_of_lt (by omega),show o + 1 + r.length = o + (r.length + 1) from by omega];simp
theorem insA {L0 cs vs : List Value} {k : Nat} (hk : k ≤ cs.length) (hv : vs.length = 1) (h0 : L0.take cs.length = cs) (hl : cs.length + 1 ≤ L0.length) :
    ((L0.take (k + 1) ++ cs.drop k ++ L0.drop (k + 1 + (cs.drop k).length)).take k ++ vs ++ (L0.take (k + 1) ++ cs.drop k ++ L0.drop (k + 1 + (cs.drop k).length)).drop (k + vs.length)).take (cs.length + 1) = cs.take k ++ vs ++ cs.drop k:=by
  have h1 : (L0.take (k + 1)).length = k + 1:=by rw [List.length_take];omega
  have h2 : (cs.drop k).length = cs.length - k:=List.length_drop;have h3 : L0.take k = cs.take k:=by
    have:=congrArg (List.take k) h0;rw [List.take_take] at this
    rwa [show min k cs.length = k from by omega] at this
  have h4 : (cs.take k).length = k:=by rw [List.length_take];omega
  obtain ⟨X,hX⟩ : ∃ X,L0.drop (k + 1 + (cs.drop k).length) = X:=⟨_,rfl⟩;rw [hX,hv];have hA : (L0.take (k + 1) ++ cs.drop k ++ X).take k = cs.take k:=by
    rw [List.append_assoc,List.take_append_of_le_length (by omega),List.take_take,show min k (k + 1) = k from by omega,h3]
  have hB : (L0.take (k + 1) ++ cs.drop k ++ X).drop (k + 1) = cs.drop k ++ X:=by
    rw [List.append_assoc];exact List.drop_left' h1
  rw [hA,hB,← List.append_assoc];exact List.take_left' (by rw [List.length_append,List.length_append,h4,hv,h2];omega)
theorem insB {L0 cs vs : List Value} {k : Nat} (hk : k ≤ cs.length) (hv : vs.length = 1) (h3 : L0.take k = cs.take k) (hl : cs.length + 1 ≤ L0.length) :
    ((L0.take k ++ vs ++ L0.drop (k + vs.length)).take (k + 1) ++ cs.drop k ++ (L0.take k ++ vs ++ L0.drop (k + vs.length)).drop (k + 1 + (cs.drop k).length)).take (cs.length + 1) = cs.take k ++ vs ++ cs.drop k:=by
  have h2 : (cs.drop k).length = cs.length - k:=List.length_drop;have h4 : (cs.take k).length = k:=by rw [List.length_take];omega
  have h5 : (cs.take k ++ vs).length = k + 1:=by rw [List.length_append,h4,hv]
  rw [h3,List.take_left' h5];exact List.take_left' (by rw [List.length_append,h5,h2];omega)
theorem ins_fin {w w' : World} {ms : List BS} {F : Nat → Prop} {g c : Nat} {cur : Array Value} {ys : List Int} (hch : Ch (In ms) w w') (hg : w'.heap[g]? = some (.cells cur 3 (0, 0))) (hgn : In ms g ∨ w.heap.size ≤ g) (hc : cur.size = c) (hm : c ≤ maxLen) (hl : ys.length ≤ c) (ht : cur.toList.take ys.length = ys.map encI) (hw : ∀ y ∈ ys, inI64 y) :
    Row intE 3 0 F [abk (some ⟨g,0,none⟩)] w' (some ⟨g,0,none⟩) c ys ∧ Tr ms w [abk (some ⟨g,0,none⟩)] w':=by
  have hn : intE.n = 1:=rfl;have hlt : g < w'.heap.size:=by
    rcases Nat.lt_or_ge g w'.heap.size with h | h
    · exact h
    · rw [Array.getElem?_eq_none h] at hg;cases hg
  refine ⟨⟨⟨by rw [flat_int,List.length_map,hn,Nat.mul_one],.inr ⟨g,c,cur,rfl,Nat.zero_le _,hg,hl,hm,by rw [hn,Nat.mul_one];exact hc,by rw [flat_int,hn,Nat.mul_one];exact ht⟩⟩,fun y hy=>hw y hy⟩,hch,fun k hk=>?_,fun k hk=>?_,?_⟩
  · rcases hk with hk | hk
    · have e : g = k:=Option.some.inj hk;subst e;exact hgn
    · exact hk.elim
  · rcases hk with hk | hk
    · have e : g = k:=Option.some.inj hk;subst e;exact hlt
    · exact hk.elim
  · exact ⟨fun k _ h=>h,trivial⟩
theorem enc1 (l : List Int) : ∀ v ∈ l.map encI,v.oneCell' = true:=fun v hv=>by
  obtain ⟨y,_,rfl⟩:=List.mem_map.1 hv
  rfl
theorem own_cell {w : World} {g : Nat} {cur : Array Value} {n : Nat} {xs : List Int} (h : w.heap[g]? = some (.cells cur 3 (0,0))) (ht : cur.toList.take n = xs.map encI) (j : Nat) (v : Value) (hj : (xs.map encI)[j]? = some v) : w.cell? ⟨g,0 + j,none⟩ = some v:=by
  have hj0 : j < n:=by
    have:=congrArg List.length ht;have h2:=(List.getElem?_eq_some_iff.1 hj).1;rw [List.length_take] at this;omega
  have h1 : cur.toList[j]? = some v:=by rw [← List.getElem?_take_of_lt hj0,ht];exact hj
  simp only [World.cell?,h,Nat.zero_add]
  simpa using h1
theorem own_some {w : World} {g : Nat} {cur : Array Value} (h : w.heap[g]? = some (.cells cur 3 (0,0))) {j : Nat} (hj : j < cur.size) : (w.cell? ⟨g,j,none⟩).isSome = true:=by
  simp [World.cell?,h,hj]
theorem own_fz {w : World} {g : Nat} {cur : Array Value} (h : w.heap[g]? = some (.cells cur 3 (0,0))) (j : Nat) : w.frozen? ⟨g,j,none⟩ = false:=by
  simp [World.frozen?,h]
theorem al_get (w : World) (o : Obj) : (w.drew.alloc o).heap[w.heap.size]? = some o:=by
  show (w.heap.push o)[w.heap.size]? = _;exact Array.getElem?_push_size
theorem al_ch {ms : List BS} (w : World) (o : Obj) : Ch (In ms) w (w.drew.alloc o):=by
  refine ⟨rfl,rfl,rfl,?_,fun j hj _=>?_⟩
  · show w.heap.size ≤ (w.heap.push o).size;rw [Array.size_push];exact Nat.le_succ _
  · show (w.heap.push o)[j]? = _;rw [Array.getElem?_push,if_neg (by omega)]
theorem al_get2 (w : World) (o : Obj) : ((w.alloc o).drew).heap[w.heap.size]? = some o:=al_get w o
theorem al_ch2 {ms : List BS} (w : World) (o : Obj) : Ch (In ms) w ((w.alloc o).drew):=let h:=al_ch (ms:=ms) w o;⟨h.os,h.tape,h.output,h.size,h.block⟩
theorem z_size (n : Nat) : (Builtin.zeroCells (Value.int .i64 0).cells n).size = n:=by
  unfold Builtin.zeroCells;rw [Array.size_map,Array.size_range];exact Nat.mul_one n
set_option maxRecDepth 100000 in
theorem ins_row {w : World} {F : Nat → Prop} {x_a v_a : Option Addr} {x_c v_c : Nat} {x v : List Int} (M : MS [abk x_a, abk v_a] w) (R : Row intE 3 0 F [abk x_a, abk v_a] w x_a x_c x) (V : Row intE 3 0 F [abk x_a, abk v_a] w v_a v_c v) (i : Int) (hi : (0 ≤ i ∧ i ≤ x.length) ∧ v.length = 1 ∧ x.length ≤ 1000) :
    Calls Try.prog 127 #[.slice x_a x.length x_c,.int .i64 i,.slice v_a v.length v_c] w fun e w'=>∃ (ra : Option Addr) (rc : Nat),e = .returned (.slice ra (x.take i.toNat ++ v ++ x.drop i.toNat).length rc) ∧ Row intE 3 0 F [abk ra] w' ra rc (x.take i.toNat ++ v ++ x.drop i.toNat) ∧ Tr [abk x_a,abk v_a] w [abk ra] w':=by
  obtain ⟨⟨hi0,hi1⟩,hv1,hx1⟩:=hi;obtain ⟨k,rfl⟩:=Int.eq_ofNat_of_zero_le hi0;have hk : k ≤ x.length:=by omega
  rw [Int.toNat_natCast];have hn : intE.n = 1:=rfl
  rcases V.own.2 with ⟨h1,h2⟩ | ⟨vg,vc,vcur,h1,_,vh,vl,vm,vs,vt⟩
  · omega
  injection h1 with e1 e2 e3
  subst e1 e3;rw [hn,Nat.mul_one] at vs vt;rw [flat_int] at vt;have hlen : (x.take k ++ v ++ x.drop k).length = x.length + 1:=by rw [List.length_append,List.length_append,List.length_take,List.length_drop,hv1];omega
  have hmap : (x.take k ++ v ++ x.drop k).map encI = (x.map encI).take k ++ v.map encI ++ (x.map encI).drop k:=by rw [List.map_append,List.map_append,List.map_take,List.map_drop]
  have hwf : ∀ y ∈ x.take k ++ v ++ x.drop k,inI64 y:=fun y hy=>by
    rcases List.mem_append.1 hy with hy | hy
    · rcases List.mem_append.1 hy with hy | hy
      · exact R.wf y (List.mem_of_mem_take hy)
      · exact V.wf y hy
    · exact R.wf y (List.mem_of_mem_drop hy)
  have hvl : (v.map encI).length = v.length:=List.length_map _;have hxl : (x.map encI).length = x.length:=List.length_map _;have hv1' : (v.map encI).length = 1:=hvl.trans hv1;have hvcell : ∀ j u,(v.map encI)[j]? = some u → w.cell? ⟨vg,0 + j,none⟩ = some u:=own_cell vh vt;rw [hlen]
  rcases R.own.2 with ⟨h1,h2⟩ | ⟨g,c,cur,h1,_,h3,h4,h5,h6,h7⟩
  · injection h1 with e1 e2 e3
    subst e1 e3;have hx : x = []:=List.eq_nil_of_length_eq_zero h2;subst hx;obtain rfl : k = 0:=by simpa using hk
    refine (Go.Proofs.Any2.slices_Insert_int_end_grow layIn none 0 0 vg 0 v.length v_c [] (v.map encI) w (by omega) (Nat.le_refl _) (by omega) (by rw [hv1];decide) rfl hvl (fun _=>rfl) (fun a ha=>by cases ha) hvcell (enc1 v)).mono ?_;rintro e w' ⟨rfl,rfl⟩;have hgc:=grownCap_ge w (0 + v.length) 0 (renIn.t 3);have hgm:=grownCap_le_maxLen w (0 + v.length) 0 (renIn.t 3) (by rw [hv1];decide);refine ⟨some ⟨w.heap.size,0,none⟩,_,by rw [hv1];rfl,ins_fin (al_ch w _) (al_get w _) (.inr (Nat.le_refl _)) (by rw [Array.size_append,z_size,List.size_toArray,List.nil_append,hvl];omega) hgm (by rw [hlen,List.length_nil];omega) ?_ hwf⟩;rw [hlen,hmap,Array.toList_append];exact (List.take_left' (l₁:=v.map encI) hv1').trans (by simp)
  · injection h1 with e1 e2 e3
    subst e1 e3;rw [hn,Nat.mul_one] at h6 h7;rw [flat_int] at h7;have hne : vg ≠ g:=fun e=>M.sep.1 g rfl (.inl (by subst e;rfl));have hxcell : ∀ j u,(x.map encI)[j]? = some u → w.cell? ⟨g,0 + j,none⟩ = some u:=own_cell h3 h7;have hc63 : x_c ≤ 9223372036854775807:=by unfold maxLen at h5;omega
    have hL : cur.toList.length = x_c:=by simp [h6]
    have hin : In [abk (some ⟨g,0,none⟩),abk (some ⟨vg,0,none⟩)] g:=.inl rfl;have h0 : cur.toList.take (x.map encI).length = x.map encI:=by rw [hxl];exact h7
    have hgc:=grownCap_ge w (x.length + v.length) x_c (renIn.t 3);have hgm:=grownCap_le_maxLen w (x.length + v.length) x_c (renIn.t 3) (by unfold maxLen;omega)
    rcases Nat.lt_or_ge k x.length with hlt | hge
    · rcases Nat.lt_or_ge x_c (x.length + v.length) with hr | hr
      · refine (Go.Proofs.Any2.slices_Insert_int_grow layIn g 0 x.length x_c k vg 0 v.length v_c (x.map encI) (v.map encI) w hlt (by omega) h4 hr (by omega) hxl hvl hxcell hvcell (enc1 x) (enc1 v)).mono ?_;rintro e w' ⟨rfl, rfl⟩;obtain ⟨arr, harr⟩ : ∃ arr, (((x.map encI).take k).toArray ++ Builtin.zeroCells (Value.int .i64 0).cells (x.length + v.length - k) ++ Builtin.zeroCells (Value.int .i64 0).cells (grownCap w (x.length + v.length) x_c (renIn.t 3) - (x.length + v.length))) = arr := ⟨_, rfl⟩;rw [harr];have hsz : arr.size = grownCap w (x.length + v.length) x_c (renIn.t 3) := by rw [← harr, Array.size_append, Array.size_append, z_size, z_size, List.size_toArray, List.length_take, hxl]; omega
        have ht : arr.toList.take k = (x.map encI).take k:=by
          rw [← harr,Array.toList_append,Array.toList_append,List.append_assoc];exact List.take_left' (by simp;omega)
        have hb0 : ((w.alloc (.cells arr (renIn.t 3))).drew).heap[w.heap.size]? = some (.cells arr 3 (0,0)):=al_get2 w _;obtain ⟨c1,hb1,ht1⟩:=sc_heap w.heap.size 3 (v.map encI) k _ arr hb0 (by omega);have hc1 : c1.toList.length = arr.size:=by rw [ht1];simp;omega
        obtain ⟨c2,hb2,ht2⟩:=sc_heap w.heap.size 3 ((x.map encI).drop k) (k + v.length) (((w.alloc (.cells arr (renIn.t 3))).drew.setCells w.heap.size k (v.map encI)).drew) c1 hb1 (by rw [List.length_drop,hxl,← Array.length_toList,hc1];omega);have hc2 : c2.toList.length = arr.size:=by rw [ht2];simp only [List.length_append,List.length_take,List.length_drop,hxl,hc1];omega
        obtain ⟨a1,a2,a3,a4,a5⟩:=sc_rest w.heap.size ((x.map encI).drop k) (k + v.length) (((w.alloc (.cells arr (renIn.t 3))).drew.setCells w.heap.size k (v.map encI)).drew);obtain ⟨b1,b2,b3,b4,b5⟩:=sc_rest w.heap.size (v.map encI) k ((w.alloc (.cells arr (renIn.t 3))).drew);refine ⟨some ⟨w.heap.size,0,none⟩,_,by rw [hv1],ins_fin ⟨a1.trans b1,a2.trans b2,a3.trans b3,Nat.le_trans (al_ch2 (ms:=[]) w (.cells arr (renIn.t 3))).size (Nat.le_of_eq (a4.trans b4).symm),fun j hj _=>(a5 j (by omega)).trans ((b5 j (by omega)).trans ((al_ch2 (ms:=[]) w (.cells arr (renIn.t 3))).block j hj id))⟩ hb2 (.inr (Nat.le_refl _)) (by rw [← Array.length_toList,hc2,hsz]) hgm (by rw [hlen];omega) ?_ hwf⟩;rw [hlen,hmap,ht2,ht1,hv1,← hxl];have:=insB (L0:=arr.toList) (cs:=x.map encI) (vs:=v.map encI) (k:=k) (by rw [hxl];exact hk) hv1' ht (by have e : arr.toList.length = arr.size:=Array.length_toList;rw [hxl];omega);rw [hv1'] at this ⊢;exact this
      · refine (Go.Proofs.Any2.slices_Insert_int_shift layIn g 0 x.length x_c k vg 0 v.length v_c (x.map encI) (v.map encI) w hlt (by omega) hr hc63 hne hxl hvl hxcell (fun j hj => by rw [Nat.zero_add]; exact own_some h3 (by omega)) (fun j _ => own_fz h3 _) hvcell (enc1 x) (enc1 v) 3 3 vcur.size cur.size (by simp [World.shape?, vh]) (by simp [World.shape?, h3]) (by omega) (own_fz vh _) (own_fz vh _)).mono ?_;rintro e w' ⟨rfl, rfl⟩;rw [Nat.zero_add, Nat.zero_add];obtain ⟨c1, hb1, ht1⟩ := sc_heap g 3 ((x.map encI).drop k) (k + v.length) w.drew cur h3 (by rw [List.length_drop, hxl]; omega);have hc1 : c1.toList.length = x_c := by rw [ht1]; simp only [List.length_append, List.length_take, List.length_drop, hxl, hL]; omega
        obtain ⟨c2,hb2,ht2⟩:=sc_heap g 3 (v.map encI) k (w.drew.setCells g (k + v.length) ((x.map encI).drop k)) c1 hb1 (by rw [hvl,← Array.length_toList,hc1];omega);have hc2 : c2.toList.length = x_c:=by rw [ht2];simp only [List.length_append,List.length_take,List.length_drop,hvl,hc1];omega
        obtain ⟨a1,a2,a3,a4,a5⟩:=sc_rest g (v.map encI) k (w.drew.setCells g (k + v.length) ((x.map encI).drop k));obtain ⟨b1,b2,b3,b4,b5⟩:=sc_rest g ((x.map encI).drop k) (k + v.length) w.drew;refine ⟨some ⟨g,0,none⟩,x_c,by rw [hv1],ins_fin ⟨a1.trans b1,a2.trans b2,a3.trans b3,by rw [a4,b4];exact Nat.le_refl _,fun j _ hjn=>(a5 j fun e=>hjn (by subst e;exact hin)).trans (b5 j fun e=>hjn (by subst e;exact hin))⟩ hb2 (.inl hin) (by rw [← Array.length_toList,hc2]) h5 (by rw [hlen];omega) ?_ hwf⟩;rw [hlen,hmap,ht2,ht1,hv1,← hxl];exact insA (by rw [hxl];exact hk) hv1' h0 (by rw [hxl,hL];omega)
    · obtain rfl : k = x.length := by omega
      have e1 : x.take x.length ++ v ++ x.drop x.length = x ++ v:=by rw [List.take_length,List.drop_length,List.append_nil]
      have e2 : (x.map encI).take x.length ++ v.map encI ++ (x.map encI).drop x.length = x.map encI ++ v.map encI:=by rw [List.take_of_length_le (by omega),List.drop_of_length_le (by omega),List.append_nil]
      rw [e2] at hmap
      rcases Nat.lt_or_ge x_c (x.length + v.length) with hr | hr
      · refine (Go.Proofs.Any2.slices_Insert_int_end_grow layIn (some ⟨g,0,none⟩) x.length x_c vg 0 v.length v_c (x.map encI) (v.map encI) w (by omega) h4 hr (by omega) hxl hvl (fun h=>by cases h) (fun b hb j u hj=>by cases hb;have:=hxcell j u hj;rw [Addr.add_lit];exact this) hvcell (enc1 v)).mono ?_;rintro e w' ⟨rfl,rfl⟩;refine ⟨some ⟨w.heap.size,0,none⟩,_,by rw [hv1],ins_fin (al_ch w _) (al_get w _) (.inr (Nat.le_refl _)) (by rw [Array.size_append,z_size,List.size_toArray,List.length_append,hxl,hvl];omega) hgm (by rw [hlen];omega) ?_ hwf⟩;rw [hlen,hmap,Array.toList_append];exact List.take_left' (by simp [hv1])
      · refine (Go.Proofs.Any2.slices_Insert_int_end_room layIn g 0 x.length x_c vg 0 v.length v_c (v.map encI) w (by omega) hr hc63 hvl (fun j hj => own_some h3 (by omega)) (fun j _ => own_fz h3 _) hvcell (enc1 v)).mono ?_;rintro e w' ⟨rfl, rfl⟩;rw [Nat.zero_add];obtain ⟨c1, hb1, ht1⟩ := sc_heap g 3 (v.map encI) x.length w cur h3 (by omega);have hc1 : c1.toList.length = x_c := by rw [ht1]; simp only [List.length_append, List.length_take, List.length_drop, hvl, hL]; omega
        obtain ⟨a1,a2,a3,a4,a5⟩:=sc_rest g (v.map encI) x.length w;refine ⟨some ⟨g,0,none⟩,x_c,by rw [hv1],ins_fin ⟨a1,a2,a3,by rw [a4];exact Nat.le_refl _,fun j _ hjn=>a5 j fun e=>hjn (by subst e;exact hin)⟩ hb1 (.inl hin) (by rw [← Array.length_toList,hc1]) h5 (by rw [hlen];omega) ?_ hwf⟩;rw [hlen,hmap,ht1,h7];exact List.take_left' (by rw [List.length_append,hxl,hv1'])
open Go.RowKit Go.Proofs.Ytobggnpnochnnaa
theorem cmpNaN (w : World) (F : Nat → Prop) (hF : Old F w) (M : MS [] w) (x : Int) (x_h : inI64 x) :
 Calls Try.prog 134 #[iI x] w fun e w'=>e = .returned (bD (False)) ∧ Tr [] w [] w':=by
 obtain ⟨x_hl,x_hu⟩ : inI64 x:=id x_h;refine go Try.func134 rfl 6 rfl [] [] hF M trivial trivial ?_;intro a S;have hD : ∀ k,In ([] : List BS) k → ¬ F k:=fun _ h=>h.elim;refine rs S (la (av rfl)) ?_;clear S;intro a u S;refine rs S (tr (mv rfl)<|tr (mv rfl)<|tr (neqi rfl rfl)<|la (av rfl)) ?_;clear S;intro a u S;refine wp_ret ?_;refine ret1 rfl S.s rfl ?_;refine ⟨(r1 (vb ?_)),S.m.c⟩
 first | exact Iff.rfl | assumption | omega | simp_all
theorem sNaN (w : World) (F : Nat → Prop) (hF : Old F w) (M : MS [] w) (x : Int) (x_h : inI64 x) :
 Calls Try.prog 131 #[iI x] w fun e w'=>e = .returned (bD (False)) ∧ Tr [] w [] w':=by
 obtain ⟨x_hl,x_hu⟩ : inI64 x:=id x_h;refine go Try.func131 rfl 6 rfl [] [] hF M trivial trivial ?_;intro a S;have hD : ∀ k,In ([] : List BS) k → ¬ F k:=fun _ h=>h.elim;refine rs S (la (av rfl)) ?_;clear S;intro a u S;refine rs S (tr (mv rfl)<|tr (mv rfl)<|tr (neqi rfl rfl)<|la (av rfl)) ?_;clear S;intro a u S;refine wp_ret ?_;refine ret1 rfl S.s rfl ?_;refine ⟨(r1 (vb ?_)),S.m.c⟩
 first | exact Iff.rfl | assumption | omega | simp_all
theorem cmpLess (w : World) (F : Nat → Prop) (hF : Old F w) (M : MS [] w) (x : Int) (x_h : inI64 x) (y : Int) (y_h : inI64 y) :
 Calls Try.prog 130 #[iI x,iI y] w fun e w'=>e = .returned (bD (x < y)) ∧ Tr [] w [] w':=by
 obtain ⟨x_hl,x_hu⟩ : inI64 x:=id x_h;obtain ⟨y_hl,y_hu⟩ : inI64 y:=id y_h;refine go Try.func130 rfl 17 rfl [] [] hF M trivial trivial ?_;intro a S;have hD : ∀ k,In ([] : List BS) k → ¬ F k:=fun _ h=>h.elim;refine rs S (la (av rfl)) ?_;clear S;intro a u S;refine rs S (tr (mv rfl)<|tr (oc (fun S=>cmpNaN _ _ S.x (.nil _) x x_h) cB134)<|tr (mv rfl)<|tr (og 7 rfl gt fun S hg=>x_move (S.e rfl))<|tr (ocg 7 rfl gt (fun S hg=>cmpNaN _ _ S.x (.nil _) y y_h) cB134 fun S=>⟨fun hg=>(S.p rfl hg),trivial⟩)<|tr (og 7 rfl gt fun S hg=>x_notp (S.p rfl hg))<|tr (andi rfl rfl rfl)<|tr (mv rfl)<|tr (og 12 rfl gf fun S hg=>x_move (S.e rfl))<|tr (og 12 rfl gf fun S hg=>x_move (S.e rfl))<|tr (og 12 rfl gf fun S hg=>x_lss (S.p rfl hg) (S.p rfl hg))<|tr (ori rfl rfl rfl)<|la (av rfl)) ?_;clear S;intro a u S;refine wp_ret ?_;refine ret1 rfl S.s rfl ?_;refine ⟨(r1 (vb ?_)),S.m.c⟩
 first | exact Iff.rfl | assumption | omega | simp_all
theorem srt {l : List Int} (hs : l.Pairwise (· < ·)) {a b : Nat} (h : a ≤ b) (hb : b < l.length) : l.getD a intE.dflt ≤ l.getD b intE.dflt:=by
 rcases Nat.eq_or_lt_of_le h with e | e
 ·subst e;exact Int.le_refl _
 have:=List.pairwise_iff_getElem.1 hs a b bo hb e;rw [List.getD_eq_getElem?_getD,List.getD_eq_getElem?_getD,List.getElem?_eq_getElem (show a < l.length by omega),List.getElem?_eq_getElem hb];exact Int.le_of_lt this
theorem srch_lo {l : List Int} {v : Int} {i j hh : Nat} (hs : l.Pairwise (· < ·)) (h1 : i ≤ hh) (h2 : hh < j) (h3 : j ≤ l.length) (hc : l.getD hh intE.dflt < v) (hhi : ∀ k,j ≤ k → k < l.length → v ≤ l.getD k intE.dflt) : hh + 1 ≤ j ∧ j ≤ l.length ∧ (∀ k,k < hh + 1 → l.getD k intE.dflt < v) ∧ ∀ k,j ≤ k → k < l.length → v ≤ l.getD k intE.dflt :=
 ⟨h2,h3,fun k hk=>Int.lt_of_le_of_lt (srt hs (show k ≤ hh by omega) bo) hc,hhi⟩
theorem srch_hi {l : List Int} {v : Int} {i j hh : Nat} (hs : l.Pairwise (· < ·)) (h1 : i ≤ hh) (h2 : hh < j) (h3 : j ≤ l.length) (hlo : ∀ k,k < i → l.getD k intE.dflt < v) (hc : ¬ l.getD hh intE.dflt < v) : i ≤ hh ∧ hh ≤ l.length ∧ (∀ k,k < i → l.getD k intE.dflt < v) ∧ ∀ k,hh ≤ k → k < l.length → v ≤ l.getD k intE.dflt :=
 ⟨h1,by omega,hlo,fun k hk hk2=>Int.le_trans (Int.not_lt.1 hc) (srt hs hk hk2)⟩
theorem srch_in {l : List Int} {v : Int} {i j : Nat} (hs : l.Pairwise (· < ·)) (e : i = j) (hlo : ∀ k,k < i → l.getD k intE.dflt < v) (hhi : ∀ k,j ≤ k → k < l.length → v ≤ l.getD k intE.dflt) {A : Prop} (hA : ¬ A:=by exact fun h=>h.1) : (((i : Nat) : Int) < ((l.length : Nat) : Int) ∧ (l.getD i intE.dflt = v ∨ A)) ↔ v ∈ l:=by
 subst e
 constructor
 ·rintro ⟨h1,h2⟩;have h2':=h2.resolve_right hA;rw [← h2'];exact getD_mem (d:=intE.dflt) (i:=i) bo
 intro h;obtain ⟨k,hk,e⟩:=List.getElem_of_mem h;have e' : l.getD k intE.dflt = v:=by rw [List.getD_eq_getElem?_getD,List.getElem?_eq_getElem hk];exact e
 rcases Nat.lt_trichotomy k i with q | q | q
 ·have:=hlo k q;omega
 ·subst q;exact ⟨by omega,.inl e'⟩
 have h1:=hhi i (Nat.le_refl _) bo;have h2:=List.pairwise_iff_getElem.1 hs i k bo hk q;rw [List.getD_eq_getElem?_getD,List.getElem?_eq_getElem (show i < l.length by omega)] at h1;have h3 : v ≤ l[i]:=h1;omega
theorem sSearch (w : World) (F : Nat → Prop) (hF : Old F w) (M : MS [] w) (x : Sl Int) (x_w : (slE intE).wf (Fr F []) w.heap x) (v : Int) (v_h : inI64 v) (hs : x.xs.Pairwise (· < ·) ∧ x.xs.length ≤ 1000) :
 Calls Try.prog 126 #[sV x,iI v] w fun e w'=>∃ (r0 : Nat),e = .returned (.tuple #[iN r0,bD (v ∈ x.xs)]) ∧ (r0 ≤ x.xs.length ∧ (∀ k,k < r0 → x.xs.getD k intE.dflt < v) ∧ ∀ k,r0 ≤ k → k < x.xs.length → v ≤ x.xs.getD k intE.dflt) ∧ Tr [] w [] w':=by
 have : x.xs.length ≤ 9223372036854775807:=(x_w).1.len;obtain ⟨v_hl,v_hu⟩ : inI64 v:=id v_h;obtain ⟨hs,hsl⟩:=hs;refine go Try.func126 rfl 54 rfl [wfF (slE intE) x] [] hF M ⟨x_w,trivial⟩ trivial ?_;intro a S;have hD : ∀ k,In ([] : List BS) k → ¬ F k:=fun _ h=>h.elim;refine rs S (tr (av rfl)<|la (av rfl)) ?_;clear S;intro a u S;have hn3 : x.xs.length ≤ 9223372036854775807:=((S.u 0 rfl)).1.len;refine rs S (tr (mv rfl)<|tr (leni uT22 rfl)<|la (av rfl)) ?_;clear S;intro a u S;refine rs S (tr (mv rfl)<|tr (av rfl)<|la (av rfl)) ?_;clear S;intro a u S;refine wp_seq (wp_block ?_);refine lp2 (fun (i : Nat) (j : Nat)=>[(0,sV x),(1,iI v),(4,iI 0),(5,.bool false),(6,iN x.xs.length),(7,iN i),(8,iN j)]) (fun (i : Nat) (j : Nat)=>[]) (fun (i : Nat) (j : Nat)=>i ≤ j ∧ j ≤ x.xs.length ∧ (∀ k,k < i → x.xs.getD k intE.dflt < v) ∧ ∀ k,j ≤ k → k < x.xs.length → v ≤ x.xs.getD k intE.dflt) (fun (i : Nat) (j : Nat)=>j - i) S 0 x.xs.length (subM rfl) rfl ?_ ?_
 ·exact ⟨Nat.zero_le _,Nat.le_refl _,fun k hk=>by omega,fun k hk hk2=>by omega⟩
 clear S;intro i j a u S hR;obtain ⟨hij,hjn,hlo,hhi⟩:=hR;refine wp_seq ?_;refine rs S (tr (mv rfl)<|tr (mv rfl)<|la (lssi rfl rfl)) ?_;clear S;intro a u S;refine cd S rfl ?_ ?_
 ·intro hc0;refine wp_skip (then_n (wp_block (rs0 ?_)));refine sp S (tr (mv rfl)<|tr (mv rfl)<|tr (addi ((i + j : Nat) : Int) rfl rfl (w_i64 bo))<|tr (ov fun S=>x_conv uT3 uT40 (S.e rfl) (r := ((i + j : Nat) : Int)) (w_u64 bo))<|tr (ov fun S=>x_shr (S.e rfl) (S.e rfl) bo)<|tr (ov fun S=>x_conv uT40 uT3 (S.e rfl) (r := (IntKind.i64.wrap (sHr .u64 ((i + j : Nat) : Int) 1))) rfl)<|la (av rfl)) ?_; clear S; intro a u S;obtain ⟨hh, hhe, hh1, hh2⟩ : ∃ hh : Nat, ((hh : Nat) : Int) = (IntKind.i64.wrap (sHr .u64 ((i + j : Nat) : Int) 1)) ∧ i ≤ hh ∧ hh < j := ⟨(i + j) / 2, by rw [sHr_q (q := 2) rfl (by decide), show IntKind.i64.wrap (((i + j : Nat) : Int) / 2) = ((i + j : Nat) : Int) / 2 from w_i64 bo]; omega, by omega, by omega⟩;rw [← hhe] at S;refine ent ?_;obtain ⟨hl8, hu8⟩ : inI64 (x.xs.getD hh intE.dflt) := id (((S.u 0 rfl)).1.wf hh bo);refine rs S (tr (mv rfl)<|tr (mv rfl)<|tr (idxi uT22 sZ3 rfl rfl hh rfl bo (((S.u 0 rfl)).1.adr (i := hh) bo))<|tr (ov fun S=>x_load sC3 (S.e rfl) (((S.u 0 rfl)).1.cell hh bo 0 _ rfl))<|tr (mv rfl)<|la (oc (fun S=>cmpLess _ _ S.x (.nil _) (x.xs.getD hh intE.dflt) (((S.u 0 rfl)).1.wf hh bo) v v_h) cB130)) ?_; clear S; intro a u S;refine cd S rfl ?_ ?_
  ·intro hc1;refine rg S (tr (mv rfl)<|tr (addi ((hh + 1 : Nat) : Int) rfl rfl (w_i64 bo))<|la (av rfl)) ?_; clear S; intro a u S;refine blk_n (then_n ?_);refine ⟨hh + 1, j, S.re (subM rfl) rfl rfl, ?_, ?_⟩
   ·first | exact srch_lo hs hh1 hh2 hjn (by assumption) hhi | exact srch_hi hs hh1 hh2 hjn hlo (by assumption)
   omega
  intro hc2;refine rg S (tr (mv rfl)<|la (av rfl)) ?_;clear S;intro a u S;refine blk_n (then_n ?_);refine ⟨i,hh,S.re (subM rfl) rfl rfl,?_,?_⟩
  ·first | exact srch_lo hs hh1 hh2 hjn (by assumption) hhi | exact srch_hi hs hh1 hh2 hjn hlo (by assumption)
  omega
 intro hc3;refine wp_exit (then_e (then_e (blk_e (then_n ?_))));refine rs S (tr (mv rfl)<|tr (mv rfl)<|tr (mv rfl)<|tr (lssi rfl rfl)<|tr (mv rfl)<|tr (og 35 rfl gt fun S hg=>x_move (S.e rfl))<|tr (og 35 rfl gt fun S hg=>x_move (S.e rfl))<|tr (og 35 rfl gt fun S hg=>x_idx uT22 sZ3 (S.p rfl hg) (S.p rfl hg) i rfl bo (((S.u 0 rfl)).1.adr (i:=i) bo))<|tr (og 35 rfl gt fun S hg=>x_load sC3 (S.p rfl hg) (((S.u 0 rfl)).1.cell i bo 0 _ rfl))<|tr (og 35 rfl gt fun S hg=>x_move (S.e rfl))<|tr (og 35 rfl gt fun S hg=>x_eql (S.p rfl hg) (S.p rfl hg))<|tr (og 35 rfl gt fun S hg=>x_move (S.p rfl hg))<|tr (og 42 rfl ggf fun S hg=>x_move (S.e rfl))<|tr (og 42 rfl ggf fun S hg=>x_move (S.e rfl))<|tr (og 42 rfl ggf fun S hg=>x_idx uT22 sZ3 (S.p rfl hg) (S.p rfl hg) i rfl bo (((S.u 0 rfl)).1.adr (i:=i) bo))<|tr (og 42 rfl ggf fun S hg=>x_load sC3 (S.p rfl hg) (((S.u 0 rfl)).1.cell i bo 0 _ rfl))<|tr (ocg 42 rfl ggf (fun S hg=>sNaN _ _ S.x (.nil _) (x.xs.getD i intE.dflt) (((S.u 0 rfl)).1.wf i bo)) cB131 fun S=>⟨fun hg=>(S.p rfl hg),trivial⟩)<|tr (og 42 rfl ggf fun S hg=>x_move (S.p rfl hg))<|tr (og 48 rfl ggt fun S hg=>x_move (S.e rfl))<|tr (ocg 48 rfl ggt (fun S hg=>sNaN _ _ S.x (.nil _) v v_h) cB131 fun S=>⟨fun hg=>(S.p rfl hg),trivial⟩)<|tr (og 42 rfl ggf fun S hg=>x_and (S.p rfl hg) (fun hl=>(S.p rfl (And.intro hg hl))) (S.e rfl))<|tr (og 35 rfl gt fun S hg=>x_or (S.p rfl hg) (S.e rfl) (fun hl=>(S.p rfl (And.intro hg hl))))<|tr (andi rfl rfl rfl)<|tr (av rfl)<|la (av rfl)) ?_;clear S;intro a u S;refine wp_ret ?_;refine ret2 rfl S.s rfl rfl ?_;refine ⟨i,(r2 rfl (vb ?_)),?_,S.m.c⟩
 ·exact srch_in hs (show i = j by omega) hlo hhi
 exact ⟨by omega,hlo,fun k hk hk2=>hhi k bo hk2⟩
theorem sInsert (w : World) (F : Nat → Prop) (hF : Old F w) (x_a : Option Addr) (v_a : Option Addr) (M : MS [abk x_a, abk v_a] w) (hD : ∀ k, In [abk x_a, abk v_a] k → ¬ F k) (x_c : Nat) (x : List Int) (x_R : Row intE 3 0 F [abk x_a, abk v_a] w x_a x_c x) (i : Int) (i_h : inI64 i) (v_c : Nat) (v : List Int) (v_R : Row intE 3 0 F [abk x_a, abk v_a] w v_a v_c v) (hi : (0 ≤ i ∧ i ≤ x.length) ∧ v.length = 1 ∧ x.length ≤ 1000) :
 Calls Try.prog 127 #[.slice x_a x.length x_c,iI i,.slice v_a v.length v_c] w fun e w'=>∃ (ra : Option Addr) (rc : Nat),e = .returned (.slice ra ((x.take (i).toNat ++ v ++ x.drop (i).toNat).length) rc) ∧ Row intE 3 0 F [abk ra] w' ra rc (x.take (i).toNat ++ v ++ x.drop (i).toNat) ∧ Tr [abk x_a,abk v_a] w [abk ra] w':=ins_row M x_R v_R i hi
open Go.RowKit Go.Proofs.Ytobggnpnochnnaa
theorem cWait (w : World) (F : Nat → Prop) (hF : Old F w) (m_b : Nat) (m : Mach) (M : MS [In (ow (machF m_b m))] w) (hD : ∀ k, In [In (ow (machF m_b m))] k → ¬ F k) (m_k : machK m) (m_K : (bnO (machF m_b m)).p F (In [In (ow (machF m_b m))]) w) (d : Int) (d_h : inI64 d) (hs : m.waiting.xs.Pairwise (· < ·) ∧ m.waiting.xs.length ≤ 1000) :
 Calls Try.prog 122 #[pT m_b 0,iI d] w fun e w'=>∃ (m_1 : Mach),e = .returned (.tuple #[]) ∧ machK m_1 ∧ (bnO (machF m_b m_1)).p F (In [In (ow (machF m_b m_1))]) w' ∧ (KeepM m m_1 ∧ absM m_1 = {absM m with waiting:=insW m.waiting.xs d}) ∧ Tr [In (ow (machF m_b m))] w [In (ow (machF m_b m_1))] w':=by
 obtain ⟨d_hl,d_hu⟩ : inI64 d:=id d_h;obtain ⟨hs,hsl⟩:=hs;refine go Try.func122 rfl 31 rfl [] [bnO (machF m_b m)] hF M trivial ⟨m_K,trivial⟩ ?_;intro a S;refine rs0 ?_;refine sp S (tr (mv rfl)<|la (ov fun S=>x_nilck (S.e rfl))) ?_;clear S;intro a u S;replace S:=S.opnN 0 [blO m_b [sV m.rounds,sV m.states,iI m.round,bD (m.back = true),iI m.seq,sV m.target,sV m.known,sV m.waiting,sV m.sent] 166,rwO intE 3 0 m.target.a m.target.c m.target.xs,rwO intE 3 0 m.known.a m.known.c m.known.xs,rwO intE 3 0 m.waiting.a m.waiting.c m.waiting.xs,rwO intE 3 0 m.sent.a m.sent.c m.sent.xs,daO (slE (slE chgE)) m.rounds,daO (slE (slE intE)) m.states];replace S:=S.ar (wfF (slE (slE chgE)) m.rounds) (S.da 5 rfl);replace S:=S.ar (wfF (slE (slE intE)) m.states) (S.da 6 rfl);replace S:=S.pkc [0,1,2,3,4];have : m.target.xs.length ≤ 9223372036854775807:=(S.row 1 rfl).len_le;have : m.known.xs.length ≤ 9223372036854775807:=(S.row 2 rfl).len_le;have : m.waiting.xs.length ≤ 9223372036854775807:=(S.row 3 rfl).len_le;have : m.sent.xs.length ≤ 9223372036854775807:=(S.row 4 rfl).len_le;have : m.rounds.xs.length ≤ 9223372036854775807:=((S.u 0 rfl)).1.len;have : m.states.xs.length ≤ 9223372036854775807:=((S.u 1 rfl)).1.len;obtain ⟨_,_⟩ : inI64 m.round:=m_k.1;obtain ⟨_,_⟩ : inI64 m.seq:=m_k.2;refine sp S (tr (fldi 0 2 rfl uT166)<|tr (fldi (0 + 2) 5 rfl uT57)<|tr (ldk 0 sC22 rfl rfl rfl)<|la (mv rfl)) ?_;clear S;intro a u S;refine cl S (sSearch _ _ (S.xx [abk m.waiting.a]) (.nil _) (Sl.mk m.waiting.a m.waiting.c m.waiting.xs) (S.rargD hD 3 rfl nz _ (by simp)) d d_h (⟨by assumption,by omega⟩)) cB126 ?_;rintro e u ⟨r_t130,rfl,hr_t130,T0⟩;refine ⟨_,rfl,fun a s=>?_⟩;replace S:=S.k0 s T0;clear s T0;dsimp only at hr_t130;refine ens S (tr (mv rfl)<|tr (exi rfl rfl)<|tr (exi rfl rfl)<|tr (av rfl)<|la (av rfl)) ?_;clear S;intro a u S;refine rs S (tr (mv rfl)<|la (noti rfl)) ?_;clear S;intro a u S;refine cd S rfl ?_ ?_
 ·intro hc0;refine r0 ?_;refine sp S (tr (mv rfl)<|tr (mv rfl)<|tr (ov fun S=>x_nilck (S.e rfl))<|tr (fldi 0 2 rfl uT166)<|tr (fldi (0 + 2) 5 rfl uT57)<|tr (ldk 0 sC22 rfl rfl rfl)<|tr (mv rfl)<|la (mv rfl)) ?_;clear S;intro a u S;refine nbr intE S [d] (x_bs S [(0,iI d)] uT22 iZ3) (fun x hx=>by simp only [List.mem_cons,List.not_mem_nil,or_false] at hx;rw [hx];exact (show intE.wf _ _ d from d_h)) ?_;clear S;intro a u b26 S;replace S:=(S.b0 5 rfl).sh;replace S:=S.pkc [0,1,2,4,3,5];replace S:=S.spl 4;refine cl S (sInsert _ _ S.xxF m.waiting.a (some ⟨b26,0,none⟩) S.mF (S.nfF hD) m.waiting.c m.waiting.xs ⟨(S.dF   0 rfl mo_rw).1,(S.dF   0 rfl mo_rw).2⟩ ((r_t130 : Nat) : Int) ⟨by omega,by omega⟩ 1 ([d]) ⟨(S.dF   1 rfl mo_rw).1,(S.dF   1 rfl mo_rw).2⟩ (⟨⟨by omega,by omega⟩,by first | rfl | simp,by omega⟩)) cB127 ?_;rintro e u ⟨ra_t27,rc_t27,rfl,R_t27,T0⟩;refine ⟨_,rfl,fun a s=>?_⟩;have S2:=S.kF   [rwO intE 3 0 ra_t27 rc_t27 (m.waiting.xs.take (((r_t130 : Nat) : Int)).toNat ++ ([d]) ++ m.waiting.xs.drop (((r_t130 : Nat) : Int)).toNat)] s T0 ⟨⟨R_t27.b0.own,R_t27.wf⟩,trivial⟩ ⟨mo_rw,trivial⟩;replace S2:=S2.sh;clear S;have S:=S2;clear S2 s T0 R_t27;refine en S (tr (ov fun S=>x_nilck (S.e rfl))<|tr (fldi 0 2 rfl uT166)<|tr (fldi (0 + 2) 5 rfl uT57)<|la (stk 0 rfl rfl rfl)) ?_;clear S;intro a u S;replace S:=S.pkc [0,1,2,4,3];replace S:=S.oda (E:=slE (slE chgE)) (x:=m.rounds) (S.u 0 rfl);replace S:=S.oda (E:=slE (slE intE)) (x:=m.states) (S.u 1 rfl);have hk4 : machK (⟨m.rounds,m.states,m.round,m.back,m.seq,m.target,m.known,(Sl.mk ra_t27 rc_t27 (m.waiting.xs.take (((r_t130 : Nat) : Int)).toNat ++ ([d]) ++ m.waiting.xs.drop (((r_t130 : Nat) : Int)).toNat)),m.sent⟩ : Mach):=⟨m_k.1,m_k.2⟩;replace S:=S.clsN 0 (machF m_b (⟨m.rounds,m.states,m.round,m.back,m.seq,m.target,m.known,(Sl.mk ra_t27 rc_t27 (m.waiting.xs.take (((r_t130 : Nat) : Int)).toNat ++ ([d]) ++ m.waiting.xs.drop (((r_t130 : Nat) : Int)).toNat)),m.sent⟩ : Mach));refine end0 rfl S.s ?_;refine ⟨(⟨m.rounds,m.states,m.round,m.back,m.seq,(Sl.mk m.target.a m.target.c m.target.xs),(Sl.mk m.known.a m.known.c m.known.xs),(Sl.mk ra_t27 rc_t27 (m.waiting.xs.take (((r_t130 : Nat) : Int)).toNat ++ ([d]) ++ m.waiting.xs.drop (((r_t130 : Nat) : Int)).toNat)),(Sl.mk m.sent.a m.sent.c m.sent.xs)⟩ : Mach),rfl,hk4,(S.m.o _ (nth_mem (i:=0) rfl)),?_,S.m.c⟩;refine ⟨⟨rfl,rfl⟩,?_⟩;have hw:=insW_new hr_t130.1 hr_t130.2.1 hr_t130.2.2 hc0;unfold absM;simp only [hw,Int.toNat_natCast]
 intro hc1;refine wp_skip ?_;replace S:=S.oda (E:=slE (slE chgE)) (x:=m.rounds) (S.u 0 rfl);replace S:=S.oda (E:=slE (slE intE)) (x:=m.states) (S.u 1 rfl);have hk5 : machK (⟨m.rounds,m.states,m.round,m.back,m.seq,m.target,m.known,m.waiting,m.sent⟩ : Mach):=⟨m_k.1,m_k.2⟩;replace S:=S.clsN 0 (machF m_b (⟨m.rounds,m.states,m.round,m.back,m.seq,m.target,m.known,m.waiting,m.sent⟩ : Mach));refine end0 rfl S.s ?_;refine ⟨(⟨m.rounds,m.states,m.round,m.back,m.seq,(Sl.mk m.target.a m.target.c m.target.xs),(Sl.mk m.known.a m.known.c m.known.xs),(Sl.mk m.waiting.a m.waiting.c m.waiting.xs),(Sl.mk m.sent.a m.sent.c m.sent.xs)⟩ : Mach),rfl,hk5,(S.m.o _ (nth_mem (i:=0) rfl)),?_,S.m.c⟩;refine ⟨⟨rfl,rfl⟩,?_⟩;have hw:=insW_mem hs (Classical.not_not.1 hc1);unfold absM;simp only [hw]
open Go.RowKit Go.Proofs.Ytobggnpnochnnaa
theorem cStart (w : World) (F : Nat → Prop) (hF : Old F w) (m_b : Nat) (m : Mach) (M : MS [In (ow (machF m_b m))] w) (hD : ∀ k, In [In (ow (machF m_b m))] k → ¬ F k) (m_k : machK m) (m_K : (bnO (machF m_b m)).p F (In [In (ow (machF m_b m))]) w) (ok : MachOK m ∧ m.sent.xs.length ≤ 1000000) :
 Calls Try.prog 105 #[pT m_b 0] w fun e w'=>∃ (m_1 : Mach),e = .returned (.tuple #[]) ∧ machK m_1 ∧ (bnO (machF m_b m_1)).p F (In [In (ow (machF m_b m_1))]) w' ∧ (KeepM m m_1 ∧ absM m_1 = startC (rdsM m) (stsM m) (absM m)) ∧ Tr [In (ow (machF m_b m))] w [In (ow (machF m_b m_1))] w':=by
 obtain ⟨⟨PO,CO⟩,hsent⟩:=ok;have hRl:=rds_len m;have hSl:=sts_len m;have hP1:=PO.r1;have hP2:=PO.s1;have hPn:=PO.n1;have hC1 : -1 ≤ m.round ∧ m.round ≤ _:=CO.rd;have hsq : 0 ≤ m.seq ∧ m.seq ≤ 40:=CO.sqb hP1;have hkn : m.known.xs.length = _:=CO.kn;have hwt : Asc _ m.waiting.xs:=CO.wt;have hwl:=hwt.len;refine go Try.func105 rfl 94 rfl [] [bnO (machF m_b m)] hF M trivial ⟨m_K,trivial⟩ ?_;intro a S;refine rs0 ?_;refine sp S (tr (mv rfl)<|la (ov fun S=>x_nilck (S.e rfl))) ?_;clear S;intro a u S;replace S:=S.opnN 0 [blO m_b [sV m.rounds,sV m.states,iI m.round,bD (m.back = true),iI m.seq,sV m.target,sV m.known,sV m.waiting,sV m.sent] 166,rwO intE 3 0 m.target.a m.target.c m.target.xs,rwO intE 3 0 m.known.a m.known.c m.known.xs,rwO intE 3 0 m.waiting.a m.waiting.c m.waiting.xs,rwO intE 3 0 m.sent.a m.sent.c m.sent.xs,daO (slE (slE chgE)) m.rounds,daO (slE (slE intE)) m.states];replace S:=S.ar (wfF (slE (slE chgE)) m.rounds) (S.da 5 rfl);replace S:=S.ar (wfF (slE (slE intE)) m.states) (S.da 6 rfl);replace S:=S.pkc [0,1,2,3,4];have : m.target.xs.length ≤ 9223372036854775807:=(S.row 1 rfl).len_le;have : m.known.xs.length ≤ 9223372036854775807:=(S.row 2 rfl).len_le;have : m.waiting.xs.length ≤ 9223372036854775807:=(S.row 3 rfl).len_le;have : m.sent.xs.length ≤ 9223372036854775807:=(S.row 4 rfl).len_le;have : m.rounds.xs.length ≤ 9223372036854775807:=((S.u 0 rfl)).1.len;have : m.states.xs.length ≤ 9223372036854775807:=((S.u 1 rfl)).1.len;obtain ⟨_,_⟩ : inI64 m.round:=m_k.1;obtain ⟨_,_⟩ : inI64 m.seq:=m_k.2;refine ens S (tr (fldi 0 2 rfl uT166)<|tr (fldi (0 + 2) 0 rfl uT57)<|tr (ldk 0 sC3 rfl rfl rfl)<|la (av rfl)) ?_;clear S;intro a u S;refine wp_seq ?_;refine rs S (tr (mv rfl)<|tr (lssi rfl rfl)<|tr (mv rfl)<|tr (og 12 rfl gf fun S hg=>x_move (S.e rfl))<|tr (og 12 rfl gf fun S hg=>x_move (S.e rfl))<|tr (og 12 rfl gf fun S hg=>x_nilck (S.p rfl hg))<|tr (og 12 rfl gf fun S hg=>xf (0) 0 uT166 (S.p rfl hg))<|tr (og 12 rfl gf fun S hg=>x_load sC45 (S.p rfl hg) ((S.k 0 rfl).cell (j:=0) rfl))<|tr (og 12 rfl gf fun S hg=>x_len uT45 (S.p rfl hg))<|tr (og 12 rfl gf fun S hg=>x_geq (S.p rfl hg) (S.p rfl hg))<|la (ori rfl rfl rfl)) ?_;clear S;intro a u S;refine cd S rfl ?_ ?_
 ·intro hc0;refine wp_ret (then_r ?_);replace S:=S.oda (E:=slE (slE chgE)) (x:=m.rounds) (S.u 0 rfl);replace S:=S.oda (E:=slE (slE intE)) (x:=m.states) (S.u 1 rfl);have hk3 : machK (⟨m.rounds,m.states,m.round,m.back,m.seq,m.target,m.known,m.waiting,m.sent⟩ : Mach):=⟨m_k.1,m_k.2⟩;replace S:=S.clsN 0 (machF m_b (⟨m.rounds,m.states,m.round,m.back,m.seq,m.target,m.known,m.waiting,m.sent⟩ : Mach));refine ret0 rfl S.s  ?_;refine ⟨(⟨m.rounds,m.states,m.round,m.back,m.seq,(Sl.mk m.target.a m.target.c m.target.xs),(Sl.mk m.known.a m.known.c m.known.xs),(Sl.mk m.waiting.a m.waiting.c m.waiting.xs),(Sl.mk m.sent.a m.sent.c m.sent.xs)⟩ : Mach),rfl,hk3,(S.m.o _ (nth_mem (i:=0) rfl)),?_,S.m.c⟩;exact ⟨⟨rfl,rfl⟩,by show absM m = _;unfold startC;rw [if_pos (by rw [hRl];exact hc0)]⟩
 intro hc1;refine wp_skip (then_n ?_);refine rs S (tr (mv rfl)<|tr (ov fun S=>x_nilck (S.e rfl))<|tr (fldi 0 2 rfl uT166)<|tr (fldi (0 + 2) 2 rfl uT57)<|tr (ldk 0 sC3 rfl rfl rfl)<|tr (addi (m.seq + 1) rfl rfl (w_i64 bo))<|tr (ov fun S=>x_nilck (S.e rfl))<|tr (fldi 0 2 rfl uT166)<|tr (fldi (0 + 2) 2 rfl uT57)<|la (stk 0 rfl rfl rfl)) ?_;clear S;intro a u S;refine wp_seq ?_;have hn6 : ((m.rounds.xs.getD ((m.round).toNat) (slE chgE).dflt).xs).length ≤ 9223372036854775807:=((((S.u 0 rfl)).1.wf (m.round).toNat bo)).1.len;refine rs S (tr (mv rfl)<|tr (ov fun S=>x_nilck (S.e rfl))<|tr (fldi 0 0 rfl uT166)<|tr (ldk 0 sC45 rfl rfl rfl)<|tr (mv rfl)<|tr (idxi uT45 sZ122 rfl rfl (m.round).toNat bo bo (((S.u 0 rfl)).1.adr (i:=(m.round).toNat) bo))<|tr (ov fun S=>x_load sC122 (S.e rfl) (((S.u 0 rfl)).1.cell (m.round).toNat bo 0 _ rfl))<|tr (leni uT122 rfl)<|la (mv rfl)) ?_;clear S;intro a u S;refine wp_block ?_;replace S:=S.oda (E:=slE (slE chgE)) (x:=m.rounds) (S.u 0 rfl);replace S:=S.oda (E:=slE (slE intE)) (x:=m.states) (S.u 1 rfl);have hk7 : machK (⟨m.rounds,m.states,m.round,m.back,(m.seq + 1),m.target,m.known,m.waiting,m.sent⟩ : Mach):=⟨m_k.1,(show inI64 (m.seq + 1) from ⟨by omega,by omega⟩)⟩;replace S:=S.clsN 0 (machF m_b (⟨m.rounds,m.states,m.round,m.back,(m.seq + 1),m.target,m.known,m.waiting,m.sent⟩ : Mach));refine lp2 (fun (j1 : Nat) (mj : Mach)=>[(0,pT m_b 0),(2,iI m.round),(36,sV (m.rounds.xs.getD ((m.round).toNat) (slE chgE).dflt)),(37,iN (m.rounds.xs.getD ((m.round).toNat) (slE chgE).dflt).xs.length),(38,iN j1)]) (fun (j1 : Nat) (mj : Mach)=>[bnO (machF m_b mj)]) (fun (j1 : Nat) (mj : Mach)=>machK mj ∧ (j1 ≤ (m.rounds.xs.getD (m.round).toNat (slE chgE).dflt).xs.length ∧ KeepM m mj ∧ absM mj = ((m.rounds.xs.getD (m.round).toNat (slE chgE).dflt).xs.take j1).foldl (chgC ((stsM m).getD (m.round).toNat [])) {absM m with seq:=m.seq + 1})) (fun (j1 : Nat) (mj : Mach)=>(m.rounds.xs.getD (m.round).toNat (slE chgE).dflt).xs.length - j1) S 0 (⟨m.rounds,m.states,m.round,m.back,(m.seq + 1),(Sl.mk m.target.a m.target.c m.target.xs),(Sl.mk m.known.a m.known.c m.known.xs),(Sl.mk m.waiting.a m.waiting.c m.waiting.xs),(Sl.mk m.sent.a m.sent.c m.sent.xs)⟩ : Mach) (subM rfl) rfl ?_ ?_
 ·refine ⟨hk7,?_⟩;exact ⟨Nat.zero_le _,⟨rfl,rfl⟩,rfl⟩
 clear S;intro j1 mj a u S hR;obtain ⟨hk_mj,hR⟩:=hR;obtain ⟨hj1,hKm,hfold⟩:=hR;have hRd:=rd_of PO (k:=(m.round).toNat) bo;rw [rds_at] at hRd;have hQ : ChgK m.target.xs.length {absM m with seq:=m.seq + 1} (absM mj):=by rw [hfold];exact foldl_chgK _ (ChgK.refl hwt) (fun x hx=>hRd.2 x (List.mem_of_mem_take hx))
 have q1 : mj.round = m.round:=hQ.rd;have q2 : mj.back = m.back:=hQ.bk;have q3 : mj.seq = m.seq + 1:=hQ.sq;have q4 : mj.target.xs.length = m.target.xs.length:=hQ.tg;have q5 : Asc m.target.xs.length mj.waiting.xs:=hQ.wt;have q6 : mj.sent.xs = m.sent.xs:=hQ.sn;have q6l:=congrArg List.length q6;have q5l:=q5.len;have hwj : mj.waiting.xs.Pairwise (· < ·) ∧ mj.waiting.xs.length ≤ 1000:=⟨q5.1,by omega⟩;have hst:=st_of PO (k:=(m.round).toNat) bo;rw [sts_at] at hst;have q7 : mj.states.xs.length = m.states.xs.length:=by rw [hKm.2]
 have q8 : (mj.states.xs.getD (m.round).toNat (slE intE).dflt).xs.length = m.target.xs.length:=by rw [hKm.2];exact hst
 refine rs S (la (lssi rfl rfl)) ?_;clear S;intro a u S;refine wp_seq ?_;refine cd S rfl ?_ ?_
 ·intro hc2;have hx := hRd.2 _ (getD_mem (d := chgE.dflt) (i := j1) bo);refine wp_skip (then_n (wp_seq (wp_block (rs0 ?_))));obtain ⟨hl10, hu10⟩ : inI64 ((((m.rounds.xs.getD ((m.round).toNat) (slE chgE).dflt).xs).getD j1 chgE.dflt).dev) := id ((((((S.u 0 rfl)).1.wf (m.round).toNat bo)).1.wf j1 bo).1);obtain ⟨hl11, hu11⟩ : inI64 ((((m.rounds.xs.getD ((m.round).toNat) (slE chgE).dflt).xs).getD j1 chgE.dflt).ver) := id ((((((S.u 0 rfl)).1.wf (m.round).toNat bo)).1.wf j1 bo).2);refine sp S (tr (idxi uT122 sZ124 rfl rfl j1 rfl bo (((((S.u 0 rfl)).1.wf (m.round).toNat bo)).1.adr (i := j1) bo))<|la (ov fun S=>x_ldw (S.e rfl) (((((S.u 0 rfl)).1.wf (m.round).toNat bo)).1.wcell j1 bo _ rfl _ rfl) wD124)) ?_; clear S; intro a u S;refine nbp S (x_allocz _ iZ124 rfl) ?_; clear S; intro a u b4 S;refine ens S (la (stkw 1 rfl rfl rfl)) ?_; clear S; intro a u S;refine wp_seq ?_;replace S := S.pkc [1, 0];replace S := S.opnN 1 [blO m_b [sV mj.rounds, sV mj.states, iI mj.round, bD (mj.back = true), iI mj.seq, sV mj.target, sV mj.known, sV mj.waiting, sV mj.sent] 166, rwO intE 3 0 mj.target.a mj.target.c mj.target.xs, rwO intE 3 0 mj.known.a mj.known.c mj.known.xs, rwO intE 3 0 mj.waiting.a mj.waiting.c mj.waiting.xs, rwO intE 3 0 mj.sent.a mj.sent.c mj.sent.xs, daO (slE (slE chgE)) mj.rounds, daO (slE (slE intE)) mj.states];replace S := S.ar (wfF (slE (slE chgE)) mj.rounds) (S.da 6 rfl);replace S := S.ar (wfF (slE (slE intE)) mj.states) (S.da 7 rfl);replace S := S.pkc [0, 1, 2, 3, 4, 5];have : mj.target.xs.length ≤ 9223372036854775807 := (S.row 2 rfl).len_le;have : mj.known.xs.length ≤ 9223372036854775807 := (S.row 3 rfl).len_le;have : mj.waiting.xs.length ≤ 9223372036854775807 := (S.row 4 rfl).len_le;have : mj.sent.xs.length ≤ 9223372036854775807 := (S.row 5 rfl).len_le;have : mj.rounds.xs.length ≤ 9223372036854775807 := ((S.u 2 rfl)).1.len;have : mj.states.xs.length ≤ 9223372036854775807 := ((S.u 3 rfl)).1.len;obtain ⟨_, _⟩ : inI64 mj.round := hk_mj.1;obtain ⟨_, _⟩ : inI64 mj.seq := hk_mj.2;refine dr (P := Try.prog) S 10 [] [(42, .is _), (43, .is _), (44, .is _), (45, .is _), (46, .is _), (47, .is _), (48, .is _), (49, .is _), (50, .is _), (51, .is _)] [[], [42], [43], [44], [45], [], [47], [], [49], [46, 48]] [50, 51] _ ⟨qd (mv rfl), qd (ov fun S=>x_nilck (S.e rfl)), qd (fldi 0 2 rfl uT166), qd (fldi (0 + 2) 3 rfl uT57), qd (ldk 1 sC22 rfl rfl rfl), qd (fldi 0 0 rfl uT124), qd (ldk 0 sC3 rfl rfl rfl), qd (fldi 0 1 rfl uT124), qd (ldk 0 sC3 rfl rfl rfl), qd (ov fun S=>x_idx uT22 sZ3 (S.e rfl) (S.e rfl) ((((m.rounds.xs.getD ((m.round).toNat) (slE chgE).dflt).xs).getD j1 chgE.dflt).dev).toNat bo bo (row_off (S.row 2 rfl) (m := ((((m.rounds.xs.getD ((m.round).toNat) (slE chgE).dflt).xs).getD j1 chgE.dflt).dev).toNat) bo)), trivial⟩ ?_;clear S; intro a u S G hE;refine sp S (la (str (E := intE) 2 (by kernel_rfl) rfl rfl rfl ((((m.rounds.xs.getD ((m.round).toNat) (slE chgE).dflt).xs).getD j1 chgE.dflt).dev).toNat 0 bo nz ((((m.rounds.xs.getD ((m.round).toNat) (slE chgE).dflt).xs).getD j1 chgE.dflt).ver) (fun S=>(((((S.u 0 rfl)).1.wf (m.round).toNat bo)).1.wf j1 bo).2) rfl (by first | rfl | (show _ = _ * 1 + 0; omega) | (simp [intE]; omega) | simp [intE]) rfl)) ?_; clear S; intro a u S;have hls12 : (mj.target.xs.set ((((m.rounds.xs.getD ((m.round).toNat) (slE chgE).dflt).xs).getD j1 chgE.dflt).dev).toNat ((((m.rounds.xs.getD ((m.round).toNat) (slE chgE).dflt).xs).getD j1 chgE.dflt).ver)).length = mj.target.xs.length := by simp
  refine ent (wp_seq ?_);refine rs S (tr (mv rfl)<|tr (ov fun S=>x_nilck (S.e rfl))<|tr (fldi 0 2 rfl uT166)<|tr (fldi (0 + 2) 1 rfl uT57)<|la (ldk 1 sC4 rfl rfl rfl)) ?_;clear S;intro a u S;refine cd S rfl ?_ ?_
  ·intro hc3;have hn14 : ((mj.states.xs.getD ((m.round).toNat) (slE intE).dflt).xs).length ≤ 9223372036854775807 := ((((S.u 3 rfl)).1.wf (m.round).toNat bo)).1.len;obtain ⟨hl15, hu15⟩ : inI64 (((mj.states.xs.getD ((m.round).toNat) (slE intE).dflt).xs).getD (((((m.rounds.xs.getD ((m.round).toNat) (slE chgE).dflt).xs).getD j1 chgE.dflt).dev).toNat) intE.dflt) := id (((((S.u 3 rfl)).1.wf (m.round).toNat bo)).1.wf ((((m.rounds.xs.getD ((m.round).toNat) (slE chgE).dflt).xs).getD j1 chgE.dflt).dev).toNat bo);refine dr (P := Try.prog) S 19 [] [(57, .is _), (58, .is _), (59, .is _), (60, .is _), (61, .is _), (62, .is _), (63, .is _), (64, .is _), (65, .is _), (66, .is _), (67, .is _), (68, .is _), (69, .is _), (70, .is _), (71, .is _), (72, .is _), (73, .is _), (74, .is _), (75, .is _)] [[], [57], [58], [59], [60], [], [62], [], [64], [65], [66], [], [67, 68], [69], [], [71], [70, 72], [73], [61, 63]] [74, 75] _ ⟨qd (mv rfl), qd (ov fun S=>x_nilck (S.e rfl)), qd (fldi 0 2 rfl uT166), qd (fldi (0 + 2) 3 rfl uT57), qd (ldk 1 sC22 rfl rfl rfl), qd (fldi 0 0 rfl uT124), qd (ldk 0 sC3 rfl rfl rfl), qd (mv rfl), qd (ov fun S=>x_nilck (S.e rfl)), qd (fldi 0 1 rfl uT166), qd (ldk 1 sC66 rfl rfl rfl), qd (mv rfl), qd (idxi uT66 sZ22 rfl rfl (m.round).toNat bo bo (((S.u 3 rfl)).1.adr (i := (m.round).toNat) bo)), qd (ov fun S=>x_load sC22 (S.e rfl) (((S.u 3 rfl)).1.cell (m.round).toNat bo 0 _ rfl)), qd (fldi 0 0 rfl uT124), qd (ldk 0 sC3 rfl rfl rfl), qd (idxi uT22 sZ3 rfl rfl ((((m.rounds.xs.getD ((m.round).toNat) (slE chgE).dflt).xs).getD j1 chgE.dflt).dev).toNat bo bo (((((S.u 3 rfl)).1.wf (m.round).toNat bo)).1.adr (i := ((((m.rounds.xs.getD ((m.round).toNat) (slE chgE).dflt).xs).getD j1 chgE.dflt).dev).toNat) bo)), qd (ov fun S=>x_load sC3 (S.e rfl) (((((S.u 3 rfl)).1.wf (m.round).toNat bo)).1.cell ((((m.rounds.xs.getD ((m.round).toNat) (slE chgE).dflt).xs).getD j1 chgE.dflt).dev).toNat bo 0 _ rfl)), qd (ov fun S=>x_idx uT22 sZ3 (S.e rfl) (S.e rfl) ((((m.rounds.xs.getD ((m.round).toNat) (slE chgE).dflt).xs).getD j1 chgE.dflt).dev).toNat bo bo (row_off (S.row 2 rfl) (m := ((((m.rounds.xs.getD ((m.round).toNat) (slE chgE).dflt).xs).getD j1 chgE.dflt).dev).toNat) bo)), trivial⟩ ?_;clear S; intro a u S G hE;obtain ⟨hl16, hu16⟩ : inI64 (((mj.states.xs.getD ((m.round).toNat) (slE intE).dflt).xs).getD (((((m.rounds.xs.getD ((m.round).toNat) (slE chgE).dflt).xs).getD j1 chgE.dflt).dev).toNat) intE.dflt) := id (((((S.u 3 rfl)).1.wf (m.round).toNat bo)).1.wf ((((m.rounds.xs.getD ((m.round).toNat) (slE chgE).dflt).xs).getD j1 chgE.dflt).dev).toNat bo);obtain ⟨hl17, hu17⟩ : inI64 m.round := id m_k.1;refine sp S (la (str (E := intE) 2 (by kernel_rfl) rfl rfl rfl ((((m.rounds.xs.getD ((m.round).toNat) (slE chgE).dflt).xs).getD j1 chgE.dflt).dev).toNat 0 bo nz (((mj.states.xs.getD ((m.round).toNat) (slE intE).dflt).xs).getD (((((m.rounds.xs.getD ((m.round).toNat) (slE chgE).dflt).xs).getD j1 chgE.dflt).dev).toNat) intE.dflt) (fun S=>(((((S.u 3 rfl)).1.wf (m.round).toNat bo)).1.wf ((((m.rounds.xs.getD ((m.round).toNat) (slE chgE).dflt).xs).getD j1 chgE.dflt).dev).toNat bo)) rfl (by first | rfl | (show _ = _ * 1 + 0; omega) | (simp [intE]; omega) | simp [intE]) rfl)) ?_; clear S; intro a u S;have hls18 : ((mj.target.xs.set ((((m.rounds.xs.getD ((m.round).toNat) (slE chgE).dflt).xs).getD j1 chgE.dflt).dev).toNat ((((m.rounds.xs.getD ((m.round).toNat) (slE chgE).dflt).xs).getD j1 chgE.dflt).ver)).set ((((m.rounds.xs.getD ((m.round).toNat) (slE chgE).dflt).xs).getD j1 chgE.dflt).dev).toNat (((mj.states.xs.getD ((m.round).toNat) (slE intE).dflt).xs).getD (((((m.rounds.xs.getD ((m.round).toNat) (slE chgE).dflt).xs).getD j1 chgE.dflt).dev).toNat) intE.dflt)).length = mj.target.xs.length := by simp
   refine ent (r0 ?_);refine sp S (tr (mv rfl)<|tr (fldi 0 0 rfl uT124)<|la (ldk 0 sC3 rfl rfl rfl)) ?_;clear S;intro a u S;replace S:=(S.k1s 1 rfl (blO m_b [sV mj.rounds,sV mj.states,iI mj.round,bD (mj.back = true),iI mj.seq,.slice mj.target.a (((mj.target.xs.set ((((m.rounds.xs.getD ((m.round).toNat) (slE chgE).dflt).xs).getD j1 chgE.dflt).dev).toNat ((((m.rounds.xs.getD ((m.round).toNat) (slE chgE).dflt).xs).getD j1 chgE.dflt).ver)).set ((((m.rounds.xs.getD ((m.round).toNat) (slE chgE).dflt).xs).getD j1 chgE.dflt).dev).toNat (((mj.states.xs.getD ((m.round).toNat) (slE intE).dflt).xs).getD (((((m.rounds.xs.getD ((m.round).toNat) (slE chgE).dflt).xs).getD j1 chgE.dflt).dev).toNat) intE.dflt)).length) mj.target.c,sV mj.known,sV mj.waiting,sV mj.sent] 166) rfl S.s (Ch.refl _) (by have hb:=S.k 1 rfl;simp only [blO,List.length_set,List.length_replicate];exact hb)).sh;replace S:=S.oda (E:=slE (slE chgE)) (x:=mj.rounds) (S.u 2 rfl);replace S:=S.oda (E:=slE (slE intE)) (x:=mj.states) (S.u 3 rfl);have hk20 : machK (⟨mj.rounds,mj.states,mj.round,mj.back,mj.seq,(Sl.mk mj.target.a mj.target.c ((mj.target.xs.set ((((m.rounds.xs.getD ((m.round).toNat) (slE chgE).dflt).xs).getD j1 chgE.dflt).dev).toNat ((((m.rounds.xs.getD ((m.round).toNat) (slE chgE).dflt).xs).getD j1 chgE.dflt).ver)).set ((((m.rounds.xs.getD ((m.round).toNat) (slE chgE).dflt).xs).getD j1 chgE.dflt).dev).toNat (((mj.states.xs.getD ((m.round).toNat) (slE intE).dflt).xs).getD (((((m.rounds.xs.getD ((m.round).toNat) (slE chgE).dflt).xs).getD j1 chgE.dflt).dev).toNat) intE.dflt))),mj.known,mj.waiting,mj.sent⟩ : Mach):=⟨hk_mj.1,hk_mj.2⟩;replace S:=S.clsN 1 (machF m_b (⟨mj.rounds,mj.states,mj.round,mj.back,mj.seq,(Sl.mk mj.target.a mj.target.c ((mj.target.xs.set ((((m.rounds.xs.getD ((m.round).toNat) (slE chgE).dflt).xs).getD j1 chgE.dflt).dev).toNat ((((m.rounds.xs.getD ((m.round).toNat) (slE chgE).dflt).xs).getD j1 chgE.dflt).ver)).set ((((m.rounds.xs.getD ((m.round).toNat) (slE chgE).dflt).xs).getD j1 chgE.dflt).dev).toNat (((mj.states.xs.getD ((m.round).toNat) (slE intE).dflt).xs).getD (((((m.rounds.xs.getD ((m.round).toNat) (slE chgE).dflt).xs).getD j1 chgE.dflt).dev).toNat) intE.dflt))),mj.known,mj.waiting,mj.sent⟩ : Mach));obtain ⟨y21,hy21⟩ : ∃ y : Mach,(⟨mj.rounds,mj.states,mj.round,mj.back,mj.seq,(Sl.mk mj.target.a mj.target.c ((mj.target.xs.set ((((m.rounds.xs.getD ((m.round).toNat) (slE chgE).dflt).xs).getD j1 chgE.dflt).dev).toNat ((((m.rounds.xs.getD ((m.round).toNat) (slE chgE).dflt).xs).getD j1 chgE.dflt).ver)).set ((((m.rounds.xs.getD ((m.round).toNat) (slE chgE).dflt).xs).getD j1 chgE.dflt).dev).toNat (((mj.states.xs.getD ((m.round).toNat) (slE intE).dflt).xs).getD (((((m.rounds.xs.getD ((m.round).toNat) (slE chgE).dflt).xs).getD j1 chgE.dflt).dev).toNat) intE.dflt))),mj.known,mj.waiting,mj.sent⟩ : Mach) = y:=⟨_,rfl⟩;rw [hy21] at S hk20;replace S:=S.spl 1;refine cl S (cWait _ _ S.xxF m_b y21 S.mF (S.nfF hD) hk20 (S.dF   0 rfl (mo_bn (mo_mach _ _))) ((((m.rounds.xs.getD ((m.round).toNat) (slE chgE).dflt).xs).getD j1 chgE.dflt).dev) (((((S.u 0 rfl)).1.wf (m.round).toNat bo)).1.wf j1 bo).1 (by subst hy21;exact (by assumption))) cB122 ?_;rintro e u ⟨m_t79,rfl,hk_m_t79,hK_m_t79,hq_m_t79,T0⟩;refine ⟨_,rfl,fun a s=>?_⟩;have S2:=S.kF   [bnO (machF m_b m_t79)] s T0 ⟨hK_m_t79,trivial⟩ ⟨(mo_bn (mo_mach _ _)),trivial⟩;replace S2:=S2.sh;clear S;have S:=S2;clear S2 s T0 hK_m_t79;subst hy21;refine nn (blk_n (then_n ?_));refine rg S (tr (addi ((j1 + 1 : Nat) : Int) rfl rfl (w_i64 bo))<|la (mv rfl)) ?_;clear S;intro a u S;replace S:=S.pk [1];refine then_n ?_;refine ⟨(j1 + 1),m_t79,S.re (subM rfl) rfl rfl,?_,?_⟩
   ·refine ⟨hk_m_t79, ?_⟩;refine ⟨by omega, ⟨hq_m_t79.1.1.trans hKm.1, hq_m_t79.1.2.trans hKm.2⟩, ?_⟩;rw [foldl_take _ _ _ chgE.dflt bo, ← hfold];refine hq_m_t79.2.trans ?_;rw [sts_at];unfold chgC absM;dsimp only
    first
    | (rw [if_pos hc3];simp only [hKm.2,List.set_set];rfl)
    | (rw [if_neg hc4])
   omega
  intro hc4;refine wp_skip (then_n (r0 ?_));refine sp S (tr (mv rfl)<|tr (fldi 0 0 rfl uT124)<|la (ldk 0 sC3 rfl rfl rfl)) ?_;clear S;intro a u S;replace S:=(S.k1s 1 rfl (blO m_b [sV mj.rounds,sV mj.states,iI mj.round,bD (mj.back = true),iI mj.seq,.slice mj.target.a ((mj.target.xs.set ((((m.rounds.xs.getD ((m.round).toNat) (slE chgE).dflt).xs).getD j1 chgE.dflt).dev).toNat ((((m.rounds.xs.getD ((m.round).toNat) (slE chgE).dflt).xs).getD j1 chgE.dflt).ver)).length) mj.target.c,sV mj.known,sV mj.waiting,sV mj.sent] 166) rfl S.s (Ch.refl _) (by have hb:=S.k 1 rfl;simp only [blO,List.length_set,List.length_replicate];exact hb)).sh;replace S:=S.oda (E:=slE (slE chgE)) (x:=mj.rounds) (S.u 2 rfl);replace S:=S.oda (E:=slE (slE intE)) (x:=mj.states) (S.u 3 rfl);have hk24 : machK (⟨mj.rounds,mj.states,mj.round,mj.back,mj.seq,(Sl.mk mj.target.a mj.target.c (mj.target.xs.set ((((m.rounds.xs.getD ((m.round).toNat) (slE chgE).dflt).xs).getD j1 chgE.dflt).dev).toNat ((((m.rounds.xs.getD ((m.round).toNat) (slE chgE).dflt).xs).getD j1 chgE.dflt).ver))),mj.known,mj.waiting,mj.sent⟩ : Mach):=⟨hk_mj.1,hk_mj.2⟩;replace S:=S.clsN 1 (machF m_b (⟨mj.rounds,mj.states,mj.round,mj.back,mj.seq,(Sl.mk mj.target.a mj.target.c (mj.target.xs.set ((((m.rounds.xs.getD ((m.round).toNat) (slE chgE).dflt).xs).getD j1 chgE.dflt).dev).toNat ((((m.rounds.xs.getD ((m.round).toNat) (slE chgE).dflt).xs).getD j1 chgE.dflt).ver))),mj.known,mj.waiting,mj.sent⟩ : Mach));obtain ⟨y25,hy25⟩ : ∃ y : Mach,(⟨mj.rounds,mj.states,mj.round,mj.back,mj.seq,(Sl.mk mj.target.a mj.target.c (mj.target.xs.set ((((m.rounds.xs.getD ((m.round).toNat) (slE chgE).dflt).xs).getD j1 chgE.dflt).dev).toNat ((((m.rounds.xs.getD ((m.round).toNat) (slE chgE).dflt).xs).getD j1 chgE.dflt).ver))),mj.known,mj.waiting,mj.sent⟩ : Mach) = y:=⟨_,rfl⟩;rw [hy25] at S hk24;replace S:=S.spl 1;refine cl S (cWait _ _ S.xxF m_b y25 S.mF (S.nfF hD) hk24 (S.dF   0 rfl (mo_bn (mo_mach _ _))) ((((m.rounds.xs.getD ((m.round).toNat) (slE chgE).dflt).xs).getD j1 chgE.dflt).dev) (((((S.u 0 rfl)).1.wf (m.round).toNat bo)).1.wf j1 bo).1 (by subst hy25;exact (by assumption))) cB122 ?_;rintro e u ⟨m_t79,rfl,hk_m_t79,hK_m_t79,hq_m_t79,T0⟩;refine ⟨_,rfl,fun a s=>?_⟩;have S2:=S.kF   [bnO (machF m_b m_t79)] s T0 ⟨hK_m_t79,trivial⟩ ⟨(mo_bn (mo_mach _ _)),trivial⟩;replace S2:=S2.sh;clear S;have S:=S2;clear S2 s T0 hK_m_t79;subst hy25;refine nn (blk_n (then_n ?_));refine rg S (tr (addi ((j1 + 1 : Nat) : Int) rfl rfl (w_i64 bo))<|la (mv rfl)) ?_;clear S;intro a u S;replace S:=S.pk [1];refine then_n ?_;refine ⟨(j1 + 1),m_t79,S.re (subM rfl) rfl rfl,?_,?_⟩
  ·refine ⟨hk_m_t79, ?_⟩;refine ⟨by omega, ⟨hq_m_t79.1.1.trans hKm.1, hq_m_t79.1.2.trans hKm.2⟩, ?_⟩;rw [foldl_take _ _ _ chgE.dflt bo, ← hfold];refine hq_m_t79.2.trans ?_;rw [sts_at];unfold chgC absM;dsimp only
   first
   | (rw [if_pos hc3];simp only [hKm.2,List.set_set];rfl)
   | (rw [if_neg hc4])
  omega
 intro hc5;refine wp_exit (then_e (then_e (blk_e (then_n ?_))));replace S:=S.opnN 0 [blO m_b [sV mj.rounds,sV mj.states,iI mj.round,bD (mj.back = true),iI mj.seq,sV mj.target,sV mj.known,sV mj.waiting,sV mj.sent] 166,rwO intE 3 0 mj.target.a mj.target.c mj.target.xs,rwO intE 3 0 mj.known.a mj.known.c mj.known.xs,rwO intE 3 0 mj.waiting.a mj.waiting.c mj.waiting.xs,rwO intE 3 0 mj.sent.a mj.sent.c mj.sent.xs,daO (slE (slE chgE)) mj.rounds,daO (slE (slE intE)) mj.states];replace S:=S.ar (wfF (slE (slE chgE)) mj.rounds) (S.da 5 rfl);replace S:=S.ar (wfF (slE (slE intE)) mj.states) (S.da 6 rfl);replace S:=S.pkc [0,1,2,3,4];have : mj.target.xs.length ≤ 9223372036854775807:=(S.row 1 rfl).len_le;have : mj.known.xs.length ≤ 9223372036854775807:=(S.row 2 rfl).len_le;have : mj.waiting.xs.length ≤ 9223372036854775807:=(S.row 3 rfl).len_le;have : mj.sent.xs.length ≤ 9223372036854775807:=(S.row 4 rfl).len_le;have : mj.rounds.xs.length ≤ 9223372036854775807:=((S.u 2 rfl)).1.len;have : mj.states.xs.length ≤ 9223372036854775807:=((S.u 3 rfl)).1.len;obtain ⟨_,_⟩ : inI64 mj.round:=hk_mj.1;obtain ⟨_,_⟩ : inI64 mj.seq:=hk_mj.2;refine drH (P:=Try.prog) ((Option Addr) × Nat) (none,0) (fun g=>[wfF (slE (slE chgE)) m.rounds,wfF (slE (slE intE)) m.states,wfF (slE (slE chgE)) mj.rounds,wfF (slE (slE intE)) mj.states]) (fun g=>[blO m_b [sV mj.rounds,sV mj.states,iI mj.round,bD (mj.back = true),iI mj.seq,sV mj.target,sV mj.known,sV mj.waiting,sV mj.sent] 166,rwO intE 3 0 mj.target.a mj.target.c mj.target.xs,rwO intE 3 0 mj.known.a mj.known.c mj.known.xs,rwO intE 3 0 mj.waiting.a mj.waiting.c mj.waiting.xs,rwO intE 3 0 mj.sent.a mj.sent.c mj.sent.xs]) [⟨0,81,0,1,[],[0],fun g=>pT m_b 0,[]⟩,⟨1,82,0,0,[],[4,3,2,1],fun g=>pT m_b 0,[]⟩,⟨2,83,0,0,[],[4,3,2],fun g=>pT m_b 0,[82]⟩,⟨3,84,0,0,[],[4,3],fun g=>pT m_b (0 + 8),[83]⟩,⟨4,85,0,0,[],[4],fun g=>sV mj.sent,[84]⟩,⟨5,86,0,0,[],[9,8,7,6,5],fun g=>pT m_b 0,[]⟩,⟨6,87,0,0,[],[9,8,7,6],fun g=>pT m_b 0,[86]⟩,⟨7,88,0,0,[],[9,8,7],fun g=>pT m_b (0 + 2),[87]⟩,⟨8,89,0,0,[],[9,8],fun g=>pT m_b (0 + 2 + 5),[88]⟩,⟨9,90,0,0,[],[9],fun g=>sV mj.waiting,[89]⟩,⟨11,92,1,1,[10],[12,11],fun g=>pT m_b 0,[81]⟩,⟨12,93,1,1,[10],[12],fun g=>pT m_b (0 + 8),[92]⟩] [] [⟨10,some 91,fun g=>.slice g.1 ((mj.sent.xs ++ mj.waiting.xs).length) g.2,[85,90],fun g=>[wfF (slE (slE chgE)) m.rounds,wfF (slE (slE intE)) m.states,wfF (slE (slE chgE)) mj.rounds,wfF (slE (slE intE)) mj.states],fun g=>[blO m_b [sV mj.rounds,sV mj.states,iI mj.round,bD (mj.back = true),iI mj.seq,sV mj.target,sV mj.known,sV mj.waiting,sV mj.sent] 166,rwO intE 3 0 mj.target.a mj.target.c mj.target.xs,rwO intE 3 0 mj.known.a mj.known.c mj.known.xs,rwO intE 3 0 mj.waiting.a mj.waiting.c mj.waiting.xs,rwO intE 3 0 g.1 g.2 (mj.sent.xs ++ mj.waiting.xs)],fun g=>True⟩,⟨13,none,fun g=>undef,[93,91],fun g=>[wfF (slE (slE chgE)) m.rounds,wfF (slE (slE intE)) m.states,wfF (slE (slE chgE)) mj.rounds,wfF (slE (slE intE)) mj.states],fun g=>[blO m_b [sV mj.rounds,sV mj.states,iI mj.round,bD (mj.back = true),iI mj.seq,sV mj.target,sV mj.known,sV mj.waiting,.slice g.1 ((mj.sent.xs ++ mj.waiting.xs).length) g.2] 166,rwO intE 3 0 mj.target.a mj.target.c mj.target.xs,rwO intE 3 0 mj.known.a mj.known.c mj.known.xs,rwO intE 3 0 mj.waiting.a mj.waiting.c mj.waiting.xs,rwO intE 3 0 g.1 g.2 (mj.sent.xs ++ mj.waiting.xs)],fun g=>True⟩] [[10]] [] [] S (fun y hy=>by cases hy) (fun ⟨ad91,cap91⟩=>⟨rfl,rfl,rfl,rfl,rfl,rfl,rfl,rfl,rfl,rfl,rfl,rfl,rfl,trivial⟩) ?_ ?_ ⟨⟨_,rfl,rfl,?_⟩,⟨_,rfl,rfl,?_⟩,trivial⟩ ?_
 ·intro k g hk; obtain ⟨ad91, cap91⟩ := g; obtain rfl | rfl | rfl : k = 0 ∨ k = 1 ∨ k = 2 := by simp only [List.length_cons, List.length_nil] at hk; omega
  ·exact ⟨lkq rfl fun S=>x_move (S.e rfl),lkq rfl fun S=>x_move (S.e rfl),lkq rfl fun S=>x_nilck (S.e rfl),lkq rfl fun S=>x_fld (z:=0) (0) 8 uT166 rfl rfl (by kernel_rfl) (S.e rfl),lkq rfl fun S=>x_load sC22 (S.e rfl) ((S.k 0 rfl).cell (j:=8) rfl),lkq rfl fun S=>x_move (S.e rfl),lkq rfl fun S=>x_nilck (S.e rfl),lkq rfl fun S=>x_fld (z:=5) (0) 2 uT166 rfl rfl (by kernel_rfl) (S.e rfl),lkq rfl fun S=>x_fld (z:=0) (0 + 2) 5 uT57 rfl rfl (by kernel_rfl) (S.e rfl),lkq rfl fun S=>x_load sC22 (S.e rfl) ((S.k 0 rfl).cell (j:=7) rfl),lkm,lkm,trivial⟩
  ·exact ⟨lkq rfl fun S=>x_move (S.e rfl),lkn,lkn,lkn,lkn,lkn,lkn,lkn,lkn,lkn,lkq rfl fun S=>x_nilck (S.e rfl),lkq rfl fun S=>x_fld (z:=0) (0) 8 uT166 rfl rfl (by kernel_rfl) (S.e rfl),trivial⟩
  exact ⟨lkn,lkn,lkn,lkn,lkn,lkn,lkn,lkn,lkn,lkn,lkn,lkn,trivial⟩
 ·exact fun _ _ _=>trivial
 ·skip;intro g a u h;obtain ⟨ad91,cap91⟩:=g;obtain ⟨S,hR,hN⟩:=h;replace S:=S.h0;dsimp only at S;refine ap (E:=intE) (ys:=mj.waiting.xs) S 4 rfl uT22 iZ3 rfl rfl ((S.row 3 rfl).lat nz) (S.row 3 rfl).cap_le.2 (S.row 3 rfl).wf ⟨by unfold maxLen;(try simp only [List.length_cons,List.length_nil,List.length_append,List.length_map]);omega,by (try simp only [List.length_cons,List.length_nil,List.length_append,List.length_map]);omega⟩ ?_;clear S;intro a u ad91 cap91 S;refine ent ?_;exact ⟨S.s.defers,(ad91,cap91),(fun d h=>by obtain rfl:=Option.some.inj h;exact S.s.get _ _ rfl),agz,trivial,trivial,S.m,trivial⟩
 ·skip;intro g a u h;obtain ⟨ad91,cap91⟩:=g;obtain ⟨S,hR,hN⟩:=h;replace S:=S.hk (k:=0);dsimp only at S;refine ens S (la (stk 0 rfl rfl rfl)) ?_;clear S;intro a u S;exact ⟨S.s.defers,(ad91,cap91),(fun d h=>by cases h),agz,trivial,⟨rfl,trivial⟩,S.m,trivial⟩
 clear S;intro g a u hA S hR;obtain ⟨ad91,cap91⟩:=g;replace S:=(S.hk (k:=1)).l [(0,pT m_b 0),(2,iI m.round),(36,sV (m.rounds.xs.getD ((m.round).toNat) (slE chgE).dflt)),(37,iN (m.rounds.xs.getD ((m.round).toNat) (slE chgE).dflt).xs.length),(38,iN j1),(39,bD (((j1 : Nat) : Int) < (((m.rounds.xs.getD ((m.round).toNat) (slE chgE).dflt).xs.length : Nat) : Int))),(81,pT m_b 0),(82,pT m_b 0),(83,pT m_b 0),(84,pT m_b (0 + 8)),(85,sV mj.sent),(86,pT m_b 0),(87,pT m_b 0),(88,pT m_b (0 + 2)),(89,pT m_b (0 + 2 + 5)),(90,sV mj.waiting),(91,.slice ad91 ((mj.sent.xs ++ mj.waiting.xs).length) cap91),(92,pT m_b 0),(93,pT m_b (0 + 8))] (subM rfl);dsimp only at S;refine nn ?_;replace S:=S.oda (E:=slE (slE chgE)) (x:=mj.rounds) (S.u 2 rfl);replace S:=S.oda (E:=slE (slE intE)) (x:=mj.states) (S.u 3 rfl);have hk27 : machK (⟨mj.rounds,mj.states,mj.round,mj.back,mj.seq,mj.target,mj.known,mj.waiting,(Sl.mk ad91 cap91 (mj.sent.xs ++ mj.waiting.xs))⟩ : Mach):=⟨hk_mj.1,hk_mj.2⟩;replace S:=S.clsN 0 (machF m_b (⟨mj.rounds,mj.states,mj.round,mj.back,mj.seq,mj.target,mj.known,mj.waiting,(Sl.mk ad91 cap91 (mj.sent.xs ++ mj.waiting.xs))⟩ : Mach));refine end0 rfl S.s ?_;refine ⟨(⟨mj.rounds,mj.states,mj.round,mj.back,mj.seq,(Sl.mk mj.target.a mj.target.c mj.target.xs),(Sl.mk mj.known.a mj.known.c mj.known.xs),(Sl.mk mj.waiting.a mj.waiting.c mj.waiting.xs),(Sl.mk ad91 cap91 (mj.sent.xs ++ mj.waiting.xs))⟩ : Mach),rfl,hk27,(S.m.o _ (nth_mem (i:=0) rfl)),?_,S.m.c⟩;refine ⟨⟨hKm.1,hKm.2⟩,?_⟩;unfold startC;rw [if_neg (by rw [hRl];exact hc1),rds_at];have e:=hfold;rw [show j1 = (m.rounds.xs.getD (m.round).toNat (slE chgE).dflt).xs.length from by omega,List.take_length] at e;simp only [absM] at e ⊢;rw [← e]
end Go.Proofs.Ytobggnpnochnnaa.V
