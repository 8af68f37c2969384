/- Texts of this claim in one: part B. -/
import Derived.Test.YtobggnpnochnnaaJFAA
import Derived.Deep.Upon
import Derived.Laws.StructEq
import Derived.Laws.BytesArg
import Derived.Test.YtobggnpnochnnaaRows
import Derived.ProofKit
import Derived.OpenShut
import Derived.Deep.DeepHandedRow
import Derived.WideKeyArgs
import Derived.Deep.Slices
set_option linter.unusedVariables false
set_option linter.unusedSimpArgs false
set_option maxHeartbeats 4000000
set_option maxRecDepth 20000
/- One bundle of all that is known at a point of a walk: the slots,the data that is read,the blocks of the call's own. -/
namespace Go.Proofs.Ytobggnpnochnnaa.V
open Go.RowKit
def Mv (W W':Nat→Prop) (h h':Array Obj):Prop:=h.size≤h'.size∧∀ k,k < h.size→¬ W k→h'[k]?=h[k]?∧¬ W' k
def Fw (F W:Nat→Prop):Nat→Prop:=fun k=>¬ W k∧¬ F k
theorem Enc.mv {α:Type} (E:Enc α) {x:α} {F W W':Nat→Prop} {h h':Array Obj} (m:Mv W W' h h') (H:E.wf (Fw F W) h x):E.wf (Fw F W') h' x:=by
  have h1:E.wf (fun k=>k < h.size∧Fw F W k) h x:=E.mono (fun k hk h=>⟨hk,h⟩) H;have h2:=E.keep (h':=h') ⟨m.1,fun k hk h=>(m.2 k hk h.2.1).1⟩ h1;exact E.mono (fun k _ h=>⟨(m.2 k h.1 h.2.1).2,h.2.2⟩) h2
structure RF where
  p:(F W:Nat→Prop)→Array Obj→Prop
  st:∀ {F W W':Nat→Prop} {h h':Array Obj},Mv W W' h h'→p F W h→p F W' h'
structure OF where
  o:BS
  p:(F W:Nat→Prop)→World→Prop
  st:∀ {F W W':Nat→Prop} {w w':World},Mv W W' w.heap w'.heap→(∀ k,k < w.heap.size→o k→w'.heap[k]?=w.heap[k]?)→p F W w→p F W' w'
def wfF {α:Type} (E:Enc α) (x:α):RF:=⟨fun F W h=>E.wf (Fw F W) h x,fun m H=>E.mv m H⟩
def blF (b:Nat) (cs:List Value) (t:TypeId):RF:=⟨fun _ W h=>¬ W b∧Blk h b cs t,fun m H=>⟨(m.2 b H.2.lt H.1).2,(m.2 b H.2.lt H.1).1.trans H.2⟩⟩
def noO:OF:=⟨fun _=>False,fun _ _ _=>True,fun _ _ _=>trivial⟩
def blO (b:Nat) (cs:List Value) (t:TypeId):OF:=⟨one b,fun _ _ w=>Blk w.heap b cs t,fun _ h H=>(h b H.lt rfl).trans H⟩
def tpO (t:TypeId) (T:Nat) (tl:Sl Int):OF:=⟨one T,fun _ _ w=>TpB t T tl w,fun _ h ⟨i,hi,k⟩=>⟨i,hi,(h T k.lt rfl).trans k⟩⟩
def rwO {α:Type} (E:Enc α) (t:TypeId) (base:Nat) (ad:Option Addr) (cap:Nat) (xs:List α):OF :=
  ⟨abk ad,fun F W w=>w.ownsRow base t E.n (.slice ad xs.length cap) xs.length (xs.flatMap E.cells)∧∀ x∈xs,E.wf (Fw F W) w.heap x,fun m h H=>by
    refine ⟨⟨H.1.1,?_⟩,fun x hx=>E.mv m (H.2 x hx)⟩
    rcases H.1.2 with h1 | ⟨b,c,cur,h1,h2,h3,h4⟩
    · exact .inl h1
    · refine .inr ⟨b, c, cur, h1, h2, ?_, h4⟩
      injection h1 with h1
      subst h1;refine (h b ?_ rfl).trans h3
      rcases Nat.lt_or_ge b (Array.size _) with k | k
      · exact k
      · rw [Array.getElem?_eq_none k] at h3;cases h3⟩
def ow : List OF → List BS
  | []=>[]
  | f::r=>f.o::ow r
def nth {α : Type _} : List α → Nat → Option α
  | [],_=>none
  | x::_,0=>some x
  | _::r,i+1=>nth r i
theorem dI {α : Type _} : ∀ (l : List α) (i : Nat), nth l i = l[i]?
  | [],_=>by simp [nth]
  | _::_,0=>rfl
  | _::r,i+1=>by rw [nth,dI r i,List.getElem?_cons_succ]
theorem aA {α:Type _} {l:List α} {i:Nat} {x:α} (h:nth l i=some x):x∈l:=List.mem_of_getElem? ((dI l i).symm.trans h)
theorem fm : ∀ (os : List OF), ow os = os.map OF.o
  | []=>rfl
  | f::r=>by rw [ow,fm r];rfl
theorem fK {os:List OF} {i:Nat} {f:OF} (h:nth os i=some f):(ow os)[i]?=some f.o:=by
  rw [fm,List.getElem?_map,← dI,h];rfl
theorem ga {os:List OF} {f:OF} (h:f∈os):f.o∈ow os:=by rw [fm];exact List.mem_map_of_mem h
theorem bJ (os nw:List OF):ow (os++nw)=ow os++ow nw:=by simp [fm]
theorem uk {os:List OF} {i:Nat} {f g:OF} (h:nth os i=some f) (e:g.o=f.o):ow (os.set i g)=ow os:=by
  rw [fm,fm,List.map_set,e]
  apply List.ext_getElem?
  intro j;rw [List.getElem?_set];have h1:(os.map OF.o)[i]?=some f.o:=by rw [← fm];exact fK h
  split
  · rename_i hj; subst hj; rw [h1]; split
    · rfl
    · rename_i hl;exact absurd (List.getElem?_eq_some_iff.1 h1).1 hl
  · rfl
structure Mm (F:Nat→Prop) (w0:World) (m0:List BS) (rs:List RF) (os:List OF) (w:World):Prop where
  c:Tr m0 w0 (ow os) w
  f:Old F w0
  r:∀ f∈rs,f.p F (In (ow os)) w.heap
  o:∀ f∈os,f.p F (In (ow os)) w
structure St (F:Nat→Prop) (w0:World) (m0:List BS) (n:Nat) (L:List (Nat × Value)) (rs:List RF) (os:List OF) (a:Act) (w:World):Prop where
  s:aP n L a
  m:Mm F w0 m0 rs os w
section
variable {F:Nat→Prop} {w0 w w':World} {m0 ms ms':List BS} {n:Nat} {L L':List (Nat × Value)} {rs:List RF} {os os' nw:List OF} {a a':Act}
theorem Tr.mv (T:Tr ms w ms' w'):Mv (In ms) (In ms') w.heap w'.heap :=
  ⟨T.size,fun k hk hD=>⟨T.ch.block k hk hD,fun hm=>(T.sub k hm).elim hD fun e=>absurd hk (by omega)⟩⟩
theorem St.e (S:St F w0 m0 n L rs os a w) {x:Operand} {v:Value} (h:evS L x=some v):a.eval x=v:=S.s.eval h
theorem St.p (S:St F w0 m0 n L rs os a w) {x:Operand} {c:Prop} [Decidable c] {v u:Value} (h:evS L x=some (if c then v else u)) (hc:c):a.eval x=v:=(S.s.eval h).trans (if_pos hc)
theorem St.u {α:Type} {E:Enc α} {x:α} (S:St F w0 m0 n L rs os a w) (i:Nat) (h:nth rs i=some (wfF E x)):E.wf (Fr F (ow os)) w.heap x:=S.m.r _ (aA h)
theorem St.b {b:Nat} {cs:List Value} {t:TypeId} (S:St F w0 m0 n L rs os a w) (i:Nat) (h:nth rs i=some (blF b cs t)):pR (ow os) w.heap b cs t:=⟨(S.m.r _ (aA h)).2,(S.m.r _ (aA h)).1⟩
theorem St.k {b:Nat} {cs:List Value} {t:TypeId} (S:St F w0 m0 n L rs os a w) (i:Nat) (h:nth os i=some (blO b cs t)):Blk w.heap b cs t:=S.m.o _ (aA h)
theorem St.t {t:TypeId} {T:Nat} {tl:Sl Int} (S:St F w0 m0 n L rs os a w) (i:Nat) (h:nth os i=some (tpO t T tl)):TpB t T tl w:=S.m.o _ (aA h)
theorem St.row {α:Type} {E:Enc α} {t:TypeId} {base:Nat} {ad:Option Addr} {cap:Nat} {xs:List α} (S:St F w0 m0 n L rs os a w) (i:Nat) (h:nth os i=some (rwO E t base ad cap xs)):Row E t base F (ow os) w ad cap xs:=⟨(S.m.o _ (aA h)).1,(S.m.o _ (aA h)).2⟩
theorem St.x (S:St F w0 m0 n L rs os a w):Old (Ex F (ow os)) w:=S.m.c.old S.m.f
theorem St.xx (S:St F w0 m0 n L rs os a w) (o:List BS):Old (Exc F (ow os) o) w:=S.m.c.oldx S.m.f
theorem St.M (S:St F w0 m0 n L rs os a w):MS (ow os) w:=S.m.c.ms
theorem dn0 {α:Type} {E:Enc α} {x:α} {h:Array Obj} (H:E.wf (Fr F ms) h x):E.wf (Fr (Ex F ms) []) h x:=E.mono (fun k _ h=>⟨fun e=>e,fun e=>e.elim h.1 h.2⟩) H
theorem dnx {α:Type} {E:Enc α} {x:α} {h:Array Obj} {o:List BS} (H:E.wf (Fr F ms) h x):E.wf (Fr (Exc F ms o) []) h x:=E.mono (fun k _ h=>⟨fun e=>e,fun e=>e.elim (fun e=>h.1 e.1) h.2⟩) H
theorem dn1 {α:Type} {E:Enc α} {x:α} {h:Array Obj} {js:List Nat} (H:E.wf (Fr F ms) h x):E.wf (Fr (Ex F ms) (cj ms js)) h x:=E.mono (fun k _ h=>⟨fun e=>h.1 (dR e),fun e=>e.elim h.1 h.2⟩) H
theorem Mm.go (M:Mm F w0 m0 rs os w) (T:Tr (ow os) w (ow os') w') (ho:∀ f∈os',f.p F (In (ow os')) w'):Mm F w0 m0 rs os' w' :=
  ⟨M.c.trans T,M.f,fun f hf=>f.st T.mv (M.r f hf),ho⟩
theorem Mm.sep (M:Mm F w0 m0 rs os w) {i:Nat} {f:OF} (hi:nth os i=some f) (js:List Nat) (hj:js.contains i=false) {k:Nat} (hk:f.o k):¬ In (cj (ow os) js) k:=M.c.ms.sep.out i js hj (fK hi) hk
theorem ky {α:Type _} {l:List α} {x:α} (h:x∈l):∃ i,nth l i=some x:=by
  obtain ⟨i,hi,e⟩:=List.getElem_of_mem h;exact ⟨i,by rw [dI,List.getElem?_eq_getElem hi,e]⟩
theorem Mm.k0 (M:Mm F w0 m0 rs os w) (g:Ch (In []) w w'):Mm F w0 m0 rs os w':=by
  have T:=Tr.iK M.c.ms g;exact M.go T fun f hf=>f.st T.mv (fun k hk _=>g.block k hk id) (M.o f hf)
theorem St.k0 (S:St F w0 m0 n L rs os a w) (s:aP n L' a') (t:Tr [] w [] w'):St F w0 m0 n L' rs os a' w':=⟨s,S.m.k0 t.ch⟩
theorem Mm.k1 (M:Mm F w0 m0 rs os w) (j:Nat) {f:OF} (hj:nth os j=some f) (f':OF) (e:f'.o=f.o) (t:Ch (In [f.o]) w w') (hf:f'.p F (In (ow os)) w'):Mm F w0 m0 rs (os.set j f') w':=by
  have T:Tr (ow os) w (ow (os.set j f')) w':=by
    rw [uk hj e];exact Tr.uq M.c.ms t fun o ho=>by simp at ho;subst ho;exact ga (aA hj)
  refine M.go T fun g hg=>?_;rw [uk hj e] at T ⊢;obtain ⟨i,hi⟩:=ky hg;rw [dI,List.getElem?_set] at hi
  split at hi
  · split at hi
    · cases hi;exact hf
    · cases hi
  · rename_i hne;rw [← dI] at hi;refine g.st T.mv (fun k hk ho=>t.block k hk fun hm=>?_) (M.o g (aA hi));have:=M.sep hi [j] (by simp;omega) ho;simp only [cj,List.filterMap_cons,fK hj,List.filterMap_nil] at this;exact this hm
theorem vT {os:List OF} {j:Nat} {f:OF} (h:nth os j=some f):os.set j f=os:=by
  apply List.ext_getElem?
  intro i;rw [List.getElem?_set]
  split
  · rename_i e; subst e; rw [← dI, h]; split
    · rfl
    · rename_i hl;rw [dI] at h;exact absurd (List.getElem?_eq_some_iff.1 h).1 hl
  · rfl
theorem St.k1 (S:St F w0 m0 n L rs os a w) (j:Nat) {f:OF} (hj:nth os j=some f) (s:aP n L' a') (t:Tr [f.o] w [f.o] w') (hf:f.p F (In (ow os)) w'):St F w0 m0 n L' rs os a' w' :=
  ⟨s,by have:=S.m.k1 j hj f rfl t.ch hf;rwa [vT hj] at this⟩
theorem St.k1s (S:St F w0 m0 n L rs os a w) (j:Nat) {f:OF} (hj:nth os j=some f) (f':OF) (e:f'.o=f.o) (s:aP n L' a') (t:Ch (In [f.o]) w w') (hf:f'.p F (In (ow os)) w'):St F w0 m0 n L' rs (os.set j f') a' w':=⟨s,S.m.k1 j hj f' e t hf⟩
theorem Sep.comm : ∀ {x y : List BS}, Sep (x ++ y) → Sep (y ++ x)
  | [],y,s=>by simpa using s
  | o::x,y,s=>by
    have h1:=Sep.comm s.2;have:∀ (y:List BS),Sep (y++x)→(∀ k,o k→¬ In (y++x) k)→Sep (y++o::x):=by
      intro y
      induction y with
      | nil=>intro s h;exact ⟨h,s⟩
      | cons p r ih =>
        intro s h;refine ⟨fun k hk hm=>?_,ih s.2 fun k hk hm=>h k hk (.inr hm)⟩
        rcases aK.1 hm with q | q | q
        · exact s.1 k hk (aK.2 (.inl q))
        · exact h k q (.inl hk)
        · exact s.1 k hk (aK.2 (.inr q))
    exact this y h1 fun k hk hm=>s.1 k hk (aK.2 ((aK.1 hm).symm))
theorem Tr.comm {x y:List BS} (t:Tr ms w (x++y) w'):Tr ms w (y++x) w' :=
  ⟨t.ch,fun k hk=>t.sub k (aK.2 (aK.1 hk).symm),⟨fun k hk=>t.ms.lt k (aK.2 (aK.1 hk).symm),t.ms.sep.comm⟩⟩
theorem Mm.nu (M:Mm F w0 m0 rs os w) (nw:List OF) (T:Tr (ow os) w (ow nw++ow os) w') (g:Ch (In []) w w') (hn:∀ f∈nw,f.p F (In (ow os++ow nw)) w'):Mm F w0 m0 rs (os++nw) w':=by
  have T':=T.comm;refine M.go (by rw [bJ];exact T') fun f hf=>?_;rw [bJ]
  rcases List.mem_append.1 hf with h | h
  · exact f.st T'.mv (fun k hk _=>g.block k hk id) (M.o f h)
  · exact hn f h
theorem Mm.n1 (M:Mm F w0 m0 rs os w) (f:OF) {b:Nat} (hb:w.heap.size=b) (hl:b < w'.heap.size) (ho:∀ k,f.o k→k=b) (g:Ch (In []) w w') (hf:f.p F (In (ow os++[f.o])) w'):Mm F w0 m0 rs (os++[f]) w' :=
  M.nu [f] ((Tr.iK M.c.ms g).cons fun k hk=>by
    obtain rfl:=ho k hk
    exact ⟨by omega,hl,fun h=>by have:=M.c.ms.lt _ h;omega⟩) g fun f' h=>by simp at h;subst h;exact hf
structure Rw where
  α:Type
  E:Enc α
  t:TypeId
  ad:Option Addr
  cap:Nat
  xs:List α
def Rw.of (r:Rw) (base:Nat):OF:=rwO r.E r.t base r.ad r.cap r.xs
def Rw.ok (r:Rw) (base:Nat) (F:Nat→Prop) (ms:List BS) (w:World):Prop:=Row r.E r.t base F ms w r.ad r.cap r.xs
def kE : List Rw → List BS
  | []=>[]
  | r::l=>abk r.ad::kE l
def kR (base : Nat) (F : Nat → Prop) (ms : List BS) (w : World) : List Rw → Prop
  | []=>True
  | r::l=>r.ok base F ms w∧kR base F ms w l
theorem kR.get {base : Nat} {ms : List BS} : ∀ {l : List Rw}, kR base F ms w l → ∀ r ∈ l, r.ok base F ms w
  | _::_,h,r,hr=>(List.mem_cons.1 hr).elim (fun e=>e▸h.1) fun hr=>h.2.get r hr
def ofs (base : Nat) : List Rw → List OF
  | []=>[]
  | r::l=>r.of base::ofs base l
theorem nW (base : Nat) : ∀ l : List Rw, ow (ofs base l) = kE l
  | []=>rfl
  | r::l=>by rw [ofs,ow,nW base l];rfl
theorem om {base : Nat} {f : OF} : ∀ {l : List Rw}, f ∈ ofs base l → ∃ r ∈ l, f = r.of base
  | r::l,h=>(List.mem_cons.1 h).elim (fun e=>⟨r,List.mem_cons_self,e⟩) fun h=>let ⟨q,h1,h2⟩:=om h;⟨q,List.mem_cons_of_mem _ h1,h2⟩
theorem St.kr (S:St F w0 m0 n L rs os a w) (l:List Rw) (s:aP n L' a') (t:Tr [] w (kE l) w') (h:kR w.heap.size (Ex F (ow os)) (kE l) w' l):St F w0 m0 n L' rs (os++ofs w0.heap.size l) a' w':=by
  refine ⟨s,S.m.nu (ofs w0.heap.size l) ?_ t.ch fun f hf=>?_⟩
  · rw [nW];exact Tr.frame (m0:=[]) S.M (by simpa using t) fun _ h=>by simp at h
  · obtain ⟨r,hr,rfl⟩:=om hf;have h1:=Row.ups (m0:=[]) (nw:=kE l) (by have:=h.get r hr;unfold Rw.ok at this;simpa using this) S.m.c.size;rw [nW];refine ⟨h1.own,fun x hx=>Enc.mono _ (fun k _ hk=>⟨fun e=>hk.1 (aK.2 (aK.1 e).symm),hk.2⟩) (h1.wf x hx)⟩
theorem St.kr1 (S:St F w0 m0 n L rs os a w) (j:Nat) {f:OF} (hj:nth os j=some f) (l:List Rw) (s:aP n L' a') (t:Tr [f.o] w (kE l++[f.o]) w') (h:kR w.heap.size (Ex F (ow os)) (kE l++[f.o]) w' l) (hf:∀ W,f.p F W w'):St F w0 m0 n L' rs (os++ofs w0.heap.size l) a' w':=by
  have hsub:∀ o,o∈[f.o]→o∈ow os:=fun o ho=>by simp at ho;subst ho;exact ga (aA hj)
  have T:=(Tr.frame S.M t hsub).comm;have e:ow (os++ofs w0.heap.size l)=ow os++kE l:=by rw [bJ,nW]
  refine ⟨s,S.m.go (by rw [e];exact T) fun g hg=>?_⟩;rw [e]
  rcases List.mem_append.1 hg with q | q
  · obtain ⟨i, hi⟩ := ky q
    by_cases hij:i=j
    · subst hij; rw [hj] at hi; cases hi
      exact hf _
    · refine g.st T.mv (fun k hk ho=>t.ch.block k hk fun hm=>?_) (S.m.o g q);have:=S.m.sep hi [j] (by simp;omega) ho;simp only [cj,List.filterMap_cons,fK hj,List.filterMap_nil] at this;exact this hm
  · obtain ⟨r,hr,rfl⟩:=om q;have h1:=Row.ups (nw:=kE l) (h.get r hr) S.m.c.size;exact ⟨h1.own,fun x hx=>Enc.mono _ (fun k _ hk=>⟨fun e=>hk.1 (aK.2 (aK.1 e).symm),hk.2⟩) (h1.wf x hx)⟩
theorem St.ar (S:St F w0 m0 n L rs os a w) (f:RF) (h:f.p F (In (ow os)) w.heap):St F w0 m0 n L (rs++[f]) os a w :=
  ⟨S.s,S.m.c,S.m.f,fun g hg=>(List.mem_append.1 hg).elim (S.m.r g) fun hg=>by simp at hg;subst hg;exact h,S.m.o⟩
theorem Sep.pick : ∀ {ms : List BS} (is : List Nat) (_ : Sep ms), is.Nodup → Sep (cj ms is)
  | ms,[],_,_=>trivial
  | ms,i::is,s,hp=>by
    have ih:=Sep.pick (ms:=ms) is s (List.nodup_cons.1 hp).2;unfold cj
    cases h:ms[i]? with
    | none=>rw [List.filterMap_cons,h];exact ih
    | some o =>
      rw [List.filterMap_cons,h];refine ⟨fun k hk hm=>?_,ih⟩;refine s.out i is ?_ h hk hm
      cases hc:is.contains i
      · rfl
      · exact absurd (List.contains_iff_mem.1 hc) (List.nodup_cons.1 hp).1
theorem MS.pick (h:MS ms w) (is:List Nat) (hi:is.Nodup):MS (V.cj ms is) w:=⟨fun k hk=>h.lt k (dR hk),h.sep.pick is hi⟩
def gw (os : List OF) : List Nat → List OF
  | []=>[]
  | i::is=>match nth os i with
    | some f=>f::gw os is
    | none=>gw os is
theorem nU (os : List OF) : ∀ is, ow (gw os is) = cj (ow os) is
  | []=>rfl
  | i::is=>by
    unfold gw cj;rw [List.filterMap_cons]
    cases h:nth os i with
    | some f=>rw [fK h];simp only;rw [ow,nU os is];rfl
    | none =>
      have:(ow os)[i]?=none:=by rw [fm,List.getElem?_map,← dI,h];rfl
      rw [this];exact nU os is
theorem lX {os : List OF} {f : OF} : ∀ {is : List Nat}, f ∈ gw os is → f ∈ os
  | i::is,h=>by
    unfold gw at h
    cases hi:nth os i with
    | some g=>rw [hi] at h;exact (List.mem_cons.1 h).elim (fun e=>e▸aA hi) fun h=>lX h
    | none=>rw [hi] at h;exact lX h
theorem St.pk (S:St F w0 m0 n L rs os a w) (is:List Nat) {os':List OF} (hi:is.Nodup:=by decide) (e:gw os is=os':=by rfl):St F w0 m0 n L rs os' a w:=by
  subst e;have T:Tr (ow os) w (ow (gw os is)) w:=by
    rw [nU];exact ⟨Ch.refl w,fun k hk=>.inl (dR hk),S.M.pick is hi⟩
  exact ⟨S.s,S.m.go T fun f hf=>f.st T.mv (fun _ _ _=>rfl) (S.m.o f (lX hf))⟩
theorem nz {a n:Nat} (h:a < n:=by first | decide | exact Nat.one_pos | exact Nat.succ_pos _):a < n:=h
theorem bo {p:Prop} (h:p:=by omega):p:=h
theorem bd {p:Prop} (h:p:=by first | omega | (dsimp only;omega)):p:=h
theorem bp {p:Prop} (h:p:=by exact ⟨by omega,by omega⟩):p:=h
theorem bK {p:Prop} (h:p:=by kernel_rfl):p:=h
theorem ba {p:Prop} (h:p:=by assumption):p:=h
theorem lnz:(∀ (α:Type) (a:α) (l:List α),(a::l).length=l.length+1)∧(∀ α:Type,([]:List α).length=0)∧(∀ (α:Type) (l m:List α),(l++m).length=l.length+m.length)∧(∀ (α β:Type) (f:α→β) (l:List α),(l.map f).length=l.length):=⟨fun _ _ _=>rfl,fun _=>rfl,fun _ _ _=>List.length_append,fun _ _ _ _=>List.length_map _⟩
theorem bL {p:Prop} (h:p:=by (try simp only [lnz]);omega):p:=h
theorem bM {p:Prop} (h:p:=by unfold maxLen;(try simp only [lnz]);omega):p:=h
theorem noI (F:Nat→Prop):∀ k,In ([]:List BS) k→¬ F k:=fun _ h=>h.elim
theorem gD {n k:Nat} {L:List (Nat × Value)} {a:Act} {v:Value} (s:aP n L a) (h:look k L=some v):∀ d,some k=some d→a.tmps.getD d undef=v:=fun d q=>by obtain rfl:=Option.some.inj q;exact s.get _ _ h
class w8 (os:List OF) (i:Nat) (f:outParam OF):Prop where
  eq:nth os i=some f
instance nthC0 (f:OF) (os:List OF):w8 (f::os) 0 f:=⟨rfl⟩
instance nthCs (g f:OF) (os:List OF) (i:Nat) [h:w8 os i f]:w8 (g::os) (i+1) f:=⟨h.eq⟩
class PkC (os:List OF) (is:List Nat) (os':outParam (List OF)):Prop where
  eq:gw os is=os'
instance pkC0 (os:List OF):PkC os [] []:=⟨rfl⟩
instance pkCs (os os':List OF) (i:Nat) (is:List Nat) (f:OF) [h:w8 os i f] [k:PkC os is os']:PkC os (i::is) (f::os'):=⟨by rw [gw,h.eq,k.eq]⟩
class w5 (os:List OF) (i:Nat) (v:OF) (os':outParam (List OF)):Prop where
  eq:os.set i v=os'
instance setC0 (f v:OF) (os:List OF):w5 (f::os) 0 v (v::os):=⟨rfl⟩
instance setCs (f v:OF) (os os':List OF) (i:Nat) [h:w5 os i v os']:w5 (f::os) (i+1) v (f::os'):=⟨by rw [List.set_cons_succ,h.eq]⟩
class ApC (a b:List OF) (c:outParam (List OF)):Prop where
  eq:a++b=c
instance apC0 (b:List OF):ApC [] b b:=⟨rfl⟩
instance apCs (x:OF) (a b c:List OF) [h:ApC a b c]:ApC (x::a) b (x::c):=⟨by rw [List.cons_append,h.eq]⟩
class TkC (n:Nat) (os:List OF) (ks fs:outParam (List OF)):Prop where
  eq:os=ks++fs
instance tkC0 (os:List OF):TkC 0 os [] os:=⟨rfl⟩
instance tkCs (n:Nat) (x:OF) (os ks fs:List OF) [h:TkC n os ks fs]:TkC (n+1) (x::os) (x::ks) fs:=⟨by rw [List.cons_append,← h.eq]⟩
class VsC (l:List Value) (i:Nat) (v:Value) (l':outParam (List Value)):Prop where
  eq:l.set i v=l'
instance vsC0 (x v:Value) (l:List Value):VsC (x::l) 0 v (v::l):=⟨rfl⟩
instance vsCs (x v:Value) (l l':List Value) (i:Nat) [h:VsC l i v l']:VsC (x::l) (i+1) v (x::l'):=⟨by rw [List.set_cons_succ,h.eq]⟩
class VlC (l:List Value) (l':outParam (List Value)):Prop where
  eq:l=l'
instance vlC0 (l:List Value):VlC l l:=⟨rfl⟩
instance vlCset (l l1 l2:List Value) (i:Nat) (v:Value) [h:VlC l l1] [k:VsC l1 i v l2]:VlC (l.set i v) l2:=⟨by rw [h.eq,k.eq]⟩
class OfC (x:OF) (x':outParam OF):Prop where
  eq:x=x'
instance ofC0 (x:OF):OfC x x:=⟨rfl⟩
instance ofCb (b t:Nat) (l l':List Value) [h:VlC l l']:OfC (blO b l t) (blO b l' t):=⟨by rw [h.eq]⟩
class ShC (os:List OF) (os':outParam (List OF)):Prop where
  eq:os=os'
instance shC0:ShC [] []:=⟨rfl⟩
instance shCs (x x':OF) (a b:List OF) [q:OfC x x'] [h:ShC a b]:ShC (x::a) (x'::b):=⟨by rw [h.eq,q.eq]⟩
instance shCo0 (base:Nat):ShC (ofs base []) []:=⟨rfl⟩
instance shCo (base:Nat) (α:Type) (E:Enc α) (t:TypeId) (ad:Option Addr) (cap:Nat) (xs:List α) (l:List Rw) (l':List OF) [h:ShC (ofs base l) l']:ShC (ofs base (⟨α,E,t,ad,cap,xs⟩::l)) (rwO E t base ad cap xs::l'):=⟨by rw [ofs,h.eq];rfl⟩
instance shCa (a b a' b' c:List OF) [h:ShC a a'] [k:ShC b b'] [q:ApC a' b' c]:ShC (a++b) c:=⟨by rw [h.eq,k.eq,q.eq]⟩
instance shCset (a a' b:List OF) (i:Nat) (v v':OF) [h:ShC a a'] [q:OfC v v'] [k:w5 a' i v' b]:ShC (a.set i v) b:=⟨by rw [h.eq,q.eq,k.eq]⟩
theorem St.pkc {os1 os':List OF} (S:St F w0 m0 n L rs os a w) (is:List Nat) [q:ShC os os1] [h:PkC os1 is os'] (hi:is.Nodup:=by decide):St F w0 m0 n L rs os' a w:=St.pk (q.eq▸S) is hi h.eq
theorem St.sh {os':List OF} (S:St F w0 m0 n L rs os a w) [h:ShC os os']:St F w0 m0 n L rs os' a w:=h.eq▸S
theorem St.spl {os1 ks fs:List OF} (S:St F w0 m0 n L rs os a w) (k:Nat) [q:ShC os os1] [h:TkC k os1 ks fs]:St F w0 m0 n L rs (ks++fs) a w:=h.eq▸q.eq▸S
theorem Mm.sub (M:Mm F w0 m0 rs os w) {rs':List RF} (h:∀ f∈rs',f∈rs):Mm F w0 m0 rs' os w:=⟨M.c,M.f,fun f hf=>M.r f (h f hf),M.o⟩
def yU (L : List (Nat × Value)) : List (Nat × Value) → Prop
  | []=>True
  | (i,v)::r=>look i L=some v∧yU L r
theorem yU.sub : ∀ {L' : List (Nat × Value)}, yU L L' → Sub L L'
  | [],_=>trivial
  | _::_,h=>⟨h.1,h.2.sub⟩
theorem St.re {rs':List RF} (S:St F w0 m0 n L rs os a w) (hL:Sub L L') (hr:rs.take rs'.length=rs') (ho:os.take os'.length=os'):St F w0 m0 n L' rs' os' a w:=by
  have h1:St F w0 m0 n L rs os' a w:=by
    have e:gw os (List.range os'.length)=os':=by
      have:∀ (m:Nat),gw os ((List.range m))=os.take m:=by
        intro m;have key:∀ (l:List Nat),gw os l=l.filterMap (nth os):=by
          intro l
          induction l with
          | nil=>rfl
          | cons i l ih=>unfold gw;rw [List.filterMap_cons];cases nth os i <;> simp [ih]
        rw [key];have k2:∀ (os:List OF) (m:Nat),(List.range m).filterMap (nth os)=os.take m:=by
          intro os
          induction os with
          | nil=>intro m;simp [nth]
          | cons x r ih =>
            intro m
            cases m with
            | zero=>rfl
            | succ m =>
              rw [List.range_succ_eq_map,List.filterMap_cons];simp only [nth,List.filterMap_map,List.take_succ_cons,List.cons.injEq,true_and];exact ih m
        exact k2 os m
      rw [this];exact ho
    exact S.pk _ (hi:=List.nodup_range) (e:=e)
  exact ⟨h1.s.sub hL,h1.m.sub fun f hf=>List.mem_of_mem_take (hr▸hf)⟩
theorem fB {os:List OF} {i:Nat} {f:OF} (h:nth os i=some f):ow os=(ow os).take i++f.o::(ow os).drop (i+1):=by
  have h1:=fK h;obtain ⟨h2,h3⟩:=List.getElem?_eq_some_iff.1 h1;rw [← h3,List.getElem_cons_drop,List.take_append_drop]
theorem jc {os:List OF} {i:Nat} {f g:OF} (h:nth os i=some f):ow (os.set i g)=(ow os).take i++g.o::(ow os).drop (i+1):=by
  have h1:=fK h;obtain ⟨h2,h3⟩:=List.getElem?_eq_some_iff.1 h1;have h4:ow (os.set i g)=(ow os).set i g.o:=by rw [fm,fm,List.map_set]
  rw [h4,List.set_eq_take_append_cons_drop,if_pos h2]
theorem Mm.sw (M:Mm F w0 m0 rs os w) (i:Nat) {f:OF} (hi:nth os i=some f) (f':OF) (T:Tr (ow os) w (ow (os.set i f')) w') (g:Ch (In [f.o]) w w') (hf:f'.p F (In (ow (os.set i f'))) w'):Mm F w0 m0 rs (os.set i f') w':=by
  refine M.go T fun q hq=>?_;obtain ⟨j,hj⟩:=ky hq;rw [dI,List.getElem?_set] at hj
  split at hj
  · split at hj
    · cases hj;exact hf
    · cases hj
  · rename_i hne;rw [← dI] at hj;refine q.st T.mv (fun k hk ho=>g.block k hk fun hm=>?_) (M.o q (aA hj));have:=M.sep hj [i] (by simp;omega) ho;simp only [cj,List.filterMap_cons,fK hi,List.filterMap_nil] at this;exact this hm
theorem St.fz {α:Type} {E:Enc α} {t:TypeId} {ad:Option Addr} {cap:Nat} {xs:List α} (S:St F w0 m0 n L rs os a w) (i:Nat) (hi:nth os i=some (rwO E t w0.heap.size ad cap xs)) (hn:0 < E.n:=by first | decide | exact Nat.one_pos):St F w0 m0 n L (rs++[wfF (slE E) ⟨ad,cap,xs⟩]) (os.set i noO) a w:=by
  have R:=S.row i hi;have hF:=R.notF S.m.f (Nat.le_refl _);have T:Tr (ow os) w (ow (os.set i noO)) w:=by
    have hM:=S.M;have e1:=fB hi;have e2:=jc (g:=noO) hi;rw [e2];rw [e1] at hM
    conv=>arg 1;rw [e1]
    exact Tr.swap hM (Ch.refl _) fun k hk=>hk.elim
  have hs:∀ k,In (ow (os.set i noO)) k→In (ow os) k:=fun k hk=>(T.sub k hk).elim id fun e=>absurd (T.ms.lt k hk) bo;have hD:(slE E).wf (Fr F (ow (os.set i noO))) w.heap ⟨ad,cap,xs⟩:=by
    refine ⟨R.sA hn (fun k hk=>⟨fun hm=>?_,hF k hk⟩) fun x hx=>Enc.mono _ (fun k _ h=>⟨fun e=>h.1 (hs k e),h.2⟩) (R.wf x hx),R.fq⟩;rw [jc hi] at hm;have hsep:=S.M.sep;rw [fB hi] at hsep;refine Sep.mid (pre:=[]) hk hsep ?_
    rcases aK.1 hm with q | q | q
    · exact aK.2 (.inl q)
    · exact q.elim
    · exact aK.2 (.inr q)
  exact St.ar ⟨S.s,S.m.sw i hi noO T (Ch.refl _) trivial⟩ _ hD
end
end Go.Proofs.Ytobggnpnochnnaa.V
/- Operations over the bundle: each takes one bundle to the next;regions,calls,loops,returns. -/
namespace Go.Proofs.Ytobggnpnochnnaa.V
open Go.RowKit
def Core (P:Program) (ops:Array Oper) (o:Oper) (a:Act) (w:World) (K:Act→World→Prop) (Q:Exit→Act→World→Prop):Prop :=
  if Region.wanted o (yielded ops a.tmps) then o.wp P a w K Q∨(o.asks P a w∧LetsOut Q) else K (a.put o.dst undef) w
def One (P:Program) (ops:Array Oper) (X:Act→World→Prop) (c:List BS) (o:Oper) (Y:Act→World→Prop):Prop :=
  ∀ (K:Act→World→Prop) (Q:Exit→Act→World→Prop) a w,X a w→(∀ a' w',Y a' w'→Ch (In c) w w'→K a' w')→Core P ops o a w K Q
def Steps (P:Program) (ops:Array Oper) (X:Act→World→Prop) (l:List Oper) (Y:Act→World→Prop) (l':List Oper):Prop :=
  ∀ (Q:Exit→Act→World→Prop) a w,X a w→(∀ a' w',Y a' w'→wpList P ops Q l' a' w')→wpList P ops Q l a w
section
variable {P:Program} {ops:Array Oper} {X Y Z:Act→World→Prop} {c:List BS} {o:Oper} {l l':List Oper} {a:Act} {w:World} {Q:Exit→Act→World→Prop}
theorem tr (h:One P ops X c o Y) (k:Steps P ops Y l Z l'):Steps P ops X (o::l) Z l':=fun Q a w hX hZ=>by
  unfold wpList;exact h _ Q a w hX fun a' w' hY _=>k Q a' w' hY hZ
theorem la (h:One P ops X c o Y):Steps P ops X (o::l) Y l:=fun Q a w hX hY=>by
  unfold wpList;exact h _ Q a w hX fun a' w' hy _=>hY a' w' hy
theorem rg {id:Nat} {l:List Oper} (S:X a w) (h:Steps P l.toArray X l Y []) (k:∀ a w,Y a w→Q .normal a w):(Code.region id l.toArray false).wp P Q a w :=
  wp_region_lit (h Q a w S fun a w hY=>wpList_nil (k a w hY))
theorem rs {id:Nat} {l:List Oper} {y:Code} (S:X a w) (h:Steps P l.toArray X l Y []) (k:∀ a w,Y a w→y.wp P Q a w):(Code.seq (.region id l.toArray false) y).wp P Q a w :=
  wp_seq (rg S h fun a w hY=>ak (k a w hY))
theorem r0 {id:Nat} {l:List Oper} (h:wpList P l.toArray Q l a w):(Code.region id l.toArray false).wp P Q a w:=wp_region_lit h
theorem rs0 {id:Nat} {l:List Oper} {y:Code} (h:wpList P l.toArray (Exit.then (y.wp P Q) Q) l a w):(Code.seq (.region id l.toArray false) y).wp P Q a w:=wp_seq (wp_region_lit h)
theorem sp (S:X a w) (h:Steps P ops X l Y l') (k:∀ a w,Y a w→wpList P ops Q l' a w):wpList P ops Q l a w:=h Q a w S k
theorem en (S:X a w) (h:Steps P ops X l Y []) (k:∀ a w,Y a w→Q .normal a w):wpList P ops Q l a w:=h Q a w S k
theorem nn (k:Q .normal a w):wpList P ops Q [] a w:=k
theorem ent {f:Act→World→Prop} (h:f a w):wpList P ops (Exit.then f Q) [] a w:=wpList_nil (ak h)
theorem ens {f:Act→World→Prop} (S:X a w) (h:Steps P ops X l Y []) (k:∀ a w,Y a w→f a w):wpList P ops (Exit.then f Q) l a w:=h _ a w S fun a w hY=>ak (k a w hY)
end
section
variable {P:Program} {ops:Array Oper} {F:Nat→Prop} {w0:World} {m0:List BS} {n:Nat} {L L':List (Nat × Value)} {fs:List RF} {os os':List OF} {o:Oper} {ty:TypeId} {pos:String} {af:Array Edge} {Q:Exit→Act→World→Prop}
theorem ov {d : Nat} {v : Value} (h : ∀ {a w}, St F w0 m0 n L fs os a w → (execOp a.eval o).run P w = .ok (.value v) w) (hk : o.guard = none ∧ o.dst = some d ∧ d < n := by exact ⟨rfl, rfl, by decide⟩) :
    One P ops (St F w0 m0 n L fs os) [] o (St F w0 m0 n ((d,v)::L) fs os):=fun K Q a w S k=>by
  unfold Core;rw [if_pos (by simp [Region.wanted,hk.1])];exact .inl (fL (h S) (by rw [hk.2.1];exact k _ _ ⟨S.s.put hk.2.2,S.m⟩ (Ch.refl _)))
theorem og (gd : Nat) {b : Bool} {gv : Value} (hv : look gd L = some gv) {c : Prop} [Decidable c] (hc : c ↔ gv = .bool b) {e : Nat} {v : Value} (h : ∀ {a w}, St F w0 m0 n L fs os a w → c → (execOp a.eval o).run P w = .ok (.value v) w)
    (hk:∃ j p,o.guard=some (j,b)∧ops[j]?=some p∧p.dst=some gd∧gd < n∧o.dst=some e∧e < n:=by exact ⟨_,_,rfl,rfl,rfl,by decide,rfl,by decide⟩) :
    One P ops (St F w0 m0 n L fs os) [] o (St F w0 m0 n ((e,if c then v else undef)::L) fs os):=fun K Q a w S k=>by
  obtain ⟨j,p,h1,h2,h3,h4,h5,h6⟩:=hk;have hw:=(fv (a:=a) (o:=o) h1 h2 h3 (by rw [S.s.size];exact h4) (S.s.get gd _ hv)).trans hc.symm;unfold Core
  by_cases hcc:c
  · rw [if_pos (hw.2 hcc)];refine .inl (fL (h S hcc) ?_);rw [h5];exact k _ _ ⟨by rw [if_pos hcc];exact S.s.put h6,S.m⟩ (Ch.refl _)
  · rw [if_neg (fun e=>hcc (hw.1 e)),h5];exact k _ _ ⟨by rw [if_neg hcc];exact S.s.put h6,S.m⟩ (Ch.refl _)
theorem gon (gd : Nat) {b : Bool} {d : Nat} {v : Value} (hv : look gd L = some (.bool b)) (h : ∀ {a w}, St F w0 m0 n L fs os a w → (execOp a.eval o).run P w = .ok (.value v) w)
    (hk:∃ j p,o.guard=some (j,b)∧ops[j]?=some p∧p.dst=some gd∧gd < n∧o.dst=some d∧d < n:=by exact ⟨_,_,rfl,rfl,rfl,by decide,rfl,by decide⟩) :
    One P ops (St F w0 m0 n L fs os) [] o (St F w0 m0 n ((d,v)::L) fs os):=fun K Q a w S k=>by
  obtain ⟨j,p,h1,h2,h3,h4,h5,h6⟩:=hk;have hw:=(fv (a:=a) (o:=o) h1 h2 h3 (by rw [S.s.size];exact h4) (S.s.get gd _ hv));unfold Core;rw [if_pos (hw.2 rfl)];refine .inl (fL (h S) ?_);rw [h5];exact k _ _ ⟨S.s.put h6,S.m⟩ (Ch.refl _)
theorem bI (gd : Nat) {b c : Bool} {d : Nat} (hv : look gd L = some (.bool c))
    (hk:∃ j p,o.guard=some (j,b)∧ops[j]?=some p∧p.dst=some gd∧gd < n∧o.dst=some d∧d < n:=by exact ⟨_,_,rfl,rfl,rfl,by decide,rfl,by decide⟩) (hbc:c≠b:=by decide) :
    One P ops (St F w0 m0 n L fs os) [] o (St F w0 m0 n ((d,undef)::L) fs os):=fun K Q a w S k=>by
  obtain ⟨j,p,h1,h2,h3,h4,h5,h6⟩:=hk;have hw:=(fv (a:=a) (o:=o) h1 h2 h3 (by rw [S.s.size];exact h4) (S.s.get gd _ hv));unfold Core;rw [if_neg (fun e=>hbc (by have:=hw.1 e;injection this)),h5];exact k _ _ ⟨S.s.put h6,S.m⟩ (Ch.refl _)
theorem oc {d : Nat} {f : FuncId} {args : Array Operand} {ats : Array TypeId} {vs : Array Value} {v : Value} (h : ∀ {a w}, St F w0 m0 n L fs os a w → Calls P f vs w fun e w' => e = .returned v ∧ Tr [] w [] w') (hf : az P f) (hv : args.toList.map (evS L) = vs.toList.map some := by rfl) (hd : d < n := by decide) :
    One P ops (St F w0 m0 n L fs os) [] ⟨some d,.call ⟨.value (.func f),args,ats⟩,ty,pos,af,none⟩ (St F w0 m0 n ((d,v)::L) fs os):=fun K Q a w S k=>by
  unfold Core;rw [if_pos (by simp [Region.wanted])];exact .inl (gx (gY S.s hv) hf (h S) fun e w' ⟨he,t⟩=>⟨v,he,k _ _ (S.k0 (S.s.put hd) t) t.ch⟩)
def GA (c : Prop) (a : Act) : List Operand → List Value → Prop
  | [],[]=>True
  | x::xs,v::vs=>(c→a.eval x=v)∧GA c a xs vs
  | _,_=>False
theorem GA.get {c:Prop} {a:Act} {xs:Array Operand} {vs:Array Value} (h:GA c a xs.toList vs.toList) (hc:c):xs.map a.eval=vs:=by
  apply Array.ext'
  rw [Array.toList_map];have:∀ (l:List Operand) (u:List Value),GA c a l u→l.map a.eval=u:=by
    intro l
    induction l with
    | nil=>intro u hu;cases u with
      | nil=>rfl
      | cons _ _=>exact hu.elim
    | cons x l ih=>intro u hu;cases u with
      | nil=>exact hu.elim
      | cons v u=>rw [List.map_cons,hu.1 hc,ih u hu.2]
  exact this _ _ h
theorem ocg (gd : Nat) {j : Nat} {b : Bool} {gv : Value} (hv : look gd L = some gv) {c : Prop} [Decidable c] (hc : c ↔ gv = .bool b) {d : Nat} {f : FuncId} {args : Array Operand} {ats : Array TypeId} {vs : Array Value} {v : Value} (h : ∀ {a w}, St F w0 m0 n L fs os a w → c → Calls P f vs w fun e w' => e = .returned v ∧ Tr [] w [] w') (hf : az P f) (ha : ∀ {a w}, St F w0 m0 n L fs os a w → GA c a args.toList vs.toList)
    (hk:∃ p,ops[j]?=some p∧p.dst=some gd∧gd < n∧d < n:=by exact ⟨_,rfl,rfl,by decide,by decide⟩) :
    One P ops (St F w0 m0 n L fs os) [] ⟨some d,.call ⟨.value (.func f),args,ats⟩,ty,pos,af,some (j,b)⟩ (St F w0 m0 n ((d,if c then v else undef)::L) fs os):=fun K Q a w S k=>by
  obtain ⟨p,h2,h3,h4,h6⟩:=hk;have hw:=(fv (a:=a) (o:=⟨some d,.call ⟨.value (.func f),args,ats⟩,ty,pos,af,some (j,b)⟩) rfl h2 h3 (by rw [S.s.size];exact h4) (S.s.get gd _ hv)).trans hc.symm;unfold Core
  by_cases hcc:c
  · rw [if_pos (hw.2 hcc)];exact .inl (gx (GA.get (ha S) hcc) hf (h S hcc) fun e w' ⟨he,t⟩=>⟨v,he,k _ _ (S.k0 (by rw [if_pos hcc];exact S.s.put h6) t) t.ch⟩)
  · rw [if_neg (fun e=>hcc (hw.1 e))];exact k _ _ ⟨by rw [if_neg hcc];exact S.s.put h6,S.m⟩ (Ch.refl _)
def qR (P:Program) (t:TypeId):Bool:=match P.info? t with
  | some i=>decide (0 < i.size)
  | none=>false
theorem oX {P:Program} {t:TypeId} (h:qR P t=true):∃ q,(P.info? t).map (·.size)=some (q+1):=by
  unfold qR at h
  cases hi:P.info? t with
  | none=>rw [hi] at h;cases h
  | some i=>rw [hi] at h;exact ⟨i.size - 1,by simp at h ⊢;omega⟩
theorem xf {P : Program} {a : Act} {w : World} {d : Option Tmp} {ty : TypeId} {pos : String} {af : Array Edge} {g : Option (Nat × Bool)} {x : Operand} {s : TypeId} {fs : Array Field} {i b : Nat} {f : Field} (o fo : Nat) (hu : P.underlying s = some (.struct fs)) (hx : a.eval x = .pointer (some ⟨b, o, none⟩)) (hk : fs[i]? = some f ∧ f.offset = fo := by exact ⟨rfl, rfl⟩) (hz : qR P f.type = true := by kernel_rfl) :
    (execOp a.eval ⟨d,.fieldAddr s x i,ty,pos,af,g⟩).run P w = .ok (.value (.pointer (some ⟨b,o+fo,none⟩))) w:=by
  obtain ⟨q,hq⟩:=oX hz;exact aT o fo hu hk.1 hk.2 hq hx
section
variable {d:Nat} {x y z:Operand} {xt yt:TypeId} {k:IntKind} {m p r:Int} {v:Value}
theorem mv (h:evS L x=some v) (hd:d < n:=by decide):One P ops (St F w0 m0 n L fs os) [] ⟨some d,.move x,ty,pos,af,none⟩ (St F w0 m0 n ((d,v)::L) fs os):=ov (fun S=>aB (S.e h)) ⟨rfl,rfl,hd⟩
theorem nk {p:Addr} (h:evS L x=some (.pointer (some p))) (hd:d < n:=by decide):One P ops (St F w0 m0 n L fs os) [] ⟨some d,.nilCheck x,ty,pos,af,none⟩ (St F w0 m0 n ((d,.pointer (some p))::L) fs os):=ov (fun S=>bx (S.e h)) ⟨rfl,rfl,hd⟩
theorem av (h:evS L x=some v) (hd:d < n:=by decide):One P ops (St F w0 m0 n L fs os) [] ⟨some d,.assign x,ty,pos,af,none⟩ (St F w0 m0 n ((d,v)::L) fs os):=ov (fun S=>gJ (S.e h)) ⟨rfl,rfl,hd⟩
theorem dx (hx:evS L x=some (.int k m)) (hy:evS L y=some (.int k p)) (hd:d < n:=by decide):One P ops (St F w0 m0 n L fs os) [] ⟨some d,.binOp .lss xt x y yt,ty,pos,af,none⟩ (St F w0 m0 n ((d,.bool (decide (m < p)))::L) fs os):=ov (fun S=>jo (S.e hx) (S.e hy)) ⟨rfl,rfl,hd⟩
theorem uA (hx:evS L x=some (.int k m)) (hy:evS L y=some (.int k p)) (hd:d < n:=by decide):One P ops (St F w0 m0 n L fs os) [] ⟨some d,.binOp .leq xt x y yt,ty,pos,af,none⟩ (St F w0 m0 n ((d,.bool (decide (m≤p)))::L) fs os):=ov (fun S=>tu (S.e hx) (S.e hy)) ⟨rfl,rfl,hd⟩
theorem mP (hx:evS L x=some (.int k m)) (hy:evS L y=some (.int k p)) (hd:d < n:=by decide):One P ops (St F w0 m0 n L fs os) [] ⟨some d,.binOp .gtr xt x y yt,ty,pos,af,none⟩ (St F w0 m0 n ((d,.bool (decide (p < m)))::L) fs os):=ov (fun S=>iv (S.e hx) (S.e hy)) ⟨rfl,rfl,hd⟩
theorem sI (hx:evS L x=some (.int k m)) (hy:evS L y=some (.int k p)) (hd:d < n:=by decide):One P ops (St F w0 m0 n L fs os) [] ⟨some d,.binOp .geq xt x y yt,ty,pos,af,none⟩ (St F w0 m0 n ((d,.bool (decide (p≤m)))::L) fs os):=ov (fun S=>gr (S.e hx) (S.e hy)) ⟨rfl,rfl,hd⟩
theorem cu (hx:evS L x=some (.int k m)) (hy:evS L y=some (.int k p)) (hd:d < n:=by decide):One P ops (St F w0 m0 n L fs os) [] ⟨some d,.binOp .eql xt x y yt,ty,pos,af,none⟩ (St F w0 m0 n ((d,.bool (decide (m=p)))::L) fs os):=ov (fun S=>dG (S.e hx) (S.e hy)) ⟨rfl,rfl,hd⟩
theorem gb (hx:evS L x=some (.int k m)) (hy:evS L y=some (.int k p)) (hd:d < n:=by decide):One P ops (St F w0 m0 n L fs os) [] ⟨some d,.binOp .neq xt x y yt,ty,pos,af,none⟩ (St F w0 m0 n ((d,.bool (decide (¬ m=p)))::L) fs os):=ov (fun S=>fX (S.e hx) (S.e hy)) ⟨rfl,rfl,hd⟩
theorem cE (r:Int) (hx:evS L x=some (.int k m)) (hy:evS L y=some (.int k p)) (hr:k.wrap (m+p)=r) (hd:d < n:=by decide):One P ops (St F w0 m0 n L fs os) [] ⟨some d,.binOp .add xt x y yt,ty,pos,af,none⟩ (St F w0 m0 n ((d,.int k r)::L) fs os):=ov (fun S=>xb (S.e hx) (S.e hy) hr) ⟨rfl,rfl,hd⟩
theorem pW (r:Int) (hx:evS L x=some (.int k m)) (hy:evS L y=some (.int k p)) (hr:k.wrap (m - p)=r) (hd:d < n:=by decide):One P ops (St F w0 m0 n L fs os) [] ⟨some d,.binOp .sub xt x y yt,ty,pos,af,none⟩ (St F w0 m0 n ((d,.int k r)::L) fs os):=ov (fun S=>qK (S.e hx) (S.e hy) hr) ⟨rfl,rfl,hd⟩
theorem jC {q:Prop} [Decidable q] (hx:evS L x=some (.bool (decide q))) (hd:d < n:=by decide):One P ops (St F w0 m0 n L fs os) [] ⟨some d,.unOp .not xt x,ty,pos,af,none⟩ (St F w0 m0 n ((d,.bool (decide (¬ q)))::L) fs os):=ov (fun S=>gz (S.e hx)) ⟨rfl,rfl,hd⟩
theorem dU {q u:Prop} {v:Value} [Decidable q] [Decidable u] (hc:evS L z=some (.bool (decide q))) (hx:evS L x=some (if q then .bool (decide u) else v)) (hy:evS L y=some (.bool false)) (hd:d < n:=by decide):One P ops (St F w0 m0 n L fs os) [] ⟨some d,.pick z x y,ty,pos,af,none⟩ (St F w0 m0 n ((d,.bool (decide (q∧u)))::L) fs os):=ov (fun S=>oS (S.e hc) (fun h=>(S.e hx).trans (if_pos h)) (S.e hy)) ⟨rfl,rfl,hd⟩
theorem ori {q u:Prop} {v:Value} [Decidable q] [Decidable u] (hc:evS L z=some (.bool (decide q))) (hx:evS L x=some (.bool true)) (hy:evS L y=some (if ¬ q then .bool (decide u) else v)) (hd:d < n:=by decide):One P ops (St F w0 m0 n L fs os) [] ⟨some d,.pick z x y,ty,pos,af,none⟩ (St F w0 m0 n ((d,.bool (decide (q∨u)))::L) fs os):=ov (fun S=>yY (S.e hc) (S.e hx) (fun h=>(S.e hy).trans (if_pos h))) ⟨rfl,rfl,hd⟩
theorem cM {t e:TypeId} {s:Option Addr} {q c:Nat} (ht:P.underlying t=some (.slice e)) (hx:evS L x=some (.slice s q c)) (hd:d < n:=by decide):One P ops (St F w0 m0 n L fs os) [] ⟨some d,.call ⟨.builtin .len,#[x],#[t]⟩,ty,pos,af,none⟩ (St F w0 m0 n ((d,.int .i64 (q:Nat))::L) fs os):=ov (fun S=>eb ht (S.e hx)) ⟨rfl,rfl,hd⟩
theorem exi {vs:Array Value} {i:Nat} (hx:evS L x=some (.tuple vs)) (hv:vs[i]?=some v) (hd:d < n:=by decide):One P ops (St F w0 m0 n L fs os) [] ⟨some d,.extract x i,ty,pos,af,none⟩ (St F w0 m0 n ((d,v)::L) fs os):=ov (fun S=>iU (S.e hx) hv) ⟨rfl,rfl,hd⟩
theorem cY {t e : TypeId} {s : Option Addr} {q c sz : Nat} {kk : IntKind} {i : Int} (ht : P.underlying t = some (.slice e)) (hsz : (P.info? e).map (·.size) = some sz) (hx : evS L x = some (.slice s q c)) (hy : evS L y = some (.int kk i)) (j : Nat) (hj : i = (j : Int)) (hlt : j < q) (hs : s = some ⟨blk s, off s, none⟩) (hd : d < n := by decide) :
    One P ops (St F w0 m0 n L fs os) [] ⟨some d,.indexAddr t x y,ty,pos,af,none⟩ (St F w0 m0 n ((d,.pointer (some ⟨blk s,off s+j * sz,none⟩))::L) fs os):=ov (fun S=>br ht hsz (S.e hx) (S.e hy) j hj hlt hs) ⟨rfl,rfl,hd⟩
theorem aw {s : TypeId} {gs : Array Field} {i b : Nat} {f : Field} (of_ fo : Nat) (hx : evS L x = some (.pointer (some ⟨b, of_, none⟩))) (hu : P.underlying s = some (.struct gs)) (hk : gs[i]? = some f ∧ f.offset = fo := by exact ⟨rfl, rfl⟩) (hz : qR P f.type = true := by kernel_rfl) (hd : d < n := by decide) :
    One P ops (St F w0 m0 n L fs os) [] ⟨some d,.fieldAddr s x i,ty,pos,af,none⟩ (St F w0 m0 n ((d,.pointer (some ⟨b,of_+fo,none⟩))::L) fs os):=by
  obtain ⟨q,hq⟩:=oX hz;exact ov (fun S=>aT of_ fo hu hk.1 hk.2 hq (S.e hx)) ⟨rfl,rfl,hd⟩
theorem ldk {t e : TypeId} {b f : Nat} {cs : List Value} (i : Nat) (hs : dc P t) (hx : evS L x = some (.pointer (some ⟨b, f, none⟩))) (hb : nth os i = some (blO b cs e)) (hv : cs[f]? = some v) (hd : d < n := by decide) :
    One P ops (St F w0 m0 n L fs os) [] ⟨some d,.load t x,ty,pos,af,none⟩ (St F w0 m0 n ((d,v)::L) fs os):=ov (fun S=>aq hs (S.e hx) ((S.k i hb).cell hv)) ⟨rfl,rfl,hd⟩
theorem eQ {t e : TypeId} {b : Nat} {cs : List Value} (i : Nat) (hx : evS L x = some (.pointer (some ⟨b, 0, none⟩))) (hb : nth os i = some (blO b cs e)) (hs : iS P t cs.length) (hd : d < n := by decide) :
    One P ops (St F w0 m0 n L fs os) [] ⟨some d,.load t x,ty,pos,af,none⟩ (St F w0 m0 n ((d,.agg cs.toArray)::L) fs os):=ov (fun S=>kV cs hs (S.e hx) (fun j v hv=>by rw [Nat.zero_add];exact (S.k i hb).cell hv)) ⟨rfl,rfl,hd⟩
theorem stk {t e : TypeId} {b f : Nat} {cs : List Value} {u : Value} (i : Nat) (hx : evS L x = some (.pointer (some ⟨b, f, none⟩))) (hy : evS L y = some v) (hb : nth os i = some (blO b cs e)) (ho : cs[f]? = some u := by rfl) (h1 : v.oneCell' = true := by rfl) (hz : (P.info? t).map (·.size) = some 1 := by kernel_rfl) :
    One P ops (St F w0 m0 n L fs os) [one b] ⟨none,.store t x y,ty,pos,af,none⟩ (St F w0 m0 n L fs (os.set i (blO b (cs.set f v) e))):=fun K Q a w S k=>by
  have hB:=S.k i hb;unfold Core;rw [if_pos (by simp [Region.wanted])];exact .inl (jd (nE hz (S.e hx) (S.e hy) h1 hB ho) (k _ _ (S.k1s i hb (blO b (cs.set f v) e) rfl S.s (oK w b f v) (hB.set v)) (oK w b f v)))
theorem c0 {t e : TypeId} {b : Nat} {cs vs : List Value} (i : Nat) (hx : evS L x = some (.pointer (some ⟨b, 0, none⟩))) (hy : evS L y = some (.agg vs.toArray)) (hb : nth os i = some (blO b cs e)) (hl : cs.length = vs.length := by rfl) (h1 : vs.all (·.oneCell') = true := by rfl) (hz : (P.info? t).map (·.size) = some vs.length := by kernel_rfl) :
    One P ops (St F w0 m0 n L fs os) [one b] ⟨none,.store t x y,ty,pos,af,none⟩ (St F w0 m0 n L fs (os.set i (blO b vs e))):=fun K Q a w S k=>by
  have hB:=S.k i hb;unfold Core;rw [if_pos (by simp [Region.wanted])];exact .inl (jd (tp hz (S.e hx) (S.e hy) h1 hB hl) (k _ _ (S.k1s i hb (blO b vs e) rfl S.s (iZ w b _) (lE vs hB)) (iZ w b _)))
theorem str {α : Type} {E : Enc α} {et : TypeId} {t : TypeId} {ad : Option Addr} {cap ob bs : Nat} {xs : List α} (i : Nat) (hz : (P.info? t).map (·.size) = some 1) (hx : evS L x = some (.pointer (some ⟨blk ad, ob, none⟩))) (hy : evS L y = some v) (hr : nth os i = some (rwO E et bs ad cap xs)) (m j : Nat) (hm : m < xs.length) (hj : j < E.n) (x' : α) (hw : ∀ {a w}, St F w0 m0 n L fs os a w → E.wf (Fr F (ow os)) w.heap x') (hc : E.cells x' = (E.cells (xs.getD m E.aa)).set j v) (hob : ob = m * E.n + j) (h1 : v.oneCell' = true) :
    One P ops (St F w0 m0 n L fs os) [abk ad] ⟨none,.store t x y,ty,pos,af,none⟩ (St F w0 m0 n L fs (os.set i (rwO E et bs ad cap (xs.set m x')))):=fun K Q a w S k=>by
  have R:=S.row i hr;obtain ⟨h2,h3,cur,h4,h5⟩:=vZ R m j hm hj x' v hc (ga (aA hr)) (hw S) hob;unfold Core;rw [if_pos (by simp [Region.wanted])];refine .inl (jd ?_ (k _ _ (S.k1s i hr (rwO E et bs ad cap (xs.set m x')) rfl S.s h3 ⟨h2.own,h2.wf⟩) h3));have hcs:v.cells = #[v]:=by cases v <;> simp [Value.oneCell'] at h1 <;> rfl
  cases hi:P.info? t with
  | none=>simp [hi] at hz
  | some ie =>
    have h6:ie.size=1:=by simpa [hi] using hz
    simp [execOp,Instr.storeAt,S.e hx,S.e hy,Instr.sureAddr,storeVar,hcs,sizeOf,typeInfo,hi,h6,storeCells,fI,lI h1 h4 h5]
end
theorem Blk.all {h:Array Obj} {b:Nat} {cs:List Value} {e:TypeId} (k:Blk h b cs e):∀ j v,cs[j]?=some v→df h b (0+j)=some v:=fun j v hv=>by rw [Nat.zero_add];exact k.cell hv
theorem pR.all {ms:List BS} {h:Array Obj} {b:Nat} {cs:List Value} {e:TypeId} (k:pR ms h b cs e):∀ j v,cs[j]?=some v→df h b (0+j)=some v:=k.k.all
theorem cJ {P : Program} {a : Act} {w : World} {d : Option Tmp} {ty : TypeId} {pos : String} {af : Array Edge} {g : Option (Nat × Bool)} {x : Operand} {t : TypeId} {b o : Nat} {cs : List Value} (hx : a.eval x = .pointer (some ⟨b, o, none⟩)) (hc : ∀ j v, cs[j]? = some v → df w.heap b (o + j) = some v) (hs : iS P t cs.length) :
    (execOp a.eval ⟨d,.load t x,ty,pos,af,g⟩).run P w = .ok (.value (.agg cs.toArray)) w:=kV cs hs hx hc
theorem ee {a : Act} {w : World} {d : Option Tmp} {g : Option (Nat × Bool)} {t e : TypeId} {len : Nat} {parts : Array (Nat × Operand)} {cs : List Value} (S : St F w0 m0 n L fs os a w) (vs : List (Nat × Value)) {z : Value} {sz by_ : Nat} (ht : P.underlying t = some (.slice e)) (hi : (P.info? e).map (fun i => (i.zero, i.size, i.bytes)) = some (some z, sz, by_))
    (hv:parts.toList.map (fun p=>(p.1,evS L p.2))=vs.map (fun p=>(p.1,some p.2)):=by rfl) (hsmall:¬ len * sz > 2 ^ 24:=by decide) (hpos:¬ len * sz=0:=by decide) (hf:Instr.fill (fun i=>some (i * sz,sz)) ((Array.range (len * sz)).map (z.cells[· % z.cells.size]!)) vs=some cs.toArray:=by kernel_rfl) :
    (execOp a.eval ⟨d,.buildSlice t len parts,ty,pos,af,g⟩).run P w = .ok (.value (.slice (some ⟨w.heap.size,0,none⟩) len len)) (w.alloc (.cells cs.toArray e)):=by
  refine tA vs cs ht hi hsmall hpos ?_ hf;have:∀ (l:List (Nat × Operand)) (u:List (Nat × Value)),l.map (fun p=>(p.1,evS L p.2))=u.map (fun p=>(p.1,some p.2))→l.map (fun p=>(p.1,a.eval p.2))=u:=by
    intro l
    induction l with
    | nil=>intro u hu;cases u <;> simp_all
    | cons x l ih =>
      intro u hu
      cases u with
      | nil=>simp at hu
      | cons v u =>
        obtain ⟨v1,v2⟩:=v;simp only [List.map_cons,List.cons.injEq,Prod.mk.injEq] at hu ⊢;exact ⟨⟨hu.1.1,S.s.eval hu.1.2⟩,ih u hu.2⟩
  exact this _ _ hv
theorem dE {a : Act} {w : World} {d : Option Tmp} {g : Option (Nat × Bool)} {t : TypeId} {parts : Array (Nat × Operand)} (S : St F w0 m0 n L fs os a w) (vs : List (Nat × Value)) (cs : List Value) (hv : parts.toList.map (fun p => (p.1, evS L p.2)) = vs.map (fun p => (p.1, some p.2)) := by rfl) (hb : P.built t vs = some cs.toArray := by kernel_rfl) :
    (execOp a.eval ⟨d,.build t parts,ty,pos,af,g⟩).run P w = .ok (.value (.agg cs.toArray)) w:=by
  refine vI vs cs ?_ hb;have:∀ (l:List (Nat × Operand)) (u:List (Nat × Value)),l.map (fun p=>(p.1,evS L p.2))=u.map (fun p=>(p.1,some p.2))→l.map (fun p=>(p.1,a.eval p.2))=u:=by
    intro l
    induction l with
    | nil=>intro u hu;cases u <;> simp_all
    | cons x l ih =>
      intro u hu
      cases u with
      | nil=>simp at hu
      | cons v u =>
        obtain ⟨v1,v2⟩:=v;simp only [List.map_cons,List.cons.injEq,Prod.mk.injEq] at hu ⊢;exact ⟨⟨hu.1.1,S.s.eval hu.1.2⟩,ih u hu.2⟩
  exact this _ _ hv
section
variable {rest:List Oper} {a:Act} {w:World}
theorem nb {d : Nat} (mk : Nat → Value) {cs : List Value} {e : TypeId} (S : St F w0 m0 n L fs os a w) (h : (execOp a.eval o).run P w = .ok (.value (mk w.heap.size)) (w.alloc (.cells cs.toArray e)))
    (next:∀ a' w' b,St F w0 m0 n ((d,mk b)::L) fs (os++[blO b cs e]) a' w'→wpList P ops Q rest a' w') (hk:o.guard=none∧o.dst=some d∧d < n:=by exact ⟨rfl,rfl,by decide⟩):wpList P ops Q (o::rest) a w :=
  nI S.s hk.1 hk.2.1 hk.2.2 h fun a' S'=>next a' _ _ ⟨S',S.m.n1 (blO w.heap.size cs e) rfl (by simp) (fun k hk=>hk) (fH w _) (Blk.new w cs e)⟩
theorem nbp {d : Nat} {cs : List Value} {e : TypeId} (S : St F w0 m0 n L fs os a w) (h : (execOp a.eval o).run P w = .ok (.value (.pointer (some ⟨w.heap.size, 0, none⟩))) (w.alloc (.cells cs.toArray e)))
    (next:∀ a' w' b,St F w0 m0 n ((d,.pointer (some ⟨b,0,none⟩))::L) fs (os++[blO b cs e]) a' w'→wpList P ops Q rest a' w') (hk:o.guard=none∧o.dst=some d∧d < n:=by exact ⟨rfl,rfl,by decide⟩):wpList P ops Q (o::rest) a w:=nb (fun b=>.pointer (some ⟨b,0,none⟩)) S h next hk
theorem nbs {α : Type} {d : Nat} {e : TypeId} {q : Nat} (E : Enc α) (S : St F w0 m0 n L fs os a w) (xs : List α) (h : (execOp a.eval o).run P w = .ok (.value (.slice (some ⟨w.heap.size, 0, none⟩) q q)) (w.alloc (.cells (xs.flatMap E.cells).toArray e)))
    (hw:∀ x∈xs,E.wf (Fr F (ow os)) w.heap x) (next:∀ a' w' b,St F w0 m0 n ((d,.slice (some ⟨b,0,none⟩) q q)::L) (fs++[wfF (slE E) ⟨some ⟨b,0,none⟩,q,xs⟩]) os a' w'→wpList P ops Q rest a' w')
    (hq:xs.length=q∧q≤maxLen∧0 < q:=by exact ⟨rfl,by decide,by decide⟩) (hk:o.guard=none∧o.dst=some d∧d < n:=by exact ⟨rfl,rfl,by decide⟩):wpList P ops Q (o::rest) a w :=
  nI S.s hk.1 hk.2.1 hk.2.2 h fun a' S'=>by
    have g:=fH w (.cells (xs.flatMap E.cells).toArray e);have M:=S.m.k0 g;refine next a' _ w.heap.size (St.ar ⟨S',M⟩ _ (km (Blk.new w (xs.flatMap E.cells) e) xs q hq.1 hq.2.1 hq.2.2 rfl (mh S.m.c S.m.f rfl) fun x hx=>E.mv (Tr.iK S.M g).mv (hw x hx)))
theorem nbr {α : Type} {d : Nat} {e : TypeId} {q : Nat} (E : Enc α) (S : St F w0 m0 n L fs os a w) (xs : List α) (h : (execOp a.eval o).run P w = .ok (.value (.slice (some ⟨w.heap.size, 0, none⟩) q q)) (w.alloc (.cells (xs.flatMap E.cells).toArray e)))
    (hw:∀ x∈xs,E.wf (Fr F (ow os)) w.heap x) (next:∀ a' w' b,St F w0 m0 n ((d,.slice (some ⟨b,0,none⟩) q q)::L) fs (os++[rwO E e w0.heap.size (some ⟨b,0,none⟩) q xs]) a' w'→wpList P ops Q rest a' w')
    (hq:xs.length=q∧q≤maxLen:=by exact ⟨rfl,by decide⟩) (hk:o.guard=none∧o.dst=some d∧d < n:=by exact ⟨rfl,rfl,by decide⟩):wpList P ops Q (o::rest) a w :=
  nI S.s hk.1 hk.2.1 hk.2.2 h fun a' S'=>by
    obtain ⟨h1,h2⟩:=hq
    generalize hcs:xs.flatMap E.cells=cs
    have g:=fH w (.cells cs.toArray e);have S2:=next a' (w.alloc (.cells cs.toArray e)) w.heap.size
    refine S2 ⟨S',S.m.n1 (rwO E e w0.heap.size (some ⟨w.heap.size,0,none⟩) q xs) (b:=w.heap.size) rfl (by simp) (fun k hk=>by rw [show (rwO E e w0.heap.size (some ⟨w.heap.size,0,none⟩) q xs).o=one w.heap.size from iu _] at hk;exact hk) g ?_⟩;have T:Tr (ow os) w (ow os++[(rwO E e w0.heap.size (some ⟨w.heap.size,0,none⟩) q xs).o]) (w.alloc (.cells cs.toArray e)):=by
      have:=(Tr.uK S.M rfl (by simp) g);exact Tr.comm (x:=[_]) this
    have hwf:∀ x∈xs,E.wf (Fr F (ow os++[(rwO E e w0.heap.size (some ⟨w.heap.size,0,none⟩) q xs).o])) (w.alloc (.cells cs.toArray e)).heap x:=fun x hx=>E.mv T.mv (hw x hx);refine ⟨⟨gi E.len xs,.inr ⟨w.heap.size,q,cs.toArray,by rw [h1],S.m.c.size,Blk.new w cs e,by omega,h2,?_,?_⟩⟩,hwf⟩
    · rw [← hcs,List.size_toArray,gi E.len,h1]
    · rw [← gi E.len xs,hcs,List.take_length]
theorem cl {d : Nat} {f : FuncId} {args : Array Operand} {ats : Array TypeId} {vs : Array Value} {R : Ending → World → Prop} (S : St F w0 m0 n L fs os a w) (hc : Calls P f vs w R) (hf : az P f)
    (hR:∀ e w',R e w'→∃ v,e = .returned v∧∀ a',aP n ((d,v)::L) a'→wpList P ops Q rest a' w') (hv:args.toList.map (evS L)=vs.toList.map some:=by rfl) (hd:d < n:=by decide):wpList P ops Q (⟨some d,.call ⟨.value (.func f),args,ats⟩,ty,pos,af,none⟩::rest) a w:=tR S.s hd hv hf hc hR
theorem ap {α : Type} {E : Enc α} {d : Nat} {t ts : TypeId} {ad sa : Option Addr} {cap sc bs : Nat} {xs ys : List α} {D : Nat → Prop} {z : Value} {bytes : Nat} {s x : Operand} (S : St F w0 m0 n L fs os a w) (i : Nat) (hi : nth os i = some (rwO E t bs ad cap xs)) (ht : P.underlying ts = some (.slice t)) (hz : (P.info? t).map (fun i => (i.zero, i.size, i.bytes)) = some (some z, E.n, bytes))
    (hs:evS L s=some (.slice ad xs.length cap)) (hx:evS L x=some (.slice sa ys.length sc)) (hsrc:LAt E D w.heap sa ys) (hsc:sa=none→sc=0) (hyw:∀ y∈ys,E.wf (Fr F (ow os)) w.heap y) (h63:xs.length+ys.length≤maxLen∧(xs.length+ys.length) * bytes≤140737488355328)
    (next:∀ a' w' ad' cap',St F w0 m0 n ((d,.slice ad' (xs++ys).length cap')::L) fs (os.set i (rwO E t bs ad' cap' (xs++ys))) a' w'→wpList P ops Q rest a' w') (hzz:z.cells.size=E.n∧0 < E.n:=by exact ⟨rfl,by decide⟩) (hd:d < n:=by decide) (hbs:bs≤w0.heap.size:=by first | exact Nat.le_refl _ | exact Nat.zero_le _ | assumption) :
    wpList P ops Q (⟨some d,.call ⟨.builtin .append,#[s,x],#[ts,ts]⟩,ty,pos,af,none⟩::rest) a w:=by
  refine nJ rfl (nc (E:=E) ((ow os).take i) ((ow os).drop (i+1)) s x ts rfl z bytes ht hz hzz.1 hzz.2 (fB hi) S.M (S.e hs) (S.row i hi) ys sa sc (S.e hx) hsrc hsc hyw h63.1 h63.2 (Nat.le_trans hbs S.m.c.size) fun ad' cap' w' R T g=>?_);have e1:=fB hi;have e2:=jc (g:=rwO E t bs ad' cap' (xs++ys)) hi;have T':Tr (ow os) w (ow (os.set i (rwO E t bs ad' cap' (xs++ys)))) w':=by
    rw [e2]
    conv=>arg 1;rw [e1]
    exact T
  exact next _ _ ad' cap' ⟨S.s.put hd,S.m.sw i hi _ T' g (by rw [e2];exact ⟨R.own,R.wf⟩)⟩
theorem mk {α : Type} {E : Enc α} {d : Nat} {t e : TypeId} {l c : Operand} {z : Value} {bytes : Nat} {kl kc : IntKind} {A B : Int} (S : St F w0 m0 n L fs os a w) (x0 : α) (q : Nat) (ht : P.underlying t = some (.slice e)) (hi : (P.info? e).map (fun i => (i.zero, i.size, i.bytes)) = some (some z, E.n, bytes))
    (hl:evS L l=some (.int kl A)) (hc:evS L c=some (.int kc B)) (hA:A=(q:Int)) (hB:B=(q:Int)) (hb:bytes * q≤281474976710656) (hm:q≤maxLen) (hw:∀ D h,E.wf D h x0)
    (next:∀ a' w' ad,St F w0 m0 n ((d,.slice ad (List.replicate q x0).length q)::L) fs (os++[rwO E e w0.heap.size ad q (List.replicate q x0)]) a' w'→wpList P ops Q rest a' w') (hzz:E.n=1∧E.cells x0=[z]∧z.cells = #[z]:=by exact ⟨rfl,rfl,rfl⟩) (hd:d < n:=by decide) :
    wpList P ops Q (⟨some d,.makeSlice t l c,ty,pos,af,none⟩::rest) a w:=by
  refine nJ rfl (nY (E:=E) (F:=F) (w0:=w0) l c rfl z bytes ht hi hzz.1 x0 hzz.2.1 hzz.2.2 q (S.e hl) (S.e hc) hA hB hb hm S.M (fun h=>hw _ h) S.m.c.size fun ad w' R T g=>?_);refine next _ _ ad ⟨by have:=S.s.put (v:=.slice ad q q) hd;rwa [List.length_replicate],S.m.nu [rwO E e w0.heap.size ad q (List.replicate q x0)] T g fun f hf=>?_⟩
  simp only [List.mem_singleton] at hf;subst hf;exact ⟨R.own,fun x hx=>Enc.mono _ (fun k _ hk=>⟨fun e=>hk.1 ((aK.1 e).elim .inr fun e=>.inl (In.one.1 e)),hk.2⟩) (R.wf x hx)⟩
end
theorem vy.tr {α:Type} {P:Program} {E:Enc α} {w w':World} {f:FuncId} {caps:Array Value} {xs:List α} {p:α→Prop} [DecidablePred p] (T:vy P E w f caps xs p) (t:Tr [] w [] w'):vy P E w' f caps xs p:=⟨T.1,fun w2 t2=>T.2 w2 (t.trans t2)⟩
theorem St.nr {α:Type} {a:Act} {w:World} (S:St F w0 m0 n L fs os a w) (E:Enc α) (t:TypeId):St F w0 m0 n L fs (os++[rwO E t w0.heap.size none 0 []]) a w :=
  ⟨S.s,S.m.nu [rwO E t w0.heap.size none 0 []] ((Tr.refl S.M).cons (b:=abk none) fun k e=>absurd e vx) (Ch.refl _) fun f hf=>by
    simp only [List.mem_singleton] at hf;subst hf
    exact ⟨⟨by simp,.inl ⟨rfl,rfl⟩⟩,fun x h=>by simp at h⟩⟩
theorem St.kt {t:TypeId} {T:Nat} {tl:Sl Int} {a a':Act} {w w':World} (S:St F w0 m0 n L fs os a w) (s:aP n L' a') (T0:Tr [] w [one T] w') (K:TpB t T tl w'):St F w0 m0 n L' fs (os++[tpO t T tl]) a' w' :=
  ⟨s,S.m.nu [tpO t T tl] (Tr.frame (m0:=[]) (nw:=[one T]) S.M T0 fun _ h=>by simp at h) T0.ch fun f hf=>by simp only [List.mem_singleton] at hf;subst hf;exact K⟩
theorem St.rt {a:Act} {w:World} (S:St F w0 m0 n L fs os a w) (k:Nat):St F w0 m0 n L (fs.take k) os a w:=⟨S.s,S.m.sub fun _ h=>List.mem_of_mem_take h⟩
theorem bB {L L':List (Nat × Value)} (h:L'.map (fun p=>look p.1 L)=L'.map (fun p=>some p.2)):Sub L L':=by
  induction L' with
  | nil=>trivial
  | cons p r ih=>obtain ⟨i,v⟩:=p;simp only [List.map_cons,List.cons.injEq] at h;exact ⟨h.1,ih h.2⟩
def w6 (F W : Nat → Prop) (h : Array Obj) : List RF → Prop
  | []=>True
  | f::r=>f.p F W h∧w6 F W h r
def w7 (F W : Nat → Prop) (w : World) : List OF → Prop
  | []=>True
  | f::r=>f.p F W w∧w7 F W w r
theorem w6.get {F W : Nat → Prop} {h : Array Obj} : ∀ {l : List RF}, w6 F W h l → ∀ f ∈ l, f.p F W h
  | _::_,k,f,hf=>(List.mem_cons.1 hf).elim (fun e=>e▸k.1) fun hf=>k.2.get f hf
theorem w7.get {F W : Nat → Prop} {h : World} : ∀ {l : List OF}, w7 F W h l → ∀ f ∈ l, f.p F W h
  | _::_,k,f,hf=>(List.mem_cons.1 hf).elim (fun e=>e▸k.1) fun hf=>k.2.get f hf
theorem go {f : FuncId} {fn : Func} {c : Code} {args : Array Value} {R : Ending → World → Prop} (hf : P.funcs[f]? = some fn) (hb : fn.body = some c) (n : Nat) (hn : fn.ntmps = n) (fs : List RF) (os : List OF) (hF : Old F w0) (M : MS (ow os) w0) (hr : w6 F (In (ow os)) w0.heap fs) (ho : w7 F (In (ow os)) w0 os)
    (h:∀ a,St F w0 (ow os) n (sX 0 args.toList) fs os a w0→c.wp P (bodyPost P fn R) a w0) (hsz:args.size≤n:=by exact Nat.le_of_ble_eq_true rfl):Calls P f args w0 R :=
  enter hf hb n hn hsz fun a S=>h a ⟨S,Tr.refl M,hF,hr.get,ho.get⟩
section
variable {a:Act} {w:World}
theorem cd {c:Operand} {x y:Code} {p:Prop} [Decidable p] (S:St F w0 m0 n L fs os a w) (hc:evS L c=some (.bool (decide p))) (ht:p→x.wp P Q a w) (hf:¬ p→y.wp P Q a w):(Code.cond c x y).wp P Q a w:=uW S.s hc ht hf
theorem cdt {c:Operand} {x y:Code} (S:St F w0 m0 n L fs os a w) (hc:evS L c=some (.bool true)) (h:x.wp P Q a w):(Code.cond c x y).wp P Q a w:=yF S.s hc h
theorem cdf {c:Operand} {x y:Code} (S:St F w0 m0 n L fs os a w) (hc:evS L c=some (.bool false)) (h:y.wp P Q a w):(Code.cond c x y).wp P Q a w:=yG S.s hc h
theorem St.l (S:St F w0 m0 n L fs os a w) (L':List (Nat × Value)) (h:Sub L L'):St F w0 m0 n L' fs os a w:=⟨S.s.sub h,S.m⟩
theorem St.ext (S:St F w0 m0 n L fs os a w) {d:Nat} {v:Value} (h:a.tmps.getD d undef=v):St F w0 m0 n ((d,v)::L) fs os a w:=⟨S.s.ext h,S.m⟩
theorem St.get (S:St F w0 m0 n L fs os a w) (d:Nat) {v:Value} (h:look d L=some v):a.tmps.getD d undef=v:=S.s.get d v h
theorem St.c1 {d:Nat} {v v':Value} (S:St F w0 m0 n ((d,v)::L) fs os a w) (h:v=v'):St F w0 m0 n ((d,v')::L) fs os a w:=h▸S
end
theorem lp1 {α : Type} {c : Code} {a : Act} {w : World} (L' : α → List (Nat × Value)) (os' : α → List OF) (R : α → Prop) (μ : α → Nat) (S : St F w0 m0 n L fs os a w) (x0 : α) (hL : Sub L (L' x0)) (ho : os' x0 = os) (h0 : R x0)
    (round:∀ (x0:α) a w,St F w0 m0 n (L' x0) fs (os' x0) a w→R x0→c.wp P (Exit.then (fun a' w'=>∃ (y0:α),St F w0 m0 n (L' y0) fs (os' y0) a' w'∧R y0∧μ y0 < μ x0) Q) a w):(Code.loop c).wp P Q a w:=by
  refine wp_loop_ghost (fun m a w=>∃ (y0:α),St F w0 m0 n (L' y0) fs (os' y0) a w∧R y0∧μ y0=m) (μ x0) ⟨x0,⟨S.s.sub hL,by rw [ho];exact S.m⟩,h0,rfl⟩ fun m a w ⟨y0,S,hR,hm⟩=>?_;subst hm;refine wp_mono (round y0 a w S hR) fun e a' w' hq=>?_
  cases e with
  | normal=>obtain ⟨x0,h1,h2,h3⟩:=hq;exact ⟨_,h3,x0,h1,h2,rfl⟩
  | exit id=>exact hq
  | goto l=>exact hq
  | ret=>exact hq
  | panic ch=>exact hq
  | outgrown=>exact hq
theorem lp2 {α : Type} {β : Type} {c : Code} {a : Act} {w : World} (L' : α → β → List (Nat × Value)) (os' : α → β → List OF) (R : α → β → Prop) (μ : α → β → Nat) (S : St F w0 m0 n L fs os a w) (x0 : α) (x1 : β) (hL : Sub L (L' x0 x1)) (ho : os' x0 x1 = os) (h0 : R x0 x1)
    (round:∀ (x0:α) (x1:β) a w,St F w0 m0 n (L' x0 x1) fs (os' x0 x1) a w→R x0 x1→c.wp P (Exit.then (fun a' w'=>∃ (y0:α) (y1:β),St F w0 m0 n (L' y0 y1) fs (os' y0 y1) a' w'∧R y0 y1∧μ y0 y1 < μ x0 x1) Q) a w):(Code.loop c).wp P Q a w:=by
  refine wp_loop_ghost (fun m a w=>∃ (y0:α) (y1:β),St F w0 m0 n (L' y0 y1) fs (os' y0 y1) a w∧R y0 y1∧μ y0 y1=m) (μ x0 x1) ⟨x0,x1,⟨S.s.sub hL,by rw [ho];exact S.m⟩,h0,rfl⟩ fun m a w ⟨y0,y1,S,hR,hm⟩=>?_;subst hm;refine wp_mono (round y0 y1 a w S hR) fun e a' w' hq=>?_
  cases e with
  | normal=>obtain ⟨x0,x1,h1,h2,h3⟩:=hq;exact ⟨_,h3,x0,x1,h1,h2,rfl⟩
  | exit id=>exact hq
  | goto l=>exact hq
  | ret=>exact hq
  | panic ch=>exact hq
  | outgrown=>exact hq
theorem lp4 {α : Type} {β : Type} {γ : Type} {δ : Type} {c : Code} {a : Act} {w : World} (L' : α → β → γ → δ → List (Nat × Value)) (os' : α → β → γ → δ → List OF) (R : α → β → γ → δ → Prop) (μ : α → β → γ → δ → Nat) (S : St F w0 m0 n L fs os a w) (x0 : α) (x1 : β) (x2 : γ) (x3 : δ) (hL : Sub L (L' x0 x1 x2 x3)) (ho : os' x0 x1 x2 x3 = os) (h0 : R x0 x1 x2 x3)
    (round:∀ (x0:α) (x1:β) (x2:γ) (x3:δ) a w,St F w0 m0 n (L' x0 x1 x2 x3) fs (os' x0 x1 x2 x3) a w→R x0 x1 x2 x3→c.wp P (Exit.then (fun a' w'=>∃ (y0:α) (y1:β) (y2:γ) (y3:δ),St F w0 m0 n (L' y0 y1 y2 y3) fs (os' y0 y1 y2 y3) a' w'∧R y0 y1 y2 y3∧μ y0 y1 y2 y3 < μ x0 x1 x2 x3) Q) a w):(Code.loop c).wp P Q a w:=by
  refine wp_loop_ghost (fun m a w=>∃ (y0:α) (y1:β) (y2:γ) (y3:δ),St F w0 m0 n (L' y0 y1 y2 y3) fs (os' y0 y1 y2 y3) a w∧R y0 y1 y2 y3∧μ y0 y1 y2 y3=m) (μ x0 x1 x2 x3) ⟨x0,x1,x2,x3,⟨S.s.sub hL,by rw [ho];exact S.m⟩,h0,rfl⟩ fun m a w ⟨y0,y1,y2,y3,S,hR,hm⟩=>?_;subst hm;refine wp_mono (round y0 y1 y2 y3 a w S hR) fun e a' w' hq=>?_
  cases e with
  | normal=>obtain ⟨x0,x1,x2,x3,h1,h2,h3⟩:=hq;exact ⟨_,h3,x0,x1,x2,x3,h1,h2,rfl⟩
  | exit id=>exact hq
  | goto l=>exact hq
  | ret=>exact hq
  | panic ch=>exact hq
  | outgrown=>exact hq
theorem lp5 {α : Type} {β : Type} {γ : Type} {δ : Type} {ε : Type} {c : Code} {a : Act} {w : World} (L' : α → β → γ → δ → ε → List (Nat × Value)) (os' : α → β → γ → δ → ε → List OF) (R : α → β → γ → δ → ε → Prop) (μ : α → β → γ → δ → ε → Nat) (S : St F w0 m0 n L fs os a w) (x0 : α) (x1 : β) (x2 : γ) (x3 : δ) (x4 : ε) (hL : Sub L (L' x0 x1 x2 x3 x4)) (ho : os' x0 x1 x2 x3 x4 = os) (h0 : R x0 x1 x2 x3 x4)
    (round:∀ (x0:α) (x1:β) (x2:γ) (x3:δ) (x4:ε) a w,St F w0 m0 n (L' x0 x1 x2 x3 x4) fs (os' x0 x1 x2 x3 x4) a w→R x0 x1 x2 x3 x4→c.wp P (Exit.then (fun a' w'=>∃ (y0:α) (y1:β) (y2:γ) (y3:δ) (y4:ε),St F w0 m0 n (L' y0 y1 y2 y3 y4) fs (os' y0 y1 y2 y3 y4) a' w'∧R y0 y1 y2 y3 y4∧μ y0 y1 y2 y3 y4 < μ x0 x1 x2 x3 x4) Q) a w):(Code.loop c).wp P Q a w:=by
  refine wp_loop_ghost (fun m a w=>∃ (y0:α) (y1:β) (y2:γ) (y3:δ) (y4:ε),St F w0 m0 n (L' y0 y1 y2 y3 y4) fs (os' y0 y1 y2 y3 y4) a w∧R y0 y1 y2 y3 y4∧μ y0 y1 y2 y3 y4=m) (μ x0 x1 x2 x3 x4) ⟨x0,x1,x2,x3,x4,⟨S.s.sub hL,by rw [ho];exact S.m⟩,h0,rfl⟩ fun m a w ⟨y0,y1,y2,y3,y4,S,hR,hm⟩=>?_;subst hm;refine wp_mono (round y0 y1 y2 y3 y4 a w S hR) fun e a' w' hq=>?_
  cases e with
  | normal=>obtain ⟨x0,x1,x2,x3,x4,h1,h2,h3⟩:=hq;exact ⟨_,h3,x0,x1,x2,x3,x4,h1,h2,rfl⟩
  | exit id=>exact hq
  | goto l=>exact hq
  | ret=>exact hq
  | panic ch=>exact hq
  | outgrown=>exact hq
theorem lq5 {α : Type} {β : Type} {γ : Type} {δ : Type} {ε : Type} {c : Code} {a : Act} {w : World} (L' : α → β → γ → δ → ε → List (Nat × Value)) (fs' : α → β → γ → δ → ε → List RF) (os' : α → β → γ → δ → ε → List OF) (R : α → β → γ → δ → ε → Prop) (μ : α → β → γ → δ → ε → Nat) (S : St F w0 m0 n L fs os a w) (x0 : α) (x1 : β) (x2 : γ) (x3 : δ) (x4 : ε) (hL : Sub L (L' x0 x1 x2 x3 x4)) (hf : fs' x0 x1 x2 x3 x4 = fs) (ho : os' x0 x1 x2 x3 x4 = os) (h0 : R x0 x1 x2 x3 x4)
    (round:∀ (x0:α) (x1:β) (x2:γ) (x3:δ) (x4:ε) a w,St F w0 m0 n (L' x0 x1 x2 x3 x4) (fs' x0 x1 x2 x3 x4) (os' x0 x1 x2 x3 x4) a w→R x0 x1 x2 x3 x4→c.wp P (Exit.then (fun a' w'=>∃ (y0:α) (y1:β) (y2:γ) (y3:δ) (y4:ε),St F w0 m0 n (L' y0 y1 y2 y3 y4) (fs' y0 y1 y2 y3 y4) (os' y0 y1 y2 y3 y4) a' w'∧R y0 y1 y2 y3 y4∧μ y0 y1 y2 y3 y4 < μ x0 x1 x2 x3 x4) Q) a w):(Code.loop c).wp P Q a w:=by
  refine wp_loop_ghost (fun m a w=>∃ (y0:α) (y1:β) (y2:γ) (y3:δ) (y4:ε),St F w0 m0 n (L' y0 y1 y2 y3 y4) (fs' y0 y1 y2 y3 y4) (os' y0 y1 y2 y3 y4) a w∧R y0 y1 y2 y3 y4∧μ y0 y1 y2 y3 y4=m) (μ x0 x1 x2 x3 x4) ⟨x0,x1,x2,x3,x4,⟨S.s.sub hL,by rw [ho,hf];exact S.m⟩,h0,rfl⟩ fun m a w ⟨y0,y1,y2,y3,y4,S,hR,hm⟩=>?_;subst hm;refine wp_mono (round y0 y1 y2 y3 y4 a w S hR) fun e a' w' hq=>?_
  cases e with
  | normal=>obtain ⟨x0,x1,x2,x3,x4,h1,h2,h3⟩:=hq;exact ⟨_,h3,x0,x1,x2,x3,x4,h1,h2,rfl⟩
  | exit id=>exact hq
  | goto l=>exact hq
  | ret=>exact hq
  | panic ch=>exact hq
  | outgrown=>exact hq
theorem lp7 {α : Type} {β : Type} {γ : Type} {δ : Type} {ε : Type} {ζ : Type} {η : Type} {c : Code} {a : Act} {w : World} (L' : α → β → γ → δ → ε → ζ → η → List (Nat × Value)) (os' : α → β → γ → δ → ε → ζ → η → List OF) (R : α → β → γ → δ → ε → ζ → η → Prop) (μ : α → β → γ → δ → ε → ζ → η → Nat) (S : St F w0 m0 n L fs os a w) (x0 : α) (x1 : β) (x2 : γ) (x3 : δ) (x4 : ε) (x5 : ζ) (x6 : η) (hL : Sub L (L' x0 x1 x2 x3 x4 x5 x6)) (ho : os' x0 x1 x2 x3 x4 x5 x6 = os) (h0 : R x0 x1 x2 x3 x4 x5 x6)
    (round:∀ (x0:α) (x1:β) (x2:γ) (x3:δ) (x4:ε) (x5:ζ) (x6:η) a w,St F w0 m0 n (L' x0 x1 x2 x3 x4 x5 x6) fs (os' x0 x1 x2 x3 x4 x5 x6) a w→R x0 x1 x2 x3 x4 x5 x6→c.wp P (Exit.then (fun a' w'=>∃ (y0:α) (y1:β) (y2:γ) (y3:δ) (y4:ε) (y5:ζ) (y6:η),St F w0 m0 n (L' y0 y1 y2 y3 y4 y5 y6) fs (os' y0 y1 y2 y3 y4 y5 y6) a' w'∧R y0 y1 y2 y3 y4 y5 y6∧μ y0 y1 y2 y3 y4 y5 y6 < μ x0 x1 x2 x3 x4 x5 x6) Q) a w):(Code.loop c).wp P Q a w:=by
  refine wp_loop_ghost (fun m a w=>∃ (y0:α) (y1:β) (y2:γ) (y3:δ) (y4:ε) (y5:ζ) (y6:η),St F w0 m0 n (L' y0 y1 y2 y3 y4 y5 y6) fs (os' y0 y1 y2 y3 y4 y5 y6) a w∧R y0 y1 y2 y3 y4 y5 y6∧μ y0 y1 y2 y3 y4 y5 y6=m) (μ x0 x1 x2 x3 x4 x5 x6) ⟨x0,x1,x2,x3,x4,x5,x6,⟨S.s.sub hL,by rw [ho];exact S.m⟩,h0,rfl⟩ fun m a w ⟨y0,y1,y2,y3,y4,y5,y6,S,hR,hm⟩=>?_;subst hm;refine wp_mono (round y0 y1 y2 y3 y4 y5 y6 a w S hR) fun e a' w' hq=>?_
  cases e with
  | normal=>obtain ⟨x0,x1,x2,x3,x4,x5,x6,h1,h2,h3⟩:=hq;exact ⟨_,h3,x0,x1,x2,x3,x4,x5,x6,h1,h2,rfl⟩
  | exit id=>exact hq
  | goto l=>exact hq
  | ret=>exact hq
  | panic ch=>exact hq
  | outgrown=>exact hq
theorem lp8 {α : Type} {β : Type} {γ : Type} {δ : Type} {ε : Type} {ζ : Type} {η : Type} {θ : Type} {c : Code} {a : Act} {w : World} (L' : α → β → γ → δ → ε → ζ → η → θ → List (Nat × Value)) (os' : α → β → γ → δ → ε → ζ → η → θ → List OF) (R : α → β → γ → δ → ε → ζ → η → θ → Prop) (μ : α → β → γ → δ → ε → ζ → η → θ → Nat) (S : St F w0 m0 n L fs os a w) (x0 : α) (x1 : β) (x2 : γ) (x3 : δ) (x4 : ε) (x5 : ζ) (x6 : η) (x7 : θ) (hL : Sub L (L' x0 x1 x2 x3 x4 x5 x6 x7)) (ho : os' x0 x1 x2 x3 x4 x5 x6 x7 = os) (h0 : R x0 x1 x2 x3 x4 x5 x6 x7)
    (round:∀ (x0:α) (x1:β) (x2:γ) (x3:δ) (x4:ε) (x5:ζ) (x6:η) (x7:θ) a w,St F w0 m0 n (L' x0 x1 x2 x3 x4 x5 x6 x7) fs (os' x0 x1 x2 x3 x4 x5 x6 x7) a w→R x0 x1 x2 x3 x4 x5 x6 x7→c.wp P (Exit.then (fun a' w'=>∃ (y0:α) (y1:β) (y2:γ) (y3:δ) (y4:ε) (y5:ζ) (y6:η) (y7:θ),St F w0 m0 n (L' y0 y1 y2 y3 y4 y5 y6 y7) fs (os' y0 y1 y2 y3 y4 y5 y6 y7) a' w'∧R y0 y1 y2 y3 y4 y5 y6 y7∧μ y0 y1 y2 y3 y4 y5 y6 y7 < μ x0 x1 x2 x3 x4 x5 x6 x7) Q) a w):(Code.loop c).wp P Q a w:=by
  refine wp_loop_ghost (fun m a w=>∃ (y0:α) (y1:β) (y2:γ) (y3:δ) (y4:ε) (y5:ζ) (y6:η) (y7:θ),St F w0 m0 n (L' y0 y1 y2 y3 y4 y5 y6 y7) fs (os' y0 y1 y2 y3 y4 y5 y6 y7) a w∧R y0 y1 y2 y3 y4 y5 y6 y7∧μ y0 y1 y2 y3 y4 y5 y6 y7=m) (μ x0 x1 x2 x3 x4 x5 x6 x7) ⟨x0,x1,x2,x3,x4,x5,x6,x7,⟨S.s.sub hL,by rw [ho];exact S.m⟩,h0,rfl⟩ fun m a w ⟨y0,y1,y2,y3,y4,y5,y6,y7,S,hR,hm⟩=>?_;subst hm;refine wp_mono (round y0 y1 y2 y3 y4 y5 y6 y7 a w S hR) fun e a' w' hq=>?_
  cases e with
  | normal=>obtain ⟨x0,x1,x2,x3,x4,x5,x6,x7,h1,h2,h3⟩:=hq;exact ⟨_,h3,x0,x1,x2,x3,x4,x5,x6,x7,h1,h2,rfl⟩
  | exit id=>exact hq
  | goto l=>exact hq
  | ret=>exact hq
  | panic ch=>exact hq
  | outgrown=>exact hq
theorem lp10 {α : Type} {β : Type} {γ : Type} {δ : Type} {ε : Type} {ζ : Type} {η : Type} {θ : Type} {ι : Type} {κ : Type} {c : Code} {a : Act} {w : World} (L' : α → β → γ → δ → ε → ζ → η → θ → ι → κ → List (Nat × Value)) (os' : α → β → γ → δ → ε → ζ → η → θ → ι → κ → List OF) (R : α → β → γ → δ → ε → ζ → η → θ → ι → κ → Prop) (μ : α → β → γ → δ → ε → ζ → η → θ → ι → κ → Nat) (S : St F w0 m0 n L fs os a w) (x0 : α) (x1 : β) (x2 : γ) (x3 : δ) (x4 : ε) (x5 : ζ) (x6 : η) (x7 : θ) (x8 : ι) (x9 : κ) (hL : Sub L (L' x0 x1 x2 x3 x4 x5 x6 x7 x8 x9)) (ho : os' x0 x1 x2 x3 x4 x5 x6 x7 x8 x9 = os) (h0 : R x0 x1 x2 x3 x4 x5 x6 x7 x8 x9)
    (round:∀ (x0:α) (x1:β) (x2:γ) (x3:δ) (x4:ε) (x5:ζ) (x6:η) (x7:θ) (x8:ι) (x9:κ) a w,St F w0 m0 n (L' x0 x1 x2 x3 x4 x5 x6 x7 x8 x9) fs (os' x0 x1 x2 x3 x4 x5 x6 x7 x8 x9) a w→R x0 x1 x2 x3 x4 x5 x6 x7 x8 x9→c.wp P (Exit.then (fun a' w'=>∃ (y0:α) (y1:β) (y2:γ) (y3:δ) (y4:ε) (y5:ζ) (y6:η) (y7:θ) (y8:ι) (y9:κ),St F w0 m0 n (L' y0 y1 y2 y3 y4 y5 y6 y7 y8 y9) fs (os' y0 y1 y2 y3 y4 y5 y6 y7 y8 y9) a' w'∧R y0 y1 y2 y3 y4 y5 y6 y7 y8 y9∧μ y0 y1 y2 y3 y4 y5 y6 y7 y8 y9 < μ x0 x1 x2 x3 x4 x5 x6 x7 x8 x9) Q) a w):(Code.loop c).wp P Q a w:=by
  refine wp_loop_ghost (fun m a w=>∃ (y0:α) (y1:β) (y2:γ) (y3:δ) (y4:ε) (y5:ζ) (y6:η) (y7:θ) (y8:ι) (y9:κ),St F w0 m0 n (L' y0 y1 y2 y3 y4 y5 y6 y7 y8 y9) fs (os' y0 y1 y2 y3 y4 y5 y6 y7 y8 y9) a w∧R y0 y1 y2 y3 y4 y5 y6 y7 y8 y9∧μ y0 y1 y2 y3 y4 y5 y6 y7 y8 y9=m) (μ x0 x1 x2 x3 x4 x5 x6 x7 x8 x9) ⟨x0,x1,x2,x3,x4,x5,x6,x7,x8,x9,⟨S.s.sub hL,by rw [ho];exact S.m⟩,h0,rfl⟩ fun m a w ⟨y0,y1,y2,y3,y4,y5,y6,y7,y8,y9,S,hR,hm⟩=>?_;subst hm;refine wp_mono (round y0 y1 y2 y3 y4 y5 y6 y7 y8 y9 a w S hR) fun e a' w' hq=>?_
  cases e with
  | normal=>obtain ⟨x0,x1,x2,x3,x4,x5,x6,x7,x8,x9,h1,h2,h3⟩:=hq;exact ⟨_,h3,x0,x1,x2,x3,x4,x5,x6,x7,x8,x9,h1,h2,rfl⟩
  | exit id=>exact hq
  | goto l=>exact hq
  | ret=>exact hq
  | panic ch=>exact hq
  | outgrown=>exact hq
end
end Go.Proofs.Ytobggnpnochnnaa.V
/- Regions that draw their order,over the bundle. -/
namespace Go.Proofs.Ytobggnpnochnnaa.V
open Go.RowKit
inductive Td (M : Nat → Prop)
  | is (x:Value)
  | of (q:Value→World→Prop) (st:∀ v w w',Ch M w w'→q v w→q v w')
def Td.q {M : Nat → Prop} : Td M → StP M
  | .is x=>isV M x
  | .of q st=>⟨q,st⟩
def tq {M : Nat → Prop} : List (Nat × Td M) → List (Nat × StP M)
  | []=>[]
  | (i,t)::r=>(i,t.q)::tq r
def dW {M : Nat → Prop} (t : Nat) : List (Nat × Td M) → Option (Td M)
  | []=>none
  | (i,v)::r=>bif Nat.beq i t then some v else dW t r
theorem dN {M : Nat → Prop} {t : Nat} {q : Td M} {v : Value} {w : World} : ∀ {E : List (Nat × Td M)}, dW t E = some q → (cz (tq E) t v w ↔ q.q.p v w)
  | [],h=>by cases h
  | (i,u)::r,h=>by
    unfold tq cz;unfold dW at h
    cases hb:Nat.beq i t
    · rw [hb] at h;exact dN (E:=r) h
    · rw [hb] at h;cases h;exact Iff.rfl
def fw {M : Nat → Prop} (E : List (Nat × Td M)) : List Nat → List (Nat × Value)
  | []=>[]
  | d::r=>match dW d E with
    | some (.is x)=>(d,x)::fw E r
    | _=>fw E r
def gQ {M : Nat → Prop} (E : List (Nat × Td M)) (a : Act) (w : World) : List Nat → Prop
  | []=>True
  | d::r=>match dW d E with
    | some (.of p _)=>p (a.tmps.getD d undef) w∧gQ E a w r
    | _=>gQ E a w r
def cat (x y:List (Nat × Value)):List (Nat × Value):=match x with
  | []=>y
  | p::r=>p::cat r y
theorem dq {M : Nat → Prop} {E : List (Nat × Td M)} {a : Act} {w : World} {n : Nat} {L : List (Nat × Value)} (s : aP n L a) : ∀ (D : List Nat), fN (tq E) a w D → aP n (cat (fw E D) L) a ∧ gQ E a w D
  | [],_=>⟨s,trivial⟩
  | d::r,h=>by
    obtain ⟨h1,h2⟩:=dq s r h.2;unfold fw gQ
    cases hl:dW d E with
    | none=>exact ⟨h1,h2⟩
    | some q =>
      cases q with
      | is x=>exact ⟨h1.ext ((dN hl).1 h.1),h2⟩
      | of p st=>exact ⟨h1,(dN hl).1 h.1,h2⟩
theorem Core.put {P:Program} {ops:Array Oper} {o:Oper} {a:Act} {w:World} {K:Act→World→Prop} {Q:Exit→Act→World→Prop} (h:Core P ops o a w K Q):Core P ops o a w (fun a' w'=>K a' w'∧∃ v,a'.tmps=(a.put o.dst v).tmps) Q:=by
  unfold Core at *
  by_cases hw:Region.wanted o (yielded ops a.tmps)=true
  · rw [if_pos hw] at h ⊢;exact h.imp Oper.pU id
  · rw [if_neg hw] at h ⊢;exact ⟨h,undef,rfl⟩
theorem Core.mono {P:Program} {ops:Array Oper} {o:Oper} {a:Act} {w:World} {K K':Act→World→Prop} {Q:Exit→Act→World→Prop} (h:Core P ops o a w K Q) (hk:∀ a w,K a w→K' a w):Core P ops o a w K' Q:=by
  unfold Core at *
  by_cases hw:Region.wanted o (yielded ops a.tmps)=true
  · rw [if_pos hw] at h ⊢;exact h.imp (Oper.wp_mono hk) id
  · rw [if_neg hw] at h ⊢;exact hk _ _ h
theorem oH {P:Program} {ops:Array Oper} {i:Nat} {o:Oper} {a:Act} {w:World} {K:Act→World→Prop} {Q:Exit→Act→World→Prop} (ho:ops[i]?=some o) (h:Core P ops o a w K Q):wpOp P ops Q i K a w:=by
  unfold wpOp;rw [ho];exact h
section
variable {P:Program} {ops:Array Oper} {F:Nat→Prop} {w0 W:World} {m0 chg:List BS} {n i:Nat} {L:List (Nat × Value)} {fs:List RF} {os:List OF} {o:Oper} {ty:TypeId} {pos:String} {af:Array Edge} {Q:Exit→Act→World→Prop} {E:List (Nat × Td (In chg))} {D:List Nat}
def HD (P:Program) (ops:Array Oper) (Q:Exit→Act→World→Prop) (F:Nat→Prop) (w0 W:World) (m0:List BS) (n:Nat) (L:List (Nat × Value)) (fs:List RF) (os:List OF) {chg:List BS} (E:List (Nat × Td (In chg))) (i:Nat) (o:Oper) (D:List Nat):Prop :=
  ∀ a w,St F w0 m0 n (cat (fw E D) L) fs os a w→Ch (In chg) W w→gQ E a w D→wpOp P ops Q i (fT o (tq E) (Mm F w0 m0 fs os) n a w) a w
def HS (P : Program) (ops : Array Oper) (Q : Exit → Act → World → Prop) (F : Nat → Prop) (w0 W : World) (m0 : List BS) (n : Nat) (L : List (Nat × Value)) (fs : List RF) (os : List OF) {chg : List BS} (E : List (Nat × Td (In chg))) : Nat → List Oper → List (List Nat) → Prop
  | i,o::r,D::Ds=>HD P ops Q F w0 W m0 n L fs os E i o D∧HS P ops Q F w0 W m0 n L fs os E (i+1) r Ds
  | _,_,_=>True
theorem HS.steps : ∀ (l : List Oper) (Ds : List (List Nat)) (i : Nat), HS P ops Q F w0 W m0 n L fs os E i l Ds → steps P ops Q n L W (tq E) (Mm F w0 m0 fs os) i l Ds
  | [],_,_,_=>by cases ‹List (List Nat)› <;> trivial
  | _::_,[],_,_=>trivial
  | o::r,D::Ds,i,h=>⟨fun a w hc hm s hd=>by
      obtain ⟨h1,h2⟩:=dq s D hd
      exact h.1 a w ⟨h1,hm⟩ hc h2,HS.steps r Ds (i+1) h.2⟩
theorem Mm.drew {w:World} (M:Mm F w0 m0 fs os w):Mm F w0 m0 fs os { w with drawn:=w.drawn+1 }:=M.k0 (Ch.refl w).drew
theorem dr {id : Nat} {a : Act} {w : World} {l : List Oper} (S : St F w0 m0 n L fs os a w) (N : Nat) (chg : List BS) (E : List (Nat × Td (In chg))) (Ds : List (List Nat)) (outs : List Nat) (tail : List Oper) (step : HS P l.toArray Q F w0 w m0 n L fs os E 0 (l.take N) Ds)
    (fin:∀ a w',St F w0 m0 n (cat (fw E outs) L) fs os a w'→Ch (In chg) w w'→gQ E a w' outs→wpList P l.toArray Q tail a w')
    (htl:tail=l.drop N:=by rfl) (hm:P.follows .mixedOrders=true:=by exact mixed) (hok:(dY l.toArray N && dm l.toArray N 0 Ds && fM l.toArray N L && jB l.toArray N outs && eT l.toArray N)=true:=by kernel_rfl) (hlen:Ds.length=N:=by rfl):(Code.region id l.toArray true).wp P Q a w :=
  tE S.s N (tq E) (Mm F w0 m0 fs os) Ds outs tail htl hm hok hlen S.m.drew (HS.steps _ _ _ step) fun a w' hc hm s hd=>by
    obtain ⟨h1,h2⟩:=dq s outs hd;exact fin a w' ⟨h1,hm⟩ hc h2
theorem uo {c:List BS} {d:Nat} {v:Value} {L':List (Nat × Value)} {a:Act} {w:World} (S:St F w0 m0 n L' fs os a w) (h:One P ops (St F w0 m0 n L' fs os) c o (St F w0 m0 n ((d,v)::L') fs os)) (hd:o.dst=some d) (hn:d < n) (he:cz (tq E) d v w∧(∀ w',cz (tq E) d v w→cz (tq E) d v w')) (hc:∀ k,In c k→In chg k):Core P ops o a w (fT o (tq E) (Mm F w0 m0 fs os) n a w) Q:=by
  refine Core.mono (Core.put (h _ Q a w S fun a' w' Y g=>(⟨Y,g⟩:St F w0 m0 n ((d,v)::L') fs os a' w'∧Ch (In c) w w'))) ?_;rintro a' w' ⟨⟨Y,g⟩,u,hu⟩;have h1:a'.tmps.getD d undef=v:=Y.s.get d v (by rw [bW,if_pos rfl]);have h2:(a.put o.dst u).tmps.getD d undef=u:=by rw [hd,dg a d d u (by rw [S.s.size];exact hn),if_pos rfl]
  rw [hu,h2] at h1;subst h1;have h3:a'=a.put o.dst u:=by
    have e1:=Y.s.defers;have e2:(a.put o.dst u).defers=[]:=by rw [← S.s.defers];cases o.dst <;> rfl
    cases a'
    cases hp:a.put o.dst u
    rw [hp] at hu e2
    simp_all
  exact ⟨⟨u,h3,fun e he'=>by rw [hd] at he';cases he';exact ⟨hn,he.2 w' he.1⟩⟩,g.mono hc,Y.m⟩
theorem qd {c:List BS} {d:Nat} {v:Value} (h:One P ops (St F w0 m0 n (cat (fw E D) L) fs os) c o (St F w0 m0 n ((d,v)::cat (fw E D) L) fs os)) (hk:ops[i]?=some o∧o.dst=some d∧d < n:=by exact ⟨rfl,rfl,by decide⟩) (he:dW d E=some (.is v):=by rfl) (hc:∀ k,In c k→In chg k:=by intro k h;first | exact h.elim | exact h):HD P ops Q F w0 W m0 n L fs os E i o D :=
  fun a w S _ _=>oH hk.1 (uo S h hk.2.1 hk.2.2 ⟨(dN he).2 rfl,fun w' _=>(dN he).2 rfl⟩ hc)
section
variable {a:Act} {w:World} {L':List (Nat × Value)} {rs':List RF}
theorem hvl (d:Nat) {v:Value} (S:St F w0 m0 n L' rs' os a w) (M:Mm F w0 m0 fs os w) (h:(execOp a.eval o).run P w = .ok (.value v) w) (ht:cz (tq E) d v w) (hk:ops[i]?=some o∧o.guard=none∧o.dst=some d∧d < n:=by exact ⟨rfl,rfl,rfl,by decide⟩):wpOp P ops Q i (fT o (tq E) (Mm F w0 m0 fs os) n a w) a w :=
  ez hk.1 hk.2.1 (fL h (fT.same hk.2.2.1 hk.2.2.2 ht M))
theorem hng (d : Nat) (gd : Nat) {b : Bool} {gv : Value} (S : St F w0 m0 n L' rs' os a w) (M : Mm F w0 m0 fs os w) (hv : look gd L' = some gv) (hw : ¬ gv = .bool b) (ht : cz (tq E) d undef w)
    (hk:∃ j p,ops[i]?=some o∧o.guard=some (j,b)∧ops[j]?=some p∧p.dst=some gd∧gd < n∧o.dst=some d∧d < n:=by exact ⟨_,_,rfl,rfl,rfl,rfl,by decide,rfl,by decide⟩):wpOp P ops Q i (fT o (tq E) (Mm F w0 m0 fs os) n a w) a w:=by
  obtain ⟨j,p,h1,h2,h3,h4,h5,h6,h7⟩:=hk;exact wC h1 h2 h3 h4 (by rw [S.s.size];exact h5) (S.s.get gd _ hv) hw (fT.same h6 h7 ht M)
theorem hvg (d : Nat) {v : Value} (gd : Nat) {b : Bool} {gv : Value} (S : St F w0 m0 n L' rs' os a w) (M : Mm F w0 m0 fs os w) (hv : look gd L' = some gv) (hw : gv = .bool b) (h : (execOp a.eval o).run P w = .ok (.value v) w) (ht : cz (tq E) d v w)
    (hk:∃ j p,ops[i]?=some o∧o.guard=some (j,b)∧ops[j]?=some p∧p.dst=some gd∧gd < n∧o.dst=some d∧d < n:=by exact ⟨_,_,rfl,rfl,rfl,rfl,by decide,rfl,by decide⟩):wpOp P ops Q i (fT o (tq E) (Mm F w0 m0 fs os) n a w) a w:=by
  obtain ⟨j,p,h1,h2,h3,h4,h5,h6,h7⟩:=hk;exact px h1 h2 h3 h4 (by rw [S.s.size];exact h5) (S.s.get gd _ hv) hw (fL h (fT.same h6 h7 ht M))
theorem hcl {d : Nat} {f : FuncId} {args : Array Operand} {ats : Array TypeId} {vs : Array Value} {R : Ending → World → Prop} (S : St F w0 m0 n L' rs' os a w) (hc : Calls P f vs w R) (hf : az P f)
    (hR:∀ e w',R e w'→∃ v,e = .returned v∧cz (tq E) d v w'∧Ch (In chg) w w'∧Mm F w0 m0 fs os w') (hv:args.toList.map (evS L')=vs.toList.map some:=by rfl) (hk:ops[i]?=some ⟨some d,.call ⟨.value (.func f),args,ats⟩,ty,pos,af,none⟩∧d < n:=by exact ⟨rfl,by decide⟩) :
    wpOp P ops Q i (fT ⟨some d,.call ⟨.value (.func f),args,ats⟩,ty,pos,af,none⟩ (tq E) (Mm F w0 m0 fs os) n a w) a w :=
  ez hk.1 rfl (gx (gY S.s hv) hf hc fun e w' he=>let ⟨v,h1,h2,h3,h4⟩:=hR e w' he;⟨v,h1,fT.mk' rfl hk.2 h2 h3 h4⟩)
theorem hcg {d : Nat} (gd : Nat) {j : Nat} {b : Bool} {gv : Value} {f : FuncId} {args : Array Operand} {ats : Array TypeId} {vs : Array Value} {R : Ending → World → Prop} (S : St F w0 m0 n L' rs' os a w) (hgv : look gd L' = some gv) (hw : gv = .bool b) (hc : Calls P f vs w R) (hf : az P f) (hv0 : GA True a args.toList vs.toList)
    (hR:∀ e w',R e w'→∃ v,e = .returned v∧cz (tq E) d v w'∧Ch (In chg) w w'∧Mm F w0 m0 fs os w') (hk:∃ p,ops[i]?=some ⟨some d,.call ⟨.value (.func f),args,ats⟩,ty,pos,af,some (j,b)⟩∧ops[j]?=some p∧p.dst=some gd∧gd < n∧d < n:=by exact ⟨_,rfl,rfl,rfl,by decide,by decide⟩) :
    wpOp P ops Q i (fT ⟨some d,.call ⟨.value (.func f),args,ats⟩,ty,pos,af,some (j,b)⟩ (tq E) (Mm F w0 m0 fs os) n a w) a w:=by
  obtain ⟨p,h1,h2,h3,h4,h5⟩:=hk;exact px h1 rfl h2 h3 (by rw [S.s.size];exact h4) (S.s.get gd _ hgv) hw (gx (hv0.get trivial) hf hc fun e w' he=>let ⟨v,g1,g2,g3,g4⟩:=hR e w' he;⟨v,g1,fT.mk' rfl h5 g2 g3 g4⟩)
theorem hnb (d:Nat) {v:Value} {ob:Obj} (M:Mm F w0 m0 fs os w) (h:(execOp a.eval o).run P w = .ok (.value v) (w.alloc ob)) (ht:Ch (In []) w (w.alloc ob)→cz (tq E) d v (w.alloc ob)) (hk:ops[i]?=some o∧o.guard=none∧o.dst=some d∧d < n:=by exact ⟨rfl,rfl,rfl,by decide⟩):wpOp P ops Q i (fT o (tq E) (Mm F w0 m0 fs os) n a w) a w :=
  ez hk.1 hk.2.1 (fL h (fT.mk' hk.2.2.1 hk.2.2.2 (ht (fH w ob)) ((fH w ob).mono fun _ h=>h.elim) (M.k0 (fH w ob))))
end
theorem St.z {a:Act} {w:World} {rs:List RF} {L':List (Nat × Value)} (_:St F w0 m0 n L' rs os a w):∃ z,z=w.heap.size:=⟨_,rfl⟩
def HDN (A:List Nat) (P:Program) (ops:Array Oper) (Q:Exit→Act→World→Prop) (F:Nat→Prop) (w0 W:World) (m0:List BS) (n:Nat) (L:List (Nat × Value)) (fs:List RF) (os:List OF) {chg:List BS} (E:List (Nat × Td (In chg))) (i:Nat) (o:Oper) (D:List Nat):Prop :=
  ∀ a w,St F w0 m0 n (cat (fw E D) L) fs os a w→Ch (In chg) W w→gQ E a w D→wpOp P ops Q i (xK A o (tq E) (Mm F w0 m0 fs os) n a w) a w
def HSN (A : List Nat) (P : Program) (ops : Array Oper) (Q : Exit → Act → World → Prop) (F : Nat → Prop) (w0 W : World) (m0 : List BS) (n : Nat) (L : List (Nat × Value)) (fs : List RF) (os : List OF) {chg : List BS} (E : List (Nat × Td (In chg))) : Nat → List Oper → List (List Nat) → Prop
  | i,o::r,D::Ds=>HDN A P ops Q F w0 W m0 n L fs os E i o D∧HSN A P ops Q F w0 W m0 n L fs os E (i+1) r Ds
  | _,_,_=>True
theorem HSN.steps {A : List Nat} : ∀ (l : List Oper) (Ds : List (List Nat)) (i : Nat), HSN A P ops Q F w0 W m0 n L fs os E i l Ds → tL A P ops Q n L W (tq E) (Mm F w0 m0 fs os) i l Ds
  | [],_,_,_=>by cases ‹List (List Nat)› <;> trivial
  | _::_,[],_,_=>trivial
  | o::r,D::Ds,i,h=>⟨fun a w hc hm s hd=>by
      obtain ⟨h1,h2⟩:=dq s D hd
      exact h.1 a w ⟨h1,hm⟩ hc h2,HSN.steps r Ds (i+1) h.2⟩
theorem St.own {a a0:Act} {w W:World} {L0:List (Nat × Value)} (S0:St F w0 m0 n L0 fs os a0 W) (S:St F w0 m0 n L fs os a w) (js:List Nat) (G:Ch (In (cj (ow os) js)) W w) (hj:∀ j f,j∈js→nth os j=some f→∀ V1 V2,f.p F V1 w→f.p F V2 w) (nw:List OF) (hsep:Sep (ow nw)) (hn:∀ k,In (ow nw) k→W.heap.size≤k∧k < w.heap.size) (hp:∀ f∈nw,∀ V,f.p F V w):St F w0 m0 n L fs (os++nw) a w:=by
  have hin:∀ k,In (ow nw) k→¬ In (ow os) k:=fun k h1 h2=>by have:=hn k h1;have:=S0.M.lt k h2;omega
  have hMS:∀ (x:List BS),Sep x→(∀ k,In x k→W.heap.size≤k∧k < w.heap.size)→(∀ k,In x k→¬ In (ow os) k)→MS (x++ow os) w:=by
    intro x
    induction x with
    | nil=>intro _ _ _;exact S.M
    | cons o r ih =>
      intro s h1 h2;exact (ih s.2 (fun k hk=>h1 k (.inr hk)) (fun k hk=>h2 k (.inr hk))).cons fun k hk=>⟨(h1 k (.inl hk)).2,fun hm=>(aK.1 hm).elim (s.1 k hk) (h2 k (.inl hk))⟩
  have M:=hMS (ow nw) hsep hn hin;have T:Tr (ow os) W (ow os++ow nw) w:=Tr.comm ⟨G.mono fun k hk=>dR hk,fun k hk=>(aK.1 hk).elim (fun h=>.inr (hn k h).1) .inl,M⟩;have T0:Tr m0 w0 (ow os++ow nw) w:=Tr.comm ⟨S.m.c.ch,fun k hk=>(aK.1 hk).elim (fun h=>.inr (Nat.le_trans S0.m.c.size (hn k h).1)) (S.m.c.sub k),M⟩;refine ⟨S.s,by rw [bJ];exact T0,S.m.f,fun f hf=>by rw [bJ];exact f.st T.mv (S0.m.r f hf),fun f hf=>?_⟩;rw [bJ]
  rcases List.mem_append.1 hf with h | h
  · obtain ⟨i, hi⟩ := ky h
    by_cases hc:js.contains i=true
    · exact hj i f (List.contains_iff_mem.1 hc) hi _ _ (S.m.o f h)
    · exact f.st T.mv (fun k hk ho=>G.block k hk fun hm=>S0.m.sep hi js (by simpa using hc) ho hm) (S0.m.o f h)
  · exact hp f h _
end
end Go.Proofs.Ytobggnpnochnnaa.V
/- A call in a region that draws its order,with operations behind it that may run before it. -/
namespace Go.Proofs.Ytobggnpnochnnaa.V
open Go.RowKit
def xo (Z:List (Nat × Value)) (D:List Nat):List (Nat × Value):=D.filterMap fun k=>Z[k]?
section
variable {P:Program} {F:Nat→Prop} {w0:World} {m0 chg:List BS} {n:Nat} {L:List (Nat × Value)} {rs:List RF} {os ks:List OF} {Q:Exit→Act→World→Prop}
def LZ (P : Program) (n N : Nat) (L : List (Nat × Value)) (F : Nat → Prop) (w0 : World) (m0 : List BS) (rs : List RF) (ks : List OF) (Z : List (Nat × Value)) : List Oper → List (Nat × Value) → List (List Nat) → Prop
  | o::r,z::zs,D::Ds=>((z.1 < n∧(D.all fun k=>o.after.any fun e=>Region.binds .any e && e.on == N+1+k)=true)∧∀ fs a w,St F w0 m0 n (xo Z D++L) rs (ks++fs) a w→(execOp a.eval o).run P w = .ok (.value z.2) w)∧LZ P n N L F w0 m0 rs ks Z r zs Ds
  | _,_,_=>True
theorem LZ.get {N : Nat} {Z : List (Nat × Value)} : ∀ (r : List Oper) (zs : List (Nat × Value)) (Ds : List (List Nat)) (k : Nat), k < zs.length → zs.length ≤ r.length → Ds.length = zs.length → LZ P n N L F w0 m0 rs ks Z r zs Ds → ∃ o z D, r[k]? = some o ∧ zs[k]? = some z ∧ (z.1 < n ∧ (D.all fun k => o.after.any fun e => Region.binds .any e && e.on == N + 1 + k) = true) ∧ ∀ fs a w, St F w0 m0 n (xo Z D ++ L) rs (ks ++ fs) a w → (execOp a.eval o).run P w = .ok (.value z.2) w
  | [],zs,_,_,h,hl,_,_=>by simp at hl;subst hl;simp at h
  | o::r,[],_,_,h,_,_,_=>by simp at h
  | o::r,z::zs,[],_,_,_,hD,_=>by simp at hD
  | o::r,z::zs,D::Ds,0,_,_,_,h=>⟨o,z,D,rfl,rfl,h.1.1,h.1.2⟩
  | o::r,z::zs,D::Ds,k+1,hk,hl,hD,h=>by
    obtain ⟨o',z',D',h1,h2,h3⟩:=LZ.get r zs Ds k (by simpa using hk) (by simpa using hl) (by simpa using hD) h.2;exact ⟨o',z',D',by simpa using h1,by simpa using h2,h3⟩
theorem clw {a : Act} {w : World} {K : Act → World → Prop} {d : Nat} {f : FuncId} {args : Array Operand} {ats : Array TypeId} {vs : Array Value} {R : Ending → World → Prop} {ty : TypeId} {pos : String} {af : Array Edge} (S : St F w0 m0 n L rs os a w) (hc : Calls P f vs w R) (hf : az P f)
    (hR:∀ e w',R e w'→∃ v,e = .returned v∧∀ a',aP n ((d,v)::L) a'→K a' w') (hv:args.toList.map (evS L)=vs.toList.map some:=by rfl) (hd:d < n:=by decide):Oper.wp P ⟨some d,.call ⟨.value (.func f),args,ats⟩,ty,pos,af,none⟩ a w K Q :=
  gx (gY S.s hv) hf hc fun e w' he=>let ⟨v,h1,h2⟩:=hR e w' he;⟨v,h1,h2 _ (S.s.put hd)⟩
theorem St.jz {d:Nat} {a:Act} {w:World} {v:Value} (S:St F w0 m0 n L rs os a w) (hd:look d L=none):St F w0 m0 n L rs os (a.put (some d) v) w:=⟨S.s.jz hd,S.m⟩
theorem lzc {γ : Type} {id : Nat} {a : Act} {w : World} {l : List Oper} {t1 : Oper} (S : St F w0 m0 n L rs os a w) (N m : Nat) (chg : List BS) (E : List (Nat × Td (In chg))) (Ds : List (List Nat)) (outs : List Nat) (Z : List (Nat × Value)) (ZD : List (List Nat)) (d : Nat) (rest : List Oper) (ks fs0 : List OF) (v : γ → Value) (fs1 : γ → List OF) (R : γ → Prop)
    (step:HS P l.toArray Q F w0 w m0 n L rs os E 0 (l.take N) Ds) (lzy:LZ P n N L F w0 m0 rs ks Z (l.drop (N+1)) Z ZD)
    (main:∀ a w',St F w0 m0 n (cat (fw E outs) L) rs os a w'→Ch (In chg) w w'→gQ E a w' outs→∀ K:Act→World→Prop,(∀ g a w,St F w0 m0 n ((d,v g)::L) rs (ks++fs1 g) a w→R g→K a w)→t1.wp P a w' K Q)
    (fin:∀ g a w,St F w0 m0 n (Z++(d,v g)::L) rs (ks++fs1 g) a w→R g→wpList P l.toArray Q rest a w)
    (hos:os=ks++fs0:=by rfl) (ht1:l[N]?=some t1:=by rfl) (hg1:t1.guard=none∧t1.dst=some d:=by exact ⟨rfl,rfl⟩) (hrest:rest=l.drop (N+m+1):=by rfl) (hm:P.follows .mixedOrders=true:=by exact mixed)
    (hok:(dY l.toArray N && dm l.toArray N 0 Ds && fM l.toArray N L && jB l.toArray N outs && jE l.toArray N m L Z)=true:=by kernel_rfl) (hlen:Ds.length=N:=by rfl) (hZ:Z.length=m:=by rfl) (hZD:ZD.length=m:=by rfl) (hzk:Z.all (fun z=>z.1 != d && (look z.1 L).isNone)=true:=by kernel_rfl):(Code.region id l.toArray true).wp P Q a w:=by
  have hzn:∀ z∈Z,∀ g,look z.1 ((d,v g)::L)=none:=fun z hz g=>by
    have:=List.all_eq_true.1 hzk z hz;simp only [Bool.and_eq_true,bne_iff_ne,Option.isNone_iff_eq_none] at this;rw [bW,if_neg (fun e=>this.1 e.symm)];exact this.2
  have hsz:N+m+1 < l.length:=by
    have h:=hok;simp only [Bool.and_eq_true,jE,decide_eq_true_eq] at h
    simpa using h.2.1.1.1.1.1.1.1.1
  have hL:∀ g a,aP n ((d,v g)::L) a→aP n L a:=fun g a s=>⟨s.size,s.defers,fun i u hu=>s.get i u (by
    rw [bW]
    by_cases e:d=i
    · subst e;exfalso;have h:=hok;simp only [Bool.and_eq_true,jE] at h;have q:=List.all_eq_true.1 h.2.1.1.1.2 _ (fF hu);have q2:=List.all_eq_true.1 q N (List.mem_range.2 bo);rw [show l.toArray[N]?=some t1 from by simpa using ht1] at q2;simp [hg1.2] at q2
    · rw [if_neg e];exact hu)⟩
  refine tC (LW:=fun w=>∃ fs,Mm F w0 m0 rs (ks++fs) w) S.s N m (tq E) (Mm F w0 m0 rs os) Ds outs Z t1 rest (fun a w=>∃ g,St F w0 m0 n ((d,v g)::L) rs (ks++fs1 g) a w∧R g) ht1 hg1.1 hrest hm hok hlen hZ S.m.drew (HS.steps _ _ _ step) (fun k hk=>?_) (fun w M=>⟨fs0,hos▸M⟩) (fun a w ⟨g,S',_⟩=>⟨_,S'.m⟩) ?_ ?_ (fun a w ⟨g,S',_⟩=>hL g a S'.s) ?_
  · obtain ⟨o, z, D, e1, e2, ⟨e3, e4⟩, e5⟩ := LZ.get (P := P) (l.drop (N + 1)) Z ZD k bo (by simp; omega) bo lzy;rw [List.getElem?_drop] at e1;refine ⟨o, z, D, e1, e2, e3, fun k' hk' => ?_, fun a w s ⟨fs, M⟩ hD => e5 fs a w ⟨s.both ⟨s.size, s.defers, fun i u h => ?_⟩, M⟩⟩
    · have:=List.all_eq_true.1 e4 k' hk';obtain ⟨e,he,hb⟩:=Array.any_eq_true'.1 this;simp only [Bool.and_eq_true,beq_iff_eq] at hb;exact ⟨e,he,hb.1,hb.2⟩
    · obtain ⟨k',hk',hz'⟩:=List.mem_filterMap.1 (fF h);exact hD k' hk' _ hz'
  · intro a w' hc hM s hd;obtain ⟨h1,h2⟩:=dq s outs hd;exact main a w' ⟨h1,hM⟩ hc h2 _ fun g a w S' hR=>⟨g,S',hR⟩
  · rintro a w d' v' ⟨k,z,hz,rfl⟩ ⟨g,S',hR⟩;exact ⟨g,S'.jz (hzn z (List.mem_of_getElem? hz) g),hR⟩
  · rintro a w ⟨g,S',hR⟩ sZ;exact fin g a w ⟨S'.s.both sZ,S'.m⟩ hR
end
end Go.Proofs.Ytobggnpnochnnaa.V
/- Arithmetic on bits and without bounds;a part of an element of a row is written. -/
namespace Go.Proofs.Ytobggnpnochnnaa.V
open Go.RowKit
theorem kg (x:Int):eL (IntKind.u32.wrap x):=by
  unfold IntKind.wrap;simp [IntKind.signed,IntKind.bits];omega
theorem wu8 (x:Int):iA (IntKind.u8.wrap x):=by
  unfold IntKind.wrap;simp [IntKind.signed,IntKind.bits];omega
def bOr (k:IntKind) (x y:Int):Int:=k.wrap ((BitVec.ofInt k.bits x ||| BitVec.ofInt k.bits y).toNat:Int)
def mC (k:IntKind) (x y:Int):Int:=k.wrap ((BitVec.ofInt k.bits x ^^^ BitVec.ofInt k.bits y).toNat:Int)
def yR (k:IntKind) (x y:Int):Int:=k.wrap ((BitVec.ofInt k.bits x &&& BitVec.ofInt k.bits y).toNat:Int)
def sHl (k:IntKind) (x n:Int):Int:=k.wrap (x * 2 ^ (min n.toNat k.bits))
def sHr (k:IntKind) (x n:Int):Int:=x.fdiv (2 ^ (min n.toNat k.bits))
theorem tS {k:IntKind} {x n m:Int} (h:0≤x∧x≤m):0≤sHr k x n∧sHr k x n≤m:=by
  unfold sHr;have hp:(0:Int) < 2 ^ (min n.toNat k.bits):=Int.pow_pos (by decide);rw [Int.fdiv_eq_ediv_of_nonneg _ (Int.le_of_lt hp)];exact ⟨Int.ediv_nonneg h.1 (Int.le_of_lt hp),Int.le_trans (Int.ediv_le_self _ h.1) h.2⟩
section
variable {P:Program} {a:Act} {w:World} {d:Option Tmp} {ty:TypeId} {pos:String} {af:Array Edge} {g:Option (Nat × Bool)} {x y:Operand} {xt yt:TypeId} {k k':IntKind} {m p:Int}
theorem tB (hx:a.eval x = .int k m) (hy:a.eval y = .int k p):(execOp a.eval ⟨d,.binOp .or xt x y yt,ty,pos,af,g⟩).run P w = .ok (.value (.int k (bOr k m p))) w:=by simp [execOp,eqGuard,binOp,Op.intBits,hx,hy,bOr]
theorem tw (hx:a.eval x = .int k m) (hy:a.eval y = .int k p):(execOp a.eval ⟨d,.binOp .xor xt x y yt,ty,pos,af,g⟩).run P w = .ok (.value (.int k (mC k m p))) w:=by simp [execOp,eqGuard,binOp,Op.intBits,hx,hy,mC]
theorem xU (hx:a.eval x = .int k m) (hy:a.eval y = .int k p):(execOp a.eval ⟨d,.binOp .and xt x y yt,ty,pos,af,g⟩).run P w = .ok (.value (.int k (yR k m p))) w:=by simp [execOp,eqGuard,binOp,Op.intBits,hx,hy,yR]
theorem tt (hx:a.eval x = .int k m) (hy:a.eval y = .int k' p) (h0:0≤p):(execOp a.eval ⟨d,.binOp .shl xt x y yt,ty,pos,af,g⟩).run P w = .ok (.value (.int k (sHl k m p))) w:=by
  have:¬ p < 0:=by omega
  simp [execOp,eqGuard,binOp,Op.shift,hx,hy,sHl,this]
theorem oR (hx:a.eval x = .int k m) (hy:a.eval y = .int k' p) (h0:0≤p):(execOp a.eval ⟨d,.binOp .shr xt x y yt,ty,pos,af,g⟩).run P w = .ok (.value (.int k (sHr k m p))) w:=by
  have:¬ p < 0:=by omega
  simp [execOp,eqGuard,binOp,Op.shift,hx,hy,sHr,this]
end
theorem gC {P:Program} {n:Nat} {L:List (Nat × Value)} {a:Act} {w:World} {fn:Func} {R:Ending→World→Prop} {t t' T:Nat} {b:Nat} {v':Value} {cs:List Value} (hr:fn.results = #[.cell t T,.tmp t']) (S:aP n L a) (hv:look t L=some (.pointer (some ⟨b,0,none⟩))) (hv':look t' L=some v') (hc:∀ j v,cs[j]?=some v→df w.heap b (0+j)=some v) (hs:iS P T cs.length) (h:R (.returned (.tuple #[.agg cs.toArray,v'])) w):bodyPost P fn R .ret a w:=by
  refine ⟨S.defers,_,?_,h⟩;have hl:=fj (P:=P) (w:=w) cs hs hc;have h1:=S.get t _ hv;have h2:=S.get t' _ hv';simp only [Array.getD_eq_getD_getElem?] at h1 h2;simp [results,hr,h1,h2,asAddr,hl]
end Go.Proofs.Ytobggnpnochnnaa.V
/- Regions that draw their order and make several rows of their own: which blocks differ. -/
namespace Go.Proofs.Ytobggnpnochnnaa.V
open Go.RowKit
section
variable {P:Program}
theorem qp {ops : Array Oper} {n : Nat} {Q : Exit → Act → World → Prop} {E : Nat → Value → World → Prop} {C : Array Bool → Act → World → Prop} {a₀ : Act} (tail : List Oper) (htl : tail = ops.toList.drop n) (hok : dY ops n = true) (htail : eT ops n = true)
    (step : ∀ i, i < n → ∀ o, ops[i]? = some o → ∀ (listed : Array Bool) a w, listed.getD i true = false → (∀ e ∈ o.after, Region.binds .any e = true → listed.getD e.on false = true) → listed.size = ops.size → C listed a w → dV ops n E a₀ listed a w → a.tmps.size = a₀.tmps.size → a.defers = a₀.defers → (∀ t, (∀ j, j < n → ∀ o, ops[j]? = some o → o.dst ≠ some t) → a.tmps.getD t undef = a₀.tmps.getD t undef) →
      (∀ j p d,j < n→ops[j]?=some p→p.dst=some d→d∈o.looksAt ops→E d (a.tmps.getD d undef) w) →
      wpOp P ops Q i (fun a' w'=>(∃ v,a'=a.put o.dst v∧(∀ d,o.dst=some d→d < a.tmps.size∧E d v w'))∧C (listed.setIfInBounds i true) a' w'∧∀ t v,E t v w→E t v w') a w)
    (fin:∀ a w,C (Array.replicate n true++Array.replicate (ops.size - n) false) a w→dV ops n E a₀ (Array.replicate n true) a w→wpList P ops Q tail a w) :
    ∀ (f:Nat) (listed:Array Bool) (a:Act) (w:World),left n listed=f→HeadInv .any ops n listed→C listed a w→dV ops n E a₀ listed a w→wpAny P .any ops Q (f+(ops.size - n)) listed a w:=by
  simp only [eT,Bool.and_eq_true,decide_eq_true_eq] at htail;obtain ⟨⟨hn,hsc⟩,hseq⟩:=htail;intro f
  induction f with
  | zero =>
    intro listed a w hf inv hC st;have hall:=je hf;have hl:listed=Array.replicate n true++Array.replicate (ops.size - n) false:=by
      apply Array.ext
      · simp [inv.size];omega
      · intro i h1 h2
        by_cases hi:i < n
        · have h3:=hall i hi;simp [h1] at h3;simp [Array.getElem_append,hi,h3]
        · have h3:=inv.tail i bo (by rw [← inv.size];exact h1);simp [h1] at h3;simp [Array.getElem_append,hi,h3]
    subst hl;have hlen:tail.length=ops.size - n:=by rw [htl];simp
    have h := wpAny_of_seq (P := P) (ops := ops) (md := .any) (Q' := Q) tail n (Array.replicate n true ++ Array.replicate (ops.size - n) false) a w (fun j => by rw [htl, List.getElem?_drop, Array.getElem?_toList]) (by rw [hlen]; exact hseq) (fin a w hC
      ⟨st.size,st.defers,st.base,fun j hj _ o d ho hd=>st.done j hj (by simp [Array.getElem?_append,hj]) o d ho hd⟩)
    rw [hlen] at h;rw [Nat.zero_add];exact h
  | succ f ih =>
    intro listed a w hf inv hC st;rw [show f+1+(ops.size - n)=(f+(ops.size - n))+1 from by omega];obtain ⟨j,hjn,hjl,hjmin⟩:=j2 (n:=n) (listed:=listed) bo;have hget:∀ i,i < n→∃ o,ops[i]?=some o:=fun i hi=>⟨_,Array.getElem?_eq_getElem (Nat.lt_of_lt_of_le hi hn)⟩;have hready:j∈Region.ready .any ops listed:=by
      obtain ⟨o,ho⟩:=hget j hjn;refine mem_ready.2 ⟨hjl,o,ho,fun e he hb=>?_⟩;have h1:=List.all_eq_true.1 hok j (List.mem_range.2 hjn);simp only [ho,Bool.and_eq_true] at h1;have h2:=Array.all_eq_true_iff_forall_mem.1 h1.1 e he;simp only [hb,Bool.not_true,Bool.false_or,decide_eq_true_eq] at h2;have h3:=hjmin e.on h2;have h4:e.on < listed.size:=by rw [inv.size];omega
      simp [h4] at h3 ⊢;exact h3
    refine ⟨fun h=>(by rw [h] at hready;cases hready),fun i hi=>?_⟩;have hin:i < n:=by
      rcases hsc':(n == ops.size) with _ | _
      · rw [hsc',Bool.false_or,Bool.and_eq_true] at hsc;have hlt:n < ops.size:=by
          have:n≠ops.size:=by simpa using hsc'
          omega
        exact Nat.lt_of_not_le fun h=>tail_waits hsc.1 hsc.2 hlt inv _ j rfl hjn hjl i h hi
      · have : n = ops.size := by simpa using hsc'
        obtain ⟨_,o,ho,_⟩:=mem_ready.1 hi;have:=(Array.getElem?_eq_some_iff.1 ho).1;omega
    obtain ⟨hil,o,ho,hall⟩:=mem_ready.1 hi;refine wpOp_mono ?_ (step i hin o ho listed a w hil hall inv.size hC st st.size st.defers st.base ?_)
    · rintro a' w' ⟨⟨v, rfl, hv⟩, hC', hmono⟩;have hl' := jZ hin hil;refine ih (listed.setIfInBounds i true) _ w' bo (inv.set hi hin) hC' ⟨?_, ?_, ?_, ?_⟩
      · cases o.dst <;> simp [Act.put,st.size]
      · cases o.dst <;> simp [Act.put,st.defers]
      · intro t ht;rw [← st.base t ht];have hne := ht i hin o ho
        cases hd:o.dst with
        | none=>rfl
        | some d =>
          have:d≠t:=fun e=>hne (by rw [hd,e]);simp [Act.put,Array.getElem?_setIfInBounds_ne this]
      · intro k hk hkl p d hp hd
        by_cases hki:k=i
        · subst hki;obtain rfl:o=p:=Option.some.inj (ho.symm.trans hp);obtain ⟨h1,h2⟩:=hv d hd;rw [hd,dg a d d v h1,if_pos rfl];exact h2
        · rw [getD_set_ne false (Ne.symm hki)] at hkl;have h1:=hmono d _ (st.done k hk hkl p d hp hd);have hdist:o.dst≠some d:=by
            have g1:=List.all_eq_true.1 hok i (List.mem_range.2 hin);simp only [ho,Bool.and_eq_true] at g1;have g2:=List.all_eq_true.1 g1.2 k (List.mem_range.2 hk);simp only [hp,hd,Bool.and_eq_true,Bool.or_eq_true,beq_iff_eq,bne_iff_ne,Option.isNone_some,Bool.false_eq_true,or_false] at g2;exact fun e=>(g2.1.resolve_left hki) e.symm
          cases hod:o.dst with
          | none=>exact h1
          | some d' =>
            have:d'≠d:=fun e=>hdist (by rw [hod,e]);rw [show (a.put (some d') v).tmps.getD d undef=a.tmps.getD d undef from by simp [Act.put,Array.getElem?_setIfInBounds_ne this]];exact h1
    · intro k p d hk hp hd hlook;have g1 := List.all_eq_true.1 hok i (List.mem_range.2 hin);simp only [ho, Bool.and_eq_true] at g1;have g2 := List.all_eq_true.1 g1.2 k (List.mem_range.2 hk);simp only [hp, hd, Bool.and_eq_true, Bool.or_eq_true, Bool.not_eq_true'] at g2
      rcases g2.2 with g3 | g3
      · rw [List.contains_eq_mem] at g3;simp [hlook] at g3
      · obtain ⟨e,he,hb⟩:=Array.any_eq_true'.1 g3;simp only [Bool.and_eq_true,beq_iff_eq] at hb;exact st.done k hk (by rw [← hb.2];exact hall e he hb.1) p d hp hd
theorem kh {id : Nat} {Q : Exit → Act → World → Prop} {a₀ : Act} {w : World} {l : List Oper} (n : Nat) (E : Nat → Value → World → Prop) (C : Array Bool → Act → World → Prop) (tail : List Oper) (htl : tail = l.drop n) (hm : P.follows .mixedOrders = true) (hok : dY l.toArray n = true) (htail : eT l.toArray n = true)
    (hC:C (Array.replicate l.length false) a₀ { w with drawn:=w.drawn+1 })
    (step : ∀ i, i < n → ∀ o, l.toArray[i]? = some o → ∀ (listed : Array Bool) a w, listed.getD i true = false → (∀ e ∈ o.after, Region.binds .any e = true → listed.getD e.on false = true) → listed.size = l.length → C listed a w → dV l.toArray n E a₀ listed a w → a.tmps.size = a₀.tmps.size → a.defers = a₀.defers → (∀ t, (∀ j, j < n → ∀ o, l.toArray[j]? = some o → o.dst ≠ some t) → a.tmps.getD t undef = a₀.tmps.getD t undef) →
      (∀ j p d,j < n→l.toArray[j]?=some p→p.dst=some d→d∈o.looksAt l.toArray→E d (a.tmps.getD d undef) w) →
      wpOp P l.toArray Q i (fun a' w'=>(∃ v,a'=a.put o.dst v∧(∀ d,o.dst=some d→d < a.tmps.size∧E d v w'))∧C (listed.setIfInBounds i true) a' w'∧∀ t v,E t v w→E t v w') a w)
    (fin:∀ a w,C (Array.replicate n true++Array.replicate (l.length - n) false) a w→dV l.toArray n E a₀ (Array.replicate n true) a w→wpList P l.toArray Q tail a w):(Code.region id l.toArray true).wp P Q a₀ w:=by
  refine wp_region_any hm ?_;have hn:n≤l.length:=by
    simp only [eT,Bool.and_eq_true,decide_eq_true_eq] at htail
    simpa using htail.1.1
  have inv0:HeadInv .any l.toArray n (Array.replicate l.toArray.size false) :=
    ⟨by simp,fun j oj _ hl=>(by rw [getD_replicate_false] at hl;cases hl),fun t _ ht=>getD_in (by simpa using ht) (getD_replicate_false _ _)⟩
  have hleft:left n (Array.replicate l.toArray.size false)=n:=by
    unfold left;rw [List.filter_eq_self.2]
    · simp
    · intro j hj;have := List.mem_range.1 hj;rw [getD_in (by simp; omega) (getD_replicate_false _ _)]
      rfl
  have h := qp (P := P) (Q := Q) (E := E) (C := C) (a₀ := a₀) tail (by simpa using htl) hok htail step fin n (Array.replicate l.toArray.size false) a₀ { w with drawn := w.drawn + 1 } hleft inv0 hC
    ⟨rfl,rfl,fun _ _=>rfl,fun j _ hl=>(by rw [getD_replicate_false] at hl;cases hl)⟩
  rwa [show n+(l.toArray.size - n)=l.toArray.size from by simp;omega] at h
end
def iB : Value → Nat → Prop
  | .agg vs=>fun k=>∃ v∈vs.toList,rX v=some k
  | v=>fun k=>rX v=some k
def Ap (ap:List (Nat × Nat)) (d e:Nat):Bool:=ap.contains (d,e) || ap.contains (e,d)
theorem Ap.symm {ap:List (Nat × Nat)} {d e:Nat} (h:Ap ap d e=true):Ap ap e d=true:=by unfold Ap at *;rw [Bool.or_comm];exact h
def r6 (A:List Nat) (ap:List (Nat × Nat)) (D:List Nat) (a:Act):Prop:=∀ d e,(D.contains d && D.contains e && A.contains d && A.contains e && Ap ap d e)=true→∀ b,iB (a.tmps.getD d undef) b→¬ iB (a.tmps.getD e undef) b
structure mI {M:Nat→Prop} (A:List Nat) (cls:List (Nat × Nat)) (D:List Nat) (o:Oper) (E:List (Nat × StP M)) (I:World→Prop) (N:Nat) (a:Act) (w:World) (a':Act) (w':World):Prop where
  put:∃ v,a'=a.put o.dst v∧∀ d,o.dst=some d→d < N∧cz E d v w'∧(d∈A→∀ b,iB v b→w.heap.size≤b∨∃ e,e∈D∧e∈A∧(∀ k,k∈A→Ap cls d k=true→Ap cls e k=true)∧iB (a.tmps.getD e undef) b)
  ch:Ch M w w'
  inv:I w'
def lC {M : Nat → Prop} (A : List Nat) (cls : List (Nat × Nat)) (P : Program) (ops : Array Oper) (Q : Exit → Act → World → Prop) (N : Nat) (L : List (Nat × Value)) (W : World) (E : List (Nat × StP M)) (I : World → Prop) : Nat → List Oper → List (List Nat) → Prop
  | i,o::r,D::Ds=>(∀ a w,Ch M W w→I w→aP N L a→fN E a w D→r6 A cls D a→wpOp P ops Q i (mI A cls D o E I N a w) a w)∧lC A cls P ops Q N L W E I (i+1) r Ds
  | _,_,_=>True
def qI (A:List Nat) (cls:List (Nat × Nat)) (ops:Array Oper) (n:Nat) (listed:Array Bool) (a:Act):Prop :=
  ∀ j k p q d e,j < n→k < n→listed.getD j false=true→listed.getD k false=true→ops[j]?=some p→ops[k]?=some q→p.dst=some d→q.dst=some e→d∈A→e∈A→Ap cls d e=true→∀ b,iB (a.tmps.getD d undef) b→¬ iB (a.tmps.getD e undef) b
theorem lB {M : Nat → Prop} {A : List Nat} {cls : List (Nat × Nat)} {P : Program} {ops : Array Oper} {Q : Exit → Act → World → Prop} {N : Nat} {L : List (Nat × Value)} {W : World} {E : List (Nat × StP M)} {I : World → Prop} : ∀ (l : List Oper) (Ds : List (List Nat)) (k i : Nat), i < Ds.length → l.length = Ds.length →
    lC A cls P ops Q N L W E I k l Ds→∃ o D,l[i]?=some o∧Ds[i]?=some D∧∀ a w,Ch M W w→I w→aP N L a→fN E a w D→r6 A cls D a→wpOp P ops Q (k+i) (mI A cls D o E I N a w) a w
  | [],Ds,_,i,h,hl,_=>by simp at hl;omega
  | o::l,[],_,i,h,_,_=>by simp at h
  | o::l,D::Ds,k,0,_,_,h=>⟨o,D,rfl,rfl,h.1⟩
  | o::l,D::Ds,k,i+1,hi,hl,h=>by
    obtain ⟨o',D',h1,h2,h3⟩:=lB l Ds (k+1) i (by simpa using hi) (by simpa using hl) h.2;exact ⟨o',D',by simpa using h1,by simpa using h2,by rw [show k+(i+1)=k+1+i from by omega];exact h3⟩
theorem pw {M : Nat → Prop} {P : Program} {Q : Exit → Act → World → Prop} {a₀ : Act} {w : World} {l : List Oper} {N : Nat} {L : List (Nat × Value)} (S : aP N L a₀) (n : Nat) (E : List (Nat × StP M)) (I : World → Prop) (Ds : List (List Nat)) (A : List Nat) (cls : List (Nat × Nat)) (hirr : ∀ d ∈ A, Ap cls d d = false) (hA : ∀ d ∈ A, ∀ u w, cz E d u w → ∀ x, iB u x → x < w.heap.size)
    (h1:dY l.toArray n=true) (h2:dm l.toArray n 0 Ds=true) (h3:fM l.toArray n L=true) (hlen:Ds.length=n) (hn:n≤l.length)
    (step:lC A cls P l.toArray Q N L w E I 0 (l.take n) Ds) :
    ∀ i, i < n → ∀ o, l.toArray[i]? = some o → ∀ (listed : Array Bool) a w', listed.getD i true = false → (∀ e ∈ o.after, Region.binds .any e = true → listed.getD e.on false = true) → listed.size = l.length → ((Ch M w w' ∧ I w') ∧ qI A cls l.toArray n listed a) → dV l.toArray n (cz E) a₀ listed a w' → a.tmps.size = a₀.tmps.size → a.defers = a₀.defers → (∀ t, (∀ j, j < n → ∀ o, l.toArray[j]? = some o → o.dst ≠ some t) → a.tmps.getD t undef = a₀.tmps.getD t undef) →
      (∀ j p d,j < n→l.toArray[j]?=some p→p.dst=some d→d∈o.looksAt l.toArray→cz E d (a.tmps.getD d undef) w') →
      wpOp P l.toArray Q i (fun a' w2=>(∃ v,a'=a.put o.dst v∧(∀ d,o.dst=some d→d < a.tmps.size∧cz E d v w2))∧((Ch M w w2∧I w2)∧qI A cls l.toArray n (listed.setIfInBounds i true) a')∧∀ t v,cz E t v w'→cz E t v w2) a w':=by
  intro i hi o ho listed a w' hil hrdy hls hC0 hst hs hd hb hE;obtain ⟨hC,hP⟩:=hC0;obtain ⟨o',D,e1,e2,h⟩:=lB (l.take n) Ds 0 i bo (by simp;omega) step;obtain rfl:o'=o:=by
    rw [List.getElem?_take_of_lt hi] at e1;have:l.toArray[i]?=l[i]?:=by simp
    rw [this,e1] at ho;exact Option.some.inj ho
  have hdep:∀ D',(∀ d∈D',d∈D)→fN E a w' D':=by
    intro D'
    induction D' with
    | nil=>intro _;trivial
    | cons d r ih =>
      intro hsub;refine ⟨?_,ih fun d hd=>hsub d (List.mem_cons_of_mem _ hd)⟩;have hget:∀ (Ds:List (List Nat)) (k i:Nat),dm l.toArray n k Ds=true→Ds[i]?=some D→∃ o,l.toArray[k+i]?=some o∧∀ d∈D,d∈o.looksAt l.toArray∧dD l.toArray n d=true:=by
        intro Ds
        induction Ds with
        | nil=>intro k i _ h;simp at h
        | cons D0 Ds ih =>
          intro k i hk hi;simp only [dm,Bool.and_eq_true] at hk
          cases i with
          | zero =>
            obtain rfl:D0=D:=by simpa using hi
            cases hp:l.toArray[k]? with
            | none=>rw [hp] at hk;cases hk.1
            | some p =>
              rw [hp] at hk;refine ⟨p,rfl,fun d hd=>?_⟩;have:=List.all_eq_true.1 hk.1 d hd
              simpa [Bool.and_eq_true,List.contains_iff_mem] using this
          | succ i =>
            obtain ⟨o,g1,g2⟩:=ih (k+1) i hk.2 (by simpa using hi);exact ⟨o,by rw [show k+(i+1)=k+1+i from by omega];exact g1,g2⟩
      obtain ⟨o2,g1,g2⟩:=hget Ds 0 i h2 e2;rw [Nat.zero_add,ho] at g1;obtain rfl:=Option.some.inj g1;obtain ⟨g3,g4⟩:=g2 d (hsub d List.mem_cons_self);obtain ⟨j,p,g5,g6,g7⟩:=cO g4;exact hE j p d g5 g6 g7 g3
  have look_hd:∀ e,e∈D→∃ j p,j < n∧l.toArray[j]?=some p∧p.dst=some e∧listed.getD j false=true:=fun e he=>by
    have hget:∀ (Ds:List (List Nat)) (k i:Nat),dm l.toArray n k Ds=true→Ds[i]?=some D→∃ o,l.toArray[k+i]?=some o∧∀ d∈D,d∈o.looksAt l.toArray∧dD l.toArray n d=true:=by
      intro Ds
      induction Ds with
      | nil=>intro k i _ h;simp at h
      | cons D0 Ds ih =>
        intro k i hk hi;simp only [dm,Bool.and_eq_true] at hk
        cases i with
        | zero =>
          obtain rfl:D0=D:=by simpa using hi
          cases hp:l.toArray[k]? with
          | none=>rw [hp] at hk;cases hk.1
          | some p =>
            rw [hp] at hk;refine ⟨p,rfl,fun d hd=>?_⟩;have:=List.all_eq_true.1 hk.1 d hd
            simpa [Bool.and_eq_true,List.contains_iff_mem] using this
        | succ i =>
          obtain ⟨o,g1,g2⟩:=ih (k+1) i hk.2 (by simpa using hi);exact ⟨o,by rw [show k+(i+1)=k+1+i from by omega];exact g1,g2⟩
    obtain ⟨o2,g1,g2⟩:=hget Ds 0 i h2 e2;rw [Nat.zero_add,ho] at g1;obtain rfl:=Option.some.inj g1;obtain ⟨g3,g4⟩:=g2 e he;obtain ⟨j,p,g5,g6,g7⟩:=cO g4;refine ⟨j,p,g5,g6,g7,?_⟩;have q1:=List.all_eq_true.1 h1 i (List.mem_range.2 hi);simp only [ho,Bool.and_eq_true] at q1;have q2:=List.all_eq_true.1 q1.2 j (List.mem_range.2 g5);simp only [g6,g7,Bool.and_eq_true,Bool.or_eq_true,Bool.not_eq_true'] at q2
    rcases q2.2 with q3 | q3
    · rw [List.contains_eq_mem] at q3;simp [g3] at q3
    · obtain ⟨ed,he1,hb1⟩:=Array.any_eq_true'.1 q3;simp only [Bool.and_eq_true,beq_iff_eq] at hb1;rw [← hb1.2];exact hrdy ed he1 hb1.1
  have hpd:r6 A cls D a:=fun d e hde=>by
    simp only [Bool.and_eq_true,List.contains_iff_mem] at hde;obtain ⟨j',p',g5,g6,g7,g8⟩:=look_hd d hde.1.1.1.1;obtain ⟨k',q',f5,f6,f7,f8⟩:=look_hd e hde.1.1.1.2;exact hP j' k' p' q' d e g5 f5 g8 f8 g6 f6 g7 f7 hde.1.1.2 hde.1.2 hde.2
  have h':=h a w' hC.1 hC.2 (S.base h3 hs hd hb) (hdep D fun d hd=>hd) hpd;rw [Nat.zero_add] at h';refine wpOp_mono ?_ h';rintro a' w2 ⟨⟨v,hv,hd'⟩,hc,hi'⟩;refine ⟨⟨v,hv,fun d hdd=>⟨by rw [hs,S.size];exact (hd' d hdd).1,(hd' d hdd).2.1⟩⟩,⟨⟨hC.1.same hc,hi'⟩,?_⟩,fun t v=>iO E t v _ _ hc⟩;subst hv;have own:∀ d,o'.dst=some d→(a.put o'.dst v).tmps.getD d undef=v:=fun d hd=>by
    rw [hd,dg a d d v (by rw [hs,S.size];exact (hd' d hd).1),if_pos rfl]
  have other:∀ d,o'.dst≠some d→(a.put o'.dst v).tmps.getD d undef=a.tmps.getD d undef:=fun d hd=>by
    cases hod:o'.dst with
    | none=>rfl
    | some d' =>
      have:d'≠d:=fun e=>hd (by rw [hod,e]);simp [Act.put,Array.getElem?_setIfInBounds_ne this]
  have apart:∀ k q e,k < n→listed.getD k false=true→l.toArray[k]?=some q→q.dst=some e→e∈A→∀ d,o'.dst=some d→d∈A→Ap cls d e=true→∀ b,iB v b→¬ iB (a.tmps.getD e undef) b:=fun k q e hk hl hq he hA' d hd hdA hcl b hb hx=>by
    have hlt:=hA e hA' _ w' (hst.done k hk hl q e hq he) b hx
    rcases (hd' d hd).2.2 hdA b hb with hb2 | ⟨e',he1,he2,he3,he4⟩
    · omega
    · obtain ⟨j',p',g5,g6,g7,g8⟩:=look_hd e' he1;exact hP j' k p' q e' e g5 hk g8 hl g6 hq g7 he he2 hA' (he3 e hA' hcl) b he4 hx
  intro j k p q d e hj hk hlj hlk hp hq hd2 he hdA heA hne
  by_cases hji:j=i
  · subst hji;obtain rfl : o' = p := Option.some.inj (ho.symm.trans hp)
    by_cases hki:k=j
    · subst hki;obtain rfl:o'=q:=Option.some.inj (ho.symm.trans hq);rw [hd2] at he;have e0:=Option.some.inj he;subst e0;exact absurd hne (by rw [hirr d hdA];simp)
    · rw [getD_set_ne false (Ne.symm hki)] at hlk;rw [own d hd2,other e (ik h1 hj hk ho hq he hki)];exact apart k q e hk hlk hq he heA d hd2 hdA hne
  · rw [getD_set_ne false (Ne.symm hji)] at hlj
    by_cases hki:k=i
    · subst hki;obtain rfl:o'=q:=Option.some.inj (ho.symm.trans hq);rw [own e he,other d (ik h1 hk hj ho hp hd2 hji)];exact fun b h1' h2'=>apart j p d hj hlj hp hd2 hdA e he heA (Ap.symm hne) b h2' h1'
    · rw [getD_set_ne false (Ne.symm hki)] at hlk;rw [other d (ik h1 hi hj ho hp hd2 hji),other e (ik h1 hi hk ho hq he hki)];exact hP j k p q d e hj hk hlj hlk hp hq hd2 he hdA heA hne
theorem sb {M : Nat → Prop} {P : Program} {id : Nat} {Q : Exit → Act → World → Prop} {a₀ : Act} {w : World} {l : List Oper} {N : Nat} {L : List (Nat × Value)} (S : aP N L a₀) (n : Nat) (E : List (Nat × StP M)) (I : World → Prop) (Ds : List (List Nat)) (outs : List Nat) (A : List Nat) (cls : List (Nat × Nat)) (hirr : ∀ d ∈ A, Ap cls d d = false) (hA : ∀ d ∈ A, ∀ u w, cz E d u w → ∀ x, iB u x → x < w.heap.size) (tail : List Oper)
    (htl:tail=l.drop n) (hm:P.follows .mixedOrders=true) (hok:(dY l.toArray n && dm l.toArray n 0 Ds && fM l.toArray n L && jB l.toArray n outs && eT l.toArray n)=true) (hlen:Ds.length=n) (hI:I { w with drawn:=w.drawn+1 })
    (step:lC A cls P l.toArray Q N L w E I 0 (l.take n) Ds)
    (fin:∀ a w',Ch M w w'→I w'→aP N L a→fN E a w' outs→(∀ d e,dD l.toArray n d=true→dD l.toArray n e=true→d∈A→e∈A→Ap cls d e=true→∀ b,iB (a.tmps.getD d undef) b→¬ iB (a.tmps.getD e undef) b)→wpList P l.toArray Q tail a w'):(Code.region id l.toArray true).wp P Q a₀ w:=by
  simp only [Bool.and_eq_true] at hok;obtain ⟨⟨⟨⟨h1,h2⟩,h3⟩,h4⟩,h5⟩:=hok;have hn:n≤l.length:=by
    simp only [eT,Bool.and_eq_true,decide_eq_true_eq] at h5
    simpa using h5.1.1
  refine kh n (cz E) (fun listed a w'=>(Ch M w w'∧I w')∧qI A cls l.toArray n listed a) tail htl hm h1 h5 ⟨⟨(Ch.refl _).drew,hI⟩,fun j k p q d e _ _ hj=>absurd (getD_replicate_false l.length j) (by simpa using hj)⟩ (pw S n E I Ds A cls hirr hA h1 h2 h3 hlen hn step) ?_
  · intro a w' hC st;refine fin a w' hC.1.1 hC.1.2 (S.base h3 st.size st.defers st.base) ?_ fun d e hd he hdA heA hne => ?_
    rotate_left
    · obtain ⟨j,p,g5,g6,g7⟩:=cO hd;obtain ⟨k,q,f5,f6,f7⟩:=cO he;exact hC.2 j k p q d e g5 f5 (by simp [Array.getElem?_append,g5]) (by simp [Array.getElem?_append,f5]) g6 f6 g7 f7 hdA heA hne
    have:∀ outs',(∀ d∈outs',dD l.toArray n d=true)→fN E a w' outs':=by
      intro outs'
      induction outs' with
      | nil=>intro _;trivial
      | cons d r ih =>
        intro h;obtain ⟨j,p,g5,g6,g7⟩:=cO (h d List.mem_cons_self);exact ⟨st.done j g5 (by simp [g5]) p d g6 g7,ih fun d hd=>h d (List.mem_cons_of_mem _ hd)⟩
    exact this outs (List.all_eq_true.1 h4)
theorem qc {α : Type} {En : Enc α} {P : Program} {o : Oper} {a : Act} {w : World} {K : Act → World → Prop} {Q : Exit → Act → World → Prop} {D : Nat → Prop} {ts t : TypeId} {z0 : Nat} (s x : Operand) (ho : o.op = .call { callee := .builtin .append, args := #[s, x], argTypes := #[ts, ts] })
    (z:Value) (bytes:Nat) (ht:P.underlying ts=some (.slice t)) (hi:(P.info? t).map (fun i=>(i.zero,i.size,i.bytes))=some (some z,En.n,bytes)) (hzs:z.cells.size=En.n) {ad:Option Addr} (hs:a.eval s = .slice ad 0 0) (hb:ad=none∨∃ b,ad=some ⟨b,0,none⟩∧z0≤b∧Blk w.heap b [] t) (hz0:z0≤w.heap.size) (ys:List α)
    (sa:Option Addr) (sc:Nat) (hx:a.eval x = .slice sa ys.length sc) (hsrc:LAt En D w.heap sa ys) (h63:ys.length≤maxLen) (hbytes:ys.length * bytes≤140737488355328)
    (h:∀ ad' cap' w',w'.ownsRow z0 t En.n (.slice ad' ys.length cap') ys.length (ys.flatMap En.cells)→Ch (In []) w w'→(∀ k,abk ad' k→abk ad k∨k=w.heap.size)→K (a.put o.dst (.slice ad' ys.length cap')) w'):o.wp P a w K Q:=by
  obtain ⟨i0,hi0,hz0',hz1,hz2⟩:=ft hi;have hlen:(ys.flatMap En.cells).length=ys.length * En.n:=gi En.len ys;have key:∃ ad' cap' w',(Builtin.append_ #[ts,ts] o.type #[.slice ad 0 0,.slice sa ys.length sc]).run P w = .ok (.slice ad' ys.length cap') w'∧w'.ownsRow z0 t En.n (.slice ad' ys.length cap') ys.length (ys.flatMap En.cells)∧Ch (In []) w w'∧(∀ k,abk ad' k→abk ad k∨k=w.heap.size):=by
    rcases Nat.eq_zero_or_pos ys.length with e | e
    · have hy:ys=[]:=List.length_eq_zero_iff.1 e;subst hy;have hsrc0:Src P i0.size ts (.slice sa 0 sc) 0 [] w:=by
        cases sa with
        | none=>exact Src.ofNil w ht sc
        | some p=>exact Src.ofSlice w ht p 0 sc [] (by simp) (fun j u hj=>by simp at hj) (fun u hu=>by simp at hu)
      refine ⟨ad,0,w,run_append_nothing w ts ts o.type t i0 ht hi0 ad 0 0 (Nat.le_refl _) _ hsrc0,?_,Ch.refl _,fun k hk=>.inl hk⟩
      rcases hb with rfl | ⟨b,rfl,hb1,hb2⟩
      · exact ⟨by simp,.inl ⟨rfl,rfl⟩⟩
      · exact (p6 (E:=En) (ms:=[]) (F:=No) hb2 hb1).own
    · have h1:=(hsrc.ad e).1;have hnews:∀ j u,(ys.flatMap En.cells)[j]?=some u→w.cell? ((⟨blk sa,off sa,none⟩:Addr).add j)=some u:=fun j u hj=>by
        have hj':=(List.getElem?_eq_some_iff.1 hj).1;rw [hlen] at hj';have hn0:0 < En.n:=by
          rcases Nat.eq_zero_or_pos En.n with q | q
          · rw [q,Nat.mul_zero] at hj';omega
          · exact q
        have hm:j / En.n < ys.length:=(Nat.div_lt_iff_lt_mul hn0).2 hj';have hdm:j / En.n * En.n+j % En.n=j:=by rw [Nat.mul_comm];exact Nat.div_add_mod j En.n
        have hmod:j % En.n < (En.cells (ys.getD (j / En.n) En.aa)).length:=by rw [En.len];exact Nat.mod_lt _ hn0
        have h2:=flat_get En.len ys (j / En.n) hm (j % En.n) _ (List.getElem?_eq_getElem hmod);rw [hdm,hj] at h2;have h3:=hsrc.cell (j / En.n) hm (j % En.n) u (by rw [List.getElem?_eq_getElem hmod];exact h2.symm);rw [show off sa+j / En.n * En.n+j % En.n=off sa+j from by omega] at h3;rw [fI];exact h3
      have hge:ys.length≤grownCap w ys.length 0 t:=grownCap_ge w ys.length 0 t;have hcm:grownCap w ys.length 0 t≤maxLen:=grownCap_le_maxLen w ys.length 0 t h63;have hfin:∀ q:Array Value,q=(ys.flatMap En.cells).toArray++Builtin.zeroCells z.cells (grownCap w ys.length 0 t - ys.length)→((w.drew.alloc (.cells q t)).ownsRow z0 t En.n (.slice (some ⟨w.heap.size,0,none⟩) ys.length (grownCap w ys.length 0 t)) ys.length (ys.flatMap En.cells))∧Ch (In []) w (w.drew.alloc (.cells q t)):=fun q hq=>by
        subst hq;refine ⟨⟨hlen,.inr ⟨w.heap.size,_,_,rfl,hz0,heap_alloc_new w.drew _,hge,hcm,?_,?_⟩⟩,⟨rfl,rfl,rfl,by simp,fun k hk _=>(by show (w.heap.push _)[k]?=_;rw [Array.getElem?_push_lt hk,Array.getElem?_eq_getElem hk])⟩⟩
        · simp only [Array.size_append, List.size_toArray, size_zeroCells, hzs, hlen, ← Nat.add_mul]
          congr 1
          omega
        · simp only [Array.toList_append];rw [← hlen];exact List.take_left
      have habk:∀ k,abk (some ⟨w.heap.size,0,none⟩) k→abk ad k∨k=w.heap.size:=fun k hk=>.inr (by rw [iu] at hk;exact hk);rw [h1]
      rcases hb with rfl | ⟨b,rfl,hb1,hb2⟩
      · have hr:=run_append_nil (P:=P) w ts o.type t i0 z ht hi0 hz0' ⟨blk sa,off sa,none⟩ ys.length sc _ (by rw [hz1];exact hlen) hnews e (by simp only [maxLen] at h63;omega) (by rw [hz2];omega);have hf:=hfin _ rfl;exact ⟨_,_,_,hr,hf.1,hf.2,habk⟩
      · have hr:=run_append_grow (P:=P) w ts o.type t i0 z ht hi0 hz0' ⟨b,0,none⟩ 0 0 [] (by simp) (fun j v hj=>by simp at hj) ⟨blk sa,off sa,none⟩ ys.length sc _ (by rw [hz1];exact hlen) hnews bo (by simp only [maxLen] at h63;omega) (growslice_fits bo (by rw [hz2,Nat.zero_add];omega));simp only [Nat.zero_add] at hr;have hf:=hfin (#[]++(ys.flatMap En.cells).toArray++Builtin.zeroCells z.cells (grownCap w ys.length 0 t - ys.length)) (by rw [Array.empty_append]);exact ⟨_,_,_,hr,hf.1,hf.2,habk⟩
  obtain ⟨ad',cap',w',k1,k2,k3,k4⟩:=key;unfold Oper.wp execOp;simp only [ho,resolve,invoke,builtin,Sem.run_bind,Sem.run_pure,Result.andThen_ok,List.map_toArray,List.map_cons,List.map_nil,hs,hx,k1];exact h ad' cap' w' k2 k3 k4
section
variable {chg:List BS}
theorem yk {α:Type} {En:Enc α} {t:TypeId} {z0 cap:Nat} {ad:Option Addr} {ys:List α} {w w':World} (c:Ch (In chg) w w') (hn:∀ k,abk ad k→¬ In chg k) (H:w.ownsRow z0 t En.n (.slice ad ys.length cap) ys.length (ys.flatMap En.cells)):w'.ownsRow z0 t En.n (.slice ad ys.length cap) ys.length (ys.flatMap En.cells):=by
  refine ⟨H.1,?_⟩
  rcases H.2 with h1 | ⟨b,c',cur,h1,h2,h3,h4⟩
  · exact .inl h1
  · refine .inr ⟨b, c', cur, h1, h2, ?_, h4⟩
    injection h1 with h1
    subst h1;refine (c.block b ?_ (hn b rfl)).trans h3
    rcases Nat.lt_or_ge b w.heap.size with k | k
    · exact k
    · rw [Array.getElem?_eq_none k] at h3;cases h3
def lK {α:Type} (En:Enc α) (t:TypeId) (z0:Nat) (chg:List BS) (ys:List α):Td (In chg) :=
  .of (fun z w=>∃ ad cap,z = .slice ad ys.length cap∧w.ownsRow z0 t En.n (.slice ad ys.length cap) ys.length (ys.flatMap En.cells)∧∀ k,abk ad k→¬ In chg k) fun _ _ _ c ⟨ad,cap,e,h,hn⟩=>⟨ad,cap,e,yk c hn h,hn⟩
def yo (t:TypeId) (z0:Nat) (chg:List BS):Td (In chg) :=
  .of (fun z w=>∃ b,z = .slice (some ⟨b,0,none⟩) 0 0∧Blk w.heap b [] t∧z0≤b∧¬ In chg b) fun _ _ _ c ⟨b,e,h,hn⟩=>⟨b,e,h.tr c hn.2,hn⟩
def varT (cs:List Value) (t:TypeId) (z0:Nat) (chg:List BS):Td (In chg) :=
  .of (fun z w=>∃ b,z = .pointer (some ⟨b,0,none⟩)∧Blk w.heap b cs t∧z0≤b∧¬ In chg b) fun _ _ _ c ⟨b,e,h,hn⟩=>⟨b,e,h.tr c hn.2,hn⟩
def yV (q:Td (In chg)):Prop:=∀ u w,q.q.p u w→∀ x,iB u x→x < w.heap.size
theorem nS {α:Type} {En:Enc α} {t:TypeId} {z0 cap:Nat} {ad:Option Addr} {ys:List α} {w:World} (H:w.ownsRow z0 t En.n (.slice ad ys.length cap) ys.length (ys.flatMap En.cells)):∀ x,rX (.slice ad ys.length cap)=some x→z0≤x∧x < w.heap.size:=fun x hx=>by
  rcases H.2 with ⟨h1,_⟩ | ⟨b,c',cur,h1,h2,h3,h4⟩
  · injection h1 with h1;subst h1;cases hx
  · injection h1 with h1
    subst h1;obtain rfl:b=x:=Option.some.inj hx;refine ⟨h2,?_⟩
    rcases Nat.lt_or_ge b w.heap.size with k | k
    · exact k
    · rw [Array.getElem?_eq_none k] at h3;cases h3
theorem fk {α:Type} {En:Enc α} {t:TypeId} {z0:Nat} {ys:List α}:yV (lK En t z0 chg ys):=fun _ _ ⟨_,_,e,h,_⟩ x hx=>by rw [e] at hx;exact (nS h x hx).2
theorem sr {t:TypeId} {z0:Nat}:yV (yo t z0 chg):=fun _ _ ⟨_,e,h,_⟩ x hx=>by rw [e] at hx;cases hx;exact h.lt
def mH (E : List (Nat × Td (In chg))) : List Nat → Prop
  | []=>True
  | d::r=>(∃ q,dW d E=some q∧yV q)∧mH E r
theorem mH.get {E : List (Nat × Td (In chg))} : ∀ {A : List Nat}, mH E A → ∀ d ∈ A, ∀ u w, cz (tq E) d u w → ∀ x, iB u x → x < w.heap.size
  | _::_,h,d,hd,u,w,hl=>(List.mem_cons.1 hd).elim (fun e=>by subst e;obtain ⟨⟨q,h1,h2⟩,_⟩:=h;exact h2 u w ((dN h1).1 hl)) fun hd=>mH.get h.2 d hd u w hl
end
section
variable {P:Program} {ops:Array Oper} {F:Nat→Prop} {w0 W:World} {m0 chg:List BS} {n i:Nat} {L:List (Nat × Value)} {fs:List RF} {os:List OF} {o:Oper} {ty:TypeId} {pos:String} {af:Array Edge} {Q:Exit→Act→World→Prop} {E:List (Nat × Td (In chg))} {D A:List Nat} {cls:List (Nat × Nat)}
def HDC (A:List Nat) (cls:List (Nat × Nat)) (P:Program) (ops:Array Oper) (Q:Exit→Act→World→Prop) (F:Nat→Prop) (w0 W:World) (m0:List BS) (n:Nat) (L:List (Nat × Value)) (fs:List RF) (os:List OF) {chg:List BS} (E:List (Nat × Td (In chg))) (i:Nat) (o:Oper) (D:List Nat):Prop :=
  ∀ a w,St F w0 m0 n (cat (fw E D) L) fs os a w→Ch (In chg) W w→gQ E a w D→r6 A cls D a→wpOp P ops Q i (mI A cls D o (tq E) (Mm F w0 m0 fs os) n a w) a w
def HSC (A : List Nat) (cls : List (Nat × Nat)) (P : Program) (ops : Array Oper) (Q : Exit → Act → World → Prop) (F : Nat → Prop) (w0 W : World) (m0 : List BS) (n : Nat) (L : List (Nat × Value)) (fs : List RF) (os : List OF) {chg : List BS} (E : List (Nat × Td (In chg))) : Nat → List Oper → List (List Nat) → Prop
  | i,o::r,D::Ds=>HDC A cls P ops Q F w0 W m0 n L fs os E i o D∧HSC A cls P ops Q F w0 W m0 n L fs os E (i+1) r Ds
  | _,_,_=>True
theorem HSC.steps : ∀ (l : List Oper) (Ds : List (List Nat)) (i : Nat), HSC A cls P ops Q F w0 W m0 n L fs os E i l Ds → lC A cls P ops Q n L W (tq E) (Mm F w0 m0 fs os) i l Ds
  | [],_,_,_=>by cases ‹List (List Nat)› <;> trivial
  | _::_,[],_,_=>trivial
  | o::r,D::Ds,i,h=>⟨fun a w hc hm s hd hp=>by
      obtain ⟨h1,h2⟩:=dq s D hd
      exact h.1 a w ⟨h1,hm⟩ hc h2 hp,HSC.steps r Ds (i+1) h.2⟩
theorem qdc (h:HD P ops Q F w0 W m0 n L fs os E i o D) (hA:∀ d,o.dst=some d→d ∉ A:=by intro d h;cases h;decide):HDC A cls P ops Q F w0 W m0 n L fs os E i o D :=
  fun a w S G p _=>wpOp_mono (fun a' w' ⟨⟨v,h1,h2⟩,h3,h4⟩=>⟨⟨v,h1,fun d hd=>⟨(h2 d hd).1,(h2 d hd).2,fun hm=>absurd hm (hA d hd)⟩⟩,h3,h4⟩) (h a w S G p)
theorem hcb {d:Nat} {v:Value} {ob:Obj} {a:Act} {w:World} (M:Mm F w0 m0 fs os w) (h:(execOp a.eval o).run P w = .ok (.value v) (w.alloc ob)) (hv:∀ b,iB v b→b=w.heap.size) (hd:o.dst=some d∧d < n) (ht:cz (tq E) d v (w.alloc ob)) (hk:ops[i]?=some o∧o.guard=none):wpOp P ops Q i (mI A cls D o (tq E) (Mm F w0 m0 fs os) n a w) a w :=
  ez hk.1 hk.2 (fL h ⟨⟨v,rfl,fun e he=>by rw [hd.1] at he;cases he;exact ⟨hd.2,ht,fun _ b hb=>.inl (by rw [hv b hb];exact Nat.le_refl _)⟩⟩,(fH w ob).mono fun _ h=>h.elim,M.k0 (fH w ob)⟩)
theorem ld {js:List Nat} {w:World} (S:Mm F w0 m0 fs os w):¬ In (cj (ow os) js) w.heap.size:=fun h=>absurd (S.c.ms.lt _ (dR h)) (Nat.lt_irrefl _)
theorem hcn {d : Nat} {t e : TypeId} {z : Value} {by_ sz z0 : Nat} {js : List Nat} {E : List (Nat × Td (In (cj (ow os) js)))} (he : dW d E = some (yo e z0 (cj (ow os) js))) (hz : z0 = W.heap.size) (ht : P.underlying t = some (.slice e)) (hi : (P.info? e).map (fun i => (i.zero, i.size, i.bytes)) = some (some z, sz, by_))
    (hk:ops[i]?=some ⟨some d,.buildSlice t 0 #[],ty,pos,af,none⟩∧d < n:=by exact ⟨rfl,by decide⟩):HDC A cls P ops Q F w0 W m0 n L fs os E i ⟨some d,.buildSlice t 0 #[],ty,pos,af,none⟩ D:=fun a w S G _ _ =>
  hcb S.m (eC ht hi) (fun b hb=>(Option.some.inj hb).symm) ⟨rfl,hk.2⟩ ((dN he).2 ⟨_,rfl,Blk.new _ [] e,by rw [hz];exact G.size,ld S.m⟩) ⟨hk.1,rfl⟩
theorem hcv {d : Nat} {t : TypeId} {z : Value} {by_ sz z0 : Nat} {cs : List Value} {js : List Nat} {E : List (Nat × Td (In (cj (ow os) js)))} (he : dW d E = some (varT cs t z0 (cj (ow os) js))) (hz : z0 = W.heap.size) (hi : (P.info? t).map (fun i => (i.zero, i.size, i.bytes)) = some (some z, sz, by_)) (hv : z.cells = cs.toArray)
    (hk:ops[i]?=some ⟨some d,.alloc t,ty,pos,af,none⟩∧d < n:=by exact ⟨rfl,by decide⟩):HDC A cls P ops Q F w0 W m0 n L fs os E i ⟨some d,.alloc t,ty,pos,af,none⟩ D:=fun a w S G _ _ =>
  hcb S.m (bq cs hi hv) (fun b hb=>(Option.some.inj hb).symm) ⟨rfl,hk.2⟩ ((dN he).2 ⟨_,rfl,Blk.new _ cs t,by rw [hz];exact G.size,ld S.m⟩) ⟨hk.1,rfl⟩
theorem hca {α : Type} {En : Enc α} {d b : Nat} {t ts : TypeId} {z : Value} {bytes z0 : Nat} {ys : List α} {sa : Option Addr} {sc : Nat} {Dm : Nat → Prop} {s x : Operand} {js : List Nat} {E : List (Nat × Td (In (cj (ow os) js)))} {a : Act} {w : World} {L' : List (Nat × Value)} {rs' : List RF} (e : Nat) (S : St F w0 m0 n L' rs' os a w) (M : Mm F w0 m0 fs os w) (G : Ch (In (cj (ow os) js)) W w)
    (he:dW d E=some (lK En t z0 (cj (ow os) js) ys)) (hz0:z0=W.heap.size) (hb:a.tmps.getD e undef = .slice (some ⟨b,0,none⟩) 0 0∧Blk w.heap b [] t∧z0≤b∧¬ In (cj (ow os) js) b) (hs:evS L' s=some (.slice (some ⟨b,0,none⟩) 0 0)) (hx:evS L' x=some (.slice sa ys.length sc)) (hsrc:LAt En Dm w.heap sa ys) (h63:ys.length≤maxLen∧ys.length * bytes≤140737488355328)
    (ht:P.underlying ts=some (.slice t)) (hi:(P.info? t).map (fun i=>(i.zero,i.size,i.bytes))=some (some z,En.n,bytes)) (hin:(D.contains e && A.contains e && A.all (fun k=>!Ap cls d k || Ap cls e k))=true) (hzs:z.cells.size=En.n:=by rfl)
    (hk:ops[i]?=some ⟨some d,.call ⟨.builtin .append,#[s,x],#[ts,ts]⟩,ty,pos,af,none⟩∧d < n:=by exact ⟨rfl,by decide⟩):wpOp P ops Q i (mI A cls D ⟨some d,.call ⟨.builtin .append,#[s,x],#[ts,ts]⟩,ty,pos,af,none⟩ (tq E) (Mm F w0 m0 fs os) n a w) a w:=by
  simp only [Bool.and_eq_true,List.contains_iff_mem] at hin;refine ez hk.1 rfl (qc (En:=En) (z0:=z0) s x rfl z bytes ht hi hzs (S.e hs) (.inr ⟨b,rfl,hb.2.2.1,hb.2.1⟩) (by rw [hz0];exact G.size) ys sa sc (S.e hx) hsrc h63.1 h63.2 fun ad' cap' w' h1 h2 h3=>?_);refine ⟨⟨_,rfl,fun e' he'=>?_⟩,h2.mono fun _ h=>h.elim,M.k0 h2⟩;have hee:e'=d:=(Option.some.inj he').symm;subst hee;refine ⟨hk.2,(dN he).2 ⟨ad',cap',rfl,h1,fun k hk'=>(h3 k hk').elim (fun q=>by rw [iu] at q;cases q;exact hb.2.2.2) fun q=>by rw [q];exact ld M⟩,fun _ k hk'=>?_⟩;have hk2:abk ad' k:=by cases ad' with
    | none=>cases hk'
    | some p=>exact hk'
  rcases h3 k hk2 with q | q
  · rw [iu] at q; cases q
    refine .inr ⟨e,hin.1.1,hin.1.2,fun k hk hd'=>?_,by rw [hb.1];rfl⟩;have:=List.all_eq_true.1 hin.2 k hk;rw [hd'] at this;simpa using this
  · exact .inl bo
theorem dr3 {id : Nat} {a : Act} {w : World} {l : List Oper} (S : St F w0 m0 n L fs os a w) (N : Nat) (A : List Nat) (cls : List (Nat × Nat)) (js : List Nat) (E : List (Nat × Td (In (cj (ow os) js)))) (Ds : List (List Nat)) (outs : List Nat) (tail : List Oper) (hA : mH E A) (step : HSC A cls P l.toArray Q F w0 w m0 n L fs os E 0 (l.take N) Ds)
    (fin:∀ a w',St F w0 m0 n (cat (fw E outs) L) fs os a w'→Ch (In (cj (ow os) js)) w w'→gQ E a w' outs→(∀ d e,(A.contains d && A.contains e && Ap cls d e)=true→∀ b,iB (a.tmps.getD d undef) b→¬ iB (a.tmps.getD e undef) b)→wpList P l.toArray Q tail a w')
    (htl:tail=l.drop N:=by rfl) (hm:P.follows .mixedOrders=true:=by exact mixed) (hok:(dY l.toArray N && dm l.toArray N 0 Ds && fM l.toArray N L && jB l.toArray N outs && eT l.toArray N)=true:=by kernel_rfl) (hlen:Ds.length=N:=by rfl) (hAh:A.all (dD l.toArray N)=true:=by kernel_rfl) (hirr:A.all (fun d=>!Ap cls d d)=true:=by decide):(Code.region id l.toArray true).wp P Q a w :=
  sb S.s N (tq E) (Mm F w0 m0 fs os) Ds outs A cls (fun d hd=>by have:=List.all_eq_true.1 hirr d hd;simpa using this) hA.get tail htl hm hok hlen S.m.drew (HSC.steps _ _ _ step) fun a w' hc hm s hd hp=>by
    obtain ⟨h1,h2⟩:=dq s outs hd;refine fin a w' ⟨h1,hm⟩ hc h2 fun d e hde=>?_;simp only [Bool.and_eq_true,List.contains_iff_mem] at hde;have hh:=List.all_eq_true.1 hAh;exact hp d e (hh d hde.1.1) (hh e hde.1.2) hde.1.1 hde.1.2 hde.2
theorem St.zw {a a0 : Act} {w : World} {L0 : List (Nat × Value)} (S0 : St F w0 m0 n L0 fs os a0 W) (S : St F w0 m0 n L fs os a w) (js : List Nat) (G : Ch (In (cj (ow os) js)) W w) (hj : ∀ j f, j ∈ js → nth os j = some f → ∀ V1 V2, f.p F V1 w → f.p F V2 w) (nw : List OF) (hsep : Sep (ow nw)) (hn : ∀ f ∈ nw, ∀ k, f.o k → W.heap.size ≤ k ∧ k < w.heap.size)
    (hp:Mv (In (ow os)) (In (ow os++ow nw)) W.heap w.heap→∀ f∈nw,f.p F (In (ow os++ow nw)) w):St F w0 m0 n L fs (os++nw) a w:=by
  have hn':∀ k,In (ow nw) k→W.heap.size≤k∧k < w.heap.size:=fun k hk=>by
    obtain ⟨o,h1,h2⟩:=rA hk;rw [fm] at h1;obtain ⟨f,h3,rfl⟩:=List.mem_map.1 h1;exact hn f h3 k h2
  have hin:∀ k,In (ow nw) k→¬ In (ow os) k:=fun k h1 h2=>by have:=hn' k h1;have:=S0.M.lt k h2;omega
  have hMS:∀ (x:List BS),Sep x→(∀ k,In x k→W.heap.size≤k∧k < w.heap.size)→(∀ k,In x k→¬ In (ow os) k)→MS (x++ow os) w:=by
    intro x
    induction x with
    | nil=>intro _ _ _;exact S.M
    | cons o r ih =>
      intro s h1 h2;exact (ih s.2 (fun k hk=>h1 k (.inr hk)) (fun k hk=>h2 k (.inr hk))).cons fun k hk=>⟨(h1 k (.inl hk)).2,fun hm=>(aK.1 hm).elim (s.1 k hk) (h2 k (.inl hk))⟩
  have M:=hMS _ hsep hn' hin;have T:Tr (ow os) W (ow os++ow nw) w:=Tr.comm ⟨G.mono fun k hk=>dR hk,fun k hk=>(aK.1 hk).elim (fun h=>.inr (hn' k h).1) .inl,M⟩;have T0:Tr m0 w0 (ow os++ow nw) w:=Tr.comm ⟨S.m.c.ch,fun k hk=>(aK.1 hk).elim (fun h=>.inr (Nat.le_trans S0.m.c.size (hn' k h).1)) (S.m.c.sub k),M⟩;refine ⟨S.s,by rw [bJ];exact T0,S.m.f,fun f hf=>by rw [bJ];exact f.st T.mv (S0.m.r f hf),fun f hf=>?_⟩;rw [bJ]
  rcases List.mem_append.1 hf with h | h
  · obtain ⟨i, hi⟩ := ky h
    by_cases hc:js.contains i=true
    · exact hj i f (List.contains_iff_mem.1 hc) hi _ _ (S.m.o f h)
    · exact f.st T.mv (fun k hk ho=>G.block k hk fun hm=>S0.m.sep hi js (by simpa using hc) ho hm) (S0.m.o f h)
  · exact hp T.mv f h
end
theorem Row.jD {α:Type} {En:Enc α} {t:TypeId} {z0 b cap:Nat} {w:World} {ad:Option Addr} {ys:List α} (h:w.ownsRow z0 t En.n (.slice ad ys.length cap) ys.length (ys.flatMap En.cells)) (hb:b≤z0):w.ownsRow b t En.n (.slice ad ys.length cap) ys.length (ys.flatMap En.cells) :=
  ⟨h.1,h.2.imp id fun ⟨g,c,cur,h1,h2,h3⟩=>⟨g,c,cur,h1,Nat.le_trans hb h2,h3⟩⟩
theorem eW {α:Type} {En:Enc α} {t:TypeId} {z0 cap:Nat} {w:World} {ad:Option Addr} {ys:List α} (h:w.ownsRow z0 t En.n (.slice ad ys.length cap) ys.length (ys.flatMap En.cells)):∀ k,abk ad k→z0≤k∧k < w.heap.size:=fun k hk=>by
  refine nS h k ?_
  cases ad with
  | none=>cases hk
  | some p=>exact hk
theorem cG {ad:Option Addr} {q c k:Nat} {u:Value} (e:u = .slice ad q c) (h:abk ad k):iB u k:=by
  subst e;cases ad with
  | none=>cases h
  | some p=>exact h
end Go.Proofs.Ytobggnpnochnnaa.V
/- Strings put together;a cell of the library that everybody may read. -/
namespace Go.Proofs.Ytobggnpnochnnaa.V
open Go.RowKit
def py (h:Array Obj):Prop:=∃ m:Int,df h 0 0=some (.int .i64 m)
theorem py.keep {h h':Array Obj} (H:py h) (k:h'[0]?=h[0]?):py h':=by
  obtain ⟨m,hm⟩:=H;refine ⟨m,?_⟩;unfold df at hm ⊢;rw [k];exact hm
theorem py.pos {h:Array Obj} (H:py h):0 < h.size:=by
  obtain ⟨m,hm⟩:=H
  rcases Nat.eq_zero_or_pos h.size with e | e
  · unfold df at hm;rw [Array.getElem?_eq_none bo] at hm
    cases hm
  · exact e
end Go.Proofs.Ytobggnpnochnnaa.V
/- Objects: facts of the call's own behind a pointer,bundled. -/
namespace Go.Proofs.Ytobggnpnochnnaa.V
open Go.RowKit
def OF.Mo (f:OF):Prop:=∀ {F W F' W':Nat→Prop} {w:World},(∀ k,W' k∨F' k→W k∨F k)→f.p F W w→f.p F' W' w
theorem xc {α:Type} (E:Enc α) {F W F' W':Nat→Prop} {h:Array Obj} {x:α} (s:∀ k,W' k∨F' k→W k∨F k) (H:E.wf (Fw F W) h x):E.wf (Fw F' W') h x :=
  E.mono (fun k _ g=>⟨fun e=>(s k (.inl e)).elim g.1 g.2,fun e=>(s k (.inr e)).elim g.1 g.2⟩) H
theorem nd {b:Nat} {cs:List Value} {t:TypeId}:(blO b cs t).Mo:=fun _ h=>h
theorem cy {α:Type} {E:Enc α} {t:TypeId} {base:Nat} {ad:Option Addr} {cap:Nat} {xs:List α}:(rwO E t base ad cap xs).Mo:=fun s h=>⟨h.1,fun x hx=>xc E s (h.2 x hx)⟩
def daO {α:Type} (E:Enc α) (x:α):OF:=⟨fun _=>False,fun F W w=>E.wf (Fw F W) w.heap x,fun m _ H=>E.mv m H⟩
theorem jW {α:Type} {E:Enc α} {x:α}:(daO E x).Mo:=fun s h=>xc E s h
def fi : List OF → Prop
  | []=>True
  | f::r=>f.Mo∧fi r
theorem fi.get : ∀ {fs : List OF}, fi fs → ∀ f ∈ fs, OF.Mo f
  | g::r,h,f,hf=>by
    rcases List.mem_cons.1 hf with e | e
    · subst e;exact h.1
    · exact fi.get h.2 f e
def w9 (F W : Nat → Prop) (w : World) : List OF → Prop
  | []=>True
  | f::r=>f.p F W w∧w9 F W w r
theorem w9.get {F W : Nat → Prop} {w : World} : ∀ {fs : List OF}, w9 F W w fs → ∀ f ∈ fs, f.p F W w
  | _::_,h,f,hf=>(List.mem_cons.1 hf).elim (fun e=>e▸h.1) (h.2.get f)
def bnO (fs:List OF):OF :=
  ⟨In (ow fs),fun F W w=>Sep (ow fs)∧∀ f∈fs,f.p F W w,fun m h H=>⟨H.1,fun f hf=>f.st m (fun k hk ho=>h k hk (cw (ga hf) ho)) (H.2 f hf)⟩⟩
theorem aD {fs:List OF} (h:fi fs):(bnO fs).Mo:=fun s H=>⟨H.1,fun f hf=>h.get f hf s (H.2 f hf)⟩
theorem cx {x y:List BS}:Sep (x++y)↔Sep x∧Sep y∧∀ k,In x k→¬ In y k:=by
  induction x with
  | nil=>exact ⟨fun h=>⟨trivial,h,fun k h=>h.elim⟩,fun h=>h.2.1⟩
  | cons o r ih =>
    show (_∧Sep (r++y))↔(_∧Sep r)∧Sep y∧_;rw [ih]
    constructor
    · rintro ⟨h1,h2,h3,h4⟩;exact ⟨⟨fun k hk hm=>h1 k hk (aK.2 (.inl hm)),h2⟩,h3,fun k hk hm=>hk.elim (fun e=>h1 k e (aK.2 (.inr hm))) fun e=>h4 k e hm⟩
    · rintro ⟨⟨h1,h2⟩,h3,h4⟩;exact ⟨fun k hk hm=>(aK.1 hm).elim (h1 k hk) (h4 k (.inl hk)),h2,h3,fun k hk=>h4 k (.inr hk)⟩
section
variable {F:Nat→Prop} {w0 w w':World} {m0:List BS} {n:Nat} {L L':List (Nat × Value)} {rs:List RF} {ks fs os:List OF} {a a':Act}
theorem rC {k:Nat}:In (ow (ks++[bnO fs])) k↔In (ow (ks++fs)) k:=by
  rw [bJ,bJ];exact ⟨fun h=>aK.2 ((aK.1 h).imp id fun h=>h.elim id False.elim),fun h=>aK.2 ((aK.1 h).imp id .inl)⟩
theorem St.opn (S:St F w0 m0 n L rs (ks++[bnO fs]) a w):St F w0 m0 n L rs (ks++fs) a w:=by
  obtain ⟨h3,h4⟩:=S.m.o (bnO fs) (List.mem_append_right _ List.mem_cons_self);have hM:=S.M;have hs:=hM.sep;rw [bJ] at hs;obtain ⟨g1,_,g3⟩:=cx.1 hs;have T:Tr (ow (ks++[bnO fs])) w (ow (ks++fs)) w:=by
    refine ⟨Ch.refl w,fun k hk=>.inl (rC.2 hk),⟨fun k hk=>hM.lt k (rC.2 hk),?_⟩⟩;rw [bJ];exact cx.2 ⟨g1,h3,fun k hk hm=>g3 k hk (.inl hm)⟩
  refine ⟨S.s,S.m.go T fun f hf=>?_⟩
  rcases List.mem_append.1 hf with h | h
  · exact f.st T.mv (fun _ _ _=>rfl) (S.m.o f (List.mem_append_left _ h))
  · exact f.st T.mv (fun _ _ _=>rfl) (h4 f h)
theorem St.cls (S:St F w0 m0 n L rs (ks++fs) a w):St F w0 m0 n L rs (ks++[bnO fs]) a w:=by
  have hM:=S.M;have hs:=hM.sep;rw [bJ] at hs;obtain ⟨g1,g2,g3⟩:=cx.1 hs;have T:Tr (ow (ks++fs)) w (ow (ks++[bnO fs])) w:=by
    refine ⟨Ch.refl w,fun k hk=>.inl (rC.1 hk),⟨fun k hk=>hM.lt k (rC.1 hk),?_⟩⟩;rw [bJ];exact cx.2 ⟨g1,⟨fun k _ h=>h,trivial⟩,fun k hk hm=>g3 k hk (hm.elim id False.elim)⟩
  refine ⟨S.s,S.m.go T fun f hf=>?_⟩
  rcases List.mem_append.1 hf with h' | h'
  · exact f.st T.mv (fun _ _ _=>rfl) (S.m.o f (List.mem_append_left _ h'))
  · obtain rfl : f = _ := by simpa using h'
    exact ⟨g2,fun q hq=>q.st T.mv (fun _ _ _=>rfl) (S.m.o q (List.mem_append_right _ hq))⟩
theorem uj {w:World} {base n:Nat} {t:TypeId} {v:Value} {l:Nat} {cs:List Value} (h:w.ownsRow base t n v l cs):w.ownsRow 0 t n v l cs:=⟨h.1,h.2.imp id fun ⟨g,c,cur,h1,h2,h3⟩=>⟨g,c,cur,h1,Nat.zero_le _,h3⟩⟩
theorem Row.b0 {α:Type} {E:Enc α} {t:TypeId} {base:Nat} {ms:List BS} {ad:Option Addr} {cap:Nat} {xs:List α} (r:Row E t base F ms w ad cap xs):Row E t 0 F ms w ad cap xs:=⟨uj r.own,r.wf⟩
theorem St.b0 {α:Type} {E:Enc α} {t:TypeId} {base:Nat} {ad:Option Addr} {cap:Nat} {xs:List α} (S:St F w0 m0 n L rs os a w) (i:Nat) (hi:nth os i=some (rwO E t base ad cap xs)):St F w0 m0 n L rs (os.set i (rwO E t 0 ad cap xs)) a w :=
  have H:=S.m.o _ (aA hi)
  S.k1s i hi (rwO E t 0 ad cap xs) rfl S.s (Ch.refl w) ⟨uj H.1,H.2⟩
theorem St.da {α:Type} {E:Enc α} {x:α} (S:St F w0 m0 n L rs os a w) (i:Nat) (h:nth os i=some (daO E x)):E.wf (Fr F (ow os)) w.heap x:=S.m.o _ (aA h)
theorem St.oda {α:Type} {E:Enc α} {x:α} (S:St F w0 m0 n L rs os a w) (H:E.wf (Fr F (ow os)) w.heap x):St F w0 m0 n L rs (os++[daO E x]) a w:=by
  have e:∀ k,In (ow (os++[daO E x])) k↔In (ow os) k:=fun k=>by
    rw [bJ];exact ⟨fun h=>(aK.1 h).elim id fun h=>h.elim False.elim False.elim,fun h=>aK.2 (.inl h)⟩
  have hs:=S.M.sep
  have T:Tr (ow os) w (ow (os++[daO E x])) w:=⟨Ch.refl w,fun k hk=>.inl ((e k).1 hk),⟨fun k hk=>S.M.lt k ((e k).1 hk),by
    rw [bJ];exact cx.2 ⟨hs,⟨fun k h=>h.elim,trivial⟩,fun k _ hm=>hm.elim id id⟩⟩⟩
  refine ⟨S.s,S.m.go T fun f hf=>?_⟩
  rcases List.mem_append.1 hf with h | h
  · exact f.st T.mv (fun _ _ _=>rfl) (S.m.o f h)
  · obtain rfl : f = _ := by simpa using h
    exact Enc.mono E (fun k _ g=>⟨fun h=>g.1 ((e k).1 h),g.2⟩) H
theorem St.bH {os1 os' gs:List OF} (S:St F w0 m0 n L rs os a w) (k:Nat) (fs:List OF) [r:ShC os os1] [h:TkC k os1 ks gs] [q:ApC ks [bnO fs] os'] (e:gs=fs:=by rfl):St F w0 m0 n L rs os' a w:=by
  subst e;have S2:St F w0 m0 n L rs (ks++gs) a w:=h.eq▸r.eq▸S;exact q.eq▸S2.cls
theorem St.c9 {os1 os' gs:List OF} (S:St F w0 m0 n L rs os a w) (k:Nat) (fs:List OF) [r:ShC os os1] [h:TkC k os1 ks gs] [q:ApC ks fs os'] (e:gs=[bnO fs]:=by rfl):St F w0 m0 n L rs os' a w:=by
  subst e;have S2:St F w0 m0 n L rs (ks++[bnO fs]) a w:=h.eq▸r.eq▸S;exact q.eq▸S2.opn
theorem St.xxF (S:St F w0 m0 n L rs (ks++fs) a w):Old (Exc F (ow (ks++fs)) (ow fs)) w:=S.xx _
theorem St.mF (S:St F w0 m0 n L rs (ks++fs) a w):MS (ow fs) w:=by
  have hM:=S.M;rw [bJ] at hM;exact ⟨fun k hk=>hM.lt k (aK.2 (.inr hk)),(cx.1 hM.sep).2.1⟩
theorem St.dF (S:St F w0 m0 n L rs (ks++fs) a w) {f:OF} (i:Nat) (hi:nth fs i=some f) (mo:f.Mo):f.p (Exc F (ow (ks++fs)) (ow fs)) (In (ow fs)) w :=
  mo (fun k hk=>by
    rcases hk with h | ⟨h,_⟩ | h
    · exact .inl (by rw [bJ];exact aK.2 (.inr h))
    · exact .inl h
    · exact .inr h) (S.m.o f (List.mem_append_right _ (aA hi)))
theorem dnF {α:Type} {E:Enc α} {x:α} {h:Array Obj} (H:E.wf (Fr F (ow (ks++fs))) h x):E.wf (Fr (Exc F (ow (ks++fs)) (ow fs)) (ow fs)) h x :=
  E.mono (fun k _ g=>⟨fun e=>g.1 (by rw [bJ];exact aK.2 (.inr e)),fun e=>e.elim (fun e=>g.1 e.1) g.2⟩) H
theorem St.upF {α:Type} {E:Enc α} {x:α} {h:Array Obj} (S:St F w0 m0 n L rs (ks++fs) a w) {fs':List OF} (H:E.wf (Fr (Exc F (ow (ks++fs)) (ow fs)) (ow fs')) h x):E.wf (Fr F (ow (ks++fs'))) h x :=
  E.mono (fun k _ g=>⟨fun e=>by
    rw [bJ] at e
    rcases aK.1 e with e | e
    · have hs:=S.M.sep;rw [bJ] at hs;exact g.2 (.inl ⟨by rw [bJ];exact aK.2 (.inl e),(cx.1 hs).2.2 k e⟩)
    · exact g.1 e,fun e=>g.2 (.inr e)⟩) H
theorem St.nf (S:St F w0 m0 n L rs os a w) (hD:∀ k,In m0 k→¬ F k) {k:Nat} (h:In (ow os) k):¬ F k:=fun e =>
  (S.m.c.sub k h).elim (fun h=>hD k h e) fun h=>by have:=S.m.f k e;omega
theorem St.nfF (S:St F w0 m0 n L rs (ks++fs) a w) (hD:∀ k,In m0 k→¬ F k):∀ k,In (ow fs) k→¬ Exc F (ow (ks++fs)) (ow fs) k:=fun k h e =>
  e.elim (fun e=>e.2 h) fun e=>S.nf hD (by rw [bJ];exact aK.2 (.inr h)) e
theorem St.kF (S:St F w0 m0 n L rs (ks++fs) a w) (fs':List OF) (s:aP n L' a') (t:Tr (ow fs) w (ow fs') w') (hf:w9 (Exc F (ow (ks++fs)) (ow fs)) (In (ow fs')) w' fs') (mo:fi fs'):St F w0 m0 n L' rs (ks++fs') a' w':=by
  have hM:=S.M;have e2:ow (ks++fs)=ow ks++ow fs:=bJ ks fs;have e3:ow (ks++fs')=ow ks++ow fs':=bJ ks fs';have hs:=hM.sep;rw [e2] at hs;obtain ⟨g1,g2,g3⟩:=cx.1 hs;have T:Tr (ow (ks++fs)) w (ow (ks++fs')) w':=by
    refine ⟨t.ch.mono fun k hk=>by rw [e2];exact aK.2 (.inr hk),fun k hk=>?_,⟨fun k hk=>?_,?_⟩⟩
    · rw [e3] at hk
      rcases aK.1 hk with h | h
      · exact .inl (by rw [e2];exact aK.2 (.inl h))
      · exact (t.sub k h).imp (fun h=>by rw [e2];exact aK.2 (.inr h)) id
    · rw [e3] at hk
      rcases aK.1 hk with h | h
      · exact Nat.lt_of_lt_of_le (hM.lt k (by rw [e2];exact aK.2 (.inl h))) t.size
      · exact t.ms.lt k h
    · rw [e3];refine cx.2 ⟨g1, t.ms.sep, fun k hk hm => ?_⟩
      rcases t.sub k hm with h | h
      · exact g3 k hk h
      · have:=hM.lt k (by rw [e2];exact aK.2 (.inl hk));omega
  refine ⟨s,S.m.go T fun f hq=>?_⟩
  rcases List.mem_append.1 hq with h | h
  · exact f.st T.mv (fun k hk ho=>t.ch.block k hk fun hm=>g3 k (cw (ga h) ho) hm) (S.m.o f (List.mem_append_left _ h))
  · refine mo.get f h (fun k hk => ?_) (hf.get f h)
    rcases hk with h2 | h2
    · rw [e3] at h2
      rcases aK.1 h2 with h3 | h3
      · exact .inr (.inl ⟨by rw [e2];exact aK.2 (.inl h3),g3 k h3⟩)
      · exact .inl h3
    · exact .inr (.inr h2)
theorem St.cK {α:Type} {E:Enc α} {t:TypeId} {base:Nat} {ad:Option Addr} {cap:Nat} {xs:List α} (S:St F w0 m0 n L rs os a w) (hD:∀ k,In m0 k→¬ F k) (i:Nat) (hi:nth os i=some (rwO E t base ad cap xs)) (hn:0 < E.n) (o:List BS) (ho:abk ad∈o):(slE E).wf (Fr (Exc F (ow os) o) []) w.heap ⟨ad,cap,xs⟩:=by
  have R:=S.row i hi;exact R.argx hn (fun k e=>S.nf hD (cw (ga (aA hi)) e)) (fun k e=>⟨cw ho e,fun e=>e⟩) fun _ h=>by simp at h
theorem St.fzD {α:Type} {E:Enc α} {t:TypeId} {base:Nat} {ad:Option Addr} {cap:Nat} {xs:List α} (S:St F w0 m0 n L rs os a w) (hD:∀ k,In m0 k→¬ F k) (i:Nat) (hi:nth os i=some (rwO E t base ad cap xs)) (hn:0 < E.n:=by first | decide | exact Nat.one_pos):St F w0 m0 n L (rs++[wfF (slE E) ⟨ad,cap,xs⟩]) (os.set i noO) a w:=by
  have R:=S.row i hi;have hF:∀ k,abk ad k→¬ F k:=fun k e=>S.nf hD (cw (ga (aA hi)) e);have T:Tr (ow os) w (ow (os.set i noO)) w:=by
    have hM:=S.M;have e1:=fB hi;have e2:=jc (g:=noO) hi;rw [e2];rw [e1] at hM
    conv=>arg 1;rw [e1]
    exact Tr.swap hM (Ch.refl _) fun k hk=>hk.elim
  have hs:∀ k,In (ow (os.set i noO)) k→In (ow os) k:=fun k hk=>(T.sub k hk).elim id fun e=>absurd (T.ms.lt k hk) bo;have hW:(slE E).wf (Fr F (ow (os.set i noO))) w.heap ⟨ad,cap,xs⟩:=by
    refine ⟨R.sA hn (fun k hk=>⟨fun hm=>?_,hF k hk⟩) fun x hx=>Enc.mono _ (fun k _ h=>⟨fun e=>h.1 (hs k e),h.2⟩) (R.wf x hx),R.fq⟩;rw [jc hi] at hm;have hsep:=S.M.sep;rw [fB hi] at hsep;refine Sep.mid (pre:=[]) hk hsep ?_
    rcases aK.1 hm with q | q | q
    · exact aK.2 (.inl q)
    · exact q.elim
    · exact aK.2 (.inr q)
  exact St.ar ⟨S.s,S.m.sw i hi noO T (Ch.refl _) trivial⟩ _ hW
end
end Go.Proofs.Ytobggnpnochnnaa.V
/- Rows that a callee makes anew,as data that is read. -/
namespace Go.Proofs.Ytobggnpnochnnaa.V
open Go.RowKit
section
variable {α:Type} {E:Enc α} {F F':Nat→Prop} {w0 w w2:World} {m0 ms:List BS} {n:Nat} {L:List (Nat × Value)} {rs:List RF} {os:List OF} {a:Act} {t:TypeId} {ad:Option Addr} {cap:Nat} {xs:List α}
theorem Row.frz (R:Row E t w.heap.size F' ms w2 ad cap xs) (hn:0 < E.n) (o:Old (Ex F (ow os)) w) (fl:∀ x,E.wf (Fr F' ms) w2.heap x→E.wf (Fr F (ow os)) w2.heap x):(slE E).wf (Fr F (ow os)) w2.heap ⟨ad,cap,xs⟩:=by
  have hb:=eW R.own;refine ⟨R.sA hn (fun k hk=>?_) fun x hx=>fl x (R.wf x hx),R.fq⟩;have h1:=(hb k hk).1;exact ⟨fun hm=>by have:=o k (.inl hm);omega,fun hF=>by have:=o k (.inr hF);omega⟩
theorem St.frz (S:St F w0 m0 n L rs os a w) (R:Row E t w.heap.size F' ms w2 ad cap xs) (hn:0 < E.n) (fl:∀ x,E.wf (Fr F' ms) w2.heap x→E.wf (Fr F (ow os)) w2.heap x):(slE E).wf (Fr F (ow os)) w2.heap ⟨ad,cap,xs⟩:=R.frz hn S.x fl
theorem LAt.oa {D:Nat→Prop} {h:Array Obj} (l:LAt E D h ad xs) (h0:ad=none):xs=[]:=by
  cases xs with
  | nil=>rfl
  | cons x r =>
    have:=(l.ad (by simp)).1;rw [h0] at this;cases this
end
end Go.Proofs.Ytobggnpnochnnaa.V
/- Pointers to data that is read;objects that a callee reads,or gives. -/
namespace Go.Proofs.Ytobggnpnochnnaa.V
open Go.RowKit
def ptE {α:Type} (E:Enc α) (t:TypeId):Enc (Nat × α) where
  n:=1
  cells x:=[.pointer (some ⟨x.1,0,none⟩)]
  aa:=(0,E.aa)
  wf D h x:=Blk h x.1 (E.cells x.2) t∧D x.1∧E.wf D h x.2
  len _:=rfl
  one x u hu:=by simp at hu;subst hu;rfl
  keep k h:=⟨h.1.keep k h.2.1,h.2.1,E.keep k h.2.2⟩
  mono k h:=⟨h.1,k _ h.1.lt h.2.1,E.mono k h.2.2⟩
section
variable {α:Type} {E:Enc α} {F W D:Nat→Prop} {w0 w:World} {m0:List BS} {n:Nat} {L:List (Nat × Value)} {rs:List RF} {os fs:List OF} {a:Act} {t:TypeId} {base:Nat} {ad:Option Addr} {cap:Nat} {xs:List α}
theorem jr (H:(rwO E t base ad cap xs).p F W w) (hn:0 < E.n) (h1:∀ k,abk ad k→k < w.heap.size→D k) (h2:∀ k,k < w.heap.size→Fw F W k→D k):(slE E).wf D w.heap ⟨ad,cap,xs⟩ :=
  have R:Row E t base F [W] w ad cap xs:=⟨H.1,fun x hx=>E.mono (fun k _ h=>⟨fun e=>e.elim h.1 id,h.2⟩) (H.2 x hx)⟩
  ⟨R.sA hn (fun k hk=>h1 k hk (eW H.1 k hk).2) fun x hx=>E.mono h2 (H.2 x hx),R.fq⟩
theorem St.rob (S:St F w0 m0 n L rs os a w) (hD:∀ k,In m0 k→¬ F k) (i:Nat) (hi:nth os i=some (bnO fs)) {X:(Nat→Prop)→Prop} (rd:∀ D,(∀ f∈fs,f.p F (In (ow os)) w)→(∀ k,In (ow fs) k→k < w.heap.size→D k)→(∀ k,k < w.heap.size→Fw F (In (ow os)) k→D k)→X D) (o:List BS) (ho:In (ow fs)∈o):X (Fr (Exc F (ow os) o) []) :=
  rd _ (S.m.o _ (aA hi)).2 (fun _ hk _=>⟨id,fun e=>e.elim (fun e=>e.2 (cw ho hk)) (S.nf hD (cw (ga (aA hi)) hk))⟩) fun _ _ h=>⟨id,fun e=>e.elim (fun e=>h.1 e.1) h.2⟩
theorem St.raise {os:List OF} (S:St F w0 [] n L rs os a w) (i:Nat) (hi:nth os i=some (rwO E t base ad cap xs)):St F w0 [] n L rs (os.set i (rwO E t w0.heap.size ad cap xs)) a w :=
  have R:=S.row i hi;have R2:=R.raise (b:=w0.heap.size) fun k hk=>(S.m.c.sub k (cw (ga (aA hi)) hk)).elim False.elim id
  S.k1s i hi (rwO E t w0.heap.size ad cap xs) rfl S.s (Ch.refl w) ⟨R2.own,R2.wf⟩
def r8 : List Rw → Prop
  | []=>True
  | r::l=>(∀ (D D':Nat→Prop) h x,r.E.wf D h x→r.E.wf D' h x)∧r8 l
theorem r8.get : ∀ {l : List Rw}, r8 l → ∀ r ∈ l, ∀ (D D' : Nat → Prop) h x, r.E.wf D h x → r.E.wf D' h x
  | _::_,h,r,hr=>(List.mem_cons.1 hr).elim (fun e=>e▸h.1) fun hr=>h.2.get r hr
theorem St.krx {a':Act} {L':List (Nat × Value)} {w':World} {o:List BS} (S:St F w0 m0 n L rs os a w) (l:List Rw) (s:aP n L' a') (t:Tr [] w (kE l) w') (h:kR w.heap.size (Exc F (ow os) o) (kE l) w' l) (hf:r8 l):St F w0 m0 n L' rs (os++ofs w0.heap.size l) a' w':=by
  refine S.kr l s t ?_;have:∀ (k:List Rw),(∀ r∈k,r∈l)→kR w.heap.size (Exc F (ow os) o) (kE l) w' k→kR w.heap.size (Ex F (ow os)) (kE l) w' k:=by
    intro k
    induction k with
    | nil=>intro _ _;trivial
    | cons r q ih =>
      intro hm hk;exact ⟨⟨hk.1.own,fun x hx=>hf.get r (hm r List.mem_cons_self) _ _ _ _ (hk.1.wf x hx)⟩,ih (fun r hr=>hm r (List.mem_cons_of_mem _ hr)) hk.2⟩
  exact this l (fun _ h=>h) h
def lR {α:Type} (q:Option (Nat × α)):Value:=.pointer (q.map fun x=>⟨x.1,0,none⟩)
theorem St.emp (S:St F w0 m0 n L rs os a w):St F w0 m0 n L rs (os++[bnO []]) a w:=by
  have e:∀ k,In (ow (os++[bnO []])) k↔In (ow os) k:=fun k=>by
    rw [bJ];exact ⟨fun h=>(aK.1 h).elim id fun h=>h.elim False.elim False.elim,fun h=>aK.2 (.inl h)⟩
  have hs:=S.M.sep
  have T:Tr (ow os) w (ow (os++[bnO []])) w:=⟨Ch.refl w,fun k hk=>.inl ((e k).1 hk),⟨fun k hk=>S.M.lt k ((e k).1 hk),by
    rw [bJ];exact cx.2 ⟨hs,⟨fun k h=>h.elim,trivial⟩,fun k _ hm=>hm.elim id id⟩⟩⟩
  refine ⟨S.s,S.m.go T fun f hf=>?_⟩
  rcases List.mem_append.1 hf with h | h
  · exact f.st T.mv (fun _ _ _=>rfl) (S.m.o f h)
  · obtain rfl : f = _ := by simpa using h
    exact ⟨trivial,fun f h=>by simp at h⟩
variable {P:Program} {d:Option Tmp} {ty:TypeId} {pos:String} {af:Array Edge} {g:Option (Nat × Bool)}
theorem eB {x y:Operand} {xt yt e:TypeId} {q:Option Addr} (hu:P.underlying xt=some (.pointer e)) (hx:a.eval x = .pointer q) (hy:a.eval y = .pointer none):(execOp a.eval ⟨d,.binOp .eql xt x y yt,ty,pos,af,g⟩).run P w = .ok (.value (.bool q.isNone)) w:=by
  refine qL hx hy (by simp [eqGuard]) ?_;rw [run_eql_pointer_nil w xt _ (by rw [hu];simp [Program.pointee,hu])]
theorem xR {x y:Operand} {xt yt e:TypeId} {q:Option Addr} (hu:P.underlying xt=some (.pointer e)) (hx:a.eval x = .pointer q) (hy:a.eval y = .pointer none):(execOp a.eval ⟨d,.binOp .neq xt x y yt,ty,pos,af,g⟩).run P w = .ok (.value (.bool (!q.isNone))) w:=by
  refine qL hx hy (by simp [eqGuard]) ?_;rw [run_neq_pointer_nil w xt _ (by rw [hu];simp [Program.pointee,hu])]
end
section
variable {P:Program} {ops:Array Oper} {F:Nat→Prop} {w0 W:World} {m0:List BS} {n i:Nat} {fs:List RF} {os:List OF} {ty:TypeId} {pos:String} {af:Array Edge} {Q:Exit→Act→World→Prop} {D A:List Nat} {cls:List (Nat × Nat)}
theorem hcr {α : Type} {En : Enc α} {d : Nat} {t : TypeId} {z0 : Nat} {ys : List α} {js : List Nat} {E : List (Nat × Td (In (cj (ow os) js)))} {a : Act} {w : World} {L' : List (Nat × Value)} {rs' : List RF} {f : FuncId} {args : Array Operand} {ats : Array TypeId} {vs : Array Value} {R : Ending → World → Prop} (S : St F w0 m0 n L' rs' os a w) (M : Mm F w0 m0 fs os w) (G : Ch (In (cj (ow os) js)) W w)
    (hc:Calls P f vs w R) (hf:az P f) (he:dW d E=some (lK En t z0 (cj (ow os) js) ys)) (hz0:z0=W.heap.size)
    (hR:∀ e w',R e w'→∃ ra rc,e = .returned (.slice ra ys.length rc)∧w'.ownsRow w.heap.size t En.n (.slice ra ys.length rc) ys.length (ys.flatMap En.cells)∧Ch (In []) w w')
    (hv:args.toList.map (evS L')=vs.toList.map some:=by rfl) (hk:ops[i]?=some ⟨some d,.call ⟨.value (.func f),args,ats⟩,ty,pos,af,none⟩∧d < n:=by exact ⟨rfl,by decide⟩):wpOp P ops Q i (mI A cls D ⟨some d,.call ⟨.value (.func f),args,ats⟩,ty,pos,af,none⟩ (tq E) (Mm F w0 m0 fs os) n a w) a w :=
  ez hk.1 rfl (gx (gY S.s hv) hf hc fun e w' he'=>by
    obtain ⟨ra,rc,h1,h2,h3⟩:=hR e w' he';have hb:=eW (En:=En) h2;refine ⟨_,h1,⟨⟨_,rfl,fun e' he''=>?_⟩,h3.mono fun _ h=>h.elim,M.k0 h3⟩⟩;have hee:e'=d:=(Option.some.inj he'').symm;subst hee;refine ⟨hk.2,(dN he).2 ⟨ra,rc,rfl,⟨h2.1,h2.2.imp id fun ⟨g,c,cur,q1,q2,q3⟩=>⟨g,c,cur,q1,Nat.le_trans (by rw [hz0];exact G.size) q2,q3⟩⟩,fun k hk' hm=>?_⟩,fun _ k hk'=>.inl (nS h2 k hk').1⟩;have:=M.c.ms.lt _ (dR hm);have:=(hb k hk').1
    omega)
end
section
variable {P:Program} {ops:Array Oper} {F:Nat→Prop} {w0:World} {m0:List BS} {n:Nat} {L:List (Nat × Value)} {fs:List RF} {os:List OF} {ty:TypeId} {pos:String} {af:Array Edge}
theorem ph (gd : Nat) {j : Nat} {b : Bool} {d : Nat} {f : FuncId} {args : Array Operand} {ats : Array TypeId} {vs : Array Value} {v : Value} (hv : look gd L = some (.bool b)) (h : ∀ {a w}, St F w0 m0 n L fs os a w → Calls P f vs w fun e w' => e = .returned v ∧ Tr [] w [] w') (hf : az P f) (ha : args.toList.map (evS L) = vs.toList.map some := by rfl)
    (hk:∃ p,ops[j]?=some p∧p.dst=some gd∧gd < n∧d < n:=by exact ⟨_,rfl,rfl,by decide,by decide⟩) :
    One P ops (St F w0 m0 n L fs os) [] ⟨some d,.call ⟨.value (.func f),args,ats⟩,ty,pos,af,some (j,b)⟩ (St F w0 m0 n ((d,v)::L) fs os):=fun K Q a w S k=>by
  obtain ⟨p,h2,h3,h4,h6⟩:=hk;have hw:=fv (a:=a) (o:=⟨some d,.call ⟨.value (.func f),args,ats⟩,ty,pos,af,some (j,b)⟩) rfl h2 h3 (by rw [S.s.size];exact h4) (S.s.get gd _ hv);unfold Core;rw [if_pos (hw.2 rfl)];exact .inl (gx (gY S.s ha) hf (h S) fun e w' ⟨he,t⟩=>⟨v,he,k _ _ (S.k0 (S.s.put h6) t) t.ch⟩)
end
end Go.Proofs.Ytobggnpnochnnaa.V
/- Structs of numbers and truth values are compared. -/
namespace Go.Proofs.Ytobggnpnochnnaa.V
open Go.RowKit
inductive Cmp (P : Program) : TypeId → Value → Value → Prop → Prop
  | int {t:TypeId} {k:IntKind} {a b:Int} (h:P.underlying t=some (.int k)):Cmp P t (.int k a) (.int k b) (a=b)
  | bool {t:TypeId} {p q:Prop} [Decidable p] [Decidable q] (h:P.underlying t=some .bool):Cmp P t (.bool (decide p)) (.bool (decide q)) (p↔q)
  | An {t:TypeId} {p:Prop} [Decidable p] (h:P.underlying t=some .bool):Cmp P t (.bool (decide p)) (.bool false) (¬ p)
  | Am {t:TypeId} {p:Prop} [Decidable p] (h:P.underlying t=some .bool):Cmp P t (.bool (decide p)) (.bool true) p
inductive qJ (P : Program) (xs ys : Array Value) : List Field → Nat → Prop → Prop
  | one {f : Field} {o : Nat} {u v : Value} {q : Prop} (n : (f.name != "_") = true) (ho : f.offset = o) (hx : xs[o]? = some u) (hy : ys[o]? = some v) (c : Cmp P f.type u v q) : qJ P xs ys [f] o q
  | cons {f g : Field} {fs : List Field} {o : Nat} {u v : Value} {q r : Prop} (n : (f.name != "_") = true) (ho : f.offset = o) (hx : xs[o]? = some u) (hy : ys[o]? = some v) (c : Cmp P f.type u v q) (h : qJ P xs ys (g :: fs) (o + 1) r) : qJ P xs ys (f :: g :: fs) o (q ∧ r)
section
variable {P:Program} {w:World} {xs ys:Array Value}
theorem Cmp.run {t:TypeId} {u v:Value} {q:Prop} (h:Cmp P t u v q):(∃ b:Bool,(Op.equalIn 9999 t u v).run P w = .ok b w∧(b=true↔q))∧∀ (zs:Array Value) (o:Nat) (z:Value),zs[o]?=some z→(part t zs o).run P w = .ok z w:=by
  cases h with
  | int h=>exact ⟨⟨_,run_equalIn_int (P:=P) w 9998 t _ _ _ _ h,by simp⟩,fun zs o z hz=>by simp [part,isAgg,run_underlying h,hz]⟩
  | bool h=>exact ⟨⟨_,run_equalIn_bool (P:=P) w 9998 t _ _ h,by simp⟩,fun zs o z hz=>by simp [part,isAgg,run_underlying h,hz]⟩
  | An h=>exact ⟨⟨_,run_equalIn_bool (P:=P) w 9998 t _ _ h,by simp⟩,fun zs o z hz=>by simp [part,isAgg,run_underlying h,hz]⟩
  | Am h=>exact ⟨⟨_,run_equalIn_bool (P:=P) w 9998 t _ _ h,by simp⟩,fun zs o z hz=>by simp [part,isAgg,run_underlying h,hz]⟩
theorem qJ.run : ∀ {fs : List Field} {o : Nat} {q : Prop}, qJ P xs ys fs o q → ∃ b : Bool, (Op.eqFields 9999 xs ys fs).run P w = .ok b w ∧ (b = true ↔ q)
  | _,_,_,.one n ho hx hy c=>by
    obtain ⟨⟨b,h1,h2⟩,h3⟩:=c.run (w:=w);subst ho;have n':=bne_iff_ne.1 n;refine ⟨b,?_,h2⟩;simp only [Op.eqFields,if_pos n',Sem.run_bind,h3 _ _ _ hx,h3 _ _ _ hy,Result.andThen_ok,h1,Sem.run_ite,Sem.run_pure]
    cases b <;> rfl
  | _,_,_,.cons n ho hx hy c r=>by
    obtain ⟨⟨b,h1,h2⟩,h3⟩:=c.run (w:=w);obtain ⟨b2,h4,h5⟩:=r.run;subst ho;have n':=bne_iff_ne.1 n;refine ⟨b && b2,?_,by rw [Bool.and_eq_true,h2,h5]⟩;rw [Op.eqFields];simp only [if_pos n',Sem.run_bind,h3 _ _ _ hx,h3 _ _ _ hy,Result.andThen_ok,h1,Sem.run_ite,Sem.run_pure]
    cases b
    · rfl
    · simpa using h4
theorem wR {t:TypeId} {fa:Array Field} {q:Prop} [Decidable q] (ht:P.underlying t=some (.struct fa)) (hs:P.stoodInHeld t=false) (hc:qJ P xs ys fa.toList 0 q):(Op.equalIn 10000 t (.agg xs) (.agg ys)).run P w = .ok (decide q) w:=by
  have ht':P.underlying t=some (.struct (P.fieldsOf t)):=by unfold Program.fieldsOf;rw [ht]
  have hf:(P.fieldsOf t).toList=fa.toList:=by unfold Program.fieldsOf;rw [ht]
  obtain ⟨b,h1,h2⟩:=hc.run (w:=w);rw [run_equalIn_struct (P:=P) w 9999 t _ _ ht' hs,hf,h1]
  congr 1
  cases b <;> simp_all
variable {act:Act} {d:Option Tmp} {ty:TypeId} {pos:String} {af:Array Edge} {g:Option (Nat × Bool)} {x y:Operand} {t yt:TypeId} {fa:Array Field} {q:Prop} [Decidable q]
theorem vL (ht : P.underlying t = some (.struct fa)) (hs : P.stoodInHeld t = false) (hg : P.eqGuardType P.depth t = false) (hx : act.eval x = .agg xs) (hy : act.eval y = .agg ys) (hc : qJ P xs ys fa.toList 0 q) :
    (execOp act.eval ⟨d,.binOp .eql t x y yt,ty,pos,af,g⟩).run P w = .ok (.value (.bool (decide q))) w:=by
  simp only [execOp,hx,hy,Sem.run_bind,run_eqGuard_agg (P:=P) w .eql t x y _ _ hg,Result.andThen_ok,run_eql_struct,wR ht hs hc,Sem.run_pure]
end
end Go.Proofs.Ytobggnpnochnnaa.V
/- Regions that draw their order: operations that give the same value whenever they run are taken as soon as they may. -/
namespace Go.Proofs.Ytobggnpnochnnaa.V
open Go.RowKit
theorem bE {b:Array Bool} {i j:Nat} {v d:Bool} (h:i≠j):(b.setIfInBounds i v).getD j d=b.getD j d:=by
  simp [Array.getElem?_setIfInBounds_ne h]
def se (ops : Array Oper) : List Nat → Array Bool → Bool
  | [],listed=>(Region.ready .any ops listed).isEmpty
  | k::ks,listed=>decide (Region.ready .any ops listed=[k]) && se ops ks (listed.setIfInBounds k true)
def eN (m:Nat) (ks:List Nat):Array Bool:=((List.range m).map fun j=>!ks.contains j).toArray
theorem eM {m:Nat} {ks:List Nat} {j:Nat} (h:j < m) (d:Bool):(eN m ks).getD j d = !ks.contains j:=by unfold eN;simp [h]
def kC (m:Nat) (ks:List Nat) (listed:Array Bool):Nat:=((List.range m).filter fun j=>!ks.contains j && !listed.getD j true).length
theorem rP {m:Nat} {ks:List Nat} {listed:Array Bool} {i:Nat} (hi:i < m) (hk:ks.contains i=false) (hl:listed.getD i true=false):kC m ks listed=kC m ks (listed.setIfInBounds i true)+1:=by
  unfold kC
  induction m with
  | zero=>omega
  | succ m ih =>
    rw [List.range_succ,List.filter_append,List.filter_append,List.length_append,List.length_append];have hs:(listed.setIfInBounds i true).getD i true=true:=by
      rcases Nat.lt_or_ge i listed.size with h | h
      · simp [h]
      · simp [h]
    by_cases h:i=m
    · subst h;have e:((List.range i).filter fun j=>!ks.contains j && !(listed.setIfInBounds i true).getD j true)=(List.range i).filter fun j=>!ks.contains j && !listed.getD j true:=by
        apply List.filter_congr
        intro j hj;have:=List.mem_range.1 hj;rw [bE bo]
      rw [e];simp only [List.filter_cons,List.filter_nil,hk,hl,hs,Bool.not_false,Bool.not_true,Bool.and_self,Bool.and_false,if_true,Bool.false_eq_true,if_false,List.length_cons,List.length_nil]
    · have:=ih bo;have e:(listed.setIfInBounds i true).getD m true=listed.getD m true:=bE h;rw [this];simp only [List.filter_cons,List.filter_nil,e];omega
def rF (ops:Array Oper) (z:Nat):Bool:=match ops[z]? with
  | none=>false
  | some oi=>oi.guard.isNone && (List.range ops.size).all fun j=>j == z || match ops[j]? with
    | some oj=>oj.after.any (fun e=>Region.binds .any e && e.on == z) || oi.after.any (fun e=>Region.binds .any e && e.on == j) || oi.apart ops oj
    | none=>true
def uO (ops:Array Oper) (i:Nat) (b:Array Bool) (j:Nat):Array Bool:=match ops[j]? with
  | some o=>bif j == i || o.after.any (fun e=>Region.binds .any e && !b.getD e.on true) then b.setIfInBounds j false else b
  | none=>b
def j5 (ops : Array Oper) (i : Nat) : List Nat → Array Bool → Array Bool
  | [],b=>b
  | j::r,b=>j5 ops i r (uO ops i b j)
theorem ml {ops : Array Oper} {i : Nat} {listed : Array Bool} (hi : listed.getD i false = false) (hc : ∀ t o, ops[t]? = some o → listed.getD t false = true → ∀ e ∈ o.after, Region.binds .any e = true → listed.getD e.on false = true) :
    ∀ (l:List Nat) (b:Array Bool),(∀ t,listed.getD t false=true→b.getD t false=true)→∀ t,listed.getD t false=true→(j5 ops i l b).getD t false=true
  | [],_,h=>h
  | j::r,b,h=>by
    rw [j5];refine ml hi hc r _ fun t ht=>?_;unfold uO
    cases ho:ops[j]? with
    | none=>exact h t ht
    | some o =>
      dsimp only
      cases hb:(j == i || o.after.any fun e=>Region.binds .any e && !b.getD e.on true) with
      | false=>exact h t ht
      | true =>
        show (b.setIfInBounds j false).getD t false=true
        by_cases hj:j=t
        · subst hj;exfalso
          rcases Bool.or_eq_true_iff.1 hb with q | q
          · have : j = i := by simpa using q
            subst this;rw [hi] at ht;cases ht
          · obtain ⟨e,he,hb2⟩:=Array.any_eq_true'.1 q;simp only [Bool.and_eq_true,Bool.not_eq_true'] at hb2;have:=h e.on (hc j o ho ht e he hb2.1);have h2:=getD_both hb2.2;rw [h2] at this;cases this
        · rw [bE hj];exact h t ht
theorem mi {ops : Array Oper} {i t : Nat} : ∀ (l : List Nat) (b : Array Bool), b.getD t true = false → (j5 ops i l b).getD t true = false
  | [],_,h=>h
  | j::r,b,h=>by
    rw [j5];refine mi r _ ?_;unfold uO
    cases ops[j]? with
    | none=>exact h
    | some o =>
      dsimp only
      cases (j == i || o.after.any fun e=>Region.binds .any e && !b.getD e.on true) with
      | false=>exact h
      | true =>
        show (b.setIfInBounds j false).getD t true=false
        by_cases hj:j=t
        · subst hj;have hlt:j < b.size:=by
            rcases Nat.lt_or_ge j b.size with g | g
            · exact g
            · simp [Array.getElem?_eq_none g] at h
          simp [hlt]
        · rw [bE hj];exact h
def wU (ops:Array Oper) (n:Nat) (zs ks:List Nat):Bool :=
  decide (n≤ops.size) && zs.all (fun z=>decide (z < ops.size) && !ks.contains z && rF ops z) && ks.all (fun k=>decide (n≤k)) &&
  (List.range ops.size).all (fun j=>ks.contains j || ((decide (j < n) || zs.contains j) && match ops[j]? with
    | some o=>o.after.all fun e=>!Region.binds .any e || (decide (e.on < j) && !ks.contains e.on)
    | none=>false)) &&
  (List.range n).all (fun i=>(Region.ready .any ops (j5 ops i (List.range ops.size) (eN ops.size ks))).all fun t=>!ks.contains t) &&
  se ops ks (eN ops.size ks) && Region.noSelect ops && decide (kC ops.size ks (Array.replicate ops.size false)+ks.length=ops.size)
section
variable {P:Program} {Q:Exit→Act→World→Prop} {ops:Array Oper}
theorem gA : ∀ (l : List Oper) (ks : List Nat) (listed : Array Bool) (a : Act) (w : World), l.map some = ks.map (fun k => ops[k]?) → se ops ks listed = true → wpList P ops Q l a w → wpAny P .any ops Q ks.length listed a w
  | [],[],_,_,_,_,hB,h=>⟨by simpa [se] using hB,h⟩
  | o::l,k::ks,listed,a,w,hl,hB,h=>by
    rw [List.map_cons,List.map_cons,List.cons.injEq] at hl;simp only [se,Bool.and_eq_true,decide_eq_true_eq] at hB;refine ⟨fun h1=>(by rw [hB.1] at h1;cases h1),fun i hi=>?_⟩;rw [hB.1] at hi;obtain rfl:i=k:=by simpa using hi
    have hw:wpOp P ops Q i (wpList P ops Q l) a w:=by unfold wpOp;simp only [← hl.1];exact h
    exact wpOp_mono (fun a' w' h'=>gA l ks _ a' w' hl.2 hB.2 h') hw
  | [],_::_,_,_,_,hl,_,_=>by simp at hl
  | _::_,[],_,_,_,hl,_,_=>by simp at hl
theorem xY {G : Array Bool → Act → World → Prop} (n : Nat) (zs ks : List Nat) (tail : List Oper) (htl : tail.map some = ks.map fun k => ops[k]?) (chk : wU ops n zs ks = true) (hQ : ∀ c a d v w, Q (.panic c) (a.put (some d) v) w → Q (.panic c) a w)
    (hhead:∀ i,i < n→∀ listed a w,listed.size=ops.size→G listed a w→i∈Region.ready .any ops listed→wpOp P ops Q i (fun a' w'=>G (listed.setIfInBounds i true) a' w') a w)
    (hlazy:∀ z∈zs,∀ listed a w,G listed a w→z∈Region.ready .any ops listed→∃ o v d,ops[z]?=some o∧o.dst=some d∧Yields P ops o v a∧G (listed.setIfInBounds z true) (a.put o.dst v) w)
    (fin:∀ a w,G (eN ops.size ks) a w→wpList P ops Q tail a w) :
    ∀ (f:Nat) (listed:Array Bool) (a:Act) (w:World),kC ops.size ks listed=f→listed.size=ops.size→(∀ k∈ks,∀ d,k < ops.size→listed.getD k d=false)→(∀ t o,ops[t]?=some o→listed.getD t false=true→∀ e∈o.after,Region.binds .any e=true→listed.getD e.on false=true)→G listed a w→wpAny P .any ops Q (f+ks.length) listed a w:=by
  simp only [wU,Bool.and_eq_true,decide_eq_true_eq] at chk;obtain ⟨⟨⟨⟨⟨⟨⟨c1,c2⟩,c3⟩,c4⟩,c5⟩,c6⟩,c7⟩,_⟩:=chk;have hc4:∀ j,j < ops.size→ks.contains j=false→(j < n∨j∈zs)∧∃ o,ops[j]?=some o∧∀ e∈o.after,Region.binds .any e=true→e.on < j∧ks.contains e.on=false:=fun j hj hk=>by
    have h:=List.all_eq_true.1 c4 j (List.mem_range.2 hj);rw [hk,Bool.false_or] at h
    cases ho:ops[j]? with
    | none=>rw [ho] at h;simp at h
    | some o =>
      rw [ho] at h;simp only [Bool.and_eq_true,Bool.or_eq_true,decide_eq_true_eq,List.contains_iff_mem] at h;refine ⟨h.1,o,rfl,fun e he hb=>?_⟩;have:=Array.all_eq_true_iff_forall_mem.1 h.2 e he
      simpa [hb] using this
  intro f
  induction f with
  | zero =>
    intro listed a w hf hs hks hcl hG;have hl:listed=eN ops.size ks:=by
      apply Array.ext
      · rw [hs];simp [eN]
      · intro i h1 h2;have hi : i < ops.size := by omega
        have key:listed.getD i true=(eN ops.size ks).getD i true:=by
          rw [eM hi]
          by_cases hk:ks.contains i=true
          · rw [hk,hks i (List.contains_iff_mem.1 hk) true hi];rfl
          · have hk' : ks.contains i = false := by simpa using hk
            have h3:=List.filter_eq_nil_iff.1 (List.length_eq_zero_iff.1 hf) i (List.mem_range.2 hi);rw [hk'] at h3 ⊢
            simpa using h3
        simpa [h1,h2] using key
    subst hl;rw [Nat.zero_add];exact gA tail ks _ a w htl c6 (fin a w hG)
  | succ f ih =>
    intro listed a w hf hs hks hcl hG;rw [show f+1+ks.length=(f+ks.length)+1 from by omega]
    -- the first that has not come up
    have hex:∃ j,j < ops.size∧ks.contains j=false∧listed.getD j true=false∧∀ k,k < j→ks.contains k=false→listed.getD k true=true:=by
      have hne:∃ j,(j < ops.size∧ks.contains j=false∧listed.getD j true=false):=by
        have h0:((List.range ops.size).filter fun j=>!ks.contains j && !listed.getD j true)≠[]:=fun h=>by
          unfold kC at hf;rw [h] at hf;simp at hf
        obtain ⟨j,hj⟩:=List.exists_mem_of_ne_nil _ h0;have:=List.mem_filter.1 hj;simp only [Bool.and_eq_true,Bool.not_eq_true'] at this;exact ⟨j,List.mem_range.1 this.1,this.2.1,this.2.2⟩
      obtain ⟨j,hj⟩:=hne
      induction j using Nat.strongRecOn with
      | _ j ihj =>
        by_cases hk:∃ k,k < j∧ks.contains k=false∧listed.getD k true=false
        · obtain ⟨k,h1,h2,h3⟩:=hk;exact ihj k h1 ⟨by omega,h2,h3⟩
        · refine ⟨j, hj.1, hj.2.1, hj.2.2, fun k h1 h2 => ?_⟩
          cases h:listed.getD k true
          · exact absurd ⟨k,h1,h2,h⟩ hk
          · rfl
    obtain ⟨j,hj1,hj2,hj3,hj4⟩:=hex;have hjr:j∈Region.ready .any ops listed:=by
      obtain ⟨_,o,ho,h⟩:=hc4 j hj1 hj2;refine mem_ready.2 ⟨hj3,o,ho,fun e he hb=>?_⟩;obtain ⟨h1,h2⟩:=h e he hb;have h3:=hj4 e.on h1 h2;have h4:e.on < listed.size:=by omega
      simp [h4] at h3 ⊢;exact h3
    have next:∀ i,i∈Region.ready .any ops listed→ks.contains i=false→∀ a' w',G (listed.setIfInBounds i true) a' w'→wpAny P .any ops Q (f+ks.length) (listed.setIfInBounds i true) a' w':=fun i hi hk a' w' hG'=>by
      obtain ⟨hil,o,ho,hall⟩:=mem_ready.1 hi;have hlt:=(Array.getElem?_eq_some_iff.1 ho).1;have:=rP hlt hk hil;refine ih _ a' w' bo (by simp [hs]) (fun k hkm d hlt'=>?_) (fun t p hp ht e he hb=>?_) hG'
      rotate_left
      · by_cases hti : i = t
        · subst hti;obtain rfl:=Option.some.inj (ho.symm.trans hp);exact getD_set_true (hall e he hb)
        · rw [bE hti] at ht;exact getD_set_true (hcl t p hp ht e he hb)
      rw [bE (fun e=>by subst e;rw [List.contains_iff_mem.2 hkm] at hk;cases hk)];exact hks k hkm d hlt'
    by_cases hz:∃ z,z∈zs∧z∈Region.ready .any ops listed
    · obtain ⟨z, hzs, hzr⟩ := hz;have hc := List.all_eq_true.1 c2 z hzs;simp only [Bool.and_eq_true, decide_eq_true_eq, Bool.not_eq_true'] at hc;obtain ⟨o, v, dd, ho, hdd, hy, hG'⟩ := hlazy z hzs listed a w hG hzr;obtain ⟨_, o', ho', hall⟩ := mem_ready.1 hzr;obtain rfl := Option.some.inj (ho.symm.trans ho');refine wpAny_first ho (Region.noSelect_spec c7) (fun c a w hq => hQ c a dd v w (by rw [hdd] at hq; exact hq)) _ listed a w (fun k ok hk hkz hkl hno => ?_) hzr hy (next z hzr hc.1.2 _ w hG');have hfr := hc.2;unfold rF at hfr;rw [ho] at hfr;simp only [Bool.and_eq_true] at hfr;have h1 := List.all_eq_true.1 hfr.2 k (List.mem_range.2 (Array.getElem?_eq_some_iff.1 hk).1);rw [hk] at h1;simp only [Bool.or_eq_true, beq_iff_eq, hkz, false_or] at h1
      rcases h1 with (h1 | h1) | h1
      · obtain ⟨e,he,hb⟩:=Array.any_eq_true'.1 h1;simp only [Bool.and_eq_true,beq_iff_eq] at hb;exact absurd hb.2 (hno e he hb.1)
      · obtain ⟨e,he,hb⟩:=Array.any_eq_true'.1 h1;simp only [Bool.and_eq_true,beq_iff_eq] at hb;have h2:=hall e he hb.1;rw [hb.2,getD_both hkl] at h2;cases h2
      · exact h1
    · have hjn:j < n:=by
        rcases (hc4 j hj1 hj2).1 with h | h
        · exact h
        · exact absurd ⟨j,h,hjr⟩ hz
      refine ⟨fun h=>(by rw [h] at hjr;cases hjr),fun i hi=>?_⟩;obtain ⟨hil,o,ho,hall⟩:=mem_ready.1 hi;have hlt:=(Array.getElem?_eq_some_iff.1 ho).1;have hik:ks.contains i=false:=by
        cases hk:ks.contains i
        · rfl
        · have hge : n ≤ i := by have := List.all_eq_true.1 c3 i (List.contains_iff_mem.1 hk); simpa using this
          have hmem:i∈Region.ready .any ops (j5 ops j (List.range ops.size) (eN ops.size ks)):=by
            refine mem_ready.2 ⟨mi _ _ (by rw [eM hlt,hk];rfl),o,ho,fun e he hb=>?_⟩;refine ml (getD_both hj3) hcl _ _ (fun t ht=>?_) e.on (hall e he hb);have hlt2:t < ops.size:=by
              rcases Nat.lt_or_ge t listed.size with g | g
              · omega
              · simp [Array.getElem?_eq_none g] at ht
            rw [eM hlt2]
            cases hk2:ks.contains t
            · rfl
            · rw [hks t (List.contains_iff_mem.1 hk2) false hlt2] at ht;cases ht
          have h2:=List.all_eq_true.1 (List.all_eq_true.1 c5 j (List.mem_range.2 hjn)) i hmem;rw [hk] at h2;cases h2
      have hin:i < n:=by
        rcases (hc4 i hlt hik).1 with h | h
        · exact h
        · exact absurd ⟨i,h,hi⟩ hz
      exact wpOp_mono (fun a' w' hG'=>next i hi hik a' w' hG') (hhead i hin listed a w hs hG hi)
end
section
variable {P:Program} {F:Nat→Prop} {w0:World} {m0:List BS} {n:Nat} {L:List (Nat × Value)} {fs:List RF} {os:List OF} {Q:Exit→Act→World→Prop}
structure Zop where
  i:Nat
  d:Nat
  v:Value
  D:List Nat
def LZ5 (P : Program) (ops : Array Oper) (N : Nat) (L : List (Nat × Value)) {M : Nat → Prop} (E : List (Nat × Td M)) : List Zop → Prop
  | []=>True
  | z::r=>((∃ o,ops[z.i]?=some o∧o.guard=none∧o.dst=some z.d∧∀ a w,aP N (cat (fw E z.D) L) a→(execOp a.eval o).run P w = .ok (.value z.v) w)∧z.d < N∧dW z.d E=some (.is z.v))∧LZ5 P ops N L E r
theorem LZ5.get {ops : Array Oper} {N : Nat} {M : Nat → Prop} {E : List (Nat × Td M)} : ∀ {Z : List Zop}, LZ5 P ops N L E Z → ∀ z ∈ Z, (∃ o, ops[z.i]? = some o ∧ o.guard = none ∧ o.dst = some z.d ∧ ∀ a w, aP N (cat (fw E z.D) L) a → (execOp a.eval o).run P w = .ok (.value z.v) w) ∧ z.d < N ∧ dW z.d E = some (.is z.v)
  | _::_,h,z,hz=>(List.mem_cons.1 hz).elim (fun e=>e▸h.1) fun hz=>LZ5.get h.2 z hz
def nj (ops:Array Oper) (j:Nat):Option Nat:=(ops[j]?).bind (·.dst)
def pe (l : List Oper) : List Nat → List Oper
  | []=>[]
  | k::r=>match l[k]? with
    | some o=>o::pe l r
    | none=>pe l r
theorem na {l : List Oper} : ∀ {ks : List Nat}, (ks.all fun k => decide (k < l.length)) = true → (pe l ks).map some = ks.map fun k => l.toArray[k]?
  | [],_=>rfl
  | k::r,h=>by
    simp only [List.all_cons,Bool.and_eq_true,decide_eq_true_eq] at h;have e:=List.getElem?_eq_getElem h.1;rw [pe,e,List.map_cons,List.map_cons,na h.2];simp [h.1]
variable {chg:List BS} {ops:Array Oper} {o:Oper} {W:World} {A D:List Nat} {cls:List (Nat × Nat)} {i:Nat}
def litT (q:Nat) (cs:List Value) (t:TypeId) (z0:Nat) (chg:List BS):Td (In chg) :=
  .of (fun z w=>∃ b,z = .slice (some ⟨b,0,none⟩) q q∧Blk w.heap b cs t∧z0≤b∧¬ In chg b) fun _ _ _ c ⟨b,e,h,hn⟩=>⟨b,e,h.tr c hn.2,hn⟩
theorem hcs {d q t z0 : Nat} {cs : List Value} {js : List Nat} {E : List (Nat × Td (In (cj (ow os) js)))} (he : dW d E = some (litT q cs t z0 (cj (ow os) js))) (hz : z0 = W.heap.size)
    (hrun:∀ {a w},St F w0 m0 n (cat (fw E D) L) fs os a w→(execOp a.eval o).run P w = .ok (.value (.slice (some ⟨w.heap.size,0,none⟩) q q)) (w.alloc (.cells cs.toArray t)))
    (hk:ops[i]?=some o∧o.guard=none∧o.dst=some d∧d < n:=by exact ⟨rfl,rfl,rfl,by decide⟩):HDC A cls P ops Q F w0 W m0 n L fs os E i o D:=fun a w S G _ _ =>
  hcb S.m (hrun S) (fun b hb=>(Option.some.inj hb).symm) ⟨hk.2.2.1,hk.2.2.2⟩ ((dN he).2 ⟨_,rfl,Blk.new _ cs t,by rw [hz];exact G.size,ld S.m⟩) ⟨hk.1,hk.2.1⟩
end
end Go.Proofs.Ytobggnpnochnnaa.V
/- Bytes as a string. -/
namespace Go.Proofs.Ytobggnpnochnnaa.V
open Go.RowKit
section
variable {P:Program} {a:Act} {w:World} {d:Option Tmp} {ty:TypeId} {pos:String} {af:Array Edge} {g:Option (Nat × Bool)} {x:Operand} {src dst e:TypeId}
theorem tx {D:Nat→Prop} (s:Sl Int) (H:(slE u8E).wf D w.heap s) (hs:P.underlying src=some (.slice e)) (he:P.underlying e=some (.int .u8)) (hd:P.underlying dst=some .string) (hx:a.eval x = .slice s.a s.xs.length s.c):(execOp a.eval ⟨d,.convert src dst x,ty,pos,af,g⟩).run P w = .ok (.value (.string (strOfNums s.xs))) w:=by
  have key:(convert src dst (.slice s.a s.xs.length s.c)).run P w = .ok (.string (strOfNums s.xs)) w:=by
    rcases Nat.eq_zero_or_pos s.xs.length with h | h
    · cases hsa:s.a with
      | none =>
        rw [run_convert_bytes_string w src dst e none _ _ hs he hd,List.eq_nil_of_length_eq_zero h]
        rfl
      | some b =>
        rw [run_convert_bytes_string w src dst e (some b) _ _ hs he hd,List.eq_nil_of_length_eq_zero h]
        rfl
    · have hq:=(H.1.ad h).1;rw [hq];exact run_convert_bytes_arg (P:=P) w src e hs he _ _ _ s.c s.xs rfl (fun i hi=>by have h1:=H.1.cell i hi 0 (.int .u8 (s.xs.getD i 0)) rfl;rw [Nat.add_zero,show u8E.n=1 from rfl,Nat.mul_one] at h1;exact h1) dst hd
  simp [execOp,hx,key]
theorem pbT {o:Oper} {b:Bool} (h:(execOp a.eval o).run P w = .ok (.value (.bool b)) w) (hb:b=true:=by rfl):(execOp a.eval o).run P w = .ok (.value (.bool (decide True))) w:=by subst hb;exact h
theorem pS {s:TypeId} {cs:List Value} {i:Nat} {fs:Array Field} {f:Field} {v:Value} (hu:P.underlying s=some (.struct fs)) (hf:fs[i]?=some f) (hs:dc P f.type) (hx:a.eval x = .agg cs.toArray) (hv:cs[f.offset]?=some v):(execOp a.eval ⟨d,.field s x i,ty,pos,af,g⟩).run P w = .ok (.value v) w:=by
  have hq:(part f.type cs.toArray f.offset).run P w = .ok v w:=by
    have h2:cs.toArray[f.offset]?=some v:=by rw [List.getElem?_toArray];exact hv
    unfold part;simp [Sem.run_bind,Result.andThen,gO hs,h2,Sem.run_pure]
  simp [execOp,Instr.field,run_underlying hu,hf,hx,asAgg,hq]
end
structure Chg where
  dev:Int
  ver:Int
def ao:Enc Chg where
  n:=2
  cells x:=[.int .i64 x.dev,.int .i64 x.ver]
  aa:=⟨0,0⟩
  wf D h x:=ah x.dev∧ah x.ver
  len _:=rfl
  one x u hu:=by simp only [List.mem_cons,List.not_mem_nil,or_false] at hu;rcases hu with rfl | rfl <;> rfl
  keep k h:=⟨h.1,h.2⟩
  mono k h:=⟨h.1,h.2⟩

structure Rec where
  kind:Int
  dev:Int
  inc:Int
  seq:Int
def aV:Enc Rec where
  n:=4
  cells x:=[.int .i64 x.kind,.int .i64 x.dev,.int .i64 x.inc,.int .i64 x.seq]
  aa:=⟨0,0,0,0⟩
  wf D h x:=ah x.kind∧ah x.dev∧ah x.inc∧ah x.seq
  len _:=rfl
  one x u hu:=by simp only [List.mem_cons,List.not_mem_nil,or_false] at hu;rcases hu with rfl | rfl | rfl | rfl <;> rfl
  keep k h:=⟨h.1,h.2.1,h.2.2.1,h.2.2.2⟩
  mono k h:=⟨h.1,h.2.1,h.2.2.1,h.2.2.2⟩

structure eH where
  ay:Bool
  rounds:Sl (Sl Chg)
def aO:Enc eH where
  n:=2
  cells x:=[.bool (decide (x.ay=true)),.slice x.rounds.a x.rounds.xs.length x.rounds.c]
  aa:=⟨false,⟨none,0,[]⟩⟩
  wf D h x:=True∧(slE (slE ao)).wf D h x.rounds
  len _:=rfl
  one x u hu:=by simp only [List.mem_cons,List.not_mem_nil,or_false] at hu;rcases hu with rfl | rfl <;> rfl
  keep k h:=⟨h.1,(slE (slE ao)).keep k h.2⟩
  mono k h:=⟨h.1,(slE (slE ao)).mono k h.2⟩

structure fU where
  round:Int
  back:Bool
  seq:Int
  target:Sl Int
  known:Sl Int
  waiting:Sl Int
def gm:Enc fU where
  n:=6
  cells x:=[.int .i64 x.round,.bool (decide (x.back=true)),.int .i64 x.seq,.slice x.target.a x.target.xs.length x.target.c,.slice x.known.a x.known.xs.length x.known.c,.slice x.waiting.a x.waiting.xs.length x.waiting.c]
  aa:=⟨0,false,0,⟨none,0,[]⟩,⟨none,0,[]⟩,⟨none,0,[]⟩⟩
  wf D h x:=ah x.round∧True∧ah x.seq∧(slE ae).wf D h x.target∧(slE ae).wf D h x.known∧(slE ae).wf D h x.waiting
  len _:=rfl
  one x u hu:=by simp only [List.mem_cons,List.not_mem_nil,or_false] at hu;rcases hu with rfl | rfl | rfl | rfl | rfl | rfl <;> rfl
  keep k h:=⟨h.1,h.2.1,h.2.2.1,(slE ae).keep k h.2.2.2.1,(slE ae).keep k h.2.2.2.2.1,(slE ae).keep k h.2.2.2.2.2⟩
  mono k h:=⟨h.1,h.2.1,h.2.2.1,(slE ae).mono k h.2.2.2.1,(slE ae).mono k h.2.2.2.2.1,(slE ae).mono k h.2.2.2.2.2⟩

structure aW where
  rounds:Sl (Sl Chg)
  ai:Sl (Sl Int)
  round:Int
  back:Bool
  seq:Int
  target:Sl Int
  known:Sl Int
  waiting:Sl Int
  aj:Sl Int
def ep:Enc aW where
  n:=9
  cells x:=[.slice x.rounds.a x.rounds.xs.length x.rounds.c,.slice x.ai.a x.ai.xs.length x.ai.c,.int .i64 x.round,.bool (decide (x.back=true)),.int .i64 x.seq,.slice x.target.a x.target.xs.length x.target.c,.slice x.known.a x.known.xs.length x.known.c,.slice x.waiting.a x.waiting.xs.length x.waiting.c,.slice x.aj.a x.aj.xs.length x.aj.c]
  aa:=⟨⟨none,0,[]⟩,⟨none,0,[]⟩,0,false,0,⟨none,0,[]⟩,⟨none,0,[]⟩,⟨none,0,[]⟩,⟨none,0,[]⟩⟩
  wf D h x:=(slE (slE ao)).wf D h x.rounds∧(slE (slE ae)).wf D h x.ai∧ah x.round∧True∧ah x.seq∧(slE ae).wf D h x.target∧(slE ae).wf D h x.known∧(slE ae).wf D h x.waiting∧(slE ae).wf D h x.aj
  len _:=rfl
  one x u hu:=by simp only [List.mem_cons,List.not_mem_nil,or_false] at hu;rcases hu with rfl | rfl | rfl | rfl | rfl | rfl | rfl | rfl | rfl <;> rfl
  keep k h:=⟨(slE (slE ao)).keep k h.1,(slE (slE ae)).keep k h.2.1,h.2.2.1,h.2.2.2.1,h.2.2.2.2.1,(slE ae).keep k h.2.2.2.2.2.1,(slE ae).keep k h.2.2.2.2.2.2.1,(slE ae).keep k h.2.2.2.2.2.2.2.1,(slE ae).keep k h.2.2.2.2.2.2.2.2⟩
  mono k h:=⟨(slE (slE ao)).mono k h.1,(slE (slE ae)).mono k h.2.1,h.2.2.1,h.2.2.2.1,h.2.2.2.2.1,(slE ae).mono k h.2.2.2.2.2.1,(slE ae).mono k h.2.2.2.2.2.2.1,(slE ae).mono k h.2.2.2.2.2.2.2.1,(slE ae).mono k h.2.2.2.2.2.2.2.2⟩

structure Lg where
  m:Nat × aW
  l:Sl Rec
def lgE:Enc Lg where
  n:=2
  cells x:=[.pointer (some ⟨x.m.1,0,none⟩),.slice x.l.a x.l.xs.length x.l.c]
  aa:=⟨(0,ep.aa),⟨none,0,[]⟩⟩
  wf D h x:=(ptE ep 166).wf D h x.m∧(slE aV).wf D h x.l
  len _:=rfl
  one x u hu:=by simp only [List.mem_cons,List.not_mem_nil,or_false] at hu;rcases hu with rfl | rfl <;> rfl
  keep k h:=⟨(ptE ep 166).keep k h.1,(slE aV).keep k h.2⟩
  mono k h:=⟨(ptE ep 166).mono k h.1,(slE aV).mono k h.2⟩

def ax (B:Nat) (m:aW):List OF:=[blO B (ep.cells m) 166,rwO ae 3 0 m.target.a m.target.c m.target.xs,rwO ae 3 0 m.known.a m.known.c m.known.xs,rwO ae 3 0 m.waiting.a m.waiting.c m.waiting.xs,rwO ae 3 0 m.aj.a m.aj.c m.aj.xs,daO (slE (slE ao)) m.rounds,daO (slE (slE ae)) m.ai]
theorem aQ (B:Nat) (m:aW):fi (ax B m):=⟨nd,cy,cy,cy,cy,jW,jW,trivial⟩
def bV (m:aW):Prop:=ah m.round∧ah m.seq
theorem jT {F W:Nat→Prop} {w:World} {B:Nat} {m:aW} (hk:bV m) (D:Nat→Prop) (h:∀ f∈ax B m,f.p F W w) (h1:∀ k,In (ow (ax B m)) k→k < w.heap.size→D k) (h2:∀ k,k < w.heap.size→Fw F W k→D k):(ptE ep 166).wf D w.heap (B,m) :=
  have hb:Blk w.heap B (ep.cells m) 166:=h (blO B (ep.cells m) 166) (List.mem_of_getElem? (i:=0) rfl)
  ⟨hb,h1 B (.inl rfl) hb.lt,Enc.mono (slE (slE ao)) h2 (h (daO (slE (slE ao)) m.rounds) (List.mem_of_getElem? (i:=5) rfl)),Enc.mono (slE (slE ae)) h2 (h (daO (slE (slE ae)) m.ai) (List.mem_of_getElem? (i:=6) rfl)),hk.1,trivial,hk.2,jr (E:=ae) (h _ (List.mem_of_getElem? (i:=1) rfl)) (by first | decide | exact Nat.one_pos | exact Nat.succ_pos _) (fun k hk=>h1 k (cw (List.mem_of_getElem? (i:=1) rfl) hk)) h2,jr (E:=ae) (h _ (List.mem_of_getElem? (i:=2) rfl)) (by first | decide | exact Nat.one_pos | exact Nat.succ_pos _) (fun k hk=>h1 k (cw (List.mem_of_getElem? (i:=2) rfl) hk)) h2,jr (E:=ae) (h _ (List.mem_of_getElem? (i:=3) rfl)) (by first | decide | exact Nat.one_pos | exact Nat.succ_pos _) (fun k hk=>h1 k (cw (List.mem_of_getElem? (i:=3) rfl) hk)) h2,jr (E:=ae) (h _ (List.mem_of_getElem? (i:=4) rfl)) (by first | decide | exact Nat.one_pos | exact Nat.succ_pos _) (fun k hk=>h1 k (cw (List.mem_of_getElem? (i:=4) rfl) hk)) h2⟩
def l6 (q:Option (Nat × aW)):List OF:=match q with
  | none=>[]
  | some x=>ax x.1 x.2
theorem lU (q:Option (Nat × aW)):fi (l6 q):=match q with
  | none=>trivial
  | some x=>aQ x.1 x.2
def yr (q:Option (Nat × aW)):Prop:=match q with
  | none=>True
  | some x=>bV x.2
def lgF (B:Nat) (m:Lg):List OF:=[blO B (lgE.cells m) 129,rwO aV 24 0 m.l.a m.l.c m.l.xs,bnO (ax m.m.1 m.m.2)]
theorem lV (B:Nat) (m:Lg):fi (lgF B m):=⟨nd,cy,(aD (aQ _ _)),trivial⟩
def lgK (m:Lg):Prop:=bV m.m.2
theorem jt {F W:Nat→Prop} {w:World} {B:Nat} {m:Lg} (hk:lgK m) (D:Nat→Prop) (h:∀ f∈lgF B m,f.p F W w) (h1:∀ k,In (ow (lgF B m)) k→k < w.heap.size→D k) (h2:∀ k,k < w.heap.size→Fw F W k→D k):(ptE lgE 129).wf D w.heap (B,m) :=
  have hb:Blk w.heap B (lgE.cells m) 129:=h (blO B (lgE.cells m) 129) (List.mem_of_getElem? (i:=0) rfl)
  ⟨hb,h1 B (.inl rfl) hb.lt,jT hk D (h (bnO (ax m.m.1 m.m.2)) (List.mem_of_getElem? (i:=2) rfl)).2 (fun k hk=>h1 k (cw (o:=In (ow (ax m.m.1 m.m.2))) (List.mem_of_getElem? (i:=2) rfl) hk)) h2,jr (E:=aV) (h _ (List.mem_of_getElem? (i:=1) rfl)) (by first | decide | exact Nat.one_pos | exact Nat.succ_pos _) (fun k hk=>h1 k (cw (List.mem_of_getElem? (i:=1) rfl) hk)) h2⟩
def lgQ (q:Option (Nat × Lg)):List OF:=match q with
  | none=>[]
  | some x=>lgF x.1 x.2
theorem kv (q:Option (Nat × Lg)):fi (lgQ q):=match q with
  | none=>trivial
  | some x=>lV x.1 x.2
def wu (q:Option (Nat × Lg)):Prop:=match q with
  | none=>True
  | some x=>lgK x.2
end Go.Proofs.Ytobggnpnochnnaa.V
/- What every claim of this seat needs: the conditions of a row behind a call that writes nothing old;a list of whole numbers as an argument of my logic. -/
namespace Go.Proofs.Ytobggnpnochnnaa
open Go.ChangeShapes Go.WideShapes Go.ChangeAt Go.RowKit
section
variable {H:Type} {enc:TypeId × Value→H} {P:Program}
theorem mN {f : Func} {s : ChangeSpec} {apart fresh handsOn again : Bool} {W W' : World} {args : Array Value} {v : Value} {ds gs : List (DataW H)} {before pa pv : List MemPlace}
    (hW:DataW.Whole enc P f.params.toList s.vars apart W args.toList ds gs before)
    (hres:∀ (b:Nat) (sp:Nat→Bool) (hd:Bool),DataW.TrodAll enc P W' b sp hd f.resultTypes.toList (v.resultList f.resultTypes.size) (s.fn H (ds++gs)).results [])
    (hargs:∀ sp:Nat→Bool,(∀ p∈before,sp p.block=true)→DataW.TrodAll enc P W' 0 sp true f.params.toList args.toList (s.fn H (ds++gs)).args pa)
    (hvars:∀ sp:Nat→Bool,(∀ p∈before,sp p.block=true)→DataW.TrodVars enc P W' sp s.vars (s.fn H (ds++gs)).vars pv)
    (hps:before=pa++pv) (hb:Below W.heap.size W W')
    (hok:∀ (j:Nat) (t:TypeId) (r:Value),f.resultTypes[j]?=some t→(v.resultList f.resultTypes.size)[j]?=some r→Value.okWide P W' .any 0 t r) :
    s.post enc P f apart fresh handsOn again W args v W':=by
  have hlt:∀ p∈before,p.block < W.heap.size:=fun p hp=>hW.lt p hp;have hold:∀ p∈before,(fun b=>decide (b < W.heap.size)) p.block=true:=fun p hp=>by simpa using hlt p hp
  refine ⟨ds,gs,before,[],pa,pv,hW,hres _ _ _,hargs _ hold,hvars _ hold,World.keptBut_mono (fun p hp=>⟨hp,?_⟩) (hb.frame (· ∈ before)),fun _=>?_⟩
  · rw [hps,List.mem_append] at hp;exact Or.inr hp
  · obtain ⟨_, _, _, _, _, hz, hn⟩ := hW;refine ⟨hok, _, _, ([] ++ pa) ++ pv, ⟨[] ++ pa, pv, trodAll_append (hargs _ (fun _ _ => rfl)) (hres _ _ _), hvars _ (fun _ _ => rfl), rfl, ?_, ?_⟩, ?_⟩
    · intro b off hp;have hin : MemPlace.cell b off ∈ before := by rw [hps]; simpa using hp
      rw [hb.frozen (hlt _ hin)];exact hz b off hin
    · intro ha;have := hn ha;rw [hps] at this
      simpa using this
    · intro p hp _;rw [hps]
      simpa using hp
theorem mL {W W':World} (hb:Below W.heap.size W W') {p:MemPlace} (hp:p.block < W.heap.size):W.sameAt W' p:=by
  cases p with
  | cell b off=>exact hb.cell (p:=⟨b,off,none⟩) hp
  | map b=>exact hb.block b hp
theorem mD {P : Program} (hl : laidOutB P = true) {W W' : World} (hb : Below W.heap.size W W') {sp : Nat → Bool} : ∀ {ts : List TypeId} {vs : List Value} {ds : List (DataW H)} {ps : List MemPlace}, (∀ t ∈ ts, P.readableRec t = true ∧ t < P.types.size) →
    DataW.TrodAll enc P W 0 (fun _=>true) true ts vs ds ps→(∀ p∈ps,p.block < W.heap.size)→(∀ p∈ps,sp p.block=true)→DataW.TrodAll enc P W' 0 sp true ts vs ds ps
  | [],[],[],_,_,h,_,_=>h
  | _ :: _, _ :: _, _ :: _, _, hT, ⟨p, q, h1, h2, e⟩, hlt, hs => ⟨p, q, WideElems.Trod_stays hl (hT _ (List.mem_cons.2 (Or.inl rfl))).1 (hT _ (List.mem_cons.2 (Or.inl rfl))).2 h1 (fun x hx => mL hb (hlt x (by rw [e]; exact List.mem_append_left _ hx))) (fun x hx => hs x (by rw [e]; exact List.mem_append_left _ hx)),
      mD hl hb (fun t ht=>hT t (List.mem_cons.2 (Or.inr ht))) h2 (fun x hx=>hlt x (by rw [e];exact List.mem_append_right _ hx)) (fun x hx=>hs x (by rw [e];exact List.mem_append_right _ hx)),e⟩
theorem nX {W : World} {r : Reach} {b0 : Nat} {t e : TypeId} {v : Value} {d : DataW H} {ps : List MemPlace} (ht : P.underlying t = some (.slice e)) (he : P.underlying e = some (.int .i64)) (hc : P.cellsOf e = 1)
    (hval:Value.okWide P W r b0 t v) (h:DataW.Trod enc P W 0 (fun _=>true) true t v d ps):∃ s:V.Sl Int,v = .slice s.a s.xs.length s.c∧(V.slE V.ae).wf (V.Fr V.No []) W.heap s:=by
  obtain ⟨a0,len,cap,rfl⟩:=okWide_slice ht hval;obtain ⟨fuel,hf⟩:=h
  rcases open_ints ht he hc hf with ⟨hcs,_⟩ | ⟨a,len',cap',zs,hcs,_,hle,hmax,hall,_,df,hwf⟩
  · simp [Value.cells] at hcs;obtain ⟨rfl,rfl,rfl⟩:=hcs;exact ⟨⟨none,0,[]⟩,rfl,V.cg⟩
  · simp [Value.cells] at hcs;obtain ⟨rfl, rfl, rfl⟩ := hcs;simp only [if_true] at hall;have hlen : (zs.take len).length = len := by rw [List.length_take]; omega
    refine ⟨⟨some a,cap,zs.take len⟩,by rw [hlen],⟨by rw [hlen];omega,fun h0=>?_,fun i hi j u hu=>?_,fun i hi=>?_⟩,by rw [hlen];exact hle,fun h=>by cases h⟩
    · rw [hlen] at h0;obtain ⟨b,off,rfl,hc2⟩:=ints_at df (by omega);exact ⟨rfl,⟨fun h=>h,fun h=>h⟩,World.block_lt_of_cell? W _ (hc2 0 (by omega))⟩
    · rw [hlen] at hi;obtain ⟨b,off,rfl,hc2⟩:=ints_at df (show 0 < zs.length by omega);have hg:(zs.take len).getD i 0=zs.getD i 0:=by
        simp only [List.getD_eq_getElem?_getD];rw [List.getElem?_take_of_lt hi]
      have e0:V.ae.aa=0:=rfl;rw [e0,hg] at hu
      rcases j with _ | j
      · have : u = .int .i64 (zs.getD i 0) := by simpa [V.ae] using hu.symm
        subst this;show V.df W.heap b (off+i * 1+0)=_;rw [show off+i * 1+0=off+i from by omega];exact hc2 i (by omega)
      · simp [V.ae] at hu
    · rw [hlen] at hi;have e0:V.ae.aa=0:=rfl;have hg:(zs.take len).getD i 0=zs.getD i 0:=by
        simp only [List.getD_eq_getElem?_getD];rw [List.getElem?_take_of_lt hi]
      rw [e0,hg];have hin:zs.getD i 0∈zs:=by
        rw [List.getD_eq_getElem?_getD,List.getElem?_eq_getElem (by omega)];exact List.getElem_mem _
      exact bounds_i64 (hwf _ hin)
end
theorem own:ownKnob Try.prog.godebug=none:=by kernel_rfl
theorem uB:laidOutB Try.prog=true:=by kernel_rfl
theorem vp {w w':World} (h:V.Tr [] w [] w'):Below w.heap.size w w':=V.Ch.below (h.ch.mono fun _ h=>h)
theorem tI {P:Program} {f:FuncId} {vs:Array Value} {w:World} (h:Calls P f vs w fun e w'=>e = .returned (.bool (decide True))∧V.Tr [] w [] w'):Calls P f vs w fun e w'=>e = .returned (.bool true)∧Below w.heap.size w w' :=
  h.mono fun _ _ ⟨h1,h2⟩=>⟨by rw [h1];rfl,vp h2⟩
end Go.Proofs.Ytobggnpnochnnaa
/- Arguments of any readable type,opened into my logic: cells that a claim's reading trods are cells of a plain value that is well formed. -/
namespace Go.Proofs.Ytobggnpnochnnaa
open Go.ChangeShapes Go.WideShapes Go.ChangeAt Go.RowKit Go.Deep
section
variable {H:Type} {enc:TypeId × Value→H} {P:Program} {W:World}
def At (enc:TypeId × Value→H) (P:Program) (W:World) (t:TypeId) (φ:List Value→Prop):Prop :=
  ∀ fuel cs x,DataW.trod enc P W 0 (fun _=>true) true fuel t cs=some x→φ cs
theorem sd {t:TypeId} (ht:P.underlying t=some (.int .i64)):At enc P W t fun cs=>∃ z,cs=[.int .i64 z]∧V.ah z:=fun _ _ _ h=>by
  obtain ⟨z,h1,_,h2⟩:=DataW.trod_int ht h;exact ⟨z,h1,bounds_i64 h2⟩
theorem open_int {t:TypeId} {r:Reach} {b0:Nat} {v:Value} {d:DataW H} {ps:List MemPlace} (ht:P.underlying t=some (.int .i64)) (hval:Value.okWide P W r b0 t v) (h:DataW.Trod enc P W 0 (fun _=>true) true t v d ps):∃ z:Int,v = .int .i64 z∧V.ah z:=by
  obtain ⟨z,rfl⟩:=okWide_int ht hval;obtain ⟨fuel,hf⟩:=h;obtain ⟨y,hy,hw⟩:=sd ht _ _ _ hf;simp [Value.cells] at hy;exact ⟨y,by rw [hy],hw⟩
end
end Go.Proofs.Ytobggnpnochnnaa
/- Records,controllers and plans as arguments. -/
namespace Go.Proofs.Ytobggnpnochnnaa
open Go.ChangeShapes Go.WideShapes Go.ChangeAt Go.RowKit Go.Deep
end Go.Proofs.Ytobggnpnochnnaa
namespace Go.Proofs.Ytobggnpnochnnaa.V
open Go.RowKit
structure Brn where
  ay:Bool
  rounds:Sl (Sl Chg)
  ai:Sl (Sl Int)
  round:Int
  back:Bool
  seq:Int
  target:Sl Int
  known:Sl Int
  waiting:Sl Int
def brE:Enc Brn where
  n:=9
  cells x:=[.bool (decide (x.ay=true)),.slice x.rounds.a x.rounds.xs.length x.rounds.c,.slice x.ai.a x.ai.xs.length x.ai.c,.int .i64 x.round,.bool (decide (x.back=true)),.int .i64 x.seq,.slice x.target.a x.target.xs.length x.target.c,.slice x.known.a x.known.xs.length x.known.c,.slice x.waiting.a x.waiting.xs.length x.waiting.c]
  aa:=⟨false,⟨none,0,[]⟩,⟨none,0,[]⟩,0,false,0,⟨none,0,[]⟩,⟨none,0,[]⟩,⟨none,0,[]⟩⟩
  wf D h x:=True∧(slE (slE ao)).wf D h x.rounds∧(slE (slE ae)).wf D h x.ai∧ah x.round∧True∧ah x.seq∧(slE ae).wf D h x.target∧(slE ae).wf D h x.known∧(slE ae).wf D h x.waiting
  len _:=rfl
  one x u hu:=by simp only [List.mem_cons,List.not_mem_nil,or_false] at hu;rcases hu with rfl | rfl | rfl | rfl | rfl | rfl | rfl | rfl | rfl <;> rfl
  keep k h:=⟨h.1,(slE (slE ao)).keep k h.2.1,(slE (slE ae)).keep k h.2.2.1,h.2.2.2.1,h.2.2.2.2.1,h.2.2.2.2.2.1,(slE ae).keep k h.2.2.2.2.2.2.1,(slE ae).keep k h.2.2.2.2.2.2.2.1,(slE ae).keep k h.2.2.2.2.2.2.2.2⟩
  mono k h:=⟨h.1,(slE (slE ao)).mono k h.2.1,(slE (slE ae)).mono k h.2.2.1,h.2.2.2.1,h.2.2.2.2.1,h.2.2.2.2.2.1,(slE ae).mono k h.2.2.2.2.2.2.1,(slE ae).mono k h.2.2.2.2.2.2.2.1,(slE ae).mono k h.2.2.2.2.2.2.2.2⟩

structure Msg where
  fP:Bool
  inc:Int
  seq:Int
def aC:Enc Msg where
  n:=3
  cells x:=[.bool (decide (x.fP=true)),.int .i64 x.inc,.int .i64 x.seq]
  aa:=⟨false,0,0⟩
  wf D h x:=True∧ah x.inc∧ah x.seq
  len _:=rfl
  one x u hu:=by simp only [List.mem_cons,List.not_mem_nil,or_false] at hu;rcases hu with rfl | rfl | rfl <;> rfl
  keep k h:=⟨h.1,h.2.1,h.2.2⟩
  mono k h:=⟨h.1,h.2.1,h.2.2⟩

def brF (B:Nat) (m:Brn):List OF:=[blO B (brE.cells m) 89,daO (slE (slE ao)) m.rounds,daO (slE (slE ae)) m.ai,daO (slE ae) m.target,daO (slE ae) m.known,daO (slE ae) m.waiting]
theorem dM (B:Nat) (m:Brn):fi (brF B m):=⟨nd,jW,jW,jW,jW,jW,trivial⟩
def brK (m:Brn):Prop:=ah m.round∧ah m.seq
theorem zn {F W:Nat→Prop} {w:World} {B:Nat} {m:Brn} (hk:brK m) (D:Nat→Prop) (h:∀ f∈brF B m,f.p F W w) (h1:∀ k,In (ow (brF B m)) k→k < w.heap.size→D k) (h2:∀ k,k < w.heap.size→Fw F W k→D k):(ptE brE 89).wf D w.heap (B,m) :=
  have hb:Blk w.heap B (brE.cells m) 89:=h (blO B (brE.cells m) 89) (List.mem_of_getElem? (i:=0) rfl)
  ⟨hb,h1 B (.inl rfl) hb.lt,trivial,Enc.mono (slE (slE ao)) h2 (h (daO (slE (slE ao)) m.rounds) (List.mem_of_getElem? (i:=1) rfl)),Enc.mono (slE (slE ae)) h2 (h (daO (slE (slE ae)) m.ai) (List.mem_of_getElem? (i:=2) rfl)),hk.1,trivial,hk.2,Enc.mono (slE ae) h2 (h (daO (slE ae) m.target) (List.mem_of_getElem? (i:=3) rfl)),Enc.mono (slE ae) h2 (h (daO (slE ae) m.known) (List.mem_of_getElem? (i:=4) rfl)),Enc.mono (slE ae) h2 (h (daO (slE ae) m.waiting) (List.mem_of_getElem? (i:=5) rfl))⟩
def brQ (q:Option (Nat × Brn)):List OF:=match q with
  | none=>[]
  | some x=>brF x.1 x.2
theorem yq (q:Option (Nat × Brn)):fi (brQ q):=match q with
  | none=>trivial
  | some x=>dM x.1 x.2
def brQK (q:Option (Nat × Brn)):Prop:=match q with
  | none=>True
  | some x=>brK x.2
def lsO {α:Type} (g:α→OF) (xs:List α):OF:=bnO (xs.map g)
theorem ny {α : Type} {g : α → OF} (h : ∀ x, (g x).Mo) : ∀ xs : List α, fi (xs.map g)
  | []=>trivial
  | x::r=>⟨h x,ny h r⟩
theorem zx {α:Type} {g:α→OF} (h:∀ x,(g x).Mo) (xs:List α):(lsO g xs).Mo:=aD (ny h xs)
section
variable {F:Nat→Prop} {w0 w w':World} {m0:List BS} {n:Nat} {L L':List (Nat × Value)} {rs:List RF} {ks fs os os':List OF} {a a':Act} {α:Type} {g:α→OF} {xs pre post:List α} {x:α}
theorem St.alt (S:St F w0 m0 n L rs os a w) (hi:∀ k,In (ow os') k↔In (ow os) k) (hs:Sep (ow os')) (hp:∀ f∈os',f.p F (In (ow os)) w):St F w0 m0 n L rs os' a w:=by
  have T:Tr (ow os) w (ow os') w:=⟨Ch.refl w,fun k hk=>.inl ((hi k).1 hk),⟨fun k hk=>S.M.lt k ((hi k).1 hk),hs⟩⟩;exact ⟨S.s,S.m.go T fun f hf=>f.st T.mv (fun _ _ _=>rfl) (hp f hf)⟩
theorem nV (f:OF):ow [f]=[f.o]:=rfl
theorem rB {o:BS} {r:List BS} {k:Nat}:In (o::r) k↔o k∨In r k:=Iff.rfl
theorem uG {k:Nat}:In [] k↔False:=Iff.rfl
theorem Ao (fs:List OF) (k:Nat):(bnO fs).o k↔In (ow fs) k:=Iff.rfl
theorem St.flat {A B:List OF} (S:St F w0 m0 n L rs (ks++[bnO A]++fs++[bnO B]) a w):St F w0 m0 n L rs (ks++[bnO (A++fs++B)]) a w:=by
  have hM:=S.M;have hs:=hM.sep;simp only [bJ,nV] at hs;obtain ⟨⟨⟨s1,s2,s3⟩,s4,s5⟩,s6,s7⟩:((Sep (ow ks)∧Sep [In (ow A)]∧_)∧Sep (ow fs)∧_)∧Sep [In (ow B)]∧_:=by
    have h1:=cx.1 hs;have h2:=cx.1 h1.1;have h3:=cx.1 h2.1;exact ⟨⟨h3,h2.2⟩,h1.2⟩
  have hA:=S.m.o (bnO A) (by simp);have hB:=S.m.o (bnO B) (by simp);have hin:∀ k,In (ow (ks++[bnO (A++fs++B)])) k↔In (ow (ks++[bnO A]++fs++[bnO B])) k:=fun k=>by
    simp only [bJ,nV,aK,rB,uG,Ao,or_false,or_assoc]
  have hsep:Sep (ow (A++fs++B)):=by
    rw [bJ,bJ];refine cx.2 ⟨cx.2 ⟨hA.1,s4,fun k hk hm=>s5 k (aK.2 (.inr (.inl hk))) hm⟩,hB.1,fun k hk hm=>s7 k ?_ (.inl hm)⟩
    rcases aK.1 hk with h | h
    · exact aK.2 (.inl (aK.2 (.inr (.inl h))))
    · exact aK.2 (.inr h)
  refine S.alt hin ?_ fun f hf=>?_
  · rw [bJ];refine cx.2 ⟨s1, ⟨fun k _ h => h, trivial⟩, fun k hk hm => ?_⟩
    rcases hm with hm | hm
    · have hm : In (ow (A ++ fs ++ B)) k := hm;rw [bJ, bJ] at hm
      rcases aK.1 hm with hm | hm
      · rcases aK.1 hm with hm | hm
        · exact s3 k hk (.inl hm)
        · exact s5 k (aK.2 (.inl hk)) hm
      · exact s7 k (aK.2 (.inl (aK.2 (.inl hk)))) (.inl hm)
    · exact hm
  · rcases List.mem_append.1 hf with h | h
    · exact S.m.o f (by simp [h])
    · obtain rfl := List.mem_singleton.1 h;refine ⟨hsep, fun q hq => ?_⟩
      rcases List.mem_append.1 hq with hq | hq
      · rcases List.mem_append.1 hq with hq | hq
        · exact hA.2 q hq
        · exact S.m.o q (by simp [hq])
      · exact hB.2 q hq
theorem St.xV {A B:List OF} (S:St F w0 m0 n L rs (ks++[bnO (A++fs++B)]) a w):St F w0 m0 n L rs (ks++[bnO A]++fs++[bnO B]) a w:=by
  have hM:=S.M;have hs:=hM.sep;rw [bJ] at hs;obtain ⟨s1,s2,s3⟩:=cx.1 hs;have hA:=S.m.o (bnO (A++fs++B)) (by simp);have hsA:=hA.1;rw [bJ,bJ] at hsA;obtain ⟨q1,q2,q3⟩:=cx.1 hsA;obtain ⟨p1,p2,p3⟩:=cx.1 q1;have hk0:∀ k,In (ow ks) k→¬ In (ow (A++fs++B)) k:=fun k hk h=>s3 k hk (.inl h);have hin:∀ k,In (ow (ks++[bnO A]++fs++[bnO B])) k↔In (ow (ks++[bnO (A++fs++B)])) k:=fun k=>by
    simp only [bJ,nV,aK,rB,uG,Ao,or_false,or_assoc]
  refine S.alt hin ?_ fun f hf=>?_
  · simp only [bJ, nV];simp only [bJ] at hk0;refine cx.2 ⟨cx.2 ⟨cx.2 ⟨s1, ⟨fun k _ h => h, trivial⟩, fun k hk hm => hm.elim (fun h => hk0 k hk (aK.2 (.inl (aK.2 (.inl h))))) id⟩, p2, fun k hk hm => ?_⟩, ⟨fun k _ h => h, trivial⟩, fun k hk hm => ?_⟩
    · rcases aK.1 hk with h | h
      · exact hk0 k h (aK.2 (.inl (aK.2 (.inr hm))))
      · exact h.elim (fun h=>p3 k h hm) id
    · refine hm.elim (fun hm => ?_) id
      rcases aK.1 hk with h | h
      · rcases aK.1 h with h | h
        · exact hk0 k h (aK.2 (.inr hm))
        · exact h.elim (fun h=>q3 k (aK.2 (.inl h)) hm) id
      · exact q3 k (aK.2 (.inr h)) hm
  · simp only [List.mem_append, List.mem_singleton] at hf
    rcases hf with ((h | rfl) | h) | rfl
    · exact S.m.o f (by simp [h])
    · exact ⟨p1,fun q hq=>hA.2 q (by simp [hq])⟩
    · exact hA.2 f (by simp [h])
    · exact ⟨q2,fun q hq=>hA.2 q (by simp [hq])⟩
theorem St.lat (S:St F w0 m0 n L rs (ks++[lsO g (pre++x::post)]) a w):St F w0 m0 n L rs (ks++[lsO g pre,g x,lsO g post]) a w:=by
  have h:St F w0 m0 n L rs (ks++[bnO (pre.map g++[g x]++post.map g)]) a w:=by
    have e:(pre++x::post).map g=pre.map g++[g x]++post.map g:=by simp
    rw [← e];exact S
  have:=h.xV
  simpa [lsO] using this
theorem St.zz (S:St F w0 m0 n L rs (ks++[lsO g pre,g x,lsO g post]) a w):St F w0 m0 n L rs (ks++[lsO g (pre++x::post)]) a w:=by
  have h:=St.flat (ks:=ks) (A:=pre.map g) (fs:=[g x]) (B:=post.map g) (by simpa [lsO] using S);have e:(pre++x::post).map g=pre.map g++[g x]++post.map g:=by simp
  rw [← e] at h;exact h
theorem St.l0 (S:St F w0 m0 n L rs os a w) (g:α→OF):St F w0 m0 n L rs (os++[lsO g []]) a w:=by
  refine S.alt (fun k=>?_) ?_ fun f hf=>?_
  · rw [bJ];exact ⟨fun h=>(aK.1 h).elim id fun h=>h.elim False.elim False.elim,fun h=>aK.2 (.inl h)⟩
  · rw [bJ];exact cx.2 ⟨S.M.sep,⟨fun k h=>h.elim,trivial⟩,fun k _ h=>h.elim id id⟩
  · rcases List.mem_append.1 hf with h | h
    · exact S.m.o f h
    · obtain rfl:=List.mem_singleton.1 h;exact ⟨trivial,fun q hq=>by cases hq⟩
theorem St.zA (S:St F w0 m0 n L rs (ks++[lsO g xs,g x]) a w):St F w0 m0 n L rs (ks++[lsO g (xs++[x])]) a w:=by
  have:=S.l0 g;rw [List.append_assoc] at this;exact St.zz (ks:=ks) (pre:=xs) (post:=[]) this
end
def prE {α:Type} (E:Enc α):Enc (Nat × α) where
  n:=1
  cells x:=[.pointer (some ⟨x.1,0,none⟩)]
  aa:=(0,E.aa)
  wf _ _ _:=True
  len _:=rfl
  one x u hu:=by simp at hu;subst hu;rfl
  keep _ _:=trivial
  mono _ _:=trivial
theorem sH {β:Type} {l:List β} {i:Nat} {d:β} (h:i < l.length):l.getD i d∈l:=by
  rw [List.getD_eq_getElem?_getD,List.getElem?_eq_getElem h];exact List.getElem_mem h
theorem zu {α:Type} {E:Enc α} {t:TypeId} {D:Nat→Prop} {h:Array Obj} {s:Sl (Nat × α)} (H:(slE (prE E)).wf D h s) (A:∀ p∈s.xs,(ptE E t).wf D h p):(slE (ptE E t)).wf D h s :=
  ⟨⟨H.1.len,H.1.ad,H.1.cell,fun i hi=>A _ (sH (d:=(0,E.aa)) hi)⟩,H.2⟩
theorem jA {α:Type} {E:Enc α} {D:Nat→Prop} {h:Array Obj} {s:Sl (Nat × α)} (H:(slE (prE E)).wf D h s) (ys:List (Nat × α)) (he:ys.map (·.1)=s.xs.map (·.1)):(slE (prE E)).wf D h ⟨s.a,s.c,ys⟩:=by
  have hl:ys.length=s.xs.length:=by have:=congrArg List.length he;simpa using this
  refine ⟨⟨by rw [hl];exact H.1.len,fun h=>H.1.ad (by rw [← hl];exact h),fun i hi j u hj=>?_,fun _ _=>trivial⟩,by show ys.length≤s.c;rw [hl];exact H.2.1,H.2.2⟩;have hi2:i < s.xs.length:=by rw [← hl];exact hi
  have e:(ys.getD i (prE E).aa).1=(s.xs.getD i (prE E).aa).1:=by
    rw [List.getD_eq_getElem?_getD,List.getD_eq_getElem?_getD,List.getElem?_eq_getElem hi,List.getElem?_eq_getElem hi2];have h1:(ys.map (·.1))[i]?=(s.xs.map (·.1))[i]?:=by rw [he]
    rw [List.getElem?_map,List.getElem?_map,List.getElem?_eq_getElem hi,List.getElem?_eq_getElem hi2] at h1;exact Option.some.inj h1
  refine H.1.cell i hi2 j u ?_;have:(prE E).cells (ys.getD i (prE E).aa)=(prE E).cells (s.xs.getD i (prE E).aa):=by
    show [Value.pointer (some ⟨_,0,none⟩)]=[Value.pointer (some ⟨_,0,none⟩)];rw [e]
  rw [← this];exact hj
theorem iW {α:Type} {xs:List (Nat × α)} {n:Nat} (d:Nat × α) (h:n < xs.length):∃ pre b s post,xs=pre++(b,s)::post∧xs.getD n d=(b,s)∧(∀ y,xs.set n y=pre++y::post)∧(b,s)∈xs:=by
  refine ⟨xs.take n,(xs[n]).1,(xs[n]).2,xs.drop (n+1),?_,?_,fun y=>?_,List.getElem_mem h⟩
  · rw [← List.drop_eq_getElem_cons h,List.take_append_drop]
  · rw [List.getD_eq_getElem?_getD,List.getElem?_eq_getElem h];rfl
  · exact List.set_eq_take_append_cons_drop.trans (if_pos h)
theorem ia {α:Type} {xs:List (Nat × α)} {n b:Nat} {s s':α} {d:Nat × α} (h:xs.getD n d=(b,s)):(xs.set n (b,s')).map (·.1)=xs.map (·.1):=by
  apply List.ext_getElem?
  intro i;rw [List.getElem?_map,List.getElem?_map,List.getElem?_set]
  split
  · rename_i hi;subst hi
    split
    · rename_i hl;rw [List.getD_eq_getElem?_getD,List.getElem?_eq_getElem hl] at h;rw [List.getElem?_eq_getElem hl];have h:xs[n]=(b,s):=h;rw [h];rfl
    · rename_i hl;rw [List.getElem?_eq_none bo]
  · rfl
theorem ir {α:Type} {xs:List (Nat × α)} {n b:Nat} {s':α} {p:α→Prop} (h:∀ x∈xs,p x.2) (h':p s'):∀ x∈xs.set n (b,s'),p x.2:=fun x hx =>
  (List.mem_or_eq_of_mem_set hx).elim (h x) fun e=>e▸h'
section
variable {F:Nat→Prop} {w0 w w':World} {m0:List BS} {n:Nat} {L L':List (Nat × Value)} {rs:List RF} {ks fs os os':List OF} {a a':Act} {α:Type} {g:α→OF} {xs pre post:List α} {x y:α} {i:Nat}
theorem St.sy (S:St F w0 m0 n L rs (ks++[lsO g xs]) a w) (h:xs=pre++x::post):St F w0 m0 n L rs (ks++[lsO g pre,g x,lsO g post]) a w:=St.lat (h▸S)
theorem St.l8 (S:St F w0 m0 n L rs (ks++[lsO g pre,g y,lsO g post]) a w) (h:∀ y,xs.set i y=pre++y::post):St F w0 m0 n L rs (ks++[lsO g (xs.set i y)]) a w:=by rw [h];exact S.zz
end
section
variable {P:Program} {ops:Array Oper} {F:Nat→Prop} {w0:World} {m0:List BS} {n:Nat} {L:List (Nat × Value)} {fs:List RF} {os:List OF} {ty:TypeId} {pos:String} {af:Array Edge} {x y:Operand}
theorem stkp {t e : TypeId} {b f : Nat} {cs vs : List Value} (i : Nat) (cs' : List Value) (hx : evS L x = some (.pointer (some ⟨b, f, none⟩))) (hy : evS L y = some (.agg vs.toArray)) (hb : nth os i = some (blO b cs e)) (hcs : cs.take f ++ vs ++ cs.drop (f + vs.length) = cs' := by rfl) (hl0 : Nat.ble (f + vs.length) cs.length = true := by rfl) (h1 : vs.all (·.oneCell') = true := by rfl) (hz : (P.info? t).map (·.size) = some vs.length := by kernel_rfl) :
    One P ops (St F w0 m0 n L fs os) [one b] ⟨none,.store t x y,ty,pos,af,none⟩ (St F w0 m0 n L fs (os.set i (blO b cs' e))):=fun K Q a w S k=>by
  have hl:f+vs.length≤cs.length:=Nat.le_of_ble_eq_true hl0;subst hcs;have hB:w.heap[b]?=some (.cells cs.toArray e (0,0)):=S.k i hb;have hst:=run_storeCells_at P b f e vs 0 cs.toArray w hB (by simpa using hl) (fun v hv=>List.all_eq_true.1 h1 v hv);simp only [Nat.add_zero] at hst;have hrun:(execOp a.eval ⟨none,.store t x y,ty,pos,af,none⟩).run P w = .ok .skip (w.setRow b (cs.take f++vs++cs.drop (f+vs.length)).toArray):=by
    generalize (cs.take f++vs++cs.drop (f+vs.length)).toArray=cur' at hst
    cases hi:P.info? t with
    | none=>simp [hi] at hz
    | some ie =>
      have h6:ie.size=vs.length:=by simpa [hi] using hz
      simp [execOp,Instr.storeAt,S.e hx,S.e hy,Instr.sureAddr,storeVar,Value.cells,sizeOf,typeInfo,hi,h6,hst]
  unfold Core;rw [if_pos (by simp [Region.wanted])];exact .inl (jd hrun (k _ _ (S.k1s i hb (blO b (cs.take f++vs++cs.drop (f+vs.length)) e) rfl S.s (iZ w b _) (lE _ hB)) (iZ w b _)))
end
end Go.Proofs.Ytobggnpnochnnaa.V
