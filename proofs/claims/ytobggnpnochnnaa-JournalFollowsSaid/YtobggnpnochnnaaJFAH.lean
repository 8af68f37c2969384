/- Texts of this claim in one: part H. -/
import Derived.Test.YtobggnpnochnnaaJFAG
import Derived.Test.YtobggnpnochnnaaJFAC
import Derived.Test.YtobggnpnochnnaaJFAE
import Derived.Test.YtobggnpnochnnaaJFAF
import Derived.Test.YtobggnpnochnnaaJFAB
set_option linter.unusedVariables false
set_option linter.unusedSimpArgs false
set_option maxHeartbeats 4000000
set_option maxRecDepth 20000
namespace Go.Proofs.Ytobggnpnochnnaa.V
open Go.RowKit
section
variable {n:Nat} {R:List (List Chg)} {S:List (List Int)} {r:ck} {e:Evt}
theorem yD {c:Ctl} {st:List PS} (h:Dv n R S c st) {d:Nat} {s:PS} (hd:d < n→dy c.seq (c.known.getD d 0) (c.target.getD d 0) ((d:Int)∈c.waiting) ((loV S c).getD d 0) ((hiV R S c).getD d 0) s):Dv n R S c (st.set d s) :=
  ⟨(List.length_set ..).trans h.sl,fun k hk=>by
    by_cases e:d=k
    · subst e;rw [bg (by have:=h.sl;omega)];exact hd hk
    · rw [de e];exact h.dv k hk⟩
theorem jg (h:gq n R S r) {d:Nat} {s:PS} (hf:d < n→dy r.c.seq (r.c.known.getD d 0) (r.c.target.getD d 0) ((d:Int)∈r.c.waiting) ((loV S r.c).getD d 0) ((hiV R S r.c).getD d 0) s):gq n R S (cp {r with st:=r.st.set d s}):=by
  rw [dp (r:={r with st:=r.st.set d s}) h.sn];exact ⟨⟨yD h.toDv hf,h.ct,h.tg,h.sn⟩,h.fin⟩
theorem lZ {l:List Int} {d x:Int}:(x∈l.filter fun y=>!(y == d))↔x∈l∧x≠d:=by simp
theorem ou {c:Ctl} {st:List PS} (h:InvA n R S c st) {d:Int} (h0:0≤d) {s:PS} (hs:d.toNat < n→dy c.seq (c.known.getD d.toNat 0) (c.target.getD d.toNat 0) False ((loV S c).getD d.toNat 0) ((hiV R S c).getD d.toNat 0) s):InvA n R S {c with waiting:=c.waiting.filter fun y=>!(y == d)} (st.set d.toNat s) :=
  ⟨⟨(List.length_set ..).trans h.sl,fun k hk=>by
    show dy c.seq (c.known.getD k 0) (c.target.getD k 0) ((k:Int)∈c.waiting.filter _) ((loV S c).getD k 0) ((hiV R S c).getD k 0) _
    by_cases e:d.toNat=k
    · subst e;rw [bg (by have:=h.sl;omega)];exact (hs hk).iff ⟨False.elim,fun q=>(lZ.1 q).2 bo⟩
    · rw [de e]
      exact (h.dv k hk).iff ⟨fun q=>lZ.2 ⟨q,by omega⟩,fun q=>(lZ.1 q).1⟩⟩,⟨h.ct.tg,h.ct.kn,h.ct.wt.uN _,h.ct.rd,h.ct.sq⟩,h.tg,h.sn⟩
theorem oY {st:List PS} {d:Nat}:st.set d (st.getD d psD)=st:=by
  apply List.ext_getElem?
  intro i;rw [List.getElem?_set]
  by_cases h:d=i
  · subst h
    by_cases hl:d < st.length
    · rw [if_pos rfl,if_pos hl,List.getD_eq_getElem?_getD,List.getElem?_eq_getElem hl];rfl
    · rw [if_pos rfl,if_neg hl,List.getElem?_eq_none bo]
  · rw [if_neg h]
theorem ry (h : gq n R S r) {d : Int} (h0 : 0 ≤ d) (hd : d < n) (hm : 0 < (r.st.getD d.toNat psD).msg.length) (h1 : ¬ (bZ r d).fP = true) (h2 : (bZ r d).inc = r.c.known.getD d.toNat 0) (h3 : (bZ r d).seq = r.c.seq) :
    InvA n R S {r.c with waiting:=r.c.waiting.filter fun y=>!(y == d)} (gB r d fun s=>{s with msg:=s.msg.drop 1}).st :=
  ou h.toInvA h0 fun hn=>wM (h.dv d.toNat hn) (m:=bZ r d) rfl hm h1 h2 h3
theorem uF (P:bN n R S) (Q:fR R S) (h:gq n R S r) {d:Int} (h0:0≤d) (hd:d < n) (hm:0 < (r.st.getD d.toNat psD).msg.length):gq n R S (cp (fZ R S r d)):=by
  have hn:d.toNat < n:=by omega
  have hD:=h.dv d.toNat hn;unfold fZ
  split
  · rename_i hh;unfold dj
    split
    · rename_i hk;have hkl:=h.ct.kn;have e:cp ⟨{r.c with known:=r.c.known.set d.toNat (bZ r d).inc,waiting:=cX r.c.waiting d,aj:=r.c.aj++[d]},(gB r d fun s=>{s with msg:=s.msg.drop 1}).st⟩=⟨{r.c with known:=r.c.known.set d.toNat (bZ r d).inc,waiting:=cX r.c.waiting d,aj:=[]},r.st.set d.toNat (ic {r.st.getD d.toNat psD with msg:=(r.st.getD d.toNat psD).msg.drop 1} ⟨(bZ r d).inc,r.c.seq,r.c.target.getD d.toNat 0⟩)⟩:=by
        unfold cp;refine congrArg (ck.mk _) ?_;show dP _ (r.st.set d.toNat _) (r.c.aj++[d])=_;rw [h.sn];show ((r.st.set d.toNat _).set d.toNat (ic ((r.st.set d.toNat _).getD d.toNat psD) ⟨(r.c.known.set d.toNat (bZ r d).inc).getD d.toNat 0,r.c.seq,r.c.target.getD d.toNat 0⟩))=_;rw [List.set_set,bg (by have:=h.sl;omega),bg bo]
      rw [e];refine ⟨⟨⟨(List.length_set ..).trans h.sl,fun k hk'=>?_⟩,⟨h.ct.tg,by simp [h.ct.kn],h.ct.wt.ins h0 hd,h.ct.rd,h.ct.sq⟩,h.tg,rfl⟩,fun q=>?_⟩
      · show dy r.c.seq ((r.c.known.set d.toNat (bZ r d).inc).getD k 0) (r.c.target.getD k 0) ((k : Int) ∈ cX r.c.waiting d) ((loV S r.c).getD k 0) ((hiV R S r.c).getD k 0) ((r.st.set d.toNat _).getD k psD)
        by_cases e:d.toNat=k
        · subst e;rw [bg bo,bg (by have:=h.sl;omega)];exact sM hD (by rw [h.tg _ hk'];exact qQ _) (m:=bZ r d) rfl hm hk (fV.2 (.inl bo))
        · rw [de e,de e];exact (h.dv k hk').iff ⟨fun q=>fV.2 (.inr q),fun q=>(fV.1 q).resolve_left bo⟩
      · have:0 < (cX r.c.waiting d).length:=List.length_pos_of_mem (fV.2 (.inl rfl):d∈cX r.c.waiting d);have q:(cX r.c.waiting d).length=0:=q;omega
    · rename_i hk;exact jg h fun hn=>rK (h.dv _ hn) (m:=bZ r d) rfl (fun _=>by omega) fun q=>absurd hh q
  · rename_i hh;unfold gF
    split
    · rename_i hk;exact ox P Q (ry h h0 hd hm hh hk.1 hk.2)
    · rename_i hk;exact jg h fun hn=>rK (h.dv _ hn) (m:=bZ r d) rfl (fun q=>absurd q hh) fun _=>hk
theorem pJ (c:Ctl) (st:List PS) (h:Asc n c.waiting) (hl:st.length=n) (d:Nat):(dP c st c.waiting).getD d psD=if (d:Int)∈c.waiting then ic (st.getD d psD) (oJ c d) else st.getD d psD :=
  oI c c.waiting st h.1 (fun x hx=>by rw [hl];exact h.2 x hx) d
theorem uE (h:gq n R S r):gq n R S (cp {r with c:={r.c with aj:=r.c.aj++r.c.waiting}}):=by
  have e:cp {r with c:={r.c with aj:=r.c.aj++r.c.waiting}}=⟨r.c,dP r.c r.st r.c.waiting⟩:=by
    unfold cp;show ck.mk {r.c with aj:=[]} (dP {r.c with aj:=r.c.aj++r.c.waiting} r.st (r.c.aj++r.c.waiting))=_;rw [h.sn];have e1:({r.c with aj:=[]}:Ctl)=r.c:=by have:=h.sn;cases r with | mk c st=>cases c;subst this;rfl
    rw [e1];rfl
  rw [e];refine ⟨⟨⟨(iQ ..).trans h.sl,fun d hd=>?_⟩,h.ct,h.tg,h.sn⟩,h.fin⟩;show dy r.c.seq (r.c.known.getD d 0) (r.c.target.getD d 0) ((d:Int)∈r.c.waiting) ((loV S r.c).getD d 0) ((hiV R S r.c).getD d 0) ((dP r.c r.st r.c.waiting).getD d psD);rw [pJ r.c r.st h.ct.wt h.sl d]
  split
  · rename_i hw;exact wK (h.dv d hd) (by rw [h.tg d hd];exact qQ d) hw
  · exact h.dv d hd
theorem sD (P:bN n R S) (Q:fR R S) (h:gq n R S r) (hb:¬ r.c.back=true):gq n R S (cp {r with c:=cb R S r.c}):=by
  have hbf:r.c.back=false:=by simpa using hb
  have hc2:=h.ct.bk hb;have hc0:=(h.ct.sq.2.1 hbf);have hrd:=h.ct.rd;unfold cb;rw [if_neg hb];have elo:loV S {r.c with back:=true}=loV S r.c:=rfl;have ehi:hiV R S {r.c with back:=true}=hiV R S r.c:=rfl;have htg:∀ d:Nat,d < n→r.c.target.getD d 0=(hiV R S r.c).getD d 0:=fun d hd=>by rw [h.tg d hd];unfold tgV;rw [if_neg hb]
  by_cases hr:(R.length:Int)≤r.c.round
  · rw [fy (c := {r.c with back := true}) (.inr hr)];have e1 : loV S r.c = hiV R S r.c := by rw [ql bo]; unfold loV; rw [show r.c.round.toNat = R.length from by omega]
    refine ox P Q ⟨⟨h.sl,h.dv⟩,hc2,fun d hd=>?_,h.sn⟩;show r.c.target.getD d 0=(tgV R S {r.c with back:=true}).getD d 0;rw [htg d hd,← e1];rfl
  · have h0 : 0 ≤ ({r.c with back := true} : Ctl).round := hc0.2;have h1 : ({r.c with back := true} : Ctl).round < R.length := by show r.c.round < _; omega
    have F:=fA P Q hc2 h0 h1;unfold dw;rw [gZ F.ne];refine jh P Q hc2 ⟨fun e=>(by cases e),fun _=>by show r.c.seq+r.c.round≤_;omega⟩ ⟨h.sl,h.dv⟩ h.sn (fun d hd=>.inr (htg d hd)) h0 h1
theorem yy (P:bN n R S) (Q:fR R S) (h:gq n R S r) (hc:cI r e):gq n R S (doR R S r e):=by
  have hsl:=h.sl;have hn0:=P.n0;obtain ⟨h0,h1⟩:=ka hc bo;unfold doR evR
  split
  · rename_i k;exact jg h fun hn=>pF (h.dv _ hn) ((mx k).1 (dT hc bo bo).2.2)
  split
  · rename_i k;refine jg h fun hn=>?_;obtain ⟨g1,g2,g3⟩:=(pM k).1 (dT hc bo bo).2.2;have H:=h.dv _ hn;exact pE H.toDevJ g2 fun q=>g3 (H.qr q)
  split
  · rename_i k;exact uF P Q h h0 bo ((kQ k).1 (dT hc bo bo).2.2)
  split
  · exact jg h fun hn=>sO (h.dv _ hn)
  split
  · exact jg h fun hn=>yE (h.dv _ hn)
  split
  · exact uE h
  split
  · rename_i k;obtain ⟨g1,g2⟩:=(pL k).1 (dT hc bo bo).2.2;have:=ou h.toInvA h0 (s:=r.st.getD e.dev.toNat psD) fun hn=>pD (h.dv _ hn) g1;rw [oY] at this;exact ox P Q this
  split
  · rename_i k;exact sD P Q h ((sQ k).1 hc).2
  · rename_i k1 k2 k3 k4 k5 k6 k7 k8;exact absurd (dT hc bo bo).2.2 (ns k1 k2 k3 k4 k5 k7)
theorem wL (v:Bool) {b:Int}:dy 0 0 0 False 0 b (ps0 v) :=
  { cs:=fun x hx=>(by cases hx),od:=.nil,ki:=Int.le_refl _,sq:=⟨Int.le_refl _,Int.le_refl _⟩,lv:=fun _ x hx=>(by cases hx),rn:=fun _ _=>⟨rfl,.inl rfl,fun _=>rfl,fun _=>⟨rfl,rfl⟩⟩,ms:=fun x hx=>(by cases hx),qr:=fun _=>rfl,p1:=fun e=>e.elim,p2:=fun _ e=>absurd e (Int.lt_irrefl _),p4:=fun _ _ _=>Bool.false_ne_true,nv:=fun _=>rfl,p3:=fun e=>e.elim }
theorem jI (n:Int) (d:Nat):(bA n).getD d 0=0:=by
  unfold bA;rw [List.getD_eq_getElem?_getD,List.getElem?_replicate]
  split <;> rfl
theorem wz {vs:List Bool} (P:bN vs.length R S) (Q:fR R S):gq vs.length R S (gR R S vs):=by
  have hD:Dv vs.length R S (dK vs.length) (vs.map ps0):=⟨List.length_map _,fun d hd=>by
    show dy 0 ((bA _).getD d 0) ((bA _).getD d 0) ((d:Int)∈([]:List Int)) ((S.getD 0 []).getD d 0) _ _;rw [jI,Q.z d,show (vs.map ps0).getD d psD=ps0 vs[d] from by rw [List.getD_eq_getElem?_getD,List.getElem?_map,List.getElem?_eq_getElem hd];rfl]
    exact (wL _).iff ⟨False.elim,fun q=>(by cases q)⟩⟩
  unfold gR
  by_cases hr:(R.length:Int)≤0
  · rw [fy (c := dK vs.length) (.inr hr), dp (r := ⟨dK vs.length, vs.map ps0⟩) rfl];refine ⟨⟨hD, fS, fun d hd => ?_, rfl⟩, fun _ => ⟨rfl, ?_⟩⟩
    · show (bA _).getD d 0=(hiV R S (dK vs.length)).getD d 0;rw [ql (c:=dK vs.length) (by show (0:Int)=_;omega),show R.length=0 from by omega,Q.z d,jI]
    · show (0:Int)=R.length;omega
  · refine jh P Q fS ⟨fun _=>Int.le_refl 0,fun h=>by cases h⟩ hD rfl (fun d hd=>.inl ?_) (Int.le_refl 0) (by show (0:Int) < _;omega);show (bA _).getD d 0=(S.getD 0 []).getD d 0;rw [Q.z d,jI]
end
def ff (f : Nat → Int) : Nat → Int
  | 0=>0
  | n+1=>ff f n+f n
theorem qS {f g : Nat → Int} : ∀ {n : Nat}, (∀ d, d < n → f d ≤ g d) → ff f n ≤ ff g n
  | 0,_=>Int.le_refl _
  | n+1,h=>Int.add_le_add (qS fun d hd=>h d bo) (h n bo)
theorem nH {f g : Nat → Int} : ∀ {n : Nat}, (∀ d, d < n → f d = g d) → ff f n = ff g n
  | 0,_=>rfl
  | n+1,h=>by rw [ff,ff,nH fun d hd=>h d bo,h n bo]
theorem lx {f g : Nat → Int} {d : Nat} : ∀ {n : Nat}, d < n → (∀ k, k < n → k ≠ d → f k = g k) → ff f n + g d = ff g n + f d
  | n+1,hd,h=>by
    rw [ff,ff]
    by_cases e:d=n
    · have:=nH (f:=f) (g:=g) (n:=n) fun k hk=>h k bo bo;subst e;omega
    · have:=lx (f:=f) (g:=g) (n:=n) (d:=d) bo fun k hk=>h k bo;have:=h n bo bo;omega
theorem ly (f : Nat → Int) (c : Int) : ∀ n : Nat, ff (fun d => f d + c) n = ff f n + c * n
  | 0=>by simp [ff]
  | n+1=>by
    rw [ff,ff,ly f c n,show ((n+1:Nat):Int)=(n:Int)+1 from rfl,Int.mul_add,Int.mul_one];omega
def fC (s:PS):Int:=if s.vol=true∧s.ag.up=true∧s.ag.run≠s.ag.sav then 2 else 0
theorem lQ (s:PS):0≤fC s∧fC s≤2:=by unfold fC;split <;> omega
def mS (k:Int) (s:PS):Int:=(if s.ag.up=true then 0 else 5)+3 * (s.ag.inc - k)+3 * (s.cmd.length:Int)+fC s+(s.msg.length:Int)
def mR (n:Nat) (R:List (List Chg)) (c:Ctl) (st:List PS):Int:=3 * (n:Int) * b8 R.length c+ff (fun d=>mS (c.known.getD d 0) (st.getD d psD)) n
theorem qh (s:PS) (m:Msg) (k:Int):mS k (oZ s m)=mS k s+1:=by
  show (if s.ag.up=true then (0:Int) else 5)+3 * (s.ag.inc - k)+3 * (s.cmd.length:Int)+fC s+((s.msg++[m]).length:Int)=_;rw [List.length_append,List.length_singleton];unfold mS;omega
theorem uw (s:PS) (x:Cmd) (k:Int):mS k (ic s x)=mS k s+3:=by
  show (if s.ag.up=true then (0:Int) else 5)+3 * (s.ag.inc - k)+3 * ((s.cmd++[x]).length:Int)+fC s+(s.msg.length:Int)=_;rw [List.length_append,List.length_singleton];unfold mS;omega
def jv (s:PS):PS:={s with msg:=s.msg.drop 1}
theorem rp (s:PS) (k:Int) (h:0 < s.msg.length):mS k (jv s)=mS k s - 1:=by
  show (if s.ag.up=true then (0:Int) else 5)+3 * (s.ag.inc - k)+3 * (s.cmd.length:Int)+fC s+((s.msg.drop 1).length:Int)=_;rw [List.length_drop];unfold mS;omega
theorem ux (s:PS) (k:Int) (h:0 < s.cmd.length):mS k {s with cmd:=s.cmd.drop 1}=mS k s - 3:=by
  show (if s.ag.up=true then (0:Int) else 5)+3 * (s.ag.inc - k)+3 * ((s.cmd.drop 1).length:Int)+fC s+(s.msg.length:Int)=_;rw [List.length_drop];unfold mS;omega
theorem rm (s:PS) (k:Int):mS k (iF s)=mS k s+1 - fC s:=by
  unfold iF;rw [qh];have e:fC {s with ag:={s.ag with sav:=s.ag.run}}=0:=by unfold fC;rw [if_neg fun h=>h.2.2 rfl]
  show (if s.ag.up=true then (0:Int) else 5)+3 * (s.ag.inc - k)+3 * (s.cmd.length:Int)+fC {s with ag:={s.ag with sav:=s.ag.run}}+(s.msg.length:Int)+1=_;rw [e];unfold mS;omega
theorem qi {s:PS} {k:Int} (h:0 < s.cmd.length):mS k (cv s)≤mS k s - 1:=by
  have hp:=lQ s;unfold cv
  split
  · rw [ux s k h];omega
  · split
    · unfold jG;rw [qh,ux s k h];omega
    · have e:∀ g:Agt,g.up=s.ag.up→g.inc=s.ag.inc→mS k {s with cmd:=s.cmd.drop 1,ag:=g}=mS k s - 3 - fC s+fC {s with cmd:=s.cmd.drop 1,ag:=g}:=fun g h1 h2=>by
        show (if g.up=true then (0:Int) else 5)+3 * (g.inc - k)+3 * ((s.cmd.drop 1).length:Int)+fC _+(s.msg.length:Int)=_;rw [h1,h2,List.length_drop];unfold mS;omega
      split
      · rw [rm,e {s.ag with run:=(cr s).ver,seq:=(cr s).seq,bS:=false} rfl rfl];omega
      · rw [e {s.ag with run:=(cr s).ver,seq:=(cr s).seq,bS:=false} rfl rfl];have:=lQ {s with cmd:=s.cmd.drop 1,ag:={s.ag with run:=(cr s).ver,seq:=(cr s).seq,bS:=false}};omega
theorem zy {s:PS} {k:Int} (h:¬ s.ag.up=true):mS k (upT s)=mS k s - 1:=by
  unfold upT jG;rw [qh];have e:fC {s with ag:={s.ag with up:=true,bS:=true,inc:=s.ag.inc+1,run:=s.ag.sav,seq:=0}}=0:=by unfold fC;rw [if_neg fun h=>h.2.2 rfl]
  have e2:fC s=0:=by unfold fC;rw [if_neg fun q=>h q.2.1]
  show (if true=true then (0:Int) else 5)+3 * (s.ag.inc+1 - k)+3 * (s.cmd.length:Int)+fC {s with ag:={s.ag with up:=true,bS:=true,inc:=s.ag.inc+1,run:=s.ag.sav,seq:=0}}+(s.msg.length:Int)+1=_;rw [e,if_pos rfl];unfold mS;rw [e2,if_neg h];omega
theorem wj {s:PS} {k:Int}:mS k (jw s)≤mS k s+5:=by
  have e:fC (jw s)=0:=by unfold fC;rw [if_neg fun h=>by cases h.2.1]
  have:=lQ s;show (if false=true then (0:Int) else 5)+3 * (s.ag.inc - k)+3 * (([]:List Cmd).length:Int)+fC (jw s)+(s.msg.length:Int)≤_;rw [e,if_neg (by decide)];unfold mS;simp only [List.length_nil];split <;> omega
section
variable {n:Nat} {R:List (List Chg)} {S:List (List Int)} {r:ck} {c:Ctl} {st:List PS} {e:Evt}
theorem uy {d:Nat} (hd:d < n) (hl:st.length=n) {s:PS}:mR n R c (st.set d s)=mR n R c st+mS (c.known.getD d 0) s - mS (c.known.getD d 0) (st.getD d psD):=by
  have:=(lx (f:=fun k=>mS (c.known.getD k 0) ((st.set d s).getD k psD)) (g:=fun k=>mS (c.known.getD k 0) (st.getD k psD)) (n:=n) (d:=d) hd (fun k _ hk=>by show mS _ _=mS _ _;rw [de (fun q=>hk q.symm)]));have e:mS (c.known.getD d 0) ((st.set d s).getD d psD)=mS (c.known.getD d 0) s:=by rw [bg bo]
  unfold mR;simp only [e] at this;omega
theorem wk {c':Ctl} (h1:c'.round=c.round) (h2:c'.back=c.back) (h3:c'.known=c.known):mR n R c' st=mR n R c st:=by
  unfold mR b8;rw [h1,h2,h3]
theorem uz (h:Asc n c.waiting) (hl:st.length=n):mR n R {c with aj:=[]} (dP c st c.waiting)≤mR n R c st+3 * n:=by
  have e:=ly (fun d=>mS (c.known.getD d 0) (st.getD d psD)) 3 n;have:=qS (f:=fun d=>mS (c.known.getD d 0) ((dP c st c.waiting).getD d psD)) (g:=fun d=>mS (c.known.getD d 0) (st.getD d psD)+3) (n:=n) fun d hd=>by
    show mS _ ((dP c st c.waiting).getD d psD)≤_;rw [pJ c st h hl d]
    split
    · rw [uw];exact Int.le_refl _
    · show _≤_+3;omega
  show 3 * (n:Int) * b8 R.length c+ff (fun d=>mS (c.known.getD d 0) ((dP c st c.waiting).getD d psD)) n≤_;unfold mR;omega
theorem jX (P : bN n R S) (Q : fR R S) (h : bz n R.length c) (hb : (c.back = false → c.seq ≤ c.round) ∧ (c.back = true → c.seq + c.round ≤ 2 * R.length + 1)) (hs : c.aj = []) (hl : st.length = n) (h0 : 0 ≤ c.round) (h1 : c.round < R.length) :
    mR n R (cp ⟨aJ R S c,st⟩).c (cp ⟨aJ R S c,st⟩).st≤mR n R c st+3 * n:=by
  have F:=fA P Q h h0 h1;have hc:=(dB P h fun _ _=>hb).1
  revert F hc
  generalize aJ R S c=c1
  intro F hc;have hsn:c1.aj=c1.waiting:=by rw [F.sn,hs];rfl
  show mR n R {c1 with aj:=[]} (dP c1 st c1.aj)≤_;rw [hsn];have:=uz (R:=R) (c:=c1) (st:=st) hc.wt hl;rw [wk (c:=c) (c':=c1) F.rd F.bk F.kn] at this;exact this
theorem qj (P:bN n R S) (Q:fR R S) (hct:bz n R.length c) (hs:c.aj=[]) (hl:st.length=n):mR n R (cp ⟨dw R S c,st⟩).c (cp ⟨dw R S c,st⟩).st≤mR n R c st:=by
  have hrd:=hct.rd;unfold dw;rw [show (40:Nat)=38+1+1 from rfl,cT]
  split
  · rw [dp (r:=⟨c,st⟩) hs];exact Int.le_refl _
  · rename_i hw
    split
    · rename_i hb;have hc2:=hct.down hb.1 hb.2;have em:mR n R {c with round:=c.round - 1} st=mR n R c st - 3 * n:=by
        have e:b8 R.length {c with round:=c.round - 1}=b8 R.length c - 1:=by unfold b8;rw [if_pos hb.1,if_pos hb.1];show c.round - 1+1=c.round+1 - 1;omega
        unfold mR;rw [e,Int.mul_sub,Int.mul_one];show _+ff (fun d=>mS (c.known.getD d 0) _) n=_;omega
      by_cases hr:c.round - 1 < 0
      · rw [fy (c:={c with round:=c.round - 1}) (.inl hr),cT];rw [if_neg (show ¬ 0 < c.waiting.length from by assumption),if_neg (fun q=>by have:=q.2;have:0≤c.round - 1:=this;omega),if_neg (fun q=>q.1 hb.1),dp (r:=⟨{c with round:=c.round - 1},st⟩) hs];show mR n R {c with round:=c.round - 1} st≤_;omega
      · have h0 : 0 ≤ ({c with round := c.round - 1} : Ctl).round := by show 0 ≤ c.round - 1; omega
        have h1:({c with round:=c.round - 1}:Ctl).round < R.length:=by show c.round - 1 < _;omega
        rw [gZ (fA P Q hc2 h0 h1).ne];have:=jX P Q hc2 (st:=st) ⟨fun e=>absurd hb.1 (by show ¬ c.back=true;rw [show c.back=false from e];decide),fun _=>by have:=hct.sq.2.2 hb.1;show c.seq+(c.round - 1)≤_;omega⟩ hs hl h0 h1;omega
    · rename_i hnb
      split
      · rename_i hb;have hbf : c.back = false := by simpa using hb.1
        have hc2:=hct.up hb.1 hb.2;have hc0:=(hct.sq.2.1 hbf).2;have em:mR n R {c with round:=c.round+1} st=mR n R c st - 3 * n:=by
          have e:b8 R.length {c with round:=c.round+1}=b8 R.length c - 1:=by unfold b8;rw [if_neg hb.1,if_neg hb.1];show (R.length:Int) - (c.round+1)=R.length - c.round - 1;omega
          unfold mR;rw [e,Int.mul_sub,Int.mul_one];show _+ff (fun d=>mS (c.known.getD d 0) _) n=_;omega
        by_cases hr:(R.length:Int)≤c.round+1
        · rw [fy (c:={c with round:=c.round+1}) (.inr hr),cT];rw [if_neg (show ¬ 0 < c.waiting.length from by assumption),if_neg (fun q=>hb.1 q.1),if_neg (fun q=>by have:=q.2;have:c.round+1 < R.length:=this;omega),dp (r:=⟨{c with round:=c.round+1},st⟩) hs];show mR n R {c with round:=c.round+1} st≤_;omega
        · have h0 : 0 ≤ ({c with round := c.round + 1} : Ctl).round := by show 0 ≤ c.round + 1; omega
          have h1:({c with round:=c.round+1}:Ctl).round < R.length:=by show c.round+1 < _;omega
          rw [gZ (fA P Q hc2 h0 h1).ne];have:=jX P Q hc2 (st:=st) ⟨fun _=>by have:=(hct.sq.2.1 hbf).1;show c.seq≤c.round+1;omega,fun e=>absurd e hb.1⟩ hs hl h0 h1;omega
      · rw [dp (r:=⟨c,st⟩) hs];exact Int.le_refl _
theorem l7 (h:gq n R S r) {d:Nat} (hd:d < n) {s:PS}:mR n R (cp {r with st:=r.st.set d s}).c (cp {r with st:=r.st.set d s}).st=mR n R r.c r.st+mS (r.c.known.getD d 0) s - mS (r.c.known.getD d 0) (r.st.getD d psD):=by
  rw [dp (r:={r with st:=r.st.set d s}) h.sn];exact uy hd h.sl
theorem wm (P:bN n R S) (Q:fR R S) (h:gq n R S r) {d:Int} (h0:0≤d) (hd:d < n) (hm:0 < (r.st.getD d.toNat psD).msg.length):mR n R (cp (fZ R S r d)).c (cp (fZ R S r d)).st≤mR n R r.c r.st - 1:=by
  have hn:d.toNat < n:=by omega
  have hdr:=rp (r.st.getD d.toNat psD) (r.c.known.getD d.toNat 0) hm;have hsta:=l7 h hn (s:=jv (r.st.getD d.toNat psD));unfold fZ
  split
  · unfold dj
    split
    · rename_i hk;have hkl := h.ct.kn;have hsl := h.sl;unfold cp;show mR n R _ (dP _ (r.st.set d.toNat _) (r.c.aj ++ [d])) ≤ _;rw [h.sn];show mR n R {r.c with known := r.c.known.set d.toNat (bZ r d).inc, waiting := cX r.c.waiting d, aj := []} ((r.st.set d.toNat _).set d.toNat (ic ((r.st.set d.toNat _).getD d.toNat psD) ⟨(r.c.known.set d.toNat (bZ r d).inc).getD d.toNat 0, r.c.seq, r.c.target.getD d.toNat 0⟩)) ≤ _;have e0 : ((r.st.set d.toNat (jv (r.st.getD d.toNat psD))).set d.toNat (ic ((r.st.set d.toNat (jv (r.st.getD d.toNat psD))).getD d.toNat psD) ⟨(r.c.known.set d.toNat (bZ r d).inc).getD d.toNat 0, r.c.seq, r.c.target.getD d.toNat 0⟩)) = r.st.set d.toNat (ic (jv (r.st.getD d.toNat psD)) ⟨(bZ r d).inc, r.c.seq, r.c.target.getD d.toNat 0⟩) := by rw [List.set_set, bg bo, bg bo]
      refine Int.le_trans (Int.le_of_eq (congrArg (mR n R _) e0)) ?_
      have hu:=lx (f:=fun k=>mS ((r.c.known.set d.toNat (bZ r d).inc).getD k 0) ((r.st.set d.toNat (ic (jv (r.st.getD d.toNat psD)) ⟨(bZ r d).inc,r.c.seq,r.c.target.getD d.toNat 0⟩)).getD k psD)) (g:=fun k=>mS (r.c.known.getD k 0) (r.st.getD k psD)) (n:=n) (d:=d.toNat) hn (fun k _ hk=>by
        show mS _ _=mS _ _
        rw [de (fun q=>hk q.symm),de (fun q=>hk q.symm)])
      have e1:mS ((r.c.known.set d.toNat (bZ r d).inc).getD d.toNat 0) ((r.st.set d.toNat (ic (jv (r.st.getD d.toNat psD)) ⟨(bZ r d).inc,r.c.seq,r.c.target.getD d.toNat 0⟩)).getD d.toNat psD)=mS (r.c.known.getD d.toNat 0) (r.st.getD d.toNat psD)+2 - 3 * ((bZ r d).inc - r.c.known.getD d.toNat 0):=by
        rw [bg bo,bg bo,uw,rp _ _ hm];unfold mS;omega
      simp only [e1] at hu;have hg:3 * (n:Int) * b8 R.length r.c+ff (fun k=>mS ((r.c.known.set d.toNat (bZ r d).inc).getD k 0) ((r.st.set d.toNat (ic (jv (r.st.getD d.toNat psD)) ⟨(bZ r d).inc,r.c.seq,r.c.target.getD d.toNat 0⟩)).getD k psD)) n≤3 * (n:Int) * b8 R.length r.c+ff (fun k=>mS (r.c.known.getD k 0) (r.st.getD k psD)) n - 1:=by omega
      exact hg
    · exact Int.le_trans (Int.le_of_eq hsta) bo
  · rename_i hh;unfold gF
    split
    · rename_i hk;have hA:=ry h h0 hd hm hh hk.1 hk.2;have h1:=qj P Q hA.ct hA.sn hA.sl;have h2:mR n R {r.c with waiting:=r.c.waiting.filter fun y=>!(y == d)} (gB r d fun s=>{s with msg:=s.msg.drop 1}).st=mR n R r.c (r.st.set d.toNat (jv (r.st.getD d.toNat psD))):=rfl;have h3:=uy (R:=R) (c:=r.c) (st:=r.st) hn h.sl (s:=jv (r.st.getD d.toNat psD));exact Int.le_trans h1 (Int.le_trans (Int.le_of_eq (h2.trans h3)) bo)
    · exact Int.le_trans (Int.le_of_eq hsta) bo
def u4 (k:Int):Prop:=k=1∨k=2∨k=3∨k=5
theorem wo (P:bN n R S) (Q:fR R S) (h:gq n R S r) (hc:cI r e) (hk:u4 e.kind):mR n R (doR R S r e).c (doR R S r e).st≤mR n R r.c r.st - 1:=by
  have hsl:=h.sl;have hn0:=P.n0;obtain ⟨h0,h1⟩:=ka hc bo;have hd:e.dev.toNat < n:=by omega
  unfold doR
  rcases hk with k | k | k | k
  · rw [ev1 k];have:=l7 h hd (s:=cv (r.st.getD e.dev.toNat psD));have:=qi (k:=r.c.known.getD e.dev.toNat 0) ((mx k).1 (dT hc bo bo).2.2);unfold gB;omega
  · rw [ev2 k];obtain ⟨g1,g2,g3⟩:=(pM k).1 (dT hc bo bo).2.2;have:=l7 h hd (s:=iF (r.st.getD e.dev.toNat psD));have:=rm (r.st.getD e.dev.toNat psD) (r.c.known.getD e.dev.toNat 0);have e2:fC (r.st.getD e.dev.toNat psD)=2:=if_pos ⟨g1,g2,g3⟩;unfold gB;omega
  · rw [ev3 k];exact wm P Q h h0 bo ((kQ k).1 (dT hc bo bo).2.2)
  · rw [ev5 k];have:=l7 h hd (s:=upT (r.st.getD e.dev.toNat psD));have:=zy (k:=r.c.known.getD e.dev.toNat 0) ((uY k).1 (dT hc bo bo).2.2);unfold gB;omega
theorem yv (P:bN n R S) (Q:fR R S) (h:gq n R S r) (hn:n≤4) (hR:R.length≤3) (hc:cI r e):mR n R (doR R S r e).c (doR R S r e).st≤mR n R r.c r.st+60:=by
  by_cases hk:u4 e.kind
  · have:=wo P Q h hc hk;omega
  have hsl:=h.sl;have hn0:=P.n0;obtain ⟨h0,h1⟩:=ka hc bo;have hd:e.dev.toNat < n:=by omega
  unfold u4 at hk;unfold doR
  by_cases k:e.kind=4
  · rw [ev4 k];have:=l7 h hd (s:=jw (r.st.getD e.dev.toNat psD));have:=wj (s:=r.st.getD e.dev.toNat psD) (k:=r.c.known.getD e.dev.toNat 0);unfold gB;omega
  by_cases k:e.kind=6
  · rw [ev6 k];have := uz (R := R) (c := {r.c with aj := r.c.aj ++ r.c.waiting}) (st := r.st) h.ct.wt h.sl;have e1 : mR n R {r.c with aj := r.c.aj ++ r.c.waiting} r.st = mR n R r.c r.st := rfl;show mR n R {r.c with aj := []} (dP {r.c with aj := r.c.aj ++ r.c.waiting} r.st (r.c.aj ++ r.c.waiting)) ≤ _;rw [h.sn];have e2 : ({r.c with aj := r.c.aj ++ r.c.waiting} : Ctl) = {r.c with aj := [] ++ r.c.waiting} := by rw [h.sn]
    rw [e2] at this;have:mR n R {r.c with aj:=[]} (dP {r.c with aj:=[]++r.c.waiting} r.st ([]++r.c.waiting))≤mR n R r.c r.st+3 * n:=this;omega
  by_cases k:e.kind=7
  · rw [ev7 k];obtain ⟨g1,g2⟩:=(pL k).1 (dT hc bo bo).2.2;have hA:=ou h.toInvA h0 (s:=r.st.getD e.dev.toNat psD) fun hn=>pD (h.dv _ hn) g1;rw [oY] at hA;have h1:=qj P Q hA.ct hA.sn hA.sl;exact Int.le_trans (b:=mR n R r.c r.st) h1 bo
  by_cases k:e.kind=8
  · rw [ev8 k];have hb := ((sQ k).1 hc).2;have hbf : r.c.back = false := by simpa using hb
    have hc2:=h.ct.bk hb;have hc0:=(h.ct.sq.2.1 hbf);have hrd:=h.ct.rd;have em:mR n R {r.c with back:=true} r.st≤mR n R r.c r.st+48:=by
      have e1:b8 R.length {r.c with back:=true}=r.c.round+1:=by unfold b8;rw [if_pos rfl]
      have e2:=l5 h.ct;have e3:3 * (n:Int) * (r.c.round+1)≤48:=by
        have:3 * (n:Int) * (r.c.round+1)≤12 * 4:=Int.mul_le_mul bo bo bo bo;omega
      have e4:0≤3 * (n:Int) * b8 R.length r.c:=Int.mul_nonneg bo e2;unfold mR;rw [e1];show _+ff (fun d=>mS (r.c.known.getD d 0) _) n≤_;omega
    unfold cb;rw [if_neg hb]
    by_cases hr:(R.length:Int)≤r.c.round
    · rw [fy (c:={r.c with back:=true}) (.inr hr)];exact Int.le_trans (qj P Q hc2 h.sn h.sl (st:=r.st)) (Int.le_trans em bo)
    · have h0 : 0 ≤ ({r.c with back := true} : Ctl).round := hc0.2;have h1 : ({r.c with back := true} : Ctl).round < R.length := by show r.c.round < _; omega
      unfold dw;rw [gZ (fA P Q hc2 h0 h1).ne];exact Int.le_trans (jX P Q hc2 (st:=r.st) ⟨fun e=>(by cases e),fun _=>by show r.c.seq+r.c.round≤_;omega⟩ h.sn h.sl h0 h1) (Int.le_trans (Int.add_le_add_right em _) bo)
  · exact absurd (dT hc bo bo).2.2 (ns bo bo bo bo bo bo)
theorem yu {vs:List Bool} (P:bN vs.length R S) (Q:fR R S) (hn:vs.length≤4) (hR:R.length≤3):mR vs.length R (gR R S vs).c (gR R S vs).st≤60:=by
  have e0:mR vs.length R (dK vs.length) (vs.map ps0)≤36:=by
    have e1:ff (fun d=>mS ((dK vs.length).known.getD d 0) ((vs.map ps0).getD d psD)) vs.length=ff (fun _=>0) vs.length:=nH fun d hd=>by
      show mS ((bA _).getD d 0) _=0;rw [jI,List.getD_eq_getElem?_getD,List.getElem?_map,List.getElem?_eq_getElem hd];show mS 0 (ps0 vs[d])=0;have:fC (ps0 vs[d])=0:=by unfold fC;rw [if_neg fun h=>h.2.2 rfl]
      unfold mS;rw [this];rfl
    have e2:ff (fun _=>0) vs.length≤0:=by
      have:=ly (fun _=>0) 0 vs.length;have h2:∀ m,ff (fun _=>0) m=0:=fun m=>by induction m with
        | zero=>rfl
        | succ m ih=>rw [ff,ih];rfl
      rw [h2];exact Int.le_refl _
    have e3:b8 R.length (dK vs.length)=R.length:=by unfold b8;rw [if_neg (by show ¬ false=true;decide)];show (R.length:Int) - 0=_;omega
    have e4:3 * (vs.length:Int) * (R.length:Int)≤12 * 3:=Int.mul_le_mul bo bo bo bo;unfold mR;rw [e1,e3];omega
  unfold gR
  by_cases hr:(R.length:Int)≤0
  · rw [fy (c:=dK vs.length) (.inr hr),dp (r:=⟨dK vs.length,vs.map ps0⟩) rfl];show mR vs.length R (dK vs.length) (vs.map ps0)≤60;omega
  · have:=jX P Q fS (st:=vs.map ps0) ⟨fun _=>Int.le_refl 0,fun h=>by cases h⟩ rfl (List.length_map _) (Int.le_refl 0) (by show (0:Int) < _;omega);omega
end
def mG (st:Bool) (n:Int) (R:List (List Chg)) (now:List Int):Prop:=(now.length=n.toNat∧∀ k,0≤now.getD k 0∧now.getD k 0≤3)∧∃ acc,∀ rs,fg st n [bA n] (bA n) (R++rs)=fg st n acc now rs
def kf (st:Bool) (n:Int) (now:List Int) (l:List Chg) (last:Int) (cur:List Int):Prop:=(cur.length=n.toNat∧∀ k,0≤cur.getD k 0∧cur.getD k 0≤3)∧∀ rest,eP st n (-1) now (l++rest)=eP st n last cur rest
theorem r9 (n:Int) (k:Nat):0≤(bA n).getD k 0∧(bA n).getD k 0≤3:=by
  unfold bA;rw [List.getD_eq_getElem?_getD,List.getElem?_replicate]
  split <;> decide
theorem mG.init (st:Bool) (n:Int):mG st n [] (bA n):=⟨⟨by simp [bA],r9 n⟩,_,fun _=>rfl⟩
theorem kf.init {st:Bool} {n:Int} {now:List Int} {R:List (List Chg)} (h:mG st n R now):kf st n now [] (-1) now:=⟨h.1,fun _=>rfl⟩
theorem pz {l:List Int} {d k:Nat} {v:Int} (h:∀ k,0≤l.getD k 0∧l.getD k 0≤3) (h0:0≤v) (hv:v≤3):0≤(l.set d v).getD k 0∧(l.set d v).getD k 0≤3:=by
  have:=h k;rw [List.getD_eq_getElem?_getD] at this ⊢;rw [List.getElem?_set]
  split
  · split <;> simp [h0,hv]
  · exact this
theorem kf.step {st:Bool} {n last d v:Int} {now cur:List Int} {l:List Chg} (h:kf st n now l last cur) (hl : -1≤last) (h1:last < d) (h2:d < n) (h3:cur.getD d.toNat 0 < v) (h4:v≤3) (h5:¬ st=true→v=3):kf st n now (l++[⟨d,v⟩]) d (cur.set d.toNat v) :=
  ⟨⟨by rw [List.length_set];exact h.1.1,fun k=>pz h.1.2 (by have:=(h.1.2 d.toNat).1;omega) h4⟩,fun rest=>by
    rw [List.append_assoc,List.singleton_append,h.2]
    exact nO (c:=⟨d,v⟩) (by
      show ¬ (d≤last∨n≤d∨v≤cur.getD d.toNat 0∨3 < v∨(¬ st=true∧v≠3));rintro (q | q | q | q | q)
      · omega
      · omega
      · omega
      · omega
      · exact q.2 (h5 q.1))⟩
theorem kf.nil {st:Bool} {n last:Int} {now cur:List Int} (h:kf st n now [] last cur):cur=now:=by
  have:=h.2 [];rw [List.append_nil,eP,eP] at this;exact (Option.some.inj this).symm
theorem mG.step {st:Bool} {n last:Int} {R:List (List Chg)} {now cur:List Int} {l:List Chg} (h:mG st n R now) (hr:kf st n now l last cur) (h0:l.length≠0):mG st n (R++[l]) cur:=by
  obtain ⟨acc,ha⟩:=h.2;refine ⟨hr.1,acc++[cur],fun rs=>?_⟩;rw [List.append_assoc,List.singleton_append,ha,fg,if_neg h0];have:=hr.2 [];rw [List.append_nil] at this;rw [this,eP]
theorem mG.some {st:Bool} {n:Int} {R:List (List Chg)} {now:List Int} (h:mG st n R now) (hn:1≤n∧n≤12):(aL st R n).isSome=true:=by
  obtain ⟨acc,ha⟩:=h.2;have:=ha [];rw [List.append_nil,fg] at this;unfold aL;rw [if_neg bo,this];rfl
def xn (p:eH) (n:Int):Prop:=mf p n∧p.rounds.xs.length≤3∧∀ x∈p.rounds.xs,0 < x.xs.length
section
variable {sg:Bool} {R:List (List Chg)} {S:List (List Int)} {n B:Nat} {x x1:Run} {y y1:aU} {e:Evt}
structure Two (sg:Bool) (R:List (List Chg)) (S:List (List Int)) (n B:Nat) (x:Run) (y:aU):Prop where
  a:er R S n B x
  b:QAt R S n B y
  e:aM y=bh x
  g:y.b.2.ay=sg
theorem er.mono {B':Nat} (h:er R S n B x) (hB:B≤B'):er R S n B' x:=⟨ROK.mono h.ok hB,h.s0,h.rd,h.st,h.tn⟩
theorem QAt.mono {B':Nat} (h:QAt R S n B y) (hB:B≤B'):QAt R S n B' y:=⟨⟨h.ok.1,ROK.mono h.ok.2 hB⟩,h.s0,h.rd,h.st,h.tn⟩
theorem Two.mono {B':Nat} (h:Two sg R S n B x y) (hB:B≤B'):Two sg R S n B' x y:=⟨h.a.mono hB,h.b.mono hB,h.e,h.g⟩
def DoX (x x1:Run) (e:Evt):Prop:=(cI (bh x) e→gy x x1∧bh x1=doR (cq x.m.2) (cP x.m.2) (bh x) e)∧(¬ cI (bh x) e→x1=x)
def DoY (y y1:aU) (e:Evt):Prop:=(cI (aM y) e→nC y y1∧aM y1=doR (rdB y.b.2) (stB y.b.2) (aM y) e)∧(¬ cI (aM y) e→y1=y)
theorem er.step (h:er R S n B x) (hx:DoX x x1 e):er R S n (B+1001) x1∧(cI (bh x) e→bh x1=doR R S (bh x) e)∧(¬ cI (bh x) e→x1=x):=by
  by_cases hc:cI (bh x) e
  · obtain ⟨k1,k2⟩:=hx.1 hc;exact ⟨h.go hc k1 k2,fun _=>by rw [k2,h.rd,h.st],fun q=>absurd hc q⟩
  · have:=hx.2 hc;subst this;exact ⟨h.mono bo,fun q=>absurd q hc,fun _=>rfl⟩
theorem QAt.step (h:QAt R S n B y) (hy:DoY y y1 e):QAt R S n (B+1001) y1∧(cI (aM y) e→aM y1=doR R S (aM y) e∧y1.b.2.ay=y.b.2.ay)∧(¬ cI (aM y) e→y1=y):=by
  by_cases hc:cI (aM y) e
  · obtain ⟨k1,k2⟩:=hy.1 hc;exact ⟨h.go hc k1 k2,fun _=>⟨by rw [k2,h.rd,h.st],k1.2.2.1⟩,fun q=>absurd hc q⟩
  · have:=hy.2 hc;subst this;exact ⟨h.mono bo,fun q=>absurd q hc,fun _=>rfl⟩
theorem Two.step (h:Two sg R S n B x y) (hx:DoX x x1 e) (hy:DoY y y1 e):Two sg R S n (B+1001) x1 y1:=by
  obtain ⟨a1,a2,a3⟩:=h.a.step hx;obtain ⟨b1,b2,b3⟩:=h.b.step hy
  by_cases hc:cI (bh x) e
  · have hc' : cI (aM y) e := by rw [h.e]; exact hc
    refine ⟨a1,b1,?_,(b2 hc').2.trans h.g⟩;rw [(b2 hc').1,a2 hc,h.e]
  · have hc' : ¬ cI (aM y) e := by rw [h.e]; exact hc
    have:=a3 hc;have:=b3 hc';subst x1 y1;exact ⟨a1,b1,h.e,h.g⟩
structure Beg (sg:Bool) (R:List (List Chg)) (S:List (List Int)) (n:Nat) (x:Run) (y:aU):Prop where
  P:bN n R S
  Q:fR R S
  n1:1≤n
  n4:n≤4
  R3:R.length≤3
  st:aL sg R n=some S
  T:Two sg R S n 1000 x y
  I:gq n R S (bh x)
  M:mR n R (bh x).c (bh x).st≤60
structure ke (sg:Bool) (R:List (List Chg)) (S:List (List Int)) (n k:Nat) (x:Run) (y:aU):Prop where
  T:Two sg R S n (1000+1001 * k) x y
  I:gq n R S (bh x)
  M:mR n R (bh x).c (bh x).st≤60+60 * k
theorem Beg.two (h:Beg sg R S n x y):ke sg R S n 0 x y:=⟨h.T,h.I,by have:=h.M;omega⟩
theorem ke.step {x0:Run} {y0:aU} {k:Nat} (h:ke sg R S n k x y) (H:Beg sg R S n x0 y0) (hx:DoX x x1 e) (hy:DoY y y1 e):ke sg R S n (k+1) x1 y1:=by
  have hT:=h.T.step hx hy;obtain ⟨a1,a2,a3⟩:=h.T.a.step hx;refine ⟨hT.mono bo,?_,?_⟩
  · by_cases hc : cI (bh x) e
    · rw [a2 hc];exact yy H.P H.Q h.I hc
    · rw [a3 hc];exact h.I
  · have hM := h.M
    by_cases hc:cI (bh x) e
    · rw [a2 hc];have:=yv H.P H.Q h.I H.n4 H.R3 hc;omega
    · rw [a3 hc];omega
theorem ke.sm {x0:Run} {y0:aU} {k:Nat} (h:ke sg R S n k x y) (H:Beg sg R S n x0 y0) (hk:k≤1000) (hx:DoX x x1 e) (hy:DoY y y1 e):dH 8000000 x1∧kG 8000000 y1∧aM y1=bh x1∧rdB y1.b.2=cq x1.m.2:=by
  have hT:=(h.step H hx hy).T;exact ⟨ROK.mono hT.a.ok bo,⟨hT.b.ok.1,ROK.mono hT.b.ok.2 bo⟩,hT.e,hT.b.rd.trans hT.a.rd.symm⟩
theorem er.ok7 (h:er R S n B x) (hB:B≤7000000):dH 7000000 x∧dZ x.m.2.target.xs.length 0 (bh x).c:=⟨ROK.mono h.ok hB,by rw [h.tn];exact h.s0⟩
theorem QAt.ok7 (h:QAt R S n B y) (hB:B≤7000000):kG 7000000 y:=⟨h.ok.1,ROK.mono h.ok.2 hB⟩
theorem kG.ev {B:Nat} (h:kG B y):fJ y∧y.b.2.waiting.xs.length≤1000∧y.ag.xs.length≤12:=by
  have h12:=h.2.n2;have hw:y.b.2.waiting.xs.length≤y.ag.xs.length:=h.2.ct.wt.len;exact ⟨h.1,by omega,h12⟩
theorem er.len (h:er R S n B x):x.sts.xs.length=n:=by
  have h1:=h.ok.sl;have h2:(bh x).st.length=x.sts.xs.length:=List.length_map _;have:=h.tn;omega
end
def iE (r:ck) (e:Evt):Prop:=cI r e∧(e.kind=3∨e.kind=7∨e.kind=8)
instance (r:ck) (e:Evt):Decidable (iE r e):=by unfold iE;infer_instance
def kH (r:ck) (e:Evt) (x:Rec):Prop :=
  cI r e→(e.kind=3→(bZ r e.dev).fP=true→x=⟨2,e.dev,(bZ r e.dev).inc,0⟩)∧(e.kind=3→¬ (bZ r e.dev).fP=true→x=⟨1,e.dev,(bZ r e.dev).inc,(bZ r e.dev).seq⟩)∧(e.kind=7→x=⟨3,e.dev,0,0⟩)∧(e.kind=8→x=⟨4,0,0,0⟩)
section
variable {R:List (List Chg)} {S:List (List Int)} {r:ck} {e:Evt} {x:Rec} {n:Nat}
theorem vR (c:Ctl) (d i s:Int):fh R S c ⟨1,d,i,s⟩=gF R S c d i s:=if_pos rfl
theorem vQ (c:Ctl) (d i s:Int):fh R S c ⟨2,d,i,s⟩=dj c d i:=by unfold fh;rw [if_neg (by show ¬ (2:Int)=1;decide),if_pos rfl]
theorem vP (c:Ctl) (d i s:Int):fh R S c ⟨3,d,i,s⟩=rmC R S c d:=by unfold fh;rw [if_neg (by show ¬ (3:Int)=1;decide),if_neg (by show ¬ (3:Int)=2;decide),if_pos rfl]
theorem vO (c:Ctl) (d i s:Int):fh R S c ⟨4,d,i,s⟩=cb R S c:=by unfold fh;rw [if_neg (by show ¬ (4:Int)=1;decide),if_neg (by show ¬ (4:Int)=2;decide),if_neg (by show ¬ (4:Int)=3;decide),if_pos rfl]
theorem so (r:ck):noS (cp r).c=noS r.c:=rfl
theorem uR (ht:iE r e) (hx:kH r e x):noS (doR R S r e).c=eJ R S (noS r.c) x:=by
  obtain ⟨hc,hk⟩:=ht;obtain ⟨a,b,c,d⟩:=hx hc;rw [← xg,doR,so]
  rcases hk with k | k | k
  · have e3 : evR R S r e = fZ R S r e.dev := by unfold evR; rw [if_neg bo, if_neg bo, if_pos k]
    rw [e3]
    by_cases hh:(bZ r e.dev).fP=true
    · have e4:(fZ R S r e.dev).c=dj r.c e.dev (bZ r e.dev).inc:=if_pos hh;rw [e4,a k hh,eJ,vQ];rfl
    · have e4:(fZ R S r e.dev).c=gF R S r.c e.dev (bZ r e.dev).inc (bZ r e.dev).seq:=if_neg hh;rw [e4,b k hh,eJ,vR];rfl
  · have e3 : evR R S r e = {r with c := rmC R S r.c e.dev} := by unfold evR; rw [if_neg bo, if_neg bo, if_neg bo, if_neg bo, if_neg bo, if_neg bo, if_pos k]
    rw [e3,c k,eJ,vP];rfl
  · have e3 : evR R S r e = {r with c := cb R S r.c} := by unfold evR; rw [if_neg bo, if_neg bo, if_neg bo, if_neg bo, if_neg bo, if_neg bo, if_neg bo, if_pos k]
    rw [e3,d k,eJ,vO];rfl
theorem uS (hc:cI r e) (ht:¬ iE r e):noS (doR R S r e).c=noS r.c:=by
  have h3:¬ e.kind=3:=fun q=>ht ⟨hc,.inl q⟩;have h7:¬ e.kind=7:=fun q=>ht ⟨hc,.inr (.inl q)⟩;have h8:¬ e.kind=8:=fun q=>ht ⟨hc,.inr (.inr q)⟩;unfold doR evR;simp only [if_neg h3,if_neg h7,if_neg h8]
  repeat' split
  all_goals rfl
def msT (s:PS):Prop:=0≤s.ag.inc∧∀ m∈s.msg,0≤m.inc∧0≤m.seq∧m.seq≤40
theorem uv {st:List PS} (h:∀ s∈st,msT s) (d:Nat):msT (st.getD d psD):=by
  by_cases hd:d < st.length
  · exact h _ (bG hd)
  · rw [List.getD_eq_getElem?_getD,List.getElem?_eq_none bo];exact ⟨Int.le_refl _,fun m hm=>by cases hm⟩
theorem ku {st:List PS} {d:Nat} {y:PS} (h:∀ s∈st,msT s) (hy:msT y):∀ s∈st.set d y,msT s:=fun s hs =>
  (List.mem_or_eq_of_mem_set hs).elim (h s) fun q=>q▸hy
theorem oh (c : Ctl) : ∀ (l : List Int) {st : List PS}, (∀ s ∈ st, msT s) → ∀ s ∈ dP c st l, msT s
  | [],_,h=>h
  | d::l,st,h=>oh c l (st:=st.set d.toNat (ic (st.getD d.toNat psD) (oJ c d))) (ku h (uv h d.toNat))
theorem oe {s:PS} {m:Msg} (h:msT s) (hm:0≤m.inc∧0≤m.seq∧m.seq≤40):msT (oZ s m) :=
  ⟨h.1,fun y hy=>(List.mem_append.1 (show y∈s.msg++[m] from hy)).elim (h.2 y) fun q=>by rw [List.mem_singleton.1 q];exact hm⟩
theorem xp (h:gq n R S r) (hR:R.length≤16) (hm:∀ s∈r.st,msT s) (hc:cI r e):∀ s∈(doR R S r e).st,msT s:=by
  have hsl:=h.sl;have hsq:=h.ct.sqb hR;have h68:=fun h6 h8=>(pN h6 h8).1 hc;unfold doR cp;refine oh _ _ ?_;have hd0:=uv hm e.dev.toNat;unfold evR
  split
  · rename_i k;obtain ⟨g0, g1, g2⟩ := h68 bo bo;have hv := h.dv e.dev.toNat bo;have hcl := (mx k).1 g2;have hx := hv.cs (cr (r.st.getD e.dev.toNat psD)) (bG hcl);refine ku hm ?_;unfold cv
    split
    · exact ⟨hd0.1,hd0.2⟩
    · split
      · exact oe ⟨hd0.1,hd0.2⟩ ⟨hd0.1,Int.le_refl _,by show (0:Int)≤40;decide⟩
      · split
        · exact oe ⟨hd0.1,hd0.2⟩ ⟨hd0.1,hx.2.1,by have:=hx.2.2.1;show (cr (r.st.getD e.dev.toNat psD)).seq≤40;omega⟩
        · exact ⟨hd0.1,hd0.2⟩
  · split
    · rename_i k;obtain ⟨g0,g1,g2⟩:=h68 bo bo;have hv:=(h.dv e.dev.toNat bo).sq;exact ku hm (oe ⟨hd0.1,hd0.2⟩ ⟨hd0.1,hv.1,by have:=hv.2;show (r.st.getD e.dev.toNat psD).ag.seq≤40;omega⟩)
    · split
      · exact ku hm ⟨hd0.1,fun m q=>hd0.2 m (List.mem_of_mem_drop q)⟩
      · split
        · exact ku hm ⟨hd0.1,hd0.2⟩
        · split
          · exact ku hm (oe ⟨by show 0≤(r.st.getD e.dev.toNat psD).ag.inc+1;have:=hd0.1;omega,hd0.2⟩ ⟨by show 0≤(r.st.getD e.dev.toNat psD).ag.inc+1;have:=hd0.1;omega,Int.le_refl _,by show (0:Int)≤40;decide⟩)
          · repeat' split
            all_goals exact hm
theorem uu {B:Nat} (P:bN n R S) (h:gq n R S r) (hm:∀ s∈r.st,msT s) (hq:∀ s∈r.st,fr B s) (hB:B≤1000000) (h12:n≤12) (ht:iE r e) (hx:kH r e x) {k:Nat} (hk:k < 4096):eG n k x=0:=by
  obtain ⟨hc,hkd⟩:=ht;obtain ⟨a,b,c,d⟩:=hx hc;have hsl:=h.sl;have hn0:=P.n0;have go:bP x∧x.dev < n:=by
    rcases hkd with k3 | k7 | k8
    · obtain ⟨g0, g1, g2⟩ := (pN bo bo).1 hc;have hmem : bZ r e.dev ∈ (r.st.getD e.dev.toNat psD).msg := bG ((kQ k3).1 g2);have hs : r.st.getD e.dev.toNat psD ∈ r.st := bG bo;obtain ⟨m1, m2, m3⟩ := (hm _ hs).2 _ hmem;have m4 := ((h.dv e.dev.toNat bo).ms _ hmem).1;have m5 := (hq _ hs).2.2
      by_cases hh:(bZ r e.dev).fP=true
      · rw [a k3 hh];exact ⟨⟨⟨by show (1:Int)≤2;decide,by show (2:Int)≤4;decide⟩,⟨g0,by show e.dev < 12;omega⟩,⟨m1,by show (bZ r e.dev).inc≤_;omega⟩,⟨by show (0:Int)≤0;decide,by show (0:Int)≤2147483647;decide⟩,fun _=>rfl,fun q=>absurd (show (2:Int)=3 from q) (by decide),fun q=>absurd (show (2:Int)=4 from q) (by decide)⟩,by show e.dev < n;omega⟩
      · rw [b k3 hh];exact ⟨⟨⟨by show (1:Int)≤1;decide,by show (1:Int)≤4;decide⟩,⟨g0,by show e.dev < 12;omega⟩,⟨m1,by show (bZ r e.dev).inc≤_;omega⟩,⟨m2,by show (bZ r e.dev).seq≤_;omega⟩,fun q=>absurd (show (1:Int)=2 from q) (by decide),fun q=>absurd (show (1:Int)=3 from q) (by decide),fun q=>absurd (show (1:Int)=4 from q) (by decide)⟩,by show e.dev < n;omega⟩
    · obtain ⟨g0,g1,g2⟩:=(pN bo bo).1 hc;rw [c k7];exact ⟨⟨⟨by show (1:Int)≤3;decide,by show (3:Int)≤4;decide⟩,⟨g0,by show e.dev < 12;omega⟩,⟨by show (0:Int)≤0;decide,by show (0:Int)≤2147483647;decide⟩,⟨by show (0:Int)≤0;decide,by show (0:Int)≤2147483647;decide⟩,fun q=>absurd (show (3:Int)=2 from q) (by decide),fun _=>⟨rfl,rfl⟩,fun q=>absurd (show (3:Int)=4 from q) (by decide)⟩,by show e.dev < n;omega⟩
    · rw [d k8];exact ⟨by decide,by show (0:Int) < n;omega⟩
  unfold eG;rw [if_neg (fun q=>q.elim (fun q=>q go.1) fun q=>by have:=go.2;omega),if_neg bo]
theorem yQ {p : eH} {vs : List Bool} {x : Run} {y : aU} (hg : xn p vs.length) (h1 : 1 ≤ vs.length) (h4 : vs.length ≤ 4) (hx : er (aY p) (eh (aL p.ay (aY p) vs.length)) vs.length 1000 x ∧ bh x = gR (aY p) (eh (aL p.ay (aY p) vs.length)) vs)
    (hy:(QAt (aY p) (eh (aL p.ay (aY p) vs.length)) vs.length 1000 y∧y.b.2.ay=p.ay)∧aM y=gR (aY p) (eh (aL p.ay (aY p) vs.length)) vs):∃ S,aL p.ay (aY p) vs.length=some S∧Beg p.ay (aY p) S vs.length x y∧(∀ s∈(bh x).st,msT s)∧noS (bh x).c=fQ (aY p) S (vs.length:Int) []:=by
  obtain ⟨⟨g1,g2⟩,g3,g4⟩:=hg;obtain ⟨S,hS⟩:=Option.isSome_iff_exists.1 g1;have hl:(aY p).length≤3:=by rw [ei];exact g3
  obtain ⟨_,P,_⟩:=dQ hS bo;have Q:=ui hS bo;rw [hS] at hx hy;have P:bN vs.length (aY p) S:=P;refine ⟨S,hS,⟨P,Q,h1,h4,hl,hS,⟨hx.1,hy.1.1,hy.2.trans hx.2.symm,hy.1.2⟩,?_,?_⟩,?_,by rw [hx.2];rfl⟩
  · rw [hx.2];exact wz P Q
  · rw [hx.2];exact yu P Q h4 hl
  · rw [hx.2];unfold gR cp;refine oh _ _ fun s hs=>?_;simp only [List.mem_map] at hs;obtain ⟨b,_,rfl⟩:=hs;exact ⟨by first | (show (0:Int)≤0;decide) | (show (0:Int)≤1;decide),fun m hm=>by cases hm⟩
theorem ke.skip {sg:Bool} {S:List (List Int)} {k:Nat} {x:Run} {y:aU} (h:ke sg R S n k x y):ke sg R S n (k+1) x y:=⟨h.T.mono bo,h.I,by have:=h.M;omega⟩
structure Fol (sg:Bool) (R:List (List Chg)) (S:List (List Int)) (n k:Nat) (x:Run) (y:aU) (g:Lg):Prop where
  T:ke sg R S n k x y
  M:∀ s∈(bh x).st,msT s
  L:∃ lg,dO R S (n:Int) g lg∧lg.length≤k∧noS (bh x).c=fQ R S (n:Int) lg
section
variable {sg:Bool} {k:Nat} {x x0 x1:Run} {y y0 y1:aU} {g g1:Lg} {z:Rec}
theorem Fol.skip (h:Fol sg R S n k x y g):Fol sg R S n (k+1) x y g:=⟨h.T.skip,h.M,by obtain ⟨lg,a,b,c⟩:=h.L;exact ⟨lg,a,by omega,c⟩⟩
theorem Fol.qb (h:Fol sg R S n k x y g):∀ s∈(bh x).st,fr (1000+1001 * k) s:=(show ROK _ _ _ _ _ from h.T.T.a.ok).qb
theorem Fol.app (h:Fol sg R S n k x y g) (H:Beg sg R S n x0 y0) (hk:k≤100) (ht:iE (aM y) e) (hx:kH (aM y) e z) {lg:List Rec} (hl:lg.length≤k):eG (n:Int) lg.length z=0:=by
  rw [h.T.T.e] at ht hx;exact uu H.P h.T.I h.M h.qb bo (by have:=H.n4;omega) ht hx bo
theorem Fol.note (h:Fol sg R S n k x y g) (H:Beg sg R S n x0 y0) (hk:k≤100) (ht:iE (aM y) e) (hx:kH (aM y) e z):eG (g.m.2.target.xs.length:Int) g.l.xs.length z=0:=by
  obtain ⟨lg,a,b,_⟩:=h.L;rw [a.ma.tg,a.ls];exact h.app H hk ht hx b
theorem uP (h:ke sg R S n k x y) (hc:cI (bh x) e) (hX:DoX x x1 e):bh x1=doR R S (bh x) e:=by
  rw [(hX.1 hc).2,h.T.a.rd,h.T.a.st]
theorem Fol.told (h : Fol sg R S n k x y g) (H : Beg sg R S n x0 y0) (hk : k ≤ 100) (ht : iE (aM y) e) (hx : kH (aM y) e z) (hg : cc g.m.2 g1.m.2 ∧ bb g1.m.2 = eJ (cq g.m.2) (cP g.m.2) (bb g.m.2) z ∧ g1.l.xs = g.l.xs ++ [z]) (hX : DoX x x1 e) (hY : DoY y y1 e) :
    Fol sg R S n (k+1) x1 y1 g1∧∃ lg,g1.l.xs=lg++[z]∧dO R S (n:Int) g1 (lg++[z])∧noS (bh x).c=fQ R S (n:Int) lg∧noS (bh x1).c=fQ R S (n:Int) (lg++[z])∧lg.length≤k:=by
  obtain ⟨lg,a,b,c⟩:=h.L;have e0:=h.app H hk ht hx b;rw [h.T.T.e] at ht hx;have L1:=a.app e0 hg.1 hg.2.1 hg.2.2;have eR:=uP h.T ht.1 hX;have e1:noS (bh x1).c=fQ R S (n:Int) (lg++[z]):=by
    rw [eR,uR ht hx,c];unfold fQ;rw [List.foldl_append];rfl
  refine ⟨⟨h.T.step H hX hY,?_,lg++[z],L1,by simp;omega,e1⟩,lg,by rw [hg.2.2,a.ls],L1,c,e1,b⟩;rw [eR];exact xp h.T.I (by have:=H.R3;omega) h.M ht.1
theorem Fol.mute (h:Fol sg R S n k x y g) (H:Beg sg R S n x0 y0) (hc:cI (aM y) e) (ht:¬ iE (aM y) e) (hX:DoX x x1 e) (hY:DoY y y1 e):Fol sg R S n (k+1) x1 y1 g:=by
  obtain ⟨lg,a,b,c⟩:=h.L;rw [h.T.T.e] at ht hc;have eR:=uP h.T hc hX;refine ⟨h.T.step H hX hY,?_,lg,a,by omega,?_⟩
  · rw [eR];exact xp h.T.I (by have:=H.R3;omega) h.M hc
  · rw [eR,uS hc ht];exact c
end
end
open Go.RowKit Go.Proofs.Ytobggnpnochnnaa
theorem yw (w : World) (F : Nat → Prop) (hF : Old F w) (M : MS [] w) (rr : Nat × aU) (rr_w : (ptE rrE 95).wf (Fr F []) w.heap rr) (ev : Evt) (ev_w : aZ.wf (Fr F []) w.heap ev) (ok : fJ rr.2 ∧ rr.2.b.2.waiting.xs.length ≤ 1000 ∧ rr.2.ag.xs.length ≤ 12) :
 Calls Try.prog 59 #[pT rr.1 0,.agg (aZ.cells ev).toArray] w fun e w'=>∃ (r0:Rec),e = .returned (.tuple #[.agg (aV.cells r0).toArray,bD (iE (aM rr.2) ev)])∧aV.wf (Fr F []) w'.heap r0∧kH (aM rr.2) ev r0∧Tr [] w [] w':=by
 have:rr.2.b.2.rounds.xs.length≤9223372036854775807:=(rr_w.2.2.1.2.2.2.1).1.len;have:rr.2.b.2.ai.xs.length≤9223372036854775807:=(rr_w.2.2.1.2.2.2.2.1).1.len;obtain ⟨_,_⟩:ah rr.2.b.2.round:=rr_w.2.2.1.2.2.2.2.2.1;obtain ⟨_,_⟩:ah rr.2.b.2.seq:=rr_w.2.2.1.2.2.2.2.2.2.2.1;have:rr.2.b.2.target.xs.length≤9223372036854775807:=(rr_w.2.2.1.2.2.2.2.2.2.2.2.1).1.len;have:rr.2.b.2.known.xs.length≤9223372036854775807:=(rr_w.2.2.1.2.2.2.2.2.2.2.2.2.1).1.len;have:rr.2.b.2.waiting.xs.length≤9223372036854775807:=(rr_w.2.2.1.2.2.2.2.2.2.2.2.2.2).1.len;have:rr.2.vol.xs.length≤9223372036854775807:=(rr_w.2.2.2.1).1.len;have:rr.2.ag.xs.length≤9223372036854775807:=(rr_w.2.2.2.2.1).1.len;have:rr.2.au.xs.length≤9223372036854775807:=(rr_w.2.2.2.2.2.1).1.len;have:rr.2.msgs.xs.length≤9223372036854775807:=(rr_w.2.2.2.2.2.2).1.len;obtain ⟨_,_⟩:ah ev.kind:=ev_w.1;obtain ⟨_,_⟩:ah ev.dev:=ev_w.2;obtain ⟨hLR,hwt,hag⟩:=ok;obtain ⟨hL1,hL2,hL3⟩:=id hLR;refine go Try.func59 rfl 49 rfl [wfF (ptE rrE 95) rr,wfF aZ ev] [] hF M ⟨rr_w,ev_w,trivial⟩ trivial ?_;intro a S;have hD:=noI F;refine rs0 ?_;refine nbp S (cU _ (S.e rfl) rfl) ?_;clear S;intro a u b3 S;refine nbp S (bq _ kz rfl) ?_;clear S;intro a u b4 S;refine ens S (la (av rfl)) ?_;clear S;intro a u S;refine wp_seq ?_;refine rs S (tr (mv rfl)<|tr (eQ 0 rfl rfl iz)<|tr (oc (fun S=>wa _ _ S.x (.nil _) rr (dn0 (S.u 0 rfl)) ev (dn0 (S.u 1 rfl)) (⟨by first | assumption | exact hLR,by first | assumption | omega | (dsimp only;omega)⟩)) wY)<|la (jC rfl)) ?_;clear S;intro a u S;refine cd S rfl ?_ ?_
 ·intro hc0;refine rs S (tr (ov fun S=>dE S [] [iI 0, iI 0, iI 0, iI 0])<|tr (c0 1 rfl rfl rfl)<|la (av rfl)) ?_; clear S; intro a u S;refine wp_ret (aF ?_);refine gC rfl S.s rfl rfl (S.k 1 rfl).all fY ?_;replace S := S.pk [];refine ⟨(⟨0, 0, 0, 0⟩ : Rec), (r2 rfl (vf ?_)), ⟨(show ah 0 from bp), (show ah 0 from bp), (show ah 0 from bp), (show ah 0 from bp)⟩, ?_, S.m.c⟩
  ·first
   | exact fun q=>hc0 q.1
   | exact ⟨hcan,.inl hc2⟩
   | exact ⟨hcan,.inr (.inl ba)⟩
   | exact ⟨hcan,.inr (.inr ba)⟩
   | exact fun q=>by rcases q.2 with h | h | h <;> omega
  first
  | exact fun q=>absurd q hc0
  | (intro _
     refine ⟨fun k3 hh=>?_,fun k3 hh=>?_,fun k7=>?_,fun k8=>?_⟩
     all_goals first
     | (exfalso;omega)
     | (rw [hml];done)
     | (rw [hml] at hh;first | exact absurd hh ba | exact absurd ba hh)
     | rfl)
 intro hc1;have hcan:cI (aM rr.2) ev:=Classical.not_not.1 hc1;refine wp_skip (ak (wp_seq ?_));refine rs S (tr (aw 0 0 rfl eS)<|la (ldk 0 sC3 rfl rfl rfl)) ?_;clear S;intro a u S;refine wp_block ?_;refine rs S (tr (cu rfl rfl)<|la (av rfl)) ?_;clear S;intro a u S;refine cd S rfl ?_ ?_
 ·intro hc2;obtain ⟨hdv, hdw', _⟩ := (pN bo bo).1 hcan;have hdw : ev.dev < (rr.2.ag.xs.length : Int) := by have := eu rr.2; exact this ▸ hdw'
  have hcl:=(kQ hc2).1 ((uZ bo bo hdv hdw).1 hcan);have hcm0:0 < (rr.2.msgs.xs.getD ev.dev.toNat (slE aC).aa).xs.length:=hcl;have hml:bZ (aM rr.2) ev.dev=(rr.2.msgs.xs.getD ev.dev.toNat (slE aC).aa).xs.getD 0 aC.aa:=by unfold bZ;rw [kX rr.2 hdv hdw];rfl
  refine wp_seq ?_;have hn6:rr.2.msgs.xs.length≤9223372036854775807:=(((S.u 0 rfl).2.2).2.2.2.2).1.len;have hn7:((rr.2.msgs.xs.getD ((ev.dev).toNat) (slE aC).aa).xs).length≤9223372036854775807:=(((((S.u 0 rfl).2.2).2.2.2.2).1.wf (ev.dev).toNat bo)).1.len;obtain ⟨hl8,hu8⟩:ah ((((rr.2.msgs.xs.getD ((ev.dev).toNat) (slE aC).aa).xs).getD 0 aC.aa).inc):=id (((((((S.u 0 rfl).2.2).2.2.2.2).1.wf (ev.dev).toNat bo)).1.wf 0 bo).2.1);obtain ⟨hl9,hu9⟩:ah ((((rr.2.msgs.xs.getD ((ev.dev).toNat) (slE aC).aa).xs).getD 0 aC.aa).seq):=id (((((((S.u 0 rfl).2.2).2.2.2.2).1.wf (ev.dev).toNat bo)).1.wf 0 bo).2.2);obtain ⟨z0,hz0⟩:=S.z;refine dr (P:=Try.prog) S 11 [] [(16,.is _),(17,.is _),(18,.is _),(19,.is _),(20,.is _),(21,.is _),(22,.is _),(23,.is _),(24,.is _),(25,.is _),(6,.of (fun z w=>∃ (x6a:Nat),z=pT x6a 0∧(Blk w.heap x6a [.bool false,iI 0,iI 0] 141∧z0≤x6a∧¬ In [] x6a)) (fun v w w' c h=>let ⟨x6a,hv,h0⟩:=h;⟨x6a,hv,⟨Blk.tr h0.1 c h0.2.2,h0.2⟩⟩))] [[],[16],[17],[18],[],[20],[19,21],[22],[23],[24],[]] [25,6] _ ⟨qd (mv rfl),qd (nk rfl),qd (aw 0 4 rfl cV),qd (ov fun S=>aq jR (S.e rfl) ((S.u 0 rfl).1.cell (j:=4) rfl)),qd (aw 0 1 rfl eS),qd (ldk 0 sC3 rfl rfl rfl),qd (cY mJ jP rfl rfl (ev.dev).toNat bo bo ((((S.u 0 rfl).2.2).2.2.2.2).1.adr (i:=(ev.dev).toNat) bo)),qd (ov fun S=>aq lH (S.e rfl) ((((S.u 0 rfl).2.2).2.2.2.2).1.cell (ev.dev).toNat bo 0 _ rfl)),qd (cY gK xh rfl rfl 0 rfl bo ((((((S.u 0 rfl).2.2).2.2.2.2).1.wf (ev.dev).toNat bo)).1.adr (i:=0) bo)),qd (ov fun S=>cJ (S.e rfl) ((((((S.u 0 rfl).2.2).2.2.2.2).1.wf (ev.dev).toNat bo)).1.fO 0 bo _ rfl _ rfl) mU),?_,trivial⟩ ?_
  ·skip;intro a u S G hE;exact hnb 6 S.m (bq [.bool false,iI 0,iI 0] iy rfl) fun g=>(show ∃ _,_ from ⟨_,rfl,Blk.new _ [.bool false,iI 0,iI 0] 141,hz0▸G.size,fun h=>absurd (S.M.lt _ (jF (fun _ h=>by simp at h) h)) (Nat.lt_irrefl _)⟩)
  have S0:=S;clear S;intro a u S G hE;obtain ⟨e6,-⟩:=hE;obtain ⟨x6_10,e6,X10⟩:=e6;replace S:=S.ext e6;clear e6;have hltx6_10:x6_10 < u.heap.size:=X10.1.lt;have hgex6_10:=X10.2.1;replace S:=S0.own S [] G (by intro j f hj;simp at hj) [blO x6_10 [.bool false,iI 0,iI 0] 141] (⟨fun _ _ h=>h,trivial⟩) (fun k hk=>by simp only [ow,rwO,blO,iu,In,one,or_false] at hk;omega) (by intro f hf V;simp only [List.mem_cons,List.not_mem_nil,or_false] at hf;subst hf <;> first | exact X10.1);clear S0;obtain ⟨hl11,hu11⟩:ah ((((rr.2.msgs.xs.getD ((ev.dev).toNat) (slE aC).aa).xs).getD 0 aC.aa).inc):=id (((((((S.u 0 rfl).2.2).2.2.2.2).1.wf (ev.dev).toNat bo)).1.wf 0 bo).2.1);obtain ⟨hl12,hu12⟩:ah ((((rr.2.msgs.xs.getD ((ev.dev).toNat) (slE aC).aa).xs).getD 0 aC.aa).seq):=id (((((((S.u 0 rfl).2.2).2.2.2.2).1.wf (ev.dev).toNat bo)).1.wf 0 bo).2.2);obtain ⟨hl13,hu13⟩:ah ev.dev:=id ((S.u 1 rfl).2);refine ens S (la (c0 2 rfl rfl rfl)) ?_;clear S;intro a u S;refine wp_seq ?_;refine rs S (tr (aw 0 0 rfl jK)<|la (ldk 2 sC4 rfl rfl rfl)) ?_;clear S;intro a u S;refine cd S rfl ?_ ?_
  ·intro hc3;refine rs S (tr (aw 0 1 rfl eS)<|tr (ldk 0 sC3 rfl rfl rfl)<|tr (aw 0 1 rfl jK)<|tr (ldk 2 sC3 rfl rfl rfl)<|tr (ov fun S=>dE S [(0, iI 2), (1, iI ev.dev), (2, iI ((((rr.2.msgs.xs.getD ((ev.dev).toNat) (slE aC).aa).xs).getD 0 aC.aa).inc))] [iI 2, iI ev.dev, iI ((((rr.2.msgs.xs.getD ((ev.dev).toNat) (slE aC).aa).xs).getD 0 aC.aa).inc), iI 0])<|tr (c0 1 rfl rfl rfl)<|la (av rfl)) ?_; clear S; intro a u S;refine wp_ret (aF (bR (aF ?_)));refine gC rfl S.s rfl rfl (S.k 1 rfl).all fY ?_;replace S := S.pk [];refine ⟨(⟨2, ev.dev, (((rr.2.msgs.xs.getD ((ev.dev).toNat) (slE aC).aa).xs).getD 0 aC.aa).inc, 0⟩ : Rec), (r2 rfl (vt ?_)), ⟨(show ah 2 from bp), (S.u 1 rfl).2, ((((((S.u 0 rfl).2.2).2.2.2.2).1.wf (ev.dev).toNat bo)).1.wf 0 bo).2.1, (show ah 0 from bp)⟩, ?_, S.m.c⟩
   ·first
    | exact fun q=>hc0 q.1
    | exact ⟨hcan,.inl hc2⟩
    | exact ⟨hcan,.inr (.inl ba)⟩
    | exact ⟨hcan,.inr (.inr ba)⟩
    | exact fun q=>by rcases q.2 with h | h | h <;> omega
   first
   | exact fun q=>absurd q hc0
   | (intro _
      refine ⟨fun k3 hh=>?_,fun k3 hh=>?_,fun k7=>?_,fun k8=>?_⟩
      all_goals first
      | (exfalso;omega)
      | (rw [hml];done)
      | (rw [hml] at hh;first | exact absurd hh ba | exact absurd ba hh)
      | rfl)
  intro hc4;refine wp_skip (ak ?_);refine rs S (tr (aw 0 1 rfl eS)<|tr (ldk 0 sC3 rfl rfl rfl)<|tr (aw 0 1 rfl jK)<|tr (ldk 2 sC3 rfl rfl rfl)<|tr (aw 0 2 rfl jK)<|tr (ldk 2 sC3 rfl rfl rfl)<|tr (ov fun S=>dE S [(0,iI 1),(1,iI ev.dev),(2,iI ((((rr.2.msgs.xs.getD ((ev.dev).toNat) (slE aC).aa).xs).getD 0 aC.aa).inc)),(3,iI ((((rr.2.msgs.xs.getD ((ev.dev).toNat) (slE aC).aa).xs).getD 0 aC.aa).seq))] [iI 1,iI ev.dev,iI ((((rr.2.msgs.xs.getD ((ev.dev).toNat) (slE aC).aa).xs).getD 0 aC.aa).inc),iI ((((rr.2.msgs.xs.getD ((ev.dev).toNat) (slE aC).aa).xs).getD 0 aC.aa).seq)])<|tr (c0 1 rfl rfl rfl)<|la (av rfl)) ?_;clear S;intro a u S;refine wp_ret (bR (aF ?_));refine gC rfl S.s rfl rfl (S.k 1 rfl).all fY ?_;replace S:=S.pk [];refine ⟨(⟨1,ev.dev,(((rr.2.msgs.xs.getD ((ev.dev).toNat) (slE aC).aa).xs).getD 0 aC.aa).inc,(((rr.2.msgs.xs.getD ((ev.dev).toNat) (slE aC).aa).xs).getD 0 aC.aa).seq⟩:Rec),(r2 rfl (vt ?_)),⟨(show ah 1 from bp),(S.u 1 rfl).2,((((((S.u 0 rfl).2.2).2.2.2.2).1.wf (ev.dev).toNat bo)).1.wf 0 bo).2.1,((((((S.u 0 rfl).2.2).2.2.2.2).1.wf (ev.dev).toNat bo)).1.wf 0 bo).2.2⟩,?_,S.m.c⟩
  ·first
   | exact fun q=>hc0 q.1
   | exact ⟨hcan,.inl hc2⟩
   | exact ⟨hcan,.inr (.inl ba)⟩
   | exact ⟨hcan,.inr (.inr ba)⟩
   | exact fun q=>by rcases q.2 with h | h | h <;> omega
  first
  | exact fun q=>absurd q hc0
  | (intro _
     refine ⟨fun k3 hh=>?_,fun k3 hh=>?_,fun k7=>?_,fun k8=>?_⟩
     all_goals first
     | (exfalso;omega)
     | (rw [hml];done)
     | (rw [hml] at hh;first | exact absurd hh ba | exact absurd ba hh)
     | rfl)
 intro hc5;refine rs S (tr (cu rfl rfl)<|la (av rfl)) ?_;clear S;intro a u S;refine cd S rfl ?_ ?_
 ·intro hc6;refine rs S (tr (aw 0 1 rfl eS)<|tr (ldk 0 sC3 rfl rfl rfl)<|tr (ov fun S=>dE S [(0, iI 3), (1, iI ev.dev)] [iI 3, iI ev.dev, iI 0, iI 0])<|tr (c0 1 rfl rfl rfl)<|la (av rfl)) ?_; clear S; intro a u S;refine wp_ret (bR (aF ?_));refine gC rfl S.s rfl rfl (S.k 1 rfl).all fY ?_;replace S := S.pk [];refine ⟨(⟨3, ev.dev, 0, 0⟩ : Rec), (r2 rfl (vt ?_)), ⟨(show ah 3 from bp), (S.u 1 rfl).2, (show ah 0 from bp), (show ah 0 from bp)⟩, ?_, S.m.c⟩
  ·first
   | exact fun q=>hc0 q.1
   | exact ⟨hcan,.inl hc2⟩
   | exact ⟨hcan,.inr (.inl ba)⟩
   | exact ⟨hcan,.inr (.inr ba)⟩
   | exact fun q=>by rcases q.2 with h | h | h <;> omega
  first
  | exact fun q=>absurd q hc0
  | (intro _
     refine ⟨fun k3 hh=>?_,fun k3 hh=>?_,fun k7=>?_,fun k8=>?_⟩
     all_goals first
     | (exfalso;omega)
     | (rw [hml];done)
     | (rw [hml] at hh;first | exact absurd hh ba | exact absurd ba hh)
     | rfl)
 intro hc7;refine rs S (tr (cu rfl rfl)<|la (av rfl)) ?_;clear S;intro a u S;refine cd S rfl ?_ ?_
 ·intro hc8;refine rs S (tr (ov fun S=>dE S [(0, iI 4)] [iI 4, iI 0, iI 0, iI 0])<|tr (c0 1 rfl rfl rfl)<|la (av rfl)) ?_; clear S; intro a u S;refine wp_ret (bR (aF ?_));refine gC rfl S.s rfl rfl (S.k 1 rfl).all fY ?_;replace S := S.pk [];refine ⟨(⟨4, 0, 0, 0⟩ : Rec), (r2 rfl (vt ?_)), ⟨(show ah 4 from bp), (show ah 0 from bp), (show ah 0 from bp), (show ah 0 from bp)⟩, ?_, S.m.c⟩
  ·first
   | exact fun q=>hc0 q.1
   | exact ⟨hcan,.inl hc2⟩
   | exact ⟨hcan,.inr (.inl ba)⟩
   | exact ⟨hcan,.inr (.inr ba)⟩
   | exact fun q=>by rcases q.2 with h | h | h <;> omega
  first
  | exact fun q=>absurd q hc0
  | (intro _
     refine ⟨fun k3 hh=>?_,fun k3 hh=>?_,fun k7=>?_,fun k8=>?_⟩
     all_goals first
     | (exfalso;omega)
     | (rw [hml];done)
     | (rw [hml] at hh;first | exact absurd hh ba | exact absurd ba hh)
     | rfl)
 intro hc9;refine wp_skip (bf (ak ?_));refine rs S (tr (ov fun S=>dE S [] [iI 0,iI 0,iI 0,iI 0])<|tr (c0 1 rfl rfl rfl)<|la (av rfl)) ?_;clear S;intro a u S;refine wp_ret ?_;refine gC rfl S.s rfl rfl (S.k 1 rfl).all fY ?_;replace S:=S.pk [];refine ⟨(⟨0,0,0,0⟩:Rec),(r2 rfl (vf ?_)),⟨(show ah 0 from bp),(show ah 0 from bp),(show ah 0 from bp),(show ah 0 from bp)⟩,?_,S.m.c⟩
 ·first
  | exact fun q=>hc0 q.1
  | exact ⟨hcan,.inl hc2⟩
  | exact ⟨hcan,.inr (.inl ba)⟩
  | exact ⟨hcan,.inr (.inr ba)⟩
  | exact fun q=>by rcases q.2 with h | h | h <;> omega
 first
 | exact fun q=>absurd q hc0
 | (intro _
    refine ⟨fun k3 hh=>?_,fun k3 hh=>?_,fun k7=>?_,fun k8=>?_⟩
    all_goals first
    | (exfalso;omega)
    | (rw [hml];done)
    | (rw [hml] at hh;first | exact absurd hh ba | exact absurd ba hh)
    | rfl)
open Go.RowKit Go.Proofs.Ytobggnpnochnnaa
open Go.RowKit Go.Proofs.Ytobggnpnochnnaa
open Go.RowKit Go.Proofs.Ytobggnpnochnnaa
theorem zF (w : World) (F : Nat → Prop) (hF : Old F w) (T : Nat) (M : MS [one T] w) (T_l : Sl Int) (T_w : (slE ae).wf (Fr F [one T]) w.heap T_l) (T_K : TpB 112 T T_l w) (n : Int) (n_h : ah n) (hn : 1 ≤ n ∧ n ≤ 12) :
 Calls Try.prog 30 #[pT T 0,iI n] w fun e w'=>∃ (r:eH),e = .returned (.agg (aO.cells r).toArray)∧aO.wf (Fr F [one T]) w'.heap r∧xn r n∧TpB 112 T T_l w'∧Tr [one T] w [one T] w':=by
 obtain ⟨n_hl,n_hu⟩:ah n:=id n_h;refine go Try.func30 rfl 73 rfl [wfF (slE ae) T_l] [tpO 112 T T_l] hF M ⟨T_w,trivial⟩ ⟨T_K,trivial⟩ ?_;intro a S;refine rs0 ?_;refine nbp S (bq _ wB rfl) ?_;clear S;intro a u b4 S;refine ent (rs0 ?_);refine sp S (la (mv rfl)) ?_;clear S;intro a u S;refine cl S (gV _ _ S.x T (S.M.pick [0] (by decide)) T_l (dn1 (js:=[0]) (S.u 0 rfl)) (S.t 0 rfl) 2 bp) kD ?_;rintro e u ⟨r_t12,rfl,hr_t12,tK,T0⟩;refine ⟨_,rfl,fun a s=>?_⟩;replace S:=S.k1 0 rfl s T0 tK;clear s T0 tK;refine sp S (la (cu rfl rfl)) ?_;clear S;intro a u S;obtain ⟨bv13,hbv13⟩:∃ b:Bool,(b=true)↔(r_t12=0):=⟨decide (r_t12=0),by simp⟩;replace S:=S.ext (d:=13) (v:=bD (bv13=true)) ((S.get 13 rfl).trans (vb hbv13.symm));refine sp S (la (ov fun S=>dE S [(0,bD (bv13=true))] [bD (bv13=true),.slice none 0 0])) ?_;clear S;intro a u S;refine nbp S (bq _ wB rfl) ?_;clear S;intro a u b5 S;refine ens S (la (c0 2 rfl rfl rfl)) ?_;clear S;intro a u S;refine rs0 ?_;refine sp S (la (mv rfl)) ?_;clear S;intro a u S;refine mk (E:=ae) S (0:Int) (n).toNat bn iZ3 rfl rfl bo bo bo (by unfold maxLen;omega) (fun _ _=>by first | exact bp | trivial | exact cg) ?_;clear S;intro a u ad16 S;have hrl16:(List.replicate (n).toNat (0:Int)).length=(n).toNat:=List.length_replicate;refine ens S (la (av rfl)) ?_;clear S;intro a u S;refine wp_seq (rs0 ?_);refine sp S (la (mv rfl)) ?_;clear S;intro a u S;refine cl S (gV _ _ S.x T (S.M.pick [0] (by decide)) T_l (dn1 (js:=[0]) (S.u 0 rfl)) (S.t 0 rfl) 4 bp) kD ?_;rintro e u ⟨r_t18,rfl,hr_t18,tK,T0⟩;refine ⟨_,rfl,fun a s=>?_⟩;replace S:=S.k1 0 rfl s T0 tK;clear s T0 tK;refine ens S (la (av rfl)) ?_;clear S;intro a u S;refine wp_block ?_;replace S:=S.nr (slE ao) 122;refine lp7 (fun (r:Int) (rd_a:Option Addr) (rd_c:Nat) (rd:List (Sl Chg)) (now_a:Option Addr) (now_c:Nat) (now:List Int)=>[(0,pT T 0),(1,iI n),(4,pT b4 0),(5,pT b5 0),(6,.slice now_a now.length now_c),(7,iI r)]) (fun (r:Int) (rd_a:Option Addr) (rd_c:Nat) (rd:List (Sl Chg)) (now_a:Option Addr) (now_c:Nat) (now:List Int)=>[tpO 112 T T_l,blO b4 [.bool false,.slice none 0 0] 47,blO b5 [bD (bv13=true),.slice rd_a rd.length rd_c] 47,rwO ae 3 w.heap.size now_a now_c now,rwO (slE ao) 122 w.heap.size rd_a rd_c rd]) (fun (r:Int) (rd_a:Option Addr) (rd_c:Nat) (rd:List (Sl Chg)) (now_a:Option Addr) (now_c:Nat) (now:List Int)=>(0≤r∧r≤3)∧(rd.length:Int)+r≤3∧mG bv13 n (rd.map fun l=>l.xs) now∧∀ x∈rd,0 < x.xs.length) (fun (r:Int) (rd_a:Option Addr) (rd_c:Nat) (rd:List (Sl Chg)) (now_a:Option Addr) (now_c:Nat) (now:List Int)=>r.toNat) S r_t18 none 0 ([]) ad16 ((n).toNat) (List.replicate (n).toNat (0:Int)) (bB rfl) rfl ?_ ?_
 ·exact ⟨bp,by simp;omega,mG.init _ n,fun x h=>by cases h⟩
 clear S;intro r rd_a rd_c rd now_a now_c now a u S hR;have rd_len:=(S.row 4 rfl).aE;simp only [maxLen] at rd_len;have now_len:=(S.row 3 rfl).aE;simp only [maxLen] at now_len;obtain ⟨⟨hr0,hr3⟩,hrl,hP,hne⟩:=hR;refine wp_seq ?_;refine rs S (tr (mv rfl)<|la (mP rfl rfl)) ?_;clear S;intro a u S;refine cd S rfl ?_ ?_
 ·intro hc0;refine wp_skip (ak (wp_seq (wp_block ?_)));refine rs S (la (av rfl)) ?_; clear S; intro a u S;refine wp_seq ?_;refine rs S (la (av rfl)) ?_; clear S; intro a u S;refine wp_block ?_;replace S := S.nr ao 124;refine lp8 (fun (d : Nat) (ls : Int) (l_a : Option Addr) (l_c : Nat) (l : List Chg) (cur_a : Option Addr) (cur_c : Nat) (cur : List Int) => [(0, pT T 0), (1, iI n), (4, pT b4 0), (5, pT b5 0), (6, .slice cur_a cur.length cur_c), (7, iI r), (19, iI r), (20, bD (0 < r)), (9, iN d), (8, .slice l_a l.length l_c)]) (fun (d : Nat) (ls : Int) (l_a : Option Addr) (l_c : Nat) (l : List Chg) (cur_a : Option Addr) (cur_c : Nat) (cur : List Int) => [tpO 112 T T_l, blO b4 [.bool false, .slice none 0 0] 47, blO b5 [bD (bv13 = true), .slice rd_a rd.length rd_c] 47, rwO ae 3 w.heap.size cur_a cur_c cur, rwO (slE ao) 122 w.heap.size rd_a rd_c rd, rwO ao 124 w.heap.size l_a l_c l]) (fun (d : Nat) (ls : Int) (l_a : Option Addr) (l_c : Nat) (l : List Chg) (cur_a : Option Addr) (cur_c : Nat) (cur : List Int) => (d : Int) ≤ n ∧ (-1 ≤ ls ∧ ls < d) ∧ (l.length : Int) ≤ d ∧ kf bv13 n now l ls cur) (fun (d : Nat) (ls : Int) (l_a : Option Addr) (l_c : Nat) (l : List Chg) (cur_a : Option Addr) (cur_c : Nat) (cur : List Int) => (n - d).toNat) S 0 (-1) none 0 ([]) now_a now_c now (bB rfl) rfl ?_ ?_
  ·exact ⟨by omega,bp,by simp,kf.init hP⟩
  clear S;intro d ls l_a l_c l cur_a cur_c cur a u S hR;have l_len:=(S.row 5 rfl).aE;simp only [maxLen] at l_len;have cur_len:=(S.row 3 rfl).aE;simp only [maxLen] at cur_len;obtain ⟨hd,⟨hla0,hla1⟩,hll,hI⟩:=hR;have hcl2:=hI.1.1;have hcu:∀ k,0≤cur.getD k ae.aa∧cur.getD k ae.aa≤3:=hI.1.2;refine wp_seq ?_;refine rs S (tr (mv rfl)<|tr (mv rfl)<|la (dx rfl rfl)) ?_;clear S;intro a u S;refine cd S rfl ?_ ?_
  ·intro hc1;have hcd := hcu d;refine wp_skip (ak (wp_seq (wp_block (wp_seq (rs0 ?_)))));obtain ⟨hl10, hu10⟩ : ah (cur.getD d ae.aa) := id ((S.row 3 rfl).wfi d bo);refine sp S (tr (mv rfl)<|tr (mv rfl)<|tr (ov fun S=>br bn sZ3 (S.e rfl) (S.e rfl) d rfl bo (aN (S.row 3 rfl) (m := d) bo))<|tr (ov fun S=>aq sC3 (S.e rfl) (((S.row 3 rfl).db nz).cell d bo 0 _ rfl))<|tr (cu rfl rfl)<|la (mv rfl)) ?_; clear S; intro a u S;refine (Classical.em ((cur.getD d ae.aa) = 3)).elim (fun hs11 => ?_) (fun hs11 => ?_)
   ·replace S := S.ext (d := 33) (v := .bool true) ((S.get 33 rfl).trans (congrArg Value.bool (decide_eq_true hs11)));refine ens S (tr (bI 33 rfl)<|tr (bI 33 rfl)<|tr (bI 33 rfl)<|la (ov fun S=>dh (S.e rfl) (S.e rfl))) ?_; clear S; intro a u S;refine cdt S rfl ?_;refine wp_exit (aR (cC (ak ?_)));refine rg S (tr (mv rfl)<|tr (cE ((d + 1 : Nat) : Int) rfl rfl (bu bo))<|la (av rfl)) ?_; clear S; intro a u S;refine ak ?_;refine ⟨(d + 1), ls, l_a, l_c, l, cur_a, cur_c, cur, S.re (bB rfl) rfl rfl, ?_, ?_⟩
    ·first
     | exact ⟨by omega,bp,by omega,hI⟩
     | (refine ⟨by omega, bp, by rw [List.length_append, List.length_singleton]; omega, ?_⟩
        have hcd0:cur.getD ((d:Int)).toNat 0=cur.getD d ae.aa:=rfl
        exact kf.step (d:=(d:Int)) hI hla0 hla1 bo (by rw [hcd0];omega) bo (fun q=>by first | rfl | exact absurd hsg q))
    omega
   replace S:=S.ext (d:=33) (v:=.bool false) ((S.get 33 rfl).trans (congrArg Value.bool (decide_eq_false hs11)));refine sp S (la (gon 33 rfl fun S=>aB (S.e rfl))) ?_;clear S;intro a u S;refine strip S.s rfl rfl (gd:=33) rfl ?_;refine cl S (gV _ _ S.x T (S.M.pick [0] (by decide)) T_l (dn1 (js:=[0]) (S.u 0 rfl)) (S.t 0 rfl) 2 bp) kD ?_;rintro e u ⟨r_t35,rfl,hr_t35,tK,T0⟩;refine ⟨_,rfl,fun a s=>?_⟩;replace S:=S.k1 0 rfl s T0 tK;clear s T0 tK;refine ens S (tr (gon 33 rfl fun S=>dG (S.e rfl) (S.e rfl))<|la (ov fun S=>bC (S.e rfl) (S.e rfl))) ?_;clear S;intro a u S;refine cd S rfl ?_ ?_
   ·intro hc2;refine wp_exit (aR (cC (ak ?_)));refine rg S (tr (mv rfl)<|tr (cE ((d + 1 : Nat) : Int) rfl rfl (bu bo))<|la (av rfl)) ?_; clear S; intro a u S;refine ak ?_;refine ⟨(d + 1), ls, l_a, l_c, l, cur_a, cur_c, cur, S.re (bB rfl) rfl rfl, ?_, ?_⟩
    ·first
     | exact ⟨by omega,bp,by omega,hI⟩
     | (refine ⟨by omega, bp, by rw [List.length_append, List.length_singleton]; omega, ?_⟩
        have hcd0:cur.getD ((d:Int)).toNat 0=cur.getD d ae.aa:=rfl
        exact kf.step (d:=(d:Int)) hI hla0 hla1 bo (by rw [hcd0];omega) bo (fun q=>by first | rfl | exact absurd hsg q))
    omega
   intro hc3;refine wp_skip (ak ?_);refine rs S (la (av rfl)) ?_;clear S;intro a u S;refine wp_seq ?_;refine rs S (tr (aw 0 0 rfl iD)<|la (ldk 2 sC4 rfl rfl rfl)) ?_;clear S;intro a u S;refine cd S rfl ?_ ?_
   ·intro hc4;have hsg := hc4;replace S := S.l [(0, pT T 0), (1, iI n), (4, pT b4 0), (5, pT b5 0), (6, .slice cur_a cur.length cur_c), (7, iI r), (19, iI r), (20, bD (0 < r)), (9, iN d), (8, .slice l_a l.length l_c)] (bB rfl);refine dr (P := Try.prog) S 14 [one T] [(40, .is _), (41, .is _), (42, .is _), (43, .is _), (44, .is _), (45, .is _), (46, .is _), (47, .is _), (48, .is _), (49, .is _), (50, .is _), (51, .of (fun z w => ∃ (x51a : Int), z = iI x51a ∧ (0 ≤ x51a ∧ (x51a < (3 - (cur.getD d ae.aa)) ∨ x51a = 0))) (fun v w w' c h => let ⟨x51a, hv, h0⟩ := h; ⟨x51a, hv, h0⟩)), (52, .of (fun z w => ∃ (x51a : Int), z = iI (((cur.getD d ae.aa) + 1) + x51a) ∧ (0 ≤ x51a ∧ (x51a < (3 - (cur.getD d ae.aa)) ∨ x51a = 0))) (fun v w w' c h => let ⟨x51a, hv, h0⟩ := h; ⟨x51a, hv, h0⟩)), (10, .of (fun z w => ∃ (x51a : Int), z = iI (((cur.getD d ae.aa) + 1) + x51a) ∧ (0 ≤ x51a ∧ (x51a < (3 - (cur.getD d ae.aa)) ∨ x51a = 0))) (fun v w w' c h => let ⟨x51a, hv, h0⟩ := h; ⟨x51a, hv, h0⟩))] [[], [], [40, 41], [42], [43], [], [], [], [46, 47], [48], [49], [45, 50], [44, 51], [52]] [10] _ ⟨qd (mv rfl), qd (mv rfl), qd (ov fun S=>br bn sZ3 (S.e rfl) (S.e rfl) d rfl bo (aN (S.row 3 rfl) (m := d) bo)), qd (ov fun S=>aq sC3 (S.e rfl) (((S.row 3 rfl).db nz).cell d bo 0 _ rfl)), qd (cE ((cur.getD d ae.aa) + 1) rfl rfl (bu bo)), qd (mv rfl), qd (mv rfl), qd (mv rfl), qd (ov fun S=>br bn sZ3 (S.e rfl) (S.e rfl) d rfl bo (aN (S.row 3 rfl) (m := d) bo)), qd (ov fun S=>aq sC3 (S.e rfl) (((S.row 3 rfl).db nz).cell d bo 0 _ rfl)), qd (pW (3 - (cur.getD d ae.aa)) rfl rfl (bu bo)), ?_, ?_, ?_, trivial⟩ ?_
    ·skip;intro a u S G hE;refine hcl S (gV _ _ S.x T (S.M.pick [0] (by decide)) T_l (dn1 (js:=[0]) (S.u 0 rfl)) (S.t 0 rfl) (3 - (cur.getD d ae.aa)) bp) kD ?_;rintro e w2 ⟨r_h51,rfl,hr_h51,tK,T0⟩;refine ⟨_,rfl,(show ∃ _,_ from ?_),T0.ch,(S.k1 0 rfl S.s T0 tK).m⟩;exact ⟨r_h51,rfl,hr_h51⟩
    ·skip;intro a u S G hE;obtain ⟨e51,-⟩:=hE;have M0:=S.m;obtain ⟨x51_16,e51,hr16⟩:=e51;replace S:=S.ext e51;exact hvl 52 S M0 (v:=iI (((cur.getD d ae.aa)+1)+x51_16)) (xb (S.e rfl) (S.e rfl) (r:=(((cur.getD d ae.aa)+1)+x51_16)) (bu bo)) (show ∃ _,_ from ⟨x51_16,rfl,hr16⟩)
    ·skip;intro a u S G hE;obtain ⟨e52,-⟩:=hE;have M0:=S.m;obtain ⟨x51_17,e52,hr17⟩:=e52;replace S:=S.ext e52;exact hvl 10 S M0 (v:=iI (((cur.getD d ae.aa)+1)+x51_17)) (gJ (S.e rfl)) (show ∃ _,_ from ⟨x51_17,rfl,hr17⟩)
    clear S;intro a u S G hE;obtain ⟨e10,-⟩:=hE;obtain ⟨x51_18,e10,hr18⟩:=e10;replace S:=S.ext e10;clear e10;refine ent (rs0 ?_);refine sp S (tr (mv rfl)<|tr (mv rfl)<|tr (mv rfl)<|la (ov fun S=>br bn sZ3 (S.e rfl) (S.e rfl) d rfl bo (aN (S.row 3 rfl) (m:=d) bo))) ?_;clear S;intro a u S;refine sp S (la (str (E:=ae) 3 bK rfl rfl rfl d 0 bo nz (((cur.getD d ae.aa)+1)+x51_18) (fun S=>(show ah (((cur.getD d ae.aa)+1)+x51_18) from bp)) rfl (by first | rfl | (show _=_ * 1+0;omega) | (simp [ae];omega) | simp [ae]) rfl)) ?_;clear S;intro a u S;have hls20:(cur.set d (((cur.getD d ae.aa)+1)+x51_18)).length=cur.length:=by simp
    refine ent (r0 ?_);refine sp S (tr (mv rfl)<|tr (mv rfl)<|tr (mv rfl)<|la (ov fun S=>dE S [(0,iN d),(1,iI (((cur.getD d ae.aa)+1)+x51_18))] [iN d,iI (((cur.getD d ae.aa)+1)+x51_18)])) ?_;clear S;intro a u S;refine nbs ao S [(⟨((d:Nat):Int),(((cur.getD d ae.aa)+1)+x51_18)⟩:Chg)] (ee S [(0,.agg #[iN d,iI (((cur.getD d ae.aa)+1)+x51_18)])] eg ju) (fun x hx=>by simp only [List.mem_cons,List.not_mem_nil,or_false] at hx;rw [hx];exact (show ao.wf _ _ (⟨((d:Nat):Int),(((cur.getD d ae.aa)+1)+x51_18)⟩:Chg) from ⟨(show ah ((d:Nat):Int) from bp),(show ah (((cur.getD d ae.aa)+1)+x51_18) from bp)⟩)) ?_;clear S;intro a u b61 S;refine ap (E:=ao) (ys:=[(⟨((d:Nat):Int),(((cur.getD d ae.aa)+1)+x51_18)⟩:Chg)]) S 5 rfl eg ju rfl rfl (show LAt ao _ _ (some ⟨b61,0,none⟩) ([(⟨((d:Nat):Int),(((cur.getD d ae.aa)+1)+x51_18)⟩:Chg)]) from ((S.u 1 rfl)).1) ((S.u 1 rfl)).2.2 (LAt.mem (show LAt ao _ _ (some ⟨b61,0,none⟩) ([(⟨((d:Nat):Int),(((cur.getD d ae.aa)+1)+x51_18)⟩:Chg)]) from ((S.u 1 rfl)).1)) ⟨bM,bL⟩ ?_;clear S;intro a u ad62 cap62 S;refine en S (la (av rfl)) ?_;clear S;intro a u S;refine bf (ak ?_);refine rg S (tr (mv rfl)<|tr (cE ((d+1:Nat):Int) rfl rfl (bu bo))<|la (av rfl)) ?_;clear S;intro a u S;refine ak ?_;refine ⟨(d+1),(d:Int),ad62,cap62,(l++[(⟨((d:Nat):Int),(((cur.getD d ae.aa)+1)+x51_18)⟩:Chg)]),cur_a,cur_c,(cur.set d (((cur.getD d ae.aa)+1)+x51_18)),S.re ⟨rfl,rfl,rfl,rfl,(by first | rfl | (simp only [List.length_set];rfl)),rfl,rfl,rfl,rfl,(by first | rfl | (simp only [List.length_set];rfl)),trivial⟩ rfl rfl,?_,?_⟩
    ·first
     | exact ⟨by omega,bp,by omega,hI⟩
     | (refine ⟨by omega, bp, by rw [List.length_append, List.length_singleton]; omega, ?_⟩
        have hcd0:cur.getD ((d:Int)).toNat 0=cur.getD d ae.aa:=rfl
        exact kf.step (d:=(d:Int)) hI hla0 hla1 bo (by rw [hcd0];omega) bo (fun q=>by first | rfl | exact absurd hsg q))
    omega
   intro hc5;have hsg:=hc5;refine wp_skip (ak (rs0 ?_));refine sp S (tr (mv rfl)<|tr (mv rfl)<|tr (mv rfl)<|la (ov fun S=>br bn sZ3 (S.e rfl) (S.e rfl) d rfl bo (aN (S.row 3 rfl) (m:=d) bo))) ?_;clear S;intro a u S;refine sp S (la (str (E:=ae) 3 bK rfl rfl rfl d 0 bo nz 3 (fun S=>(show ah 3 from bp)) rfl (by first | rfl | (show _=_ * 1+0;omega) | (simp [ae];omega) | simp [ae]) rfl)) ?_;clear S;intro a u S;have hls24:(cur.set d 3).length=cur.length:=by simp
   refine ent (r0 ?_);refine sp S (tr (mv rfl)<|tr (mv rfl)<|tr (mv rfl)<|la (ov fun S=>dE S [(0,iN d),(1,iI 3)] [iN d,iI 3])) ?_;clear S;intro a u S;refine nbs ao S [(⟨((d:Nat):Int),3⟩:Chg)] (ee S [(0,.agg #[iN d,iI 3])] eg ju) (fun x hx=>by simp only [List.mem_cons,List.not_mem_nil,or_false] at hx;rw [hx];exact (show ao.wf _ _ (⟨((d:Nat):Int),3⟩:Chg) from ⟨(show ah ((d:Nat):Int) from bp),(show ah 3 from bp)⟩)) ?_;clear S;intro a u b61 S;refine ap (E:=ao) (ys:=[(⟨((d:Nat):Int),3⟩:Chg)]) S 5 rfl eg ju rfl rfl (show LAt ao _ _ (some ⟨b61,0,none⟩) ([(⟨((d:Nat):Int),3⟩:Chg)]) from ((S.u 1 rfl)).1) ((S.u 1 rfl)).2.2 (LAt.mem (show LAt ao _ _ (some ⟨b61,0,none⟩) ([(⟨((d:Nat):Int),3⟩:Chg)]) from ((S.u 1 rfl)).1)) ⟨bM,bL⟩ ?_;clear S;intro a u ad62 cap62 S;refine en S (la (av rfl)) ?_;clear S;intro a u S;refine bf (ak ?_);refine rg S (tr (mv rfl)<|tr (cE ((d+1:Nat):Int) rfl rfl (bu bo))<|la (av rfl)) ?_;clear S;intro a u S;refine ak ?_;refine ⟨(d+1),(d:Int),ad62,cap62,(l++[(⟨((d:Nat):Int),3⟩:Chg)]),cur_a,cur_c,(cur.set d 3),S.re ⟨rfl,rfl,rfl,rfl,(by first | rfl | (simp only [List.length_set];rfl)),rfl,rfl,rfl,rfl,(by first | rfl | (simp only [List.length_set];rfl)),trivial⟩ rfl rfl,?_,?_⟩
   ·first
    | exact ⟨by omega,bp,by omega,hI⟩
    | (refine ⟨by omega, bp, by rw [List.length_append, List.length_singleton]; omega, ?_⟩
       have hcd0:cur.getD ((d:Int)).toNat 0=cur.getD d ae.aa:=rfl
       exact kf.step (d:=(d:Int)) hI hla0 hla1 bo (by rw [hcd0];omega) bo (fun q=>by first | rfl | exact absurd hsg q))
   omega
  intro hc6;refine wp_exit (aR (aR (cC (ak ?_))));refine rs S (tr (mv rfl)<|tr (cM eg rfl)<|la (mP rfl rfl)) ?_;clear S;intro a u S;refine cd S rfl ?_ ?_
  ·intro hc7;refine r0 ?_;refine sp S (tr (aw 0 1 rfl iD)<|tr (ldk 2 ib rfl rfl rfl)<|la (mv rfl)) ?_; clear S; intro a u S;replace S := S.fz 5 rfl (by show 0 < ao.n; decide);refine nbs (slE ao) S [(Sl.mk l_a l_c l)] (ee S [(0, .slice l_a l.length l_c)] gn pt) (fun x hx => by simp only [List.mem_cons, List.not_mem_nil, or_false] at hx; rw [hx]; exact (show (slE ao).wf _ _ (Sl.mk l_a l_c l) from (S.u 1 rfl))) ?_; clear S; intro a u b69 S;refine ap (E := (slE ao)) (ys := [(Sl.mk l_a l_c l)]) S 4 rfl gn pt rfl rfl (show LAt (slE ao) _ _ (some ⟨b69, 0, none⟩) ([(Sl.mk l_a l_c l)]) from ((S.u 2 rfl)).1) ((S.u 2 rfl)).2.2 (LAt.mem (show LAt (slE ao) _ _ (some ⟨b69, 0, none⟩) ([(Sl.mk l_a l_c l)]) from ((S.u 2 rfl)).1)) ⟨bM, bL⟩ ?_; clear S; intro a u ad70 cap70 S;refine en S (tr (aw 0 1 rfl iD)<|la (stk 2 rfl rfl rfl)) ?_; clear S; intro a u S;refine bf (ak ?_);refine rg S (tr (mv rfl)<|tr (pW (r - 1) rfl rfl (bu bo))<|la (av rfl)) ?_; clear S; intro a u S;refine ak ?_;refine ⟨(r - 1), ad70, cap70, (rd ++ [(Sl.mk l_a l_c l)]), cur_a, cur_c, cur, S.re (bB rfl) rfl rfl, ?_, ?_⟩
   ·first
    | (have hl0 : l = [] := List.eq_nil_of_length_eq_zero bo
       subst hl0;have e:=hI.nil;subst e
       exact ⟨bp,by omega,hP,hne⟩)
    | (refine ⟨bp, by rw [List.length_append, List.length_singleton]; omega, ?_, fun x hx => ?_⟩
       ·rw [List.map_append];exact hP.step (l:=l) hI (show l.length≠0 by omega)
       rcases List.mem_append.1 hx with q | q
       ·exact hne x q
       obtain rfl:=List.mem_singleton.1 q;show 0 < l.length
       omega)
   omega
  intro hc8;refine wp_skip (bf (ak ?_));refine rg S (tr (mv rfl)<|tr (pW (r - 1) rfl rfl (bu bo))<|la (av rfl)) ?_;clear S;intro a u S;refine ak ?_;refine ⟨(r - 1),rd_a,rd_c,rd,cur_a,cur_c,cur,S.re (bB rfl) rfl rfl,?_,?_⟩
  ·first
   | (have hl0 : l = [] := List.eq_nil_of_length_eq_zero bo
      subst hl0;have e:=hI.nil;subst e
      exact ⟨bp,by omega,hP,hne⟩)
   | (refine ⟨bp, by rw [List.length_append, List.length_singleton]; omega, ?_, fun x hx => ?_⟩
      ·rw [List.map_append];exact hP.step (l:=l) hI (show l.length≠0 by omega)
      rcases List.mem_append.1 hx with q | q
      ·exact hne x q
      obtain rfl:=List.mem_singleton.1 q;show 0 < l.length
      omega)
  omega
 intro hc9;refine wp_exit (aR (aR (cC (ak ?_))));refine rs S (tr (eQ 2 rfl rfl ji)<|la (c0 1 rfl rfl rfl)) ?_;clear S;intro a u S;refine wp_ret ?_;replace S:=S.fz 4 rfl;refine ix rfl S.s rfl [bD (bv13=true),.slice rd_a rd.length rd_c] ji (fun j v hv=>by rw [Nat.zero_add];exact (S.k 1 rfl).cell hv) ?_;replace S:=S.pkc [0];refine ⟨(⟨bv13,(Sl.mk rd_a rd_c rd)⟩:eH),rfl,⟨trivial,(S.u 1 rfl)⟩,?_,(S.t 0 rfl),S.m.c⟩;exact ⟨⟨mG.some hP hn,by show rd.length≤16;omega⟩,by show rd.length≤3;omega,hne⟩
open Go.RowKit Go.Proofs.Ytobggnpnochnnaa
open Go.RowKit Go.Proofs.Ytobggnpnochnnaa
open Go.RowKit Go.Proofs.Ytobggnpnochnnaa
open Go.RowKit Go.Proofs.Ytobggnpnochnnaa
open Go.RowKit Go.Proofs.Ytobggnpnochnnaa
open Go.RowKit Go.Proofs.Ytobggnpnochnnaa
theorem SetI.mono {R:List (List Chg)} {S:List (List Int)} {n B B':Nat} {x:Run} (h:er R S n B x) (hB:B≤B'):er R S n B' x:=h.mono hB
open Go.RowKit Go.Proofs.Ytobggnpnochnnaa
open Go.RowKit Go.Proofs.Ytobggnpnochnnaa
section
variable {F:Nat→Prop} {w0 w:World} {m0 ms:List BS} {n:Nat} {L:List (Nat × Value)} {rs:List RF} {os fs:List OF} {a:Act}
theorem dnxJ {α:Type} {E:Enc α} {x:α} {h:Array Obj} {o:List BS} {js:List Nat} (H:E.wf (Fr F ms) h x):E.wf (Fr (Exc F ms o) (cj ms js)) h x:=E.mono (fun k _ h=>⟨fun e=>h.1 (dR e),fun e=>e.elim (fun e=>h.1 e.1) h.2⟩) H
theorem St.robJ (S:St F w0 m0 n L rs os a w) (hD:∀ k,In m0 k→¬ F k) (js:List Nat) (i:Nat) (hi:nth os i=some (bnO fs)) {X:(Nat→Prop)→Prop} (rd:∀ D,(∀ f∈fs,f.p F (In (ow os)) w)→(∀ k,In (ow fs) k→k < w.heap.size→D k)→(∀ k,k < w.heap.size→Fw F (In (ow os)) k→D k)→X D) (o:List BS) (ho:In (ow fs)∈o) (hj:js.contains i=false:=by rfl):X (Fr (Exc F (ow os) o) (cj (ow os) js)) :=
  rd _ (S.m.o _ (aA hi)).2 (fun _ hk _=>⟨S.m.c.ms.sep.out i js hj (fK hi) hk,fun e=>e.elim (fun e=>e.2 (cw ho hk)) (S.nf hD (cw (ga (aA hi)) hk))⟩) fun _ _ h=>⟨fun e=>h.1 (dR e),fun e=>e.elim (fun e=>h.1 e.1) h.2⟩
end
open Go.RowKit Go.Proofs.Ytobggnpnochnnaa
theorem rZ {n:Int} {l:List Rec} (h:mE n l):∀ r∈l,bP r:=fun r hr=>(h r hr).1
theorem pP {l:List Rec} (h:∀ r∈l,bP r) (k:Nat):aG (l.take k)=(aG l).take (14 * k):=by
  rcases Nat.lt_or_ge k l.length with hk | hk
  · have e : aG l = aG (l.take k) ++ aG (l.drop k) := by rw [← mA, List.take_append_drop]
    have hl:(aG (l.take k)).length=14 * k:=by rw [dJ fun r hr=>h r (List.mem_of_mem_take hr),List.length_take];congr 1;omega
    rw [e,List.take_left' hl]
  · rw [List.take_of_length_le hk,List.take_of_length_le (by rw [dJ h];omega)]
theorem wO {l:List Rec} (h:∀ r∈l,bP r) (hl:l.length≤4096) {c:Nat} (hc:c≤(aG l).length):cD ((aG l).take c)=c / 14∧cN ((aG l).take c) (c / 14)=l.take (c / 14):=by
  have hb:=dJ h;have h1:(l.take (c / 14)).length=c / 14:=by rw [List.length_take];omega
  have e:(aG l).take c=aG (l.take (c / 14))++((aG l).take c).drop (14 * (c / 14)):=by
    rw [pP h];have:(aG l).take (14 * (c / 14))=((aG l).take c).take (14 * (c / 14)):=by rw [List.take_take];congr 1;omega
    rw [this,List.take_append_drop]
  have:=kA (l:=l.take (c / 14)) (fun r hr=>h r (List.mem_of_mem_take hr)) bo (((aG l).take c).drop (14 * (c / 14))) (fun q=>by have:=q.1;rw [List.length_drop,List.length_take] at this;omega);rw [← e,h1] at this;exact this
open Go.RowKit Go.Proofs.Ytobggnpnochnnaa
open Go.RowKit Go.Proofs.Ytobggnpnochnnaa
open Go.RowKit Go.Proofs.Ytobggnpnochnnaa
open Go.RowKit Go.Proofs.Ytobggnpnochnnaa
set_option synthInstance.maxSize 2000
section
variable {R:List (List Chg)} {S:List (List Int)} {e:Evt} {n:Nat} {sg:Bool} {k:Nat} {x:Run} {y:aU} {g:Lg} {z:Rec}
theorem jM {c d:Ctl} {a b:fU} (h:noS c=noS d) (ha:uU a (noS c)) (hb:uU b (noS d)):jN a b:=nK ha (h▸hb)
theorem dO.small {lg:List Rec} {m:Int} (h:dO R S m g lg) (h12:m≤12):(g.m.2.target.xs.length≤1000∧g.m.2.known.xs.length≤1000∧g.m.2.waiting.xs.length≤1000)∧(-1≤g.m.2.round∧g.m.2.round≤16)∧(0≤g.m.2.seq∧g.m.2.seq≤40):=by
 have ht:=h.ma.tg;obtain ⟨P,C⟩:=h.ma.ok;have hr:=P.r1;have hk:g.m.2.known.xs.length=g.m.2.target.xs.length:=C.kn;have hw:g.m.2.waiting.xs.length≤g.m.2.target.xs.length:=C.wt.len;have h1 : -1≤g.m.2.round∧g.m.2.round≤(cq g.m.2).length:=C.rd;have h2:0≤g.m.2.seq∧g.m.2.seq≤40:=C.sqb hr;exact ⟨⟨by omega,by omega,by omega⟩,⟨h1.1,by omega⟩,h2⟩
theorem ke.small (h:ke sg R S n k x y) (hR:R.length≤16):(-1≤x.m.2.round∧x.m.2.round≤16)∧(0≤x.m.2.seq∧x.m.2.seq≤40):=by
 have h1 : -1≤x.m.2.round∧x.m.2.round≤R.length:=h.I.ct.rd;have h2:0≤x.m.2.seq∧x.m.2.seq≤40:=h.I.ct.sqb hR;exact ⟨⟨h1.1,by omega⟩,h2⟩
theorem oC {lg:List Rec} {m:Int} (e:g.l.xs=lg++[z]) (h:dO R S m g (lg++[z])):(aG g.l.xs).length=14 * (lg.length+1):=by
 rw [e,dJ (rZ h.ma.al),List.length_append,List.length_singleton]
theorem rH {lg:List Rec} {m:Int} (e:g.l.xs=lg++[z]) (h:dO R S m g (lg++[z])) {c:Nat} (h1:c≤(aG g.l.xs).length) (h2:(aG g.l.xs).length≤c+14):eK ((aG g.l.xs).take c)=lg++[z]∨eK ((aG g.l.xs).take c)=lg:=by
 have hl:=oC e h;rw [e] at h1 h2 hl ⊢;have hd:=wO (rZ h.ma.al) (by have:=h.le;exact this) h1;have hr:eK ((aG (lg++[z])).take c)=(lg++[z]).take (c / 14):=by unfold eK;rw [hd.1];exact hd.2
 rw [hr]
 by_cases hc:c=14 * (lg.length+1)
 ·left;rw [hc,Nat.mul_div_cancel_left _ (by decide:0 < 14),List.take_of_length_le (by simp)]
 right;rw [show c / 14=lg.length from by omega,List.take_left'];rfl
theorem wH {lg:List Rec} {m:Int} (e:g.l.xs=lg++[z]) (h:dO R S m g (lg++[z])) {c:Nat} (h1:c≤(aG g.l.xs).length) (h2:(aG g.l.xs).length≤c+14):mE m (eK ((aG g.l.xs).take c)):=by
 rcases rH e h h1 h2 with q | q
 ·rw [q];exact h.ma.al
 rw [q];exact fun r hr=>h.ma.al r (List.mem_append_left _ hr)
theorem uL {lg:List Rec} {m:Int} (e:g.l.xs=lg++[z]) (h:dO R S m g (lg++[z])) {o:Lg} {c:Nat} (h1:c≤(aG g.l.xs).length) (h2:(aG g.l.xs).length≤c+14) (hO:noS (bb o.m.2)=fQ R S m (eK ((aG g.l.xs).take c))):noS (bb o.m.2)=fQ R S m (lg++[z])∨noS (bb o.m.2)=fQ R S m lg :=
 (rH e h h1 h2).imp (fun q=>by rw [hO,q]) (fun q=>by rw [hO,q])
theorem pH {kn : List Int} {sq : Int} : ∀ (l : List Int), (∀ d ∈ l, 0 ≤ d ∧ d < (kn.length : Int)) → fG kn sq l = l.map fun d => (⟨5, d, kn.getD d.toNat 0, sq⟩ : Rec)
 | [],_=>rfl
 | d::r,h=>by
  have ih:=pH (kn:=kn) (sq:=sq) r fun x hx=>h x (List.mem_cons_of_mem _ hx);unfold fG at ih ⊢;rw [List.flatMap_cons,ih,pK,if_pos (h d List.mem_cons_self)];rfl
theorem uM (h:ke sg R S n k x y):(fG x.m.2.known.xs x.m.2.seq x.m.2.waiting.xs).length=x.m.2.waiting.xs.length∧x.m.2.waiting.xs.length≤n∧x.m.2.known.xs.length=n∧∀ j,j < x.m.2.waiting.xs.length→(0≤x.m.2.waiting.xs.getD j ae.aa∧x.m.2.waiting.xs.getD j ae.aa < n)∧(fG x.m.2.known.xs x.m.2.seq x.m.2.waiting.xs).getD j aV.aa=⟨5,x.m.2.waiting.xs.getD j ae.aa,x.m.2.known.xs.getD (x.m.2.waiting.xs.getD j ae.aa).toNat ae.aa,x.m.2.seq⟩:=by
 have hk:x.m.2.known.xs.length=n:=h.I.ct.kn;have hw:Asc n x.m.2.waiting.xs:=h.I.ct.wt;have e:=pH (kn:=x.m.2.known.xs) (sq:=x.m.2.seq) x.m.2.waiting.xs fun d hd=>by rw [hk];exact hw.2 d hd
 refine ⟨by rw [e,List.length_map],hw.len,hk,fun j hj=>⟨hw.2 _ (bG hj),?_⟩⟩;rw [e,List.getD_eq_getElem?_getD,List.getElem?_map,List.getD_eq_getElem?_getD,List.getElem?_eq_getElem hj];rfl
end
theorem lFol (w : World) (F : Nat → Prop) (hF : Old F w) (M : MS [] w) (t_ : Sl Int) (t__w : (slE ae).wf (Fr F []) w.heap t_) (torn : Int) (torn_h : ah torn) :
 Calls Try.prog 18 #[sV t_,iI torn] w fun e w'=>e = .returned (bD (True))∧Tr [] w [] w':=by
 have:t_.xs.length≤9223372036854775807:=(t__w).1.len;obtain ⟨torn_hl,torn_hu⟩:ah torn:=id torn_h;refine go Try.func18 rfl 249 rfl [wfF (slE ae) t_] [] hF M ⟨t__w,trivial⟩ trivial ?_;intro a S;have hD:=noI F;refine rs S (la (av rfl)) ?_;clear S;intro a u S;refine rs0 ?_;refine sp S (la (mv rfl)) ?_;clear S;intro a u S;refine cl S (gNew _ _ S.x (.nil _) t_ (dn0 (S.u 0 rfl))) cB19 ?_;rintro e u ⟨T28,rfl,TK,T0⟩;refine ⟨_,rfl,fun a s=>?_⟩;replace S:=S.kt s T0 TK;clear s T0 TK;refine ens S (la (av rfl)) ?_;clear S;intro a u S;refine rs0 ?_;refine sp S (la (mv rfl)) ?_;clear S;intro a u S;refine cl S (gV _ _ S.x T28 (S.M.pick [0] (by decide)) t_ (dn1 (js:=[0]) (S.u 0 rfl)) (S.t 0 rfl) 4 bp) kD ?_;rintro e u ⟨r_t30,rfl,hr_t30,tK,T0⟩;refine ⟨_,rfl,fun a s=>?_⟩;replace S:=S.k1 0 rfl s T0 tK;clear s T0 tK;refine ens S (tr (cE (1+r_t30) rfl rfl (bu bo))<|la (av rfl)) ?_;clear S;intro a u S;refine rs0 ?_;refine sp S (tr (mv rfl)<|la (mv rfl)) ?_;clear S;intro a u S;refine cl S (zF _ _ S.x T28 (S.M.pick [0] (by decide)) t_ (dn1 (js:=[0]) (S.u 0 rfl)) (S.t 0 rfl) (1+r_t30) bp (bp)) cB30 ?_;rintro e u ⟨r_t34,rfl,R_t34,hr_t34,tK,T0⟩;refine ⟨_,rfl,fun a s=>?_⟩;replace S:=(S.k1 0 rfl s T0 tK).ar (wfF aO r_t34) (Enc.up _ R_t34);clear s T0 tK R_t34;have hpg:=hr_t34;have hn5:r_t34.rounds.xs.length≤9223372036854775807:=((S.u 1 rfl).2).1.len;refine sp S (tr (mv rfl)<|la (mv rfl)) ?_;clear S;intro a u S;refine cl S (gVol _ _ S.x T28 (S.M.pick [0] (by decide)) t_ (dn1 (js:=[0]) (S.u 0 rfl)) (S.t 0 rfl) (1+r_t30) bp (bp)) cB49 ?_;rintro e u ⟨rx_t37,ra_t37,rc_t37,rfl,R_t37,hr_t37,tK,T0⟩;refine ⟨_,rfl,fun a s=>?_⟩
 let z12:RF:=wfF (slE aS) (Sl.mk ra_t37 rc_t37 rx_t37)
 replace S:=(S.kr1 0 rfl [⟨_,aS,4,ra_t37,rc_t37,rx_t37⟩] s T0 ⟨R_t37,trivial⟩ (fun _=>tK)).sh;clear s T0 tK R_t37;have hvl:=hr_t37;have hgd:(aL r_t34.ay (aY r_t34) (rx_t37.length:Int)).isSome=true∧r_t34.rounds.xs.length≤16:=by rw [hvl];exact hpg.1
 have hb3:=hpg.2.1;refine nbp S (bq _ wB rfl) ?_;clear S;intro a u b7 S;refine ens S (tr (c0 2 rfl rfl rfl)<|la (av rfl)) ?_;clear S;intro a u S;refine rs0 ?_;refine sp S (tr (eQ 2 rfl rfl ji)<|la (mv rfl)) ?_;clear S;intro a u S;replace S:=S.fz 1 rfl;replace S:=S.spl 3;refine cl S (rNew _ _ S.xxF  S.mF (S.nfF hD) r_t34 (dnF   (S.u 1 rfl)) (Sl.mk ra_t37 rc_t37 rx_t37) (dnF   (S.u 2 rfl)) bd) cB50 ?_;rintro e u ⟨q_t41,rfl,qK_t41,qB_t41,hr_t41,T0⟩;refine ⟨_,rfl,fun a s=>?_⟩;replace S:=(S.kF   [bnO (tW q_t41)] s T0 ⟨qB_t41,trivial⟩ ⟨(aD (wi _)),trivial⟩).sh;clear s T0 qB_t41
 rcases q_t41 with _ | ⟨B_t41,x_t41⟩
 ·exact absurd (hr_t41.1.2 hgd) (by decide)
 replace S:=(show St _ _ _ _ _ _ [tpO 112 T28 t_,noO,blO b7 (aO.cells r_t34) 47,bnO (bO B_t41 x_t41)] _ _ from S);refine ens S (tr (mv rfl)<|tr (exi rfl rfl)<|tr (exi rfl rfl)<|tr (av rfl)<|la (av rfl)) ?_;clear S;intro a u S;refine rs0 ?_;refine sp S (tr (eQ 2 rfl rfl ji)<|la (mv rfl)) ?_;clear S;intro a u S;replace S:=S.spl 4;refine cl S (qNew _ _ S.xxF  S.mF (S.nfF hD) r_t34 (dnF   (S.u 1 rfl)) (Sl.mk ra_t37 rc_t37 rx_t37) (dnF   (S.u 2 rfl)) bd) cB58 ?_;rintro e u ⟨q_t47,rfl,qK_t47,qB_t47,hr_t47,T0⟩;refine ⟨_,rfl,fun a s=>?_⟩;replace S:=(S.kF   [bnO (rrQ q_t47)] s T0 ⟨qB_t47,trivial⟩ ⟨(aD (yp _)),trivial⟩).sh;clear s T0 qB_t47
 rcases q_t47 with _ | ⟨B_t47,x_t47⟩
 ·exact absurd (hr_t47.1.2 hgd) (by decide)
 replace S:=(show St _ _ _ _ _ _ [tpO 112 T28 t_,noO,blO b7 (aO.cells r_t34) 47,bnO (bO B_t41 x_t41),bnO (rrF B_t47 x_t47)] _ _ from S);refine ens S (tr (mv rfl)<|tr (exi rfl rfl)<|tr (exi rfl rfl)<|tr (av rfl)<|la (av rfl)) ?_;clear S;intro a u S;refine rs0 ?_;refine sp S (tr (eQ 2 rfl rfl ji)<|la (mv rfl)) ?_;clear S;intro a u S;replace S:=S.spl 5;refine cl S (wy _ _ S.xxF  S.mF (S.nfF hD) r_t34 (dnF   (S.u 1 rfl)) (1+r_t30) bp bd) w3 ?_;rintro e u ⟨q_t53,rfl,qK_t53,qB_t53,hr_t53,T0⟩;refine ⟨_,rfl,fun a s=>?_⟩;replace S:=(S.kF   [bnO (lgQ q_t53)] s T0 ⟨qB_t53,trivial⟩ ⟨(aD (kv _)),trivial⟩).sh;clear s T0 qB_t53
 rcases q_t53 with _ | ⟨B_t53,x_t53⟩
 ·exact absurd (hr_t53.1.2 hpg.1) (by decide)
 replace S:=(show St _ _ _ _ _ _ [tpO 112 T28 t_,noO,blO b7 (aO.cells r_t34) 47,bnO (bO B_t41 x_t41),bnO (rrF B_t47 x_t47),bnO (lgF B_t53 x_t53)] _ _ from S);obtain ⟨Z,hZ,hBeg,hMs,hc0⟩:=yQ (vs:=rx_t37) (by rw [hvl];exact hpg) bo bo (hr_t41.2 _ rfl) (hr_t47.2 _ rfl);have hLog:=hr_t53.2 _ rfl;rw [← hvl,hZ] at hLog;have hOK0:dH 8000000 x_t41:=ROK.mono hBeg.T.a.ok bo;have hFol:Fol r_t34.ay (aY r_t34) Z rx_t37.length 0 x_t41 x_t47 x_t53:=⟨hBeg.two,hMs,[],hLog,Nat.zero_le _,hc0⟩;refine ens S (tr (mv rfl)<|tr (exi rfl rfl)<|tr (exi rfl rfl)<|tr (av rfl)<|la (av rfl)) ?_;clear S;intro a u S;refine wp_seq (rs0 ?_);refine sp S (tr (mv rfl)<|la (gb rfl rfl)) ?_;clear S;intro a u S;refine sp S (tr (mv rfl)<|tr (gon 58 rfl fun S=>aB (S.e rfl))<|la (gon 58 rfl fun S=>fX (S.e rfl) (S.e rfl))) ?_;clear S;intro a u S;refine sp S (tr (ov fun S=>bC (S.e rfl) (S.e rfl))<|tr (mv rfl)<|tr (gon 62 rfl fun S=>aB (S.e rfl))<|la (gon 62 rfl fun S=>fX (S.e rfl) (S.e rfl))) ?_;clear S;intro a u S;refine ens S (tr (ov fun S=>bC (S.e rfl) (S.e rfl))<|tr (mv rfl)<|tr (gon 66 rfl fun S=>aB (S.e rfl))<|tr (gon 66 rfl fun S=>eB xW (S.e rfl) (S.e rfl))<|tr (ov fun S=>bC (S.e rfl) (S.e rfl))<|tr (mv rfl)<|tr (gon 70 rfl fun S=>aB (S.e rfl))<|tr (gon 70 rfl fun S=>eB oU (S.e rfl) (S.e rfl))<|la (ov fun S=>bC (S.e rfl) (S.e rfl))) ?_;clear S;intro a u S;refine cdf S rfl ?_;refine wp_skip (ak (rs0 ?_));refine sp S (la (mv rfl)) ?_;clear S;intro a u S;refine cl S (p8 _ _ (S.xx [In (ow (bO B_t41 x_t41))]) (.nil _) (B_t41,x_t41) (S.rob hD 3 rfl (X:=fun D=>(ptE jj 137).wf D _ (B_t41,x_t41)) (iG qK_t41) _ (by simp)) (by first | assumption | exact hOK | exact (hT.sm hBeg bo ba ba).1)) qC ?_;rintro e u ⟨ra_t75_3,rc_t75_3,ra_t75_4,rc_t75_4,ra_t75_5,rc_t75_5,rfl,R_t75_3,R_t75_4,R_t75_5,T0⟩;refine ⟨_,rfl,fun a s=>?_⟩;replace S:=(S.krx [⟨_,ae,3,ra_t75_5,rc_t75_5,x_t41.m.2.waiting.xs⟩,⟨_,ae,3,ra_t75_4,rc_t75_4,x_t41.m.2.known.xs⟩,⟨_,ae,3,ra_t75_3,rc_t75_3,x_t41.m.2.target.xs⟩] s T0 ⟨R_t75_5,R_t75_4,R_t75_3,trivial⟩ ⟨fun _ _ _ _ h=>h,fun _ _ _ _ h=>h,fun _ _ _ _ h=>h,trivial⟩).sh;clear s T0 R_t75_5 R_t75_4 R_t75_3
 try dsimp only at S
 refine nbp S (bq _ mO rfl) ?_;clear S;intro a u b15 S;refine ens S (la (c0 9 rfl rfl rfl)) ?_;clear S;intro a u S;refine wp_seq ?_;refine rs S (la (av rfl)) ?_;clear S;intro a u S;refine wp_block ?_;replace S:=S.pkc [0,1,2,3,4,5,9];refine lp10 (fun (i:Nat) (bv0:Value) (bv1:Value) (bv2:Value) (bv3:Value) (bv4:Value) (bv5:Value) (xj:Run) (yj:aU) (gj:Lg)=>[(1,iI torn),(5,pT T28 0),(6,iI (1+r_t30)),(7,pT b7 0),(9,pT B_t41 0),(11,pT B_t47 0),(13,pT B_t53 0),(15,pT b15 0),(16,iN i)]) (fun (i:Nat) (bv0:Value) (bv1:Value) (bv2:Value) (bv3:Value) (bv4:Value) (bv5:Value) (xj:Run) (yj:aU) (gj:Lg)=>[tpO 112 T28 t_,noO,blO b7 (aO.cells r_t34) 47,bnO (bO B_t41 xj),bnO (rrF B_t47 yj),bnO (lgF B_t53 gj),blO b15 [bv0,bv1,bv2,bv3,bv4,bv5] 57]) (fun (i:Nat) (bv0:Value) (bv1:Value) (bv2:Value) (bv3:Value) (bv4:Value) (bv5:Value) (xj:Run) (yj:aU) (gj:Lg)=>runK xj∧rrK yj∧lgK gj∧(i≤20∧Fol r_t34.ay (aY r_t34) Z rx_t37.length i xj yj gj)) (fun (i:Nat) (bv0:Value) (bv1:Value) (bv2:Value) (bv3:Value) (bv4:Value) (bv5:Value) (xj:Run) (yj:aU) (gj:Lg)=>20 - i) S 0 (iI x_t41.m.2.round) (bD (x_t41.m.2.back=true)) (iI x_t41.m.2.seq) (.slice ra_t75_3 x_t41.m.2.target.xs.length rc_t75_3) (.slice ra_t75_4 x_t41.m.2.known.xs.length rc_t75_4) (.slice ra_t75_5 x_t41.m.2.waiting.xs.length rc_t75_5) x_t41 x_t47 x_t53 (bB rfl) rfl ?_ ?_
 ·refine ⟨qK_t41,qK_t47,qK_t53,?_⟩;exact ⟨Nat.zero_le _,hFol⟩
 clear S;intro i bv0 bv1 bv2 bv3 bv4 bv5 xj yj gj a u S hR;obtain ⟨hk_xj,hk_yj,hk_gj,hR⟩:=hR;obtain ⟨hi,hF⟩:=hR;have hT:=hF.T;obtain ⟨hO7,hS0⟩:=hT.T.a.ok7 bo;have hQ7:=hT.T.b.ok7 bo;have hEV:=hQ7.ev;have hOK:dH 8000000 xj:=ROK.mono hO7 (by decide);obtain ⟨hLR,hwq,hagq⟩:=id hEV;obtain ⟨lg0,hLg,hll,hlc⟩:=id hF.L;have hMO:=hLg.ma.ok;have hsn:gj.m.2.aj.xs.length≤300000:=by have:=hLg.ma.sn;omega
 have hgl:gj.l.xs.length≤10000:=by rw [hLg.ls];omega
 have hn4:=hBeg.n4;have hR3:=hBeg.R3;obtain ⟨⟨hrx1,hrx2⟩,hsx1,hsx2⟩:=hF.T.small bo;obtain ⟨hcl,hwn,hkn,hcj⟩:=uM hF.T;refine wp_seq ?_;refine rs S (tr (mv rfl)<|la (dx rfl rfl)) ?_;clear S;intro a u S;refine cd S rfl ?_ ?_
 ·intro hc0;refine wp_skip (ak (wp_seq (wp_block (rs0 ?_))));refine sp S (tr (mv rfl)<|la (mv rfl)) ?_; clear S; intro a u S;refine cl S (yA _ _ (S.xx [In (ow (rrF B_t47 yj))]) T28 (S.M.pick [0] (by decide)) t_ (dnxJ (js := [0]) (S.u 0 rfl)) (S.t 0 rfl) (B_t47, yj) (S.robJ hD [0] 4 rfl (X := fun D => (ptE rrE 95).wf D _ (B_t47, yj)) (ri hk_yj) _ (by simp)) (by first | assumption | exact hEV)) cB44 ?_;rintro e u ⟨r_t82, rfl, R_t82, tK, T0⟩; refine ⟨_, rfl, fun a s => ?_⟩;replace S := (S.k1 0 rfl s T0 tK).ar (wfF aZ r_t82) R_t82; clear s T0 tK R_t82;obtain ⟨hl14, hu14⟩ : ah r_t82.kind := id ((S.u 3 rfl).1);obtain ⟨hl15, hu15⟩ : ah r_t82.dev := id ((S.u 3 rfl).2);refine nbp S (bq _ sE rfl) ?_; clear S; intro a u b17 S;refine ens S (la (c0 7 rfl rfl rfl)) ?_; clear S; intro a u S;refine rs0 ?_;refine sp S (tr (mv rfl)<|la (eQ 7 rfl rfl iz)) ?_; clear S; intro a u S;refine cl S (yw _ _ (S.xx [In (ow (rrF B_t47 yj))]) (.nil _) (B_t47, yj) (S.rob hD 4 rfl (X := fun D => (ptE rrE 95).wf D _ (B_t47, yj)) (ri hk_yj) _ (by simp)) r_t82 (dnx (S.u 3 rfl)) (by first | assumption | exact hEV)) cB59 ?_;rintro e u ⟨r_t860, rfl, R_t860, hr_t860, T0⟩; refine ⟨_, rfl, fun a s => ?_⟩;replace S := (S.k0 s T0).ar (wfF aV r_t860) R_t860; clear s T0 R_t860;obtain ⟨hl17, hu17⟩ : ah r_t860.kind := id ((S.u 4 rfl).1);obtain ⟨hl18, hu18⟩ : ah r_t860.dev := id ((S.u 4 rfl).2.1);obtain ⟨hl19, hu19⟩ : ah r_t860.inc := id ((S.u 4 rfl).2.2.1);obtain ⟨hl20, hu20⟩ : ah r_t860.seq := id ((S.u 4 rfl).2.2.2);refine sp S (tr (mv rfl)<|tr (exi rfl rfl)<|la (exi rfl rfl)) ?_; clear S; intro a u S;refine nbp S (bq _ kz rfl) ?_; clear S; intro a u b18 S;refine ens S (tr (c0 8 rfl rfl rfl)<|la (av rfl)) ?_; clear S; intro a u S;refine wp_seq (rs0 ?_);refine sp S (tr (mv rfl)<|la (eQ 7 rfl rfl iz)) ?_; clear S; intro a u S;refine ens S (tr (oc (fun S=>wa _ _ (S.xx [In (ow (rrF B_t47 yj))]) (.nil _) (B_t47, yj) (S.rob hD 4 rfl (X := fun D => (ptE rrE 95).wf D _ (B_t47, yj)) (ri hk_yj) _ (by simp)) r_t82 (dnx (S.u 3 rfl)) (⟨by first | assumption | exact hLR, by first | assumption | omega | (dsimp only; omega)⟩)) wY)<|la (jC rfl)) ?_; clear S; intro a u S;refine cd S rfl ?_ ?_
  ·intro hc1;refine wp_exit (aR (cC (ak ?_)));refine rg S (tr (mv rfl)<|tr (cE ((i + 1 : Nat) : Int) rfl rfl (bu bo))<|la (av rfl)) ?_; clear S; intro a u S;refine ak ?_;refine ⟨(i + 1), bv0, bv1, bv2, bv3, bv4, bv5, xj, yj, gj, S.re (bB rfl) rfl rfl, ?_, ?_⟩
   ·refine ⟨hk_xj, hk_yj, hk_gj, ?_⟩
    first
    | exact ⟨by omega,hF.skip⟩
    | exact ⟨by omega,hF2⟩
   omega
  intro hc2;have hcan:cI (aM yj) r_t82:=Classical.not_not.1 hc2;refine wp_skip (ak (rs0 ?_));refine sp S (la (mv rfl)) ?_;clear S;intro a u S;refine cl S (p8 _ _ (S.xx [In (ow (bO B_t41 xj))]) (.nil _) (B_t41,xj) (S.rob hD 3 rfl (X:=fun D=>(ptE jj 137).wf D _ (B_t41,xj)) (iG hk_xj) _ (by simp)) (by first | assumption | exact hOK | exact (hT.sm hBeg bo ba ba).1)) qC ?_;rintro e u ⟨ra_t94_3,rc_t94_3,ra_t94_4,rc_t94_4,ra_t94_5,rc_t94_5,rfl,R_t94_3,R_t94_4,R_t94_5,T0⟩;refine ⟨_,rfl,fun a s=>?_⟩
  let z1:OF:=blO b15 [iI xj.m.2.round,bD (xj.m.2.back=true),iI xj.m.2.seq,.slice ra_t94_3 xj.m.2.target.xs.length rc_t94_3,.slice ra_t94_4 xj.m.2.known.xs.length rc_t94_4,.slice ra_t94_5 xj.m.2.waiting.xs.length rc_t94_5] 57;let z8:OF:=rwO ae 3 w.heap.size ra_t94_5 rc_t94_5 xj.m.2.waiting.xs;let z9:OF:=rwO ae 3 w.heap.size ra_t94_3 rc_t94_3 xj.m.2.target.xs;let z10:OF:=rwO ae 3 w.heap.size ra_t94_4 rc_t94_4 xj.m.2.known.xs;let z13:=(⟨xj.m.2.round,xj.m.2.back,xj.m.2.seq,(Sl.mk ra_t94_3 rc_t94_3 xj.m.2.target.xs),(Sl.mk ra_t94_4 rc_t94_4 xj.m.2.known.xs),(Sl.mk ra_t94_5 rc_t94_5 xj.m.2.waiting.xs)⟩:fU)
  replace S:=(S.krx [⟨_,ae,3,ra_t94_5,rc_t94_5,xj.m.2.waiting.xs⟩,⟨_,ae,3,ra_t94_4,rc_t94_4,xj.m.2.known.xs⟩,⟨_,ae,3,ra_t94_3,rc_t94_3,xj.m.2.target.xs⟩] s T0 ⟨R_t94_5,R_t94_4,R_t94_3,trivial⟩ ⟨fun _ _ _ _ h=>h,fun _ _ _ _ h=>h,fun _ _ _ _ h=>h,trivial⟩).sh;clear s T0 R_t94_5 R_t94_4 R_t94_3
  try dsimp only at S
  refine ens S (la (c0 6 rfl rfl rfl)) ?_;clear S;intro a u S;refine wp_seq (rs0 ?_);refine sp S (tr (mv rfl)<|la (mv rfl)) ?_;clear S;intro a u S;refine (Classical.em (iE (aM yj) r_t82)).elim (fun hs25=>?_) (fun hs25=>?_)
  ·replace S := S.ext (d := 96) (v := .bool true) ((S.get 96 rfl).trans (congrArg Value.bool (decide_eq_true hs25)));refine sp S (la (gon 96 rfl fun S=>aB (S.e rfl))) ?_; clear S; intro a u S;replace S := S.ext (d := 19) (v := .bool true) ((S.get 19 rfl).trans (vbt ba));refine sp S (la (gon 96 rfl fun S=>cJ (S.e rfl) (S.k 8 rfl).all fY)) ?_; clear S; intro a u S;refine strip S.s rfl rfl (gd := 96) rfl ?_;replace S := S.pkc [0, 1, 2, 3, 4, 6, 7, 8, 9, 10, 11, 5];replace S := S.spl 11;refine cl S (ot _ _ S.xxF B_t53 gj S.mF (S.nfF hD) hk_gj (S.dF   0 rfl (aD (lV _ _))) r_t860 (dnF   (S.u 4 rfl)) (⟨by first | assumption | exact hOK, by first | omega | assumption, by first | omega | assumption⟩)) yO ?_;rintro e u ⟨jl_t99, rfl, hk_jl_t99, hK_jl_t99, hq_jl_t99, T0⟩; refine ⟨_, rfl, fun a s => ?_⟩;replace S := (S.kF   [bnO (lgF B_t53 jl_t99)] s T0 ⟨hK_jl_t99, trivial⟩ ⟨(aD (lV _ _)), trivial⟩).sh;clear s T0 hK_jl_t99;refine sp S (la (gon 96 rfl fun S=>fX (S.e rfl) (S.e rfl))) ?_; clear S; intro a u S;replace S := S.ext (d := 100) (v := .bool false) ((S.get 100 rfl).trans (vbf (fun h => h (hF.note hBeg bo ba hr_t860))));refine sp S (tr (ov fun S=>dh (S.e rfl) (S.e rfl))<|tr (mv rfl)<|tr (gon 102 rfl fun S=>aB (S.e rfl))<|la (gon 102 rfl fun S=>cJ (S.e rfl) (S.k 6 rfl).all iz)) ?_; clear S; intro a u S;refine strip S.s rfl rfl (gd := 102) rfl ?_;replace S := S.pkc [0, 1, 2, 4, 5, 6, 7, 8, 9, 10, 11, 3];replace S := S.spl 11;refine cl S (rDo _ _ S.xxF B_t41 xj S.mF (S.nfF hD) hk_xj (S.dF   0 rfl (aD (cS _ _))) r_t82 (dnF   (S.u 3 rfl)) (⟨by first | assumption | exact hOK, by first | assumption | exact hS0⟩)) zR ?_;rintro e u ⟨rn_t105, rfl, hk_rn_t105, hK_rn_t105, hq_rn_t105, T0⟩; refine ⟨_, rfl, fun a s => ?_⟩;replace S := (S.kF   [bnO (bO B_t41 rn_t105)] s T0 ⟨hK_rn_t105, trivial⟩ ⟨(aD (cS _ _)), trivial⟩).sh;clear s T0 hK_rn_t105;replace S := S.ext (d := 105) (v := .bool true) ((S.get 105 rfl).trans (vbt (hT.T.e ▸ hcan)));refine sp S (tr (gon 102 rfl fun S=>gI (S.e rfl))<|tr (ov fun S=>bC (S.e rfl) (S.e rfl))<|tr (mv rfl)<|tr (gon 108 rfl fun S=>aB (S.e rfl))<|la (gon 108 rfl fun S=>cJ (S.e rfl) (S.k 5 rfl).all iz)) ?_; clear S; intro a u S;refine strip S.s rfl rfl (gd := 108) rfl ?_;replace S := S.pkc [0, 1, 2, 4, 5, 6, 7, 8, 9, 10, 11, 3];replace S := S.spl 11;refine cl S (qDo _ _ S.xxF B_t47 yj S.mF (S.nfF hD) hk_yj (S.dF   0 rfl (aD (dC _ _))) r_t82 (dnF   (S.u 3 rfl)) (by first | assumption | exact hOK)) zQ ?_;rintro e u ⟨rr_t111, rfl, hk_rr_t111, hK_rr_t111, hq_rr_t111, T0⟩; refine ⟨_, rfl, fun a s => ?_⟩;replace S := (S.kF   [bnO (rrF B_t47 rr_t111)] s T0 ⟨hK_rr_t111, trivial⟩ ⟨(aD (dC _ _)), trivial⟩).sh;clear s T0 hK_rr_t111;have hR16 := hR3
   first
   | (have hFt:=hF.told hBeg bo ba hr_t860 (hq_jl_t99.1 (hF.note hBeg bo ba hr_t860)) hq_rn_t105 hq_rr_t111;have hF2:=hFt.1;obtain ⟨lg,hgx,hL1,hn1,hn2,hlk⟩:=hFt.2;have hbl:=oC hgx hL1)
   | have hF2:=hF.mute hBeg hcan ba hq_rn_t105 hq_rr_t111
   obtain ⟨lg2,hLg2,hll2,hlc2⟩:=id hF2.L;obtain ⟨⟨hgb1,hgb2,hgb3⟩,⟨hgr1,hgr2⟩,hgs1,hgs2⟩:=hLg2.small bo;have hgl2:=congrArg List.length hLg2.ls;obtain ⟨⟨hry1,hry2⟩,hsy1,hsy2⟩:=hF2.T.small bo;have hOK2:dH 8000000 rn_t105:=ROK.mono hF2.T.T.a.ok bo;replace S:=S.ext (d:=111) (v:=.bool true) ((S.get 111 rfl).trans (vbt (hcan)));refine sp S (tr (gon 108 rfl fun S=>gI (S.e rfl))<|tr (ov fun S=>bC (S.e rfl) (S.e rfl))<|tr (mv rfl)<|la (gon 114 rfl fun S=>aB (S.e rfl))) ?_;clear S;intro a u S;refine strip S.s rfl rfl (gd:=114) rfl ?_;refine cl S (sB _ _ (S.xx [In (ow (lgF B_t53 jl_t99))]) (.nil _) (B_t53,jl_t99) (S.rob hD 9 rfl (X:=fun D=>(ptE lgE 129).wf D _ (B_t53,jl_t99)) (jt hk_jl_t99) _ (by simp)) (⟨by first | omega | (dsimp only;omega) | assumption,by first | omega | (dsimp only;omega) | assumption,by first | omega | (dsimp only;omega) | assumption⟩)) sS ?_;rintro e u ⟨ra_t116_3,rc_t116_3,ra_t116_4,rc_t116_4,ra_t116_5,rc_t116_5,rfl,R_t116_3,R_t116_4,R_t116_5,T0⟩;refine ⟨_,rfl,fun a s=>?_⟩
   let z4:OF:=rwO ae 3 w.heap.size ra_t116_5 rc_t116_5 jl_t99.m.2.waiting.xs;let z5:OF:=rwO ae 3 w.heap.size ra_t116_3 rc_t116_3 jl_t99.m.2.target.xs;let z7:OF:=rwO ae 3 w.heap.size ra_t116_4 rc_t116_4 jl_t99.m.2.known.xs
   replace S:=(S.krx [⟨_,ae,3,ra_t116_5,rc_t116_5,jl_t99.m.2.waiting.xs⟩,⟨_,ae,3,ra_t116_4,rc_t116_4,jl_t99.m.2.known.xs⟩,⟨_,ae,3,ra_t116_3,rc_t116_3,jl_t99.m.2.target.xs⟩] s T0 ⟨R_t116_5,R_t116_4,R_t116_3,trivial⟩ ⟨fun _ _ _ _ h=>h,fun _ _ _ _ h=>h,fun _ _ _ _ h=>h,trivial⟩).sh;clear s T0 R_t116_5 R_t116_4 R_t116_3
   try dsimp only at S
   refine sp S (la (gon 114 rfl fun S=>aB (S.e rfl))) ?_;clear S;intro a u S;refine strip S.s rfl rfl (gd:=114) rfl ?_;refine cl S (p8 _ _ (S.xx [In (ow (bO B_t41 rn_t105))]) (.nil _) (B_t41,rn_t105) (S.rob hD 10 rfl (X:=fun D=>(ptE jj 137).wf D _ (B_t41,rn_t105)) (iG hk_rn_t105) _ (by simp)) (by first | assumption | exact hOK | exact (hT.sm hBeg bo ba ba).1)) qC ?_;rintro e u ⟨ra_t118_3,rc_t118_3,ra_t118_4,rc_t118_4,ra_t118_5,rc_t118_5,rfl,R_t118_3,R_t118_4,R_t118_5,T0⟩;refine ⟨_,rfl,fun a s=>?_⟩
   let z2:OF:=rwO ae 3 w.heap.size ra_t118_5 rc_t118_5 rn_t105.m.2.waiting.xs;let z3:OF:=rwO ae 3 w.heap.size ra_t118_3 rc_t118_3 rn_t105.m.2.target.xs;let z6:OF:=rwO ae 3 w.heap.size ra_t118_4 rc_t118_4 rn_t105.m.2.known.xs
   replace S:=(S.krx [⟨_,ae,3,ra_t118_5,rc_t118_5,rn_t105.m.2.waiting.xs⟩,⟨_,ae,3,ra_t118_4,rc_t118_4,rn_t105.m.2.known.xs⟩,⟨_,ae,3,ra_t118_3,rc_t118_3,rn_t105.m.2.target.xs⟩] s T0 ⟨R_t118_5,R_t118_4,R_t118_3,trivial⟩ ⟨fun _ _ _ _ h=>h,fun _ _ _ _ h=>h,fun _ _ _ _ h=>h,trivial⟩).sh;clear s T0 R_t118_5 R_t118_4 R_t118_3
   try dsimp only at S
   refine sp S (la (ph 114 rfl (fun S=>lM _ _ (S.xx [abk ra_t116_3,abk ra_t116_4,abk ra_t116_5,abk ra_t118_3,abk ra_t118_4,abk ra_t118_5]) (.nil _) (⟨jl_t99.m.2.round,jl_t99.m.2.back,jl_t99.m.2.seq,(Sl.mk ra_t116_3 rc_t116_3 jl_t99.m.2.target.xs),(Sl.mk ra_t116_4 rc_t116_4 jl_t99.m.2.known.xs),(Sl.mk ra_t116_5 rc_t116_5 jl_t99.m.2.waiting.xs)⟩:fU) ⟨(show ah jl_t99.m.2.round from bp),trivial,(show ah jl_t99.m.2.seq from bp),(S.cK hD 14 rfl nz _ (by simp)),(S.cK hD 13 rfl nz _ (by simp)),(S.cK hD 12 rfl nz _ (by simp))⟩ (⟨rn_t105.m.2.round,rn_t105.m.2.back,rn_t105.m.2.seq,(Sl.mk ra_t118_3 rc_t118_3 rn_t105.m.2.target.xs),(Sl.mk ra_t118_4 rc_t118_4 rn_t105.m.2.known.xs),(Sl.mk ra_t118_5 rc_t118_5 rn_t105.m.2.waiting.xs)⟩:fU) ⟨(show ah rn_t105.m.2.round from bp),trivial,(show ah rn_t105.m.2.seq from bp),(S.cK hD 17 rfl nz _ (by simp)),(S.cK hD 16 rfl nz _ (by simp)),(S.cK hD 15 rfl nz _ (by simp))⟩) va)) ?_;clear S;intro a u S;replace S:=S.ext (d:=119) (v:=.bool true) ((S.get 119 rfl).trans (vbt (jM (d:=(bh rn_t105).c) (hLg2.ma.ab.trans hlc2.symm) ⟨rfl,by simp [noS,bb,bh],rfl,rfl,rfl,rfl⟩ ⟨rfl,by simp [noS,bb,bh],rfl,rfl,rfl,rfl⟩)));refine ens S (tr (gon 114 rfl fun S=>gI (S.e rfl))<|la (ov fun S=>bC (S.e rfl) (S.e rfl))) ?_;clear S;intro a u S;refine cdf S rfl ?_;refine wp_skip (ak (rs0 ?_));refine sp S (la (mv rfl)) ?_;clear S;intro a u S;refine cl S (oq _ _ (S.xx [In (ow (lgF B_t53 jl_t99))]) (.nil _) (B_t53,jl_t99) (S.rob hD 9 rfl (X:=fun D=>(ptE lgE 129).wf D _ (B_t53,jl_t99)) (jt hk_jl_t99) _ (by simp)) (by first | omega | (dsimp only;omega) | assumption)) wZ ?_;rintro e u ⟨ra_t123,rc_t123,rfl,R_t123,T0⟩;refine ⟨_,rfl,fun a s=>?_⟩
   let z11:RF:=wfF (slE u8E) (Sl.mk ra_t123 rc_t123 (aG jl_t99.l.xs))
   replace S:=(S.krx [⟨_,u8E,5,ra_t123,rc_t123,aG jl_t99.l.xs⟩] s T0 ⟨R_t123,trivial⟩ ⟨fun _ _ _ _ h=>h,trivial⟩).sh;clear s T0 R_t123;dsimp only at S;replace S:=S.fz 18 rfl;refine ens S (la (av rfl)) ?_;clear S;intro a u S;refine wp_seq (rs0 ?_);have hn28:(aG jl_t99.l.xs).length≤9223372036854775807:=((S.u 5 rfl)).1.len;refine sp S (tr (mv rfl)<|tr (ov fun S=>gI (S.e rfl))<|tr (mv rfl)<|tr (gon 126 rfl fun S=>aB (S.e rfl))<|tr (gon 126 rfl fun S=>eb fx (S.e rfl))<|la (gon 126 rfl fun S=>jo (S.e rfl) (S.e rfl))) ?_;clear S;intro a u S;replace S:=S.ext (d:=129) (v:=.bool false) ((S.get 129 rfl).trans (vbf bo));refine ens S (la (ov fun S=>bC (S.e rfl) (S.e rfl))) ?_;clear S;intro a u S;refine cdf S rfl ?_;refine wp_skip (ak (wp_seq ?_));refine drH (P:=Try.prog) ((Option (Nat × Lg))) none (fun g=>[wfF (slE ae) t_,wfF aO r_t34,z12,wfF aZ r_t82,wfF aV r_t860,z11]) (fun g=>[tpO 112 T28 t_,noO,blO b7 (aO.cells r_t34) 47,z1,blO b17 (aZ.cells r_t82) 78,blO b18 (aV.cells r_t860) 24,z8,z10,z9,bnO (lgF B_t53 jl_t99),bnO (bO B_t41 rn_t105),bnO (rrF B_t47 rr_t111),z4,z7,z5,z2,z6,z3,noO]) [⟨0,132,0,1,[],[0],fun g=>.agg (aO.cells r_t34).toArray,[]⟩,⟨1,133,0,1,[],[1],fun g=>iI (1+r_t30),[]⟩,⟨2,134,0,1,[],[8,2],fun g=>.slice ra_t123 ((aG jl_t99.l.xs).length) rc_t123,[]⟩,⟨3,135,0,1,[],[8,7,4,3],fun g=>.slice ra_t123 ((aG jl_t99.l.xs).length) rc_t123,[]⟩,⟨4,136,0,1,[],[8,7,4],fun g=>iN (aG jl_t99.l.xs).length,[135]⟩,⟨5,137,0,0,[],[5],fun g=>iI torn,[]⟩,⟨7,139,1,1,[6],[8,7],fun g=>iI ((((aG jl_t99.l.xs).length:Nat):Int) - (torn % 18446744073709551616 % 15)),[136,138]⟩,⟨8,140,1,1,[7,6],[8],fun g=>.slice ra_t123 (((aG jl_t99.l.xs).take (((((aG jl_t99.l.xs).length:Nat):Int) - (torn % 18446744073709551616 % 15))).toNat).length) rc_t123,[134,139]⟩,⟨10,131,2,2,[9],[],fun g=>.tuple #[lR g,iI (iJ g ((aG jl_t99.l.xs).take (((((aG jl_t99.l.xs).length:Nat):Int) - (torn % 18446744073709551616 % 15))).toNat)),iI (mQ g)],[141]⟩,⟨11,142,2,2,[10,9],[],fun g=>lR g,[131]⟩,⟨12,143,2,2,[10,9],[],fun g=>iI (iJ g ((aG jl_t99.l.xs).take (((((aG jl_t99.l.xs).length:Nat):Int) - (torn % 18446744073709551616 % 15))).toNat)),[131]⟩,⟨13,144,2,2,[10,9],[],fun g=>iI (mQ g),[131]⟩,⟨14,21,2,2,[9],[],fun g=>lR g,[142]⟩,⟨15,22,2,2,[9],[],fun g=>iI (iJ g ((aG jl_t99.l.xs).take (((((aG jl_t99.l.xs).length:Nat):Int) - (torn % 18446744073709551616 % 15))).toNat)),[143]⟩,⟨16,23,2,2,[9],[],fun g=>iI (mQ g),[144]⟩] [] [⟨6,some 138,fun g=>iI (torn % 18446744073709551616 % 15),[137],fun g=>[wfF (slE ae) t_,wfF aO r_t34,z12,wfF aZ r_t82,wfF aV r_t860,z11],fun g=>[tpO 112 T28 t_,noO,blO b7 (aO.cells r_t34) 47,z1,blO b17 (aZ.cells r_t82) 78,blO b18 (aV.cells r_t860) 24,z8,z10,z9,bnO (lgF B_t53 jl_t99),bnO (bO B_t41 rn_t105),bnO (rrF B_t47 rr_t111),z4,z7,z5,z2,z6,z3,noO],fun g=>True⟩,⟨9,some 141,fun g=>.tuple #[lR g,iI (iJ g ((aG jl_t99.l.xs).take (((((aG jl_t99.l.xs).length:Nat):Int) - (torn % 18446744073709551616 % 15))).toNat)),iI (mQ g)],[132,133,140],fun g=>[wfF (slE ae) t_,wfF aO r_t34,z12,wfF aZ r_t82,wfF aV r_t860,z11],fun g=>[tpO 112 T28 t_,noO,blO b7 (aO.cells r_t34) 47,z1,blO b17 (aZ.cells r_t82) 78,blO b18 (aV.cells r_t860) 24,z8,z10,z9,bnO (lgF B_t53 jl_t99),bnO (bO B_t41 rn_t105),bnO (rrF B_t47 rr_t111),z4,z7,z5,z2,z6,z3,noO,bnO (lgQ g)],fun g=>wu g∧((g.isSome=true↔(((aL r_t34.ay (aY r_t34) (1+r_t30)).isSome=true∧r_t34.rounds.xs.length≤16)∧mE (1+r_t30) (eK (Sl.mk ra_t123 rc_t123 ((aG jl_t99.l.xs).take (((((aG jl_t99.l.xs).length:Nat):Int) - (torn % 18446744073709551616 % 15))).toNat)).xs)))∧∀ x,g=some x→dO (aY r_t34) (eh (aL r_t34.ay (aY r_t34) (1+r_t30))) (1+r_t30) x.2 (eK (Sl.mk ra_t123 rc_t123 ((aG jl_t99.l.xs).take (((((aG jl_t99.l.xs).length:Nat):Int) - (torn % 18446744073709551616 % 15))).toNat)).xs))⟩] [[6]] [] [] S (fun y hy=>by cases hy) (fun g=>⟨rfl,rfl,rfl,rfl,rfl,rfl,rfl,rfl,rfl,rfl,rfl,rfl,rfl,rfl,rfl,rfl,rfl,trivial⟩) ?_ ?_ ⟨⟨_,rfl,rfl,?_⟩,⟨_,rfl,rfl,?_⟩,trivial⟩ ?_
   ·intro k q_t141 hk; obtain rfl | rfl | rfl : k = 0 ∨ k = 1 ∨ k = 2 := by simp only [List.length_cons, List.length_nil] at hk; omega
    ·exact ⟨lkq rfl fun S=>cJ (S.e rfl) (S.k 2 rfl).all ji,lkv rfl rfl,lkv rfl rfl,lkv rfl rfl,lkq rfl fun S=>eb fx (S.e rfl),lkv rfl rfl,lkm,lkm,lkm,lkm,lkm,lkm,lkm,lkm,lkm,trivial⟩
    ·exact ⟨lkq rfl fun S=>cJ (S.e rfl) (S.k 2 rfl).all ji,lkv rfl rfl,lkv rfl rfl,lkv rfl rfl,lkq rfl fun S=>eb fx (S.e rfl),lkn,lkq rfl fun S=>qK (S.e rfl) (S.e rfl) (r:=((((aG jl_t99.l.xs).length:Nat):Int) - (torn % 18446744073709551616 % 15))) (bu bo),lkq rfl fun S=>nF fx iZ5 (S.e rfl) (S.e rfl) (((((aG jl_t99.l.xs).length:Nat):Int) - (torn % 18446744073709551616 % 15))).toNat bo (Nat.le_trans (by first | omega | (show _≤(aG jl_t99.l.xs).length;omega)) ((S.u 5 rfl)).2.1) ((S.u 5 rfl)).2.2 _ (by rw [List.length_take];first | omega | (simp only [List.length_cons,List.length_nil];omega)),lkm,lkm,lkm,lkm,lkm,lkm,lkm,trivial⟩
    exact ⟨lkn,lkn,lkn,lkn,lkn,lkn,lkn,lkn,lkv rfl rfl,lkq rfl fun S=>iU (S.e rfl) rfl,lkq rfl fun S=>iU (S.e rfl) rfl,lkq rfl fun S=>iU (S.e rfl) rfl,lkq rfl fun S=>gJ (S.e rfl),lkq rfl fun S=>gJ (S.e rfl),lkq rfl fun S=>gJ (S.e rfl),trivial⟩
   ·exact fun _ _ _=>trivial
   ·skip;intro g a u h;revert h;revert a u;revert g;intro q_t141 a u h;obtain ⟨S,hR,hN⟩:=h;replace S:=S.h0;dsimp only at S;refine ens S (la (oc (fun S=>zG _ _ S.x (.nil _) torn torn_h 15 bp bo) zT)) ?_;clear S;intro a u S;exact ⟨S.s.defers,(q_t141),(gD S.s rfl),agz,trivial,trivial,S.m,trivial⟩
   ·skip;intro g a u h;revert h;revert a u;revert g;intro q_t141 a u h;obtain ⟨S,hR,hN⟩:=h;replace S:=S.hk (k:=0);dsimp only at S;replace S:=S.spl 19;refine cl S (xr _ _ S.xxF  S.mF (S.nfF hD) r_t34 (dnF   (S.u 1 rfl)) (1+r_t30) bp (Sl.mk ra_t123 rc_t123 ((aG jl_t99.l.xs).take (((((aG jl_t99.l.xs).length:Nat):Int) - (torn % 18446744073709551616 % 15))).toNat)) (dnF   (kY (S.u 5 rfl) (((((aG jl_t99.l.xs).length:Nat):Int) - (torn % 18446744073709551616 % 15))).toNat (by first | omega | (show _≤(aG jl_t99.l.xs).length;omega)))) bd) zS ?_;rintro e u ⟨q_t141,rfl,qK_t141,qB_t141,hr_t141,T0⟩;refine ⟨_,rfl,fun a s=>?_⟩;replace S:=(S.kF   [bnO (lgQ q_t141)] s T0 ⟨qB_t141,trivial⟩ ⟨(aD (kv _)),trivial⟩).sh;clear s T0 qB_t141;refine ent ?_;exact ⟨S.s.defers,(q_t141),(gD S.s rfl),agz,trivial,⟨rfl,trivial⟩,S.m,⟨qK_t141,hr_t141⟩⟩
   clear S;intro g a u hA S hR;revert hA S hR;revert a u;revert g;intro q_t141 a u hA S hR;obtain ⟨qK_t141,hr_t141⟩:wu q_t141∧((q_t141.isSome=true↔(((aL r_t34.ay (aY r_t34) (1+r_t30)).isSome=true∧r_t34.rounds.xs.length≤16)∧mE (1+r_t30) (eK (Sl.mk ra_t123 rc_t123 ((aG jl_t99.l.xs).take (((((aG jl_t99.l.xs).length:Nat):Int) - (torn % 18446744073709551616 % 15))).toNat)).xs)))∧∀ x,q_t141=some x→dO (aY r_t34) (eh (aL r_t34.ay (aY r_t34) (1+r_t30))) (1+r_t30) x.2 (eK (Sl.mk ra_t123 rc_t123 ((aG jl_t99.l.xs).take (((((aG jl_t99.l.xs).length:Nat):Int) - (torn % 18446744073709551616 % 15))).toNat)).xs)):=hR;replace S:=(S.hk (k:=1)).l [(1,iI torn),(5,pT T28 0),(6,iI (1+r_t30)),(7,pT b7 0),(9,pT B_t41 0),(11,pT B_t47 0),(13,pT B_t53 0),(15,pT b15 0),(16,iN i),(77,bD (((i:Nat):Int) < 20)),(17,pT b17 0),(18,pT b18 0),(19,.bool true),(92,bD (¬ (cI (aM yj) r_t82))),(121,.bool false),(20,.slice ra_t123 ((aG jl_t99.l.xs).length) rc_t123),(130,.bool false),(21,lR q_t141),(23,iI (mQ q_t141))] (bB rfl);dsimp only at S
   rcases q_t141 with _ | ⟨B_t141,x_t141⟩
   ·exact absurd (hr_t141.1.2 ⟨hpg.1,by rw [← hvl];exact wH hgx hL1 bo bo⟩) (by decide)
   replace S:=(show St _ _ _ _ _ _ [tpO 112 T28 t_,noO,blO b7 (aO.cells r_t34) 47,z1,blO b17 (aZ.cells r_t82) 78,blO b18 (aV.cells r_t860) 24,z8,z10,z9,bnO (lgF B_t53 jl_t99),bnO (bO B_t41 rn_t105),bnO (rrF B_t47 rr_t111),z4,z7,z5,z2,z6,z3,noO,bnO (lgF B_t141 x_t141)] _ _ from S);refine ent (wp_seq ?_);have hOp:dO _ _ _ x_t141 _:=hr_t141.2 _ rfl;rw [← hvl,hZ] at hOp;have hOb:=uL hgx hL1 bo bo hOp.ma.ab;rw [← hn1,← hn2] at hOb;obtain ⟨⟨hob1,hob2,hob3⟩,⟨hor1,hor2⟩,hos1,hos2⟩:=hOp.small bo;refine (Classical.em (jN (⟨x_t141.m.2.round,x_t141.m.2.back,x_t141.m.2.seq,x_t141.m.2.target,x_t141.m.2.known,x_t141.m.2.waiting⟩:fU) (⟨xj.m.2.round,xj.m.2.back,xj.m.2.seq,xj.m.2.target,xj.m.2.known,xj.m.2.waiting⟩:fU))).elim (fun hP=>?_) (fun hP=>?_)
   ·skip;refine drH (P := Try.prog) ((Option Addr) × Nat × (Option Addr) × Nat × (Option Addr) × Nat) (none, 0, none, 0, none, 0) (fun g => [wfF (slE ae) t_, wfF aO r_t34, z12, wfF aZ r_t82, wfF aV r_t860, z11]) (fun g => [tpO 112 T28 t_, noO, blO b7 (aO.cells r_t34) 47, z1, blO b17 (aZ.cells r_t82) 78, blO b18 (aV.cells r_t860) 24, z8, z10, z9, bnO (lgF B_t53 jl_t99), bnO (bO B_t41 rn_t105), bnO (rrF B_t47 rr_t111), z4, z7, z5, z2, z6, z3, noO, bnO (lgF B_t141 x_t141)]) [⟨0, 145, 0, 0, [], [6, 2, 1, 0], fun g => iI 0, []⟩, ⟨1, 146, 0, 0, [], [6, 2, 1], fun g => .bool false, [145]⟩, ⟨2, 147, 0, 0, [], [6, 2], fun g => .bool false, [146]⟩, ⟨3, 148, 0, 0, [], [6, 5, 4, 3], fun g => pT B_t141 0, [147]⟩, ⟨4, 149, 0, 0, [], [6, 5, 4], fun g => .bool false, [147, 148]⟩, ⟨5, 150, 0, 0, [], [6, 5], fun g => .bool false, [147, 149]⟩, ⟨6, 151, 0, 0, [], [6], fun g => .bool false, [150]⟩, ⟨7, 152, 0, 0, [], [7], fun g => pT B_t141 0, [151]⟩, ⟨9, 154, 0, 1, [], [9], fun g => .agg #[iI xj.m.2.round, bD (xj.m.2.back = true), iI xj.m.2.seq, .slice ra_t94_3 xj.m.2.target.xs.length rc_t94_3, .slice ra_t94_4 xj.m.2.known.xs.length rc_t94_4, .slice ra_t94_5 xj.m.2.waiting.xs.length rc_t94_5], [151]⟩, ⟨11, 156, 2, 2, [10], [12, 11], fun g => .bool false, [151, 155]⟩, ⟨12, 157, 2, 2, [10], [12], fun g => .bool false, [151, 156]⟩, ⟨13, 158, 2, 2, [12, 10], [13], fun g => undef, [157]⟩, ⟨15, 160, 2, 3, [12, 10], [15], fun g => undef, [157]⟩, ⟨18, 163, 5, 5, [17], [], fun g => undef, [157]⟩, ⟨19, 164, 5, 5, [18, 17], [], fun g => .bool false, [151, 157, 163]⟩, ⟨20, 165, 5, 5, [19, 18, 17], [], fun g => .bool false, [151, 164]⟩] [] [⟨8, some 153, fun g => .agg #[iI x_t141.m.2.round, bD (x_t141.m.2.back = true), iI x_t141.m.2.seq, .slice g.1 x_t141.m.2.target.xs.length g.2.1, .slice g.2.2.1 x_t141.m.2.known.xs.length g.2.2.2.1, .slice g.2.2.2.2.1 x_t141.m.2.waiting.xs.length g.2.2.2.2.2], [151, 152], fun g => [wfF (slE ae) t_, wfF aO r_t34, z12, wfF aZ r_t82, wfF aV r_t860, z11], fun g => [tpO 112 T28 t_, noO, blO b7 (aO.cells r_t34) 47, z1, blO b17 (aZ.cells r_t82) 78, blO b18 (aV.cells r_t860) 24, z8, z10, z9, bnO (lgF B_t53 jl_t99), bnO (bO B_t41 rn_t105), bnO (rrF B_t47 rr_t111), z4, z7, z5, z2, z6, z3, noO, bnO (lgF B_t141 x_t141), rwO ae 3 w.heap.size g.2.2.2.2.1 g.2.2.2.2.2 x_t141.m.2.waiting.xs, rwO ae 3 w.heap.size g.2.2.1 g.2.2.2.1 x_t141.m.2.known.xs, rwO ae 3 w.heap.size g.1 g.2.1 x_t141.m.2.target.xs], fun g => True⟩, ⟨10, some 155, fun g => .bool true, [151, 153, 154], fun g => [wfF (slE ae) t_, wfF aO r_t34, z12, wfF aZ r_t82, wfF aV r_t860, z11], fun g => [tpO 112 T28 t_, noO, blO b7 (aO.cells r_t34) 47, z1, blO b17 (aZ.cells r_t82) 78, blO b18 (aV.cells r_t860) 24, z8, z10, z9, bnO (lgF B_t53 jl_t99), bnO (bO B_t41 rn_t105), bnO (rrF B_t47 rr_t111), z4, z7, z5, z2, z6, z3, noO, bnO (lgF B_t141 x_t141), rwO ae 3 w.heap.size g.2.2.2.2.1 g.2.2.2.2.2 x_t141.m.2.waiting.xs, rwO ae 3 w.heap.size g.2.2.1 g.2.2.2.1 x_t141.m.2.known.xs, rwO ae 3 w.heap.size g.1 g.2.1 x_t141.m.2.target.xs], fun g => True⟩, ⟨14, some 159, fun g => undef, [157, 158], fun g => [wfF (slE ae) t_, wfF aO r_t34, z12, wfF aZ r_t82, wfF aV r_t860, z11], fun g => [tpO 112 T28 t_, noO, blO b7 (aO.cells r_t34) 47, z1, blO b17 (aZ.cells r_t82) 78, blO b18 (aV.cells r_t860) 24, z8, z10, z9, bnO (lgF B_t53 jl_t99), bnO (bO B_t41 rn_t105), bnO (rrF B_t47 rr_t111), z4, z7, z5, z2, z6, z3, noO, bnO (lgF B_t141 x_t141), rwO ae 3 w.heap.size g.2.2.2.2.1 g.2.2.2.2.2 x_t141.m.2.waiting.xs, rwO ae 3 w.heap.size g.2.2.1 g.2.2.2.1 x_t141.m.2.known.xs, rwO ae 3 w.heap.size g.1 g.2.1 x_t141.m.2.target.xs], fun g => True⟩, ⟨16, some 161, fun g => undef, [157, 160], fun g => [wfF (slE ae) t_, wfF aO r_t34, z12, wfF aZ r_t82, wfF aV r_t860, z11], fun g => [tpO 112 T28 t_, noO, blO b7 (aO.cells r_t34) 47, z1, blO b17 (aZ.cells r_t82) 78, blO b18 (aV.cells r_t860) 24, z8, z10, z9, bnO (lgF B_t53 jl_t99), bnO (bO B_t41 rn_t105), bnO (rrF B_t47 rr_t111), z4, z7, z5, z2, z6, z3, noO, bnO (lgF B_t141 x_t141), rwO ae 3 w.heap.size g.2.2.2.2.1 g.2.2.2.2.2 x_t141.m.2.waiting.xs, rwO ae 3 w.heap.size g.2.2.1 g.2.2.2.1 x_t141.m.2.known.xs, rwO ae 3 w.heap.size g.1 g.2.1 x_t141.m.2.target.xs], fun g => True⟩, ⟨17, some 162, fun g => undef, [157, 159, 161], fun g => [wfF (slE ae) t_, wfF aO r_t34, z12, wfF aZ r_t82, wfF aV r_t860, z11], fun g => [tpO 112 T28 t_, noO, blO b7 (aO.cells r_t34) 47, z1, blO b17 (aZ.cells r_t82) 78, blO b18 (aV.cells r_t860) 24, z8, z10, z9, bnO (lgF B_t53 jl_t99), bnO (bO B_t41 rn_t105), bnO (rrF B_t47 rr_t111), z4, z7, z5, z2, z6, z3, noO, bnO (lgF B_t141 x_t141), rwO ae 3 w.heap.size g.2.2.2.2.1 g.2.2.2.2.2 x_t141.m.2.waiting.xs, rwO ae 3 w.heap.size g.2.2.1 g.2.2.2.1 x_t141.m.2.known.xs, rwO ae 3 w.heap.size g.1 g.2.1 x_t141.m.2.target.xs], fun g => True⟩] [[8], [12, 10], [14], [16]] [] [] S (fun y hy => by cases hy) (fun ⟨ra_t153_3, rc_t153_3, ra_t153_4, rc_t153_4, ra_t153_5, rc_t153_5⟩ => ⟨rfl, rfl, rfl, rfl, rfl, rfl, rfl, rfl, rfl, rfl, rfl, rfl, rfl, rfl, rfl, rfl, rfl, rfl, rfl, rfl, rfl, trivial⟩) ?_ ?_ ⟨⟨_, rfl, rfl, ?_⟩, ⟨_, rfl, rfl, ?_⟩, ⟨_, rfl, rfl, ?_⟩, ⟨_, rfl, rfl, ?_⟩, ⟨_, rfl, rfl, ?_⟩, trivial⟩ ?_
    ·intro k g hk; obtain ⟨ra_t153_3, rc_t153_3, ra_t153_4, rc_t153_4, ra_t153_5, rc_t153_5⟩ := g; obtain rfl | rfl | rfl | rfl | rfl | rfl : k = 0 ∨ k = 1 ∨ k = 2 ∨ k = 3 ∨ k = 4 ∨ k = 5 := by simp only [List.length_cons, List.length_nil] at hk; omega
     ·exact ⟨lkv rfl rfl,lkq rfl fun S=>exv (fX (S.e rfl) (S.e rfl)) rfl,lkv rfl rfl,fun _ _=>⟨_,rfl,rfl,fun a u ⟨S,hR,hN⟩=>lk1 (aB (S.e rfl)) 147 false (S.s.get 147 _ rfl)⟩,fun _ _=>⟨_,rfl,rfl,fun a u ⟨S,hR,hN⟩=>lk1 (exv (eB oU (S.e rfl) (S.e rfl)) rfl) 147 false (S.s.get 147 _ rfl)⟩,lkq rfl fun S=>bC (S.e rfl) (S.e rfl),lkv rfl rfl,fun _ _=>⟨_,rfl,rfl,fun a u ⟨S,hR,hN⟩=>lk1 (aB (S.e rfl)) 151 false (S.s.get 151 _ rfl)⟩,fun _ _=>⟨_,rfl,rfl,fun a u ⟨S,hR,hN⟩=>lk1 (cJ (S.e rfl) (S.k 3 rfl).all jJ) 151 false (S.s.get 151 _ rfl)⟩,lkm,lkm,lkm,lkm,lkm,lkm,lkm,trivial⟩
     ·exact ⟨lkn,lkn,lkn,lkn,lkn,lkn,lkn,lkn,fun _ _=>⟨_,rfl,rfl,fun a u ⟨S,hR,hN⟩=>lk1 (cJ (S.e rfl) (S.k 3 rfl).all jJ) 151 false (S.s.get 151 _ rfl)⟩,lkm,lkm,lkm,lkm,lkm,lkm,lkm,trivial⟩
     ·exact ⟨lkn,lkn,lkn,lkn,lkn,lkn,lkn,lkn,lkn,fun _ _=>⟨_,rfl,rfl,fun a u ⟨S,hR,hN⟩=>lk1 (exv (gI (S.e rfl)) rfl) 151 false (S.s.get 151 _ rfl)⟩,fun _ _=>⟨_,rfl,rfl,fun a u ⟨S,hR,hN⟩=>lk1 (aB (S.e rfl)) 151 false (S.s.get 151 _ rfl)⟩,fun _ _=>⟨_,rfl,rfl,fun a u ⟨S,hR,hN⟩=>lk2 157 true false (S.s.get 157 _ rfl)⟩,fun _ _=>⟨_,rfl,rfl,fun a u ⟨S,hR,hN⟩=>lk2 157 true false (S.s.get 157 _ rfl)⟩,lkm,lkm,lkm,trivial⟩
     ·exact ⟨lkn,lkn,lkn,lkn,lkn,lkn,lkn,lkn,lkn,lkn,lkn,lkn,fun _ _=>⟨_,rfl,rfl,fun a u ⟨S,hR,hN⟩=>lk2 157 true false (S.s.get 157 _ rfl)⟩,lkm,lkm,lkm,trivial⟩
     ·exact ⟨lkn,lkn,lkn,lkn,lkn,lkn,lkn,lkn,lkn,lkn,lkn,lkn,lkn,lkm,lkm,lkm,trivial⟩
     exact ⟨lkn,lkn,lkn,lkn,lkn,lkn,lkn,lkn,lkn,lkn,lkn,lkn,lkn,fun _ _=>⟨_,rfl,rfl,fun a u ⟨S,hR,hN⟩=>lk2 157 true false (S.s.get 157 _ rfl)⟩,fun _ _=>⟨_,rfl,rfl,fun a u ⟨S,hR,hN⟩=>lk1 (bC (S.e rfl) (S.e rfl)) 151 false (S.s.get 151 _ rfl)⟩,lkq rfl fun S=>bC (S.e rfl) (S.e rfl),trivial⟩
    ·exact fun _ _ _=>trivial
    ·skip;intro g a u h;obtain ⟨ra_t153_3,rc_t153_3,ra_t153_4,rc_t153_4,ra_t153_5,rc_t153_5⟩:=g;obtain ⟨S,hR,hN⟩:=h;replace S:=S.h0;dsimp only at S;refine strip S.s rfl rfl (gd:=151) rfl ?_;refine cl S (sB _ _ (S.xx [In (ow (lgF B_t141 x_t141))]) (.nil _) (B_t141,x_t141) (S.rob hD 19 rfl (X:=fun D=>(ptE lgE 129).wf D _ (B_t141,x_t141)) (jt qK_t141) _ (by simp)) (⟨by first | omega | (dsimp only;omega) | assumption,by first | omega | (dsimp only;omega) | assumption,by first | omega | (dsimp only;omega) | assumption⟩)) sS ?_;rintro e u ⟨ra_t153_3,rc_t153_3,ra_t153_4,rc_t153_4,ra_t153_5,rc_t153_5,rfl,R_t153_3,R_t153_4,R_t153_5,T0⟩;refine ⟨_,rfl,fun a s=>?_⟩;replace S:=(S.krx [⟨_,ae,3,ra_t153_5,rc_t153_5,x_t141.m.2.waiting.xs⟩,⟨_,ae,3,ra_t153_4,rc_t153_4,x_t141.m.2.known.xs⟩,⟨_,ae,3,ra_t153_3,rc_t153_3,x_t141.m.2.target.xs⟩] s T0 ⟨R_t153_5,R_t153_4,R_t153_3,trivial⟩ ⟨fun _ _ _ _ h=>h,fun _ _ _ _ h=>h,fun _ _ _ _ h=>h,trivial⟩).sh;clear s T0 R_t153_5 R_t153_4 R_t153_3;refine ent ?_;exact ⟨S.s.defers,(ra_t153_3,rc_t153_3,ra_t153_4,rc_t153_4,ra_t153_5,rc_t153_5),(gD S.s rfl),agz,trivial,trivial,S.m,trivial⟩
    ·skip;intro g a u h; obtain ⟨ra_t153_3, rc_t153_3, ra_t153_4, rc_t153_4, ra_t153_5, rc_t153_5⟩ := g; obtain ⟨S, hR, hN⟩ := h
     let z14:=(⟨x_t141.m.2.round,x_t141.m.2.back,x_t141.m.2.seq,(Sl.mk ra_t153_3 rc_t153_3 x_t141.m.2.target.xs),(Sl.mk ra_t153_4 rc_t153_4 x_t141.m.2.known.xs),(Sl.mk ra_t153_5 rc_t153_5 x_t141.m.2.waiting.xs)⟩:fU)
     replace S:=S.hk (k:=0);dsimp only at S;refine sp S (la (ph 151 rfl (fun S=>lM _ _ (S.xx [abk ra_t153_3,abk ra_t153_4,abk ra_t153_5,abk ra_t94_3,abk ra_t94_4,abk ra_t94_5]) (.nil _) z14 ⟨(show ah x_t141.m.2.round from bp),trivial,(show ah x_t141.m.2.seq from bp),(S.cK hD 22 rfl nz _ (by simp)),(S.cK hD 21 rfl nz _ (by simp)),(S.cK hD 20 rfl nz _ (by simp))⟩ z13 ⟨(show ah xj.m.2.round from bp),trivial,(show ah xj.m.2.seq from bp),(S.cK hD 8 rfl nz _ (by simp)),(S.cK hD 7 rfl nz _ (by simp)),(S.cK hD 6 rfl nz _ (by simp))⟩) va)) ?_;clear S;intro a u S;replace S:=S.ext (d:=155) (v:=.bool true) ((S.get 155 rfl).trans (vbt ((show jN z14 z13 from hP))));refine ent ?_;exact ⟨S.s.defers,(ra_t153_3,rc_t153_3,ra_t153_4,rc_t153_4,ra_t153_5,rc_t153_5),(gD S.s rfl),agz,trivial,⟨rfl,trivial⟩,S.m,trivial⟩
    ·skip;intro g a u h;obtain ⟨ra_t153_3,rc_t153_3,ra_t153_4,rc_t153_4,ra_t153_5,rc_t153_5⟩:=g;obtain ⟨S,hR,hN⟩:=h;replace S:=S.hk (k:=1);dsimp only at S;refine ens S (la (bI 157 rfl)) ?_;clear S;intro a u S;exact ⟨S.s.defers,(ra_t153_3,rc_t153_3,ra_t153_4,rc_t153_4,ra_t153_5,rc_t153_5),(gD S.s rfl),agz,trivial,⟨rfl,rfl,trivial⟩,S.m,trivial⟩
    ·skip;intro g a u h;obtain ⟨ra_t153_3,rc_t153_3,ra_t153_4,rc_t153_4,ra_t153_5,rc_t153_5⟩:=g;obtain ⟨S,hR,hN⟩:=h;replace S:=S.hk (k:=2);dsimp only at S;refine ens S (la (bI 157 rfl)) ?_;clear S;intro a u S;exact ⟨S.s.defers,(ra_t153_3,rc_t153_3,ra_t153_4,rc_t153_4,ra_t153_5,rc_t153_5),(gD S.s rfl),agz,trivial,⟨rfl,rfl,rfl,trivial⟩,S.m,trivial⟩
    ·skip;intro g a u h;obtain ⟨ra_t153_3,rc_t153_3,ra_t153_4,rc_t153_4,ra_t153_5,rc_t153_5⟩:=g;obtain ⟨S,hR,hN⟩:=h;replace S:=S.hk (k:=3);dsimp only at S;refine ens S (la (bI 157 rfl)) ?_;clear S;intro a u S;exact ⟨S.s.defers,(ra_t153_3,rc_t153_3,ra_t153_4,rc_t153_4,ra_t153_5,rc_t153_5),(gD S.s rfl),agz,trivial,⟨rfl,rfl,rfl,rfl,trivial⟩,S.m,trivial⟩
    clear S;intro g a u hA S hR;obtain ⟨ra_t153_3,rc_t153_3,ra_t153_4,rc_t153_4,ra_t153_5,rc_t153_5⟩:=g;replace S:=(S.hk (k:=4)).l [(1,iI torn),(5,pT T28 0),(6,iI (1+r_t30)),(7,pT b7 0),(9,pT B_t41 0),(11,pT B_t47 0),(13,pT B_t53 0),(15,pT b15 0),(16,iN i),(77,bD (((i:Nat):Int) < 20)),(17,pT b17 0),(18,pT b18 0),(19,.bool true),(92,bD (¬ (cI (aM yj) r_t82))),(121,.bool false),(20,.slice ra_t123 ((aG jl_t99.l.xs).length) rc_t123),(130,.bool false),(21,pT B_t141 0),(23,iI 0),(165,.bool false)] (bB rfl);dsimp only at S
    try dsimp only at S
    refine ent ?_;refine cdf S rfl ?_;refine wp_skip (bf (ak ?_));refine rg S (tr (mv rfl)<|tr (cE ((i+1:Nat):Int) rfl rfl (bu bo))<|la (av rfl)) ?_;clear S;intro a u S;replace S:=S.pk [0,1,2,10,11,9,3];refine ak ?_;refine ⟨(i+1),(iI xj.m.2.round),(bD (xj.m.2.back=true)),(iI xj.m.2.seq),(.slice ra_t94_3 xj.m.2.target.xs.length rc_t94_3),(.slice ra_t94_4 xj.m.2.known.xs.length rc_t94_4),(.slice ra_t94_5 xj.m.2.waiting.xs.length rc_t94_5),rn_t105,rr_t111,jl_t99,S.re (bB rfl) rfl rfl,?_,?_⟩
    ·refine ⟨hk_rn_t105, hk_rr_t111, hk_jl_t99, ?_⟩
     first
     | exact ⟨by omega,hF.skip⟩
     | exact ⟨by omega,hF2⟩
    omega
   skip;refine drH (P:=Try.prog) ((Option Addr) × Nat × (Option Addr) × Nat × (Option Addr) × Nat × (Option Addr) × Nat × (Option Addr) × Nat × (Option Addr) × Nat × (Option Addr) × Nat × (Option Addr) × Nat × (Option Addr) × Nat) (none,0,none,0,none,0,none,0,none,0,none,0,none,0,none,0,none,0) (fun g=>[wfF (slE ae) t_,wfF aO r_t34,z12,wfF aZ r_t82,wfF aV r_t860,z11]) (fun g=>[tpO 112 T28 t_,noO,blO b7 (aO.cells r_t34) 47,z1,blO b17 (aZ.cells r_t82) 78,blO b18 (aV.cells r_t860) 24,z8,z10,z9,bnO (lgF B_t53 jl_t99),bnO (bO B_t41 rn_t105),bnO (rrF B_t47 rr_t111),z4,z7,z5,z2,z6,z3,noO,bnO (lgF B_t141 x_t141)]) [⟨0,145,0,0,[],[6,2,1,0],fun g=>iI 0,[]⟩,⟨1,146,0,0,[],[6,2,1],fun g=>.bool false,[145]⟩,⟨2,147,0,0,[],[6,2],fun g=>.bool false,[146]⟩,⟨3,148,0,0,[],[6,5,4,3],fun g=>pT B_t141 0,[147]⟩,⟨4,149,0,0,[],[6,5,4],fun g=>.bool false,[147,148]⟩,⟨5,150,0,0,[],[6,5],fun g=>.bool false,[147,149]⟩,⟨6,151,0,0,[],[6],fun g=>.bool false,[150]⟩,⟨7,152,0,0,[],[7],fun g=>pT B_t141 0,[151]⟩,⟨9,154,0,1,[],[9],fun g=>.agg #[iI xj.m.2.round,bD (xj.m.2.back=true),iI xj.m.2.seq,.slice ra_t94_3 xj.m.2.target.xs.length rc_t94_3,.slice ra_t94_4 xj.m.2.known.xs.length rc_t94_4,.slice ra_t94_5 xj.m.2.waiting.xs.length rc_t94_5],[151]⟩,⟨11,156,2,2,[10],[12,11],fun g=>.bool true,[151,155]⟩,⟨12,157,2,2,[10],[12],fun g=>.bool true,[151,156]⟩,⟨13,158,2,2,[12,10],[13],fun g=>pT B_t141 0,[157]⟩,⟨15,160,2,3,[12,10],[15],fun g=>pT B_t41 0,[157]⟩,⟨18,163,5,5,[17],[],fun g=>.bool false,[157,162]⟩,⟨19,164,5,5,[18,17],[],fun g=>.bool false,[151,157,163]⟩,⟨20,165,5,5,[19,18,17],[],fun g=>.bool false,[151,164]⟩] [] [⟨8,some 153,fun g=>.agg #[iI x_t141.m.2.round,bD (x_t141.m.2.back=true),iI x_t141.m.2.seq,.slice g.1 x_t141.m.2.target.xs.length g.2.1,.slice g.2.2.1 x_t141.m.2.known.xs.length g.2.2.2.1,.slice g.2.2.2.2.1 x_t141.m.2.waiting.xs.length g.2.2.2.2.2.1],[151,152],fun g=>[wfF (slE ae) t_,wfF aO r_t34,z12,wfF aZ r_t82,wfF aV r_t860,z11],fun g=>[tpO 112 T28 t_,noO,blO b7 (aO.cells r_t34) 47,z1,blO b17 (aZ.cells r_t82) 78,blO b18 (aV.cells r_t860) 24,z8,z10,z9,bnO (lgF B_t53 jl_t99),bnO (bO B_t41 rn_t105),bnO (rrF B_t47 rr_t111),z4,z7,z5,z2,z6,z3,noO,bnO (lgF B_t141 x_t141),rwO ae 3 w.heap.size g.2.2.2.2.1 g.2.2.2.2.2.1 x_t141.m.2.waiting.xs,rwO ae 3 w.heap.size g.2.2.1 g.2.2.2.1 x_t141.m.2.known.xs,rwO ae 3 w.heap.size g.1 g.2.1 x_t141.m.2.target.xs],fun g=>True⟩,⟨10,some 155,fun g=>.bool false,[151,153,154],fun g=>[wfF (slE ae) t_,wfF aO r_t34,z12,wfF aZ r_t82,wfF aV r_t860,z11],fun g=>[tpO 112 T28 t_,noO,blO b7 (aO.cells r_t34) 47,z1,blO b17 (aZ.cells r_t82) 78,blO b18 (aV.cells r_t860) 24,z8,z10,z9,bnO (lgF B_t53 jl_t99),bnO (bO B_t41 rn_t105),bnO (rrF B_t47 rr_t111),z4,z7,z5,z2,z6,z3,noO,bnO (lgF B_t141 x_t141),rwO ae 3 w.heap.size g.2.2.2.2.1 g.2.2.2.2.2.1 x_t141.m.2.waiting.xs,rwO ae 3 w.heap.size g.2.2.1 g.2.2.2.1 x_t141.m.2.known.xs,rwO ae 3 w.heap.size g.1 g.2.1 x_t141.m.2.target.xs],fun g=>True⟩,⟨14,some 159,fun g=>.agg #[iI x_t141.m.2.round,bD (x_t141.m.2.back=true),iI x_t141.m.2.seq,.slice g.2.2.2.2.2.2.1 x_t141.m.2.target.xs.length g.2.2.2.2.2.2.2.1,.slice g.2.2.2.2.2.2.2.2.1 x_t141.m.2.known.xs.length g.2.2.2.2.2.2.2.2.2.1,.slice g.2.2.2.2.2.2.2.2.2.2.1 x_t141.m.2.waiting.xs.length g.2.2.2.2.2.2.2.2.2.2.2.1],[157,158],fun g=>[wfF (slE ae) t_,wfF aO r_t34,z12,wfF aZ r_t82,wfF aV r_t860,z11],fun g=>[tpO 112 T28 t_,noO,blO b7 (aO.cells r_t34) 47,z1,blO b17 (aZ.cells r_t82) 78,blO b18 (aV.cells r_t860) 24,z8,z10,z9,bnO (lgF B_t53 jl_t99),bnO (bO B_t41 rn_t105),bnO (rrF B_t47 rr_t111),z4,z7,z5,z2,z6,z3,noO,bnO (lgF B_t141 x_t141),rwO ae 3 w.heap.size g.2.2.2.2.1 g.2.2.2.2.2.1 x_t141.m.2.waiting.xs,rwO ae 3 w.heap.size g.2.2.1 g.2.2.2.1 x_t141.m.2.known.xs,rwO ae 3 w.heap.size g.1 g.2.1 x_t141.m.2.target.xs,rwO ae 3 w.heap.size g.2.2.2.2.2.2.2.2.2.2.1 g.2.2.2.2.2.2.2.2.2.2.2.1 x_t141.m.2.waiting.xs,rwO ae 3 w.heap.size g.2.2.2.2.2.2.2.2.1 g.2.2.2.2.2.2.2.2.2.1 x_t141.m.2.known.xs,rwO ae 3 w.heap.size g.2.2.2.2.2.2.1 g.2.2.2.2.2.2.2.1 x_t141.m.2.target.xs],fun g=>True⟩,⟨16,some 161,fun g=>.agg #[iI rn_t105.m.2.round,bD (rn_t105.m.2.back=true),iI rn_t105.m.2.seq,.slice g.2.2.2.2.2.2.2.2.2.2.2.2.1 rn_t105.m.2.target.xs.length g.2.2.2.2.2.2.2.2.2.2.2.2.2.1,.slice g.2.2.2.2.2.2.2.2.2.2.2.2.2.2.1 rn_t105.m.2.known.xs.length g.2.2.2.2.2.2.2.2.2.2.2.2.2.2.2.1,.slice g.2.2.2.2.2.2.2.2.2.2.2.2.2.2.2.2.1 rn_t105.m.2.waiting.xs.length g.2.2.2.2.2.2.2.2.2.2.2.2.2.2.2.2.2],[157,160],fun g=>[wfF (slE ae) t_,wfF aO r_t34,z12,wfF aZ r_t82,wfF aV r_t860,z11],fun g=>[tpO 112 T28 t_,noO,blO b7 (aO.cells r_t34) 47,z1,blO b17 (aZ.cells r_t82) 78,blO b18 (aV.cells r_t860) 24,z8,z10,z9,bnO (lgF B_t53 jl_t99),bnO (bO B_t41 rn_t105),bnO (rrF B_t47 rr_t111),z4,z7,z5,z2,z6,z3,noO,bnO (lgF B_t141 x_t141),rwO ae 3 w.heap.size g.2.2.2.2.1 g.2.2.2.2.2.1 x_t141.m.2.waiting.xs,rwO ae 3 w.heap.size g.2.2.1 g.2.2.2.1 x_t141.m.2.known.xs,rwO ae 3 w.heap.size g.1 g.2.1 x_t141.m.2.target.xs,rwO ae 3 w.heap.size g.2.2.2.2.2.2.2.2.2.2.1 g.2.2.2.2.2.2.2.2.2.2.2.1 x_t141.m.2.waiting.xs,rwO ae 3 w.heap.size g.2.2.2.2.2.2.2.2.1 g.2.2.2.2.2.2.2.2.2.1 x_t141.m.2.known.xs,rwO ae 3 w.heap.size g.2.2.2.2.2.2.1 g.2.2.2.2.2.2.2.1 x_t141.m.2.target.xs,rwO ae 3 w.heap.size g.2.2.2.2.2.2.2.2.2.2.2.2.2.2.2.2.1 g.2.2.2.2.2.2.2.2.2.2.2.2.2.2.2.2.2 rn_t105.m.2.waiting.xs,rwO ae 3 w.heap.size g.2.2.2.2.2.2.2.2.2.2.2.2.2.2.1 g.2.2.2.2.2.2.2.2.2.2.2.2.2.2.2.1 rn_t105.m.2.known.xs,rwO ae 3 w.heap.size g.2.2.2.2.2.2.2.2.2.2.2.2.1 g.2.2.2.2.2.2.2.2.2.2.2.2.2.1 rn_t105.m.2.target.xs],fun g=>True⟩,⟨17,some 162,fun g=>.bool true,[157,159,161],fun g=>[wfF (slE ae) t_,wfF aO r_t34,z12,wfF aZ r_t82,wfF aV r_t860,z11],fun g=>[tpO 112 T28 t_,noO,blO b7 (aO.cells r_t34) 47,z1,blO b17 (aZ.cells r_t82) 78,blO b18 (aV.cells r_t860) 24,z8,z10,z9,bnO (lgF B_t53 jl_t99),bnO (bO B_t41 rn_t105),bnO (rrF B_t47 rr_t111),z4,z7,z5,z2,z6,z3,noO,bnO (lgF B_t141 x_t141),rwO ae 3 w.heap.size g.2.2.2.2.1 g.2.2.2.2.2.1 x_t141.m.2.waiting.xs,rwO ae 3 w.heap.size g.2.2.1 g.2.2.2.1 x_t141.m.2.known.xs,rwO ae 3 w.heap.size g.1 g.2.1 x_t141.m.2.target.xs,rwO ae 3 w.heap.size g.2.2.2.2.2.2.2.2.2.2.1 g.2.2.2.2.2.2.2.2.2.2.2.1 x_t141.m.2.waiting.xs,rwO ae 3 w.heap.size g.2.2.2.2.2.2.2.2.1 g.2.2.2.2.2.2.2.2.2.1 x_t141.m.2.known.xs,rwO ae 3 w.heap.size g.2.2.2.2.2.2.1 g.2.2.2.2.2.2.2.1 x_t141.m.2.target.xs,rwO ae 3 w.heap.size g.2.2.2.2.2.2.2.2.2.2.2.2.2.2.2.2.1 g.2.2.2.2.2.2.2.2.2.2.2.2.2.2.2.2.2 rn_t105.m.2.waiting.xs,rwO ae 3 w.heap.size g.2.2.2.2.2.2.2.2.2.2.2.2.2.2.1 g.2.2.2.2.2.2.2.2.2.2.2.2.2.2.2.1 rn_t105.m.2.known.xs,rwO ae 3 w.heap.size g.2.2.2.2.2.2.2.2.2.2.2.2.1 g.2.2.2.2.2.2.2.2.2.2.2.2.2.1 rn_t105.m.2.target.xs],fun g=>True⟩] [[8],[12,10],[14],[16]] [] [] S (fun y hy=>by cases hy) (fun ⟨ra_t153_3,rc_t153_3,ra_t153_4,rc_t153_4,ra_t153_5,rc_t153_5,ra_t159_3,rc_t159_3,ra_t159_4,rc_t159_4,ra_t159_5,rc_t159_5,ra_t161_3,rc_t161_3,ra_t161_4,rc_t161_4,ra_t161_5,rc_t161_5⟩=>⟨rfl,rfl,rfl,rfl,rfl,rfl,rfl,rfl,rfl,rfl,rfl,rfl,rfl,rfl,rfl,rfl,rfl,rfl,rfl,rfl,rfl,trivial⟩) ?_ ?_ ⟨⟨_,rfl,rfl,?_⟩,⟨_,rfl,rfl,?_⟩,⟨_,rfl,rfl,?_⟩,⟨_,rfl,rfl,?_⟩,⟨_,rfl,rfl,?_⟩,trivial⟩ ?_
   ·intro k g hk; obtain ⟨ra_t153_3, rc_t153_3, ra_t153_4, rc_t153_4, ra_t153_5, rc_t153_5, ra_t159_3, rc_t159_3, ra_t159_4, rc_t159_4, ra_t159_5, rc_t159_5, ra_t161_3, rc_t161_3, ra_t161_4, rc_t161_4, ra_t161_5, rc_t161_5⟩ := g; obtain rfl | rfl | rfl | rfl | rfl | rfl : k = 0 ∨ k = 1 ∨ k = 2 ∨ k = 3 ∨ k = 4 ∨ k = 5 := by simp only [List.length_cons, List.length_nil] at hk; omega
    ·exact ⟨lkv rfl rfl,lkq rfl fun S=>exv (fX (S.e rfl) (S.e rfl)) rfl,lkv rfl rfl,fun _ _=>⟨_,rfl,rfl,fun a u ⟨S,hR,hN⟩=>lk1 (aB (S.e rfl)) 147 false (S.s.get 147 _ rfl)⟩,fun _ _=>⟨_,rfl,rfl,fun a u ⟨S,hR,hN⟩=>lk1 (exv (eB oU (S.e rfl) (S.e rfl)) rfl) 147 false (S.s.get 147 _ rfl)⟩,lkq rfl fun S=>bC (S.e rfl) (S.e rfl),lkv rfl rfl,fun _ _=>⟨_,rfl,rfl,fun a u ⟨S,hR,hN⟩=>lk1 (aB (S.e rfl)) 151 false (S.s.get 151 _ rfl)⟩,fun _ _=>⟨_,rfl,rfl,fun a u ⟨S,hR,hN⟩=>lk1 (cJ (S.e rfl) (S.k 3 rfl).all jJ) 151 false (S.s.get 151 _ rfl)⟩,lkm,lkm,lkm,lkm,lkm,lkm,lkm,trivial⟩
    ·exact ⟨lkn,lkn,lkn,lkn,lkn,lkn,lkn,lkn,fun _ _=>⟨_,rfl,rfl,fun a u ⟨S,hR,hN⟩=>lk1 (cJ (S.e rfl) (S.k 3 rfl).all jJ) 151 false (S.s.get 151 _ rfl)⟩,lkm,lkm,lkm,lkm,lkm,lkm,lkm,trivial⟩
    ·exact ⟨lkn,lkn,lkn,lkn,lkn,lkn,lkn,lkn,lkn,fun _ _=>⟨_,rfl,rfl,fun a u ⟨S,hR,hN⟩=>lk1 (exv (gI (S.e rfl)) rfl) 151 false (S.s.get 151 _ rfl)⟩,fun _ _=>⟨_,rfl,rfl,fun a u ⟨S,hR,hN⟩=>lk1 (aB (S.e rfl)) 151 false (S.s.get 151 _ rfl)⟩,fun _ _=>⟨_,rfl,rfl,fun a u ⟨S,hR,hN⟩=>lk1 (aB (S.e rfl)) 157 true (S.s.get 157 _ rfl)⟩,fun _ _=>⟨_,rfl,rfl,fun a u ⟨S,hR,hN⟩=>lk1 (aB (S.e rfl)) 157 true (S.s.get 157 _ rfl)⟩,lkm,lkm,lkm,trivial⟩
    ·exact ⟨lkn,lkn,lkn,lkn,lkn,lkn,lkn,lkn,lkn,lkn,lkn,lkn,fun _ _=>⟨_,rfl,rfl,fun a u ⟨S,hR,hN⟩=>lk1 (aB (S.e rfl)) 157 true (S.s.get 157 _ rfl)⟩,lkm,lkm,lkm,trivial⟩
    ·exact ⟨lkn,lkn,lkn,lkn,lkn,lkn,lkn,lkn,lkn,lkn,lkn,lkn,lkn,lkm,lkm,lkm,trivial⟩
    exact ⟨lkn,lkn,lkn,lkn,lkn,lkn,lkn,lkn,lkn,lkn,lkn,lkn,lkn,fun _ _=>⟨_,rfl,rfl,fun a u ⟨S,hR,hN⟩=>lk1 (exv (gI (S.e rfl)) rfl) 157 true (S.s.get 157 _ rfl)⟩,fun _ _=>⟨_,rfl,rfl,fun a u ⟨S,hR,hN⟩=>lk1 (dh (S.e rfl) (S.e rfl)) 151 false (S.s.get 151 _ rfl)⟩,lkq rfl fun S=>bC (S.e rfl) (S.e rfl),trivial⟩
   ·exact fun _ _ _=>trivial
   ·skip;intro g a u h;obtain ⟨ra_t153_3,rc_t153_3,ra_t153_4,rc_t153_4,ra_t153_5,rc_t153_5,ra_t159_3,rc_t159_3,ra_t159_4,rc_t159_4,ra_t159_5,rc_t159_5,ra_t161_3,rc_t161_3,ra_t161_4,rc_t161_4,ra_t161_5,rc_t161_5⟩:=g;obtain ⟨S,hR,hN⟩:=h;replace S:=S.h0;dsimp only at S;refine strip S.s rfl rfl (gd:=151) rfl ?_;refine cl S (sB _ _ (S.xx [In (ow (lgF B_t141 x_t141))]) (.nil _) (B_t141,x_t141) (S.rob hD 19 rfl (X:=fun D=>(ptE lgE 129).wf D _ (B_t141,x_t141)) (jt qK_t141) _ (by simp)) (⟨by first | omega | (dsimp only;omega) | assumption,by first | omega | (dsimp only;omega) | assumption,by first | omega | (dsimp only;omega) | assumption⟩)) sS ?_;rintro e u ⟨ra_t153_3,rc_t153_3,ra_t153_4,rc_t153_4,ra_t153_5,rc_t153_5,rfl,R_t153_3,R_t153_4,R_t153_5,T0⟩;refine ⟨_,rfl,fun a s=>?_⟩;replace S:=(S.krx [⟨_,ae,3,ra_t153_5,rc_t153_5,x_t141.m.2.waiting.xs⟩,⟨_,ae,3,ra_t153_4,rc_t153_4,x_t141.m.2.known.xs⟩,⟨_,ae,3,ra_t153_3,rc_t153_3,x_t141.m.2.target.xs⟩] s T0 ⟨R_t153_5,R_t153_4,R_t153_3,trivial⟩ ⟨fun _ _ _ _ h=>h,fun _ _ _ _ h=>h,fun _ _ _ _ h=>h,trivial⟩).sh;clear s T0 R_t153_5 R_t153_4 R_t153_3;refine ent ?_;exact ⟨S.s.defers,(ra_t153_3,rc_t153_3,ra_t153_4,rc_t153_4,ra_t153_5,rc_t153_5,ra_t159_3,rc_t159_3,ra_t159_4,rc_t159_4,ra_t159_5,rc_t159_5,ra_t161_3,rc_t161_3,ra_t161_4,rc_t161_4,ra_t161_5,rc_t161_5),(gD S.s rfl),agz,trivial,trivial,S.m,trivial⟩
   ·skip;intro g a u h; obtain ⟨ra_t153_3, rc_t153_3, ra_t153_4, rc_t153_4, ra_t153_5, rc_t153_5, ra_t159_3, rc_t159_3, ra_t159_4, rc_t159_4, ra_t159_5, rc_t159_5, ra_t161_3, rc_t161_3, ra_t161_4, rc_t161_4, ra_t161_5, rc_t161_5⟩ := g; obtain ⟨S, hR, hN⟩ := h;replace S := S.hk (k := 0); dsimp only at S
    let z15:=(⟨x_t141.m.2.round,x_t141.m.2.back,x_t141.m.2.seq,(Sl.mk ra_t153_3 rc_t153_3 x_t141.m.2.target.xs),(Sl.mk ra_t153_4 rc_t153_4 x_t141.m.2.known.xs),(Sl.mk ra_t153_5 rc_t153_5 x_t141.m.2.waiting.xs)⟩:fU)
    refine sp S (la (ph 151 rfl (fun S=>lM _ _ (S.xx [abk ra_t153_3,abk ra_t153_4,abk ra_t153_5,abk ra_t94_3,abk ra_t94_4,abk ra_t94_5]) (.nil _) z15 ⟨(show ah x_t141.m.2.round from bp),trivial,(show ah x_t141.m.2.seq from bp),(S.cK hD 22 rfl nz _ (by simp)),(S.cK hD 21 rfl nz _ (by simp)),(S.cK hD 20 rfl nz _ (by simp))⟩ z13 ⟨(show ah xj.m.2.round from bp),trivial,(show ah xj.m.2.seq from bp),(S.cK hD 8 rfl nz _ (by simp)),(S.cK hD 7 rfl nz _ (by simp)),(S.cK hD 6 rfl nz _ (by simp))⟩) va)) ?_;clear S;intro a u S;replace S:=S.ext (d:=155) (v:=.bool false) ((S.get 155 rfl).trans (vbf ((show ¬ (jN z15 z13) from hP))));refine ent ?_;exact ⟨S.s.defers,(ra_t153_3,rc_t153_3,ra_t153_4,rc_t153_4,ra_t153_5,rc_t153_5,ra_t159_3,rc_t159_3,ra_t159_4,rc_t159_4,ra_t159_5,rc_t159_5,ra_t161_3,rc_t161_3,ra_t161_4,rc_t161_4,ra_t161_5,rc_t161_5),(gD S.s rfl),agz,trivial,⟨rfl,trivial⟩,S.m,trivial⟩
   ·skip;intro g a u h;obtain ⟨ra_t153_3,rc_t153_3,ra_t153_4,rc_t153_4,ra_t153_5,rc_t153_5,ra_t159_3,rc_t159_3,ra_t159_4,rc_t159_4,ra_t159_5,rc_t159_5,ra_t161_3,rc_t161_3,ra_t161_4,rc_t161_4,ra_t161_5,rc_t161_5⟩:=g;obtain ⟨S,hR,hN⟩:=h;replace S:=S.hk (k:=1);dsimp only at S;refine strip S.s rfl rfl (gd:=157) rfl ?_;refine cl S (sB _ _ (S.xx [In (ow (lgF B_t141 x_t141))]) (.nil _) (B_t141,x_t141) (S.rob hD 19 rfl (X:=fun D=>(ptE lgE 129).wf D _ (B_t141,x_t141)) (jt qK_t141) _ (by simp)) (⟨by first | omega | (dsimp only;omega) | assumption,by first | omega | (dsimp only;omega) | assumption,by first | omega | (dsimp only;omega) | assumption⟩)) sS ?_;rintro e u ⟨ra_t159_3,rc_t159_3,ra_t159_4,rc_t159_4,ra_t159_5,rc_t159_5,rfl,R_t159_3,R_t159_4,R_t159_5,T0⟩;refine ⟨_,rfl,fun a s=>?_⟩;replace S:=(S.krx [⟨_,ae,3,ra_t159_5,rc_t159_5,x_t141.m.2.waiting.xs⟩,⟨_,ae,3,ra_t159_4,rc_t159_4,x_t141.m.2.known.xs⟩,⟨_,ae,3,ra_t159_3,rc_t159_3,x_t141.m.2.target.xs⟩] s T0 ⟨R_t159_5,R_t159_4,R_t159_3,trivial⟩ ⟨fun _ _ _ _ h=>h,fun _ _ _ _ h=>h,fun _ _ _ _ h=>h,trivial⟩).sh;clear s T0 R_t159_5 R_t159_4 R_t159_3;refine ent ?_;exact ⟨S.s.defers,(ra_t153_3,rc_t153_3,ra_t153_4,rc_t153_4,ra_t153_5,rc_t153_5,ra_t159_3,rc_t159_3,ra_t159_4,rc_t159_4,ra_t159_5,rc_t159_5,ra_t161_3,rc_t161_3,ra_t161_4,rc_t161_4,ra_t161_5,rc_t161_5),(gD S.s rfl),agz,trivial,⟨rfl,rfl,trivial⟩,S.m,trivial⟩
   ·skip;intro g a u h;obtain ⟨ra_t153_3,rc_t153_3,ra_t153_4,rc_t153_4,ra_t153_5,rc_t153_5,ra_t159_3,rc_t159_3,ra_t159_4,rc_t159_4,ra_t159_5,rc_t159_5,ra_t161_3,rc_t161_3,ra_t161_4,rc_t161_4,ra_t161_5,rc_t161_5⟩:=g;obtain ⟨S,hR,hN⟩:=h;replace S:=S.hk (k:=2);dsimp only at S;refine strip S.s rfl rfl (gd:=157) rfl ?_;refine cl S (p8 _ _ (S.xx [In (ow (bO B_t41 rn_t105))]) (.nil _) (B_t41,rn_t105) (S.rob hD 10 rfl (X:=fun D=>(ptE jj 137).wf D _ (B_t41,rn_t105)) (iG hk_rn_t105) _ (by simp)) (by first | assumption | exact hOK | exact (hT.sm hBeg bo ba ba).1)) qC ?_;rintro e u ⟨ra_t161_3,rc_t161_3,ra_t161_4,rc_t161_4,ra_t161_5,rc_t161_5,rfl,R_t161_3,R_t161_4,R_t161_5,T0⟩;refine ⟨_,rfl,fun a s=>?_⟩;replace S:=(S.krx [⟨_,ae,3,ra_t161_5,rc_t161_5,rn_t105.m.2.waiting.xs⟩,⟨_,ae,3,ra_t161_4,rc_t161_4,rn_t105.m.2.known.xs⟩,⟨_,ae,3,ra_t161_3,rc_t161_3,rn_t105.m.2.target.xs⟩] s T0 ⟨R_t161_5,R_t161_4,R_t161_3,trivial⟩ ⟨fun _ _ _ _ h=>h,fun _ _ _ _ h=>h,fun _ _ _ _ h=>h,trivial⟩).sh;clear s T0 R_t161_5 R_t161_4 R_t161_3;refine ent ?_;exact ⟨S.s.defers,(ra_t153_3,rc_t153_3,ra_t153_4,rc_t153_4,ra_t153_5,rc_t153_5,ra_t159_3,rc_t159_3,ra_t159_4,rc_t159_4,ra_t159_5,rc_t159_5,ra_t161_3,rc_t161_3,ra_t161_4,rc_t161_4,ra_t161_5,rc_t161_5),(gD S.s rfl),agz,trivial,⟨rfl,rfl,rfl,trivial⟩,S.m,trivial⟩
   ·skip;intro g a u h;obtain ⟨ra_t153_3,rc_t153_3,ra_t153_4,rc_t153_4,ra_t153_5,rc_t153_5,ra_t159_3,rc_t159_3,ra_t159_4,rc_t159_4,ra_t159_5,rc_t159_5,ra_t161_3,rc_t161_3,ra_t161_4,rc_t161_4,ra_t161_5,rc_t161_5⟩:=g;obtain ⟨S,hR,hN⟩:=h;replace S:=S.hk (k:=3);dsimp only at S;refine sp S (la (ph 157 rfl (fun S=>lM _ _ (S.xx [abk ra_t159_3,abk ra_t159_4,abk ra_t159_5,abk ra_t161_3,abk ra_t161_4,abk ra_t161_5]) (.nil _) (⟨x_t141.m.2.round,x_t141.m.2.back,x_t141.m.2.seq,(Sl.mk ra_t159_3 rc_t159_3 x_t141.m.2.target.xs),(Sl.mk ra_t159_4 rc_t159_4 x_t141.m.2.known.xs),(Sl.mk ra_t159_5 rc_t159_5 x_t141.m.2.waiting.xs)⟩:fU) ⟨(show ah x_t141.m.2.round from bp),trivial,(show ah x_t141.m.2.seq from bp),(S.cK hD 25 rfl nz _ (by simp)),(S.cK hD 24 rfl nz _ (by simp)),(S.cK hD 23 rfl nz _ (by simp))⟩ (⟨rn_t105.m.2.round,rn_t105.m.2.back,rn_t105.m.2.seq,(Sl.mk ra_t161_3 rc_t161_3 rn_t105.m.2.target.xs),(Sl.mk ra_t161_4 rc_t161_4 rn_t105.m.2.known.xs),(Sl.mk ra_t161_5 rc_t161_5 rn_t105.m.2.waiting.xs)⟩:fU) ⟨(show ah rn_t105.m.2.round from bp),trivial,(show ah rn_t105.m.2.seq from bp),(S.cK hD 28 rfl nz _ (by simp)),(S.cK hD 27 rfl nz _ (by simp)),(S.cK hD 26 rfl nz _ (by simp))⟩) va)) ?_;clear S;intro a u S;replace S:=S.ext (d:=162) (v:=.bool true) ((S.get 162 rfl).trans (vbt (jM (d:=(bh rn_t105).c) (hOb.resolve_right fun q=>hP (jM (d:=(bh xj).c) q ⟨rfl,by simp [noS,bb,bh],rfl,rfl,rfl,rfl⟩ ⟨rfl,by simp [noS,bb,bh],rfl,rfl,rfl,rfl⟩)) ⟨rfl,by simp [noS,bb,bh],rfl,rfl,rfl,rfl⟩ ⟨rfl,by simp [noS,bb,bh],rfl,rfl,rfl,rfl⟩)));refine ent ?_;exact ⟨S.s.defers,(ra_t153_3,rc_t153_3,ra_t153_4,rc_t153_4,ra_t153_5,rc_t153_5,ra_t159_3,rc_t159_3,ra_t159_4,rc_t159_4,ra_t159_5,rc_t159_5,ra_t161_3,rc_t161_3,ra_t161_4,rc_t161_4,ra_t161_5,rc_t161_5),(gD S.s rfl),agz,trivial,⟨rfl,rfl,rfl,rfl,trivial⟩,S.m,trivial⟩
   clear S;intro g a u hA S hR;obtain ⟨ra_t153_3,rc_t153_3,ra_t153_4,rc_t153_4,ra_t153_5,rc_t153_5,ra_t159_3,rc_t159_3,ra_t159_4,rc_t159_4,ra_t159_5,rc_t159_5,ra_t161_3,rc_t161_3,ra_t161_4,rc_t161_4,ra_t161_5,rc_t161_5⟩:=g;replace S:=(S.hk (k:=4)).l [(1,iI torn),(5,pT T28 0),(6,iI (1+r_t30)),(7,pT b7 0),(9,pT B_t41 0),(11,pT B_t47 0),(13,pT B_t53 0),(15,pT b15 0),(16,iN i),(77,bD (((i:Nat):Int) < 20)),(17,pT b17 0),(18,pT b18 0),(19,.bool true),(92,bD (¬ (cI (aM yj) r_t82))),(121,.bool false),(20,.slice ra_t123 ((aG jl_t99.l.xs).length) rc_t123),(130,.bool false),(21,pT B_t141 0),(23,iI 0),(165,.bool false)] (bB rfl);dsimp only at S
   try dsimp only at S
   try dsimp only at S
   try dsimp only at S
   refine ent ?_;refine cdf S rfl ?_;refine wp_skip (bf (ak ?_));refine rg S (tr (mv rfl)<|tr (cE ((i+1:Nat):Int) rfl rfl (bu bo))<|la (av rfl)) ?_;clear S;intro a u S;replace S:=S.pk [0,1,2,10,11,9,3];refine ak ?_;refine ⟨(i+1),(iI xj.m.2.round),(bD (xj.m.2.back=true)),(iI xj.m.2.seq),(.slice ra_t94_3 xj.m.2.target.xs.length rc_t94_3),(.slice ra_t94_4 xj.m.2.known.xs.length rc_t94_4),(.slice ra_t94_5 xj.m.2.waiting.xs.length rc_t94_5),rn_t105,rr_t111,jl_t99,S.re (bB rfl) rfl rfl,?_,?_⟩
   ·refine ⟨hk_rn_t105, hk_rr_t111, hk_jl_t99, ?_⟩
    first
    | exact ⟨by omega,hF.skip⟩
    | exact ⟨by omega,hF2⟩
   omega
  replace S:=S.ext (d:=96) (v:=.bool false) ((S.get 96 rfl).trans (congrArg Value.bool (decide_eq_false hs25)));refine sp S (la (bI 96 rfl)) ?_;clear S;intro a u S;replace S:=S.ext (d:=19) (v:=.bool false) ((S.get 19 rfl).trans (vbf ba));refine sp S (tr (bI 96 rfl)<|tr (bI 96 rfl)<|la (bI 96 rfl)) ?_;clear S;intro a u S;refine sp S (tr (ov fun S=>bC (S.e rfl) (S.e rfl))<|tr (mv rfl)<|tr (gon 102 rfl fun S=>aB (S.e rfl))<|la (gon 102 rfl fun S=>cJ (S.e rfl) (S.k 7 rfl).all iz)) ?_;clear S;intro a u S;refine strip S.s rfl rfl (gd:=102) rfl ?_;replace S:=S.pkc [0,1,2,4,5,6,7,8,9,10,11,3];replace S:=S.spl 11;refine cl S (rDo _ _ S.xxF B_t41 xj S.mF (S.nfF hD) hk_xj (S.dF   0 rfl (aD (cS _ _))) r_t82 (dnF   (S.u 3 rfl)) (⟨by first | assumption | exact hOK,by first | assumption | exact hS0⟩)) zR ?_;rintro e u ⟨rn_t105,rfl,hk_rn_t105,hK_rn_t105,hq_rn_t105,T0⟩;refine ⟨_,rfl,fun a s=>?_⟩;replace S:=(S.kF   [bnO (bO B_t41 rn_t105)] s T0 ⟨hK_rn_t105,trivial⟩ ⟨(aD (cS _ _)),trivial⟩).sh;clear s T0 hK_rn_t105;replace S:=S.ext (d:=105) (v:=.bool true) ((S.get 105 rfl).trans (vbt (hT.T.e▸hcan)));refine sp S (tr (gon 102 rfl fun S=>gI (S.e rfl))<|tr (ov fun S=>bC (S.e rfl) (S.e rfl))<|tr (mv rfl)<|tr (gon 108 rfl fun S=>aB (S.e rfl))<|la (gon 108 rfl fun S=>cJ (S.e rfl) (S.k 6 rfl).all iz)) ?_;clear S;intro a u S;refine strip S.s rfl rfl (gd:=108) rfl ?_;replace S:=S.pkc [0,1,2,4,5,6,7,8,9,10,11,3];replace S:=S.spl 11;refine cl S (qDo _ _ S.xxF B_t47 yj S.mF (S.nfF hD) hk_yj (S.dF   0 rfl (aD (dC _ _))) r_t82 (dnF   (S.u 3 rfl)) (by first | assumption | exact hOK)) zQ ?_;rintro e u ⟨rr_t111,rfl,hk_rr_t111,hK_rr_t111,hq_rr_t111,T0⟩;refine ⟨_,rfl,fun a s=>?_⟩;replace S:=(S.kF   [bnO (rrF B_t47 rr_t111)] s T0 ⟨hK_rr_t111,trivial⟩ ⟨(aD (dC _ _)),trivial⟩).sh;clear s T0 hK_rr_t111;have hR16:=hR3
  first
  | (have hFt:=hF.told hBeg bo ba hr_t860 (hq_jl_t99.1 (hF.note hBeg bo ba hr_t860)) hq_rn_t105 hq_rr_t111;have hF2:=hFt.1;obtain ⟨lg,hgx,hL1,hn1,hn2,hlk⟩:=hFt.2;have hbl:=oC hgx hL1)
  | have hF2:=hF.mute hBeg hcan ba hq_rn_t105 hq_rr_t111
  obtain ⟨lg2,hLg2,hll2,hlc2⟩:=id hF2.L;obtain ⟨⟨hgb1,hgb2,hgb3⟩,⟨hgr1,hgr2⟩,hgs1,hgs2⟩:=hLg2.small bo;have hgl2:=congrArg List.length hLg2.ls;obtain ⟨⟨hry1,hry2⟩,hsy1,hsy2⟩:=hF2.T.small bo;have hOK2:dH 8000000 rn_t105:=ROK.mono hF2.T.T.a.ok bo;replace S:=S.ext (d:=111) (v:=.bool true) ((S.get 111 rfl).trans (vbt (hcan)));refine sp S (tr (gon 108 rfl fun S=>gI (S.e rfl))<|tr (ov fun S=>bC (S.e rfl) (S.e rfl))<|tr (mv rfl)<|la (gon 114 rfl fun S=>aB (S.e rfl))) ?_;clear S;intro a u S;refine strip S.s rfl rfl (gd:=114) rfl ?_;refine cl S (sB _ _ (S.xx [In (ow (lgF B_t53 gj))]) (.nil _) (B_t53,gj) (S.rob hD 3 rfl (X:=fun D=>(ptE lgE 129).wf D _ (B_t53,gj)) (jt hk_gj) _ (by simp)) (⟨by first | omega | (dsimp only;omega) | assumption,by first | omega | (dsimp only;omega) | assumption,by first | omega | (dsimp only;omega) | assumption⟩)) sS ?_;rintro e u ⟨ra_t116_3,rc_t116_3,ra_t116_4,rc_t116_4,ra_t116_5,rc_t116_5,rfl,R_t116_3,R_t116_4,R_t116_5,T0⟩;refine ⟨_,rfl,fun a s=>?_⟩;replace S:=(S.krx [⟨_,ae,3,ra_t116_5,rc_t116_5,gj.m.2.waiting.xs⟩,⟨_,ae,3,ra_t116_4,rc_t116_4,gj.m.2.known.xs⟩,⟨_,ae,3,ra_t116_3,rc_t116_3,gj.m.2.target.xs⟩] s T0 ⟨R_t116_5,R_t116_4,R_t116_3,trivial⟩ ⟨fun _ _ _ _ h=>h,fun _ _ _ _ h=>h,fun _ _ _ _ h=>h,trivial⟩).sh;clear s T0 R_t116_5 R_t116_4 R_t116_3
  try dsimp only at S
  refine sp S (la (gon 114 rfl fun S=>aB (S.e rfl))) ?_;clear S;intro a u S;refine strip S.s rfl rfl (gd:=114) rfl ?_;refine cl S (p8 _ _ (S.xx [In (ow (bO B_t41 rn_t105))]) (.nil _) (B_t41,rn_t105) (S.rob hD 10 rfl (X:=fun D=>(ptE jj 137).wf D _ (B_t41,rn_t105)) (iG hk_rn_t105) _ (by simp)) (by first | assumption | exact hOK | exact (hT.sm hBeg bo ba ba).1)) qC ?_;rintro e u ⟨ra_t118_3,rc_t118_3,ra_t118_4,rc_t118_4,ra_t118_5,rc_t118_5,rfl,R_t118_3,R_t118_4,R_t118_5,T0⟩;refine ⟨_,rfl,fun a s=>?_⟩;replace S:=(S.krx [⟨_,ae,3,ra_t118_5,rc_t118_5,rn_t105.m.2.waiting.xs⟩,⟨_,ae,3,ra_t118_4,rc_t118_4,rn_t105.m.2.known.xs⟩,⟨_,ae,3,ra_t118_3,rc_t118_3,rn_t105.m.2.target.xs⟩] s T0 ⟨R_t118_5,R_t118_4,R_t118_3,trivial⟩ ⟨fun _ _ _ _ h=>h,fun _ _ _ _ h=>h,fun _ _ _ _ h=>h,trivial⟩).sh;clear s T0 R_t118_5 R_t118_4 R_t118_3
  try dsimp only at S
  refine sp S (la (ph 114 rfl (fun S=>lM _ _ (S.xx [abk ra_t116_3,abk ra_t116_4,abk ra_t116_5,abk ra_t118_3,abk ra_t118_4,abk ra_t118_5]) (.nil _) (⟨gj.m.2.round,gj.m.2.back,gj.m.2.seq,(Sl.mk ra_t116_3 rc_t116_3 gj.m.2.target.xs),(Sl.mk ra_t116_4 rc_t116_4 gj.m.2.known.xs),(Sl.mk ra_t116_5 rc_t116_5 gj.m.2.waiting.xs)⟩:fU) ⟨(show ah gj.m.2.round from bp),trivial,(show ah gj.m.2.seq from bp),(S.cK hD 14 rfl nz _ (by simp)),(S.cK hD 13 rfl nz _ (by simp)),(S.cK hD 12 rfl nz _ (by simp))⟩ (⟨rn_t105.m.2.round,rn_t105.m.2.back,rn_t105.m.2.seq,(Sl.mk ra_t118_3 rc_t118_3 rn_t105.m.2.target.xs),(Sl.mk ra_t118_4 rc_t118_4 rn_t105.m.2.known.xs),(Sl.mk ra_t118_5 rc_t118_5 rn_t105.m.2.waiting.xs)⟩:fU) ⟨(show ah rn_t105.m.2.round from bp),trivial,(show ah rn_t105.m.2.seq from bp),(S.cK hD 17 rfl nz _ (by simp)),(S.cK hD 16 rfl nz _ (by simp)),(S.cK hD 15 rfl nz _ (by simp))⟩) va)) ?_;clear S;intro a u S;replace S:=S.ext (d:=119) (v:=.bool true) ((S.get 119 rfl).trans (vbt (jM (d:=(bh rn_t105).c) (hLg2.ma.ab.trans hlc2.symm) ⟨rfl,by simp [noS,bb,bh],rfl,rfl,rfl,rfl⟩ ⟨rfl,by simp [noS,bb,bh],rfl,rfl,rfl,rfl⟩)));refine ens S (tr (gon 114 rfl fun S=>gI (S.e rfl))<|la (ov fun S=>bC (S.e rfl) (S.e rfl))) ?_;clear S;intro a u S;refine cdf S rfl ?_;refine wp_skip (ak (rs0 ?_));refine sp S (la (mv rfl)) ?_;clear S;intro a u S;refine cl S (oq _ _ (S.xx [In (ow (lgF B_t53 gj))]) (.nil _) (B_t53,gj) (S.rob hD 3 rfl (X:=fun D=>(ptE lgE 129).wf D _ (B_t53,gj)) (jt hk_gj) _ (by simp)) (by first | omega | (dsimp only;omega) | assumption)) wZ ?_;rintro e u ⟨ra_t123,rc_t123,rfl,R_t123,T0⟩;refine ⟨_,rfl,fun a s=>?_⟩;replace S:=(S.krx [⟨_,u8E,5,ra_t123,rc_t123,aG gj.l.xs⟩] s T0 ⟨R_t123,trivial⟩ ⟨fun _ _ _ _ h=>h,trivial⟩).sh;clear s T0 R_t123;dsimp only at S;replace S:=S.fz 18 rfl;refine ens S (la (av rfl)) ?_;clear S;intro a u S;refine wp_seq (rs0 ?_);refine sp S (tr (mv rfl)<|tr (ov fun S=>gI (S.e rfl))<|tr (mv rfl)<|tr (bI 126 rfl)<|tr (bI 126 rfl)<|la (bI 126 rfl)) ?_;clear S;intro a u S;refine ens S (la (ov fun S=>dh (S.e rfl) (S.e rfl))) ?_;clear S;intro a u S;refine cdt S rfl ?_;refine wp_exit (aR (cC (ak ?_)));refine rg S (tr (mv rfl)<|tr (cE ((i+1:Nat):Int) rfl rfl (bu bo))<|la (av rfl)) ?_;clear S;intro a u S;replace S:=S.pk [0,1,2,10,11,3,4];refine ak ?_;refine ⟨(i+1),(iI xj.m.2.round),(bD (xj.m.2.back=true)),(iI xj.m.2.seq),(.slice ra_t94_3 xj.m.2.target.xs.length rc_t94_3),(.slice ra_t94_4 xj.m.2.known.xs.length rc_t94_4),(.slice ra_t94_5 xj.m.2.waiting.xs.length rc_t94_5),rn_t105,rr_t111,gj,S.re (bB rfl) rfl rfl,?_,?_⟩
  ·refine ⟨hk_rn_t105, hk_rr_t111, hk_gj, ?_⟩
   first
   | exact ⟨by omega,hF.skip⟩
   | exact ⟨by omega,hF2⟩
  omega
 intro hc3;refine wp_exit (aR (aR (cC (ak (rs0 ?_)))));refine sp S (la (mv rfl)) ?_;clear S;intro a u S;refine cl S (p8 _ _ (S.xx [In (ow (bO B_t41 xj))]) (.nil _) (B_t41,xj) (S.rob hD 3 rfl (X:=fun D=>(ptE jj 137).wf D _ (B_t41,xj)) (iG hk_xj) _ (by simp)) (by first | assumption | exact hOK | exact (hT.sm hBeg bo ba ba).1)) qC ?_;rintro e u ⟨ra_t167_3,rc_t167_3,ra_t167_4,rc_t167_4,ra_t167_5,rc_t167_5,rfl,R_t167_3,R_t167_4,R_t167_5,T0⟩;refine ⟨_,rfl,fun a s=>?_⟩;replace S:=(S.krx [⟨_,ae,3,ra_t167_5,rc_t167_5,xj.m.2.waiting.xs⟩,⟨_,ae,3,ra_t167_4,rc_t167_4,xj.m.2.known.xs⟩,⟨_,ae,3,ra_t167_3,rc_t167_3,xj.m.2.target.xs⟩] s T0 ⟨R_t167_5,R_t167_4,R_t167_3,trivial⟩ ⟨fun _ _ _ _ h=>h,fun _ _ _ _ h=>h,fun _ _ _ _ h=>h,trivial⟩).sh;clear s T0 R_t167_5 R_t167_4 R_t167_3
 try dsimp only at S
 refine cl S (sC _ _ (S.xx [abk ra_t167_3,abk ra_t167_4,abk ra_t167_5]) (.nil _) (⟨xj.m.2.round,xj.m.2.back,xj.m.2.seq,(Sl.mk ra_t167_3 rc_t167_3 xj.m.2.target.xs),(Sl.mk ra_t167_4 rc_t167_4 xj.m.2.known.xs),(Sl.mk ra_t167_5 rc_t167_5 xj.m.2.waiting.xs)⟩:fU) ⟨(show ah xj.m.2.round from bp),trivial,(show ah xj.m.2.seq from bp),(S.cK hD 9 rfl nz _ (by simp)),(S.cK hD 8 rfl nz _ (by simp)),(S.cK hD 7 rfl nz _ (by simp))⟩ bd) cB41 ?_;rintro e u ⟨ra_t168,rc_t168,rfl,R_t168,T0⟩;refine ⟨_,rfl,fun a s=>?_⟩;replace S:=(S.krx [⟨_,aV,24,ra_t168,rc_t168,fG xj.m.2.known.xs xj.m.2.seq xj.m.2.waiting.xs⟩] s T0 ⟨R_t168,trivial⟩ ⟨fun _ _ _ _ h=>h,trivial⟩).sh;clear s T0 R_t168
 try dsimp only at S
 refine sp S (la (mv rfl)) ?_;clear S;intro a u S;refine cl S (p8 _ _ (S.xx [In (ow (bO B_t41 xj))]) (.nil _) (B_t41,xj) (S.rob hD 3 rfl (X:=fun D=>(ptE jj 137).wf D _ (B_t41,xj)) (iG hk_xj) _ (by simp)) (by first | assumption | exact hOK | exact (hT.sm hBeg bo ba ba).1)) qC ?_;rintro e u ⟨ra_t170_3,rc_t170_3,ra_t170_4,rc_t170_4,ra_t170_5,rc_t170_5,rfl,R_t170_3,R_t170_4,R_t170_5,T0⟩;refine ⟨_,rfl,fun a s=>?_⟩;replace S:=(S.krx [⟨_,ae,3,ra_t170_5,rc_t170_5,xj.m.2.waiting.xs⟩,⟨_,ae,3,ra_t170_4,rc_t170_4,xj.m.2.known.xs⟩,⟨_,ae,3,ra_t170_3,rc_t170_3,xj.m.2.target.xs⟩] s T0 ⟨R_t170_5,R_t170_4,R_t170_3,trivial⟩ ⟨fun _ _ _ _ h=>h,fun _ _ _ _ h=>h,fun _ _ _ _ h=>h,trivial⟩).sh;clear s T0 R_t170_5 R_t170_4 R_t170_3
 try dsimp only at S
 refine nbp S (bq _ mO rfl) ?_;clear S;intro a u b25 S;refine ens S (tr (av rfl)<|la (c0 14 rfl rfl rfl)) ?_;clear S;intro a u S;refine wp_seq ?_;refine rs S (tr (mv rfl)<|tr (cM gp rfl)<|tr (aw 0 5 rfl bc)<|tr (ldk 14 cn rfl rfl rfl)<|tr (cM bn rfl)<|la (gb rfl rfl)) ?_;clear S;intro a u S;refine cd S rfl ?_ ?_
 ·intro hc4;refine rs S (la (av rfl)) ?_; clear S; intro a u S;refine wp_ret (aF ?_);refine bw rfl S.s rfl ?_;replace S := S.pk [];refine ⟨(r1 (vf ?_)), S.m.c⟩
  first
  | trivial
  | (exfalso;omega)
  | (intro _
     have hq:=hc4;rw [hcv] at hq
     rcases hq with ((((q | q) | q) | q) | q) | q <;> first | omega | exact q rfl)
 intro hc5;refine wp_skip (ak (wp_seq ?_));refine rs S (la (av rfl)) ?_;clear S;intro a u S;refine wp_block ?_;refine lp1 (fun (j:Nat)=>[(25,pT b25 0),(24,.slice ra_t168 ((fG xj.m.2.known.xs xj.m.2.seq xj.m.2.waiting.xs).length) rc_t168),(26,iN j)]) (fun (j:Nat)=>[tpO 112 T28 t_,noO,blO b7 (aO.cells r_t34) 47,bnO (bO B_t41 xj),bnO (rrF B_t47 yj),bnO (lgF B_t53 gj),blO b15 [bv0,bv1,bv2,bv3,bv4,bv5] 57,rwO ae 3 w.heap.size ra_t167_5 rc_t167_5 xj.m.2.waiting.xs,rwO ae 3 w.heap.size ra_t167_4 rc_t167_4 xj.m.2.known.xs,rwO ae 3 w.heap.size ra_t167_3 rc_t167_3 xj.m.2.target.xs,rwO aV 24 w.heap.size ra_t168 rc_t168 (fG xj.m.2.known.xs xj.m.2.seq xj.m.2.waiting.xs),rwO ae 3 w.heap.size ra_t170_5 rc_t170_5 xj.m.2.waiting.xs,rwO ae 3 w.heap.size ra_t170_4 rc_t170_4 xj.m.2.known.xs,rwO ae 3 w.heap.size ra_t170_3 rc_t170_3 xj.m.2.target.xs,blO b25 [iI xj.m.2.round,bD (xj.m.2.back=true),iI xj.m.2.seq,.slice ra_t170_3 xj.m.2.target.xs.length rc_t170_3,.slice ra_t170_4 xj.m.2.known.xs.length rc_t170_4,.slice ra_t170_5 xj.m.2.waiting.xs.length rc_t170_5] 57]) (fun (j:Nat)=>j≤xj.m.2.waiting.xs.length) (fun (j:Nat)=>xj.m.2.waiting.xs.length - j) S 0 (bB rfl) rfl ?_ ?_
 ·exact Nat.zero_le _
 clear S;intro j a u S hR;have hj:=hR;refine wp_seq ?_;refine rs S (tr (mv rfl)<|tr (mv rfl)<|tr (cM gp rfl)<|la (dx rfl rfl)) ?_;clear S;intro a u S;refine cd S rfl ?_ ?_
 ·intro hc6;obtain ⟨⟨hw0, hw1⟩, hcv⟩ := hcj j bo;refine wp_skip (ak (wp_seq (wp_block (wp_seq ?_))));obtain ⟨hl40, hu40⟩ : ah (xj.m.2.waiting.xs.getD j ae.aa) := id ((S.row 11 rfl).wfi j bo);refine dr (P := Try.prog) S 65 [] ((183, .is _) :: (184, .is _) :: (185, .is _) :: (186, .is _) :: (187, .is _) :: (188, .is _) :: (189, .is _) :: (190, .is _) :: (191, .is _) :: (192, .is _) :: (193, .is _) :: (194, .is _) :: (195, .is _) :: (196, .is _) :: (197, .is _) :: (198, .is _) :: (199, .is _) :: (200, .is _) :: (201, .is _) :: (202, .is _) :: (203, .is _) :: (204, .is _) :: (205, .is _) :: (206, .is _) :: (207, .is _) :: (208, .is _) :: (209, .is _) :: (210, .is _) :: (211, .is _) :: (212, .is _) :: (213, .is _) :: (214, .is _) :: (215, .is _) :: (216, .is _) :: (217, .is _) :: (218, .is _) :: (219, .is _) :: (220, .is _) :: (221, .is _) :: (222, .is _) :: (223, .is _) :: (224, .is _) :: (225, .is _) :: (226, .is _) :: (227, .is _) :: (228, .is _) :: (229, .is _) :: (230, .is _) :: (231, .is _) :: (232, .is _) :: (233, .is _) :: (234, .is _) :: (235, .is _) :: (236, .is _) :: (237, .is _) :: (238, .is _) :: (239, .is _) :: (240, .is _) :: (241, .is _) :: (242, .is _) :: (243, .is _) :: (244, .is _) :: (245, .is _) :: (246, .is _) :: (247, .is _) :: []) ([] :: [183] :: [] :: [184, 185] :: [186] :: [187] :: [188] :: [189] :: [189, 190] :: [189] :: [189, 191, 192] :: [189, 193] :: [189] :: [189, 195] :: [189, 196] :: [189, 194, 197] :: [189, 198] :: [199] :: [200] :: [200] :: [200, 201, 202] :: [200, 203] :: [200, 204] :: [200, 205] :: [200, 206] :: [207] :: [208] :: [208] :: [208, 209, 210] :: [208, 211] :: [208, 212] :: [208] :: [208, 214] :: [208] :: [208, 215, 216] :: [208, 217] :: [208, 213, 218] :: [208, 219] :: [220] :: [221] :: [221] :: [221, 222, 223] :: [221, 224] :: [221, 225] :: [221] :: [221, 227] :: [221] :: [221, 229] :: [221] :: [221, 230, 231] :: [221, 232] :: [221, 228, 233] :: [221, 234] :: [221, 226, 235] :: [221, 236] :: [237] :: [238] :: [238] :: [238, 239, 240] :: [238, 241] :: [238, 242] :: [238] :: [238, 244] :: [238, 243, 245] :: [238, 246] :: []) [247] _ ⟨qd (aw 0 5 rfl bc), qd (ldk 14 cn rfl rfl rfl), qd (mv rfl), qd (ov fun S=>br bn sZ3 (S.e rfl) (S.e rfl) j rfl bo (aN (S.row 11 rfl) (m := j) bo)), qd (ov fun S=>aq sC3 (S.e rfl) (((S.row 11 rfl).db nz).cell j bo 0 _ rfl)), qd (dx rfl rfl), qd (mv rfl), qd (og 189 rfl gf fun S hg=>xf (0) 5 bc (S.e rfl)), qd (og 189 rfl gf fun S hg=>aq cn (S.p rfl hg) ((S.k 14 rfl).cell (j := 5) rfl)), qd (og 189 rfl gf fun S hg=>aB (S.e rfl)), qd (og 189 rfl gf fun S hg=>br bn sZ3 (S.p rfl hg) (S.p rfl hg) j rfl bo (aN (S.row 11 rfl) (m := j) bo)), qd (og 189 rfl gf fun S hg=>aq sC3 (S.p rfl hg) (((S.row 11 rfl).db nz).cell j bo 0 _ rfl)), qd (og 189 rfl gf fun S hg=>xf (0) 4 bc (S.e rfl)), qd (og 189 rfl gf fun S hg=>aq cn (S.p rfl hg) ((S.k 14 rfl).cell (j := 4) rfl)), qd (og 189 rfl gf fun S hg=>eb bn (S.p rfl hg)), qd (og 189 rfl gf fun S hg=>gr (S.p rfl hg) (S.p rfl hg)), qd (ori rfl rfl rfl), qd (mv rfl), qd (og 200 rfl gf fun S hg=>aB (S.e rfl)), qd (og 200 rfl gf fun S hg=>aB (S.e rfl)), qd (og 200 rfl gf fun S hg=>br gp p5 (S.p rfl hg) (S.p rfl hg) j rfl bo (aN (S.row 10 rfl) (m := j) bo)), qd (og 200 rfl gf fun S hg=>xf (0 + j * 4) 0 fe (S.p rfl hg)), qd (og 200 rfl gf fun S hg=>aq sC3 (S.p rfl hg) (((S.row 10 rfl).db nz).cell j bo 0 _ rfl)), qd (og 200 rfl gf fun S hg=>fX (S.p rfl hg) (S.e rfl)), qd (ori rfl rfl rfl), qd (mv rfl), qd (og 208 rfl gf fun S hg=>aB (S.e rfl)), qd (og 208 rfl gf fun S hg=>aB (S.e rfl)), qd (og 208 rfl gf fun S hg=>br gp p5 (S.p rfl hg) (S.p rfl hg) j rfl bo (aN (S.row 10 rfl) (m := j) bo)), qd (og 208 rfl gf fun S hg=>xf (0 + j * 4) 1 fe (S.p rfl hg)), qd (og 208 rfl gf fun S hg=>aq sC3 (S.p rfl hg) (((S.row 10 rfl).db nz).cell j bo 1 _ rfl)), qd (og 208 rfl gf fun S hg=>xf (0) 5 bc (S.e rfl)), qd (og 208 rfl gf fun S hg=>aq cn (S.p rfl hg) ((S.k 14 rfl).cell (j := 5) rfl)), qd (og 208 rfl gf fun S hg=>aB (S.e rfl)), qd (og 208 rfl gf fun S hg=>br bn sZ3 (S.p rfl hg) (S.p rfl hg) j rfl bo (aN (S.row 11 rfl) (m := j) bo)), qd (og 208 rfl gf fun S hg=>aq sC3 (S.p rfl hg) (((S.row 11 rfl).db nz).cell j bo 0 _ rfl)), qd (og 208 rfl gf fun S hg=>fX (S.p rfl hg) (S.p rfl hg)), qd (ori rfl rfl rfl), qd (mv rfl), qd (og 221 rfl gf fun S hg=>aB (S.e rfl)), qd (og 221 rfl gf fun S hg=>aB (S.e rfl)), qd (og 221 rfl gf fun S hg=>br gp p5 (S.p rfl hg) (S.p rfl hg) j rfl bo (aN (S.row 10 rfl) (m := j) bo)), qd (og 221 rfl gf fun S hg=>xf (0 + j * 4) 2 fe (S.p rfl hg)), qd (og 221 rfl gf fun S hg=>aq sC3 (S.p rfl hg) (((S.row 10 rfl).db nz).cell j bo 2 _ rfl)), qd (og 221 rfl gf fun S hg=>xf (0) 4 bc (S.e rfl)), qd (og 221 rfl gf fun S hg=>aq cn (S.p rfl hg) ((S.k 14 rfl).cell (j := 4) rfl)), qd (og 221 rfl gf fun S hg=>xf (0) 5 bc (S.e rfl)), qd (og 221 rfl gf fun S hg=>aq cn (S.p rfl hg) ((S.k 14 rfl).cell (j := 5) rfl)), qd (og 221 rfl gf fun S hg=>aB (S.e rfl)), qd (og 221 rfl gf fun S hg=>br bn sZ3 (S.p rfl hg) (S.p rfl hg) j rfl bo (aN (S.row 11 rfl) (m := j) bo)), qd (og 221 rfl gf fun S hg=>aq sC3 (S.p rfl hg) (((S.row 11 rfl).db nz).cell j bo 0 _ rfl)), qd (og 221 rfl gf fun S hg=>br bn sZ3 (S.p rfl hg) (S.p rfl hg) ((xj.m.2.waiting.xs.getD j ae.aa)).toNat bo bo (aN (S.row 12 rfl) (m := ((xj.m.2.waiting.xs.getD j ae.aa)).toNat) bo)), qd (og 221 rfl gf fun S hg=>aq sC3 (S.p rfl hg) (((S.row 12 rfl).db nz).cell ((xj.m.2.waiting.xs.getD j ae.aa)).toNat bo 0 _ rfl)), qd (og 221 rfl gf fun S hg=>fX (S.p rfl hg) (S.p rfl hg)), qd (ori rfl rfl rfl), qd (mv rfl), qd (og 238 rfl gf fun S hg=>aB (S.e rfl)), qd (og 238 rfl gf fun S hg=>aB (S.e rfl)), qd (og 238 rfl gf fun S hg=>br gp p5 (S.p rfl hg) (S.p rfl hg) j rfl bo (aN (S.row 10 rfl) (m := j) bo)), qd (og 238 rfl gf fun S hg=>xf (0 + j * 4) 3 fe (S.p rfl hg)), qd (og 238 rfl gf fun S hg=>aq sC3 (S.p rfl hg) (((S.row 10 rfl).db nz).cell j bo 3 _ rfl)), qd (og 238 rfl gf fun S hg=>xf (0) 2 bc (S.e rfl)), qd (og 238 rfl gf fun S hg=>aq sC3 (S.p rfl hg) ((S.k 14 rfl).cell (j := 2) rfl)), qd (og 238 rfl gf fun S hg=>fX (S.p rfl hg) (S.p rfl hg)), qd (ori rfl rfl rfl), trivial⟩ ?_;clear S; intro a u S G hE;obtain ⟨hl41, hu41⟩ : ah (xj.m.2.waiting.xs.getD j ae.aa) := id ((S.row 11 rfl).wfi j bo);refine ent ?_;refine cd S rfl ?_ ?_
  ·intro hc7;refine rs S (la (av rfl)) ?_; clear S; intro a u S;refine wp_ret (bR (aF (aF (bR (aF ?_)))));refine bw rfl S.s rfl ?_;replace S := S.pk [];refine ⟨(r1 (vf ?_)), S.m.c⟩
   first
   | trivial
   | (exfalso;omega)
   | (intro _
      have hq:=hc7;rw [hcv] at hq
      rcases hq with ((((q | q) | q) | q) | q) | q <;> first | omega | exact q rfl)
  intro hc8;refine wp_skip (bf (ak ?_));refine rg S (tr (mv rfl)<|tr (cE ((j+1:Nat):Int) rfl rfl (bu bo))<|la (av rfl)) ?_;clear S;intro a u S;refine ak ?_;refine ⟨(j+1),S.re (bB rfl) rfl rfl,?_,?_⟩
  ·omega
  omega
 intro hc9;refine wp_exit (aR (aR (cC (ak ?_))));refine rs S (tr (oc (fun S=>zC _ _ S.x (.nil _)) cB24)<|la (av rfl)) ?_;clear S;intro a u S;refine wp_ret ?_;refine bw rfl S.s rfl ?_;replace S:=S.pk [];refine ⟨(r1 (vb ?_)),S.m.c⟩
 first
 | trivial
 | (exfalso;omega)
 | (intro _
    have hq:=hc9;rw [hcv] at hq
    rcases hq with ((((q | q) | q) | q) | q) | q <;> first | omega | exact q rfl)
end Go.Proofs.Ytobggnpnochnnaa.V
