/- Texts of this claim in one: part G. -/
import Derived.Test.YtobggnpnochnnaaRTAD
import Derived.Test.YtobggnpnochnnaaRTAC
import Derived.Test.YtobggnpnochnnaaRTAE
import Derived.Test.YtobggnpnochnnaaRTAB
import Derived.Test.YtobggnpnochnnaaRTAF
set_option linter.unusedVariables false
set_option linter.unusedSimpArgs false
set_option maxHeartbeats 4000000
set_option maxRecDepth 20000
namespace Go.Proofs.Ytobggnpnochnnaa.V
open Go.RowKit Go.Proofs.Ytobggnpnochnnaa
theorem cClone (w : World) (F : Nat → Prop) (hF : Old F w) (M : MS [] w) (hD : ∀ k, In [] k → ¬ F k) (m : Nat × Mach) (m_w : (ptE machE 166).wf (Fr F []) w.heap m) (hb : (m.2.target.xs.length ≤ 1000 ∧ m.2.known.xs.length ≤ 1000 ∧ m.2.waiting.xs.length ≤ 1000) ∧ m.2.sent.xs.length ≤ 300000) :
 Calls Try.prog 99 #[pT m.1 0] w fun e w'=>∃ (q : Option (Nat × Mach)),e = .returned (optP q) ∧ machQK q ∧ (bnO (machQ q)).p F (In [In (ow (machQ q))]) w' ∧ (q.isSome = true ∧ ∀ x,q = some x → KeepM m.2 x.2 ∧ absM x.2 = absM m.2) ∧ Tr [] w [In (ow (machQ q))] w':=by
 have : m.2.rounds.xs.length ≤ 9223372036854775807:=(m_w.2.2.1).1.len;have : m.2.states.xs.length ≤ 9223372036854775807:=(m_w.2.2.2.1).1.len;obtain ⟨_,_⟩ : inI64 m.2.round:=m_w.2.2.2.2.1;obtain ⟨_,_⟩ : inI64 m.2.seq:=m_w.2.2.2.2.2.2.1;have : m.2.target.xs.length ≤ 9223372036854775807:=(m_w.2.2.2.2.2.2.2.1).1.len;have : m.2.known.xs.length ≤ 9223372036854775807:=(m_w.2.2.2.2.2.2.2.2.1).1.len;have : m.2.waiting.xs.length ≤ 9223372036854775807:=(m_w.2.2.2.2.2.2.2.2.2.1).1.len;have : m.2.sent.xs.length ≤ 9223372036854775807:=(m_w.2.2.2.2.2.2.2.2.2.2).1.len;obtain ⟨⟨hb1,hb2,hb3⟩,hb4⟩:=hb;refine go Try.func99 rfl 20 rfl [wfF (ptE machE 166) m] [] hF M ⟨m_w,trivial⟩ trivial ?_;intro a S;have hD : ∀ k,In ([] : List BS) k → ¬ F k:=fun _ h=>h.elim;refine rs S (la (av rfl)) ?_;clear S;intro a u S;refine wp_seq ?_;have hn2 : m.2.rounds.xs.length ≤ 9223372036854775807:=(((S.u 0 rfl).2.2).1).1.len;have hn3 : m.2.states.xs.length ≤ 9223372036854775807:=(((S.u 0 rfl).2.2).2.1).1.len;have hn4 : m.2.sent.xs.length ≤ 9223372036854775807:=(((S.u 0 rfl).2.2).2.2.2.2.2.2.2.2).1.len;refine drH (P:=Try.prog) ((Option Addr) × Nat × (Option Addr) × Nat × (Option Addr) × Nat × (Option Addr) × Nat) (none,0,none,0,none,0,none,0) (fun g=>[wfF (ptE machE 166) m]) (fun g=>[]) [⟨0,3,0,2,[],[],fun g=>pT m.1 0,[]⟩,⟨1,4,0,2,[],[],fun g=>pT m.1 0,[3]⟩,⟨2,5,0,2,[],[],fun g=>pT m.1 (0 + 0),[4]⟩,⟨3,6,0,2,[],[],fun g=>sV m.2.rounds,[5]⟩,⟨4,7,0,2,[],[],fun g=>pT m.1 0,[]⟩,⟨5,8,0,2,[],[],fun g=>pT m.1 0,[7]⟩,⟨6,9,0,2,[],[],fun g=>pT m.1 (0 + 1),[8]⟩,⟨7,10,0,2,[],[],fun g=>sV m.2.states,[9]⟩,⟨8,11,0,0,[],[8],fun g=>pT m.1 0,[]⟩,⟨10,13,0,1,[],[13,12,11,10],fun g=>pT m.1 0,[]⟩,⟨11,14,0,1,[],[13,12,11],fun g=>pT m.1 0,[13]⟩,⟨12,15,0,1,[],[13,12],fun g=>pT m.1 (0 + 8),[14]⟩,⟨13,16,0,1,[],[13],fun g=>sV m.2.sent,[15]⟩] [] [⟨9,some 12,fun g=>.agg #[iI m.2.round,bD (m.2.back = true),iI m.2.seq,.slice g.1 m.2.target.xs.length g.2.1,.slice g.2.2.1 m.2.known.xs.length g.2.2.2.1,.slice g.2.2.2.2.1 m.2.waiting.xs.length g.2.2.2.2.2.1],[11],fun g=>[wfF (ptE machE 166) m],fun g=>[rwO intE 3 w.heap.size g.2.2.2.2.1 g.2.2.2.2.2.1 m.2.waiting.xs,rwO intE 3 w.heap.size g.2.2.1 g.2.2.2.1 m.2.known.xs,rwO intE 3 w.heap.size g.1 g.2.1 m.2.target.xs],fun g=>True⟩,⟨14,some 17,fun g=>.slice g.2.2.2.2.2.2.1 m.2.sent.xs.length g.2.2.2.2.2.2.2,[16],fun g=>[wfF (ptE machE 166) m],fun g=>[rwO intE 3 w.heap.size g.2.2.2.2.1 g.2.2.2.2.2.1 m.2.waiting.xs,rwO intE 3 w.heap.size g.2.2.1 g.2.2.2.1 m.2.known.xs,rwO intE 3 w.heap.size g.1 g.2.1 m.2.target.xs,rwO intE 3 w.heap.size g.2.2.2.2.2.2.1 g.2.2.2.2.2.2.2 m.2.sent.xs],fun g=>True⟩] [[9]] [15,16,17] _ S (fun y hy=>by cases hy) (fun ⟨ra_t12_3,rc_t12_3,ra_t12_4,rc_t12_4,ra_t12_5,rc_t12_5,ra_t17,rc_t17⟩=>⟨rfl,rfl,rfl,rfl,rfl,rfl,rfl,rfl,rfl,rfl,rfl,rfl,rfl,rfl,rfl,trivial⟩) ?_ ?_ ⟨⟨_,rfl,rfl,?_⟩,⟨_,rfl,rfl,?_⟩,trivial⟩ ?_
 ·intro k g hk; obtain ⟨ra_t12_3, rc_t12_3, ra_t12_4, rc_t12_4, ra_t12_5, rc_t12_5, ra_t17, rc_t17⟩ := g; obtain rfl | rfl | rfl : k = 0 ∨ k = 1 ∨ k = 2 := by simp only [List.length_cons, List.length_nil] at hk; omega
  ·exact ⟨lkq rfl fun S=>x_move (S.e rfl),lkq rfl fun S=>x_nilck (S.e rfl),lkq rfl fun S=>x_fld (z:=0) (0) 0 uT166 rfl rfl (by kernel_rfl) (S.e rfl),lkq rfl fun S=>x_load sC45 (S.e rfl) ((S.u 0 rfl).1.cell (j:=0) rfl),lkq rfl fun S=>x_move (S.e rfl),lkq rfl fun S=>x_nilck (S.e rfl),lkq rfl fun S=>x_fld (z:=0) (0) 1 uT166 rfl rfl (by kernel_rfl) (S.e rfl),lkq rfl fun S=>x_load sC66 (S.e rfl) ((S.u 0 rfl).1.cell (j:=1) rfl),lkq rfl fun S=>x_move (S.e rfl),lkq rfl fun S=>x_move (S.e rfl),lkq rfl fun S=>x_nilck (S.e rfl),lkq rfl fun S=>x_fld (z:=0) (0) 8 uT166 rfl rfl (by kernel_rfl) (S.e rfl),lkq rfl fun S=>x_load sC22 (S.e rfl) ((S.u 0 rfl).1.cell (j:=8) rfl),trivial⟩
  ·exact ⟨lkq rfl fun S=>x_move (S.e rfl),lkq rfl fun S=>x_nilck (S.e rfl),lkq rfl fun S=>x_fld (z:=0) (0) 0 uT166 rfl rfl (by kernel_rfl) (S.e rfl),lkq rfl fun S=>x_load sC45 (S.e rfl) ((S.u 0 rfl).1.cell (j:=0) rfl),lkq rfl fun S=>x_move (S.e rfl),lkq rfl fun S=>x_nilck (S.e rfl),lkq rfl fun S=>x_fld (z:=0) (0) 1 uT166 rfl rfl (by kernel_rfl) (S.e rfl),lkq rfl fun S=>x_load sC66 (S.e rfl) ((S.u 0 rfl).1.cell (j:=1) rfl),lkn,lkq rfl fun S=>x_move (S.e rfl),lkq rfl fun S=>x_nilck (S.e rfl),lkq rfl fun S=>x_fld (z:=0) (0) 8 uT166 rfl rfl (by kernel_rfl) (S.e rfl),lkq rfl fun S=>x_load sC22 (S.e rfl) ((S.u 0 rfl).1.cell (j:=8) rfl),trivial⟩
  exact ⟨lkq rfl fun S=>x_move (S.e rfl),lkq rfl fun S=>x_nilck (S.e rfl),lkq rfl fun S=>x_fld (z:=0) (0) 0 uT166 rfl rfl (by kernel_rfl) (S.e rfl),lkq rfl fun S=>x_load sC45 (S.e rfl) ((S.u 0 rfl).1.cell (j:=0) rfl),lkq rfl fun S=>x_move (S.e rfl),lkq rfl fun S=>x_nilck (S.e rfl),lkq rfl fun S=>x_fld (z:=0) (0) 1 uT166 rfl rfl (by kernel_rfl) (S.e rfl),lkq rfl fun S=>x_load sC66 (S.e rfl) ((S.u 0 rfl).1.cell (j:=1) rfl),lkn,lkn,lkn,lkn,lkn,trivial⟩
 ·exact fun _ _ _=>trivial
 ·skip;intro g a u h;obtain ⟨ra_t12_3,rc_t12_3,ra_t12_4,rc_t12_4,ra_t12_5,rc_t12_5,ra_t17,rc_t17⟩:=g;obtain ⟨S,hR,hN⟩:=h;replace S:=S.h0;dsimp only at S;refine cl S (cControl _ _ S.x (.nil _) m (dn0 (S.u 0 rfl)) (⟨by first | omega | (dsimp only;omega),by first | omega | (dsimp only;omega),by first | omega | (dsimp only;omega)⟩)) cB77 ?_;rintro e u ⟨ra_t12_3,rc_t12_3,ra_t12_4,rc_t12_4,ra_t12_5,rc_t12_5,rfl,R_t12_3,R_t12_4,R_t12_5,T0⟩;refine ⟨_,rfl,fun a s=>?_⟩;replace S:=(S.kr [⟨_,intE,3,ra_t12_5,rc_t12_5,m.2.waiting.xs⟩,⟨_,intE,3,ra_t12_4,rc_t12_4,m.2.known.xs⟩,⟨_,intE,3,ra_t12_3,rc_t12_3,m.2.target.xs⟩] s T0 ⟨R_t12_5,R_t12_4,R_t12_3,trivial⟩).sh;clear s T0 R_t12_5 R_t12_4 R_t12_3;refine ent ?_;exact ⟨S.s.defers,(ra_t12_3,rc_t12_3,ra_t12_4,rc_t12_4,ra_t12_5,rc_t12_5,ra_t17,rc_t17),(fun d h=>by obtain rfl:=Option.some.inj h;exact S.s.get _ _ rfl),agz,trivial,trivial,S.m,trivial⟩
 ·skip;intro g a u h;obtain ⟨ra_t12_3,rc_t12_3,ra_t12_4,rc_t12_4,ra_t12_5,rc_t12_5,ra_t17,rc_t17⟩:=g;obtain ⟨S,hR,hN⟩:=h;replace S:=S.hk (k:=0);dsimp only at S;refine cl S (sClone _ _ S.x (.nil _) m.2.sent (dn0 (((S.u 0 rfl).2.2).2.2.2.2.2.2.2.2)) (by first | omega | (dsimp only;omega))) cB110 ?_;rintro e u ⟨ra_t17,rc_t17,rfl,R_t17,T0⟩;refine ⟨_,rfl,fun a s=>?_⟩;replace S:=(S.kr [⟨_,intE,3,ra_t17,rc_t17,m.2.sent.xs⟩] s T0 ⟨R_t17,trivial⟩).sh;clear s T0 R_t17;refine ent ?_;exact ⟨S.s.defers,(ra_t12_3,rc_t12_3,ra_t12_4,rc_t12_4,ra_t12_5,rc_t12_5,ra_t17,rc_t17),(fun d h=>by obtain rfl:=Option.some.inj h;exact S.s.get _ _ rfl),agz,trivial,⟨rfl,trivial⟩,S.m,trivial⟩
 clear S;intro g a u hA S hR;obtain ⟨ra_t12_3,rc_t12_3,ra_t12_4,rc_t12_4,ra_t12_5,rc_t12_5,ra_t17,rc_t17⟩:=g;replace S:=(S.hk (k:=1)).l [(0,pT m.1 0),(2,.pointer none),(3,pT m.1 0),(4,pT m.1 0),(5,pT m.1 (0 + 0)),(6,sV m.2.rounds),(7,pT m.1 0),(8,pT m.1 0),(9,pT m.1 (0 + 1)),(10,sV m.2.states),(11,pT m.1 0),(13,pT m.1 0),(14,pT m.1 0),(15,pT m.1 (0 + 8)),(16,sV m.2.sent),(12,.agg #[iI m.2.round,bD (m.2.back = true),iI m.2.seq,.slice ra_t12_3 m.2.target.xs.length rc_t12_3,.slice ra_t12_4 m.2.known.xs.length rc_t12_4,.slice ra_t12_5 m.2.waiting.xs.length rc_t12_5]),(17,.slice ra_t17 m.2.sent.xs.length rc_t17)] (subM rfl);dsimp only at S;refine sp S (la (ov fun S=>x_bd S [(0,sV m.2.rounds),(1,sV m.2.states),(2,.agg #[iI m.2.round,bD (m.2.back = true),iI m.2.seq,.slice ra_t12_3 m.2.target.xs.length rc_t12_3,.slice ra_t12_4 m.2.known.xs.length rc_t12_4,.slice ra_t12_5 m.2.waiting.xs.length rc_t12_5]),(3,.slice ra_t17 m.2.sent.xs.length rc_t17)] [sV m.2.rounds,sV m.2.states,iI m.2.round,bD (m.2.back = true),iI m.2.seq,.slice ra_t12_3 m.2.target.xs.length rc_t12_3,.slice ra_t12_4 m.2.known.xs.length rc_t12_4,.slice ra_t12_5 m.2.waiting.xs.length rc_t12_5,.slice ra_t17 m.2.sent.xs.length rc_t17])) ?_;clear S;intro a u S;refine nbp S (x_box _ (S.e rfl) rfl) ?_;clear S;intro a u b19 S;refine ens S (la (av rfl)) ?_;clear S;intro a u S;refine wp_ret ?_;replace S:=((((S.b0 2 rfl).b0 1 rfl).b0 0 rfl).b0 3 rfl).sh;replace S:=S.pkc [4,2,1,0,3];replace S:=S.oda (E:=slE (slE chgE)) (x:=m.2.rounds) ((S.u 0 rfl).2.2).1;replace S:=S.oda (E:=slE (slE intE)) (x:=m.2.states) ((S.u 0 rfl).2.2).2.1;have hk8 : machK (⟨m.2.rounds,m.2.states,m.2.round,m.2.back,m.2.seq,(Sl.mk ra_t12_3 rc_t12_3 m.2.target.xs),(Sl.mk ra_t12_4 rc_t12_4 m.2.known.xs),(Sl.mk ra_t12_5 rc_t12_5 m.2.waiting.xs),(Sl.mk ra_t17 rc_t17 m.2.sent.xs)⟩ : Mach):=⟨(show inI64 m.2.round from ⟨by omega,by omega⟩),(show inI64 m.2.seq from ⟨by omega,by omega⟩)⟩;replace S:=S.clsN 0 (machF b19 (⟨m.2.rounds,m.2.states,m.2.round,m.2.back,m.2.seq,(Sl.mk ra_t12_3 rc_t12_3 m.2.target.xs),(Sl.mk ra_t12_4 rc_t12_4 m.2.known.xs),(Sl.mk ra_t12_5 rc_t12_5 m.2.waiting.xs),(Sl.mk ra_t17 rc_t17 m.2.sent.xs)⟩ : Mach));refine ret1 rfl S.s rfl ?_;refine ⟨(some (b19,(⟨m.2.rounds,m.2.states,m.2.round,m.2.back,m.2.seq,(Sl.mk ra_t12_3 rc_t12_3 m.2.target.xs),(Sl.mk ra_t12_4 rc_t12_4 m.2.known.xs),(Sl.mk ra_t12_5 rc_t12_5 m.2.waiting.xs),(Sl.mk ra_t17 rc_t17 m.2.sent.xs)⟩ : Mach))),rfl,hk8,(S.m.o _ (nth_mem (i:=0) rfl)),?_,S.m.c⟩;exact ⟨rfl,fun x h=>by obtain rfl:=Option.some.inj h;exact ⟨⟨rfl,rfl⟩,rfl⟩⟩
open Go.RowKit Go.Proofs.Ytobggnpnochnnaa
theorem row_low {α : Type} {E : Enc α} {t : TypeId} {base : Nat} {F : Nat → Prop} {ms : List BS} {w : World} {ad : Option Addr} {cap : Nat} {xs : List α} (r : Row E t base F ms w ad cap xs) : 0 < xs.length → base ≤ blk ad:=r.form.elim (fun h h0=>by simp [h.2.1] at h0) fun h _=>h.2.1
theorem rClone (w : World) (F : Nat → Prop) (hF : Old F w) (M : MS [] w) (hD : ∀ k, In [] k → ¬ F k) (rn : Nat × Run) (rn_w : (ptE runE 137).wf (Fr F []) w.heap rn) (ok : RunOK 8000000 rn.2) :
 Calls Try.prog 57 #[pT rn.1 0] w fun e w'=>∃ (q : Option (Nat × Run)),e = .returned (optP q) ∧ runQK q ∧ (bnO (runQ q)).p F (In [In (ow (runQ q))]) w' ∧ (q.isSome = true ∧ ∀ x,q = some x → KeepR rn.2 x.2 ∧ absR x.2 = absR rn.2 ∧ (0 < x.2.sts.xs.length → w.heap.size ≤ blk x.2.sts.a)) ∧ Tr [] w [In (ow (runQ q))] w':=by
 have : rn.2.m.2.rounds.xs.length ≤ 9223372036854775807:=(rn_w.2.2.1.2.2.1).1.len;have : rn.2.m.2.states.xs.length ≤ 9223372036854775807:=(rn_w.2.2.1.2.2.2.1).1.len;obtain ⟨_,_⟩ : inI64 rn.2.m.2.round:=rn_w.2.2.1.2.2.2.2.1;obtain ⟨_,_⟩ : inI64 rn.2.m.2.seq:=rn_w.2.2.1.2.2.2.2.2.2.1;have : rn.2.m.2.target.xs.length ≤ 9223372036854775807:=(rn_w.2.2.1.2.2.2.2.2.2.2.1).1.len;have : rn.2.m.2.known.xs.length ≤ 9223372036854775807:=(rn_w.2.2.1.2.2.2.2.2.2.2.2.1).1.len;have : rn.2.m.2.waiting.xs.length ≤ 9223372036854775807:=(rn_w.2.2.1.2.2.2.2.2.2.2.2.2.1).1.len;have : rn.2.m.2.sent.xs.length ≤ 9223372036854775807:=(rn_w.2.2.1.2.2.2.2.2.2.2.2.2.2).1.len;have : rn.2.sts.xs.length ≤ 9223372036854775807:=(rn_w.2.2.2).1.len;have hMO : MachOK rn.2.m.2:=⟨ok.pl,ok.ct⟩;obtain ⟨PO,n12,CO,hsl,hsn,hqb⟩:=id ok;have hsl : rn.2.sts.xs.length = rn.2.m.2.target.xs.length:=(List.length_map (f:=fun p : Nat × Sta=>psOf p.2)).symm.trans hsl;have hkn : rn.2.m.2.known.xs.length = rn.2.m.2.target.xs.length:=CO.kn;have hwt : Asc _ rn.2.m.2.waiting.xs:=CO.wt;have hwl:=hwt.len;have hn0:=PO.n0;have hsnl : rn.2.m.2.sent.xs.length ≤ 1000:=hsn.2;have hC1 : -1 ≤ rn.2.m.2.round ∧ rn.2.m.2.round ≤ _:=CO.rd;have hRl:=rds_len rn.2.m.2;have hP1:=PO.r1;have hsq : 0 ≤ rn.2.m.2.seq ∧ rn.2.m.2.seq ≤ 40:=CO.sqb hP1;have hln : ((absR rn.2).st.length : Int) = rn.2.sts.xs.length:=by show ((List.map _ _).length : Int) = _;rw [List.length_map]
 refine go Try.func57 rfl 62 rfl [wfF (ptE runE 137) rn] [] hF M ⟨rn_w,trivial⟩ trivial ?_;intro a S;have hD : ∀ k,In ([] : List BS) k → ¬ F k:=fun _ h=>h.elim;refine rs S (la (av rfl)) ?_;clear S;intro a u S;refine wp_seq ?_;refine rs S (tr (mv rfl)<|tr (ov fun S=>x_peqN uT73 (S.e rfl) (S.e rfl))<|tr (mv rfl)<|tr (gon 9 rfl fun S=>x_move (S.e rfl))<|tr (gon 9 rfl fun S=>x_nilck (S.e rfl))<|tr (gon 9 rfl fun S=>x_fld (z:=0) (0) 0 uT137 rfl rfl (by kernel_rfl) (S.e rfl))<|tr (gon 9 rfl fun S=>x_load sC125 (S.e rfl) ((S.u 0 rfl).1.cell (j:=0) rfl))<|tr (gon 9 rfl fun S=>x_peqN uT125 (S.e rfl) (S.e rfl))<|la (ov fun S=>x_pickf (S.e rfl) (S.e rfl))) ?_;clear S;intro a u S;refine cdf S rfl ?_;refine wp_skip (then_n (rs0 ?_));refine sp S (tr (mv rfl)<|tr (ov fun S=>x_nilck (S.e rfl))<|tr (fldi 0 0 rfl uT137)<|la (ov fun S=>x_load sC125 (S.e rfl) ((S.u 0 rfl).1.cell (j:=0) rfl))) ?_;clear S;intro a u S;replace S:=S.spl 0;refine cl S (cClone _ _ S.xxF  S.mF (S.nfF hD) rn.2.m (dnF   (((S.u 0 rfl).2.2).1)) (⟨⟨by first | omega | (dsimp only;omega) | assumption,by first | omega | (dsimp only;omega) | assumption,by first | omega | (dsimp only;omega) | assumption⟩,by first | omega | (dsimp only;omega) | assumption⟩)) cB99 ?_;rintro e u ⟨q_t20,rfl,qK_t20,qB_t20,hr_t20,T0⟩;refine ⟨_,rfl,fun a s=>?_⟩;have S2:=S.kF   [bnO (machQ q_t20)] s T0 ⟨qB_t20,trivial⟩ ⟨(mo_bn (mo_machQ _)),trivial⟩;replace S2:=S2.sh;clear S;have S:=S2;clear S2 s T0 qB_t20
 rcases q_t20 with _ | ⟨B_t20,x_t20⟩
 ·exact absurd hr_t20.1 (by decide)
 replace S:=(show St _ _ _ _ _ _ [bnO (machF B_t20 x_t20)] _ _ from S);refine sp S (la (ov fun S=>x_bd S [(0,pT B_t20 0)] [pT B_t20 0,.slice none 0 0])) ?_;clear S;intro a u S;refine nbp S (x_box _ (S.e rfl) rfl) ?_;clear S;intro a u b22 S;refine ens S (la (av rfl)) ?_;clear S;intro a u S;refine wp_seq ?_;have hn5 : rn.2.sts.xs.length ≤ 9223372036854775807:=(((S.u 0 rfl).2.2).2).1.len;refine rs S (tr (mv rfl)<|tr (ov fun S=>x_nilck (S.e rfl))<|tr (fldi 0 1 rfl uT137)<|tr (ov fun S=>x_load sC135 (S.e rfl) ((S.u 0 rfl).1.cell (j:=1) rfl))<|tr (leni uT135 rfl)<|la (mv rfl)) ?_;clear S;intro a u S;refine wp_block ?_;replace S:=S.l0 staG;replace S:=S.nr (prE staE) 138;refine lp4 (fun (i : Nat) (rw_a : Option Addr) (rw_c : Nat) (rw : List (Nat × Sta))=>[(2,.pointer none),(3,pT b22 0),(26,sV rn.2.sts),(27,iN rn.2.sts.xs.length),(28,iN i)]) (fun (i : Nat) (rw_a : Option Addr) (rw_c : Nat) (rw : List (Nat × Sta))=>[bnO (machF B_t20 x_t20),blO b22 [pT B_t20 0,.slice rw_a rw.length rw_c] 137,lsO staG rw,rwO (prE staE) 138 w.heap.size rw_a rw_c rw]) (fun (i : Nat) (rw_a : Option Addr) (rw_c : Nat) (rw : List (Nat × Sta))=>i ≤ rn.2.sts.xs.length ∧ (rw.map fun p : Nat × Sta=>psOf p.2) = (rn.2.sts.xs.take i).map (fun p : Nat × Sta=>psOf p.2) ∧ (∀ p ∈ rw,staK p.2)) (fun (i : Nat) (rw_a : Option Addr) (rw_c : Nat) (rw : List (Nat × Sta))=>rn.2.sts.xs.length - i) S 0 none 0 ([]) (subM rfl) rfl ?_ ?_
 ·exact ⟨Nat.zero_le _,rfl,fun p h=>by cases h⟩
 clear S;intro i rw_a rw_c rw a u S hR;have rw_len:=(S.row 3 rfl).len_le;simp only [maxLen] at rw_len;obtain ⟨hi,hps,hkls⟩:=hR;have hrl : rw.length = i:=by have:=congrArg List.length hps;rw [List.length_map,List.length_map,List.length_take] at this;omega
 refine rs S (la (lssi rfl rfl)) ?_;clear S;intro a u S;refine wp_seq ?_;refine cd S rfl ?_ ?_
 ·intro hc0;obtain ⟨hqb1, hqb2, _⟩ : bndT 8000000 (psOf (rn.2.sts.xs.getD i (ptE staE 157).dflt).2) := hqb _ (List.mem_map_of_mem (f := fun p : Nat × Sta => psOf p.2) (getD_mem bo));have hqc : (rn.2.sts.xs.getD i (ptE staE 157).dflt).2.cmds.xs.length ≤ 8000000 := hqb1;have hqm : (rn.2.sts.xs.getD i (ptE staE 157).dflt).2.msgs.xs.length ≤ 8000000 := hqb2;refine wp_skip (then_n (wp_seq (wp_block ?_)));refine rs S (tr (idxi uT135 sZ138 rfl rfl i rfl bo ((((S.u 0 rfl).2.2).2).1.adr (i := i) bo))<|tr (ov fun S=>x_load sC138 (S.e rfl) ((((S.u 0 rfl).2.2).2).1.cell i bo 0 _ rfl))<|la (av rfl)) ?_; clear S; intro a u S;refine rs0 ?_;obtain ⟨hl9, hu9⟩ : inI64 ((rn.2.sts.xs.getD i (ptE staE 157).dflt).2.run) := id ((((((S.u 0 rfl).2.2).2).1.wf i bo).2.2).2.2.1);obtain ⟨hl10, hu10⟩ : inI64 ((rn.2.sts.xs.getD i (ptE staE 157).dflt).2.sav) := id ((((((S.u 0 rfl).2.2).2).1.wf i bo).2.2).2.2.2.1);obtain ⟨hl11, hu11⟩ : inI64 ((rn.2.sts.xs.getD i (ptE staE 157).dflt).2.seq) := id ((((((S.u 0 rfl).2.2).2).1.wf i bo).2.2).2.2.2.2.1);obtain ⟨hl12, hu12⟩ : inI64 ((rn.2.sts.xs.getD i (ptE staE 157).dflt).2.inc) := id ((((((S.u 0 rfl).2.2).2).1.wf i bo).2.2).2.2.2.2.2.1);have hn13 : ((rn.2.sts.xs.getD i (ptE staE 157).dflt).2.cmds.xs).length ≤ 9223372036854775807 := ((((((S.u 0 rfl).2.2).2).1.wf i bo).2.2).2.2.2.2.2.2.2.1).1.len;have hn14 : ((rn.2.sts.xs.getD i (ptE staE 157).dflt).2.msgs.xs).length ≤ 9223372036854775807 := ((((((S.u 0 rfl).2.2).2).1.wf i bo).2.2).2.2.2.2.2.2.2.2).1.len;refine sp S (tr (mv rfl)<|tr (ov fun S=>x_nilck (S.e rfl))<|la (ov fun S=>x_ldw (S.e rfl) ((((S.u 0 rfl).2.2).2).1.wf i bo).1.all wD157)) ?_; clear S; intro a u S;refine nbp S (x_allocz _ iZ157 rfl) ?_; clear S; intro a u b6 S;refine ens S (la (stkw 4 rfl rfl rfl)) ?_; clear S; intro a u S;refine wp_seq ?_;refine drH (P := Try.prog) ((Option Addr) × Nat × (Option Addr) × Nat) (none, 0, none, 0) (fun g => [wfF (ptE runE 137) rn]) (fun g => [bnO (machF B_t20 x_t20), blO b22 [pT B_t20 0, .slice rw_a rw.length rw_c] 137, lsO staG rw, rwO (prE staE) 138 w.heap.size rw_a rw_c rw, blO b6 (staE.cells ((rn.2.sts.xs.getD i (ptE staE 157).dflt).2)) 157]) [⟨0, 35, 0, 0, [], [4, 3, 2, 1, 0], fun g => pT (rn.2.sts.xs.getD i (ptE staE 157).dflt).1 0, []⟩, ⟨1, 36, 0, 0, [], [4, 3, 2, 1], fun g => pT (rn.2.sts.xs.getD i (ptE staE 157).dflt).1 0, [35]⟩, ⟨2, 37, 0, 0, [], [4, 3, 2], fun g => pT (rn.2.sts.xs.getD i (ptE staE 157).dflt).1 (0 + 7), [36]⟩, ⟨3, 38, 0, 0, [], [4, 3], fun g => pT (rn.2.sts.xs.getD i (ptE staE 157).dflt).1 (0 + 7 + 0), [37]⟩, ⟨4, 39, 0, 0, [], [4], fun g => sV (rn.2.sts.xs.getD i (ptE staE 157).dflt).2.cmds, [38]⟩, ⟨6, 41, 0, 1, [], [10, 9, 8, 7, 6], fun g => pT (rn.2.sts.xs.getD i (ptE staE 157).dflt).1 0, []⟩, ⟨7, 42, 0, 1, [], [10, 9, 8, 7], fun g => pT (rn.2.sts.xs.getD i (ptE staE 157).dflt).1 0, [41]⟩, ⟨8, 43, 0, 1, [], [10, 9, 8], fun g => pT (rn.2.sts.xs.getD i (ptE staE 157).dflt).1 (0 + 8), [42]⟩, ⟨9, 44, 0, 1, [], [10, 9], fun g => pT (rn.2.sts.xs.getD i (ptE staE 157).dflt).1 (0 + 8 + 0), [43]⟩, ⟨10, 45, 0, 1, [], [10], fun g => sV (rn.2.sts.xs.getD i (ptE staE 157).dflt).2.msgs, [44]⟩, ⟨12, 47, 2, 2, [11], [13, 12], fun g => pT b6 (0 + 7), []⟩, ⟨13, 48, 2, 2, [11], [13], fun g => pT b6 (0 + 7 + 0), [47]⟩, ⟨15, 49, 3, 3, [14], [16, 15], fun g => pT b6 (0 + 8), []⟩, ⟨16, 50, 3, 3, [14], [16], fun g => pT b6 (0 + 8 + 0), [49]⟩] [] [⟨5, some 40, fun g => .slice g.1 ((((rn.2.sts.xs.getD i (ptE staE 157).dflt).2.cmds).xs).length) g.2.1, [39], fun g => [wfF (ptE runE 137) rn], fun g => [bnO (machF B_t20 x_t20), blO b22 [pT B_t20 0, .slice rw_a rw.length rw_c] 137, lsO staG rw, rwO (prE staE) 138 w.heap.size rw_a rw_c rw, blO b6 (staE.cells ((rn.2.sts.xs.getD i (ptE staE 157).dflt).2)) 157, rwO cmdE 161 w.heap.size g.1 g.2.1 (((rn.2.sts.xs.getD i (ptE staE 157).dflt).2.cmds).xs)], fun g => True⟩, ⟨11, some 46, fun g => .slice g.2.2.1 ((((rn.2.sts.xs.getD i (ptE staE 157).dflt).2.msgs).xs).length) g.2.2.2, [45], fun g => [wfF (ptE runE 137) rn], fun g => [bnO (machF B_t20 x_t20), blO b22 [pT B_t20 0, .slice rw_a rw.length rw_c] 137, lsO staG rw, rwO (prE staE) 138 w.heap.size rw_a rw_c rw, blO b6 (staE.cells ((rn.2.sts.xs.getD i (ptE staE 157).dflt).2)) 157, rwO cmdE 161 w.heap.size g.1 g.2.1 (((rn.2.sts.xs.getD i (ptE staE 157).dflt).2.cmds).xs), rwO msgE 164 w.heap.size g.2.2.1 g.2.2.2 (((rn.2.sts.xs.getD i (ptE staE 157).dflt).2.msgs).xs)], fun g => True⟩, ⟨14, none, fun g => undef, [48, 40], fun g => [wfF (ptE runE 137) rn], fun g => [bnO (machF B_t20 x_t20), blO b22 [pT B_t20 0, .slice rw_a rw.length rw_c] 137, lsO staG rw, rwO (prE staE) 138 w.heap.size rw_a rw_c rw, blO b6 [bD ((rn.2.sts.xs.getD i (ptE staE 157).dflt).2.up = true), bD ((rn.2.sts.xs.getD i (ptE staE 157).dflt).2.quar = true), iI ((rn.2.sts.xs.getD i (ptE staE 157).dflt).2.run), iI ((rn.2.sts.xs.getD i (ptE staE 157).dflt).2.sav), iI ((rn.2.sts.xs.getD i (ptE staE 157).dflt).2.seq), iI ((rn.2.sts.xs.getD i (ptE staE 157).dflt).2.inc), bD ((rn.2.sts.xs.getD i (ptE staE 157).dflt).2.vol = true), .slice g.1 ((((rn.2.sts.xs.getD i (ptE staE 157).dflt).2.cmds).xs).length) g.2.1, sV (rn.2.sts.xs.getD i (ptE staE 157).dflt).2.msgs] 157, rwO cmdE 161 w.heap.size g.1 g.2.1 (((rn.2.sts.xs.getD i (ptE staE 157).dflt).2.cmds).xs), rwO msgE 164 w.heap.size g.2.2.1 g.2.2.2 (((rn.2.sts.xs.getD i (ptE staE 157).dflt).2.msgs).xs)], fun g => True⟩, ⟨17, none, fun g => undef, [50, 46], fun g => [wfF (ptE runE 137) rn], fun g => [bnO (machF B_t20 x_t20), blO b22 [pT B_t20 0, .slice rw_a rw.length rw_c] 137, lsO staG rw, rwO (prE staE) 138 w.heap.size rw_a rw_c rw, blO b6 [bD ((rn.2.sts.xs.getD i (ptE staE 157).dflt).2.up = true), bD ((rn.2.sts.xs.getD i (ptE staE 157).dflt).2.quar = true), iI ((rn.2.sts.xs.getD i (ptE staE 157).dflt).2.run), iI ((rn.2.sts.xs.getD i (ptE staE 157).dflt).2.sav), iI ((rn.2.sts.xs.getD i (ptE staE 157).dflt).2.seq), iI ((rn.2.sts.xs.getD i (ptE staE 157).dflt).2.inc), bD ((rn.2.sts.xs.getD i (ptE staE 157).dflt).2.vol = true), .slice g.1 ((((rn.2.sts.xs.getD i (ptE staE 157).dflt).2.cmds).xs).length) g.2.1, .slice g.2.2.1 ((((rn.2.sts.xs.getD i (ptE staE 157).dflt).2.msgs).xs).length) g.2.2.2] 157, rwO cmdE 161 w.heap.size g.1 g.2.1 (((rn.2.sts.xs.getD i (ptE staE 157).dflt).2.cmds).xs), rwO msgE 164 w.heap.size g.2.2.1 g.2.2.2 (((rn.2.sts.xs.getD i (ptE staE 157).dflt).2.msgs).xs)], fun g => True⟩] [[5], [11], [14]] [] [] S (fun y hy => by cases hy) (fun ⟨ra_t40, rc_t40, ra_t46, rc_t46⟩ => ⟨rfl, rfl, rfl, rfl, rfl, rfl, rfl, rfl, rfl, rfl, rfl, rfl, rfl, rfl, rfl, rfl, trivial⟩) ?_ ?_ ⟨⟨_, rfl, rfl, ?_⟩, ⟨_, rfl, rfl, ?_⟩, ⟨_, rfl, rfl, ?_⟩, ⟨_, rfl, rfl, ?_⟩, trivial⟩ ?_
  ·intro k g hk; obtain ⟨ra_t40, rc_t40, ra_t46, rc_t46⟩ := g; obtain rfl | rfl | rfl | rfl | rfl : k = 0 ∨ k = 1 ∨ k = 2 ∨ k = 3 ∨ k = 4 := by simp only [List.length_cons, List.length_nil] at hk; omega
   ·exact ⟨lkq rfl fun S=>x_move (S.e rfl),lkq rfl fun S=>x_nilck (S.e rfl),lkq rfl fun S=>x_fld (z:=0) (0) 7 uT157 rfl rfl (by kernel_rfl) (S.e rfl),lkq rfl fun S=>x_fld (z:=0) (0 + 7) 0 uT152 rfl rfl (by kernel_rfl) (S.e rfl),lkq rfl fun S=>x_load sC150 (S.e rfl) (((((S.u 0 rfl).2.2).2).1.wf i bo).1.cell (j:=7) rfl),lkq rfl fun S=>x_move (S.e rfl),lkq rfl fun S=>x_nilck (S.e rfl),lkq rfl fun S=>x_fld (z:=0) (0) 8 uT157 rfl rfl (by kernel_rfl) (S.e rfl),lkq rfl fun S=>x_fld (z:=0) (0 + 8) 0 uT155 rfl rfl (by kernel_rfl) (S.e rfl),lkq rfl fun S=>x_load sC153 (S.e rfl) (((((S.u 0 rfl).2.2).2).1.wf i bo).1.cell (j:=8) rfl),lkm,lkm,lkm,lkm,trivial⟩
   ·exact ⟨lkn,lkn,lkn,lkn,lkn,lkq rfl fun S=>x_move (S.e rfl),lkq rfl fun S=>x_nilck (S.e rfl),lkq rfl fun S=>x_fld (z:=0) (0) 8 uT157 rfl rfl (by kernel_rfl) (S.e rfl),lkq rfl fun S=>x_fld (z:=0) (0 + 8) 0 uT155 rfl rfl (by kernel_rfl) (S.e rfl),lkq rfl fun S=>x_load sC153 (S.e rfl) (((((S.u 0 rfl).2.2).2).1.wf i bo).1.cell (j:=8) rfl),lkm,lkm,lkm,lkm,trivial⟩
   ·exact ⟨lkn,lkn,lkn,lkn,lkn,lkn,lkn,lkn,lkn,lkn,lkq rfl fun S=>x_fld (z:=0) (0) 7 uT157 rfl rfl (by kernel_rfl) (S.e rfl),lkq rfl fun S=>x_fld (z:=0) (0 + 7) 0 uT152 rfl rfl (by kernel_rfl) (S.e rfl),lkm,lkm,trivial⟩
   ·exact ⟨lkn,lkn,lkn,lkn,lkn,lkn,lkn,lkn,lkn,lkn,lkn,lkn,lkq rfl fun S=>x_fld (z:=0) (0) 8 uT157 rfl rfl (by kernel_rfl) (S.e rfl),lkq rfl fun S=>x_fld (z:=0) (0 + 8) 0 uT155 rfl rfl (by kernel_rfl) (S.e rfl),trivial⟩
   exact ⟨lkn,lkn,lkn,lkn,lkn,lkn,lkn,lkn,lkn,lkn,lkn,lkn,lkn,lkn,trivial⟩
  ·exact fun _ _ _=>trivial
  ·skip;intro g a u h;obtain ⟨ra_t40,rc_t40,ra_t46,rc_t46⟩:=g;obtain ⟨S,hR,hN⟩:=h;replace S:=S.h0;dsimp only at S;refine cl S (sCloneC _ _ S.x (.nil _) ((rn.2.sts.xs.getD i (ptE staE 157).dflt).2.cmds) (dn0 ((((((S.u 0 rfl).2.2).2).1.wf i bo).2.2).2.2.2.2.2.2.2.1)) (by first | omega | (dsimp only;omega) | (simp only [List.length_drop];omega) | (dsimp only;simp only [List.length_drop];omega))) cB100 ?_;rintro e u ⟨ra_t40,rc_t40,rfl,R_t40,T0⟩;refine ⟨_,rfl,fun a s=>?_⟩;replace S:=(S.kr [⟨_,cmdE,161,ra_t40,rc_t40,((rn.2.sts.xs.getD i (ptE staE 157).dflt).2.cmds).xs⟩] s T0 ⟨R_t40,trivial⟩).sh;clear s T0 R_t40;refine ent ?_;exact ⟨S.s.defers,(ra_t40,rc_t40,ra_t46,rc_t46),(fun d h=>by obtain rfl:=Option.some.inj h;exact S.s.get _ _ rfl),agz,trivial,trivial,S.m,trivial⟩
  ·skip;intro g a u h;obtain ⟨ra_t40,rc_t40,ra_t46,rc_t46⟩:=g;obtain ⟨S,hR,hN⟩:=h;replace S:=S.hk (k:=0);dsimp only at S;refine cl S (sCloneM _ _ S.x (.nil _) ((rn.2.sts.xs.getD i (ptE staE 157).dflt).2.msgs) (dn0 ((((((S.u 0 rfl).2.2).2).1.wf i bo).2.2).2.2.2.2.2.2.2.2)) (by first | omega | (dsimp only;omega) | (simp only [List.length_drop];omega) | (dsimp only;simp only [List.length_drop];omega))) cB101 ?_;rintro e u ⟨ra_t46,rc_t46,rfl,R_t46,T0⟩;refine ⟨_,rfl,fun a s=>?_⟩;replace S:=(S.kr [⟨_,msgE,164,ra_t46,rc_t46,((rn.2.sts.xs.getD i (ptE staE 157).dflt).2.msgs).xs⟩] s T0 ⟨R_t46,trivial⟩).sh;clear s T0 R_t46;refine ent ?_;exact ⟨S.s.defers,(ra_t40,rc_t40,ra_t46,rc_t46),(fun d h=>by obtain rfl:=Option.some.inj h;exact S.s.get _ _ rfl),agz,trivial,⟨rfl,trivial⟩,S.m,trivial⟩
  ·skip;intro g a u h;obtain ⟨ra_t40,rc_t40,ra_t46,rc_t46⟩:=g;obtain ⟨S,hR,hN⟩:=h;replace S:=S.hk (k:=1);dsimp only at S;refine ens S (la (stk 4 rfl rfl rfl)) ?_;clear S;intro a u S;exact ⟨S.s.defers,(ra_t40,rc_t40,ra_t46,rc_t46),(fun d h=>by cases h),agz,trivial,⟨rfl,rfl,trivial⟩,S.m,trivial⟩
  ·skip;intro g a u h;obtain ⟨ra_t40,rc_t40,ra_t46,rc_t46⟩:=g;obtain ⟨S,hR,hN⟩:=h;replace S:=S.hk (k:=2);dsimp only at S;refine ens S (la (stk 4 rfl rfl rfl)) ?_;clear S;intro a u S;exact ⟨S.s.defers,(ra_t40,rc_t40,ra_t46,rc_t46),(fun d h=>by cases h),agz,trivial,⟨rfl,rfl,rfl,trivial⟩,S.m,trivial⟩
  clear S;intro g a u hA S hR;obtain ⟨ra_t40,rc_t40,ra_t46,rc_t46⟩:=g;replace S:=(S.hk (k:=3)).l ((2,.pointer none) :: (3,pT b22 0) :: (26,sV rn.2.sts) :: (27,iN rn.2.sts.xs.length) :: (28,iN i) :: (29,bD (((i : Nat) : Int) < ((rn.2.sts.xs.length : Nat) : Int))) :: (30,pT (blk rn.2.sts.a) (off rn.2.sts.a + i * 1)) :: (31,pT (rn.2.sts.xs.getD i (ptE staE 157).dflt).1 0) :: (5,pT (rn.2.sts.xs.getD i (ptE staE 157).dflt).1 0) :: (32,pT (rn.2.sts.xs.getD i (ptE staE 157).dflt).1 0) :: (33,pT (rn.2.sts.xs.getD i (ptE staE 157).dflt).1 0) :: (34,.agg (staE.cells ((rn.2.sts.xs.getD i (ptE staE 157).dflt).2)).toArray) :: (6,pT b6 0) :: (35,pT (rn.2.sts.xs.getD i (ptE staE 157).dflt).1 0) :: (36,pT (rn.2.sts.xs.getD i (ptE staE 157).dflt).1 0) :: (37,pT (rn.2.sts.xs.getD i (ptE staE 157).dflt).1 (0 + 7)) :: (38,pT (rn.2.sts.xs.getD i (ptE staE 157).dflt).1 (0 + 7 + 0)) :: (39,sV (rn.2.sts.xs.getD i (ptE staE 157).dflt).2.cmds) :: (41,pT (rn.2.sts.xs.getD i (ptE staE 157).dflt).1 0) :: (42,pT (rn.2.sts.xs.getD i (ptE staE 157).dflt).1 0) :: (43,pT (rn.2.sts.xs.getD i (ptE staE 157).dflt).1 (0 + 8)) :: (44,pT (rn.2.sts.xs.getD i (ptE staE 157).dflt).1 (0 + 8 + 0)) :: (45,sV (rn.2.sts.xs.getD i (ptE staE 157).dflt).2.msgs) :: (40,.slice ra_t40 ((((rn.2.sts.xs.getD i (ptE staE 157).dflt).2.cmds).xs).length) rc_t40) :: (46,.slice ra_t46 ((((rn.2.sts.xs.getD i (ptE staE 157).dflt).2.msgs).xs).length) rc_t46) :: (47,pT b6 (0 + 7)) :: (48,pT b6 (0 + 7 + 0)) :: (49,pT b6 (0 + 8)) :: (50,pT b6 (0 + 8 + 0)) :: []) (subM rfl);dsimp only at S;refine ent (r0 ?_);refine sp S (la (mv rfl)) ?_;clear S;intro a u S;replace S:=((S.b0 5 rfl).b0 6 rfl).sh;have hk16 : staK (⟨(rn.2.sts.xs.getD i (ptE staE 157).dflt).2.up,(rn.2.sts.xs.getD i (ptE staE 157).dflt).2.quar,(rn.2.sts.xs.getD i (ptE staE 157).dflt).2.run,(rn.2.sts.xs.getD i (ptE staE 157).dflt).2.sav,(rn.2.sts.xs.getD i (ptE staE 157).dflt).2.seq,(rn.2.sts.xs.getD i (ptE staE 157).dflt).2.inc,(rn.2.sts.xs.getD i (ptE staE 157).dflt).2.vol,(Sl.mk ra_t40 rc_t40 (((rn.2.sts.xs.getD i (ptE staE 157).dflt).2.cmds).xs)),(Sl.mk ra_t46 rc_t46 (((rn.2.sts.xs.getD i (ptE staE 157).dflt).2.msgs).xs))⟩ : Sta):=⟨(((((S.u 0 rfl).2.2).2).1.wf i bo).2.2).2.2.1,(((((S.u 0 rfl).2.2).2).1.wf i bo).2.2).2.2.2.1,(((((S.u 0 rfl).2.2).2).1.wf i bo).2.2).2.2.2.2.1,(((((S.u 0 rfl).2.2).2).1.wf i bo).2.2).2.2.2.2.2.1⟩;replace S:=S.clsN 4 (staF b6 (⟨(rn.2.sts.xs.getD i (ptE staE 157).dflt).2.up,(rn.2.sts.xs.getD i (ptE staE 157).dflt).2.quar,(rn.2.sts.xs.getD i (ptE staE 157).dflt).2.run,(rn.2.sts.xs.getD i (ptE staE 157).dflt).2.sav,(rn.2.sts.xs.getD i (ptE staE 157).dflt).2.seq,(rn.2.sts.xs.getD i (ptE staE 157).dflt).2.inc,(rn.2.sts.xs.getD i (ptE staE 157).dflt).2.vol,(Sl.mk ra_t40 rc_t40 (((rn.2.sts.xs.getD i (ptE staE 157).dflt).2.cmds).xs)),(Sl.mk ra_t46 rc_t46 (((rn.2.sts.xs.getD i (ptE staE 157).dflt).2.msgs).xs))⟩ : Sta));obtain ⟨sx,hsx⟩ : ∃ z : Sta,z = (⟨(rn.2.sts.xs.getD i (ptE staE 157).dflt).2.up,(rn.2.sts.xs.getD i (ptE staE 157).dflt).2.quar,(rn.2.sts.xs.getD i (ptE staE 157).dflt).2.run,(rn.2.sts.xs.getD i (ptE staE 157).dflt).2.sav,(rn.2.sts.xs.getD i (ptE staE 157).dflt).2.seq,(rn.2.sts.xs.getD i (ptE staE 157).dflt).2.inc,(rn.2.sts.xs.getD i (ptE staE 157).dflt).2.vol,(Sl.mk ra_t40 rc_t40 (((rn.2.sts.xs.getD i (ptE staE 157).dflt).2.cmds).xs)),(Sl.mk ra_t46 rc_t46 (((rn.2.sts.xs.getD i (ptE staE 157).dflt).2.msgs).xs))⟩ : Sta):=⟨_,rfl⟩;rw [← hsx] at S hk16;replace S:=S.pkc [0,1,3,2,4];replace S:=(show St _ _ _ _ _ _ [bnO (machF B_t20 x_t20),blO b22 [pT B_t20 0,.slice rw_a rw.length rw_c] 137,rwO (prE staE) 138 w.heap.size rw_a rw_c rw,lsO staG (rw ++ [(b6,sx)])] _ _ from S.lpush (ks:=[bnO (machF B_t20 x_t20),blO b22 [pT B_t20 0,.slice rw_a rw.length rw_c] 137,rwO (prE staE) 138 w.heap.size rw_a rw_c rw]) (x:=(b6,sx)));have hkls2 : ∀ p ∈ (rw ++ [(b6,sx)]),staK p.2:=fun p hp=>(List.mem_append.1 hp).elim (hkls p) fun e=>(by obtain rfl:=List.mem_singleton.1 e;exact hk16);refine sp S (tr (mv rfl)<|tr (ov fun S=>x_nilck (S.e rfl))<|tr (fldi 0 1 rfl uT137)<|la (ldk 1 sC135 rfl rfl rfl)) ?_;clear S;intro a u S;refine nbs (prE staE) S [(b6,sx)] (x_bs S [(0,pT b6 0)] uT135 iZ138) (fun x hx=>by simp only [List.mem_cons,List.not_mem_nil,or_false] at hx;rw [hx];exact (show (prE staE).wf _ _ (b6,sx) from trivial)) ?_;clear S;intro a u b56 S;refine ap (E:=(prE staE)) (ys:=[(b6,sx)]) S 2 rfl uT135 iZ138 rfl rfl (show LAt (prE staE) _ _ (some ⟨b56,0,none⟩) ([(b6,sx)]) from ((S.u 1 rfl)).1) ((S.u 1 rfl)).2.2 (LAt.mem (show LAt (prE staE) _ _ (some ⟨b56,0,none⟩) ([(b6,sx)]) from ((S.u 1 rfl)).1)) ⟨by unfold maxLen;(try simp only [List.length_cons,List.length_nil,List.length_append,List.length_map]);omega,by (try simp only [List.length_cons,List.length_nil,List.length_append,List.length_map]);omega⟩ ?_;clear S;intro a u ad57 cap57 S;refine en S (tr (ov fun S=>x_nilck (S.e rfl))<|tr (fldi 0 1 rfl uT137)<|la (stk 1 rfl rfl rfl)) ?_;clear S;intro a u S;refine blk_n (then_n ?_);refine rg S (tr (addi ((i + 1 : Nat) : Int) rfl rfl (w_i64 bo))<|la (mv rfl)) ?_;clear S;intro a u S;replace S:=S.pk [0,1,3,2];refine then_n ?_;refine ⟨(i + 1),ad57,cap57,(rw ++ [(b6,sx)]),S.re (subM rfl) rfl rfl,?_,?_⟩
  ·refine ⟨by omega,?_,hkls2⟩;rw [List.map_append,hps,take_up (l:=rn.2.sts.xs) (k:=i) (m:=i + 1) bo rfl (prE staE).dflt,List.map_append,hsx];rfl
  omega
 intro hc1;have hfr:=row_low (S.row 3 rfl);refine wp_exit (then_e (then_e (blk_e (then_n ?_))));refine rs S (tr (mv rfl)<|la (av rfl)) ?_;clear S;intro a u S;refine wp_ret ?_;replace S:=S.fz 3 rfl;replace S:=S.pkc [1,0,2];replace S:=S.oda (E:=slE (prE staE)) (x:=(Sl.mk rw_a rw_c rw)) (S.u 1 rfl);have hk19 : runK (⟨(B_t20,x_t20),(Sl.mk rw_a rw_c rw)⟩ : Run):=⟨qK_t20,hkls⟩;replace S:=S.clsN 0 (runF b22 (⟨(B_t20,x_t20),(Sl.mk rw_a rw_c rw)⟩ : Run));refine ret1 rfl S.s rfl ?_;refine ⟨(some (b22,(⟨(B_t20,x_t20),(Sl.mk rw_a rw_c rw)⟩ : Run))),rfl,hk19,(S.m.o _ (nth_mem (i:=0) rfl)),?_,S.m.c⟩;refine ⟨rfl,fun x h=>?_⟩;obtain rfl:=(Option.some.inj h).symm;obtain ⟨k1,k2⟩:=hr_t20.2 _ rfl;refine ⟨k1,absR_ext k2 ?_,hfr⟩;show rw.map _ = rn.2.sts.xs.map _;rw [hps,List.take_of_length_le bo]
structure DevJ (q k t : Int) (w : Prop) (a b : Int) (s : PS) : Prop where
  cs : ∀ x ∈ s.cmd,x.inc ≤ k ∧ 0 ≤ x.seq ∧ x.seq ≤ q ∧ (x.seq = q → x.ver = t)
  od : s.cmd.Pairwise fun x y=>x.seq ≤ y.seq
  ki : k ≤ s.ag.inc
  sq : 0 ≤ s.ag.seq ∧ s.ag.seq ≤ q
  lv : s.ag.up = true → ∀ x ∈ s.cmd,x.inc = s.ag.inc → s.ag.seq ≤ x.seq ∧ (x.ver = a ∨ x.ver = b) ∧ (¬ w → x.ver = t)
  rn : s.ag.up = true → ¬ s.ag.quar = true → k = s.ag.inc ∧ (s.ag.run = a ∨ s.ag.run = b) ∧ (s.ag.seq = q → s.ag.run = t) ∧ (¬ w → s.ag.run = t ∧ s.ag.sav = t)
  ms : ∀ m ∈ s.msg,m.inc ≤ s.ag.inc ∧ (¬ m.hello = true → m.inc = s.ag.inc → s.ag.up = true → ¬ s.ag.quar = true ∧ m.seq ≤ s.ag.seq ∧ (m.seq = q → s.ag.sav = t))
  qr : s.ag.quar = true → s.ag.run = s.ag.sav
  p1 : w → s.ag.up = true → k = s.ag.inc → (∃ x ∈ s.cmd,x.inc = k ∧ x.seq = q) ∨ (¬ s.ag.quar = true ∧ s.ag.seq = q)
  p2 : s.ag.up = true → k < s.ag.inc → ∃ m ∈ s.msg,m.hello = true ∧ m.inc = s.ag.inc
  p4 : ¬ w → s.ag.up = true → k = s.ag.inc → ¬ s.ag.quar = true
structure DevI (q k t : Int) (w : Prop) (a b : Int) (s : PS) : Prop extends DevJ q k t w a b s where
  nv : ¬ s.vol = true → s.ag.run = s.ag.sav
  p3 : w → s.ag.up = true → k = s.ag.inc → ¬ s.ag.quar = true → s.ag.seq = q → (∃ x ∈ s.cmd,x.inc = k ∧ x.seq = q) ∨ s.ag.run ≠ s.ag.sav ∨ ∃ m ∈ s.msg,¬ m.hello = true ∧ m.inc = k ∧ m.seq = q
section
variable {q k t a b : Int} {w : Prop} {s : PS}
theorem dev_down (hu : ¬ s.ag.up = true) (h1 : ∀ x ∈ s.cmd, x.inc ≤ k ∧ 0 ≤ x.seq ∧ x.seq ≤ q ∧ (x.seq = q → x.ver = t)) (h2 : s.cmd.Pairwise fun x y => x.seq ≤ y.seq) (h3 : k ≤ s.ag.inc) (h4 : 0 ≤ s.ag.seq ∧ s.ag.seq ≤ q)
    (h5 : ∀ m ∈ s.msg,m.inc ≤ s.ag.inc) (h6 : s.ag.quar = true → s.ag.run = s.ag.sav) (h7 : ¬ s.vol = true → s.ag.run = s.ag.sav) : DevI q k t w a b s :=
  { cs:=h1,od:=h2,ki:=h3,sq:=h4,lv:=fun u=>absurd u hu,rn:=fun u=>absurd u hu,ms:=fun m hm=>⟨h5 m hm,fun _ _ u=>absurd u hu⟩,qr:=h6,p1:=fun _ u=>absurd u hu,p2:=fun u=>absurd u hu,p4:=fun _ u=>absurd u hu,nv:=h7,p3:=fun _ u=>absurd u hu }
theorem dev_save (h : DevJ q k t w a b s) (hu : s.ag.up = true) (hq : ¬ s.ag.quar = true) : DevI q k t w a b (saveT s):=by
  obtain ⟨r1,r2,r3,r4⟩:=h.rn hu hq;refine { cs:=h.cs,od:=h.od,ki:=h.ki,sq:=h.sq,lv:=h.lv,rn:=fun _ _=>⟨r1,r2,r3,fun e=>⟨(r4 e).1,(r4 e).1⟩⟩,ms:=fun m hm=>?_,qr:=fun _=>rfl,p1:=h.p1,p2:=fun _ e=>?_,p4:=h.p4,nv:=fun _=>rfl,p3:=fun _ _ _ _ e=>.inr (.inr ⟨⟨false,s.ag.inc,s.ag.seq⟩,List.mem_append_right _ List.mem_cons_self,Bool.false_ne_true,r1.symm,e⟩) }
  · rcases List.mem_append.1 (show m ∈ s.msg ++ [_] from hm) with e | e
    · refine ⟨(h.ms m e).1,fun e1 e2 e3=>?_⟩;obtain ⟨g1,g2,_⟩:=(h.ms m e).2 e1 e2 e3;exact ⟨g1,g2,fun e4=>r3 (by have:=h.sq.2;show s.ag.seq = q;have g2 : m.seq ≤ s.ag.seq:=g2;omega)⟩
    · obtain rfl:=List.mem_singleton.1 e;exact ⟨Int.le_refl _,fun _ _ _=>⟨hq,Int.le_refl _,fun e4=>r3 e4⟩⟩
  · exact absurd e (by rw [r1];exact Int.lt_irrefl _)
theorem mem_drop1 {α : Type} {l : List α} {x d : α} (h : x ∈ l) (hn : x ≠ l.getD 0 d) : x ∈ l.drop 1:=by
  cases l with
  | nil=>cases h
  | cons y t=>exact (List.mem_cons.1 h).elim (fun e=>absurd e hn) id
theorem head_mem {α : Type} {l : List α} {d : α} (h : 0 < l.length) : l.getD 0 d ∈ l:=getD_mem h
theorem head_le {l : List Cmd} {d x : Cmd} (h : l.Pairwise fun x y=>x.seq ≤ y.seq) (hx : x ∈ l.drop 1) : (l.getD 0 d).seq ≤ x.seq:=by
  cases l with
  | nil=>cases hx
  | cons y t=>exact (List.pairwise_cons.1 h).1 x hx
theorem dev_hello (h : DevI q k t w a b s) : DevI q k t w a b (helloT s) :=
  { cs := h.cs, od := h.od, ki := h.ki, sq := h.sq, lv := h.lv, rn := h.rn, qr := h.qr, p1 := h.p1, p4 := h.p4, nv := h.nv
    ms:=fun m hm=>by
      rcases List.mem_append.1 (show m ∈ s.msg ++ [_] from hm) with e | e
      · exact h.ms m e
      · obtain rfl:=List.mem_singleton.1 e;exact ⟨Int.le_refl _,fun e=>absurd rfl e⟩
    p2:=fun _ _=>⟨⟨true,s.ag.inc,0⟩,List.mem_append_right _ List.mem_cons_self,rfl,rfl⟩
    p3:=fun e1 e2 e3 e4 e5=>(h.p3 e1 e2 e3 e4 e5).imp id fun g=>g.imp id fun ⟨m,g1,g2⟩=>⟨m,List.mem_append_left _ g1,g2⟩ }
theorem dev_stale (h : DevI q k t w a b s) (hn : (headT s).inc ≠ s.ag.inc) : DevI q k t w a b {s with cmd:=s.cmd.drop 1} :=
  have sub : ∀ x ∈ s.cmd.drop 1,x ∈ s.cmd:=fun x hx=>List.mem_of_mem_drop hx;have key : k = s.ag.inc → (∃ x ∈ s.cmd,x.inc = k ∧ x.seq = q) → ∃ x ∈ s.cmd.drop 1,x.inc = k ∧ x.seq = q:=fun e ⟨x,g1,g2,g3⟩ =>
    ⟨x,mem_drop1 (d:=cmdE.dflt) g1 (fun e2=>hn (by rw [show headT s = x from e2.symm,g2,e])),g2,g3⟩
  { cs := fun x hx => h.cs x (sub x hx), od := h.od.sublist (List.drop_sublist 1 _), ki := h.ki, sq := h.sq, lv := fun u x hx => h.lv u x (sub x hx), rn := h.rn, ms := h.ms, qr := h.qr, p2 := h.p2, p4 := h.p4, nv := h.nv
    p1:=fun e1 e2 e3=>(h.p1 e1 e2 e3).imp (key e3) id
    p3:=fun e1 e2 e3 e4 e5=>(h.p3 e1 e2 e3 e4 e5).imp (key e3) id }
theorem dev_live (h : DevI q k t w a b s) (hl : 0 < s.cmd.length) (hu : s.ag.up = true) (hn : (headT s).inc = s.ag.inc) :
    DevJ q k t w a b {s with cmd:=s.cmd.drop 1,ag:={s.ag with run:=(headT s).ver,seq:=(headT s).seq,quar:=false}}:=by
  have sub : ∀ x ∈ s.cmd.drop 1,x ∈ s.cmd:=fun x hx=>List.mem_of_mem_drop hx;have hm : headT s ∈ s.cmd:=head_mem hl;obtain ⟨c1,c2,c3,c4⟩:=h.cs _ hm;obtain ⟨l1,l2,l3⟩:=h.lv hu _ hm hn;have hk : k = s.ag.inc:=by have:=h.ki;omega
  exact
  { cs := fun x hx => h.cs x (sub x hx), od := h.od.sublist (List.drop_sublist 1 _), ki := h.ki, sq := ⟨c2, c3⟩
    lv:=fun u x hx e=>⟨head_le h.od hx,(h.lv hu x (sub x hx) e).2⟩
    rn:=fun _ _=>⟨hk,l2,c4,fun e=>⟨l3 e,((h.rn hu (h.p4 e hu hk)).2.2.2 e).2⟩⟩
    ms:=fun m g=>⟨(h.ms m g).1,fun e1 e2 _=>⟨Bool.false_ne_true,Int.le_trans ((h.ms m g).2 e1 e2 hu).2.1 l1,((h.ms m g).2 e1 e2 hu).2.2⟩⟩
    qr:=fun e=>absurd e Bool.false_ne_true
    p1:=fun e1 e2 e3=>by
      rcases h.p1 e1 hu hk with ⟨x,g1,g2,g3⟩ | ⟨_,g⟩
      · by_cases e : x = headT s
        · exact .inr ⟨Bool.false_ne_true,e ▸ g3⟩
        · exact .inl ⟨x,mem_drop1 (d:=cmdE.dflt) g1 e,g2,g3⟩
      · exact .inr ⟨Bool.false_ne_true,by show (headT s).seq = q;omega⟩
    p2:=fun _ e=>absurd e (by show ¬ k < s.ag.inc;omega)
    p4:=fun _ _ _=>Bool.false_ne_true }
theorem dev_deliver (h : DevI q k t w a b s) (hl : 0 < s.cmd.length) : DevI q k t w a b (deliverT s):=by
  unfold deliverT
  split
  · rename_i hu;exact dev_down hu (fun x hx=>h.cs x (List.mem_of_mem_drop hx)) (h.od.sublist (List.drop_sublist 1 _)) h.ki h.sq (fun m hm=>(h.ms m hm).1) h.qr h.nv
  · rename_i hu;have hu : s.ag.up = true := Classical.not_not.1 hu
    split
    · rename_i hn;exact dev_hello (dev_stale h hn)
    · rename_i hn;have hJ := dev_live h hl hu (Classical.not_not.1 hn)
      split
      · exact dev_save hJ hu Bool.false_ne_true
      · rename_i hv;have hv1 : s.vol = true:=Classical.byContradiction fun e=>hv (.inl e);exact { hJ with nv:=fun e=>absurd hv1 e,p3:=fun _ _ _ _ _=>.inr (.inl fun e=>hv (.inr (show s.ag.sav = (headT s).ver from e.symm))) }
theorem dev_downT (h : DevI q k t w a b s) : DevI q k t w a b (downT s) :=
  dev_down (by show ¬ false = true;exact Bool.false_ne_true) (fun x hx=>by cases hx) .nil h.ki h.sq (fun m hm=>(h.ms m hm).1) h.qr h.nv
theorem dev_up (h : DevI q k t w a b s) : DevI q k t w a b (upT s):=by
  have hk:=h.ki;have h0:=h.sq;refine
  { cs := h.cs, od := h.od, ki := by show k ≤ s.ag.inc + 1; omega, sq := ⟨Int.le_refl _, by show 0 ≤ q; omega⟩
    lv:=fun _ x hx e=>absurd (h.cs x hx).1 (by have e : x.inc = s.ag.inc + 1:=e;omega)
    rn:=fun _ e=>absurd rfl e,qr:=fun _=>rfl,nv:=fun _=>rfl
    ms:=fun m hm=>?_
    p1:=fun _ _ e=>absurd e (by show ¬ k = s.ag.inc + 1;omega)
    p2:=fun _ _=>⟨⟨true,s.ag.inc + 1,0⟩,List.mem_append_right _ List.mem_cons_self,rfl,rfl⟩
    p4:=fun _ _ e=>absurd e (by show ¬ k = s.ag.inc + 1;omega)
    p3:=fun _ _ e=>absurd e (by show ¬ k = s.ag.inc + 1;omega) }
  rcases List.mem_append.1 (show m ∈ s.msg ++ [_] from hm) with e | e
  · have g:=(h.ms m e).1;exact ⟨by show m.inc ≤ s.ag.inc + 1;omega,fun _ e2=>absurd e2 (by show ¬ m.inc = s.ag.inc + 1;omega)⟩
  · obtain rfl:=List.mem_singleton.1 e;exact ⟨Int.le_refl _,fun e=>absurd rfl e⟩
theorem dev_old (h : DevI q k t w a b s) {m : Msg} (hm : m = s.msg.getD 0 msgE.dflt) (h1 : m.hello = true → m.inc ≤ k) (h2 : ¬ m.hello = true → ¬ (m.inc = k ∧ m.seq = q)) : DevI q k t w a b {s with msg:=s.msg.drop 1} :=
  have sub : ∀ x ∈ s.msg.drop 1,x ∈ s.msg:=fun x hx=>List.mem_of_mem_drop hx
  { cs := h.cs, od := h.od, ki := h.ki, sq := h.sq, lv := h.lv, rn := h.rn, ms := fun m g => h.ms m (sub m g), qr := h.qr, p1 := h.p1, p4 := h.p4, nv := h.nv
    p2:=fun e1 e2=>by
      have e2 : k < s.ag.inc:=e2;obtain ⟨x,g1,g2,g3⟩:=h.p2 e1 e2;exact ⟨x,mem_drop1 (d:=msgE.dflt) g1 (fun e=>by rw [← hm] at e;subst e;have:=h1 g2;omega),g2,g3⟩
    p3:=fun e1 e2 e3 e4 e5=>(h.p3 e1 e2 e3 e4 e5).imp id fun g=>g.imp id fun ⟨x,g1,g2,g3⟩=>⟨x,mem_drop1 (d:=msgE.dflt) g1 (fun e=>by rw [← hm] at e;subst e;exact h2 g2 g3),g2,g3⟩ }
theorem dev_ack (h : DevI q k t w a b s) {m : Msg} (hm : m = s.msg.getD 0 msgE.dflt) (hl : 0 < s.msg.length) (h1 : ¬ m.hello = true) (h2 : m.inc = k) (h3 : m.seq = q) : DevI q k t False a b {s with msg:=s.msg.drop 1}:=by
  have sub : ∀ x ∈ s.msg.drop 1,x ∈ s.msg:=fun x hx=>List.mem_of_mem_drop hx;have hmm : m ∈ s.msg:=hm ▸ head_mem hl;obtain ⟨g0,gM⟩:=h.ms m hmm;have hs:=h.sq.2;have hA : s.ag.up = true → k = s.ag.inc → ¬ s.ag.quar = true ∧ s.ag.seq = q ∧ s.ag.sav = t:=fun u e=>by
    obtain ⟨g1,g2,g3⟩:=gM h1 (h2.trans e) u;exact ⟨g1,by omega,g3 h3⟩
  exact
  { cs := h.cs, od := h.od, ki := h.ki, sq := h.sq
    lv:=fun u x hx e=>by
      have e : x.inc = s.ag.inc:=e;have hx : x ∈ s.cmd:=hx;obtain ⟨l1,l2,_⟩:=h.lv u x hx e;obtain ⟨c1,c2,c3,c4⟩:=h.cs x hx;have hk : k = s.ag.inc:=by have:=h.ki;omega
      exact ⟨l1,l2,fun _=>c4 (by have:=(hA u hk).2.1;omega)⟩
    rn:=fun u e=>by
      obtain ⟨r1,r2,r3,r4⟩:=h.rn u e;obtain ⟨_,a2,a3⟩:=hA u r1;exact ⟨r1,r2,r3,fun _=>⟨r3 a2,a3⟩⟩
    ms:=fun m g=>h.ms m (sub m g),qr:=h.qr,nv:=h.nv
    p1:=fun e=>e.elim,p3:=fun e=>e.elim
    p2:=fun e1 e2=>by
      obtain ⟨x,g1,g2,g3⟩:=h.p2 e1 e2;exact ⟨x,mem_drop1 (d:=msgE.dflt) g1 (fun e=>by rw [← hm] at e;subst e;exact h1 g2),g2,g3⟩
    p4:=fun _ u e=>(hA u e).1 }
theorem dev_skip (h : DevI q k t w a b s) (hu : ¬ s.ag.up = true) : DevI q k t False a b s:=dev_down hu h.cs h.od h.ki h.sq (fun m hm=>(h.ms m hm).1) h.qr h.nv
theorem dev_known (h : DevI q k t w a b s) (ht : t = a ∨ t = b) {m : Msg} (hm : m = s.msg.getD 0 msgE.dflt) (hl : 0 < s.msg.length) (h1 : k < m.inc) {w' : Prop} (hw : w') :
    DevI q m.inc t w' a b (putT {s with msg:=s.msg.drop 1} ⟨m.inc,q,t⟩):=by
  have sub : ∀ x ∈ s.msg.drop 1,x ∈ s.msg:=fun x hx=>List.mem_of_mem_drop hx;have hmm : m ∈ s.msg:=hm ▸ head_mem hl;have g0:=(h.ms m hmm).1;have hnew : ∀ {p : Cmd → Prop},(∀ x ∈ s.cmd,p x) → p ⟨m.inc,q,t⟩ → ∀ x ∈ s.cmd ++ [⟨m.inc,q,t⟩],p x:=fun g1 g2 x hx=>(List.mem_append.1 hx).elim (g1 x) fun e=>(List.mem_singleton.1 e) ▸ g2;exact
  { cs := hnew (p := fun x => x.inc ≤ m.inc ∧ 0 ≤ x.seq ∧ x.seq ≤ q ∧ (x.seq = q → x.ver = t)) (fun x hx => by obtain ⟨c1, c2⟩ := h.cs x hx; exact ⟨by omega, c2⟩) ⟨Int.le_refl _, by have := h.sq; show 0 ≤ q; omega, Int.le_refl _, fun _ => rfl⟩
    od:=List.pairwise_append.2 ⟨h.od,List.pairwise_singleton _ _,fun x hx y hy=>by obtain rfl:=List.mem_singleton.1 hy;exact (h.cs x hx).2.2.1⟩
    ki:=g0,sq:=h.sq
    lv:=fun u=>hnew (p:=fun x=>x.inc = s.ag.inc → s.ag.seq ≤ x.seq ∧ (x.ver = a ∨ x.ver = b) ∧ (¬ w' → x.ver = t)) (fun x hx e=>absurd (h.cs x hx).1 (by omega)) fun _=>⟨h.sq.2,ht,fun e=>absurd hw e⟩
    rn:=fun u e=>absurd (h.rn u e).1 (by show ¬ k = s.ag.inc;omega)
    ms:=fun m g=>h.ms m (sub m g),qr:=h.qr,nv:=h.nv
    p1:=fun _ _ _=>.inl ⟨⟨m.inc,q,t⟩,List.mem_append_right _ List.mem_cons_self,rfl,rfl⟩
    p3:=fun _ _ _ _ _=>.inl ⟨⟨m.inc,q,t⟩,List.mem_append_right _ List.mem_cons_self,rfl,rfl⟩
    p2:=fun e1 e2=>by
      have e2 : m.inc < s.ag.inc:=e2;obtain ⟨x,g1,g2,g3⟩:=h.p2 e1 (by show k < s.ag.inc;omega);exact ⟨x,mem_drop1 (d:=msgE.dflt) g1 (fun e=>by rw [← hm] at e;subst e;omega),g2,g3⟩
    p4:=fun e=>absurd hw e }
theorem dev_put (h : DevI q k t w a b s) (ht : t = a ∨ t = b) (hw : w) : DevI q k t w a b (putT s ⟨k,q,t⟩) :=
  have hnew : ∀ {p : Cmd → Prop},(∀ x ∈ s.cmd,p x) → p ⟨k,q,t⟩ → ∀ x ∈ s.cmd ++ [⟨k,q,t⟩],p x:=fun g1 g2 x hx=>(List.mem_append.1 hx).elim (g1 x) fun e=>(List.mem_singleton.1 e) ▸ g2
  { cs := hnew (p := fun x => x.inc ≤ k ∧ 0 ≤ x.seq ∧ x.seq ≤ q ∧ (x.seq = q → x.ver = t)) h.cs ⟨Int.le_refl _, by have := h.sq; show 0 ≤ q; omega, Int.le_refl _, fun _ => rfl⟩
    od:=List.pairwise_append.2 ⟨h.od,List.pairwise_singleton _ _,fun x hx y hy=>by obtain rfl:=List.mem_singleton.1 hy;exact (h.cs x hx).2.2.1⟩
    ki:=h.ki,sq:=h.sq
    lv:=fun u=>hnew (p:=fun x=>x.inc = s.ag.inc → s.ag.seq ≤ x.seq ∧ (x.ver = a ∨ x.ver = b) ∧ (¬ w → x.ver = t)) (h.lv u) fun _=>⟨h.sq.2,ht,fun e=>absurd hw e⟩
    rn:=h.rn,ms:=h.ms,qr:=h.qr,nv:=h.nv
    p1:=fun _ _ _=>.inl ⟨⟨k,q,t⟩,List.mem_append_right _ List.mem_cons_self,rfl,rfl⟩
    p3:=fun _ _ _ _ _=>.inl ⟨⟨k,q,t⟩,List.mem_append_right _ List.mem_cons_self,rfl,rfl⟩
    p2:=h.p2,p4:=h.p4 }
theorem dev_move {a' b' : Int} (h : DevI q k t w a b s) (hw : ¬ w) (ht : t = a' ∨ t = b') : DevI q k t w a' b' s :=
  { cs := h.cs, od := h.od, ki := h.ki, sq := h.sq
    lv:=fun u x hx e=>⟨(h.lv u x hx e).1,by rw [(h.lv u x hx e).2.2 hw];exact ht,(h.lv u x hx e).2.2⟩
    rn:=fun u e=>⟨(h.rn u e).1,by rw [((h.rn u e).2.2.2 hw).1];exact ht,(h.rn u e).2.2⟩
    ms:=h.ms,qr:=h.qr,nv:=h.nv,p1:=h.p1,p2:=h.p2,p3:=h.p3,p4:=h.p4 }
theorem DevI.iff {w' : Prop} (h : DevI q k t w a b s) (e : w ↔ w') : DevI q k t w' a b s:=by rw [← propext e];exact h
theorem dev_start0 (h : DevI q k t w a b s) {w' : Prop} (hw : ¬ w) (hw' : ¬ w') : DevI (q + 1) k t w' a b s :=
  { cs := fun x hx => by obtain ⟨c1, c2, c3, c4⟩ := h.cs x hx; exact ⟨c1, c2, by omega, fun e => by omega⟩
    od:=h.od,ki:=h.ki,sq:=⟨h.sq.1,by have:=h.sq.2;omega⟩
    lv:=fun u x hx e=>⟨(h.lv u x hx e).1,(h.lv u x hx e).2.1,fun _=>(h.lv u x hx e).2.2 hw⟩
    rn:=fun u e=>⟨(h.rn u e).1,(h.rn u e).2.1,fun e=>by have:=h.sq.2;omega,fun _=>(h.rn u e).2.2.2 hw⟩
    ms:=fun m hm=>⟨(h.ms m hm).1,fun e1 e2 e3=>by obtain ⟨g1,g2,g3⟩:=(h.ms m hm).2 e1 e2 e3;exact ⟨g1,g2,fun e=>by have:=h.sq.2;omega⟩⟩
    qr:=h.qr,nv:=h.nv,p1:=fun e=>absurd e hw',p2:=h.p2,p3:=fun e=>absurd e hw',p4:=fun _=>h.p4 hw }
theorem dev_start1 (h : DevI q k t w a b s) {w' : Prop} {t' : Int} (hw : w') (ht : t' = a ∨ t' = b) : DevI (q + 1) k t' w' a b (putT s ⟨k,q + 1,t'⟩) :=
  have hnew : ∀ {p : Cmd → Prop},(∀ x ∈ s.cmd,p x) → p ⟨k,q + 1,t'⟩ → ∀ x ∈ s.cmd ++ [⟨k,q + 1,t'⟩],p x:=fun g1 g2 x hx=>(List.mem_append.1 hx).elim (g1 x) fun e=>(List.mem_singleton.1 e) ▸ g2;have hq:=h.sq
  { cs := hnew (p := fun x => x.inc ≤ k ∧ 0 ≤ x.seq ∧ x.seq ≤ q + 1 ∧ (x.seq = q + 1 → x.ver = t')) (fun x hx => by obtain ⟨c1, c2, c3, c4⟩ := h.cs x hx; exact ⟨c1, c2, by omega, fun e => by omega⟩) ⟨Int.le_refl _, by show 0 ≤ q + 1; omega, Int.le_refl _, fun _ => rfl⟩
    od:=List.pairwise_append.2 ⟨h.od,List.pairwise_singleton _ _,fun x hx y hy=>by obtain rfl:=List.mem_singleton.1 hy;have:=(h.cs x hx).2.2.1;show x.seq ≤ q + 1;omega⟩
    ki:=h.ki,sq:=⟨h.sq.1,by show s.ag.seq ≤ q + 1;omega⟩
    lv:=fun u=>hnew (p:=fun x=>x.inc = s.ag.inc → s.ag.seq ≤ x.seq ∧ (x.ver = a ∨ x.ver = b) ∧ (¬ w' → x.ver = t')) (fun x hx e=>⟨(h.lv u x hx e).1,(h.lv u x hx e).2.1,fun e=>absurd hw e⟩) fun _=>⟨by show s.ag.seq ≤ q + 1;omega,ht,fun e=>absurd hw e⟩
    rn:=fun u e=>⟨(h.rn u e).1,(h.rn u e).2.1,fun e=>by have e : s.ag.seq = q + 1:=e;omega,fun e=>absurd hw e⟩
    ms:=fun m hm=>⟨(h.ms m hm).1,fun e1 e2 e3=>by obtain ⟨g1,g2,g3⟩:=(h.ms m hm).2 e1 e2 e3;exact ⟨g1,g2,fun e=>by have g2 : m.seq ≤ s.ag.seq:=g2;omega⟩⟩
    qr:=h.qr,nv:=h.nv
    p1:=fun _ _ _=>.inl ⟨⟨k,q + 1,t'⟩,List.mem_append_right _ List.mem_cons_self,rfl,rfl⟩
    p3:=fun _ _ _ _ _=>.inl ⟨⟨k,q + 1,t'⟩,List.mem_append_right _ List.mem_cons_self,rfl,rfl⟩
    p2:=h.p2,p4:=fun e=>absurd hw e }
end
structure PlanS (R : List (List Chg)) (S : List (List Int)) : Prop where
  ne : ∀ l ∈ R,0 < l.length
  z : ∀ d : Nat,(S.getD 0 []).getD d 0 = 0
  st : ∀ k,k < R.length → ∀ d : Nat,(∀ x ∈ R.getD k [],x.dev.toNat = d → (S.getD (k + 1) []).getD d 0 = x.ver) ∧ ((∀ x ∈ R.getD k [],x.dev.toNat ≠ d) → (S.getD (k + 1) []).getD d 0 = (S.getD k []).getD d 0)
theorem rndP_at {st : Bool} {n : Nat} : ∀ (l : List Chg) {last : Int} {now y : List Int}, -1 ≤ last → now.length = n → rndP st n last now l = some y → ∀ d : Nat, (∀ x ∈ l, x.dev.toNat = d → y.getD d 0 = x.ver) ∧ ((∀ x ∈ l, x.dev.toNat ≠ d) → y.getD d 0 = now.getD d 0)
  | [],_,now,y,_,_,h,d=>by
    rw [rndP] at h;cases h;exact ⟨fun x hx=>by simp at hx,fun _=>rfl⟩
  | c :: r,last,now,y,h0,hn,h,d=>by
    rw [rndP] at h
    split at h
    · cases h
    · rename_i hc;obtain ⟨h1, h2⟩ := rndP_dev r (by omega) h;obtain ⟨k1, k2⟩ := rndP_at r (by omega) ((List.length_set ..).trans hn) h d;refine ⟨fun x hx e => ?_, fun q => ?_⟩
      · rcases List.mem_cons.1 hx with rfl | hx
        · rw [k2 fun z hz e2=>by have:=(h2 z hz).1;omega,← e,getD_setE (by omega)]
        · exact k1 x hx e
      · rw [k2 fun z hz=>q z (List.mem_cons_of_mem _ hz),getD_setN (q c List.mem_cons_self)]
theorem stsA_at {st : Bool} {n : Int} : ∀ (R : List (List Chg)) {acc S : List (List Int)} {now : List Int}, 0 < acc.length → acc.getD (acc.length - 1) [] = now → stsA st n acc now R = some S →
    (∀ i,i < acc.length → S.getD i [] = acc.getD i []) ∧ ∀ k,k < R.length → rndP st n (-1) (S.getD (acc.length - 1 + k) []) (R.getD k []) = some (S.getD (acc.length + k) [])
  | [],acc,S,now,_,_,h=>by
    rw [stsA] at h;cases h;exact ⟨fun _ _=>rfl,fun k hk=>by simp at hk⟩
  | r :: rs,acc,S,now,h0,hl,h=>by
    rw [stsA] at h
    split at h
    · cases h
    · split at h
      · cases h
      · rename_i y hy;have ha : (acc ++ [y]).length = acc.length + 1 := by rw [List.length_append, List.length_singleton]
        have hat : ∀ i,i < acc.length → (acc ++ [y]).getD i [] = acc.getD i []:=fun i hi=>by rw [List.getD_eq_getElem?_getD,List.getD_eq_getElem?_getD,List.getElem?_append_left hi]
        have hay : (acc ++ [y]).getD acc.length [] = y:=by rw [List.getD_eq_getElem?_getD,List.getElem?_append_right (Nat.le_refl _)];simp
        obtain ⟨g1,g2⟩:=stsA_at rs (acc:=acc ++ [y]) (by omega) (by rw [ha];exact hay) h;refine ⟨fun i hi=>(g1 i (by omega)).trans (hat i hi),fun k hk=>?_⟩
        cases k with
        | zero =>
          have e1 : S.getD (acc.length - 1) [] = now:=(g1 _ (by omega)).trans ((hat _ (by omega)).trans hl);have e2 : S.getD acc.length [] = y:=(g1 _ (by omega)).trans hay;show rndP st n (-1) (S.getD (acc.length - 1) []) r = some (S.getD acc.length []);rw [e1,e2];exact hy
        | succ k =>
          have:=g2 k (by simpa using hk);rw [ha] at this;rw [show acc.length - 1 + (k + 1) = acc.length + 1 - 1 + k from by omega,show acc.length + (k + 1) = acc.length + 1 + k from by omega];exact this
theorem planS_of {st : Bool} {R : List (List Chg)} {n : Nat} {S : List (List Int)} (h : statesP st R n = some S) (hR : R.length ≤ 16) : PlanS R S:=by
  obtain ⟨hn,hP,hne⟩:=statesP_ok h hR;have hP : PlanOK n R S:=hP;unfold statesP at h;rw [if_neg (by omega)] at h;obtain ⟨g1,g2⟩:=stsA_at R (acc:=[zerosP n]) (by simp) rfl h;refine ⟨hne,fun d=>?_,fun k hk d=>?_⟩
  · rw [g1 0 (by simp)];show (zerosP n).getD d 0 = 0;unfold zerosP;rw [List.getD_eq_getElem?_getD, List.getElem?_replicate]
    split <;> rfl
  · have:=g2 k hk;rw [show [zerosP (n : Int)].length - 1 + k = k from by simp,show [zerosP (n : Int)].length + k = k + 1 from by simp;omega] at this;exact rndP_at _ (by omega) (st_of hP (by omega)) this d
theorem mem_insW2 : ∀ {l : List Int} {v x : Int}, x ∈ insW l v ↔ x = v ∨ x ∈ l
  | [],v,x=>by simp [insW]
  | y :: t,v,x=>by
    rw [insW]
    split
    · rw [List.mem_cons, mem_insW2, List.mem_cons]
      constructor
      · rintro (h | h | h)
        · exact .inr (.inl h)
        · exact .inl h
        · exact .inr (.inr h)
      · rintro (h | h | h)
        · exact .inr (.inl h)
        · exact .inl h
        · exact .inr (.inr h)
    · split
      · rename_i e;subst e;rw [List.mem_cons];exact ⟨fun h=>.inr h,fun h=>h.elim .inl id⟩
      · rw [List.mem_cons]
theorem fold_wt (st : List Int) : ∀ (l : List Chg) (c : Ctl) (d : Int), d ∈ (l.foldl (chgC st) c).waiting ↔ d ∈ c.waiting ∨ ∃ x ∈ l, x.dev = d
  | [],c,d=>by simp
  | y :: t,c,d=>by
    show d ∈ (t.foldl (chgC st) (chgC st c y)).waiting ↔ _;rw [fold_wt st t,show (chgC st c y).waiting = insW c.waiting y.dev from rfl,mem_insW2]
    constructor
    · rintro ((h | h) | ⟨x, hx, h⟩)
      · exact .inr ⟨y,List.mem_cons_self,h.symm⟩
      · exact .inl h
      · exact .inr ⟨x,List.mem_cons_of_mem _ hx,h⟩
    · rintro (h | ⟨x, hx, h⟩)
      · exact .inl (.inr h)
      · rcases List.mem_cons.1 hx with rfl | hx
        · exact .inl (.inl h.symm)
        · exact .inr ⟨x,hx,h⟩
theorem fold_tg (st : List Int) (d : Nat) (v : Int) : ∀ (l : List Chg) (c : Ctl), d < c.target.length → (∀ x ∈ l, x.dev.toNat = d → (if c.back = true then st.getD d 0 else x.ver) = v) →
    ((∃ x ∈ l,x.dev.toNat = d) → (l.foldl (chgC st) c).target.getD d 0 = v) ∧ (¬ (∃ x ∈ l,x.dev.toNat = d) → (l.foldl (chgC st) c).target.getD d 0 = c.target.getD d 0)
  | [],c,_,_=>⟨fun ⟨x,hx,_⟩=>by simp at hx,fun _=>rfl⟩
  | y :: t,c,hd,hv=>by
    have hl : (chgC st c y).target.length = c.target.length:=List.length_set ..;obtain ⟨g1,g2⟩:=fold_tg st d v t (chgC st c y) (by omega) fun x hx e=>hv x (List.mem_cons_of_mem _ hx) e;show (_ → (t.foldl (chgC st) (chgC st c y)).target.getD d 0 = v) ∧ (_ → (t.foldl (chgC st) (chgC st c y)).target.getD d 0 = _);refine ⟨fun ⟨x,hx,e⟩=>?_,fun q=>?_⟩
    · by_cases ht : ∃ x ∈ t, x.dev.toNat = d
      · exact g1 ht
      · rw [g2 ht]
        rcases List.mem_cons.1 hx with rfl | hx
        · have:=hv x List.mem_cons_self e;show (c.target.set x.dev.toNat (if c.back = true then st.getD x.dev.toNat 0 else x.ver)).getD d 0 = v;subst e;rw [getD_setE hd];exact this
        · exact absurd ⟨x,hx,e⟩ ht
    · rw [g2 fun ⟨x,hx,e⟩=>q ⟨x,List.mem_cons_of_mem _ hx,e⟩];exact getD_setN fun e=>q ⟨y,List.mem_cons_self,e⟩
theorem fold_ne (st : List Int) {l : List Chg} (c : Ctl) (h : 0 < l.length) : 0 < (l.foldl (chgC st) c).waiting.length:=by
  cases l with
  | nil=>simp at h
  | cons y t=>exact List.length_pos_of_mem ((fold_wt st (y :: t) c y.dev).2 (.inr ⟨y,List.mem_cons_self,rfl⟩))
def loV (S : List (List Int)) (c : Ctl) : List Int:=S.getD c.round.toNat []
def hiV (R : List (List Chg)) (S : List (List Int)) (c : Ctl) : List Int:=if c.round < 0 then loV S c else S.getD (min (c.round.toNat + 1) R.length) []
def tgV (R : List (List Chg)) (S : List (List Int)) (c : Ctl) : List Int:=if c.back = true then loV S c else hiV R S c
section
variable {n : Nat} {R : List (List Chg)} {S : List (List Int)} {c : Ctl} {st : List PS}
theorem tg_or (d : Nat) : (tgV R S c).getD d 0 = (loV S c).getD d 0 ∨ (tgV R S c).getD d 0 = (hiV R S c).getD d 0:=by
  unfold tgV
  split
  · exact .inl rfl
  · exact .inr rfl
theorem hi_at (h0 : 0 ≤ c.round) (h1 : c.round < R.length) : hiV R S c = S.getD (c.round.toNat + 1) []:=by
  unfold hiV;rw [if_neg (by omega),Nat.min_eq_left (by omega)]
theorem hi_end (h1 : c.round = R.length) : hiV R S c = S.getD R.length []:=by
  unfold hiV;rw [if_neg (by omega),Nat.min_eq_right (by omega)]
def inR (R : List (List Chg)) (c : Ctl) (d : Nat) : Prop:=∃ x ∈ R.getD c.round.toNat [],x.dev.toNat = d
theorem lohi (Q : PlanS R S) (h0 : 0 ≤ c.round) (h1 : c.round < R.length) {d : Nat} (h : ¬ inR R c d) : (hiV R S c).getD d 0 = (loV S c).getD d 0:=by
  rw [hi_at h0 h1];exact (Q.st _ (by omega) d).2 fun x hx e=>h ⟨x,hx,e⟩
structure StF (n : Nat) (R : List (List Chg)) (S : List (List Int)) (c c1 : Ctl) : Prop where
  rd : c1.round = c.round
  bk : c1.back = c.back
  sq : c1.seq = c.seq + 1
  kn : c1.known = c.known
  sn : c1.sent = c.sent ++ c1.waiting
  ne : 0 < c1.waiting.length
  wt : ∀ d : Nat,(d : Int) ∈ c1.waiting ↔ (d : Int) ∈ c.waiting ∨ inR R c d
  tg : ∀ d : Nat,d < n → (inR R c d → c1.target.getD d 0 = (tgV R S c).getD d 0) ∧ (¬ inR R c d → c1.target.getD d 0 = c.target.getD d 0)
theorem start_at (P : PlanOK n R S) (Q : PlanS R S) (h : CtlOK n R.length c) (h0 : 0 ≤ c.round) (h1 : c.round < R.length) : StF n R S c (startC R S c):=by
  unfold startC;rw [if_neg (by omega)];have hx:=rd_of P (k:=c.round.toNat) (by omega);have hQ : ChgK n {c with seq:=c.seq + 1} ((R.getD c.round.toNat []).foldl (chgC (S.getD c.round.toNat [])) {c with seq:=c.seq + 1}):=foldl_chgK _ (ChgK.refl h.wt) hx.2;have hw:=fold_wt (S.getD c.round.toNat []) (R.getD c.round.toNat []) {c with seq:=c.seq + 1};have ht:=fun d v=>fold_tg (S.getD c.round.toNat []) d v (R.getD c.round.toNat []) {c with seq:=c.seq + 1};have hn:=fold_ne (S.getD c.round.toNat []) {c with seq:=c.seq + 1} (Q.ne _ (getD_mem (xs:=R) (i:=c.round.toNat) (d:=[]) (by omega)))
  revert hQ hw ht hn
  generalize (R.getD c.round.toNat []).foldl (chgC (S.getD c.round.toNat [])) {c with seq:=c.seq + 1} = c1
  intro hQ hw ht hn;refine ⟨hQ.rd,hQ.bk,hQ.sq,hQ.kn,?_,hn,fun d=>?_,fun d hd=>?_⟩
  · show c1.sent ++ c1.waiting = c.sent ++ c1.waiting;rw [show c1.sent = c.sent from hQ.sn]
  · refine (hw d).trans (or_congr Iff.rfl ⟨fun ⟨x,g1,g2⟩=>⟨x,g1,by omega⟩,fun ⟨x,g1,g2⟩=>⟨x,g1,by have:=(hx.2 x g1).1;omega⟩⟩)
  · refine ht d _ (by show d < c.target.length; rw [h.tg]; exact hd) fun x g1 g2 => ?_;show (if c.back = true then _ else _) = _;unfold tgV
    split
    · rfl
    · rw [hi_at h0 h1];exact ((Q.st _ (by omega) d).1 x g1 g2).symm
structure Dv (n : Nat) (R : List (List Chg)) (S : List (List Int)) (c : Ctl) (st : List PS) : Prop where
  sl : st.length = n
  dv : ∀ d : Nat,d < n → DevI c.seq (c.known.getD d 0) (c.target.getD d 0) ((d : Int) ∈ c.waiting) ((loV S c).getD d 0) ((hiV R S c).getD d 0) (st.getD d psD)
structure InvA (n : Nat) (R : List (List Chg)) (S : List (List Int)) (c : Ctl) (st : List PS) : Prop extends Dv n R S c st where
  ct : CtlOK n R.length c
  tg : ∀ d : Nat,d < n → c.target.getD d 0 = (tgV R S c).getD d 0
  sn : c.sent = []
structure InvR (n : Nat) (R : List (List Chg)) (S : List (List Int)) (r : RunS) : Prop extends InvA n R S r.c r.st where
  fin : r.c.waiting.length = 0 → finC R.length r.c
theorem cmdS_at (c : Ctl) : ∀ (l : List Int) (st : List PS), l.Pairwise (· < ·) → (∀ x ∈ l, 0 ≤ x ∧ x < (st.length : Int)) → ∀ d : Nat, (cmdS c st l).getD d psD = if (d : Int) ∈ l then putT (st.getD d psD) (cmdC c d) else st.getD d psD
  | [],st,_,_,d=>by simp [cmdS]
  | x :: t,st,hp,hx,d=>by
    rw [List.pairwise_cons] at hp;show (cmdS c (st.set x.toNat (putT (st.getD x.toNat psD) (cmdC c x))) t).getD d psD = _;have hx0:=hx x List.mem_cons_self;rw [cmdS_at c t _ hp.2 (fun y hy=>by rw [List.length_set];exact hx y (List.mem_cons_of_mem _ hy)) d]
    by_cases e : (d : Int) = x
    · have hn : ¬ (d : Int) ∈ t := fun q => by have := hp.1 _ q; omega
      subst e;rw [if_neg hn,if_pos List.mem_cons_self,Int.toNat_natCast,getD_setE (by omega)]
    · rw [getD_setN (by omega)]
      by_cases ht : (d : Int) ∈ t
      · rw [if_pos ht,if_pos (List.mem_cons_of_mem _ ht)]
      · rw [if_neg ht,if_neg fun q=>(List.mem_cons.1 q).elim e ht]
theorem sendS_nil {r : RunS} (h : r.c.sent = []) : sendS r = r:=by
  unfold sendS;rw [h];show RunS.mk {r.c with sent:=[]} (cmdS r.c r.st []) = r
  cases r with | mk c st=>cases c;subst h;rfl
theorem inv_start (P : PlanOK n R S) (Q : PlanS R S) (h : CtlOK n R.length c) (hb : (c.back = false → c.seq ≤ c.round) ∧ (c.back = true → c.seq + c.round ≤ 2 * R.length + 1)) (hd : Dv n R S c st) (hs : c.sent = []) (ht : ∀ d : Nat, d < n → c.target.getD d 0 = (loV S c).getD d 0 ∨ c.target.getD d 0 = (hiV R S c).getD d 0)
    (h0 : 0 ≤ c.round) (h1 : c.round < R.length) : InvR n R S (sendS ⟨startC R S c,st⟩):=by
  have F:=start_at P Q h h0 h1;have hc:=(startC_ok P h fun _ _=>hb).1
  revert F hc
  generalize startC R S c = c1
  intro F hc;have hsn : c1.sent = c1.waiting:=by rw [F.sn,hs];rfl
  have hlo : loV S {c1 with sent:=[]} = loV S c:=by show S.getD c1.round.toNat [] = _;rw [F.rd];rfl
  have hhi : hiV R S {c1 with sent:=[]} = hiV R S c:=by unfold hiV;rw [hlo];show (if c1.round < 0 then _ else S.getD (min (c1.round.toNat + 1) R.length) []) = _;rw [F.rd]
  have htg : tgV R S {c1 with sent:=[]} = tgV R S c:=by unfold tgV;rw [hlo,hhi];show (if c1.back = true then _ else _) = _;rw [F.bk]
  have e : sendS ⟨c1,st⟩ = ⟨{c1 with sent:=[]},cmdS c1 st c1.waiting⟩:=by unfold sendS;show RunS.mk _ (cmdS c1 st c1.sent) = _;rw [hsn]
  rw [e];refine ⟨⟨⟨(cmdS_len ..).trans hd.sl,fun d hdn=>?_⟩,hc.sent [],fun d hdn=>?_,rfl⟩,fun q=>absurd q (by show ¬ c1.waiting.length = 0;have:=F.ne;omega)⟩
  · show DevI c1.seq (c1.known.getD d 0) (c1.target.getD d 0) ((d : Int) ∈ c1.waiting) _ _ ((cmdS c1 st c1.waiting).getD d psD);rw [hlo, hhi, cmdS_at c1 _ st hc.wt.1 (fun x hx => by rw [hd.sl]; exact hc.wt.2 x hx) d, F.sq, F.kn]
    by_cases hw : (d : Int) ∈ c1.waiting
    · rw [if_pos hw, show cmdC c1 d = ⟨c.known.getD d 0, c.seq + 1, c1.target.getD d 0⟩ from by unfold cmdC; rw [F.kn, F.sq]; rfl];refine dev_start1 (hd.dv d hdn) hw ?_
      by_cases q : inR R c d
      · rw [(F.tg d hdn).1 q];exact tg_or d
      · rw [(F.tg d hdn).2 q];exact ht d hdn
    · rw [if_neg hw];have hn:=fun q=>hw ((F.wt d).2 q);rw [(F.tg d hdn).2 fun q=>hn (.inr q)];exact dev_start0 (hd.dv d hdn) (fun q=>hn (.inl q)) hw
  · show c1.target.getD d 0 = _;rw [htg]
    by_cases q : inR R c d
    · exact (F.tg d hdn).1 q
    · rw [(F.tg d hdn).2 q];have e:=lohi (S:=S) Q h0 h1 q;have e2 : (tgV R S c).getD d 0 = (loV S c).getD d 0:=(tg_or d).elim id fun g=>g.trans e;rw [e2];exact (ht d hdn).elim id fun g=>g.trans e
theorem adv_stop {f : Nat} (h : 0 < c.waiting.length) : advC R S f c = c:=by
  cases f with
  | zero=>rfl
  | succ f=>rw [advC,if_pos h]
theorem start_no (h : c.round < 0 ∨ (R.length : Int) ≤ c.round) : startC R S c = c:=by unfold startC;rw [if_pos h]
theorem inv_adv (P : PlanOK n R S) (Q : PlanS R S) (h : InvA n R S c st) : InvR n R S (sendS ⟨advA R S c,st⟩):=by
  have hct:=h.ct;have hrd:=hct.rd;unfold advA;rw [show (40 : Nat) = 38 + 1 + 1 from rfl,advC]
  split
  · rename_i hw;rw [sendS_nil (r:=⟨c,st⟩) h.sn];exact ⟨h,fun q=>absurd q (by show ¬ c.waiting.length = 0;omega)⟩
  · rename_i hw;have hw : ∀ d : Nat, ¬ (d : Int) ∈ c.waiting := fun d q => hw (List.length_pos_of_mem q)
    split
    · rename_i hb;have hc2 := hct.down hb.1 hb.2;have hlo : ∀ d : Nat, d < n → c.target.getD d 0 = (loV S c).getD d 0 := fun d hd => by rw [h.tg d hd]; unfold tgV; rw [if_pos hb.1]
      by_cases hr : c.round - 1 < 0
      · rw [start_no (c := {c with round := c.round - 1}) (.inl hr), advC];rw [if_neg (show ¬ 0 < c.waiting.length from by assumption), if_neg (fun q => by have := q.2; have : 0 ≤ c.round - 1 := this; omega), if_neg (fun q => q.1 hb.1), sendS_nil (r := ⟨{c with round := c.round - 1}, st⟩) h.sn];have e1 : loV S {c with round := c.round - 1} = loV S c := by show S.getD (c.round - 1).toNat [] = S.getD c.round.toNat []; rw [show (c.round - 1).toNat = c.round.toNat from by omega]
        have e2 : tgV R S {c with round:=c.round - 1} = loV S c:=by unfold tgV;rw [if_pos hb.1,e1]
        refine ⟨⟨⟨h.sl,fun d hd=>?_⟩,hc2,fun d hd=>?_,h.sn⟩,fun _=>⟨by show c.waiting.length = 0;omega,?_⟩⟩
        · refine dev_move (h.dv d hd) (hw d) (.inl ?_);rw [e1];exact hlo d hd
        · rw [e2];exact hlo d hd
        · show c.round - 1 = if c.back = true then -1 else _;rw [if_pos hb.1];omega
      · have h0 : 0 ≤ ({c with round := c.round - 1} : Ctl).round := by show 0 ≤ c.round - 1; omega
        have h1 : ({c with round:=c.round - 1} : Ctl).round < R.length:=by show c.round - 1 < _;omega
        have F:=start_at P Q hc2 h0 h1;rw [adv_stop F.ne];have e1 : hiV R S {c with round:=c.round - 1} = loV S c:=by rw [hi_at h0 h1];show S.getD ((c.round - 1).toNat + 1) [] = S.getD c.round.toNat [];rw [show (c.round - 1).toNat + 1 = c.round.toNat from by omega]
        refine inv_start P Q hc2 ⟨fun e=>absurd hb.1 (by show ¬ c.back = true;rw [show c.back = false from e];decide),fun _=>by have:=hct.sq.2.2 hb.1;show c.seq + (c.round - 1) ≤ _;omega⟩ ⟨h.sl,fun d hd=>?_⟩ h.sn (fun d hd=>.inr ?_) h0 h1
        · refine dev_move (h.dv d hd) (hw d) (.inr ?_);rw [e1];exact hlo d hd
        · rw [e1];exact hlo d hd
    · rename_i hnb
      split
      · rename_i hb;have hbf : c.back = false := by simpa using hb.1
        have hc2:=hct.up hb.1 hb.2;have hc0:=(hct.sq.2.1 hbf).2;have hhi : ∀ d : Nat,d < n → c.target.getD d 0 = (S.getD (c.round.toNat + 1) []).getD d 0:=fun d hd=>by rw [h.tg d hd];unfold tgV;rw [if_neg hb.1,hi_at hc0 hb.2]
        have e1 : loV S {c with round:=c.round + 1} = S.getD (c.round.toNat + 1) []:=by show S.getD (c.round + 1).toNat [] = _;rw [show (c.round + 1).toNat = c.round.toNat + 1 from by omega]
        by_cases hr : (R.length : Int) ≤ c.round + 1
        · rw [start_no (c := {c with round := c.round + 1}) (.inr hr), advC];rw [if_neg (show ¬ 0 < c.waiting.length from by assumption), if_neg (fun q => hb.1 q.1), if_neg (fun q => by have := q.2; have : c.round + 1 < R.length := this; omega), sendS_nil (r := ⟨{c with round := c.round + 1}, st⟩) h.sn];have e2 : tgV R S {c with round := c.round + 1} = S.getD (c.round.toNat + 1) [] := by unfold tgV; rw [if_neg hb.1, hi_end (by show c.round + 1 = _; omega), show R.length = c.round.toNat + 1 from by omega]
          refine ⟨⟨⟨h.sl,fun d hd=>?_⟩,hc2,fun d hd=>?_,h.sn⟩,fun _=>⟨by show c.waiting.length = 0;omega,?_⟩⟩
          · refine dev_move (h.dv d hd) (hw d) (.inl ?_);rw [e1];exact hhi d hd
          · rw [e2];exact hhi d hd
          · show c.round + 1 = if c.back = true then -1 else _;rw [if_neg hb.1];omega
        · have h0 : 0 ≤ ({c with round := c.round + 1} : Ctl).round := by show 0 ≤ c.round + 1; omega
          have h1 : ({c with round:=c.round + 1} : Ctl).round < R.length:=by show c.round + 1 < _;omega
          have F:=start_at P Q hc2 h0 h1;rw [adv_stop F.ne];refine inv_start P Q hc2 ⟨fun _=>by have:=(hct.sq.2.1 hbf).1;show c.seq ≤ c.round + 1;omega,fun e=>absurd e hb.1⟩ ⟨h.sl,fun d hd=>?_⟩ h.sn (fun d hd=>.inl ?_) h0 h1
          · refine dev_move (h.dv d hd) (hw d) (.inl ?_);rw [e1];exact hhi d hd
          · rw [e1];exact hhi d hd
      · rename_i hnf;rw [sendS_nil (r := ⟨c, st⟩) h.sn];refine ⟨h, fun q => ⟨q, ?_⟩⟩;show c.round = if c.back = true then -1 else (R.length : Int)
        split
        · rename_i e;have : ¬ 0 ≤ c.round:=fun g=>hnb ⟨e,g⟩;omega
        · rename_i e;have : ¬ c.round < R.length:=fun g=>hnf ⟨e,g⟩;omega
end
section
variable {n : Nat} {R : List (List Chg)} {S : List (List Int)} {r : RunS} {e : Evt}
theorem dv_set {c : Ctl} {st : List PS} (h : Dv n R S c st) {d : Nat} {s : PS} (hd : d < n → DevI c.seq (c.known.getD d 0) (c.target.getD d 0) ((d : Int) ∈ c.waiting) ((loV S c).getD d 0) ((hiV R S c).getD d 0) s) : Dv n R S c (st.set d s) :=
  ⟨(List.length_set ..).trans h.sl,fun k hk=>by
    by_cases e : d = k
    · subst e;rw [getD_setE (by have:=h.sl;omega)];exact hd hk
    · rw [getD_setN e];exact h.dv k hk⟩
theorem inv_upd (h : InvR n R S r) {d : Nat} {s : PS} (hf : d < n → DevI r.c.seq (r.c.known.getD d 0) (r.c.target.getD d 0) ((d : Int) ∈ r.c.waiting) ((loV S r.c).getD d 0) ((hiV R S r.c).getD d 0) s) : InvR n R S (sendS {r with st:=r.st.set d s}):=by
  rw [sendS_nil (r:={r with st:=r.st.set d s}) h.sn];exact ⟨⟨dv_set h.toDv hf,h.ct,h.tg,h.sn⟩,h.fin⟩
theorem mem_filt {l : List Int} {d x : Int} : (x ∈ l.filter fun y=>!(y == d)) ↔ x ∈ l ∧ x ≠ d:=by simp
theorem inv_out {c : Ctl} {st : List PS} (h : InvA n R S c st) {d : Int} (h0 : 0 ≤ d) {s : PS} (hs : d.toNat < n → DevI c.seq (c.known.getD d.toNat 0) (c.target.getD d.toNat 0) False ((loV S c).getD d.toNat 0) ((hiV R S c).getD d.toNat 0) s) : InvA n R S {c with waiting:=c.waiting.filter fun y=>!(y == d)} (st.set d.toNat s) :=
  ⟨⟨(List.length_set ..).trans h.sl,fun k hk=>by
    show DevI c.seq (c.known.getD k 0) (c.target.getD k 0) ((k : Int) ∈ c.waiting.filter _) ((loV S c).getD k 0) ((hiV R S c).getD k 0) _
    by_cases e : d.toNat = k
    · subst e;rw [getD_setE (by have:=h.sl;omega)];exact (hs hk).iff ⟨False.elim,fun q=>(mem_filt.1 q).2 (by omega)⟩
    · rw [getD_setN e]
      exact (h.dv k hk).iff ⟨fun q=>mem_filt.2 ⟨q,by omega⟩,fun q=>(mem_filt.1 q).1⟩⟩,⟨h.ct.tg,h.ct.kn,h.ct.wt.filt _,h.ct.rd,h.ct.sq⟩,h.tg,h.sn⟩
theorem set_self {st : List PS} {d : Nat} : st.set d (st.getD d psD) = st:=by
  apply List.ext_getElem?
  intro i;rw [List.getElem?_set]
  by_cases h : d = i
  · subst h
    by_cases hl : d < st.length
    · rw [if_pos rfl,if_pos hl,List.getD_eq_getElem?_getD,List.getElem?_eq_getElem hl];rfl
    · rw [if_pos rfl,if_neg hl,List.getElem?_eq_none (by omega)]
  · rw [if_neg h]
theorem inv_ack (h : InvR n R S r) {d : Int} (h0 : 0 ≤ d) (hd : d < n) (hm : 0 < (r.st.getD d.toNat psD).msg.length) (h1 : ¬ (msgOf r d).hello = true) (h2 : (msgOf r d).inc = r.c.known.getD d.toNat 0) (h3 : (msgOf r d).seq = r.c.seq) :
    InvA n R S {r.c with waiting:=r.c.waiting.filter fun y=>!(y == d)} (updS r d fun s=>{s with msg:=s.msg.drop 1}).st :=
  inv_out h.toInvA h0 fun hn=>dev_ack (h.dv d.toNat hn) (m:=msgOf r d) rfl hm h1 h2 h3
theorem inv_recv (P : PlanOK n R S) (Q : PlanS R S) (h : InvR n R S r) {d : Int} (h0 : 0 ≤ d) (hd : d < n) (hm : 0 < (r.st.getD d.toNat psD).msg.length) : InvR n R S (sendS (recvS R S r d)):=by
  have hn : d.toNat < n:=by omega
  have hD:=h.dv d.toNat hn;unfold recvS
  split
  · rename_i hh;unfold helloC
    split
    · rename_i hk;have hkl:=h.ct.kn;have e : sendS ⟨{r.c with known:=r.c.known.set d.toNat (msgOf r d).inc,waiting:=insW r.c.waiting d,sent:=r.c.sent ++ [d]},(updS r d fun s=>{s with msg:=s.msg.drop 1}).st⟩ = ⟨{r.c with known:=r.c.known.set d.toNat (msgOf r d).inc,waiting:=insW r.c.waiting d,sent:=[]},r.st.set d.toNat (putT {r.st.getD d.toNat psD with msg:=(r.st.getD d.toNat psD).msg.drop 1} ⟨(msgOf r d).inc,r.c.seq,r.c.target.getD d.toNat 0⟩)⟩:=by
        unfold sendS;refine congrArg (RunS.mk _) ?_;show cmdS _ (r.st.set d.toNat _) (r.c.sent ++ [d]) = _;rw [h.sn];show ((r.st.set d.toNat _).set d.toNat (putT ((r.st.set d.toNat _).getD d.toNat psD) ⟨(r.c.known.set d.toNat (msgOf r d).inc).getD d.toNat 0,r.c.seq,r.c.target.getD d.toNat 0⟩)) = _;rw [List.set_set,getD_setE (by have:=h.sl;omega),getD_setE (by omega)]
      rw [e];refine ⟨⟨⟨(List.length_set ..).trans h.sl,fun k hk'=>?_⟩,⟨h.ct.tg,by simp [h.ct.kn],h.ct.wt.ins h0 hd,h.ct.rd,h.ct.sq⟩,h.tg,rfl⟩,fun q=>?_⟩
      · show DevI r.c.seq ((r.c.known.set d.toNat (msgOf r d).inc).getD k 0) (r.c.target.getD k 0) ((k : Int) ∈ insW r.c.waiting d) ((loV S r.c).getD k 0) ((hiV R S r.c).getD k 0) ((r.st.set d.toNat _).getD k psD)
        by_cases e : d.toNat = k
        · subst e;rw [getD_setE (by omega),getD_setE (by have:=h.sl;omega)];exact dev_known hD (by rw [h.tg _ hk'];exact tg_or _) (m:=msgOf r d) rfl hm hk (mem_insW2.2 (.inl (by omega)))
        · rw [getD_setN e,getD_setN e];exact (h.dv k hk').iff ⟨fun q=>mem_insW2.2 (.inr q),fun q=>(mem_insW2.1 q).resolve_left (by omega)⟩
      · have : 0 < (insW r.c.waiting d).length:=List.length_pos_of_mem (mem_insW2.2 (.inl rfl) : d ∈ insW r.c.waiting d);have q : (insW r.c.waiting d).length = 0:=q;omega
    · rename_i hk;exact inv_upd h fun hn=>dev_old (h.dv _ hn) (m:=msgOf r d) rfl (fun _=>by omega) fun q=>absurd hh q
  · rename_i hh;unfold ackC
    split
    · rename_i hk;exact inv_adv P Q (inv_ack h h0 hd hm hh hk.1 hk.2)
    · rename_i hk;exact inv_upd h fun hn=>dev_old (h.dv _ hn) (m:=msgOf r d) rfl (fun q=>absurd q hh) fun _=>hk
theorem cmdS_all (c : Ctl) (st : List PS) (h : Asc n c.waiting) (hl : st.length = n) (d : Nat) : (cmdS c st c.waiting).getD d psD = if (d : Int) ∈ c.waiting then putT (st.getD d psD) (cmdC c d) else st.getD d psD :=
  cmdS_at c c.waiting st h.1 (fun x hx=>by rw [hl];exact h.2 x hx) d
theorem inv_time (h : InvR n R S r) : InvR n R S (sendS {r with c:={r.c with sent:=r.c.sent ++ r.c.waiting}}):=by
  have e : sendS {r with c:={r.c with sent:=r.c.sent ++ r.c.waiting}} = ⟨r.c,cmdS r.c r.st r.c.waiting⟩:=by
    unfold sendS;show RunS.mk {r.c with sent:=[]} (cmdS {r.c with sent:=r.c.sent ++ r.c.waiting} r.st (r.c.sent ++ r.c.waiting)) = _;rw [h.sn];have e1 : ({r.c with sent:=[]} : Ctl) = r.c:=by have:=h.sn;cases r with | mk c st=>cases c;subst this;rfl
    rw [e1];rfl
  rw [e];refine ⟨⟨⟨(cmdS_len ..).trans h.sl,fun d hd=>?_⟩,h.ct,h.tg,h.sn⟩,h.fin⟩;show DevI r.c.seq (r.c.known.getD d 0) (r.c.target.getD d 0) ((d : Int) ∈ r.c.waiting) ((loV S r.c).getD d 0) ((hiV R S r.c).getD d 0) ((cmdS r.c r.st r.c.waiting).getD d psD);rw [cmdS_all r.c r.st h.ct.wt h.sl d]
  split
  · rename_i hw;exact dev_put (h.dv d hd) (by rw [h.tg d hd];exact tg_or d) hw
  · exact h.dv d hd
theorem inv_abort (P : PlanOK n R S) (Q : PlanS R S) (h : InvR n R S r) (hb : ¬ r.c.back = true) : InvR n R S (sendS {r with c:=abortC R S r.c}):=by
  have hbf : r.c.back = false:=by simpa using hb
  have hc2:=h.ct.bk hb;have hc0:=(h.ct.sq.2.1 hbf);have hrd:=h.ct.rd;unfold abortC;rw [if_neg hb];have elo : loV S {r.c with back:=true} = loV S r.c:=rfl;have ehi : hiV R S {r.c with back:=true} = hiV R S r.c:=rfl;have htg : ∀ d : Nat,d < n → r.c.target.getD d 0 = (hiV R S r.c).getD d 0:=fun d hd=>by rw [h.tg d hd];unfold tgV;rw [if_neg hb]
  by_cases hr : (R.length : Int) ≤ r.c.round
  · rw [start_no (c := {r.c with back := true}) (.inr hr)];have e1 : loV S r.c = hiV R S r.c := by rw [hi_end (by omega)]; unfold loV; rw [show r.c.round.toNat = R.length from by omega]
    refine inv_adv P Q ⟨⟨h.sl,h.dv⟩,hc2,fun d hd=>?_,h.sn⟩;show r.c.target.getD d 0 = (tgV R S {r.c with back:=true}).getD d 0;rw [htg d hd,← e1];rfl
  · have h0 : 0 ≤ ({r.c with back := true} : Ctl).round := hc0.2;have h1 : ({r.c with back := true} : Ctl).round < R.length := by show r.c.round < _; omega
    have F:=start_at P Q hc2 h0 h1;unfold advA;rw [adv_stop F.ne];refine inv_start P Q hc2 ⟨fun e=>(by cases e),fun _=>by show r.c.seq + r.c.round ≤ _;omega⟩ ⟨h.sl,h.dv⟩ h.sn (fun d hd=>.inr (htg d hd)) h0 h1
theorem inv_do (P : PlanOK n R S) (Q : PlanS R S) (h : InvR n R S r) (hc : canR r e) : InvR n R S (doR R S r e):=by
  have hsl:=h.sl;have hn0:=P.n0;obtain ⟨h0,h1⟩:=can_rng hc (by omega);unfold doR evR
  split
  · rename_i k;exact inv_upd h fun hn=>dev_deliver (h.dv _ hn) ((canT1 k).1 (can_dev hc (by omega) (by omega)).2.2)
  split
  · rename_i k;refine inv_upd h fun hn=>?_;obtain ⟨g1,g2,g3⟩:=(canT2 k).1 (can_dev hc (by omega) (by omega)).2.2;have H:=h.dv _ hn;exact dev_save H.toDevJ g2 fun q=>g3 (H.qr q)
  split
  · rename_i k;exact inv_recv P Q h h0 (by omega) ((canT3 k).1 (can_dev hc (by omega) (by omega)).2.2)
  split
  · exact inv_upd h fun hn=>dev_downT (h.dv _ hn)
  split
  · exact inv_upd h fun hn=>dev_up (h.dv _ hn)
  split
  · exact inv_time h
  split
  · rename_i k;obtain ⟨g1,g2⟩:=(canT7 k).1 (can_dev hc (by omega) (by omega)).2.2;have:=inv_out h.toInvA h0 (s:=r.st.getD e.dev.toNat psD) fun hn=>dev_skip (h.dv _ hn) g1;rw [set_self] at this;exact inv_adv P Q this
  split
  · rename_i k;exact inv_abort P Q h ((can8 k).1 hc).2
  · rename_i k1 k2 k3 k4 k5 k6 k7 k8;exact absurd (can_dev hc (by omega) (by omega)).2.2 (canT0 k1 k2 k3 k4 k5 k7)
theorem dev_new (v : Bool) {b : Int} : DevI 0 0 0 False 0 b (ps0 v) :=
  { cs:=fun x hx=>(by cases hx),od:=.nil,ki:=Int.le_refl _,sq:=⟨Int.le_refl _,Int.le_refl _⟩,lv:=fun _ x hx=>(by cases hx),rn:=fun _ _=>⟨rfl,.inl rfl,fun _=>rfl,fun _=>⟨rfl,rfl⟩⟩,ms:=fun x hx=>(by cases hx),qr:=fun _=>rfl,p1:=fun e=>e.elim,p2:=fun _ e=>absurd e (Int.lt_irrefl _),p4:=fun _ _ _=>Bool.false_ne_true,nv:=fun _=>rfl,p3:=fun e=>e.elim }
theorem zeros_at (n : Int) (d : Nat) : (zerosP n).getD d 0 = 0:=by
  unfold zerosP;rw [List.getD_eq_getElem?_getD,List.getElem?_replicate]
  split <;> rfl
theorem inv_new {vs : List Bool} (P : PlanOK vs.length R S) (Q : PlanS R S) : InvR vs.length R S (newRS R S vs):=by
  have hD : Dv vs.length R S (newC vs.length) (vs.map ps0):=⟨List.length_map _,fun d hd=>by
    show DevI 0 ((zerosP _).getD d 0) ((zerosP _).getD d 0) ((d : Int) ∈ ([] : List Int)) ((S.getD 0 []).getD d 0) _ _;rw [zeros_at,Q.z d,show (vs.map ps0).getD d psD = ps0 vs[d] from by rw [List.getD_eq_getElem?_getD,List.getElem?_map,List.getElem?_eq_getElem hd];rfl]
    exact (dev_new _).iff ⟨False.elim,fun q=>(by cases q)⟩⟩
  unfold newRS
  by_cases hr : (R.length : Int) ≤ 0
  · rw [start_no (c := newC vs.length) (.inr hr), sendS_nil (r := ⟨newC vs.length, vs.map ps0⟩) rfl];refine ⟨⟨hD, newC_ok, fun d hd => ?_, rfl⟩, fun _ => ⟨rfl, ?_⟩⟩
    · show (zerosP _).getD d 0 = (hiV R S (newC vs.length)).getD d 0;rw [hi_end (c:=newC vs.length) (by show (0 : Int) = _;omega),show R.length = 0 from by omega,Q.z d,zeros_at]
    · show (0 : Int) = R.length;omega
  · refine inv_start P Q newC_ok ⟨fun _=>Int.le_refl 0,fun h=>by cases h⟩ hD rfl (fun d hd=>.inl ?_) (Int.le_refl 0) (by show (0 : Int) < _;omega);show (zerosP _).getD d 0 = (S.getD 0 []).getD d 0;rw [Q.z d,zeros_at]
end
def sumN (f : Nat → Int) : Nat → Int
  | 0=>0
  | n + 1=>sumN f n + f n
theorem sumN_le {f g : Nat → Int} : ∀ {n : Nat}, (∀ d, d < n → f d ≤ g d) → sumN f n ≤ sumN g n
  | 0,_=>Int.le_refl _
  | n + 1,h=>Int.add_le_add (sumN_le fun d hd=>h d (by omega)) (h n (by omega))
theorem sumN_eq {f g : Nat → Int} : ∀ {n : Nat}, (∀ d, d < n → f d = g d) → sumN f n = sumN g n
  | 0,_=>rfl
  | n + 1,h=>by rw [sumN,sumN,sumN_eq fun d hd=>h d (by omega),h n (by omega)]
theorem sumN_upd {f g : Nat → Int} {d : Nat} : ∀ {n : Nat}, d < n → (∀ k, k < n → k ≠ d → f k = g k) → sumN f n + g d = sumN g n + f d
  | n + 1,hd,h=>by
    rw [sumN,sumN]
    by_cases e : d = n
    · have:=sumN_eq (f:=f) (g:=g) (n:=n) fun k hk=>h k (by omega) (by omega);subst e;omega
    · have:=sumN_upd (f:=f) (g:=g) (n:=n) (d:=d) (by omega) fun k hk=>h k (by omega);have:=h n (by omega) (by omega);omega
theorem sumN_add (f : Nat → Int) (c : Int) : ∀ n : Nat, sumN (fun d => f d + c) n = sumN f n + c * n
  | 0=>by simp [sumN]
  | n + 1=>by
    rw [sumN,sumN,sumN_add f c n,show ((n + 1 : Nat) : Int) = (n : Int) + 1 from rfl,Int.mul_add,Int.mul_one];omega
theorem sumN_nn {f : Nat → Int} : ∀ {n : Nat}, (∀ d, d < n → 0 ≤ f d) → 0 ≤ sumN f n
  | 0,_=>Int.le_refl _
  | n + 1,h=>Int.add_nonneg (sumN_nn fun d hd=>h d (by omega)) (h n (by omega))
def pend (s : PS) : Int:=if s.vol = true ∧ s.ag.up = true ∧ s.ag.run ≠ s.ag.sav then 2 else 0
theorem pend_rng (s : PS) : 0 ≤ pend s ∧ pend s ≤ 2:=by unfold pend;split <;> omega
def mS (k : Int) (s : PS) : Int:=(if s.ag.up = true then 0 else 5) + 3 * (s.ag.inc - k) + 3 * (s.cmd.length : Int) + pend s + (s.msg.length : Int)
def mR (n : Nat) (R : List (List Chg)) (c : Ctl) (st : List PS) : Int:=3 * (n : Int) * measC R.length c + sumN (fun d=>mS (c.known.getD d 0) (st.getD d psD)) n
theorem ml_say (s : PS) (m : Msg) (k : Int) : mS k (sayT s m) = mS k s + 1:=by
  show (if s.ag.up = true then (0 : Int) else 5) + 3 * (s.ag.inc - k) + 3 * (s.cmd.length : Int) + pend s + ((s.msg ++ [m]).length : Int) = _;rw [List.length_append,List.length_singleton];unfold mS;omega
theorem ml_put (s : PS) (x : Cmd) (k : Int) : mS k (putT s x) = mS k s + 3:=by
  show (if s.ag.up = true then (0 : Int) else 5) + 3 * (s.ag.inc - k) + 3 * ((s.cmd ++ [x]).length : Int) + pend s + (s.msg.length : Int) = _;rw [List.length_append,List.length_singleton];unfold mS;omega
def dropM (s : PS) : PS:={s with msg:=s.msg.drop 1}
theorem ml_drop (s : PS) (k : Int) (h : 0 < s.msg.length) : mS k (dropM s) = mS k s - 1:=by
  show (if s.ag.up = true then (0 : Int) else 5) + 3 * (s.ag.inc - k) + 3 * (s.cmd.length : Int) + pend s + ((s.msg.drop 1).length : Int) = _;rw [List.length_drop];unfold mS;omega
theorem ml_cmd (s : PS) (k : Int) (h : 0 < s.cmd.length) : mS k {s with cmd:=s.cmd.drop 1} = mS k s - 3:=by
  show (if s.ag.up = true then (0 : Int) else 5) + 3 * (s.ag.inc - k) + 3 * ((s.cmd.drop 1).length : Int) + pend s + (s.msg.length : Int) = _;rw [List.length_drop];unfold mS;omega
theorem ml_save (s : PS) (k : Int) : mS k (saveT s) = mS k s + 1 - pend s:=by
  unfold saveT;rw [ml_say];have e : pend {s with ag:={s.ag with sav:=s.ag.run}} = 0:=by unfold pend;rw [if_neg fun h=>h.2.2 rfl]
  show (if s.ag.up = true then (0 : Int) else 5) + 3 * (s.ag.inc - k) + 3 * (s.cmd.length : Int) + pend {s with ag:={s.ag with sav:=s.ag.run}} + (s.msg.length : Int) + 1 = _;rw [e];unfold mS;omega
theorem ml_deliver {s : PS} {k : Int} (h : 0 < s.cmd.length) : mS k (deliverT s) ≤ mS k s - 1:=by
  have hp:=pend_rng s;unfold deliverT
  split
  · rw [ml_cmd s k h];omega
  · split
    · unfold helloT;rw [ml_say,ml_cmd s k h];omega
    · have e : ∀ g : Agt,g.up = s.ag.up → g.inc = s.ag.inc → mS k {s with cmd:=s.cmd.drop 1,ag:=g} = mS k s - 3 - pend s + pend {s with cmd:=s.cmd.drop 1,ag:=g}:=fun g h1 h2=>by
        show (if g.up = true then (0 : Int) else 5) + 3 * (g.inc - k) + 3 * ((s.cmd.drop 1).length : Int) + pend _ + (s.msg.length : Int) = _;rw [h1,h2,List.length_drop];unfold mS;omega
      split
      · rw [ml_save,e {s.ag with run:=(headT s).ver,seq:=(headT s).seq,quar:=false} rfl rfl];omega
      · rw [e {s.ag with run:=(headT s).ver,seq:=(headT s).seq,quar:=false} rfl rfl];have:=pend_rng {s with cmd:=s.cmd.drop 1,ag:={s.ag with run:=(headT s).ver,seq:=(headT s).seq,quar:=false}};omega
theorem ml_up {s : PS} {k : Int} (h : ¬ s.ag.up = true) : mS k (upT s) = mS k s - 1:=by
  unfold upT helloT;rw [ml_say];have e : pend {s with ag:={s.ag with up:=true,quar:=true,inc:=s.ag.inc + 1,run:=s.ag.sav,seq:=0}} = 0:=by unfold pend;rw [if_neg fun h=>h.2.2 rfl]
  have e2 : pend s = 0:=by unfold pend;rw [if_neg fun q=>h q.2.1]
  show (if true = true then (0 : Int) else 5) + 3 * (s.ag.inc + 1 - k) + 3 * (s.cmd.length : Int) + pend {s with ag:={s.ag with up:=true,quar:=true,inc:=s.ag.inc + 1,run:=s.ag.sav,seq:=0}} + (s.msg.length : Int) + 1 = _;rw [e,if_pos rfl];unfold mS;rw [e2,if_neg h];omega
theorem ml_down {s : PS} {k : Int} : mS k (downT s) ≤ mS k s + 5:=by
  have e : pend (downT s) = 0:=by unfold pend;rw [if_neg fun h=>by cases h.2.1]
  have:=pend_rng s;show (if false = true then (0 : Int) else 5) + 3 * (s.ag.inc - k) + 3 * (([] : List Cmd).length : Int) + pend (downT s) + (s.msg.length : Int) ≤ _;rw [e,if_neg (by decide)];unfold mS;simp only [List.length_nil];split <;> omega
section
variable {n : Nat} {R : List (List Chg)} {S : List (List Int)} {r : RunS} {c : Ctl} {st : List PS} {e : Evt}
theorem mR_set {d : Nat} (hd : d < n) (hl : st.length = n) {s : PS} : mR n R c (st.set d s) = mR n R c st + mS (c.known.getD d 0) s - mS (c.known.getD d 0) (st.getD d psD):=by
  have:=(sumN_upd (f:=fun k=>mS (c.known.getD k 0) ((st.set d s).getD k psD)) (g:=fun k=>mS (c.known.getD k 0) (st.getD k psD)) (n:=n) (d:=d) hd (fun k _ hk=>by show mS _ _ = mS _ _;rw [getD_setN (fun q=>hk q.symm)]));have e : mS (c.known.getD d 0) ((st.set d s).getD d psD) = mS (c.known.getD d 0) s:=by rw [getD_setE (by omega)]
  unfold mR;simp only [e] at this;omega
theorem mR_same {c' : Ctl} (h1 : c'.round = c.round) (h2 : c'.back = c.back) (h3 : c'.known = c.known) : mR n R c' st = mR n R c st:=by
  unfold mR measC;rw [h1,h2,h3]
theorem mR_cmd (h : Asc n c.waiting) (hl : st.length = n) : mR n R {c with sent:=[]} (cmdS c st c.waiting) ≤ mR n R c st + 3 * n:=by
  have e:=sumN_add (fun d=>mS (c.known.getD d 0) (st.getD d psD)) 3 n;have:=sumN_le (f:=fun d=>mS (c.known.getD d 0) ((cmdS c st c.waiting).getD d psD)) (g:=fun d=>mS (c.known.getD d 0) (st.getD d psD) + 3) (n:=n) fun d hd=>by
    show mS _ ((cmdS c st c.waiting).getD d psD) ≤ _;rw [cmdS_all c st h hl d]
    split
    · rw [ml_put];exact Int.le_refl _
    · show _ ≤ _ + 3;omega
  show 3 * (n : Int) * measC R.length c + sumN (fun d=>mS (c.known.getD d 0) ((cmdS c st c.waiting).getD d psD)) n ≤ _;unfold mR;omega
theorem mR_start (P : PlanOK n R S) (Q : PlanS R S) (h : CtlOK n R.length c) (hb : (c.back = false → c.seq ≤ c.round) ∧ (c.back = true → c.seq + c.round ≤ 2 * R.length + 1)) (hs : c.sent = []) (hl : st.length = n) (h0 : 0 ≤ c.round) (h1 : c.round < R.length) :
    mR n R (sendS ⟨startC R S c,st⟩).c (sendS ⟨startC R S c,st⟩).st ≤ mR n R c st + 3 * n:=by
  have F:=start_at P Q h h0 h1;have hc:=(startC_ok P h fun _ _=>hb).1
  revert F hc
  generalize startC R S c = c1
  intro F hc;have hsn : c1.sent = c1.waiting:=by rw [F.sn,hs];rfl
  show mR n R {c1 with sent:=[]} (cmdS c1 st c1.sent) ≤ _;rw [hsn];have:=mR_cmd (R:=R) (c:=c1) (st:=st) hc.wt hl;rw [mR_same (c:=c) (c':=c1) F.rd F.bk F.kn] at this;exact this
theorem mR_adv (P : PlanOK n R S) (Q : PlanS R S) (hct : CtlOK n R.length c) (hs : c.sent = []) (hl : st.length = n) : mR n R (sendS ⟨advA R S c,st⟩).c (sendS ⟨advA R S c,st⟩).st ≤ mR n R c st:=by
  have hrd:=hct.rd;unfold advA;rw [show (40 : Nat) = 38 + 1 + 1 from rfl,advC]
  split
  · rw [sendS_nil (r:=⟨c,st⟩) hs];exact Int.le_refl _
  · rename_i hw
    split
    · rename_i hb;have hc2:=hct.down hb.1 hb.2;have em : mR n R {c with round:=c.round - 1} st = mR n R c st - 3 * n:=by
        have e : measC R.length {c with round:=c.round - 1} = measC R.length c - 1:=by unfold measC;rw [if_pos hb.1,if_pos hb.1];show c.round - 1 + 1 = c.round + 1 - 1;omega
        unfold mR;rw [e,Int.mul_sub,Int.mul_one];show _ + sumN (fun d=>mS (c.known.getD d 0) _) n = _;omega
      by_cases hr : c.round - 1 < 0
      · rw [start_no (c:={c with round:=c.round - 1}) (.inl hr),advC];rw [if_neg (show ¬ 0 < c.waiting.length from by assumption),if_neg (fun q=>by have:=q.2;have : 0 ≤ c.round - 1:=this;omega),if_neg (fun q=>q.1 hb.1),sendS_nil (r:=⟨{c with round:=c.round - 1},st⟩) hs];show mR n R {c with round:=c.round - 1} st ≤ _;omega
      · have h0 : 0 ≤ ({c with round := c.round - 1} : Ctl).round := by show 0 ≤ c.round - 1; omega
        have h1 : ({c with round:=c.round - 1} : Ctl).round < R.length:=by show c.round - 1 < _;omega
        rw [adv_stop (start_at P Q hc2 h0 h1).ne];have:=mR_start P Q hc2 (st:=st) ⟨fun e=>absurd hb.1 (by show ¬ c.back = true;rw [show c.back = false from e];decide),fun _=>by have:=hct.sq.2.2 hb.1;show c.seq + (c.round - 1) ≤ _;omega⟩ hs hl h0 h1;omega
    · rename_i hnb
      split
      · rename_i hb;have hbf : c.back = false := by simpa using hb.1
        have hc2:=hct.up hb.1 hb.2;have hc0:=(hct.sq.2.1 hbf).2;have em : mR n R {c with round:=c.round + 1} st = mR n R c st - 3 * n:=by
          have e : measC R.length {c with round:=c.round + 1} = measC R.length c - 1:=by unfold measC;rw [if_neg hb.1,if_neg hb.1];show (R.length : Int) - (c.round + 1) = R.length - c.round - 1;omega
          unfold mR;rw [e,Int.mul_sub,Int.mul_one];show _ + sumN (fun d=>mS (c.known.getD d 0) _) n = _;omega
        by_cases hr : (R.length : Int) ≤ c.round + 1
        · rw [start_no (c:={c with round:=c.round + 1}) (.inr hr),advC];rw [if_neg (show ¬ 0 < c.waiting.length from by assumption),if_neg (fun q=>hb.1 q.1),if_neg (fun q=>by have:=q.2;have : c.round + 1 < R.length:=this;omega),sendS_nil (r:=⟨{c with round:=c.round + 1},st⟩) hs];show mR n R {c with round:=c.round + 1} st ≤ _;omega
        · have h0 : 0 ≤ ({c with round := c.round + 1} : Ctl).round := by show 0 ≤ c.round + 1; omega
          have h1 : ({c with round:=c.round + 1} : Ctl).round < R.length:=by show c.round + 1 < _;omega
          rw [adv_stop (start_at P Q hc2 h0 h1).ne];have:=mR_start P Q hc2 (st:=st) ⟨fun _=>by have:=(hct.sq.2.1 hbf).1;show c.seq ≤ c.round + 1;omega,fun e=>absurd e hb.1⟩ hs hl h0 h1;omega
      · rw [sendS_nil (r:=⟨c,st⟩) hs];exact Int.le_refl _
theorem mR_sta (h : InvR n R S r) {d : Nat} (hd : d < n) {s : PS} : mR n R (sendS {r with st:=r.st.set d s}).c (sendS {r with st:=r.st.set d s}).st = mR n R r.c r.st + mS (r.c.known.getD d 0) s - mS (r.c.known.getD d 0) (r.st.getD d psD):=by
  rw [sendS_nil (r:={r with st:=r.st.set d s}) h.sn];exact mR_set hd h.sl
theorem mR_recv (P : PlanOK n R S) (Q : PlanS R S) (h : InvR n R S r) {d : Int} (h0 : 0 ≤ d) (hd : d < n) (hm : 0 < (r.st.getD d.toNat psD).msg.length) : mR n R (sendS (recvS R S r d)).c (sendS (recvS R S r d)).st ≤ mR n R r.c r.st - 1:=by
  have hn : d.toNat < n:=by omega
  have hdr:=ml_drop (r.st.getD d.toNat psD) (r.c.known.getD d.toNat 0) hm;have hsta:=mR_sta h hn (s:=dropM (r.st.getD d.toNat psD));unfold recvS
  split
  · unfold helloC
    split
    · rename_i hk;have hkl := h.ct.kn;have hsl := h.sl;unfold sendS;show mR n R _ (cmdS _ (r.st.set d.toNat _) (r.c.sent ++ [d])) ≤ _;rw [h.sn];show mR n R {r.c with known := r.c.known.set d.toNat (msgOf r d).inc, waiting := insW r.c.waiting d, sent := []} ((r.st.set d.toNat _).set d.toNat (putT ((r.st.set d.toNat _).getD d.toNat psD) ⟨(r.c.known.set d.toNat (msgOf r d).inc).getD d.toNat 0, r.c.seq, r.c.target.getD d.toNat 0⟩)) ≤ _;have e0 : ((r.st.set d.toNat (dropM (r.st.getD d.toNat psD))).set d.toNat (putT ((r.st.set d.toNat (dropM (r.st.getD d.toNat psD))).getD d.toNat psD) ⟨(r.c.known.set d.toNat (msgOf r d).inc).getD d.toNat 0, r.c.seq, r.c.target.getD d.toNat 0⟩)) = r.st.set d.toNat (putT (dropM (r.st.getD d.toNat psD)) ⟨(msgOf r d).inc, r.c.seq, r.c.target.getD d.toNat 0⟩) := by rw [List.set_set, getD_setE (by omega), getD_setE (by omega)]
      refine Int.le_trans (Int.le_of_eq (congrArg (mR n R _) e0)) ?_
      have hu:=sumN_upd (f:=fun k=>mS ((r.c.known.set d.toNat (msgOf r d).inc).getD k 0) ((r.st.set d.toNat (putT (dropM (r.st.getD d.toNat psD)) ⟨(msgOf r d).inc,r.c.seq,r.c.target.getD d.toNat 0⟩)).getD k psD)) (g:=fun k=>mS (r.c.known.getD k 0) (r.st.getD k psD)) (n:=n) (d:=d.toNat) hn (fun k _ hk=>by
        show mS _ _ = mS _ _
        rw [getD_setN (fun q=>hk q.symm),getD_setN (fun q=>hk q.symm)])
      have e1 : mS ((r.c.known.set d.toNat (msgOf r d).inc).getD d.toNat 0) ((r.st.set d.toNat (putT (dropM (r.st.getD d.toNat psD)) ⟨(msgOf r d).inc,r.c.seq,r.c.target.getD d.toNat 0⟩)).getD d.toNat psD) = mS (r.c.known.getD d.toNat 0) (r.st.getD d.toNat psD) + 2 - 3 * ((msgOf r d).inc - r.c.known.getD d.toNat 0):=by
        rw [getD_setE (by omega),getD_setE (by omega),ml_put,ml_drop _ _ hm];unfold mS;omega
      simp only [e1] at hu;have hg : 3 * (n : Int) * measC R.length r.c + sumN (fun k=>mS ((r.c.known.set d.toNat (msgOf r d).inc).getD k 0) ((r.st.set d.toNat (putT (dropM (r.st.getD d.toNat psD)) ⟨(msgOf r d).inc,r.c.seq,r.c.target.getD d.toNat 0⟩)).getD k psD)) n ≤ 3 * (n : Int) * measC R.length r.c + sumN (fun k=>mS (r.c.known.getD k 0) (r.st.getD k psD)) n - 1:=by omega
      exact hg
    · exact Int.le_trans (Int.le_of_eq hsta) (by omega)
  · rename_i hh;unfold ackC
    split
    · rename_i hk;have hA:=inv_ack h h0 hd hm hh hk.1 hk.2;have h1:=mR_adv P Q hA.ct hA.sn hA.sl;have h2 : mR n R {r.c with waiting:=r.c.waiting.filter fun y=>!(y == d)} (updS r d fun s=>{s with msg:=s.msg.drop 1}).st = mR n R r.c (r.st.set d.toNat (dropM (r.st.getD d.toNat psD))):=rfl;have h3:=mR_set (R:=R) (c:=r.c) (st:=r.st) hn h.sl (s:=dropM (r.st.getD d.toNat psD));exact Int.le_trans h1 (Int.le_trans (Int.le_of_eq (h2.trans h3)) (by omega))
    · exact Int.le_trans (Int.le_of_eq hsta) (by omega)
def calmK (k : Int) : Prop:=k = 1 ∨ k = 2 ∨ k = 3 ∨ k = 5
theorem mR_calm (P : PlanOK n R S) (Q : PlanS R S) (h : InvR n R S r) (hc : canR r e) (hk : calmK e.kind) : mR n R (doR R S r e).c (doR R S r e).st ≤ mR n R r.c r.st - 1:=by
  have hsl:=h.sl;have hn0:=P.n0;obtain ⟨h0,h1⟩:=can_rng hc (by omega);have hd : e.dev.toNat < n:=by omega
  unfold doR
  rcases hk with k | k | k | k
  · rw [ev1 k];have:=mR_sta h hd (s:=deliverT (r.st.getD e.dev.toNat psD));have:=ml_deliver (k:=r.c.known.getD e.dev.toNat 0) ((canT1 k).1 (can_dev hc (by omega) (by omega)).2.2);unfold updS;omega
  · rw [ev2 k];obtain ⟨g1,g2,g3⟩:=(canT2 k).1 (can_dev hc (by omega) (by omega)).2.2;have:=mR_sta h hd (s:=saveT (r.st.getD e.dev.toNat psD));have:=ml_save (r.st.getD e.dev.toNat psD) (r.c.known.getD e.dev.toNat 0);have e2 : pend (r.st.getD e.dev.toNat psD) = 2:=if_pos ⟨g1,g2,g3⟩;unfold updS;omega
  · rw [ev3 k];exact mR_recv P Q h h0 (by omega) ((canT3 k).1 (can_dev hc (by omega) (by omega)).2.2)
  · rw [ev5 k];have:=mR_sta h hd (s:=upT (r.st.getD e.dev.toNat psD));have:=ml_up (k:=r.c.known.getD e.dev.toNat 0) ((canT5 k).1 (can_dev hc (by omega) (by omega)).2.2);unfold updS;omega
theorem mR_any (P : PlanOK n R S) (Q : PlanS R S) (h : InvR n R S r) (hn : n ≤ 4) (hR : R.length ≤ 3) (hc : canR r e) : mR n R (doR R S r e).c (doR R S r e).st ≤ mR n R r.c r.st + 60:=by
  by_cases hk : calmK e.kind
  · have:=mR_calm P Q h hc hk;omega
  have hsl:=h.sl;have hn0:=P.n0;obtain ⟨h0,h1⟩:=can_rng hc (by omega);have hd : e.dev.toNat < n:=by omega
  unfold calmK at hk;unfold doR
  by_cases k : e.kind = 4
  · rw [ev4 k];have:=mR_sta h hd (s:=downT (r.st.getD e.dev.toNat psD));have:=ml_down (s:=r.st.getD e.dev.toNat psD) (k:=r.c.known.getD e.dev.toNat 0);unfold updS;omega
  by_cases k : e.kind = 6
  · rw [ev6 k];have := mR_cmd (R := R) (c := {r.c with sent := r.c.sent ++ r.c.waiting}) (st := r.st) h.ct.wt h.sl;have e1 : mR n R {r.c with sent := r.c.sent ++ r.c.waiting} r.st = mR n R r.c r.st := rfl;show mR n R {r.c with sent := []} (cmdS {r.c with sent := r.c.sent ++ r.c.waiting} r.st (r.c.sent ++ r.c.waiting)) ≤ _;rw [h.sn];have e2 : ({r.c with sent := r.c.sent ++ r.c.waiting} : Ctl) = {r.c with sent := [] ++ r.c.waiting} := by rw [h.sn]
    rw [e2] at this;have : mR n R {r.c with sent:=[]} (cmdS {r.c with sent:=[] ++ r.c.waiting} r.st ([] ++ r.c.waiting)) ≤ mR n R r.c r.st + 3 * n:=this;omega
  by_cases k : e.kind = 7
  · rw [ev7 k];obtain ⟨g1,g2⟩:=(canT7 k).1 (can_dev hc (by omega) (by omega)).2.2;have hA:=inv_out h.toInvA h0 (s:=r.st.getD e.dev.toNat psD) fun hn=>dev_skip (h.dv _ hn) g1;rw [set_self] at hA;have h1:=mR_adv P Q hA.ct hA.sn hA.sl;exact Int.le_trans (b:=mR n R r.c r.st) h1 (by omega)
  by_cases k : e.kind = 8
  · rw [ev8 k];have hb := ((can8 k).1 hc).2;have hbf : r.c.back = false := by simpa using hb
    have hc2:=h.ct.bk hb;have hc0:=(h.ct.sq.2.1 hbf);have hrd:=h.ct.rd;have em : mR n R {r.c with back:=true} r.st ≤ mR n R r.c r.st + 48:=by
      have e1 : measC R.length {r.c with back:=true} = r.c.round + 1:=by unfold measC;rw [if_pos rfl]
      have e2:=meas_pos h.ct;have e3 : 3 * (n : Int) * (r.c.round + 1) ≤ 48:=by
        have : 3 * (n : Int) * (r.c.round + 1) ≤ 12 * 4:=Int.mul_le_mul (by omega) (by omega) (by omega) (by omega);omega
      have e4 : 0 ≤ 3 * (n : Int) * measC R.length r.c:=Int.mul_nonneg (by omega) e2;unfold mR;rw [e1];show _ + sumN (fun d=>mS (r.c.known.getD d 0) _) n ≤ _;omega
    unfold abortC;rw [if_neg hb]
    by_cases hr : (R.length : Int) ≤ r.c.round
    · rw [start_no (c:={r.c with back:=true}) (.inr hr)];exact Int.le_trans (mR_adv P Q hc2 h.sn h.sl (st:=r.st)) (Int.le_trans em (by omega))
    · have h0 : 0 ≤ ({r.c with back := true} : Ctl).round := hc0.2;have h1 : ({r.c with back := true} : Ctl).round < R.length := by show r.c.round < _; omega
      unfold advA;rw [adv_stop (start_at P Q hc2 h0 h1).ne];exact Int.le_trans (mR_start P Q hc2 (st:=r.st) ⟨fun e=>(by cases e),fun _=>by show r.c.seq + r.c.round ≤ _;omega⟩ h.sn h.sl h0 h1) (Int.le_trans (Int.add_le_add_right em _) (by omega))
  · exact absurd (can_dev hc (by omega) (by omega)).2.2 (canT0 (by omega) (by omega) (by omega) (by omega) (by omega) (by omega))
theorem mR_new {vs : List Bool} (P : PlanOK vs.length R S) (Q : PlanS R S) (hn : vs.length ≤ 4) (hR : R.length ≤ 3) : mR vs.length R (newRS R S vs).c (newRS R S vs).st ≤ 60:=by
  have e0 : mR vs.length R (newC vs.length) (vs.map ps0) ≤ 36:=by
    have e1 : sumN (fun d=>mS ((newC vs.length).known.getD d 0) ((vs.map ps0).getD d psD)) vs.length = sumN (fun _=>0) vs.length:=sumN_eq fun d hd=>by
      show mS ((zerosP _).getD d 0) _ = 0;rw [zeros_at,List.getD_eq_getElem?_getD,List.getElem?_map,List.getElem?_eq_getElem hd];show mS 0 (ps0 vs[d]) = 0;have : pend (ps0 vs[d]) = 0:=by unfold pend;rw [if_neg fun h=>h.2.2 rfl]
      unfold mS;rw [this];rfl
    have e2 : sumN (fun _=>0) vs.length ≤ 0:=by
      have:=sumN_add (fun _=>0) 0 vs.length;have h2 : ∀ m,sumN (fun _=>0) m = 0:=fun m=>by induction m with
        | zero=>rfl
        | succ m ih=>rw [sumN,ih];rfl
      rw [h2];exact Int.le_refl _
    have e3 : measC R.length (newC vs.length) = R.length:=by unfold measC;rw [if_neg (by show ¬ false = true;decide)];show (R.length : Int) - 0 = _;omega
    have e4 : 3 * (vs.length : Int) * (R.length : Int) ≤ 12 * 3:=Int.mul_le_mul (by omega) (by omega) (by omega) (by omega);unfold mR;rw [e1,e3];omega
  unfold newRS
  by_cases hr : (R.length : Int) ≤ 0
  · rw [start_no (c:=newC vs.length) (.inr hr),sendS_nil (r:=⟨newC vs.length,vs.map ps0⟩) rfl];show mR vs.length R (newC vs.length) (vs.map ps0) ≤ 60;omega
  · have:=mR_start P Q newC_ok (st:=vs.map ps0) ⟨fun _=>Int.le_refl 0,fun h=>by cases h⟩ rfl (List.length_map _) (Int.le_refl 0) (by show (0 : Int) < _;omega);omega
theorem mR_nn (h : InvR n R S r) : 0 ≤ mR n R r.c r.st:=by
  have h1:=Int.mul_nonneg (show 0 ≤ 3 * (n : Int) by omega) (meas_pos h.ct);have h2:=sumN_nn (f:=fun d=>mS (r.c.known.getD d 0) (r.st.getD d psD)) (n:=n) fun d hd=>by
    have:=(h.dv d hd).ki;have:=pend_rng (r.st.getD d psD);show 0 ≤ mS _ _;unfold mS;split <;> omega
  unfold mR;omega
theorem doR_back (hk : calmK e.kind ∨ e.kind = 6) (P : PlanOK n R S) (h : CtlOK n R.length r.c) : (doR R S r e).c.back = r.c.back:=by
  show (evR R S r e).c.back = _
  rcases hk with (k | k | k | k) | k
  · rw [ev1 k];rfl
  · rw [ev2 k];rfl
  · rw [ev3 k];unfold recvS;show (if _ then helloC _ _ _ else ackC R S _ _ _ _).back = _
    split
    · unfold helloC;split <;> rfl
    · unfold ackC
      split
      · exact (advC_ok P 40 (c:={r.c with waiting:=r.c.waiting.filter fun y=>!(y == e.dev)}) ⟨h.tg,h.kn,h.wt.filt _,h.rd,h.sq⟩).2.2
      · rfl
  · rw [ev5 k];rfl
  · rw [ev6 k]
theorem settled (h : InvR n R S r) (hno : ∀ (k : Int) (d : Nat),calmK k → d < n → ¬ canR r ⟨k,d⟩) : finC R.length r.c ∧ ∀ d : Nat,d < n → (r.st.getD d psD).ag.up = true ∧ ¬ (r.st.getD d psD).ag.quar = true ∧ (r.st.getD d psD).ag.run = (S.getD (if r.c.back = true then 0 else R.length) []).getD d 0 ∧ (r.st.getD d psD).ag.sav = (S.getD (if r.c.back = true then 0 else R.length) []).getD d 0:=by
  have hct:=h.ct;have hsl:=h.sl;have can : ∀ (k : Int) (d : Nat),calmK k → d < n → ¬ canT r (r.st.getD d psD) ⟨k,d⟩:=fun k d hk hd q=>hno k d hk hd ((canI (e:=⟨k,d⟩) (by unfold calmK at hk;show ¬ k = 6;omega) (by unfold calmK at hk;show ¬ k = 8;omega) (by show (0 : Int) ≤ d;omega) (by show (d : Int) < _;omega)).2 q);have hup : ∀ d : Nat,d < n → (r.st.getD d psD).ag.up = true:=fun d hd=>Classical.byContradiction fun q=>can 5 d (.inr (.inr (.inr rfl))) hd ((canT5 rfl).2 q);have hcm : ∀ d : Nat,d < n → (r.st.getD d psD).cmd = []:=fun d hd=>List.eq_nil_of_length_eq_zero (by have:=can 1 d (.inl rfl) hd;rw [canT1 rfl] at this;omega);have hms : ∀ d : Nat,d < n → (r.st.getD d psD).msg = []:=fun d hd=>List.eq_nil_of_length_eq_zero (by have:=can 3 d (.inr (.inr (.inl rfl))) hd;rw [canT3 rfl] at this;omega);have hsv : ∀ d : Nat,d < n → (r.st.getD d psD).ag.run = (r.st.getD d psD).ag.sav:=fun d hd=>Classical.byContradiction fun q=>by
    have:=can 2 d (.inr (.inl rfl)) hd;rw [canT2 rfl] at this
    by_cases hv : (r.st.getD d psD).vol = true
    · exact this ⟨hv,hup d hd,q⟩
    · exact q ((h.dv d hd).nv hv)
  have hk : ∀ d : Nat,d < n → r.c.known.getD d 0 = (r.st.getD d psD).ag.inc:=fun d hd=>by
    have H:=h.dv d hd;have:=H.ki
    by_cases q : r.c.known.getD d 0 < (r.st.getD d psD).ag.inc
    · obtain ⟨m,hm,_⟩:=H.p2 (hup d hd) q;rw [hms d hd] at hm;cases hm
    · omega
  have hw : ∀ d : Nat,d < n → ¬ (d : Int) ∈ r.c.waiting:=fun d hd q=>by
    have H:=h.dv d hd
    rcases H.p1 q (hup d hd) (hk d hd) with ⟨x,hx,_⟩ | ⟨g1,g2⟩
    · rw [hcm d hd] at hx;cases hx
    · rcases H.p3 q (hup d hd) (hk d hd) g1 g2 with ⟨x, hx, _⟩ | g | ⟨m, hm, _⟩
      · rw [hcm d hd] at hx;cases hx
      · exact g (hsv d hd)
      · rw [hms d hd] at hm;cases hm
  have hwn : r.c.waiting.length = 0:=by
    cases hl : r.c.waiting with
    | nil=>rfl
    | cons x t =>
      have hx:=hct.wt.2 x (by rw [hl];exact List.mem_cons_self);exact absurd (show ((x.toNat : Nat) : Int) ∈ r.c.waiting by rw [show ((x.toNat : Nat) : Int) = x from by omega,hl];exact List.mem_cons_self) (hw x.toNat (by omega))
  have hf:=h.fin hwn;refine ⟨hf,fun d hd=>?_⟩;have H:=h.dv d hd;have hq:=H.p4 (hw d hd) (hup d hd) (hk d hd);obtain ⟨g1,g2⟩:=(H.rn (hup d hd) hq).2.2.2 (hw d hd);have e : r.c.target.getD d 0 = (S.getD (if r.c.back = true then 0 else R.length) []).getD d 0:=by
    rw [h.tg d hd];unfold tgV;have hf2:=hf.2
    by_cases hb : r.c.back = true
    · rw [if_pos hb,if_pos hb];rw [if_pos hb] at hf2;unfold loV;rw [hf2];rfl
    · rw [if_neg hb,if_neg hb];rw [if_neg hb] at hf2;rw [hi_end hf2]
  exact ⟨hup d hd,hq,g1.trans e,g2.trans e⟩
theorem mem_posD {k : Int} : ∀ {m : Nat} {x : Evt}, x ∈ posD r k m ↔ canR r x ∧ x.kind = k ∧ 0 ≤ x.dev ∧ x.dev < m
  | 0,x=>by
    constructor
    · intro h;cases h
    · rintro ⟨_,_,h1,h2⟩;omega
  | m + 1,x=>by
    rw [posD,List.mem_append,mem_posD]
    constructor
    · rintro (⟨h1, h2, h3, h4⟩ | h)
      · exact ⟨h1,h2,h3,by omega⟩
      · split at h
        · rename_i hc;obtain rfl:=List.mem_singleton.1 h;exact ⟨hc,rfl,by show (0 : Int) ≤ m;omega,by show (m : Int) < _;omega⟩
        · cases h
    · rintro ⟨h1, h2, h3, h4⟩
      by_cases e : x.dev = m
      · refine .inr ?_;have hx : x = ⟨k, (m : Int)⟩ := by cases x; cases h2; cases e; rfl
        rw [← hx,if_pos h1];exact List.mem_singleton.2 rfl
      · exact .inl ⟨h1,h2,h3,by omega⟩
theorem mem_posU {m : Nat} : ∀ {k : Nat} {x : Evt}, x ∈ posU r m k ↔ canR r x ∧ (1 ≤ x.kind ∧ x.kind ≤ k) ∧ 0 ≤ x.dev ∧ x.dev < m
  | 0,x=>by
    constructor
    · intro h;cases h
    · rintro ⟨_,⟨h1,h2⟩,_⟩;omega
  | k + 1,x=>by
    rw [posU,List.mem_append,mem_posU,mem_posD]
    constructor
    · rintro (⟨h1, h2, h3⟩ | ⟨h1, h2, h3⟩)
      · exact ⟨h1,⟨h2.1,by omega⟩,h3⟩
      · exact ⟨h1,⟨by omega,by omega⟩,h3⟩
    · rintro ⟨h1, h2, h3⟩
      by_cases e : x.kind = ((k + 1 : Nat) : Int)
      · exact .inr ⟨h1,e,h3⟩
      · exact .inl ⟨h1,⟨h2.1,by omega⟩,h3⟩
theorem mem_posR {x : Evt} : x ∈ posR r ↔ canR r x ∧ (1 ≤ x.kind ∧ x.kind ≤ 8) ∧ 0 ≤ x.dev ∧ x.dev < (r.st.length : Int):=mem_posU
end
def PlnI (st : Bool) (n : Int) (R : List (List Chg)) (now : List Int) : Prop:=(now.length = n.toNat ∧ ∀ k,0 ≤ now.getD k 0 ∧ now.getD k 0 ≤ 3) ∧ ∃ acc,∀ rs,stsA st n [zerosP n] (zerosP n) (R ++ rs) = stsA st n acc now rs
def RndI (st : Bool) (n : Int) (now : List Int) (l : List Chg) (last : Int) (cur : List Int) : Prop:=(cur.length = n.toNat ∧ ∀ k,0 ≤ cur.getD k 0 ∧ cur.getD k 0 ≤ 3) ∧ ∀ rest,rndP st n (-1) now (l ++ rest) = rndP st n last cur rest
theorem zerosP_le (n : Int) (k : Nat) : 0 ≤ (zerosP n).getD k 0 ∧ (zerosP n).getD k 0 ≤ 3:=by
  unfold zerosP;rw [List.getD_eq_getElem?_getD,List.getElem?_replicate]
  split <;> decide
theorem PlnI.init (st : Bool) (n : Int) : PlnI st n [] (zerosP n):=⟨⟨by simp [zerosP],zerosP_le n⟩,_,fun _=>rfl⟩
theorem RndI.init {st : Bool} {n : Int} {now : List Int} {R : List (List Chg)} (h : PlnI st n R now) : RndI st n now [] (-1) now:=⟨h.1,fun _=>rfl⟩
theorem getD_set_le {l : List Int} {d k : Nat} {v : Int} (h : ∀ k,0 ≤ l.getD k 0 ∧ l.getD k 0 ≤ 3) (h0 : 0 ≤ v) (hv : v ≤ 3) : 0 ≤ (l.set d v).getD k 0 ∧ (l.set d v).getD k 0 ≤ 3:=by
  have:=h k;rw [List.getD_eq_getElem?_getD] at this ⊢;rw [List.getElem?_set]
  split
  · split <;> simp [h0,hv]
  · exact this
theorem RndI.step {st : Bool} {n last d v : Int} {now cur : List Int} {l : List Chg} (h : RndI st n now l last cur) (hl : -1 ≤ last) (h1 : last < d) (h2 : d < n) (h3 : cur.getD d.toNat 0 < v) (h4 : v ≤ 3) (h5 : ¬ st = true → v = 3) : RndI st n now (l ++ [⟨d,v⟩]) d (cur.set d.toNat v) :=
  ⟨⟨by rw [List.length_set];exact h.1.1,fun k=>getD_set_le h.1.2 (by have:=(h.1.2 d.toNat).1;omega) h4⟩,fun rest=>by
    rw [List.append_assoc,List.singleton_append,h.2]
    exact rndP_go (c:=⟨d,v⟩) (by
      show ¬ (d ≤ last ∨ n ≤ d ∨ v ≤ cur.getD d.toNat 0 ∨ 3 < v ∨ (¬ st = true ∧ v ≠ 3));rintro (q | q | q | q | q)
      · omega
      · omega
      · omega
      · omega
      · exact q.2 (h5 q.1))⟩
theorem RndI.nil {st : Bool} {n last : Int} {now cur : List Int} (h : RndI st n now [] last cur) : cur = now:=by
  have:=h.2 [];rw [List.append_nil,rndP,rndP] at this;exact (Option.some.inj this).symm
theorem PlnI.step {st : Bool} {n last : Int} {R : List (List Chg)} {now cur : List Int} {l : List Chg} (h : PlnI st n R now) (hr : RndI st n now l last cur) (h0 : l.length ≠ 0) : PlnI st n (R ++ [l]) cur:=by
  obtain ⟨acc,ha⟩:=h.2;refine ⟨hr.1,acc ++ [cur],fun rs=>?_⟩;rw [List.append_assoc,List.singleton_append,ha,stsA,if_neg h0];have:=hr.2 [];rw [List.append_nil] at this;rw [this,rndP]
theorem PlnI.some {st : Bool} {n : Int} {R : List (List Chg)} {now : List Int} (h : PlnI st n R now) (hn : 1 ≤ n ∧ n ≤ 12) : (statesP st R n).isSome = true:=by
  obtain ⟨acc,ha⟩:=h.2;have:=ha [];rw [List.append_nil,stsA] at this;unfold statesP;rw [if_neg (by omega),this];rfl
def planG (p : Plan) (n : Int) : Prop:=goodP p n ∧ p.rounds.xs.length ≤ 3 ∧ ∀ x ∈ p.rounds.xs,0 < x.xs.length
section
variable {sg : Bool} {R : List (List Chg)} {S : List (List Int)} {n B : Nat} {x x1 : Run} {y y1 : RunR} {e : Evt}
structure Two (sg : Bool) (R : List (List Chg)) (S : List (List Int)) (n B : Nat) (x : Run) (y : RunR) : Prop where
  a : RunAt R S n B x
  b : QAt R S n B y
  e : absRR y = absR x
  g : y.b.2.staged = sg
theorem RunAt.mono {B' : Nat} (h : RunAt R S n B x) (hB : B ≤ B') : RunAt R S n B' x:=⟨ROK.mono h.ok hB,h.s0,h.rd,h.st,h.tn⟩
theorem QAt.mono {B' : Nat} (h : QAt R S n B y) (hB : B ≤ B') : QAt R S n B' y:=⟨⟨h.ok.1,ROK.mono h.ok.2 hB⟩,h.s0,h.rd,h.st,h.tn⟩
theorem Two.mono {B' : Nat} (h : Two sg R S n B x y) (hB : B ≤ B') : Two sg R S n B' x y:=⟨h.a.mono hB,h.b.mono hB,h.e,h.g⟩
def DoX (x x1 : Run) (e : Evt) : Prop:=(canR (absR x) e → KeepR x x1 ∧ absR x1 = doR (rdsM x.m.2) (stsM x.m.2) (absR x) e) ∧ (¬ canR (absR x) e → x1 = x)
def DoY (y y1 : RunR) (e : Evt) : Prop:=(canR (absRR y) e → KeepQ y y1 ∧ absRR y1 = doR (rdB y.b.2) (stB y.b.2) (absRR y) e) ∧ (¬ canR (absRR y) e → y1 = y)
theorem RunAt.step (h : RunAt R S n B x) (hx : DoX x x1 e) : RunAt R S n (B + 1001) x1 ∧ (canR (absR x) e → absR x1 = doR R S (absR x) e) ∧ (¬ canR (absR x) e → x1 = x):=by
  by_cases hc : canR (absR x) e
  · obtain ⟨k1,k2⟩:=hx.1 hc;exact ⟨h.go hc k1 k2,fun _=>by rw [k2,h.rd,h.st],fun q=>absurd hc q⟩
  · have:=hx.2 hc;subst this;exact ⟨h.mono (by omega),fun q=>absurd q hc,fun _=>rfl⟩
theorem QAt.step (h : QAt R S n B y) (hy : DoY y y1 e) : QAt R S n (B + 1001) y1 ∧ (canR (absRR y) e → absRR y1 = doR R S (absRR y) e ∧ y1.b.2.staged = y.b.2.staged) ∧ (¬ canR (absRR y) e → y1 = y):=by
  by_cases hc : canR (absRR y) e
  · obtain ⟨k1,k2⟩:=hy.1 hc;exact ⟨h.go hc k1 k2,fun _=>⟨by rw [k2,h.rd,h.st],k1.2.2.1⟩,fun q=>absurd hc q⟩
  · have:=hy.2 hc;subst this;exact ⟨h.mono (by omega),fun q=>absurd q hc,fun _=>rfl⟩
theorem Two.step (h : Two sg R S n B x y) (hx : DoX x x1 e) (hy : DoY y y1 e) : Two sg R S n (B + 1001) x1 y1:=by
  obtain ⟨a1,a2,a3⟩:=h.a.step hx;obtain ⟨b1,b2,b3⟩:=h.b.step hy
  by_cases hc : canR (absR x) e
  · have hc' : canR (absRR y) e := by rw [h.e]; exact hc
    refine ⟨a1,b1,?_,(b2 hc').2.trans h.g⟩;rw [(b2 hc').1,a2 hc,h.e]
  · have hc' : ¬ canR (absRR y) e := by rw [h.e]; exact hc
    have:=a3 hc;have:=b3 hc';subst x1 y1;exact ⟨a1,b1,h.e,h.g⟩
structure Beg (sg : Bool) (R : List (List Chg)) (S : List (List Int)) (n : Nat) (x : Run) (y : RunR) : Prop where
  P : PlanOK n R S
  Q : PlanS R S
  n1 : 1 ≤ n
  n4 : n ≤ 4
  R3 : R.length ≤ 3
  st : statesP sg R n = some S
  T : Two sg R S n 1000 x y
  I : InvR n R S (absR x)
  M : mR n R (absR x).c (absR x).st ≤ 60
def Begun (x : Run) (y : RunR) : Prop:=∃ (sg : Bool) (R : List (List Chg)) (S : List (List Int)) (n : Nat),Beg sg R S n x y
theorem begun {p : Plan} {vs : List Bool} (hg : planG p vs.length) (h1 : 1 ≤ vs.length) (h4 : vs.length ≤ 4) (hx : RunAt (rdsP p) (stsD (statesP p.staged (rdsP p) vs.length)) vs.length 1000 x ∧ absR x = newRS (rdsP p) (stsD (statesP p.staged (rdsP p) vs.length)) vs)
    (hy : (QAt (rdsP p) (stsD (statesP p.staged (rdsP p) vs.length)) vs.length 1000 y ∧ y.b.2.staged = p.staged) ∧ absRR y = newRS (rdsP p) (stsD (statesP p.staged (rdsP p) vs.length)) vs) : Begun x y:=by
  obtain ⟨⟨g1,g2⟩,g3,g4⟩:=hg;obtain ⟨S,hS⟩:=Option.isSome_iff_exists.1 g1;have hl : (rdsP p).length ≤ 3:=by rw [rdsP_len];exact g3
  obtain ⟨_,P,_⟩:=statesP_ok hS (by omega);have Q:=planS_of hS (by omega);rw [hS] at hx hy;have P : PlanOK vs.length (rdsP p) S:=P;refine ⟨p.staged,rdsP p,S,vs.length,P,Q,h1,h4,hl,hS,⟨hx.1,hy.1.1,hy.2.trans hx.2.symm,hy.1.2⟩,?_,?_⟩
  · rw [hx.2];exact inv_new P Q
  · rw [hx.2];exact mR_new P Q h4 hl
structure Run2 (sg : Bool) (R : List (List Chg)) (S : List (List Int)) (n k : Nat) (x : Run) (y : RunR) : Prop where
  T : Two sg R S n (1000 + 1001 * k) x y
  I : InvR n R S (absR x)
  M : mR n R (absR x).c (absR x).st ≤ 60 + 60 * k
theorem Beg.two (h : Beg sg R S n x y) : Run2 sg R S n 0 x y:=⟨h.T,h.I,by have:=h.M;omega⟩
theorem Run2.step {x0 : Run} {y0 : RunR} {k : Nat} (h : Run2 sg R S n k x y) (H : Beg sg R S n x0 y0) (hx : DoX x x1 e) (hy : DoY y y1 e) : Run2 sg R S n (k + 1) x1 y1:=by
  have hT:=h.T.step hx hy;obtain ⟨a1,a2,a3⟩:=h.T.a.step hx;refine ⟨hT.mono (by omega),?_,?_⟩
  · by_cases hc : canR (absR x) e
    · rw [a2 hc];exact inv_do H.P H.Q h.I hc
    · rw [a3 hc];exact h.I
  · have hM := h.M
    by_cases hc : canR (absR x) e
    · rw [a2 hc];have:=mR_any H.P H.Q h.I H.n4 H.R3 hc;omega
    · rw [a3 hc];omega
theorem Run2.sm {x0 : Run} {y0 : RunR} {k : Nat} (h : Run2 sg R S n k x y) (H : Beg sg R S n x0 y0) (hk : k ≤ 1000) (hx : DoX x x1 e) (hy : DoY y y1 e) : RunOK 8000000 x1 ∧ RRunOK 8000000 y1 ∧ absRR y1 = absR x1 ∧ rdB y1.b.2 = rdsM x1.m.2:=by
  have hT:=(h.step H hx hy).T;exact ⟨ROK.mono hT.a.ok (by omega),⟨hT.b.ok.1,ROK.mono hT.b.ok.2 (by omega)⟩,hT.e,hT.b.rd.trans hT.a.rd.symm⟩
theorem RunAt.ok7 (h : RunAt R S n B x) (hB : B ≤ 7000000) : RunOK 7000000 x ∧ SnOK x.m.2.target.xs.length 0 (absR x).c:=⟨ROK.mono h.ok hB,by rw [h.tn];exact h.s0⟩
theorem QAt.ok7 (h : QAt R S n B y) (hB : B ≤ 7000000) : RRunOK 7000000 y:=⟨h.ok.1,ROK.mono h.ok.2 hB⟩
theorem RRunOK.ev {B : Nat} (h : RRunOK B y) : LenR y ∧ y.b.2.waiting.xs.length ≤ 1000 ∧ y.ag.xs.length ≤ 12:=by
  have h12:=h.2.n2;have hw : y.b.2.waiting.xs.length ≤ y.ag.xs.length:=h.2.ct.wt.len;exact ⟨h.1,by omega,h12⟩
theorem RunAt.len (h : RunAt R S n B x) : x.sts.xs.length = n:=by
  have h1:=h.ok.sl;have h2 : (absR x).st.length = x.sts.xs.length:=List.length_map _;have:=h.tn;omega
end
open Go.RowKit Go.Proofs.Ytobggnpnochnnaa
theorem gPlan (w : World) (F : Nat → Prop) (hF : Old F w) (T : Nat) (M : MS [one T] w) (T_l : Sl Int) (T_w : (slE intE).wf (Fr F [one T]) w.heap T_l) (T_K : TpB 112 T T_l w) (n : Int) (n_h : inI64 n) (hn : 1 ≤ n ∧ n ≤ 12) :
 Calls Try.prog 30 #[pT T 0,iI n] w fun e w'=>∃ (r : Plan),e = .returned (.agg (planE.cells r).toArray) ∧ planE.wf (Fr F [one T]) w'.heap r ∧ planG r n ∧ TpB 112 T T_l w' ∧ Tr [one T] w [one T] w':=by
 obtain ⟨n_hl,n_hu⟩ : inI64 n:=id n_h;refine go Try.func30 rfl 73 rfl [wfF (slE intE) T_l] [tpO 112 T T_l] hF M ⟨T_w,trivial⟩ ⟨T_K,trivial⟩ ?_;intro a S;refine rs0 ?_;refine nbp S (x_allocz _ iZ47 rfl) ?_;clear S;intro a u b4 S;refine ent (rs0 ?_);refine sp S (la (mv rfl)) ?_;clear S;intro a u S;refine cl S (gNext _ _ S.x T (S.M.pick [0] (by decide)) T_l (dn1 (js:=[0]) (S.u 0 rfl)) (S.t 0 rfl) 2 ⟨by omega,by omega⟩) cB26 ?_;rintro e u ⟨r_t12,rfl,hr_t12,tK,T0⟩;refine ⟨_,rfl,fun a s=>?_⟩;replace S:=S.k1 0 rfl s T0 tK;clear s T0 tK;refine sp S (la (eqli rfl rfl)) ?_;clear S;intro a u S;obtain ⟨bv13,hbv13⟩ : ∃ b : Bool,(b = true) ↔ (r_t12 = 0):=⟨decide (r_t12 = 0),by simp⟩;replace S:=S.ext (d:=13) (v:=bD (bv13 = true)) ((S.get 13 rfl).trans (vb hbv13.symm));refine sp S (la (ov fun S=>x_bd S [(0,bD (bv13 = true))] [bD (bv13 = true),.slice none 0 0])) ?_;clear S;intro a u S;refine nbp S (x_allocz _ iZ47 rfl) ?_;clear S;intro a u b5 S;refine ens S (la (stkw 2 rfl rfl rfl)) ?_;clear S;intro a u S;refine rs0 ?_;refine sp S (la (mv rfl)) ?_;clear S;intro a u S;refine mk (E:=intE) S (0 : Int) (n).toNat uT22 iZ3 rfl rfl bo bo bo (by unfold maxLen;omega) (fun _ _=>by first | exact ⟨by omega,by omega⟩ | trivial | exact sl_nil) ?_;clear S;intro a u ad16 S;have hrl16 : (List.replicate (n).toNat (0 : Int)).length = (n).toNat:=List.length_replicate;refine ens S (la (av rfl)) ?_;clear S;intro a u S;refine wp_seq (rs0 ?_);refine sp S (la (mv rfl)) ?_;clear S;intro a u S;refine cl S (gNext _ _ S.x T (S.M.pick [0] (by decide)) T_l (dn1 (js:=[0]) (S.u 0 rfl)) (S.t 0 rfl) 4 ⟨by omega,by omega⟩) cB26 ?_;rintro e u ⟨r_t18,rfl,hr_t18,tK,T0⟩;refine ⟨_,rfl,fun a s=>?_⟩;replace S:=S.k1 0 rfl s T0 tK;clear s T0 tK;refine ens S (la (av rfl)) ?_;clear S;intro a u S;refine wp_block ?_;replace S:=S.nr (slE chgE) 122;refine lp7 (fun (r : Int) (rd_a : Option Addr) (rd_c : Nat) (rd : List (Sl Chg)) (now_a : Option Addr) (now_c : Nat) (now : List Int)=>[(0,pT T 0),(1,iI n),(4,pT b4 0),(5,pT b5 0),(6,.slice now_a now.length now_c),(7,iI r)]) (fun (r : Int) (rd_a : Option Addr) (rd_c : Nat) (rd : List (Sl Chg)) (now_a : Option Addr) (now_c : Nat) (now : List Int)=>[tpO 112 T T_l,blO b4 [.bool false,.slice none 0 0] 47,blO b5 [bD (bv13 = true),.slice rd_a rd.length rd_c] 47,rwO intE 3 w.heap.size now_a now_c now,rwO (slE chgE) 122 w.heap.size rd_a rd_c rd]) (fun (r : Int) (rd_a : Option Addr) (rd_c : Nat) (rd : List (Sl Chg)) (now_a : Option Addr) (now_c : Nat) (now : List Int)=>(0 ≤ r ∧ r ≤ 3) ∧ (rd.length : Int) + r ≤ 3 ∧ PlnI bv13 n (rd.map fun l=>l.xs) now ∧ ∀ x ∈ rd,0 < x.xs.length) (fun (r : Int) (rd_a : Option Addr) (rd_c : Nat) (rd : List (Sl Chg)) (now_a : Option Addr) (now_c : Nat) (now : List Int)=>r.toNat) S r_t18 none 0 ([]) ad16 ((n).toNat) (List.replicate (n).toNat (0 : Int)) (subM rfl) rfl ?_ ?_
 ·exact ⟨⟨by omega,by omega⟩,by simp;omega,PlnI.init _ n,fun x h=>by cases h⟩
 clear S;intro r rd_a rd_c rd now_a now_c now a u S hR;have rd_len:=(S.row 4 rfl).len_le;simp only [maxLen] at rd_len;have now_len:=(S.row 3 rfl).len_le;simp only [maxLen] at now_len;obtain ⟨⟨hr0,hr3⟩,hrl,hP,hne⟩:=hR;refine wp_seq ?_;refine rs S (tr (mv rfl)<|la (gtri rfl rfl)) ?_;clear S;intro a u S;refine cd S rfl ?_ ?_
 ·intro hc0;refine wp_skip (then_n (wp_seq (wp_block ?_)));refine rs S (la (av rfl)) ?_; clear S; intro a u S;refine wp_seq ?_;refine rs S (la (av rfl)) ?_; clear S; intro a u S;refine wp_block ?_;replace S := S.nr chgE 124;refine lp8 (fun (d : Nat) (ls : Int) (l_a : Option Addr) (l_c : Nat) (l : List Chg) (cur_a : Option Addr) (cur_c : Nat) (cur : List Int) => [(0, pT T 0), (1, iI n), (4, pT b4 0), (5, pT b5 0), (6, .slice cur_a cur.length cur_c), (7, iI r), (19, iI r), (20, bD (0 < r)), (9, iN d), (8, .slice l_a l.length l_c)]) (fun (d : Nat) (ls : Int) (l_a : Option Addr) (l_c : Nat) (l : List Chg) (cur_a : Option Addr) (cur_c : Nat) (cur : List Int) => [tpO 112 T T_l, blO b4 [.bool false, .slice none 0 0] 47, blO b5 [bD (bv13 = true), .slice rd_a rd.length rd_c] 47, rwO intE 3 w.heap.size cur_a cur_c cur, rwO (slE chgE) 122 w.heap.size rd_a rd_c rd, rwO chgE 124 w.heap.size l_a l_c l]) (fun (d : Nat) (ls : Int) (l_a : Option Addr) (l_c : Nat) (l : List Chg) (cur_a : Option Addr) (cur_c : Nat) (cur : List Int) => (d : Int) ≤ n ∧ (-1 ≤ ls ∧ ls < d) ∧ (l.length : Int) ≤ d ∧ RndI bv13 n now l ls cur) (fun (d : Nat) (ls : Int) (l_a : Option Addr) (l_c : Nat) (l : List Chg) (cur_a : Option Addr) (cur_c : Nat) (cur : List Int) => (n - d).toNat) S 0 (-1) none 0 ([]) now_a now_c now (subM rfl) rfl ?_ ?_
  ·exact ⟨by omega,⟨by omega,by omega⟩,by simp,RndI.init hP⟩
  clear S;intro d ls l_a l_c l cur_a cur_c cur a u S hR;have l_len:=(S.row 5 rfl).len_le;simp only [maxLen] at l_len;have cur_len:=(S.row 3 rfl).len_le;simp only [maxLen] at cur_len;obtain ⟨hd,⟨hla0,hla1⟩,hll,hI⟩:=hR;have hcl2:=hI.1.1;have hcu : ∀ k,0 ≤ cur.getD k intE.dflt ∧ cur.getD k intE.dflt ≤ 3:=hI.1.2;refine wp_seq ?_;refine rs S (tr (mv rfl)<|tr (mv rfl)<|la (lssi rfl rfl)) ?_;clear S;intro a u S;refine cd S rfl ?_ ?_
  ·intro hc1;have hcd := hcu d;refine wp_skip (then_n (wp_seq (wp_block (wp_seq (rs0 ?_)))));obtain ⟨hl10, hu10⟩ : inI64 (cur.getD d intE.dflt) := id ((S.row 3 rfl).wfi d bo);refine sp S (tr (mv rfl)<|tr (mv rfl)<|tr (ov fun S=>x_idx uT22 sZ3 (S.e rfl) (S.e rfl) d rfl bo (row_off (S.row 3 rfl) (m := d) bo))<|tr (ov fun S=>x_load sC3 (S.e rfl) (((S.row 3 rfl).latz nz).cell d bo 0 _ rfl))<|tr (eqli rfl rfl)<|la (mv rfl)) ?_; clear S; intro a u S;refine (Classical.em ((cur.getD d intE.dflt) = 3)).elim (fun hs11 => ?_) (fun hs11 => ?_)
   ·replace S := S.ext (d := 33) (v := .bool true) ((S.get 33 rfl).trans (congrArg Value.bool (decide_eq_true hs11)));refine ens S (tr (goff 33 rfl)<|tr (goff 33 rfl)<|tr (goff 33 rfl)<|la (ov fun S=>x_pickt (S.e rfl) (S.e rfl))) ?_; clear S; intro a u S;refine cdt S rfl ?_;refine wp_exit (then_e (blk_e (then_n ?_)));refine rg S (tr (mv rfl)<|tr (addi ((d + 1 : Nat) : Int) rfl rfl (w_i64 bo))<|la (av rfl)) ?_; clear S; intro a u S;refine then_n ?_;refine ⟨(d + 1), ls, l_a, l_c, l, cur_a, cur_c, cur, S.re (subM rfl) rfl rfl, ?_, ?_⟩
    ·first
     | exact ⟨by omega,⟨by omega,by omega⟩,by omega,hI⟩
     | (refine ⟨by omega, ⟨by omega, by omega⟩, by rw [List.length_append, List.length_singleton]; omega, ?_⟩
        have hcd0 : cur.getD ((d : Int)).toNat 0 = cur.getD d intE.dflt:=rfl
        exact RndI.step (d:=(d : Int)) hI hla0 hla1 bo (by rw [hcd0];omega) bo (fun q=>by first | rfl | exact absurd hsg q))
    omega
   replace S:=S.ext (d:=33) (v:=.bool false) ((S.get 33 rfl).trans (congrArg Value.bool (decide_eq_false hs11)));refine sp S (la (gon 33 rfl fun S=>x_move (S.e rfl))) ?_;clear S;intro a u S;refine strip S.s rfl rfl (gd:=33) rfl ?_;refine cl S (gNext _ _ S.x T (S.M.pick [0] (by decide)) T_l (dn1 (js:=[0]) (S.u 0 rfl)) (S.t 0 rfl) 2 ⟨by omega,by omega⟩) cB26 ?_;rintro e u ⟨r_t35,rfl,hr_t35,tK,T0⟩;refine ⟨_,rfl,fun a s=>?_⟩;replace S:=S.k1 0 rfl s T0 tK;clear s T0 tK;refine ens S (tr (gon 33 rfl fun S=>x_eql (S.e rfl) (S.e rfl))<|la (ov fun S=>x_pickf (S.e rfl) (S.e rfl))) ?_;clear S;intro a u S;refine cd S rfl ?_ ?_
   ·intro hc2;refine wp_exit (then_e (blk_e (then_n ?_)));refine rg S (tr (mv rfl)<|tr (addi ((d + 1 : Nat) : Int) rfl rfl (w_i64 bo))<|la (av rfl)) ?_; clear S; intro a u S;refine then_n ?_;refine ⟨(d + 1), ls, l_a, l_c, l, cur_a, cur_c, cur, S.re (subM rfl) rfl rfl, ?_, ?_⟩
    ·first
     | exact ⟨by omega,⟨by omega,by omega⟩,by omega,hI⟩
     | (refine ⟨by omega, ⟨by omega, by omega⟩, by rw [List.length_append, List.length_singleton]; omega, ?_⟩
        have hcd0 : cur.getD ((d : Int)).toNat 0 = cur.getD d intE.dflt:=rfl
        exact RndI.step (d:=(d : Int)) hI hla0 hla1 bo (by rw [hcd0];omega) bo (fun q=>by first | rfl | exact absurd hsg q))
    omega
   intro hc3;refine wp_skip (then_n ?_);refine rs S (la (av rfl)) ?_;clear S;intro a u S;refine wp_seq ?_;refine rs S (tr (fldi 0 0 rfl uT47)<|la (ldk 2 sC4 rfl rfl rfl)) ?_;clear S;intro a u S;refine cd S rfl ?_ ?_
   ·intro hc4;have hsg := hc4;replace S := S.l [(0, pT T 0), (1, iI n), (4, pT b4 0), (5, pT b5 0), (6, .slice cur_a cur.length cur_c), (7, iI r), (19, iI r), (20, bD (0 < r)), (9, iN d), (8, .slice l_a l.length l_c)] (subM rfl);refine dr (P := Try.prog) S 14 [one T] [(40, .is _), (41, .is _), (42, .is _), (43, .is _), (44, .is _), (45, .is _), (46, .is _), (47, .is _), (48, .is _), (49, .is _), (50, .is _), (51, .of (fun z w => ∃ (x51a : Int), z = iI x51a ∧ (0 ≤ x51a ∧ (x51a < (3 - (cur.getD d intE.dflt)) ∨ x51a = 0))) (fun v w w' c h => let ⟨x51a, hv, h0⟩ := h; ⟨x51a, hv, h0⟩)), (52, .of (fun z w => ∃ (x51a : Int), z = iI (((cur.getD d intE.dflt) + 1) + x51a) ∧ (0 ≤ x51a ∧ (x51a < (3 - (cur.getD d intE.dflt)) ∨ x51a = 0))) (fun v w w' c h => let ⟨x51a, hv, h0⟩ := h; ⟨x51a, hv, h0⟩)), (10, .of (fun z w => ∃ (x51a : Int), z = iI (((cur.getD d intE.dflt) + 1) + x51a) ∧ (0 ≤ x51a ∧ (x51a < (3 - (cur.getD d intE.dflt)) ∨ x51a = 0))) (fun v w w' c h => let ⟨x51a, hv, h0⟩ := h; ⟨x51a, hv, h0⟩))] [[], [], [40, 41], [42], [43], [], [], [], [46, 47], [48], [49], [45, 50], [44, 51], [52]] [10] _ ⟨qd (mv rfl), qd (mv rfl), qd (ov fun S=>x_idx uT22 sZ3 (S.e rfl) (S.e rfl) d rfl bo (row_off (S.row 3 rfl) (m := d) bo)), qd (ov fun S=>x_load sC3 (S.e rfl) (((S.row 3 rfl).latz nz).cell d bo 0 _ rfl)), qd (addi ((cur.getD d intE.dflt) + 1) rfl rfl (w_i64 bo)), qd (mv rfl), qd (mv rfl), qd (mv rfl), qd (ov fun S=>x_idx uT22 sZ3 (S.e rfl) (S.e rfl) d rfl bo (row_off (S.row 3 rfl) (m := d) bo)), qd (ov fun S=>x_load sC3 (S.e rfl) (((S.row 3 rfl).latz nz).cell d bo 0 _ rfl)), qd (subi (3 - (cur.getD d intE.dflt)) rfl rfl (w_i64 bo)), ?_, ?_, ?_, trivial⟩ ?_
    ·skip;intro a u S G hE;refine hcl S (gNext _ _ S.x T (S.M.pick [0] (by decide)) T_l (dn1 (js:=[0]) (S.u 0 rfl)) (S.t 0 rfl) (3 - (cur.getD d intE.dflt)) ⟨by omega,by omega⟩) cB26 ?_;rintro e w2 ⟨r_h51,rfl,hr_h51,tK,T0⟩;refine ⟨_,rfl,(show ∃ _,_ from ?_),T0.ch,(S.k1 0 rfl S.s T0 tK).m⟩;exact ⟨r_h51,rfl,hr_h51⟩
    ·skip;intro a u S G hE;obtain ⟨e51,-⟩:=hE;have M0:=S.m;obtain ⟨x51_16,e51,hr16⟩:=e51;replace S:=S.ext e51;exact hvl 52 S M0 (v:=iI (((cur.getD d intE.dflt) + 1) + x51_16)) (x_add (S.e rfl) (S.e rfl) (r:=(((cur.getD d intE.dflt) + 1) + x51_16)) (w_i64 bo)) (show ∃ _,_ from ⟨x51_16,rfl,hr16⟩)
    ·skip;intro a u S G hE;obtain ⟨e52,-⟩:=hE;have M0:=S.m;obtain ⟨x51_17,e52,hr17⟩:=e52;replace S:=S.ext e52;exact hvl 10 S M0 (v:=iI (((cur.getD d intE.dflt) + 1) + x51_17)) (x_assign (S.e rfl)) (show ∃ _,_ from ⟨x51_17,rfl,hr17⟩)
    clear S;intro a u S G hE;obtain ⟨e10,-⟩:=hE;obtain ⟨x51_18,e10,hr18⟩:=e10;replace S:=S.ext e10;clear e10;refine ent (rs0 ?_);refine sp S (tr (mv rfl)<|tr (mv rfl)<|tr (mv rfl)<|la (ov fun S=>x_idx uT22 sZ3 (S.e rfl) (S.e rfl) d rfl bo (row_off (S.row 3 rfl) (m:=d) bo))) ?_;clear S;intro a u S;refine sp S (la (str (E:=intE) 3 (by kernel_rfl) rfl rfl rfl d 0 bo nz (((cur.getD d intE.dflt) + 1) + x51_18) (fun S=>(show inI64 (((cur.getD d intE.dflt) + 1) + x51_18) from ⟨by omega,by omega⟩)) rfl (by first | rfl | (show _ = _ * 1 + 0;omega) | (simp [intE];omega) | simp [intE]) rfl)) ?_;clear S;intro a u S;have hls20 : (cur.set d (((cur.getD d intE.dflt) + 1) + x51_18)).length = cur.length:=by simp
    refine ent (r0 ?_);refine sp S (tr (mv rfl)<|tr (mv rfl)<|tr (mv rfl)<|la (ov fun S=>x_bd S [(0,iN d),(1,iI (((cur.getD d intE.dflt) + 1) + x51_18))] [iN d,iI (((cur.getD d intE.dflt) + 1) + x51_18)])) ?_;clear S;intro a u S;refine nbs chgE S [(⟨((d : Nat) : Int),(((cur.getD d intE.dflt) + 1) + x51_18)⟩ : Chg)] (x_bs S [(0,.agg #[iN d,iI (((cur.getD d intE.dflt) + 1) + x51_18)])] uT122 iZ124) (fun x hx=>by simp only [List.mem_cons,List.not_mem_nil,or_false] at hx;rw [hx];exact (show chgE.wf _ _ (⟨((d : Nat) : Int),(((cur.getD d intE.dflt) + 1) + x51_18)⟩ : Chg) from ⟨(show inI64 ((d : Nat) : Int) from ⟨by omega,by omega⟩),(show inI64 (((cur.getD d intE.dflt) + 1) + x51_18) from ⟨by omega,by omega⟩)⟩)) ?_;clear S;intro a u b61 S;refine ap (E:=chgE) (ys:=[(⟨((d : Nat) : Int),(((cur.getD d intE.dflt) + 1) + x51_18)⟩ : Chg)]) S 5 rfl uT122 iZ124 rfl rfl (show LAt chgE _ _ (some ⟨b61,0,none⟩) ([(⟨((d : Nat) : Int),(((cur.getD d intE.dflt) + 1) + x51_18)⟩ : Chg)]) from ((S.u 1 rfl)).1) ((S.u 1 rfl)).2.2 (LAt.mem (show LAt chgE _ _ (some ⟨b61,0,none⟩) ([(⟨((d : Nat) : Int),(((cur.getD d intE.dflt) + 1) + x51_18)⟩ : Chg)]) from ((S.u 1 rfl)).1)) ⟨by unfold maxLen;(try simp only [List.length_cons,List.length_nil,List.length_append,List.length_map]);omega,by (try simp only [List.length_cons,List.length_nil,List.length_append,List.length_map]);omega⟩ ?_;clear S;intro a u ad62 cap62 S;refine en S (la (av rfl)) ?_;clear S;intro a u S;refine blk_n (then_n ?_);refine rg S (tr (mv rfl)<|tr (addi ((d + 1 : Nat) : Int) rfl rfl (w_i64 bo))<|la (av rfl)) ?_;clear S;intro a u S;refine then_n ?_;refine ⟨(d + 1),(d : Int),ad62,cap62,(l ++ [(⟨((d : Nat) : Int),(((cur.getD d intE.dflt) + 1) + x51_18)⟩ : Chg)]),cur_a,cur_c,(cur.set d (((cur.getD d intE.dflt) + 1) + x51_18)),S.re ⟨rfl,rfl,rfl,rfl,(by first | rfl | (simp only [List.length_set];rfl)),rfl,rfl,rfl,rfl,(by first | rfl | (simp only [List.length_set];rfl)),trivial⟩ rfl rfl,?_,?_⟩
    ·first
     | exact ⟨by omega,⟨by omega,by omega⟩,by omega,hI⟩
     | (refine ⟨by omega, ⟨by omega, by omega⟩, by rw [List.length_append, List.length_singleton]; omega, ?_⟩
        have hcd0 : cur.getD ((d : Int)).toNat 0 = cur.getD d intE.dflt:=rfl
        exact RndI.step (d:=(d : Int)) hI hla0 hla1 bo (by rw [hcd0];omega) bo (fun q=>by first | rfl | exact absurd hsg q))
    omega
   intro hc5;have hsg:=hc5;refine wp_skip (then_n (rs0 ?_));refine sp S (tr (mv rfl)<|tr (mv rfl)<|tr (mv rfl)<|la (ov fun S=>x_idx uT22 sZ3 (S.e rfl) (S.e rfl) d rfl bo (row_off (S.row 3 rfl) (m:=d) bo))) ?_;clear S;intro a u S;refine sp S (la (str (E:=intE) 3 (by kernel_rfl) rfl rfl rfl d 0 bo nz 3 (fun S=>(show inI64 3 from ⟨by omega,by omega⟩)) rfl (by first | rfl | (show _ = _ * 1 + 0;omega) | (simp [intE];omega) | simp [intE]) rfl)) ?_;clear S;intro a u S;have hls24 : (cur.set d 3).length = cur.length:=by simp
   refine ent (r0 ?_);refine sp S (tr (mv rfl)<|tr (mv rfl)<|tr (mv rfl)<|la (ov fun S=>x_bd S [(0,iN d),(1,iI 3)] [iN d,iI 3])) ?_;clear S;intro a u S;refine nbs chgE S [(⟨((d : Nat) : Int),3⟩ : Chg)] (x_bs S [(0,.agg #[iN d,iI 3])] uT122 iZ124) (fun x hx=>by simp only [List.mem_cons,List.not_mem_nil,or_false] at hx;rw [hx];exact (show chgE.wf _ _ (⟨((d : Nat) : Int),3⟩ : Chg) from ⟨(show inI64 ((d : Nat) : Int) from ⟨by omega,by omega⟩),(show inI64 3 from ⟨by omega,by omega⟩)⟩)) ?_;clear S;intro a u b61 S;refine ap (E:=chgE) (ys:=[(⟨((d : Nat) : Int),3⟩ : Chg)]) S 5 rfl uT122 iZ124 rfl rfl (show LAt chgE _ _ (some ⟨b61,0,none⟩) ([(⟨((d : Nat) : Int),3⟩ : Chg)]) from ((S.u 1 rfl)).1) ((S.u 1 rfl)).2.2 (LAt.mem (show LAt chgE _ _ (some ⟨b61,0,none⟩) ([(⟨((d : Nat) : Int),3⟩ : Chg)]) from ((S.u 1 rfl)).1)) ⟨by unfold maxLen;(try simp only [List.length_cons,List.length_nil,List.length_append,List.length_map]);omega,by (try simp only [List.length_cons,List.length_nil,List.length_append,List.length_map]);omega⟩ ?_;clear S;intro a u ad62 cap62 S;refine en S (la (av rfl)) ?_;clear S;intro a u S;refine blk_n (then_n ?_);refine rg S (tr (mv rfl)<|tr (addi ((d + 1 : Nat) : Int) rfl rfl (w_i64 bo))<|la (av rfl)) ?_;clear S;intro a u S;refine then_n ?_;refine ⟨(d + 1),(d : Int),ad62,cap62,(l ++ [(⟨((d : Nat) : Int),3⟩ : Chg)]),cur_a,cur_c,(cur.set d 3),S.re ⟨rfl,rfl,rfl,rfl,(by first | rfl | (simp only [List.length_set];rfl)),rfl,rfl,rfl,rfl,(by first | rfl | (simp only [List.length_set];rfl)),trivial⟩ rfl rfl,?_,?_⟩
   ·first
    | exact ⟨by omega,⟨by omega,by omega⟩,by omega,hI⟩
    | (refine ⟨by omega, ⟨by omega, by omega⟩, by rw [List.length_append, List.length_singleton]; omega, ?_⟩
       have hcd0 : cur.getD ((d : Int)).toNat 0 = cur.getD d intE.dflt:=rfl
       exact RndI.step (d:=(d : Int)) hI hla0 hla1 bo (by rw [hcd0];omega) bo (fun q=>by first | rfl | exact absurd hsg q))
   omega
  intro hc6;refine wp_exit (then_e (then_e (blk_e (then_n ?_))));refine rs S (tr (mv rfl)<|tr (leni uT122 rfl)<|la (gtri rfl rfl)) ?_;clear S;intro a u S;refine cd S rfl ?_ ?_
  ·intro hc7;refine r0 ?_;refine sp S (tr (fldi 0 1 rfl uT47)<|tr (ldk 2 sC45 rfl rfl rfl)<|la (mv rfl)) ?_; clear S; intro a u S;replace S := S.fz 5 rfl (by show 0 < chgE.n; decide);refine nbs (slE chgE) S [(Sl.mk l_a l_c l)] (x_bs S [(0, .slice l_a l.length l_c)] uT45 iZ122) (fun x hx => by simp only [List.mem_cons, List.not_mem_nil, or_false] at hx; rw [hx]; exact (show (slE chgE).wf _ _ (Sl.mk l_a l_c l) from (S.u 1 rfl))) ?_; clear S; intro a u b69 S;refine ap (E := (slE chgE)) (ys := [(Sl.mk l_a l_c l)]) S 4 rfl uT45 iZ122 rfl rfl (show LAt (slE chgE) _ _ (some ⟨b69, 0, none⟩) ([(Sl.mk l_a l_c l)]) from ((S.u 2 rfl)).1) ((S.u 2 rfl)).2.2 (LAt.mem (show LAt (slE chgE) _ _ (some ⟨b69, 0, none⟩) ([(Sl.mk l_a l_c l)]) from ((S.u 2 rfl)).1)) ⟨by unfold maxLen; (try simp only [List.length_cons, List.length_nil, List.length_append, List.length_map]); omega, by (try simp only [List.length_cons, List.length_nil, List.length_append, List.length_map]); omega⟩ ?_; clear S; intro a u ad70 cap70 S;refine en S (tr (fldi 0 1 rfl uT47)<|la (stk 2 rfl rfl rfl)) ?_; clear S; intro a u S;refine blk_n (then_n ?_);refine rg S (tr (mv rfl)<|tr (subi (r - 1) rfl rfl (w_i64 bo))<|la (av rfl)) ?_; clear S; intro a u S;refine then_n ?_;refine ⟨(r - 1), ad70, cap70, (rd ++ [(Sl.mk l_a l_c l)]), cur_a, cur_c, cur, S.re (subM rfl) rfl rfl, ?_, ?_⟩
   ·first
    | (have hl0 : l = [] := List.eq_nil_of_length_eq_zero bo
       subst hl0;have e:=hI.nil;subst e
       exact ⟨⟨by omega,by omega⟩,by omega,hP,hne⟩)
    | (refine ⟨⟨by omega, by omega⟩, by rw [List.length_append, List.length_singleton]; omega, ?_, fun x hx => ?_⟩
       ·rw [List.map_append];exact hP.step (l:=l) hI (show l.length ≠ 0 by omega)
       rcases List.mem_append.1 hx with q | q
       ·exact hne x q
       obtain rfl:=List.mem_singleton.1 q;show 0 < l.length
       omega)
   omega
  intro hc8;refine wp_skip (blk_n (then_n ?_));refine rg S (tr (mv rfl)<|tr (subi (r - 1) rfl rfl (w_i64 bo))<|la (av rfl)) ?_;clear S;intro a u S;refine then_n ?_;refine ⟨(r - 1),rd_a,rd_c,rd,cur_a,cur_c,cur,S.re (subM rfl) rfl rfl,?_,?_⟩
  ·first
   | (have hl0 : l = [] := List.eq_nil_of_length_eq_zero bo
      subst hl0;have e:=hI.nil;subst e
      exact ⟨⟨by omega,by omega⟩,by omega,hP,hne⟩)
   | (refine ⟨⟨by omega, by omega⟩, by rw [List.length_append, List.length_singleton]; omega, ?_, fun x hx => ?_⟩
      ·rw [List.map_append];exact hP.step (l:=l) hI (show l.length ≠ 0 by omega)
      rcases List.mem_append.1 hx with q | q
      ·exact hne x q
      obtain rfl:=List.mem_singleton.1 q;show 0 < l.length
      omega)
  omega
 intro hc9;refine wp_exit (then_e (then_e (blk_e (then_n ?_))));refine rs S (tr (ldkw 2 rfl rfl wD47)<|la (stkw 1 rfl rfl rfl)) ?_;clear S;intro a u S;refine wp_ret ?_;replace S:=S.fz 4 rfl;refine retcw rfl S.s rfl [bD (bv13 = true),.slice rd_a rd.length rd_c] wD47 (fun j v hv=>by rw [Nat.zero_add];exact (S.k 1 rfl).cell hv) ?_;replace S:=S.pkc [0];refine ⟨(⟨bv13,(Sl.mk rd_a rd_c rd)⟩ : Plan),rfl,⟨trivial,(S.u 1 rfl)⟩,?_,(S.t 0 rfl),S.m.c⟩;exact ⟨⟨PlnI.some hP hn,by show rd.length ≤ 16;omega⟩,by show rd.length ≤ 3;omega,hne⟩
open Go.RowKit Go.Proofs.Ytobggnpnochnnaa
theorem nOne (w : World) (F : Nat → Prop) (hF : Old F w) (M : MS [] w) :
 Calls Try.prog 97 #[] w fun e w'=>∃ (r : Plan),e = .returned (.agg (planE.cells r).toArray) ∧ planE.wf (Fr F []) w'.heap r ∧ (r.staged = false ∧ rdsP r = [[⟨0,3⟩]]) ∧ Tr [] w [] w':=by
 refine go Try.func97 rfl 5 rfl [] [] hF M trivial trivial ?_;intro a S;have hD : ∀ k,In ([] : List BS) k → ¬ F k:=fun _ h=>h.elim;refine rs0 ?_;refine nbp S (x_allocz _ iZ47 rfl) ?_;clear S;intro a u b0 S;refine ent (rs0 ?_);refine sp S (la (ov fun S=>x_bd S [(0,iI 0),(1,iI 3)] [iI 0,iI 3])) ?_;clear S;intro a u S;refine nbs chgE S [(⟨0,3⟩ : Chg)] (x_bs S [(0,.agg #[iI 0,iI 3])] uT122 iZ124) (fun x hx=>by simp only [List.mem_cons,List.not_mem_nil,or_false] at hx;rw [hx];exact (show chgE.wf _ _ (⟨0,3⟩ : Chg) from ⟨(show inI64 0 from ⟨by omega,by omega⟩),(show inI64 3 from ⟨by omega,by omega⟩)⟩)) ?_;clear S;intro a u b2 S;refine nbs (slE chgE) S [(Sl.mk (some ⟨b2,0,none⟩) 1 ([(⟨0,3⟩ : Chg)]))] (x_bs S [(0,.slice (some ⟨b2,0,none⟩) 1 1)] uT45 iZ122) (fun x hx=>by simp only [List.mem_cons,List.not_mem_nil,or_false] at hx;rw [hx];exact (show (slE chgE).wf _ _ (Sl.mk (some ⟨b2,0,none⟩) 1 ([(⟨0,3⟩ : Chg)])) from (S.u 0 rfl))) ?_;clear S;intro a u b3 S;refine ens S (tr (ov fun S=>x_bd S [(1,.slice (some ⟨b3,0,none⟩) 1 1)] [.bool false,.slice (some ⟨b3,0,none⟩) 1 1])<|la (stkw 0 rfl rfl rfl)) ?_;clear S;intro a u S;refine wp_ret ?_;refine retcw rfl S.s rfl [.bool false,.slice (some ⟨b3,0,none⟩) 1 1] wD47 (fun j v hv=>by rw [Nat.zero_add];exact (S.k 0 rfl).cell hv) ?_;replace S:=S.pk [];refine ⟨(⟨false,(Sl.mk (some ⟨b3,0,none⟩) 1 ([(Sl.mk (some ⟨b2,0,none⟩) 1 ([(⟨0,3⟩ : Chg)]))]))⟩ : Plan),rfl,⟨trivial,(S.u 1 rfl)⟩,?_,S.m.c⟩;exact ⟨rfl,rfl⟩
theorem nBegin (w : World) (F : Nat → Prop) (hF : Old F w) (T : Nat) (M : MS [one T] w) (hD : ∀ k, In [one T] k → ¬ F k) (T_l : Sl Int) (T_w : (slE intE).wf (Fr F [one T]) w.heap T_l) (T_K : TpB 112 T T_l w) :
 Calls Try.prog 43 #[pT T 0] w fun e w'=>∃ (nb0 : Nat) (nx0 : Run) (nb1 : Nat) (nx1 : RunR),e = .returned (.tuple #[pT nb0 0,pT nb1 0,bD (True)]) ∧ runK nx0 ∧ (bnO (runF nb0 nx0)).p F (In [In (ow (runF nb0 nx0)),In (ow (rrF nb1 nx1)),one T]) w' ∧ rrK nx1 ∧ (bnO (rrF nb1 nx1)).p F (In [In (ow (runF nb0 nx0)),In (ow (rrF nb1 nx1)),one T]) w' ∧ (Begun nx0 nx1) ∧ TpB 112 T T_l w' ∧ Tr [one T] w [In (ow (runF nb0 nx0)),In (ow (rrF nb1 nx1)),one T] w':=by
 refine go Try.func43 rfl 45 rfl [wfF (slE intE) T_l] [tpO 112 T T_l] hF M ⟨T_w,trivial⟩ ⟨T_K,trivial⟩ ?_;intro a S;refine rs S (tr (av rfl)<|tr (av rfl)<|la (av rfl)) ?_;clear S;intro a u S;refine rs0 ?_;refine sp S (la (mv rfl)) ?_;clear S;intro a u S;refine cl S (gNext _ _ S.x T (S.M.pick [0] (by decide)) T_l (dn1 (js:=[0]) (S.u 0 rfl)) (S.t 0 rfl) 4 ⟨by omega,by omega⟩) cB26 ?_;rintro e u ⟨r_t13,rfl,hr_t13,tK,T0⟩;refine ⟨_,rfl,fun a s=>?_⟩;replace S:=S.k1 0 rfl s T0 tK;clear s T0 tK;refine ens S (tr (addi (1 + r_t13) rfl rfl (w_i64 bo))<|la (av rfl)) ?_;clear S;intro a u S;refine rs0 ?_;refine sp S (tr (mv rfl)<|la (mv rfl)) ?_;clear S;intro a u S;refine cl S (gPlan _ _ S.x T (S.M.pick [0] (by decide)) T_l (dn1 (js:=[0]) (S.u 0 rfl)) (S.t 0 rfl) (1 + r_t13) ⟨by omega,by omega⟩ (⟨by omega,by omega⟩)) cB30 ?_;rintro e u ⟨r_t17,rfl,R_t17,hr_t17,tK,T0⟩;refine ⟨_,rfl,fun a s=>?_⟩;replace S:=(S.k1 0 rfl s T0 tK).ar (wfF planE r_t17) (Enc.up _ R_t17);clear s T0 tK R_t17;have hpg:=hr_t17;have hn4 : r_t17.rounds.xs.length ≤ 9223372036854775807:=((S.u 1 rfl).2).1.len;refine sp S (tr (mv rfl)<|la (mv rfl)) ?_;clear S;intro a u S;refine cl S (gVol _ _ S.x T (S.M.pick [0] (by decide)) T_l (dn1 (js:=[0]) (S.u 0 rfl)) (S.t 0 rfl) (1 + r_t13) ⟨by omega,by omega⟩ (⟨by omega,by omega⟩)) cB49 ?_;rintro e u ⟨rx_t20,ra_t20,rc_t20,rfl,R_t20,hr_t20,tK,T0⟩;refine ⟨_,rfl,fun a s=>?_⟩;replace S:=(S.kr1 0 rfl [⟨_,boolE,4,ra_t20,rc_t20,rx_t20⟩] s T0 ⟨R_t20,trivial⟩ (fun _=>tK)).sh;clear s T0 tK R_t20;have hvl:=hr_t20;have hgd : (statesP r_t17.staged (rdsP r_t17) (rx_t20.length : Int)).isSome = true ∧ r_t17.rounds.xs.length ≤ 16:=by rw [hvl];exact hpg.1
 have hb3:=hpg.2.1;refine nbp S (x_allocz _ iZ47 rfl) ?_;clear S;intro a u b6 S;refine ens S (tr (stkw 2 rfl rfl rfl)<|la (av rfl)) ?_;clear S;intro a u S;refine rs0 ?_;refine sp S (tr (ldkw 2 rfl rfl wD47)<|la (mv rfl)) ?_;clear S;intro a u S;replace S:=S.fz 1 rfl;replace S:=S.spl 3;refine cl S (rNew _ _ S.xxF  S.mF (S.nfF hD) r_t17 (dnF   (S.u 1 rfl)) (Sl.mk ra_t20 rc_t20 rx_t20) (dnF   (S.u 2 rfl)) (by first | omega | (dsimp only;omega))) cB50 ?_;rintro e u ⟨q_t24,rfl,qK_t24,qB_t24,hr_t24,T0⟩;refine ⟨_,rfl,fun a s=>?_⟩;have S2:=S.kF   [bnO (runQ q_t24)] s T0 ⟨qB_t24,trivial⟩ ⟨(mo_bn (mo_runQ _)),trivial⟩;replace S2:=S2.sh;clear S;have S:=S2;clear S2 s T0 qB_t24
 rcases q_t24 with _ | ⟨B_t24,x_t24⟩
 ·exact absurd (hr_t24.1.2 hgd) (by decide)
 replace S:=(show St _ _ _ _ _ _ [tpO 112 T T_l,noO,blO b6 (planE.cells r_t17) 47,bnO (runF B_t24 x_t24)] _ _ from S);refine ens S (tr (mv rfl)<|tr (exi rfl rfl)<|tr (exi rfl rfl)<|tr (av rfl)<|la (av rfl)) ?_;clear S;intro a u S;refine rs0 ?_;refine sp S (tr (ldkw 2 rfl rfl wD47)<|la (mv rfl)) ?_;clear S;intro a u S;replace S:=S.spl 4;refine cl S (qNew _ _ S.xxF  S.mF (S.nfF hD) r_t17 (dnF   (S.u 1 rfl)) (Sl.mk ra_t20 rc_t20 rx_t20) (dnF   (S.u 2 rfl)) (by first | omega | (dsimp only;omega))) cB58 ?_;rintro e u ⟨q_t30,rfl,qK_t30,qB_t30,hr_t30,T0⟩;refine ⟨_,rfl,fun a s=>?_⟩;have S2:=S.kF   [bnO (rrQ q_t30)] s T0 ⟨qB_t30,trivial⟩ ⟨(mo_bn (mo_rrQ _)),trivial⟩;replace S2:=S2.sh;clear S;have S:=S2;clear S2 s T0 qB_t30
 rcases q_t30 with _ | ⟨B_t30,x_t30⟩
 ·exact absurd (hr_t30.1.2 hgd) (by decide)
 replace S:=(show St _ _ _ _ _ _ [tpO 112 T T_l,noO,blO b6 (planE.cells r_t17) 47,bnO (runF B_t24 x_t24),bnO (rrF B_t30 x_t30)] _ _ from S);refine ens S (tr (mv rfl)<|tr (exi rfl rfl)<|tr (exi rfl rfl)<|tr (av rfl)<|la (av rfl)) ?_;clear S;intro a u S;refine rs S (tr (mv rfl)<|tr (mv rfl)<|tr (mv rfl)<|tr (eqli rfl rfl)<|tr (mv rfl)<|tr (gon 37 rfl fun S=>x_move (S.e rfl))<|tr (gon 37 rfl fun S=>x_eql (S.e rfl) (S.e rfl))<|tr (ov fun S=>x_pickt (S.e rfl) (S.e rfl))<|tr (mv rfl)<|tr (gon 41 rfl fun S=>x_move (S.e rfl))<|tr (gon 41 rfl fun S=>x_pneN uT73 (S.e rfl) (S.e rfl))<|tr (ov fun S=>x_pickt (S.e rfl) (S.e rfl))<|tr (av rfl)<|tr (av rfl)<|la (av rfl)) ?_;clear S;intro a u S;refine wp_ret ?_;refine ret3 rfl S.s rfl rfl rfl ?_;replace S:=S.pkc [3,4,0];refine ⟨B_t24,x_t24,B_t30,x_t30,(r3 rfl rfl (vt ?_)),qK_t24,(S.m.o _ (nth_mem (i:=0) rfl)),qK_t30,(S.m.o _ (nth_mem (i:=1) rfl)),?_,(S.t 2 rfl),S.m.c⟩
 ·trivial
 exact begun (vs:=rx_t20) (by rw [hvl];exact hpg) bo bo (hr_t24.2 _ rfl) (hr_t30.2 _ rfl)
open Go.RowKit Go.Proofs.Ytobggnpnochnnaa
open Go.RowKit Go.Proofs.Ytobggnpnochnnaa
open Go.RowKit Go.Proofs.Ytobggnpnochnnaa
open Go.RowKit Go.Proofs.Ytobggnpnochnnaa
open Go.RowKit Go.Proofs.Ytobggnpnochnnaa
structure SetP (B : Nat) (x : Run) : Prop where
 a : RunAt (rdsM x.m.2) (stsM x.m.2) x.m.2.target.xs.length B x
 Q : PlanS (rdsM x.m.2) (stsM x.m.2)
 I : InvR x.m.2.target.xs.length (rdsM x.m.2) (stsM x.m.2) (absR x)
 M : mR x.m.2.target.xs.length (rdsM x.m.2) (absR x).c (absR x).st < 2000
structure SetQ (x x1 : Run) : Prop where
 k : KeepR x x1
 a : RunAt (rdsM x.m.2) (stsM x.m.2) x.m.2.target.xs.length 4000000 x1
 b : (absR x1).c.back = (absR x).c.back
 I : InvR x.m.2.target.xs.length (rdsM x.m.2) (stsM x.m.2) (absR x1)
 no : ∀ (k : Int) (d : Nat),calmK k → d < x.m.2.target.xs.length → ¬ canR (absR x1) ⟨k,d⟩
theorem SetI.mono {R : List (List Chg)} {S : List (List Int)} {n B B' : Nat} {x : Run} (h : RunAt R S n B x) (hB : B ≤ B') : RunAt R S n B' x:=h.mono hB
theorem nSettle (w : World) (F : Nat → Prop) (hF : Old F w) (rn_b : Nat) (rn : Run) (M : MS [In (ow (runF rn_b rn))] w) (hD : ∀ k, In [In (ow (runF rn_b rn))] k → ¬ F k) (rn_k : runK rn) (rn_K : (bnO (runF rn_b rn)).p F (In [In (ow (runF rn_b rn))]) w) (n : Int) (n_h : inI64 n) (ok : SetP 1000000 rn) :
 Calls Try.prog 53 #[pT rn_b 0,iI n] w fun e w'=>∃ (rn_1 : Run),e = .returned (bD (True)) ∧ runK rn_1 ∧ (bnO (runF rn_b rn_1)).p F (In [In (ow (runF rn_b rn_1))]) w' ∧ (SetQ rn rn_1) ∧ Tr [In (ow (runF rn_b rn))] w [In (ow (runF rn_b rn_1))] w':=by
 obtain ⟨n_hl,n_hu⟩ : inI64 n:=id n_h;have hP0:=ok.a.ok.pl;refine go Try.func53 rfl 49 rfl [] [bnO (runF rn_b rn)] hF M trivial ⟨rn_K,trivial⟩ ?_;intro a S;refine rs S (la (av rfl)) ?_;clear S;intro a u S;refine wp_seq ?_;refine rs S (la (av rfl)) ?_;clear S;intro a u S;refine wp_block ?_;refine lp2 (fun (i : Nat) (rj : Run)=>[(0,pT rn_b 0),(5,iN i)]) (fun (i : Nat) (rj : Run)=>[bnO (runF rn_b rj)]) (fun (i : Nat) (rj : Run)=>runK rj ∧ (i ≤ 2000 ∧ RunAt (rdsM rn.m.2) (stsM rn.m.2) rn.m.2.target.xs.length (1000000 + 1001 * i) rj ∧ InvR rn.m.2.target.xs.length (rdsM rn.m.2) (stsM rn.m.2) (absR rj) ∧ mR rn.m.2.target.xs.length (rdsM rn.m.2) (absR rj).c (absR rj).st + i < 2000 ∧ KeepR rn rj ∧ (absR rj).c.back = (absR rn).c.back)) (fun (i : Nat) (rj : Run)=>2000 - i) S 0 rn (subM rfl) rfl ?_ ?_
 ·refine ⟨rn_k,?_⟩;exact ⟨Nat.zero_le _,ok.a,ok.I,by have:=ok.M;omega,⟨rfl,rfl⟩,rfl⟩
 clear S;intro i rj a u S hR;obtain ⟨hk_rj,hR⟩:=hR;obtain ⟨hi,hA,hI,hM,hK,hB⟩:=hR;have hOK : RunOK 8000000 rj:=ROK.mono hA.ok bo;have hpl : (posR (absR rj)).length ≤ 96:=by have h:=posU_len (absR rj) (absR rj).st.length 8;have h2:=hOK.sl;have h3:=hOK.n2;unfold posR;omega
 have hnn:=mR_nn hI;refine wp_seq ?_;refine rs S (tr (mv rfl)<|la (lssi rfl rfl)) ?_;clear S;intro a u S;refine cd S rfl ?_ ?_
 ·intro hc0;refine wp_skip (then_n (wp_seq (wp_block (rs0 ?_))));refine sp S (la (mv rfl)) ?_; clear S; intro a u S;refine cl S (rPoss _ _ (S.xx [In (ow (runF rn_b rj))]) (.nil _) (rn_b, rj) (S.rob hD 0 rfl (X := fun D => (ptE runE 137).wf D _ (rn_b, rj)) (rd_run hk_rj) _ (by simp)) (by first | assumption | exact hOK | exact (hT.sm hBeg bo (by assumption) (by assumption)).1)) cB52 ?_;rintro e u ⟨ra_t14, rc_t14, rfl, R_t14, T0⟩; refine ⟨_, rfl, fun a s => ?_⟩;replace S := (S.krx [⟨_, evtE, 78, ra_t14, rc_t14, (posR (absR rj))⟩] s T0 ⟨R_t14, trivial⟩ ⟨fun _ _ _ _ h => h, trivial⟩).sh; clear s T0 R_t14;refine ens S (la (av rfl)) ?_; clear S; intro a u S;refine rs S (la (av rfl)) ?_; clear S; intro a u S;refine wp_seq ?_;refine rs S (la (av rfl)) ?_; clear S; intro a u S;refine wp_block ?_;refine lp2 (fun (j : Nat) (at_ : Int) => [(0, pT rn_b 0), (5, iN i), (9, iN i), (10, bD (((i : Nat) : Int) < 2000)), (13, pT rn_b 0), (14, .slice ra_t14 ((posR (absR rj)).length) rc_t14), (6, .slice ra_t14 ((posR (absR rj)).length) rc_t14), (8, iN j), (7, iI at_)]) (fun (j : Nat) (at_ : Int) => [bnO (runF rn_b rj), rwO evtE 78 w.heap.size ra_t14 rc_t14 (posR (absR rj))]) (fun (j : Nat) (at_ : Int) => j ≤ (posR (absR rj)).length ∧ ((at_ = -1 ∧ ∀ k, k < j → ¬ calmK ((posR (absR rj)).getD k evtE.dflt).kind) ∨ ((0 ≤ at_ ∧ at_ < (posR (absR rj)).length) ∧ calmK ((posR (absR rj)).getD at_.toNat evtE.dflt).kind))) (fun (j : Nat) (at_ : Int) => (posR (absR rj)).length - j) S 0 (-1) (subM rfl) rfl ?_ ?_
  ·exact ⟨Nat.zero_le _,.inl ⟨rfl,fun k h=>by omega⟩⟩
  clear S;intro j at_ a u S hR;obtain ⟨hj,hat⟩:=hR;refine wp_seq ?_;refine rs S (tr (mv rfl)<|tr (mv rfl)<|tr (leni uT72 rfl)<|tr (lssi rfl rfl)<|tr (mv rfl)<|tr (og 19 rfl gt fun S hg=>x_move (S.e rfl))<|tr (og 19 rfl gt fun S hg=>x_lss (S.p rfl hg) (S.e rfl))<|la (andi rfl rfl rfl)) ?_;clear S;intro a u S;refine cd S rfl ?_ ?_
  ·intro hc1;refine wp_skip (then_n (wp_seq (wp_block ?_)));obtain ⟨hl9, hu9⟩ : inI64 (((posR (absR rj)).getD j evtE.dflt).kind) := id (((S.row 1 rfl).wfi j bo).1);refine rs S (tr (mv rfl)<|tr (mv rfl)<|tr (ov fun S=>x_idx uT72 sZ78 (S.e rfl) (S.e rfl) j rfl bo (row_off (S.row 1 rfl) (m := j) bo))<|tr (fldi (0 + j * 2) 0 rfl uT78)<|tr (ov fun S=>x_load sC3 (S.e rfl) (((S.row 1 rfl).latz nz).cell j bo 0 _ rfl))<|tr (leqi rfl rfl)<|tr (mv rfl)<|tr (og 31 rfl gf fun S hg=>x_move (S.e rfl))<|tr (og 31 rfl gf fun S hg=>x_move (S.e rfl))<|tr (og 31 rfl gf fun S hg=>x_idx uT72 sZ78 (S.p rfl hg) (S.p rfl hg) j rfl bo (row_off (S.row 1 rfl) (m := j) bo))<|tr (og 31 rfl gf fun S hg=>xf (0 + j * 2) 0 uT78 (S.p rfl hg))<|tr (og 31 rfl gf fun S hg=>x_load sC3 (S.p rfl hg) (((S.row 1 rfl).latz nz).cell j bo 0 _ rfl))<|tr (og 31 rfl gf fun S hg=>x_eql (S.p rfl hg) (S.e rfl))<|la (ori rfl rfl rfl)) ?_; clear S; intro a u S;refine cd S rfl ?_ ?_
   ·intro hc2;refine rg S (tr (mv rfl)<|la (av rfl)) ?_; clear S; intro a u S;refine blk_n (then_n ?_);refine rg S (tr (mv rfl)<|tr (addi ((j + 1 : Nat) : Int) rfl rfl (w_i64 bo))<|la (av rfl)) ?_; clear S; intro a u S;refine then_n ?_;refine ⟨(j + 1), ((j : Nat) : Int), S.re (subM rfl) rfl rfl, ?_, ?_⟩
    ·first
     | (have hmem := mem_posR.1 (getD_mem (xs := posR (absR rj)) (d := evtE.dflt) (i := j) bo)
        refine ⟨by omega,.inr ⟨⟨by omega,by omega⟩,?_⟩⟩;show calmK ((posR (absR rj)).getD j evtE.dflt).kind;have h1:=hmem.2.1;unfold calmK;have h2:=hc2
        omega)
     | (rcases hat with ⟨ha, hn⟩ | ⟨ha, _⟩
        ·refine ⟨by omega, .inl ⟨ha, fun k hk => ?_⟩⟩
         rcases Nat.lt_succ_iff_lt_or_eq.1 hk with h | h
         ·exact hn k h
         subst h;have h2:=hc3;unfold calmK;omega
        omega)
    omega
   intro hc3;refine wp_skip (blk_n (then_n ?_));refine rg S (tr (mv rfl)<|tr (addi ((j + 1 : Nat) : Int) rfl rfl (w_i64 bo))<|la (av rfl)) ?_;clear S;intro a u S;refine then_n ?_;refine ⟨(j + 1),at_,S.re (subM rfl) rfl rfl,?_,?_⟩
   ·first
    | (have hmem := mem_posR.1 (getD_mem (xs := posR (absR rj)) (d := evtE.dflt) (i := j) bo)
       refine ⟨by omega,.inr ⟨⟨by omega,by omega⟩,?_⟩⟩;show calmK ((posR (absR rj)).getD j evtE.dflt).kind;have h1:=hmem.2.1;unfold calmK;have h2:=hc2
       omega)
    | (rcases hat with ⟨ha, hn⟩ | ⟨ha, _⟩
       ·refine ⟨by omega, .inl ⟨ha, fun k hk => ?_⟩⟩
        rcases Nat.lt_succ_iff_lt_or_eq.1 hk with h | h
        ·exact hn k h
        subst h;have h2:=hc3;unfold calmK;omega
       omega)
   omega
  intro hc4;refine wp_exit (then_e (then_e (blk_e (then_n (wp_seq ?_)))));refine rs S (tr (mv rfl)<|la (lssi rfl rfl)) ?_;clear S;intro a u S;refine cd S rfl ?_ ?_
  ·intro hc5;refine rs S (la (av rfl)) ?_; clear S; intro a u S;refine wp_ret (then_r (blk_r (then_r (then_r (blk_r (then_r ?_))))));refine ret1 rfl S.s rfl ?_;replace S := S.pkc [0];refine ⟨rj, (r1 (vt ?_)), hk_rj, (S.m.o _ (nth_mem (i := 0) rfl)), ?_, S.m.c⟩
   ·trivial
   refine ⟨hK,hA.mono bo,hB,hI,fun k d hk hd hc=>?_⟩
   rcases hat with ⟨ha,hn⟩ | ⟨ha,_⟩
   ·have hs:=hI.sl;have hm : (⟨k,(d : Int)⟩ : Evt) ∈ posR (absR rj):=mem_posR.2 ⟨hc,by unfold calmK at hk;show 1 ≤ k ∧ k ≤ 8;omega,by show (0 : Int) ≤ d;omega,by show (d : Int) < _;omega⟩;obtain ⟨q,hq,e⟩:=List.getElem_of_mem hm;refine hn q bo ?_;rw [List.getD_eq_getElem?_getD,List.getElem?_eq_getElem hq,e];exact hk
   omega
  intro hc6;obtain ⟨hO7,hS0⟩:=hA.ok7 bo;obtain ⟨⟨ha0,ha1⟩,hcalm⟩ : (0 ≤ at_ ∧ at_ < ((posR (absR rj)).length : Int)) ∧ calmK ((posR (absR rj)).getD at_.toNat evtE.dflt).kind:=hat.elim (fun q=>by have:=q.1;omega) id;have hcan : canR (absR rj) ((posR (absR rj)).getD at_.toNat evtE.dflt):=(mem_posR.1 (getD_mem (d:=evtE.dflt) bo)).1;refine wp_skip (then_n (rs0 ?_));obtain ⟨hl16,hu16⟩ : inI64 (((posR (absR rj)).getD ((at_).toNat) evtE.dflt).kind):=id (((S.row 1 rfl).wfi (at_).toNat bo).1);obtain ⟨hl17,hu17⟩ : inI64 (((posR (absR rj)).getD ((at_).toNat) evtE.dflt).dev):=id (((S.row 1 rfl).wfi (at_).toNat bo).2);refine sp S (tr (mv rfl)<|tr (mv rfl)<|tr (mv rfl)<|tr (ov fun S=>x_idx uT72 sZ78 (S.e rfl) (S.e rfl) (at_).toNat bo bo (row_off (S.row 1 rfl) (m:=(at_).toNat) bo))<|la (ov fun S=>x_ldw (S.e rfl) (((S.row 1 rfl).latz nz).wcell (at_).toNat bo _ rfl _ rfl) wD78)) ?_;clear S;intro a u S;replace S:=S.pkc [1,0];replace S:=S.spl 1;refine cl S (rDo _ _ S.xxF rn_b rj S.mF (S.nfF hD) hk_rj (S.dF   0 rfl (mo_bn (mo_run _ _))) ((posR (absR rj)).getD ((at_).toNat) evtE.dflt) (dnF   ((S.row 0 rfl).wfi (at_).toNat bo)) (⟨by first | assumption | exact hOK,by first | assumption | exact hS0⟩)) cB45 ?_;rintro e u ⟨rn_t47,rfl,hk_rn_t47,hK_rn_t47,hq_rn_t47,T0⟩;refine ⟨_,rfl,fun a s=>?_⟩;have S2:=S.kF   [bnO (runF rn_b rn_t47)] s T0 ⟨hK_rn_t47,trivial⟩ ⟨(mo_bn (mo_run _ _)),trivial⟩;replace S2:=S2.sh;clear S;have S:=S2;clear S2 s T0 hK_rn_t47;refine ens S (la (noti rfl)) ?_;clear S;intro a u S;refine cd S rfl ?_ ?_
  ·intro hc7;refine rs S (la (av rfl)) ?_; clear S; intro a u S;refine wp_ret (blk_r (then_r (then_r (blk_r (then_r ?_)))));refine ret1 rfl S.s rfl ?_;replace S := S.pkc [1];refine ⟨rn_t47, (r1 (vf ?_)), hk_rn_t47, (S.m.o _ (nth_mem (i := 0) rfl)), ?_, S.m.c⟩
   ·exact absurd hcan hc7
   exact absurd hcan hc7
  intro hc8;refine wp_skip (blk_n (then_n ?_));refine rg S (tr (mv rfl)<|tr (addi ((i + 1 : Nat) : Int) rfl rfl (w_i64 bo))<|la (av rfl)) ?_;clear S;intro a u S;replace S:=S.pk [1];refine then_n ?_;refine ⟨(i + 1),rn_t47,S.re (subM rfl) rfl rfl,?_,?_⟩
  ·refine ⟨hk_rn_t47, ?_⟩;obtain ⟨g1, g2, _⟩ := hA.step hq_rn_t47;have e := g2 hcan;refine ⟨by omega, g1.mono bo, by rw [e]; exact inv_do hP0 ok.Q hI hcan, ?_, KeepM.trans hK (hq_rn_t47.1 hcan).1, ?_⟩
   ·rw [e];have:=mR_calm hP0 ok.Q hI hcan hcalm;omega
   rw [e];exact (doR_back (.inl hcalm) hP0 hI.ct).trans hB
  omega
 intro hc9;refine wp_exit (then_e (then_e (blk_e (then_n ?_))));refine rs S (la (av rfl)) ?_;clear S;intro a u S;refine wp_ret ?_;refine ret1 rfl S.s rfl ?_;refine ⟨rj,(r1 (vf ?_)),hk_rj,(S.m.o _ (nth_mem (i:=0) rfl)),?_,S.m.c⟩
 ·exfalso;omega
 exfalso;omega
open Go.RowKit Go.Proofs.Ytobggnpnochnnaa
def oR1 : List (List Chg):=[[⟨0,3⟩]]
def oS1 : List (List Int):=[[0],[3]]
def ox0 : RunS:=newRS oR1 oS1 [false]
def ox1 : RunS:=doR oR1 oS1 ox0 ⟨1,0⟩
def ox2 : RunS:=doR oR1 oS1 ox1 ⟨3,0⟩
def oy0 : RunS:=newRS oR1 oS1 [true]
def oy1 : RunS:=doR oR1 oS1 oy0 ⟨1,0⟩
def oy2 : RunS:=doR oR1 oS1 oy1 ⟨2,0⟩
def oy3 : RunS:=doR oR1 oS1 oy2 ⟨3,0⟩
theorem one1 : statesP false oR1 1 = some oS1:=by decide +kernel
theorem oe1 : canR ox0 ⟨1,0⟩:=by decide +kernel
theorem oe2 : canR ox1 ⟨3,0⟩:=by decide +kernel
theorem oe3 : canR oy0 ⟨1,0⟩:=by decide +kernel
theorem oe4 : ¬ canR oy1 ⟨3,0⟩:=by decide +kernel
theorem oe5 : canR oy1 ⟨2,0⟩:=by decide +kernel
theorem oe6 : canR oy2 ⟨3,0⟩:=by decide +kernel
theorem oe7 : ¬ finC oR1.length ox0.c:=by decide +kernel
theorem oe8 : ¬ finC oR1.length oy1.c:=by decide +kernel
theorem oe9 : finC oR1.length ox2.c:=by decide +kernel
theorem oe10 : finC oR1.length oy3.c:=by decide +kernel
theorem oe11 : (agR ox2 0).run = 3 ∧ (agR ox2 0).up = true:=by decide +kernel
theorem oe12 : ox2.c.round = 1:=by decide +kernel
theorem oe13 : ¬ canR ox2 ⟨6,0⟩:=by decide +kernel
theorem oe14 : (posR ox2).length = 2:=by decide +kernel
theorem one_run {p : Plan} {x : Run} {v : Bool} (h : p.staged = false ∧ rdsP p = [[⟨0,3⟩]]) (hx : RunAt (rdsP p) (stsD (statesP p.staged (rdsP p) (([v] : List Bool).length : Int))) ([v] : List Bool).length 1000 x ∧ absR x = newRS (rdsP p) (stsD (statesP p.staged (rdsP p) (([v] : List Bool).length : Int))) [v]) : RunAt oR1 oS1 1 1000 x ∧ absR x = newRS oR1 oS1 [v]:=by
 rw [h.1,h.2] at hx;rw [show statesP false [[⟨0,3⟩]] (([v] : List Bool).length : Int) = some oS1 from one1] at hx;exact hx
open Go.RowKit Go.Proofs.Ytobggnpnochnnaa
theorem nSane (w : World) (F : Nat → Prop) (hF : Old F w) (M : MS [] w) :
 Calls Try.prog 48 #[] w fun e w'=>e = .returned (bD (True)) ∧ Tr [] w [] w':=by
 refine go Try.func48 rfl 142 rfl [] [] hF M trivial trivial ?_;intro a S;have hD : ∀ k,In ([] : List BS) k → ¬ F k:=fun _ h=>h.elim;refine rs S (la (av rfl)) ?_;clear S;intro a u S;refine rs0 ?_;refine cl S (nOne _ _ S.x (.nil _)) cB97 ?_;rintro e u ⟨r_t15,rfl,R_t15,hr_t15,T0⟩;refine ⟨_,rfl,fun a s=>?_⟩;replace S:=(S.k0 s T0).ar (wfF planE r_t15) (Enc.up _ R_t15);clear s T0 R_t15;have ho_t15:=one_len hr_t15;have hn3 : r_t15.rounds.xs.length ≤ 9223372036854775807:=((S.u 0 rfl).2).1.len;refine nbs boolE S [false] (x_bs S [(0,.bool false)] uT83 iZ4) (fun x hx=>by simp only [List.mem_cons,List.not_mem_nil,or_false] at hx;rw [hx];exact (show boolE.wf _ _ false from trivial)) ?_;clear S;intro a u b16 S;replace S:=S.spl 0;refine cl S (rNew _ _ S.xxF  S.mF (S.nfF hD) r_t15 (dnF   (S.u 0 rfl)) (Sl.mk (some ⟨b16,0,none⟩) 1 ([false])) (dnF   (S.u 1 rfl)) (by first | omega | (dsimp only;omega))) cB50 ?_;rintro e u ⟨q_t17,rfl,qK_t17,qB_t17,hr_t17,T0⟩;refine ⟨_,rfl,fun a s=>?_⟩;have S2:=S.kF   [bnO (runQ q_t17)] s T0 ⟨qB_t17,trivial⟩ ⟨(mo_bn (mo_runQ _)),trivial⟩;replace S2:=S2.sh;clear S;have S:=S2;clear S2 s T0 qB_t17
 rcases q_t17 with _ | ⟨B_t17,x_t17⟩
 ·exact absurd (hr_t17.1.2 (one_good hr_t15)) (by decide)
 replace S:=(show St _ _ _ _ _ _ [bnO (runF B_t17 x_t17)] _ _ from S);obtain ⟨hA17,hB17⟩:=one_run (v:=false) hr_t15 (hr_t17.2 _ rfl);obtain ⟨hO17,hS17⟩:=hA17.ok7 bo;have hK17 : RunOK 8000000 x_t17:=ROK.mono hO17 bo;refine ens S (tr (mv rfl)<|tr (exi rfl rfl)<|tr (exi rfl rfl)<|tr (av rfl)<|la (av rfl)) ?_;clear S;intro a u S;refine rs0 ?_;refine cl S (nOne _ _ S.x (.nil _)) cB97 ?_;rintro e u ⟨r_t21,rfl,R_t21,hr_t21,T0⟩;refine ⟨_,rfl,fun a s=>?_⟩;replace S:=(S.k0 s T0).ar (wfF planE r_t21) (Enc.up _ R_t21);clear s T0 R_t21;have ho_t21:=one_len hr_t21;have hn5 : r_t21.rounds.xs.length ≤ 9223372036854775807:=((S.u 2 rfl).2).1.len;refine nbs boolE S [true] (x_bs S [(0,.bool true)] uT83 iZ4) (fun x hx=>by simp only [List.mem_cons,List.not_mem_nil,or_false] at hx;rw [hx];exact (show boolE.wf _ _ true from trivial)) ?_;clear S;intro a u b22 S;replace S:=S.spl 1;refine cl S (rNew _ _ S.xxF  S.mF (S.nfF hD) r_t21 (dnF   (S.u 2 rfl)) (Sl.mk (some ⟨b22,0,none⟩) 1 ([true])) (dnF   (S.u 3 rfl)) (by first | omega | (dsimp only;omega))) cB50 ?_;rintro e u ⟨q_t23,rfl,qK_t23,qB_t23,hr_t23,T0⟩;refine ⟨_,rfl,fun a s=>?_⟩;have S2:=S.kF   [bnO (runQ q_t23)] s T0 ⟨qB_t23,trivial⟩ ⟨(mo_bn (mo_runQ _)),trivial⟩;replace S2:=S2.sh;clear S;have S:=S2;clear S2 s T0 qB_t23
 rcases q_t23 with _ | ⟨B_t23,x_t23⟩
 ·exact absurd (hr_t23.1.2 (one_good hr_t21)) (by decide)
 replace S:=(show St _ _ _ _ _ _ [bnO (runF B_t17 x_t17),bnO (runF B_t23 x_t23)] _ _ from S);obtain ⟨hA23,hB23⟩:=one_run (v:=true) hr_t21 (hr_t23.2 _ rfl);obtain ⟨hO23,hS23⟩:=hA23.ok7 bo;have hK23 : RunOK 8000000 x_t23:=ROK.mono hO23 bo;refine ens S (tr (mv rfl)<|tr (exi rfl rfl)<|tr (exi rfl rfl)<|tr (av rfl)<|la (av rfl)) ?_;clear S;intro a u S;refine rs0 ?_;refine cl S (nOne _ _ S.x (.nil _)) cB97 ?_;rintro e u ⟨r_t27,rfl,R_t27,hr_t27,T0⟩;refine ⟨_,rfl,fun a s=>?_⟩;replace S:=(S.k0 s T0).ar (wfF planE r_t27) (Enc.up _ R_t27);clear s T0 R_t27;have ho_t27:=one_len hr_t27;have hn7 : r_t27.rounds.xs.length ≤ 9223372036854775807:=((S.u 4 rfl).2).1.len;replace S:=S.spl 2;refine cl S (rNew _ _ S.xxF  S.mF (S.nfF hD) r_t27 (dnF   (S.u 4 rfl)) (Sl.mk none 0 ([] : List Bool)) sl_nil (by first | omega | (dsimp only;omega))) cB50 ?_;rintro e u ⟨q_t28,rfl,qK_t28,qB_t28,hr_t28,T0⟩;refine ⟨_,rfl,fun a s=>?_⟩;have S2:=S.kF   [bnO (runQ q_t28)] s T0 ⟨qB_t28,trivial⟩ ⟨(mo_bn (mo_runQ _)),trivial⟩;replace S2:=S2.sh;clear S;have S:=S2;clear S2 s T0 qB_t28
 rcases q_t28 with _ | ⟨B_t28,x_t28⟩
 rotate_left
 ·exact absurd (hr_t28.1.1 rfl) (one_bad hr_t27)
 replace S:=S.pkc [0,1];refine ens S (tr (mv rfl)<|tr (exi rfl rfl)<|tr (exi rfl rfl)<|tr (av rfl)<|la (av rfl)) ?_;clear S;intro a u S;refine wp_seq (rs0 ?_);refine sp S (tr (mv rfl)<|tr (neqi rfl rfl)<|tr (mv rfl)<|tr (gon 33 rfl fun S=>x_move (S.e rfl))<|tr (gon 33 rfl fun S=>x_neq (S.e rfl) (S.e rfl))<|tr (ov fun S=>x_pickf (S.e rfl) (S.e rfl))<|tr (mv rfl)<|tr (gon 37 rfl fun S=>x_move (S.e rfl))<|tr (gon 37 rfl fun S=>x_neq (S.e rfl) (S.e rfl))<|tr (ov fun S=>x_pickf (S.e rfl) (S.e rfl))<|tr (mv rfl)<|tr (gon 41 rfl fun S=>x_move (S.e rfl))<|tr (gon 41 rfl fun S=>x_peqN uT73 (S.e rfl) (S.e rfl))<|tr (ov fun S=>x_pickf (S.e rfl) (S.e rfl))<|tr (mv rfl)<|tr (gon 45 rfl fun S=>x_move (S.e rfl))<|tr (gon 45 rfl fun S=>x_peqN uT73 (S.e rfl) (S.e rfl))<|tr (ov fun S=>x_pickf (S.e rfl) (S.e rfl))<|tr (mv rfl)<|tr (gon 49 rfl fun S=>x_move (S.e rfl))<|la (ocon 49 rfl (fun S=>rFin _ _ (S.xx [In (ow (runF B_t17 x_t17))]) (.nil _) (B_t17,x_t17) (S.rob hD 0 rfl (X:=fun D=>(ptE runE 137).wf D _ (B_t17,x_t17)) (rd_run qK_t17) _ (by simp))) cB56)) ?_;clear S;intro a u S;replace S:=S.ext (d:=51) (v:=.bool false) ((S.get 51 rfl).trans (vbf ((by have h0:=hA17.rd;have h1:=congrArg List.length h0;rw [rds_len] at h1;have h2 : (absM x_t17.m.2) = _:=congrArg RunS.c hB17;rw [h1,h2];exact oe7))));refine ens S (la (ov fun S=>x_pickf (S.e rfl) (S.e rfl))) ?_;clear S;intro a u S;refine cdf S rfl ?_;refine wp_skip (then_n (rs0 ?_));refine sp S (tr (mv rfl)<|la (ov fun S=>x_bd S [(0,iI 1)] [iI 1,iI 0])) ?_;clear S;intro a u S;replace S:=S.pkc [1,0];replace S:=S.spl 1;refine cl S (rDo _ _ S.xxF B_t17 x_t17 S.mF (S.nfF hD) qK_t17 (S.dF   0 rfl (mo_bn (mo_run _ _))) (⟨1,0⟩ : Evt) ⟨(show inI64 1 from ⟨by omega,by omega⟩),(show inI64 0 from ⟨by omega,by omega⟩)⟩ (⟨by first | assumption | exact hOK,by first | assumption | exact hS0⟩)) cB45 ?_;rintro e u ⟨rn_t55,rfl,hk_rn_t55,hK_rn_t55,hq_rn_t55,T0⟩;refine ⟨_,rfl,fun a s=>?_⟩;have S2:=S.kF   [bnO (runF B_t17 rn_t55)] s T0 ⟨hK_rn_t55,trivial⟩ ⟨(mo_bn (mo_run _ _)),trivial⟩;replace S2:=S2.sh;clear S;have S:=S2;clear S2 s T0 hK_rn_t55;obtain ⟨hA55,hB55,_⟩:=hA17.step hq_rn_t55;replace hB55 : absR rn_t55 = ox1:=(hB55 (by rw [hB17];exact oe1)).trans (by rw [hB17];rfl);obtain ⟨hO55,hS55⟩:=hA55.ok7 bo;have hK55 : RunOK 8000000 rn_t55:=ROK.mono hO55 bo;replace S:=S.ext (d:=55) (v:=.bool true) ((S.get 55 rfl).trans (vbt (by rw [hB17];exact oe1)));refine sp S (tr (mv rfl)<|tr (gon 56 rfl fun S=>x_move (S.e rfl))<|la (gon 56 rfl fun S=>x_bd S [(0,iI 3)] [iI 3,iI 0])) ?_;clear S;intro a u S;refine strip S.s rfl rfl (gd:=56) rfl ?_;replace S:=S.spl 1;refine cl S (rDo _ _ S.xxF B_t17 rn_t55 S.mF (S.nfF hD) hk_rn_t55 (S.dF   0 rfl (mo_bn (mo_run _ _))) (⟨3,0⟩ : Evt) ⟨(show inI64 3 from ⟨by omega,by omega⟩),(show inI64 0 from ⟨by omega,by omega⟩)⟩ (⟨by first | assumption | exact hOK,by first | assumption | exact hS0⟩)) cB45 ?_;rintro e u ⟨rn_t59,rfl,hk_rn_t59,hK_rn_t59,hq_rn_t59,T0⟩;refine ⟨_,rfl,fun a s=>?_⟩;have S2:=S.kF   [bnO (runF B_t17 rn_t59)] s T0 ⟨hK_rn_t59,trivial⟩ ⟨(mo_bn (mo_run _ _)),trivial⟩;replace S2:=S2.sh;clear S;have S:=S2;clear S2 s T0 hK_rn_t59;obtain ⟨hA59,hB59,_⟩:=hA55.step hq_rn_t59;replace hB59 : absR rn_t59 = ox2:=(hB59 (by rw [hB55];exact oe2)).trans (by rw [hB55];rfl);obtain ⟨hO59,hS59⟩:=hA59.ok7 bo;have hK59 : RunOK 8000000 rn_t59:=ROK.mono hO59 bo;replace S:=S.ext (d:=59) (v:=.bool true) ((S.get 59 rfl).trans (vbt (by rw [hB55];exact oe2)));refine ens S (tr (ov fun S=>x_pickt (S.e rfl) (S.e rfl))<|la (av rfl)) ?_;clear S;intro a u S;refine rs0 ?_;refine sp S (tr (mv rfl)<|la (ov fun S=>x_bd S [(0,iI 1)] [iI 1,iI 0])) ?_;clear S;intro a u S;replace S:=S.pkc [1,0];replace S:=S.spl 1;refine cl S (rDo _ _ S.xxF B_t23 x_t23 S.mF (S.nfF hD) qK_t23 (S.dF   0 rfl (mo_bn (mo_run _ _))) (⟨1,0⟩ : Evt) ⟨(show inI64 1 from ⟨by omega,by omega⟩),(show inI64 0 from ⟨by omega,by omega⟩)⟩ (⟨by first | assumption | exact hOK,by first | assumption | exact hS0⟩)) cB45 ?_;rintro e u ⟨rn_t63,rfl,hk_rn_t63,hK_rn_t63,hq_rn_t63,T0⟩;refine ⟨_,rfl,fun a s=>?_⟩;have S2:=S.kF   [bnO (runF B_t23 rn_t63)] s T0 ⟨hK_rn_t63,trivial⟩ ⟨(mo_bn (mo_run _ _)),trivial⟩;replace S2:=S2.sh;clear S;have S:=S2;clear S2 s T0 hK_rn_t63;obtain ⟨hA63,hB63,_⟩:=hA23.step hq_rn_t63;replace hB63 : absR rn_t63 = oy1:=(hB63 (by rw [hB23];exact oe3)).trans (by rw [hB23];rfl);obtain ⟨hO63,hS63⟩:=hA63.ok7 bo;have hK63 : RunOK 8000000 rn_t63:=ROK.mono hO63 bo;replace S:=S.ext (d:=63) (v:=.bool true) ((S.get 63 rfl).trans (vbt (by rw [hB23];exact oe3)));refine sp S (tr (mv rfl)<|tr (gon 64 rfl fun S=>x_move (S.e rfl))<|la (gon 64 rfl fun S=>x_bd S [(0,iI 3)] [iI 3,iI 0])) ?_;clear S;intro a u S;refine strip S.s rfl rfl (gd:=64) rfl ?_;replace S:=S.spl 1;refine cl S (rDo _ _ S.xxF B_t23 rn_t63 S.mF (S.nfF hD) hk_rn_t63 (S.dF   0 rfl (mo_bn (mo_run _ _))) (⟨3,0⟩ : Evt) ⟨(show inI64 3 from ⟨by omega,by omega⟩),(show inI64 0 from ⟨by omega,by omega⟩)⟩ (⟨by first | assumption | exact hOK,by first | assumption | exact hS0⟩)) cB45 ?_;rintro e u ⟨rn_t67,rfl,hk_rn_t67,hK_rn_t67,hq_rn_t67,T0⟩;refine ⟨_,rfl,fun a s=>?_⟩;have S2:=S.kF   [bnO (runF B_t23 rn_t67)] s T0 ⟨hK_rn_t67,trivial⟩ ⟨(mo_bn (mo_run _ _)),trivial⟩;replace S2:=S2.sh;clear S;have S:=S2;clear S2 s T0 hK_rn_t67;obtain ⟨hA67,_,hC67⟩:=hA63.step hq_rn_t67;replace hC67:=hC67 (by rw [hB63];exact oe4);have hB67:=hB63;rw [← hC67] at hB67;obtain ⟨hO67,hS67⟩:=hA67.ok7 bo;have hK67 : RunOK 8000000 rn_t67:=ROK.mono hO67 bo;replace S:=S.ext (d:=67) (v:=.bool false) ((S.get 67 rfl).trans (vbf (by rw [hB63];exact oe4)));refine sp S (tr (gon 64 rfl fun S=>x_not (S.e rfl))<|tr (ov fun S=>x_pickt (S.e rfl) (S.e rfl))<|tr (mv rfl)<|tr (gon 70 rfl fun S=>x_move (S.e rfl))<|la (ocon 70 rfl (fun S=>rFin _ _ (S.xx [In (ow (runF B_t23 rn_t67))]) (.nil _) (B_t23,rn_t67) (S.rob hD 1 rfl (X:=fun D=>(ptE runE 137).wf D _ (B_t23,rn_t67)) (rd_run hk_rn_t67) _ (by simp))) cB56)) ?_;clear S;intro a u S;replace S:=S.ext (d:=72) (v:=.bool false) ((S.get 72 rfl).trans (vbf ((by have h0:=hA67.rd;have h1:=congrArg List.length h0;rw [rds_len] at h1;have h2 : (absM rn_t67.m.2) = _:=congrArg RunS.c hB67;rw [h1,h2];exact oe8))));refine ens S (tr (gon 70 rfl fun S=>x_not (S.e rfl))<|tr (ov fun S=>x_pickt (S.e rfl) (S.e rfl))<|la (av rfl)) ?_;clear S;intro a u S;refine rs0 ?_;refine sp S (tr (mv rfl)<|la (ov fun S=>x_bd S [(0,iI 2)] [iI 2,iI 0])) ?_;clear S;intro a u S;replace S:=S.spl 1;refine cl S (rDo _ _ S.xxF B_t23 rn_t67 S.mF (S.nfF hD) hk_rn_t67 (S.dF   0 rfl (mo_bn (mo_run _ _))) (⟨2,0⟩ : Evt) ⟨(show inI64 2 from ⟨by omega,by omega⟩),(show inI64 0 from ⟨by omega,by omega⟩)⟩ (⟨by first | assumption | exact hOK,by first | assumption | exact hS0⟩)) cB45 ?_;rintro e u ⟨rn_t77,rfl,hk_rn_t77,hK_rn_t77,hq_rn_t77,T0⟩;refine ⟨_,rfl,fun a s=>?_⟩;have S2:=S.kF   [bnO (runF B_t23 rn_t77)] s T0 ⟨hK_rn_t77,trivial⟩ ⟨(mo_bn (mo_run _ _)),trivial⟩;replace S2:=S2.sh;clear S;have S:=S2;clear S2 s T0 hK_rn_t77;obtain ⟨hA77,hB77,_⟩:=hA67.step hq_rn_t77;replace hB77 : absR rn_t77 = oy2:=(hB77 (by rw [hB67];exact oe5)).trans (by rw [hB67];rfl);obtain ⟨hO77,hS77⟩:=hA77.ok7 bo;have hK77 : RunOK 8000000 rn_t77:=ROK.mono hO77 bo;replace S:=S.ext (d:=77) (v:=.bool true) ((S.get 77 rfl).trans (vbt (by rw [hB67];exact oe5)));refine sp S (tr (mv rfl)<|tr (gon 78 rfl fun S=>x_move (S.e rfl))<|la (gon 78 rfl fun S=>x_bd S [(0,iI 3)] [iI 3,iI 0])) ?_;clear S;intro a u S;refine strip S.s rfl rfl (gd:=78) rfl ?_;replace S:=S.spl 1;refine cl S (rDo _ _ S.xxF B_t23 rn_t77 S.mF (S.nfF hD) hk_rn_t77 (S.dF   0 rfl (mo_bn (mo_run _ _))) (⟨3,0⟩ : Evt) ⟨(show inI64 3 from ⟨by omega,by omega⟩),(show inI64 0 from ⟨by omega,by omega⟩)⟩ (⟨by first | assumption | exact hOK,by first | assumption | exact hS0⟩)) cB45 ?_;rintro e u ⟨rn_t81,rfl,hk_rn_t81,hK_rn_t81,hq_rn_t81,T0⟩;refine ⟨_,rfl,fun a s=>?_⟩;have S2:=S.kF   [bnO (runF B_t23 rn_t81)] s T0 ⟨hK_rn_t81,trivial⟩ ⟨(mo_bn (mo_run _ _)),trivial⟩;replace S2:=S2.sh;clear S;have S:=S2;clear S2 s T0 hK_rn_t81;obtain ⟨hA81,hB81,_⟩:=hA77.step hq_rn_t81;replace hB81 : absR rn_t81 = oy3:=(hB81 (by rw [hB77];exact oe6)).trans (by rw [hB77];rfl);obtain ⟨hO81,hS81⟩:=hA81.ok7 bo;have hK81 : RunOK 8000000 rn_t81:=ROK.mono hO81 bo;replace S:=S.ext (d:=81) (v:=.bool true) ((S.get 81 rfl).trans (vbt (by rw [hB77];exact oe6)));refine ens S (tr (ov fun S=>x_pickt (S.e rfl) (S.e rfl))<|la (av rfl)) ?_;clear S;intro a u S;refine rs0 ?_;refine sp S (la (mv rfl)) ?_;clear S;intro a u S;refine cl S (rAgent _ _ (S.xx [In (ow (runF B_t17 rn_t59))]) (.nil _) (B_t17,rn_t59) (S.rob hD 0 rfl (X:=fun D=>(ptE runE 137).wf D _ (B_t17,rn_t59)) (rd_run hk_rn_t59) _ (by simp)) 0 ⟨by omega,by omega⟩) cB55 ?_;rintro e u ⟨r_t850,rfl,R_t850,hr_t850,T0⟩;refine ⟨_,rfl,fun a s=>?_⟩;replace S:=(S.k0 s T0).ar (wfF agtE r_t850) R_t850;clear s T0 R_t850;obtain ⟨hl13,hu13⟩ : inI64 r_t850.run:=id ((S.u 5 rfl).2.2.1);obtain ⟨hl14,hu14⟩ : inI64 r_t850.sav:=id ((S.u 5 rfl).2.2.2.1);obtain ⟨hl15,hu15⟩ : inI64 r_t850.seq:=id ((S.u 5 rfl).2.2.2.2.1);obtain ⟨hl16,hu16⟩ : inI64 r_t850.inc:=id ((S.u 5 rfl).2.2.2.2.2);refine sp S (tr (mv rfl)<|tr (exi rfl rfl)<|la (exi rfl rfl)) ?_;clear S;intro a u S;replace S:=S.ext (d:=87) (v:=.bool true) ((S.get 87 rfl).trans (vbt (⟨by omega,by have:=hA59.len;show (0 : Int) < (rn_t59.sts.xs.length : Int);omega⟩)));refine nbp S (x_allocz _ iZ101 rfl) ?_;clear S;intro a u b10 S;refine ens S (tr (stkw 2 rfl rfl rfl)<|la (av rfl)) ?_;clear S;intro a u S;refine rs0 ?_;refine sp S (la (mv rfl)) ?_;clear S;intro a u S;refine cl S (rAgent _ _ (S.xx [In (ow (runF B_t17 rn_t59))]) (.nil _) (B_t17,rn_t59) (S.rob hD 0 rfl (X:=fun D=>(ptE runE 137).wf D _ (B_t17,rn_t59)) (rd_run hk_rn_t59) _ (by simp)) 1 ⟨by omega,by omega⟩) cB55 ?_;rintro e u ⟨r_t900,rfl,R_t900,hr_t900,T0⟩;refine ⟨_,rfl,fun a s=>?_⟩;replace S:=(S.k0 s T0).ar (wfF agtE r_t900) R_t900;clear s T0 R_t900;obtain ⟨hl18,hu18⟩ : inI64 r_t900.run:=id ((S.u 6 rfl).2.2.1);obtain ⟨hl19,hu19⟩ : inI64 r_t900.sav:=id ((S.u 6 rfl).2.2.2.1);obtain ⟨hl20,hu20⟩ : inI64 r_t900.seq:=id ((S.u 6 rfl).2.2.2.2.1);obtain ⟨hl21,hu21⟩ : inI64 r_t900.inc:=id ((S.u 6 rfl).2.2.2.2.2);refine sp S (tr (mv rfl)<|tr (exi rfl rfl)<|la (exi rfl rfl)) ?_;clear S;intro a u S;replace S:=S.ext (d:=92) (v:=.bool false) ((S.get 92 rfl).trans (vbf (fun h=>by have h1:=hA59.len;have h2 : (1 : Int) < (rn_t59.sts.xs.length : Int):=h.2;omega)));refine nbp S (x_allocz _ iZ101 rfl) ?_;clear S;intro a u b12 S;refine ens S (tr (stkw 3 rfl rfl rfl)<|la (av rfl)) ?_;clear S;intro a u S;refine rs0 ?_;refine sp S (tr (mv rfl)<|tr (mv rfl)<|tr (gon 94 rfl fun S=>x_move (S.e rfl))<|tr (ov fun S=>x_pickt (S.e rfl) (S.e rfl))<|tr (mv rfl)<|tr (gon 97 rfl fun S=>x_move (S.e rfl))<|tr (ov fun S=>x_pickt (S.e rfl) (S.e rfl))<|tr (mv rfl)<|tr (gon 100 rfl fun S=>x_move (S.e rfl))<|la (ocon 100 rfl (fun S=>rFin _ _ (S.xx [In (ow (runF B_t17 rn_t59))]) (.nil _) (B_t17,rn_t59) (S.rob hD 0 rfl (X:=fun D=>(ptE runE 137).wf D _ (B_t17,rn_t59)) (rd_run hk_rn_t59) _ (by simp))) cB56)) ?_;clear S;intro a u S;replace S:=S.ext (d:=102) (v:=.bool true) ((S.get 102 rfl).trans (vbt ((by have h0:=hA59.rd;have h1:=congrArg List.length h0;rw [rds_len] at h1;have h2 : (absM rn_t59.m.2) = _:=congrArg RunS.c hB59;rw [h1,h2];exact oe9))));refine sp S (tr (ov fun S=>x_pickt (S.e rfl) (S.e rfl))<|tr (mv rfl)<|tr (gon 104 rfl fun S=>x_move (S.e rfl))<|la (ocon 104 rfl (fun S=>rFin _ _ (S.xx [In (ow (runF B_t23 rn_t81))]) (.nil _) (B_t23,rn_t81) (S.rob hD 1 rfl (X:=fun D=>(ptE runE 137).wf D _ (B_t23,rn_t81)) (rd_run hk_rn_t81) _ (by simp))) cB56)) ?_;clear S;intro a u S;replace S:=S.ext (d:=106) (v:=.bool true) ((S.get 106 rfl).trans (vbt ((by have h0:=hA81.rd;have h1:=congrArg List.length h0;rw [rds_len] at h1;have h2 : (absM rn_t81.m.2) = _:=congrArg RunS.c hB81;rw [h1,h2];exact oe10))));refine sp S (tr (ov fun S=>x_pickt (S.e rfl) (S.e rfl))<|tr (mv rfl)<|tr (gon 108 rfl fun S=>x_move (S.e rfl))<|tr (ov fun S=>x_pickt (S.e rfl) (S.e rfl))<|tr (mv rfl)<|tr (gon 111 rfl fun S=>x_move (S.e rfl))<|tr (gon 111 rfl fun S=>x_not (S.e rfl))<|tr (ov fun S=>x_pickt (S.e rfl) (S.e rfl))<|tr (mv rfl)<|tr (gon 115 rfl fun S=>x_fld (z:=0) (0) 2 uT101 rfl rfl (by kernel_rfl) (S.e rfl))<|tr (gon 115 rfl fun S=>x_load sC3 (S.e rfl) ((S.k 2 rfl).cell (j:=2) rfl))<|la (gon 115 rfl fun S=>x_eql (S.e rfl) (S.e rfl))) ?_;clear S;intro a u S;replace S:=S.ext (d:=118) (v:=.bool true) ((S.get 118 rfl).trans (vbt (by rw [hr_t850,hB59];exact oe11.1)));refine sp S (tr (ov fun S=>x_pickt (S.e rfl) (S.e rfl))<|tr (mv rfl)<|tr (gon 120 rfl fun S=>x_fld (z:=0) (0) 0 uT101 rfl rfl (by kernel_rfl) (S.e rfl))<|la (gon 120 rfl fun S=>x_load sC4 (S.e rfl) ((S.k 2 rfl).cell (j:=0) rfl))) ?_;clear S;intro a u S;replace S:=S.ext (d:=122) (v:=.bool true) ((S.get 122 rfl).trans (vbt (by rw [hr_t850,hB59];exact oe11.2)));refine sp S (tr (ov fun S=>x_pickt (S.e rfl) (S.e rfl))<|tr (mv rfl)<|la (gon 124 rfl fun S=>x_move (S.e rfl))) ?_;clear S;intro a u S;refine strip S.s rfl rfl (gd:=124) rfl ?_;refine cl S (rCtl _ _ (S.xx [In (ow (runF B_t17 rn_t59))]) (.nil _) (B_t17,rn_t59) (S.rob hD 0 rfl (X:=fun D=>(ptE runE 137).wf D _ (B_t17,rn_t59)) (rd_run hk_rn_t59) _ (by simp)) (by first | assumption | exact hOK | exact (hT.sm hBeg bo (by assumption) (by assumption)).1)) cB54 ?_;rintro e u ⟨ra_t126_3,rc_t126_3,ra_t126_4,rc_t126_4,ra_t126_5,rc_t126_5,rfl,R_t126_3,R_t126_4,R_t126_5,T0⟩;refine ⟨_,rfl,fun a s=>?_⟩;replace S:=(S.krx [⟨_,intE,3,ra_t126_5,rc_t126_5,rn_t59.m.2.waiting.xs⟩,⟨_,intE,3,ra_t126_4,rc_t126_4,rn_t59.m.2.known.xs⟩,⟨_,intE,3,ra_t126_3,rc_t126_3,rn_t59.m.2.target.xs⟩] s T0 ⟨R_t126_5,R_t126_4,R_t126_3,trivial⟩ ⟨fun _ _ _ _ h=>h,fun _ _ _ _ h=>h,fun _ _ _ _ h=>h,trivial⟩).sh;clear s T0 R_t126_5 R_t126_4 R_t126_3;refine sp S (tr (gon 124 rfl fun S=>x_fldv uT57 rfl sC3 (S.e rfl) rfl)<|la (gon 124 rfl fun S=>x_eql (S.e rfl) (S.e rfl))) ?_;clear S;intro a u S;replace S:=S.ext (d:=128) (v:=.bool true) ((S.get 128 rfl).trans (vbt ((congrArg (fun r : RunS=>r.c.round) hB59).trans oe12)));refine sp S (tr (ov fun S=>x_pickt (S.e rfl) (S.e rfl))<|tr (mv rfl)<|tr (gon 130 rfl fun S=>x_move (S.e rfl))<|la (gon 130 rfl fun S=>x_bd S [(0,iI 6)] [iI 6,iI 0])) ?_;clear S;intro a u S;refine strip S.s rfl rfl (gd:=130) rfl ?_;replace S:=S.pkc [1,2,3,4,5,6,0];replace S:=S.spl 6;refine cl S (rDo _ _ S.xxF B_t17 rn_t59 S.mF (S.nfF hD) hk_rn_t59 (S.dF   0 rfl (mo_bn (mo_run _ _))) (⟨6,0⟩ : Evt) ⟨(show inI64 6 from ⟨by omega,by omega⟩),(show inI64 0 from ⟨by omega,by omega⟩)⟩ (⟨by first | assumption | exact hOK,by first | assumption | exact hS0⟩)) cB45 ?_;rintro e u ⟨rn_t133,rfl,hk_rn_t133,hK_rn_t133,hq_rn_t133,T0⟩;refine ⟨_,rfl,fun a s=>?_⟩;have S2:=S.kF   [bnO (runF B_t17 rn_t133)] s T0 ⟨hK_rn_t133,trivial⟩ ⟨(mo_bn (mo_run _ _)),trivial⟩;replace S2:=S2.sh;clear S;have S:=S2;clear S2 s T0 hK_rn_t133;obtain ⟨hA133,_,hC133⟩:=hA59.step hq_rn_t133;replace hC133:=hC133 (by rw [hB59];exact oe13);have hB133:=hB59;rw [← hC133] at hB133;obtain ⟨hO133,hS133⟩:=hA133.ok7 bo;have hK133 : RunOK 8000000 rn_t133:=ROK.mono hO133 bo;replace S:=S.ext (d:=133) (v:=.bool false) ((S.get 133 rfl).trans (vbf (by rw [hB59];exact oe13)));refine sp S (tr (gon 130 rfl fun S=>x_not (S.e rfl))<|tr (ov fun S=>x_pickt (S.e rfl) (S.e rfl))<|tr (mv rfl)<|la (gon 136 rfl fun S=>x_move (S.e rfl))) ?_;clear S;intro a u S;refine strip S.s rfl rfl (gd:=136) rfl ?_;refine cl S (rPoss _ _ (S.xx [In (ow (runF B_t17 rn_t133))]) (.nil _) (B_t17,rn_t133) (S.rob hD 6 rfl (X:=fun D=>(ptE runE 137).wf D _ (B_t17,rn_t133)) (rd_run hk_rn_t133) _ (by simp)) (by first | assumption | exact hOK | exact (hT.sm hBeg bo (by assumption) (by assumption)).1)) cB52 ?_;rintro e u ⟨ra_t138,rc_t138,rfl,R_t138,T0⟩;refine ⟨_,rfl,fun a s=>?_⟩;replace S:=(S.krx [⟨_,evtE,78,ra_t138,rc_t138,(posR (absR rn_t133))⟩] s T0 ⟨R_t138,trivial⟩ ⟨fun _ _ _ _ h=>h,trivial⟩).sh;clear s T0 R_t138;refine ens S (tr (gon 136 rfl fun S=>x_len uT72 (S.e rfl))<|tr (gon 136 rfl fun S=>x_eql (S.e rfl) (S.e rfl))<|tr (ov fun S=>x_pickt (S.e rfl) (S.e rfl))<|la (av rfl)) ?_;clear S;intro a u S;refine wp_ret ?_;refine ret1 rfl S.s rfl ?_;replace S:=S.pk [];refine ⟨(r1 (vb ?_)),S.m.c⟩;refine ⟨fun _=>trivial,fun _=>?_⟩;show ((posR (absR rn_t133)).length : Int) = 2;rw [hB133,oe14];rfl
section
variable {F : Nat → Prop} {w0 w : World} {m0 ms : List BS} {n : Nat} {L : List (Nat × Value)} {rs : List RF} {os fs : List OF} {a : Act}
theorem dnxJ {α : Type} {E : Enc α} {x : α} {h : Array Obj} {o : List BS} {js : List Nat} (H : E.wf (Fr F ms) h x) : E.wf (Fr (Exc F ms o) (picks ms js)) h x:=E.mono (fun k _ h=>⟨fun e=>h.1 (in_picks e),fun e=>e.elim (fun e=>h.1 e.1) h.2⟩) H
theorem St.robJ (S : St F w0 m0 n L rs os a w) (hD : ∀ k,In m0 k → ¬ F k) (js : List Nat) (i : Nat) (hi : nth os i = some (bnO fs)) {X : (Nat → Prop) → Prop} (rd : ∀ D,(∀ f ∈ fs,f.p F (In (ow os)) w) → (∀ k,In (ow fs) k → k < w.heap.size → D k) → (∀ k,k < w.heap.size → Fw F (In (ow os)) k → D k) → X D) (o : List BS) (ho : In (ow fs) ∈ o) (hj : js.contains i = false:=by rfl) : X (Fr (Exc F (ow os) o) (picks (ow os) js)) :=
  rd _ (S.m.o _ (nth_mem hi)).2 (fun _ hk _=>⟨S.m.c.ms.sep.out i js hj (ow_get hi) hk,fun e=>e.elim (fun e=>e.2 (in_mem ho hk)) (S.nf hD (in_mem (ow_mem (nth_mem hi)) hk))⟩) fun _ _ h=>⟨fun e=>h.1 (in_picks e),fun e=>e.elim (fun e=>h.1 e.1) h.2⟩
end
open Go.RowKit Go.Proofs.Ytobggnpnochnnaa
theorem Beg.sts {sg : Bool} {R : List (List Chg)} {S : List (List Int)} {n : Nat} {x : Run} {y : RunR} (h : Beg sg R S n x y) : statesP y.b.2.staged (rdB y.b.2) (y.ag.xs.length : Int) = some S:=by rw [h.T.g,h.T.b.rd,h.T.b.tn];exact h.st
theorem QAt.rnl {R : List (List Chg)} {S : List (List Int)} {n B : Nat} {y : RunR} (h : QAt R S n B y) : y.b.2.rounds.xs.length = R.length:=by rw [← h.rd];exact (rds_len (mB y.b.2)).symm
open Go.RowKit Go.Proofs.Ytobggnpnochnnaa
theorem Run2.sts {sg : Bool} {R : List (List Chg)} {S : List (List Int)} {n k : Nat} {x x0 : Run} {y y0 : RunR} (h : Run2 sg R S n k x y) (H : Beg sg R S n x0 y0) : statesP y.b.2.staged (rdB y.b.2) (y.ag.xs.length : Int) = some S:=by rw [h.T.g,h.T.b.rd,h.T.b.tn];exact H.st
theorem Run2.setP {sg : Bool} {R : List (List Chg)} {S : List (List Int)} {n k : Nat} {x x0 : Run} {y y0 : RunR} (h : Run2 sg R S n k x y) (H : Beg sg R S n x0 y0) (hk : k ≤ 32) : SetP 1000000 x:=by
 have hl : x.m.2.target.xs.length = n:=h.T.a.tn;have hM:=h.M;refine ⟨?_,?_,?_,?_⟩
 ·rw [h.T.a.rd,h.T.a.st,hl];exact h.T.a.mono bo
 ·rw [h.T.a.rd,h.T.a.st];exact H.Q
 ·rw [h.T.a.rd,h.T.a.st,hl];exact h.I
 rw [h.T.a.rd,hl];omega
structure Ended (R : List (List Chg)) (S : List (List Int)) (n : Nat) (x : Run) : Prop where
 a : RunAt R S n 4000000 x
 f : finC x.m.2.rounds.xs.length (absM x.m.2)
 ag : ∀ d : Nat,d < n → (agR (absR x) d).up = true ∧ ¬ (agR (absR x) d).quar = true ∧ (agR (absR x) d).run = (S.getD (if x.m.2.back = true then 0 else R.length) []).getD d 0 ∧ (agR (absR x) d).sav = (S.getD (if x.m.2.back = true then 0 else R.length) []).getD d 0
theorem Two.ended {sg : Bool} {R : List (List Chg)} {S : List (List Int)} {n B : Nat} {x x1 : Run} {y : RunR} (h : Two sg R S n B x y) (q : SetQ x x1) : Ended R S n x1:=by
 have hl : x.m.2.target.xs.length = n:=h.a.tn;obtain ⟨_,q1,_,q2,q3⟩:=q;rw [h.a.rd,h.a.st,hl] at q1 q2;rw [hl] at q3;obtain ⟨g1,g2⟩:=settled q2 q3;refine ⟨q1,?_,fun d hd=>?_⟩
 ·rw [← q1.rd] at g1
  rwa [show (rdsM x1.m.2).length = x1.m.2.rounds.xs.length from rds_len x1.m.2] at g1
 have hs:=q2.sl;rw [agR_in bo];exact g2 d hd
open Go.RowKit Go.Proofs.Ytobggnpnochnnaa
set_option synthInstance.maxSize 2000
open Go.RowKit Go.Proofs.Ytobggnpnochnnaa
structure Run1 (R : List (List Chg)) (S : List (List Int)) (n k : Nat) (x : Run) : Prop where
 T : RunAt R S n (1000 + 1001 * k) x
 I : InvR n R S (absR x)
 M : mR n R (absR x).c (absR x).st ≤ 60 + 60 * k
theorem pr_move {α : Type} {E : Enc α} {D D1 : Nat → Prop} {h : Array Obj} {s : Sl (Nat × α)} (H : (slE (prE E)).wf D h s) (hD : 0 < s.xs.length → D1 (blk s.a)) : (slE (prE E)).wf D1 h s :=
 ⟨⟨H.1.len,fun h0=>⟨(H.1.ad h0).1,hD h0,(H.1.ad h0).2.2⟩,H.1.cell,fun _ _=>trivial⟩,H.2⟩
theorem run_up {F F1 W W1 : Nat → Prop} {w : World} {B : Nat} {x : Run} (h : (bnO (runF B x)).p F1 W1 w) (h1 : (slE (slE chgE)).wf (Fw F W) w.heap x.m.2.rounds) (h2 : (slE (slE intE)).wf (Fw F W) w.heap x.m.2.states) (h3 : (slE (prE staE)).wf (Fw F W) w.heap x.sts) : (bnO (runF B x)).p F W w:=by
 have hm:=h.2 (bnO (machF x.m.1 x.m.2)) (List.mem_of_getElem? (i:=1) rfl);have hl:=h.2 (lsO staG x.sts.xs) (List.mem_of_getElem? (i:=2) rfl);refine ⟨h.1,fun f hf=>?_⟩;simp only [runF,List.mem_cons,List.not_mem_nil,or_false] at hf
 rcases hf with rfl | rfl | rfl | rfl
 ·exact h.2 (blO B (runE.cells x) 137) (List.mem_of_getElem? (i:=0) rfl)
 ·refine ⟨hm.1, fun f hf => ?_⟩;have g := hm.2 f hf;simp only [machF, List.mem_cons, List.not_mem_nil, or_false] at hf
  rcases hf with rfl | rfl | rfl | rfl | rfl | rfl | rfl
  ·exact g
  ·exact g
  ·exact g
  ·exact g
  ·exact g
  ·exact h1
  exact h2
 ·refine ⟨hl.1, fun f hf => ?_⟩;have g := hl.2 f hf;obtain ⟨p, _, rfl⟩ := List.mem_map.1 hf;refine ⟨g.1, fun f hf => ?_⟩;have g2 := g.2 f hf;simp only [staF, List.mem_cons, List.not_mem_nil, or_false] at hf
  rcases hf with rfl | rfl | rfl
  ·exact g2
  ·exact g2
  exact g2
 exact h3
theorem St.kRun {F : Nat → Prop} {w0 w w1 : World} {m0 : List BS} {n : Nat} {L L1 : List (Nat × Value)} {rs : List RF} {os : List OF} {a a1 : Act} {q : Option (Nat × Run)} {b0 : Nat} {x0 : Run} (S : St F w0 m0 n L rs os a w) (i : Nat) (hi : nth os i = some (bnO (runF b0 x0))) (s : Slots n L1 a1) (t : Tr [] w [In (ow (runQ q))] w1) (hq : (bnO (runQ q)).p (Exc F (ow os) [In (ow (runF b0 x0))]) (In [In (ow (runQ q))]) w1)
 (hr : ∀ x,q = some x → KeepR x0 x.2 ∧ (0 < x.2.sts.xs.length → w.heap.size ≤ blk x.2.sts.a)) : St F w0 m0 n L1 rs (os ++ [bnO (runQ q)]) a1 w1:=by
 have hM:=S.M;have e3 : ow (os ++ [bnO (runQ q)]) = ow os ++ [In (ow (runQ q))]:=ow_app os _;have T : Tr (ow os) w (ow (os ++ [bnO (runQ q)])) w1:=by
  refine ⟨t.ch.mono fun k hk=>hk.elim,fun k hk=>?_,⟨fun k hk=>?_,?_⟩⟩
  ·rw [e3] at hk
   rcases in_app.1 hk with h | h
   ·exact .inl h
   exact (t.sub k h).imp (fun h=>h.elim) id
  ·rw [e3] at hk
   rcases in_app.1 hk with h | h
   ·exact Nat.lt_of_lt_of_le (hM.lt k h) t.size
   exact t.ms.lt k h
  rw [e3];refine sep_app.2 ⟨hM.sep,t.ms.sep,fun k hk hm=>?_⟩
  rcases t.sub k hm with h | h
  ·exact h
  have:=hM.lt k hk;omega
 have old : ∀ f ∈ os,f.p F (In (ow (os ++ [bnO (runQ q)]))) w1:=fun f h=>f.st T.mv (fun k hk ho=>t.ch.block k hk fun hm=>hm.elim) (S.m.o f h);refine ⟨s,S.m.go T fun f hf=>?_⟩
 rcases List.mem_append.1 hf with h | h
 ·exact old f h
 obtain rfl:=List.mem_singleton.1 h
 rcases q with _ | x
 ·exact ⟨hq.1,fun f hf=>by cases hf⟩
 obtain ⟨k1,k2⟩:=hr x rfl;have hm:=((old _ (nth_mem hi)).2 (bnO (machF x0.m.1 x0.m.2)) (List.mem_of_getElem? (i:=1) rfl)).2;have h3 : (slE (prE staE)).wf (Fw (Exc F (ow os) [In (ow (runF b0 x0))]) (In [In (ow (runQ (some x)))])) w1.heap x.2.sts:=hq.2 (daO (slE (prE staE)) x.2.sts) (List.mem_of_getElem? (i:=3) rfl);refine run_up hq ?_ ?_ ?_
 ·rw [k1.1];exact hm (daO (slE (slE chgE)) x0.m.2.rounds) (List.mem_of_getElem? (i:=5) rfl)
 ·rw [k1.2];exact hm (daO (slE (slE intE)) x0.m.2.states) (List.mem_of_getElem? (i:=6) rfl)
 refine pr_move h3 fun h0=>?_;have g:=(h3.1.ad h0).2.1;refine ⟨fun e=>?_,fun e=>g.2 (.inr e)⟩;rw [e3] at e
 rcases in_app.1 e with e | e
 ·have:=hM.lt _ e;have:=k2 h0;omega
 exact g.1 e
theorem same_noS {x y : Run} {a b : Ctrl} (h : noS (absR x).c = noS (absR y).c) (ha : ctlR a (noS (absR x).c)) (hb : ctlR b (noS (absR y).c)) : sameC a b:=same_of_ctlR ha (h ▸ hb)
theorem Run2.one {sg : Bool} {R : List (List Chg)} {S : List (List Int)} {n k : Nat} {x : Run} {y : RunR} (h : Run2 sg R S n k x y) : Run1 R S n k x:=⟨h.T.a,h.I,h.M⟩
theorem Run1.copy {R : List (List Chg)} {S : List (List Int)} {n k : Nat} {x x1 : Run} (h : Run1 R S n k x) (hk : KeepR x x1) (e : absR x1 = absR x) : Run1 R S n k x1 :=
 ⟨RunAt.of (r:=absR x) (by have h1:=h.T.ok;unfold RunOK at h1;rw [h.T.rd,h.T.st,h.T.tn] at h1;exact h1) h.T.s0 ((keep_rds hk).trans h.T.rd) ((keep_sts hk).trans h.T.st) e,e ▸ h.I,e ▸ h.M⟩
theorem Run1.late {sg : Bool} {R : List (List Chg)} {S : List (List Int)} {n k : Nat} {x x0 x1 : Run} {y0 : RunR} {e : Evt} (h : Run1 R S n k x) (H : Beg sg R S n x0 y0) (he : e.kind = 6) (hx : DoX x x1 e) : Run1 R S n (k + 1) x1 ∧ noS (absR x1).c = noS (absR x).c:=by
 obtain ⟨a1,a2,a3⟩:=h.T.step hx;have hM:=h.M
 by_cases hc : canR (absR x) e
 ·refine ⟨⟨a1.mono bo, by rw [a2 hc]; exact inv_do H.P H.Q h.I hc, ?_⟩, ?_⟩
  ·rw [a2 hc];have:=mR_any H.P H.Q h.I H.n4 H.R3 hc;omega
  rw [a2 hc];unfold doR evR;simp only [he];rfl
 rw [a3 hc];exact ⟨⟨h.T.mono bo,h.I,by omega⟩,rfl⟩
theorem Run1.setP {sg : Bool} {R : List (List Chg)} {S : List (List Int)} {n k : Nat} {x x0 : Run} {y0 : RunR} (h : Run1 R S n k x) (H : Beg sg R S n x0 y0) (hk : k ≤ 32) : SetP 1000000 x:=by
 have hl : x.m.2.target.xs.length = n:=h.T.tn;have hM:=h.M;refine ⟨?_,?_,?_,?_⟩
 ·rw [h.T.rd,h.T.st,hl];exact h.T.mono bo
 ·rw [h.T.rd,h.T.st];exact H.Q
 ·rw [h.T.rd,h.T.st,hl];exact h.I
 rw [h.T.rd,hl];omega
theorem Run1.ended {R : List (List Chg)} {S : List (List Int)} {n k : Nat} {x x1 : Run} (h : Run1 R S n k x) (q : SetQ x x1) : Ended R S n x1 ∧ x1.m.2.back = x.m.2.back:=by
 have hl : x.m.2.target.xs.length = n:=h.T.tn;obtain ⟨_,q1,qb,q2,q3⟩:=q;rw [h.T.rd,h.T.st,hl] at q1 q2;rw [hl] at q3;obtain ⟨g1,g2⟩:=settled q2 q3;refine ⟨⟨q1,?_,fun d hd=>?_⟩,qb⟩
 ·rw [← q1.rd] at g1
  rwa [show (rdsM x1.m.2).length = x1.m.2.rounds.xs.length from rds_len x1.m.2] at g1
 have hs:=q2.sl;rw [agR_in bo];exact g2 d hd
theorem nTimes (w : World) (F : Nat → Prop) (hF : Old F w) (M : MS [] w) (t_ : Sl Int) (t__w : (slE intE).wf (Fr F []) w.heap t_) (times : Int) (times_h : inI64 times) :
 Calls Try.prog 16 #[sV t_,iI times] w fun e w'=>e = .returned (bD (True)) ∧ Tr [] w [] w':=by
 have : t_.xs.length ≤ 9223372036854775807:=(t__w).1.len;obtain ⟨times_hl,times_hu⟩ : inI64 times:=id times_h;refine go Try.func16 rfl 128 rfl [wfF (slE intE) t_] [] hF M ⟨t__w,trivial⟩ trivial ?_;intro a S;have hD : ∀ k,In ([] : List BS) k → ¬ F k:=fun _ h=>h.elim;refine rs S (la (av rfl)) ?_;clear S;intro a u S;refine rs0 ?_;refine sp S (la (mv rfl)) ?_;clear S;intro a u S;refine cl S (gNew _ _ S.x (.nil _) t_ (dn0 (S.u 0 rfl))) cB19 ?_;rintro e u ⟨T19,rfl,TK,T0⟩;refine ⟨_,rfl,fun a s=>?_⟩;replace S:=S.kt s T0 TK;clear s T0 TK;refine ens S (la (av rfl)) ?_;clear S;intro a u S;refine rs0 ?_;refine sp S (la (mv rfl)) ?_;clear S;intro a u S;replace S:=S.spl 0;refine cl S (nBegin _ _ S.xxF T19 S.mF (S.nfF hD) t_ (dnF   (S.u 0 rfl)) (S.t 0 rfl)) cB43 ?_;rintro e u ⟨nb_t220,nx_t220,nb_t221,nx_t221,rfl,nk_t220,nB_t220,nk_t221,nB_t221,hr_t221,tK,T0⟩;refine ⟨_,rfl,fun a s=>?_⟩;have S2:=S.kF   [bnO (runF nb_t220 nx_t220),bnO (rrF nb_t221 nx_t221),tpO 112 T19 t_] s T0 ⟨nB_t220,nB_t221,tK,trivial⟩ ⟨(mo_bn (mo_run _ _)),(mo_bn (mo_rr _ _)),mo_tp,trivial⟩;replace S2:=S2.sh;clear S;have S:=S2;clear S2 s T0 tK nB_t220 nB_t221;obtain ⟨sg,R,Z,n,hBeg⟩:=hr_t221;have hR3:=hBeg.R3;have hn4:=hBeg.n4;have hn1:=hBeg.n1;have hrn:=hBeg.T.b.rnl;refine ens S (tr (mv rfl)<|tr (exi rfl rfl)<|tr (exi rfl rfl)<|tr (exi rfl rfl)<|tr (av rfl)<|tr (av rfl)<|la (av rfl)) ?_;clear S;intro a u S;refine wp_seq ?_;refine rs S (tr (mv rfl)<|la (ov fun S=>x_not (S.e rfl))) ?_;clear S;intro a u S;refine cdf S rfl ?_;refine wp_skip (then_n (wp_seq ?_));refine rs S (la (av rfl)) ?_;clear S;intro a u S;refine wp_block ?_;refine lp3 (fun (i : Nat) (xj : Run) (yj : RunR)=>[(1,iI times),(4,.bool false),(5,pT T19 0),(6,pT nb_t220 0),(7,pT nb_t221 0),(9,iN i)]) (fun (i : Nat) (xj : Run) (yj : RunR)=>[bnO (runF nb_t220 xj),bnO (rrF nb_t221 yj),tpO 112 T19 t_]) (fun (i : Nat) (xj : Run) (yj : RunR)=>runK xj ∧ rrK yj ∧ (i ≤ 10 ∧ Run2 sg R Z n i xj yj)) (fun (i : Nat) (xj : Run) (yj : RunR)=>10 - i) S 0 nx_t220 nx_t221 (subM rfl) rfl ?_ ?_
 ·refine ⟨nk_t220,nk_t221,?_⟩;exact ⟨Nat.zero_le _,hBeg.two⟩
 clear S;intro i xj yj a u S hR;obtain ⟨hk_xj,hk_yj,hR⟩:=hR;obtain ⟨hi,hT⟩:=hR;obtain ⟨hO7,hS0⟩:=hT.T.a.ok7 bo;have hQ7:=hT.T.b.ok7 bo;have hEV:=hQ7.ev;have hrnj:=hT.T.b.rnl;have htnj:=hT.T.b.tn;have hOK : RunOK 8000000 xj:=ROK.mono hO7 (by decide);refine wp_seq ?_;refine rs S (tr (mv rfl)<|la (lssi rfl rfl)) ?_;clear S;intro a u S;refine cd S rfl ?_ ?_
 ·intro hc0;refine wp_skip (then_n (wp_seq (wp_block (rs0 ?_))));refine sp S (tr (mv rfl)<|la (mv rfl)) ?_; clear S; intro a u S;refine cl S (gEvent _ _ (S.xx [In (ow (rrF nb_t221 yj))]) T19 (S.M.pick [2] (by decide)) t_ (dnxJ (js := [2]) (S.u 0 rfl)) (S.t 2 rfl) (nb_t221, yj) (S.robJ hD [2] 1 rfl (X := fun D => (ptE rrE 95).wf D _ (nb_t221, yj)) (rd_rr hk_yj) _ (by simp)) (by first | assumption | exact hEV)) cB44 ?_;rintro e u ⟨r_t34, rfl, R_t34, tK, T0⟩; refine ⟨_, rfl, fun a s => ?_⟩;replace S := (S.k1 2 rfl s T0 tK).ar (wfF evtE r_t34) R_t34; clear s T0 tK R_t34;obtain ⟨hl8, hu8⟩ : inI64 r_t34.kind := id ((S.u 1 rfl).1);obtain ⟨hl9, hu9⟩ : inI64 r_t34.dev := id ((S.u 1 rfl).2);refine nbp S (x_allocz _ iZ78 rfl) ?_; clear S; intro a u b10 S;refine ens S (la (stkw 3 rfl rfl rfl)) ?_; clear S; intro a u S;refine rs0 ?_;refine sp S (tr (mv rfl)<|la (ldkw 3 rfl rfl wD78)) ?_; clear S; intro a u S;replace S := S.pkc [1, 2, 3, 0];replace S := S.spl 3;refine cl S (rDo _ _ S.xxF nb_t220 xj S.mF (S.nfF hD) hk_xj (S.dF   0 rfl (mo_bn (mo_run _ _))) r_t34 (dnF   (S.u 1 rfl)) (⟨by first | assumption | exact hOK, by first | assumption | exact hS0⟩)) cB45 ?_;rintro e u ⟨rn_t37, rfl, hk_rn_t37, hK_rn_t37, hq_rn_t37, T0⟩; refine ⟨_, rfl, fun a s => ?_⟩;have S2 := S.kF   [bnO (runF nb_t220 rn_t37)] s T0 ⟨hK_rn_t37, trivial⟩ ⟨(mo_bn (mo_run _ _)), trivial⟩;replace S2 := S2.sh;clear S; have S := S2; clear S2 s T0 hK_rn_t37;refine ent (r0 ?_);refine sp S (tr (mv rfl)<|la (ldkw 2 rfl rfl wD78)) ?_; clear S; intro a u S;replace S := S.pkc [1, 2, 3, 0];replace S := S.spl 3;refine cl S (qDo _ _ S.xxF nb_t221 yj S.mF (S.nfF hD) hk_yj (S.dF   0 rfl (mo_bn (mo_rr _ _))) r_t34 (dnF   (S.u 1 rfl)) (by first | assumption | exact hOK)) cB46 ?_;rintro e u ⟨rr_t40, rfl, hk_rr_t40, hK_rr_t40, hq_rr_t40, T0⟩; refine ⟨_, rfl, fun a s => ?_⟩;have S2 := S.kF   [bnO (rrF nb_t221 rr_t40)] s T0 ⟨hK_rr_t40, trivial⟩ ⟨(mo_bn (mo_rr _ _)), trivial⟩;replace S2 := S2.sh;clear S; have S := S2; clear S2 s T0 hK_rr_t40;refine nn (blk_n (then_n ?_));refine rg S (tr (mv rfl)<|tr (addi ((i + 1 : Nat) : Int) rfl rfl (w_i64 bo))<|la (av rfl)) ?_; clear S; intro a u S;replace S := S.pk [2, 3, 0];refine then_n ?_;refine ⟨(i + 1), rn_t37, rr_t40, S.re (subM rfl) rfl rfl, ?_, ?_⟩
  ·refine ⟨hk_rn_t37,hk_rr_t40,?_⟩;exact ⟨by omega,hT.step hBeg hq_rn_t37 hq_rr_t40⟩
  omega
 intro hc1;refine wp_exit (then_e (then_e (blk_e (then_n (rs0 ?_)))));refine sp S (la (mv rfl)) ?_;clear S;intro a u S;replace S:=S.spl 3;refine cl S (rClone _ _ (S.xx [In (ow (runF nb_t220 xj))]) (.nil _) (fun _ h=>h.elim) (nb_t220,xj) (S.rob hD 0 rfl (X:=fun D=>(ptE runE 137).wf D _ (nb_t220,xj)) (rd_run hk_xj) _ (by simp)) (by first | assumption | exact hOK | exact (hT.sm hBeg bo (by assumption) (by assumption)).1)) cB57 ?_;rintro e u ⟨q_t42,rfl,qK_t42,qB_t42,hr_t42,T0⟩;refine ⟨_,rfl,fun a s=>?_⟩;have S2:=S.kRun 0 rfl s T0 qB_t42 fun x e=>⟨(hr_t42.2 x e).1,(hr_t42.2 x e).2.2⟩;replace S2:=S2.sh;clear S;have S:=S2;clear S2 s T0 qB_t42
 rcases q_t42 with _ | ⟨B_t42,x_t42⟩
 ·exact absurd hr_t42.1 (by decide)
 replace S:=(show St _ _ _ _ _ _ [bnO (runF nb_t220 xj),bnO (rrF nb_t221 yj),tpO 112 T19 t_,bnO (runF B_t42 x_t42)] _ _ from S);refine ens S (la (av rfl)) ?_;clear S;intro a u S;refine wp_seq ?_;refine rs S (tr (mv rfl)<|la (ov fun S=>x_peqN uT73 (S.e rfl) (S.e rfl))) ?_;clear S;intro a u S;refine cdf S rfl ?_;refine wp_skip (then_n (wp_seq ?_));refine rs S (la (av rfl)) ?_;clear S;intro a u S;refine wp_block ?_;refine lp2 (fun (k : Nat) (xc : Run)=>[(1,iI times),(4,.bool false),(6,pT nb_t220 0),(7,pT nb_t221 0),(11,pT B_t42 0),(12,iN k)]) (fun (k : Nat) (xc : Run)=>[bnO (runF nb_t220 xj),bnO (rrF nb_t221 yj),tpO 112 T19 t_,bnO (runF B_t42 xc)]) (fun (k : Nat) (xc : Run)=>runK xc ∧ (k ≤ 3 ∧ Run1 R Z n (i + k) xc ∧ noS (absR xc).c = noS (absR xj).c)) (fun (k : Nat) (xc : Run)=>3 - k) S 0 x_t42 (subM rfl) rfl ?_ ?_
 ·refine ⟨qK_t42,?_⟩;exact ⟨Nat.zero_le _,hT.one.copy (hr_t42.2 _ rfl).1 (hr_t42.2 _ rfl).2.1,congrArg (fun r : RunS=>noS r.c) (hr_t42.2 _ rfl).2.1⟩
 clear S;intro k xc a u S hR;obtain ⟨hk_xc,hR⟩:=hR;obtain ⟨hk,hC,hcc⟩:=hR;obtain ⟨hO7c,hS0c⟩:=hC.T.ok7 bo;have hOKc : RunOK 8000000 xc:=ROK.mono hO7c (by decide);obtain ⟨⟨hrc1,hrc2⟩,hsc1,hsc2⟩:=hk_xc.1;obtain ⟨⟨hrj1,hrj2⟩,hsj1,hsj2⟩:=hk_xj.1;refine wp_seq ?_;refine rs S (tr (mv rfl)<|tr (mv rfl)<|tr (oc (fun S=>gMod _ _ S.x (.nil _) times times_h 4 ⟨by omega,by omega⟩ bo) cB29)<|la (lssi rfl rfl)) ?_;clear S;intro a u S;refine cd S rfl ?_ ?_
 ·intro hc2;refine wp_skip (then_n (wp_seq (wp_block (r0 ?_))));refine sp S (tr (mv rfl)<|la (ov fun S=>x_bd S [(0, iI 6)] [iI 6, iI 0])) ?_; clear S; intro a u S;replace S := S.spl 3;refine cl S (rDo _ _ S.xxF B_t42 xc S.mF (S.nfF hD) hk_xc (S.dF   0 rfl (mo_bn (mo_run _ _))) (⟨6, 0⟩ : Evt) ⟨(show inI64 6 from ⟨by omega, by omega⟩), (show inI64 0 from ⟨by omega, by omega⟩)⟩ (⟨by first | assumption | exact hOK, by first | assumption | exact hS0⟩)) cB45 ?_;rintro e u ⟨rn_t53, rfl, hk_rn_t53, hK_rn_t53, hq_rn_t53, T0⟩; refine ⟨_, rfl, fun a s => ?_⟩;have S2 := S.kF   [bnO (runF B_t42 rn_t53)] s T0 ⟨hK_rn_t53, trivial⟩ ⟨(mo_bn (mo_run _ _)), trivial⟩;replace S2 := S2.sh;clear S; have S := S2; clear S2 s T0 hK_rn_t53;refine nn (blk_n (then_n ?_));refine rg S (tr (mv rfl)<|tr (addi ((k + 1 : Nat) : Int) rfl rfl (w_i64 bo))<|la (av rfl)) ?_; clear S; intro a u S;refine then_n ?_;refine ⟨(k + 1), rn_t53, S.re (subM rfl) rfl rfl, ?_, ?_⟩
  ·refine ⟨hk_rn_t53,?_⟩;exact ⟨by omega,(hC.late hBeg rfl hq_rn_t53).1,(hC.late hBeg rfl hq_rn_t53).2.trans hcc⟩
  omega
 intro hc3;refine wp_exit (then_e (then_e (blk_e (then_n (wp_seq (rs0 ?_))))));refine sp S (la (mv rfl)) ?_;clear S;intro a u S;refine cl S (rCtl _ _ (S.xx [In (ow (runF B_t42 xc))]) (.nil _) (B_t42,xc) (S.rob hD 3 rfl (X:=fun D=>(ptE runE 137).wf D _ (B_t42,xc)) (rd_run hk_xc) _ (by simp)) (by first | assumption | exact hOK | exact (hT.sm hBeg bo (by assumption) (by assumption)).1)) cB54 ?_;rintro e u ⟨ra_t55_3,rc_t55_3,ra_t55_4,rc_t55_4,ra_t55_5,rc_t55_5,rfl,R_t55_3,R_t55_4,R_t55_5,T0⟩;refine ⟨_,rfl,fun a s=>?_⟩;replace S:=(S.krx [⟨_,intE,3,ra_t55_5,rc_t55_5,xc.m.2.waiting.xs⟩,⟨_,intE,3,ra_t55_4,rc_t55_4,xc.m.2.known.xs⟩,⟨_,intE,3,ra_t55_3,rc_t55_3,xc.m.2.target.xs⟩] s T0 ⟨R_t55_5,R_t55_4,R_t55_3,trivial⟩ ⟨fun _ _ _ _ h=>h,fun _ _ _ _ h=>h,fun _ _ _ _ h=>h,trivial⟩).sh;clear s T0 R_t55_5 R_t55_4 R_t55_3;refine sp S (la (mv rfl)) ?_;clear S;intro a u S;refine cl S (rCtl _ _ (S.xx [In (ow (runF nb_t220 xj))]) (.nil _) (nb_t220,xj) (S.rob hD 0 rfl (X:=fun D=>(ptE runE 137).wf D _ (nb_t220,xj)) (rd_run hk_xj) _ (by simp)) (by first | assumption | exact hOK | exact (hT.sm hBeg bo (by assumption) (by assumption)).1)) cB54 ?_;rintro e u ⟨ra_t57_3,rc_t57_3,ra_t57_4,rc_t57_4,ra_t57_5,rc_t57_5,rfl,R_t57_3,R_t57_4,R_t57_5,T0⟩;refine ⟨_,rfl,fun a s=>?_⟩;replace S:=(S.krx [⟨_,intE,3,ra_t57_5,rc_t57_5,xj.m.2.waiting.xs⟩,⟨_,intE,3,ra_t57_4,rc_t57_4,xj.m.2.known.xs⟩,⟨_,intE,3,ra_t57_3,rc_t57_3,xj.m.2.target.xs⟩] s T0 ⟨R_t57_5,R_t57_4,R_t57_3,trivial⟩ ⟨fun _ _ _ _ h=>h,fun _ _ _ _ h=>h,fun _ _ _ _ h=>h,trivial⟩).sh;clear s T0 R_t57_5 R_t57_4 R_t57_3;refine sp S (la (oc (fun S=>rSameC _ _ (S.xx [abk ra_t55_3,abk ra_t55_4,abk ra_t55_5,abk ra_t57_3,abk ra_t57_4,abk ra_t57_5]) (.nil _) (⟨xc.m.2.round,xc.m.2.back,xc.m.2.seq,(Sl.mk ra_t55_3 rc_t55_3 xc.m.2.target.xs),(Sl.mk ra_t55_4 rc_t55_4 xc.m.2.known.xs),(Sl.mk ra_t55_5 rc_t55_5 xc.m.2.waiting.xs)⟩ : Ctrl) ⟨(show inI64 xc.m.2.round from ⟨by omega,by omega⟩),trivial,(show inI64 xc.m.2.seq from ⟨by omega,by omega⟩),(S.rargD hD 6 rfl nz _ (by simp)),(S.rargD hD 5 rfl nz _ (by simp)),(S.rargD hD 4 rfl nz _ (by simp))⟩ (⟨xj.m.2.round,xj.m.2.back,xj.m.2.seq,(Sl.mk ra_t57_3 rc_t57_3 xj.m.2.target.xs),(Sl.mk ra_t57_4 rc_t57_4 xj.m.2.known.xs),(Sl.mk ra_t57_5 rc_t57_5 xj.m.2.waiting.xs)⟩ : Ctrl) ⟨(show inI64 xj.m.2.round from ⟨by omega,by omega⟩),trivial,(show inI64 xj.m.2.seq from ⟨by omega,by omega⟩),(S.rargD hD 9 rfl nz _ (by simp)),(S.rargD hD 8 rfl nz _ (by simp)),(S.rargD hD 7 rfl nz _ (by simp))⟩) cB38)) ?_;clear S;intro a u S;replace S:=S.ext (d:=58) (v:=.bool true) ((S.get 58 rfl).trans (vbt (same_noS hcc ⟨rfl,by simp [noS,absM,absR],rfl,rfl,rfl,rfl⟩ ⟨rfl,by simp [noS,absM,absR],rfl,rfl,rfl,rfl⟩)));refine sp S (tr (ov fun S=>x_not (S.e rfl))<|tr (mv rfl)<|tr (gon 60 rfl fun S=>x_move (S.e rfl))<|tr (gon 60 rfl fun S=>x_move (S.e rfl))<|la (gon 60 rfl fun S=>x_nilck (S.e rfl))) ?_;clear S;intro a u S;replace S:=S.pkc [0,2,3,4,5,6,7,8,9,1];replace S:=S.opnN 9 [blO nb_t221 [pT yj.b.1 0,sV yj.vol,sV yj.ag,sV yj.cmds,sV yj.msgs] 95,rwO agtE 101 0 yj.ag.a yj.ag.c yj.ag.xs,rwO (slE cmdE) 145 0 yj.cmds.a yj.cmds.c yj.cmds.xs,rwO (slE msgE) 142 0 yj.msgs.a yj.msgs.c yj.msgs.xs,bnO (brF yj.b.1 yj.b.2),daO (slE boolE) yj.vol];replace S:=S.ar (wfF (slE boolE) yj.vol) (S.da 14 rfl);replace S:=S.pkc [0,1,2,3,4,5,6,7,8,9,10,11,12,13];have : yj.ag.xs.length ≤ 9223372036854775807:=(S.row 10 rfl).len_le;have : yj.cmds.xs.length ≤ 9223372036854775807:=(S.row 11 rfl).len_le;have : yj.msgs.xs.length ≤ 9223372036854775807:=(S.row 12 rfl).len_le;have : yj.vol.xs.length ≤ 9223372036854775807:=((S.u 1 rfl)).1.len;refine sp S (tr (gon 60 rfl fun S=>x_fld (z:=0) (0) 2 uT95 rfl rfl (by kernel_rfl) (S.e rfl))<|tr (gon 60 rfl fun S=>x_load sC91 (S.e rfl) ((S.k 9 rfl).cell (j:=2) rfl))<|la (gon 60 rfl fun S=>x_len uT91 (S.e rfl))) ?_;clear S;intro a u S;refine strip S.s rfl rfl (gd:=60) rfl ?_;replace S:=S.pkc [0,1,3,4,5,6,7,8,9,10,11,12,13,2];replace S:=S.spl 13;refine cl S (nSettle _ _ S.xxF B_t42 xc S.mF (S.nfF hD) hk_xc (S.dF   0 rfl (mo_bn (mo_run _ _))) ((yj.ag.xs.length : Nat) : Int) ⟨by omega,by omega⟩ (by first | assumption | exact hSE | exact hT.setP hBeg bo | exact hC.setP hBeg bo)) cB53 ?_;rintro e u ⟨rn_t67,rfl,hk_rn_t67,hK_rn_t67,hq_rn_t67,T0⟩;refine ⟨_,rfl,fun a s=>?_⟩;have S2:=S.kF   [bnO (runF B_t42 rn_t67)] s T0 ⟨hK_rn_t67,trivial⟩ ⟨(mo_bn (mo_run _ _)),trivial⟩;replace S2:=S2.sh;clear S;have S:=S2;clear S2 s T0 hK_rn_t67;refine sp S (tr (gon 60 rfl fun S=>x_not (S.e rfl))<|tr (ov fun S=>x_pickf (S.e rfl) (S.e rfl))<|tr (mv rfl)<|tr (gon 70 rfl fun S=>x_move (S.e rfl))<|tr (gon 70 rfl fun S=>x_move (S.e rfl))<|tr (gon 70 rfl fun S=>x_nilck (S.e rfl))<|tr (gon 70 rfl fun S=>x_fld (z:=0) (0) 2 uT95 rfl rfl (by kernel_rfl) (S.e rfl))<|tr (gon 70 rfl fun S=>x_load sC91 (S.e rfl) ((S.k 8 rfl).cell (j:=2) rfl))<|la (gon 70 rfl fun S=>x_len uT91 (S.e rfl))) ?_;clear S;intro a u S;refine strip S.s rfl rfl (gd:=70) rfl ?_;replace S:=S.pkc [1,2,3,4,5,6,7,8,9,10,11,12,13,0];replace S:=S.spl 13;refine cl S (nSettle _ _ S.xxF nb_t220 xj S.mF (S.nfF hD) hk_xj (S.dF   0 rfl (mo_bn (mo_run _ _))) ((yj.ag.xs.length : Nat) : Int) ⟨by omega,by omega⟩ (by first | assumption | exact hSE | exact hT.setP hBeg bo | exact hC.setP hBeg bo)) cB53 ?_;rintro e u ⟨rn_t77,rfl,hk_rn_t77,hK_rn_t77,hq_rn_t77,T0⟩;refine ⟨_,rfl,fun a s=>?_⟩;have S2:=S.kF   [bnO (runF nb_t220 rn_t77)] s T0 ⟨hK_rn_t77,trivial⟩ ⟨(mo_bn (mo_run _ _)),trivial⟩;replace S2:=S2.sh;clear S;have S:=S2;clear S2 s T0 hK_rn_t77;refine ens S (tr (gon 70 rfl fun S=>x_not (S.e rfl))<|la (ov fun S=>x_pickf (S.e rfl) (S.e rfl))) ?_;clear S;intro a u S;refine cdf S rfl ?_;refine wp_skip (then_n (wp_seq ?_));refine rs S (la (av rfl)) ?_;clear S;intro a u S;refine wp_block ?_;refine lp1 (fun (d : Nat)=>[(6,pT nb_t220 0),(7,pT nb_t221 0),(11,pT B_t42 0),(13,iN d)]) (fun (d : Nat)=>[tpO 112 T19 t_,rwO intE 3 w.heap.size ra_t55_5 rc_t55_5 xc.m.2.waiting.xs,rwO intE 3 w.heap.size ra_t55_4 rc_t55_4 xc.m.2.known.xs,rwO intE 3 w.heap.size ra_t55_3 rc_t55_3 xc.m.2.target.xs,rwO intE 3 w.heap.size ra_t57_5 rc_t57_5 xj.m.2.waiting.xs,rwO intE 3 w.heap.size ra_t57_4 rc_t57_4 xj.m.2.known.xs,rwO intE 3 w.heap.size ra_t57_3 rc_t57_3 xj.m.2.target.xs,blO nb_t221 [pT yj.b.1 0,sV yj.vol,sV yj.ag,sV yj.cmds,sV yj.msgs] 95,rwO agtE 101 0 yj.ag.a yj.ag.c yj.ag.xs,rwO (slE cmdE) 145 0 yj.cmds.a yj.cmds.c yj.cmds.xs,rwO (slE msgE) 142 0 yj.msgs.a yj.msgs.c yj.msgs.xs,bnO (brF yj.b.1 yj.b.2),bnO (runF B_t42 rn_t67),bnO (runF nb_t220 rn_t77)]) (fun (d : Nat)=>d ≤ n) (fun (d : Nat)=>n - d) S 0 (subM rfl) rfl ?_ ?_
 ·exact Nat.zero_le _
 clear S;intro d a u S hR;have hd:=hR;refine wp_seq ?_;refine rs S (tr (mv rfl)<|tr (mv rfl)<|tr (ov fun S=>x_nilck (S.e rfl))<|tr (fldi 0 2 rfl uT95)<|tr (ldk 7 sC91 rfl rfl rfl)<|tr (leni uT91 rfl)<|la (lssi rfl rfl)) ?_;clear S;intro a u S;refine cd S rfl ?_ ?_
 ·intro hc4;refine wp_skip (then_n (wp_seq (wp_block (rs0 ?_))));refine sp S (tr (mv rfl)<|la (mv rfl)) ?_; clear S; intro a u S;refine cl S (rAgent _ _ (S.xx [In (ow (runF nb_t220 rn_t77))]) (.nil _) (nb_t220, rn_t77) (S.rob hD 13 rfl (X := fun D => (ptE runE 137).wf D _ (nb_t220, rn_t77)) (rd_run hk_rn_t77) _ (by simp)) ((d : Nat) : Int) ⟨by omega, by omega⟩) cB55 ?_;rintro e u ⟨r_t920, rfl, R_t920, hr_t920, T0⟩; refine ⟨_, rfl, fun a s => ?_⟩;replace S := (S.k0 s T0).ar (wfF agtE r_t920) R_t920; clear s T0 R_t920;obtain ⟨hl23, hu23⟩ : inI64 r_t920.run := id ((S.u 2 rfl).2.2.1);obtain ⟨hl24, hu24⟩ : inI64 r_t920.sav := id ((S.u 2 rfl).2.2.2.1);obtain ⟨hl25, hu25⟩ : inI64 r_t920.seq := id ((S.u 2 rfl).2.2.2.2.1);obtain ⟨hl26, hu26⟩ : inI64 r_t920.inc := id ((S.u 2 rfl).2.2.2.2.2);refine sp S (tr (mv rfl)<|tr (exi rfl rfl)<|la (exi rfl rfl)) ?_; clear S; intro a u S;refine nbp S (x_allocz _ iZ101 rfl) ?_; clear S; intro a u b14 S;refine ens S (tr (stkw 14 rfl rfl rfl)<|la (av rfl)) ?_; clear S; intro a u S;refine rs0 ?_;refine sp S (tr (mv rfl)<|la (mv rfl)) ?_; clear S; intro a u S;refine cl S (rAgent _ _ (S.xx [In (ow (runF B_t42 rn_t67))]) (.nil _) (B_t42, rn_t67) (S.rob hD 12 rfl (X := fun D => (ptE runE 137).wf D _ (B_t42, rn_t67)) (rd_run hk_rn_t67) _ (by simp)) ((d : Nat) : Int) ⟨by omega, by omega⟩) cB55 ?_;rintro e u ⟨r_t980, rfl, R_t980, hr_t980, T0⟩; refine ⟨_, rfl, fun a s => ?_⟩;replace S := (S.k0 s T0).ar (wfF agtE r_t980) R_t980; clear s T0 R_t980;obtain ⟨hl28, hu28⟩ : inI64 r_t980.run := id ((S.u 3 rfl).2.2.1);obtain ⟨hl29, hu29⟩ : inI64 r_t980.sav := id ((S.u 3 rfl).2.2.2.1);obtain ⟨hl30, hu30⟩ : inI64 r_t980.seq := id ((S.u 3 rfl).2.2.2.2.1);obtain ⟨hl31, hu31⟩ : inI64 r_t980.inc := id ((S.u 3 rfl).2.2.2.2.2);refine sp S (tr (mv rfl)<|tr (exi rfl rfl)<|la (exi rfl rfl)) ?_; clear S; intro a u S;refine nbp S (x_allocz _ iZ101 rfl) ?_; clear S; intro a u b16 S;refine ens S (tr (stkw 15 rfl rfl rfl)<|la (av rfl)) ?_; clear S; intro a u S;refine rs S (tr (fldi 0 2 rfl uT101)<|tr (ldk 14 sC3 rfl rfl rfl)<|tr (fldi 0 2 rfl uT101)<|tr (ldk 15 sC3 rfl rfl rfl)<|tr (neqi rfl rfl)<|tr (mv rfl)<|tr (og 106 rfl gf fun S hg=>xf (0) 3 uT101 (S.e rfl))<|tr (og 106 rfl gf fun S hg=>x_load sC3 (S.p rfl hg) ((S.k 14 rfl).cell (j := 3) rfl))<|tr (og 106 rfl gf fun S hg=>xf (0) 3 uT101 (S.e rfl))<|tr (og 106 rfl gf fun S hg=>x_load sC3 (S.p rfl hg) ((S.k 15 rfl).cell (j := 3) rfl))<|tr (og 106 rfl gf fun S hg=>x_neq (S.p rfl hg) (S.p rfl hg))<|tr (ori rfl rfl rfl)<|tr (mv rfl)<|tr (og 113 rfl gf fun S hg=>xf (0) 0 uT101 (S.e rfl))<|tr (og 113 rfl gf fun S hg=>x_load sC4 (S.p rfl hg) ((S.k 14 rfl).cell (j := 0) rfl))<|tr (og 113 rfl gf fun S hg=>xf (0) 0 uT101 (S.e rfl))<|tr (og 113 rfl gf fun S hg=>x_load sC4 (S.p rfl hg) ((S.k 15 rfl).cell (j := 0) rfl))<|tr (og 113 rfl gf fun S hg=>x_bpneq uT4 (S.p rfl hg) (S.p rfl hg))<|la (ori rfl rfl rfl)) ?_; clear S; intro a u S;refine cd S rfl ?_ ?_
  ·intro hc5;refine rs S (la (av rfl)) ?_; clear S; intro a u S;refine wp_ret (blk_r (then_r (then_r (blk_r (then_r ?_)))));refine ret1 rfl S.s rfl ?_;replace S := S.pk [];refine ⟨(r1 (vf ?_)), S.m.c⟩
   first
   | trivial
   | (intro _
      obtain ⟨e1,b1⟩:=hC.ended hq_rn_t67;obtain ⟨e2,b2⟩:=hT.one.ended hq_rn_t77;obtain ⟨g1,_,g3,g4⟩:=e1.ag d bo;obtain ⟨k1,_,k3,k4⟩:=e2.ag d bo;have hb : rn_t67.m.2.back = rn_t77.m.2.back:=b1.trans ((congrArg Ctl.back hcc).trans b2.symm);rw [hb] at g3 g4;have ha : r_t920 = agR (absR rn_t77) d:=hr_t920;have hc : r_t980 = agR (absR rn_t67) d:=hr_t980;have hq:=hc5;rw [ha,hc] at hq
      rcases hq with (q | q) | q
      ·exact q (k3.trans g3.symm)
      ·exact q (k4.trans g4.symm)
      exact q ⟨fun _=>g1,fun _=>k1⟩)
   | exact ⟨fun _=>trivial,fun _=>⟨⟨fun _=>(hT.one.ended hq_rn_t77).1.f,fun _=>(hC.ended hq_rn_t67).1.f⟩,trivial⟩⟩
  intro hc6;refine wp_skip (blk_n (then_n ?_));refine rg S (tr (mv rfl)<|tr (addi ((d + 1 : Nat) : Int) rfl rfl (w_i64 bo))<|la (av rfl)) ?_;clear S;intro a u S;refine then_n ?_;refine ⟨(d + 1),S.re (subM rfl) rfl rfl,?_,?_⟩
  ·omega
  omega
 intro hc7;refine wp_exit (then_e (then_e (blk_e (then_n (rs0 ?_)))));refine sp S (la (mv rfl)) ?_;clear S;intro a u S;refine sp S (tr (oc (fun S=>rFin _ _ (S.xx [In (ow (runF B_t42 rn_t67))]) (.nil _) (B_t42,rn_t67) (S.rob hD 12 rfl (X:=fun D=>(ptE runE 137).wf D _ (B_t42,rn_t67)) (rd_run hk_rn_t67) _ (by simp))) cB56)<|la (mv rfl)) ?_;clear S;intro a u S;refine ens S (tr (oc (fun S=>rFin _ _ (S.xx [In (ow (runF nb_t220 rn_t77))]) (.nil _) (nb_t220,rn_t77) (S.rob hD 13 rfl (X:=fun D=>(ptE runE 137).wf D _ (nb_t220,rn_t77)) (rd_run hk_rn_t77) _ (by simp))) cB56)<|tr (ov fun S=>x_bpeql uT4 (S.e rfl) (S.e rfl))<|tr (mv rfl)<|tr (ocg 125 rfl gt (fun S hg=>nSane _ _ S.x (.nil _)) cB48 fun S=>trivial)<|tr (andi rfl rfl rfl)<|la (av rfl)) ?_;clear S;intro a u S;refine wp_ret ?_;refine ret1 rfl S.s rfl ?_;replace S:=S.pk [];refine ⟨(r1 (vb ?_)),S.m.c⟩
 first
 | trivial
 | (intro _
    obtain ⟨e1,b1⟩:=hC.ended hq_rn_t67;obtain ⟨e2,b2⟩:=hT.one.ended hq_rn_t77;obtain ⟨g1,_,g3,g4⟩:=e1.ag d bo;obtain ⟨k1,_,k3,k4⟩:=e2.ag d bo;have hb : rn_t67.m.2.back = rn_t77.m.2.back:=b1.trans ((congrArg Ctl.back hcc).trans b2.symm);rw [hb] at g3 g4;have ha : r_t920 = agR (absR rn_t77) d:=hr_t920;have hc : r_t980 = agR (absR rn_t67) d:=hr_t980;have hq:=hc7;rw [ha,hc] at hq
    rcases hq with (q | q) | q
    ·exact q (k3.trans g3.symm)
    ·exact q (k4.trans g4.symm)
    exact q ⟨fun _=>g1,fun _=>k1⟩)
 | exact ⟨fun _=>trivial,fun _=>⟨⟨fun _=>(hT.one.ended hq_rn_t77).1.f,fun _=>(hC.ended hq_rn_t67).1.f⟩,trivial⟩⟩
end Go.Proofs.Ytobggnpnochnnaa.V
