/- Texts of this claim in one: part G. -/
import Derived.Test.YtobggnpnochnnaaRWAB
import Derived.Test.YtobggnpnochnnaaRWAD
import Derived.Test.YtobggnpnochnnaaRWAF
import Derived.Test.YtobggnpnochnnaaRWAC
set_option linter.unusedVariables false
set_option linter.unusedSimpArgs false
set_option maxHeartbeats 4000000
set_option maxRecDepth 20000
namespace Go.Proofs.Ytobggnpnochnnaa.V
open Go.RowKit
structure DevJ (q k t : Int) (w : Prop) (a b : Int) (s : PS) : Prop where
  cs : ∀ x ∈ s.cmd,x.inc ≤ k ∧ 0 ≤ x.seq ∧ x.seq ≤ q ∧ (x.seq = q → x.ver = t)
  od : s.cmd.Pairwise fun x y=>x.seq ≤ y.seq
  ki : k ≤ s.ag.inc
  sq : 0 ≤ s.ag.seq ∧ s.ag.seq ≤ q
  lv : s.ag.up = true → ∀ x ∈ s.cmd,x.inc = s.ag.inc → s.ag.seq ≤ x.seq ∧ (x.ver = a ∨ x.ver = b) ∧ (¬ w → x.ver = t)
  rn : s.ag.up = true → ¬ s.ag.quar = true → k = s.ag.inc ∧ (s.ag.run = a ∨ s.ag.run = b) ∧ (s.ag.seq = q → s.ag.run = t) ∧ (¬ w → s.ag.run = t ∧ s.ag.sav = t)
  ms : ∀ m ∈ s.msg,m.inc ≤ s.ag.inc ∧ (¬ m.hello = true → m.inc = s.ag.inc → s.ag.up = true → ¬ s.ag.quar = true ∧ m.seq ≤ s.ag.seq ∧ (m.seq = q → s.ag.sav = t))
  qr : s.ag.quar = true → s.ag.run = s.ag.sav
  p1 : w → s.ag.up = true → k = s.ag.inc → (∃ x ∈ s.cmd,x.inc = k ∧ x.seq = q) ∨ (¬ s.ag.quar = true ∧ s.ag.seq = q)
  p2 : s.ag.up = true → k < s.ag.inc → ∃ m ∈ s.msg,m.hello = true ∧ m.inc = s.ag.inc
  p4 : ¬ w → s.ag.up = true → k = s.ag.inc → ¬ s.ag.quar = true
structure DevI (q k t : Int) (w : Prop) (a b : Int) (s : PS) : Prop extends DevJ q k t w a b s where
  nv : ¬ s.vol = true → s.ag.run = s.ag.sav
  p3 : w → s.ag.up = true → k = s.ag.inc → ¬ s.ag.quar = true → s.ag.seq = q → (∃ x ∈ s.cmd,x.inc = k ∧ x.seq = q) ∨ s.ag.run ≠ s.ag.sav ∨ ∃ m ∈ s.msg,¬ m.hello = true ∧ m.inc = k ∧ m.seq = q
section
variable {q k t a b : Int} {w : Prop} {s : PS}
theorem dev_down (hu : ¬ s.ag.up = true) (h1 : ∀ x ∈ s.cmd, x.inc ≤ k ∧ 0 ≤ x.seq ∧ x.seq ≤ q ∧ (x.seq = q → x.ver = t)) (h2 : s.cmd.Pairwise fun x y => x.seq ≤ y.seq) (h3 : k ≤ s.ag.inc) (h4 : 0 ≤ s.ag.seq ∧ s.ag.seq ≤ q)
    (h5 : ∀ m ∈ s.msg,m.inc ≤ s.ag.inc) (h6 : s.ag.quar = true → s.ag.run = s.ag.sav) (h7 : ¬ s.vol = true → s.ag.run = s.ag.sav) : DevI q k t w a b s :=
  { cs:=h1,od:=h2,ki:=h3,sq:=h4,lv:=fun u=>absurd u hu,rn:=fun u=>absurd u hu,ms:=fun m hm=>⟨h5 m hm,fun _ _ u=>absurd u hu⟩,qr:=h6,p1:=fun _ u=>absurd u hu,p2:=fun u=>absurd u hu,p4:=fun _ u=>absurd u hu,nv:=h7,p3:=fun _ u=>absurd u hu }
theorem dev_save (h : DevJ q k t w a b s) (hu : s.ag.up = true) (hq : ¬ s.ag.quar = true) : DevI q k t w a b (saveT s):=by
  obtain ⟨r1,r2,r3,r4⟩:=h.rn hu hq;refine { cs:=h.cs,od:=h.od,ki:=h.ki,sq:=h.sq,lv:=h.lv,rn:=fun _ _=>⟨r1,r2,r3,fun e=>⟨(r4 e).1,(r4 e).1⟩⟩,ms:=fun m hm=>?_,qr:=fun _=>rfl,p1:=h.p1,p2:=fun _ e=>?_,p4:=h.p4,nv:=fun _=>rfl,p3:=fun _ _ _ _ e=>.inr (.inr ⟨⟨false,s.ag.inc,s.ag.seq⟩,List.mem_append_right _ List.mem_cons_self,Bool.false_ne_true,r1.symm,e⟩) }
  · rcases List.mem_append.1 (show m ∈ s.msg ++ [_] from hm) with e | e
    · refine ⟨(h.ms m e).1,fun e1 e2 e3=>?_⟩;obtain ⟨g1,g2,_⟩:=(h.ms m e).2 e1 e2 e3;exact ⟨g1,g2,fun e4=>r3 (by have:=h.sq.2;show s.ag.seq = q;have g2 : m.seq ≤ s.ag.seq:=g2;omega)⟩
    · obtain rfl:=List.mem_singleton.1 e;exact ⟨Int.le_refl _,fun _ _ _=>⟨hq,Int.le_refl _,fun e4=>r3 e4⟩⟩
  · exact absurd e (by rw [r1];exact Int.lt_irrefl _)
theorem mem_drop1 {α : Type} {l : List α} {x d : α} (h : x ∈ l) (hn : x ≠ l.getD 0 d) : x ∈ l.drop 1:=by
  cases l with
  | nil=>cases h
  | cons y t=>exact (List.mem_cons.1 h).elim (fun e=>absurd e hn) id
theorem head_mem {α : Type} {l : List α} {d : α} (h : 0 < l.length) : l.getD 0 d ∈ l:=getD_mem h
theorem head_le {l : List Cmd} {d x : Cmd} (h : l.Pairwise fun x y=>x.seq ≤ y.seq) (hx : x ∈ l.drop 1) : (l.getD 0 d).seq ≤ x.seq:=by
  cases l with
  | nil=>cases hx
  | cons y t=>exact (List.pairwise_cons.1 h).1 x hx
theorem dev_hello (h : DevI q k t w a b s) : DevI q k t w a b (helloT s) :=
  { cs := h.cs, od := h.od, ki := h.ki, sq := h.sq, lv := h.lv, rn := h.rn, qr := h.qr, p1 := h.p1, p4 := h.p4, nv := h.nv
    ms:=fun m hm=>by
      rcases List.mem_append.1 (show m ∈ s.msg ++ [_] from hm) with e | e
      · exact h.ms m e
      · obtain rfl:=List.mem_singleton.1 e;exact ⟨Int.le_refl _,fun e=>absurd rfl e⟩
    p2:=fun _ _=>⟨⟨true,s.ag.inc,0⟩,List.mem_append_right _ List.mem_cons_self,rfl,rfl⟩
    p3:=fun e1 e2 e3 e4 e5=>(h.p3 e1 e2 e3 e4 e5).imp id fun g=>g.imp id fun ⟨m,g1,g2⟩=>⟨m,List.mem_append_left _ g1,g2⟩ }
theorem dev_stale (h : DevI q k t w a b s) (hn : (headT s).inc ≠ s.ag.inc) : DevI q k t w a b {s with cmd:=s.cmd.drop 1} :=
  have sub : ∀ x ∈ s.cmd.drop 1,x ∈ s.cmd:=fun x hx=>List.mem_of_mem_drop hx;have key : k = s.ag.inc → (∃ x ∈ s.cmd,x.inc = k ∧ x.seq = q) → ∃ x ∈ s.cmd.drop 1,x.inc = k ∧ x.seq = q:=fun e ⟨x,g1,g2,g3⟩ =>
    ⟨x,mem_drop1 (d:=cmdE.dflt) g1 (fun e2=>hn (by rw [show headT s = x from e2.symm,g2,e])),g2,g3⟩
  { cs := fun x hx => h.cs x (sub x hx), od := h.od.sublist (List.drop_sublist 1 _), ki := h.ki, sq := h.sq, lv := fun u x hx => h.lv u x (sub x hx), rn := h.rn, ms := h.ms, qr := h.qr, p2 := h.p2, p4 := h.p4, nv := h.nv
    p1:=fun e1 e2 e3=>(h.p1 e1 e2 e3).imp (key e3) id
    p3:=fun e1 e2 e3 e4 e5=>(h.p3 e1 e2 e3 e4 e5).imp (key e3) id }
theorem dev_live (h : DevI q k t w a b s) (hl : 0 < s.cmd.length) (hu : s.ag.up = true) (hn : (headT s).inc = s.ag.inc) :
    DevJ q k t w a b {s with cmd:=s.cmd.drop 1,ag:={s.ag with run:=(headT s).ver,seq:=(headT s).seq,quar:=false}}:=by
  have sub : ∀ x ∈ s.cmd.drop 1,x ∈ s.cmd:=fun x hx=>List.mem_of_mem_drop hx;have hm : headT s ∈ s.cmd:=head_mem hl;obtain ⟨c1,c2,c3,c4⟩:=h.cs _ hm;obtain ⟨l1,l2,l3⟩:=h.lv hu _ hm hn;have hk : k = s.ag.inc:=by have:=h.ki;omega
  exact
  { cs := fun x hx => h.cs x (sub x hx), od := h.od.sublist (List.drop_sublist 1 _), ki := h.ki, sq := ⟨c2, c3⟩
    lv:=fun u x hx e=>⟨head_le h.od hx,(h.lv hu x (sub x hx) e).2⟩
    rn:=fun _ _=>⟨hk,l2,c4,fun e=>⟨l3 e,((h.rn hu (h.p4 e hu hk)).2.2.2 e).2⟩⟩
    ms:=fun m g=>⟨(h.ms m g).1,fun e1 e2 _=>⟨Bool.false_ne_true,Int.le_trans ((h.ms m g).2 e1 e2 hu).2.1 l1,((h.ms m g).2 e1 e2 hu).2.2⟩⟩
    qr:=fun e=>absurd e Bool.false_ne_true
    p1:=fun e1 e2 e3=>by
      rcases h.p1 e1 hu hk with ⟨x,g1,g2,g3⟩ | ⟨_,g⟩
      · by_cases e : x = headT s
        · exact .inr ⟨Bool.false_ne_true,e ▸ g3⟩
        · exact .inl ⟨x,mem_drop1 (d:=cmdE.dflt) g1 e,g2,g3⟩
      · exact .inr ⟨Bool.false_ne_true,by show (headT s).seq = q;omega⟩
    p2:=fun _ e=>absurd e (by show ¬ k < s.ag.inc;omega)
    p4:=fun _ _ _=>Bool.false_ne_true }
theorem dev_deliver (h : DevI q k t w a b s) (hl : 0 < s.cmd.length) : DevI q k t w a b (deliverT s):=by
  unfold deliverT
  split
  · rename_i hu;exact dev_down hu (fun x hx=>h.cs x (List.mem_of_mem_drop hx)) (h.od.sublist (List.drop_sublist 1 _)) h.ki h.sq (fun m hm=>(h.ms m hm).1) h.qr h.nv
  · rename_i hu;have hu : s.ag.up = true := Classical.not_not.1 hu
    split
    · rename_i hn;exact dev_hello (dev_stale h hn)
    · rename_i hn;have hJ := dev_live h hl hu (Classical.not_not.1 hn)
      split
      · exact dev_save hJ hu Bool.false_ne_true
      · rename_i hv;have hv1 : s.vol = true:=Classical.byContradiction fun e=>hv (.inl e);exact { hJ with nv:=fun e=>absurd hv1 e,p3:=fun _ _ _ _ _=>.inr (.inl fun e=>hv (.inr (show s.ag.sav = (headT s).ver from e.symm))) }
theorem dev_downT (h : DevI q k t w a b s) : DevI q k t w a b (downT s) :=
  dev_down (by show ¬ false = true;exact Bool.false_ne_true) (fun x hx=>by cases hx) .nil h.ki h.sq (fun m hm=>(h.ms m hm).1) h.qr h.nv
theorem dev_up (h : DevI q k t w a b s) : DevI q k t w a b (upT s):=by
  have hk:=h.ki;have h0:=h.sq;refine
  { cs := h.cs, od := h.od, ki := by show k ≤ s.ag.inc + 1; omega, sq := ⟨Int.le_refl _, by show 0 ≤ q; omega⟩
    lv:=fun _ x hx e=>absurd (h.cs x hx).1 (by have e : x.inc = s.ag.inc + 1:=e;omega)
    rn:=fun _ e=>absurd rfl e,qr:=fun _=>rfl,nv:=fun _=>rfl
    ms:=fun m hm=>?_
    p1:=fun _ _ e=>absurd e (by show ¬ k = s.ag.inc + 1;omega)
    p2:=fun _ _=>⟨⟨true,s.ag.inc + 1,0⟩,List.mem_append_right _ List.mem_cons_self,rfl,rfl⟩
    p4:=fun _ _ e=>absurd e (by show ¬ k = s.ag.inc + 1;omega)
    p3:=fun _ _ e=>absurd e (by show ¬ k = s.ag.inc + 1;omega) }
  rcases List.mem_append.1 (show m ∈ s.msg ++ [_] from hm) with e | e
  · have g:=(h.ms m e).1;exact ⟨by show m.inc ≤ s.ag.inc + 1;omega,fun _ e2=>absurd e2 (by show ¬ m.inc = s.ag.inc + 1;omega)⟩
  · obtain rfl:=List.mem_singleton.1 e;exact ⟨Int.le_refl _,fun e=>absurd rfl e⟩
theorem dev_old (h : DevI q k t w a b s) {m : Msg} (hm : m = s.msg.getD 0 msgE.dflt) (h1 : m.hello = true → m.inc ≤ k) (h2 : ¬ m.hello = true → ¬ (m.inc = k ∧ m.seq = q)) : DevI q k t w a b {s with msg:=s.msg.drop 1} :=
  have sub : ∀ x ∈ s.msg.drop 1,x ∈ s.msg:=fun x hx=>List.mem_of_mem_drop hx
  { cs := h.cs, od := h.od, ki := h.ki, sq := h.sq, lv := h.lv, rn := h.rn, ms := fun m g => h.ms m (sub m g), qr := h.qr, p1 := h.p1, p4 := h.p4, nv := h.nv
    p2:=fun e1 e2=>by
      have e2 : k < s.ag.inc:=e2;obtain ⟨x,g1,g2,g3⟩:=h.p2 e1 e2;exact ⟨x,mem_drop1 (d:=msgE.dflt) g1 (fun e=>by rw [← hm] at e;subst e;have:=h1 g2;omega),g2,g3⟩
    p3:=fun e1 e2 e3 e4 e5=>(h.p3 e1 e2 e3 e4 e5).imp id fun g=>g.imp id fun ⟨x,g1,g2,g3⟩=>⟨x,mem_drop1 (d:=msgE.dflt) g1 (fun e=>by rw [← hm] at e;subst e;exact h2 g2 g3),g2,g3⟩ }
theorem dev_ack (h : DevI q k t w a b s) {m : Msg} (hm : m = s.msg.getD 0 msgE.dflt) (hl : 0 < s.msg.length) (h1 : ¬ m.hello = true) (h2 : m.inc = k) (h3 : m.seq = q) : DevI q k t False a b {s with msg:=s.msg.drop 1}:=by
  have sub : ∀ x ∈ s.msg.drop 1,x ∈ s.msg:=fun x hx=>List.mem_of_mem_drop hx;have hmm : m ∈ s.msg:=hm ▸ head_mem hl;obtain ⟨g0,gM⟩:=h.ms m hmm;have hs:=h.sq.2;have hA : s.ag.up = true → k = s.ag.inc → ¬ s.ag.quar = true ∧ s.ag.seq = q ∧ s.ag.sav = t:=fun u e=>by
    obtain ⟨g1,g2,g3⟩:=gM h1 (h2.trans e) u;exact ⟨g1,by omega,g3 h3⟩
  exact
  { cs := h.cs, od := h.od, ki := h.ki, sq := h.sq
    lv:=fun u x hx e=>by
      have e : x.inc = s.ag.inc:=e;have hx : x ∈ s.cmd:=hx;obtain ⟨l1,l2,_⟩:=h.lv u x hx e;obtain ⟨c1,c2,c3,c4⟩:=h.cs x hx;have hk : k = s.ag.inc:=by have:=h.ki;omega
      exact ⟨l1,l2,fun _=>c4 (by have:=(hA u hk).2.1;omega)⟩
    rn:=fun u e=>by
      obtain ⟨r1,r2,r3,r4⟩:=h.rn u e;obtain ⟨_,a2,a3⟩:=hA u r1;exact ⟨r1,r2,r3,fun _=>⟨r3 a2,a3⟩⟩
    ms:=fun m g=>h.ms m (sub m g),qr:=h.qr,nv:=h.nv
    p1:=fun e=>e.elim,p3:=fun e=>e.elim
    p2:=fun e1 e2=>by
      obtain ⟨x,g1,g2,g3⟩:=h.p2 e1 e2;exact ⟨x,mem_drop1 (d:=msgE.dflt) g1 (fun e=>by rw [← hm] at e;subst e;exact h1 g2),g2,g3⟩
    p4:=fun _ u e=>(hA u e).1 }
theorem dev_skip (h : DevI q k t w a b s) (hu : ¬ s.ag.up = true) : DevI q k t False a b s:=dev_down hu h.cs h.od h.ki h.sq (fun m hm=>(h.ms m hm).1) h.qr h.nv
theorem dev_known (h : DevI q k t w a b s) (ht : t = a ∨ t = b) {m : Msg} (hm : m = s.msg.getD 0 msgE.dflt) (hl : 0 < s.msg.length) (h1 : k < m.inc) {w' : Prop} (hw : w') :
    DevI q m.inc t w' a b (putT {s with msg:=s.msg.drop 1} ⟨m.inc,q,t⟩):=by
  have sub : ∀ x ∈ s.msg.drop 1,x ∈ s.msg:=fun x hx=>List.mem_of_mem_drop hx;have hmm : m ∈ s.msg:=hm ▸ head_mem hl;have g0:=(h.ms m hmm).1;have hnew : ∀ {p : Cmd → Prop},(∀ x ∈ s.cmd,p x) → p ⟨m.inc,q,t⟩ → ∀ x ∈ s.cmd ++ [⟨m.inc,q,t⟩],p x:=fun g1 g2 x hx=>(List.mem_append.1 hx).elim (g1 x) fun e=>(List.mem_singleton.1 e) ▸ g2;exact
  { cs := hnew (p := fun x => x.inc ≤ m.inc ∧ 0 ≤ x.seq ∧ x.seq ≤ q ∧ (x.seq = q → x.ver = t)) (fun x hx => by obtain ⟨c1, c2⟩ := h.cs x hx; exact ⟨by omega, c2⟩) ⟨Int.le_refl _, by have := h.sq; show 0 ≤ q; omega, Int.le_refl _, fun _ => rfl⟩
    od:=List.pairwise_append.2 ⟨h.od,List.pairwise_singleton _ _,fun x hx y hy=>by obtain rfl:=List.mem_singleton.1 hy;exact (h.cs x hx).2.2.1⟩
    ki:=g0,sq:=h.sq
    lv:=fun u=>hnew (p:=fun x=>x.inc = s.ag.inc → s.ag.seq ≤ x.seq ∧ (x.ver = a ∨ x.ver = b) ∧ (¬ w' → x.ver = t)) (fun x hx e=>absurd (h.cs x hx).1 (by omega)) fun _=>⟨h.sq.2,ht,fun e=>absurd hw e⟩
    rn:=fun u e=>absurd (h.rn u e).1 (by show ¬ k = s.ag.inc;omega)
    ms:=fun m g=>h.ms m (sub m g),qr:=h.qr,nv:=h.nv
    p1:=fun _ _ _=>.inl ⟨⟨m.inc,q,t⟩,List.mem_append_right _ List.mem_cons_self,rfl,rfl⟩
    p3:=fun _ _ _ _ _=>.inl ⟨⟨m.inc,q,t⟩,List.mem_append_right _ List.mem_cons_self,rfl,rfl⟩
    p2:=fun e1 e2=>by
      have e2 : m.inc < s.ag.inc:=e2;obtain ⟨x,g1,g2,g3⟩:=h.p2 e1 (by show k < s.ag.inc;omega);exact ⟨x,mem_drop1 (d:=msgE.dflt) g1 (fun e=>by rw [← hm] at e;subst e;omega),g2,g3⟩
    p4:=fun e=>absurd hw e }
theorem dev_put (h : DevI q k t w a b s) (ht : t = a ∨ t = b) (hw : w) : DevI q k t w a b (putT s ⟨k,q,t⟩) :=
  have hnew : ∀ {p : Cmd → Prop},(∀ x ∈ s.cmd,p x) → p ⟨k,q,t⟩ → ∀ x ∈ s.cmd ++ [⟨k,q,t⟩],p x:=fun g1 g2 x hx=>(List.mem_append.1 hx).elim (g1 x) fun e=>(List.mem_singleton.1 e) ▸ g2
  { cs := hnew (p := fun x => x.inc ≤ k ∧ 0 ≤ x.seq ∧ x.seq ≤ q ∧ (x.seq = q → x.ver = t)) h.cs ⟨Int.le_refl _, by have := h.sq; show 0 ≤ q; omega, Int.le_refl _, fun _ => rfl⟩
    od:=List.pairwise_append.2 ⟨h.od,List.pairwise_singleton _ _,fun x hx y hy=>by obtain rfl:=List.mem_singleton.1 hy;exact (h.cs x hx).2.2.1⟩
    ki:=h.ki,sq:=h.sq
    lv:=fun u=>hnew (p:=fun x=>x.inc = s.ag.inc → s.ag.seq ≤ x.seq ∧ (x.ver = a ∨ x.ver = b) ∧ (¬ w → x.ver = t)) (h.lv u) fun _=>⟨h.sq.2,ht,fun e=>absurd hw e⟩
    rn:=h.rn,ms:=h.ms,qr:=h.qr,nv:=h.nv
    p1:=fun _ _ _=>.inl ⟨⟨k,q,t⟩,List.mem_append_right _ List.mem_cons_self,rfl,rfl⟩
    p3:=fun _ _ _ _ _=>.inl ⟨⟨k,q,t⟩,List.mem_append_right _ List.mem_cons_self,rfl,rfl⟩
    p2:=h.p2,p4:=h.p4 }
theorem dev_move {a' b' : Int} (h : DevI q k t w a b s) (hw : ¬ w) (ht : t = a' ∨ t = b') : DevI q k t w a' b' s :=
  { cs := h.cs, od := h.od, ki := h.ki, sq := h.sq
    lv:=fun u x hx e=>⟨(h.lv u x hx e).1,by rw [(h.lv u x hx e).2.2 hw];exact ht,(h.lv u x hx e).2.2⟩
    rn:=fun u e=>⟨(h.rn u e).1,by rw [((h.rn u e).2.2.2 hw).1];exact ht,(h.rn u e).2.2⟩
    ms:=h.ms,qr:=h.qr,nv:=h.nv,p1:=h.p1,p2:=h.p2,p3:=h.p3,p4:=h.p4 }
theorem DevI.iff {w' : Prop} (h : DevI q k t w a b s) (e : w ↔ w') : DevI q k t w' a b s:=by rw [← propext e];exact h
theorem dev_start0 (h : DevI q k t w a b s) {w' : Prop} (hw : ¬ w) (hw' : ¬ w') : DevI (q + 1) k t w' a b s :=
  { cs := fun x hx => by obtain ⟨c1, c2, c3, c4⟩ := h.cs x hx; exact ⟨c1, c2, by omega, fun e => by omega⟩
    od:=h.od,ki:=h.ki,sq:=⟨h.sq.1,by have:=h.sq.2;omega⟩
    lv:=fun u x hx e=>⟨(h.lv u x hx e).1,(h.lv u x hx e).2.1,fun _=>(h.lv u x hx e).2.2 hw⟩
    rn:=fun u e=>⟨(h.rn u e).1,(h.rn u e).2.1,fun e=>by have:=h.sq.2;omega,fun _=>(h.rn u e).2.2.2 hw⟩
    ms:=fun m hm=>⟨(h.ms m hm).1,fun e1 e2 e3=>by obtain ⟨g1,g2,g3⟩:=(h.ms m hm).2 e1 e2 e3;exact ⟨g1,g2,fun e=>by have:=h.sq.2;omega⟩⟩
    qr:=h.qr,nv:=h.nv,p1:=fun e=>absurd e hw',p2:=h.p2,p3:=fun e=>absurd e hw',p4:=fun _=>h.p4 hw }
theorem dev_start1 (h : DevI q k t w a b s) {w' : Prop} {t' : Int} (hw : w') (ht : t' = a ∨ t' = b) : DevI (q + 1) k t' w' a b (putT s ⟨k,q + 1,t'⟩) :=
  have hnew : ∀ {p : Cmd → Prop},(∀ x ∈ s.cmd,p x) → p ⟨k,q + 1,t'⟩ → ∀ x ∈ s.cmd ++ [⟨k,q + 1,t'⟩],p x:=fun g1 g2 x hx=>(List.mem_append.1 hx).elim (g1 x) fun e=>(List.mem_singleton.1 e) ▸ g2;have hq:=h.sq
  { cs := hnew (p := fun x => x.inc ≤ k ∧ 0 ≤ x.seq ∧ x.seq ≤ q + 1 ∧ (x.seq = q + 1 → x.ver = t')) (fun x hx => by obtain ⟨c1, c2, c3, c4⟩ := h.cs x hx; exact ⟨c1, c2, by omega, fun e => by omega⟩) ⟨Int.le_refl _, by show 0 ≤ q + 1; omega, Int.le_refl _, fun _ => rfl⟩
    od:=List.pairwise_append.2 ⟨h.od,List.pairwise_singleton _ _,fun x hx y hy=>by obtain rfl:=List.mem_singleton.1 hy;have:=(h.cs x hx).2.2.1;show x.seq ≤ q + 1;omega⟩
    ki:=h.ki,sq:=⟨h.sq.1,by show s.ag.seq ≤ q + 1;omega⟩
    lv:=fun u=>hnew (p:=fun x=>x.inc = s.ag.inc → s.ag.seq ≤ x.seq ∧ (x.ver = a ∨ x.ver = b) ∧ (¬ w' → x.ver = t')) (fun x hx e=>⟨(h.lv u x hx e).1,(h.lv u x hx e).2.1,fun e=>absurd hw e⟩) fun _=>⟨by show s.ag.seq ≤ q + 1;omega,ht,fun e=>absurd hw e⟩
    rn:=fun u e=>⟨(h.rn u e).1,(h.rn u e).2.1,fun e=>by have e : s.ag.seq = q + 1:=e;omega,fun e=>absurd hw e⟩
    ms:=fun m hm=>⟨(h.ms m hm).1,fun e1 e2 e3=>by obtain ⟨g1,g2,g3⟩:=(h.ms m hm).2 e1 e2 e3;exact ⟨g1,g2,fun e=>by have g2 : m.seq ≤ s.ag.seq:=g2;omega⟩⟩
    qr:=h.qr,nv:=h.nv
    p1:=fun _ _ _=>.inl ⟨⟨k,q + 1,t'⟩,List.mem_append_right _ List.mem_cons_self,rfl,rfl⟩
    p3:=fun _ _ _ _ _=>.inl ⟨⟨k,q + 1,t'⟩,List.mem_append_right _ List.mem_cons_self,rfl,rfl⟩
    p2:=h.p2,p4:=fun e=>absurd hw e }
end
structure PlanS (R : List (List Chg)) (S : List (List Int)) : Prop where
  ne : ∀ l ∈ R,0 < l.length
  z : ∀ d : Nat,(S.getD 0 []).getD d 0 = 0
  st : ∀ k,k < R.length → ∀ d : Nat,(∀ x ∈ R.getD k [],x.dev.toNat = d → (S.getD (k + 1) []).getD d 0 = x.ver) ∧ ((∀ x ∈ R.getD k [],x.dev.toNat ≠ d) → (S.getD (k + 1) []).getD d 0 = (S.getD k []).getD d 0)
theorem rndP_at {st : Bool} {n : Nat} : ∀ (l : List Chg) {last : Int} {now y : List Int}, -1 ≤ last → now.length = n → rndP st n last now l = some y → ∀ d : Nat, (∀ x ∈ l, x.dev.toNat = d → y.getD d 0 = x.ver) ∧ ((∀ x ∈ l, x.dev.toNat ≠ d) → y.getD d 0 = now.getD d 0)
  | [],_,now,y,_,_,h,d=>by
    rw [rndP] at h;cases h;exact ⟨fun x hx=>by simp at hx,fun _=>rfl⟩
  | c :: r,last,now,y,h0,hn,h,d=>by
    rw [rndP] at h
    split at h
    · cases h
    · rename_i hc;obtain ⟨h1, h2⟩ := rndP_dev r (by omega) h;obtain ⟨k1, k2⟩ := rndP_at r (by omega) ((List.length_set ..).trans hn) h d;refine ⟨fun x hx e => ?_, fun q => ?_⟩
      · rcases List.mem_cons.1 hx with rfl | hx
        · rw [k2 fun z hz e2=>by have:=(h2 z hz).1;omega,← e,getD_setE (by omega)]
        · exact k1 x hx e
      · rw [k2 fun z hz=>q z (List.mem_cons_of_mem _ hz),getD_setN (q c List.mem_cons_self)]
theorem stsA_at {st : Bool} {n : Int} : ∀ (R : List (List Chg)) {acc S : List (List Int)} {now : List Int}, 0 < acc.length → acc.getD (acc.length - 1) [] = now → stsA st n acc now R = some S →
    (∀ i,i < acc.length → S.getD i [] = acc.getD i []) ∧ ∀ k,k < R.length → rndP st n (-1) (S.getD (acc.length - 1 + k) []) (R.getD k []) = some (S.getD (acc.length + k) [])
  | [],acc,S,now,_,_,h=>by
    rw [stsA] at h;cases h;exact ⟨fun _ _=>rfl,fun k hk=>by simp at hk⟩
  | r :: rs,acc,S,now,h0,hl,h=>by
    rw [stsA] at h
    split at h
    · cases h
    · split at h
      · cases h
      · rename_i y hy;have ha : (acc ++ [y]).length = acc.length + 1 := by rw [List.length_append, List.length_singleton]
        have hat : ∀ i,i < acc.length → (acc ++ [y]).getD i [] = acc.getD i []:=fun i hi=>by rw [List.getD_eq_getElem?_getD,List.getD_eq_getElem?_getD,List.getElem?_append_left hi]
        have hay : (acc ++ [y]).getD acc.length [] = y:=by rw [List.getD_eq_getElem?_getD,List.getElem?_append_right (Nat.le_refl _)];simp
        obtain ⟨g1,g2⟩:=stsA_at rs (acc:=acc ++ [y]) (by omega) (by rw [ha];exact hay) h;refine ⟨fun i hi=>(g1 i (by omega)).trans (hat i hi),fun k hk=>?_⟩
        cases k with
        | zero =>
          have e1 : S.getD (acc.length - 1) [] = now:=(g1 _ (by omega)).trans ((hat _ (by omega)).trans hl);have e2 : S.getD acc.length [] = y:=(g1 _ (by omega)).trans hay;show rndP st n (-1) (S.getD (acc.length - 1) []) r = some (S.getD acc.length []);rw [e1,e2];exact hy
        | succ k =>
          have:=g2 k (by simpa using hk);rw [ha] at this;rw [show acc.length - 1 + (k + 1) = acc.length + 1 - 1 + k from by omega,show acc.length + (k + 1) = acc.length + 1 + k from by omega];exact this
theorem planS_of {st : Bool} {R : List (List Chg)} {n : Nat} {S : List (List Int)} (h : statesP st R n = some S) (hR : R.length ≤ 16) : PlanS R S:=by
  obtain ⟨hn,hP,hne⟩:=statesP_ok h hR;have hP : PlanOK n R S:=hP;unfold statesP at h;rw [if_neg (by omega)] at h;obtain ⟨g1,g2⟩:=stsA_at R (acc:=[zerosP n]) (by simp) rfl h;refine ⟨hne,fun d=>?_,fun k hk d=>?_⟩
  · rw [g1 0 (by simp)];show (zerosP n).getD d 0 = 0;unfold zerosP;rw [List.getD_eq_getElem?_getD, List.getElem?_replicate]
    split <;> rfl
  · have:=g2 k hk;rw [show [zerosP (n : Int)].length - 1 + k = k from by simp,show [zerosP (n : Int)].length + k = k + 1 from by simp;omega] at this;exact rndP_at _ (by omega) (st_of hP (by omega)) this d
theorem mem_insW2 : ∀ {l : List Int} {v x : Int}, x ∈ insW l v ↔ x = v ∨ x ∈ l
  | [],v,x=>by simp [insW]
  | y :: t,v,x=>by
    rw [insW]
    split
    · rw [List.mem_cons, mem_insW2, List.mem_cons]
      constructor
      · rintro (h | h | h)
        · exact .inr (.inl h)
        · exact .inl h
        · exact .inr (.inr h)
      · rintro (h | h | h)
        · exact .inr (.inl h)
        · exact .inl h
        · exact .inr (.inr h)
    · split
      · rename_i e;subst e;rw [List.mem_cons];exact ⟨fun h=>.inr h,fun h=>h.elim .inl id⟩
      · rw [List.mem_cons]
theorem fold_wt (st : List Int) : ∀ (l : List Chg) (c : Ctl) (d : Int), d ∈ (l.foldl (chgC st) c).waiting ↔ d ∈ c.waiting ∨ ∃ x ∈ l, x.dev = d
  | [],c,d=>by simp
  | y :: t,c,d=>by
    show d ∈ (t.foldl (chgC st) (chgC st c y)).waiting ↔ _;rw [fold_wt st t,show (chgC st c y).waiting = insW c.waiting y.dev from rfl,mem_insW2]
    constructor
    · rintro ((h | h) | ⟨x, hx, h⟩)
      · exact .inr ⟨y,List.mem_cons_self,h.symm⟩
      · exact .inl h
      · exact .inr ⟨x,List.mem_cons_of_mem _ hx,h⟩
    · rintro (h | ⟨x, hx, h⟩)
      · exact .inl (.inr h)
      · rcases List.mem_cons.1 hx with rfl | hx
        · exact .inl (.inl h.symm)
        · exact .inr ⟨x,hx,h⟩
theorem fold_tg (st : List Int) (d : Nat) (v : Int) : ∀ (l : List Chg) (c : Ctl), d < c.target.length → (∀ x ∈ l, x.dev.toNat = d → (if c.back = true then st.getD d 0 else x.ver) = v) →
    ((∃ x ∈ l,x.dev.toNat = d) → (l.foldl (chgC st) c).target.getD d 0 = v) ∧ (¬ (∃ x ∈ l,x.dev.toNat = d) → (l.foldl (chgC st) c).target.getD d 0 = c.target.getD d 0)
  | [],c,_,_=>⟨fun ⟨x,hx,_⟩=>by simp at hx,fun _=>rfl⟩
  | y :: t,c,hd,hv=>by
    have hl : (chgC st c y).target.length = c.target.length:=List.length_set ..;obtain ⟨g1,g2⟩:=fold_tg st d v t (chgC st c y) (by omega) fun x hx e=>hv x (List.mem_cons_of_mem _ hx) e;show (_ → (t.foldl (chgC st) (chgC st c y)).target.getD d 0 = v) ∧ (_ → (t.foldl (chgC st) (chgC st c y)).target.getD d 0 = _);refine ⟨fun ⟨x,hx,e⟩=>?_,fun q=>?_⟩
    · by_cases ht : ∃ x ∈ t, x.dev.toNat = d
      · exact g1 ht
      · rw [g2 ht]
        rcases List.mem_cons.1 hx with rfl | hx
        · have:=hv x List.mem_cons_self e;show (c.target.set x.dev.toNat (if c.back = true then st.getD x.dev.toNat 0 else x.ver)).getD d 0 = v;subst e;rw [getD_setE hd];exact this
        · exact absurd ⟨x,hx,e⟩ ht
    · rw [g2 fun ⟨x,hx,e⟩=>q ⟨x,List.mem_cons_of_mem _ hx,e⟩];exact getD_setN fun e=>q ⟨y,List.mem_cons_self,e⟩
theorem fold_ne (st : List Int) {l : List Chg} (c : Ctl) (h : 0 < l.length) : 0 < (l.foldl (chgC st) c).waiting.length:=by
  cases l with
  | nil=>simp at h
  | cons y t=>exact List.length_pos_of_mem ((fold_wt st (y :: t) c y.dev).2 (.inr ⟨y,List.mem_cons_self,rfl⟩))
def loV (S : List (List Int)) (c : Ctl) : List Int:=S.getD c.round.toNat []
def hiV (R : List (List Chg)) (S : List (List Int)) (c : Ctl) : List Int:=if c.round < 0 then loV S c else S.getD (min (c.round.toNat + 1) R.length) []
def tgV (R : List (List Chg)) (S : List (List Int)) (c : Ctl) : List Int:=if c.back = true then loV S c else hiV R S c
section
variable {n : Nat} {R : List (List Chg)} {S : List (List Int)} {c : Ctl} {st : List PS}
theorem tg_or (d : Nat) : (tgV R S c).getD d 0 = (loV S c).getD d 0 ∨ (tgV R S c).getD d 0 = (hiV R S c).getD d 0:=by
  unfold tgV
  split
  · exact .inl rfl
  · exact .inr rfl
theorem hi_at (h0 : 0 ≤ c.round) (h1 : c.round < R.length) : hiV R S c = S.getD (c.round.toNat + 1) []:=by
  unfold hiV;rw [if_neg (by omega),Nat.min_eq_left (by omega)]
theorem hi_end (h1 : c.round = R.length) : hiV R S c = S.getD R.length []:=by
  unfold hiV;rw [if_neg (by omega),Nat.min_eq_right (by omega)]
def inR (R : List (List Chg)) (c : Ctl) (d : Nat) : Prop:=∃ x ∈ R.getD c.round.toNat [],x.dev.toNat = d
theorem lohi (Q : PlanS R S) (h0 : 0 ≤ c.round) (h1 : c.round < R.length) {d : Nat} (h : ¬ inR R c d) : (hiV R S c).getD d 0 = (loV S c).getD d 0:=by
  rw [hi_at h0 h1];exact (Q.st _ (by omega) d).2 fun x hx e=>h ⟨x,hx,e⟩
structure StF (n : Nat) (R : List (List Chg)) (S : List (List Int)) (c c1 : Ctl) : Prop where
  rd : c1.round = c.round
  bk : c1.back = c.back
  sq : c1.seq = c.seq + 1
  kn : c1.known = c.known
  sn : c1.sent = c.sent ++ c1.waiting
  ne : 0 < c1.waiting.length
  wt : ∀ d : Nat,(d : Int) ∈ c1.waiting ↔ (d : Int) ∈ c.waiting ∨ inR R c d
  tg : ∀ d : Nat,d < n → (inR R c d → c1.target.getD d 0 = (tgV R S c).getD d 0) ∧ (¬ inR R c d → c1.target.getD d 0 = c.target.getD d 0)
theorem start_at (P : PlanOK n R S) (Q : PlanS R S) (h : CtlOK n R.length c) (h0 : 0 ≤ c.round) (h1 : c.round < R.length) : StF n R S c (startC R S c):=by
  unfold startC;rw [if_neg (by omega)];have hx:=rd_of P (k:=c.round.toNat) (by omega);have hQ : ChgK n {c with seq:=c.seq + 1} ((R.getD c.round.toNat []).foldl (chgC (S.getD c.round.toNat [])) {c with seq:=c.seq + 1}):=foldl_chgK _ (ChgK.refl h.wt) hx.2;have hw:=fold_wt (S.getD c.round.toNat []) (R.getD c.round.toNat []) {c with seq:=c.seq + 1};have ht:=fun d v=>fold_tg (S.getD c.round.toNat []) d v (R.getD c.round.toNat []) {c with seq:=c.seq + 1};have hn:=fold_ne (S.getD c.round.toNat []) {c with seq:=c.seq + 1} (Q.ne _ (getD_mem (xs:=R) (i:=c.round.toNat) (d:=[]) (by omega)))
  revert hQ hw ht hn
  generalize (R.getD c.round.toNat []).foldl (chgC (S.getD c.round.toNat [])) {c with seq:=c.seq + 1} = c1
  intro hQ hw ht hn;refine ⟨hQ.rd,hQ.bk,hQ.sq,hQ.kn,?_,hn,fun d=>?_,fun d hd=>?_⟩
  · show c1.sent ++ c1.waiting = c.sent ++ c1.waiting;rw [show c1.sent = c.sent from hQ.sn]
  · refine (hw d).trans (or_congr Iff.rfl ⟨fun ⟨x,g1,g2⟩=>⟨x,g1,by omega⟩,fun ⟨x,g1,g2⟩=>⟨x,g1,by have:=(hx.2 x g1).1;omega⟩⟩)
  · refine ht d _ (by show d < c.target.length; rw [h.tg]; exact hd) fun x g1 g2 => ?_;show (if c.back = true then _ else _) = _;unfold tgV
    split
    · rfl
    · rw [hi_at h0 h1];exact ((Q.st _ (by omega) d).1 x g1 g2).symm
structure Dv (n : Nat) (R : List (List Chg)) (S : List (List Int)) (c : Ctl) (st : List PS) : Prop where
  sl : st.length = n
  dv : ∀ d : Nat,d < n → DevI c.seq (c.known.getD d 0) (c.target.getD d 0) ((d : Int) ∈ c.waiting) ((loV S c).getD d 0) ((hiV R S c).getD d 0) (st.getD d psD)
structure InvA (n : Nat) (R : List (List Chg)) (S : List (List Int)) (c : Ctl) (st : List PS) : Prop extends Dv n R S c st where
  ct : CtlOK n R.length c
  tg : ∀ d : Nat,d < n → c.target.getD d 0 = (tgV R S c).getD d 0
  sn : c.sent = []
structure InvR (n : Nat) (R : List (List Chg)) (S : List (List Int)) (r : RunS) : Prop extends InvA n R S r.c r.st where
  fin : r.c.waiting.length = 0 → finC R.length r.c
theorem cmdS_at (c : Ctl) : ∀ (l : List Int) (st : List PS), l.Pairwise (· < ·) → (∀ x ∈ l, 0 ≤ x ∧ x < (st.length : Int)) → ∀ d : Nat, (cmdS c st l).getD d psD = if (d : Int) ∈ l then putT (st.getD d psD) (cmdC c d) else st.getD d psD
  | [],st,_,_,d=>by simp [cmdS]
  | x :: t,st,hp,hx,d=>by
    rw [List.pairwise_cons] at hp;show (cmdS c (st.set x.toNat (putT (st.getD x.toNat psD) (cmdC c x))) t).getD d psD = _;have hx0:=hx x List.mem_cons_self;rw [cmdS_at c t _ hp.2 (fun y hy=>by rw [List.length_set];exact hx y (List.mem_cons_of_mem _ hy)) d]
    by_cases e : (d : Int) = x
    · have hn : ¬ (d : Int) ∈ t := fun q => by have := hp.1 _ q; omega
      subst e;rw [if_neg hn,if_pos List.mem_cons_self,Int.toNat_natCast,getD_setE (by omega)]
    · rw [getD_setN (by omega)]
      by_cases ht : (d : Int) ∈ t
      · rw [if_pos ht,if_pos (List.mem_cons_of_mem _ ht)]
      · rw [if_neg ht,if_neg fun q=>(List.mem_cons.1 q).elim e ht]
theorem sendS_nil {r : RunS} (h : r.c.sent = []) : sendS r = r:=by
  unfold sendS;rw [h];show RunS.mk {r.c with sent:=[]} (cmdS r.c r.st []) = r
  cases r with | mk c st=>cases c;subst h;rfl
theorem inv_start (P : PlanOK n R S) (Q : PlanS R S) (h : CtlOK n R.length c) (hb : (c.back = false → c.seq ≤ c.round) ∧ (c.back = true → c.seq + c.round ≤ 2 * R.length + 1)) (hd : Dv n R S c st) (hs : c.sent = []) (ht : ∀ d : Nat, d < n → c.target.getD d 0 = (loV S c).getD d 0 ∨ c.target.getD d 0 = (hiV R S c).getD d 0)
    (h0 : 0 ≤ c.round) (h1 : c.round < R.length) : InvR n R S (sendS ⟨startC R S c,st⟩):=by
  have F:=start_at P Q h h0 h1;have hc:=(startC_ok P h fun _ _=>hb).1
  revert F hc
  generalize startC R S c = c1
  intro F hc;have hsn : c1.sent = c1.waiting:=by rw [F.sn,hs];rfl
  have hlo : loV S {c1 with sent:=[]} = loV S c:=by show S.getD c1.round.toNat [] = _;rw [F.rd];rfl
  have hhi : hiV R S {c1 with sent:=[]} = hiV R S c:=by unfold hiV;rw [hlo];show (if c1.round < 0 then _ else S.getD (min (c1.round.toNat + 1) R.length) []) = _;rw [F.rd]
  have htg : tgV R S {c1 with sent:=[]} = tgV R S c:=by unfold tgV;rw [hlo,hhi];show (if c1.back = true then _ else _) = _;rw [F.bk]
  have e : sendS ⟨c1,st⟩ = ⟨{c1 with sent:=[]},cmdS c1 st c1.waiting⟩:=by unfold sendS;show RunS.mk _ (cmdS c1 st c1.sent) = _;rw [hsn]
  rw [e];refine ⟨⟨⟨(cmdS_len ..).trans hd.sl,fun d hdn=>?_⟩,hc.sent [],fun d hdn=>?_,rfl⟩,fun q=>absurd q (by show ¬ c1.waiting.length = 0;have:=F.ne;omega)⟩
  · show DevI c1.seq (c1.known.getD d 0) (c1.target.getD d 0) ((d : Int) ∈ c1.waiting) _ _ ((cmdS c1 st c1.waiting).getD d psD);rw [hlo, hhi, cmdS_at c1 _ st hc.wt.1 (fun x hx => by rw [hd.sl]; exact hc.wt.2 x hx) d, F.sq, F.kn]
    by_cases hw : (d : Int) ∈ c1.waiting
    · rw [if_pos hw, show cmdC c1 d = ⟨c.known.getD d 0, c.seq + 1, c1.target.getD d 0⟩ from by unfold cmdC; rw [F.kn, F.sq]; rfl];refine dev_start1 (hd.dv d hdn) hw ?_
      by_cases q : inR R c d
      · rw [(F.tg d hdn).1 q];exact tg_or d
      · rw [(F.tg d hdn).2 q];exact ht d hdn
    · rw [if_neg hw];have hn:=fun q=>hw ((F.wt d).2 q);rw [(F.tg d hdn).2 fun q=>hn (.inr q)];exact dev_start0 (hd.dv d hdn) (fun q=>hn (.inl q)) hw
  · show c1.target.getD d 0 = _;rw [htg]
    by_cases q : inR R c d
    · exact (F.tg d hdn).1 q
    · rw [(F.tg d hdn).2 q];have e:=lohi (S:=S) Q h0 h1 q;have e2 : (tgV R S c).getD d 0 = (loV S c).getD d 0:=(tg_or d).elim id fun g=>g.trans e;rw [e2];exact (ht d hdn).elim id fun g=>g.trans e
theorem adv_stop {f : Nat} (h : 0 < c.waiting.length) : advC R S f c = c:=by
  cases f with
  | zero=>rfl
  | succ f=>rw [advC,if_pos h]
theorem start_no (h : c.round < 0 ∨ (R.length : Int) ≤ c.round) : startC R S c = c:=by unfold startC;rw [if_pos h]
theorem inv_adv (P : PlanOK n R S) (Q : PlanS R S) (h : InvA n R S c st) : InvR n R S (sendS ⟨advA R S c,st⟩):=by
  have hct:=h.ct;have hrd:=hct.rd;unfold advA;rw [show (40 : Nat) = 38 + 1 + 1 from rfl,advC]
  split
  · rename_i hw;rw [sendS_nil (r:=⟨c,st⟩) h.sn];exact ⟨h,fun q=>absurd q (by show ¬ c.waiting.length = 0;omega)⟩
  · rename_i hw;have hw : ∀ d : Nat, ¬ (d : Int) ∈ c.waiting := fun d q => hw (List.length_pos_of_mem q)
    split
    · rename_i hb;have hc2 := hct.down hb.1 hb.2;have hlo : ∀ d : Nat, d < n → c.target.getD d 0 = (loV S c).getD d 0 := fun d hd => by rw [h.tg d hd]; unfold tgV; rw [if_pos hb.1]
      by_cases hr : c.round - 1 < 0
      · rw [start_no (c := {c with round := c.round - 1}) (.inl hr), advC];rw [if_neg (show ¬ 0 < c.waiting.length from by assumption), if_neg (fun q => by have := q.2; have : 0 ≤ c.round - 1 := this; omega), if_neg (fun q => q.1 hb.1), sendS_nil (r := ⟨{c with round := c.round - 1}, st⟩) h.sn];have e1 : loV S {c with round := c.round - 1} = loV S c := by show S.getD (c.round - 1).toNat [] = S.getD c.round.toNat []; rw [show (c.round - 1).toNat = c.round.toNat from by omega]
        have e2 : tgV R S {c with round:=c.round - 1} = loV S c:=by unfold tgV;rw [if_pos hb.1,e1]
        refine ⟨⟨⟨h.sl,fun d hd=>?_⟩,hc2,fun d hd=>?_,h.sn⟩,fun _=>⟨by show c.waiting.length = 0;omega,?_⟩⟩
        · refine dev_move (h.dv d hd) (hw d) (.inl ?_);rw [e1];exact hlo d hd
        · rw [e2];exact hlo d hd
        · show c.round - 1 = if c.back = true then -1 else _;rw [if_pos hb.1];omega
      · have h0 : 0 ≤ ({c with round := c.round - 1} : Ctl).round := by show 0 ≤ c.round - 1; omega
        have h1 : ({c with round:=c.round - 1} : Ctl).round < R.length:=by show c.round - 1 < _;omega
        have F:=start_at P Q hc2 h0 h1;rw [adv_stop F.ne];have e1 : hiV R S {c with round:=c.round - 1} = loV S c:=by rw [hi_at h0 h1];show S.getD ((c.round - 1).toNat + 1) [] = S.getD c.round.toNat [];rw [show (c.round - 1).toNat + 1 = c.round.toNat from by omega]
        refine inv_start P Q hc2 ⟨fun e=>absurd hb.1 (by show ¬ c.back = true;rw [show c.back = false from e];decide),fun _=>by have:=hct.sq.2.2 hb.1;show c.seq + (c.round - 1) ≤ _;omega⟩ ⟨h.sl,fun d hd=>?_⟩ h.sn (fun d hd=>.inr ?_) h0 h1
        · refine dev_move (h.dv d hd) (hw d) (.inr ?_);rw [e1];exact hlo d hd
        · rw [e1];exact hlo d hd
    · rename_i hnb
      split
      · rename_i hb;have hbf : c.back = false := by simpa using hb.1
        have hc2:=hct.up hb.1 hb.2;have hc0:=(hct.sq.2.1 hbf).2;have hhi : ∀ d : Nat,d < n → c.target.getD d 0 = (S.getD (c.round.toNat + 1) []).getD d 0:=fun d hd=>by rw [h.tg d hd];unfold tgV;rw [if_neg hb.1,hi_at hc0 hb.2]
        have e1 : loV S {c with round:=c.round + 1} = S.getD (c.round.toNat + 1) []:=by show S.getD (c.round + 1).toNat [] = _;rw [show (c.round + 1).toNat = c.round.toNat + 1 from by omega]
        by_cases hr : (R.length : Int) ≤ c.round + 1
        · rw [start_no (c := {c with round := c.round + 1}) (.inr hr), advC];rw [if_neg (show ¬ 0 < c.waiting.length from by assumption), if_neg (fun q => hb.1 q.1), if_neg (fun q => by have := q.2; have : c.round + 1 < R.length := this; omega), sendS_nil (r := ⟨{c with round := c.round + 1}, st⟩) h.sn];have e2 : tgV R S {c with round := c.round + 1} = S.getD (c.round.toNat + 1) [] := by unfold tgV; rw [if_neg hb.1, hi_end (by show c.round + 1 = _; omega), show R.length = c.round.toNat + 1 from by omega]
          refine ⟨⟨⟨h.sl,fun d hd=>?_⟩,hc2,fun d hd=>?_,h.sn⟩,fun _=>⟨by show c.waiting.length = 0;omega,?_⟩⟩
          · refine dev_move (h.dv d hd) (hw d) (.inl ?_);rw [e1];exact hhi d hd
          · rw [e2];exact hhi d hd
          · show c.round + 1 = if c.back = true then -1 else _;rw [if_neg hb.1];omega
        · have h0 : 0 ≤ ({c with round := c.round + 1} : Ctl).round := by show 0 ≤ c.round + 1; omega
          have h1 : ({c with round:=c.round + 1} : Ctl).round < R.length:=by show c.round + 1 < _;omega
          have F:=start_at P Q hc2 h0 h1;rw [adv_stop F.ne];refine inv_start P Q hc2 ⟨fun _=>by have:=(hct.sq.2.1 hbf).1;show c.seq ≤ c.round + 1;omega,fun e=>absurd e hb.1⟩ ⟨h.sl,fun d hd=>?_⟩ h.sn (fun d hd=>.inl ?_) h0 h1
          · refine dev_move (h.dv d hd) (hw d) (.inl ?_);rw [e1];exact hhi d hd
          · rw [e1];exact hhi d hd
      · rename_i hnf;rw [sendS_nil (r := ⟨c, st⟩) h.sn];refine ⟨h, fun q => ⟨q, ?_⟩⟩;show c.round = if c.back = true then -1 else (R.length : Int)
        split
        · rename_i e;have : ¬ 0 ≤ c.round:=fun g=>hnb ⟨e,g⟩;omega
        · rename_i e;have : ¬ c.round < R.length:=fun g=>hnf ⟨e,g⟩;omega
end
section
variable {n : Nat} {R : List (List Chg)} {S : List (List Int)} {r : RunS} {e : Evt}
theorem dv_set {c : Ctl} {st : List PS} (h : Dv n R S c st) {d : Nat} {s : PS} (hd : d < n → DevI c.seq (c.known.getD d 0) (c.target.getD d 0) ((d : Int) ∈ c.waiting) ((loV S c).getD d 0) ((hiV R S c).getD d 0) s) : Dv n R S c (st.set d s) :=
  ⟨(List.length_set ..).trans h.sl,fun k hk=>by
    by_cases e : d = k
    · subst e;rw [getD_setE (by have:=h.sl;omega)];exact hd hk
    · rw [getD_setN e];exact h.dv k hk⟩
theorem inv_upd (h : InvR n R S r) {d : Nat} {s : PS} (hf : d < n → DevI r.c.seq (r.c.known.getD d 0) (r.c.target.getD d 0) ((d : Int) ∈ r.c.waiting) ((loV S r.c).getD d 0) ((hiV R S r.c).getD d 0) s) : InvR n R S (sendS {r with st:=r.st.set d s}):=by
  rw [sendS_nil (r:={r with st:=r.st.set d s}) h.sn];exact ⟨⟨dv_set h.toDv hf,h.ct,h.tg,h.sn⟩,h.fin⟩
theorem mem_filt {l : List Int} {d x : Int} : (x ∈ l.filter fun y=>!(y == d)) ↔ x ∈ l ∧ x ≠ d:=by simp
theorem inv_out {c : Ctl} {st : List PS} (h : InvA n R S c st) {d : Int} (h0 : 0 ≤ d) {s : PS} (hs : d.toNat < n → DevI c.seq (c.known.getD d.toNat 0) (c.target.getD d.toNat 0) False ((loV S c).getD d.toNat 0) ((hiV R S c).getD d.toNat 0) s) : InvA n R S {c with waiting:=c.waiting.filter fun y=>!(y == d)} (st.set d.toNat s) :=
  ⟨⟨(List.length_set ..).trans h.sl,fun k hk=>by
    show DevI c.seq (c.known.getD k 0) (c.target.getD k 0) ((k : Int) ∈ c.waiting.filter _) ((loV S c).getD k 0) ((hiV R S c).getD k 0) _
    by_cases e : d.toNat = k
    · subst e;rw [getD_setE (by have:=h.sl;omega)];exact (hs hk).iff ⟨False.elim,fun q=>(mem_filt.1 q).2 (by omega)⟩
    · rw [getD_setN e]
      exact (h.dv k hk).iff ⟨fun q=>mem_filt.2 ⟨q,by omega⟩,fun q=>(mem_filt.1 q).1⟩⟩,⟨h.ct.tg,h.ct.kn,h.ct.wt.filt _,h.ct.rd,h.ct.sq⟩,h.tg,h.sn⟩
theorem set_self {st : List PS} {d : Nat} : st.set d (st.getD d psD) = st:=by
  apply List.ext_getElem?
  intro i;rw [List.getElem?_set]
  by_cases h : d = i
  · subst h
    by_cases hl : d < st.length
    · rw [if_pos rfl,if_pos hl,List.getD_eq_getElem?_getD,List.getElem?_eq_getElem hl];rfl
    · rw [if_pos rfl,if_neg hl,List.getElem?_eq_none (by omega)]
  · rw [if_neg h]
theorem inv_ack (h : InvR n R S r) {d : Int} (h0 : 0 ≤ d) (hd : d < n) (hm : 0 < (r.st.getD d.toNat psD).msg.length) (h1 : ¬ (msgOf r d).hello = true) (h2 : (msgOf r d).inc = r.c.known.getD d.toNat 0) (h3 : (msgOf r d).seq = r.c.seq) :
    InvA n R S {r.c with waiting:=r.c.waiting.filter fun y=>!(y == d)} (updS r d fun s=>{s with msg:=s.msg.drop 1}).st :=
  inv_out h.toInvA h0 fun hn=>dev_ack (h.dv d.toNat hn) (m:=msgOf r d) rfl hm h1 h2 h3
theorem inv_recv (P : PlanOK n R S) (Q : PlanS R S) (h : InvR n R S r) {d : Int} (h0 : 0 ≤ d) (hd : d < n) (hm : 0 < (r.st.getD d.toNat psD).msg.length) : InvR n R S (sendS (recvS R S r d)):=by
  have hn : d.toNat < n:=by omega
  have hD:=h.dv d.toNat hn;unfold recvS
  split
  · rename_i hh;unfold helloC
    split
    · rename_i hk;have hkl:=h.ct.kn;have e : sendS ⟨{r.c with known:=r.c.known.set d.toNat (msgOf r d).inc,waiting:=insW r.c.waiting d,sent:=r.c.sent ++ [d]},(updS r d fun s=>{s with msg:=s.msg.drop 1}).st⟩ = ⟨{r.c with known:=r.c.known.set d.toNat (msgOf r d).inc,waiting:=insW r.c.waiting d,sent:=[]},r.st.set d.toNat (putT {r.st.getD d.toNat psD with msg:=(r.st.getD d.toNat psD).msg.drop 1} ⟨(msgOf r d).inc,r.c.seq,r.c.target.getD d.toNat 0⟩)⟩:=by
        unfold sendS;refine congrArg (RunS.mk _) ?_;show cmdS _ (r.st.set d.toNat _) (r.c.sent ++ [d]) = _;rw [h.sn];show ((r.st.set d.toNat _).set d.toNat (putT ((r.st.set d.toNat _).getD d.toNat psD) ⟨(r.c.known.set d.toNat (msgOf r d).inc).getD d.toNat 0,r.c.seq,r.c.target.getD d.toNat 0⟩)) = _;rw [List.set_set,getD_setE (by have:=h.sl;omega),getD_setE (by omega)]
      rw [e];refine ⟨⟨⟨(List.length_set ..).trans h.sl,fun k hk'=>?_⟩,⟨h.ct.tg,by simp [h.ct.kn],h.ct.wt.ins h0 hd,h.ct.rd,h.ct.sq⟩,h.tg,rfl⟩,fun q=>?_⟩
      · show DevI r.c.seq ((r.c.known.set d.toNat (msgOf r d).inc).getD k 0) (r.c.target.getD k 0) ((k : Int) ∈ insW r.c.waiting d) ((loV S r.c).getD k 0) ((hiV R S r.c).getD k 0) ((r.st.set d.toNat _).getD k psD)
        by_cases e : d.toNat = k
        · subst e;rw [getD_setE (by omega),getD_setE (by have:=h.sl;omega)];exact dev_known hD (by rw [h.tg _ hk'];exact tg_or _) (m:=msgOf r d) rfl hm hk (mem_insW2.2 (.inl (by omega)))
        · rw [getD_setN e,getD_setN e];exact (h.dv k hk').iff ⟨fun q=>mem_insW2.2 (.inr q),fun q=>(mem_insW2.1 q).resolve_left (by omega)⟩
      · have : 0 < (insW r.c.waiting d).length:=List.length_pos_of_mem (mem_insW2.2 (.inl rfl) : d ∈ insW r.c.waiting d);have q : (insW r.c.waiting d).length = 0:=q;omega
    · rename_i hk;exact inv_upd h fun hn=>dev_old (h.dv _ hn) (m:=msgOf r d) rfl (fun _=>by omega) fun q=>absurd hh q
  · rename_i hh;unfold ackC
    split
    · rename_i hk;exact inv_adv P Q (inv_ack h h0 hd hm hh hk.1 hk.2)
    · rename_i hk;exact inv_upd h fun hn=>dev_old (h.dv _ hn) (m:=msgOf r d) rfl (fun q=>absurd q hh) fun _=>hk
theorem cmdS_all (c : Ctl) (st : List PS) (h : Asc n c.waiting) (hl : st.length = n) (d : Nat) : (cmdS c st c.waiting).getD d psD = if (d : Int) ∈ c.waiting then putT (st.getD d psD) (cmdC c d) else st.getD d psD :=
  cmdS_at c c.waiting st h.1 (fun x hx=>by rw [hl];exact h.2 x hx) d
theorem inv_time (h : InvR n R S r) : InvR n R S (sendS {r with c:={r.c with sent:=r.c.sent ++ r.c.waiting}}):=by
  have e : sendS {r with c:={r.c with sent:=r.c.sent ++ r.c.waiting}} = ⟨r.c,cmdS r.c r.st r.c.waiting⟩:=by
    unfold sendS;show RunS.mk {r.c with sent:=[]} (cmdS {r.c with sent:=r.c.sent ++ r.c.waiting} r.st (r.c.sent ++ r.c.waiting)) = _;rw [h.sn];have e1 : ({r.c with sent:=[]} : Ctl) = r.c:=by have:=h.sn;cases r with | mk c st=>cases c;subst this;rfl
    rw [e1];rfl
  rw [e];refine ⟨⟨⟨(cmdS_len ..).trans h.sl,fun d hd=>?_⟩,h.ct,h.tg,h.sn⟩,h.fin⟩;show DevI r.c.seq (r.c.known.getD d 0) (r.c.target.getD d 0) ((d : Int) ∈ r.c.waiting) ((loV S r.c).getD d 0) ((hiV R S r.c).getD d 0) ((cmdS r.c r.st r.c.waiting).getD d psD);rw [cmdS_all r.c r.st h.ct.wt h.sl d]
  split
  · rename_i hw;exact dev_put (h.dv d hd) (by rw [h.tg d hd];exact tg_or d) hw
  · exact h.dv d hd
theorem inv_abort (P : PlanOK n R S) (Q : PlanS R S) (h : InvR n R S r) (hb : ¬ r.c.back = true) : InvR n R S (sendS {r with c:=abortC R S r.c}):=by
  have hbf : r.c.back = false:=by simpa using hb
  have hc2:=h.ct.bk hb;have hc0:=(h.ct.sq.2.1 hbf);have hrd:=h.ct.rd;unfold abortC;rw [if_neg hb];have elo : loV S {r.c with back:=true} = loV S r.c:=rfl;have ehi : hiV R S {r.c with back:=true} = hiV R S r.c:=rfl;have htg : ∀ d : Nat,d < n → r.c.target.getD d 0 = (hiV R S r.c).getD d 0:=fun d hd=>by rw [h.tg d hd];unfold tgV;rw [if_neg hb]
  by_cases hr : (R.length : Int) ≤ r.c.round
  · rw [start_no (c := {r.c with back := true}) (.inr hr)];have e1 : loV S r.c = hiV R S r.c := by rw [hi_end (by omega)]; unfold loV; rw [show r.c.round.toNat = R.length from by omega]
    refine inv_adv P Q ⟨⟨h.sl,h.dv⟩,hc2,fun d hd=>?_,h.sn⟩;show r.c.target.getD d 0 = (tgV R S {r.c with back:=true}).getD d 0;rw [htg d hd,← e1];rfl
  · have h0 : 0 ≤ ({r.c with back := true} : Ctl).round := hc0.2;have h1 : ({r.c with back := true} : Ctl).round < R.length := by show r.c.round < _; omega
    have F:=start_at P Q hc2 h0 h1;unfold advA;rw [adv_stop F.ne];refine inv_start P Q hc2 ⟨fun e=>(by cases e),fun _=>by show r.c.seq + r.c.round ≤ _;omega⟩ ⟨h.sl,h.dv⟩ h.sn (fun d hd=>.inr (htg d hd)) h0 h1
theorem inv_do (P : PlanOK n R S) (Q : PlanS R S) (h : InvR n R S r) (hc : canR r e) : InvR n R S (doR R S r e):=by
  have hsl:=h.sl;have hn0:=P.n0;obtain ⟨h0,h1⟩:=can_rng hc (by omega);unfold doR evR
  split
  · rename_i k;exact inv_upd h fun hn=>dev_deliver (h.dv _ hn) ((canT1 k).1 (can_dev hc (by omega) (by omega)).2.2)
  split
  · rename_i k;refine inv_upd h fun hn=>?_;obtain ⟨g1,g2,g3⟩:=(canT2 k).1 (can_dev hc (by omega) (by omega)).2.2;have H:=h.dv _ hn;exact dev_save H.toDevJ g2 fun q=>g3 (H.qr q)
  split
  · rename_i k;exact inv_recv P Q h h0 (by omega) ((canT3 k).1 (can_dev hc (by omega) (by omega)).2.2)
  split
  · exact inv_upd h fun hn=>dev_downT (h.dv _ hn)
  split
  · exact inv_upd h fun hn=>dev_up (h.dv _ hn)
  split
  · exact inv_time h
  split
  · rename_i k;obtain ⟨g1,g2⟩:=(canT7 k).1 (can_dev hc (by omega) (by omega)).2.2;have:=inv_out h.toInvA h0 (s:=r.st.getD e.dev.toNat psD) fun hn=>dev_skip (h.dv _ hn) g1;rw [set_self] at this;exact inv_adv P Q this
  split
  · rename_i k;exact inv_abort P Q h ((can8 k).1 hc).2
  · rename_i k1 k2 k3 k4 k5 k6 k7 k8;exact absurd (can_dev hc (by omega) (by omega)).2.2 (canT0 k1 k2 k3 k4 k5 k7)
theorem dev_new (v : Bool) {b : Int} : DevI 0 0 0 False 0 b (ps0 v) :=
  { cs:=fun x hx=>(by cases hx),od:=.nil,ki:=Int.le_refl _,sq:=⟨Int.le_refl _,Int.le_refl _⟩,lv:=fun _ x hx=>(by cases hx),rn:=fun _ _=>⟨rfl,.inl rfl,fun _=>rfl,fun _=>⟨rfl,rfl⟩⟩,ms:=fun x hx=>(by cases hx),qr:=fun _=>rfl,p1:=fun e=>e.elim,p2:=fun _ e=>absurd e (Int.lt_irrefl _),p4:=fun _ _ _=>Bool.false_ne_true,nv:=fun _=>rfl,p3:=fun e=>e.elim }
theorem zeros_at (n : Int) (d : Nat) : (zerosP n).getD d 0 = 0:=by
  unfold zerosP;rw [List.getD_eq_getElem?_getD,List.getElem?_replicate]
  split <;> rfl
theorem inv_new {vs : List Bool} (P : PlanOK vs.length R S) (Q : PlanS R S) : InvR vs.length R S (newRS R S vs):=by
  have hD : Dv vs.length R S (newC vs.length) (vs.map ps0):=⟨List.length_map _,fun d hd=>by
    show DevI 0 ((zerosP _).getD d 0) ((zerosP _).getD d 0) ((d : Int) ∈ ([] : List Int)) ((S.getD 0 []).getD d 0) _ _;rw [zeros_at,Q.z d,show (vs.map ps0).getD d psD = ps0 vs[d] from by rw [List.getD_eq_getElem?_getD,List.getElem?_map,List.getElem?_eq_getElem hd];rfl]
    exact (dev_new _).iff ⟨False.elim,fun q=>(by cases q)⟩⟩
  unfold newRS
  by_cases hr : (R.length : Int) ≤ 0
  · rw [start_no (c := newC vs.length) (.inr hr), sendS_nil (r := ⟨newC vs.length, vs.map ps0⟩) rfl];refine ⟨⟨hD, newC_ok, fun d hd => ?_, rfl⟩, fun _ => ⟨rfl, ?_⟩⟩
    · show (zerosP _).getD d 0 = (hiV R S (newC vs.length)).getD d 0;rw [hi_end (c:=newC vs.length) (by show (0 : Int) = _;omega),show R.length = 0 from by omega,Q.z d,zeros_at]
    · show (0 : Int) = R.length;omega
  · refine inv_start P Q newC_ok ⟨fun _=>Int.le_refl 0,fun h=>by cases h⟩ hD rfl (fun d hd=>.inl ?_) (Int.le_refl 0) (by show (0 : Int) < _;omega);show (zerosP _).getD d 0 = (S.getD 0 []).getD d 0;rw [Q.z d,zeros_at]
theorem waits_ok (P : PlanOK n R S) (Q : PlanS R S) (h : InvR n R S r) (hc : canR r e) (h7 : e.kind ≠ 7) (hr : (doR R S r e).c.round ≠ r.c.round) (hb : (doR R S r e).c.back = r.c.back) {d : Nat} (hd : d < n) (hu : ((doR R S r e).st.getD d psD).ag.up = true) (hq : ¬ ((doR R S r e).st.getD d psD).ag.quar = true) : ((doR R S r e).st.getD d psD).ag.sav = r.c.target.getD d 0:=by
  have hsl:=h.sl;have hn0:=P.n0;obtain ⟨h0,h1⟩:=can_rng hc (by omega);have ag : ∀ (c : Ctl) (st : List PS) (l : List Int),((cmdS c st l).getD d psD).ag = (st.getD d psD).ag:=fun c st l=>by
    induction l generalizing st with
    | nil=>rfl
    | cons x t ih =>
      show ((cmdS c (st.set x.toNat _) t).getD d psD).ag = _;rw [ih]
      by_cases e : x.toNat = d
      · by_cases hl : x.toNat < st.length
        · subst e;rw [getD_setE hl];rfl
        · rw [getD_set,if_neg fun q=>hl (by rw [e];exact q.2)]
      · rw [getD_setN e]
  have agd : ((doR R S r e).st.getD d psD).ag = ((evR R S r e).st.getD d psD).ag:=ag _ _ _;have rdd : (doR R S r e).c.round = (evR R S r e).c.round:=rfl;rw [agd] at hu hq ⊢;rw [rdd] at hr
  by_cases k3 : e.kind = 3
  · rw [ev3 k3] at hr hu hq ⊢;have hm := (canT3 k3).1 (can_dev hc (by omega) (by omega)).2.2;unfold recvS at hr
    by_cases hh : (msgOf r e.dev).hello = true
    · rw [if_pos hh] at hr;unfold helloC at hr
      split at hr <;> exact absurd rfl hr
    · rw [if_neg hh] at hr;unfold ackC at hr
      split at hr
      · rename_i hk;have hA := inv_ack h h0 (by omega) hm hh hk.1 hk.2;unfold rmC advA at hr;rw [show (40 : Nat) = 39 + 1 from rfl, advC] at hr
        split at hr
        · exact absurd rfl hr
        · rename_i hw;have hw : ¬ (d : Int) ∈ r.c.waiting.filter fun y=>!(y == e.dev):=fun q=>hw (List.length_pos_of_mem q);have H:=hA.dv d hd;exact ((H.rn hu hq).2.2.2 hw).2
      · exact absurd rfl hr
  · exfalso
    by_cases k8 : e.kind = 8
    · have hb0 := ((can8 k8).1 hc).2;have e1 : (doR R S r e).c.back = (abortC R S r.c).back := by show (evR R S r e).c.back = _; rw [ev8 k8]
      have e2 : (abortC R S r.c).back = true:=by
        unfold abortC;rw [if_neg hb0];have h2:=startC_ok P (h.ct.bk hb0) fun a0 a1=>⟨(fun q=>by cases q),fun _=>by have:=h.ct.sq.2.1 (by simpa using hb0);show r.c.seq + r.c.round ≤ _;have a1 : r.c.round < R.length:=a1;omega⟩;rw [(advA_ok P h2.1).2.2,h2.2.2.1]
      rw [e1,e2] at hb;exact hb0 hb.symm
    · refine hr ?_;unfold evR;rw [if_neg k3, if_neg h7, if_neg k8]
      repeat' split
      all_goals rfl
end
def sumN (f : Nat → Int) : Nat → Int
  | 0=>0
  | n + 1=>sumN f n + f n
theorem sumN_le {f g : Nat → Int} : ∀ {n : Nat}, (∀ d, d < n → f d ≤ g d) → sumN f n ≤ sumN g n
  | 0,_=>Int.le_refl _
  | n + 1,h=>Int.add_le_add (sumN_le fun d hd=>h d (by omega)) (h n (by omega))
theorem sumN_eq {f g : Nat → Int} : ∀ {n : Nat}, (∀ d, d < n → f d = g d) → sumN f n = sumN g n
  | 0,_=>rfl
  | n + 1,h=>by rw [sumN,sumN,sumN_eq fun d hd=>h d (by omega),h n (by omega)]
theorem sumN_upd {f g : Nat → Int} {d : Nat} : ∀ {n : Nat}, d < n → (∀ k, k < n → k ≠ d → f k = g k) → sumN f n + g d = sumN g n + f d
  | n + 1,hd,h=>by
    rw [sumN,sumN]
    by_cases e : d = n
    · have:=sumN_eq (f:=f) (g:=g) (n:=n) fun k hk=>h k (by omega) (by omega);subst e;omega
    · have:=sumN_upd (f:=f) (g:=g) (n:=n) (d:=d) (by omega) fun k hk=>h k (by omega);have:=h n (by omega) (by omega);omega
theorem sumN_add (f : Nat → Int) (c : Int) : ∀ n : Nat, sumN (fun d => f d + c) n = sumN f n + c * n
  | 0=>by simp [sumN]
  | n + 1=>by
    rw [sumN,sumN,sumN_add f c n,show ((n + 1 : Nat) : Int) = (n : Int) + 1 from rfl,Int.mul_add,Int.mul_one];omega
def pend (s : PS) : Int:=if s.vol = true ∧ s.ag.up = true ∧ s.ag.run ≠ s.ag.sav then 2 else 0
theorem pend_rng (s : PS) : 0 ≤ pend s ∧ pend s ≤ 2:=by unfold pend;split <;> omega
def mS (k : Int) (s : PS) : Int:=(if s.ag.up = true then 0 else 5) + 3 * (s.ag.inc - k) + 3 * (s.cmd.length : Int) + pend s + (s.msg.length : Int)
def mR (n : Nat) (R : List (List Chg)) (c : Ctl) (st : List PS) : Int:=3 * (n : Int) * measC R.length c + sumN (fun d=>mS (c.known.getD d 0) (st.getD d psD)) n
theorem ml_say (s : PS) (m : Msg) (k : Int) : mS k (sayT s m) = mS k s + 1:=by
  show (if s.ag.up = true then (0 : Int) else 5) + 3 * (s.ag.inc - k) + 3 * (s.cmd.length : Int) + pend s + ((s.msg ++ [m]).length : Int) = _;rw [List.length_append,List.length_singleton];unfold mS;omega
theorem ml_put (s : PS) (x : Cmd) (k : Int) : mS k (putT s x) = mS k s + 3:=by
  show (if s.ag.up = true then (0 : Int) else 5) + 3 * (s.ag.inc - k) + 3 * ((s.cmd ++ [x]).length : Int) + pend s + (s.msg.length : Int) = _;rw [List.length_append,List.length_singleton];unfold mS;omega
def dropM (s : PS) : PS:={s with msg:=s.msg.drop 1}
theorem ml_drop (s : PS) (k : Int) (h : 0 < s.msg.length) : mS k (dropM s) = mS k s - 1:=by
  show (if s.ag.up = true then (0 : Int) else 5) + 3 * (s.ag.inc - k) + 3 * (s.cmd.length : Int) + pend s + ((s.msg.drop 1).length : Int) = _;rw [List.length_drop];unfold mS;omega
theorem ml_cmd (s : PS) (k : Int) (h : 0 < s.cmd.length) : mS k {s with cmd:=s.cmd.drop 1} = mS k s - 3:=by
  show (if s.ag.up = true then (0 : Int) else 5) + 3 * (s.ag.inc - k) + 3 * ((s.cmd.drop 1).length : Int) + pend s + (s.msg.length : Int) = _;rw [List.length_drop];unfold mS;omega
theorem ml_save (s : PS) (k : Int) : mS k (saveT s) = mS k s + 1 - pend s:=by
  unfold saveT;rw [ml_say];have e : pend {s with ag:={s.ag with sav:=s.ag.run}} = 0:=by unfold pend;rw [if_neg fun h=>h.2.2 rfl]
  show (if s.ag.up = true then (0 : Int) else 5) + 3 * (s.ag.inc - k) + 3 * (s.cmd.length : Int) + pend {s with ag:={s.ag with sav:=s.ag.run}} + (s.msg.length : Int) + 1 = _;rw [e];unfold mS;omega
theorem ml_deliver {s : PS} {k : Int} (h : 0 < s.cmd.length) : mS k (deliverT s) ≤ mS k s - 1:=by
  have hp:=pend_rng s;unfold deliverT
  split
  · rw [ml_cmd s k h];omega
  · split
    · unfold helloT;rw [ml_say,ml_cmd s k h];omega
    · have e : ∀ g : Agt,g.up = s.ag.up → g.inc = s.ag.inc → mS k {s with cmd:=s.cmd.drop 1,ag:=g} = mS k s - 3 - pend s + pend {s with cmd:=s.cmd.drop 1,ag:=g}:=fun g h1 h2=>by
        show (if g.up = true then (0 : Int) else 5) + 3 * (g.inc - k) + 3 * ((s.cmd.drop 1).length : Int) + pend _ + (s.msg.length : Int) = _;rw [h1,h2,List.length_drop];unfold mS;omega
      split
      · rw [ml_save,e {s.ag with run:=(headT s).ver,seq:=(headT s).seq,quar:=false} rfl rfl];omega
      · rw [e {s.ag with run:=(headT s).ver,seq:=(headT s).seq,quar:=false} rfl rfl];have:=pend_rng {s with cmd:=s.cmd.drop 1,ag:={s.ag with run:=(headT s).ver,seq:=(headT s).seq,quar:=false}};omega
theorem ml_up {s : PS} {k : Int} (h : ¬ s.ag.up = true) : mS k (upT s) = mS k s - 1:=by
  unfold upT helloT;rw [ml_say];have e : pend {s with ag:={s.ag with up:=true,quar:=true,inc:=s.ag.inc + 1,run:=s.ag.sav,seq:=0}} = 0:=by unfold pend;rw [if_neg fun h=>h.2.2 rfl]
  have e2 : pend s = 0:=by unfold pend;rw [if_neg fun q=>h q.2.1]
  show (if true = true then (0 : Int) else 5) + 3 * (s.ag.inc + 1 - k) + 3 * (s.cmd.length : Int) + pend {s with ag:={s.ag with up:=true,quar:=true,inc:=s.ag.inc + 1,run:=s.ag.sav,seq:=0}} + (s.msg.length : Int) + 1 = _;rw [e,if_pos rfl];unfold mS;rw [e2,if_neg h];omega
theorem ml_down {s : PS} {k : Int} : mS k (downT s) ≤ mS k s + 5:=by
  have e : pend (downT s) = 0:=by unfold pend;rw [if_neg fun h=>by cases h.2.1]
  have:=pend_rng s;show (if false = true then (0 : Int) else 5) + 3 * (s.ag.inc - k) + 3 * (([] : List Cmd).length : Int) + pend (downT s) + (s.msg.length : Int) ≤ _;rw [e,if_neg (by decide)];unfold mS;simp only [List.length_nil];split <;> omega
section
variable {n : Nat} {R : List (List Chg)} {S : List (List Int)} {r : RunS} {c : Ctl} {st : List PS} {e : Evt}
theorem mR_set {d : Nat} (hd : d < n) (hl : st.length = n) {s : PS} : mR n R c (st.set d s) = mR n R c st + mS (c.known.getD d 0) s - mS (c.known.getD d 0) (st.getD d psD):=by
  have:=(sumN_upd (f:=fun k=>mS (c.known.getD k 0) ((st.set d s).getD k psD)) (g:=fun k=>mS (c.known.getD k 0) (st.getD k psD)) (n:=n) (d:=d) hd (fun k _ hk=>by show mS _ _ = mS _ _;rw [getD_setN (fun q=>hk q.symm)]));have e : mS (c.known.getD d 0) ((st.set d s).getD d psD) = mS (c.known.getD d 0) s:=by rw [getD_setE (by omega)]
  unfold mR;simp only [e] at this;omega
theorem mR_same {c' : Ctl} (h1 : c'.round = c.round) (h2 : c'.back = c.back) (h3 : c'.known = c.known) : mR n R c' st = mR n R c st:=by
  unfold mR measC;rw [h1,h2,h3]
theorem mR_cmd (h : Asc n c.waiting) (hl : st.length = n) : mR n R {c with sent:=[]} (cmdS c st c.waiting) ≤ mR n R c st + 3 * n:=by
  have e:=sumN_add (fun d=>mS (c.known.getD d 0) (st.getD d psD)) 3 n;have:=sumN_le (f:=fun d=>mS (c.known.getD d 0) ((cmdS c st c.waiting).getD d psD)) (g:=fun d=>mS (c.known.getD d 0) (st.getD d psD) + 3) (n:=n) fun d hd=>by
    show mS _ ((cmdS c st c.waiting).getD d psD) ≤ _;rw [cmdS_all c st h hl d]
    split
    · rw [ml_put];exact Int.le_refl _
    · show _ ≤ _ + 3;omega
  show 3 * (n : Int) * measC R.length c + sumN (fun d=>mS (c.known.getD d 0) ((cmdS c st c.waiting).getD d psD)) n ≤ _;unfold mR;omega
theorem mR_start (P : PlanOK n R S) (Q : PlanS R S) (h : CtlOK n R.length c) (hb : (c.back = false → c.seq ≤ c.round) ∧ (c.back = true → c.seq + c.round ≤ 2 * R.length + 1)) (hs : c.sent = []) (hl : st.length = n) (h0 : 0 ≤ c.round) (h1 : c.round < R.length) :
    mR n R (sendS ⟨startC R S c,st⟩).c (sendS ⟨startC R S c,st⟩).st ≤ mR n R c st + 3 * n:=by
  have F:=start_at P Q h h0 h1;have hc:=(startC_ok P h fun _ _=>hb).1
  revert F hc
  generalize startC R S c = c1
  intro F hc;have hsn : c1.sent = c1.waiting:=by rw [F.sn,hs];rfl
  show mR n R {c1 with sent:=[]} (cmdS c1 st c1.sent) ≤ _;rw [hsn];have:=mR_cmd (R:=R) (c:=c1) (st:=st) hc.wt hl;rw [mR_same (c:=c) (c':=c1) F.rd F.bk F.kn] at this;exact this
theorem mR_adv (P : PlanOK n R S) (Q : PlanS R S) (hct : CtlOK n R.length c) (hs : c.sent = []) (hl : st.length = n) : mR n R (sendS ⟨advA R S c,st⟩).c (sendS ⟨advA R S c,st⟩).st ≤ mR n R c st:=by
  have hrd:=hct.rd;unfold advA;rw [show (40 : Nat) = 38 + 1 + 1 from rfl,advC]
  split
  · rw [sendS_nil (r:=⟨c,st⟩) hs];exact Int.le_refl _
  · rename_i hw
    split
    · rename_i hb;have hc2:=hct.down hb.1 hb.2;have em : mR n R {c with round:=c.round - 1} st = mR n R c st - 3 * n:=by
        have e : measC R.length {c with round:=c.round - 1} = measC R.length c - 1:=by unfold measC;rw [if_pos hb.1,if_pos hb.1];show c.round - 1 + 1 = c.round + 1 - 1;omega
        unfold mR;rw [e,Int.mul_sub,Int.mul_one];show _ + sumN (fun d=>mS (c.known.getD d 0) _) n = _;omega
      by_cases hr : c.round - 1 < 0
      · rw [start_no (c:={c with round:=c.round - 1}) (.inl hr),advC];rw [if_neg (show ¬ 0 < c.waiting.length from by assumption),if_neg (fun q=>by have:=q.2;have : 0 ≤ c.round - 1:=this;omega),if_neg (fun q=>q.1 hb.1),sendS_nil (r:=⟨{c with round:=c.round - 1},st⟩) hs];show mR n R {c with round:=c.round - 1} st ≤ _;omega
      · have h0 : 0 ≤ ({c with round := c.round - 1} : Ctl).round := by show 0 ≤ c.round - 1; omega
        have h1 : ({c with round:=c.round - 1} : Ctl).round < R.length:=by show c.round - 1 < _;omega
        rw [adv_stop (start_at P Q hc2 h0 h1).ne];have:=mR_start P Q hc2 (st:=st) ⟨fun e=>absurd hb.1 (by show ¬ c.back = true;rw [show c.back = false from e];decide),fun _=>by have:=hct.sq.2.2 hb.1;show c.seq + (c.round - 1) ≤ _;omega⟩ hs hl h0 h1;omega
    · rename_i hnb
      split
      · rename_i hb;have hbf : c.back = false := by simpa using hb.1
        have hc2:=hct.up hb.1 hb.2;have hc0:=(hct.sq.2.1 hbf).2;have em : mR n R {c with round:=c.round + 1} st = mR n R c st - 3 * n:=by
          have e : measC R.length {c with round:=c.round + 1} = measC R.length c - 1:=by unfold measC;rw [if_neg hb.1,if_neg hb.1];show (R.length : Int) - (c.round + 1) = R.length - c.round - 1;omega
          unfold mR;rw [e,Int.mul_sub,Int.mul_one];show _ + sumN (fun d=>mS (c.known.getD d 0) _) n = _;omega
        by_cases hr : (R.length : Int) ≤ c.round + 1
        · rw [start_no (c:={c with round:=c.round + 1}) (.inr hr),advC];rw [if_neg (show ¬ 0 < c.waiting.length from by assumption),if_neg (fun q=>hb.1 q.1),if_neg (fun q=>by have:=q.2;have : c.round + 1 < R.length:=this;omega),sendS_nil (r:=⟨{c with round:=c.round + 1},st⟩) hs];show mR n R {c with round:=c.round + 1} st ≤ _;omega
        · have h0 : 0 ≤ ({c with round := c.round + 1} : Ctl).round := by show 0 ≤ c.round + 1; omega
          have h1 : ({c with round:=c.round + 1} : Ctl).round < R.length:=by show c.round + 1 < _;omega
          rw [adv_stop (start_at P Q hc2 h0 h1).ne];have:=mR_start P Q hc2 (st:=st) ⟨fun _=>by have:=(hct.sq.2.1 hbf).1;show c.seq ≤ c.round + 1;omega,fun e=>absurd e hb.1⟩ hs hl h0 h1;omega
      · rw [sendS_nil (r:=⟨c,st⟩) hs];exact Int.le_refl _
theorem mR_sta (h : InvR n R S r) {d : Nat} (hd : d < n) {s : PS} : mR n R (sendS {r with st:=r.st.set d s}).c (sendS {r with st:=r.st.set d s}).st = mR n R r.c r.st + mS (r.c.known.getD d 0) s - mS (r.c.known.getD d 0) (r.st.getD d psD):=by
  rw [sendS_nil (r:={r with st:=r.st.set d s}) h.sn];exact mR_set hd h.sl
theorem mR_recv (P : PlanOK n R S) (Q : PlanS R S) (h : InvR n R S r) {d : Int} (h0 : 0 ≤ d) (hd : d < n) (hm : 0 < (r.st.getD d.toNat psD).msg.length) : mR n R (sendS (recvS R S r d)).c (sendS (recvS R S r d)).st ≤ mR n R r.c r.st - 1:=by
  have hn : d.toNat < n:=by omega
  have hdr:=ml_drop (r.st.getD d.toNat psD) (r.c.known.getD d.toNat 0) hm;have hsta:=mR_sta h hn (s:=dropM (r.st.getD d.toNat psD));unfold recvS
  split
  · unfold helloC
    split
    · rename_i hk;have hkl := h.ct.kn;have hsl := h.sl;unfold sendS;show mR n R _ (cmdS _ (r.st.set d.toNat _) (r.c.sent ++ [d])) ≤ _;rw [h.sn];show mR n R {r.c with known := r.c.known.set d.toNat (msgOf r d).inc, waiting := insW r.c.waiting d, sent := []} ((r.st.set d.toNat _).set d.toNat (putT ((r.st.set d.toNat _).getD d.toNat psD) ⟨(r.c.known.set d.toNat (msgOf r d).inc).getD d.toNat 0, r.c.seq, r.c.target.getD d.toNat 0⟩)) ≤ _;have e0 : ((r.st.set d.toNat (dropM (r.st.getD d.toNat psD))).set d.toNat (putT ((r.st.set d.toNat (dropM (r.st.getD d.toNat psD))).getD d.toNat psD) ⟨(r.c.known.set d.toNat (msgOf r d).inc).getD d.toNat 0, r.c.seq, r.c.target.getD d.toNat 0⟩)) = r.st.set d.toNat (putT (dropM (r.st.getD d.toNat psD)) ⟨(msgOf r d).inc, r.c.seq, r.c.target.getD d.toNat 0⟩) := by rw [List.set_set, getD_setE (by omega), getD_setE (by omega)]
      refine Int.le_trans (Int.le_of_eq (congrArg (mR n R _) e0)) ?_
      have hu:=sumN_upd (f:=fun k=>mS ((r.c.known.set d.toNat (msgOf r d).inc).getD k 0) ((r.st.set d.toNat (putT (dropM (r.st.getD d.toNat psD)) ⟨(msgOf r d).inc,r.c.seq,r.c.target.getD d.toNat 0⟩)).getD k psD)) (g:=fun k=>mS (r.c.known.getD k 0) (r.st.getD k psD)) (n:=n) (d:=d.toNat) hn (fun k _ hk=>by
        show mS _ _ = mS _ _
        rw [getD_setN (fun q=>hk q.symm),getD_setN (fun q=>hk q.symm)])
      have e1 : mS ((r.c.known.set d.toNat (msgOf r d).inc).getD d.toNat 0) ((r.st.set d.toNat (putT (dropM (r.st.getD d.toNat psD)) ⟨(msgOf r d).inc,r.c.seq,r.c.target.getD d.toNat 0⟩)).getD d.toNat psD) = mS (r.c.known.getD d.toNat 0) (r.st.getD d.toNat psD) + 2 - 3 * ((msgOf r d).inc - r.c.known.getD d.toNat 0):=by
        rw [getD_setE (by omega),getD_setE (by omega),ml_put,ml_drop _ _ hm];unfold mS;omega
      simp only [e1] at hu;have hg : 3 * (n : Int) * measC R.length r.c + sumN (fun k=>mS ((r.c.known.set d.toNat (msgOf r d).inc).getD k 0) ((r.st.set d.toNat (putT (dropM (r.st.getD d.toNat psD)) ⟨(msgOf r d).inc,r.c.seq,r.c.target.getD d.toNat 0⟩)).getD k psD)) n ≤ 3 * (n : Int) * measC R.length r.c + sumN (fun k=>mS (r.c.known.getD k 0) (r.st.getD k psD)) n - 1:=by omega
      exact hg
    · exact Int.le_trans (Int.le_of_eq hsta) (by omega)
  · rename_i hh;unfold ackC
    split
    · rename_i hk;have hA:=inv_ack h h0 hd hm hh hk.1 hk.2;have h1:=mR_adv P Q hA.ct hA.sn hA.sl;have h2 : mR n R {r.c with waiting:=r.c.waiting.filter fun y=>!(y == d)} (updS r d fun s=>{s with msg:=s.msg.drop 1}).st = mR n R r.c (r.st.set d.toNat (dropM (r.st.getD d.toNat psD))):=rfl;have h3:=mR_set (R:=R) (c:=r.c) (st:=r.st) hn h.sl (s:=dropM (r.st.getD d.toNat psD));exact Int.le_trans h1 (Int.le_trans (Int.le_of_eq (h2.trans h3)) (by omega))
    · exact Int.le_trans (Int.le_of_eq hsta) (by omega)
def calmK (k : Int) : Prop:=k = 1 ∨ k = 2 ∨ k = 3 ∨ k = 5
theorem mR_calm (P : PlanOK n R S) (Q : PlanS R S) (h : InvR n R S r) (hc : canR r e) (hk : calmK e.kind) : mR n R (doR R S r e).c (doR R S r e).st ≤ mR n R r.c r.st - 1:=by
  have hsl:=h.sl;have hn0:=P.n0;obtain ⟨h0,h1⟩:=can_rng hc (by omega);have hd : e.dev.toNat < n:=by omega
  unfold doR
  rcases hk with k | k | k | k
  · rw [ev1 k];have:=mR_sta h hd (s:=deliverT (r.st.getD e.dev.toNat psD));have:=ml_deliver (k:=r.c.known.getD e.dev.toNat 0) ((canT1 k).1 (can_dev hc (by omega) (by omega)).2.2);unfold updS;omega
  · rw [ev2 k];obtain ⟨g1,g2,g3⟩:=(canT2 k).1 (can_dev hc (by omega) (by omega)).2.2;have:=mR_sta h hd (s:=saveT (r.st.getD e.dev.toNat psD));have:=ml_save (r.st.getD e.dev.toNat psD) (r.c.known.getD e.dev.toNat 0);have e2 : pend (r.st.getD e.dev.toNat psD) = 2:=if_pos ⟨g1,g2,g3⟩;unfold updS;omega
  · rw [ev3 k];exact mR_recv P Q h h0 (by omega) ((canT3 k).1 (can_dev hc (by omega) (by omega)).2.2)
  · rw [ev5 k];have:=mR_sta h hd (s:=upT (r.st.getD e.dev.toNat psD));have:=ml_up (k:=r.c.known.getD e.dev.toNat 0) ((canT5 k).1 (can_dev hc (by omega) (by omega)).2.2);unfold updS;omega
theorem mR_any (P : PlanOK n R S) (Q : PlanS R S) (h : InvR n R S r) (hn : n ≤ 4) (hR : R.length ≤ 3) (hc : canR r e) : mR n R (doR R S r e).c (doR R S r e).st ≤ mR n R r.c r.st + 60:=by
  by_cases hk : calmK e.kind
  · have:=mR_calm P Q h hc hk;omega
  have hsl:=h.sl;have hn0:=P.n0;obtain ⟨h0,h1⟩:=can_rng hc (by omega);have hd : e.dev.toNat < n:=by omega
  unfold calmK at hk;unfold doR
  by_cases k : e.kind = 4
  · rw [ev4 k];have:=mR_sta h hd (s:=downT (r.st.getD e.dev.toNat psD));have:=ml_down (s:=r.st.getD e.dev.toNat psD) (k:=r.c.known.getD e.dev.toNat 0);unfold updS;omega
  by_cases k : e.kind = 6
  · rw [ev6 k];have := mR_cmd (R := R) (c := {r.c with sent := r.c.sent ++ r.c.waiting}) (st := r.st) h.ct.wt h.sl;have e1 : mR n R {r.c with sent := r.c.sent ++ r.c.waiting} r.st = mR n R r.c r.st := rfl;show mR n R {r.c with sent := []} (cmdS {r.c with sent := r.c.sent ++ r.c.waiting} r.st (r.c.sent ++ r.c.waiting)) ≤ _;rw [h.sn];have e2 : ({r.c with sent := r.c.sent ++ r.c.waiting} : Ctl) = {r.c with sent := [] ++ r.c.waiting} := by rw [h.sn]
    rw [e2] at this;have : mR n R {r.c with sent:=[]} (cmdS {r.c with sent:=[] ++ r.c.waiting} r.st ([] ++ r.c.waiting)) ≤ mR n R r.c r.st + 3 * n:=this;omega
  by_cases k : e.kind = 7
  · rw [ev7 k];obtain ⟨g1,g2⟩:=(canT7 k).1 (can_dev hc (by omega) (by omega)).2.2;have hA:=inv_out h.toInvA h0 (s:=r.st.getD e.dev.toNat psD) fun hn=>dev_skip (h.dv _ hn) g1;rw [set_self] at hA;have h1:=mR_adv P Q hA.ct hA.sn hA.sl;exact Int.le_trans (b:=mR n R r.c r.st) h1 (by omega)
  by_cases k : e.kind = 8
  · rw [ev8 k];have hb := ((can8 k).1 hc).2;have hbf : r.c.back = false := by simpa using hb
    have hc2:=h.ct.bk hb;have hc0:=(h.ct.sq.2.1 hbf);have hrd:=h.ct.rd;have em : mR n R {r.c with back:=true} r.st ≤ mR n R r.c r.st + 48:=by
      have e1 : measC R.length {r.c with back:=true} = r.c.round + 1:=by unfold measC;rw [if_pos rfl]
      have e2:=meas_pos h.ct;have e3 : 3 * (n : Int) * (r.c.round + 1) ≤ 48:=by
        have : 3 * (n : Int) * (r.c.round + 1) ≤ 12 * 4:=Int.mul_le_mul (by omega) (by omega) (by omega) (by omega);omega
      have e4 : 0 ≤ 3 * (n : Int) * measC R.length r.c:=Int.mul_nonneg (by omega) e2;unfold mR;rw [e1];show _ + sumN (fun d=>mS (r.c.known.getD d 0) _) n ≤ _;omega
    unfold abortC;rw [if_neg hb]
    by_cases hr : (R.length : Int) ≤ r.c.round
    · rw [start_no (c:={r.c with back:=true}) (.inr hr)];exact Int.le_trans (mR_adv P Q hc2 h.sn h.sl (st:=r.st)) (Int.le_trans em (by omega))
    · have h0 : 0 ≤ ({r.c with back := true} : Ctl).round := hc0.2;have h1 : ({r.c with back := true} : Ctl).round < R.length := by show r.c.round < _; omega
      unfold advA;rw [adv_stop (start_at P Q hc2 h0 h1).ne];exact Int.le_trans (mR_start P Q hc2 (st:=r.st) ⟨fun e=>(by cases e),fun _=>by show r.c.seq + r.c.round ≤ _;omega⟩ h.sn h.sl h0 h1) (Int.le_trans (Int.add_le_add_right em _) (by omega))
  · exact absurd (can_dev hc (by omega) (by omega)).2.2 (canT0 (by omega) (by omega) (by omega) (by omega) (by omega) (by omega))
theorem mR_new {vs : List Bool} (P : PlanOK vs.length R S) (Q : PlanS R S) (hn : vs.length ≤ 4) (hR : R.length ≤ 3) : mR vs.length R (newRS R S vs).c (newRS R S vs).st ≤ 60:=by
  have e0 : mR vs.length R (newC vs.length) (vs.map ps0) ≤ 36:=by
    have e1 : sumN (fun d=>mS ((newC vs.length).known.getD d 0) ((vs.map ps0).getD d psD)) vs.length = sumN (fun _=>0) vs.length:=sumN_eq fun d hd=>by
      show mS ((zerosP _).getD d 0) _ = 0;rw [zeros_at,List.getD_eq_getElem?_getD,List.getElem?_map,List.getElem?_eq_getElem hd];show mS 0 (ps0 vs[d]) = 0;have : pend (ps0 vs[d]) = 0:=by unfold pend;rw [if_neg fun h=>h.2.2 rfl]
      unfold mS;rw [this];rfl
    have e2 : sumN (fun _=>0) vs.length ≤ 0:=by
      have:=sumN_add (fun _=>0) 0 vs.length;have h2 : ∀ m,sumN (fun _=>0) m = 0:=fun m=>by induction m with
        | zero=>rfl
        | succ m ih=>rw [sumN,ih];rfl
      rw [h2];exact Int.le_refl _
    have e3 : measC R.length (newC vs.length) = R.length:=by unfold measC;rw [if_neg (by show ¬ false = true;decide)];show (R.length : Int) - 0 = _;omega
    have e4 : 3 * (vs.length : Int) * (R.length : Int) ≤ 12 * 3:=Int.mul_le_mul (by omega) (by omega) (by omega) (by omega);unfold mR;rw [e1,e3];omega
  unfold newRS
  by_cases hr : (R.length : Int) ≤ 0
  · rw [start_no (c:=newC vs.length) (.inr hr),sendS_nil (r:=⟨newC vs.length,vs.map ps0⟩) rfl];show mR vs.length R (newC vs.length) (vs.map ps0) ≤ 60;omega
  · have:=mR_start P Q newC_ok (st:=vs.map ps0) ⟨fun _=>Int.le_refl 0,fun h=>by cases h⟩ rfl (List.length_map _) (Int.le_refl 0) (by show (0 : Int) < _;omega);omega
end
def PlnI (st : Bool) (n : Int) (R : List (List Chg)) (now : List Int) : Prop:=(now.length = n.toNat ∧ ∀ k,0 ≤ now.getD k 0 ∧ now.getD k 0 ≤ 3) ∧ ∃ acc,∀ rs,stsA st n [zerosP n] (zerosP n) (R ++ rs) = stsA st n acc now rs
def RndI (st : Bool) (n : Int) (now : List Int) (l : List Chg) (last : Int) (cur : List Int) : Prop:=(cur.length = n.toNat ∧ ∀ k,0 ≤ cur.getD k 0 ∧ cur.getD k 0 ≤ 3) ∧ ∀ rest,rndP st n (-1) now (l ++ rest) = rndP st n last cur rest
theorem zerosP_le (n : Int) (k : Nat) : 0 ≤ (zerosP n).getD k 0 ∧ (zerosP n).getD k 0 ≤ 3:=by
  unfold zerosP;rw [List.getD_eq_getElem?_getD,List.getElem?_replicate]
  split <;> decide
theorem PlnI.init (st : Bool) (n : Int) : PlnI st n [] (zerosP n):=⟨⟨by simp [zerosP],zerosP_le n⟩,_,fun _=>rfl⟩
theorem RndI.init {st : Bool} {n : Int} {now : List Int} {R : List (List Chg)} (h : PlnI st n R now) : RndI st n now [] (-1) now:=⟨h.1,fun _=>rfl⟩
theorem getD_set_le {l : List Int} {d k : Nat} {v : Int} (h : ∀ k,0 ≤ l.getD k 0 ∧ l.getD k 0 ≤ 3) (h0 : 0 ≤ v) (hv : v ≤ 3) : 0 ≤ (l.set d v).getD k 0 ∧ (l.set d v).getD k 0 ≤ 3:=by
  have:=h k;rw [List.getD_eq_getElem?_getD] at this ⊢;rw [List.getElem?_set]
  split
  · split <;> simp [h0,hv]
  · exact this
theorem RndI.step {st : Bool} {n last d v : Int} {now cur : List Int} {l : List Chg} (h : RndI st n now l last cur) (hl : -1 ≤ last) (h1 : last < d) (h2 : d < n) (h3 : cur.getD d.toNat 0 < v) (h4 : v ≤ 3) (h5 : ¬ st = true → v = 3) : RndI st n now (l ++ [⟨d,v⟩]) d (cur.set d.toNat v) :=
  ⟨⟨by rw [List.length_set];exact h.1.1,fun k=>getD_set_le h.1.2 (by have:=(h.1.2 d.toNat).1;omega) h4⟩,fun rest=>by
    rw [List.append_assoc,List.singleton_append,h.2]
    exact rndP_go (c:=⟨d,v⟩) (by
      show ¬ (d ≤ last ∨ n ≤ d ∨ v ≤ cur.getD d.toNat 0 ∨ 3 < v ∨ (¬ st = true ∧ v ≠ 3));rintro (q | q | q | q | q)
      · omega
      · omega
      · omega
      · omega
      · exact q.2 (h5 q.1))⟩
theorem RndI.nil {st : Bool} {n last : Int} {now cur : List Int} (h : RndI st n now [] last cur) : cur = now:=by
  have:=h.2 [];rw [List.append_nil,rndP,rndP] at this;exact (Option.some.inj this).symm
theorem PlnI.step {st : Bool} {n last : Int} {R : List (List Chg)} {now cur : List Int} {l : List Chg} (h : PlnI st n R now) (hr : RndI st n now l last cur) (h0 : l.length ≠ 0) : PlnI st n (R ++ [l]) cur:=by
  obtain ⟨acc,ha⟩:=h.2;refine ⟨hr.1,acc ++ [cur],fun rs=>?_⟩;rw [List.append_assoc,List.singleton_append,ha,stsA,if_neg h0];have:=hr.2 [];rw [List.append_nil] at this;rw [this,rndP]
theorem PlnI.some {st : Bool} {n : Int} {R : List (List Chg)} {now : List Int} (h : PlnI st n R now) (hn : 1 ≤ n ∧ n ≤ 12) : (statesP st R n).isSome = true:=by
  obtain ⟨acc,ha⟩:=h.2;have:=ha [];rw [List.append_nil,stsA] at this;unfold statesP;rw [if_neg (by omega),this];rfl
def planG (p : Plan) (n : Int) : Prop:=goodP p n ∧ p.rounds.xs.length ≤ 3 ∧ ∀ x ∈ p.rounds.xs,0 < x.xs.length
section
variable {sg : Bool} {R : List (List Chg)} {S : List (List Int)} {n B : Nat} {x x1 : Run} {y y1 : RunR} {e : Evt}
structure Two (sg : Bool) (R : List (List Chg)) (S : List (List Int)) (n B : Nat) (x : Run) (y : RunR) : Prop where
  a : RunAt R S n B x
  b : QAt R S n B y
  e : absRR y = absR x
  g : y.b.2.staged = sg
theorem RunAt.mono {B' : Nat} (h : RunAt R S n B x) (hB : B ≤ B') : RunAt R S n B' x:=⟨ROK.mono h.ok hB,h.s0,h.rd,h.st,h.tn⟩
theorem QAt.mono {B' : Nat} (h : QAt R S n B y) (hB : B ≤ B') : QAt R S n B' y:=⟨⟨h.ok.1,ROK.mono h.ok.2 hB⟩,h.s0,h.rd,h.st,h.tn⟩
theorem Two.mono {B' : Nat} (h : Two sg R S n B x y) (hB : B ≤ B') : Two sg R S n B' x y:=⟨h.a.mono hB,h.b.mono hB,h.e,h.g⟩
def DoX (x x1 : Run) (e : Evt) : Prop:=(canR (absR x) e → KeepR x x1 ∧ absR x1 = doR (rdsM x.m.2) (stsM x.m.2) (absR x) e) ∧ (¬ canR (absR x) e → x1 = x)
def DoY (y y1 : RunR) (e : Evt) : Prop:=(canR (absRR y) e → KeepQ y y1 ∧ absRR y1 = doR (rdB y.b.2) (stB y.b.2) (absRR y) e) ∧ (¬ canR (absRR y) e → y1 = y)
theorem RunAt.step (h : RunAt R S n B x) (hx : DoX x x1 e) : RunAt R S n (B + 1001) x1 ∧ (canR (absR x) e → absR x1 = doR R S (absR x) e) ∧ (¬ canR (absR x) e → x1 = x):=by
  by_cases hc : canR (absR x) e
  · obtain ⟨k1,k2⟩:=hx.1 hc;exact ⟨h.go hc k1 k2,fun _=>by rw [k2,h.rd,h.st],fun q=>absurd hc q⟩
  · have:=hx.2 hc;subst this;exact ⟨h.mono (by omega),fun q=>absurd q hc,fun _=>rfl⟩
theorem QAt.step (h : QAt R S n B y) (hy : DoY y y1 e) : QAt R S n (B + 1001) y1 ∧ (canR (absRR y) e → absRR y1 = doR R S (absRR y) e ∧ y1.b.2.staged = y.b.2.staged) ∧ (¬ canR (absRR y) e → y1 = y):=by
  by_cases hc : canR (absRR y) e
  · obtain ⟨k1,k2⟩:=hy.1 hc;exact ⟨h.go hc k1 k2,fun _=>⟨by rw [k2,h.rd,h.st],k1.2.2.1⟩,fun q=>absurd hc q⟩
  · have:=hy.2 hc;subst this;exact ⟨h.mono (by omega),fun q=>absurd q hc,fun _=>rfl⟩
theorem Two.step (h : Two sg R S n B x y) (hx : DoX x x1 e) (hy : DoY y y1 e) : Two sg R S n (B + 1001) x1 y1:=by
  obtain ⟨a1,a2,a3⟩:=h.a.step hx;obtain ⟨b1,b2,b3⟩:=h.b.step hy
  by_cases hc : canR (absR x) e
  · have hc' : canR (absRR y) e := by rw [h.e]; exact hc
    refine ⟨a1,b1,?_,(b2 hc').2.trans h.g⟩;rw [(b2 hc').1,a2 hc,h.e]
  · have hc' : ¬ canR (absRR y) e := by rw [h.e]; exact hc
    have:=a3 hc;have:=b3 hc';subst x1 y1;exact ⟨a1,b1,h.e,h.g⟩
structure Beg (sg : Bool) (R : List (List Chg)) (S : List (List Int)) (n : Nat) (x : Run) (y : RunR) : Prop where
  P : PlanOK n R S
  Q : PlanS R S
  n1 : 1 ≤ n
  n4 : n ≤ 4
  R3 : R.length ≤ 3
  st : statesP sg R n = some S
  T : Two sg R S n 1000 x y
  I : InvR n R S (absR x)
  M : mR n R (absR x).c (absR x).st ≤ 60
def Begun (x : Run) (y : RunR) : Prop:=∃ (sg : Bool) (R : List (List Chg)) (S : List (List Int)) (n : Nat),Beg sg R S n x y
theorem begun {p : Plan} {vs : List Bool} (hg : planG p vs.length) (h1 : 1 ≤ vs.length) (h4 : vs.length ≤ 4) (hx : RunAt (rdsP p) (stsD (statesP p.staged (rdsP p) vs.length)) vs.length 1000 x ∧ absR x = newRS (rdsP p) (stsD (statesP p.staged (rdsP p) vs.length)) vs)
    (hy : (QAt (rdsP p) (stsD (statesP p.staged (rdsP p) vs.length)) vs.length 1000 y ∧ y.b.2.staged = p.staged) ∧ absRR y = newRS (rdsP p) (stsD (statesP p.staged (rdsP p) vs.length)) vs) : Begun x y:=by
  obtain ⟨⟨g1,g2⟩,g3,g4⟩:=hg;obtain ⟨S,hS⟩:=Option.isSome_iff_exists.1 g1;have hl : (rdsP p).length ≤ 3:=by rw [rdsP_len];exact g3
  obtain ⟨_,P,_⟩:=statesP_ok hS (by omega);have Q:=planS_of hS (by omega);rw [hS] at hx hy;have P : PlanOK vs.length (rdsP p) S:=P;refine ⟨p.staged,rdsP p,S,vs.length,P,Q,h1,h4,hl,hS,⟨hx.1,hy.1.1,hy.2.trans hx.2.symm,hy.1.2⟩,?_,?_⟩
  · rw [hx.2];exact inv_new P Q
  · rw [hx.2];exact mR_new P Q h4 hl
structure Run2 (sg : Bool) (R : List (List Chg)) (S : List (List Int)) (n k : Nat) (x : Run) (y : RunR) : Prop where
  T : Two sg R S n (1000 + 1001 * k) x y
  I : InvR n R S (absR x)
  M : mR n R (absR x).c (absR x).st ≤ 60 + 60 * k
theorem Beg.two (h : Beg sg R S n x y) : Run2 sg R S n 0 x y:=⟨h.T,h.I,by have:=h.M;omega⟩
theorem Run2.step {x0 : Run} {y0 : RunR} {k : Nat} (h : Run2 sg R S n k x y) (H : Beg sg R S n x0 y0) (hx : DoX x x1 e) (hy : DoY y y1 e) : Run2 sg R S n (k + 1) x1 y1:=by
  have hT:=h.T.step hx hy;obtain ⟨a1,a2,a3⟩:=h.T.a.step hx;refine ⟨hT.mono (by omega),?_,?_⟩
  · by_cases hc : canR (absR x) e
    · rw [a2 hc];exact inv_do H.P H.Q h.I hc
    · rw [a3 hc];exact h.I
  · have hM := h.M
    by_cases hc : canR (absR x) e
    · rw [a2 hc];have:=mR_any H.P H.Q h.I H.n4 H.R3 hc;omega
    · rw [a3 hc];omega
theorem Run2.sm {x0 : Run} {y0 : RunR} {k : Nat} (h : Run2 sg R S n k x y) (H : Beg sg R S n x0 y0) (hk : k ≤ 1000) (hx : DoX x x1 e) (hy : DoY y y1 e) : RunOK 8000000 x1 ∧ RRunOK 8000000 y1 ∧ absRR y1 = absR x1 ∧ rdB y1.b.2 = rdsM x1.m.2:=by
  have hT:=(h.step H hx hy).T;exact ⟨ROK.mono hT.a.ok (by omega),⟨hT.b.ok.1,ROK.mono hT.b.ok.2 (by omega)⟩,hT.e,hT.b.rd.trans hT.a.rd.symm⟩
theorem RunAt.ok7 (h : RunAt R S n B x) (hB : B ≤ 7000000) : RunOK 7000000 x ∧ SnOK x.m.2.target.xs.length 0 (absR x).c:=⟨ROK.mono h.ok hB,by rw [h.tn];exact h.s0⟩
theorem QAt.ok7 (h : QAt R S n B y) (hB : B ≤ 7000000) : RRunOK 7000000 y:=⟨h.ok.1,ROK.mono h.ok.2 hB⟩
theorem RRunOK.ev {B : Nat} (h : RRunOK B y) : LenR y ∧ y.b.2.waiting.xs.length ≤ 1000 ∧ y.ag.xs.length ≤ 12:=by
  have h12:=h.2.n2;have hw : y.b.2.waiting.xs.length ≤ y.ag.xs.length:=h.2.ct.wt.len;exact ⟨h.1,by omega,h12⟩
theorem RunAt.len (h : RunAt R S n B x) : x.sts.xs.length = n:=by
  have h1:=h.ok.sl;have h2 : (absR x).st.length = x.sts.xs.length:=List.length_map _;have:=h.tn;omega
end
open Go.RowKit Go.Proofs.Ytobggnpnochnnaa
theorem gPlan (w : World) (F : Nat → Prop) (hF : Old F w) (T : Nat) (M : MS [one T] w) (T_l : Sl Int) (T_w : (slE intE).wf (Fr F [one T]) w.heap T_l) (T_K : TpB 112 T T_l w) (n : Int) (n_h : inI64 n) (hn : 1 ≤ n ∧ n ≤ 12) :
 Calls Try.prog 30 #[pT T 0,iI n] w fun e w'=>∃ (r : Plan),e = .returned (.agg (planE.cells r).toArray) ∧ planE.wf (Fr F [one T]) w'.heap r ∧ planG r n ∧ TpB 112 T T_l w' ∧ Tr [one T] w [one T] w':=by
 obtain ⟨n_hl,n_hu⟩ : inI64 n:=id n_h;refine go Try.func30 rfl 73 rfl [wfF (slE intE) T_l] [tpO 112 T T_l] hF M ⟨T_w,trivial⟩ ⟨T_K,trivial⟩ ?_;intro a S;refine rs0 ?_;refine nbp S (x_allocz _ iZ47 rfl) ?_;clear S;intro a u b4 S;refine ent (rs0 ?_);refine sp S (la (mv rfl)) ?_;clear S;intro a u S;refine cl S (gNext _ _ S.x T (S.M.pick [0] (by decide)) T_l (dn1 (js:=[0]) (S.u 0 rfl)) (S.t 0 rfl) 2 ⟨by omega,by omega⟩) cB26 ?_;rintro e u ⟨r_t12,rfl,hr_t12,tK,T0⟩;refine ⟨_,rfl,fun a s=>?_⟩;replace S:=S.k1 0 rfl s T0 tK;clear s T0 tK;refine sp S (la (eqli rfl rfl)) ?_;clear S;intro a u S;obtain ⟨bv13,hbv13⟩ : ∃ b : Bool,(b = true) ↔ (r_t12 = 0):=⟨decide (r_t12 = 0),by simp⟩;replace S:=S.ext (d:=13) (v:=bD (bv13 = true)) ((S.get 13 rfl).trans (vb hbv13.symm));refine sp S (la (ov fun S=>x_bd S [(0,bD (bv13 = true))] [bD (bv13 = true),.slice none 0 0])) ?_;clear S;intro a u S;refine nbp S (x_allocz _ iZ47 rfl) ?_;clear S;intro a u b5 S;refine ens S (la (stkw 2 rfl rfl rfl)) ?_;clear S;intro a u S;refine rs0 ?_;refine sp S (la (mv rfl)) ?_;clear S;intro a u S;refine mk (E:=intE) S (0 : Int) (n).toNat uT22 iZ3 rfl rfl bo bo bo (by unfold maxLen;omega) (fun _ _=>by first | exact ⟨by omega,by omega⟩ | trivial | exact sl_nil) ?_;clear S;intro a u ad16 S;have hrl16 : (List.replicate (n).toNat (0 : Int)).length = (n).toNat:=List.length_replicate;refine ens S (la (av rfl)) ?_;clear S;intro a u S;refine wp_seq (rs0 ?_);refine sp S (la (mv rfl)) ?_;clear S;intro a u S;refine cl S (gNext _ _ S.x T (S.M.pick [0] (by decide)) T_l (dn1 (js:=[0]) (S.u 0 rfl)) (S.t 0 rfl) 4 ⟨by omega,by omega⟩) cB26 ?_;rintro e u ⟨r_t18,rfl,hr_t18,tK,T0⟩;refine ⟨_,rfl,fun a s=>?_⟩;replace S:=S.k1 0 rfl s T0 tK;clear s T0 tK;refine ens S (la (av rfl)) ?_;clear S;intro a u S;refine wp_block ?_;replace S:=S.nr (slE chgE) 122;refine lp7 (fun (r : Int) (rd_a : Option Addr) (rd_c : Nat) (rd : List (Sl Chg)) (now_a : Option Addr) (now_c : Nat) (now : List Int)=>[(0,pT T 0),(1,iI n),(4,pT b4 0),(5,pT b5 0),(6,.slice now_a now.length now_c),(7,iI r)]) (fun (r : Int) (rd_a : Option Addr) (rd_c : Nat) (rd : List (Sl Chg)) (now_a : Option Addr) (now_c : Nat) (now : List Int)=>[tpO 112 T T_l,blO b4 [.bool false,.slice none 0 0] 47,blO b5 [bD (bv13 = true),.slice rd_a rd.length rd_c] 47,rwO intE 3 w.heap.size now_a now_c now,rwO (slE chgE) 122 w.heap.size rd_a rd_c rd]) (fun (r : Int) (rd_a : Option Addr) (rd_c : Nat) (rd : List (Sl Chg)) (now_a : Option Addr) (now_c : Nat) (now : List Int)=>(0 ≤ r ∧ r ≤ 3) ∧ (rd.length : Int) + r ≤ 3 ∧ PlnI bv13 n (rd.map fun l=>l.xs) now ∧ ∀ x ∈ rd,0 < x.xs.length) (fun (r : Int) (rd_a : Option Addr) (rd_c : Nat) (rd : List (Sl Chg)) (now_a : Option Addr) (now_c : Nat) (now : List Int)=>r.toNat) S r_t18 none 0 ([]) ad16 ((n).toNat) (List.replicate (n).toNat (0 : Int)) (subM rfl) rfl ?_ ?_
 ·exact ⟨⟨by omega,by omega⟩,by simp;omega,PlnI.init _ n,fun x h=>by cases h⟩
 clear S;intro r rd_a rd_c rd now_a now_c now a u S hR;have rd_len:=(S.row 4 rfl).len_le;simp only [maxLen] at rd_len;have now_len:=(S.row 3 rfl).len_le;simp only [maxLen] at now_len;obtain ⟨⟨hr0,hr3⟩,hrl,hP,hne⟩:=hR;refine wp_seq ?_;refine rs S (tr (mv rfl)<|la (gtri rfl rfl)) ?_;clear S;intro a u S;refine cd S rfl ?_ ?_
 ·intro hc0;refine wp_skip (then_n (wp_seq (wp_block ?_)));refine rs S (la (av rfl)) ?_; clear S; intro a u S;refine wp_seq ?_;refine rs S (la (av rfl)) ?_; clear S; intro a u S;refine wp_block ?_;replace S := S.nr chgE 124;refine lp8 (fun (d : Nat) (ls : Int) (l_a : Option Addr) (l_c : Nat) (l : List Chg) (cur_a : Option Addr) (cur_c : Nat) (cur : List Int) => [(0, pT T 0), (1, iI n), (4, pT b4 0), (5, pT b5 0), (6, .slice cur_a cur.length cur_c), (7, iI r), (19, iI r), (20, bD (0 < r)), (9, iN d), (8, .slice l_a l.length l_c)]) (fun (d : Nat) (ls : Int) (l_a : Option Addr) (l_c : Nat) (l : List Chg) (cur_a : Option Addr) (cur_c : Nat) (cur : List Int) => [tpO 112 T T_l, blO b4 [.bool false, .slice none 0 0] 47, blO b5 [bD (bv13 = true), .slice rd_a rd.length rd_c] 47, rwO intE 3 w.heap.size cur_a cur_c cur, rwO (slE chgE) 122 w.heap.size rd_a rd_c rd, rwO chgE 124 w.heap.size l_a l_c l]) (fun (d : Nat) (ls : Int) (l_a : Option Addr) (l_c : Nat) (l : List Chg) (cur_a : Option Addr) (cur_c : Nat) (cur : List Int) => (d : Int) ≤ n ∧ (-1 ≤ ls ∧ ls < d) ∧ (l.length : Int) ≤ d ∧ RndI bv13 n now l ls cur) (fun (d : Nat) (ls : Int) (l_a : Option Addr) (l_c : Nat) (l : List Chg) (cur_a : Option Addr) (cur_c : Nat) (cur : List Int) => (n - d).toNat) S 0 (-1) none 0 ([]) now_a now_c now (subM rfl) rfl ?_ ?_
  ·exact ⟨by omega,⟨by omega,by omega⟩,by simp,RndI.init hP⟩
  clear S;intro d ls l_a l_c l cur_a cur_c cur a u S hR;have l_len:=(S.row 5 rfl).len_le;simp only [maxLen] at l_len;have cur_len:=(S.row 3 rfl).len_le;simp only [maxLen] at cur_len;obtain ⟨hd,⟨hla0,hla1⟩,hll,hI⟩:=hR;have hcl2:=hI.1.1;have hcu : ∀ k,0 ≤ cur.getD k intE.dflt ∧ cur.getD k intE.dflt ≤ 3:=hI.1.2;refine wp_seq ?_;refine rs S (tr (mv rfl)<|tr (mv rfl)<|la (lssi rfl rfl)) ?_;clear S;intro a u S;refine cd S rfl ?_ ?_
  ·intro hc1;have hcd := hcu d;refine wp_skip (then_n (wp_seq (wp_block (wp_seq (rs0 ?_)))));obtain ⟨hl10, hu10⟩ : inI64 (cur.getD d intE.dflt) := id ((S.row 3 rfl).wfi d bo);refine sp S (tr (mv rfl)<|tr (mv rfl)<|tr (ov fun S=>x_idx uT22 sZ3 (S.e rfl) (S.e rfl) d rfl bo (row_off (S.row 3 rfl) (m := d) bo))<|tr (ov fun S=>x_load sC3 (S.e rfl) (((S.row 3 rfl).latz nz).cell d bo 0 _ rfl))<|tr (eqli rfl rfl)<|la (mv rfl)) ?_; clear S; intro a u S;refine (Classical.em ((cur.getD d intE.dflt) = 3)).elim (fun hs11 => ?_) (fun hs11 => ?_)
   ·replace S := S.ext (d := 33) (v := .bool true) ((S.get 33 rfl).trans (congrArg Value.bool (decide_eq_true hs11)));refine ens S (tr (goff 33 rfl)<|tr (goff 33 rfl)<|tr (goff 33 rfl)<|la (ov fun S=>x_pickt (S.e rfl) (S.e rfl))) ?_; clear S; intro a u S;refine cdt S rfl ?_;refine wp_exit (then_e (blk_e (then_n ?_)));refine rg S (tr (mv rfl)<|tr (addi ((d + 1 : Nat) : Int) rfl rfl (w_i64 bo))<|la (av rfl)) ?_; clear S; intro a u S;refine then_n ?_;refine ⟨(d + 1), ls, l_a, l_c, l, cur_a, cur_c, cur, S.re (subM rfl) rfl rfl, ?_, ?_⟩
    ·first
     | exact ⟨by omega,⟨by omega,by omega⟩,by omega,hI⟩
     | (refine ⟨by omega, ⟨by omega, by omega⟩, by rw [List.length_append, List.length_singleton]; omega, ?_⟩
        have hcd0 : cur.getD ((d : Int)).toNat 0 = cur.getD d intE.dflt:=rfl
        exact RndI.step (d:=(d : Int)) hI hla0 hla1 bo (by rw [hcd0];omega) bo (fun q=>by first | rfl | exact absurd hsg q))
    omega
   replace S:=S.ext (d:=33) (v:=.bool false) ((S.get 33 rfl).trans (congrArg Value.bool (decide_eq_false hs11)));refine sp S (la (gon 33 rfl fun S=>x_move (S.e rfl))) ?_;clear S;intro a u S;refine strip S.s rfl rfl (gd:=33) rfl ?_;refine cl S (gNext _ _ S.x T (S.M.pick [0] (by decide)) T_l (dn1 (js:=[0]) (S.u 0 rfl)) (S.t 0 rfl) 2 ⟨by omega,by omega⟩) cB26 ?_;rintro e u ⟨r_t35,rfl,hr_t35,tK,T0⟩;refine ⟨_,rfl,fun a s=>?_⟩;replace S:=S.k1 0 rfl s T0 tK;clear s T0 tK;refine ens S (tr (gon 33 rfl fun S=>x_eql (S.e rfl) (S.e rfl))<|la (ov fun S=>x_pickf (S.e rfl) (S.e rfl))) ?_;clear S;intro a u S;refine cd S rfl ?_ ?_
   ·intro hc2;refine wp_exit (then_e (blk_e (then_n ?_)));refine rg S (tr (mv rfl)<|tr (addi ((d + 1 : Nat) : Int) rfl rfl (w_i64 bo))<|la (av rfl)) ?_; clear S; intro a u S;refine then_n ?_;refine ⟨(d + 1), ls, l_a, l_c, l, cur_a, cur_c, cur, S.re (subM rfl) rfl rfl, ?_, ?_⟩
    ·first
     | exact ⟨by omega,⟨by omega,by omega⟩,by omega,hI⟩
     | (refine ⟨by omega, ⟨by omega, by omega⟩, by rw [List.length_append, List.length_singleton]; omega, ?_⟩
        have hcd0 : cur.getD ((d : Int)).toNat 0 = cur.getD d intE.dflt:=rfl
        exact RndI.step (d:=(d : Int)) hI hla0 hla1 bo (by rw [hcd0];omega) bo (fun q=>by first | rfl | exact absurd hsg q))
    omega
   intro hc3;refine wp_skip (then_n ?_);refine rs S (la (av rfl)) ?_;clear S;intro a u S;refine wp_seq ?_;refine rs S (tr (fldi 0 0 rfl uT47)<|la (ldk 2 sC4 rfl rfl rfl)) ?_;clear S;intro a u S;refine cd S rfl ?_ ?_
   ·intro hc4;have hsg := hc4;replace S := S.l [(0, pT T 0), (1, iI n), (4, pT b4 0), (5, pT b5 0), (6, .slice cur_a cur.length cur_c), (7, iI r), (19, iI r), (20, bD (0 < r)), (9, iN d), (8, .slice l_a l.length l_c)] (subM rfl);refine dr (P := Try.prog) S 14 [one T] [(40, .is _), (41, .is _), (42, .is _), (43, .is _), (44, .is _), (45, .is _), (46, .is _), (47, .is _), (48, .is _), (49, .is _), (50, .is _), (51, .of (fun z w => ∃ (x51a : Int), z = iI x51a ∧ (0 ≤ x51a ∧ (x51a < (3 - (cur.getD d intE.dflt)) ∨ x51a = 0))) (fun v w w' c h => let ⟨x51a, hv, h0⟩ := h; ⟨x51a, hv, h0⟩)), (52, .of (fun z w => ∃ (x51a : Int), z = iI (((cur.getD d intE.dflt) + 1) + x51a) ∧ (0 ≤ x51a ∧ (x51a < (3 - (cur.getD d intE.dflt)) ∨ x51a = 0))) (fun v w w' c h => let ⟨x51a, hv, h0⟩ := h; ⟨x51a, hv, h0⟩)), (10, .of (fun z w => ∃ (x51a : Int), z = iI (((cur.getD d intE.dflt) + 1) + x51a) ∧ (0 ≤ x51a ∧ (x51a < (3 - (cur.getD d intE.dflt)) ∨ x51a = 0))) (fun v w w' c h => let ⟨x51a, hv, h0⟩ := h; ⟨x51a, hv, h0⟩))] [[], [], [40, 41], [42], [43], [], [], [], [46, 47], [48], [49], [45, 50], [44, 51], [52]] [10] _ ⟨qd (mv rfl), qd (mv rfl), qd (ov fun S=>x_idx uT22 sZ3 (S.e rfl) (S.e rfl) d rfl bo (row_off (S.row 3 rfl) (m := d) bo)), qd (ov fun S=>x_load sC3 (S.e rfl) (((S.row 3 rfl).latz nz).cell d bo 0 _ rfl)), qd (addi ((cur.getD d intE.dflt) + 1) rfl rfl (w_i64 bo)), qd (mv rfl), qd (mv rfl), qd (mv rfl), qd (ov fun S=>x_idx uT22 sZ3 (S.e rfl) (S.e rfl) d rfl bo (row_off (S.row 3 rfl) (m := d) bo)), qd (ov fun S=>x_load sC3 (S.e rfl) (((S.row 3 rfl).latz nz).cell d bo 0 _ rfl)), qd (subi (3 - (cur.getD d intE.dflt)) rfl rfl (w_i64 bo)), ?_, ?_, ?_, trivial⟩ ?_
    ·skip;intro a u S G hE;refine hcl S (gNext _ _ S.x T (S.M.pick [0] (by decide)) T_l (dn1 (js:=[0]) (S.u 0 rfl)) (S.t 0 rfl) (3 - (cur.getD d intE.dflt)) ⟨by omega,by omega⟩) cB26 ?_;rintro e w2 ⟨r_h51,rfl,hr_h51,tK,T0⟩;refine ⟨_,rfl,(show ∃ _,_ from ?_),T0.ch,(S.k1 0 rfl S.s T0 tK).m⟩;exact ⟨r_h51,rfl,hr_h51⟩
    ·skip;intro a u S G hE;obtain ⟨e51,-⟩:=hE;have M0:=S.m;obtain ⟨x51_16,e51,hr16⟩:=e51;replace S:=S.ext e51;exact hvl 52 S M0 (v:=iI (((cur.getD d intE.dflt) + 1) + x51_16)) (x_add (S.e rfl) (S.e rfl) (r:=(((cur.getD d intE.dflt) + 1) + x51_16)) (w_i64 bo)) (show ∃ _,_ from ⟨x51_16,rfl,hr16⟩)
    ·skip;intro a u S G hE;obtain ⟨e52,-⟩:=hE;have M0:=S.m;obtain ⟨x51_17,e52,hr17⟩:=e52;replace S:=S.ext e52;exact hvl 10 S M0 (v:=iI (((cur.getD d intE.dflt) + 1) + x51_17)) (x_assign (S.e rfl)) (show ∃ _,_ from ⟨x51_17,rfl,hr17⟩)
    clear S;intro a u S G hE;obtain ⟨e10,-⟩:=hE;obtain ⟨x51_18,e10,hr18⟩:=e10;replace S:=S.ext e10;clear e10;refine ent (rs0 ?_);refine sp S (tr (mv rfl)<|tr (mv rfl)<|tr (mv rfl)<|la (ov fun S=>x_idx uT22 sZ3 (S.e rfl) (S.e rfl) d rfl bo (row_off (S.row 3 rfl) (m:=d) bo))) ?_;clear S;intro a u S;refine sp S (la (str (E:=intE) 3 (by kernel_rfl) rfl rfl rfl d 0 bo nz (((cur.getD d intE.dflt) + 1) + x51_18) (fun S=>(show inI64 (((cur.getD d intE.dflt) + 1) + x51_18) from ⟨by omega,by omega⟩)) rfl (by first | rfl | (show _ = _ * 1 + 0;omega) | (simp [intE];omega) | simp [intE]) rfl)) ?_;clear S;intro a u S;have hls20 : (cur.set d (((cur.getD d intE.dflt) + 1) + x51_18)).length = cur.length:=by simp
    refine ent (r0 ?_);refine sp S (tr (mv rfl)<|tr (mv rfl)<|tr (mv rfl)<|la (ov fun S=>x_bd S [(0,iN d),(1,iI (((cur.getD d intE.dflt) + 1) + x51_18))] [iN d,iI (((cur.getD d intE.dflt) + 1) + x51_18)])) ?_;clear S;intro a u S;refine nbs chgE S [(⟨((d : Nat) : Int),(((cur.getD d intE.dflt) + 1) + x51_18)⟩ : Chg)] (x_bs S [(0,.agg #[iN d,iI (((cur.getD d intE.dflt) + 1) + x51_18)])] uT122 iZ124) (fun x hx=>by simp only [List.mem_cons,List.not_mem_nil,or_false] at hx;rw [hx];exact (show chgE.wf _ _ (⟨((d : Nat) : Int),(((cur.getD d intE.dflt) + 1) + x51_18)⟩ : Chg) from ⟨(show inI64 ((d : Nat) : Int) from ⟨by omega,by omega⟩),(show inI64 (((cur.getD d intE.dflt) + 1) + x51_18) from ⟨by omega,by omega⟩)⟩)) ?_;clear S;intro a u b61 S;refine ap (E:=chgE) (ys:=[(⟨((d : Nat) : Int),(((cur.getD d intE.dflt) + 1) + x51_18)⟩ : Chg)]) S 5 rfl uT122 iZ124 rfl rfl (show LAt chgE _ _ (some ⟨b61,0,none⟩) ([(⟨((d : Nat) : Int),(((cur.getD d intE.dflt) + 1) + x51_18)⟩ : Chg)]) from ((S.u 1 rfl)).1) ((S.u 1 rfl)).2.2 (LAt.mem (show LAt chgE _ _ (some ⟨b61,0,none⟩) ([(⟨((d : Nat) : Int),(((cur.getD d intE.dflt) + 1) + x51_18)⟩ : Chg)]) from ((S.u 1 rfl)).1)) ⟨by unfold maxLen;(try simp only [List.length_cons,List.length_nil,List.length_append,List.length_map]);omega,by (try simp only [List.length_cons,List.length_nil,List.length_append,List.length_map]);omega⟩ ?_;clear S;intro a u ad62 cap62 S;refine en S (la (av rfl)) ?_;clear S;intro a u S;refine blk_n (then_n ?_);refine rg S (tr (mv rfl)<|tr (addi ((d + 1 : Nat) : Int) rfl rfl (w_i64 bo))<|la (av rfl)) ?_;clear S;intro a u S;refine then_n ?_;refine ⟨(d + 1),(d : Int),ad62,cap62,(l ++ [(⟨((d : Nat) : Int),(((cur.getD d intE.dflt) + 1) + x51_18)⟩ : Chg)]),cur_a,cur_c,(cur.set d (((cur.getD d intE.dflt) + 1) + x51_18)),S.re ⟨rfl,rfl,rfl,rfl,(by first | rfl | (simp only [List.length_set];rfl)),rfl,rfl,rfl,rfl,(by first | rfl | (simp only [List.length_set];rfl)),trivial⟩ rfl rfl,?_,?_⟩
    ·first
     | exact ⟨by omega,⟨by omega,by omega⟩,by omega,hI⟩
     | (refine ⟨by omega, ⟨by omega, by omega⟩, by rw [List.length_append, List.length_singleton]; omega, ?_⟩
        have hcd0 : cur.getD ((d : Int)).toNat 0 = cur.getD d intE.dflt:=rfl
        exact RndI.step (d:=(d : Int)) hI hla0 hla1 bo (by rw [hcd0];omega) bo (fun q=>by first | rfl | exact absurd hsg q))
    omega
   intro hc5;have hsg:=hc5;refine wp_skip (then_n (rs0 ?_));refine sp S (tr (mv rfl)<|tr (mv rfl)<|tr (mv rfl)<|la (ov fun S=>x_idx uT22 sZ3 (S.e rfl) (S.e rfl) d rfl bo (row_off (S.row 3 rfl) (m:=d) bo))) ?_;clear S;intro a u S;refine sp S (la (str (E:=intE) 3 (by kernel_rfl) rfl rfl rfl d 0 bo nz 3 (fun S=>(show inI64 3 from ⟨by omega,by omega⟩)) rfl (by first | rfl | (show _ = _ * 1 + 0;omega) | (simp [intE];omega) | simp [intE]) rfl)) ?_;clear S;intro a u S;have hls24 : (cur.set d 3).length = cur.length:=by simp
   refine ent (r0 ?_);refine sp S (tr (mv rfl)<|tr (mv rfl)<|tr (mv rfl)<|la (ov fun S=>x_bd S [(0,iN d),(1,iI 3)] [iN d,iI 3])) ?_;clear S;intro a u S;refine nbs chgE S [(⟨((d : Nat) : Int),3⟩ : Chg)] (x_bs S [(0,.agg #[iN d,iI 3])] uT122 iZ124) (fun x hx=>by simp only [List.mem_cons,List.not_mem_nil,or_false] at hx;rw [hx];exact (show chgE.wf _ _ (⟨((d : Nat) : Int),3⟩ : Chg) from ⟨(show inI64 ((d : Nat) : Int) from ⟨by omega,by omega⟩),(show inI64 3 from ⟨by omega,by omega⟩)⟩)) ?_;clear S;intro a u b61 S;refine ap (E:=chgE) (ys:=[(⟨((d : Nat) : Int),3⟩ : Chg)]) S 5 rfl uT122 iZ124 rfl rfl (show LAt chgE _ _ (some ⟨b61,0,none⟩) ([(⟨((d : Nat) : Int),3⟩ : Chg)]) from ((S.u 1 rfl)).1) ((S.u 1 rfl)).2.2 (LAt.mem (show LAt chgE _ _ (some ⟨b61,0,none⟩) ([(⟨((d : Nat) : Int),3⟩ : Chg)]) from ((S.u 1 rfl)).1)) ⟨by unfold maxLen;(try simp only [List.length_cons,List.length_nil,List.length_append,List.length_map]);omega,by (try simp only [List.length_cons,List.length_nil,List.length_append,List.length_map]);omega⟩ ?_;clear S;intro a u ad62 cap62 S;refine en S (la (av rfl)) ?_;clear S;intro a u S;refine blk_n (then_n ?_);refine rg S (tr (mv rfl)<|tr (addi ((d + 1 : Nat) : Int) rfl rfl (w_i64 bo))<|la (av rfl)) ?_;clear S;intro a u S;refine then_n ?_;refine ⟨(d + 1),(d : Int),ad62,cap62,(l ++ [(⟨((d : Nat) : Int),3⟩ : Chg)]),cur_a,cur_c,(cur.set d 3),S.re ⟨rfl,rfl,rfl,rfl,(by first | rfl | (simp only [List.length_set];rfl)),rfl,rfl,rfl,rfl,(by first | rfl | (simp only [List.length_set];rfl)),trivial⟩ rfl rfl,?_,?_⟩
   ·first
    | exact ⟨by omega,⟨by omega,by omega⟩,by omega,hI⟩
    | (refine ⟨by omega, ⟨by omega, by omega⟩, by rw [List.length_append, List.length_singleton]; omega, ?_⟩
       have hcd0 : cur.getD ((d : Int)).toNat 0 = cur.getD d intE.dflt:=rfl
       exact RndI.step (d:=(d : Int)) hI hla0 hla1 bo (by rw [hcd0];omega) bo (fun q=>by first | rfl | exact absurd hsg q))
   omega
  intro hc6;refine wp_exit (then_e (then_e (blk_e (then_n ?_))));refine rs S (tr (mv rfl)<|tr (leni uT122 rfl)<|la (gtri rfl rfl)) ?_;clear S;intro a u S;refine cd S rfl ?_ ?_
  ·intro hc7;refine r0 ?_;refine sp S (tr (fldi 0 1 rfl uT47)<|tr (ldk 2 sC45 rfl rfl rfl)<|la (mv rfl)) ?_; clear S; intro a u S;replace S := S.fz 5 rfl (by show 0 < chgE.n; decide);refine nbs (slE chgE) S [(Sl.mk l_a l_c l)] (x_bs S [(0, .slice l_a l.length l_c)] uT45 iZ122) (fun x hx => by simp only [List.mem_cons, List.not_mem_nil, or_false] at hx; rw [hx]; exact (show (slE chgE).wf _ _ (Sl.mk l_a l_c l) from (S.u 1 rfl))) ?_; clear S; intro a u b69 S;refine ap (E := (slE chgE)) (ys := [(Sl.mk l_a l_c l)]) S 4 rfl uT45 iZ122 rfl rfl (show LAt (slE chgE) _ _ (some ⟨b69, 0, none⟩) ([(Sl.mk l_a l_c l)]) from ((S.u 2 rfl)).1) ((S.u 2 rfl)).2.2 (LAt.mem (show LAt (slE chgE) _ _ (some ⟨b69, 0, none⟩) ([(Sl.mk l_a l_c l)]) from ((S.u 2 rfl)).1)) ⟨by unfold maxLen; (try simp only [List.length_cons, List.length_nil, List.length_append, List.length_map]); omega, by (try simp only [List.length_cons, List.length_nil, List.length_append, List.length_map]); omega⟩ ?_; clear S; intro a u ad70 cap70 S;refine en S (tr (fldi 0 1 rfl uT47)<|la (stk 2 rfl rfl rfl)) ?_; clear S; intro a u S;refine blk_n (then_n ?_);refine rg S (tr (mv rfl)<|tr (subi (r - 1) rfl rfl (w_i64 bo))<|la (av rfl)) ?_; clear S; intro a u S;refine then_n ?_;refine ⟨(r - 1), ad70, cap70, (rd ++ [(Sl.mk l_a l_c l)]), cur_a, cur_c, cur, S.re (subM rfl) rfl rfl, ?_, ?_⟩
   ·first
    | (have hl0 : l = [] := List.eq_nil_of_length_eq_zero bo
       subst hl0;have e:=hI.nil;subst e
       exact ⟨⟨by omega,by omega⟩,by omega,hP,hne⟩)
    | (refine ⟨⟨by omega, by omega⟩, by rw [List.length_append, List.length_singleton]; omega, ?_, fun x hx => ?_⟩
       ·rw [List.map_append];exact hP.step (l:=l) hI (show l.length ≠ 0 by omega)
       rcases List.mem_append.1 hx with q | q
       ·exact hne x q
       obtain rfl:=List.mem_singleton.1 q;show 0 < l.length
       omega)
   omega
  intro hc8;refine wp_skip (blk_n (then_n ?_));refine rg S (tr (mv rfl)<|tr (subi (r - 1) rfl rfl (w_i64 bo))<|la (av rfl)) ?_;clear S;intro a u S;refine then_n ?_;refine ⟨(r - 1),rd_a,rd_c,rd,cur_a,cur_c,cur,S.re (subM rfl) rfl rfl,?_,?_⟩
  ·first
   | (have hl0 : l = [] := List.eq_nil_of_length_eq_zero bo
      subst hl0;have e:=hI.nil;subst e
      exact ⟨⟨by omega,by omega⟩,by omega,hP,hne⟩)
   | (refine ⟨⟨by omega, by omega⟩, by rw [List.length_append, List.length_singleton]; omega, ?_, fun x hx => ?_⟩
      ·rw [List.map_append];exact hP.step (l:=l) hI (show l.length ≠ 0 by omega)
      rcases List.mem_append.1 hx with q | q
      ·exact hne x q
      obtain rfl:=List.mem_singleton.1 q;show 0 < l.length
      omega)
  omega
 intro hc9;refine wp_exit (then_e (then_e (blk_e (then_n ?_))));refine rs S (tr (ldkw 2 rfl rfl wD47)<|la (stkw 1 rfl rfl rfl)) ?_;clear S;intro a u S;refine wp_ret ?_;replace S:=S.fz 4 rfl;refine retcw rfl S.s rfl [bD (bv13 = true),.slice rd_a rd.length rd_c] wD47 (fun j v hv=>by rw [Nat.zero_add];exact (S.k 1 rfl).cell hv) ?_;replace S:=S.pkc [0];refine ⟨(⟨bv13,(Sl.mk rd_a rd_c rd)⟩ : Plan),rfl,⟨trivial,(S.u 1 rfl)⟩,?_,(S.t 0 rfl),S.m.c⟩;exact ⟨⟨PlnI.some hP hn,by show rd.length ≤ 16;omega⟩,by show rd.length ≤ 3;omega,hne⟩
open Go.RowKit Go.Proofs.Ytobggnpnochnnaa
theorem nOne (w : World) (F : Nat → Prop) (hF : Old F w) (M : MS [] w) :
 Calls Try.prog 97 #[] w fun e w'=>∃ (r : Plan),e = .returned (.agg (planE.cells r).toArray) ∧ planE.wf (Fr F []) w'.heap r ∧ (r.staged = false ∧ rdsP r = [[⟨0,3⟩]]) ∧ Tr [] w [] w':=by
 refine go Try.func97 rfl 5 rfl [] [] hF M trivial trivial ?_;intro a S;have hD : ∀ k,In ([] : List BS) k → ¬ F k:=fun _ h=>h.elim;refine rs0 ?_;refine nbp S (x_allocz _ iZ47 rfl) ?_;clear S;intro a u b0 S;refine ent (rs0 ?_);refine sp S (la (ov fun S=>x_bd S [(0,iI 0),(1,iI 3)] [iI 0,iI 3])) ?_;clear S;intro a u S;refine nbs chgE S [(⟨0,3⟩ : Chg)] (x_bs S [(0,.agg #[iI 0,iI 3])] uT122 iZ124) (fun x hx=>by simp only [List.mem_cons,List.not_mem_nil,or_false] at hx;rw [hx];exact (show chgE.wf _ _ (⟨0,3⟩ : Chg) from ⟨(show inI64 0 from ⟨by omega,by omega⟩),(show inI64 3 from ⟨by omega,by omega⟩)⟩)) ?_;clear S;intro a u b2 S;refine nbs (slE chgE) S [(Sl.mk (some ⟨b2,0,none⟩) 1 ([(⟨0,3⟩ : Chg)]))] (x_bs S [(0,.slice (some ⟨b2,0,none⟩) 1 1)] uT45 iZ122) (fun x hx=>by simp only [List.mem_cons,List.not_mem_nil,or_false] at hx;rw [hx];exact (show (slE chgE).wf _ _ (Sl.mk (some ⟨b2,0,none⟩) 1 ([(⟨0,3⟩ : Chg)])) from (S.u 0 rfl))) ?_;clear S;intro a u b3 S;refine ens S (tr (ov fun S=>x_bd S [(1,.slice (some ⟨b3,0,none⟩) 1 1)] [.bool false,.slice (some ⟨b3,0,none⟩) 1 1])<|la (stkw 0 rfl rfl rfl)) ?_;clear S;intro a u S;refine wp_ret ?_;refine retcw rfl S.s rfl [.bool false,.slice (some ⟨b3,0,none⟩) 1 1] wD47 (fun j v hv=>by rw [Nat.zero_add];exact (S.k 0 rfl).cell hv) ?_;replace S:=S.pk [];refine ⟨(⟨false,(Sl.mk (some ⟨b3,0,none⟩) 1 ([(Sl.mk (some ⟨b2,0,none⟩) 1 ([(⟨0,3⟩ : Chg)]))]))⟩ : Plan),rfl,⟨trivial,(S.u 1 rfl)⟩,?_,S.m.c⟩;exact ⟨rfl,rfl⟩
theorem nBegin (w : World) (F : Nat → Prop) (hF : Old F w) (T : Nat) (M : MS [one T] w) (hD : ∀ k, In [one T] k → ¬ F k) (T_l : Sl Int) (T_w : (slE intE).wf (Fr F [one T]) w.heap T_l) (T_K : TpB 112 T T_l w) :
 Calls Try.prog 43 #[pT T 0] w fun e w'=>∃ (nb0 : Nat) (nx0 : Run) (nb1 : Nat) (nx1 : RunR),e = .returned (.tuple #[pT nb0 0,pT nb1 0,bD (True)]) ∧ runK nx0 ∧ (bnO (runF nb0 nx0)).p F (In [In (ow (runF nb0 nx0)),In (ow (rrF nb1 nx1)),one T]) w' ∧ rrK nx1 ∧ (bnO (rrF nb1 nx1)).p F (In [In (ow (runF nb0 nx0)),In (ow (rrF nb1 nx1)),one T]) w' ∧ (Begun nx0 nx1) ∧ TpB 112 T T_l w' ∧ Tr [one T] w [In (ow (runF nb0 nx0)),In (ow (rrF nb1 nx1)),one T] w':=by
 refine go Try.func43 rfl 45 rfl [wfF (slE intE) T_l] [tpO 112 T T_l] hF M ⟨T_w,trivial⟩ ⟨T_K,trivial⟩ ?_;intro a S;refine rs S (tr (av rfl)<|tr (av rfl)<|la (av rfl)) ?_;clear S;intro a u S;refine rs0 ?_;refine sp S (la (mv rfl)) ?_;clear S;intro a u S;refine cl S (gNext _ _ S.x T (S.M.pick [0] (by decide)) T_l (dn1 (js:=[0]) (S.u 0 rfl)) (S.t 0 rfl) 4 ⟨by omega,by omega⟩) cB26 ?_;rintro e u ⟨r_t13,rfl,hr_t13,tK,T0⟩;refine ⟨_,rfl,fun a s=>?_⟩;replace S:=S.k1 0 rfl s T0 tK;clear s T0 tK;refine ens S (tr (addi (1 + r_t13) rfl rfl (w_i64 bo))<|la (av rfl)) ?_;clear S;intro a u S;refine rs0 ?_;refine sp S (tr (mv rfl)<|la (mv rfl)) ?_;clear S;intro a u S;refine cl S (gPlan _ _ S.x T (S.M.pick [0] (by decide)) T_l (dn1 (js:=[0]) (S.u 0 rfl)) (S.t 0 rfl) (1 + r_t13) ⟨by omega,by omega⟩ (⟨by omega,by omega⟩)) cB30 ?_;rintro e u ⟨r_t17,rfl,R_t17,hr_t17,tK,T0⟩;refine ⟨_,rfl,fun a s=>?_⟩;replace S:=(S.k1 0 rfl s T0 tK).ar (wfF planE r_t17) (Enc.up _ R_t17);clear s T0 tK R_t17;have hpg:=hr_t17;have hn4 : r_t17.rounds.xs.length ≤ 9223372036854775807:=((S.u 1 rfl).2).1.len;refine sp S (tr (mv rfl)<|la (mv rfl)) ?_;clear S;intro a u S;refine cl S (gVol _ _ S.x T (S.M.pick [0] (by decide)) T_l (dn1 (js:=[0]) (S.u 0 rfl)) (S.t 0 rfl) (1 + r_t13) ⟨by omega,by omega⟩ (⟨by omega,by omega⟩)) cB49 ?_;rintro e u ⟨rx_t20,ra_t20,rc_t20,rfl,R_t20,hr_t20,tK,T0⟩;refine ⟨_,rfl,fun a s=>?_⟩;replace S:=(S.kr1 0 rfl [⟨_,boolE,4,ra_t20,rc_t20,rx_t20⟩] s T0 ⟨R_t20,trivial⟩ (fun _=>tK)).sh;clear s T0 tK R_t20;have hvl:=hr_t20;have hgd : (statesP r_t17.staged (rdsP r_t17) (rx_t20.length : Int)).isSome = true ∧ r_t17.rounds.xs.length ≤ 16:=by rw [hvl];exact hpg.1
 have hb3:=hpg.2.1;refine nbp S (x_allocz _ iZ47 rfl) ?_;clear S;intro a u b6 S;refine ens S (tr (stkw 2 rfl rfl rfl)<|la (av rfl)) ?_;clear S;intro a u S;refine rs0 ?_;refine sp S (tr (ldkw 2 rfl rfl wD47)<|la (mv rfl)) ?_;clear S;intro a u S;replace S:=S.fz 1 rfl;replace S:=S.spl 3;refine cl S (rNew _ _ S.xxF  S.mF (S.nfF hD) r_t17 (dnF   (S.u 1 rfl)) (Sl.mk ra_t20 rc_t20 rx_t20) (dnF   (S.u 2 rfl)) (by first | omega | (dsimp only;omega))) cB50 ?_;rintro e u ⟨q_t24,rfl,qK_t24,qB_t24,hr_t24,T0⟩;refine ⟨_,rfl,fun a s=>?_⟩;have S2:=S.kF   [bnO (runQ q_t24)] s T0 ⟨qB_t24,trivial⟩ ⟨(mo_bn (mo_runQ _)),trivial⟩;replace S2:=S2.sh;clear S;have S:=S2;clear S2 s T0 qB_t24
 rcases q_t24 with _ | ⟨B_t24,x_t24⟩
 ·exact absurd (hr_t24.1.2 hgd) (by decide)
 replace S:=(show St _ _ _ _ _ _ [tpO 112 T T_l,noO,blO b6 (planE.cells r_t17) 47,bnO (runF B_t24 x_t24)] _ _ from S);refine ens S (tr (mv rfl)<|tr (exi rfl rfl)<|tr (exi rfl rfl)<|tr (av rfl)<|la (av rfl)) ?_;clear S;intro a u S;refine rs0 ?_;refine sp S (tr (ldkw 2 rfl rfl wD47)<|la (mv rfl)) ?_;clear S;intro a u S;replace S:=S.spl 4;refine cl S (qNew _ _ S.xxF  S.mF (S.nfF hD) r_t17 (dnF   (S.u 1 rfl)) (Sl.mk ra_t20 rc_t20 rx_t20) (dnF   (S.u 2 rfl)) (by first | omega | (dsimp only;omega))) cB58 ?_;rintro e u ⟨q_t30,rfl,qK_t30,qB_t30,hr_t30,T0⟩;refine ⟨_,rfl,fun a s=>?_⟩;have S2:=S.kF   [bnO (rrQ q_t30)] s T0 ⟨qB_t30,trivial⟩ ⟨(mo_bn (mo_rrQ _)),trivial⟩;replace S2:=S2.sh;clear S;have S:=S2;clear S2 s T0 qB_t30
 rcases q_t30 with _ | ⟨B_t30,x_t30⟩
 ·exact absurd (hr_t30.1.2 hgd) (by decide)
 replace S:=(show St _ _ _ _ _ _ [tpO 112 T T_l,noO,blO b6 (planE.cells r_t17) 47,bnO (runF B_t24 x_t24),bnO (rrF B_t30 x_t30)] _ _ from S);refine ens S (tr (mv rfl)<|tr (exi rfl rfl)<|tr (exi rfl rfl)<|tr (av rfl)<|la (av rfl)) ?_;clear S;intro a u S;refine rs S (tr (mv rfl)<|tr (mv rfl)<|tr (mv rfl)<|tr (eqli rfl rfl)<|tr (mv rfl)<|tr (gon 37 rfl fun S=>x_move (S.e rfl))<|tr (gon 37 rfl fun S=>x_eql (S.e rfl) (S.e rfl))<|tr (ov fun S=>x_pickt (S.e rfl) (S.e rfl))<|tr (mv rfl)<|tr (gon 41 rfl fun S=>x_move (S.e rfl))<|tr (gon 41 rfl fun S=>x_pneN uT73 (S.e rfl) (S.e rfl))<|tr (ov fun S=>x_pickt (S.e rfl) (S.e rfl))<|tr (av rfl)<|tr (av rfl)<|la (av rfl)) ?_;clear S;intro a u S;refine wp_ret ?_;refine ret3 rfl S.s rfl rfl rfl ?_;replace S:=S.pkc [3,4,0];refine ⟨B_t24,x_t24,B_t30,x_t30,(r3 rfl rfl (vt ?_)),qK_t24,(S.m.o _ (nth_mem (i:=0) rfl)),qK_t30,(S.m.o _ (nth_mem (i:=1) rfl)),?_,(S.t 2 rfl),S.m.c⟩
 ·trivial
 exact begun (vs:=rx_t20) (by rw [hvl];exact hpg) bo bo (hr_t24.2 _ rfl) (hr_t30.2 _ rfl)
open Go.RowKit Go.Proofs.Ytobggnpnochnnaa
open Go.RowKit Go.Proofs.Ytobggnpnochnnaa
open Go.RowKit Go.Proofs.Ytobggnpnochnnaa
open Go.RowKit Go.Proofs.Ytobggnpnochnnaa
open Go.RowKit Go.Proofs.Ytobggnpnochnnaa
theorem SetI.mono {R : List (List Chg)} {S : List (List Int)} {n B B' : Nat} {x : Run} (h : RunAt R S n B x) (hB : B ≤ B') : RunAt R S n B' x:=h.mono hB
open Go.RowKit Go.Proofs.Ytobggnpnochnnaa
def oR1 : List (List Chg):=[[⟨0,3⟩]]
def oS1 : List (List Int):=[[0],[3]]
def ox0 : RunS:=newRS oR1 oS1 [false]
def ox1 : RunS:=doR oR1 oS1 ox0 ⟨1,0⟩
def ox2 : RunS:=doR oR1 oS1 ox1 ⟨3,0⟩
def oy0 : RunS:=newRS oR1 oS1 [true]
def oy1 : RunS:=doR oR1 oS1 oy0 ⟨1,0⟩
def oy2 : RunS:=doR oR1 oS1 oy1 ⟨2,0⟩
def oy3 : RunS:=doR oR1 oS1 oy2 ⟨3,0⟩
theorem one1 : statesP false oR1 1 = some oS1:=by decide +kernel
theorem oe1 : canR ox0 ⟨1,0⟩:=by decide +kernel
theorem oe2 : canR ox1 ⟨3,0⟩:=by decide +kernel
theorem oe3 : canR oy0 ⟨1,0⟩:=by decide +kernel
theorem oe4 : ¬ canR oy1 ⟨3,0⟩:=by decide +kernel
theorem oe5 : canR oy1 ⟨2,0⟩:=by decide +kernel
theorem oe6 : canR oy2 ⟨3,0⟩:=by decide +kernel
theorem oe7 : ¬ finC oR1.length ox0.c:=by decide +kernel
theorem oe8 : ¬ finC oR1.length oy1.c:=by decide +kernel
theorem oe9 : finC oR1.length ox2.c:=by decide +kernel
theorem oe10 : finC oR1.length oy3.c:=by decide +kernel
theorem oe11 : (agR ox2 0).run = 3 ∧ (agR ox2 0).up = true:=by decide +kernel
theorem oe12 : ox2.c.round = 1:=by decide +kernel
theorem oe13 : ¬ canR ox2 ⟨6,0⟩:=by decide +kernel
theorem oe14 : (posR ox2).length = 2:=by decide +kernel
theorem one_run {p : Plan} {x : Run} {v : Bool} (h : p.staged = false ∧ rdsP p = [[⟨0,3⟩]]) (hx : RunAt (rdsP p) (stsD (statesP p.staged (rdsP p) (([v] : List Bool).length : Int))) ([v] : List Bool).length 1000 x ∧ absR x = newRS (rdsP p) (stsD (statesP p.staged (rdsP p) (([v] : List Bool).length : Int))) [v]) : RunAt oR1 oS1 1 1000 x ∧ absR x = newRS oR1 oS1 [v]:=by
 rw [h.1,h.2] at hx;rw [show statesP false [[⟨0,3⟩]] (([v] : List Bool).length : Int) = some oS1 from one1] at hx;exact hx
open Go.RowKit Go.Proofs.Ytobggnpnochnnaa
theorem nSane (w : World) (F : Nat → Prop) (hF : Old F w) (M : MS [] w) :
 Calls Try.prog 48 #[] w fun e w'=>e = .returned (bD (True)) ∧ Tr [] w [] w':=by
 refine go Try.func48 rfl 142 rfl [] [] hF M trivial trivial ?_;intro a S;have hD : ∀ k,In ([] : List BS) k → ¬ F k:=fun _ h=>h.elim;refine rs S (la (av rfl)) ?_;clear S;intro a u S;refine rs0 ?_;refine cl S (nOne _ _ S.x (.nil _)) cB97 ?_;rintro e u ⟨r_t15,rfl,R_t15,hr_t15,T0⟩;refine ⟨_,rfl,fun a s=>?_⟩;replace S:=(S.k0 s T0).ar (wfF planE r_t15) (Enc.up _ R_t15);clear s T0 R_t15;have ho_t15:=one_len hr_t15;have hn3 : r_t15.rounds.xs.length ≤ 9223372036854775807:=((S.u 0 rfl).2).1.len;refine nbs boolE S [false] (x_bs S [(0,.bool false)] uT83 iZ4) (fun x hx=>by simp only [List.mem_cons,List.not_mem_nil,or_false] at hx;rw [hx];exact (show boolE.wf _ _ false from trivial)) ?_;clear S;intro a u b16 S;replace S:=S.spl 0;refine cl S (rNew _ _ S.xxF  S.mF (S.nfF hD) r_t15 (dnF   (S.u 0 rfl)) (Sl.mk (some ⟨b16,0,none⟩) 1 ([false])) (dnF   (S.u 1 rfl)) (by first | omega | (dsimp only;omega))) cB50 ?_;rintro e u ⟨q_t17,rfl,qK_t17,qB_t17,hr_t17,T0⟩;refine ⟨_,rfl,fun a s=>?_⟩;have S2:=S.kF   [bnO (runQ q_t17)] s T0 ⟨qB_t17,trivial⟩ ⟨(mo_bn (mo_runQ _)),trivial⟩;replace S2:=S2.sh;clear S;have S:=S2;clear S2 s T0 qB_t17
 rcases q_t17 with _ | ⟨B_t17,x_t17⟩
 ·exact absurd (hr_t17.1.2 (one_good hr_t15)) (by decide)
 replace S:=(show St _ _ _ _ _ _ [bnO (runF B_t17 x_t17)] _ _ from S);obtain ⟨hA17,hB17⟩:=one_run (v:=false) hr_t15 (hr_t17.2 _ rfl);obtain ⟨hO17,hS17⟩:=hA17.ok7 bo;have hK17 : RunOK 8000000 x_t17:=ROK.mono hO17 bo;refine ens S (tr (mv rfl)<|tr (exi rfl rfl)<|tr (exi rfl rfl)<|tr (av rfl)<|la (av rfl)) ?_;clear S;intro a u S;refine rs0 ?_;refine cl S (nOne _ _ S.x (.nil _)) cB97 ?_;rintro e u ⟨r_t21,rfl,R_t21,hr_t21,T0⟩;refine ⟨_,rfl,fun a s=>?_⟩;replace S:=(S.k0 s T0).ar (wfF planE r_t21) (Enc.up _ R_t21);clear s T0 R_t21;have ho_t21:=one_len hr_t21;have hn5 : r_t21.rounds.xs.length ≤ 9223372036854775807:=((S.u 2 rfl).2).1.len;refine nbs boolE S [true] (x_bs S [(0,.bool true)] uT83 iZ4) (fun x hx=>by simp only [List.mem_cons,List.not_mem_nil,or_false] at hx;rw [hx];exact (show boolE.wf _ _ true from trivial)) ?_;clear S;intro a u b22 S;replace S:=S.spl 1;refine cl S (rNew _ _ S.xxF  S.mF (S.nfF hD) r_t21 (dnF   (S.u 2 rfl)) (Sl.mk (some ⟨b22,0,none⟩) 1 ([true])) (dnF   (S.u 3 rfl)) (by first | omega | (dsimp only;omega))) cB50 ?_;rintro e u ⟨q_t23,rfl,qK_t23,qB_t23,hr_t23,T0⟩;refine ⟨_,rfl,fun a s=>?_⟩;have S2:=S.kF   [bnO (runQ q_t23)] s T0 ⟨qB_t23,trivial⟩ ⟨(mo_bn (mo_runQ _)),trivial⟩;replace S2:=S2.sh;clear S;have S:=S2;clear S2 s T0 qB_t23
 rcases q_t23 with _ | ⟨B_t23,x_t23⟩
 ·exact absurd (hr_t23.1.2 (one_good hr_t21)) (by decide)
 replace S:=(show St _ _ _ _ _ _ [bnO (runF B_t17 x_t17),bnO (runF B_t23 x_t23)] _ _ from S);obtain ⟨hA23,hB23⟩:=one_run (v:=true) hr_t21 (hr_t23.2 _ rfl);obtain ⟨hO23,hS23⟩:=hA23.ok7 bo;have hK23 : RunOK 8000000 x_t23:=ROK.mono hO23 bo;refine ens S (tr (mv rfl)<|tr (exi rfl rfl)<|tr (exi rfl rfl)<|tr (av rfl)<|la (av rfl)) ?_;clear S;intro a u S;refine rs0 ?_;refine cl S (nOne _ _ S.x (.nil _)) cB97 ?_;rintro e u ⟨r_t27,rfl,R_t27,hr_t27,T0⟩;refine ⟨_,rfl,fun a s=>?_⟩;replace S:=(S.k0 s T0).ar (wfF planE r_t27) (Enc.up _ R_t27);clear s T0 R_t27;have ho_t27:=one_len hr_t27;have hn7 : r_t27.rounds.xs.length ≤ 9223372036854775807:=((S.u 4 rfl).2).1.len;replace S:=S.spl 2;refine cl S (rNew _ _ S.xxF  S.mF (S.nfF hD) r_t27 (dnF   (S.u 4 rfl)) (Sl.mk none 0 ([] : List Bool)) sl_nil (by first | omega | (dsimp only;omega))) cB50 ?_;rintro e u ⟨q_t28,rfl,qK_t28,qB_t28,hr_t28,T0⟩;refine ⟨_,rfl,fun a s=>?_⟩;have S2:=S.kF   [bnO (runQ q_t28)] s T0 ⟨qB_t28,trivial⟩ ⟨(mo_bn (mo_runQ _)),trivial⟩;replace S2:=S2.sh;clear S;have S:=S2;clear S2 s T0 qB_t28
 rcases q_t28 with _ | ⟨B_t28,x_t28⟩
 rotate_left
 ·exact absurd (hr_t28.1.1 rfl) (one_bad hr_t27)
 replace S:=S.pkc [0,1];refine ens S (tr (mv rfl)<|tr (exi rfl rfl)<|tr (exi rfl rfl)<|tr (av rfl)<|la (av rfl)) ?_;clear S;intro a u S;refine wp_seq (rs0 ?_);refine sp S (tr (mv rfl)<|tr (neqi rfl rfl)<|tr (mv rfl)<|tr (gon 33 rfl fun S=>x_move (S.e rfl))<|tr (gon 33 rfl fun S=>x_neq (S.e rfl) (S.e rfl))<|tr (ov fun S=>x_pickf (S.e rfl) (S.e rfl))<|tr (mv rfl)<|tr (gon 37 rfl fun S=>x_move (S.e rfl))<|tr (gon 37 rfl fun S=>x_neq (S.e rfl) (S.e rfl))<|tr (ov fun S=>x_pickf (S.e rfl) (S.e rfl))<|tr (mv rfl)<|tr (gon 41 rfl fun S=>x_move (S.e rfl))<|tr (gon 41 rfl fun S=>x_peqN uT73 (S.e rfl) (S.e rfl))<|tr (ov fun S=>x_pickf (S.e rfl) (S.e rfl))<|tr (mv rfl)<|tr (gon 45 rfl fun S=>x_move (S.e rfl))<|tr (gon 45 rfl fun S=>x_peqN uT73 (S.e rfl) (S.e rfl))<|tr (ov fun S=>x_pickf (S.e rfl) (S.e rfl))<|tr (mv rfl)<|tr (gon 49 rfl fun S=>x_move (S.e rfl))<|la (ocon 49 rfl (fun S=>rFin _ _ (S.xx [In (ow (runF B_t17 x_t17))]) (.nil _) (B_t17,x_t17) (S.rob hD 0 rfl (X:=fun D=>(ptE runE 137).wf D _ (B_t17,x_t17)) (rd_run qK_t17) _ (by simp))) cB56)) ?_;clear S;intro a u S;replace S:=S.ext (d:=51) (v:=.bool false) ((S.get 51 rfl).trans (vbf ((by have h0:=hA17.rd;have h1:=congrArg List.length h0;rw [rds_len] at h1;have h2 : (absM x_t17.m.2) = _:=congrArg RunS.c hB17;rw [h1,h2];exact oe7))));refine ens S (la (ov fun S=>x_pickf (S.e rfl) (S.e rfl))) ?_;clear S;intro a u S;refine cdf S rfl ?_;refine wp_skip (then_n (rs0 ?_));refine sp S (tr (mv rfl)<|la (ov fun S=>x_bd S [(0,iI 1)] [iI 1,iI 0])) ?_;clear S;intro a u S;replace S:=S.pkc [1,0];replace S:=S.spl 1;refine cl S (rDo _ _ S.xxF B_t17 x_t17 S.mF (S.nfF hD) qK_t17 (S.dF   0 rfl (mo_bn (mo_run _ _))) (⟨1,0⟩ : Evt) ⟨(show inI64 1 from ⟨by omega,by omega⟩),(show inI64 0 from ⟨by omega,by omega⟩)⟩ (⟨by first | assumption | exact hOK,by first | assumption | exact hS0⟩)) cB45 ?_;rintro e u ⟨rn_t55,rfl,hk_rn_t55,hK_rn_t55,hq_rn_t55,T0⟩;refine ⟨_,rfl,fun a s=>?_⟩;have S2:=S.kF   [bnO (runF B_t17 rn_t55)] s T0 ⟨hK_rn_t55,trivial⟩ ⟨(mo_bn (mo_run _ _)),trivial⟩;replace S2:=S2.sh;clear S;have S:=S2;clear S2 s T0 hK_rn_t55;obtain ⟨hA55,hB55,_⟩:=hA17.step hq_rn_t55;replace hB55 : absR rn_t55 = ox1:=(hB55 (by rw [hB17];exact oe1)).trans (by rw [hB17];rfl);obtain ⟨hO55,hS55⟩:=hA55.ok7 bo;have hK55 : RunOK 8000000 rn_t55:=ROK.mono hO55 bo;replace S:=S.ext (d:=55) (v:=.bool true) ((S.get 55 rfl).trans (vbt (by rw [hB17];exact oe1)));refine sp S (tr (mv rfl)<|tr (gon 56 rfl fun S=>x_move (S.e rfl))<|la (gon 56 rfl fun S=>x_bd S [(0,iI 3)] [iI 3,iI 0])) ?_;clear S;intro a u S;refine strip S.s rfl rfl (gd:=56) rfl ?_;replace S:=S.spl 1;refine cl S (rDo _ _ S.xxF B_t17 rn_t55 S.mF (S.nfF hD) hk_rn_t55 (S.dF   0 rfl (mo_bn (mo_run _ _))) (⟨3,0⟩ : Evt) ⟨(show inI64 3 from ⟨by omega,by omega⟩),(show inI64 0 from ⟨by omega,by omega⟩)⟩ (⟨by first | assumption | exact hOK,by first | assumption | exact hS0⟩)) cB45 ?_;rintro e u ⟨rn_t59,rfl,hk_rn_t59,hK_rn_t59,hq_rn_t59,T0⟩;refine ⟨_,rfl,fun a s=>?_⟩;have S2:=S.kF   [bnO (runF B_t17 rn_t59)] s T0 ⟨hK_rn_t59,trivial⟩ ⟨(mo_bn (mo_run _ _)),trivial⟩;replace S2:=S2.sh;clear S;have S:=S2;clear S2 s T0 hK_rn_t59;obtain ⟨hA59,hB59,_⟩:=hA55.step hq_rn_t59;replace hB59 : absR rn_t59 = ox2:=(hB59 (by rw [hB55];exact oe2)).trans (by rw [hB55];rfl);obtain ⟨hO59,hS59⟩:=hA59.ok7 bo;have hK59 : RunOK 8000000 rn_t59:=ROK.mono hO59 bo;replace S:=S.ext (d:=59) (v:=.bool true) ((S.get 59 rfl).trans (vbt (by rw [hB55];exact oe2)));refine ens S (tr (ov fun S=>x_pickt (S.e rfl) (S.e rfl))<|la (av rfl)) ?_;clear S;intro a u S;refine rs0 ?_;refine sp S (tr (mv rfl)<|la (ov fun S=>x_bd S [(0,iI 1)] [iI 1,iI 0])) ?_;clear S;intro a u S;replace S:=S.pkc [1,0];replace S:=S.spl 1;refine cl S (rDo _ _ S.xxF B_t23 x_t23 S.mF (S.nfF hD) qK_t23 (S.dF   0 rfl (mo_bn (mo_run _ _))) (⟨1,0⟩ : Evt) ⟨(show inI64 1 from ⟨by omega,by omega⟩),(show inI64 0 from ⟨by omega,by omega⟩)⟩ (⟨by first | assumption | exact hOK,by first | assumption | exact hS0⟩)) cB45 ?_;rintro e u ⟨rn_t63,rfl,hk_rn_t63,hK_rn_t63,hq_rn_t63,T0⟩;refine ⟨_,rfl,fun a s=>?_⟩;have S2:=S.kF   [bnO (runF B_t23 rn_t63)] s T0 ⟨hK_rn_t63,trivial⟩ ⟨(mo_bn (mo_run _ _)),trivial⟩;replace S2:=S2.sh;clear S;have S:=S2;clear S2 s T0 hK_rn_t63;obtain ⟨hA63,hB63,_⟩:=hA23.step hq_rn_t63;replace hB63 : absR rn_t63 = oy1:=(hB63 (by rw [hB23];exact oe3)).trans (by rw [hB23];rfl);obtain ⟨hO63,hS63⟩:=hA63.ok7 bo;have hK63 : RunOK 8000000 rn_t63:=ROK.mono hO63 bo;replace S:=S.ext (d:=63) (v:=.bool true) ((S.get 63 rfl).trans (vbt (by rw [hB23];exact oe3)));refine sp S (tr (mv rfl)<|tr (gon 64 rfl fun S=>x_move (S.e rfl))<|la (gon 64 rfl fun S=>x_bd S [(0,iI 3)] [iI 3,iI 0])) ?_;clear S;intro a u S;refine strip S.s rfl rfl (gd:=64) rfl ?_;replace S:=S.spl 1;refine cl S (rDo _ _ S.xxF B_t23 rn_t63 S.mF (S.nfF hD) hk_rn_t63 (S.dF   0 rfl (mo_bn (mo_run _ _))) (⟨3,0⟩ : Evt) ⟨(show inI64 3 from ⟨by omega,by omega⟩),(show inI64 0 from ⟨by omega,by omega⟩)⟩ (⟨by first | assumption | exact hOK,by first | assumption | exact hS0⟩)) cB45 ?_;rintro e u ⟨rn_t67,rfl,hk_rn_t67,hK_rn_t67,hq_rn_t67,T0⟩;refine ⟨_,rfl,fun a s=>?_⟩;have S2:=S.kF   [bnO (runF B_t23 rn_t67)] s T0 ⟨hK_rn_t67,trivial⟩ ⟨(mo_bn (mo_run _ _)),trivial⟩;replace S2:=S2.sh;clear S;have S:=S2;clear S2 s T0 hK_rn_t67;obtain ⟨hA67,_,hC67⟩:=hA63.step hq_rn_t67;replace hC67:=hC67 (by rw [hB63];exact oe4);have hB67:=hB63;rw [← hC67] at hB67;obtain ⟨hO67,hS67⟩:=hA67.ok7 bo;have hK67 : RunOK 8000000 rn_t67:=ROK.mono hO67 bo;replace S:=S.ext (d:=67) (v:=.bool false) ((S.get 67 rfl).trans (vbf (by rw [hB63];exact oe4)));refine sp S (tr (gon 64 rfl fun S=>x_not (S.e rfl))<|tr (ov fun S=>x_pickt (S.e rfl) (S.e rfl))<|tr (mv rfl)<|tr (gon 70 rfl fun S=>x_move (S.e rfl))<|la (ocon 70 rfl (fun S=>rFin _ _ (S.xx [In (ow (runF B_t23 rn_t67))]) (.nil _) (B_t23,rn_t67) (S.rob hD 1 rfl (X:=fun D=>(ptE runE 137).wf D _ (B_t23,rn_t67)) (rd_run hk_rn_t67) _ (by simp))) cB56)) ?_;clear S;intro a u S;replace S:=S.ext (d:=72) (v:=.bool false) ((S.get 72 rfl).trans (vbf ((by have h0:=hA67.rd;have h1:=congrArg List.length h0;rw [rds_len] at h1;have h2 : (absM rn_t67.m.2) = _:=congrArg RunS.c hB67;rw [h1,h2];exact oe8))));refine ens S (tr (gon 70 rfl fun S=>x_not (S.e rfl))<|tr (ov fun S=>x_pickt (S.e rfl) (S.e rfl))<|la (av rfl)) ?_;clear S;intro a u S;refine rs0 ?_;refine sp S (tr (mv rfl)<|la (ov fun S=>x_bd S [(0,iI 2)] [iI 2,iI 0])) ?_;clear S;intro a u S;replace S:=S.spl 1;refine cl S (rDo _ _ S.xxF B_t23 rn_t67 S.mF (S.nfF hD) hk_rn_t67 (S.dF   0 rfl (mo_bn (mo_run _ _))) (⟨2,0⟩ : Evt) ⟨(show inI64 2 from ⟨by omega,by omega⟩),(show inI64 0 from ⟨by omega,by omega⟩)⟩ (⟨by first | assumption | exact hOK,by first | assumption | exact hS0⟩)) cB45 ?_;rintro e u ⟨rn_t77,rfl,hk_rn_t77,hK_rn_t77,hq_rn_t77,T0⟩;refine ⟨_,rfl,fun a s=>?_⟩;have S2:=S.kF   [bnO (runF B_t23 rn_t77)] s T0 ⟨hK_rn_t77,trivial⟩ ⟨(mo_bn (mo_run _ _)),trivial⟩;replace S2:=S2.sh;clear S;have S:=S2;clear S2 s T0 hK_rn_t77;obtain ⟨hA77,hB77,_⟩:=hA67.step hq_rn_t77;replace hB77 : absR rn_t77 = oy2:=(hB77 (by rw [hB67];exact oe5)).trans (by rw [hB67];rfl);obtain ⟨hO77,hS77⟩:=hA77.ok7 bo;have hK77 : RunOK 8000000 rn_t77:=ROK.mono hO77 bo;replace S:=S.ext (d:=77) (v:=.bool true) ((S.get 77 rfl).trans (vbt (by rw [hB67];exact oe5)));refine sp S (tr (mv rfl)<|tr (gon 78 rfl fun S=>x_move (S.e rfl))<|la (gon 78 rfl fun S=>x_bd S [(0,iI 3)] [iI 3,iI 0])) ?_;clear S;intro a u S;refine strip S.s rfl rfl (gd:=78) rfl ?_;replace S:=S.spl 1;refine cl S (rDo _ _ S.xxF B_t23 rn_t77 S.mF (S.nfF hD) hk_rn_t77 (S.dF   0 rfl (mo_bn (mo_run _ _))) (⟨3,0⟩ : Evt) ⟨(show inI64 3 from ⟨by omega,by omega⟩),(show inI64 0 from ⟨by omega,by omega⟩)⟩ (⟨by first | assumption | exact hOK,by first | assumption | exact hS0⟩)) cB45 ?_;rintro e u ⟨rn_t81,rfl,hk_rn_t81,hK_rn_t81,hq_rn_t81,T0⟩;refine ⟨_,rfl,fun a s=>?_⟩;have S2:=S.kF   [bnO (runF B_t23 rn_t81)] s T0 ⟨hK_rn_t81,trivial⟩ ⟨(mo_bn (mo_run _ _)),trivial⟩;replace S2:=S2.sh;clear S;have S:=S2;clear S2 s T0 hK_rn_t81;obtain ⟨hA81,hB81,_⟩:=hA77.step hq_rn_t81;replace hB81 : absR rn_t81 = oy3:=(hB81 (by rw [hB77];exact oe6)).trans (by rw [hB77];rfl);obtain ⟨hO81,hS81⟩:=hA81.ok7 bo;have hK81 : RunOK 8000000 rn_t81:=ROK.mono hO81 bo;replace S:=S.ext (d:=81) (v:=.bool true) ((S.get 81 rfl).trans (vbt (by rw [hB77];exact oe6)));refine ens S (tr (ov fun S=>x_pickt (S.e rfl) (S.e rfl))<|la (av rfl)) ?_;clear S;intro a u S;refine rs0 ?_;refine sp S (la (mv rfl)) ?_;clear S;intro a u S;refine cl S (rAgent _ _ (S.xx [In (ow (runF B_t17 rn_t59))]) (.nil _) (B_t17,rn_t59) (S.rob hD 0 rfl (X:=fun D=>(ptE runE 137).wf D _ (B_t17,rn_t59)) (rd_run hk_rn_t59) _ (by simp)) 0 ⟨by omega,by omega⟩) cB55 ?_;rintro e u ⟨r_t850,rfl,R_t850,hr_t850,T0⟩;refine ⟨_,rfl,fun a s=>?_⟩;replace S:=(S.k0 s T0).ar (wfF agtE r_t850) R_t850;clear s T0 R_t850;obtain ⟨hl13,hu13⟩ : inI64 r_t850.run:=id ((S.u 5 rfl).2.2.1);obtain ⟨hl14,hu14⟩ : inI64 r_t850.sav:=id ((S.u 5 rfl).2.2.2.1);obtain ⟨hl15,hu15⟩ : inI64 r_t850.seq:=id ((S.u 5 rfl).2.2.2.2.1);obtain ⟨hl16,hu16⟩ : inI64 r_t850.inc:=id ((S.u 5 rfl).2.2.2.2.2);refine sp S (tr (mv rfl)<|tr (exi rfl rfl)<|la (exi rfl rfl)) ?_;clear S;intro a u S;replace S:=S.ext (d:=87) (v:=.bool true) ((S.get 87 rfl).trans (vbt (⟨by omega,by have:=hA59.len;show (0 : Int) < (rn_t59.sts.xs.length : Int);omega⟩)));refine nbp S (x_allocz _ iZ101 rfl) ?_;clear S;intro a u b10 S;refine ens S (tr (stkw 2 rfl rfl rfl)<|la (av rfl)) ?_;clear S;intro a u S;refine rs0 ?_;refine sp S (la (mv rfl)) ?_;clear S;intro a u S;refine cl S (rAgent _ _ (S.xx [In (ow (runF B_t17 rn_t59))]) (.nil _) (B_t17,rn_t59) (S.rob hD 0 rfl (X:=fun D=>(ptE runE 137).wf D _ (B_t17,rn_t59)) (rd_run hk_rn_t59) _ (by simp)) 1 ⟨by omega,by omega⟩) cB55 ?_;rintro e u ⟨r_t900,rfl,R_t900,hr_t900,T0⟩;refine ⟨_,rfl,fun a s=>?_⟩;replace S:=(S.k0 s T0).ar (wfF agtE r_t900) R_t900;clear s T0 R_t900;obtain ⟨hl18,hu18⟩ : inI64 r_t900.run:=id ((S.u 6 rfl).2.2.1);obtain ⟨hl19,hu19⟩ : inI64 r_t900.sav:=id ((S.u 6 rfl).2.2.2.1);obtain ⟨hl20,hu20⟩ : inI64 r_t900.seq:=id ((S.u 6 rfl).2.2.2.2.1);obtain ⟨hl21,hu21⟩ : inI64 r_t900.inc:=id ((S.u 6 rfl).2.2.2.2.2);refine sp S (tr (mv rfl)<|tr (exi rfl rfl)<|la (exi rfl rfl)) ?_;clear S;intro a u S;replace S:=S.ext (d:=92) (v:=.bool false) ((S.get 92 rfl).trans (vbf (fun h=>by have h1:=hA59.len;have h2 : (1 : Int) < (rn_t59.sts.xs.length : Int):=h.2;omega)));refine nbp S (x_allocz _ iZ101 rfl) ?_;clear S;intro a u b12 S;refine ens S (tr (stkw 3 rfl rfl rfl)<|la (av rfl)) ?_;clear S;intro a u S;refine rs0 ?_;refine sp S (tr (mv rfl)<|tr (mv rfl)<|tr (gon 94 rfl fun S=>x_move (S.e rfl))<|tr (ov fun S=>x_pickt (S.e rfl) (S.e rfl))<|tr (mv rfl)<|tr (gon 97 rfl fun S=>x_move (S.e rfl))<|tr (ov fun S=>x_pickt (S.e rfl) (S.e rfl))<|tr (mv rfl)<|tr (gon 100 rfl fun S=>x_move (S.e rfl))<|la (ocon 100 rfl (fun S=>rFin _ _ (S.xx [In (ow (runF B_t17 rn_t59))]) (.nil _) (B_t17,rn_t59) (S.rob hD 0 rfl (X:=fun D=>(ptE runE 137).wf D _ (B_t17,rn_t59)) (rd_run hk_rn_t59) _ (by simp))) cB56)) ?_;clear S;intro a u S;replace S:=S.ext (d:=102) (v:=.bool true) ((S.get 102 rfl).trans (vbt ((by have h0:=hA59.rd;have h1:=congrArg List.length h0;rw [rds_len] at h1;have h2 : (absM rn_t59.m.2) = _:=congrArg RunS.c hB59;rw [h1,h2];exact oe9))));refine sp S (tr (ov fun S=>x_pickt (S.e rfl) (S.e rfl))<|tr (mv rfl)<|tr (gon 104 rfl fun S=>x_move (S.e rfl))<|la (ocon 104 rfl (fun S=>rFin _ _ (S.xx [In (ow (runF B_t23 rn_t81))]) (.nil _) (B_t23,rn_t81) (S.rob hD 1 rfl (X:=fun D=>(ptE runE 137).wf D _ (B_t23,rn_t81)) (rd_run hk_rn_t81) _ (by simp))) cB56)) ?_;clear S;intro a u S;replace S:=S.ext (d:=106) (v:=.bool true) ((S.get 106 rfl).trans (vbt ((by have h0:=hA81.rd;have h1:=congrArg List.length h0;rw [rds_len] at h1;have h2 : (absM rn_t81.m.2) = _:=congrArg RunS.c hB81;rw [h1,h2];exact oe10))));refine sp S (tr (ov fun S=>x_pickt (S.e rfl) (S.e rfl))<|tr (mv rfl)<|tr (gon 108 rfl fun S=>x_move (S.e rfl))<|tr (ov fun S=>x_pickt (S.e rfl) (S.e rfl))<|tr (mv rfl)<|tr (gon 111 rfl fun S=>x_move (S.e rfl))<|tr (gon 111 rfl fun S=>x_not (S.e rfl))<|tr (ov fun S=>x_pickt (S.e rfl) (S.e rfl))<|tr (mv rfl)<|tr (gon 115 rfl fun S=>x_fld (z:=0) (0) 2 uT101 rfl rfl (by kernel_rfl) (S.e rfl))<|tr (gon 115 rfl fun S=>x_load sC3 (S.e rfl) ((S.k 2 rfl).cell (j:=2) rfl))<|la (gon 115 rfl fun S=>x_eql (S.e rfl) (S.e rfl))) ?_;clear S;intro a u S;replace S:=S.ext (d:=118) (v:=.bool true) ((S.get 118 rfl).trans (vbt (by rw [hr_t850,hB59];exact oe11.1)));refine sp S (tr (ov fun S=>x_pickt (S.e rfl) (S.e rfl))<|tr (mv rfl)<|tr (gon 120 rfl fun S=>x_fld (z:=0) (0) 0 uT101 rfl rfl (by kernel_rfl) (S.e rfl))<|la (gon 120 rfl fun S=>x_load sC4 (S.e rfl) ((S.k 2 rfl).cell (j:=0) rfl))) ?_;clear S;intro a u S;replace S:=S.ext (d:=122) (v:=.bool true) ((S.get 122 rfl).trans (vbt (by rw [hr_t850,hB59];exact oe11.2)));refine sp S (tr (ov fun S=>x_pickt (S.e rfl) (S.e rfl))<|tr (mv rfl)<|la (gon 124 rfl fun S=>x_move (S.e rfl))) ?_;clear S;intro a u S;refine strip S.s rfl rfl (gd:=124) rfl ?_;refine cl S (rCtl _ _ (S.xx [In (ow (runF B_t17 rn_t59))]) (.nil _) (B_t17,rn_t59) (S.rob hD 0 rfl (X:=fun D=>(ptE runE 137).wf D _ (B_t17,rn_t59)) (rd_run hk_rn_t59) _ (by simp)) (by first | assumption | exact hOK | exact (hT.sm hBeg bo (by assumption) (by assumption)).1)) cB54 ?_;rintro e u ⟨ra_t126_3,rc_t126_3,ra_t126_4,rc_t126_4,ra_t126_5,rc_t126_5,rfl,R_t126_3,R_t126_4,R_t126_5,T0⟩;refine ⟨_,rfl,fun a s=>?_⟩;replace S:=(S.krx [⟨_,intE,3,ra_t126_5,rc_t126_5,rn_t59.m.2.waiting.xs⟩,⟨_,intE,3,ra_t126_4,rc_t126_4,rn_t59.m.2.known.xs⟩,⟨_,intE,3,ra_t126_3,rc_t126_3,rn_t59.m.2.target.xs⟩] s T0 ⟨R_t126_5,R_t126_4,R_t126_3,trivial⟩ ⟨fun _ _ _ _ h=>h,fun _ _ _ _ h=>h,fun _ _ _ _ h=>h,trivial⟩).sh;clear s T0 R_t126_5 R_t126_4 R_t126_3;refine sp S (tr (gon 124 rfl fun S=>x_fldv uT57 rfl sC3 (S.e rfl) rfl)<|la (gon 124 rfl fun S=>x_eql (S.e rfl) (S.e rfl))) ?_;clear S;intro a u S;replace S:=S.ext (d:=128) (v:=.bool true) ((S.get 128 rfl).trans (vbt ((congrArg (fun r : RunS=>r.c.round) hB59).trans oe12)));refine sp S (tr (ov fun S=>x_pickt (S.e rfl) (S.e rfl))<|tr (mv rfl)<|tr (gon 130 rfl fun S=>x_move (S.e rfl))<|la (gon 130 rfl fun S=>x_bd S [(0,iI 6)] [iI 6,iI 0])) ?_;clear S;intro a u S;refine strip S.s rfl rfl (gd:=130) rfl ?_;replace S:=S.pkc [1,2,3,4,5,6,0];replace S:=S.spl 6;refine cl S (rDo _ _ S.xxF B_t17 rn_t59 S.mF (S.nfF hD) hk_rn_t59 (S.dF   0 rfl (mo_bn (mo_run _ _))) (⟨6,0⟩ : Evt) ⟨(show inI64 6 from ⟨by omega,by omega⟩),(show inI64 0 from ⟨by omega,by omega⟩)⟩ (⟨by first | assumption | exact hOK,by first | assumption | exact hS0⟩)) cB45 ?_;rintro e u ⟨rn_t133,rfl,hk_rn_t133,hK_rn_t133,hq_rn_t133,T0⟩;refine ⟨_,rfl,fun a s=>?_⟩;have S2:=S.kF   [bnO (runF B_t17 rn_t133)] s T0 ⟨hK_rn_t133,trivial⟩ ⟨(mo_bn (mo_run _ _)),trivial⟩;replace S2:=S2.sh;clear S;have S:=S2;clear S2 s T0 hK_rn_t133;obtain ⟨hA133,_,hC133⟩:=hA59.step hq_rn_t133;replace hC133:=hC133 (by rw [hB59];exact oe13);have hB133:=hB59;rw [← hC133] at hB133;obtain ⟨hO133,hS133⟩:=hA133.ok7 bo;have hK133 : RunOK 8000000 rn_t133:=ROK.mono hO133 bo;replace S:=S.ext (d:=133) (v:=.bool false) ((S.get 133 rfl).trans (vbf (by rw [hB59];exact oe13)));refine sp S (tr (gon 130 rfl fun S=>x_not (S.e rfl))<|tr (ov fun S=>x_pickt (S.e rfl) (S.e rfl))<|tr (mv rfl)<|la (gon 136 rfl fun S=>x_move (S.e rfl))) ?_;clear S;intro a u S;refine strip S.s rfl rfl (gd:=136) rfl ?_;refine cl S (rPoss _ _ (S.xx [In (ow (runF B_t17 rn_t133))]) (.nil _) (B_t17,rn_t133) (S.rob hD 6 rfl (X:=fun D=>(ptE runE 137).wf D _ (B_t17,rn_t133)) (rd_run hk_rn_t133) _ (by simp)) (by first | assumption | exact hOK | exact (hT.sm hBeg bo (by assumption) (by assumption)).1)) cB52 ?_;rintro e u ⟨ra_t138,rc_t138,rfl,R_t138,T0⟩;refine ⟨_,rfl,fun a s=>?_⟩;replace S:=(S.krx [⟨_,evtE,78,ra_t138,rc_t138,(posR (absR rn_t133))⟩] s T0 ⟨R_t138,trivial⟩ ⟨fun _ _ _ _ h=>h,trivial⟩).sh;clear s T0 R_t138;refine ens S (tr (gon 136 rfl fun S=>x_len uT72 (S.e rfl))<|tr (gon 136 rfl fun S=>x_eql (S.e rfl) (S.e rfl))<|tr (ov fun S=>x_pickt (S.e rfl) (S.e rfl))<|la (av rfl)) ?_;clear S;intro a u S;refine wp_ret ?_;refine ret1 rfl S.s rfl ?_;replace S:=S.pk [];refine ⟨(r1 (vb ?_)),S.m.c⟩;refine ⟨fun _=>trivial,fun _=>?_⟩;show ((posR (absR rn_t133)).length : Int) = 2;rw [hB133,oe14];rfl
section
variable {F : Nat → Prop} {w0 w : World} {m0 ms : List BS} {n : Nat} {L : List (Nat × Value)} {rs : List RF} {os fs : List OF} {a : Act}
theorem dnxJ {α : Type} {E : Enc α} {x : α} {h : Array Obj} {o : List BS} {js : List Nat} (H : E.wf (Fr F ms) h x) : E.wf (Fr (Exc F ms o) (picks ms js)) h x:=E.mono (fun k _ h=>⟨fun e=>h.1 (in_picks e),fun e=>e.elim (fun e=>h.1 e.1) h.2⟩) H
theorem St.robJ (S : St F w0 m0 n L rs os a w) (hD : ∀ k,In m0 k → ¬ F k) (js : List Nat) (i : Nat) (hi : nth os i = some (bnO fs)) {X : (Nat → Prop) → Prop} (rd : ∀ D,(∀ f ∈ fs,f.p F (In (ow os)) w) → (∀ k,In (ow fs) k → k < w.heap.size → D k) → (∀ k,k < w.heap.size → Fw F (In (ow os)) k → D k) → X D) (o : List BS) (ho : In (ow fs) ∈ o) (hj : js.contains i = false:=by rfl) : X (Fr (Exc F (ow os) o) (picks (ow os) js)) :=
  rd _ (S.m.o _ (nth_mem hi)).2 (fun _ hk _=>⟨S.m.c.ms.sep.out i js hj (ow_get hi) hk,fun e=>e.elim (fun e=>e.2 (in_mem ho hk)) (S.nf hD (in_mem (ow_mem (nth_mem hi)) hk))⟩) fun _ _ h=>⟨fun e=>h.1 (in_picks e),fun e=>e.elim (fun e=>h.1 e.1) h.2⟩
end
open Go.RowKit Go.Proofs.Ytobggnpnochnnaa
theorem Beg.sts {sg : Bool} {R : List (List Chg)} {S : List (List Int)} {n : Nat} {x : Run} {y : RunR} (h : Beg sg R S n x y) : statesP y.b.2.staged (rdB y.b.2) (y.ag.xs.length : Int) = some S:=by rw [h.T.g,h.T.b.rd,h.T.b.tn];exact h.st
theorem QAt.rnl {R : List (List Chg)} {S : List (List Int)} {n B : Nat} {y : RunR} (h : QAt R S n B y) : y.b.2.rounds.xs.length = R.length:=by rw [← h.rd];exact (rds_len (mB y.b.2)).symm
open Go.RowKit Go.Proofs.Ytobggnpnochnnaa
theorem Run2.sts {sg : Bool} {R : List (List Chg)} {S : List (List Int)} {n k : Nat} {x x0 : Run} {y y0 : RunR} (h : Run2 sg R S n k x y) (H : Beg sg R S n x0 y0) : statesP y.b.2.staged (rdB y.b.2) (y.ag.xs.length : Int) = some S:=by rw [h.T.g,h.T.b.rd,h.T.b.tn];exact H.st
theorem getD_map {r : Sl (Sl Int)} {S : List (List Int)} (h : r.xs.map (fun l=>l.xs) = S) (k : Nat) : (r.xs.getD k (slE intE).dflt).xs = S.getD k []:=by
 rw [← h,List.getD_eq_getElem?_getD,List.getD_eq_getElem?_getD,List.getElem?_map];cases r.xs[k]? <;> rfl
open Go.RowKit Go.Proofs.Ytobggnpnochnnaa
set_option synthInstance.maxSize 2000
theorem nWaits (w : World) (F : Nat → Prop) (hF : Old F w) (M : MS [] w) (t_ : Sl Int) (t__w : (slE intE).wf (Fr F []) w.heap t_) :
 Calls Try.prog 15 #[sV t_] w fun e w'=>e = .returned (bD (True)) ∧ Tr [] w [] w':=by
 have : t_.xs.length ≤ 9223372036854775807:=(t__w).1.len;refine go Try.func15 rfl 152 rfl [wfF (slE intE) t_] [] hF M ⟨t__w,trivial⟩ trivial ?_;intro a S;have hD : ∀ k,In ([] : List BS) k → ¬ F k:=fun _ h=>h.elim;refine rs S (la (av rfl)) ?_;clear S;intro a u S;refine rs0 ?_;refine sp S (la (mv rfl)) ?_;clear S;intro a u S;refine cl S (gNew _ _ S.x (.nil _) t_ (dn0 (S.u 0 rfl))) cB19 ?_;rintro e u ⟨T17,rfl,TK,T0⟩;refine ⟨_,rfl,fun a s=>?_⟩;replace S:=S.kt s T0 TK;clear s T0 TK;refine ens S (la (av rfl)) ?_;clear S;intro a u S;refine rs0 ?_;refine sp S (la (mv rfl)) ?_;clear S;intro a u S;replace S:=S.spl 0;refine cl S (nBegin _ _ S.xxF T17 S.mF (S.nfF hD) t_ (dnF   (S.u 0 rfl)) (S.t 0 rfl)) cB43 ?_;rintro e u ⟨nb_t200,nx_t200,nb_t201,nx_t201,rfl,nk_t200,nB_t200,nk_t201,nB_t201,hr_t201,tK,T0⟩;refine ⟨_,rfl,fun a s=>?_⟩;have S2:=S.kF   [bnO (runF nb_t200 nx_t200),bnO (rrF nb_t201 nx_t201),tpO 112 T17 t_] s T0 ⟨nB_t200,nB_t201,tK,trivial⟩ ⟨(mo_bn (mo_run _ _)),(mo_bn (mo_rr _ _)),mo_tp,trivial⟩;replace S2:=S2.sh;clear S;have S:=S2;clear S2 s T0 tK nB_t200 nB_t201;obtain ⟨sg,R,Z,n,hBeg⟩:=hr_t201;have hR3:=hBeg.R3;have hn4:=hBeg.n4;have hn1:=hBeg.n1;have hrn:=hBeg.T.b.rnl;refine ens S (tr (mv rfl)<|tr (exi rfl rfl)<|tr (exi rfl rfl)<|tr (exi rfl rfl)<|tr (av rfl)<|tr (av rfl)<|la (av rfl)) ?_;clear S;intro a u S;refine wp_seq ?_;refine rs S (tr (mv rfl)<|la (ov fun S=>x_not (S.e rfl))) ?_;clear S;intro a u S;refine cdf S rfl ?_;refine wp_skip (then_n (wp_seq ?_));replace S:=S.pkc [0,2,1];replace S:=S.opnN 2 [blO nb_t201 [pT nx_t201.b.1 0,sV nx_t201.vol,sV nx_t201.ag,sV nx_t201.cmds,sV nx_t201.msgs] 95,rwO agtE 101 0 nx_t201.ag.a nx_t201.ag.c nx_t201.ag.xs,rwO (slE cmdE) 145 0 nx_t201.cmds.a nx_t201.cmds.c nx_t201.cmds.xs,rwO (slE msgE) 142 0 nx_t201.msgs.a nx_t201.msgs.c nx_t201.msgs.xs,bnO (brF nx_t201.b.1 nx_t201.b.2),daO (slE boolE) nx_t201.vol];replace S:=S.ar (wfF (slE boolE) nx_t201.vol) (S.da 7 rfl);replace S:=S.pkc [0,1,2,3,4,5,6];have : nx_t201.ag.xs.length ≤ 9223372036854775807:=(S.row 3 rfl).len_le;have : nx_t201.cmds.xs.length ≤ 9223372036854775807:=(S.row 4 rfl).len_le;have : nx_t201.msgs.xs.length ≤ 9223372036854775807:=(S.row 5 rfl).len_le;have : nx_t201.vol.xs.length ≤ 9223372036854775807:=((S.u 1 rfl)).1.len;replace S:=S.opnN 6 [blO nx_t201.b.1 [bD (nx_t201.b.2.staged = true),sV nx_t201.b.2.rounds,sV nx_t201.b.2.states,iI nx_t201.b.2.round,bD (nx_t201.b.2.back = true),iI nx_t201.b.2.seq,sV nx_t201.b.2.target,sV nx_t201.b.2.known,sV nx_t201.b.2.waiting] 89,daO (slE (slE chgE)) nx_t201.b.2.rounds,daO (slE (slE intE)) nx_t201.b.2.states,daO (slE intE) nx_t201.b.2.target,daO (slE intE) nx_t201.b.2.known,daO (slE intE) nx_t201.b.2.waiting];replace S:=S.ar (wfF (slE (slE chgE)) nx_t201.b.2.rounds) (S.da 7 rfl);replace S:=S.ar (wfF (slE (slE intE)) nx_t201.b.2.states) (S.da 8 rfl);replace S:=S.ar (wfF (slE intE) nx_t201.b.2.target) (S.da 9 rfl);replace S:=S.ar (wfF (slE intE) nx_t201.b.2.known) (S.da 10 rfl);replace S:=S.ar (wfF (slE intE) nx_t201.b.2.waiting) (S.da 11 rfl);replace S:=S.pkc [0,1,2,3,4,5,6];have : nx_t201.b.2.rounds.xs.length ≤ 9223372036854775807:=((S.u 2 rfl)).1.len;have : nx_t201.b.2.states.xs.length ≤ 9223372036854775807:=((S.u 3 rfl)).1.len;have : nx_t201.b.2.target.xs.length ≤ 9223372036854775807:=((S.u 4 rfl)).1.len;have : nx_t201.b.2.known.xs.length ≤ 9223372036854775807:=((S.u 5 rfl)).1.len;have : nx_t201.b.2.waiting.xs.length ≤ 9223372036854775807:=((S.u 6 rfl)).1.len;obtain ⟨_,_⟩ : inI64 nx_t201.b.2.round:=nk_t201.1;obtain ⟨_,_⟩ : inI64 nx_t201.b.2.seq:=nk_t201.2;refine drH (P:=Try.prog) ((Sl (Sl Int))) (slE (slE intE)).dflt (fun g=>[wfF (slE intE) t_,wfF (slE boolE) nx_t201.vol,wfF (slE (slE chgE)) nx_t201.b.2.rounds,wfF (slE (slE intE)) nx_t201.b.2.states,wfF (slE intE) nx_t201.b.2.target,wfF (slE intE) nx_t201.b.2.known,wfF (slE intE) nx_t201.b.2.waiting]) (fun g=>[bnO (runF nb_t200 nx_t200),tpO 112 T17 t_,blO nb_t201 [pT nx_t201.b.1 0,sV nx_t201.vol,sV nx_t201.ag,sV nx_t201.cmds,sV nx_t201.msgs] 95,rwO agtE 101 0 nx_t201.ag.a nx_t201.ag.c nx_t201.ag.xs,rwO (slE cmdE) 145 0 nx_t201.cmds.a nx_t201.cmds.c nx_t201.cmds.xs,rwO (slE msgE) 142 0 nx_t201.msgs.a nx_t201.msgs.c nx_t201.msgs.xs,blO nx_t201.b.1 [bD (nx_t201.b.2.staged = true),sV nx_t201.b.2.rounds,sV nx_t201.b.2.states,iI nx_t201.b.2.round,bD (nx_t201.b.2.back = true),iI nx_t201.b.2.seq,sV nx_t201.b.2.target,sV nx_t201.b.2.known,sV nx_t201.b.2.waiting] 89]) [⟨0,27,0,0,[],[6,5,4,3,2,1,0],fun g=>pT nb_t201 0,[]⟩,⟨1,28,0,0,[],[6,5,4,3,2,1],fun g=>pT nb_t201 0,[27]⟩,⟨2,29,0,0,[],[6,5,4,3,2],fun g=>pT nb_t201 (0 + 0),[28]⟩,⟨3,30,0,0,[],[6,5,4,3],fun g=>pT nx_t201.b.1 0,[29]⟩,⟨4,31,0,0,[],[6,5,4],fun g=>pT nx_t201.b.1 0,[30]⟩,⟨5,32,0,0,[],[6,5],fun g=>pT nx_t201.b.1 (0 + 0),[31]⟩,⟨6,33,0,0,[],[6],fun g=>.agg #[bD (nx_t201.b.2.staged = true),sV nx_t201.b.2.rounds],[32]⟩,⟨7,34,0,0,[],[11,10,9,8,7],fun g=>pT nb_t201 0,[]⟩,⟨8,35,0,0,[],[11,10,9,8],fun g=>pT nb_t201 0,[34]⟩,⟨9,36,0,0,[],[11,10,9],fun g=>pT nb_t201 (0 + 2),[35]⟩,⟨10,37,0,0,[],[11,10],fun g=>sV nx_t201.ag,[36]⟩,⟨11,38,0,0,[],[11],fun g=>iN nx_t201.ag.xs.length,[37]⟩,⟨13,26,1,1,[12],[],fun g=>.tuple #[sV g,iI (stsE (statesP nx_t201.b.2.staged (rdsP (⟨nx_t201.b.2.staged,nx_t201.b.2.rounds⟩ : Plan)) ((nx_t201.ag.xs.length : Nat) : Int)))],[39]⟩,⟨14,40,1,1,[13,12],[],fun g=>sV g,[26]⟩,⟨15,41,1,1,[13,12],[],fun g=>iI (stsE (statesP nx_t201.b.2.staged (rdsP (⟨nx_t201.b.2.staged,nx_t201.b.2.rounds⟩ : Plan)) ((nx_t201.ag.xs.length : Nat) : Int))),[26]⟩,⟨16,7,1,1,[12],[],fun g=>sV g,[40]⟩,⟨17,8,1,1,[12],[],fun g=>iI (stsE (statesP nx_t201.b.2.staged (rdsP (⟨nx_t201.b.2.staged,nx_t201.b.2.rounds⟩ : Plan)) ((nx_t201.ag.xs.length : Nat) : Int))),[41]⟩] [] [⟨12,some 39,fun g=>.tuple #[sV g,iI (stsE (statesP nx_t201.b.2.staged (rdsP (⟨nx_t201.b.2.staged,nx_t201.b.2.rounds⟩ : Plan)) ((nx_t201.ag.xs.length : Nat) : Int)))],[33,38],fun g=>[wfF (slE intE) t_,wfF (slE boolE) nx_t201.vol,wfF (slE (slE chgE)) nx_t201.b.2.rounds,wfF (slE (slE intE)) nx_t201.b.2.states,wfF (slE intE) nx_t201.b.2.target,wfF (slE intE) nx_t201.b.2.known,wfF (slE intE) nx_t201.b.2.waiting,wfF (slE (slE intE)) g],fun g=>[bnO (runF nb_t200 nx_t200),tpO 112 T17 t_,blO nb_t201 [pT nx_t201.b.1 0,sV nx_t201.vol,sV nx_t201.ag,sV nx_t201.cmds,sV nx_t201.msgs] 95,rwO agtE 101 0 nx_t201.ag.a nx_t201.ag.c nx_t201.ag.xs,rwO (slE cmdE) 145 0 nx_t201.cmds.a nx_t201.cmds.c nx_t201.cmds.xs,rwO (slE msgE) 142 0 nx_t201.msgs.a nx_t201.msgs.c nx_t201.msgs.xs,blO nx_t201.b.1 [bD (nx_t201.b.2.staged = true),sV nx_t201.b.2.rounds,sV nx_t201.b.2.states,iI nx_t201.b.2.round,bD (nx_t201.b.2.back = true),iI nx_t201.b.2.seq,sV nx_t201.b.2.target,sV nx_t201.b.2.known,sV nx_t201.b.2.waiting] 89],fun g=>(g.xs.map (fun l=>l.xs) = stsD (statesP nx_t201.b.2.staged (rdsP (⟨nx_t201.b.2.staged,nx_t201.b.2.rounds⟩ : Plan)) ((nx_t201.ag.xs.length : Nat) : Int)))⟩] [] [] [] S (fun y hy=>by cases hy) (fun g=>⟨rfl,rfl,rfl,rfl,rfl,rfl,rfl,rfl,rfl,rfl,rfl,rfl,rfl,rfl,rfl,rfl,rfl,rfl,trivial⟩) ?_ ?_ ⟨⟨_,rfl,rfl,?_⟩,trivial⟩ ?_
 ·intro k r_t390 hk; obtain rfl | rfl : k = 0 ∨ k = 1 := by simp only [List.length_cons, List.length_nil] at hk; omega
  ·exact ⟨lkq rfl fun S=>x_move (S.e rfl),lkq rfl fun S=>x_nilck (S.e rfl),lkq rfl fun S=>x_fld (z:=0) (0) 0 uT95 rfl rfl (by kernel_rfl) (S.e rfl),lkq rfl fun S=>x_load sC90 (S.e rfl) ((S.k 2 rfl).cell (j:=0) rfl),lkq rfl fun S=>x_nilck (S.e rfl),lkq rfl fun S=>x_fld (z:=1) (0) 0 uT89 rfl rfl (by kernel_rfl) (S.e rfl),lkq rfl fun S=>x_loadw [bD (nx_t201.b.2.staged = true),sV nx_t201.b.2.rounds] wD47 (S.e rfl) ((S.k 6 rfl).mid [] [bD (nx_t201.b.2.staged = true),sV nx_t201.b.2.rounds] [sV nx_t201.b.2.states,iI nx_t201.b.2.round,bD (nx_t201.b.2.back = true),iI nx_t201.b.2.seq,sV nx_t201.b.2.target,sV nx_t201.b.2.known,sV nx_t201.b.2.waiting] rfl _ rfl),lkq rfl fun S=>x_move (S.e rfl),lkq rfl fun S=>x_nilck (S.e rfl),lkq rfl fun S=>x_fld (z:=0) (0) 2 uT95 rfl rfl (by kernel_rfl) (S.e rfl),lkq rfl fun S=>x_load sC91 (S.e rfl) ((S.k 2 rfl).cell (j:=2) rfl),lkq rfl fun S=>x_len uT91 (S.e rfl),lkm,lkm,lkm,lkm,lkm,trivial⟩
  exact ⟨lkn,lkn,lkn,lkn,lkn,lkn,lkn,lkn,lkn,lkn,lkn,lkn,lkq rfl fun S=>x_move (S.e rfl),lkq rfl fun S=>x_extract (S.e rfl) rfl,lkq rfl fun S=>x_extract (S.e rfl) rfl,lkq rfl fun S=>x_assign (S.e rfl),lkq rfl fun S=>x_assign (S.e rfl),trivial⟩
 ·exact fun _ _ _=>trivial
 ·skip;intro g a u h;revert h;revert a u;revert g;intro r_t390 a u h;obtain ⟨S,hR,hN⟩:=h;replace S:=S.h0;dsimp only at S;refine cl S (rStates _ _ S.x (.nil _) (⟨nx_t201.b.2.staged,nx_t201.b.2.rounds⟩ : Plan) ⟨trivial,(dn0 (S.u 2 rfl))⟩ ((nx_t201.ag.xs.length : Nat) : Int) ⟨by omega,by omega⟩ (by first | omega | (dsimp only;omega))) cB40 ?_;rintro e u ⟨r_t390,rfl,R_t390,hr_t390,T0⟩;refine ⟨_,rfl,fun a s=>?_⟩;replace S:=(S.k0 s T0).ar (wfF (slE (slE intE)) r_t390) (Enc.up _ R_t390);clear s T0 R_t390;refine ent ?_;exact ⟨S.s.defers,(r_t390),(fun d h=>by obtain rfl:=Option.some.inj h;exact S.s.get _ _ rfl),agz,trivial,trivial,S.m,hr_t390⟩
 clear S;intro g a u hA S hR;revert hA S hR;revert a u;revert g;intro r_t390 a u hA S hR;have hr_t390 : (r_t390.xs.map (fun l=>l.xs) = stsD (statesP nx_t201.b.2.staged (rdsP (⟨nx_t201.b.2.staged,nx_t201.b.2.rounds⟩ : Plan)) ((nx_t201.ag.xs.length : Nat) : Int))):=hR;replace S:=(S.hk (k:=0)).l ((0,sV t_) :: (2,.bool false) :: (16,sV t_) :: (17,pT T17 0) :: (3,pT T17 0) :: (19,pT T17 0) :: (20,.tuple #[pT nb_t200 0,pT nb_t201 0,.bool true]) :: (18,.tuple #[pT nb_t200 0,pT nb_t201 0,.bool true]) :: (21,pT nb_t200 0) :: (22,pT nb_t201 0) :: (23,.bool true) :: (4,pT nb_t200 0) :: (5,pT nb_t201 0) :: (6,.bool true) :: (24,.bool true) :: (25,.bool false) :: (27,pT nb_t201 0) :: (28,pT nb_t201 0) :: (29,pT nb_t201 (0 + 0)) :: (30,pT nx_t201.b.1 0) :: (31,pT nx_t201.b.1 0) :: (32,pT nx_t201.b.1 (0 + 0)) :: (33,.agg #[bD (nx_t201.b.2.staged = true),sV nx_t201.b.2.rounds]) :: (34,pT nb_t201 0) :: (35,pT nb_t201 0) :: (36,pT nb_t201 (0 + 2)) :: (37,sV nx_t201.ag) :: (38,iN nx_t201.ag.xs.length) :: (39,.tuple #[sV r_t390,iI (stsE (statesP nx_t201.b.2.staged (rdsP (⟨nx_t201.b.2.staged,nx_t201.b.2.rounds⟩ : Plan)) ((nx_t201.ag.xs.length : Nat) : Int)))]) :: (26,.tuple #[sV r_t390,iI (stsE (statesP nx_t201.b.2.staged (rdsP (⟨nx_t201.b.2.staged,nx_t201.b.2.rounds⟩ : Plan)) ((nx_t201.ag.xs.length : Nat) : Int)))]) :: (40,sV r_t390) :: (41,iI (stsE (statesP nx_t201.b.2.staged (rdsP (⟨nx_t201.b.2.staged,nx_t201.b.2.rounds⟩ : Plan)) ((nx_t201.ag.xs.length : Nat) : Int)))) :: (7,sV r_t390) :: (8,iI (stsE (statesP nx_t201.b.2.staged (rdsP (⟨nx_t201.b.2.staged,nx_t201.b.2.rounds⟩ : Plan)) ((nx_t201.ag.xs.length : Nat) : Int)))) :: []) (subM rfl);dsimp only at S;have hST : r_t390.xs.map (fun l=>l.xs) = Z:=hr_t390.trans (congrArg stsD hBeg.sts);have hsl:=congrArg List.length hST;rw [List.length_map,hBeg.P.s1] at hsl;have hwl : ∀ k,k ≤ R.length → (r_t390.xs.getD k (slE intE).dflt).xs.length = n:=fun k hk=>by rw [getD_map hST];exact hBeg.P.st _ (getD_mem (by rw [hBeg.P.s1];omega))
 have hn5 : r_t390.xs.length ≤ 9223372036854775807:=((S.u 7 rfl)).1.len;refine ent (wp_seq ?_);refine rs S (la (av rfl)) ?_;clear S;intro a u S;refine wp_block ?_;replace S:=S.oda (E:=slE (slE chgE)) (x:=nx_t201.b.2.rounds) (S.u 2 rfl);replace S:=S.oda (E:=slE (slE intE)) (x:=nx_t201.b.2.states) (S.u 3 rfl);replace S:=S.oda (E:=slE intE) (x:=nx_t201.b.2.target) (S.u 4 rfl);replace S:=S.oda (E:=slE intE) (x:=nx_t201.b.2.known) (S.u 5 rfl);replace S:=S.oda (E:=slE intE) (x:=nx_t201.b.2.waiting) (S.u 6 rfl);have hk7 : brK nx_t201.b.2:=⟨nk_t201.1,nk_t201.2⟩;replace S:=S.clsN 6 (brF nx_t201.b.1 nx_t201.b.2);replace S:=S.oda (E:=slE boolE) (x:=nx_t201.vol) (S.u 1 rfl);have hk8 : rrK (⟨nx_t201.b,nx_t201.vol,nx_t201.ag,nx_t201.cmds,nx_t201.msgs⟩ : RunR):=hk7;replace S:=S.clsN 2 (rrF nb_t201 (⟨nx_t201.b,nx_t201.vol,nx_t201.ag,nx_t201.cmds,nx_t201.msgs⟩ : RunR));refine lp3 (fun (i : Nat) (xj : Run) (yj : RunR)=>[(3,pT T17 0),(4,pT nb_t200 0),(5,pT nb_t201 0),(7,sV r_t390),(9,iN i)]) (fun (i : Nat) (xj : Run) (yj : RunR)=>[bnO (runF nb_t200 xj),tpO 112 T17 t_,bnO (rrF nb_t201 yj)]) (fun (i : Nat) (xj : Run) (yj : RunR)=>runK xj ∧ rrK yj ∧ (i ≤ 30 ∧ Run2 sg R Z n i xj yj)) (fun (i : Nat) (xj : Run) (yj : RunR)=>30 - i) S 0 nx_t200 (⟨(nx_t201.b.1,nx_t201.b.2),nx_t201.vol,(Sl.mk nx_t201.ag.a nx_t201.ag.c nx_t201.ag.xs),(Sl.mk nx_t201.cmds.a nx_t201.cmds.c nx_t201.cmds.xs),(Sl.mk nx_t201.msgs.a nx_t201.msgs.c nx_t201.msgs.xs)⟩ : RunR) (subM rfl) rfl ?_ ?_
 ·refine ⟨nk_t200,hk8,?_⟩;exact ⟨Nat.zero_le _,hBeg.two⟩
 clear S;intro i xj yj a u S hR;obtain ⟨hk_xj,hk_yj,hR⟩:=hR;obtain ⟨hi,hT⟩:=hR;obtain ⟨hO7,hS0⟩:=hT.T.a.ok7 bo;have hQ7:=hT.T.b.ok7 bo;have hEV:=hQ7.ev;have hrnj:=hT.T.b.rnl;have htnj:=hT.T.b.tn;have hOK : RunOK 8000000 xj:=ROK.mono hO7 (by decide);refine wp_seq ?_;refine rs S (tr (mv rfl)<|la (lssi rfl rfl)) ?_;clear S;intro a u S;refine cd S rfl ?_ ?_
 ·intro hc0;refine wp_skip (then_n (wp_seq (wp_block (rs0 ?_))));refine sp S (la (mv rfl)) ?_; clear S; intro a u S;refine cl S (rCtl _ _ (S.xx [In (ow (runF nb_t200 xj))]) (.nil _) (nb_t200, xj) (S.rob hD 0 rfl (X := fun D => (ptE runE 137).wf D _ (nb_t200, xj)) (rd_run hk_xj) _ (by simp)) (by first | assumption | exact hOK | exact (hT.sm hBeg bo (by assumption) (by assumption)).1)) cB54 ?_;rintro e u ⟨ra_t47_3, rc_t47_3, ra_t47_4, rc_t47_4, ra_t47_5, rc_t47_5, rfl, R_t47_3, R_t47_4, R_t47_5, T0⟩; refine ⟨_, rfl, fun a s => ?_⟩;replace S := (S.krx [⟨_, intE, 3, ra_t47_5, rc_t47_5, xj.m.2.waiting.xs⟩, ⟨_, intE, 3, ra_t47_4, rc_t47_4, xj.m.2.known.xs⟩, ⟨_, intE, 3, ra_t47_3, rc_t47_3, xj.m.2.target.xs⟩] s T0 ⟨R_t47_5, R_t47_4, R_t47_3, trivial⟩ ⟨fun _ _ _ _ h => h, fun _ _ _ _ h => h, fun _ _ _ _ h => h, trivial⟩).sh; clear s T0 R_t47_5 R_t47_4 R_t47_3;refine nbp S (x_allocz _ iZ57 rfl) ?_; clear S; intro a u b10 S;refine ens S (la (stkw 6 rfl rfl rfl)) ?_; clear S; intro a u S;refine rs0 ?_;refine sp S (tr (mv rfl)<|la (mv rfl)) ?_; clear S; intro a u S;refine cl S (gEvent _ _ (S.xx [In (ow (rrF nb_t201 yj))]) T17 (S.M.pick [1] (by decide)) t_ (dnxJ (js := [1]) (S.u 0 rfl)) (S.t 1 rfl) (nb_t201, yj) (S.robJ hD [1] 2 rfl (X := fun D => (ptE rrE 95).wf D _ (nb_t201, yj)) (rd_rr hk_yj) _ (by simp)) (by first | assumption | exact hEV)) cB44 ?_;rintro e u ⟨r_t50, rfl, R_t50, tK, T0⟩; refine ⟨_, rfl, fun a s => ?_⟩;replace S := (S.k1 1 rfl s T0 tK).ar (wfF evtE r_t50) R_t50; clear s T0 tK R_t50;obtain ⟨hl12, hu12⟩ : inI64 r_t50.kind := id ((S.u 8 rfl).1);obtain ⟨hl13, hu13⟩ : inI64 r_t50.dev := id ((S.u 8 rfl).2);refine nbp S (x_allocz _ iZ78 rfl) ?_; clear S; intro a u b11 S;refine ens S (la (stkw 7 rfl rfl rfl)) ?_; clear S; intro a u S;refine wp_seq (wp_seq ?_);refine drH (P := Try.prog) (Run × RunR) ((runE.dflt), (rrE.dflt)) (fun g => [wfF (slE intE) t_, wfF (slE boolE) nx_t201.vol, wfF (slE (slE chgE)) nx_t201.b.2.rounds, wfF (slE (slE intE)) nx_t201.b.2.states, wfF (slE intE) nx_t201.b.2.target, wfF (slE intE) nx_t201.b.2.known, wfF (slE intE) nx_t201.b.2.waiting, wfF (slE (slE intE)) r_t390, wfF evtE r_t50]) (fun g => [bnO (runF nb_t200 xj), tpO 112 T17 t_, bnO (rrF nb_t201 yj), rwO intE 3 w.heap.size ra_t47_5 rc_t47_5 xj.m.2.waiting.xs, rwO intE 3 w.heap.size ra_t47_4 rc_t47_4 xj.m.2.known.xs, rwO intE 3 w.heap.size ra_t47_3 rc_t47_3 xj.m.2.target.xs, blO b10 [iI xj.m.2.round, bD (xj.m.2.back = true), iI xj.m.2.seq, .slice ra_t47_3 xj.m.2.target.xs.length rc_t47_3, .slice ra_t47_4 xj.m.2.known.xs.length rc_t47_4, .slice ra_t47_5 xj.m.2.waiting.xs.length rc_t47_5] 57, blO b11 (evtE.cells r_t50) 78]) [⟨0, 51, 0, 0, [], [0], fun g => pT nb_t200 0, []⟩, ⟨1, 52, 0, 0, [], [1], fun g => .agg (evtE.cells r_t50).toArray, []⟩, ⟨3, 54, 0, 1, [], [3], fun g => pT nb_t201 0, []⟩, ⟨4, 55, 0, 1, [], [4], fun g => .agg (evtE.cells r_t50).toArray, []⟩, ⟨6, 57, 2, 2, [5], [], fun g => .bool false, [53, 56]⟩] [] [⟨2, some 53, fun g => bD (canR (absR xj) r_t50), [51, 52], fun g => [wfF (slE intE) t_, wfF (slE boolE) nx_t201.vol, wfF (slE (slE chgE)) nx_t201.b.2.rounds, wfF (slE (slE intE)) nx_t201.b.2.states, wfF (slE intE) nx_t201.b.2.target, wfF (slE intE) nx_t201.b.2.known, wfF (slE intE) nx_t201.b.2.waiting, wfF (slE (slE intE)) r_t390, wfF evtE r_t50], fun g => [tpO 112 T17 t_, bnO (rrF nb_t201 yj), rwO intE 3 w.heap.size ra_t47_5 rc_t47_5 xj.m.2.waiting.xs, rwO intE 3 w.heap.size ra_t47_4 rc_t47_4 xj.m.2.known.xs, rwO intE 3 w.heap.size ra_t47_3 rc_t47_3 xj.m.2.target.xs, blO b10 [iI xj.m.2.round, bD (xj.m.2.back = true), iI xj.m.2.seq, .slice ra_t47_3 xj.m.2.target.xs.length rc_t47_3, .slice ra_t47_4 xj.m.2.known.xs.length rc_t47_4, .slice ra_t47_5 xj.m.2.waiting.xs.length rc_t47_5] 57, blO b11 (evtE.cells r_t50) 78, bnO (runF nb_t200 g.1)], fun g => runK g.1 ∧ ((canR (absR xj) r_t50 → KeepR xj g.1 ∧ absR g.1 = doR (rdsM xj.m.2) (stsM xj.m.2) (absR xj) r_t50) ∧ (¬ canR (absR xj) r_t50 → g.1 = xj))⟩, ⟨5, some 56, fun g => bD (canR (absRR yj) r_t50), [54, 55], fun g => [wfF (slE intE) t_, wfF (slE boolE) nx_t201.vol, wfF (slE (slE chgE)) nx_t201.b.2.rounds, wfF (slE (slE intE)) nx_t201.b.2.states, wfF (slE intE) nx_t201.b.2.target, wfF (slE intE) nx_t201.b.2.known, wfF (slE intE) nx_t201.b.2.waiting, wfF (slE (slE intE)) r_t390, wfF evtE r_t50], fun g => [tpO 112 T17 t_, rwO intE 3 w.heap.size ra_t47_5 rc_t47_5 xj.m.2.waiting.xs, rwO intE 3 w.heap.size ra_t47_4 rc_t47_4 xj.m.2.known.xs, rwO intE 3 w.heap.size ra_t47_3 rc_t47_3 xj.m.2.target.xs, blO b10 [iI xj.m.2.round, bD (xj.m.2.back = true), iI xj.m.2.seq, .slice ra_t47_3 xj.m.2.target.xs.length rc_t47_3, .slice ra_t47_4 xj.m.2.known.xs.length rc_t47_4, .slice ra_t47_5 xj.m.2.waiting.xs.length rc_t47_5] 57, blO b11 (evtE.cells r_t50) 78, bnO (runF nb_t200 g.1), bnO (rrF nb_t201 g.2)], fun g => runK g.1 ∧ ((canR (absR xj) r_t50 → KeepR xj g.1 ∧ absR g.1 = doR (rdsM xj.m.2) (stsM xj.m.2) (absR xj) r_t50) ∧ (¬ canR (absR xj) r_t50 → g.1 = xj)) ∧ rrK g.2 ∧ ((canR (absRR yj) r_t50 → KeepQ yj g.2 ∧ absRR g.2 = doR (rdB yj.b.2) (stB yj.b.2) (absRR yj) r_t50) ∧ (¬ canR (absRR yj) r_t50 → g.2 = yj))⟩] [[2]] [] [] S (fun y hy => by cases hy) (fun ⟨rn_t53, rr_t56⟩ => ⟨rfl, rfl, rfl, rfl, rfl, rfl, rfl, trivial⟩) ?_ ?_ ⟨⟨_, rfl, rfl, ?_⟩, ⟨_, rfl, rfl, ?_⟩, trivial⟩ ?_
  ·intro k g hk; obtain ⟨rn_t53, rr_t56⟩ := g; obtain rfl | rfl | rfl : k = 0 ∨ k = 1 ∨ k = 2 := by simp only [List.length_cons, List.length_nil] at hk; omega
   ·exact ⟨lkq rfl fun S=>x_move (S.e rfl),lkq rfl fun S=>x_ldw (S.e rfl) (S.k 7 rfl).all wD78,lkq rfl fun S=>x_move (S.e rfl),lkq rfl fun S=>x_ldw (S.e rfl) (S.k 7 rfl).all wD78,lkm,trivial⟩
   ·exact ⟨lkn,lkn,lkq rfl fun S=>x_move (S.e rfl),lkq rfl fun S=>x_ldw (S.e rfl) (S.k 6 rfl).all wD78,lkm,trivial⟩
   exact ⟨lkn,lkn,lkn,lkn,lkq rfl fun S=>exv (x_bpneq uT4 (S.e rfl) (S.e rfl)) (vbf (fun h=>h (by rw [hT.T.e]))),trivial⟩
  ·exact fun _ _ _=>trivial
  ·skip;intro g a u h;obtain ⟨rn_t53,rr_t56⟩:=g;obtain ⟨S,hR,hN⟩:=h;replace S:=S.h0;dsimp only at S;replace S:=S.pkc [1,2,3,4,5,6,7,0];replace S:=S.spl 7;refine cl S (rDo _ _ S.xxF nb_t200 xj S.mF (S.nfF hD) hk_xj (S.dF   0 rfl (mo_bn (mo_run _ _))) r_t50 (dnF   (S.u 8 rfl)) (⟨by first | assumption | exact hOK,by first | assumption | exact hS0⟩)) cB45 ?_;rintro e u ⟨rn_t53,rfl,hk_rn_t53,hK_rn_t53,hq_rn_t53,T0⟩;refine ⟨_,rfl,fun a s=>?_⟩;have S2:=S.kF   [bnO (runF nb_t200 rn_t53)] s T0 ⟨hK_rn_t53,trivial⟩ ⟨(mo_bn (mo_run _ _)),trivial⟩;replace S2:=S2.sh;clear S;have S:=S2;clear S2 s T0 hK_rn_t53;refine ent ?_;exact ⟨S.s.defers,(rn_t53,rr_t56),(fun d h=>by obtain rfl:=Option.some.inj h;exact S.s.get _ _ rfl),agz,trivial,trivial,S.m,⟨hk_rn_t53,hq_rn_t53⟩⟩
  ·skip;intro g a u h;obtain ⟨rn_t53,rr_t56⟩:=g;obtain ⟨S,hR,hN⟩:=h;obtain ⟨hk_rn_t53,hq_rn_t53⟩ : runK rn_t53 ∧ ((canR (absR xj) r_t50 → KeepR xj rn_t53 ∧ absR rn_t53 = doR (rdsM xj.m.2) (stsM xj.m.2) (absR xj) r_t50) ∧ (¬ canR (absR xj) r_t50 → rn_t53 = xj)):=hR;replace S:=S.hk (k:=0);dsimp only at S;replace S:=S.pkc [0,2,3,4,5,6,7,1];replace S:=S.spl 7;refine cl S (qDo _ _ S.xxF nb_t201 yj S.mF (S.nfF hD) hk_yj (S.dF   0 rfl (mo_bn (mo_rr _ _))) r_t50 (dnF   (S.u 8 rfl)) (by first | assumption | exact hOK)) cB46 ?_;rintro e u ⟨rr_t56,rfl,hk_rr_t56,hK_rr_t56,hq_rr_t56,T0⟩;refine ⟨_,rfl,fun a s=>?_⟩;have S2:=S.kF   [bnO (rrF nb_t201 rr_t56)] s T0 ⟨hK_rr_t56,trivial⟩ ⟨(mo_bn (mo_rr _ _)),trivial⟩;replace S2:=S2.sh;clear S;have S:=S2;clear S2 s T0 hK_rr_t56;refine ent ?_;exact ⟨S.s.defers,(rn_t53,rr_t56),(fun d h=>by obtain rfl:=Option.some.inj h;exact S.s.get _ _ rfl),agz,trivial,⟨rfl,trivial⟩,S.m,⟨hk_rn_t53,hq_rn_t53,hk_rr_t56,hq_rr_t56⟩⟩
  clear S;intro g a u hA S hR;obtain ⟨rn_t53,rr_t56⟩:=g;obtain ⟨hk_rn_t53,hq_rn_t53,hk_rr_t56,hq_rr_t56⟩ : runK rn_t53 ∧ ((canR (absR xj) r_t50 → KeepR xj rn_t53 ∧ absR rn_t53 = doR (rdsM xj.m.2) (stsM xj.m.2) (absR xj) r_t50) ∧ (¬ canR (absR xj) r_t50 → rn_t53 = xj)) ∧ rrK rr_t56 ∧ ((canR (absRR yj) r_t50 → KeepQ yj rr_t56 ∧ absRR rr_t56 = doR (rdB yj.b.2) (stB yj.b.2) (absRR yj) r_t50) ∧ (¬ canR (absRR yj) r_t50 → rr_t56 = yj)):=hR;replace S:=(S.hk (k:=1)).l [(3,pT T17 0),(4,pT nb_t200 0),(5,pT nb_t201 0),(7,sV r_t390),(9,iN i),(42,iN i),(43,bD (((i : Nat) : Int) < 30)),(46,pT nb_t200 0),(47,.agg #[iI xj.m.2.round,bD (xj.m.2.back = true),iI xj.m.2.seq,.slice ra_t47_3 xj.m.2.target.xs.length rc_t47_3,.slice ra_t47_4 xj.m.2.known.xs.length rc_t47_4,.slice ra_t47_5 xj.m.2.waiting.xs.length rc_t47_5]),(10,pT b10 0),(48,pT T17 0),(49,pT nb_t201 0),(50,.agg (evtE.cells r_t50).toArray),(11,pT b11 0),(51,pT nb_t200 0),(52,.agg (evtE.cells r_t50).toArray),(54,pT nb_t201 0),(55,.agg (evtE.cells r_t50).toArray),(53,bD (canR (absR xj) r_t50)),(56,bD (canR (absRR yj) r_t50)),(57,.bool false)] (subM rfl);dsimp only at S;refine ent ?_;refine cdf S rfl ?_;refine wp_skip (then_n (rs0 ?_));refine sp S (la (mv rfl)) ?_;clear S;intro a u S;refine cl S (rCtl _ _ (S.xx [In (ow (runF nb_t200 rn_t53))]) (.nil _) (nb_t200,rn_t53) (S.rob hD 6 rfl (X:=fun D=>(ptE runE 137).wf D _ (nb_t200,rn_t53)) (rd_run hk_rn_t53) _ (by simp)) (by first | assumption | exact hOK | exact (hT.sm hBeg bo (by assumption) (by assumption)).1)) cB54 ?_;rintro e u ⟨ra_t59_3,rc_t59_3,ra_t59_4,rc_t59_4,ra_t59_5,rc_t59_5,rfl,R_t59_3,R_t59_4,R_t59_5,T0⟩;refine ⟨_,rfl,fun a s=>?_⟩;replace S:=(S.krx [⟨_,intE,3,ra_t59_5,rc_t59_5,rn_t53.m.2.waiting.xs⟩,⟨_,intE,3,ra_t59_4,rc_t59_4,rn_t53.m.2.known.xs⟩,⟨_,intE,3,ra_t59_3,rc_t59_3,rn_t53.m.2.target.xs⟩] s T0 ⟨R_t59_5,R_t59_4,R_t59_3,trivial⟩ ⟨fun _ _ _ _ h=>h,fun _ _ _ _ h=>h,fun _ _ _ _ h=>h,trivial⟩).sh;clear s T0 R_t59_5 R_t59_4 R_t59_3;refine nbp S (x_allocz _ iZ57 rfl) ?_;clear S;intro a u b12 S;refine ens S (la (stkw 11 rfl rfl rfl)) ?_;clear S;intro a u S;refine wp_seq ?_;refine rs S (tr (fldi 0 0 rfl uT57)<|tr (ldk 11 sC3 rfl rfl rfl)<|tr (fldi 0 0 rfl uT57)<|tr (ldk 4 sC3 rfl rfl rfl)<|tr (eqli rfl rfl)<|tr (mv rfl)<|tr (og 65 rfl gf fun S hg=>xf (0) 1 uT57 (S.e rfl))<|tr (og 65 rfl gf fun S hg=>x_load sC4 (S.p rfl hg) ((S.k 11 rfl).cell (j:=1) rfl))<|tr (og 65 rfl gf fun S hg=>xf (0) 1 uT57 (S.e rfl))<|tr (og 65 rfl gf fun S hg=>x_load sC4 (S.p rfl hg) ((S.k 4 rfl).cell (j:=1) rfl))<|tr (og 65 rfl gf fun S hg=>x_bpneq uT4 (S.p rfl hg) (S.p rfl hg))<|tr (ori rfl rfl rfl)<|tr (mv rfl)<|tr (og 72 rfl gf fun S hg=>xf (0) 0 uT57 (S.e rfl))<|tr (og 72 rfl gf fun S hg=>x_load sC3 (S.p rfl hg) ((S.k 4 rfl).cell (j:=0) rfl))<|tr (og 72 rfl gf fun S hg=>x_lss (S.p rfl hg) (S.e rfl))<|tr (ori rfl rfl rfl)<|tr (mv rfl)<|tr (og 77 rfl gf fun S hg=>xf (0) 0 uT57 (S.e rfl))<|tr (og 77 rfl gf fun S hg=>x_load sC3 (S.p rfl hg) ((S.k 4 rfl).cell (j:=0) rfl))<|tr (og 77 rfl gf fun S hg=>x_move (S.e rfl))<|tr (og 77 rfl gf fun S hg=>x_len uT66 (S.p rfl hg))<|tr (og 77 rfl gf fun S hg=>x_sub (S.p rfl hg) (S.e rfl) (r:=(((r_t390.xs.length : Nat) : Int) - 1)) (w_i64 bo))<|tr (og 77 rfl gf fun S hg=>x_geq (S.p rfl hg) (S.p rfl hg))<|la (ori rfl rfl rfl)) ?_;clear S;intro a u S;refine cd S rfl ?_ ?_
  ·intro hc1;refine wp_exit (then_e (blk_e (then_n ?_)));refine rg S (tr (mv rfl)<|tr (addi ((i + 1 : Nat) : Int) rfl rfl (w_i64 bo))<|la (av rfl)) ?_; clear S; intro a u S;replace S := S.pk [6, 0, 7];refine then_n ?_;refine ⟨(i + 1), rn_t53, rr_t56, S.re (subM rfl) rfl rfl, ?_, ?_⟩
   ·refine ⟨hk_rn_t53,hk_rr_t56,?_⟩;exact ⟨by omega,hT.step hBeg hq_rn_t53 hq_rr_t56⟩
   omega
  intro hc2;obtain ⟨hz1,hz4⟩:=not_or.1 hc2;obtain ⟨hz2,hz3⟩:=not_or.1 hz1;obtain ⟨hzr,hzb⟩:=not_or.1 hz2;have htx : xj.m.2.target.xs.length = n:=hT.T.a.tn;have htr : rr_t56.ag.xs.length = n:=(hT.T.b.step hq_rr_t56).1.tn;have hwa:=hwl xj.m.2.round.toNat bo;have hwb:=hwl (xj.m.2.round + 1).toNat bo;refine wp_skip (then_n (wp_seq (wp_seq ?_)));replace S:=S.pkc [0,1,2,3,4,5,6,8,9,10,11,7];replace S:=S.opnN 11 [blO nb_t201 [pT rr_t56.b.1 0,sV rr_t56.vol,sV rr_t56.ag,sV rr_t56.cmds,sV rr_t56.msgs] 95,rwO agtE 101 0 rr_t56.ag.a rr_t56.ag.c rr_t56.ag.xs,rwO (slE cmdE) 145 0 rr_t56.cmds.a rr_t56.cmds.c rr_t56.cmds.xs,rwO (slE msgE) 142 0 rr_t56.msgs.a rr_t56.msgs.c rr_t56.msgs.xs,bnO (brF rr_t56.b.1 rr_t56.b.2),daO (slE boolE) rr_t56.vol];replace S:=S.ar (wfF (slE boolE) rr_t56.vol) (S.da 16 rfl);replace S:=S.pkc [0,1,2,3,4,5,6,7,8,9,10,11,12,13,14,15];have : rr_t56.ag.xs.length ≤ 9223372036854775807:=(S.row 12 rfl).len_le;have : rr_t56.cmds.xs.length ≤ 9223372036854775807:=(S.row 13 rfl).len_le;have : rr_t56.msgs.xs.length ≤ 9223372036854775807:=(S.row 14 rfl).len_le;have : rr_t56.vol.xs.length ≤ 9223372036854775807:=((S.u 9 rfl)).1.len;refine dr (P:=Try.prog) S 9 [] [(85,.is _),(86,.is _),(87,.is _),(88,.is _),(89,.is _),(90,.is _),(91,.is _),(92,.is _),(93,.is _)] [[],[85],[86],[],[88],[89],[90],[91],[87,92]] [93] _ ⟨qd (fldi 0 3 rfl uT57),qd (ldk 4 sC22 rfl rfl rfl),qd (leni uT22 rfl),qd (mv rfl),qd (ov fun S=>x_nilck (S.e rfl)),qd (fldi 0 2 rfl uT95),qd (ldk 11 sC91 rfl rfl rfl),qd (leni uT91 rfl),qd (neqi rfl rfl),trivial⟩ ?_;clear S;intro a u S G hE;refine ent ?_;refine cd S rfl ?_ ?_
  ·intro hc3;refine rs S (la (av rfl)) ?_; clear S; intro a u S;refine wp_ret (then_r (blk_r (then_r (then_r (blk_r (then_r ?_))))));refine ret1 rfl S.s rfl ?_;replace S := S.pk [];refine ⟨(r1 (vf ?_)), S.m.c⟩
   first
   | trivial
   | (exfalso;omega)
   | (exfalso
      obtain ⟨⟨⟨⟨g1,g2⟩,_⟩,g3⟩,g4⟩:=hc3;obtain ⟨s1,s2,s3⟩:=hT.T.a.step hq_rn_t53
      by_cases hcan : canR (absR xj) r_t50
      ·have e:=s2 hcan;have hA : r_t1060 = ((absR rn_t53).st.getD d psD).ag:=by
        rw [show r_t1060 = agR (absR rn_t53) d from hr_t1060,agR_in (by have h2 : (absR rn_t53).st.length = rn_t53.sts.xs.length:=List.length_map _;have h3:=s1.len;omega)];rfl
       rw [hA,e] at g1 g2 g3;refine g3 (waits_ok hBeg.P hBeg.Q hT.I hcan g4 ?_ ?_ bo g1 g2)
       ·rw [← e];exact hzr
       rw [← e];exact (show rn_t53.m.2.back = xj.m.2.back from by simpa using hzb)
      have e:=s3 hcan;subst e
      exact hzr rfl)
  intro hc4;refine wp_skip (then_n ?_);refine rs S (la (av rfl)) ?_;clear S;intro a u S;refine wp_block ?_;refine lp1 (fun (d : Nat)=>[(3,pT T17 0),(4,pT nb_t200 0),(5,pT nb_t201 0),(7,sV r_t390),(9,iN i),(42,iN i),(43,bD (((i : Nat) : Int) < 30)),(46,pT nb_t200 0),(47,.agg #[iI xj.m.2.round,bD (xj.m.2.back = true),iI xj.m.2.seq,.slice ra_t47_3 xj.m.2.target.xs.length rc_t47_3,.slice ra_t47_4 xj.m.2.known.xs.length rc_t47_4,.slice ra_t47_5 xj.m.2.waiting.xs.length rc_t47_5]),(10,pT b10 0),(48,pT T17 0),(49,pT nb_t201 0),(50,.agg (evtE.cells r_t50).toArray),(11,pT b11 0),(51,pT nb_t200 0),(52,.agg (evtE.cells r_t50).toArray),(54,pT nb_t201 0),(55,.agg (evtE.cells r_t50).toArray),(53,bD (canR (absR xj) r_t50)),(56,bD (canR (absRR yj) r_t50)),(57,.bool false),(58,pT nb_t200 0),(59,.agg #[iI rn_t53.m.2.round,bD (rn_t53.m.2.back = true),iI rn_t53.m.2.seq,.slice ra_t59_3 rn_t53.m.2.target.xs.length rc_t59_3,.slice ra_t59_4 rn_t53.m.2.known.xs.length rc_t59_4,.slice ra_t59_5 rn_t53.m.2.waiting.xs.length rc_t59_5]),(12,pT b12 0),(60,pT b12 (0 + 0)),(61,iI rn_t53.m.2.round),(62,pT b10 (0 + 0)),(63,iI xj.m.2.round),(64,bD (rn_t53.m.2.round = xj.m.2.round)),(65,bD (rn_t53.m.2.round = xj.m.2.round)),(66,(if (¬ (rn_t53.m.2.round = xj.m.2.round)) then pT b12 (0 + 1) else undef)),(67,(if (¬ (rn_t53.m.2.round = xj.m.2.round)) then bD (rn_t53.m.2.back = true) else undef)),(68,(if (¬ (rn_t53.m.2.round = xj.m.2.round)) then pT b10 (0 + 1) else undef)),(69,(if (¬ (rn_t53.m.2.round = xj.m.2.round)) then bD (xj.m.2.back = true) else undef)),(70,(if (¬ (rn_t53.m.2.round = xj.m.2.round)) then bD (¬ ((rn_t53.m.2.back = true) ↔ (xj.m.2.back = true))) else undef)),(71,bD ((rn_t53.m.2.round = xj.m.2.round) ∨ (¬ ((rn_t53.m.2.back = true) ↔ (xj.m.2.back = true))))),(72,bD ((rn_t53.m.2.round = xj.m.2.round) ∨ (¬ ((rn_t53.m.2.back = true) ↔ (xj.m.2.back = true))))),(73,(if (¬ ((rn_t53.m.2.round = xj.m.2.round) ∨ (¬ ((rn_t53.m.2.back = true) ↔ (xj.m.2.back = true))))) then pT b10 (0 + 0) else undef)),(74,(if (¬ ((rn_t53.m.2.round = xj.m.2.round) ∨ (¬ ((rn_t53.m.2.back = true) ↔ (xj.m.2.back = true))))) then iI xj.m.2.round else undef)),(75,(if (¬ ((rn_t53.m.2.round = xj.m.2.round) ∨ (¬ ((rn_t53.m.2.back = true) ↔ (xj.m.2.back = true))))) then bD (xj.m.2.round < 0) else undef)),(76,bD (((rn_t53.m.2.round = xj.m.2.round) ∨ (¬ ((rn_t53.m.2.back = true) ↔ (xj.m.2.back = true)))) ∨ (xj.m.2.round < 0))),(77,bD (((rn_t53.m.2.round = xj.m.2.round) ∨ (¬ ((rn_t53.m.2.back = true) ↔ (xj.m.2.back = true)))) ∨ (xj.m.2.round < 0))),(78,(if (¬ (((rn_t53.m.2.round = xj.m.2.round) ∨ (¬ ((rn_t53.m.2.back = true) ↔ (xj.m.2.back = true)))) ∨ (xj.m.2.round < 0))) then pT b10 (0 + 0) else undef)),(79,(if (¬ (((rn_t53.m.2.round = xj.m.2.round) ∨ (¬ ((rn_t53.m.2.back = true) ↔ (xj.m.2.back = true)))) ∨ (xj.m.2.round < 0))) then iI xj.m.2.round else undef)),(80,(if (¬ (((rn_t53.m.2.round = xj.m.2.round) ∨ (¬ ((rn_t53.m.2.back = true) ↔ (xj.m.2.back = true)))) ∨ (xj.m.2.round < 0))) then sV r_t390 else undef)),(81,(if (¬ (((rn_t53.m.2.round = xj.m.2.round) ∨ (¬ ((rn_t53.m.2.back = true) ↔ (xj.m.2.back = true)))) ∨ (xj.m.2.round < 0))) then iN r_t390.xs.length else undef)),(82,(if (¬ (((rn_t53.m.2.round = xj.m.2.round) ∨ (¬ ((rn_t53.m.2.back = true) ↔ (xj.m.2.back = true)))) ∨ (xj.m.2.round < 0))) then iI (((r_t390.xs.length : Nat) : Int) - 1) else undef)),(83,(if (¬ (((rn_t53.m.2.round = xj.m.2.round) ∨ (¬ ((rn_t53.m.2.back = true) ↔ (xj.m.2.back = true)))) ∨ (xj.m.2.round < 0))) then bD ((((r_t390.xs.length : Nat) : Int) - 1) ≤ xj.m.2.round) else undef)),(84,bD ((((rn_t53.m.2.round = xj.m.2.round) ∨ (¬ ((rn_t53.m.2.back = true) ↔ (xj.m.2.back = true)))) ∨ (xj.m.2.round < 0)) ∨ ((((r_t390.xs.length : Nat) : Int) - 1) ≤ xj.m.2.round))),(93,bD (¬ ((xj.m.2.target.xs.length : Nat) : Int) = ((rr_t56.ag.xs.length : Nat) : Int))),(13,iN d)]) (fun (d : Nat)=>[tpO 112 T17 t_,rwO intE 3 w.heap.size ra_t47_5 rc_t47_5 xj.m.2.waiting.xs,rwO intE 3 w.heap.size ra_t47_4 rc_t47_4 xj.m.2.known.xs,rwO intE 3 w.heap.size ra_t47_3 rc_t47_3 xj.m.2.target.xs,blO b10 [iI xj.m.2.round,bD (xj.m.2.back = true),iI xj.m.2.seq,.slice ra_t47_3 xj.m.2.target.xs.length rc_t47_3,.slice ra_t47_4 xj.m.2.known.xs.length rc_t47_4,.slice ra_t47_5 xj.m.2.waiting.xs.length rc_t47_5] 57,blO b11 (evtE.cells r_t50) 78,bnO (runF nb_t200 rn_t53),rwO intE 3 w.heap.size ra_t59_5 rc_t59_5 rn_t53.m.2.waiting.xs,rwO intE 3 w.heap.size ra_t59_4 rc_t59_4 rn_t53.m.2.known.xs,rwO intE 3 w.heap.size ra_t59_3 rc_t59_3 rn_t53.m.2.target.xs,blO b12 [iI rn_t53.m.2.round,bD (rn_t53.m.2.back = true),iI rn_t53.m.2.seq,.slice ra_t59_3 rn_t53.m.2.target.xs.length rc_t59_3,.slice ra_t59_4 rn_t53.m.2.known.xs.length rc_t59_4,.slice ra_t59_5 rn_t53.m.2.waiting.xs.length rc_t59_5] 57,blO nb_t201 [pT rr_t56.b.1 0,sV rr_t56.vol,sV rr_t56.ag,sV rr_t56.cmds,sV rr_t56.msgs] 95,rwO agtE 101 0 rr_t56.ag.a rr_t56.ag.c rr_t56.ag.xs,rwO (slE cmdE) 145 0 rr_t56.cmds.a rr_t56.cmds.c rr_t56.cmds.xs,rwO (slE msgE) 142 0 rr_t56.msgs.a rr_t56.msgs.c rr_t56.msgs.xs,bnO (brF rr_t56.b.1 rr_t56.b.2)]) (fun (d : Nat)=>d ≤ n) (fun (d : Nat)=>n - d) S 0 (subM rfl) rfl ?_ ?_
  ·exact Nat.zero_le _
  clear S;intro d a u S hR;have hd:=hR;refine wp_seq ?_;refine rs S (tr (mv rfl)<|tr (mv rfl)<|tr (ov fun S=>x_nilck (S.e rfl))<|tr (fldi 0 2 rfl uT95)<|tr (ldk 11 sC91 rfl rfl rfl)<|tr (leni uT91 rfl)<|la (lssi rfl rfl)) ?_;clear S;intro a u S;refine cd S rfl ?_ ?_
  ·intro hc5;refine wp_skip (then_n (wp_seq (wp_block (rs0 ?_))));refine sp S (tr (mv rfl)<|la (mv rfl)) ?_; clear S; intro a u S;refine cl S (rAgent _ _ (S.xx [In (ow (runF nb_t200 rn_t53))]) (.nil _) (nb_t200, rn_t53) (S.rob hD 6 rfl (X := fun D => (ptE runE 137).wf D _ (nb_t200, rn_t53)) (rd_run hk_rn_t53) _ (by simp)) ((d : Nat) : Int) ⟨by omega, by omega⟩) cB55 ?_;rintro e u ⟨r_t1060, rfl, R_t1060, hr_t1060, T0⟩; refine ⟨_, rfl, fun a s => ?_⟩;replace S := (S.k0 s T0).ar (wfF agtE r_t1060) R_t1060; clear s T0 R_t1060;obtain ⟨hl21, hu21⟩ : inI64 r_t1060.run := id ((S.u 10 rfl).2.2.1);obtain ⟨hl22, hu22⟩ : inI64 r_t1060.sav := id ((S.u 10 rfl).2.2.2.1);obtain ⟨hl23, hu23⟩ : inI64 r_t1060.seq := id ((S.u 10 rfl).2.2.2.2.1);obtain ⟨hl24, hu24⟩ : inI64 r_t1060.inc := id ((S.u 10 rfl).2.2.2.2.2);refine sp S (tr (mv rfl)<|tr (exi rfl rfl)<|la (exi rfl rfl)) ?_; clear S; intro a u S;refine nbp S (x_allocz _ iZ101 rfl) ?_; clear S; intro a u b14 S;refine ens S (tr (stkw 16 rfl rfl rfl)<|la (av rfl)) ?_; clear S; intro a u S;refine wp_seq ?_;refine dr (P := Try.prog) S 42 [] ((109, .is _) :: (110, .is _) :: (111, .is _) :: (112, .is _) :: (113, .is _) :: (114, .is _) :: (115, .is _) :: (116, .is _) :: (117, .is _) :: (118, .is _) :: (119, .is _) :: (120, .is _) :: (121, .is _) :: (122, .is _) :: (123, .is _) :: (124, .is _) :: (125, .is _) :: (126, .is _) :: (127, .is _) :: (128, .is _) :: (129, .is _) :: (130, .is _) :: (131, .is _) :: (132, .is _) :: (133, .is _) :: (134, .is _) :: (135, .is _) :: (136, .is _) :: (137, .is _) :: (138, .is _) :: (139, .is _) :: (140, .is _) :: (141, .is _) :: (142, .is _) :: (143, .is _) :: (144, .is _) :: (145, .is _) :: (146, .is _) :: (147, .is _) :: (148, .is _) :: (149, .is _) :: (150, .is _) :: []) ([] :: [109] :: [110] :: [111] :: [111, 112] :: [111, 113] :: [111, 114] :: [115] :: [116] :: [116] :: [116, 118] :: [116, 117, 119] :: [116, 120] :: [116] :: [116, 121, 122] :: [116, 123] :: [116] :: [116] :: [116, 126] :: [116, 127] :: [116, 125, 128] :: [116, 129] :: [116] :: [116, 130, 131] :: [116, 132] :: [116, 124, 133] :: [116, 134] :: [135] :: [136] :: [136, 137] :: [136] :: [136, 139] :: [136] :: [136, 140, 141] :: [136, 142] :: [136, 138, 143] :: [136, 144] :: [145] :: [146] :: [146, 147] :: [146, 148] :: [146, 149] :: []) [150] _ ⟨qd (fldi 0 0 rfl uT101), qd (ldk 16 sC4 rfl rfl rfl), qd (mv rfl), qd (og 111 rfl gt fun S hg=>xf (0) 1 uT101 (S.e rfl)), qd (og 111 rfl gt fun S hg=>x_load sC4 (S.p rfl hg) ((S.k 16 rfl).cell (j := 1) rfl)), qd (og 111 rfl gt fun S hg=>x_notp (S.p rfl hg)), qd (andi rfl rfl rfl), qd (mv rfl), qd (og 116 rfl gt fun S hg=>x_move (S.e rfl)), qd (og 116 rfl gt fun S hg=>xf (0) 0 uT57 (S.e rfl)), qd (og 116 rfl gt fun S hg=>x_load sC3 (S.p rfl hg) ((S.k 4 rfl).cell (j := 0) rfl)), qd (og 116 rfl gt fun S hg=>x_idx uT66 sZ22 (S.p rfl hg) (S.p rfl hg) (xj.m.2.round).toNat bo bo (((S.u 7 rfl)).1.adr (i := (xj.m.2.round).toNat) bo)), qd (og 116 rfl gt fun S hg=>x_load sC22 (S.p rfl hg) (((S.u 7 rfl)).1.cell (xj.m.2.round).toNat bo 0 _ rfl)), qd (og 116 rfl gt fun S hg=>x_move (S.e rfl)), qd (og 116 rfl gt fun S hg=>x_idx uT22 sZ3 (S.p rfl hg) (S.p rfl hg) d rfl bo (((((S.u 7 rfl)).1.wf (xj.m.2.round).toNat bo)).1.adr (i := d) bo)), qd (og 116 rfl gt fun S hg=>x_load sC3 (S.p rfl hg) (((((S.u 7 rfl)).1.wf (xj.m.2.round).toNat bo)).1.cell d bo 0 _ rfl)), qd (og 116 rfl gt fun S hg=>x_move (S.e rfl)), qd (og 116 rfl gt fun S hg=>xf (0) 0 uT57 (S.e rfl)), qd (og 116 rfl gt fun S hg=>x_load sC3 (S.p rfl hg) ((S.k 4 rfl).cell (j := 0) rfl)), qd (og 116 rfl gt fun S hg=>x_add (S.p rfl hg) (S.e rfl) (r := (xj.m.2.round + 1)) (w_i64 bo)), qd (og 116 rfl gt fun S hg=>x_idx uT66 sZ22 (S.p rfl hg) (S.p rfl hg) ((xj.m.2.round + 1)).toNat bo bo (((S.u 7 rfl)).1.adr (i := ((xj.m.2.round + 1)).toNat) bo)), qd (og 116 rfl gt fun S hg=>x_load sC22 (S.p rfl hg) (((S.u 7 rfl)).1.cell ((xj.m.2.round + 1)).toNat bo 0 _ rfl)), qd (og 116 rfl gt fun S hg=>x_move (S.e rfl)), qd (og 116 rfl gt fun S hg=>x_idx uT22 sZ3 (S.p rfl hg) (S.p rfl hg) d rfl bo (((((S.u 7 rfl)).1.wf ((xj.m.2.round + 1)).toNat bo)).1.adr (i := d) bo)), qd (og 116 rfl gt fun S hg=>x_load sC3 (S.p rfl hg) (((((S.u 7 rfl)).1.wf ((xj.m.2.round + 1)).toNat bo)).1.cell d bo 0 _ rfl)), qd (og 116 rfl gt fun S hg=>x_neq (S.p rfl hg) (S.p rfl hg)), qd (andi rfl rfl rfl), qd (mv rfl), qd (og 136 rfl gt fun S hg=>xf (0) 3 uT101 (S.e rfl)), qd (og 136 rfl gt fun S hg=>x_load sC3 (S.p rfl hg) ((S.k 16 rfl).cell (j := 3) rfl)), qd (og 136 rfl gt fun S hg=>xf (0) 3 uT57 (S.e rfl)), qd (og 136 rfl gt fun S hg=>x_load sC22 (S.p rfl hg) ((S.k 4 rfl).cell (j := 3) rfl)), qd (og 136 rfl gt fun S hg=>x_move (S.e rfl)), qd (og 136 rfl gt fun S hg=>x_idx uT22 sZ3 (S.p rfl hg) (S.p rfl hg) d rfl bo (row_off (S.row 3 rfl) (m := d) bo)), qd (og 136 rfl gt fun S hg=>x_load sC3 (S.p rfl hg) (((S.row 3 rfl).latz nz).cell d bo 0 _ rfl)), qd (og 136 rfl gt fun S hg=>x_neq (S.p rfl hg) (S.p rfl hg)), qd (andi rfl rfl rfl), qd (mv rfl), qd (og 146 rfl gt fun S hg=>xf (0) 0 uT78 (S.e rfl)), qd (og 146 rfl gt fun S hg=>x_load sC3 (S.p rfl hg) ((S.k 5 rfl).cell (j := 0) rfl)), qd (og 146 rfl gt fun S hg=>x_neq (S.p rfl hg) (S.e rfl)), qd (andi rfl rfl rfl), trivial⟩ ?_;clear S; intro a u S G hE;refine ent ?_;refine cd S rfl ?_ ?_
   ·intro hc6;refine rs S (la (av rfl)) ?_; clear S; intro a u S;refine wp_ret (blk_r (then_r (then_r (blk_r (blk_r (then_r (then_r (blk_r (then_r ?_)))))))));refine ret1 rfl S.s rfl ?_;replace S := S.pk [];refine ⟨(r1 (vf ?_)), S.m.c⟩
    first
    | trivial
    | (exfalso;omega)
    | (exfalso
       obtain ⟨⟨⟨⟨g1,g2⟩,_⟩,g3⟩,g4⟩:=hc6;obtain ⟨s1,s2,s3⟩:=hT.T.a.step hq_rn_t53
       by_cases hcan : canR (absR xj) r_t50
       ·have e:=s2 hcan;have hA : r_t1060 = ((absR rn_t53).st.getD d psD).ag:=by
         rw [show r_t1060 = agR (absR rn_t53) d from hr_t1060,agR_in (by have h2 : (absR rn_t53).st.length = rn_t53.sts.xs.length:=List.length_map _;have h3:=s1.len;omega)];rfl
        rw [hA,e] at g1 g2 g3;refine g3 (waits_ok hBeg.P hBeg.Q hT.I hcan g4 ?_ ?_ bo g1 g2)
        ·rw [← e];exact hzr
        rw [← e];exact (show rn_t53.m.2.back = xj.m.2.back from by simpa using hzb)
       have e:=s3 hcan;subst e
       exact hzr rfl)
   intro hc7;refine wp_skip (blk_n (then_n ?_));refine rg S (tr (mv rfl)<|tr (addi ((d + 1 : Nat) : Int) rfl rfl (w_i64 bo))<|la (av rfl)) ?_;clear S;intro a u S;refine then_n ?_;refine ⟨(d + 1),S.re (subM rfl) rfl rfl,?_,?_⟩
   ·omega
   omega
  intro hc8;refine wp_exit (then_e (then_e (blk_e (blk_n (then_n ?_)))));refine rg S (tr (mv rfl)<|tr (addi ((i + 1 : Nat) : Int) rfl rfl (w_i64 bo))<|la (av rfl)) ?_;clear S;intro a u S;replace S:=S.oda (E:=slE boolE) (x:=rr_t56.vol) (S.u 9 rfl);have hk28 : rrK (⟨rr_t56.b,rr_t56.vol,rr_t56.ag,rr_t56.cmds,rr_t56.msgs⟩ : RunR):=hk_rr_t56;replace S:=S.clsN 11 (rrF nb_t201 (⟨rr_t56.b,rr_t56.vol,rr_t56.ag,rr_t56.cmds,rr_t56.msgs⟩ : RunR));replace S:=S.pk [6,0,11];refine then_n ?_;refine ⟨(i + 1),rn_t53,(⟨(rr_t56.b.1,rr_t56.b.2),rr_t56.vol,(Sl.mk rr_t56.ag.a rr_t56.ag.c rr_t56.ag.xs),(Sl.mk rr_t56.cmds.a rr_t56.cmds.c rr_t56.cmds.xs),(Sl.mk rr_t56.msgs.a rr_t56.msgs.c rr_t56.msgs.xs)⟩ : RunR),S.re (subM rfl) rfl rfl,?_,?_⟩
  ·refine ⟨hk_rn_t53,hk28,?_⟩;exact ⟨by omega,hT.step hBeg hq_rn_t53 hq_rr_t56⟩
  omega
 intro hc9;refine wp_exit (then_e (then_e (blk_e (then_n ?_))));refine rs S (tr (oc (fun S=>nSane _ _ S.x (.nil _)) cB48)<|la (av rfl)) ?_;clear S;intro a u S;refine wp_ret ?_;refine ret1 rfl S.s rfl ?_;replace S:=S.pk [];refine ⟨(r1 (vt ?_)),S.m.c⟩
 first
 | trivial
 | (exfalso;omega)
 | (exfalso
    obtain ⟨⟨⟨⟨g1,g2⟩,_⟩,g3⟩,g4⟩:=hc9;obtain ⟨s1,s2,s3⟩:=hT.T.a.step hq_rn_t53
    by_cases hcan : canR (absR xj) r_t50
    ·have e:=s2 hcan;have hA : r_t1060 = ((absR rn_t53).st.getD d psD).ag:=by
      rw [show r_t1060 = agR (absR rn_t53) d from hr_t1060,agR_in (by have h2 : (absR rn_t53).st.length = rn_t53.sts.xs.length:=List.length_map _;have h3:=s1.len;omega)];rfl
     rw [hA,e] at g1 g2 g3;refine g3 (waits_ok hBeg.P hBeg.Q hT.I hcan g4 ?_ ?_ bo g1 g2)
     ·rw [← e];exact hzr
     rw [← e];exact (show rn_t53.m.2.back = xj.m.2.back from by simpa using hzb)
    have e:=s3 hcan;subst e
    exact hzr rfl)
end Go.Proofs.Ytobggnpnochnnaa.V
