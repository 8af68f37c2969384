/- alive, IndexFunc, Device, Edge -/
import Derived.Test.YtfanmniaolncbaaW1
import Derived.Test.YtfanmniaolncbaaGrpF
namespace Go.Proofs.Ytfanmniaolncbaa.V
open Go.RowKit Go.Proofs.Ytfanmniaolncbaa
set_option linter.unusedVariables false
set_option linter.unusedSimpArgs false
noncomputable instance {α : Type} (l : List α) (p : α → Prop) : Decidable (∃ x ∈ l, p x) := Classical.propDecidable _
set_option maxHeartbeats 2000000 in
set_option maxRecDepth 20000 in
theorem fAlive0 (w : World) (F : Nat → Prop) (hF : Old F w) (M : MS [] w) (f : Fail) (f_w : failE.wf (Fr F []) w.heap f) (d : Int) (d_h : inI64 d) :
 Calls Try.prog 63 #[.agg (failE.cells f).toArray, iI d] w fun e w' => e = .returned (bD (¬ (d ∈ f.devs.xs))) ∧ Tr [] w [] w' := by
 have : f.links.xs.length ≤ 9223372036854775807 := (f_w.1).1.len
 have : f.devs.xs.length ≤ 9223372036854775807 := (f_w.2).1.len
 obtain ⟨d_hl, d_hu⟩ : inI64 d := id d_h
 refine go Try.func63 rfl 10 rfl [wfF failE f] [] hF M ⟨f_w, trivial⟩ trivial ?_
 intro a S
 refine rs0 ?_
 refine nbp S (x_box _ (S.e rfl) rfl) ?_; clear S; intro a u b2 S
 refine ens S (la (av rfl)) ?_; clear S; intro a u S
 refine rs S (tr (fldi 0 1 rfl uT41)<|tr (ldk 0 sC22 rfl rfl rfl)<|tr (mv rfl)<|tr (oc (fun S=>sContains _ _ S.x (.nil _) f.devs (dn0 ((S.u 0 rfl).2)) d d_h) cB94)<|tr (noti rfl)<|la (av rfl)) ?_; clear S; intro a u S
 refine wp_ret ?_
 refine ret1 rfl S.s rfl ?_
 replace S := S.pk []
 refine ⟨(r1 (vb ?_)), S.m.c⟩
 first | exact Iff.rfl | assumption | omega | simp_all
set_option maxHeartbeats 2000000 in
set_option maxRecDepth 20000 in
theorem iDev (w : World) (F : Nat → Prop) (hF : Old F w) (M : MS [] w) (s : Sl Dev) (s_w : (slE devE).wf (Fr F []) w.heap s) (p : Dev → Prop) [DecidablePred p] (p_f : FuncId) (p_caps : Array Value) (p_T : Tests Try.prog devE w p_f p_caps s.xs p) :
 Calls Try.prog 100 #[sV s, .func (.func p_f) #[] p_caps] w fun e w' => e = .returned (iI (idxOf (fun x => decide (p x)) s.xs)) ∧ Tr [] w [] w' := by
 have : s.xs.length ≤ 9223372036854775807 := (s_w).1.len
 refine go Try.func100 rfl 19 rfl [wfF (slE devE) s] [] hF M ⟨s_w, trivial⟩ trivial ?_
 intro a S
 refine rs S (la (av rfl)) ?_; clear S; intro a u S
 refine wp_seq ?_
 have hn3 : s.xs.length ≤ 9223372036854775807 := ((S.u 0 rfl)).1.len
 refine rs S (tr (mv rfl)<|tr (leni uT23 rfl)<|la (mv rfl)) ?_; clear S; intro a u S
 refine wp_block ?_
 refine lp1 (fun (k : Nat) => [(0, sV s), (1, .func (.func p_f) #[] p_caps), (7, iN s.xs.length), (8, iN k)]) (fun (k : Nat) => []) (fun (k : Nat) => k ≤ s.xs.length ∧ ∀ j, j < k → decide (p (s.xs.getD j devE.dflt)) = false) (fun (k : Nat) => s.xs.length - k) S 0 (subM rfl) rfl ?_ ?_
 ·exact ⟨Nat.zero_le _, fun j hj => by omega⟩
 clear S; intro k a u S hR
 obtain ⟨hk, hn⟩ := hR
 refine rs S (la (lssi rfl rfl)) ?_; clear S; intro a u S
 refine wp_seq ?_
 refine cd S rfl ?_ ?_
 ·intro hc0
  refine wp_skip (then_n (wp_seq (wp_block ?_)))
  refine rs S (tr (mv rfl)<|la (av rfl)) ?_; clear S; intro a u S
  obtain ⟨hl7, hu7⟩ : inI64 ((s.xs.getD k devE.dflt).cap) := id ((((S.u 0 rfl)).1.wf k (by omega)).2.1)
  refine rs S (tr (mv rfl)<|tr (mv rfl)<|tr (mv rfl)<|tr (idxi uT23 sZ65 rfl rfl k rfl (by omega) (((S.u 0 rfl)).1.adr (i := k) (by omega)))<|tr (ov fun S=>x_ldw (S.e rfl) (((S.u 0 rfl)).1.wcell k (by omega) _ rfl _ rfl) wD65)<|la (ocv p_T rfl rfl k (by omega) rfl (vs := #[.agg (devE.cells (s.xs.getD k devE.dflt)).toArray]) rfl rfl)) ?_; clear S; intro a u S
  refine cd S rfl ?_ ?_
  ·intro hc1
   refine rs S (tr (mv rfl)<|la (av rfl)) ?_; clear S; intro a u S
   refine wp_ret (blk_r (then_r (then_r (blk_r (then_r ?_)))))
   refine ret1 rfl S.s rfl ?_
   refine ⟨(r1 (vi ?_)), S.m.c⟩
   exact (idxOf_some (d := devE.dflt) (by omega) (decide_eq_true (by assumption)) hn).symm
  intro hc2
  refine wp_skip (blk_n (then_n ?_))
  refine rg S (tr (addi ((k + 1 : Nat) : Int) rfl rfl (w_i64 (by omega)))<|la (mv rfl)) ?_; clear S; intro a u S
  refine then_n ?_
  refine ⟨k + 1, S.re (subM rfl) rfl rfl, ?_, ?_⟩
  ·refine ⟨by omega, fun j hj => ?_⟩
   rcases Nat.lt_succ_iff_lt_or_eq.1 hj with h | h
   ·exact hn j h
   subst h; exact decide_eq_false (by assumption)
  omega
 intro hc3
 refine wp_exit (then_e (then_e (blk_e (then_n ?_))))
 refine rs S (la (av rfl)) ?_; clear S; intro a u S
 refine wp_ret ?_
 refine ret1 rfl S.s rfl ?_
 refine ⟨(r1 (vi ?_)), S.m.c⟩
 exact (idxOf_none (d := devE.dflt) (fun j hj => hn j (by omega))).symm
set_option maxHeartbeats 2000000 in
set_option maxRecDepth 20000 in
theorem iEdg (w : World) (F : Nat → Prop) (hF : Old F w) (M : MS [] w) (s : Sl Edg) (s_w : (slE edgE).wf (Fr F []) w.heap s) (p : Edg → Prop) [DecidablePred p] (p_f : FuncId) (p_caps : Array Value) (p_T : Tests Try.prog edgE w p_f p_caps s.xs p) :
 Calls Try.prog 102 #[sV s, .func (.func p_f) #[] p_caps] w fun e w' => e = .returned (iI (idxOf (fun x => decide (p x)) s.xs)) ∧ Tr [] w [] w' := by
 have : s.xs.length ≤ 9223372036854775807 := (s_w).1.len
 refine go Try.func102 rfl 19 rfl [wfF (slE edgE) s] [] hF M ⟨s_w, trivial⟩ trivial ?_
 intro a S
 refine rs S (la (av rfl)) ?_; clear S; intro a u S
 refine wp_seq ?_
 have hn3 : s.xs.length ≤ 9223372036854775807 := ((S.u 0 rfl)).1.len
 refine rs S (tr (mv rfl)<|tr (leni uT25 rfl)<|la (mv rfl)) ?_; clear S; intro a u S
 refine wp_block ?_
 refine lp1 (fun (k : Nat) => [(0, sV s), (1, .func (.func p_f) #[] p_caps), (7, iN s.xs.length), (8, iN k)]) (fun (k : Nat) => []) (fun (k : Nat) => k ≤ s.xs.length ∧ ∀ j, j < k → decide (p (s.xs.getD j edgE.dflt)) = false) (fun (k : Nat) => s.xs.length - k) S 0 (subM rfl) rfl ?_ ?_
 ·exact ⟨Nat.zero_le _, fun j hj => by omega⟩
 clear S; intro k a u S hR
 obtain ⟨hk, hn⟩ := hR
 refine rs S (la (lssi rfl rfl)) ?_; clear S; intro a u S
 refine wp_seq ?_
 refine cd S rfl ?_ ?_
 ·intro hc0
  refine wp_skip (then_n (wp_seq (wp_block ?_)))
  refine rs S (tr (mv rfl)<|la (av rfl)) ?_; clear S; intro a u S
  obtain ⟨hl7, hu7⟩ : inI64 ((s.xs.getD k edgE.dflt).dev) := id ((((S.u 0 rfl)).1.wf k (by omega)).2.1)
  obtain ⟨hl8, hu8⟩ : inU32 ((s.xs.getD k edgE.dflt).pfx.addr) := id ((((S.u 0 rfl)).1.wf k (by omega)).2.2.2.1.1)
  obtain ⟨hl9, hu9⟩ : inI64 ((s.xs.getD k edgE.dflt).pfx.bits) := id ((((S.u 0 rfl)).1.wf k (by omega)).2.2.2.1.2)
  refine rs S (tr (mv rfl)<|tr (mv rfl)<|tr (mv rfl)<|tr (idxi uT25 sZ71 rfl rfl k rfl (by omega) (((S.u 0 rfl)).1.adr (i := k) (by omega)))<|tr (ov fun S=>x_ldw (S.e rfl) (((S.u 0 rfl)).1.wcell k (by omega) _ rfl _ rfl) wD71)<|la (ocv p_T rfl rfl k (by omega) rfl (vs := #[.agg (edgE.cells (s.xs.getD k edgE.dflt)).toArray]) rfl rfl)) ?_; clear S; intro a u S
  refine cd S rfl ?_ ?_
  ·intro hc1
   refine rs S (tr (mv rfl)<|la (av rfl)) ?_; clear S; intro a u S
   refine wp_ret (blk_r (then_r (then_r (blk_r (then_r ?_)))))
   refine ret1 rfl S.s rfl ?_
   refine ⟨(r1 (vi ?_)), S.m.c⟩
   exact (idxOf_some (d := edgE.dflt) (by omega) (decide_eq_true (by assumption)) hn).symm
  intro hc2
  refine wp_skip (blk_n (then_n ?_))
  refine rg S (tr (addi ((k + 1 : Nat) : Int) rfl rfl (w_i64 (by omega)))<|la (mv rfl)) ?_; clear S; intro a u S
  refine then_n ?_
  refine ⟨k + 1, S.re (subM rfl) rfl rfl, ?_, ?_⟩
  ·refine ⟨by omega, fun j hj => ?_⟩
   rcases Nat.lt_succ_iff_lt_or_eq.1 hj with h | h
   ·exact hn j h
   subst h; exact decide_eq_false (by assumption)
  omega
 intro hc3
 refine wp_exit (then_e (then_e (blk_e (then_n ?_))))
 refine rs S (la (av rfl)) ?_; clear S; intro a u S
 refine wp_ret ?_
 refine ret1 rfl S.s rfl ?_
 refine ⟨(r1 (vi ?_)), S.m.c⟩
 exact (idxOf_none (d := edgE.dflt) (fun j hj => hn j (by omega))).symm
set_option maxHeartbeats 2000000 in
set_option maxRecDepth 20000 in
theorem iPfx (w : World) (F : Nat → Prop) (hF : Old F w) (M : MS [] w) (s : Sl Pfx) (s_w : (slE pfxE).wf (Fr F []) w.heap s) (p : Pfx → Prop) [DecidablePred p] (p_f : FuncId) (p_caps : Array Value) (p_T : Tests Try.prog pfxE w p_f p_caps s.xs p) :
 Calls Try.prog 106 #[sV s, .func (.func p_f) #[] p_caps] w fun e w' => e = .returned (iI (idxOf (fun x => decide (p x)) s.xs)) ∧ Tr [] w [] w' := by
 have : s.xs.length ≤ 9223372036854775807 := (s_w).1.len
 refine go Try.func106 rfl 19 rfl [wfF (slE pfxE) s] [] hF M ⟨s_w, trivial⟩ trivial ?_
 intro a S
 refine rs S (la (av rfl)) ?_; clear S; intro a u S
 refine wp_seq ?_
 have hn3 : s.xs.length ≤ 9223372036854775807 := ((S.u 0 rfl)).1.len
 refine rs S (tr (mv rfl)<|tr (leni uT26 rfl)<|la (mv rfl)) ?_; clear S; intro a u S
 refine wp_block ?_
 refine lp1 (fun (k : Nat) => [(0, sV s), (1, .func (.func p_f) #[] p_caps), (7, iN s.xs.length), (8, iN k)]) (fun (k : Nat) => []) (fun (k : Nat) => k ≤ s.xs.length ∧ ∀ j, j < k → decide (p (s.xs.getD j pfxE.dflt)) = false) (fun (k : Nat) => s.xs.length - k) S 0 (subM rfl) rfl ?_ ?_
 ·exact ⟨Nat.zero_le _, fun j hj => by omega⟩
 clear S; intro k a u S hR
 obtain ⟨hk, hn⟩ := hR
 refine rs S (la (lssi rfl rfl)) ?_; clear S; intro a u S
 refine wp_seq ?_
 refine cd S rfl ?_ ?_
 ·intro hc0
  refine wp_skip (then_n (wp_seq (wp_block ?_)))
  refine rs S (tr (mv rfl)<|la (av rfl)) ?_; clear S; intro a u S
  obtain ⟨hl7, hu7⟩ : inU32 ((s.xs.getD k pfxE.dflt).addr) := id ((((S.u 0 rfl)).1.wf k (by omega)).1)
  obtain ⟨hl8, hu8⟩ : inI64 ((s.xs.getD k pfxE.dflt).bits) := id ((((S.u 0 rfl)).1.wf k (by omega)).2)
  refine rs S (tr (mv rfl)<|tr (mv rfl)<|tr (mv rfl)<|tr (idxi uT26 sZ68 rfl rfl k rfl (by omega) (((S.u 0 rfl)).1.adr (i := k) (by omega)))<|tr (ov fun S=>x_ldw (S.e rfl) (((S.u 0 rfl)).1.wcell k (by omega) _ rfl _ rfl) wD68)<|la (ocv p_T rfl rfl k (by omega) rfl (vs := #[.agg (pfxE.cells (s.xs.getD k pfxE.dflt)).toArray]) rfl rfl)) ?_; clear S; intro a u S
  refine cd S rfl ?_ ?_
  ·intro hc1
   refine rs S (tr (mv rfl)<|la (av rfl)) ?_; clear S; intro a u S
   refine wp_ret (blk_r (then_r (then_r (blk_r (then_r ?_)))))
   refine ret1 rfl S.s rfl ?_
   refine ⟨(r1 (vi ?_)), S.m.c⟩
   exact (idxOf_some (d := pfxE.dflt) (by omega) (decide_eq_true (by assumption)) hn).symm
  intro hc2
  refine wp_skip (blk_n (then_n ?_))
  refine rg S (tr (addi ((k + 1 : Nat) : Int) rfl rfl (w_i64 (by omega)))<|la (mv rfl)) ?_; clear S; intro a u S
  refine then_n ?_
  refine ⟨k + 1, S.re (subM rfl) rfl rfl, ?_, ?_⟩
  ·refine ⟨by omega, fun j hj => ?_⟩
   rcases Nat.lt_succ_iff_lt_or_eq.1 hj with h | h
   ·exact hn j h
   subst h; exact decide_eq_false (by assumption)
  omega
 intro hc3
 refine wp_exit (then_e (then_e (blk_e (then_n ?_))))
 refine rs S (la (av rfl)) ?_; clear S; intro a u S
 refine wp_ret ?_
 refine ret1 rfl S.s rfl ?_
 refine ⟨(r1 (vi ?_)), S.m.c⟩
 exact (idxOf_none (d := pfxE.dflt) (fun j hj => hn j (by omega))).symm
set_option maxHeartbeats 2000000 in
set_option maxRecDepth 20000 in
theorem pContains (w : World) (F : Nat → Prop) (hF : Old F w) (M : MS [] w) (s : Sl Pfx) (s_w : (slE pfxE).wf (Fr F []) w.heap s) (p : Pfx → Prop) [DecidablePred p] (p_f : FuncId) (p_caps : Array Value) (p_T : Tests Try.prog pfxE w p_f p_caps s.xs p) :
 Calls Try.prog 84 #[sV s, .func (.func p_f) #[] p_caps] w fun e w' => e = .returned (bD (∃ x ∈ s.xs, p x)) ∧ Tr [] w [] w' := by
 have : s.xs.length ≤ 9223372036854775807 := (s_w).1.len
 refine go Try.func84 rfl 9 rfl [wfF (slE pfxE) s] [] hF M ⟨s_w, trivial⟩ trivial ?_
 intro a S
 refine rs S (la (av rfl)) ?_; clear S; intro a u S
 refine rs S (tr (mv rfl)<|tr (mv rfl)<|tr (oc (fun S=>iPfx _ _ S.x (.nil _) s (dn0 (S.u 0 rfl)) p _ _ (Tests.tr p_T S.m.c)) cB106)<|tr (geqi rfl rfl)<|la (av rfl)) ?_; clear S; intro a u S
 refine wp_ret ?_
 refine ret1 rfl S.s rfl ?_
 refine ⟨(r1 (vb ?_)), S.m.c⟩
 exact idxOf_nonneg_p _ _
set_option maxHeartbeats 2000000 in
set_option maxRecDepth 20000 in
theorem tDevice1 (w : World) (F : Nat → Prop) (hF : Old F w) (M : MS [] w) (d : Dev) (d_w : devE.wf (Fr F []) w.heap d) (nm : ByteArray) (nm_w : strE.wf (Fr F []) w.heap nm) (nm_b : Nat) (nm_K : Blk w.heap nm_b [.string nm] 9) :
 Calls Try.prog 101 #[.agg (devE.cells d).toArray, pT nm_b 0] w fun e w' => e = .returned (bD (d.name = nm)) ∧ Tr [] w [] w' := by
 obtain ⟨_, _⟩ : inI64 d.cap := d_w.2.1
 refine go Try.func101 rfl 8 rfl [wfF devE d, blF nm_b [.string nm] 9, wfF strE nm] [] hF M ⟨d_w, ⟨fun h => h, nm_K⟩, nm_w, trivial⟩ trivial ?_
 intro a S
 refine rs0 ?_
 refine nbp S (x_box _ (S.e rfl) rfl) ?_; clear S; intro a u b2 S
 refine ens S (la (av rfl)) ?_; clear S; intro a u S
 refine rs S (tr (fldi 0 0 rfl uT65)<|tr (ldk 0 sC9 rfl rfl rfl)<|tr (ov fun S=>x_load sC9 (S.e rfl) ((S.b 1 rfl).cell (j := 0) rfl))<|tr (seqi rfl rfl)<|la (av rfl)) ?_; clear S; intro a u S
 refine wp_ret ?_
 refine ret1 rfl S.s rfl ?_
 replace S := S.pk []
 refine ⟨(r1 (vb ?_)), S.m.c⟩
 first | exact Iff.rfl | assumption | omega | simp_all
set_option maxHeartbeats 2000000 in
set_option maxRecDepth 20000 in
theorem tEdge1 (w : World) (F : Nat → Prop) (hF : Old F w) (M : MS [] w) (d : Edg) (d_w : edgE.wf (Fr F []) w.heap d) (nm : ByteArray) (nm_w : strE.wf (Fr F []) w.heap nm) (nm_b : Nat) (nm_K : Blk w.heap nm_b [.string nm] 9) :
 Calls Try.prog 103 #[.agg (edgE.cells d).toArray, pT nm_b 0] w fun e w' => e = .returned (bD (d.name = nm)) ∧ Tr [] w [] w' := by
 obtain ⟨_, _⟩ : inI64 d.dev := d_w.2.1
 obtain ⟨_, _⟩ : inU32 d.pfx.addr := d_w.2.2.2.1.1
 obtain ⟨_, _⟩ : inI64 d.pfx.bits := d_w.2.2.2.1.2
 refine go Try.func103 rfl 8 rfl [wfF edgE d, blF nm_b [.string nm] 9, wfF strE nm] [] hF M ⟨d_w, ⟨fun h => h, nm_K⟩, nm_w, trivial⟩ trivial ?_
 intro a S
 refine rs0 ?_
 refine nbp S (x_box _ (S.e rfl) rfl) ?_; clear S; intro a u b2 S
 refine ens S (la (av rfl)) ?_; clear S; intro a u S
 refine rs S (tr (fldi 0 0 rfl uT71)<|tr (ldk 0 sC9 rfl rfl rfl)<|tr (ov fun S=>x_load sC9 (S.e rfl) ((S.b 1 rfl).cell (j := 0) rfl))<|tr (seqi rfl rfl)<|la (av rfl)) ?_; clear S; intro a u S
 refine wp_ret ?_
 refine ret1 rfl S.s rfl ?_
 replace S := S.pk []
 refine ⟨(r1 (vb ?_)), S.m.c⟩
 first | exact Iff.rfl | assumption | omega | simp_all
set_option maxHeartbeats 2000000 in
set_option maxRecDepth 20000 in
theorem tDevice (w : World) (F : Nat → Prop) (hF : Old F w) (M : MS [] w) (t : Topo) (t_w : topoE.wf (Fr F []) w.heap t) (nm : ByteArray) (nm_h : inStr nm) :
 Calls Try.prog 79 #[.agg (topoE.cells t).toArray, .string nm] w fun e w' => e = .returned (iI (idxOf (fun x => decide (x.name = nm)) t.devs.xs)) ∧ Tr [] w [] w' := by
 have : t.devs.xs.length ≤ 9223372036854775807 := (t_w.1).1.len
 have : t.links.xs.length ≤ 9223372036854775807 := (t_w.2.1).1.len
 have : t.edges.xs.length ≤ 9223372036854775807 := (t_w.2.2.1).1.len
 have : t.pools.xs.length ≤ 9223372036854775807 := (t_w.2.2.2.1).1.len
 obtain ⟨_, _⟩ : inI64 t.tol := t_w.2.2.2.2
 refine go Try.func79 rfl 9 rfl [wfF topoE t] [] hF M ⟨t_w, trivial⟩ trivial ?_
 intro a S
 refine rs0 ?_
 refine nbp S (x_box _ (S.e rfl) rfl) ?_; clear S; intro a u b2 S
 refine nbp S (x_box _ (S.e rfl) rfl) ?_; clear S; intro a u b3 S
 refine ens S (la (av rfl)) ?_; clear S; intro a u S
 refine rs S (tr (fldi 0 0 rfl uT28)<|tr (ldk 0 sC23 rfl rfl rfl)<|tr (ov fun S=>x_mkfn (cs := #[pT b3 0]) (by simp only [List.map_toArray, List.map_cons, List.map_nil, S.e (x := .tmp 3) (v := pT b3 0) rfl]))<|tr (oc (fun S=>iDev _ _ S.x (.nil _) t.devs (dn0 ((S.u 0 rfl).1)) (fun x => x.name = nm) 101 #[pT b3 0] ⟨cB101, fun w2 g i hi => tDevice1 _ _ ((S.m.c.trans (Tr.framed0 S.M g)).old S.m.f) (MS.nil _) (t.devs.xs.getD i devE.dflt) (devE.tr (((dn0 ((S.u 0 rfl).1))).1.wf i hi) g) nm (Enc.tr (strE) (show strE.wf _ _ nm from nm_h) g) b3 (Blk.tr0 (S.k 1 rfl) g.ch)⟩) cB100)<|la (av rfl)) ?_; clear S; intro a u S
 refine wp_ret ?_
 refine ret1 rfl S.s rfl ?_
 replace S := S.pk []
 refine ⟨(r1 (vi ?_)), S.m.c⟩
 first | rfl | omega | assumption
set_option maxHeartbeats 2000000 in
set_option maxRecDepth 20000 in
theorem tEdge (w : World) (F : Nat → Prop) (hF : Old F w) (M : MS [] w) (t : Topo) (t_w : topoE.wf (Fr F []) w.heap t) (nm : ByteArray) (nm_h : inStr nm) :
 Calls Try.prog 81 #[.agg (topoE.cells t).toArray, .string nm] w fun e w' => e = .returned (iI (idxOf (fun x => decide (x.name = nm)) t.edges.xs)) ∧ Tr [] w [] w' := by
 have : t.devs.xs.length ≤ 9223372036854775807 := (t_w.1).1.len
 have : t.links.xs.length ≤ 9223372036854775807 := (t_w.2.1).1.len
 have : t.edges.xs.length ≤ 9223372036854775807 := (t_w.2.2.1).1.len
 have : t.pools.xs.length ≤ 9223372036854775807 := (t_w.2.2.2.1).1.len
 obtain ⟨_, _⟩ : inI64 t.tol := t_w.2.2.2.2
 refine go Try.func81 rfl 9 rfl [wfF topoE t] [] hF M ⟨t_w, trivial⟩ trivial ?_
 intro a S
 refine rs0 ?_
 refine nbp S (x_box _ (S.e rfl) rfl) ?_; clear S; intro a u b2 S
 refine nbp S (x_box _ (S.e rfl) rfl) ?_; clear S; intro a u b3 S
 refine ens S (la (av rfl)) ?_; clear S; intro a u S
 refine rs S (tr (fldi 0 2 rfl uT28)<|tr (ldk 0 sC25 rfl rfl rfl)<|tr (ov fun S=>x_mkfn (cs := #[pT b3 0]) (by simp only [List.map_toArray, List.map_cons, List.map_nil, S.e (x := .tmp 3) (v := pT b3 0) rfl]))<|tr (oc (fun S=>iEdg _ _ S.x (.nil _) t.edges (dn0 ((S.u 0 rfl).2.2.1)) (fun x => x.name = nm) 103 #[pT b3 0] ⟨cB103, fun w2 g i hi => tEdge1 _ _ ((S.m.c.trans (Tr.framed0 S.M g)).old S.m.f) (MS.nil _) (t.edges.xs.getD i edgE.dflt) (edgE.tr (((dn0 ((S.u 0 rfl).2.2.1))).1.wf i hi) g) nm (Enc.tr (strE) (show strE.wf _ _ nm from nm_h) g) b3 (Blk.tr0 (S.k 1 rfl) g.ch)⟩) cB102)<|la (av rfl)) ?_; clear S; intro a u S
 refine wp_ret ?_
 refine ret1 rfl S.s rfl ?_
 replace S := S.pk []
 refine ⟨(r1 (vi ?_)), S.m.c⟩
 first | rfl | omega | assumption
end Go.Proofs.Ytfanmniaolncbaa.V
