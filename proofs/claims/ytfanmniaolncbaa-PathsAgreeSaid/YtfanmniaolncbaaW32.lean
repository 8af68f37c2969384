/- paths: devices that are known -/
import Derived.Test.YtfanmniaolncbaaW30
import Derived.Test.YtfanmniaolncbaaW10
import Derived.Test.YtfanmniaolncbaaTD3
namespace Go.Proofs.Ytfanmniaolncbaa.V
open Go.RowKit Go.Proofs.Ytfanmniaolncbaa
set_option linter.unusedVariables false
set_option linter.unusedSimpArgs false
set_option maxHeartbeats 2000000 in
set_option maxRecDepth 20000 in
theorem pLess (w : World) (F : Nat → Prop) (hF : Old F w) (M : MS [] w) (x : Vis) (x_w : visE.wf (Fr F []) w.heap x) (y : Vis) (y_w : visE.wf (Fr F []) w.heap y) :
 Calls Try.prog 69 #[.agg (visE.cells x).toArray, .agg (visE.cells y).toArray] w fun e w' => e = .returned (bD (x.dist < y.dist)) ∧ Tr [] w [] w' := by
 obtain ⟨_, _⟩ : inI64 x.dev := x_w.1
 obtain ⟨_, _⟩ : inI64 x.dist := x_w.2
 obtain ⟨_, _⟩ : inI64 y.dev := y_w.1
 obtain ⟨_, _⟩ : inI64 y.dist := y_w.2
 refine go Try.func69 rfl 10 rfl [wfF visE x, wfF visE y] [] hF M ⟨x_w, y_w, trivial⟩ trivial ?_
 intro a S
 refine rs0 ?_
 refine nbp S (x_box _ (S.e rfl) rfl) ?_; clear S; intro a u b2 S
 refine nbp S (x_box _ (S.e rfl) rfl) ?_; clear S; intro a u b3 S
 refine ens S (la (av rfl)) ?_; clear S; intro a u S
 refine rs S (tr (fldi 0 1 rfl uT82)<|tr (ldk 0 sC3 rfl rfl rfl)<|tr (fldi 0 1 rfl uT82)<|tr (ldk 1 sC3 rfl rfl rfl)<|tr (lssi rfl rfl)<|la (av rfl)) ?_; clear S; intro a u S
 refine wp_ret ?_
 refine ret1 rfl S.s rfl ?_
 replace S := S.pk []
 refine ⟨(r1 (vb ?_)), S.m.c⟩
 first | exact Iff.rfl | assumption | omega | simp_all
set_option maxHeartbeats 2000000 in
set_option maxRecDepth 20000 in
theorem pKnown (w : World) (F : Nat → Prop) (hF : Old F w) (M : MS [] w) (t : Topo) (t_w : topoE.wf (Fr F []) w.heap t) (f : Fail) (f_w : failE.wf (Fr F []) w.heap f) (ds : Sl Int) (ds_w : (slE intE).wf (Fr F []) w.heap ds) :
 Calls Try.prog 68 #[.agg (topoE.cells t).toArray, .agg (failE.cells f).toArray, sV ds] w fun e w' => e = .returned (bD (((∀ j, j < ds.xs.length → 0 ≤ ds.xs.getD j intE.dflt ∧ ds.xs.getD j intE.dflt < t.devs.xs.length) ∧ failV t f))) ∧ Tr [] w [] w' := by
 have : t.devs.xs.length ≤ 9223372036854775807 := (t_w.1).1.len
 have : t.links.xs.length ≤ 9223372036854775807 := (t_w.2.1).1.len
 have : t.edges.xs.length ≤ 9223372036854775807 := (t_w.2.2.1).1.len
 have : t.pools.xs.length ≤ 9223372036854775807 := (t_w.2.2.2.1).1.len
 obtain ⟨_, _⟩ : inI64 t.tol := t_w.2.2.2.2
 have : f.links.xs.length ≤ 9223372036854775807 := (f_w.1).1.len
 have : f.devs.xs.length ≤ 9223372036854775807 := (f_w.2).1.len
 have : ds.xs.length ≤ 9223372036854775807 := (ds_w).1.len
 refine go Try.func68 rfl 28 rfl [wfF topoE t, wfF failE f, wfF (slE intE) ds] [] hF M ⟨t_w, f_w, ds_w, trivial⟩ trivial ?_
 intro a S
 refine rs0 ?_
 refine nbp S (x_box _ (S.e rfl) rfl) ?_; clear S; intro a u b3 S
 refine nbp S (x_box _ (S.e rfl) rfl) ?_; clear S; intro a u b4 S
 refine ens S (la (av rfl)) ?_; clear S; intro a u S
 refine wp_seq ?_
 have hn3 : ds.xs.length ≤ 9223372036854775807 := ((S.u 2 rfl)).1.len
 refine rs S (tr (mv rfl)<|tr (leni uT22 rfl)<|la (mv rfl)) ?_; clear S; intro a u S
 refine wp_block ?_
 refine lp1 (fun (k : Nat) => [(3, pT b3 0), (4, pT b4 0), (9, sV ds), (10, iN ds.xs.length), (11, iN k)]) (fun (k : Nat) => [blO b3 (topoE.cells t) 28, blO b4 (failE.cells f) 41]) (fun (k : Nat) => k ≤ ds.xs.length ∧ ∀ j, j < k → 0 ≤ ds.xs.getD j intE.dflt ∧ ds.xs.getD j intE.dflt < t.devs.xs.length) (fun (k : Nat) => ds.xs.length - k) S 0 (subM rfl) rfl ?_ ?_
 ·exact ⟨Nat.zero_le _, fun j hj => by omega⟩
 clear S; intro k a u S hR
 obtain ⟨hk, hn⟩ := hR
 refine rs S (la (lssi rfl rfl)) ?_; clear S; intro a u S
 refine wp_seq ?_
 refine cd S rfl ?_ ?_
 ·intro hc0
  refine wp_skip (then_n (wp_seq (wp_block ?_)))
  obtain ⟨hl6, hu6⟩ : inI64 (ds.xs.getD k intE.dflt) := id (((S.u 2 rfl)).1.wf k (by omega))
  refine rs S (tr (idxi uT22 sZ3 rfl rfl k rfl (by omega) (((S.u 2 rfl)).1.adr (i := k) (by omega)))<|tr (ov fun S=>x_load sC3 (S.e rfl) (((S.u 2 rfl)).1.cell k (by omega) 0 _ rfl))<|la (av rfl)) ?_; clear S; intro a u S
  refine rs S (tr (mv rfl)<|tr (lssi rfl rfl)<|tr (mv rfl)<|tr (og 17 rfl gf fun S hg=>x_move (S.e rfl))<|tr (og 17 rfl gf fun S hg=>xf (0) 0 uT28 (S.e rfl))<|tr (og 17 rfl gf fun S hg=>x_load sC23 (S.p rfl hg) ((S.k 0 rfl).cell (j := 0) rfl))<|tr (og 17 rfl gf fun S hg=>x_len uT23 (S.p rfl hg))<|tr (og 17 rfl gf fun S hg=>x_geq (S.p rfl hg) (S.p rfl hg))<|la (ori rfl rfl rfl)) ?_; clear S; intro a u S
  refine cd S rfl ?_ ?_
  ·intro hc1
   refine rs S (la (av rfl)) ?_; clear S; intro a u S
   refine wp_ret (blk_r (then_r (then_r (blk_r (then_r ?_)))))
   refine ret1 rfl S.s rfl ?_
   replace S := S.pk []
   refine ⟨(r1 (vf ?_)), S.m.c⟩
   intro h
   have := h.1 k (by omega)
   omega
  intro hc2
  refine wp_skip (blk_n (then_n ?_))
  refine rg S (tr (addi ((k + 1 : Nat) : Int) rfl rfl (w_i64 (by omega)))<|la (mv rfl)) ?_; clear S; intro a u S
  refine then_n ?_
  refine ⟨k + 1, S.re (subM rfl) rfl rfl, ?_, ?_⟩
  ·refine ⟨by omega, fun j hj => ?_⟩
   rcases Nat.lt_succ_iff_lt_or_eq.1 hj with h | h
   ·exact hn j h
   subst h; omega
  omega
 intro hc3
 refine wp_exit (then_e (then_e (blk_e (then_n ?_))))
 refine rs S (tr (ldkw 0 rfl rfl wD28)<|tr (ldkw 1 rfl rfl wD41)<|tr (oc (fun S=>fValid _ _ S.x (.nil _) t (dn0 (S.u 0 rfl)) f (dn0 (S.u 1 rfl))) cB22)<|la (av rfl)) ?_; clear S; intro a u S
 refine wp_ret ?_
 refine ret1 rfl S.s rfl ?_
 replace S := S.pk []
 refine ⟨(r1 (vb ?_)), S.m.c⟩
 exact ⟨fun h => ⟨fun j hj => hn j (by omega), h⟩, fun h => h.2⟩
end Go.Proofs.Ytfanmniaolncbaa.V
