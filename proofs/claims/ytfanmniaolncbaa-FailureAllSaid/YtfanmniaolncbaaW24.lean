/- the laws: huge, reads -/
import Derived.Test.YtfanmniaolncbaaW12
import Derived.Test.YtfanmniaolncbaaW13
namespace Go.Proofs.Ytfanmniaolncbaa.V
open Go.RowKit Go.Proofs.Ytfanmniaolncbaa
set_option linter.unusedVariables false
set_option linter.unusedSimpArgs false
set_option maxHeartbeats 2000000 in
set_option maxRecDepth 20000 in
theorem lHuge (w : World) (F : Nat → Prop) (hF : Old F w) (M : MS [] w) (t : Topo) (t_w : topoE.wf (Fr F []) w.heap t) (f : Fail) (f_w : failE.wf (Fr F []) w.heap f) :
 Calls Try.prog 31 #[.agg (topoE.cells t).toArray, .agg (failE.cells f).toArray] w fun e w' => e = .returned (bD ((hugeT t ∨ 12 < f.links.xs.length ∨ 12 < f.devs.xs.length))) ∧ Tr [] w [] w' := by
 have : t.devs.xs.length ≤ 9223372036854775807 := (t_w.1).1.len
 have : t.links.xs.length ≤ 9223372036854775807 := (t_w.2.1).1.len
 have : t.edges.xs.length ≤ 9223372036854775807 := (t_w.2.2.1).1.len
 have : t.pools.xs.length ≤ 9223372036854775807 := (t_w.2.2.2.1).1.len
 obtain ⟨_, _⟩ : inI64 t.tol := t_w.2.2.2.2
 have : f.links.xs.length ≤ 9223372036854775807 := (f_w.1).1.len
 have : f.devs.xs.length ≤ 9223372036854775807 := (f_w.2).1.len
 refine go Try.func31 rfl 19 rfl [wfF topoE t, wfF failE f] [] hF M ⟨t_w, f_w, trivial⟩ trivial ?_
 intro a S
 refine rs0 ?_
 refine nbp S (x_box _ (S.e rfl) rfl) ?_; clear S; intro a u b2 S
 refine nbp S (x_box _ (S.e rfl) rfl) ?_; clear S; intro a u b3 S
 refine ens S (la (av rfl)) ?_; clear S; intro a u S
 refine rs S (tr (ldkw 0 rfl rfl wD28)<|tr (oc (fun S=>gHuge _ _ S.x (.nil _) t (dn0 (S.u 0 rfl))) cB20)<|tr (mv rfl)<|tr (og 7 rfl gf fun S hg=>xf (0) 0 uT41 (S.e rfl))<|tr (og 7 rfl gf fun S hg=>x_load sC22 (S.p rfl hg) ((S.k 1 rfl).cell (j := 0) rfl))<|tr (og 7 rfl gf fun S hg=>x_len uT22 (S.p rfl hg))<|tr (og 7 rfl gf fun S hg=>x_gtr (S.p rfl hg) (S.e rfl))<|tr (ori rfl rfl rfl)<|tr (mv rfl)<|tr (og 13 rfl gf fun S hg=>xf (0) 1 uT41 (S.e rfl))<|tr (og 13 rfl gf fun S hg=>x_load sC22 (S.p rfl hg) ((S.k 1 rfl).cell (j := 1) rfl))<|tr (og 13 rfl gf fun S hg=>x_len uT22 (S.p rfl hg))<|tr (og 13 rfl gf fun S hg=>x_gtr (S.p rfl hg) (S.e rfl))<|tr (ori rfl rfl rfl)<|la (av rfl)) ?_; clear S; intro a u S
 refine wp_ret ?_
 refine ret1 rfl S.s rfl ?_
 replace S := S.pk []
 refine ⟨(r1 (vb ?_)), S.m.c⟩
 by_cases hh : hugeT t
 ·simp [hh]
 simp only [hh, false_or]; omega
end Go.Proofs.Ytfanmniaolncbaa.V
