/- the generator: copies of topologies -/
import Derived.Test.YtfanmniaolncbaaW13
import Derived.Test.YtfanmniaolncbaaU3
namespace Go.Proofs.Ytfanmniaolncbaa.V
open Go.RowKit Go.Proofs.Ytfanmniaolncbaa
set_option linter.unusedVariables false
set_option linter.unusedSimpArgs false
set_option maxHeartbeats 2000000 in
set_option maxRecDepth 20000 in
theorem gCopy (w : World) (F : Nat → Prop) (hF : Old F w) (M : MS [] w) (t : Topo) (t_w : topoE.wf (Fr F []) w.heap t) (hsm : t.devs.xs.length ≤ 99 ∧ t.links.xs.length ≤ 99 ∧ t.edges.xs.length ≤ 99 ∧ t.pools.xs.length ≤ 99) :
 Calls Try.prog 47 #[.agg (topoE.cells t).toArray] w fun e w' => ∃ (ra_0 : Option Addr) (rc_0 : Nat) (ra_1 : Option Addr) (rc_1 : Nat) (ra_2 : Option Addr) (rc_2 : Nat) (ra_3 : Option Addr) (rc_3 : Nat), e = .returned (.agg #[.slice ra_0 t.devs.xs.length rc_0, .slice ra_1 t.links.xs.length rc_1, .slice ra_2 t.edges.xs.length rc_2, .slice ra_3 t.pools.xs.length rc_3, iI t.tol]) ∧ Row devE 65 w.heap.size F [abk ra_3, abk ra_2, abk ra_1, abk ra_0] w' ra_0 rc_0 t.devs.xs ∧ Row lnkE 54 w.heap.size F [abk ra_3, abk ra_2, abk ra_1, abk ra_0] w' ra_1 rc_1 t.links.xs ∧ Row edgE 71 w.heap.size F [abk ra_3, abk ra_2, abk ra_1, abk ra_0] w' ra_2 rc_2 t.edges.xs ∧ Row pfxE 68 w.heap.size F [abk ra_3, abk ra_2, abk ra_1, abk ra_0] w' ra_3 rc_3 t.pools.xs ∧ Tr [] w [abk ra_3, abk ra_2, abk ra_1, abk ra_0] w' := by
 have : t.devs.xs.length ≤ 9223372036854775807 := (t_w.1).1.len
 have : t.links.xs.length ≤ 9223372036854775807 := (t_w.2.1).1.len
 have : t.edges.xs.length ≤ 9223372036854775807 := (t_w.2.2.1).1.len
 have : t.pools.xs.length ≤ 9223372036854775807 := (t_w.2.2.2.1).1.len
 obtain ⟨_, _⟩ : inI64 t.tol := t_w.2.2.2.2
 refine go Try.func47 rfl 24 rfl [wfF topoE t] [] hF M ⟨t_w, trivial⟩ trivial ?_
 intro a S
 refine rs0 ?_
 refine nbp S (x_box _ (S.e rfl) rfl) ?_; clear S; intro a u b1 S
 refine nbp S (x_allocz _ iZ28 rfl) ?_; clear S; intro a u b2 S
 refine ent (rs0 ?_)
 refine nbr (q := 0) devE S [] (x_bsl0 uT23 iZ65) (fun _ h => by simp at h) ?_; clear S; intro a u b3 S
 refine sp S (tr (fldi 0 0 rfl uT28)<|la (ldk 0 sC23 rfl rfl rfl)) ?_; clear S; intro a u S
 refine ap (E := devE) (ys := t.devs.xs) S 2 rfl uT23 iZ65 rfl rfl ((S.u 0 rfl).1).1 ((S.u 0 rfl).1).2.2 (LAt.mem ((S.u 0 rfl).1).1) ⟨by unfold maxLen; (try simp only [List.length_cons, List.length_nil, List.length_append, List.length_map]); omega, by (try simp only [List.length_cons, List.length_nil, List.length_append, List.length_map]); omega⟩ ?_; clear S; intro a u ad6 cap6 S
 refine ens S (tr (fldi 0 0 rfl uT28)<|la (stx 0 [.slice ad6 (([] ++ t.devs.xs).length) cap6, sV t.links, sV t.edges, sV t.pools, iI t.tol] rfl rfl rfl rfl)) ?_; clear S; intro a u S
 refine rs0 ?_
 refine nbr (q := 0) lnkE S [] (x_bsl0 uT24 iZ54) (fun _ h => by simp at h) ?_; clear S; intro a u b8 S
 refine sp S (tr (fldi 0 1 rfl uT28)<|la (ldk 0 sC24 rfl rfl rfl)) ?_; clear S; intro a u S
 refine ap (E := lnkE) (ys := t.links.xs) S 3 rfl uT24 iZ54 rfl rfl ((S.u 0 rfl).2.1).1 ((S.u 0 rfl).2.1).2.2 (LAt.mem ((S.u 0 rfl).2.1).1) ⟨by unfold maxLen; (try simp only [List.length_cons, List.length_nil, List.length_append, List.length_map]); omega, by (try simp only [List.length_cons, List.length_nil, List.length_append, List.length_map]); omega⟩ ?_; clear S; intro a u ad11 cap11 S
 refine ens S (tr (fldi 0 1 rfl uT28)<|la (stx 0 [.slice ad6 (([] ++ t.devs.xs).length) cap6, .slice ad11 (([] ++ t.links.xs).length) cap11, sV t.edges, sV t.pools, iI t.tol] rfl rfl rfl rfl)) ?_; clear S; intro a u S
 refine rs0 ?_
 refine nbr (q := 0) edgE S [] (x_bsl0 uT25 iZ71) (fun _ h => by simp at h) ?_; clear S; intro a u b13 S
 refine sp S (tr (fldi 0 2 rfl uT28)<|la (ldk 0 sC25 rfl rfl rfl)) ?_; clear S; intro a u S
 refine ap (E := edgE) (ys := t.edges.xs) S 4 rfl uT25 iZ71 rfl rfl ((S.u 0 rfl).2.2.1).1 ((S.u 0 rfl).2.2.1).2.2 (LAt.mem ((S.u 0 rfl).2.2.1).1) ⟨by unfold maxLen; (try simp only [List.length_cons, List.length_nil, List.length_append, List.length_map]); omega, by (try simp only [List.length_cons, List.length_nil, List.length_append, List.length_map]); omega⟩ ?_; clear S; intro a u ad16 cap16 S
 refine ens S (tr (fldi 0 2 rfl uT28)<|la (stx 0 [.slice ad6 (([] ++ t.devs.xs).length) cap6, .slice ad11 (([] ++ t.links.xs).length) cap11, .slice ad16 (([] ++ t.edges.xs).length) cap16, sV t.pools, iI t.tol] rfl rfl rfl rfl)) ?_; clear S; intro a u S
 refine rs0 ?_
 refine nbr (q := 0) pfxE S [] (x_bsl0 uT26 iZ68) (fun _ h => by simp at h) ?_; clear S; intro a u b18 S
 refine sp S (tr (fldi 0 3 rfl uT28)<|la (ldk 0 sC26 rfl rfl rfl)) ?_; clear S; intro a u S
 refine ap (E := pfxE) (ys := t.pools.xs) S 5 rfl uT26 iZ68 rfl rfl ((S.u 0 rfl).2.2.2.1).1 ((S.u 0 rfl).2.2.2.1).2.2 (LAt.mem ((S.u 0 rfl).2.2.2.1).1) ⟨by unfold maxLen; (try simp only [List.length_cons, List.length_nil, List.length_append, List.length_map]); omega, by (try simp only [List.length_cons, List.length_nil, List.length_append, List.length_map]); omega⟩ ?_; clear S; intro a u ad21 cap21 S
 refine ens S (tr (fldi 0 3 rfl uT28)<|la (stx 0 [.slice ad6 (([] ++ t.devs.xs).length) cap6, .slice ad11 (([] ++ t.links.xs).length) cap11, .slice ad16 (([] ++ t.edges.xs).length) cap16, .slice ad21 (([] ++ t.pools.xs).length) cap21, iI t.tol] rfl rfl rfl rfl)) ?_; clear S; intro a u S
 refine rs S (tr (ldkw 0 rfl rfl wD28)<|la (stkw 1 rfl rfl rfl)) ?_; clear S; intro a u S
 refine wp_ret ?_
 refine retcw rfl S.s rfl [.slice ad6 (([] ++ t.devs.xs).length) cap6, .slice ad11 (([] ++ t.links.xs).length) cap11, .slice ad16 (([] ++ t.edges.xs).length) cap16, .slice ad21 (([] ++ t.pools.xs).length) cap21, iI t.tol] wD28 (fun j v hv => by rw [Nat.zero_add]; exact (S.k 1 rfl).cell hv) ?_
 replace S := S.pk [5, 4, 3, 2] (os' := [rwO pfxE 68 w.heap.size ad21 cap21 ([] ++ t.pools.xs), rwO edgE 71 w.heap.size ad16 cap16 ([] ++ t.edges.xs), rwO lnkE 54 w.heap.size ad11 cap11 ([] ++ t.links.xs), rwO devE 65 w.heap.size ad6 cap6 ([] ++ t.devs.xs)])
 have hx7 : t.devs.xs = ([] ++ t.devs.xs) := by
  first | rfl | simp
 rw [hx7]
 have hx8 : t.links.xs = ([] ++ t.links.xs) := by
  first | rfl | simp
 rw [hx8]
 have hx9 : t.edges.xs = ([] ++ t.edges.xs) := by
  first | rfl | simp
 rw [hx9]
 have hx10 : t.pools.xs = ([] ++ t.pools.xs) := by
  first | rfl | simp
 rw [hx10]
 refine ⟨ad6, cap6, ad11, cap11, ad16, cap16, ad21, cap21, rfl, (S.row 3 rfl), (S.row 2 rfl), (S.row 1 rfl), (S.row 0 rfl), S.m.c⟩
end Go.Proofs.Ytfanmniaolncbaa.V
