/- valid topologies: the program -/
import Derived.Test.YtfanmniaolncbaaW3
namespace Go.Proofs.Ytfanmniaolncbaa.V
open Go.RowKit Go.Proofs.Ytfanmniaolncbaa
set_option linter.unusedVariables false
set_option linter.unusedSimpArgs false
set_option maxHeartbeats 2000000 in
set_option maxRecDepth 20000 in
theorem tValid (w : World) (F : Nat → Prop) (hF : Old F w) (M : MS [] w) (t : Topo) (t_w : topoE.wf (Fr F []) w.heap t) :
 Calls Try.prog 50 #[.agg (topoE.cells t).toArray] w fun e w' => e = .returned (bD (topV t)) ∧ Tr [] w [] w' := by
 have : t.devs.xs.length ≤ 9223372036854775807 := (t_w.1).1.len
 have : t.links.xs.length ≤ 9223372036854775807 := (t_w.2.1).1.len
 have : t.edges.xs.length ≤ 9223372036854775807 := (t_w.2.2.1).1.len
 have : t.pools.xs.length ≤ 9223372036854775807 := (t_w.2.2.2.1).1.len
 obtain ⟨_, _⟩ : inI64 t.tol := t_w.2.2.2.2
 refine go Try.func50 rfl 173 rfl [wfF topoE t] [] hF M ⟨t_w, trivial⟩ trivial ?_
 intro a S
 refine rs0 ?_
 refine nbp S (x_box _ (S.e rfl) rfl) ?_; clear S; intro a u b1 S
 refine ens S (la (av rfl)) ?_; clear S; intro a u S
 refine wp_seq ?_
 have hn3 : t.devs.xs.length ≤ 9223372036854775807 := ((S.u 0 rfl).1).1.len
 refine rs S (tr (fldi 0 0 rfl uT28)<|tr (ldk 0 sC23 rfl rfl rfl)<|tr (leni uT23 rfl)<|tr (eqli rfl rfl)<|tr (mv rfl)<|tr (og 17 rfl gf fun S hg=>xf (0) 0 uT28 (S.e rfl))<|tr (og 17 rfl gf fun S hg=>x_load sC23 (S.p rfl hg) ((S.k 0 rfl).cell (j := 0) rfl))<|tr (og 17 rfl gf fun S hg=>x_len uT23 (S.p rfl hg))<|tr (og 17 rfl gf fun S hg=>x_gtr (S.p rfl hg) (S.e rfl))<|tr (ori rfl rfl rfl)<|tr (mv rfl)<|tr (og 23 rfl gf fun S hg=>xf (0) 1 uT28 (S.e rfl))<|tr (og 23 rfl gf fun S hg=>x_load sC24 (S.p rfl hg) ((S.k 0 rfl).cell (j := 1) rfl))<|tr (og 23 rfl gf fun S hg=>x_len uT24 (S.p rfl hg))<|tr (og 23 rfl gf fun S hg=>x_gtr (S.p rfl hg) (S.e rfl))<|tr (ori rfl rfl rfl)<|tr (mv rfl)<|tr (og 29 rfl gf fun S hg=>xf (0) 2 uT28 (S.e rfl))<|tr (og 29 rfl gf fun S hg=>x_load sC25 (S.p rfl hg) ((S.k 0 rfl).cell (j := 2) rfl))<|tr (og 29 rfl gf fun S hg=>x_len uT25 (S.p rfl hg))<|tr (og 29 rfl gf fun S hg=>x_gtr (S.p rfl hg) (S.e rfl))<|tr (ori rfl rfl rfl)<|tr (mv rfl)<|tr (og 35 rfl gf fun S hg=>xf (0) 3 uT28 (S.e rfl))<|tr (og 35 rfl gf fun S hg=>x_load sC26 (S.p rfl hg) ((S.k 0 rfl).cell (j := 3) rfl))<|tr (og 35 rfl gf fun S hg=>x_len uT26 (S.p rfl hg))<|tr (og 35 rfl gf fun S hg=>x_gtr (S.p rfl hg) (S.e rfl))<|tr (ori rfl rfl rfl)<|tr (mv rfl)<|tr (og 41 rfl gf fun S hg=>xf (0) 4 uT28 (S.e rfl))<|tr (og 41 rfl gf fun S hg=>x_load sC3 (S.p rfl hg) ((S.k 0 rfl).cell (j := 4) rfl))<|tr (og 41 rfl gf fun S hg=>x_lss (S.p rfl hg) (S.e rfl))<|tr (ori rfl rfl rfl)<|tr (mv rfl)<|tr (og 46 rfl gf fun S hg=>xf (0) 4 uT28 (S.e rfl))<|tr (og 46 rfl gf fun S hg=>x_load sC3 (S.p rfl hg) ((S.k 0 rfl).cell (j := 4) rfl))<|tr (og 46 rfl gf fun S hg=>x_gtr (S.p rfl hg) (S.e rfl))<|la (ori rfl rfl rfl)) ?_; clear S; intro a u S
 refine cd S rfl ?_ ?_
 ·intro hc0
  refine rs S (la (av rfl)) ?_; clear S; intro a u S
  refine wp_ret (then_r ?_)
  refine ret1 rfl S.s rfl ?_
  replace S := S.pk []
  refine ⟨(r1 (vf ?_)), S.m.c⟩
  rintro ⟨h, _⟩; unfold topB at h; omega
 intro hc1
 refine wp_skip (then_n (wp_seq ?_))
 refine rs S (tr (fldi 0 0 rfl uT28)<|tr (ldk 0 sC23 rfl rfl rfl)<|tr (leni uT23 rfl)<|la (mv rfl)) ?_; clear S; intro a u S
 refine wp_block ?_
 refine lp1 (fun (k : Nat) => [(1, pT b1 0), (52, sV t.devs), (53, iN t.devs.xs.length), (54, iN k)]) (fun (k : Nat) => [blO b1 (topoE.cells t) 28]) (fun (k : Nat) => k ≤ t.devs.xs.length ∧ ∀ j, j < k → devAt t.devs.xs j) (fun (k : Nat) => t.devs.xs.length - k) S 0 (subM rfl) rfl ?_ ?_
 ·exact ⟨Nat.zero_le _, fun j hj => by omega⟩
 clear S; intro k a u S hR
 obtain ⟨hka, hna⟩ := hR
 refine rs S (la (lssi rfl rfl)) ?_; clear S; intro a u S
 refine wp_seq ?_
 refine cd S rfl ?_ ?_
 ·intro hc2
  refine wp_skip (then_n (wp_seq (wp_block (rs0 ?_))))
  obtain ⟨hl8, hu8⟩ : inI64 ((t.devs.xs.getD k devE.dflt).cap) := id ((((S.u 0 rfl).1).1.wf k (by omega)).2.1)
  refine sp S (tr (mv rfl)<|tr (idxi uT23 sZ65 rfl rfl k rfl (by omega) (((S.u 0 rfl).1).1.adr (i := k) (by omega)))<|la (ov fun S=>x_ldw (S.e rfl) (((S.u 0 rfl).1).1.wcell k (by omega) _ rfl _ rfl) wD65)) ?_; clear S; intro a u S
  refine nbp S (x_allocz _ iZ65 rfl) ?_; clear S; intro a u b4 S
  refine ens S (tr (av rfl)<|la (stkw 1 rfl rfl rfl)) ?_; clear S; intro a u S
  refine rs S (tr (ldkw 1 rfl rfl wD65)<|tr (oc (fun S=>tValidDevice _ _ S.x (.nil _) (t.devs.xs.getD k devE.dflt) (dn0 (((S.u 0 rfl).1).1.wf k (by omega)))) cB78)<|tr (noti rfl)<|tr (mv rfl)<|tr (og 62 rfl gf fun S hg=>x_ldw (S.e rfl) (S.k 0 rfl).all wD28)<|tr (og 62 rfl gf fun S hg=>xf (0) 0 uT65 (S.e rfl))<|tr (og 62 rfl gf fun S hg=>x_load sC9 (S.p rfl hg) ((S.k 1 rfl).cell (j := 0) rfl))<|tr (ocg 62 rfl gf (fun S hg=>tDevice _ _ S.x (.nil _) t (dn0 (S.u 0 rfl)) ((t.devs.xs.getD k devE.dflt).name) (((S.u 0 rfl).1).1.wf k (by omega)).1) cB79 fun S=>⟨fun hg=>(S.p rfl hg), fun hg=>(S.p rfl hg), trivial⟩)<|tr (og 62 rfl gf fun S hg=>x_move (S.e rfl))<|tr (og 62 rfl gf fun S hg=>x_neq (S.p rfl hg) (S.p rfl hg))<|la (ori rfl rfl rfl)) ?_; clear S; intro a u S
  refine cd S rfl ?_ ?_
  ·intro hc3
   refine rs S (la (av rfl)) ?_; clear S; intro a u S
   refine wp_ret (blk_r (then_r (then_r (blk_r (then_r ?_)))))
   refine ret1 rfl S.s rfl ?_
   replace S := S.pk []
   refine ⟨(r1 (vf ?_)), S.m.c⟩
   rintro ⟨_, h, _⟩; have := h k (by omega); unfold devAt at this; rcases hc3 with h1 | h1
   ·exact h1 this.1
   exact h1 this.2
  intro hc4
  refine wp_skip (blk_n (then_n ?_))
  refine rg S (tr (addi ((k + 1 : Nat) : Int) rfl rfl (w_i64 (by omega)))<|la (mv rfl)) ?_; clear S; intro a u S
  refine then_n ?_
  refine ⟨k + 1, S.re (subM rfl) rfl rfl, ?_, ?_⟩
  ·refine ⟨by omega, fun j hj => ?_⟩
   rcases Nat.lt_succ_iff_lt_or_eq.1 hj with h | h
   ·exact hna j h
   subst h; unfold devAt; simp only [not_or, Classical.not_not] at hc4; exact ⟨hc4.1, hc4.2⟩
  omega
 intro hc5
 refine wp_exit (then_e (then_e (blk_e (then_n (wp_seq ?_)))))
 have hn13 : t.links.xs.length ≤ 9223372036854775807 := ((S.u 0 rfl).2.1).1.len
 refine rs S (tr (fldi 0 1 rfl uT28)<|tr (ldk 0 sC24 rfl rfl rfl)<|tr (leni uT24 rfl)<|la (mv rfl)) ?_; clear S; intro a u S
 refine wp_block ?_
 refine lp1 (fun (k : Nat) => [(1, pT b1 0), (72, sV t.links), (73, iN t.links.xs.length), (74, iN k)]) (fun (k : Nat) => [blO b1 (topoE.cells t) 28]) (fun (k : Nat) => k ≤ t.links.xs.length ∧ ∀ j, j < k → lnkV t.devs.xs.length (t.links.xs.getD j lnkE.dflt)) (fun (k : Nat) => t.links.xs.length - k) S 0 (subM rfl) rfl ?_ ?_
 ·exact ⟨Nat.zero_le _, fun j hj => by omega⟩
 clear S; intro k a u S hR
 obtain ⟨hkb, hnb⟩ := hR
 refine rs S (la (lssi rfl rfl)) ?_; clear S; intro a u S
 refine wp_seq ?_
 refine cd S rfl ?_ ?_
 ·intro hc6
  refine wp_skip (then_n (wp_seq (wp_block (rs0 ?_))))
  obtain ⟨hl16, hu16⟩ : inI64 ((t.links.xs.getD k lnkE.dflt).a) := id ((((S.u 0 rfl).2.1).1.wf k (by omega)).1)
  obtain ⟨hl17, hu17⟩ : inI64 ((t.links.xs.getD k lnkE.dflt).b) := id ((((S.u 0 rfl).2.1).1.wf k (by omega)).2.1)
  obtain ⟨hl18, hu18⟩ : inI64 ((t.links.xs.getD k lnkE.dflt).cost) := id ((((S.u 0 rfl).2.1).1.wf k (by omega)).2.2)
  refine sp S (tr (idxi uT24 sZ54 rfl rfl k rfl (by omega) (((S.u 0 rfl).2.1).1.adr (i := k) (by omega)))<|la (ov fun S=>x_ldw (S.e rfl) (((S.u 0 rfl).2.1).1.wcell k (by omega) _ rfl _ rfl) wD54)) ?_; clear S; intro a u S
  refine nbp S (x_allocz _ iZ54 rfl) ?_; clear S; intro a u b6 S
  refine ens S (la (stkw 1 rfl rfl rfl)) ?_; clear S; intro a u S
  refine rs S (tr (fldi 0 0 rfl uT54)<|tr (ldk 1 sC3 rfl rfl rfl)<|tr (lssi rfl rfl)<|tr (mv rfl)<|tr (og 81 rfl gf fun S hg=>xf (0) 0 uT54 (S.e rfl))<|tr (og 81 rfl gf fun S hg=>x_load sC3 (S.p rfl hg) ((S.k 1 rfl).cell (j := 0) rfl))<|tr (og 81 rfl gf fun S hg=>xf (0) 1 uT54 (S.e rfl))<|tr (og 81 rfl gf fun S hg=>x_load sC3 (S.p rfl hg) ((S.k 1 rfl).cell (j := 1) rfl))<|tr (og 81 rfl gf fun S hg=>x_geq (S.p rfl hg) (S.p rfl hg))<|tr (ori rfl rfl rfl)<|tr (mv rfl)<|tr (og 88 rfl gf fun S hg=>xf (0) 1 uT54 (S.e rfl))<|tr (og 88 rfl gf fun S hg=>x_load sC3 (S.p rfl hg) ((S.k 1 rfl).cell (j := 1) rfl))<|tr (og 88 rfl gf fun S hg=>xf (0) 0 uT28 (S.e rfl))<|tr (og 88 rfl gf fun S hg=>x_load sC23 (S.p rfl hg) ((S.k 0 rfl).cell (j := 0) rfl))<|tr (og 88 rfl gf fun S hg=>x_len uT23 (S.p rfl hg))<|tr (og 88 rfl gf fun S hg=>x_geq (S.p rfl hg) (S.p rfl hg))<|tr (ori rfl rfl rfl)<|tr (mv rfl)<|tr (og 96 rfl gf fun S hg=>xf (0) 2 uT54 (S.e rfl))<|tr (og 96 rfl gf fun S hg=>x_load sC3 (S.p rfl hg) ((S.k 1 rfl).cell (j := 2) rfl))<|tr (og 96 rfl gf fun S hg=>x_lss (S.p rfl hg) (S.e rfl))<|tr (ori rfl rfl rfl)<|tr (mv rfl)<|tr (og 101 rfl gf fun S hg=>xf (0) 2 uT54 (S.e rfl))<|tr (og 101 rfl gf fun S hg=>x_load sC3 (S.p rfl hg) ((S.k 1 rfl).cell (j := 2) rfl))<|tr (og 101 rfl gf fun S hg=>x_gtr (S.p rfl hg) (S.e rfl))<|la (ori rfl rfl rfl)) ?_; clear S; intro a u S
  refine cd S rfl ?_ ?_
  ·intro hc7
   refine rs S (la (av rfl)) ?_; clear S; intro a u S
   refine wp_ret (blk_r (then_r (then_r (blk_r (then_r ?_)))))
   refine ret1 rfl S.s rfl ?_
   replace S := S.pk []
   refine ⟨(r1 (vf ?_)), S.m.c⟩
   rintro ⟨_, _, h, _⟩; have := h k (by omega); unfold lnkV at this; omega
  intro hc8
  refine wp_skip (blk_n (then_n ?_))
  refine rg S (tr (addi ((k + 1 : Nat) : Int) rfl rfl (w_i64 (by omega)))<|la (mv rfl)) ?_; clear S; intro a u S
  refine then_n ?_
  refine ⟨k + 1, S.re (subM rfl) rfl rfl, ?_, ?_⟩
  ·refine ⟨by omega, fun j hj => ?_⟩
   rcases Nat.lt_succ_iff_lt_or_eq.1 hj with h | h
   ·exact hnb j h
   subst h; unfold lnkV; omega
  omega
 intro hc9
 refine wp_exit (then_e (then_e (blk_e (then_n (wp_seq ?_)))))
 have hn23 : t.edges.xs.length ≤ 9223372036854775807 := ((S.u 0 rfl).2.2.1).1.len
 refine rs S (tr (fldi 0 2 rfl uT28)<|tr (ldk 0 sC25 rfl rfl rfl)<|tr (leni uT25 rfl)<|la (mv rfl)) ?_; clear S; intro a u S
 refine wp_block ?_
 refine lp1 (fun (k : Nat) => [(1, pT b1 0), (108, sV t.edges), (109, iN t.edges.xs.length), (110, iN k)]) (fun (k : Nat) => [blO b1 (topoE.cells t) 28]) (fun (k : Nat) => k ≤ t.edges.xs.length ∧ ∀ j, j < k → edgAt t j ∧ ∀ i, i < j → ¬ edgTwo (t.edges.xs.getD j edgE.dflt) (t.edges.xs.getD i edgE.dflt)) (fun (k : Nat) => t.edges.xs.length - k) S 0 (subM rfl) rfl ?_ ?_
 ·exact ⟨Nat.zero_le _, fun j hj => by omega⟩
 clear S; intro k a u S hR
 obtain ⟨hkc, hnc⟩ := hR
 refine rs S (la (lssi rfl rfl)) ?_; clear S; intro a u S
 refine wp_seq ?_
 refine cd S rfl ?_ ?_
 ·intro hc10
  refine wp_skip (then_n (wp_seq (wp_block (rs0 ?_))))
  obtain ⟨hl26, hu26⟩ : inI64 ((t.edges.xs.getD k edgE.dflt).dev) := id ((((S.u 0 rfl).2.2.1).1.wf k (by omega)).2.1)
  obtain ⟨hl27, hu27⟩ : inU32 ((t.edges.xs.getD k edgE.dflt).pfx.addr) := id ((((S.u 0 rfl).2.2.1).1.wf k (by omega)).2.2.2.1.1)
  obtain ⟨hl28, hu28⟩ : inI64 ((t.edges.xs.getD k edgE.dflt).pfx.bits) := id ((((S.u 0 rfl).2.2.1).1.wf k (by omega)).2.2.2.1.2)
  refine sp S (tr (mv rfl)<|tr (idxi uT25 sZ71 rfl rfl k rfl (by omega) (((S.u 0 rfl).2.2.1).1.adr (i := k) (by omega)))<|la (ov fun S=>x_ldw (S.e rfl) (((S.u 0 rfl).2.2.1).1.wcell k (by omega) _ rfl _ rfl) wD71)) ?_; clear S; intro a u S
  refine nbp S (x_allocz _ iZ71 rfl) ?_; clear S; intro a u b8 S
  refine ens S (tr (av rfl)<|la (stkw 1 rfl rfl rfl)) ?_; clear S; intro a u S
  refine wp_seq ?_
  refine rs S (tr (ldkw 0 rfl rfl wD28)<|tr (ldkw 1 rfl rfl wD71)<|tr (oc (fun S=>tValidEdge _ _ S.x (.nil _) t (dn0 (S.u 0 rfl)) (t.edges.xs.getD k edgE.dflt) (dn0 (((S.u 0 rfl).2.2.1).1.wf k (by omega)))) cB80)<|tr (noti rfl)<|tr (mv rfl)<|tr (og 119 rfl gf fun S hg=>x_ldw (S.e rfl) (S.k 0 rfl).all wD28)<|tr (og 119 rfl gf fun S hg=>xf (0) 0 uT71 (S.e rfl))<|tr (og 119 rfl gf fun S hg=>x_load sC9 (S.p rfl hg) ((S.k 1 rfl).cell (j := 0) rfl))<|tr (ocg 119 rfl gf (fun S hg=>tEdge _ _ S.x (.nil _) t (dn0 (S.u 0 rfl)) ((t.edges.xs.getD k edgE.dflt).name) (((S.u 0 rfl).2.2.1).1.wf k (by omega)).1) cB81 fun S=>⟨fun hg=>(S.p rfl hg), fun hg=>(S.p rfl hg), trivial⟩)<|tr (og 119 rfl gf fun S hg=>x_move (S.e rfl))<|tr (og 119 rfl gf fun S hg=>x_neq (S.p rfl hg) (S.p rfl hg))<|la (ori rfl rfl rfl)) ?_; clear S; intro a u S
  refine cd S rfl ?_ ?_
  ·intro hc11
   refine rs S (la (av rfl)) ?_; clear S; intro a u S
   refine wp_ret (then_r (blk_r (then_r (then_r (blk_r (then_r ?_))))))
   refine ret1 rfl S.s rfl ?_
   replace S := S.pk []
   refine ⟨(r1 (vf ?_)), S.m.c⟩
   rintro ⟨_, _, _, h, _⟩; have := h k (by omega); unfold edgAt at this; rcases hc11 with h1 | h1
   ·exact h1 this.1
   exact h1 this.2
  intro hc12
  refine wp_skip (then_n ?_)
  have hk32 : (t.edges.xs.take k).length = k := by rw [List.length_take]; omega
  have hn33 : (t.edges.xs.take k).length ≤ 9223372036854775807 := ((sl_take ((S.u 0 rfl).2.2.1) k (by omega))).1.len
  refine rs S (tr (fldi 0 2 rfl uT28)<|tr (ldk 0 sC25 rfl rfl rfl)<|tr (mv rfl)<|tr (ov (v := .slice t.edges.a ((t.edges.xs.take k).length) t.edges.c) fun S=>x_slhn uT25 iZ71 (S.e rfl) (S.e rfl) k rfl (Nat.le_trans (by omega) ((S.u 0 rfl).2.2.1).2.1) ((S.u 0 rfl).2.2.1).2.2 _ (by rw [List.length_take]; omega))<|tr (leni uT25 rfl)<|la (mv rfl)) ?_; clear S; intro a u S
  refine wp_block ?_
  refine lp1 (fun (i : Nat) => [(1, pT b1 0), (108, sV t.edges), (109, iN t.edges.xs.length), (110, iN k), (111, bD (((k : Nat) : Int) < ((t.edges.xs.length : Nat) : Int))), (112, iN k), (113, pT (blk t.edges.a) (off t.edges.a + k * 6)), (114, .agg (edgE.cells (t.edges.xs.getD k edgE.dflt)).toArray), (8, pT b8 0), (7, iN k), (115, .agg (topoE.cells t).toArray), (116, .agg (edgE.cells (t.edges.xs.getD k edgE.dflt)).toArray), (117, bD (edgV t.devs.xs.length (t.edges.xs.getD k edgE.dflt))), (118, bD (¬ (edgV t.devs.xs.length (t.edges.xs.getD k edgE.dflt)))), (119, bD (¬ (edgV t.devs.xs.length (t.edges.xs.getD k edgE.dflt)))), (120, (if (¬ (¬ (edgV t.devs.xs.length (t.edges.xs.getD k edgE.dflt)))) then .agg (topoE.cells t).toArray else undef)), (121, (if (¬ (¬ (edgV t.devs.xs.length (t.edges.xs.getD k edgE.dflt)))) then pT b8 (0 + 0) else undef)), (122, (if (¬ (¬ (edgV t.devs.xs.length (t.edges.xs.getD k edgE.dflt)))) then .string ((t.edges.xs.getD k edgE.dflt).name) else undef)), (123, (if (¬ (¬ (edgV t.devs.xs.length (t.edges.xs.getD k edgE.dflt)))) then iI (idxOf (fun x => decide (x.name = (t.edges.xs.getD k edgE.dflt).name)) t.edges.xs) else undef)), (124, (if (¬ (¬ (edgV t.devs.xs.length (t.edges.xs.getD k edgE.dflt)))) then iN k else undef)), (125, (if (¬ (¬ (edgV t.devs.xs.length (t.edges.xs.getD k edgE.dflt)))) then bD (¬ idxOf (fun x => decide (x.name = (t.edges.xs.getD k edgE.dflt).name)) t.edges.xs = ((k : Nat) : Int)) else undef)), (126, bD ((¬ (edgV t.devs.xs.length (t.edges.xs.getD k edgE.dflt))) ∨ (¬ idxOf (fun x => decide (x.name = (t.edges.xs.getD k edgE.dflt).name)) t.edges.xs = ((k : Nat) : Int)))), (127, pT b1 (0 + 2)), (128, sV t.edges), (129, iN k), (130, .slice t.edges.a ((t.edges.xs.take k).length) t.edges.c), (131, iN (t.edges.xs.take k).length), (132, iN i)]) (fun (i : Nat) => [blO b1 (topoE.cells t) 28, blO b8 (edgE.cells (t.edges.xs.getD k edgE.dflt)) 71]) (fun (i : Nat) => i ≤ k ∧ ∀ j, j < i → ¬ edgTwo (t.edges.xs.getD k edgE.dflt) (t.edges.xs.getD j edgE.dflt)) (fun (i : Nat) => k - i) S 0 (subM rfl) rfl ?_ ?_
  ·exact ⟨Nat.zero_le _, fun j hj => by omega⟩
  clear S; intro i a u S hR
  obtain ⟨hk2, hn2⟩ := hR
  refine rs S (la (lssi rfl rfl)) ?_; clear S; intro a u S
  refine wp_seq ?_
  refine cd S rfl ?_ ?_
  ·intro hc13
   refine wp_skip (then_n (wp_seq (wp_block (rs0 ?_))))
   obtain ⟨hl36, hu36⟩ : inI64 (((t.edges.xs.take k).getD i edgE.dflt).dev) := id (((((S.u 0 rfl).2.2.1).1.take k (by omega)).wf i (by omega)).2.1)
   obtain ⟨hl37, hu37⟩ : inU32 (((t.edges.xs.take k).getD i edgE.dflt).pfx.addr) := id (((((S.u 0 rfl).2.2.1).1.take k (by omega)).wf i (by omega)).2.2.2.1.1)
   obtain ⟨hl38, hu38⟩ : inI64 (((t.edges.xs.take k).getD i edgE.dflt).pfx.bits) := id (((((S.u 0 rfl).2.2.1).1.take k (by omega)).wf i (by omega)).2.2.2.1.2)
   refine sp S (tr (idxi uT25 sZ71 rfl rfl i rfl (by omega) ((((S.u 0 rfl).2.2.1).1.take k (by omega)).adr (i := i) (by omega)))<|la (ov fun S=>x_ldw (S.e rfl) ((((S.u 0 rfl).2.2.1).1.take k (by omega)).wcell i (by omega) _ rfl _ rfl) wD71)) ?_; clear S; intro a u S
   refine nbp S (x_allocz _ iZ71 rfl) ?_; clear S; intro a u b10 S
   refine ens S (la (stkw 2 rfl rfl rfl)) ?_; clear S; intro a u S
   refine rs S (tr (fldi 0 5 rfl uT71)<|tr (ldk 1 sC4 rfl rfl rfl)<|tr (noti rfl)<|tr (mv rfl)<|tr (og 139 rfl gt fun S hg=>xf (0) 5 uT71 (S.e rfl))<|tr (og 139 rfl gt fun S hg=>x_load sC4 (S.p rfl hg) ((S.k 2 rfl).cell (j := 5) rfl))<|tr (og 139 rfl gt fun S hg=>x_notp (S.p rfl hg))<|tr (andi rfl rfl rfl)<|tr (mv rfl)<|tr (og 144 rfl gt fun S hg=>xf (0) 3 uT71 (S.e rfl))<|tr (og 144 rfl gt fun S hg=>x_loadw [.int .u32 ((t.edges.xs.getD k edgE.dflt).pfx.addr), iI ((t.edges.xs.getD k edgE.dflt).pfx.bits)] wD68 (S.p rfl hg) ((S.k 1 rfl).mid [.string ((t.edges.xs.getD k edgE.dflt).name), iI ((t.edges.xs.getD k edgE.dflt).dev), .string ((t.edges.xs.getD k edgE.dflt).zone)] [.int .u32 ((t.edges.xs.getD k edgE.dflt).pfx.addr), iI ((t.edges.xs.getD k edgE.dflt).pfx.bits)] [bD ((t.edges.xs.getD k edgE.dflt).planned = true)] rfl _ rfl))<|tr (og 144 rfl gt fun S hg=>xf (0) 3 uT71 (S.e rfl))<|tr (og 144 rfl gt fun S hg=>x_loadw [.int .u32 (((t.edges.xs.take k).getD i edgE.dflt).pfx.addr), iI (((t.edges.xs.take k).getD i edgE.dflt).pfx.bits)] wD68 (S.p rfl hg) ((S.k 2 rfl).mid [.string (((t.edges.xs.take k).getD i edgE.dflt).name), iI (((t.edges.xs.take k).getD i edgE.dflt).dev), .string (((t.edges.xs.take k).getD i edgE.dflt).zone)] [.int .u32 (((t.edges.xs.take k).getD i edgE.dflt).pfx.addr), iI (((t.edges.xs.take k).getD i edgE.dflt).pfx.bits)] [bD (((t.edges.xs.take k).getD i edgE.dflt).planned = true)] rfl _ rfl))<|tr (ocg 144 rfl gt (fun S hg=>tOverlap _ _ S.x (.nil _) ((t.edges.xs.getD k edgE.dflt).pfx) ⟨(((S.u 0 rfl).2.2.1).1.wf k (by omega)).2.2.2.1.1, (((S.u 0 rfl).2.2.1).1.wf k (by omega)).2.2.2.1.2⟩ (((t.edges.xs.take k).getD i edgE.dflt).pfx) ⟨((((S.u 0 rfl).2.2.1).1.take k (by omega)).wf i (by omega)).2.2.2.1.1, ((((S.u 0 rfl).2.2.1).1.take k (by omega)).wf i (by omega)).2.2.2.1.2⟩) cB82 fun S=>⟨fun hg=>(S.p rfl hg), fun hg=>(S.p rfl hg), trivial⟩)<|la (andi rfl rfl rfl)) ?_; clear S; intro a u S
   refine cd S rfl ?_ ?_
   ·intro hc14
    refine rs S (la (av rfl)) ?_; clear S; intro a u S
    refine wp_ret (blk_r (then_r (then_r (blk_r (blk_r (then_r (then_r (blk_r (then_r ?_)))))))))
    refine ret1 rfl S.s rfl ?_
    replace S := S.pk []
    refine ⟨(r1 (vf ?_)), S.m.c⟩
    rintro ⟨_, _, _, _, h, _⟩; refine h k (by omega) i (by omega) ?_; rw [getD_take (by omega)] at hc14; exact hc14
   intro hc15
   refine wp_skip (blk_n (then_n ?_))
   refine rg S (tr (addi ((i + 1 : Nat) : Int) rfl rfl (w_i64 (by omega)))<|la (mv rfl)) ?_; clear S; intro a u S
   refine then_n ?_
   refine ⟨i + 1, S.re (subM rfl) rfl rfl, ?_, ?_⟩
   ·refine ⟨by omega, fun j hj => ?_⟩
    rcases Nat.lt_succ_iff_lt_or_eq.1 hj with h | h
    ·exact hn2 j h
    subst h; rw [getD_take (by omega)] at hc15; exact hc15
   omega
  intro hc16
  refine wp_exit (then_e (then_e (blk_e (blk_n (then_n ?_)))))
  refine rg S (tr (addi ((k + 1 : Nat) : Int) rfl rfl (w_i64 (by omega)))<|la (mv rfl)) ?_; clear S; intro a u S
  refine then_n ?_
  refine ⟨k + 1, S.re (subM rfl) rfl rfl, ?_, ?_⟩
  ·refine ⟨by omega, fun j hj => ?_⟩
   rcases Nat.lt_succ_iff_lt_or_eq.1 hj with h | h
   ·exact hnc j h
   subst h; simp only [not_or, Classical.not_not] at hc12; exact ⟨⟨hc12.1, hc12.2⟩, fun i hi => hn2 i (by omega)⟩
  omega
 intro hc17
 refine wp_exit (then_e (then_e (blk_e (then_n (wp_seq ?_)))))
 have hn44 : t.pools.xs.length ≤ 9223372036854775807 := ((S.u 0 rfl).2.2.2.1).1.len
 refine rs S (tr (fldi 0 3 rfl uT28)<|tr (ldk 0 sC26 rfl rfl rfl)<|tr (leni uT26 rfl)<|la (mv rfl)) ?_; clear S; intro a u S
 refine wp_block ?_
 refine lp1 (fun (k : Nat) => [(1, pT b1 0), (154, sV t.pools), (155, iN t.pools.xs.length), (156, iN k)]) (fun (k : Nat) => [blO b1 (topoE.cells t) 28]) (fun (k : Nat) => k ≤ t.pools.xs.length ∧ ∀ j, j < k → polAt t.pools.xs j) (fun (k : Nat) => t.pools.xs.length - k) S 0 (subM rfl) rfl ?_ ?_
 ·exact ⟨Nat.zero_le _, fun j hj => by omega⟩
 clear S; intro k a u S hR
 obtain ⟨hk, hn⟩ := hR
 refine rs S (la (lssi rfl rfl)) ?_; clear S; intro a u S
 refine wp_seq ?_
 refine cd S rfl ?_ ?_
 ·intro hc18
  refine wp_skip (then_n (wp_seq (wp_block (rs0 ?_))))
  obtain ⟨hl47, hu47⟩ : inU32 ((t.pools.xs.getD k pfxE.dflt).addr) := id ((((S.u 0 rfl).2.2.2.1).1.wf k (by omega)).1)
  obtain ⟨hl48, hu48⟩ : inI64 ((t.pools.xs.getD k pfxE.dflt).bits) := id ((((S.u 0 rfl).2.2.2.1).1.wf k (by omega)).2)
  refine sp S (tr (mv rfl)<|tr (idxi uT26 sZ68 rfl rfl k rfl (by omega) (((S.u 0 rfl).2.2.2.1).1.adr (i := k) (by omega)))<|la (ov fun S=>x_ldw (S.e rfl) (((S.u 0 rfl).2.2.2.1).1.wcell k (by omega) _ rfl _ rfl) wD68)) ?_; clear S; intro a u S
  refine nbp S (x_allocz _ iZ68 rfl) ?_; clear S; intro a u b12 S
  refine ens S (tr (av rfl)<|la (stkw 1 rfl rfl rfl)) ?_; clear S; intro a u S
  refine rs S (tr (ldkw 1 rfl rfl wD68)<|tr (oc (fun S=>pValid _ _ S.x (.nil _) (t.pools.xs.getD k pfxE.dflt) (dn0 (((S.u 0 rfl).2.2.2.1).1.wf k (by omega)))) cB83)<|tr (noti rfl)<|tr (mv rfl)<|tr (og 164 rfl gf fun S hg=>xf (0) 3 uT28 (S.e rfl))<|tr (og 164 rfl gf fun S hg=>x_load sC26 (S.p rfl hg) ((S.k 0 rfl).cell (j := 3) rfl))<|tr (og 164 rfl gf fun S hg=>x_move (S.e rfl))<|tr (og 164 (v := .slice t.pools.a ((t.pools.xs.take k).length) t.pools.c) rfl gf fun S hg=>x_slhn uT26 iZ68 (S.p rfl hg) (S.p rfl hg) k rfl (Nat.le_trans (by omega) ((S.u 0 rfl).2.2.2.1).2.1) ((S.u 0 rfl).2.2.2.1).2.2 _ (by rw [List.length_take]; omega))<|tr (og 164 rfl gf fun S hg=>x_mkfn (cs := #[pT b12 0]) (by simp only [List.map_toArray, List.map_cons, List.map_nil, S.e (x := .tmp 12) (v := pT b12 0) rfl]))<|tr (ocg 164 rfl gf (fun S hg=>pContains _ _ S.x (.nil _) (Sl.mk t.pools.a t.pools.c (t.pools.xs.take k)) (dn0 (sl_take ((S.u 0 rfl).2.2.2.1) k (by omega))) (fun x => meets (t.pools.xs.getD k pfxE.dflt) x) 85 #[pT b12 0] ⟨cB85, fun w2 g i hi => tValid1 _ _ ((S.m.c.trans (Tr.framed0 S.M g)).old S.m.f) (MS.nil _) ((t.pools.xs.take k).getD i pfxE.dflt) (pfxE.tr (((dn0 (sl_take ((S.u 0 rfl).2.2.2.1) k (by omega)))).1.wf i hi) g) (t.pools.xs.getD k pfxE.dflt) (Enc.tr (pfxE) (show pfxE.wf _ _ (t.pools.xs.getD k pfxE.dflt) from (dn0 (((S.u 0 rfl).2.2.2.1).1.wf k (by omega)))) g) b12 (Blk.tr0 (S.k 1 rfl) g.ch)⟩) cB84 fun S=>⟨fun hg=>(S.p rfl hg), fun hg=>(S.p rfl hg), trivial⟩)<|la (ori rfl rfl rfl)) ?_; clear S; intro a u S
  refine cd S rfl ?_ ?_
  ·intro hc19
   refine rs S (la (av rfl)) ?_; clear S; intro a u S
   refine wp_ret (blk_r (then_r (then_r (blk_r (then_r ?_)))))
   refine ret1 rfl S.s rfl ?_
   replace S := S.pk []
   refine ⟨(r1 (vf ?_)), S.m.c⟩
   rintro ⟨_, _, _, _, _, h⟩; have := h k (by omega); unfold polAt at this; rcases hc19 with h1 | h1
   ·exact h1 this.1
   obtain ⟨j, hj, hm⟩ := (ex_take pfxE.dflt _ _ _ (by omega)).1 h1; exact this.2 j hj hm
  intro hc20
  refine wp_skip (blk_n (then_n ?_))
  refine rg S (tr (addi ((k + 1 : Nat) : Int) rfl rfl (w_i64 (by omega)))<|la (mv rfl)) ?_; clear S; intro a u S
  refine then_n ?_
  refine ⟨k + 1, S.re (subM rfl) rfl rfl, ?_, ?_⟩
  ·refine ⟨by omega, fun j hj => ?_⟩
   rcases Nat.lt_succ_iff_lt_or_eq.1 hj with h | h
   ·exact hn j h
   subst h; simp only [not_or, Classical.not_not] at hc20; exact ⟨hc20.1, fun i hi hm => hc20.2 ((ex_take pfxE.dflt _ _ _ (by omega)).2 ⟨i, hi, hm⟩)⟩
  omega
 intro hc21
 refine wp_exit (then_e (then_e (blk_e (then_n ?_))))
 refine rs S (la (av rfl)) ?_; clear S; intro a u S
 refine wp_ret ?_
 refine ret1 rfl S.s rfl ?_
 replace S := S.pk []
 refine ⟨(r1 (vt ?_)), S.m.c⟩
 exact ⟨by unfold topB; omega, fun i hi => hna i (by omega), fun i hi => hnb i (by omega), fun i hi => (hnc i (by omega)).1, fun i hi => (hnc i (by omega)).2, fun i hi => hn i (by omega)⟩
end Go.Proofs.Ytfanmniaolncbaa.V
