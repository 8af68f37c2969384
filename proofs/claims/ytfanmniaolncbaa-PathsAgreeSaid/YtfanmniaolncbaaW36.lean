/- paths: next links -/
import Derived.Test.YtfanmniaolncbaaW35
namespace Go.Proofs.Ytfanmniaolncbaa.V
open Go.RowKit Go.Proofs.Ytfanmniaolncbaa
set_option linter.unusedVariables false
set_option linter.unusedSimpArgs false
set_option maxHeartbeats 2000000 in
set_option maxRecDepth 20000 in
theorem pNext0 (w : World) (F : Nat → Prop) (hF : Old F w) (M : MS [] w) (t : Topo) (t_w : topoE.wf (Fr F []) w.heap t) (f : Fail) (f_w : failE.wf (Fr F []) w.heap f) (ds : Sl Int) (ds_w : (slE intE).wf (Fr F []) w.heap ds) (d : Int) (d_h : inI64 d) (HV : failV t f) (hx : (0 ≤ d ∧ d < t.devs.xs.length) ∧ ds.xs.length = t.devs.xs.length) (hv : ∀ x, ds.xs.getD x 0 ≤ 12000) :
 Calls Try.prog 75 #[.agg (topoE.cells t).toArray, .agg (failE.cells f).toArray, sV ds, iI d] w fun e w' => e = .returned (.tuple #[iI (nextDs t f ds.xs (d).toNat), iI (devDs t f ds.xs d)]) ∧ Tr [] w [] w' := by
 have : t.devs.xs.length ≤ 9223372036854775807 := (t_w.1).1.len
 have : t.links.xs.length ≤ 9223372036854775807 := (t_w.2.1).1.len
 have : t.edges.xs.length ≤ 9223372036854775807 := (t_w.2.2.1).1.len
 have : t.pools.xs.length ≤ 9223372036854775807 := (t_w.2.2.2.1).1.len
 obtain ⟨_, _⟩ : inI64 t.tol := t_w.2.2.2.2
 have : f.links.xs.length ≤ 9223372036854775807 := (f_w.1).1.len
 have : f.devs.xs.length ≤ 9223372036854775807 := (f_w.2).1.len
 have : ds.xs.length ≤ 9223372036854775807 := (ds_w).1.len
 obtain ⟨d_hl, d_hu⟩ : inI64 d := id d_h
 obtain ⟨⟨hd0, hd1⟩, hdl⟩ := hx
 have hB : topB t := HV.1.1.1
 unfold topB at hB
 have hvd : ds.xs.getD d.toNat intE.dflt ≤ 12000 := hv d.toNat
 refine go Try.func75 rfl 66 rfl [wfF topoE t, wfF failE f, wfF (slE intE) ds] [] hF M ⟨t_w, f_w, ds_w, trivial⟩ trivial ?_
 intro a S
 refine rs0 ?_
 refine nbp S (x_box _ (S.e rfl) rfl) ?_; clear S; intro a u b4 S
 refine nbp S (x_box _ (S.e rfl) rfl) ?_; clear S; intro a u b5 S
 refine ens S (tr (av rfl)<|la (av rfl)) ?_; clear S; intro a u S
 refine wp_seq ?_
 obtain ⟨hl3, hu3⟩ : inI64 (ds.xs.getD ((d).toNat) intE.dflt) := id (((S.u 2 rfl)).1.wf (d).toNat (by omega))
 refine rs S (tr (mv rfl)<|tr (mv rfl)<|tr (idxi uT22 sZ3 rfl rfl (d).toNat (by omega) (by omega) (((S.u 2 rfl)).1.adr (i := (d).toNat) (by omega)))<|tr (ov fun S=>x_load sC3 (S.e rfl) (((S.u 2 rfl)).1.cell (d).toNat (by omega) 0 _ rfl))<|la (leqi rfl rfl)) ?_; clear S; intro a u S
 refine cd S rfl ?_ ?_
 ·intro hc0
  refine rs S (tr (mv rfl)<|tr (av rfl)<|la (av rfl)) ?_; clear S; intro a u S
  refine wp_ret (then_r ?_)
  refine ret2 rfl S.s rfl rfl ?_
  replace S := S.pk []
  refine ⟨(r2 (vi ?_) (vi ?_)), S.m.c⟩
  ·first | exact nextDs_no HV.1.1 hc0 | exact (nextDs_no HV.1.1 hc0).symm
  unfold devDs; rw [nextDs_no HV.1.1 hc0]; rfl
 intro hc1
 refine wp_skip (then_n (wp_seq ?_))
 have hn6 : t.links.xs.length ≤ 9223372036854775807 := ((S.u 0 rfl).2.1).1.len
 refine rs S (tr (fldi 0 1 rfl uT28)<|tr (ldk 0 sC24 rfl rfl rfl)<|tr (leni uT24 rfl)<|la (mv rfl)) ?_; clear S; intro a u S
 refine wp_block ?_
 refine lp1 (fun (k : Nat) => [(2, sV ds), (3, iI d), (4, pT b4 0), (5, pT b5 0), (21, sV t.links), (22, iN t.links.xs.length), (23, iN k)]) (fun (k : Nat) => [blO b4 (topoE.cells t) 28, blO b5 (failE.cells f) 41]) (fun (k : Nat) => k ≤ t.links.xs.length ∧ ∀ j, j < k → ¬ goesD t f ds.xs d.toNat j) (fun (k : Nat) => t.links.xs.length - k) S 0 (subM rfl) rfl ?_ ?_
 ·exact ⟨Nat.zero_le _, fun j h => by omega⟩
 clear S; intro k a u S hR
 obtain ⟨hk, hn⟩ := hR
 refine rs S (la (lssi rfl rfl)) ?_; clear S; intro a u S
 refine wp_seq ?_
 refine cd S rfl ?_ ?_
 ·intro hc2
  have hlv : lnkV t.devs.xs.length (t.links.xs.getD k lnkE.dflt) := topV_link HV.1.1 (by omega)
  have hlv2 := hlv; unfold lnkV at hlv2
  have hob := other_bd (d := d) hlv
  have hvo : ds.xs.getD (otherTo (t.links.xs.getD k lnkE.dflt) d).toNat intE.dflt ≤ 12000 := hv _
  refine wp_skip (then_n (wp_seq (wp_block (rs0 ?_))))
  obtain ⟨hl9, hu9⟩ : inI64 ((t.links.xs.getD k lnkE.dflt).a) := id ((((S.u 0 rfl).2.1).1.wf k (by omega)).1)
  obtain ⟨hl10, hu10⟩ : inI64 ((t.links.xs.getD k lnkE.dflt).b) := id ((((S.u 0 rfl).2.1).1.wf k (by omega)).2.1)
  obtain ⟨hl11, hu11⟩ : inI64 ((t.links.xs.getD k lnkE.dflt).cost) := id ((((S.u 0 rfl).2.1).1.wf k (by omega)).2.2)
  refine sp S (tr (mv rfl)<|tr (idxi uT24 sZ54 rfl rfl k rfl (by omega) (((S.u 0 rfl).2.1).1.adr (i := k) (by omega)))<|la (ov fun S=>x_ldw (S.e rfl) (((S.u 0 rfl).2.1).1.wcell k (by omega) _ rfl _ rfl) wD54)) ?_; clear S; intro a u S
  refine nbp S (x_allocz _ iZ54 rfl) ?_; clear S; intro a u b11 S
  refine ens S (tr (av rfl)<|la (stkw 2 rfl rfl rfl)) ?_; clear S; intro a u S
  refine rs S (tr (ldkw 2 rfl rfl wD54)<|tr (mv rfl)<|tr (oc (fun S=>pOther _ _ S.x (.nil _) (t.links.xs.getD k lnkE.dflt) (dn0 (((S.u 0 rfl).2.1).1.wf k (by omega))) d d_h) cB72)<|tr (mv rfl)<|tr (exi rfl rfl)<|tr (exi rfl rfl)<|tr (av rfl)<|la (av rfl)) ?_; clear S; intro a u S
  refine wp_seq ?_
  refine dr (P := Try.prog) S 28 [] [(34, .is _), (35, .is _), (36, .is _), (37, .is _), (38, .is _), (39, .is _), (40, .is _), (41, .is _), (42, .is _), (43, .is _), (44, .is _), (45, .is _), (46, .is _), (47, .is _), (48, .is _), (49, .is _), (50, .is _), (51, .is _), (52, .is _), (53, .is _), (54, .is _), (55, .is _), (56, .is _), (57, .is _), (58, .is _), (59, .is _), (60, .is _), (61, .is _)] [[], [34], [35], [35], [35], [35, 36, 37, 38], [35, 39], [40], [41], [41], [41, 42, 43], [41, 44], [41, 45], [41, 46], [47], [48], [48, 49], [48], [48], [48, 51, 52], [48, 53], [48, 50, 54], [48], [48], [48, 56, 57], [48, 58], [48, 55, 59], [48, 60]] [61] _ ⟨qd (mv rfl), qd (mv rfl), qd (og 35 rfl gt fun S hg=>x_ldw (S.e rfl) (S.k 0 rfl).all wD28), qd (og 35 rfl gt fun S hg=>x_ldw (S.e rfl) (S.k 1 rfl).all wD41), qd (og 35 rfl gt fun S hg=>x_move (S.e rfl)), qd (ocg 35 rfl gt (fun S hg=>fUsable _ _ S.x (.nil _) t (dn0 (S.u 0 rfl)) f (dn0 (S.u 1 rfl)) ((k : Nat) : Int) ⟨by omega, by omega⟩) cB28 fun S=>⟨fun hg=>(S.p rfl hg), fun hg=>(S.p rfl hg), fun hg=>(S.p rfl hg), trivial⟩), qd (andi rfl rfl rfl), qd (mv rfl), qd (og 41 rfl gt fun S hg=>x_move (S.e rfl)), qd (og 41 rfl gt fun S hg=>x_move (S.e rfl)), qd (og 41 rfl gt fun S hg=>x_idx uT22 sZ3 (S.p rfl hg) (S.p rfl hg) (otherTo (t.links.xs.getD k lnkE.dflt) d).toNat (by omega) (by omega) (((S.u 2 rfl)).1.adr (i := (otherTo (t.links.xs.getD k lnkE.dflt) d).toNat) (by omega))), qd (og 41 rfl gt fun S hg=>x_load sC3 (S.p rfl hg) (((S.u 2 rfl)).1.cell (otherTo (t.links.xs.getD k lnkE.dflt) d).toNat (by omega) 0 _ rfl)), qd (og 41 rfl gt fun S hg=>x_geq (S.p rfl hg) (S.e rfl)), qd (andi rfl rfl rfl), qd (mv rfl), qd (og 48 rfl gt fun S hg=>xf (0) 2 uT54 (S.e rfl)), qd (og 48 rfl gt fun S hg=>x_load sC3 (S.p rfl hg) ((S.k 2 rfl).cell (j := 2) rfl)), qd (og 48 rfl gt fun S hg=>x_move (S.e rfl)), qd (og 48 rfl gt fun S hg=>x_move (S.e rfl)), qd (og 48 rfl gt fun S hg=>x_idx uT22 sZ3 (S.p rfl hg) (S.p rfl hg) (otherTo (t.links.xs.getD k lnkE.dflt) d).toNat (by omega) (by omega) (((S.u 2 rfl)).1.adr (i := (otherTo (t.links.xs.getD k lnkE.dflt) d).toNat) (by omega))), qd (og 48 rfl gt fun S hg=>x_load sC3 (S.p rfl hg) (((S.u 2 rfl)).1.cell (otherTo (t.links.xs.getD k lnkE.dflt) d).toNat (by omega) 0 _ rfl)), qd (og 48 rfl gt fun S hg=>x_add (S.p rfl hg) (S.p rfl hg) (r := ((t.links.xs.getD k lnkE.dflt).cost + (ds.xs.getD ((otherTo (t.links.xs.getD k lnkE.dflt) d).toNat) intE.dflt))) (w_i64 (by omega))), qd (og 48 rfl gt fun S hg=>x_move (S.e rfl)), qd (og 48 rfl gt fun S hg=>x_move (S.e rfl)), qd (og 48 rfl gt fun S hg=>x_idx uT22 sZ3 (S.p rfl hg) (S.p rfl hg) (d).toNat (by omega) (by omega) (((S.u 2 rfl)).1.adr (i := (d).toNat) (by omega))), qd (og 48 rfl gt fun S hg=>x_load sC3 (S.p rfl hg) (((S.u 2 rfl)).1.cell (d).toNat (by omega) 0 _ rfl)), qd (og 48 rfl gt fun S hg=>x_eql (S.p rfl hg) (S.p rfl hg)), qd (andi rfl rfl rfl), trivial⟩ ?_
  clear S; intro a u S G hE
  refine ent ?_
  refine cd S rfl ?_ ?_
  ·intro hc3
   have hnd : nextDs t f ds.xs d.toNat = (k : Int) := firstI_at (by omega) ((goesD_to HV.1.1 (by omega) hd0).2 ⟨⟨⟨hc3.1.1.1, (usable_iff HV (by omega)).1 hc3.1.1.2⟩, hc3.1.2⟩, hc3.2⟩) hn
   refine rs S (tr (mv rfl)<|tr (mv rfl)<|tr (av rfl)<|la (av rfl)) ?_; clear S; intro a u S
   refine wp_ret (blk_r (then_r (then_r (blk_r (then_r ?_)))))
   refine ret2 rfl S.s rfl rfl ?_
   replace S := S.pk []
   refine ⟨(r2 (vi ?_) (vi ?_)), S.m.c⟩
   ·first | exact hnd | exact hnd.symm
   unfold devDs; rw [hnd, if_pos (by omega)]; rfl
  intro hc4
  refine wp_skip (blk_n (then_n ?_))
  refine rg S (tr (addi ((k + 1 : Nat) : Int) rfl rfl (w_i64 (by omega)))<|la (mv rfl)) ?_; clear S; intro a u S
  refine then_n ?_
  refine ⟨(k + 1), S.re (subM rfl) rfl rfl, ?_, ?_⟩
  ·refine ⟨by omega, fun j hj g => ?_⟩
   rcases Nat.lt_succ_iff_lt_or_eq.1 hj with h | rfl
   ·exact hn j h g
   obtain ⟨⟨⟨g1, g2⟩, g3⟩, g4⟩ := (goesD_to HV.1.1 (by omega) hd0).1 g
   exact hc4 ⟨⟨⟨g1, (usable_iff HV (by omega)).2 g2⟩, g3⟩, g4⟩
  omega
 intro hc5
 have hnd : nextDs t f ds.xs d.toNat = -1 := firstI_none fun j hj => hn j (by omega)
 refine wp_exit (then_e (then_e (blk_e (then_n ?_))))
 refine rs S (tr (mv rfl)<|tr (av rfl)<|la (av rfl)) ?_; clear S; intro a u S
 refine wp_ret ?_
 refine ret2 rfl S.s rfl rfl ?_
 replace S := S.pk []
 refine ⟨(r2 (vi ?_) (vi ?_)), S.m.c⟩
 ·first | exact hnd | exact hnd.symm
 unfold devDs; rw [hnd]; rfl
end Go.Proofs.Ytfanmniaolncbaa.V
