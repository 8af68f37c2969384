/- the laws on paths: walks -/
import Derived.Test.YtfanmniaolncbaaW14
import Derived.Test.YtfanmniaolncbaaW39
import Derived.Test.YtfanmniaolncbaaPLawN
namespace Go.Proofs.Ytfanmniaolncbaa.V
open Go.RowKit Go.Proofs.Ytfanmniaolncbaa
set_option linter.unusedVariables false
set_option linter.unusedSimpArgs false
set_option maxHeartbeats 2000000 in
set_option maxRecDepth 20000 in
theorem lPWalk (w : World) (F : Nat → Prop) (hF : Old F w) (M : MS [] w) (l : Sl Int) (l_w : (slE intE).wf (Fr F []) w.heap l) :
 Calls Try.prog 11 #[sV l] w fun e w' => e = .returned (bD (True)) ∧ Tr [] w [] w' := by
 have : l.xs.length ≤ 9223372036854775807 := (l_w).1.len
 refine go Try.func11 rfl 203 rfl [wfF (slE intE) l] [] hF M ⟨l_w, trivial⟩ trivial ?_
 intro a S
 refine rs S (la (av rfl)) ?_; clear S; intro a u S
 refine rs0 ?_
 refine sp S (la (mv rfl)) ?_; clear S; intro a u S
 refine cl S (gNew _ _ S.x (.nil _) l (dn0 (S.u 0 rfl))) cB14 ?_
 rintro e u ⟨T15, rfl, TK, T0⟩; refine ⟨_, rfl, fun a s => ?_⟩; replace S := S.kt s T0 TK; clear s T0 TK
 refine ens S (la (av rfl)) ?_; clear S; intro a u S
 refine rs0 ?_
 refine sp S (la (mv rfl)) ?_; clear S; intro a u S
 refine cl S (gTopology _ _ S.x T15 (S.M.pick [0] (by decide)) l (dn1 (js := [0]) (S.u 0 rfl)) (S.t 0 rfl) 6 ⟨by omega, by omega⟩) cB15 ?_
 rintro e u ⟨r_t17, rfl, R_t17, hr_t17, tK, T0⟩; refine ⟨_, rfl, fun a s => ?_⟩
 replace S := (S.k1 0 rfl s T0 tK).ar (wfF topoE r_t17) (Enc.up _ R_t17); clear s T0 tK R_t17
 have HG : genT r_t17 := hr_t17
 have HT := HG.1
 have hB := HG.1.1
 unfold topB at hB
 obtain ⟨-, hB1, hB2, hB3, hB4⟩ := HG
 have hn4 : r_t17.devs.xs.length ≤ 9223372036854775807 := ((S.u 1 rfl).1).1.len
 have hn5 : r_t17.links.xs.length ≤ 9223372036854775807 := ((S.u 1 rfl).2.1).1.len
 have hn6 : r_t17.edges.xs.length ≤ 9223372036854775807 := ((S.u 1 rfl).2.2.1).1.len
 have hn7 : r_t17.pools.xs.length ≤ 9223372036854775807 := ((S.u 1 rfl).2.2.2.1).1.len
 obtain ⟨hl8, hu8⟩ : inI64 r_t17.tol := id ((S.u 1 rfl).2.2.2.2)
 refine nbp S (x_allocz _ iZ28 rfl) ?_; clear S; intro a u b4 S
 refine ens S (la (stkw 1 rfl rfl rfl)) ?_; clear S; intro a u S
 refine rs0 ?_
 refine sp S (tr (mv rfl)<|la (ldkw 1 rfl rfl wD28)) ?_; clear S; intro a u S
 refine cl S (gFailure _ _ S.x T15 (S.M.pick [0] (by decide)) l (dn1 (js := [0]) (S.u 0 rfl)) (S.t 0 rfl) r_t17 (dn1 (js := [0]) (S.u 1 rfl)) (by omega)) cB25 ?_
 rintro e u ⟨r_t20, rfl, R_t20, hr_t20, tK, T0⟩; refine ⟨_, rfl, fun a s => ?_⟩
 replace S := (S.k1 0 rfl s T0 tK).ar (wfF failE r_t20) (Enc.up _ R_t20); clear s T0 tK R_t20
 have HV := failR_valid hr_t20 HT
 have hn10 : r_t20.links.xs.length ≤ 9223372036854775807 := ((S.u 2 rfl).1).1.len
 have hn11 : r_t20.devs.xs.length ≤ 9223372036854775807 := ((S.u 2 rfl).2).1.len
 refine nbp S (x_allocz _ iZ41 rfl) ?_; clear S; intro a u b5 S
 refine ens S (la (stkw 2 rfl rfl rfl)) ?_; clear S; intro a u S
 refine wp_seq ?_
 refine dr (P := Try.prog) S 12 [one T15] [(21, .is _), (22, .is _), (23, .is _), (24, .is _), (25, .of (fun z w => ∃ (x25a : Int), z = iI x25a ∧ (0 ≤ x25a ∧ (x25a < ((r_t17.devs.xs.length : Nat) : Int) ∨ x25a = 0))) (fun v w w' c h => let ⟨x25a, hv, h0⟩ := h; ⟨x25a, hv, h0⟩)), (26, .is _), (27, .is _), (28, .is _), (29, .is _), (30, .of (fun z w => ∃ (x30a : Int), z = iI x30a ∧ (0 ≤ x30a ∧ (x30a < ((r_t17.devs.xs.length : Nat) : Int) ∨ x30a = 0))) (fun v w w' c h => let ⟨x30a, hv, h0⟩ := h; ⟨x30a, hv, h0⟩)), (6, .of (fun z w => ∃ (x25a : Int), z = iI x25a ∧ (0 ≤ x25a ∧ (x25a < ((r_t17.devs.xs.length : Nat) : Int) ∨ x25a = 0))) (fun v w w' c h => let ⟨x25a, hv, h0⟩ := h; ⟨x25a, hv, h0⟩)), (7, .of (fun z w => ∃ (x30a : Int), z = iI x30a ∧ (0 ≤ x30a ∧ (x30a < ((r_t17.devs.xs.length : Nat) : Int) ∨ x30a = 0))) (fun v w w' c h => let ⟨x30a, hv, h0⟩ := h; ⟨x30a, hv, h0⟩))] [[], [], [22], [23], [21, 24], [], [], [27], [28], [26, 29], [25], [30]] [6, 7] _ ⟨qd (mv rfl), qd (fldi 0 0 rfl uT28), qd (ldk 1 sC23 rfl rfl rfl), qd (leni uT23 rfl), ?_, qd (mv rfl), qd (fldi 0 0 rfl uT28), qd (ldk 1 sC23 rfl rfl rfl), qd (leni uT23 rfl), ?_, ?_, ?_, trivial⟩ ?_
 ·skip
  intro a u S G hE
  refine hcl S (gNext _ _ S.x T15 (S.M.pick [0] (by decide)) l (dn1 (js := [0]) (S.u 0 rfl)) (S.t 0 rfl) ((r_t17.devs.xs.length : Nat) : Int) ⟨by omega, by omega⟩) cB23 ?_
  rintro e w2 ⟨r_h25, rfl, hr_h25, tK, T0⟩; refine ⟨_, rfl, (show ∃ _, _ from ?_), T0.ch, (S.k1 0 rfl S.s T0 tK).m⟩
  exact ⟨r_h25, rfl, hr_h25⟩
 ·skip
  intro a u S G hE
  refine hcl S (gNext _ _ S.x T15 (S.M.pick [0] (by decide)) l (dn1 (js := [0]) (S.u 0 rfl)) (S.t 0 rfl) ((r_t17.devs.xs.length : Nat) : Int) ⟨by omega, by omega⟩) cB23 ?_
  rintro e w2 ⟨r_h30, rfl, hr_h30, tK, T0⟩; refine ⟨_, rfl, (show ∃ _, _ from ?_), T0.ch, (S.k1 0 rfl S.s T0 tK).m⟩
  exact ⟨r_h30, rfl, hr_h30⟩
 ·skip
  intro a u S G hE
  obtain ⟨e25, -⟩ := hE
  have M0 := S.m
  obtain ⟨x25_12, e25, hr12⟩ := e25
  replace S := S.ext e25
  exact hvl 6 S M0 (v := iI x25_12) (x_assign (S.e rfl)) (show ∃ _, _ from ⟨x25_12, rfl, hr12⟩)
 ·skip
  intro a u S G hE
  obtain ⟨e30, -⟩ := hE
  have M0 := S.m
  obtain ⟨x30_13, e30, hr13⟩ := e30
  replace S := S.ext e30
  exact hvl 7 S M0 (v := iI x30_13) (x_assign (S.e rfl)) (show ∃ _, _ from ⟨x30_13, rfl, hr13⟩)
 clear S; intro a u S G hE
 obtain ⟨e6, e7, -⟩ := hE
 obtain ⟨x25_14, e6, hr14⟩ := e6
 replace S := S.ext e6
 obtain ⟨x30_15, e7, hr15⟩ := e7
 replace S := S.ext e7
 clear e6 e7
 have hK : K2 r_t17 r_t20 x25_14 x30_15 := ⟨⟨HV, by omega, by omega⟩, by omega, by omega⟩
 have hdv := distV_of hK
 have hdl : (distV r_t17 r_t20 x30_15).length = r_t17.devs.xs.length := by rw [hdv]; exact dists_len
 have hle : ∀ x, (distV r_t17 r_t20 x30_15).getD x 0 ≤ 12000 := fun x => by rw [hdv]; exact dists_le HT x
 refine ent (wp_seq ?_)
 refine dr (P := Try.prog) S 12 [] [(31, .is _), (32, .is _), (33, .is _), (34, .is _), (35, .of (fun z w => ∃ (x35a : Option Addr) (y35a : Nat), z = .slice x35a ((pathV r_t17 r_t20 x25_14 x30_15).length) y35a ∧ (slE intE).wf (Fr F [one T15, one b4, one b5]) w.heap (Sl.mk x35a y35a (pathV r_t17 r_t20 x25_14 x30_15))) (fun v w w' c h => let ⟨x35a, y35a, hv, h0⟩ := h; ⟨x35a, y35a, hv, Enc.kp (slE intE) h0 c (fun _ h => by simp at h)⟩)), (36, .is _), (37, .is _), (38, .is _), (39, .is _), (40, .of (fun z w => ∃ (x40a : Option Addr) (y40a : Nat), z = .slice x40a ((linkV r_t17 r_t20 x25_14 x30_15).length) y40a ∧ (slE intE).wf (Fr F [one T15, one b4, one b5]) w.heap (Sl.mk x40a y40a (linkV r_t17 r_t20 x25_14 x30_15))) (fun v w w' c h => let ⟨x40a, y40a, hv, h0⟩ := h; ⟨x40a, y40a, hv, Enc.kp (slE intE) h0 c (fun _ h => by simp at h)⟩)), (8, .of (fun z w => ∃ (x35a : Option Addr) (y35a : Nat), z = .slice x35a ((pathV r_t17 r_t20 x25_14 x30_15).length) y35a ∧ (slE intE).wf (Fr F [one T15, one b4, one b5]) w.heap (Sl.mk x35a y35a (pathV r_t17 r_t20 x25_14 x30_15))) (fun v w w' c h => let ⟨x35a, y35a, hv, h0⟩ := h; ⟨x35a, y35a, hv, Enc.kp (slE intE) h0 c (fun _ h => by simp at h)⟩)), (9, .of (fun z w => ∃ (x40a : Option Addr) (y40a : Nat), z = .slice x40a ((linkV r_t17 r_t20 x25_14 x30_15).length) y40a ∧ (slE intE).wf (Fr F [one T15, one b4, one b5]) w.heap (Sl.mk x40a y40a (linkV r_t17 r_t20 x25_14 x30_15))) (fun v w w' c h => let ⟨x40a, y40a, hv, h0⟩ := h; ⟨x40a, y40a, hv, Enc.kp (slE intE) h0 c (fun _ h => by simp at h)⟩))] [[], [], [], [], [31, 32, 33, 34], [], [], [], [], [36, 37, 38, 39], [35], [40]] [8, 9] _ ⟨qd (ldkw 1 rfl rfl wD28), qd (ldkw 2 rfl rfl wD41), qd (mv rfl), qd (mv rfl), ?_, qd (ldkw 1 rfl rfl wD28), qd (ldkw 2 rfl rfl wD41), qd (mv rfl), qd (mv rfl), ?_, ?_, ?_, trivial⟩ ?_
 ·skip
  intro a u S G hE
  refine hcl S (pPath _ _ S.x (.nil _) r_t17 (dn0 (S.u 1 rfl)) r_t20 (dn0 (S.u 2 rfl)) x25_14 ⟨by omega, by omega⟩ x30_15 ⟨by omega, by omega⟩) cB41 ?_
  rintro e w2 ⟨ra_h35, rc_h35, rfl, R_h35, T0⟩; refine ⟨_, rfl, (show ∃ _, _ from ?_), T0.ch, (S.k0 S.s T0).m⟩
  exact ⟨ra_h35, rc_h35, rfl, (Enc.up _ R_h35)⟩
 ·skip
  intro a u S G hE
  refine hcl S (pLinks _ _ S.x (.nil _) r_t17 (dn0 (S.u 1 rfl)) r_t20 (dn0 (S.u 2 rfl)) x25_14 ⟨by omega, by omega⟩ x30_15 ⟨by omega, by omega⟩) cB42 ?_
  rintro e w2 ⟨ra_h40, rc_h40, rfl, R_h40, T0⟩; refine ⟨_, rfl, (show ∃ _, _ from ?_), T0.ch, (S.k0 S.s T0).m⟩
  exact ⟨ra_h40, rc_h40, rfl, (Enc.up _ R_h40)⟩
 ·skip
  intro a u S G hE
  obtain ⟨e35, -⟩ := hE
  have M0 := S.m
  obtain ⟨x35_16, y35_16, e35, X16⟩ := e35
  replace S := S.ext e35
  exact hvl 8 S M0 (v := .slice x35_16 ((pathV r_t17 r_t20 x25_14 x30_15).length) y35_16) (x_assign (S.e rfl)) (show ∃ _, _ from ⟨x35_16, y35_16, rfl, X16⟩)
 ·skip
  intro a u S G hE
  obtain ⟨e40, -⟩ := hE
  have M0 := S.m
  obtain ⟨x40_17, y40_17, e40, X17⟩ := e40
  replace S := S.ext e40
  exact hvl 9 S M0 (v := .slice x40_17 ((linkV r_t17 r_t20 x25_14 x30_15).length) y40_17) (x_assign (S.e rfl)) (show ∃ _, _ from ⟨x40_17, y40_17, rfl, X17⟩)
 clear S; intro a u S G hE
 obtain ⟨e8, e9, -⟩ := hE
 obtain ⟨x35_18, y35_18, e8, X18⟩ := e8
 replace S := S.ext e8
 obtain ⟨x40_19, y40_19, e9, X19⟩ := e9
 replace S := S.ext e9
 clear e8 e9
 replace S := S.ar (wfF (slE intE) (Sl.mk x35_18 y35_18 (pathV r_t17 r_t20 x25_14 x30_15))) X18
 replace S := S.ar (wfF (slE intE) (Sl.mk x40_19 y40_19 (linkV r_t17 r_t20 x25_14 x30_15))) X19
 have hn20 : (pathV r_t17 r_t20 x25_14 x30_15).length ≤ 9223372036854775807 := ((S.u 3 rfl)).1.len
 have hn21 : (linkV r_t17 r_t20 x25_14 x30_15).length ≤ 9223372036854775807 := ((S.u 4 rfl)).1.len
 refine ent (rs0 ?_)
 refine sp S (tr (ldkw 1 rfl rfl wD28)<|tr (ldkw 2 rfl rfl wD41)<|la (mv rfl)) ?_; clear S; intro a u S
 refine cl S (pDist _ _ S.x (.nil _) r_t17 (dn0 (S.u 1 rfl)) r_t20 (dn0 (S.u 2 rfl)) x30_15 ⟨by omega, by omega⟩) cB38 ?_
 rintro e u ⟨ra_t44, rc_t44, rfl, R_t44, T0⟩; refine ⟨_, rfl, fun a s => ?_⟩
 replace S := (S.k0 s T0).ar (wfF (slE intE) (Sl.mk ra_t44 rc_t44 (distV r_t17 r_t20 x30_15))) (Enc.up _ R_t44); clear s T0 R_t44
 have hn23 : (distV r_t17 r_t20 x30_15).length ≤ 9223372036854775807 := ((S.u 5 rfl)).1.len
 refine ens S (la (av rfl)) ?_; clear S; intro a u S
 refine wp_seq ?_
 refine rs S (tr (mv rfl)<|tr (leni uT22 rfl)<|la (eqli rfl rfl)) ?_; clear S; intro a u S
 refine cd S rfl ?_ ?_
 ·intro hc0
  have hps := path_small r_t17 r_t20 x25_14 x30_15
  have hls := link_small r_t17 r_t20 x25_14 x30_15
  refine rs S (tr (mv rfl)<|tr (leni uT22 rfl)<|tr (eqli rfl rfl)<|tr (mv rfl)<|tr (og 51 rfl gt fun S hg=>x_ldw (S.e rfl) (S.k 1 rfl).all wD28)<|tr (og 51 rfl gt fun S hg=>x_ldw (S.e rfl) (S.k 2 rfl).all wD41)<|tr (og 51 rfl gt fun S hg=>x_move (S.e rfl))<|tr (og 51 rfl gt fun S hg=>x_move (S.e rfl))<|tr (ocg 51 rfl gt (fun S hg=>rConn _ _ S.x (.nil _) r_t17 (dn0 (S.u 1 rfl)) r_t20 (dn0 (S.u 2 rfl)) x25_14 ⟨by omega, by omega⟩ x30_15 ⟨by omega, by omega⟩) cB39 fun S=>⟨fun hg=>(S.p rfl hg), fun hg=>(S.p rfl hg), fun hg=>(S.p rfl hg), fun hg=>(S.p rfl hg), trivial⟩)<|tr (og 51 rfl gt fun S hg=>x_notp (S.p rfl hg))<|tr (andi rfl rfl rfl)<|tr (mv rfl)<|tr (og 59 rfl gt fun S hg=>x_ldw (S.e rfl) (S.k 1 rfl).all wD28)<|tr (og 59 rfl gt fun S hg=>x_ldw (S.e rfl) (S.k 2 rfl).all wD41)<|tr (og 59 rfl gt fun S hg=>x_move (S.e rfl))<|tr (og 59 rfl gt fun S hg=>x_move (S.e rfl))<|tr (ocg 59 rfl gt (fun S hg=>pNext _ _ S.x (.nil _) r_t17 (dn0 (S.u 1 rfl)) r_t20 (dn0 (S.u 2 rfl)) x25_14 ⟨by omega, by omega⟩ x30_15 ⟨by omega, by omega⟩) cB43 fun S=>⟨fun hg=>(S.p rfl hg), fun hg=>(S.p rfl hg), fun hg=>(S.p rfl hg), fun hg=>(S.p rfl hg), trivial⟩)<|tr (og 59 rfl gt fun S hg=>x_eql (S.p rfl hg) (S.e rfl))<|tr (andi rfl rfl rfl)<|tr (mv rfl)<|tr (ocg 67 rfl gt (fun S hg=>lSaneP _ _ S.x (.nil _)) cB37 fun S=>trivial)<|tr (andi rfl rfl rfl)<|la (av rfl)) ?_; clear S; intro a u S
  refine wp_ret (then_r ?_)
  refine ret1 rfl S.s rfl ?_
  replace S := S.pk []
  refine ⟨(r1 (vb ?_)), S.m.c⟩
  have h := walk_none hK (by omega); exact ⟨fun _ => trivial, fun _ => ⟨⟨⟨by have := h.1.1; omega, h.1.2⟩, h.2⟩, trivial⟩⟩
 intro hc1
 have T := walk_some hK (by omega)
 obtain ⟨hE1, hE2, hE3⟩ := walk_ends hK T
 refine wp_skip (then_n (wp_seq ?_))
 obtain ⟨hl27, hu27⟩ : inI64 ((pathV r_t17 r_t20 x25_14 x30_15).getD 0 intE.dflt) := id ((show LAt intE _ _ x35_18 (pathV r_t17 r_t20 x25_14 x30_15) from ((S.u 3 rfl)).1).wf 0 (by omega))
 refine rs S (tr (mv rfl)<|tr (idxi uT22 sZ3 rfl rfl 0 rfl (by omega) ((show LAt intE _ _ x35_18 (pathV r_t17 r_t20 x25_14 x30_15) from ((S.u 3 rfl)).1).adr (i := 0) (by omega)))<|tr (ov fun S=>x_load sC3 (S.e rfl) ((show LAt intE _ _ x35_18 (pathV r_t17 r_t20 x25_14 x30_15) from ((S.u 3 rfl)).1).cell 0 (by omega) 0 _ rfl))<|tr (mv rfl)<|tr (neqi rfl rfl)<|tr (mv rfl)<|tr (og 75 rfl gf fun S hg=>x_move (S.e rfl))<|tr (og 75 rfl gf fun S hg=>x_move (S.e rfl))<|tr (og 75 rfl gf fun S hg=>x_len uT22 (S.p rfl hg))<|tr (og 75 rfl gf fun S hg=>x_sub (S.p rfl hg) (S.e rfl) (r := ((((pathV r_t17 r_t20 x25_14 x30_15).length : Nat) : Int) - 1)) (w_i64 (by omega)))<|tr (og 75 rfl gf fun S hg=>x_idx uT22 sZ3 (S.p rfl hg) (S.p rfl hg) (((((pathV r_t17 r_t20 x25_14 x30_15).length : Nat) : Int) - 1)).toNat (by omega) (by omega) ((show LAt intE _ _ x35_18 (pathV r_t17 r_t20 x25_14 x30_15) from ((S.u 3 rfl)).1).adr (i := (((((pathV r_t17 r_t20 x25_14 x30_15).length : Nat) : Int) - 1)).toNat) (by omega)))<|tr (og 75 rfl gf fun S hg=>x_load sC3 (S.p rfl hg) ((show LAt intE _ _ x35_18 (pathV r_t17 r_t20 x25_14 x30_15) from ((S.u 3 rfl)).1).cell (((((pathV r_t17 r_t20 x25_14 x30_15).length : Nat) : Int) - 1)).toNat (by omega) 0 _ rfl))<|tr (og 75 rfl gf fun S hg=>x_move (S.e rfl))<|tr (og 75 rfl gf fun S hg=>x_neq (S.p rfl hg) (S.p rfl hg))<|tr (ori rfl rfl rfl)<|tr (mv rfl)<|tr (og 85 rfl gf fun S hg=>x_move (S.e rfl))<|tr (og 85 rfl gf fun S hg=>x_len uT22 (S.p rfl hg))<|tr (og 85 rfl gf fun S hg=>x_move (S.e rfl))<|tr (og 85 rfl gf fun S hg=>x_len uT22 (S.p rfl hg))<|tr (og 85 rfl gf fun S hg=>x_sub (S.p rfl hg) (S.e rfl) (r := ((((pathV r_t17 r_t20 x25_14 x30_15).length : Nat) : Int) - 1)) (w_i64 (by omega)))<|tr (og 85 rfl gf fun S hg=>x_neq (S.p rfl hg) (S.p rfl hg))<|tr (ori rfl rfl rfl)<|tr (mv rfl)<|tr (og 93 rfl gf fun S hg=>x_move (S.e rfl))<|tr (og 93 rfl gf fun S hg=>x_len uT22 (S.p rfl hg))<|tr (og 93 rfl gf fun S hg=>xf (0) 0 uT28 (S.e rfl))<|tr (og 93 rfl gf fun S hg=>x_load sC23 (S.p rfl hg) ((S.k 1 rfl).cell (j := 0) rfl))<|tr (og 93 rfl gf fun S hg=>x_len uT23 (S.p rfl hg))<|tr (og 93 rfl gf fun S hg=>x_neq (S.p rfl hg) (S.p rfl hg))<|la (ori rfl rfl rfl)) ?_; clear S; intro a u S
 refine cd S rfl ?_ ?_
 ·intro hc2
  refine rs S (la (av rfl)) ?_; clear S; intro a u S
  refine wp_ret (then_r ?_)
  refine ret1 rfl S.s rfl ?_
  replace S := S.pk []
  refine ⟨(r1 (vf ?_)), S.m.c⟩
  first | assumption | trivial | omega | simp_all
 intro hc3
 refine wp_skip (then_n ?_)
 refine rs S (la (av rfl)) ?_; clear S; intro a u S
 refine wp_seq ?_
 refine rs S (la (av rfl)) ?_; clear S; intro a u S
 refine wp_block ?_
 refine lp2 (fun (ck : Int) (i1 : Nat) => [(4, pT b4 0), (5, pT b5 0), (6, iI x25_14), (7, iI x30_15), (8, .slice x35_18 ((pathV r_t17 r_t20 x25_14 x30_15).length) y35_18), (9, .slice x40_19 ((linkV r_t17 r_t20 x25_14 x30_15).length) y40_19), (10, .slice ra_t44 ((distV r_t17 r_t20 x30_15).length) rc_t44), (11, iI ck), (12, iN i1)]) (fun (ck : Int) (i1 : Nat) => [tpO 62 T15 l, blO b4 (topoE.cells r_t17) 28, blO b5 (failE.cells r_t20) 41]) (fun (ck : Int) (i1 : Nat) => i1 ≤ (linkV r_t17 r_t20 x25_14 x30_15).length ∧ dOf r_t17 r_t20 (x30_15).toNat ((pathV r_t17 r_t20 x25_14 x30_15).getD i1 intE.dflt).toNat + ck = dOf r_t17 r_t20 (x30_15).toNat (x25_14).toNat ∧ 0 ≤ ck) (fun (ck : Int) (i1 : Nat) => (linkV r_t17 r_t20 x25_14 x30_15).length - i1) S 0 0 (subM rfl) rfl ?_ ?_
 ·exact ⟨Nat.zero_le _, by rw [hE1]; exact Int.add_zero _, Int.le_refl _⟩
 clear S; intro ck i1 a u S hR
 obtain ⟨hi1, hck, hck0⟩ := hR
 refine wp_seq ?_
 refine rs S (tr (mv rfl)<|tr (mv rfl)<|tr (leni uT22 rfl)<|la (lssi rfl rfl)) ?_; clear S; intro a u S
 refine cd S rfl ?_ ?_
 ·intro hc4
  have hS := walk_step hK T (i := i1) (by omega)
  have hap : ∀ j, j ≤ i1 → ¬ (pathV r_t17 r_t20 x25_14 x30_15).getD j intE.dflt = (pathV r_t17 r_t20 x25_14 x30_15).getD (i1 + 1) intE.dflt := fun j hj => walk_apart hK T hj (by omega)
  have hS1 := hS.lk0
  have hS2 := hS.lk1
  have hS3 := hS.a0
  have hS4 := hS.a1
  have hS5 := hS.b0
  have hS6 := hS.b1
  have hS7 := hS.cost
  have hS8 := hS.c0
  have hS9 := hS.d0
  have hSd := dOf_le (f := r_t20) (z := (x30_15).toNat) HT (x25_14).toNat
  refine wp_skip (then_n (wp_seq (wp_block (wp_seq (wp_seq ?_)))))
  obtain ⟨hl32, hu32⟩ : inI64 ((linkV r_t17 r_t20 x25_14 x30_15).getD i1 intE.dflt) := id ((show LAt intE _ _ x40_19 (linkV r_t17 r_t20 x25_14 x30_15) from ((S.u 4 rfl)).1).wf i1 (by omega))
  refine dr (P := Try.prog) S 44 [] ((107, .is _) :: (108, .is _) :: (109, .is _) :: (110, .is _) :: (111, .is _) :: (112, .is _) :: (113, .is _) :: (114, .is _) :: (115, .is _) :: (116, .is _) :: (117, .is _) :: (118, .is _) :: (119, .is _) :: (120, .is _) :: (121, .is _) :: (122, .is _) :: (123, .is _) :: (124, .is _) :: (125, .is _) :: (126, .is _) :: (127, .is _) :: (128, .is _) :: (129, .is _) :: (130, .is _) :: (131, .is _) :: (132, .is _) :: (133, .is _) :: (134, .is _) :: (135, .is _) :: (136, .is _) :: (137, .is _) :: (138, .is _) :: (139, .is _) :: (140, .is _) :: (141, .is _) :: (142, .is _) :: (143, .is _) :: (144, .is _) :: (145, .is _) :: (146, .is _) :: (147, .is _) :: (148, .is _) :: (149, .is _) :: (150, .is _) :: []) ([] :: [] :: [] :: [] :: [109, 110] :: [111] :: [107, 108, 112] :: [113] :: [114] :: [115] :: [115, 116] :: [115] :: [115] :: [115, 118, 119] :: [115, 120] :: [115, 117, 121] :: [115, 122] :: [115] :: [115] :: [115, 124, 125] :: [115, 126] :: [115, 123, 127] :: [115] :: [115] :: [115, 130] :: [115, 129, 131] :: [115, 132] :: [115, 128, 133] :: [115, 134] :: [135] :: [136] :: [136] :: [136] :: [136] :: [136, 139, 140] :: [136, 141] :: [136] :: [136, 137, 138, 142, 143] :: [136] :: [136] :: [136, 145, 146] :: [136, 147] :: [136, 144, 148] :: [136, 149] :: []) [150] _ ⟨qd (ldkw 1 rfl rfl wD28), qd (ldkw 2 rfl rfl wD41), qd (mv rfl), qd (mv rfl), qd (idxi uT22 sZ3 rfl rfl i1 rfl (by omega) ((show LAt intE _ _ x40_19 (linkV r_t17 r_t20 x25_14 x30_15) from ((S.u 4 rfl)).1).adr (i := i1) (by omega))), qd (ov fun S=>x_load sC3 (S.e rfl) ((show LAt intE _ _ x40_19 (linkV r_t17 r_t20 x25_14 x30_15) from ((S.u 4 rfl)).1).cell i1 (by omega) 0 _ rfl)), qd (oc (fun S=>rUsable _ _ S.x (.nil _) r_t17 (dn0 (S.u 1 rfl)) r_t20 (dn0 (S.u 2 rfl)) ((linkV r_t17 r_t20 x25_14 x30_15).getD i1 intE.dflt) ((show LAt intE _ _ x40_19 (linkV r_t17 r_t20 x25_14 x30_15) from ((S.u 4 rfl)).1).wf i1 (by omega))) cB40), qd (noti rfl), qd (mv rfl), qd (og 115 rfl gf fun S hg=>xf (0) 1 uT28 (S.e rfl)), qd (og 115 rfl gf fun S hg=>x_load sC24 (S.p rfl hg) ((S.k 1 rfl).cell (j := 1) rfl)), qd (og 115 rfl gf fun S hg=>x_move (S.e rfl)), qd (og 115 rfl gf fun S hg=>x_move (S.e rfl)), qd (og 115 rfl gf fun S hg=>x_idx uT22 sZ3 (S.p rfl hg) (S.p rfl hg) i1 rfl (by omega) ((show LAt intE _ _ x40_19 (linkV r_t17 r_t20 x25_14 x30_15) from ((S.u 4 rfl)).1).adr (i := i1) (by omega))), qd (og 115 rfl gf fun S hg=>x_load sC3 (S.p rfl hg) ((show LAt intE _ _ x40_19 (linkV r_t17 r_t20 x25_14 x30_15) from ((S.u 4 rfl)).1).cell i1 (by omega) 0 _ rfl)), qd (og 115 rfl gf fun S hg=>x_idx uT24 sZ54 (S.p rfl hg) (S.p rfl hg) (((linkV r_t17 r_t20 x25_14 x30_15).getD i1 intE.dflt)).toNat (by omega) (by omega) (((S.u 1 rfl).2.1).1.adr (i := (((linkV r_t17 r_t20 x25_14 x30_15).getD i1 intE.dflt)).toNat) (by omega))), qd (og 115 rfl gf fun S hg=>x_ldw (S.p rfl hg) (((S.u 1 rfl).2.1).1.wcell (((linkV r_t17 r_t20 x25_14 x30_15).getD i1 intE.dflt)).toNat (by omega) _ rfl _ rfl) wD54), qd (og 115 rfl gf fun S hg=>x_move (S.e rfl)), qd (og 115 rfl gf fun S hg=>x_move (S.e rfl)), qd (og 115 rfl gf fun S hg=>x_idx uT22 sZ3 (S.p rfl hg) (S.p rfl hg) i1 rfl (by omega) ((show LAt intE _ _ x35_18 (pathV r_t17 r_t20 x25_14 x30_15) from ((S.u 3 rfl)).1).adr (i := i1) (by omega))), qd (og 115 rfl gf fun S hg=>x_load sC3 (S.p rfl hg) ((show LAt intE _ _ x35_18 (pathV r_t17 r_t20 x25_14 x30_15) from ((S.u 3 rfl)).1).cell i1 (by omega) 0 _ rfl)), qd (ocg 115 rfl gf (fun S hg=>r14Other _ _ S.x (.nil _) (r_t17.links.xs.getD ((((linkV r_t17 r_t20 x25_14 x30_15).getD i1 intE.dflt)).toNat) lnkE.dflt) (dn0 (((S.u 1 rfl).2.1).1.wf (((linkV r_t17 r_t20 x25_14 x30_15).getD i1 intE.dflt)).toNat (by omega))) ((pathV r_t17 r_t20 x25_14 x30_15).getD i1 intE.dflt) ((show LAt intE _ _ x35_18 (pathV r_t17 r_t20 x25_14 x30_15) from ((S.u 3 rfl)).1).wf i1 (by omega))) cB44 fun S=>⟨fun hg=>(S.p rfl hg), fun hg=>(S.p rfl hg), trivial⟩), qd (og 115 rfl gf fun S hg=>x_move (S.e rfl)), qd (og 115 rfl gf fun S hg=>x_move (S.e rfl)), qd (og 115 rfl gf fun S hg=>x_add (S.p rfl hg) (S.e rfl) (r := ((i1 + 1 : Nat) : Int)) (w_i64 (by omega))), qd (og 115 rfl gf fun S hg=>x_idx uT22 sZ3 (S.p rfl hg) (S.p rfl hg) (i1 + 1) rfl (by omega) ((show LAt intE _ _ x35_18 (pathV r_t17 r_t20 x25_14 x30_15) from ((S.u 3 rfl)).1).adr (i := (i1 + 1)) (by omega))), qd (og 115 rfl gf fun S hg=>x_load sC3 (S.p rfl hg) ((show LAt intE _ _ x35_18 (pathV r_t17 r_t20 x25_14 x30_15) from ((S.u 3 rfl)).1).cell (i1 + 1) (by omega) 0 _ rfl)), qd (og 115 rfl gf fun S hg=>x_neq (S.p rfl hg) (S.p rfl hg)), qd (ori rfl rfl rfl), qd (mv rfl), qd (og 136 rfl gf fun S hg=>x_ldw (S.e rfl) (S.k 1 rfl).all wD28), qd (og 136 rfl gf fun S hg=>x_ldw (S.e rfl) (S.k 2 rfl).all wD41), qd (og 136 rfl gf fun S hg=>x_move (S.e rfl)), qd (og 136 rfl gf fun S hg=>x_move (S.e rfl)), qd (og 136 rfl gf fun S hg=>x_idx uT22 sZ3 (S.p rfl hg) (S.p rfl hg) i1 rfl (by omega) ((show LAt intE _ _ x35_18 (pathV r_t17 r_t20 x25_14 x30_15) from ((S.u 3 rfl)).1).adr (i := i1) (by omega))), qd (og 136 rfl gf fun S hg=>x_load sC3 (S.p rfl hg) ((show LAt intE _ _ x35_18 (pathV r_t17 r_t20 x25_14 x30_15) from ((S.u 3 rfl)).1).cell i1 (by omega) 0 _ rfl)), qd (og 136 rfl gf fun S hg=>x_move (S.e rfl)), qd (ocg 136 rfl gf (fun S hg=>pNext _ _ S.x (.nil _) r_t17 (dn0 (S.u 1 rfl)) r_t20 (dn0 (S.u 2 rfl)) ((pathV r_t17 r_t20 x25_14 x30_15).getD i1 intE.dflt) ((show LAt intE _ _ x35_18 (pathV r_t17 r_t20 x25_14 x30_15) from ((S.u 3 rfl)).1).wf i1 (by omega)) x30_15 ⟨by omega, by omega⟩) cB43 fun S=>⟨fun hg=>(S.p rfl hg), fun hg=>(S.p rfl hg), fun hg=>(S.p rfl hg), fun hg=>(S.p rfl hg), trivial⟩), qd (og 136 rfl gf fun S hg=>x_move (S.e rfl)), qd (og 136 rfl gf fun S hg=>x_move (S.e rfl)), qd (og 136 rfl gf fun S hg=>x_idx uT22 sZ3 (S.p rfl hg) (S.p rfl hg) i1 rfl (by omega) ((show LAt intE _ _ x40_19 (linkV r_t17 r_t20 x25_14 x30_15) from ((S.u 4 rfl)).1).adr (i := i1) (by omega))), qd (og 136 rfl gf fun S hg=>x_load sC3 (S.p rfl hg) ((show LAt intE _ _ x40_19 (linkV r_t17 r_t20 x25_14 x30_15) from ((S.u 4 rfl)).1).cell i1 (by omega) 0 _ rfl)), qd (og 136 rfl gf fun S hg=>x_neq (S.p rfl hg) (S.p rfl hg)), qd (ori rfl rfl rfl), trivial⟩ ?_
  clear S; intro a u S G hE
  refine ent ?_
  refine cd S rfl ?_ ?_
  ·intro hc5
   refine rs S (la (av rfl)) ?_; clear S; intro a u S
   refine wp_ret (then_r (blk_r (then_r (then_r (blk_r (then_r ?_))))))
   refine ret1 rfl S.s rfl ?_
   replace S := S.pk []
   refine ⟨(r1 (vf ?_)), S.m.c⟩
   intro _; rcases hc5 with (h | h) | h
   ·exact h hS.us
   ·exact h hS.oth
   exact h hS.nx
  intro hc6
  refine wp_skip (then_n (wp_seq ?_))
  obtain ⟨hl34, hu34⟩ : inI64 ((linkV r_t17 r_t20 x25_14 x30_15).getD i1 intE.dflt) := id ((show LAt intE _ _ x40_19 (linkV r_t17 r_t20 x25_14 x30_15) from ((S.u 4 rfl)).1).wf i1 (by omega))
  obtain ⟨hl35, hu35⟩ : inI64 ((r_t17.links.xs.getD ((((linkV r_t17 r_t20 x25_14 x30_15).getD i1 intE.dflt)).toNat) lnkE.dflt).cost) := id ((((S.u 1 rfl).2.1).1.wf (((linkV r_t17 r_t20 x25_14 x30_15).getD i1 intE.dflt)).toNat (by omega)).2.2)
  refine dr (P := Try.prog) S 11 [] [(151, .is _), (152, .is _), (153, .is _), (154, .is _), (155, .is _), (156, .is _), (157, .is _), (158, .is _), (159, .is _), (160, .is _), (161, .is _)] [[], [], [152], [], [], [154, 155], [156], [153, 157], [158], [159], [151, 160]] [161] _ ⟨qd (mv rfl), qd (fldi 0 1 rfl uT28), qd (ldk 1 sC24 rfl rfl rfl), qd (mv rfl), qd (mv rfl), qd (idxi uT22 sZ3 rfl rfl i1 rfl (by omega) ((show LAt intE _ _ x40_19 (linkV r_t17 r_t20 x25_14 x30_15) from ((S.u 4 rfl)).1).adr (i := i1) (by omega))), qd (ov fun S=>x_load sC3 (S.e rfl) ((show LAt intE _ _ x40_19 (linkV r_t17 r_t20 x25_14 x30_15) from ((S.u 4 rfl)).1).cell i1 (by omega) 0 _ rfl)), qd (idxi uT24 sZ54 rfl rfl (((linkV r_t17 r_t20 x25_14 x30_15).getD i1 intE.dflt)).toNat (by omega) (by omega) (((S.u 1 rfl).2.1).1.adr (i := (((linkV r_t17 r_t20 x25_14 x30_15).getD i1 intE.dflt)).toNat) (by omega))), qd (fldi (off r_t17.links.a + (((linkV r_t17 r_t20 x25_14 x30_15).getD i1 intE.dflt)).toNat * 3) 2 rfl uT54), qd (ov fun S=>x_load sC3 (S.e rfl) (((S.u 1 rfl).2.1).1.cell (((linkV r_t17 r_t20 x25_14 x30_15).getD i1 intE.dflt)).toNat (by omega) 2 _ rfl)), qd (addi (ck + (r_t17.links.xs.getD ((((linkV r_t17 r_t20 x25_14 x30_15).getD i1 intE.dflt)).toNat) lnkE.dflt).cost) rfl rfl (w_i64 (by omega))), trivial⟩ ?_
  clear S; intro a u S G hE
  refine ens S (la (av rfl)) ?_; clear S; intro a u S
  refine rs S (la (av rfl)) ?_; clear S; intro a u S
  refine wp_block ?_
  refine lp1 (fun (j1 : Nat) => [(4, pT b4 0), (5, pT b5 0), (6, iI x25_14), (7, iI x30_15), (8, .slice x35_18 ((pathV r_t17 r_t20 x25_14 x30_15).length) y35_18), (9, .slice x40_19 ((linkV r_t17 r_t20 x25_14 x30_15).length) y40_19), (10, .slice ra_t44 ((distV r_t17 r_t20 x30_15).length) rc_t44), (11, iI (ck + (r_t17.links.xs.getD ((((linkV r_t17 r_t20 x25_14 x30_15).getD i1 intE.dflt)).toNat) lnkE.dflt).cost)), (12, iN i1), (101, iN i1), (102, .slice x40_19 ((linkV r_t17 r_t20 x25_14 x30_15).length) y40_19), (103, iN (linkV r_t17 r_t20 x25_14 x30_15).length), (104, bD (((i1 : Nat) : Int) < (((linkV r_t17 r_t20 x25_14 x30_15).length : Nat) : Int))), (150, bD (((¬ (usableV r_t17 r_t20 ((linkV r_t17 r_t20 x25_14 x30_15).getD i1 intE.dflt))) ∨ (¬ otherOf (r_t17.links.xs.getD ((((linkV r_t17 r_t20 x25_14 x30_15).getD i1 intE.dflt)).toNat) lnkE.dflt) ((pathV r_t17 r_t20 x25_14 x30_15).getD i1 intE.dflt) = ((pathV r_t17 r_t20 x25_14 x30_15).getD (i1 + 1) intE.dflt))) ∨ (¬ nextV r_t17 r_t20 ((pathV r_t17 r_t20 x25_14 x30_15).getD i1 intE.dflt) x30_15 = ((linkV r_t17 r_t20 x25_14 x30_15).getD i1 intE.dflt)))), (161, iI (ck + (r_t17.links.xs.getD ((((linkV r_t17 r_t20 x25_14 x30_15).getD i1 intE.dflt)).toNat) lnkE.dflt).cost)), (13, iN j1)]) (fun (j1 : Nat) => [tpO 62 T15 l, blO b4 (topoE.cells r_t17) 28, blO b5 (failE.cells r_t20) 41]) (fun (j1 : Nat) => j1 ≤ i1 + 1) (fun (j1 : Nat) => i1 + 1 - j1) S 0 (subM rfl) rfl ?_ ?_
  ·omega
  clear S; intro j1 a u S hR
  have hj1 := hR
  refine wp_seq ?_
  refine rs S (tr (mv rfl)<|tr (mv rfl)<|la (leqi rfl rfl)) ?_; clear S; intro a u S
  refine cd S rfl ?_ ?_
  ·intro hc7
   refine wp_skip (then_n (wp_seq (wp_block (wp_seq ?_))))
   obtain ⟨hl38, hu38⟩ : inI64 ((pathV r_t17 r_t20 x25_14 x30_15).getD j1 intE.dflt) := id ((show LAt intE _ _ x35_18 (pathV r_t17 r_t20 x25_14 x30_15) from ((S.u 3 rfl)).1).wf j1 (by omega))
   obtain ⟨hl39, hu39⟩ : inI64 ((pathV r_t17 r_t20 x25_14 x30_15).getD (i1 + 1) intE.dflt) := id ((show LAt intE _ _ x35_18 (pathV r_t17 r_t20 x25_14 x30_15) from ((S.u 3 rfl)).1).wf (i1 + 1) (by omega))
   refine dr (P := Try.prog) S 10 [] [(167, .is _), (168, .is _), (169, .is _), (170, .is _), (171, .is _), (172, .is _), (173, .is _), (174, .is _), (175, .is _), (176, .is _)] [[], [], [167, 168], [169], [], [], [172], [171, 173], [174], [170, 175]] [176] _ ⟨qd (mv rfl), qd (mv rfl), qd (idxi uT22 sZ3 rfl rfl j1 rfl (by omega) ((show LAt intE _ _ x35_18 (pathV r_t17 r_t20 x25_14 x30_15) from ((S.u 3 rfl)).1).adr (i := j1) (by omega))), qd (ov fun S=>x_load sC3 (S.e rfl) ((show LAt intE _ _ x35_18 (pathV r_t17 r_t20 x25_14 x30_15) from ((S.u 3 rfl)).1).cell j1 (by omega) 0 _ rfl)), qd (mv rfl), qd (mv rfl), qd (addi ((i1 + 1 : Nat) : Int) rfl rfl (w_i64 (by omega))), qd (idxi uT22 sZ3 rfl rfl (i1 + 1) rfl (by omega) ((show LAt intE _ _ x35_18 (pathV r_t17 r_t20 x25_14 x30_15) from ((S.u 3 rfl)).1).adr (i := (i1 + 1)) (by omega))), qd (ov fun S=>x_load sC3 (S.e rfl) ((show LAt intE _ _ x35_18 (pathV r_t17 r_t20 x25_14 x30_15) from ((S.u 3 rfl)).1).cell (i1 + 1) (by omega) 0 _ rfl)), qd (eqli rfl rfl), trivial⟩ ?_
   clear S; intro a u S G hE
   refine ent ?_
   refine cd S rfl ?_ ?_
   ·intro hc8
    refine rs S (la (av rfl)) ?_; clear S; intro a u S
    refine wp_ret (blk_r (then_r (then_r (blk_r (blk_r (then_r (then_r (blk_r (then_r ?_)))))))))
    refine ret1 rfl S.s rfl ?_
    replace S := S.pk []
    refine ⟨(r1 (vf ?_)), S.m.c⟩
    intro _; exact hap j1 (by omega) hc8
   intro hc9
   refine wp_skip (blk_n (then_n ?_))
   refine rg S (tr (mv rfl)<|tr (addi ((j1 + 1 : Nat) : Int) rfl rfl (w_i64 (by omega)))<|la (av rfl)) ?_; clear S; intro a u S
   refine then_n ?_
   refine ⟨(j1 + 1), S.re (subM rfl) rfl rfl, ?_, ?_⟩
   ·omega
   omega
  intro hc10
  refine wp_exit (then_e (then_e (blk_e (blk_n (then_n ?_)))))
  refine rg S (tr (mv rfl)<|tr (addi ((i1 + 1 : Nat) : Int) rfl rfl (w_i64 (by omega)))<|la (av rfl)) ?_; clear S; intro a u S
  refine then_n ?_
  refine ⟨(ck + (r_t17.links.xs.getD ((((linkV r_t17 r_t20 x25_14 x30_15).getD i1 intE.dflt)).toNat) lnkE.dflt).cost), (i1 + 1), S.re (subM rfl) rfl rfl, ?_, ?_⟩
  ·exact ⟨by omega, by omega, by omega⟩
  omega
 intro hc11
 refine wp_exit (then_e (then_e (blk_e (then_n (wp_seq ?_)))))
 obtain ⟨hl43, hu43⟩ : inI64 ((distV r_t17 r_t20 x30_15).getD ((x25_14).toNat) intE.dflt) := id ((show LAt intE _ _ ra_t44 (distV r_t17 r_t20 x30_15) from ((S.u 5 rfl)).1).wf (x25_14).toNat (by omega))
 refine dr (P := Try.prog) S 27 [] [(177, .is _), (178, .is _), (179, .is _), (180, .is _), (181, .is _), (182, .is _), (183, .is _), (184, .is _), (185, .is _), (186, .is _), (187, .is _), (188, .is _), (189, .is _), (190, .is _), (191, .is _), (192, .is _), (193, .is _), (194, .of (fun z w => ((ck = ((distV r_t17 r_t20 x30_15).getD ((x25_14).toNat) intE.dflt)) ∧ (¬ ((((pathV r_t17 r_t20 x25_14 x30_15).length : Nat) : Int) = 1))) → ∃ (x194a : Option Addr) (y194a : Nat), z = .slice x194a ((pathV r_t17 r_t20 ((pathV r_t17 r_t20 x25_14 x30_15).getD 1 intE.dflt) x30_15).length) y194a ∧ (slE intE).wf (Fr F [one T15, one b4, one b5]) w.heap (Sl.mk x194a y194a (pathV r_t17 r_t20 ((pathV r_t17 r_t20 x25_14 x30_15).getD 1 intE.dflt) x30_15))) (fun v w w' c h hg => let ⟨x194a, y194a, hv, h0⟩ := h hg; ⟨x194a, y194a, hv, Enc.kp (slE intE) h0 c (fun _ h => by simp at h)⟩)), (195, .is _), (196, .is _), (197, .is ((if ((ck = ((distV r_t17 r_t20 x30_15).getD ((x25_14).toNat) intE.dflt)) ∧ (¬ ((((pathV r_t17 r_t20 x25_14 x30_15).length : Nat) : Int) = 1))) then bD ((pathV r_t17 r_t20 ((pathV r_t17 r_t20 x25_14 x30_15).getD 1 intE.dflt) x30_15) = (slFrom intE (Sl.mk x35_18 y35_18 (pathV r_t17 r_t20 x25_14 x30_15)) 1).xs) else undef))), (198, .is _), (199, .is _), (200, .is _), (201, .is _), (202, .is _), (2, .is _)] [[], [], [], [178, 179], [180], [177, 181], [182], [183], [183, 184], [183, 185], [183, 186], [187], [187], [187], [187, 190], [187, 191], [187], [187, 188, 189, 192, 193], [187], [187, 195], [187, 194, 196], [183, 187, 197], [183, 198], [199], [200], [200, 201], [202]] [2] _ ⟨qd (mv rfl), qd (mv rfl), qd (mv rfl), qd (idxi uT22 sZ3 rfl rfl (x25_14).toNat (by omega) (by omega) ((show LAt intE _ _ ra_t44 (distV r_t17 r_t20 x30_15) from ((S.u 5 rfl)).1).adr (i := (x25_14).toNat) (by omega))), qd (ov fun S=>x_load sC3 (S.e rfl) ((show LAt intE _ _ ra_t44 (distV r_t17 r_t20 x30_15) from ((S.u 5 rfl)).1).cell (x25_14).toNat (by omega) 0 _ rfl)), qd (eqli rfl rfl), qd (mv rfl), qd (og 183 rfl gt fun S hg=>x_move (S.e rfl)), qd (og 183 rfl gt fun S hg=>x_len uT22 (S.p rfl hg)), qd (og 183 rfl gt fun S hg=>x_eql (S.p rfl hg) (S.e rfl)), qd (og 183 rfl gt fun S hg=>x_move (S.p rfl hg)), qd (og 187 rfl ggf fun S hg=>x_ldw (S.e rfl) (S.k 1 rfl).all wD28), qd (og 187 rfl ggf fun S hg=>x_ldw (S.e rfl) (S.k 2 rfl).all wD41), qd (og 187 rfl ggf fun S hg=>x_move (S.e rfl)), qd (og 187 rfl ggf fun S hg=>x_idx uT22 sZ3 (S.p rfl hg) (S.e rfl) 1 rfl (by omega) ((show LAt intE _ _ x35_18 (pathV r_t17 r_t20 x25_14 x30_15) from ((S.u 3 rfl)).1).adr (i := 1) (by omega))), qd (og 187 rfl ggf fun S hg=>x_load sC3 (S.p rfl hg) ((show LAt intE _ _ x35_18 (pathV r_t17 r_t20 x25_14 x30_15) from ((S.u 3 rfl)).1).cell 1 (by omega) 0 _ rfl)), qd (og 187 rfl ggf fun S hg=>x_move (S.e rfl)), ?_, qd (og 187 rfl ggf fun S hg=>x_move (S.e rfl)), qd (og 187 (v := sV (slFrom intE (Sl.mk x35_18 y35_18 (pathV r_t17 r_t20 x25_14 x30_15)) 1)) rfl ggf fun S hg=>x_slfrom intE (s := (Sl.mk x35_18 y35_18 (pathV r_t17 r_t20 x25_14 x30_15))) uT22 iZ3 (S.p rfl hg) (S.e rfl) 1 rfl (by dsimp only; omega)), ?_, qd (og 183 rfl gt fun S hg=>x_or (S.p rfl hg) (S.e rfl) (fun hl => (S.p rfl (And.intro hg hl)))), qd (andi rfl rfl rfl), qd (mv rfl), qd (ocg 200 rfl gt (fun S hg=>lSaneP _ _ S.x (.nil _)) cB37 fun S=>trivial), qd (andi rfl rfl rfl), qd (av rfl), trivial⟩ ?_
 ·skip
  intro a u S G hE
  refine (Classical.em ((ck = ((distV r_t17 r_t20 x30_15).getD ((x25_14).toNat) intE.dflt)) ∧ (¬ ((((pathV r_t17 r_t20 x25_14 x30_15).length : Nat) : Int) = 1)))).symm.elim (fun hg => ?_) fun hg => ?_
  ·exact hng 194 187 S S.m rfl (fun h => hg (ggf.2 h)) (show ((ck = ((distV r_t17 r_t20 x30_15).getD ((x25_14).toNat) intE.dflt)) ∧ (¬ ((((pathV r_t17 r_t20 x25_14 x30_15).length : Nat) : Int) = 1))) → _ from fun h => absurd h hg)
  refine hcg 187 S rfl (ggf.1 hg) (pPath _ _ S.x (.nil _) r_t17 (dn0 (S.u 1 rfl)) r_t20 (dn0 (S.u 2 rfl)) ((pathV r_t17 r_t20 x25_14 x30_15).getD 1 intE.dflt) ((show LAt intE _ _ x35_18 (pathV r_t17 r_t20 x25_14 x30_15) from ((S.u 3 rfl)).1).wf 1 (by omega)) x30_15 ⟨by omega, by omega⟩) cB41 ⟨fun _=>(S.p rfl hg), fun _=>(S.p rfl hg), fun _=>(S.p rfl hg), fun _=>(S.p rfl hg), trivial⟩ ?_
  rintro e w2 ⟨ra_h194, rc_h194, rfl, R_h194, T0⟩; refine ⟨_, rfl, (fun _ => ?_), T0.ch, (S.k0 S.s T0).m⟩
  exact ⟨ra_h194, rc_h194, rfl, (Enc.up _ R_h194)⟩
 ·skip
  intro a u S G hE
  obtain ⟨e194, -⟩ := hE
  have M0 := S.m
  refine (Classical.em ((ck = ((distV r_t17 r_t20 x30_15).getD ((x25_14).toNat) intE.dflt)) ∧ (¬ ((((pathV r_t17 r_t20 x25_14 x30_15).length : Nat) : Int) = 1)))).symm.elim (fun hg => ?_) fun hg => ?_
  ·exact hng 197 187 S M0 rfl (fun h => hg (ggf.2 h)) (show _ = _ from (if_neg hg).symm)
  replace e194 := e194 hg
  obtain ⟨x194_44, y194_44, e194, X44⟩ := e194
  replace S := S.ext e194
  refine hcg 187 S rfl (ggf.1 hg) (sameIdx _ _ S.x (.nil _) (Sl.mk x194_44 y194_44 (pathV r_t17 r_t20 ((pathV r_t17 r_t20 x25_14 x30_15).getD 1 intE.dflt) x30_15)) (dn0 X44) (slFrom intE (Sl.mk x35_18 y35_18 (pathV r_t17 r_t20 x25_14 x30_15)) 1) (dn0 (sl_from (E := intE) (S.u 3 rfl) 1 (by dsimp only; omega)))) cB45 ⟨(fun _=>S.e rfl), fun _=>(S.p rfl hg), trivial⟩ ?_
  rintro e w2 ⟨rfl, T0⟩; exact ⟨_, rfl, (show _ = _ from (if_pos hg).symm), T0.ch, (M0.k0 T0.ch)⟩
 clear S; intro a u S G hE
 refine ent (wp_ret ?_)
 refine ret1 rfl S.s rfl ?_
 replace S := S.pk []
 refine ⟨(r1 (vb ?_)), S.m.c⟩
 have hwe := walk_end hK T
 rw [show i1 = (linkV r_t17 r_t20 x25_14 x30_15).length from by omega, hwe] at hck
 have hda : (distV r_t17 r_t20 x30_15).getD (x25_14).toNat intE.dflt = dOf r_t17 r_t20 (x30_15).toNat (x25_14).toNat := distV_at (a := x25_14) hK (by omega)
 refine ⟨fun _ => trivial, fun _ => ⟨⟨by rw [hda]; omega, ?_⟩, trivial⟩⟩
 by_cases h1 : (linkV r_t17 r_t20 x25_14 x30_15).length = 0
 ·exact .inl (by omega)
 exact .inr (walk_rest hK T (by omega))
end Go.Proofs.Ytfanmniaolncbaa.V
