/- the laws on paths: ties -/
import Derived.Test.YtfanmniaolncbaaW14
import Derived.Test.YtfanmniaolncbaaW39
import Derived.Test.YtfanmniaolncbaaPLawM
namespace Go.Proofs.Ytfanmniaolncbaa.V
open Go.RowKit Go.Proofs.Ytfanmniaolncbaa
set_option linter.unusedVariables false
set_option linter.unusedSimpArgs false
set_option maxHeartbeats 2000000 in
set_option maxRecDepth 20000 in
theorem lPTies (w : World) (F : Nat → Prop) (hF : Old F w) (M : MS [] w) (l : Sl Int) (l_w : (slE intE).wf (Fr F []) w.heap l) :
 Calls Try.prog 12 #[sV l] w fun e w' => e = .returned (bD (True)) ∧ Tr [] w [] w' := by
 have : l.xs.length ≤ 9223372036854775807 := (l_w).1.len
 refine go Try.func12 rfl 132 rfl [wfF (slE intE) l] [] hF M ⟨l_w, trivial⟩ trivial ?_
 intro a S
 refine rs S (la (av rfl)) ?_; clear S; intro a u S
 refine rs0 ?_
 refine sp S (la (mv rfl)) ?_; clear S; intro a u S
 refine cl S (gNew _ _ S.x (.nil _) l (dn0 (S.u 0 rfl))) cB14 ?_
 rintro e u ⟨T14, rfl, TK, T0⟩; refine ⟨_, rfl, fun a s => ?_⟩; replace S := S.kt s T0 TK; clear s T0 TK
 refine ens S (la (av rfl)) ?_; clear S; intro a u S
 refine rs0 ?_
 refine sp S (la (mv rfl)) ?_; clear S; intro a u S
 refine cl S (gTopology _ _ S.x T14 (S.M.pick [0] (by decide)) l (dn1 (js := [0]) (S.u 0 rfl)) (S.t 0 rfl) 6 ⟨by omega, by omega⟩) cB15 ?_
 rintro e u ⟨r_t16, rfl, R_t16, hr_t16, tK, T0⟩; refine ⟨_, rfl, fun a s => ?_⟩
 replace S := (S.k1 0 rfl s T0 tK).ar (wfF topoE r_t16) (Enc.up _ R_t16); clear s T0 tK R_t16
 have HG : genT r_t16 := hr_t16
 have HT := HG.1
 have hB := HG.1.1
 unfold topB at hB
 obtain ⟨-, hB1, hB2, hB3, hB4⟩ := HG
 have hn4 : r_t16.devs.xs.length ≤ 9223372036854775807 := ((S.u 1 rfl).1).1.len
 have hn5 : r_t16.links.xs.length ≤ 9223372036854775807 := ((S.u 1 rfl).2.1).1.len
 have hn6 : r_t16.edges.xs.length ≤ 9223372036854775807 := ((S.u 1 rfl).2.2.1).1.len
 have hn7 : r_t16.pools.xs.length ≤ 9223372036854775807 := ((S.u 1 rfl).2.2.2.1).1.len
 obtain ⟨hl8, hu8⟩ : inI64 r_t16.tol := id ((S.u 1 rfl).2.2.2.2)
 refine nbp S (x_allocz _ iZ28 rfl) ?_; clear S; intro a u b4 S
 refine ens S (la (stkw 1 rfl rfl rfl)) ?_; clear S; intro a u S
 refine rs0 ?_
 refine sp S (tr (mv rfl)<|la (ldkw 1 rfl rfl wD28)) ?_; clear S; intro a u S
 refine cl S (gFailure _ _ S.x T14 (S.M.pick [0] (by decide)) l (dn1 (js := [0]) (S.u 0 rfl)) (S.t 0 rfl) r_t16 (dn1 (js := [0]) (S.u 1 rfl)) (by omega)) cB25 ?_
 rintro e u ⟨r_t19, rfl, R_t19, hr_t19, tK, T0⟩; refine ⟨_, rfl, fun a s => ?_⟩
 replace S := (S.k1 0 rfl s T0 tK).ar (wfF failE r_t19) (Enc.up _ R_t19); clear s T0 tK R_t19
 have HV := failR_valid hr_t19 HT
 have hn10 : r_t19.links.xs.length ≤ 9223372036854775807 := ((S.u 2 rfl).1).1.len
 have hn11 : r_t19.devs.xs.length ≤ 9223372036854775807 := ((S.u 2 rfl).2).1.len
 refine nbp S (x_allocz _ iZ41 rfl) ?_; clear S; intro a u b5 S
 refine ens S (la (stkw 2 rfl rfl rfl)) ?_; clear S; intro a u S
 refine wp_seq ?_
 refine dr (P := Try.prog) S 12 [one T14] [(20, .is _), (21, .is _), (22, .is _), (23, .is _), (24, .of (fun z w => ∃ (x24a : Int), z = iI x24a ∧ (0 ≤ x24a ∧ (x24a < ((r_t16.devs.xs.length : Nat) : Int) ∨ x24a = 0))) (fun v w w' c h => let ⟨x24a, hv, h0⟩ := h; ⟨x24a, hv, h0⟩)), (25, .is _), (26, .is _), (27, .is _), (28, .is _), (29, .of (fun z w => ∃ (x29a : Int), z = iI x29a ∧ (0 ≤ x29a ∧ (x29a < ((r_t16.devs.xs.length : Nat) : Int) ∨ x29a = 0))) (fun v w w' c h => let ⟨x29a, hv, h0⟩ := h; ⟨x29a, hv, h0⟩)), (6, .of (fun z w => ∃ (x24a : Int), z = iI x24a ∧ (0 ≤ x24a ∧ (x24a < ((r_t16.devs.xs.length : Nat) : Int) ∨ x24a = 0))) (fun v w w' c h => let ⟨x24a, hv, h0⟩ := h; ⟨x24a, hv, h0⟩)), (7, .of (fun z w => ∃ (x29a : Int), z = iI x29a ∧ (0 ≤ x29a ∧ (x29a < ((r_t16.devs.xs.length : Nat) : Int) ∨ x29a = 0))) (fun v w w' c h => let ⟨x29a, hv, h0⟩ := h; ⟨x29a, hv, h0⟩))] [[], [], [21], [22], [20, 23], [], [], [26], [27], [25, 28], [24], [29]] [6, 7] _ ⟨qd (mv rfl), qd (fldi 0 0 rfl uT28), qd (ldk 1 sC23 rfl rfl rfl), qd (leni uT23 rfl), ?_, qd (mv rfl), qd (fldi 0 0 rfl uT28), qd (ldk 1 sC23 rfl rfl rfl), qd (leni uT23 rfl), ?_, ?_, ?_, trivial⟩ ?_
 ·skip
  intro a u S G hE
  refine hcl S (gNext _ _ S.x T14 (S.M.pick [0] (by decide)) l (dn1 (js := [0]) (S.u 0 rfl)) (S.t 0 rfl) ((r_t16.devs.xs.length : Nat) : Int) ⟨by omega, by omega⟩) cB23 ?_
  rintro e w2 ⟨r_h24, rfl, hr_h24, tK, T0⟩; refine ⟨_, rfl, (show ∃ _, _ from ?_), T0.ch, (S.k1 0 rfl S.s T0 tK).m⟩
  exact ⟨r_h24, rfl, hr_h24⟩
 ·skip
  intro a u S G hE
  refine hcl S (gNext _ _ S.x T14 (S.M.pick [0] (by decide)) l (dn1 (js := [0]) (S.u 0 rfl)) (S.t 0 rfl) ((r_t16.devs.xs.length : Nat) : Int) ⟨by omega, by omega⟩) cB23 ?_
  rintro e w2 ⟨r_h29, rfl, hr_h29, tK, T0⟩; refine ⟨_, rfl, (show ∃ _, _ from ?_), T0.ch, (S.k1 0 rfl S.s T0 tK).m⟩
  exact ⟨r_h29, rfl, hr_h29⟩
 ·skip
  intro a u S G hE
  obtain ⟨e24, -⟩ := hE
  have M0 := S.m
  obtain ⟨x24_12, e24, hr12⟩ := e24
  replace S := S.ext e24
  exact hvl 6 S M0 (v := iI x24_12) (x_assign (S.e rfl)) (show ∃ _, _ from ⟨x24_12, rfl, hr12⟩)
 ·skip
  intro a u S G hE
  obtain ⟨e29, -⟩ := hE
  have M0 := S.m
  obtain ⟨x29_13, e29, hr13⟩ := e29
  replace S := S.ext e29
  exact hvl 7 S M0 (v := iI x29_13) (x_assign (S.e rfl)) (show ∃ _, _ from ⟨x29_13, rfl, hr13⟩)
 clear S; intro a u S G hE
 obtain ⟨e6, e7, -⟩ := hE
 obtain ⟨x24_14, e6, hr14⟩ := e6
 replace S := S.ext e6
 obtain ⟨x29_15, e7, hr15⟩ := e7
 replace S := S.ext e7
 clear e6 e7
 have hK : K2 r_t16 r_t19 x24_14 x29_15 := ⟨⟨HV, by omega, by omega⟩, by omega, by omega⟩
 have hdv := distV_of hK
 have hdl : (distV r_t16 r_t19 x29_15).length = r_t16.devs.xs.length := by rw [hdv]; exact dists_len
 have hle : ∀ x, (distV r_t16 r_t19 x29_15).getD x 0 ≤ 12000 := fun x => by rw [hdv]; exact dists_le HT x
 refine ent (wp_seq ?_)
 refine dr (P := Try.prog) S 11 [] [(30, .is _), (31, .is _), (32, .is _), (33, .is _), (34, .is _), (35, .is _), (36, .is _), (37, .is _), (38, .of (fun z w => ∃ (x38a : Option Addr) (y38a : Nat), z = .slice x38a ((distV r_t16 r_t19 x29_15).length) y38a ∧ (slE intE).wf (Fr F [one T14, one b4, one b5]) w.heap (Sl.mk x38a y38a (distV r_t16 r_t19 x29_15))) (fun v w w' c h => let ⟨x38a, y38a, hv, h0⟩ := h; ⟨x38a, y38a, hv, Enc.kp (slE intE) h0 c (fun _ h => by simp at h)⟩)), (8, .is _), (9, .of (fun z w => ∃ (x38a : Option Addr) (y38a : Nat), z = .slice x38a ((distV r_t16 r_t19 x29_15).length) y38a ∧ (slE intE).wf (Fr F [one T14, one b4, one b5]) w.heap (Sl.mk x38a y38a (distV r_t16 r_t19 x29_15))) (fun v w w' c h => let ⟨x38a, y38a, hv, h0⟩ := h; ⟨x38a, y38a, hv, Enc.kp (slE intE) h0 c (fun _ h => by simp at h)⟩))] [[], [], [], [], [30, 31, 32, 33], [], [], [], [35, 36, 37], [34], [38]] [8, 9] _ ⟨qd (ldkw 1 rfl rfl wD28), qd (ldkw 2 rfl rfl wD41), qd (mv rfl), qd (mv rfl), qd (oc (fun S=>pNext _ _ S.x (.nil _) r_t16 (dn0 (S.u 1 rfl)) r_t19 (dn0 (S.u 2 rfl)) x24_14 ⟨by omega, by omega⟩ x29_15 ⟨by omega, by omega⟩) cB43), qd (ldkw 1 rfl rfl wD28), qd (ldkw 2 rfl rfl wD41), qd (mv rfl), ?_, qd (av rfl), ?_, trivial⟩ ?_
 ·skip
  intro a u S G hE
  refine hcl S (pDist _ _ S.x (.nil _) r_t16 (dn0 (S.u 1 rfl)) r_t19 (dn0 (S.u 2 rfl)) x29_15 ⟨by omega, by omega⟩) cB38 ?_
  rintro e w2 ⟨ra_h38, rc_h38, rfl, R_h38, T0⟩; refine ⟨_, rfl, (show ∃ _, _ from ?_), T0.ch, (S.k0 S.s T0).m⟩
  exact ⟨ra_h38, rc_h38, rfl, (Enc.up _ R_h38)⟩
 ·skip
  intro a u S G hE
  obtain ⟨e38, -⟩ := hE
  have M0 := S.m
  obtain ⟨x38_16, y38_16, e38, X16⟩ := e38
  replace S := S.ext e38
  exact hvl 9 S M0 (v := .slice x38_16 ((distV r_t16 r_t19 x29_15).length) y38_16) (x_assign (S.e rfl)) (show ∃ _, _ from ⟨x38_16, y38_16, rfl, X16⟩)
 clear S; intro a u S G hE
 obtain ⟨e9, -⟩ := hE
 obtain ⟨x38_17, y38_17, e9, X17⟩ := e9
 replace S := S.ext e9
 clear e9
 replace S := S.ar (wfF (slE intE) (Sl.mk x38_17 y38_17 (distV r_t16 r_t19 x29_15))) X17
 have hn18 : (distV r_t16 r_t19 x29_15).length ≤ 9223372036854775807 := ((S.u 3 rfl)).1.len
 refine ent (wp_seq ?_)
 refine rs S (tr (mv rfl)<|tr (leni uT22 rfl)<|tr (fldi 0 0 rfl uT28)<|tr (ldk 1 sC23 rfl rfl rfl)<|tr (leni uT23 rfl)<|la (neqi rfl rfl)) ?_; clear S; intro a u S
 refine cd S rfl ?_ ?_
 ·intro hc0
  refine rs S (la (av rfl)) ?_; clear S; intro a u S
  refine wp_ret (then_r ?_)
  refine ret1 rfl S.s rfl ?_
  replace S := S.pk []
  refine ⟨(r1 (vf ?_)), S.m.c⟩
  intro _; omega
 intro hc1
 refine wp_skip (then_n (wp_seq ?_))
 refine rs S (la (av rfl)) ?_; clear S; intro a u S
 refine wp_block ?_
 refine lp1 (fun (i1 : Nat) => [(4, pT b4 0), (5, pT b5 0), (6, iI x24_14), (7, iI x29_15), (8, iI (nextV r_t16 r_t19 x24_14 x29_15)), (9, .slice x38_17 ((distV r_t16 r_t19 x29_15).length) y38_17), (10, iN i1)]) (fun (i1 : Nat) => [tpO 62 T14 l, blO b4 (topoE.cells r_t16) 28, blO b5 (failE.cells r_t19) 41]) (fun (i1 : Nat) => i1 ≤ r_t16.links.xs.length ∧ True) (fun (i1 : Nat) => r_t16.links.xs.length - i1) S 0 (subM rfl) rfl ?_ ?_
 ·exact ⟨Nat.zero_le _, by trivial⟩
 clear S; intro i1 a u S hR
 obtain ⟨hi1, hxi1⟩ := hR
 refine wp_seq ?_
 refine rs S (tr (mv rfl)<|tr (fldi 0 1 rfl uT28)<|tr (ldk 1 sC24 rfl rfl rfl)<|tr (leni uT24 rfl)<|la (lssi rfl rfl)) ?_; clear S; intro a u S
 refine cd S rfl ?_ ?_
 ·intro hc2
  have hlv : lnkV r_t16.devs.xs.length (r_t16.links.xs.getD i1 lnkE.dflt) := topV_link HT (by omega)
  have hlv2 := hlv; unfold lnkV at hlv2
  have hob := other_bd2 (d := x24_14) hlv
  have hvo : (distV r_t16 r_t19 x29_15).getD (otherOf (r_t16.links.xs.getD i1 lnkE.dflt) x24_14).toNat intE.dflt ≤ 12000 := hle _
  refine wp_skip (then_n (wp_seq (wp_block ?_)))
  obtain ⟨hl24, hu24⟩ : inI64 ((r_t16.links.xs.getD i1 lnkE.dflt).a) := id ((((S.u 1 rfl).2.1).1.wf i1 (by omega)).1)
  obtain ⟨hl25, hu25⟩ : inI64 ((r_t16.links.xs.getD i1 lnkE.dflt).b) := id ((((S.u 1 rfl).2.1).1.wf i1 (by omega)).2.1)
  obtain ⟨hl26, hu26⟩ : inI64 ((r_t16.links.xs.getD i1 lnkE.dflt).cost) := id ((((S.u 1 rfl).2.1).1.wf i1 (by omega)).2.2)
  refine rs S (tr (fldi 0 1 rfl uT28)<|tr (ldk 1 sC24 rfl rfl rfl)<|tr (mv rfl)<|tr (idxi uT24 sZ54 rfl rfl i1 rfl (by omega) (((S.u 1 rfl).2.1).1.adr (i := i1) (by omega)))<|tr (ov fun S=>x_ldw (S.e rfl) (((S.u 1 rfl).2.1).1.wcell i1 (by omega) _ rfl _ rfl) wD54)<|tr (mv rfl)<|tr (oc (fun S=>r14Other _ _ S.x (.nil _) (r_t16.links.xs.getD i1 lnkE.dflt) (dn0 (((S.u 1 rfl).2.1).1.wf i1 (by omega))) x24_14 ⟨by omega, by omega⟩) cB44)<|la (av rfl)) ?_; clear S; intro a u S
  refine wp_seq ?_
  refine rs S (tr (ldkw 1 rfl rfl wD28)<|tr (ldkw 2 rfl rfl wD41)<|tr (mv rfl)<|tr (oc (fun S=>rUsable _ _ S.x (.nil _) r_t16 (dn0 (S.u 1 rfl)) r_t19 (dn0 (S.u 2 rfl)) ((i1 : Nat) : Int) ⟨by omega, by omega⟩) cB40)<|tr (noti rfl)<|tr (mv rfl)<|tr (og 64 rfl gf fun S hg=>x_move (S.e rfl))<|tr (og 64 rfl gf fun S hg=>x_lss (S.p rfl hg) (S.e rfl))<|tr (ori rfl rfl rfl)<|tr (mv rfl)<|tr (og 68 rfl gf fun S hg=>x_move (S.e rfl))<|tr (og 68 rfl gf fun S hg=>x_move (S.e rfl))<|tr (og 68 rfl gf fun S hg=>x_eql (S.p rfl hg) (S.p rfl hg))<|tr (ori rfl rfl rfl)<|tr (mv rfl)<|tr (og 73 rfl gf fun S hg=>x_move (S.e rfl))<|tr (og 73 rfl gf fun S hg=>x_move (S.e rfl))<|tr (og 73 rfl gf fun S hg=>x_idx uT22 sZ3 (S.p rfl hg) (S.p rfl hg) (otherOf (r_t16.links.xs.getD i1 lnkE.dflt) x24_14).toNat (by omega) (by omega) ((show LAt intE _ _ x38_17 (distV r_t16 r_t19 x29_15) from ((S.u 3 rfl)).1).adr (i := (otherOf (r_t16.links.xs.getD i1 lnkE.dflt) x24_14).toNat) (by omega)))<|tr (og 73 rfl gf fun S hg=>x_load sC3 (S.p rfl hg) ((show LAt intE _ _ x38_17 (distV r_t16 r_t19 x29_15) from ((S.u 3 rfl)).1).cell (otherOf (r_t16.links.xs.getD i1 lnkE.dflt) x24_14).toNat (by omega) 0 _ rfl))<|tr (og 73 rfl gf fun S hg=>x_lss (S.p rfl hg) (S.e rfl))<|la (ori rfl rfl rfl)) ?_; clear S; intro a u S
  refine cd S rfl ?_ ?_
  ·intro hc3
   refine wp_exit (then_e (blk_e (then_n ?_)))
   refine rg S (tr (mv rfl)<|tr (addi ((i1 + 1 : Nat) : Int) rfl rfl (w_i64 (by omega)))<|la (av rfl)) ?_; clear S; intro a u S
   refine then_n ?_
   refine ⟨(i1 + 1), S.re (subM rfl) rfl rfl, ?_, ?_⟩
   ·refine ⟨by omega, ?_⟩
    trivial
   omega
  intro hc4
  refine wp_skip (then_n (wp_seq ?_))
  obtain ⟨hl29, hu29⟩ : inI64 ((distV r_t16 r_t19 x29_15).getD ((otherOf (r_t16.links.xs.getD i1 lnkE.dflt) x24_14).toNat) intE.dflt) := id ((show LAt intE _ _ x38_17 (distV r_t16 r_t19 x29_15) from ((S.u 3 rfl)).1).wf (otherOf (r_t16.links.xs.getD i1 lnkE.dflt) x24_14).toNat (by omega))
  obtain ⟨hl30, hu30⟩ : inI64 ((distV r_t16 r_t19 x29_15).getD ((x24_14).toNat) intE.dflt) := id ((show LAt intE _ _ x38_17 (distV r_t16 r_t19 x29_15) from ((S.u 3 rfl)).1).wf (x24_14).toNat (by omega))
  refine dr (P := Try.prog) S 17 [] [(80, .is _), (81, .is _), (82, .is _), (83, .is _), (84, .is _), (85, .is _), (86, .is _), (87, .is _), (88, .is _), (89, .is _), (90, .is _), (91, .is _), (92, .is _), (93, .is _), (94, .is _), (95, .is _), (12, .is _)] [[], [], [80, 81], [82], [], [84], [], [85, 86], [87], [88], [83, 89], [], [], [91, 92], [93], [90, 94], [95]] [12] _ ⟨qd (mv rfl), qd (mv rfl), qd (idxi uT22 sZ3 rfl rfl (otherOf (r_t16.links.xs.getD i1 lnkE.dflt) x24_14).toNat (by omega) (by omega) ((show LAt intE _ _ x38_17 (distV r_t16 r_t19 x29_15) from ((S.u 3 rfl)).1).adr (i := (otherOf (r_t16.links.xs.getD i1 lnkE.dflt) x24_14).toNat) (by omega))), qd (ov fun S=>x_load sC3 (S.e rfl) ((show LAt intE _ _ x38_17 (distV r_t16 r_t19 x29_15) from ((S.u 3 rfl)).1).cell (otherOf (r_t16.links.xs.getD i1 lnkE.dflt) x24_14).toNat (by omega) 0 _ rfl)), qd (fldi 0 1 rfl uT28), qd (ldk 1 sC24 rfl rfl rfl), qd (mv rfl), qd (idxi uT24 sZ54 rfl rfl i1 rfl (by omega) (((S.u 1 rfl).2.1).1.adr (i := i1) (by omega))), qd (fldi (off r_t16.links.a + i1 * 3) 2 rfl uT54), qd (ov fun S=>x_load sC3 (S.e rfl) (((S.u 1 rfl).2.1).1.cell i1 (by omega) 2 _ rfl)), qd (addi (((distV r_t16 r_t19 x29_15).getD ((otherOf (r_t16.links.xs.getD i1 lnkE.dflt) x24_14).toNat) intE.dflt) + (r_t16.links.xs.getD i1 lnkE.dflt).cost) rfl rfl (w_i64 (by omega))), qd (mv rfl), qd (mv rfl), qd (idxi uT22 sZ3 rfl rfl (x24_14).toNat (by omega) (by omega) ((show LAt intE _ _ x38_17 (distV r_t16 r_t19 x29_15) from ((S.u 3 rfl)).1).adr (i := (x24_14).toNat) (by omega))), qd (ov fun S=>x_load sC3 (S.e rfl) ((show LAt intE _ _ x38_17 (distV r_t16 r_t19 x29_15) from ((S.u 3 rfl)).1).cell (x24_14).toNat (by omega) 0 _ rfl)), qd (eqli rfl rfl), qd (av rfl), trivial⟩ ?_
  clear S; intro a u S G hE
  refine ent ?_
  refine rs S (tr (mv rfl)<|tr (lssi rfl rfl)<|tr (mv rfl)<|tr (og 98 rfl gf fun S hg=>x_move (S.e rfl))<|tr (og 98 rfl gf fun S hg=>x_move (S.e rfl))<|tr (og 98 rfl gf fun S hg=>x_eql (S.p rfl hg) (S.p rfl hg))<|tr (og 98 rfl gf fun S hg=>x_move (S.p rfl hg))<|tr (og 102 rfl ggt fun S hg=>x_move (S.e rfl))<|tr (og 102 rfl ggt fun S hg=>x_notp (S.p rfl hg))<|tr (og 98 rfl gf fun S hg=>x_and (S.p rfl hg) (fun hl => (S.p rfl (And.intro hg hl))) (S.e rfl))<|tr (ori rfl rfl rfl)<|tr (mv rfl)<|tr (og 107 rfl gf fun S hg=>x_move (S.e rfl))<|tr (og 107 rfl gf fun S hg=>x_move (S.e rfl))<|tr (og 107 rfl gf fun S hg=>x_lss (S.p rfl hg) (S.p rfl hg))<|tr (og 107 rfl gf fun S hg=>x_move (S.p rfl hg))<|tr (og 111 rfl ggt fun S hg=>x_move (S.e rfl))<|tr (og 107 rfl gf fun S hg=>x_and (S.p rfl hg) (fun hl => (S.p rfl (And.intro hg hl))) (S.e rfl))<|la (ori rfl rfl rfl)) ?_; clear S; intro a u S
  refine cd S rfl ?_ ?_
  ·intro hc5
   refine rs S (la (av rfl)) ?_; clear S; intro a u S
   refine wp_ret (blk_r (then_r (then_r (blk_r (then_r ?_)))))
   refine ret1 rfl S.s rfl ?_
   replace S := S.pk []
   refine ⟨(r1 (vf ?_)), S.m.c⟩
   intro _; simp only [not_or, Classical.not_not] at hc4; exact tie_law hK (by omega) ⟨⟨⟨hc4.1.1.1, by have := hc4.1.1.2; omega⟩, hc4.1.2⟩, by have := hc4.2; omega⟩ hc5
  intro hc6
  refine wp_skip (blk_n (then_n ?_))
  refine rg S (tr (mv rfl)<|tr (addi ((i1 + 1 : Nat) : Int) rfl rfl (w_i64 (by omega)))<|la (av rfl)) ?_; clear S; intro a u S
  refine then_n ?_
  refine ⟨(i1 + 1), S.re (subM rfl) rfl rfl, ?_, ?_⟩
  ·refine ⟨by omega, ?_⟩
   trivial
  omega
 intro hc7
 refine wp_exit (then_e (then_e (blk_e (then_n ?_))))
 refine rs S (tr (mv rfl)<|tr (lssi rfl rfl)<|tr (mv rfl)<|tr (og 117 rfl gf fun S hg=>x_move (S.e rfl))<|tr (og 117 rfl gf fun S hg=>xf (0) 1 uT28 (S.e rfl))<|tr (og 117 rfl gf fun S hg=>x_load sC24 (S.p rfl hg) ((S.k 1 rfl).cell (j := 1) rfl))<|tr (og 117 rfl gf fun S hg=>x_len uT24 (S.p rfl hg))<|tr (og 117 rfl gf fun S hg=>x_lss (S.p rfl hg) (S.p rfl hg))<|tr (og 117 rfl gf fun S hg=>x_move (S.p rfl hg))<|tr (og 123 rfl ggt fun S hg=>x_move (S.e rfl))<|tr (og 123 rfl ggt fun S hg=>x_move (S.e rfl))<|tr (og 123 rfl ggt fun S hg=>x_neq (S.p rfl hg) (S.p rfl hg))<|tr (og 117 rfl gf fun S hg=>x_and (S.p rfl hg) (fun hl => (S.p rfl (And.intro hg hl))) (S.e rfl))<|tr (ori rfl rfl rfl)<|tr (mv rfl)<|tr (ocg 129 rfl gt (fun S hg=>lSaneP _ _ S.x (.nil _)) cB37 fun S=>trivial)<|tr (andi rfl rfl rfl)<|la (av rfl)) ?_; clear S; intro a u S
 refine wp_ret ?_
 refine ret1 rfl S.s rfl ?_
 replace S := S.pk []
 refine ⟨(r1 (vb ?_)), S.m.c⟩
 exact ⟨fun _ => trivial, fun _ => ⟨tie_end hK, trivial⟩⟩
end Go.Proofs.Ytfanmniaolncbaa.V
