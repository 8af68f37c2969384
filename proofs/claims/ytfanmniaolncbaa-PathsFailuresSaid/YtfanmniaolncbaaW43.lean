/- the laws on paths: further failures -/
import Derived.Test.YtfanmniaolncbaaW14
import Derived.Test.YtfanmniaolncbaaW39
import Derived.Test.YtfanmniaolncbaaPLawN
namespace Go.Proofs.Ytfanmniaolncbaa.V
open Go.RowKit Go.Proofs.Ytfanmniaolncbaa
set_option linter.unusedVariables false
set_option linter.unusedSimpArgs false
set_option maxHeartbeats 2000000 in
set_option maxRecDepth 20000 in
theorem lPFails (w : World) (F : Nat → Prop) (hF : Old F w) (M : MS [] w) (l : Sl Int) (l_w : (slE intE).wf (Fr F []) w.heap l) :
 Calls Try.prog 13 #[sV l] w fun e w' => e = .returned (bD (True)) ∧ Tr [] w [] w' := by
 have : l.xs.length ≤ 9223372036854775807 := (l_w).1.len
 refine go Try.func13 rfl 140 rfl [wfF (slE intE) l] [] hF M ⟨l_w, trivial⟩ trivial ?_
 intro a S
 refine rs S (la (av rfl)) ?_; clear S; intro a u S
 refine rs0 ?_
 refine sp S (la (mv rfl)) ?_; clear S; intro a u S
 refine cl S (gNew _ _ S.x (.nil _) l (dn0 (S.u 0 rfl))) cB14 ?_
 rintro e u ⟨T16, rfl, TK, T0⟩; refine ⟨_, rfl, fun a s => ?_⟩; replace S := S.kt s T0 TK; clear s T0 TK
 refine ens S (la (av rfl)) ?_; clear S; intro a u S
 refine rs0 ?_
 refine sp S (la (mv rfl)) ?_; clear S; intro a u S
 refine cl S (gTopology _ _ S.x T16 (S.M.pick [0] (by decide)) l (dn1 (js := [0]) (S.u 0 rfl)) (S.t 0 rfl) 6 ⟨by omega, by omega⟩) cB15 ?_
 rintro e u ⟨r_t18, rfl, R_t18, hr_t18, tK, T0⟩; refine ⟨_, rfl, fun a s => ?_⟩
 replace S := (S.k1 0 rfl s T0 tK).ar (wfF topoE r_t18) (Enc.up _ R_t18); clear s T0 tK R_t18
 have HG : genT r_t18 := hr_t18
 have HT := HG.1
 have hB := HG.1.1
 unfold topB at hB
 obtain ⟨-, hB1, hB2, hB3, hB4⟩ := HG
 have hn4 : r_t18.devs.xs.length ≤ 9223372036854775807 := ((S.u 1 rfl).1).1.len
 have hn5 : r_t18.links.xs.length ≤ 9223372036854775807 := ((S.u 1 rfl).2.1).1.len
 have hn6 : r_t18.edges.xs.length ≤ 9223372036854775807 := ((S.u 1 rfl).2.2.1).1.len
 have hn7 : r_t18.pools.xs.length ≤ 9223372036854775807 := ((S.u 1 rfl).2.2.2.1).1.len
 obtain ⟨hl8, hu8⟩ : inI64 r_t18.tol := id ((S.u 1 rfl).2.2.2.2)
 refine nbp S (x_allocz _ iZ28 rfl) ?_; clear S; intro a u b4 S
 refine ens S (la (stkw 1 rfl rfl rfl)) ?_; clear S; intro a u S
 refine rs0 ?_
 refine sp S (tr (mv rfl)<|la (ldkw 1 rfl rfl wD28)) ?_; clear S; intro a u S
 refine cl S (gFailure _ _ S.x T16 (S.M.pick [0] (by decide)) l (dn1 (js := [0]) (S.u 0 rfl)) (S.t 0 rfl) r_t18 (dn1 (js := [0]) (S.u 1 rfl)) (by omega)) cB25 ?_
 rintro e u ⟨r_t21, rfl, R_t21, hr_t21, tK, T0⟩; refine ⟨_, rfl, fun a s => ?_⟩
 replace S := (S.k1 0 rfl s T0 tK).ar (wfF failE r_t21) (Enc.up _ R_t21); clear s T0 tK R_t21
 have HV := failR_valid hr_t21 HT
 have hn10 : r_t21.links.xs.length ≤ 9223372036854775807 := ((S.u 2 rfl).1).1.len
 have hn11 : r_t21.devs.xs.length ≤ 9223372036854775807 := ((S.u 2 rfl).2).1.len
 refine nbp S (x_allocz _ iZ41 rfl) ?_; clear S; intro a u b5 S
 refine ens S (la (stkw 2 rfl rfl rfl)) ?_; clear S; intro a u S
 refine wp_seq ?_
 refine rs S (tr (fldi 0 1 rfl uT28)<|tr (ldk 1 sC24 rfl rfl rfl)<|tr (leni uT24 rfl)<|la (eqli rfl rfl)) ?_; clear S; intro a u S
 refine cd S rfl ?_ ?_
 ·intro hc0
  refine rs S (tr (oc (fun S=>lSaneP _ _ S.x (.nil _)) cB37)<|la (av rfl)) ?_; clear S; intro a u S
  refine wp_ret (then_r ?_)
  refine ret1 rfl S.s rfl ?_
  replace S := S.pk []
  refine ⟨(r1 (vb ?_)), S.m.c⟩
  first | exact Iff.rfl | assumption | omega | simp_all
 intro hc1
 refine wp_skip (then_n (rs0 ?_))
 refine sp S (tr (mv rfl)<|tr (fldi 0 1 rfl uT28)<|tr (ldk 1 sC24 rfl rfl rfl)<|la (leni uT24 rfl)) ?_; clear S; intro a u S
 refine cl S (gNext _ _ S.x T16 (S.M.pick [0] (by decide)) l (dn1 (js := [0]) (S.u 0 rfl)) (S.t 0 rfl) ((r_t18.links.xs.length : Nat) : Int) ⟨by omega, by omega⟩) cB23 ?_
 rintro e u ⟨r_t31, rfl, hr_t31, tK, T0⟩; refine ⟨_, rfl, fun a s => ?_⟩
 replace S := S.k1 0 rfl s T0 tK; clear s T0 tK
 refine ens S (la (av rfl)) ?_; clear S; intro a u S
 refine rs0 ?_
 refine sp S (tr (ldkw 2 rfl rfl wD41)<|la (mv rfl)) ?_; clear S; intro a u S
 refine cl S (rWithout _ _ S.x (.nil _) r_t21 (dn0 (S.u 2 rfl)) r_t31 ⟨by omega, by omega⟩ (by first | omega | exact Nat.le_trans (failV_len hg.1.1.1).1 (by decide) | exact Nat.le_trans (failV_len HV).1 (by decide))) cB26 ?_
 rintro e u ⟨r_t34, rfl, R_t34, hr_t34, T0⟩; refine ⟨_, rfl, fun a s => ?_⟩
 replace S := (S.k0 s T0).ar (wfF failE r_t34) (Enc.up _ R_t34); clear s T0 R_t34
 have hn16 : r_t34.links.xs.length ≤ 9223372036854775807 := ((S.u 3 rfl).1).1.len
 have hn17 : r_t34.devs.xs.length ≤ 9223372036854775807 := ((S.u 3 rfl).2).1.len
 refine nbp S (x_allocz _ iZ41 rfl) ?_; clear S; intro a u b7 S
 refine ens S (la (stkw 3 rfl rfl rfl)) ?_; clear S; intro a u S
 refine wp_seq ?_
 refine dr (P := Try.prog) S 12 [one T16] [(35, .is _), (36, .is _), (37, .is _), (38, .is _), (39, .of (fun z w => ∃ (x39a : Int), z = iI x39a ∧ (0 ≤ x39a ∧ (x39a < ((r_t18.devs.xs.length : Nat) : Int) ∨ x39a = 0))) (fun v w w' c h => let ⟨x39a, hv, h0⟩ := h; ⟨x39a, hv, h0⟩)), (40, .is _), (41, .is _), (42, .is _), (43, .is _), (44, .of (fun z w => ∃ (x44a : Int), z = iI x44a ∧ (0 ≤ x44a ∧ (x44a < ((r_t18.devs.xs.length : Nat) : Int) ∨ x44a = 0))) (fun v w w' c h => let ⟨x44a, hv, h0⟩ := h; ⟨x44a, hv, h0⟩)), (8, .of (fun z w => ∃ (x39a : Int), z = iI x39a ∧ (0 ≤ x39a ∧ (x39a < ((r_t18.devs.xs.length : Nat) : Int) ∨ x39a = 0))) (fun v w w' c h => let ⟨x39a, hv, h0⟩ := h; ⟨x39a, hv, h0⟩)), (9, .of (fun z w => ∃ (x44a : Int), z = iI x44a ∧ (0 ≤ x44a ∧ (x44a < ((r_t18.devs.xs.length : Nat) : Int) ∨ x44a = 0))) (fun v w w' c h => let ⟨x44a, hv, h0⟩ := h; ⟨x44a, hv, h0⟩))] [[], [], [36], [37], [35, 38], [], [], [41], [42], [40, 43], [39], [44]] [8, 9] _ ⟨qd (mv rfl), qd (fldi 0 0 rfl uT28), qd (ldk 1 sC23 rfl rfl rfl), qd (leni uT23 rfl), ?_, qd (mv rfl), qd (fldi 0 0 rfl uT28), qd (ldk 1 sC23 rfl rfl rfl), qd (leni uT23 rfl), ?_, ?_, ?_, trivial⟩ ?_
 ·skip
  intro a u S G hE
  refine hcl S (gNext _ _ S.x T16 (S.M.pick [0] (by decide)) l (dn1 (js := [0]) (S.u 0 rfl)) (S.t 0 rfl) ((r_t18.devs.xs.length : Nat) : Int) ⟨by omega, by omega⟩) cB23 ?_
  rintro e w2 ⟨r_h39, rfl, hr_h39, tK, T0⟩; refine ⟨_, rfl, (show ∃ _, _ from ?_), T0.ch, (S.k1 0 rfl S.s T0 tK).m⟩
  exact ⟨r_h39, rfl, hr_h39⟩
 ·skip
  intro a u S G hE
  refine hcl S (gNext _ _ S.x T16 (S.M.pick [0] (by decide)) l (dn1 (js := [0]) (S.u 0 rfl)) (S.t 0 rfl) ((r_t18.devs.xs.length : Nat) : Int) ⟨by omega, by omega⟩) cB23 ?_
  rintro e w2 ⟨r_h44, rfl, hr_h44, tK, T0⟩; refine ⟨_, rfl, (show ∃ _, _ from ?_), T0.ch, (S.k1 0 rfl S.s T0 tK).m⟩
  exact ⟨r_h44, rfl, hr_h44⟩
 ·skip
  intro a u S G hE
  obtain ⟨e39, -⟩ := hE
  have M0 := S.m
  obtain ⟨x39_18, e39, hr18⟩ := e39
  replace S := S.ext e39
  exact hvl 8 S M0 (v := iI x39_18) (x_assign (S.e rfl)) (show ∃ _, _ from ⟨x39_18, rfl, hr18⟩)
 ·skip
  intro a u S G hE
  obtain ⟨e44, -⟩ := hE
  have M0 := S.m
  obtain ⟨x44_19, e44, hr19⟩ := e44
  replace S := S.ext e44
  exact hvl 9 S M0 (v := iI x44_19) (x_assign (S.e rfl)) (show ∃ _, _ from ⟨x44_19, rfl, hr19⟩)
 clear S; intro a u S G hE
 obtain ⟨e8, e9, -⟩ := hE
 obtain ⟨x39_20, e8, hr20⟩ := e8
 replace S := S.ext e8
 obtain ⟨x44_21, e9, hr21⟩ := e9
 replace S := S.ext e9
 clear e8 e9
 have hK : K2 r_t18 r_t21 x39_20 x44_21 := ⟨⟨HV, by omega, by omega⟩, by omega, by omega⟩
 have hdl : (distV r_t18 r_t21 x44_21).length = r_t18.devs.xs.length := by rw [distV_of hK]; exact dists_len
 have hOM : OneMore r_t34 r_t21 (((r_t31).toNat : Nat) : Int) := by rw [show ((((r_t31).toNat : Nat) : Int)) = r_t31 from by omega]; assumption
 obtain ⟨hKg, hFL1, hFL2⟩ := fail_law hK (i := (r_t31).toNat) (by omega) hOM
 have hdlg : (distV r_t18 r_t34 x44_21).length = r_t18.devs.xs.length := by rw [distV_of hKg]; exact dists_len
 have hda : (distV r_t18 r_t21 x44_21).getD (x39_20).toNat intE.dflt = dOf r_t18 r_t21 (x44_21).toNat (x39_20).toNat := distV_at (a := x39_20) hK (by omega)
 have hea : (distV r_t18 r_t34 x44_21).getD (x39_20).toNat intE.dflt = dOf r_t18 r_t34 (x44_21).toNat (x39_20).toNat := distV_at (a := x39_20) hKg (by omega)
 rw [show ((((r_t31).toNat : Nat) : Int)) = r_t31 from by omega] at hFL2
 refine ent (wp_seq ?_)
 refine dr (P := Try.prog) S 10 [] [(45, .is _), (46, .is _), (47, .is _), (48, .of (fun z w => ∃ (x48a : Option Addr) (y48a : Nat), z = .slice x48a ((distV r_t18 r_t21 x44_21).length) y48a ∧ (slE intE).wf (Fr F [one T16, one b4, one b5, one b7]) w.heap (Sl.mk x48a y48a (distV r_t18 r_t21 x44_21))) (fun v w w' c h => let ⟨x48a, y48a, hv, h0⟩ := h; ⟨x48a, y48a, hv, Enc.kp (slE intE) h0 c (fun _ h => by simp at h)⟩)), (49, .is _), (50, .is _), (51, .is _), (52, .of (fun z w => ∃ (x52a : Option Addr) (y52a : Nat), z = .slice x52a ((distV r_t18 r_t34 x44_21).length) y52a ∧ (slE intE).wf (Fr F [one T16, one b4, one b5, one b7]) w.heap (Sl.mk x52a y52a (distV r_t18 r_t34 x44_21))) (fun v w w' c h => let ⟨x52a, y52a, hv, h0⟩ := h; ⟨x52a, y52a, hv, Enc.kp (slE intE) h0 c (fun _ h => by simp at h)⟩)), (10, .of (fun z w => ∃ (x48a : Option Addr) (y48a : Nat), z = .slice x48a ((distV r_t18 r_t21 x44_21).length) y48a ∧ (slE intE).wf (Fr F [one T16, one b4, one b5, one b7]) w.heap (Sl.mk x48a y48a (distV r_t18 r_t21 x44_21))) (fun v w w' c h => let ⟨x48a, y48a, hv, h0⟩ := h; ⟨x48a, y48a, hv, Enc.kp (slE intE) h0 c (fun _ h => by simp at h)⟩)), (11, .of (fun z w => ∃ (x52a : Option Addr) (y52a : Nat), z = .slice x52a ((distV r_t18 r_t34 x44_21).length) y52a ∧ (slE intE).wf (Fr F [one T16, one b4, one b5, one b7]) w.heap (Sl.mk x52a y52a (distV r_t18 r_t34 x44_21))) (fun v w w' c h => let ⟨x52a, y52a, hv, h0⟩ := h; ⟨x52a, y52a, hv, Enc.kp (slE intE) h0 c (fun _ h => by simp at h)⟩))] [[], [], [], [45, 46, 47], [], [], [], [49, 50, 51], [48], [52]] [10, 11] _ ⟨qd (ldkw 1 rfl rfl wD28), qd (ldkw 2 rfl rfl wD41), qd (mv rfl), ?_, qd (ldkw 1 rfl rfl wD28), qd (ldkw 3 rfl rfl wD41), qd (mv rfl), ?_, ?_, ?_, trivial⟩ ?_
 ·skip
  intro a u S G hE
  refine hcl S (pDist _ _ S.x (.nil _) r_t18 (dn0 (S.u 1 rfl)) r_t21 (dn0 (S.u 2 rfl)) x44_21 ⟨by omega, by omega⟩) cB38 ?_
  rintro e w2 ⟨ra_h48, rc_h48, rfl, R_h48, T0⟩; refine ⟨_, rfl, (show ∃ _, _ from ?_), T0.ch, (S.k0 S.s T0).m⟩
  exact ⟨ra_h48, rc_h48, rfl, (Enc.up _ R_h48)⟩
 ·skip
  intro a u S G hE
  refine hcl S (pDist _ _ S.x (.nil _) r_t18 (dn0 (S.u 1 rfl)) r_t34 (dn0 (S.u 3 rfl)) x44_21 ⟨by omega, by omega⟩) cB38 ?_
  rintro e w2 ⟨ra_h52, rc_h52, rfl, R_h52, T0⟩; refine ⟨_, rfl, (show ∃ _, _ from ?_), T0.ch, (S.k0 S.s T0).m⟩
  exact ⟨ra_h52, rc_h52, rfl, (Enc.up _ R_h52)⟩
 ·skip
  intro a u S G hE
  obtain ⟨e48, -⟩ := hE
  have M0 := S.m
  obtain ⟨x48_22, y48_22, e48, X22⟩ := e48
  replace S := S.ext e48
  exact hvl 10 S M0 (v := .slice x48_22 ((distV r_t18 r_t21 x44_21).length) y48_22) (x_assign (S.e rfl)) (show ∃ _, _ from ⟨x48_22, y48_22, rfl, X22⟩)
 ·skip
  intro a u S G hE
  obtain ⟨e52, -⟩ := hE
  have M0 := S.m
  obtain ⟨x52_23, y52_23, e52, X23⟩ := e52
  replace S := S.ext e52
  exact hvl 11 S M0 (v := .slice x52_23 ((distV r_t18 r_t34 x44_21).length) y52_23) (x_assign (S.e rfl)) (show ∃ _, _ from ⟨x52_23, y52_23, rfl, X23⟩)
 clear S; intro a u S G hE
 obtain ⟨e10, e11, -⟩ := hE
 obtain ⟨x48_24, y48_24, e10, X24⟩ := e10
 replace S := S.ext e10
 obtain ⟨x52_25, y52_25, e11, X25⟩ := e11
 replace S := S.ext e11
 clear e10 e11
 replace S := S.ar (wfF (slE intE) (Sl.mk x48_24 y48_24 (distV r_t18 r_t21 x44_21))) X24
 replace S := S.ar (wfF (slE intE) (Sl.mk x52_25 y52_25 (distV r_t18 r_t34 x44_21))) X25
 have hn26 : (distV r_t18 r_t21 x44_21).length ≤ 9223372036854775807 := ((S.u 4 rfl)).1.len
 have hn27 : (distV r_t18 r_t34 x44_21).length ≤ 9223372036854775807 := ((S.u 5 rfl)).1.len
 refine ent (wp_seq (wp_seq ?_))
 refine dr (P := Try.prog) S 39 [] ((53, .is _) :: (54, .is _) :: (55, .is _) :: (56, .is _) :: (57, .is _) :: (58, .is _) :: (59, .is _) :: (60, .is _) :: (61, .is _) :: (62, .is _) :: (63, .is _) :: (64, .is _) :: (65, .is _) :: (66, .is _) :: (67, .is _) :: (68, .is _) :: (69, .is _) :: (70, .is _) :: (71, .is _) :: (72, .is _) :: (73, .is _) :: (74, .is _) :: (75, .is _) :: (76, .is _) :: (77, .is _) :: (78, .is _) :: (79, .is _) :: (80, .is _) :: (81, .is _) :: (82, .is _) :: (83, .is _) :: (84, .is _) :: (85, .is _) :: (86, .is _) :: (87, .is _) :: (88, .is _) :: (89, .is _) :: (90, .is _) :: (91, .is _) :: []) ([] :: [53] :: [] :: [55] :: [56] :: [54, 57] :: [58] :: [59] :: [59, 60] :: [59] :: [59, 62] :: [59, 63] :: [59, 61, 64] :: [59, 65] :: [66] :: [67] :: [67] :: [67, 68, 69] :: [67, 70] :: [67, 71] :: [67, 72] :: [73] :: [73] :: [73, 74, 75] :: [73, 76] :: [73, 77] :: [73, 78] :: [79] :: [79] :: [79, 80, 81] :: [79, 82] :: [79] :: [79] :: [79, 84, 85] :: [79, 86] :: [79, 83, 87] :: [73, 79, 88] :: [67, 73, 89] :: [67, 90] :: []) [91] _ ⟨qd (mv rfl), qd (leni uT22 rfl), qd (fldi 0 0 rfl uT28), qd (ldk 1 sC23 rfl rfl rfl), qd (leni uT23 rfl), qd (neqi rfl rfl), qd (mv rfl), qd (og 59 rfl gf fun S hg=>x_move (S.e rfl)), qd (og 59 rfl gf fun S hg=>x_len uT22 (S.p rfl hg)), qd (og 59 rfl gf fun S hg=>xf (0) 0 uT28 (S.e rfl)), qd (og 59 rfl gf fun S hg=>x_load sC23 (S.p rfl hg) ((S.k 1 rfl).cell (j := 0) rfl)), qd (og 59 rfl gf fun S hg=>x_len uT23 (S.p rfl hg)), qd (og 59 rfl gf fun S hg=>x_neq (S.p rfl hg) (S.p rfl hg)), qd (ori rfl rfl rfl), qd (mv rfl), qd (og 67 rfl gf fun S hg=>x_move (S.e rfl)), qd (og 67 rfl gf fun S hg=>x_move (S.e rfl)), qd (og 67 rfl gf fun S hg=>x_idx uT22 sZ3 (S.p rfl hg) (S.p rfl hg) (x39_20).toNat (by omega) (by omega) ((show LAt intE _ _ x52_25 (distV r_t18 r_t34 x44_21) from ((S.u 5 rfl)).1).adr (i := (x39_20).toNat) (by omega))), qd (og 67 rfl gf fun S hg=>x_load sC3 (S.p rfl hg) ((show LAt intE _ _ x52_25 (distV r_t18 r_t34 x44_21) from ((S.u 5 rfl)).1).cell (x39_20).toNat (by omega) 0 _ rfl)), qd (og 67 rfl gf fun S hg=>x_geq (S.p rfl hg) (S.e rfl)), qd (og 67 rfl gf fun S hg=>x_move (S.p rfl hg)), qd (og 73 rfl ggt fun S hg=>x_move (S.e rfl)), qd (og 73 rfl ggt fun S hg=>x_move (S.e rfl)), qd (og 73 rfl ggt fun S hg=>x_idx uT22 sZ3 (S.p rfl hg) (S.p rfl hg) (x39_20).toNat (by omega) (by omega) ((show LAt intE _ _ x48_24 (distV r_t18 r_t21 x44_21) from ((S.u 4 rfl)).1).adr (i := (x39_20).toNat) (by omega))), qd (og 73 rfl ggt fun S hg=>x_load sC3 (S.p rfl hg) ((show LAt intE _ _ x48_24 (distV r_t18 r_t21 x44_21) from ((S.u 4 rfl)).1).cell (x39_20).toNat (by omega) 0 _ rfl)), qd (og 73 rfl ggt fun S hg=>x_lss (S.p rfl hg) (S.e rfl)), qd (og 73 rfl ggt fun S hg=>x_move (S.p rfl hg)), qd (og 79 rfl ggf fun S hg=>x_move (S.e rfl)), qd (og 79 rfl ggf fun S hg=>x_move (S.e rfl)), qd (og 79 rfl ggf fun S hg=>x_idx uT22 sZ3 (S.p rfl hg) (S.p rfl hg) (x39_20).toNat (by omega) (by omega) ((show LAt intE _ _ x52_25 (distV r_t18 r_t34 x44_21) from ((S.u 5 rfl)).1).adr (i := (x39_20).toNat) (by omega))), qd (og 79 rfl ggf fun S hg=>x_load sC3 (S.p rfl hg) ((show LAt intE _ _ x52_25 (distV r_t18 r_t34 x44_21) from ((S.u 5 rfl)).1).cell (x39_20).toNat (by omega) 0 _ rfl)), qd (og 79 rfl ggf fun S hg=>x_move (S.e rfl)), qd (og 79 rfl ggf fun S hg=>x_move (S.e rfl)), qd (og 79 rfl ggf fun S hg=>x_idx uT22 sZ3 (S.p rfl hg) (S.p rfl hg) (x39_20).toNat (by omega) (by omega) ((show LAt intE _ _ x48_24 (distV r_t18 r_t21 x44_21) from ((S.u 4 rfl)).1).adr (i := (x39_20).toNat) (by omega))), qd (og 79 rfl ggf fun S hg=>x_load sC3 (S.p rfl hg) ((show LAt intE _ _ x48_24 (distV r_t18 r_t21 x44_21) from ((S.u 4 rfl)).1).cell (x39_20).toNat (by omega) 0 _ rfl)), qd (og 79 rfl ggf fun S hg=>x_lss (S.p rfl hg) (S.p rfl hg)), qd (og 73 rfl ggt fun S hg=>x_or (S.p rfl hg) (S.e rfl) (fun hl => (S.p rfl (And.intro hg hl)))), qd (og 67 rfl gf fun S hg=>x_and (S.p rfl hg) (fun hl => (S.p rfl (And.intro hg hl))) (S.e rfl)), qd (ori rfl rfl rfl), trivial⟩ ?_
 clear S; intro a u S G hE
 refine ent ?_
 refine cd S rfl ?_ ?_
 ·intro hc2
  refine rs S (la (av rfl)) ?_; clear S; intro a u S
  refine wp_ret (then_r ?_)
  refine ret1 rfl S.s rfl ?_
  replace S := S.pk []
  refine ⟨(r1 (vf ?_)), S.m.c⟩
  intro _; rw [hda, hea] at hc2; rcases hc2 with (h | h) | h
  ·exact h (by omega)
  ·exact h (by omega)
  have := hFL1 h.1; omega
 intro hc3
 refine wp_skip (then_n (rs0 ?_))
 refine sp S (tr (ldkw 1 rfl rfl wD28)<|tr (ldkw 2 rfl rfl wD41)<|tr (mv rfl)<|la (mv rfl)) ?_; clear S; intro a u S
 refine cl S (pLinks _ _ S.x (.nil _) r_t18 (dn0 (S.u 1 rfl)) r_t21 (dn0 (S.u 2 rfl)) x39_20 ⟨by omega, by omega⟩ x44_21 ⟨by omega, by omega⟩) cB42 ?_
 rintro e u ⟨ra_t96, rc_t96, rfl, R_t96, T0⟩; refine ⟨_, rfl, fun a s => ?_⟩
 replace S := (S.k0 s T0).ar (wfF (slE intE) (Sl.mk ra_t96 rc_t96 (linkV r_t18 r_t21 x39_20 x44_21))) (Enc.up _ R_t96); clear s T0 R_t96
 have hn30 : (linkV r_t18 r_t21 x39_20 x44_21).length ≤ 9223372036854775807 := ((S.u 6 rfl)).1.len
 refine ens S (la (av rfl)) ?_; clear S; intro a u S
 refine rs S (la (av rfl)) ?_; clear S; intro a u S
 refine wp_seq ?_
 refine rs S (la (av rfl)) ?_; clear S; intro a u S
 refine wp_block ?_
 refine lp2 (fun (j1 : Nat) (ht : Bool) => [(2, .bool false), (4, pT b4 0), (5, pT b5 0), (6, iI r_t31), (7, pT b7 0), (8, iI x39_20), (9, iI x44_21), (10, .slice x48_24 ((distV r_t18 r_t21 x44_21).length) y48_24), (11, .slice x52_25 ((distV r_t18 r_t34 x44_21).length) y52_25), (12, .slice ra_t96 ((linkV r_t18 r_t21 x39_20 x44_21).length) rc_t96), (14, iN j1), (13, bD (ht = true))]) (fun (j1 : Nat) (ht : Bool) => [tpO 62 T16 l, blO b4 (topoE.cells r_t18) 28, blO b5 (failE.cells r_t21) 41, blO b7 (failE.cells r_t34) 41]) (fun (j1 : Nat) (ht : Bool) => j1 ≤ (linkV r_t18 r_t21 x39_20 x44_21).length ∧ (ht = true ↔ Hits (linkV r_t18 r_t21 x39_20 x44_21) r_t31 j1)) (fun (j1 : Nat) (ht : Bool) => (linkV r_t18 r_t21 x39_20 x44_21).length - j1) S 0 false (subM rfl) rfl ?_ ?_
 ·exact ⟨Nat.zero_le _, hits0⟩
 clear S; intro j1 ht a u S hR
 obtain ⟨hj1, hht⟩ := hR
 have hls := link_small r_t18 r_t21 x39_20 x44_21
 refine wp_seq ?_
 refine rs S (tr (mv rfl)<|tr (mv rfl)<|tr (leni uT22 rfl)<|la (lssi rfl rfl)) ?_; clear S; intro a u S
 refine cd S rfl ?_ ?_
 ·intro hc4
  refine wp_skip (then_n (wp_seq (wp_block (r0 ?_))))
  refine sp S (tr (mv rfl)<|tr (mv rfl)<|tr (og 104 rfl gf fun S hg=>x_move (S.e rfl))<|tr (og 104 rfl gf fun S hg=>x_move (S.e rfl))<|tr (og 104 rfl gf fun S hg=>x_idx uT22 sZ3 (S.p rfl hg) (S.p rfl hg) j1 rfl (by omega) ((show LAt intE _ _ ra_t96 (linkV r_t18 r_t21 x39_20 x44_21) from ((S.u 6 rfl)).1).adr (i := j1) (by omega)))<|tr (og 104 rfl gf fun S hg=>x_load sC3 (S.p rfl hg) ((show LAt intE _ _ ra_t96 (linkV r_t18 r_t21 x39_20 x44_21) from ((S.u 6 rfl)).1).cell j1 (by omega) 0 _ rfl))<|tr (og 104 rfl gf fun S hg=>x_move (S.e rfl))<|tr (og 104 rfl gf fun S hg=>x_eql (S.p rfl hg) (S.p rfl hg))<|la (ori rfl rfl rfl)) ?_; clear S; intro a u S
  obtain ⟨bv111, hbv111⟩ : ∃ b : Bool, (b = true) ↔ ((ht = true) ∨ (((linkV r_t18 r_t21 x39_20 x44_21).getD j1 intE.dflt) = r_t31)) := ⟨decide ((ht = true) ∨ (((linkV r_t18 r_t21 x39_20 x44_21).getD j1 intE.dflt) = r_t31)), by simp⟩
  replace S := S.ext (d := 111) (v := bD (bv111 = true)) ((S.get 111 rfl).trans (vb hbv111.symm))
  have hbv := hbv111
  refine en S (la (av rfl)) ?_; clear S; intro a u S
  refine blk_n (then_n ?_)
  refine rg S (tr (mv rfl)<|tr (addi ((j1 + 1 : Nat) : Int) rfl rfl (w_i64 (by omega)))<|la (av rfl)) ?_; clear S; intro a u S
  refine then_n ?_
  refine ⟨(j1 + 1), bv111, S.re (subM rfl) rfl rfl, ?_, ?_⟩
  ·exact ⟨by omega, by rw [hbv]; exact hits1 hht⟩
  omega
 intro hc5
 refine wp_exit (then_e (then_e (blk_e (then_n (wp_seq ?_)))))
 replace S := S.l [(4, pT b4 0), (5, pT b5 0), (7, pT b7 0), (8, iI x39_20), (9, iI x44_21), (10, .slice x48_24 ((distV r_t18 r_t21 x44_21).length) y48_24), (11, .slice x52_25 ((distV r_t18 r_t34 x44_21).length) y52_25), (13, bD (ht = true))] (subM rfl)
 refine dr (P := Try.prog) S 29 [] ((112, .is _) :: (113, .is _) :: (114, .is _) :: (115, .is _) :: (116, .is _) :: (117, .is _) :: (118, .is _) :: (119, .is _) :: (120, .is _) :: (121, .is _) :: (122, .is _) :: (123, .is _) :: (124, .is _) :: (125, .is _) :: (126, .is _) :: (127, .is _) :: (128, .of (fun z w => ((¬ (ht = true)) ∧ (((distV r_t18 r_t21 x44_21).getD ((x39_20).toNat) intE.dflt) = ((distV r_t18 r_t34 x44_21).getD ((x39_20).toNat) intE.dflt))) → ∃ (x128a : Option Addr) (y128a : Nat), z = .slice x128a ((pathV r_t18 r_t34 x39_20 x44_21).length) y128a ∧ (slE intE).wf (Fr F [one T16, one b4, one b5, one b7]) w.heap (Sl.mk x128a y128a (pathV r_t18 r_t34 x39_20 x44_21))) (fun v w w' c h hg => let ⟨x128a, y128a, hv, h0⟩ := h hg; ⟨x128a, y128a, hv, Enc.kp (slE intE) h0 c (fun _ h => by simp at h)⟩)) :: (129, .is _) :: (130, .is _) :: (131, .is _) :: (132, .is _) :: (133, .of (fun z w => ((¬ (ht = true)) ∧ (((distV r_t18 r_t21 x44_21).getD ((x39_20).toNat) intE.dflt) = ((distV r_t18 r_t34 x44_21).getD ((x39_20).toNat) intE.dflt))) → ∃ (x133a : Option Addr) (y133a : Nat), z = .slice x133a ((pathV r_t18 r_t21 x39_20 x44_21).length) y133a ∧ (slE intE).wf (Fr F [one T16, one b4, one b5, one b7]) w.heap (Sl.mk x133a y133a (pathV r_t18 r_t21 x39_20 x44_21))) (fun v w w' c h hg => let ⟨x133a, y133a, hv, h0⟩ := h hg; ⟨x133a, y133a, hv, Enc.kp (slE intE) h0 c (fun _ h => by simp at h)⟩)) :: (134, .is ((if ((¬ (ht = true)) ∧ (((distV r_t18 r_t21 x44_21).getD ((x39_20).toNat) intE.dflt) = ((distV r_t18 r_t34 x44_21).getD ((x39_20).toNat) intE.dflt))) then bD ((pathV r_t18 r_t34 x39_20 x44_21) = (pathV r_t18 r_t21 x39_20 x44_21)) else undef))) :: (135, .is _) :: (136, .is _) :: (137, .is _) :: (138, .is _) :: (139, .is _) :: (2, .is _) :: []) ([] :: [112] :: [113] :: [113] :: [113, 114, 115] :: [113, 116] :: [113] :: [113] :: [113, 118, 119] :: [113, 120] :: [113, 117, 121] :: [113, 122] :: [123] :: [123] :: [123] :: [123] :: [123, 124, 125, 126, 127] :: [123] :: [123] :: [123] :: [123] :: [123, 129, 130, 131, 132] :: [123, 128, 133] :: [113, 123, 134] :: [113, 135] :: [136] :: [137] :: [137, 138] :: [139] :: []) [2] _ ⟨qd (mv rfl), qd (mv rfl), qd (og 113 rfl gf fun S hg=>x_move (S.e rfl)), qd (og 113 rfl gf fun S hg=>x_move (S.e rfl)), qd (og 113 rfl gf fun S hg=>x_idx uT22 sZ3 (S.p rfl hg) (S.p rfl hg) (x39_20).toNat (by omega) (by omega) ((show LAt intE _ _ x48_24 (distV r_t18 r_t21 x44_21) from ((S.u 4 rfl)).1).adr (i := (x39_20).toNat) (by omega))), qd (og 113 rfl gf fun S hg=>x_load sC3 (S.p rfl hg) ((show LAt intE _ _ x48_24 (distV r_t18 r_t21 x44_21) from ((S.u 4 rfl)).1).cell (x39_20).toNat (by omega) 0 _ rfl)), qd (og 113 rfl gf fun S hg=>x_move (S.e rfl)), qd (og 113 rfl gf fun S hg=>x_move (S.e rfl)), qd (og 113 rfl gf fun S hg=>x_idx uT22 sZ3 (S.p rfl hg) (S.p rfl hg) (x39_20).toNat (by omega) (by omega) ((show LAt intE _ _ x52_25 (distV r_t18 r_t34 x44_21) from ((S.u 5 rfl)).1).adr (i := (x39_20).toNat) (by omega))), qd (og 113 rfl gf fun S hg=>x_load sC3 (S.p rfl hg) ((show LAt intE _ _ x52_25 (distV r_t18 r_t34 x44_21) from ((S.u 5 rfl)).1).cell (x39_20).toNat (by omega) 0 _ rfl)), qd (og 113 rfl gf fun S hg=>x_eql (S.p rfl hg) (S.p rfl hg)), qd (og 113 rfl gf fun S hg=>x_move (S.p rfl hg)), qd (og 123 rfl ggt fun S hg=>x_ldw (S.e rfl) (S.k 1 rfl).all wD28), qd (og 123 rfl ggt fun S hg=>x_ldw (S.e rfl) (S.k 3 rfl).all wD41), qd (og 123 rfl ggt fun S hg=>x_move (S.e rfl)), qd (og 123 rfl ggt fun S hg=>x_move (S.e rfl)), ?_, qd (og 123 rfl ggt fun S hg=>x_ldw (S.e rfl) (S.k 1 rfl).all wD28), qd (og 123 rfl ggt fun S hg=>x_ldw (S.e rfl) (S.k 2 rfl).all wD41), qd (og 123 rfl ggt fun S hg=>x_move (S.e rfl)), qd (og 123 rfl ggt fun S hg=>x_move (S.e rfl)), ?_, ?_, qd (og 113 rfl gf fun S hg=>x_and (S.p rfl hg) (fun hl => (S.p rfl (And.intro hg hl))) (S.e rfl)), qd (ori rfl rfl rfl), qd (mv rfl), qd (ocg 137 rfl gt (fun S hg=>lSaneP _ _ S.x (.nil _)) cB37 fun S=>trivial), qd (andi rfl rfl rfl), qd (av rfl), trivial⟩ ?_
 ·skip
  intro a u S G hE
  refine (Classical.em ((¬ (ht = true)) ∧ (((distV r_t18 r_t21 x44_21).getD ((x39_20).toNat) intE.dflt) = ((distV r_t18 r_t34 x44_21).getD ((x39_20).toNat) intE.dflt)))).symm.elim (fun hg => ?_) fun hg => ?_
  ·exact hng 128 123 S S.m rfl (fun h => hg (ggt.2 h)) (show ((¬ (ht = true)) ∧ (((distV r_t18 r_t21 x44_21).getD ((x39_20).toNat) intE.dflt) = ((distV r_t18 r_t34 x44_21).getD ((x39_20).toNat) intE.dflt))) → _ from fun h => absurd h hg)
  refine hcg 123 S rfl (ggt.1 hg) (pPath _ _ S.x (.nil _) r_t18 (dn0 (S.u 1 rfl)) r_t34 (dn0 (S.u 3 rfl)) x39_20 ⟨by omega, by omega⟩ x44_21 ⟨by omega, by omega⟩) cB41 ⟨fun _=>(S.p rfl hg), fun _=>(S.p rfl hg), fun _=>(S.p rfl hg), fun _=>(S.p rfl hg), trivial⟩ ?_
  rintro e w2 ⟨ra_h128, rc_h128, rfl, R_h128, T0⟩; refine ⟨_, rfl, (fun _ => ?_), T0.ch, (S.k0 S.s T0).m⟩
  exact ⟨ra_h128, rc_h128, rfl, (Enc.up _ R_h128)⟩
 ·skip
  intro a u S G hE
  refine (Classical.em ((¬ (ht = true)) ∧ (((distV r_t18 r_t21 x44_21).getD ((x39_20).toNat) intE.dflt) = ((distV r_t18 r_t34 x44_21).getD ((x39_20).toNat) intE.dflt)))).symm.elim (fun hg => ?_) fun hg => ?_
  ·exact hng 133 123 S S.m rfl (fun h => hg (ggt.2 h)) (show ((¬ (ht = true)) ∧ (((distV r_t18 r_t21 x44_21).getD ((x39_20).toNat) intE.dflt) = ((distV r_t18 r_t34 x44_21).getD ((x39_20).toNat) intE.dflt))) → _ from fun h => absurd h hg)
  refine hcg 123 S rfl (ggt.1 hg) (pPath _ _ S.x (.nil _) r_t18 (dn0 (S.u 1 rfl)) r_t21 (dn0 (S.u 2 rfl)) x39_20 ⟨by omega, by omega⟩ x44_21 ⟨by omega, by omega⟩) cB41 ⟨fun _=>(S.p rfl hg), fun _=>(S.p rfl hg), fun _=>(S.p rfl hg), fun _=>(S.p rfl hg), trivial⟩ ?_
  rintro e w2 ⟨ra_h133, rc_h133, rfl, R_h133, T0⟩; refine ⟨_, rfl, (fun _ => ?_), T0.ch, (S.k0 S.s T0).m⟩
  exact ⟨ra_h133, rc_h133, rfl, (Enc.up _ R_h133)⟩
 ·skip
  intro a u S G hE
  obtain ⟨e128, e133, -⟩ := hE
  have M0 := S.m
  refine (Classical.em ((¬ (ht = true)) ∧ (((distV r_t18 r_t21 x44_21).getD ((x39_20).toNat) intE.dflt) = ((distV r_t18 r_t34 x44_21).getD ((x39_20).toNat) intE.dflt)))).symm.elim (fun hg => ?_) fun hg => ?_
  ·exact hng 134 123 S M0 rfl (fun h => hg (ggt.2 h)) (show _ = _ from (if_neg hg).symm)
  replace e128 := e128 hg
  obtain ⟨x128_36, y128_36, e128, X36⟩ := e128
  replace S := S.ext e128
  replace e133 := e133 hg
  obtain ⟨x133_37, y133_37, e133, X37⟩ := e133
  replace S := S.ext e133
  refine hcg 123 S rfl (ggt.1 hg) (sameIdx _ _ S.x (.nil _) (Sl.mk x128_36 y128_36 (pathV r_t18 r_t34 x39_20 x44_21)) (dn0 X36) (Sl.mk x133_37 y133_37 (pathV r_t18 r_t21 x39_20 x44_21)) (dn0 X37)) cB45 ⟨(fun _=>S.e rfl), (fun _=>S.e rfl), trivial⟩ ?_
  rintro e w2 ⟨rfl, T0⟩; exact ⟨_, rfl, (show _ = _ from (if_pos hg).symm), T0.ch, (M0.k0 T0.ch)⟩
 clear S; intro a u S G hE
 refine ent (wp_ret ?_)
 refine ret1 rfl S.s rfl ?_
 replace S := S.pk []
 refine ⟨(r1 (vb ?_)), S.m.c⟩
 refine ⟨fun _ => trivial, fun _ => ⟨?_, trivial⟩⟩
 by_cases hh : ht = true
 ·exact .inl hh
 have h1 := hFL2 fun j hj e => hh (hht.2 ⟨j, by omega, e⟩)
 rw [hda, hea]; exact .inr ⟨h1.1, h1.2⟩
end Go.Proofs.Ytfanmniaolncbaa.V
