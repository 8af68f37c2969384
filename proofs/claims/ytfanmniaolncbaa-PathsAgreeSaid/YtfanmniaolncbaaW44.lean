/- the laws on paths: all agrees -/
import Derived.Test.YtfanmniaolncbaaW14
import Derived.Test.YtfanmniaolncbaaW39
import Derived.Test.YtfanmniaolncbaaW23
import Derived.Test.YtfanmniaolncbaaW21
import Derived.Test.YtfanmniaolncbaaW24
namespace Go.Proofs.Ytfanmniaolncbaa.V
open Go.RowKit Go.Proofs.Ytfanmniaolncbaa
set_option linter.unusedVariables false
set_option linter.unusedSimpArgs false
set_option maxHeartbeats 2000000 in
set_option maxRecDepth 20000 in
theorem lPAgree (w : World) (F : Nat → Prop) (hF : Old F w) (M : MS [] w) (l : Sl Int) (l_w : (slE intE).wf (Fr F []) w.heap l) (x : Topo) (x_w : topoE.wf (Fr F []) w.heap x) (f : Fail) (f_w : failE.wf (Fr F []) w.heap f) (da : Int) (da_h : inI64 da) (dz : Int) (dz_h : inI64 dz) :
 Calls Try.prog 9 #[sV l, .agg (topoE.cells x).toArray, .agg (failE.cells f).toArray, iI da, iI dz] w fun e w' => e = .returned (bD (True)) ∧ Tr [] w [] w' := by
 have : l.xs.length ≤ 9223372036854775807 := (l_w).1.len
 have : x.devs.xs.length ≤ 9223372036854775807 := (x_w.1).1.len
 have : x.links.xs.length ≤ 9223372036854775807 := (x_w.2.1).1.len
 have : x.edges.xs.length ≤ 9223372036854775807 := (x_w.2.2.1).1.len
 have : x.pools.xs.length ≤ 9223372036854775807 := (x_w.2.2.2.1).1.len
 obtain ⟨_, _⟩ : inI64 x.tol := x_w.2.2.2.2
 have : f.links.xs.length ≤ 9223372036854775807 := (f_w.1).1.len
 have : f.devs.xs.length ≤ 9223372036854775807 := (f_w.2).1.len
 obtain ⟨da_hl, da_hu⟩ : inI64 da := id da_h
 obtain ⟨dz_hl, dz_hu⟩ : inI64 dz := id dz_h
 refine go Try.func9 rfl 108 rfl [wfF (slE intE) l, wfF topoE x, wfF failE f] [] hF M ⟨l_w, x_w, f_w, trivial⟩ trivial ?_
 intro a S
 refine rs0 ?_
 refine nbp S (x_box _ (S.e rfl) rfl) ?_; clear S; intro a u b6 S
 refine nbp S (x_box _ (S.e rfl) rfl) ?_; clear S; intro a u b7 S
 refine ens S (la (av rfl)) ?_; clear S; intro a u S
 refine rs0 ?_
 refine sp S (la (mv rfl)) ?_; clear S; intro a u S
 refine cl S (gNew _ _ S.x (.nil _) l (dn0 (S.u 0 rfl))) cB14 ?_
 rintro e u ⟨T16, rfl, TK, T0⟩; refine ⟨_, rfl, fun a s => ?_⟩; replace S := S.kt s T0 TK; clear s T0 TK
 refine ens S (la (av rfl)) ?_; clear S; intro a u S
 refine wp_seq ?_
 refine rs S (la (av rfl)) ?_; clear S; intro a u S
 refine wp_block ?_
 refine lp1 (fun (i1 : Nat) => [(3, iI da), (4, iI dz), (6, pT b6 0), (7, pT b7 0), (11, pT T16 0), (12, iN i1)]) (fun (i1 : Nat) => [blO b6 (topoE.cells x) 28, blO b7 (failE.cells f) 41, tpO 62 T16 l]) (fun (i1 : Nat) => i1 ≤ 4) (fun (i1 : Nat) => 4 - i1) S 0 (subM rfl) rfl ?_ ?_
 ·omega
 clear S; intro i1 a u S hR
 have hi := hR
 refine wp_seq ?_
 refine rs S (tr (mv rfl)<|la (lssi rfl rfl)) ?_; clear S; intro a u S
 refine cd S rfl ?_ ?_
 ·intro hc0
  refine wp_skip (then_n (wp_seq (wp_block (rs0 ?_))))
  refine sp S (la (mv rfl)) ?_; clear S; intro a u S
  refine cl S (gTopology _ _ S.x T16 (S.M.pick [2] (by decide)) l (dn1 (js := [2]) (S.u 0 rfl)) (S.t 2 rfl) 6 ⟨by omega, by omega⟩) cB15 ?_
  rintro e u ⟨r_t22, rfl, R_t22, hr_t22, tK, T0⟩; refine ⟨_, rfl, fun a s => ?_⟩
  replace S := (S.k1 2 rfl s T0 tK).ar (wfF topoE r_t22) (Enc.up _ R_t22); clear s T0 tK R_t22
  have HG : genT r_t22 := hr_t22
  have HT := HG.1
  have hB := HG.1.1
  unfold topB at hB
  obtain ⟨-, hB1, hB2, hB3, hB4⟩ := HG
  have hn6 : r_t22.devs.xs.length ≤ 9223372036854775807 := ((S.u 3 rfl).1).1.len
  have hn7 : r_t22.links.xs.length ≤ 9223372036854775807 := ((S.u 3 rfl).2.1).1.len
  have hn8 : r_t22.edges.xs.length ≤ 9223372036854775807 := ((S.u 3 rfl).2.2.1).1.len
  have hn9 : r_t22.pools.xs.length ≤ 9223372036854775807 := ((S.u 3 rfl).2.2.2.1).1.len
  obtain ⟨hl10, hu10⟩ : inI64 r_t22.tol := id ((S.u 3 rfl).2.2.2.2)
  refine nbp S (x_allocz _ iZ28 rfl) ?_; clear S; intro a u b13 S
  refine ens S (la (stkw 3 rfl rfl rfl)) ?_; clear S; intro a u S
  refine rs0 ?_
  refine sp S (tr (mv rfl)<|la (ldkw 3 rfl rfl wD28)) ?_; clear S; intro a u S
  refine cl S (gFailure _ _ S.x T16 (S.M.pick [2] (by decide)) l (dn1 (js := [2]) (S.u 0 rfl)) (S.t 2 rfl) r_t22 (dn1 (js := [2]) (S.u 3 rfl)) (by omega)) cB25 ?_
  rintro e u ⟨r_t25, rfl, R_t25, hr_t25, tK, T0⟩; refine ⟨_, rfl, fun a s => ?_⟩
  replace S := (S.k1 2 rfl s T0 tK).ar (wfF failE r_t25) (Enc.up _ R_t25); clear s T0 tK R_t25
  have HV := failR_valid hr_t25 HT
  have hfl := failV_len HV
  have hn12 : r_t25.links.xs.length ≤ 9223372036854775807 := ((S.u 4 rfl).1).1.len
  have hn13 : r_t25.devs.xs.length ≤ 9223372036854775807 := ((S.u 4 rfl).2).1.len
  refine nbp S (x_allocz _ iZ41 rfl) ?_; clear S; intro a u b14 S
  refine ens S (la (stkw 4 rfl rfl rfl)) ?_; clear S; intro a u S
  refine wp_seq ?_
  refine dr (P := Try.prog) S 50 [one T16] ((26, .is _) :: (27, .is _) :: (28, .is _) :: (29, .is _) :: (30, .is _) :: (31, .is _) :: (32, .of (fun z w => ∃ (x32a : Int), z = iI x32a ∧ (0 ≤ x32a ∧ (x32a < ((r_t22.devs.xs.length : Nat) : Int) ∨ x32a = 0))) (fun v w w' c h => let ⟨x32a, hv, h0⟩ := h; ⟨x32a, hv, h0⟩)) :: (33, .is _) :: (34, .is _) :: (35, .is _) :: (36, .is _) :: (37, .of (fun z w => ∃ (x37a : Int), z = iI x37a ∧ (0 ≤ x37a ∧ (x37a < ((r_t22.devs.xs.length : Nat) : Int) ∨ x37a = 0))) (fun v w w' c h => let ⟨x37a, hv, h0⟩ := h; ⟨x37a, hv, h0⟩)) :: (38, .is (bD (True))) :: (39, .is _) :: (40, .is _) :: (41, .is _) :: (42, .is _) :: (43, .is _) :: (44, .of (fun z w => (¬ (¬ (True))) → ∃ (x44a : Int), z = iI x44a ∧ (0 ≤ x44a ∧ (x44a < 8 ∨ x44a = 0))) (fun v w w' c h hg => let ⟨x44a, hv, h0⟩ := h hg; ⟨x44a, hv, h0⟩)) :: (45, .of (fun z w => (¬ (¬ (True))) → ∃ (x44a : Int), z = iI (x44a - 1) ∧ (0 ≤ x44a ∧ (x44a < 8 ∨ x44a = 0))) (fun v w w' c h hg => let ⟨x44a, hv, h0⟩ := h hg; ⟨x44a, hv, h0⟩)) :: (46, .is _) :: (47, .of (fun z w => (¬ (¬ (True))) → ∃ (x47a : Int), z = iI x47a ∧ (0 ≤ x47a ∧ (x47a < 8 ∨ x47a = 0))) (fun v w w' c h hg => let ⟨x47a, hv, h0⟩ := h hg; ⟨x47a, hv, h0⟩)) :: (48, .of (fun z w => (¬ (¬ (True))) → ∃ (x47a : Int), z = iI (x47a - 1) ∧ (0 ≤ x47a ∧ (x47a < 8 ∨ x47a = 0))) (fun v w w' c h hg => let ⟨x47a, hv, h0⟩ := h hg; ⟨x47a, hv, h0⟩)) :: (49, .is ((if (¬ (¬ (True))) then bD (True) else undef))) :: (50, .is _) :: (51, .is _) :: (52, .is _) :: (53, .is _) :: (54, .is _) :: (55, .is _) :: (56, .of (fun z w => (¬ ((¬ (True)) ∨ (¬ (True)))) → ∃ (x56a : Fail), z = .agg (failE.cells x56a).toArray ∧ (failE).wf (Fr F [one b6, one b7, one T16, one b13, one b14]) w.heap x56a) (fun v w w' c h hg => let ⟨x56a, hv, h0⟩ := h hg; ⟨x56a, hv, Enc.kp (failE) h0 c (by intro o h; simp at h ⊢; first | exact .inl h | simp [h])⟩)) :: (57, .is ((if (¬ ((¬ (True)) ∨ (¬ (True)))) then bD (True) else undef))) :: (58, .is _) :: (59, .is _) :: (60, .is _) :: (61, .is _) :: (62, .is _) :: (63, .of (fun z w => (¬ (((¬ (True)) ∨ (¬ (True))) ∨ (¬ (True)))) → ∃ (x63a : Topo), z = .agg (topoE.cells x63a).toArray ∧ (topoE).wf (Fr F [one b6, one b7, one T16, one b13, one b14]) w.heap x63a) (fun v w w' c h hg => let ⟨x63a, hv, h0⟩ := h hg; ⟨x63a, hv, Enc.kp (topoE) h0 c (by intro o h; simp at h ⊢; first | exact .inl h | simp [h])⟩)) :: (64, .is _) :: (65, .is ((if (¬ (((¬ (True)) ∨ (¬ (True))) ∨ (¬ (True)))) then bD (True) else undef))) :: (66, .is _) :: (67, .is _) :: (68, .is _) :: (69, .is _) :: (70, .is _) :: (71, .is _) :: (72, .is _) :: (73, .is _) :: (74, .is _) :: (75, .is _) :: []) ([] :: [] :: [] :: [] :: [29] :: [30] :: [28, 31] :: [] :: [] :: [34] :: [35] :: [33, 36] :: [26, 27, 32, 37] :: [38] :: [39] :: [40] :: [40] :: [40] :: [40, 43] :: [40, 44] :: [40] :: [40, 46] :: [40, 47] :: [40, 41, 42, 45, 48] :: [40, 49] :: [40, 50] :: [51] :: [52] :: [52] :: [52] :: [52, 54, 55] :: [52, 53, 56] :: [52, 57] :: [52, 58] :: [59] :: [60] :: [60] :: [60, 61, 62] :: [60] :: [60, 63, 64] :: [60, 65] :: [60, 66] :: [67] :: [68] :: [68] :: [68] :: [68] :: [68, 69, 70, 71, 72] :: [68, 73] :: [68, 74] :: []) [75] _ ⟨qd (ldkw 3 rfl rfl wD28), qd (ldkw 4 rfl rfl wD41), qd (mv rfl), qd (fldi 0 0 rfl uT28), qd (ldk 3 sC23 rfl rfl rfl), qd (leni uT23 rfl), ?_, qd (mv rfl), qd (fldi 0 0 rfl uT28), qd (ldk 3 sC23 rfl rfl rfl), qd (leni uT23 rfl), ?_, ?_, qd (noti rfl), qd (mv rfl), qd (og 40 rfl gf fun S hg=>x_ldw (S.e rfl) (S.k 3 rfl).all wD28), qd (og 40 rfl gf fun S hg=>x_ldw (S.e rfl) (S.k 4 rfl).all wD41), qd (og 40 rfl gf fun S hg=>x_move (S.e rfl)), ?_, ?_, qd (og 40 rfl gf fun S hg=>x_move (S.e rfl)), ?_, ?_, ?_, qd (og 40 rfl gf fun S hg=>x_notp (S.p rfl hg)), qd (ori rfl rfl rfl), qd (mv rfl), qd (og 52 rfl gf fun S hg=>x_ldw (S.e rfl) (S.k 3 rfl).all wD28), qd (og 52 rfl gf fun S hg=>x_move (S.e rfl)), qd (og 52 rfl gf fun S hg=>x_ldw (S.e rfl) (S.k 4 rfl).all wD41), ?_, ?_, qd (og 52 rfl gf fun S hg=>x_notp (S.p rfl hg)), qd (ori rfl rfl rfl), qd (mv rfl), qd (og 60 rfl gf fun S hg=>x_move (S.e rfl)), qd (og 60 rfl gf fun S hg=>x_ldw (S.e rfl) (S.k 3 rfl).all wD28), ?_, qd (og 60 rfl gf fun S hg=>x_ldw (S.e rfl) (S.k 4 rfl).all wD41), ?_, qd (og 60 rfl gf fun S hg=>x_notp (S.p rfl hg)), qd (ori rfl rfl rfl), qd (mv rfl), qd (og 68 rfl gf fun S hg=>x_ldw (S.e rfl) (S.k 3 rfl).all wD28), qd (og 68 rfl gf fun S hg=>x_ldw (S.e rfl) (S.k 4 rfl).all wD41), qd (og 68 rfl gf fun S hg=>x_move (S.e rfl)), qd (og 68 rfl gf fun S hg=>x_move (S.e rfl)), qd (ocg 68 rfl gf (fun S hg=>lAgrees _ _ S.x (.nil _) r_t22 (dn0 (S.u 3 rfl)) r_t25 (dn0 (S.u 4 rfl)) da da_h dz dz_h) cB36 fun S=>⟨fun hg=>(S.p rfl hg), fun hg=>(S.p rfl hg), fun hg=>(S.p rfl hg), fun hg=>(S.p rfl hg), trivial⟩), qd (og 68 rfl gf fun S hg=>x_notp (S.p rfl hg)), qd (ori rfl rfl rfl), trivial⟩ ?_
  ·skip
   intro a u S G hE
   refine hcl S (gNext _ _ S.x T16 (S.M.pick [2] (by decide)) l (dn1 (js := [2]) (S.u 0 rfl)) (S.t 2 rfl) ((r_t22.devs.xs.length : Nat) : Int) ⟨by omega, by omega⟩) cB23 ?_
   rintro e w2 ⟨r_h32, rfl, hr_h32, tK, T0⟩; refine ⟨_, rfl, (show ∃ _, _ from ?_), T0.ch, (S.k1 2 rfl S.s T0 tK).m⟩
   exact ⟨r_h32, rfl, hr_h32⟩
  ·skip
   intro a u S G hE
   refine hcl S (gNext _ _ S.x T16 (S.M.pick [2] (by decide)) l (dn1 (js := [2]) (S.u 0 rfl)) (S.t 2 rfl) ((r_t22.devs.xs.length : Nat) : Int) ⟨by omega, by omega⟩) cB23 ?_
   rintro e w2 ⟨r_h37, rfl, hr_h37, tK, T0⟩; refine ⟨_, rfl, (show ∃ _, _ from ?_), T0.ch, (S.k1 2 rfl S.s T0 tK).m⟩
   exact ⟨r_h37, rfl, hr_h37⟩
  ·skip
   intro a u S G hE
   obtain ⟨e32, e37, -⟩ := hE
   have M0 := S.m
   obtain ⟨x32_14, e32, hr14⟩ := e32
   replace S := S.ext e32
   obtain ⟨x37_15, e37, hr15⟩ := e37
   replace S := S.ext e37
   refine hcl S (lAgrees _ _ S.x (.nil _) r_t22 (dn0 (S.u 3 rfl)) r_t25 (dn0 (S.u 4 rfl)) x32_14 ⟨by omega, by omega⟩ x37_15 ⟨by omega, by omega⟩) cB36 ?_
   rintro e w2 ⟨rfl, T0⟩; exact ⟨_, rfl, (show _ = _ from rfl), (T0.ch.mono (fun k hk => by simp [In] at hk)), (M0.k0 T0.ch)⟩
  ·skip
   intro a u S G hE
   refine (Classical.em (¬ (¬ (True)))).symm.elim (fun hg => ?_) fun hg => ?_
   ·exact hng 44 40 S S.m rfl (fun h => hg (gf.2 h)) (show (¬ (¬ (True))) → _ from fun h => absurd h hg)
   refine hcg 40 S rfl (gf.1 hg) (gNext _ _ S.x T16 (S.M.pick [2] (by decide)) l (dn1 (js := [2]) (S.u 0 rfl)) (S.t 2 rfl) 8 ⟨by omega, by omega⟩) cB23 ⟨fun _=>(S.p rfl hg), (fun _=>S.e rfl), trivial⟩ ?_
   rintro e w2 ⟨r_h44, rfl, hr_h44, tK, T0⟩; refine ⟨_, rfl, (fun _ => ?_), T0.ch, (S.k1 2 rfl S.s T0 tK).m⟩
   exact ⟨r_h44, rfl, hr_h44⟩
  ·skip
   intro a u S G hE
   obtain ⟨e44, -⟩ := hE
   have M0 := S.m
   refine (Classical.em (¬ (¬ (True)))).symm.elim (fun hg => ?_) fun hg => ?_
   ·exact hng 45 40 S M0 rfl (fun h => hg (gf.2 h)) (show (¬ (¬ (True))) → _ from fun h => absurd h hg)
   replace e44 := e44 hg
   obtain ⟨x44_16, e44, hr16⟩ := e44
   replace S := S.ext e44
   exact hvg 45 40 S M0 rfl (gf.1 hg) (v := iI (x44_16 - 1)) (x_sub (S.e rfl) (S.e rfl) (r := (x44_16 - 1)) (w_i64 (by omega))) (fun _ => show ∃ _, _ from ⟨x44_16, rfl, hr16⟩)
  ·skip
   intro a u S G hE
   refine (Classical.em (¬ (¬ (True)))).symm.elim (fun hg => ?_) fun hg => ?_
   ·exact hng 47 40 S S.m rfl (fun h => hg (gf.2 h)) (show (¬ (¬ (True))) → _ from fun h => absurd h hg)
   refine hcg 40 S rfl (gf.1 hg) (gNext _ _ S.x T16 (S.M.pick [2] (by decide)) l (dn1 (js := [2]) (S.u 0 rfl)) (S.t 2 rfl) 8 ⟨by omega, by omega⟩) cB23 ⟨fun _=>(S.p rfl hg), (fun _=>S.e rfl), trivial⟩ ?_
   rintro e w2 ⟨r_h47, rfl, hr_h47, tK, T0⟩; refine ⟨_, rfl, (fun _ => ?_), T0.ch, (S.k1 2 rfl S.s T0 tK).m⟩
   exact ⟨r_h47, rfl, hr_h47⟩
  ·skip
   intro a u S G hE
   obtain ⟨e47, -⟩ := hE
   have M0 := S.m
   refine (Classical.em (¬ (¬ (True)))).symm.elim (fun hg => ?_) fun hg => ?_
   ·exact hng 48 40 S M0 rfl (fun h => hg (gf.2 h)) (show (¬ (¬ (True))) → _ from fun h => absurd h hg)
   replace e47 := e47 hg
   obtain ⟨x47_17, e47, hr17⟩ := e47
   replace S := S.ext e47
   exact hvg 48 40 S M0 rfl (gf.1 hg) (v := iI (x47_17 - 1)) (x_sub (S.e rfl) (S.e rfl) (r := (x47_17 - 1)) (w_i64 (by omega))) (fun _ => show ∃ _, _ from ⟨x47_17, rfl, hr17⟩)
  ·skip
   intro a u S G hE
   obtain ⟨e45, e48, -⟩ := hE
   have M0 := S.m
   refine (Classical.em (¬ (¬ (True)))).symm.elim (fun hg => ?_) fun hg => ?_
   ·exact hng 49 40 S M0 rfl (fun h => hg (gf.2 h)) (show _ = _ from (if_neg hg).symm)
   replace e45 := e45 hg
   obtain ⟨x44_18, e45, hr18⟩ := e45
   replace S := S.ext e45
   replace e48 := e48 hg
   obtain ⟨x47_19, e48, hr19⟩ := e48
   replace S := S.ext e48
   refine hcg 40 S rfl (gf.1 hg) (lAgrees _ _ S.x (.nil _) r_t22 (dn0 (S.u 3 rfl)) r_t25 (dn0 (S.u 4 rfl)) (x44_18 - 1) ⟨by omega, by omega⟩ (x47_19 - 1) ⟨by omega, by omega⟩) cB36 ⟨fun _=>(S.p rfl hg), fun _=>(S.p rfl hg), (fun _=>S.e rfl), (fun _=>S.e rfl), trivial⟩ ?_
   rintro e w2 ⟨rfl, T0⟩; exact ⟨_, rfl, (show _ = _ from (if_pos hg).symm), (T0.ch.mono (fun k hk => by simp [In] at hk)), (M0.k0 T0.ch)⟩
  ·skip
   intro a u S G hE
   refine (Classical.em (¬ ((¬ (True)) ∨ (¬ (True))))).symm.elim (fun hg => ?_) fun hg => ?_
   ·exact hng 56 52 S S.m rfl (fun h => hg (gf.2 h)) (show (¬ ((¬ (True)) ∨ (¬ (True)))) → _ from fun h => absurd h hg)
   refine hcg 52 S rfl (gf.1 hg) (gSpoilF _ _ S.x T16 (S.M.pick [2] (by decide)) l (dn1 (js := [2]) (S.u 0 rfl)) (S.t 2 rfl) r_t25 (dn1 (js := [2]) (S.u 4 rfl)) (⟨by omega, by omega⟩)) cB30 ⟨fun _=>(S.p rfl hg), fun _=>(S.p rfl hg), trivial⟩ ?_
   rintro e w2 ⟨r_h56, rfl, R_h56, tK, T0⟩; refine ⟨_, rfl, (fun _ => ?_), T0.ch, (S.k1 2 rfl S.s T0 tK).m⟩
   exact ⟨r_h56, rfl, (Enc.up _ R_h56)⟩
  ·skip
   intro a u S G hE
   obtain ⟨e56, -⟩ := hE
   have M0 := S.m
   refine (Classical.em (¬ ((¬ (True)) ∨ (¬ (True))))).symm.elim (fun hg => ?_) fun hg => ?_
   ·exact hng 57 52 S M0 rfl (fun h => hg (gf.2 h)) (show _ = _ from (if_neg hg).symm)
   replace e56 := e56 hg
   obtain ⟨x56_20, e56, X20⟩ := e56
   replace S := S.ext e56
   refine hcg 52 S rfl (gf.1 hg) (lAgrees _ _ S.x (.nil _) r_t22 (dn0 (S.u 3 rfl)) x56_20 (dn0 X20) 0 ⟨by omega, by omega⟩ 1 ⟨by omega, by omega⟩) cB36 ⟨fun _=>(S.p rfl hg), (fun _=>S.e rfl), (fun _=>S.e rfl), (fun _=>S.e rfl), trivial⟩ ?_
   rintro e w2 ⟨rfl, T0⟩; exact ⟨_, rfl, (show _ = _ from (if_pos hg).symm), (T0.ch.mono (fun k hk => by simp [In] at hk)), (M0.k0 T0.ch)⟩
  ·skip
   intro a u S G hE
   refine (Classical.em (¬ (((¬ (True)) ∨ (¬ (True))) ∨ (¬ (True))))).symm.elim (fun hg => ?_) fun hg => ?_
   ·exact hng 63 60 S S.m rfl (fun h => hg (gf.2 h)) (show (¬ (((¬ (True)) ∨ (¬ (True))) ∨ (¬ (True)))) → _ from fun h => absurd h hg)
   refine hcg 60 S rfl (gf.1 hg) (gSpoilT _ _ S.x T16 (S.M.pick [2] (by decide)) l (dn1 (js := [2]) (S.u 0 rfl)) (S.t 2 rfl) r_t22 (dn1 (js := [2]) (S.u 3 rfl)) (⟨by omega, by omega, by omega, by omega⟩)) cB16 ⟨fun _=>(S.p rfl hg), fun _=>(S.p rfl hg), trivial⟩ ?_
   rintro e w2 ⟨r_h63, rfl, R_h63, tK, T0⟩; refine ⟨_, rfl, (fun _ => ?_), T0.ch, (S.k1 2 rfl S.s T0 tK).m⟩
   exact ⟨r_h63, rfl, (Enc.up _ R_h63)⟩
  ·skip
   intro a u S G hE
   obtain ⟨e63, -⟩ := hE
   have M0 := S.m
   refine (Classical.em (¬ (((¬ (True)) ∨ (¬ (True))) ∨ (¬ (True))))).symm.elim (fun hg => ?_) fun hg => ?_
   ·exact hng 65 60 S M0 rfl (fun h => hg (gf.2 h)) (show _ = _ from (if_neg hg).symm)
   replace e63 := e63 hg
   obtain ⟨x63_21, e63, X21⟩ := e63
   replace S := S.ext e63
   refine hcg 60 S rfl (gf.1 hg) (lAgrees _ _ S.x (.nil _) x63_21 (dn0 X21) r_t25 (dn0 (S.u 4 rfl)) 0 ⟨by omega, by omega⟩ 1 ⟨by omega, by omega⟩) cB36 ⟨(fun _=>S.e rfl), fun _=>(S.p rfl hg), (fun _=>S.e rfl), (fun _=>S.e rfl), trivial⟩ ?_
   rintro e w2 ⟨rfl, T0⟩; exact ⟨_, rfl, (show _ = _ from (if_pos hg).symm), (T0.ch.mono (fun k hk => by simp [In] at hk)), (M0.k0 T0.ch)⟩
  clear S; intro a u S G hE
  refine ent ?_
  refine cd S rfl ?_ ?_
  ·intro hc1
   refine rs S (la (av rfl)) ?_; clear S; intro a u S
   refine wp_ret (blk_r (then_r (then_r (blk_r (then_r ?_)))))
   refine ret1 rfl S.s rfl ?_
   replace S := S.pk []
   refine ⟨(r1 (vf ?_)), S.m.c⟩
   first | assumption | trivial | omega | simp_all
  intro hc2
  refine wp_skip (blk_n (then_n ?_))
  refine rg S (tr (mv rfl)<|tr (addi ((i1 + 1 : Nat) : Int) rfl rfl (w_i64 (by omega)))<|la (av rfl)) ?_; clear S; intro a u S
  refine then_n ?_
  refine ⟨(i1 + 1), S.re (subM rfl) rfl rfl, ?_, ?_⟩
  ·omega
  omega
 intro hc3
 refine wp_exit (then_e (then_e (blk_e (then_n (wp_seq ?_)))))
 refine rs S (tr (ldkw 0 rfl rfl wD28)<|tr (oc (fun S=>gHuge _ _ S.x (.nil _) x (dn0 (S.u 1 rfl))) cB20)<|tr (mv rfl)<|tr (og 78 rfl gf fun S hg=>xf (0) 0 uT41 (S.e rfl))<|tr (og 78 rfl gf fun S hg=>x_load sC22 (S.p rfl hg) ((S.k 1 rfl).cell (j := 0) rfl))<|tr (og 78 rfl gf fun S hg=>x_len uT22 (S.p rfl hg))<|tr (og 78 rfl gf fun S hg=>x_gtr (S.p rfl hg) (S.e rfl))<|tr (ori rfl rfl rfl)<|tr (mv rfl)<|tr (og 84 rfl gf fun S hg=>xf (0) 1 uT41 (S.e rfl))<|tr (og 84 rfl gf fun S hg=>x_load sC22 (S.p rfl hg) ((S.k 1 rfl).cell (j := 1) rfl))<|tr (og 84 rfl gf fun S hg=>x_len uT22 (S.p rfl hg))<|tr (og 84 rfl gf fun S hg=>x_gtr (S.p rfl hg) (S.e rfl))<|la (ori rfl rfl rfl)) ?_; clear S; intro a u S
 refine cd S rfl ?_ ?_
 ·intro hc4
  refine rs S (tr (oc (fun S=>lSaneP _ _ S.x (.nil _)) cB37)<|la (av rfl)) ?_; clear S; intro a u S
  refine wp_ret (then_r ?_)
  refine ret1 rfl S.s rfl ?_
  replace S := S.pk []
  refine ⟨(r1 (vb ?_)), S.m.c⟩
  first | exact Iff.rfl | assumption | omega | simp_all
 intro hc5
 refine wp_skip (then_n (wp_seq ?_))
 refine dr (P := Try.prog) S 18 [] [(91, .is _), (92, .is _), (93, .is _), (94, .is _), (95, .is _), (96, .is _), (97, .is _), (98, .is _), (99, .is _), (100, .is _), (101, .is _), (102, .is _), (103, .is _), (104, .is _), (105, .is _), (106, .is _), (107, .is _), (10, .is _)] [[], [], [], [], [91, 92, 93, 94], [95], [96], [96], [96], [96, 99], [96], [96, 101], [96, 97, 98, 100, 102], [96, 103], [104], [105], [105, 106], [107]] [10] _ ⟨qd (ldkw 0 rfl rfl wD28), qd (ldkw 1 rfl rfl wD41), qd (mv rfl), qd (mv rfl), qd (oc (fun S=>lAgrees _ _ S.x (.nil _) x (dn0 (S.u 1 rfl)) f (dn0 (S.u 2 rfl)) da da_h dz dz_h) cB36), qd (mv rfl), qd (og 96 rfl gt fun S hg=>x_ldw (S.e rfl) (S.k 0 rfl).all wD28), qd (og 96 rfl gt fun S hg=>x_ldw (S.e rfl) (S.k 1 rfl).all wD41), qd (og 96 rfl gt fun S hg=>x_move (S.e rfl)), qd (ocg 96 rfl gt (fun S hg=>gMod _ _ S.x (.nil _) da da_h 6 ⟨by omega, by omega⟩ (by omega)) cB32 fun S=>⟨fun hg=>(S.p rfl hg), fun _=>S.e rfl, trivial⟩), qd (og 96 rfl gt fun S hg=>x_move (S.e rfl)), qd (ocg 96 rfl gt (fun S hg=>gMod _ _ S.x (.nil _) dz dz_h 6 ⟨by omega, by omega⟩ (by omega)) cB32 fun S=>⟨fun hg=>(S.p rfl hg), fun _=>S.e rfl, trivial⟩), qd (ocg 96 rfl gt (fun S hg=>lAgrees _ _ S.x (.nil _) x (dn0 (S.u 1 rfl)) f (dn0 (S.u 2 rfl)) (da % 18446744073709551616 % 6) ⟨by omega, by omega⟩ (dz % 18446744073709551616 % 6) ⟨by omega, by omega⟩) cB36 fun S=>⟨fun hg=>(S.p rfl hg), fun hg=>(S.p rfl hg), fun hg=>(S.p rfl hg), fun hg=>(S.p rfl hg), trivial⟩), qd (andi rfl rfl rfl), qd (mv rfl), qd (ocg 105 rfl gt (fun S hg=>lSaneP _ _ S.x (.nil _)) cB37 fun S=>trivial), qd (andi rfl rfl rfl), qd (av rfl), trivial⟩ ?_
 clear S; intro a u S G hE
 obtain ⟨hl26, hu26⟩ : inI64 da := id da_h
 obtain ⟨hl27, hu27⟩ : inI64 dz := id dz_h
 refine ent (wp_ret ?_)
 refine ret1 rfl S.s rfl ?_
 replace S := S.pk []
 refine ⟨(r1 (vb ?_)), S.m.c⟩
 first | exact Iff.rfl | assumption | omega | simp_all
end Go.Proofs.Ytfanmniaolncbaa.V
