/- the laws: failure states are read alike -/
import Derived.Test.YtfanmniaolncbaaW14
import Derived.Test.YtfanmniaolncbaaW15
import Derived.Test.YtfanmniaolncbaaW23
import Derived.Test.YtfanmniaolncbaaW21
import Derived.Test.YtfanmniaolncbaaW24
import Derived.Test.YtfanmniaolncbaaW25
import Derived.Test.YtfanmniaolncbaaGrpE
namespace Go.Proofs.Ytfanmniaolncbaa.V
open Go.RowKit Go.Proofs.Ytfanmniaolncbaa
set_option linter.unusedVariables false
set_option linter.unusedSimpArgs false
set_option maxHeartbeats 2000000 in
set_option maxRecDepth 20000 in
theorem lReads (w : World) (F : Nat → Prop) (hF : Old F w) (M : MS [] w) (l : Sl Int) (l_w : (slE intE).wf (Fr F []) w.heap l) (x : Topo) (x_w : topoE.wf (Fr F []) w.heap x) (f : Fail) (f_w : failE.wf (Fr F []) w.heap f) (da : Int) (da_h : inI64 da) (db : Int) (db_h : inI64 db) :
 Calls Try.prog 6 #[sV l, .agg (topoE.cells x).toArray, .agg (failE.cells f).toArray, iI da, iI db] w fun e w' => e = .returned (bD (True)) ∧ Tr [] w [] w' := by
 have : l.xs.length ≤ 9223372036854775807 := (l_w).1.len
 have : x.devs.xs.length ≤ 9223372036854775807 := (x_w.1).1.len
 have : x.links.xs.length ≤ 9223372036854775807 := (x_w.2.1).1.len
 have : x.edges.xs.length ≤ 9223372036854775807 := (x_w.2.2.1).1.len
 have : x.pools.xs.length ≤ 9223372036854775807 := (x_w.2.2.2.1).1.len
 obtain ⟨_, _⟩ : inI64 x.tol := x_w.2.2.2.2
 have : f.links.xs.length ≤ 9223372036854775807 := (f_w.1).1.len
 have : f.devs.xs.length ≤ 9223372036854775807 := (f_w.2).1.len
 obtain ⟨da_hl, da_hu⟩ : inI64 da := id da_h
 obtain ⟨db_hl, db_hu⟩ : inI64 db := id db_h
 refine go Try.func6 rfl 90 rfl [wfF (slE intE) l, wfF topoE x, wfF failE f] [] hF M ⟨l_w, x_w, f_w, trivial⟩ trivial ?_
 intro a S
 refine rs0 ?_
 refine nbp S (x_box _ (S.e rfl) rfl) ?_; clear S; intro a u b6 S
 refine nbp S (x_box _ (S.e rfl) rfl) ?_; clear S; intro a u b7 S
 refine ens S (la (av rfl)) ?_; clear S; intro a u S
 refine rs0 ?_
 refine sp S (la (mv rfl)) ?_; clear S; intro a u S
 refine cl S (gNew _ _ S.x (.nil _) l (dn0 (S.u 0 rfl))) cB14 ?_
 rintro e u ⟨T18, rfl, TK, T0⟩; refine ⟨_, rfl, fun a s => ?_⟩; replace S := S.kt s T0 TK; clear s T0 TK
 refine ens S (la (av rfl)) ?_; clear S; intro a u S
 refine wp_seq ?_
 refine rs S (la (av rfl)) ?_; clear S; intro a u S
 refine wp_block ?_
 refine lp1 (fun (i1 : Nat) => [(3, iI da), (4, iI db), (6, pT b6 0), (7, pT b7 0), (11, pT T18 0), (12, iN i1)]) (fun (i1 : Nat) => [blO b6 (topoE.cells x) 28, blO b7 (failE.cells f) 41, tpO 62 T18 l]) (fun (i1 : Nat) => i1 ≤ 4) (fun (i1 : Nat) => 4 - i1) S 0 (subM rfl) rfl ?_ ?_
 ·omega
 clear S; intro i1 a u S hR
 have hi := hR
 refine wp_seq ?_
 refine rs S (tr (mv rfl)<|la (lssi rfl rfl)) ?_; clear S; intro a u S
 refine cd S rfl ?_ ?_
 ·intro hc0
  refine wp_skip (then_n (wp_seq (wp_block (rs0 ?_))))
  refine sp S (la (mv rfl)) ?_; clear S; intro a u S
  refine cl S (gTopology _ _ S.x T18 (S.M.pick [2] (by decide)) l (dn1 (js := [2]) (S.u 0 rfl)) (S.t 2 rfl) 6 ⟨by omega, by omega⟩) cB15 ?_
  rintro e u ⟨r_t24, rfl, R_t24, hr_t24, tK, T0⟩; refine ⟨_, rfl, fun a s => ?_⟩
  replace S := (S.k1 2 rfl s T0 tK).ar (wfF topoE r_t24) (Enc.up _ R_t24); clear s T0 tK R_t24
  have HG : genT r_t24 := hr_t24
  have HT := HG.1
  have hB := HG.1.1
  unfold topB at hB
  obtain ⟨-, hB1, hB2, hB3, hB4⟩ := HG
  have hn6 : r_t24.devs.xs.length ≤ 9223372036854775807 := ((S.u 3 rfl).1).1.len
  have hn7 : r_t24.links.xs.length ≤ 9223372036854775807 := ((S.u 3 rfl).2.1).1.len
  have hn8 : r_t24.edges.xs.length ≤ 9223372036854775807 := ((S.u 3 rfl).2.2.1).1.len
  have hn9 : r_t24.pools.xs.length ≤ 9223372036854775807 := ((S.u 3 rfl).2.2.2.1).1.len
  obtain ⟨hl10, hu10⟩ : inI64 r_t24.tol := id ((S.u 3 rfl).2.2.2.2)
  refine nbp S (x_allocz _ iZ28 rfl) ?_; clear S; intro a u b13 S
  refine ens S (la (stkw 3 rfl rfl rfl)) ?_; clear S; intro a u S
  refine rs0 ?_
  refine sp S (tr (mv rfl)<|la (ldkw 3 rfl rfl wD28)) ?_; clear S; intro a u S
  refine cl S (gFailure _ _ S.x T18 (S.M.pick [2] (by decide)) l (dn1 (js := [2]) (S.u 0 rfl)) (S.t 2 rfl) r_t24 (dn1 (js := [2]) (S.u 3 rfl)) (by omega)) cB25 ?_
  rintro e u ⟨r_t27, rfl, R_t27, hr_t27, tK, T0⟩; refine ⟨_, rfl, fun a s => ?_⟩
  replace S := (S.k1 2 rfl s T0 tK).ar (wfF failE r_t27) (Enc.up _ R_t27); clear s T0 tK R_t27
  have HV := failR_valid hr_t27 HT
  have hfl := failV_len HV
  have hn12 : r_t27.links.xs.length ≤ 9223372036854775807 := ((S.u 4 rfl).1).1.len
  have hn13 : r_t27.devs.xs.length ≤ 9223372036854775807 := ((S.u 4 rfl).2).1.len
  refine nbp S (x_allocz _ iZ41 rfl) ?_; clear S; intro a u b14 S
  refine ens S (la (stkw 4 rfl rfl rfl)) ?_; clear S; intro a u S
  refine rs0 ?_
  refine sp S (la (mv rfl)) ?_; clear S; intro a u S
  refine cl S (gNext _ _ S.x T18 (S.M.pick [2] (by decide)) l (dn1 (js := [2]) (S.u 0 rfl)) (S.t 2 rfl) 8 ⟨by omega, by omega⟩) cB23 ?_
  rintro e u ⟨r_t29, rfl, hr_t29, tK, T0⟩; refine ⟨_, rfl, fun a s => ?_⟩
  replace S := S.k1 2 rfl s T0 tK; clear s T0 tK
  refine sp S (tr (subi (r_t29 - 1) rfl rfl (w_i64 (by omega)))<|la (mv rfl)) ?_; clear S; intro a u S
  refine cl S (gNext _ _ S.x T18 (S.M.pick [2] (by decide)) l (dn1 (js := [2]) (S.u 0 rfl)) (S.t 2 rfl) 8 ⟨by omega, by omega⟩) cB23 ?_
  rintro e u ⟨r_t32, rfl, hr_t32, tK, T0⟩; refine ⟨_, rfl, fun a s => ?_⟩
  replace S := S.k1 2 rfl s T0 tK; clear s T0 tK
  refine ens S (tr (subi (r_t32 - 1) rfl rfl (w_i64 (by omega)))<|tr (av rfl)<|la (av rfl)) ?_; clear S; intro a u S
  refine wp_seq ?_
  refine dr (P := Try.prog) S 34 [one T18] ((34, .is _) :: (35, .is _) :: (36, .is _) :: (37, .is _) :: (38, .is _) :: (39, .is _) :: (40, .is _) :: (41, .is _) :: (42, .is _) :: (43, .is _) :: (44, .of (fun z w => (¬ (¬ (True))) → ∃ (x44a : Fail), z = .agg (failE.cells x44a).toArray ∧ (failE).wf (Fr F [one b6, one b7, one T18, one b13, one b14]) w.heap x44a) (fun v w w' c h hg => let ⟨x44a, hv, h0⟩ := h hg; ⟨x44a, hv, Enc.kp (failE) h0 c (by intro o h; simp at h ⊢; first | exact .inl h | simp [h])⟩)) :: (45, .is _) :: (46, .is _) :: (47, .is ((if (¬ (¬ (True))) then bD (True) else undef))) :: (48, .is _) :: (49, .is _) :: (50, .is _) :: (51, .is _) :: (52, .is _) :: (53, .of (fun z w => (¬ ((¬ (True)) ∨ (¬ (True)))) → ∃ (x53a : Topo), z = .agg (topoE.cells x53a).toArray ∧ (topoE).wf (Fr F [one b6, one b7, one T18, one b13, one b14]) w.heap x53a) (fun v w w' c h hg => let ⟨x53a, hv, h0⟩ := h hg; ⟨x53a, hv, Enc.kp (topoE) h0 c (by intro o h; simp at h ⊢; first | exact .inl h | simp [h])⟩)) :: (54, .is _) :: (55, .is _) :: (56, .is _) :: (57, .is ((if (¬ ((¬ (True)) ∨ (¬ (True)))) then bD (True) else undef))) :: (58, .is _) :: (59, .is _) :: (60, .is _) :: (61, .is _) :: (62, .is _) :: (63, .is _) :: (64, .is _) :: (65, .is _) :: (66, .is _) :: (67, .is _) :: []) ([] :: [] :: [] :: [] :: [34, 35, 36, 37] :: [38] :: [39] :: [40] :: [40] :: [40] :: [40, 42, 43] :: [40] :: [40] :: [40, 41, 44, 45, 46] :: [40, 47] :: [40, 48] :: [49] :: [50] :: [50] :: [50, 51, 52] :: [50] :: [50] :: [50] :: [50, 53, 54, 55, 56] :: [50, 57] :: [50, 58] :: [59] :: [60] :: [60] :: [60] :: [60] :: [60, 61, 62, 63, 64] :: [60, 65] :: [60, 66] :: []) [67] _ ⟨qd (ldkw 3 rfl rfl wD28), qd (ldkw 4 rfl rfl wD41), qd (mv rfl), qd (mv rfl), qd (oc (fun S=>lReads0 _ _ S.x (.nil _) r_t24 (dn0 (S.u 3 rfl)) r_t27 (dn0 (S.u 4 rfl)) (r_t29 - 1) ⟨by omega, by omega⟩ (r_t32 - 1) ⟨by omega, by omega⟩) cB29), qd (noti rfl), qd (mv rfl), qd (og 40 rfl gf fun S hg=>x_ldw (S.e rfl) (S.k 3 rfl).all wD28), qd (og 40 rfl gf fun S hg=>x_move (S.e rfl)), qd (og 40 rfl gf fun S hg=>x_ldw (S.e rfl) (S.k 4 rfl).all wD41), ?_, qd (og 40 rfl gf fun S hg=>x_move (S.e rfl)), qd (og 40 rfl gf fun S hg=>x_move (S.e rfl)), ?_, qd (og 40 rfl gf fun S hg=>x_notp (S.p rfl hg)), qd (ori rfl rfl rfl), qd (mv rfl), qd (og 50 rfl gf fun S hg=>x_move (S.e rfl)), qd (og 50 rfl gf fun S hg=>x_ldw (S.e rfl) (S.k 3 rfl).all wD28), ?_, qd (og 50 rfl gf fun S hg=>x_ldw (S.e rfl) (S.k 4 rfl).all wD41), qd (og 50 rfl gf fun S hg=>x_move (S.e rfl)), qd (og 50 rfl gf fun S hg=>x_move (S.e rfl)), ?_, qd (og 50 rfl gf fun S hg=>x_notp (S.p rfl hg)), qd (ori rfl rfl rfl), qd (mv rfl), qd (og 60 rfl gf fun S hg=>x_ldw (S.e rfl) (S.k 3 rfl).all wD28), qd (og 60 rfl gf fun S hg=>x_ldw (S.e rfl) (S.k 4 rfl).all wD41), qd (og 60 rfl gf fun S hg=>x_move (S.e rfl)), qd (og 60 rfl gf fun S hg=>x_move (S.e rfl)), qd (ocg 60 rfl gf (fun S hg=>lReads0 _ _ S.x (.nil _) r_t24 (dn0 (S.u 3 rfl)) r_t27 (dn0 (S.u 4 rfl)) da da_h db db_h) cB29 fun S=>⟨fun hg=>(S.p rfl hg), fun hg=>(S.p rfl hg), fun hg=>(S.p rfl hg), fun hg=>(S.p rfl hg), trivial⟩), qd (og 60 rfl gf fun S hg=>x_notp (S.p rfl hg)), qd (ori rfl rfl rfl), trivial⟩ ?_
  ·skip
   intro a u S G hE
   refine (Classical.em (¬ (¬ (True)))).symm.elim (fun hg => ?_) fun hg => ?_
   ·exact hng 44 40 S S.m rfl (fun h => hg (gf.2 h)) (show (¬ (¬ (True))) → _ from fun h => absurd h hg)
   refine hcg 40 S rfl (gf.1 hg) (gSpoilF _ _ S.x T18 (S.M.pick [2] (by decide)) l (dn1 (js := [2]) (S.u 0 rfl)) (S.t 2 rfl) r_t27 (dn1 (js := [2]) (S.u 4 rfl)) (⟨by omega, by omega⟩)) cB30 ⟨fun _=>(S.p rfl hg), fun _=>(S.p rfl hg), trivial⟩ ?_
   rintro e w2 ⟨r_h44, rfl, R_h44, tK, T0⟩; refine ⟨_, rfl, (fun _ => ?_), T0.ch, (S.k1 2 rfl S.s T0 tK).m⟩
   exact ⟨r_h44, rfl, (Enc.up _ R_h44)⟩
  ·skip
   intro a u S G hE
   obtain ⟨e44, -⟩ := hE
   have M0 := S.m
   refine (Classical.em (¬ (¬ (True)))).symm.elim (fun hg => ?_) fun hg => ?_
   ·exact hng 47 40 S M0 rfl (fun h => hg (gf.2 h)) (show _ = _ from (if_neg hg).symm)
   replace e44 := e44 hg
   obtain ⟨x44_15, e44, X15⟩ := e44
   replace S := S.ext e44
   refine hcg 40 S rfl (gf.1 hg) (lReads0 _ _ S.x (.nil _) r_t24 (dn0 (S.u 3 rfl)) x44_15 (dn0 X15) (r_t29 - 1) ⟨by omega, by omega⟩ (r_t32 - 1) ⟨by omega, by omega⟩) cB29 ⟨fun _=>(S.p rfl hg), (fun _=>S.e rfl), fun _=>(S.p rfl hg), fun _=>(S.p rfl hg), trivial⟩ ?_
   rintro e w2 ⟨rfl, T0⟩; exact ⟨_, rfl, (show _ = _ from (if_pos hg).symm), (T0.ch.mono (fun k hk => by simp [In] at hk)), (M0.k0 T0.ch)⟩
  ·skip
   intro a u S G hE
   refine (Classical.em (¬ ((¬ (True)) ∨ (¬ (True))))).symm.elim (fun hg => ?_) fun hg => ?_
   ·exact hng 53 50 S S.m rfl (fun h => hg (gf.2 h)) (show (¬ ((¬ (True)) ∨ (¬ (True)))) → _ from fun h => absurd h hg)
   refine hcg 50 S rfl (gf.1 hg) (gSpoilT _ _ S.x T18 (S.M.pick [2] (by decide)) l (dn1 (js := [2]) (S.u 0 rfl)) (S.t 2 rfl) r_t24 (dn1 (js := [2]) (S.u 3 rfl)) (⟨by omega, by omega, by omega, by omega⟩)) cB16 ⟨fun _=>(S.p rfl hg), fun _=>(S.p rfl hg), trivial⟩ ?_
   rintro e w2 ⟨r_h53, rfl, R_h53, tK, T0⟩; refine ⟨_, rfl, (fun _ => ?_), T0.ch, (S.k1 2 rfl S.s T0 tK).m⟩
   exact ⟨r_h53, rfl, (Enc.up _ R_h53)⟩
  ·skip
   intro a u S G hE
   obtain ⟨e53, -⟩ := hE
   have M0 := S.m
   refine (Classical.em (¬ ((¬ (True)) ∨ (¬ (True))))).symm.elim (fun hg => ?_) fun hg => ?_
   ·exact hng 57 50 S M0 rfl (fun h => hg (gf.2 h)) (show _ = _ from (if_neg hg).symm)
   replace e53 := e53 hg
   obtain ⟨x53_16, e53, X16⟩ := e53
   replace S := S.ext e53
   refine hcg 50 S rfl (gf.1 hg) (lReads0 _ _ S.x (.nil _) x53_16 (dn0 X16) r_t27 (dn0 (S.u 4 rfl)) (r_t29 - 1) ⟨by omega, by omega⟩ (r_t32 - 1) ⟨by omega, by omega⟩) cB29 ⟨(fun _=>S.e rfl), fun _=>(S.p rfl hg), fun _=>(S.p rfl hg), fun _=>(S.p rfl hg), trivial⟩ ?_
   rintro e w2 ⟨rfl, T0⟩; exact ⟨_, rfl, (show _ = _ from (if_pos hg).symm), (T0.ch.mono (fun k hk => by simp [In] at hk)), (M0.k0 T0.ch)⟩
  clear S; intro a u S G hE
  refine ent ?_
  refine cd S rfl ?_ ?_
  ·intro hc1
   refine rs S (la (av rfl)) ?_; clear S; intro a u S
   refine wp_ret (blk_r (then_r (then_r (blk_r (then_r ?_)))))
   refine ret1 rfl S.s rfl ?_
   replace S := S.pk []
   refine ⟨(r1 (vf ?_)), S.m.c⟩
   first | assumption | trivial | omega | simp_all
  intro hc2
  refine wp_skip (blk_n (then_n ?_))
  refine rg S (tr (mv rfl)<|tr (addi ((i1 + 1 : Nat) : Int) rfl rfl (w_i64 (by omega)))<|la (av rfl)) ?_; clear S; intro a u S
  refine then_n ?_
  refine ⟨(i1 + 1), S.re (subM rfl) rfl rfl, ?_, ?_⟩
  ·omega
  omega
 intro hc3
 refine wp_exit (then_e (then_e (blk_e (then_n (wp_seq ?_)))))
 refine dr (P := Try.prog) S 23 [] [(68, .is _), (69, .is _), (70, .is _), (71, .is _), (72, .is _), (73, .is _), (74, .is _), (75, .is _), (76, .is _), (77, .is _), (78, .is _), (79, .is _), (80, .is _), (81, .is _), (82, .is _), (83, .is _), (84, .is _), (85, .is _), (86, .is _), (87, .is _), (88, .is _), (89, .is _), (10, .is _)] [[], [], [68, 69], [70], [71], [71], [71], [71], [71, 72, 73, 74, 75], [71, 76], [77], [77], [77], [77, 80], [77], [77, 82], [77, 78, 79, 81, 83], [71, 77, 84], [71, 85], [86], [71, 86, 87], [71, 88], [89]] [10] _ ⟨qd (ldkw 0 rfl rfl wD28), qd (ldkw 1 rfl rfl wD41), qd (oc (fun S=>lHuge _ _ S.x (.nil _) x (dn0 (S.u 1 rfl)) f (dn0 (S.u 2 rfl))) cB31), qd (mv rfl), qd (og 71 rfl gf fun S hg=>x_ldw (S.e rfl) (S.k 0 rfl).all wD28), qd (og 71 rfl gf fun S hg=>x_ldw (S.e rfl) (S.k 1 rfl).all wD41), qd (og 71 rfl gf fun S hg=>x_move (S.e rfl)), qd (og 71 rfl gf fun S hg=>x_move (S.e rfl)), qd (ocg 71 rfl gf (fun S hg=>lReads0 _ _ S.x (.nil _) x (dn0 (S.u 1 rfl)) f (dn0 (S.u 2 rfl)) da da_h db db_h) cB29 fun S=>⟨fun hg=>(S.p rfl hg), fun hg=>(S.p rfl hg), fun hg=>(S.p rfl hg), fun hg=>(S.p rfl hg), trivial⟩), qd (og 71 rfl gf fun S hg=>x_move (S.p rfl hg)), qd (og 77 rfl ggt fun S hg=>x_ldw (S.e rfl) (S.k 0 rfl).all wD28), qd (og 77 rfl ggt fun S hg=>x_ldw (S.e rfl) (S.k 1 rfl).all wD41), qd (og 77 rfl ggt fun S hg=>x_move (S.e rfl)), qd (ocg 77 rfl ggt (fun S hg=>gMod _ _ S.x (.nil _) da da_h 6 ⟨by omega, by omega⟩ (by omega)) cB32 fun S=>⟨fun hg=>(S.p rfl hg), fun _=>S.e rfl, trivial⟩), qd (og 77 rfl ggt fun S hg=>x_move (S.e rfl)), qd (ocg 77 rfl ggt (fun S hg=>gMod _ _ S.x (.nil _) db db_h 6 ⟨by omega, by omega⟩ (by omega)) cB32 fun S=>⟨fun hg=>(S.p rfl hg), fun _=>S.e rfl, trivial⟩), qd (ocg 77 rfl ggt (fun S hg=>lReads0 _ _ S.x (.nil _) x (dn0 (S.u 1 rfl)) f (dn0 (S.u 2 rfl)) (da % 18446744073709551616 % 6) ⟨by omega, by omega⟩ (db % 18446744073709551616 % 6) ⟨by omega, by omega⟩) cB29 fun S=>⟨fun hg=>(S.p rfl hg), fun hg=>(S.p rfl hg), fun hg=>(S.p rfl hg), fun hg=>(S.p rfl hg), trivial⟩), qd (og 71 rfl gf fun S hg=>x_and (S.p rfl hg) (fun hl => (S.p rfl (And.intro hg hl))) (S.e rfl)), qd (og 71 rfl gf fun S hg=>x_move (S.p rfl hg)), qd (ocg 86 rfl ggt (fun S hg=>lSane _ _ S.x (.nil _)) cB21 fun S=>trivial), qd (og 71 rfl gf fun S hg=>x_and (S.p rfl hg) (fun hl => (S.p rfl (And.intro hg hl))) (S.e rfl)), qd (ori rfl rfl rfl), qd (av rfl), trivial⟩ ?_
 clear S; intro a u S G hE
 refine ent (wp_ret ?_)
 refine ret1 rfl S.s rfl ?_
 replace S := S.pk []
 refine ⟨(r1 (vb ?_)), S.m.c⟩
 first | exact Iff.rfl | assumption | omega | simp_all
end Go.Proofs.Ytfanmniaolncbaa.V
