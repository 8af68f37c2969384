/- the laws: reads -/
import Derived.Test.YtfanmniaolncbaaW12
import Derived.Test.YtfanmniaolncbaaW13
namespace Go.Proofs.Ytfanmniaolncbaa.V
open Go.RowKit Go.Proofs.Ytfanmniaolncbaa
set_option linter.unusedVariables false
set_option linter.unusedSimpArgs false
set_option maxHeartbeats 2000000 in
set_option maxRecDepth 20000 in
theorem lReads0 (w : World) (F : Nat → Prop) (hF : Old F w) (M : MS [] w) (t : Topo) (t_w : topoE.wf (Fr F []) w.heap t) (f : Fail) (f_w : failE.wf (Fr F []) w.heap f) (da : Int) (da_h : inI64 da) (db : Int) (db_h : inI64 db) :
 Calls Try.prog 29 #[.agg (topoE.cells t).toArray, .agg (failE.cells f).toArray, iI da, iI db] w fun e w' => e = .returned (bD (True)) ∧ Tr [] w [] w' := by
 have : t.devs.xs.length ≤ 9223372036854775807 := (t_w.1).1.len
 have : t.links.xs.length ≤ 9223372036854775807 := (t_w.2.1).1.len
 have : t.edges.xs.length ≤ 9223372036854775807 := (t_w.2.2.1).1.len
 have : t.pools.xs.length ≤ 9223372036854775807 := (t_w.2.2.2.1).1.len
 obtain ⟨_, _⟩ : inI64 t.tol := t_w.2.2.2.2
 have : f.links.xs.length ≤ 9223372036854775807 := (f_w.1).1.len
 have : f.devs.xs.length ≤ 9223372036854775807 := (f_w.2).1.len
 obtain ⟨da_hl, da_hu⟩ : inI64 da := id da_h
 obtain ⟨db_hl, db_hu⟩ : inI64 db := id db_h
 refine go Try.func29 rfl 69 rfl [wfF topoE t, wfF failE f] [] hF M ⟨t_w, f_w, trivial⟩ trivial ?_
 intro a S
 refine rs0 ?_
 refine nbp S (x_box _ (S.e rfl) rfl) ?_; clear S; intro a u b4 S
 refine nbp S (x_box _ (S.e rfl) rfl) ?_; clear S; intro a u b5 S
 refine ens S (la (av rfl)) ?_; clear S; intro a u S
 refine wp_seq ?_
 replace S := S.l [(2, iI da), (3, iI db), (4, pT b4 0), (5, pT b5 0)] (subM rfl)
 refine dr (P := Try.prog) S 61 [] ((9, .is _) :: (10, .is _) :: (11, .is _) :: (12, .is _) :: (13, .is _) :: (14, .is _) :: (15, .is _) :: (16, .is _) :: (17, .is _) :: (18, .is _) :: (19, .is _) :: (20, .is _) :: (21, .is _) :: (22, .is _) :: (23, .is _) :: (24, .is _) :: (25, .is _) :: (26, .is _) :: (27, .is _) :: (28, .is _) :: (29, .is _) :: (30, .is _) :: (31, .is _) :: (32, .is _) :: (33, .is _) :: (34, .is _) :: (35, .is _) :: (36, .is _) :: (37, .is _) :: (38, .is _) :: (39, .is _) :: (40, .is _) :: (41, .is _) :: (42, .is _) :: (43, .is _) :: (44, .is _) :: (45, .is _) :: (46, .is _) :: (47, .is _) :: (48, .is _) :: (49, .is _) :: (50, .is _) :: (51, .is _) :: (52, .is _) :: (53, .is _) :: (54, .of (fun z w => ((((((failV t f) ↔ (failV t f))) ∧ (((aliveV t f da) ↔ (aliveV t f da)))) ∧ (((usableV t f da) ↔ (usableV t f da)))) ∧ (((connV t f da db) ↔ (connV t f da db)))) → ∃ (x54a : Option Addr) (y54a : Nat), z = .slice x54a ((compsV t f).length) y54a ∧ (slE intE).wf (Fr F [one b4, one b5]) w.heap (Sl.mk x54a y54a (compsV t f))) (fun v w w' c h hg => let ⟨x54a, y54a, hv, h0⟩ := h hg; ⟨x54a, y54a, hv, Enc.kp (slE intE) h0 c (fun _ h => by simp at h)⟩)) :: (55, .is _) :: (56, .is _) :: (57, .of (fun z w => ((((((failV t f) ↔ (failV t f))) ∧ (((aliveV t f da) ↔ (aliveV t f da)))) ∧ (((usableV t f da) ↔ (usableV t f da)))) ∧ (((connV t f da db) ↔ (connV t f da db)))) → ∃ (x57a : Option Addr) (y57a : Nat), z = .slice x57a ((compsV t f).length) y57a ∧ (slE intE).wf (Fr F [one b4, one b5]) w.heap (Sl.mk x57a y57a (compsV t f))) (fun v w w' c h hg => let ⟨x57a, y57a, hv, h0⟩ := h hg; ⟨x57a, y57a, hv, Enc.kp (slE intE) h0 c (fun _ h => by simp at h)⟩)) :: (58, .is ((if ((((((failV t f) ↔ (failV t f))) ∧ (((aliveV t f da) ↔ (aliveV t f da)))) ∧ (((usableV t f da) ↔ (usableV t f da)))) ∧ (((connV t f da db) ↔ (connV t f da db)))) then bD ((compsV t f) = (compsV t f)) else undef))) :: (59, .is _) :: (60, .is _) :: (61, .is _) :: (62, .is _) :: (63, .of (fun z w => (((((((failV t f) ↔ (failV t f))) ∧ (((aliveV t f da) ↔ (aliveV t f da)))) ∧ (((usableV t f da) ↔ (usableV t f da)))) ∧ (((connV t f da db) ↔ (connV t f da db)))) ∧ ((compsV t f) = (compsV t f))) → ∃ (x63a : Option Addr) (y63a : Nat), z = .slice x63a ((bridgesOf t f).length) y63a ∧ (slE intE).wf (Fr F [one b4, one b5]) w.heap (Sl.mk x63a y63a (bridgesOf t f))) (fun v w w' c h hg => let ⟨x63a, y63a, hv, h0⟩ := h hg; ⟨x63a, y63a, hv, Enc.kp (slE intE) h0 c (fun _ h => by simp at h)⟩)) :: (64, .is _) :: (65, .is _) :: (66, .of (fun z w => (((((((failV t f) ↔ (failV t f))) ∧ (((aliveV t f da) ↔ (aliveV t f da)))) ∧ (((usableV t f da) ↔ (usableV t f da)))) ∧ (((connV t f da db) ↔ (connV t f da db)))) ∧ ((compsV t f) = (compsV t f))) → ∃ (x66a : Option Addr) (y66a : Nat), z = .slice x66a ((bridgesOf t f).length) y66a ∧ (slE intE).wf (Fr F [one b4, one b5]) w.heap (Sl.mk x66a y66a (bridgesOf t f))) (fun v w w' c h hg => let ⟨x66a, y66a, hv, h0⟩ := h hg; ⟨x66a, y66a, hv, Enc.kp (slE intE) h0 c (fun _ h => by simp at h)⟩)) :: (67, .is ((if (((((((failV t f) ↔ (failV t f))) ∧ (((aliveV t f da) ↔ (aliveV t f da)))) ∧ (((usableV t f da) ↔ (usableV t f da)))) ∧ (((connV t f da db) ↔ (connV t f da db)))) ∧ ((compsV t f) = (compsV t f))) then bD ((bridgesOf t f) = (bridgesOf t f)) else undef))) :: (68, .is _) :: (8, .is _) :: []) ([] :: [] :: [9, 10] :: [] :: [] :: [12, 13] :: [11, 14] :: [15] :: [16] :: [16] :: [16] :: [16, 17, 18, 19] :: [16] :: [16] :: [16] :: [16, 21, 22, 23] :: [16, 20, 24] :: [16, 25] :: [26] :: [27] :: [27] :: [27] :: [27, 28, 29, 30] :: [27] :: [27] :: [27] :: [27, 32, 33, 34] :: [27, 31, 35] :: [27, 36] :: [37] :: [38] :: [38] :: [38] :: [38] :: [38, 39, 40, 41, 42] :: [38] :: [38] :: [38] :: [38] :: [38, 44, 45, 46, 47] :: [38, 43, 48] :: [38, 49] :: [50] :: [51] :: [51] :: [51, 52, 53] :: [51] :: [51] :: [51, 55, 56] :: [51, 54, 57] :: [51, 58] :: [59] :: [60] :: [60] :: [60, 61, 62] :: [60] :: [60] :: [60, 64, 65] :: [60, 63, 66] :: [60, 67] :: [68] :: []) [8] _ ⟨qd (ldkw 0 rfl rfl wD28), qd (ldkw 1 rfl rfl wD41), qd (oc (fun S=>fValid _ _ S.x (.nil _) t (dn0 (S.u 0 rfl)) f (dn0 (S.u 1 rfl))) cB22), qd (ldkw 0 rfl rfl wD28), qd (ldkw 1 rfl rfl wD41), qd (oc (fun S=>rValidF _ _ S.x (.nil _) t (dn0 (S.u 0 rfl)) f (dn0 (S.u 1 rfl))) cB59), qd (ov fun S=>x_bpeql uT4 (S.e rfl) (S.e rfl)), qd (mv rfl), qd (og 16 rfl gt fun S hg=>x_ldw (S.e rfl) (S.k 0 rfl).all wD28), qd (og 16 rfl gt fun S hg=>x_ldw (S.e rfl) (S.k 1 rfl).all wD41), qd (og 16 rfl gt fun S hg=>x_move (S.e rfl)), qd (ocg 16 rfl gt (fun S hg=>fAlive _ _ S.x (.nil _) t (dn0 (S.u 0 rfl)) f (dn0 (S.u 1 rfl)) da da_h) cB34 fun S=>⟨fun hg=>(S.p rfl hg), fun hg=>(S.p rfl hg), fun hg=>(S.p rfl hg), trivial⟩), qd (og 16 rfl gt fun S hg=>x_ldw (S.e rfl) (S.k 0 rfl).all wD28), qd (og 16 rfl gt fun S hg=>x_ldw (S.e rfl) (S.k 1 rfl).all wD41), qd (og 16 rfl gt fun S hg=>x_move (S.e rfl)), qd (ocg 16 rfl gt (fun S hg=>rAlive _ _ S.x (.nil _) t (dn0 (S.u 0 rfl)) f (dn0 (S.u 1 rfl)) da da_h) cB60 fun S=>⟨fun hg=>(S.p rfl hg), fun hg=>(S.p rfl hg), fun hg=>(S.p rfl hg), trivial⟩), qd (og 16 rfl gt fun S hg=>x_bpeql uT4 (S.p rfl hg) (S.p rfl hg)), qd (andi rfl rfl rfl), qd (mv rfl), qd (og 27 rfl gt fun S hg=>x_ldw (S.e rfl) (S.k 0 rfl).all wD28), qd (og 27 rfl gt fun S hg=>x_ldw (S.e rfl) (S.k 1 rfl).all wD41), qd (og 27 rfl gt fun S hg=>x_move (S.e rfl)), qd (ocg 27 rfl gt (fun S hg=>fUsable _ _ S.x (.nil _) t (dn0 (S.u 0 rfl)) f (dn0 (S.u 1 rfl)) da da_h) cB28 fun S=>⟨fun hg=>(S.p rfl hg), fun hg=>(S.p rfl hg), fun hg=>(S.p rfl hg), trivial⟩), qd (og 27 rfl gt fun S hg=>x_ldw (S.e rfl) (S.k 0 rfl).all wD28), qd (og 27 rfl gt fun S hg=>x_ldw (S.e rfl) (S.k 1 rfl).all wD41), qd (og 27 rfl gt fun S hg=>x_move (S.e rfl)), qd (ocg 27 rfl gt (fun S hg=>rUsable _ _ S.x (.nil _) t (dn0 (S.u 0 rfl)) f (dn0 (S.u 1 rfl)) da da_h) cB40 fun S=>⟨fun hg=>(S.p rfl hg), fun hg=>(S.p rfl hg), fun hg=>(S.p rfl hg), trivial⟩), qd (og 27 rfl gt fun S hg=>x_bpeql uT4 (S.p rfl hg) (S.p rfl hg)), qd (andi rfl rfl rfl), qd (mv rfl), qd (og 38 rfl gt fun S hg=>x_ldw (S.e rfl) (S.k 0 rfl).all wD28), qd (og 38 rfl gt fun S hg=>x_ldw (S.e rfl) (S.k 1 rfl).all wD41), qd (og 38 rfl gt fun S hg=>x_move (S.e rfl)), qd (og 38 rfl gt fun S hg=>x_move (S.e rfl)), qd (ocg 38 rfl gt (fun S hg=>fConn _ _ S.x (.nil _) t (dn0 (S.u 0 rfl)) f (dn0 (S.u 1 rfl)) da da_h db db_h) cB27 fun S=>⟨fun hg=>(S.p rfl hg), fun hg=>(S.p rfl hg), fun hg=>(S.p rfl hg), fun hg=>(S.p rfl hg), trivial⟩), qd (og 38 rfl gt fun S hg=>x_ldw (S.e rfl) (S.k 0 rfl).all wD28), qd (og 38 rfl gt fun S hg=>x_ldw (S.e rfl) (S.k 1 rfl).all wD41), qd (og 38 rfl gt fun S hg=>x_move (S.e rfl)), qd (og 38 rfl gt fun S hg=>x_move (S.e rfl)), qd (ocg 38 rfl gt (fun S hg=>rConn _ _ S.x (.nil _) t (dn0 (S.u 0 rfl)) f (dn0 (S.u 1 rfl)) da da_h db db_h) cB39 fun S=>⟨fun hg=>(S.p rfl hg), fun hg=>(S.p rfl hg), fun hg=>(S.p rfl hg), fun hg=>(S.p rfl hg), trivial⟩), qd (og 38 rfl gt fun S hg=>x_bpeql uT4 (S.p rfl hg) (S.p rfl hg)), qd (andi rfl rfl rfl), qd (mv rfl), qd (og 51 rfl gt fun S hg=>x_ldw (S.e rfl) (S.k 0 rfl).all wD28), qd (og 51 rfl gt fun S hg=>x_ldw (S.e rfl) (S.k 1 rfl).all wD41), ?_, qd (og 51 rfl gt fun S hg=>x_ldw (S.e rfl) (S.k 0 rfl).all wD28), qd (og 51 rfl gt fun S hg=>x_ldw (S.e rfl) (S.k 1 rfl).all wD41), ?_, ?_, qd (andi rfl rfl rfl), qd (mv rfl), qd (og 60 rfl gt fun S hg=>x_ldw (S.e rfl) (S.k 0 rfl).all wD28), qd (og 60 rfl gt fun S hg=>x_ldw (S.e rfl) (S.k 1 rfl).all wD41), ?_, qd (og 60 rfl gt fun S hg=>x_ldw (S.e rfl) (S.k 0 rfl).all wD28), qd (og 60 rfl gt fun S hg=>x_ldw (S.e rfl) (S.k 1 rfl).all wD41), ?_, ?_, qd (andi rfl rfl rfl), qd (av rfl), trivial⟩ ?_
 ·skip
  intro a u S G hE
  refine (Classical.em ((((((failV t f) ↔ (failV t f))) ∧ (((aliveV t f da) ↔ (aliveV t f da)))) ∧ (((usableV t f da) ↔ (usableV t f da)))) ∧ (((connV t f da db) ↔ (connV t f da db))))).symm.elim (fun hg => ?_) fun hg => ?_
  ·exact hng 54 51 S S.m rfl (fun h => hg (gt.2 h)) (show ((((((failV t f) ↔ (failV t f))) ∧ (((aliveV t f da) ↔ (aliveV t f da)))) ∧ (((usableV t f da) ↔ (usableV t f da)))) ∧ (((connV t f da db) ↔ (connV t f da db)))) → _ from fun h => absurd h hg)
  refine hcg 51 S rfl (gt.1 hg) (fComps _ _ S.x (.nil _) t (dn0 (S.u 0 rfl)) f (dn0 (S.u 1 rfl))) cB33 ⟨fun _=>(S.p rfl hg), fun _=>(S.p rfl hg), trivial⟩ ?_
  rintro e w2 ⟨ra_h54, rc_h54, rfl, R_h54, T0⟩; refine ⟨_, rfl, (fun _ => ?_), T0.ch, (S.k0 S.s T0).m⟩
  exact ⟨ra_h54, rc_h54, rfl, (Enc.up _ R_h54)⟩
 ·skip
  intro a u S G hE
  refine (Classical.em ((((((failV t f) ↔ (failV t f))) ∧ (((aliveV t f da) ↔ (aliveV t f da)))) ∧ (((usableV t f da) ↔ (usableV t f da)))) ∧ (((connV t f da db) ↔ (connV t f da db))))).symm.elim (fun hg => ?_) fun hg => ?_
  ·exact hng 57 51 S S.m rfl (fun h => hg (gt.2 h)) (show ((((((failV t f) ↔ (failV t f))) ∧ (((aliveV t f da) ↔ (aliveV t f da)))) ∧ (((usableV t f da) ↔ (usableV t f da)))) ∧ (((connV t f da db) ↔ (connV t f da db)))) → _ from fun h => absurd h hg)
  refine hcg 51 S rfl (gt.1 hg) (rComps _ _ S.x (.nil _) t (dn0 (S.u 0 rfl)) f (dn0 (S.u 1 rfl))) cB61 ⟨fun _=>(S.p rfl hg), fun _=>(S.p rfl hg), trivial⟩ ?_
  rintro e w2 ⟨ra_h57, rc_h57, rfl, R_h57, T0⟩; refine ⟨_, rfl, (fun _ => ?_), T0.ch, (S.k0 S.s T0).m⟩
  exact ⟨ra_h57, rc_h57, rfl, (Enc.up _ R_h57)⟩
 ·skip
  intro a u S G hE
  obtain ⟨e54, e57, -⟩ := hE
  have M0 := S.m
  refine (Classical.em ((((((failV t f) ↔ (failV t f))) ∧ (((aliveV t f da) ↔ (aliveV t f da)))) ∧ (((usableV t f da) ↔ (usableV t f da)))) ∧ (((connV t f da db) ↔ (connV t f da db))))).symm.elim (fun hg => ?_) fun hg => ?_
  ·exact hng 58 51 S M0 rfl (fun h => hg (gt.2 h)) (show _ = _ from (if_neg hg).symm)
  replace e54 := e54 hg
  obtain ⟨x54_2, y54_2, e54, X2⟩ := e54
  replace S := S.ext e54
  replace e57 := e57 hg
  obtain ⟨x57_3, y57_3, e57, X3⟩ := e57
  replace S := S.ext e57
  refine hcg 51 S rfl (gt.1 hg) (sameIdx _ _ S.x (.nil _) (Sl.mk x54_2 y54_2 (compsV t f)) (dn0 X2) (Sl.mk x57_3 y57_3 (compsV t f)) (dn0 X3)) cB45 ⟨(fun _=>S.e rfl), (fun _=>S.e rfl), trivial⟩ ?_
  rintro e w2 ⟨rfl, T0⟩; exact ⟨_, rfl, (show _ = _ from (if_pos hg).symm), T0.ch, (M0.k0 T0.ch)⟩
 ·skip
  intro a u S G hE
  refine (Classical.em (((((((failV t f) ↔ (failV t f))) ∧ (((aliveV t f da) ↔ (aliveV t f da)))) ∧ (((usableV t f da) ↔ (usableV t f da)))) ∧ (((connV t f da db) ↔ (connV t f da db)))) ∧ ((compsV t f) = (compsV t f)))).symm.elim (fun hg => ?_) fun hg => ?_
  ·exact hng 63 60 S S.m rfl (fun h => hg (gt.2 h)) (show (((((((failV t f) ↔ (failV t f))) ∧ (((aliveV t f da) ↔ (aliveV t f da)))) ∧ (((usableV t f da) ↔ (usableV t f da)))) ∧ (((connV t f da db) ↔ (connV t f da db)))) ∧ ((compsV t f) = (compsV t f))) → _ from fun h => absurd h hg)
  refine hcg 60 S rfl (gt.1 hg) (fBridges _ _ S.x (.nil _) t (dn0 (S.u 0 rfl)) f (dn0 (S.u 1 rfl))) cB35 ⟨fun _=>(S.p rfl hg), fun _=>(S.p rfl hg), trivial⟩ ?_
  rintro e w2 ⟨ra_h63, rc_h63, rfl, R_h63, T0⟩; refine ⟨_, rfl, (fun _ => ?_), T0.ch, (S.k0 S.s T0).m⟩
  exact ⟨ra_h63, rc_h63, rfl, (Enc.up _ R_h63)⟩
 ·skip
  intro a u S G hE
  refine (Classical.em (((((((failV t f) ↔ (failV t f))) ∧ (((aliveV t f da) ↔ (aliveV t f da)))) ∧ (((usableV t f da) ↔ (usableV t f da)))) ∧ (((connV t f da db) ↔ (connV t f da db)))) ∧ ((compsV t f) = (compsV t f)))).symm.elim (fun hg => ?_) fun hg => ?_
  ·exact hng 66 60 S S.m rfl (fun h => hg (gt.2 h)) (show (((((((failV t f) ↔ (failV t f))) ∧ (((aliveV t f da) ↔ (aliveV t f da)))) ∧ (((usableV t f da) ↔ (usableV t f da)))) ∧ (((connV t f da db) ↔ (connV t f da db)))) ∧ ((compsV t f) = (compsV t f))) → _ from fun h => absurd h hg)
  refine hcg 60 S rfl (gt.1 hg) (rBridges _ _ S.x (.nil _) t (dn0 (S.u 0 rfl)) f (dn0 (S.u 1 rfl))) cB62 ⟨fun _=>(S.p rfl hg), fun _=>(S.p rfl hg), trivial⟩ ?_
  rintro e w2 ⟨ra_h66, rc_h66, rfl, R_h66, T0⟩; refine ⟨_, rfl, (fun _ => ?_), T0.ch, (S.k0 S.s T0).m⟩
  exact ⟨ra_h66, rc_h66, rfl, (Enc.up _ R_h66)⟩
 ·skip
  intro a u S G hE
  obtain ⟨e63, e66, -⟩ := hE
  have M0 := S.m
  refine (Classical.em (((((((failV t f) ↔ (failV t f))) ∧ (((aliveV t f da) ↔ (aliveV t f da)))) ∧ (((usableV t f da) ↔ (usableV t f da)))) ∧ (((connV t f da db) ↔ (connV t f da db)))) ∧ ((compsV t f) = (compsV t f)))).symm.elim (fun hg => ?_) fun hg => ?_
  ·exact hng 67 60 S M0 rfl (fun h => hg (gt.2 h)) (show _ = _ from (if_neg hg).symm)
  replace e63 := e63 hg
  obtain ⟨x63_4, y63_4, e63, X4⟩ := e63
  replace S := S.ext e63
  replace e66 := e66 hg
  obtain ⟨x66_5, y66_5, e66, X5⟩ := e66
  replace S := S.ext e66
  refine hcg 60 S rfl (gt.1 hg) (sameIdx _ _ S.x (.nil _) (Sl.mk x63_4 y63_4 (bridgesOf t f)) (dn0 X4) (Sl.mk x66_5 y66_5 (bridgesOf t f)) (dn0 X5)) cB45 ⟨(fun _=>S.e rfl), (fun _=>S.e rfl), trivial⟩ ?_
  rintro e w2 ⟨rfl, T0⟩; exact ⟨_, rfl, (show _ = _ from (if_pos hg).symm), T0.ch, (M0.k0 T0.ch)⟩
 clear S; intro a u S G hE
 refine ent (wp_ret ?_)
 refine ret1 rfl S.s rfl ?_
 replace S := S.pk []
 refine ⟨(r1 (vb ?_)), S.m.c⟩
 first | exact Iff.rfl | assumption | omega | simp_all
end Go.Proofs.Ytfanmniaolncbaa.V
