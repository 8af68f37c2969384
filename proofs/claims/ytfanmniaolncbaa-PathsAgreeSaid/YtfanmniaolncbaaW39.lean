/- paths: all functions agree; the examples -/
import Derived.Test.YtfanmniaolncbaaW38
import Derived.Test.YtfanmniaolncbaaSanP
namespace Go.Proofs.Ytfanmniaolncbaa.V
open Go.RowKit Go.Proofs.Ytfanmniaolncbaa
set_option linter.unusedVariables false
set_option linter.unusedSimpArgs false
set_option maxHeartbeats 2000000 in
set_option maxRecDepth 20000 in
theorem lAgrees (w : World) (F : Nat → Prop) (hF : Old F w) (M : MS [] w) (t : Topo) (t_w : topoE.wf (Fr F []) w.heap t) (f : Fail) (f_w : failE.wf (Fr F []) w.heap f) (da : Int) (da_h : inI64 da) (dz : Int) (dz_h : inI64 dz) :
 Calls Try.prog 36 #[.agg (topoE.cells t).toArray, .agg (failE.cells f).toArray, iI da, iI dz] w fun e w' => e = .returned (bD (True)) ∧ Tr [] w [] w' := by
 have : t.devs.xs.length ≤ 9223372036854775807 := (t_w.1).1.len
 have : t.links.xs.length ≤ 9223372036854775807 := (t_w.2.1).1.len
 have : t.edges.xs.length ≤ 9223372036854775807 := (t_w.2.2.1).1.len
 have : t.pools.xs.length ≤ 9223372036854775807 := (t_w.2.2.2.1).1.len
 obtain ⟨_, _⟩ : inI64 t.tol := t_w.2.2.2.2
 have : f.links.xs.length ≤ 9223372036854775807 := (f_w.1).1.len
 have : f.devs.xs.length ≤ 9223372036854775807 := (f_w.2).1.len
 obtain ⟨da_hl, da_hu⟩ : inI64 da := id da_h
 obtain ⟨dz_hl, dz_hu⟩ : inI64 dz := id dz_h
 refine go Try.func36 rfl 57 rfl [wfF topoE t, wfF failE f] [] hF M ⟨t_w, f_w, trivial⟩ trivial ?_
 intro a S
 refine rs0 ?_
 refine nbp S (x_box _ (S.e rfl) rfl) ?_; clear S; intro a u b4 S
 refine nbp S (x_box _ (S.e rfl) rfl) ?_; clear S; intro a u b5 S
 refine ens S (la (av rfl)) ?_; clear S; intro a u S
 refine wp_seq ?_
 replace S := S.l [(2, iI da), (3, iI dz), (4, pT b4 0), (5, pT b5 0)] (subM rfl)
 refine dr (P := Try.prog) S 49 [] ((9, .is _) :: (10, .is _) :: (11, .is _) :: (12, .of (fun z w => ∃ (x12a : Option Addr) (y12a : Nat), z = .slice x12a ((distV t f da).length) y12a ∧ (slE intE).wf (Fr F [one b4, one b5]) w.heap (Sl.mk x12a y12a (distV t f da))) (fun v w w' c h => let ⟨x12a, y12a, hv, h0⟩ := h; ⟨x12a, y12a, hv, Enc.kp (slE intE) h0 c (fun _ h => by simp at h)⟩)) :: (13, .is _) :: (14, .is _) :: (15, .is _) :: (16, .of (fun z w => ∃ (x16a : Option Addr) (y16a : Nat), z = .slice x16a ((distV t f da).length) y16a ∧ (slE intE).wf (Fr F [one b4, one b5]) w.heap (Sl.mk x16a y16a (distV t f da))) (fun v w w' c h => let ⟨x16a, y16a, hv, h0⟩ := h; ⟨x16a, y16a, hv, Enc.kp (slE intE) h0 c (fun _ h => by simp at h)⟩)) :: (17, .is (bD ((distV t f da) = (distV t f da)))) :: (18, .is _) :: (19, .is _) :: (20, .is _) :: (21, .is _) :: (22, .is _) :: (23, .is _) :: (24, .is _) :: (25, .is _) :: (26, .is _) :: (27, .is _) :: (28, .is _) :: (29, .is _) :: (30, .is _) :: (31, .is _) :: (32, .is _) :: (33, .is _) :: (34, .is _) :: (35, .is _) :: (36, .of (fun z w => (((distV t f da) = (distV t f da)) ∧ (nextV t f da dz = nextV t f da dz)) → ∃ (x36a : Option Addr) (y36a : Nat), z = .slice x36a ((pathV t f da dz).length) y36a ∧ (slE intE).wf (Fr F [one b4, one b5]) w.heap (Sl.mk x36a y36a (pathV t f da dz))) (fun v w w' c h hg => let ⟨x36a, y36a, hv, h0⟩ := h hg; ⟨x36a, y36a, hv, Enc.kp (slE intE) h0 c (fun _ h => by simp at h)⟩)) :: (37, .is _) :: (38, .is _) :: (39, .is _) :: (40, .is _) :: (41, .of (fun z w => (((distV t f da) = (distV t f da)) ∧ (nextV t f da dz = nextV t f da dz)) → ∃ (x41a : Option Addr) (y41a : Nat), z = .slice x41a ((pathV t f da dz).length) y41a ∧ (slE intE).wf (Fr F [one b4, one b5]) w.heap (Sl.mk x41a y41a (pathV t f da dz))) (fun v w w' c h hg => let ⟨x41a, y41a, hv, h0⟩ := h hg; ⟨x41a, y41a, hv, Enc.kp (slE intE) h0 c (fun _ h => by simp at h)⟩)) :: (42, .is ((if (((distV t f da) = (distV t f da)) ∧ (nextV t f da dz = nextV t f da dz)) then bD ((pathV t f da dz) = (pathV t f da dz)) else undef))) :: (43, .is _) :: (44, .is _) :: (45, .is _) :: (46, .is _) :: (47, .is _) :: (48, .is _) :: (49, .of (fun z w => ((((distV t f da) = (distV t f da)) ∧ (nextV t f da dz = nextV t f da dz)) ∧ ((pathV t f da dz) = (pathV t f da dz))) → ∃ (x49a : Option Addr) (y49a : Nat), z = .slice x49a ((linkV t f da dz).length) y49a ∧ (slE intE).wf (Fr F [one b4, one b5]) w.heap (Sl.mk x49a y49a (linkV t f da dz))) (fun v w w' c h hg => let ⟨x49a, y49a, hv, h0⟩ := h hg; ⟨x49a, y49a, hv, Enc.kp (slE intE) h0 c (fun _ h => by simp at h)⟩)) :: (50, .is _) :: (51, .is _) :: (52, .is _) :: (53, .is _) :: (54, .of (fun z w => ((((distV t f da) = (distV t f da)) ∧ (nextV t f da dz = nextV t f da dz)) ∧ ((pathV t f da dz) = (pathV t f da dz))) → ∃ (x54a : Option Addr) (y54a : Nat), z = .slice x54a ((linkV t f da dz).length) y54a ∧ (slE intE).wf (Fr F [one b4, one b5]) w.heap (Sl.mk x54a y54a (linkV t f da dz))) (fun v w w' c h hg => let ⟨x54a, y54a, hv, h0⟩ := h hg; ⟨x54a, y54a, hv, Enc.kp (slE intE) h0 c (fun _ h => by simp at h)⟩)) :: (55, .is ((if ((((distV t f da) = (distV t f da)) ∧ (nextV t f da dz = nextV t f da dz)) ∧ ((pathV t f da dz) = (pathV t f da dz))) then bD ((linkV t f da dz) = (linkV t f da dz)) else undef))) :: (56, .is _) :: (8, .is _) :: []) ([] :: [] :: [] :: [9, 10, 11] :: [] :: [] :: [] :: [13, 14, 15] :: [12, 16] :: [17] :: [18] :: [18] :: [18] :: [18] :: [18, 19, 20, 21, 22] :: [18] :: [18] :: [18] :: [18] :: [18, 24, 25, 26, 27] :: [18, 23, 28] :: [18, 29] :: [30] :: [31] :: [31] :: [31] :: [31] :: [31, 32, 33, 34, 35] :: [31] :: [31] :: [31] :: [31] :: [31, 37, 38, 39, 40] :: [31, 36, 41] :: [31, 42] :: [43] :: [44] :: [44] :: [44] :: [44] :: [44, 45, 46, 47, 48] :: [44] :: [44] :: [44] :: [44] :: [44, 50, 51, 52, 53] :: [44, 49, 54] :: [44, 55] :: [56] :: []) [8] _ ⟨qd (ldkw 0 rfl rfl wD28), qd (ldkw 1 rfl rfl wD41), qd (mv rfl), ?_, qd (ldkw 0 rfl rfl wD28), qd (ldkw 1 rfl rfl wD41), qd (mv rfl), ?_, ?_, qd (mv rfl), qd (og 18 rfl gt fun S hg=>x_ldw (S.e rfl) (S.k 0 rfl).all wD28), qd (og 18 rfl gt fun S hg=>x_ldw (S.e rfl) (S.k 1 rfl).all wD41), qd (og 18 rfl gt fun S hg=>x_move (S.e rfl)), qd (og 18 rfl gt fun S hg=>x_move (S.e rfl)), qd (ocg 18 rfl gt (fun S hg=>pNext _ _ S.x (.nil _) t (dn0 (S.u 0 rfl)) f (dn0 (S.u 1 rfl)) da da_h dz dz_h) cB43 fun S=>⟨fun hg=>(S.p rfl hg), fun hg=>(S.p rfl hg), fun hg=>(S.p rfl hg), fun hg=>(S.p rfl hg), trivial⟩), qd (og 18 rfl gt fun S hg=>x_ldw (S.e rfl) (S.k 0 rfl).all wD28), qd (og 18 rfl gt fun S hg=>x_ldw (S.e rfl) (S.k 1 rfl).all wD41), qd (og 18 rfl gt fun S hg=>x_move (S.e rfl)), qd (og 18 rfl gt fun S hg=>x_move (S.e rfl)), qd (ocg 18 rfl gt (fun S hg=>r14Next _ _ S.x (.nil _) t (dn0 (S.u 0 rfl)) f (dn0 (S.u 1 rfl)) da da_h dz dz_h) cB65 fun S=>⟨fun hg=>(S.p rfl hg), fun hg=>(S.p rfl hg), fun hg=>(S.p rfl hg), fun hg=>(S.p rfl hg), trivial⟩), qd (og 18 rfl gt fun S hg=>x_eql (S.p rfl hg) (S.p rfl hg)), qd (andi rfl rfl rfl), qd (mv rfl), qd (og 31 rfl gt fun S hg=>x_ldw (S.e rfl) (S.k 0 rfl).all wD28), qd (og 31 rfl gt fun S hg=>x_ldw (S.e rfl) (S.k 1 rfl).all wD41), qd (og 31 rfl gt fun S hg=>x_move (S.e rfl)), qd (og 31 rfl gt fun S hg=>x_move (S.e rfl)), ?_, qd (og 31 rfl gt fun S hg=>x_ldw (S.e rfl) (S.k 0 rfl).all wD28), qd (og 31 rfl gt fun S hg=>x_ldw (S.e rfl) (S.k 1 rfl).all wD41), qd (og 31 rfl gt fun S hg=>x_move (S.e rfl)), qd (og 31 rfl gt fun S hg=>x_move (S.e rfl)), ?_, ?_, qd (andi rfl rfl rfl), qd (mv rfl), qd (og 44 rfl gt fun S hg=>x_ldw (S.e rfl) (S.k 0 rfl).all wD28), qd (og 44 rfl gt fun S hg=>x_ldw (S.e rfl) (S.k 1 rfl).all wD41), qd (og 44 rfl gt fun S hg=>x_move (S.e rfl)), qd (og 44 rfl gt fun S hg=>x_move (S.e rfl)), ?_, qd (og 44 rfl gt fun S hg=>x_ldw (S.e rfl) (S.k 0 rfl).all wD28), qd (og 44 rfl gt fun S hg=>x_ldw (S.e rfl) (S.k 1 rfl).all wD41), qd (og 44 rfl gt fun S hg=>x_move (S.e rfl)), qd (og 44 rfl gt fun S hg=>x_move (S.e rfl)), ?_, ?_, qd (andi rfl rfl rfl), qd (av rfl), trivial⟩ ?_
 ·skip
  intro a u S G hE
  refine hcl S (pDist _ _ S.x (.nil _) t (dn0 (S.u 0 rfl)) f (dn0 (S.u 1 rfl)) da da_h) cB38 ?_
  rintro e w2 ⟨ra_h12, rc_h12, rfl, R_h12, T0⟩; refine ⟨_, rfl, (show ∃ _, _ from ?_), T0.ch, (S.k0 S.s T0).m⟩
  exact ⟨ra_h12, rc_h12, rfl, (Enc.up _ R_h12)⟩
 ·skip
  intro a u S G hE
  refine hcl S (r14Dist _ _ S.x (.nil _) t (dn0 (S.u 0 rfl)) f (dn0 (S.u 1 rfl)) da da_h) cB64 ?_
  rintro e w2 ⟨ra_h16, rc_h16, rfl, R_h16, T0⟩; refine ⟨_, rfl, (show ∃ _, _ from ?_), T0.ch, (S.k0 S.s T0).m⟩
  exact ⟨ra_h16, rc_h16, rfl, (Enc.up _ R_h16)⟩
 ·skip
  intro a u S G hE
  obtain ⟨e12, e16, -⟩ := hE
  have M0 := S.m
  obtain ⟨x12_2, y12_2, e12, X2⟩ := e12
  replace S := S.ext e12
  obtain ⟨x16_3, y16_3, e16, X3⟩ := e16
  replace S := S.ext e16
  refine hcl S (sameIdx _ _ S.x (.nil _) (Sl.mk x12_2 y12_2 (distV t f da)) (dn0 X2) (Sl.mk x16_3 y16_3 (distV t f da)) (dn0 X3)) cB45 ?_
  rintro e w2 ⟨rfl, T0⟩; exact ⟨_, rfl, (show _ = _ from rfl), T0.ch, (M0.k0 T0.ch)⟩
 ·skip
  intro a u S G hE
  refine (Classical.em (((distV t f da) = (distV t f da)) ∧ (nextV t f da dz = nextV t f da dz))).symm.elim (fun hg => ?_) fun hg => ?_
  ·exact hng 36 31 S S.m rfl (fun h => hg (gt.2 h)) (show (((distV t f da) = (distV t f da)) ∧ (nextV t f da dz = nextV t f da dz)) → _ from fun h => absurd h hg)
  refine hcg 31 S rfl (gt.1 hg) (pPath _ _ S.x (.nil _) t (dn0 (S.u 0 rfl)) f (dn0 (S.u 1 rfl)) da da_h dz dz_h) cB41 ⟨fun _=>(S.p rfl hg), fun _=>(S.p rfl hg), fun _=>(S.p rfl hg), fun _=>(S.p rfl hg), trivial⟩ ?_
  rintro e w2 ⟨ra_h36, rc_h36, rfl, R_h36, T0⟩; refine ⟨_, rfl, (fun _ => ?_), T0.ch, (S.k0 S.s T0).m⟩
  exact ⟨ra_h36, rc_h36, rfl, (Enc.up _ R_h36)⟩
 ·skip
  intro a u S G hE
  refine (Classical.em (((distV t f da) = (distV t f da)) ∧ (nextV t f da dz = nextV t f da dz))).symm.elim (fun hg => ?_) fun hg => ?_
  ·exact hng 41 31 S S.m rfl (fun h => hg (gt.2 h)) (show (((distV t f da) = (distV t f da)) ∧ (nextV t f da dz = nextV t f da dz)) → _ from fun h => absurd h hg)
  refine hcg 31 S rfl (gt.1 hg) (r14Path _ _ S.x (.nil _) t (dn0 (S.u 0 rfl)) f (dn0 (S.u 1 rfl)) da da_h dz dz_h) cB66 ⟨fun _=>(S.p rfl hg), fun _=>(S.p rfl hg), fun _=>(S.p rfl hg), fun _=>(S.p rfl hg), trivial⟩ ?_
  rintro e w2 ⟨ra_h41, rc_h41, rfl, R_h41, T0⟩; refine ⟨_, rfl, (fun _ => ?_), T0.ch, (S.k0 S.s T0).m⟩
  exact ⟨ra_h41, rc_h41, rfl, (Enc.up _ R_h41)⟩
 ·skip
  intro a u S G hE
  obtain ⟨e36, e41, -⟩ := hE
  have M0 := S.m
  refine (Classical.em (((distV t f da) = (distV t f da)) ∧ (nextV t f da dz = nextV t f da dz))).symm.elim (fun hg => ?_) fun hg => ?_
  ·exact hng 42 31 S M0 rfl (fun h => hg (gt.2 h)) (show _ = _ from (if_neg hg).symm)
  replace e36 := e36 hg
  obtain ⟨x36_4, y36_4, e36, X4⟩ := e36
  replace S := S.ext e36
  replace e41 := e41 hg
  obtain ⟨x41_5, y41_5, e41, X5⟩ := e41
  replace S := S.ext e41
  refine hcg 31 S rfl (gt.1 hg) (sameIdx _ _ S.x (.nil _) (Sl.mk x36_4 y36_4 (pathV t f da dz)) (dn0 X4) (Sl.mk x41_5 y41_5 (pathV t f da dz)) (dn0 X5)) cB45 ⟨(fun _=>S.e rfl), (fun _=>S.e rfl), trivial⟩ ?_
  rintro e w2 ⟨rfl, T0⟩; exact ⟨_, rfl, (show _ = _ from (if_pos hg).symm), T0.ch, (M0.k0 T0.ch)⟩
 ·skip
  intro a u S G hE
  refine (Classical.em ((((distV t f da) = (distV t f da)) ∧ (nextV t f da dz = nextV t f da dz)) ∧ ((pathV t f da dz) = (pathV t f da dz)))).symm.elim (fun hg => ?_) fun hg => ?_
  ·exact hng 49 44 S S.m rfl (fun h => hg (gt.2 h)) (show ((((distV t f da) = (distV t f da)) ∧ (nextV t f da dz = nextV t f da dz)) ∧ ((pathV t f da dz) = (pathV t f da dz))) → _ from fun h => absurd h hg)
  refine hcg 44 S rfl (gt.1 hg) (pLinks _ _ S.x (.nil _) t (dn0 (S.u 0 rfl)) f (dn0 (S.u 1 rfl)) da da_h dz dz_h) cB42 ⟨fun _=>(S.p rfl hg), fun _=>(S.p rfl hg), fun _=>(S.p rfl hg), fun _=>(S.p rfl hg), trivial⟩ ?_
  rintro e w2 ⟨ra_h49, rc_h49, rfl, R_h49, T0⟩; refine ⟨_, rfl, (fun _ => ?_), T0.ch, (S.k0 S.s T0).m⟩
  exact ⟨ra_h49, rc_h49, rfl, (Enc.up _ R_h49)⟩
 ·skip
  intro a u S G hE
  refine (Classical.em ((((distV t f da) = (distV t f da)) ∧ (nextV t f da dz = nextV t f da dz)) ∧ ((pathV t f da dz) = (pathV t f da dz)))).symm.elim (fun hg => ?_) fun hg => ?_
  ·exact hng 54 44 S S.m rfl (fun h => hg (gt.2 h)) (show ((((distV t f da) = (distV t f da)) ∧ (nextV t f da dz = nextV t f da dz)) ∧ ((pathV t f da dz) = (pathV t f da dz))) → _ from fun h => absurd h hg)
  refine hcg 44 S rfl (gt.1 hg) (r14Links _ _ S.x (.nil _) t (dn0 (S.u 0 rfl)) f (dn0 (S.u 1 rfl)) da da_h dz dz_h) cB67 ⟨fun _=>(S.p rfl hg), fun _=>(S.p rfl hg), fun _=>(S.p rfl hg), fun _=>(S.p rfl hg), trivial⟩ ?_
  rintro e w2 ⟨ra_h54, rc_h54, rfl, R_h54, T0⟩; refine ⟨_, rfl, (fun _ => ?_), T0.ch, (S.k0 S.s T0).m⟩
  exact ⟨ra_h54, rc_h54, rfl, (Enc.up _ R_h54)⟩
 ·skip
  intro a u S G hE
  obtain ⟨e49, e54, -⟩ := hE
  have M0 := S.m
  refine (Classical.em ((((distV t f da) = (distV t f da)) ∧ (nextV t f da dz = nextV t f da dz)) ∧ ((pathV t f da dz) = (pathV t f da dz)))).symm.elim (fun hg => ?_) fun hg => ?_
  ·exact hng 55 44 S M0 rfl (fun h => hg (gt.2 h)) (show _ = _ from (if_neg hg).symm)
  replace e49 := e49 hg
  obtain ⟨x49_6, y49_6, e49, X6⟩ := e49
  replace S := S.ext e49
  replace e54 := e54 hg
  obtain ⟨x54_7, y54_7, e54, X7⟩ := e54
  replace S := S.ext e54
  refine hcg 44 S rfl (gt.1 hg) (sameIdx _ _ S.x (.nil _) (Sl.mk x49_6 y49_6 (linkV t f da dz)) (dn0 X6) (Sl.mk x54_7 y54_7 (linkV t f da dz)) (dn0 X7)) cB45 ⟨(fun _=>S.e rfl), (fun _=>S.e rfl), trivial⟩ ?_
  rintro e w2 ⟨rfl, T0⟩; exact ⟨_, rfl, (show _ = _ from (if_pos hg).symm), T0.ch, (M0.k0 T0.ch)⟩
 clear S; intro a u S G hE
 obtain ⟨hl8, hu8⟩ : inI64 da := id da_h
 refine ent (wp_ret ?_)
 refine ret1 rfl S.s rfl ?_
 replace S := S.pk []
 refine ⟨(r1 (vb ?_)), S.m.c⟩
 first | exact Iff.rfl | assumption | omega | simp_all
set_option maxHeartbeats 2000000 in
set_option maxRecDepth 20000 in
theorem lSaneP (w : World) (F : Nat → Prop) (hF : Old F w) (M : MS [] w) :
 Calls Try.prog 37 #[] w fun e w' => e = .returned (bD (True)) ∧ Tr [] w [] w' := by
 refine go Try.func37 rfl 53 rfl [] [] hF M trivial trivial ?_
 intro a S
 refine rs S (la (av rfl)) ?_; clear S; intro a u S
 refine rs0 ?_
 refine sp S (tr (ov fun S=>x_bd S [(0, .string (⟨#[97]⟩))] [.string (⟨#[97]⟩), iI 0, .bool false, .bool false, .string (⟨#[]⟩)])<|tr (ov fun S=>x_bd S [(0, .string (⟨#[98]⟩))] [.string (⟨#[98]⟩), iI 0, .bool false, .bool false, .string (⟨#[]⟩)])<|la (ov fun S=>x_bd S [(0, .string (⟨#[99]⟩))] [.string (⟨#[99]⟩), iI 0, .bool false, .bool false, .string (⟨#[]⟩)])) ?_; clear S; intro a u S
 refine nbs devE S [(⟨⟨#[97]⟩, 0, false, false, ⟨#[]⟩⟩ : Dev), (⟨⟨#[98]⟩, 0, false, false, ⟨#[]⟩⟩ : Dev), (⟨⟨#[99]⟩, 0, false, false, ⟨#[]⟩⟩ : Dev)] (x_bs S [(0, .agg #[.string (⟨#[97]⟩), iI 0, .bool false, .bool false, .string (⟨#[]⟩)]), (1, .agg #[.string (⟨#[98]⟩), iI 0, .bool false, .bool false, .string (⟨#[]⟩)]), (2, .agg #[.string (⟨#[99]⟩), iI 0, .bool false, .bool false, .string (⟨#[]⟩)])] uT23 iZ65) (fun x hx => by simp only [List.mem_cons, List.not_mem_nil, or_false] at hx; rcases hx with hx | hx | hx <;> rw [hx] <;> first | exact (show devE.wf _ _ (⟨⟨#[97]⟩, 0, false, false, ⟨#[]⟩⟩ : Dev) from ⟨(show (⟨#[97]⟩ : ByteArray).size ≤ maxLen from by unfold maxLen; decide), (show inI64 0 from ⟨by omega, by omega⟩), trivial, trivial, (show (⟨#[]⟩ : ByteArray).size ≤ maxLen from by unfold maxLen; decide)⟩) | exact (show devE.wf _ _ (⟨⟨#[98]⟩, 0, false, false, ⟨#[]⟩⟩ : Dev) from ⟨(show (⟨#[98]⟩ : ByteArray).size ≤ maxLen from by unfold maxLen; decide), (show inI64 0 from ⟨by omega, by omega⟩), trivial, trivial, (show (⟨#[]⟩ : ByteArray).size ≤ maxLen from by unfold maxLen; decide)⟩) | exact (show devE.wf _ _ (⟨⟨#[99]⟩, 0, false, false, ⟨#[]⟩⟩ : Dev) from ⟨(show (⟨#[99]⟩ : ByteArray).size ≤ maxLen from by unfold maxLen; decide), (show inI64 0 from ⟨by omega, by omega⟩), trivial, trivial, (show (⟨#[]⟩ : ByteArray).size ≤ maxLen from by unfold maxLen; decide)⟩)) ?_; clear S; intro a u b7 S
 refine sp S (tr (ov fun S=>x_bd S [(0, iI 0), (1, iI 1), (2, iI 1)] [iI 0, iI 1, iI 1])<|tr (ov fun S=>x_bd S [(0, iI 1), (1, iI 2), (2, iI 1)] [iI 1, iI 2, iI 1])<|la (ov fun S=>x_bd S [(0, iI 0), (1, iI 2), (2, iI 2)] [iI 0, iI 2, iI 2])) ?_; clear S; intro a u S
 refine nbs lnkE S [(⟨0, 1, 1⟩ : Lnk), (⟨1, 2, 1⟩ : Lnk), (⟨0, 2, 2⟩ : Lnk)] (x_bs S [(0, .agg #[iI 0, iI 1, iI 1]), (1, .agg #[iI 1, iI 2, iI 1]), (2, .agg #[iI 0, iI 2, iI 2])] uT24 iZ54) (fun x hx => by simp only [List.mem_cons, List.not_mem_nil, or_false] at hx; rcases hx with hx | hx | hx <;> rw [hx] <;> first | exact (show lnkE.wf _ _ (⟨0, 1, 1⟩ : Lnk) from ⟨(show inI64 0 from ⟨by omega, by omega⟩), (show inI64 1 from ⟨by omega, by omega⟩), (show inI64 1 from ⟨by omega, by omega⟩)⟩) | exact (show lnkE.wf _ _ (⟨1, 2, 1⟩ : Lnk) from ⟨(show inI64 1 from ⟨by omega, by omega⟩), (show inI64 2 from ⟨by omega, by omega⟩), (show inI64 1 from ⟨by omega, by omega⟩)⟩) | exact (show lnkE.wf _ _ (⟨0, 2, 2⟩ : Lnk) from ⟨(show inI64 0 from ⟨by omega, by omega⟩), (show inI64 2 from ⟨by omega, by omega⟩), (show inI64 2 from ⟨by omega, by omega⟩)⟩)) ?_; clear S; intro a u b11 S
 refine sp S (la (ov fun S=>x_bd S [(0, .slice (some ⟨b7, 0, none⟩) 3 3), (1, .slice (some ⟨b11, 0, none⟩) 3 3)] [.slice (some ⟨b7, 0, none⟩) 3 3, .slice (some ⟨b11, 0, none⟩) 3 3, .slice none 0 0, .slice none 0 0, iI 0])) ?_; clear S; intro a u S
 refine nbp S (x_allocz _ iZ28 rfl) ?_; clear S; intro a u b1 S
 refine ens S (la (stkw 0 rfl rfl rfl)) ?_; clear S; intro a u S
 refine rs0 ?_
 refine sp S (la (ldkw 0 rfl rfl wD28)) ?_; clear S; intro a u S
 refine nbs intE S [0] (x_bs S [(0, iI 0)] uT22 iZ3) (fun x hx => by simp only [List.mem_cons, List.not_mem_nil, or_false] at hx; rw [hx]; exact (show intE.wf _ _ 0 from (show inI64 0 from ⟨by omega, by omega⟩))) ?_; clear S; intro a u b14 S
 refine sp S (la (ov fun S=>x_bd S [(0, .slice (some ⟨b14, 0, none⟩) 1 1)] [.slice (some ⟨b14, 0, none⟩) 1 1, .slice none 0 0])) ?_; clear S; intro a u S
 refine cl S (pPath _ _ S.x (.nil _) (⟨(Sl.mk (some ⟨b7, 0, none⟩) 3 ([(⟨⟨#[97]⟩, 0, false, false, ⟨#[]⟩⟩ : Dev), (⟨⟨#[98]⟩, 0, false, false, ⟨#[]⟩⟩ : Dev), (⟨⟨#[99]⟩, 0, false, false, ⟨#[]⟩⟩ : Dev)])), (Sl.mk (some ⟨b11, 0, none⟩) 3 ([(⟨0, 1, 1⟩ : Lnk), (⟨1, 2, 1⟩ : Lnk), (⟨0, 2, 2⟩ : Lnk)])), (Sl.mk none 0 ([])), (Sl.mk none 0 ([])), 0⟩ : Topo) ⟨(dn0 (S.u 0 rfl)), (dn0 (S.u 1 rfl)), sl_nil, sl_nil, (show inI64 0 from ⟨by omega, by omega⟩)⟩ (⟨(Sl.mk (some ⟨b14, 0, none⟩) 1 ([0])), (Sl.mk none 0 ([]))⟩ : Fail) ⟨(dn0 (S.u 2 rfl)), sl_nil⟩ 0 ⟨by omega, by omega⟩ 1 ⟨by omega, by omega⟩) cB41 ?_
 rintro e u ⟨ra_t16, rc_t16, rfl, R_t16, T0⟩; refine ⟨_, rfl, fun a s => ?_⟩
 replace S := (S.k0 s T0).ar (wfF (slE intE) (Sl.mk ra_t16 rc_t16 (pathV (⟨(Sl.mk (some ⟨b7, 0, none⟩) 3 ([(⟨⟨#[97]⟩, 0, false, false, ⟨#[]⟩⟩ : Dev), (⟨⟨#[98]⟩, 0, false, false, ⟨#[]⟩⟩ : Dev), (⟨⟨#[99]⟩, 0, false, false, ⟨#[]⟩⟩ : Dev)])), (Sl.mk (some ⟨b11, 0, none⟩) 3 ([(⟨0, 1, 1⟩ : Lnk), (⟨1, 2, 1⟩ : Lnk), (⟨0, 2, 2⟩ : Lnk)])), (Sl.mk none 0 ([])), (Sl.mk none 0 ([])), 0⟩ : Topo) (⟨(Sl.mk (some ⟨b14, 0, none⟩) 1 ([0])), (Sl.mk none 0 ([]))⟩ : Fail) 0 1))) (Enc.up _ R_t16); clear s T0 R_t16
 have hn4 : (pathV (⟨(Sl.mk (some ⟨b7, 0, none⟩) 3 ([(⟨⟨#[97]⟩, 0, false, false, ⟨#[]⟩⟩ : Dev), (⟨⟨#[98]⟩, 0, false, false, ⟨#[]⟩⟩ : Dev), (⟨⟨#[99]⟩, 0, false, false, ⟨#[]⟩⟩ : Dev)])), (Sl.mk (some ⟨b11, 0, none⟩) 3 ([(⟨0, 1, 1⟩ : Lnk), (⟨1, 2, 1⟩ : Lnk), (⟨0, 2, 2⟩ : Lnk)])), (Sl.mk none 0 ([])), (Sl.mk none 0 ([])), 0⟩ : Topo) (⟨(Sl.mk (some ⟨b14, 0, none⟩) 1 ([0])), (Sl.mk none 0 ([]))⟩ : Fail) 0 1).length ≤ 9223372036854775807 := ((S.u 3 rfl)).1.len
 refine ens S (la (av rfl)) ?_; clear S; intro a u S
 refine rs0 ?_
 refine sp S (tr (ldkw 0 rfl rfl wD28)<|la (ov fun S=>x_bd S [] [.slice none 0 0, .slice none 0 0])) ?_; clear S; intro a u S
 refine cl S (pDist _ _ S.x (.nil _) (⟨(Sl.mk (some ⟨b7, 0, none⟩) 3 ([(⟨⟨#[97]⟩, 0, false, false, ⟨#[]⟩⟩ : Dev), (⟨⟨#[98]⟩, 0, false, false, ⟨#[]⟩⟩ : Dev), (⟨⟨#[99]⟩, 0, false, false, ⟨#[]⟩⟩ : Dev)])), (Sl.mk (some ⟨b11, 0, none⟩) 3 ([(⟨0, 1, 1⟩ : Lnk), (⟨1, 2, 1⟩ : Lnk), (⟨0, 2, 2⟩ : Lnk)])), (Sl.mk none 0 ([])), (Sl.mk none 0 ([])), 0⟩ : Topo) ⟨(dn0 (S.u 0 rfl)), (dn0 (S.u 1 rfl)), sl_nil, sl_nil, (show inI64 0 from ⟨by omega, by omega⟩)⟩ (⟨(Sl.mk none 0 ([])), (Sl.mk none 0 ([]))⟩ : Fail) ⟨sl_nil, sl_nil⟩ 2 ⟨by omega, by omega⟩) cB38 ?_
 rintro e u ⟨ra_t19, rc_t19, rfl, R_t19, T0⟩; refine ⟨_, rfl, fun a s => ?_⟩
 replace S := (S.k0 s T0).ar (wfF (slE intE) (Sl.mk ra_t19 rc_t19 (distV (⟨(Sl.mk (some ⟨b7, 0, none⟩) 3 ([(⟨⟨#[97]⟩, 0, false, false, ⟨#[]⟩⟩ : Dev), (⟨⟨#[98]⟩, 0, false, false, ⟨#[]⟩⟩ : Dev), (⟨⟨#[99]⟩, 0, false, false, ⟨#[]⟩⟩ : Dev)])), (Sl.mk (some ⟨b11, 0, none⟩) 3 ([(⟨0, 1, 1⟩ : Lnk), (⟨1, 2, 1⟩ : Lnk), (⟨0, 2, 2⟩ : Lnk)])), (Sl.mk none 0 ([])), (Sl.mk none 0 ([])), 0⟩ : Topo) (⟨(Sl.mk none 0 ([])), (Sl.mk none 0 ([]))⟩ : Fail) 2))) (Enc.up _ R_t19); clear s T0 R_t19
 have hn6 : (distV (⟨(Sl.mk (some ⟨b7, 0, none⟩) 3 ([(⟨⟨#[97]⟩, 0, false, false, ⟨#[]⟩⟩ : Dev), (⟨⟨#[98]⟩, 0, false, false, ⟨#[]⟩⟩ : Dev), (⟨⟨#[99]⟩, 0, false, false, ⟨#[]⟩⟩ : Dev)])), (Sl.mk (some ⟨b11, 0, none⟩) 3 ([(⟨0, 1, 1⟩ : Lnk), (⟨1, 2, 1⟩ : Lnk), (⟨0, 2, 2⟩ : Lnk)])), (Sl.mk none 0 ([])), (Sl.mk none 0 ([])), 0⟩ : Topo) (⟨(Sl.mk none 0 ([])), (Sl.mk none 0 ([]))⟩ : Fail) 2).length ≤ 9223372036854775807 := ((S.u 4 rfl)).1.len
 refine ens S (la (av rfl)) ?_; clear S; intro a u S
 refine rs0 ?_
 refine sp S (tr (ldkw 0 rfl rfl wD28)<|tr (ov fun S=>x_bd S [] [.slice none 0 0, .slice none 0 0])<|tr (oc (fun S=>pNext _ _ S.x (.nil _) (⟨(Sl.mk (some ⟨b7, 0, none⟩) 3 ([(⟨⟨#[97]⟩, 0, false, false, ⟨#[]⟩⟩ : Dev), (⟨⟨#[98]⟩, 0, false, false, ⟨#[]⟩⟩ : Dev), (⟨⟨#[99]⟩, 0, false, false, ⟨#[]⟩⟩ : Dev)])), (Sl.mk (some ⟨b11, 0, none⟩) 3 ([(⟨0, 1, 1⟩ : Lnk), (⟨1, 2, 1⟩ : Lnk), (⟨0, 2, 2⟩ : Lnk)])), (Sl.mk none 0 ([])), (Sl.mk none 0 ([])), 0⟩ : Topo) ⟨(dn0 (S.u 0 rfl)), (dn0 (S.u 1 rfl)), sl_nil, sl_nil, (show inI64 0 from ⟨by omega, by omega⟩)⟩ (⟨(Sl.mk none 0 ([])), (Sl.mk none 0 ([]))⟩ : Fail) ⟨sl_nil, sl_nil⟩ 0 ⟨by omega, by omega⟩ 2 ⟨by omega, by omega⟩) cB43)<|tr (eqli rfl rfl)<|la (mv rfl)) ?_; clear S; intro a u S
 refine (Classical.em (nextV (⟨(Sl.mk (some ⟨b7, 0, none⟩) 3 ([(⟨⟨#[97]⟩, 0, false, false, ⟨#[]⟩⟩ : Dev), (⟨⟨#[98]⟩, 0, false, false, ⟨#[]⟩⟩ : Dev), (⟨⟨#[99]⟩, 0, false, false, ⟨#[]⟩⟩ : Dev)])), (Sl.mk (some ⟨b11, 0, none⟩) 3 ([(⟨0, 1, 1⟩ : Lnk), (⟨1, 2, 1⟩ : Lnk), (⟨0, 2, 2⟩ : Lnk)])), (Sl.mk none 0 ([])), (Sl.mk none 0 ([])), 0⟩ : Topo) (⟨(Sl.mk none 0 ([])), (Sl.mk none 0 ([]))⟩ : Fail) 0 2 = 0)).elim (fun hs8 => ?_) (fun hs8 => ?_)
 ·replace S := S.ext (d := 24) (v := .bool true) ((S.get 24 rfl).trans (congrArg Value.bool (decide_eq_true hs8)))
  refine sp S (tr (gon 24 rfl fun S=>x_move (S.e rfl))<|tr (gon 24 rfl fun S=>x_len uT22 (S.e rfl))<|tr (gon 24 rfl fun S=>x_eql (S.e rfl) (S.e rfl))<|tr (ov fun S=>x_pickt (S.e rfl) (S.e rfl))<|la (mv rfl)) ?_; clear S; intro a u S
  refine (Classical.em ((((pathV (⟨(Sl.mk (some ⟨b7, 0, none⟩) 3 ([(⟨⟨#[97]⟩, 0, false, false, ⟨#[]⟩⟩ : Dev), (⟨⟨#[98]⟩, 0, false, false, ⟨#[]⟩⟩ : Dev), (⟨⟨#[99]⟩, 0, false, false, ⟨#[]⟩⟩ : Dev)])), (Sl.mk (some ⟨b11, 0, none⟩) 3 ([(⟨0, 1, 1⟩ : Lnk), (⟨1, 2, 1⟩ : Lnk), (⟨0, 2, 2⟩ : Lnk)])), (Sl.mk none 0 ([])), (Sl.mk none 0 ([])), 0⟩ : Topo) (⟨(Sl.mk (some ⟨b14, 0, none⟩) 1 ([0])), (Sl.mk none 0 ([]))⟩ : Fail) 0 1).length : Nat) : Int) = 3)).elim (fun hs9 => ?_) (fun hs9 => ?_)
  ·replace S := S.ext (d := 29) (v := .bool true) ((S.get 29 rfl).trans (congrArg Value.bool (decide_eq_true hs9)))
   obtain ⟨hl10, hu10⟩ : inI64 ((pathV (⟨(Sl.mk (some ⟨b7, 0, none⟩) 3 ([(⟨⟨#[97]⟩, 0, false, false, ⟨#[]⟩⟩ : Dev), (⟨⟨#[98]⟩, 0, false, false, ⟨#[]⟩⟩ : Dev), (⟨⟨#[99]⟩, 0, false, false, ⟨#[]⟩⟩ : Dev)])), (Sl.mk (some ⟨b11, 0, none⟩) 3 ([(⟨0, 1, 1⟩ : Lnk), (⟨1, 2, 1⟩ : Lnk), (⟨0, 2, 2⟩ : Lnk)])), (Sl.mk none 0 ([])), (Sl.mk none 0 ([])), 0⟩ : Topo) (⟨(Sl.mk (some ⟨b14, 0, none⟩) 1 ([0])), (Sl.mk none 0 ([]))⟩ : Fail) 0 1).getD 1 intE.dflt) := id ((show LAt intE _ _ ra_t16 (pathV (⟨(Sl.mk (some ⟨b7, 0, none⟩) 3 ([(⟨⟨#[97]⟩, 0, false, false, ⟨#[]⟩⟩ : Dev), (⟨⟨#[98]⟩, 0, false, false, ⟨#[]⟩⟩ : Dev), (⟨⟨#[99]⟩, 0, false, false, ⟨#[]⟩⟩ : Dev)])), (Sl.mk (some ⟨b11, 0, none⟩) 3 ([(⟨0, 1, 1⟩ : Lnk), (⟨1, 2, 1⟩ : Lnk), (⟨0, 2, 2⟩ : Lnk)])), (Sl.mk none 0 ([])), (Sl.mk none 0 ([])), 0⟩ : Topo) (⟨(Sl.mk (some ⟨b14, 0, none⟩) 1 ([0])), (Sl.mk none 0 ([]))⟩ : Fail) 0 1) from ((S.u 3 rfl)).1).wf 1 (by omega))
   refine sp S (tr (gon 29 rfl fun S=>x_move (S.e rfl))<|tr (gon 29 rfl fun S=>x_idx uT22 sZ3 (S.e rfl) (S.e rfl) 1 rfl (by omega) ((show LAt intE _ _ ra_t16 (pathV (⟨(Sl.mk (some ⟨b7, 0, none⟩) 3 ([(⟨⟨#[97]⟩, 0, false, false, ⟨#[]⟩⟩ : Dev), (⟨⟨#[98]⟩, 0, false, false, ⟨#[]⟩⟩ : Dev), (⟨⟨#[99]⟩, 0, false, false, ⟨#[]⟩⟩ : Dev)])), (Sl.mk (some ⟨b11, 0, none⟩) 3 ([(⟨0, 1, 1⟩ : Lnk), (⟨1, 2, 1⟩ : Lnk), (⟨0, 2, 2⟩ : Lnk)])), (Sl.mk none 0 ([])), (Sl.mk none 0 ([])), 0⟩ : Topo) (⟨(Sl.mk (some ⟨b14, 0, none⟩) 1 ([0])), (Sl.mk none 0 ([]))⟩ : Fail) 0 1) from ((S.u 3 rfl)).1).adr (i := 1) (by omega)))<|tr (gon 29 rfl fun S=>x_load sC3 (S.e rfl) ((show LAt intE _ _ ra_t16 (pathV (⟨(Sl.mk (some ⟨b7, 0, none⟩) 3 ([(⟨⟨#[97]⟩, 0, false, false, ⟨#[]⟩⟩ : Dev), (⟨⟨#[98]⟩, 0, false, false, ⟨#[]⟩⟩ : Dev), (⟨⟨#[99]⟩, 0, false, false, ⟨#[]⟩⟩ : Dev)])), (Sl.mk (some ⟨b11, 0, none⟩) 3 ([(⟨0, 1, 1⟩ : Lnk), (⟨1, 2, 1⟩ : Lnk), (⟨0, 2, 2⟩ : Lnk)])), (Sl.mk none 0 ([])), (Sl.mk none 0 ([])), 0⟩ : Topo) (⟨(Sl.mk (some ⟨b14, 0, none⟩) 1 ([0])), (Sl.mk none 0 ([]))⟩ : Fail) 0 1) from ((S.u 3 rfl)).1).cell 1 (by omega) 0 _ rfl))<|tr (gon 29 rfl fun S=>x_eql (S.e rfl) (S.e rfl))<|tr (ov fun S=>x_pickt (S.e rfl) (S.e rfl))<|la (mv rfl)) ?_; clear S; intro a u S
   refine (Classical.em (((pathV (⟨(Sl.mk (some ⟨b7, 0, none⟩) 3 ([(⟨⟨#[97]⟩, 0, false, false, ⟨#[]⟩⟩ : Dev), (⟨⟨#[98]⟩, 0, false, false, ⟨#[]⟩⟩ : Dev), (⟨⟨#[99]⟩, 0, false, false, ⟨#[]⟩⟩ : Dev)])), (Sl.mk (some ⟨b11, 0, none⟩) 3 ([(⟨0, 1, 1⟩ : Lnk), (⟨1, 2, 1⟩ : Lnk), (⟨0, 2, 2⟩ : Lnk)])), (Sl.mk none 0 ([])), (Sl.mk none 0 ([])), 0⟩ : Topo) (⟨(Sl.mk (some ⟨b14, 0, none⟩) 1 ([0])), (Sl.mk none 0 ([]))⟩ : Fail) 0 1).getD 1 intE.dflt) = 2)).elim (fun hs11 => ?_) (fun hs11 => ?_)
   ·replace S := S.ext (d := 35) (v := .bool true) ((S.get 35 rfl).trans (congrArg Value.bool (decide_eq_true hs11)))
    refine sp S (tr (gon 35 rfl fun S=>x_move (S.e rfl))<|tr (gon 35 rfl fun S=>x_len uT22 (S.e rfl))<|tr (gon 35 rfl fun S=>x_eql (S.e rfl) (S.e rfl))<|tr (ov fun S=>x_pickt (S.e rfl) (S.e rfl))<|la (mv rfl)) ?_; clear S; intro a u S
    refine (Classical.em ((((distV (⟨(Sl.mk (some ⟨b7, 0, none⟩) 3 ([(⟨⟨#[97]⟩, 0, false, false, ⟨#[]⟩⟩ : Dev), (⟨⟨#[98]⟩, 0, false, false, ⟨#[]⟩⟩ : Dev), (⟨⟨#[99]⟩, 0, false, false, ⟨#[]⟩⟩ : Dev)])), (Sl.mk (some ⟨b11, 0, none⟩) 3 ([(⟨0, 1, 1⟩ : Lnk), (⟨1, 2, 1⟩ : Lnk), (⟨0, 2, 2⟩ : Lnk)])), (Sl.mk none 0 ([])), (Sl.mk none 0 ([])), 0⟩ : Topo) (⟨(Sl.mk none 0 ([])), (Sl.mk none 0 ([]))⟩ : Fail) 2).length : Nat) : Int) = 3)).elim (fun hs12 => ?_) (fun hs12 => ?_)
    ·replace S := S.ext (d := 40) (v := .bool true) ((S.get 40 rfl).trans (congrArg Value.bool (decide_eq_true hs12)))
     obtain ⟨hl13, hu13⟩ : inI64 ((distV (⟨(Sl.mk (some ⟨b7, 0, none⟩) 3 ([(⟨⟨#[97]⟩, 0, false, false, ⟨#[]⟩⟩ : Dev), (⟨⟨#[98]⟩, 0, false, false, ⟨#[]⟩⟩ : Dev), (⟨⟨#[99]⟩, 0, false, false, ⟨#[]⟩⟩ : Dev)])), (Sl.mk (some ⟨b11, 0, none⟩) 3 ([(⟨0, 1, 1⟩ : Lnk), (⟨1, 2, 1⟩ : Lnk), (⟨0, 2, 2⟩ : Lnk)])), (Sl.mk none 0 ([])), (Sl.mk none 0 ([])), 0⟩ : Topo) (⟨(Sl.mk none 0 ([])), (Sl.mk none 0 ([]))⟩ : Fail) 2).getD 0 intE.dflt) := id ((show LAt intE _ _ ra_t19 (distV (⟨(Sl.mk (some ⟨b7, 0, none⟩) 3 ([(⟨⟨#[97]⟩, 0, false, false, ⟨#[]⟩⟩ : Dev), (⟨⟨#[98]⟩, 0, false, false, ⟨#[]⟩⟩ : Dev), (⟨⟨#[99]⟩, 0, false, false, ⟨#[]⟩⟩ : Dev)])), (Sl.mk (some ⟨b11, 0, none⟩) 3 ([(⟨0, 1, 1⟩ : Lnk), (⟨1, 2, 1⟩ : Lnk), (⟨0, 2, 2⟩ : Lnk)])), (Sl.mk none 0 ([])), (Sl.mk none 0 ([])), 0⟩ : Topo) (⟨(Sl.mk none 0 ([])), (Sl.mk none 0 ([]))⟩ : Fail) 2) from ((S.u 4 rfl)).1).wf 0 (by omega))
     refine sp S (tr (gon 40 rfl fun S=>x_move (S.e rfl))<|tr (gon 40 rfl fun S=>x_idx uT22 sZ3 (S.e rfl) (S.e rfl) 0 rfl (by omega) ((show LAt intE _ _ ra_t19 (distV (⟨(Sl.mk (some ⟨b7, 0, none⟩) 3 ([(⟨⟨#[97]⟩, 0, false, false, ⟨#[]⟩⟩ : Dev), (⟨⟨#[98]⟩, 0, false, false, ⟨#[]⟩⟩ : Dev), (⟨⟨#[99]⟩, 0, false, false, ⟨#[]⟩⟩ : Dev)])), (Sl.mk (some ⟨b11, 0, none⟩) 3 ([(⟨0, 1, 1⟩ : Lnk), (⟨1, 2, 1⟩ : Lnk), (⟨0, 2, 2⟩ : Lnk)])), (Sl.mk none 0 ([])), (Sl.mk none 0 ([])), 0⟩ : Topo) (⟨(Sl.mk none 0 ([])), (Sl.mk none 0 ([]))⟩ : Fail) 2) from ((S.u 4 rfl)).1).adr (i := 0) (by omega)))<|tr (gon 40 rfl fun S=>x_load sC3 (S.e rfl) ((show LAt intE _ _ ra_t19 (distV (⟨(Sl.mk (some ⟨b7, 0, none⟩) 3 ([(⟨⟨#[97]⟩, 0, false, false, ⟨#[]⟩⟩ : Dev), (⟨⟨#[98]⟩, 0, false, false, ⟨#[]⟩⟩ : Dev), (⟨⟨#[99]⟩, 0, false, false, ⟨#[]⟩⟩ : Dev)])), (Sl.mk (some ⟨b11, 0, none⟩) 3 ([(⟨0, 1, 1⟩ : Lnk), (⟨1, 2, 1⟩ : Lnk), (⟨0, 2, 2⟩ : Lnk)])), (Sl.mk none 0 ([])), (Sl.mk none 0 ([])), 0⟩ : Topo) (⟨(Sl.mk none 0 ([])), (Sl.mk none 0 ([]))⟩ : Fail) 2) from ((S.u 4 rfl)).1).cell 0 (by omega) 0 _ rfl))<|tr (gon 40 rfl fun S=>x_eql (S.e rfl) (S.e rfl))<|tr (ov fun S=>x_pickt (S.e rfl) (S.e rfl))<|la (mv rfl)) ?_; clear S; intro a u S
     refine (Classical.em (((distV (⟨(Sl.mk (some ⟨b7, 0, none⟩) 3 ([(⟨⟨#[97]⟩, 0, false, false, ⟨#[]⟩⟩ : Dev), (⟨⟨#[98]⟩, 0, false, false, ⟨#[]⟩⟩ : Dev), (⟨⟨#[99]⟩, 0, false, false, ⟨#[]⟩⟩ : Dev)])), (Sl.mk (some ⟨b11, 0, none⟩) 3 ([(⟨0, 1, 1⟩ : Lnk), (⟨1, 2, 1⟩ : Lnk), (⟨0, 2, 2⟩ : Lnk)])), (Sl.mk none 0 ([])), (Sl.mk none 0 ([])), 0⟩ : Topo) (⟨(Sl.mk none 0 ([])), (Sl.mk none 0 ([]))⟩ : Fail) 2).getD 0 intE.dflt) = 2)).elim (fun hs14 => ?_) (fun hs14 => ?_)
     ·replace S := S.ext (d := 46) (v := .bool true) ((S.get 46 rfl).trans (congrArg Value.bool (decide_eq_true hs14)))
      refine sp S (tr (gon 46 rfl fun S=>x_ldw (S.e rfl) (S.k 0 rfl).all wD28)<|la (gon 46 rfl fun S=>x_bd S [] [.slice none 0 0, .slice none 0 0])) ?_; clear S; intro a u S
      refine strip S.s rfl rfl (gd := 46) rfl ?_
      refine cl S (pLinks _ _ S.x (.nil _) (⟨(Sl.mk (some ⟨b7, 0, none⟩) 3 ([(⟨⟨#[97]⟩, 0, false, false, ⟨#[]⟩⟩ : Dev), (⟨⟨#[98]⟩, 0, false, false, ⟨#[]⟩⟩ : Dev), (⟨⟨#[99]⟩, 0, false, false, ⟨#[]⟩⟩ : Dev)])), (Sl.mk (some ⟨b11, 0, none⟩) 3 ([(⟨0, 1, 1⟩ : Lnk), (⟨1, 2, 1⟩ : Lnk), (⟨0, 2, 2⟩ : Lnk)])), (Sl.mk none 0 ([])), (Sl.mk none 0 ([])), 0⟩ : Topo) ⟨(dn0 (S.u 0 rfl)), (dn0 (S.u 1 rfl)), sl_nil, sl_nil, (show inI64 0 from ⟨by omega, by omega⟩)⟩ (⟨(Sl.mk none 0 ([])), (Sl.mk none 0 ([]))⟩ : Fail) ⟨sl_nil, sl_nil⟩ 0 ⟨by omega, by omega⟩ 2 ⟨by omega, by omega⟩) cB42 ?_
      rintro e u ⟨ra_t49, rc_t49, rfl, R_t49, T0⟩; refine ⟨_, rfl, fun a s => ?_⟩
      replace S := (S.k0 s T0).ar (wfF (slE intE) (Sl.mk ra_t49 rc_t49 (linkV (⟨(Sl.mk (some ⟨b7, 0, none⟩) 3 ([(⟨⟨#[97]⟩, 0, false, false, ⟨#[]⟩⟩ : Dev), (⟨⟨#[98]⟩, 0, false, false, ⟨#[]⟩⟩ : Dev), (⟨⟨#[99]⟩, 0, false, false, ⟨#[]⟩⟩ : Dev)])), (Sl.mk (some ⟨b11, 0, none⟩) 3 ([(⟨0, 1, 1⟩ : Lnk), (⟨1, 2, 1⟩ : Lnk), (⟨0, 2, 2⟩ : Lnk)])), (Sl.mk none 0 ([])), (Sl.mk none 0 ([])), 0⟩ : Topo) (⟨(Sl.mk none 0 ([])), (Sl.mk none 0 ([]))⟩ : Fail) 0 2))) (Enc.up _ R_t49); clear s T0 R_t49
      have hn15 : (linkV (⟨(Sl.mk (some ⟨b7, 0, none⟩) 3 ([(⟨⟨#[97]⟩, 0, false, false, ⟨#[]⟩⟩ : Dev), (⟨⟨#[98]⟩, 0, false, false, ⟨#[]⟩⟩ : Dev), (⟨⟨#[99]⟩, 0, false, false, ⟨#[]⟩⟩ : Dev)])), (Sl.mk (some ⟨b11, 0, none⟩) 3 ([(⟨0, 1, 1⟩ : Lnk), (⟨1, 2, 1⟩ : Lnk), (⟨0, 2, 2⟩ : Lnk)])), (Sl.mk none 0 ([])), (Sl.mk none 0 ([])), 0⟩ : Topo) (⟨(Sl.mk none 0 ([])), (Sl.mk none 0 ([]))⟩ : Fail) 0 2).length ≤ 9223372036854775807 := ((S.u 5 rfl)).1.len
      refine ens S (tr (gon 46 rfl fun S=>x_len uT22 (S.e rfl))<|tr (gon 46 rfl fun S=>x_eql (S.e rfl) (S.e rfl))<|tr (ov fun S=>x_pickt (S.e rfl) (S.e rfl))<|la (av rfl)) ?_; clear S; intro a u S
      refine wp_ret ?_
      refine ret1 rfl S.s rfl ?_
      replace S := S.pk []
      refine ⟨(r1 (vb ?_)), S.m.c⟩
      have hT : isTriP (⟨(Sl.mk (some ⟨b7, 0, none⟩) 3 ([(⟨⟨#[97]⟩, 0, false, false, ⟨#[]⟩⟩ : Dev), (⟨⟨#[98]⟩, 0, false, false, ⟨#[]⟩⟩ : Dev), (⟨⟨#[99]⟩, 0, false, false, ⟨#[]⟩⟩ : Dev)])), (Sl.mk (some ⟨b11, 0, none⟩) 3 ([(⟨0, 1, 1⟩ : Lnk), (⟨1, 2, 1⟩ : Lnk), (⟨0, 2, 2⟩ : Lnk)])), (Sl.mk none 0 ([])), (Sl.mk none 0 ([])), 0⟩ : Topo) := ⟨rfl, rfl, rfl, rfl, rfl⟩
      obtain ⟨g1, g2, g3, g4, g5, g6⟩ := triP_facts hT (f := (⟨⟨none, 0, []⟩, ⟨none, 0, []⟩⟩ : Fail)) (g := (⟨⟨some ⟨b14, 0, none⟩, 1, [0]⟩, ⟨none, 0, []⟩⟩ : Fail)) rfl rfl rfl rfl
      exact ⟨fun _ => trivial, fun _ => by omega⟩
     replace S := S.ext (d := 46) (v := .bool false) ((S.get 46 rfl).trans (congrArg Value.bool (decide_eq_false hs14)))
     refine ens S (tr (goff 46 rfl)<|tr (goff 46 rfl)<|tr (goff 46 rfl)<|tr (goff 46 rfl)<|tr (goff 46 rfl)<|tr (ov fun S=>x_pickf (S.e rfl) (S.e rfl))<|la (av rfl)) ?_; clear S; intro a u S
     refine wp_ret ?_
     refine ret1 rfl S.s rfl ?_
     replace S := S.pk []
     refine ⟨(r1 (vf ?_)), S.m.c⟩
     have hT : isTriP (⟨(Sl.mk (some ⟨b7, 0, none⟩) 3 ([(⟨⟨#[97]⟩, 0, false, false, ⟨#[]⟩⟩ : Dev), (⟨⟨#[98]⟩, 0, false, false, ⟨#[]⟩⟩ : Dev), (⟨⟨#[99]⟩, 0, false, false, ⟨#[]⟩⟩ : Dev)])), (Sl.mk (some ⟨b11, 0, none⟩) 3 ([(⟨0, 1, 1⟩ : Lnk), (⟨1, 2, 1⟩ : Lnk), (⟨0, 2, 2⟩ : Lnk)])), (Sl.mk none 0 ([])), (Sl.mk none 0 ([])), 0⟩ : Topo) := ⟨rfl, rfl, rfl, rfl, rfl⟩
     obtain ⟨g1, g2, g3, g4, g5, g6⟩ := triP_facts hT (f := (⟨⟨none, 0, []⟩, ⟨none, 0, []⟩⟩ : Fail)) (g := (⟨⟨some ⟨b14, 0, none⟩, 1, [0]⟩, ⟨none, 0, []⟩⟩ : Fail)) rfl rfl rfl rfl
     intro _; omega
    replace S := S.ext (d := 40) (v := .bool false) ((S.get 40 rfl).trans (congrArg Value.bool (decide_eq_false hs12)))
    refine ens S (tr (goff 40 rfl)<|tr (goff 40 rfl)<|tr (goff 40 rfl)<|tr (goff 40 rfl)<|tr (ov fun S=>x_pickf (S.e rfl) (S.e rfl))<|tr (mv rfl)<|tr (goff 46 rfl)<|tr (goff 46 rfl)<|tr (goff 46 rfl)<|tr (goff 46 rfl)<|tr (goff 46 rfl)<|tr (ov fun S=>x_pickf (S.e rfl) (S.e rfl))<|la (av rfl)) ?_; clear S; intro a u S
    refine wp_ret ?_
    refine ret1 rfl S.s rfl ?_
    replace S := S.pk []
    refine ⟨(r1 (vf ?_)), S.m.c⟩
    have hT : isTriP (⟨(Sl.mk (some ⟨b7, 0, none⟩) 3 ([(⟨⟨#[97]⟩, 0, false, false, ⟨#[]⟩⟩ : Dev), (⟨⟨#[98]⟩, 0, false, false, ⟨#[]⟩⟩ : Dev), (⟨⟨#[99]⟩, 0, false, false, ⟨#[]⟩⟩ : Dev)])), (Sl.mk (some ⟨b11, 0, none⟩) 3 ([(⟨0, 1, 1⟩ : Lnk), (⟨1, 2, 1⟩ : Lnk), (⟨0, 2, 2⟩ : Lnk)])), (Sl.mk none 0 ([])), (Sl.mk none 0 ([])), 0⟩ : Topo) := ⟨rfl, rfl, rfl, rfl, rfl⟩
    obtain ⟨g1, g2, g3, g4, g5, g6⟩ := triP_facts hT (f := (⟨⟨none, 0, []⟩, ⟨none, 0, []⟩⟩ : Fail)) (g := (⟨⟨some ⟨b14, 0, none⟩, 1, [0]⟩, ⟨none, 0, []⟩⟩ : Fail)) rfl rfl rfl rfl
    intro _; omega
   replace S := S.ext (d := 35) (v := .bool false) ((S.get 35 rfl).trans (congrArg Value.bool (decide_eq_false hs11)))
   refine ens S (tr (goff 35 rfl)<|tr (goff 35 rfl)<|tr (goff 35 rfl)<|tr (ov fun S=>x_pickf (S.e rfl) (S.e rfl))<|tr (mv rfl)<|tr (goff 40 rfl)<|tr (goff 40 rfl)<|tr (goff 40 rfl)<|tr (goff 40 rfl)<|tr (ov fun S=>x_pickf (S.e rfl) (S.e rfl))<|tr (mv rfl)<|tr (goff 46 rfl)<|tr (goff 46 rfl)<|tr (goff 46 rfl)<|tr (goff 46 rfl)<|tr (goff 46 rfl)<|tr (ov fun S=>x_pickf (S.e rfl) (S.e rfl))<|la (av rfl)) ?_; clear S; intro a u S
   refine wp_ret ?_
   refine ret1 rfl S.s rfl ?_
   replace S := S.pk []
   refine ⟨(r1 (vf ?_)), S.m.c⟩
   have hT : isTriP (⟨(Sl.mk (some ⟨b7, 0, none⟩) 3 ([(⟨⟨#[97]⟩, 0, false, false, ⟨#[]⟩⟩ : Dev), (⟨⟨#[98]⟩, 0, false, false, ⟨#[]⟩⟩ : Dev), (⟨⟨#[99]⟩, 0, false, false, ⟨#[]⟩⟩ : Dev)])), (Sl.mk (some ⟨b11, 0, none⟩) 3 ([(⟨0, 1, 1⟩ : Lnk), (⟨1, 2, 1⟩ : Lnk), (⟨0, 2, 2⟩ : Lnk)])), (Sl.mk none 0 ([])), (Sl.mk none 0 ([])), 0⟩ : Topo) := ⟨rfl, rfl, rfl, rfl, rfl⟩
   obtain ⟨g1, g2, g3, g4, g5, g6⟩ := triP_facts hT (f := (⟨⟨none, 0, []⟩, ⟨none, 0, []⟩⟩ : Fail)) (g := (⟨⟨some ⟨b14, 0, none⟩, 1, [0]⟩, ⟨none, 0, []⟩⟩ : Fail)) rfl rfl rfl rfl
   intro _; omega
  replace S := S.ext (d := 29) (v := .bool false) ((S.get 29 rfl).trans (congrArg Value.bool (decide_eq_false hs9)))
  refine ens S (tr (goff 29 rfl)<|tr (goff 29 rfl)<|tr (goff 29 rfl)<|tr (goff 29 rfl)<|tr (ov fun S=>x_pickf (S.e rfl) (S.e rfl))<|tr (mv rfl)<|tr (goff 35 rfl)<|tr (goff 35 rfl)<|tr (goff 35 rfl)<|tr (ov fun S=>x_pickf (S.e rfl) (S.e rfl))<|tr (mv rfl)<|tr (goff 40 rfl)<|tr (goff 40 rfl)<|tr (goff 40 rfl)<|tr (goff 40 rfl)<|tr (ov fun S=>x_pickf (S.e rfl) (S.e rfl))<|tr (mv rfl)<|tr (goff 46 rfl)<|tr (goff 46 rfl)<|tr (goff 46 rfl)<|tr (goff 46 rfl)<|tr (goff 46 rfl)<|tr (ov fun S=>x_pickf (S.e rfl) (S.e rfl))<|la (av rfl)) ?_; clear S; intro a u S
  refine wp_ret ?_
  refine ret1 rfl S.s rfl ?_
  replace S := S.pk []
  refine ⟨(r1 (vf ?_)), S.m.c⟩
  have hT : isTriP (⟨(Sl.mk (some ⟨b7, 0, none⟩) 3 ([(⟨⟨#[97]⟩, 0, false, false, ⟨#[]⟩⟩ : Dev), (⟨⟨#[98]⟩, 0, false, false, ⟨#[]⟩⟩ : Dev), (⟨⟨#[99]⟩, 0, false, false, ⟨#[]⟩⟩ : Dev)])), (Sl.mk (some ⟨b11, 0, none⟩) 3 ([(⟨0, 1, 1⟩ : Lnk), (⟨1, 2, 1⟩ : Lnk), (⟨0, 2, 2⟩ : Lnk)])), (Sl.mk none 0 ([])), (Sl.mk none 0 ([])), 0⟩ : Topo) := ⟨rfl, rfl, rfl, rfl, rfl⟩
  obtain ⟨g1, g2, g3, g4, g5, g6⟩ := triP_facts hT (f := (⟨⟨none, 0, []⟩, ⟨none, 0, []⟩⟩ : Fail)) (g := (⟨⟨some ⟨b14, 0, none⟩, 1, [0]⟩, ⟨none, 0, []⟩⟩ : Fail)) rfl rfl rfl rfl
  intro _; omega
 replace S := S.ext (d := 24) (v := .bool false) ((S.get 24 rfl).trans (congrArg Value.bool (decide_eq_false hs8)))
 refine ens S (tr (goff 24 rfl)<|tr (goff 24 rfl)<|tr (goff 24 rfl)<|tr (ov fun S=>x_pickf (S.e rfl) (S.e rfl))<|tr (mv rfl)<|tr (goff 29 rfl)<|tr (goff 29 rfl)<|tr (goff 29 rfl)<|tr (goff 29 rfl)<|tr (ov fun S=>x_pickf (S.e rfl) (S.e rfl))<|tr (mv rfl)<|tr (goff 35 rfl)<|tr (goff 35 rfl)<|tr (goff 35 rfl)<|tr (ov fun S=>x_pickf (S.e rfl) (S.e rfl))<|tr (mv rfl)<|tr (goff 40 rfl)<|tr (goff 40 rfl)<|tr (goff 40 rfl)<|tr (goff 40 rfl)<|tr (ov fun S=>x_pickf (S.e rfl) (S.e rfl))<|tr (mv rfl)<|tr (goff 46 rfl)<|tr (goff 46 rfl)<|tr (goff 46 rfl)<|tr (goff 46 rfl)<|tr (goff 46 rfl)<|tr (ov fun S=>x_pickf (S.e rfl) (S.e rfl))<|la (av rfl)) ?_; clear S; intro a u S
 refine wp_ret ?_
 refine ret1 rfl S.s rfl ?_
 replace S := S.pk []
 refine ⟨(r1 (vf ?_)), S.m.c⟩
 have hT : isTriP (⟨(Sl.mk (some ⟨b7, 0, none⟩) 3 ([(⟨⟨#[97]⟩, 0, false, false, ⟨#[]⟩⟩ : Dev), (⟨⟨#[98]⟩, 0, false, false, ⟨#[]⟩⟩ : Dev), (⟨⟨#[99]⟩, 0, false, false, ⟨#[]⟩⟩ : Dev)])), (Sl.mk (some ⟨b11, 0, none⟩) 3 ([(⟨0, 1, 1⟩ : Lnk), (⟨1, 2, 1⟩ : Lnk), (⟨0, 2, 2⟩ : Lnk)])), (Sl.mk none 0 ([])), (Sl.mk none 0 ([])), 0⟩ : Topo) := ⟨rfl, rfl, rfl, rfl, rfl⟩
 obtain ⟨g1, g2, g3, g4, g5, g6⟩ := triP_facts hT (f := (⟨⟨none, 0, []⟩, ⟨none, 0, []⟩⟩ : Fail)) (g := (⟨⟨some ⟨b14, 0, none⟩, 1, [0]⟩, ⟨none, 0, []⟩⟩ : Fail)) rfl rfl rfl rfl
 intro _; omega
end Go.Proofs.Ytfanmniaolncbaa.V
