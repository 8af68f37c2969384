/- connected; one more failure -/
import Derived.Test.YtfanmniaolncbaaW8
import Derived.Test.YtfanmniaolncbaaW9
import Derived.Test.YtfanmniaolncbaaGrpE
namespace Go.Proofs.Ytfanmniaolncbaa.V
open Go.RowKit Go.Proofs.Ytfanmniaolncbaa
set_option linter.unusedVariables false
set_option linter.unusedSimpArgs false
set_option maxHeartbeats 2000000 in
set_option maxRecDepth 20000 in
theorem rConn (w : World) (F : Nat → Prop) (hF : Old F w) (M : MS [] w) (t : Topo) (t_w : topoE.wf (Fr F []) w.heap t) (f : Fail) (f_w : failE.wf (Fr F []) w.heap f) (da : Int) (da_h : inI64 da) (db : Int) (db_h : inI64 db) :
 Calls Try.prog 39 #[.agg (topoE.cells t).toArray, .agg (failE.cells f).toArray, iI da, iI db] w fun e w' => e = .returned (bD (connV t f da db)) ∧ Tr [] w [] w' := by
 have : t.devs.xs.length ≤ 9223372036854775807 := (t_w.1).1.len
 have : t.links.xs.length ≤ 9223372036854775807 := (t_w.2.1).1.len
 have : t.edges.xs.length ≤ 9223372036854775807 := (t_w.2.2.1).1.len
 have : t.pools.xs.length ≤ 9223372036854775807 := (t_w.2.2.2.1).1.len
 obtain ⟨_, _⟩ : inI64 t.tol := t_w.2.2.2.2
 have : f.links.xs.length ≤ 9223372036854775807 := (f_w.1).1.len
 have : f.devs.xs.length ≤ 9223372036854775807 := (f_w.2).1.len
 obtain ⟨da_hl, da_hu⟩ : inI64 da := id da_h
 obtain ⟨db_hl, db_hu⟩ : inI64 db := id db_h
 refine go Try.func39 rfl 34 rfl [wfF topoE t, wfF failE f] [] hF M ⟨t_w, f_w, trivial⟩ trivial ?_
 intro a S
 refine rs0 ?_
 refine nbp S (x_box _ (S.e rfl) rfl) ?_; clear S; intro a u b4 S
 refine nbp S (x_box _ (S.e rfl) rfl) ?_; clear S; intro a u b5 S
 refine ens S (la (av rfl)) ?_; clear S; intro a u S
 refine rs0 ?_
 refine sp S (tr (ldkw 0 rfl rfl wD28)<|la (ldkw 1 rfl rfl wD41)) ?_; clear S; intro a u S
 refine cl S (rComps _ _ S.x (.nil _) t (dn0 (S.u 0 rfl)) f (dn0 (S.u 1 rfl))) cB61 ?_
 rintro e u ⟨ra_t12, rc_t12, rfl, R_t12, T0⟩; refine ⟨_, rfl, fun a s => ?_⟩
 replace S := (S.k0 s T0).ar (wfF (slE intE) (Sl.mk ra_t12 rc_t12 (compsV t f))) (Enc.up _ R_t12); clear s T0 R_t12
 have hn3 : (compsV t f).length ≤ 9223372036854775807 := ((S.u 2 rfl)).1.len
 refine ens S (la (av rfl)) ?_; clear S; intro a u S
 refine wp_seq ?_
 replace S := S.l [(2, iI da), (3, iI db), (4, pT b4 0), (5, pT b5 0), (9, .slice ra_t12 ((compsV t f).length) rc_t12)] (subM rfl)
 refine dr (P := Try.prog) S 22 [] [(13, .is _), (14, .is _), (15, .is _), (16, .is _), (17, .is _), (18, .is _), (19, .is _), (20, .is _), (21, .is _), (22, .is _), (23, .is _), (24, .is _), (25, .is _), (26, .is _), (27, .is _), (28, .is _), (29, .is _), (30, .is _), (31, .is _), (32, .is _), (33, .is _), (8, .is _)] [[], [], [], [13, 14, 15], [16], [17], [17], [17], [17, 18, 19, 20], [17, 21], [22], [23], [23], [23, 24, 25], [23, 26], [23], [23], [23, 28, 29], [23, 30], [23, 27, 31], [23, 32], [33]] [8] _ ⟨qd (ldkw 0 rfl rfl wD28), qd (ldkw 1 rfl rfl wD41), qd (mv rfl), qd (oc (fun S=>rAlive _ _ S.x (.nil _) t (dn0 (S.u 0 rfl)) f (dn0 (S.u 1 rfl)) da da_h) cB60), qd (mv rfl), qd (og 17 rfl gt fun S hg=>x_ldw (S.e rfl) (S.k 0 rfl).all wD28), qd (og 17 rfl gt fun S hg=>x_ldw (S.e rfl) (S.k 1 rfl).all wD41), qd (og 17 rfl gt fun S hg=>x_move (S.e rfl)), qd (ocg 17 rfl gt (fun S hg=>rAlive _ _ S.x (.nil _) t (dn0 (S.u 0 rfl)) f (dn0 (S.u 1 rfl)) db db_h) cB60 fun S=>⟨fun hg=>(S.p rfl hg), fun hg=>(S.p rfl hg), fun hg=>(S.p rfl hg), trivial⟩), qd (andi rfl rfl rfl), qd (mv rfl), qd (og 23 rfl gt fun S hg=>x_move (S.e rfl)), qd (og 23 rfl gt fun S hg=>x_move (S.e rfl)), qd (og 23 rfl gt fun S hg=>x_idx uT22 sZ3 (S.p rfl hg) (S.p rfl hg) (da).toNat (by have := (aliveV_nat hg.1).1; omega) (by exact compsV_lt hg.1) ((show LAt intE _ _ ra_t12 (compsV t f) from ((S.u 2 rfl)).1).adr (i := (da).toNat) (by exact compsV_lt hg.1))), qd (og 23 rfl gt fun S hg=>x_load sC3 (S.p rfl hg) ((show LAt intE _ _ ra_t12 (compsV t f) from ((S.u 2 rfl)).1).cell (da).toNat (by exact compsV_lt hg.1) 0 _ rfl)), qd (og 23 rfl gt fun S hg=>x_move (S.e rfl)), qd (og 23 rfl gt fun S hg=>x_move (S.e rfl)), qd (og 23 rfl gt fun S hg=>x_idx uT22 sZ3 (S.p rfl hg) (S.p rfl hg) (db).toNat (by have := (aliveV_nat hg.2).1; omega) (by exact compsV_lt hg.2) ((show LAt intE _ _ ra_t12 (compsV t f) from ((S.u 2 rfl)).1).adr (i := (db).toNat) (by exact compsV_lt hg.2))), qd (og 23 rfl gt fun S hg=>x_load sC3 (S.p rfl hg) ((show LAt intE _ _ ra_t12 (compsV t f) from ((S.u 2 rfl)).1).cell (db).toNat (by exact compsV_lt hg.2) 0 _ rfl)), qd (og 23 rfl gt fun S hg=>x_eql (S.p rfl hg) (S.p rfl hg)), qd (andi rfl rfl rfl), qd (av rfl), trivial⟩ ?_
 clear S; intro a u S G hE
 obtain ⟨hl4, hu4⟩ : inI64 da := id da_h
 refine ent (wp_ret ?_)
 refine ret1 rfl S.s rfl ?_
 replace S := S.pk []
 refine ⟨(r1 (vb ?_)), S.m.c⟩
 exact compsV_conn.symm
end Go.Proofs.Ytfanmniaolncbaa.V
