/- the laws: all tolerated states -/
import Derived.Test.YtfanmniaolncbaaW14
import Derived.Test.YtfanmniaolncbaaW15
import Derived.Test.YtfanmniaolncbaaW23
import Derived.Test.YtfanmniaolncbaaW24
namespace Go.Proofs.Ytfanmniaolncbaa.V
open Go.RowKit Go.Proofs.Ytfanmniaolncbaa
set_option linter.unusedVariables false
set_option linter.unusedSimpArgs false
set_option maxHeartbeats 2000000 in
set_option maxRecDepth 20000 in
theorem lAll (w : World) (F : Nat → Prop) (hF : Old F w) (M : MS [] w) (l : Sl Int) (l_w : (slE intE).wf (Fr F []) w.heap l) (x : Topo) (x_w : topoE.wf (Fr F []) w.heap x) :
 Calls Try.prog 3 #[sV l, .agg (topoE.cells x).toArray] w fun e w' => e = .returned (bD (True)) ∧ Tr [] w [] w' := by
 have : l.xs.length ≤ 9223372036854775807 := (l_w).1.len
 have : x.devs.xs.length ≤ 9223372036854775807 := (x_w.1).1.len
 have : x.links.xs.length ≤ 9223372036854775807 := (x_w.2.1).1.len
 have : x.edges.xs.length ≤ 9223372036854775807 := (x_w.2.2.1).1.len
 have : x.pools.xs.length ≤ 9223372036854775807 := (x_w.2.2.2.1).1.len
 obtain ⟨_, _⟩ : inI64 x.tol := x_w.2.2.2.2
 refine go Try.func3 rfl 46 rfl [wfF (slE intE) l, wfF topoE x] [] hF M ⟨l_w, x_w, trivial⟩ trivial ?_
 intro a S
 refine rs0 ?_
 refine nbp S (x_box _ (S.e rfl) rfl) ?_; clear S; intro a u b3 S
 refine ens S (la (av rfl)) ?_; clear S; intro a u S
 refine rs0 ?_
 refine sp S (la (mv rfl)) ?_; clear S; intro a u S
 refine cl S (gNew _ _ S.x (.nil _) l (dn0 (S.u 0 rfl))) cB14 ?_
 rintro e u ⟨T10, rfl, TK, T0⟩; refine ⟨_, rfl, fun a s => ?_⟩; replace S := S.kt s T0 TK; clear s T0 TK
 refine ens S (la (av rfl)) ?_; clear S; intro a u S
 refine wp_seq ?_
 refine rs S (la (av rfl)) ?_; clear S; intro a u S
 refine wp_block ?_
 refine lp1 (fun (i1 : Nat) => [(3, pT b3 0), (5, pT T10 0), (6, iN i1)]) (fun (i1 : Nat) => [blO b3 (topoE.cells x) 28, tpO 62 T10 l]) (fun (i1 : Nat) => i1 ≤ 3) (fun (i1 : Nat) => 3 - i1) S 0 (subM rfl) rfl ?_ ?_
 ·omega
 clear S; intro i1 a u S hR
 have hi := hR
 refine wp_seq ?_
 refine rs S (tr (mv rfl)<|la (lssi rfl rfl)) ?_; clear S; intro a u S
 refine cd S rfl ?_ ?_
 ·intro hc0
  refine wp_skip (then_n (wp_seq (wp_block (rs0 ?_))))
  refine sp S (la (mv rfl)) ?_; clear S; intro a u S
  refine cl S (gTopology _ _ S.x T10 (S.M.pick [1] (by decide)) l (dn1 (js := [1]) (S.u 0 rfl)) (S.t 1 rfl) 5 ⟨by omega, by omega⟩) cB15 ?_
  rintro e u ⟨r_t16, rfl, R_t16, hr_t16, tK, T0⟩; refine ⟨_, rfl, fun a s => ?_⟩
  replace S := (S.k1 1 rfl s T0 tK).ar (wfF topoE r_t16) (Enc.up _ R_t16); clear s T0 tK R_t16
  have HG : genT r_t16 := hr_t16
  have HT := HG.1
  have hB := HG.1.1
  unfold topB at hB
  obtain ⟨-, hB1, hB2, hB3, hB4⟩ := HG
  have hn6 : r_t16.devs.xs.length ≤ 9223372036854775807 := ((S.u 2 rfl).1).1.len
  have hn7 : r_t16.links.xs.length ≤ 9223372036854775807 := ((S.u 2 rfl).2.1).1.len
  have hn8 : r_t16.edges.xs.length ≤ 9223372036854775807 := ((S.u 2 rfl).2.2.1).1.len
  have hn9 : r_t16.pools.xs.length ≤ 9223372036854775807 := ((S.u 2 rfl).2.2.2.1).1.len
  obtain ⟨hl10, hu10⟩ : inI64 r_t16.tol := id ((S.u 2 rfl).2.2.2.2)
  refine nbp S (x_allocz _ iZ28 rfl) ?_; clear S; intro a u b7 S
  refine ens S (la (stkw 2 rfl rfl rfl)) ?_; clear S; intro a u S
  refine rs0 ?_
  refine sp S (tr (mv rfl)<|la (ldkw 2 rfl rfl wD28)) ?_; clear S; intro a u S
  refine cl S (gSpoilT _ _ S.x T10 (S.M.pick [1] (by decide)) l (dn1 (js := [1]) (S.u 0 rfl)) (S.t 1 rfl) r_t16 (dn1 (js := [1]) (S.u 2 rfl)) (⟨by omega, by omega, by omega, by omega⟩)) cB16 ?_
  rintro e u ⟨r_t19, rfl, R_t19, tK, T0⟩; refine ⟨_, rfl, fun a s => ?_⟩
  replace S := (S.k1 1 rfl s T0 tK).ar (wfF topoE r_t19) (Enc.up _ R_t19); clear s T0 tK R_t19
  have hn12 : r_t19.devs.xs.length ≤ 9223372036854775807 := ((S.u 3 rfl).1).1.len
  have hn13 : r_t19.links.xs.length ≤ 9223372036854775807 := ((S.u 3 rfl).2.1).1.len
  have hn14 : r_t19.edges.xs.length ≤ 9223372036854775807 := ((S.u 3 rfl).2.2.1).1.len
  have hn15 : r_t19.pools.xs.length ≤ 9223372036854775807 := ((S.u 3 rfl).2.2.2.1).1.len
  obtain ⟨hl16, hu16⟩ : inI64 r_t19.tol := id ((S.u 3 rfl).2.2.2.2)
  refine nbp S (x_allocz _ iZ28 rfl) ?_; clear S; intro a u b8 S
  refine ens S (la (stkw 3 rfl rfl rfl)) ?_; clear S; intro a u S
  refine wp_seq ?_
  refine dr (P := Try.prog) S 14 [] [(20, .is _), (21, .of (fun z w => ∃ (x21a : Sl Fail), z = sV x21a ∧ (slE failE).wf (Fr F [one b3, one T10, one b7, one b8]) w.heap x21a ∧ x21a.xs.map keyF = allOf r_t16) (fun v w w' c h => let ⟨x21a, hv, h0, h1⟩ := h; ⟨x21a, hv, Enc.kp (slE failE) h0 c (fun _ h => by simp at h), h1⟩)), (22, .is _), (23, .of (fun z w => ∃ (x23a : Sl Fail), z = sV x23a ∧ (slE failE).wf (Fr F [one b3, one T10, one b7, one b8]) w.heap x23a ∧ x23a.xs.map keyF = allOf r_t16) (fun v w w' c h => let ⟨x23a, hv, h0, h1⟩ := h; ⟨x23a, hv, Enc.kp (slE failE) h0 c (fun _ h => by simp at h), h1⟩)), (24, .is (bD (True))), (25, .is _), (26, .is _), (27, .is _), (28, .of (fun z w => (¬ (¬ (True))) → ∃ (x28a : Sl Fail), z = sV x28a ∧ (slE failE).wf (Fr F [one b3, one T10, one b7, one b8]) w.heap x28a ∧ x28a.xs.map keyF = allOf r_t19) (fun v w w' c h hg => let ⟨x28a, hv, h0, h1⟩ := h hg; ⟨x28a, hv, Enc.kp (slE failE) h0 c (fun _ h => by simp at h), h1⟩)), (29, .is _), (30, .of (fun z w => (¬ (¬ (True))) → ∃ (x30a : Sl Fail), z = sV x30a ∧ (slE failE).wf (Fr F [one b3, one T10, one b7, one b8]) w.heap x30a ∧ x30a.xs.map keyF = allOf r_t19) (fun v w w' c h hg => let ⟨x30a, hv, h0, h1⟩ := h hg; ⟨x30a, hv, Enc.kp (slE failE) h0 c (fun _ h => by simp at h), h1⟩)), (31, .is ((if (¬ (¬ (True))) then bD (True) else undef))), (32, .is _), (33, .is _)] [[], [20], [], [22], [21, 23], [24], [25], [26], [26, 27], [26], [26, 29], [26, 28, 30], [26, 31], [26, 32]] [33] _ ⟨qd (ldkw 2 rfl rfl wD28), ?_, qd (ldkw 2 rfl rfl wD28), ?_, ?_, qd (noti rfl), qd (mv rfl), qd (og 26 rfl gf fun S hg=>x_ldw (S.e rfl) (S.k 3 rfl).all wD28), ?_, qd (og 26 rfl gf fun S hg=>x_ldw (S.e rfl) (S.k 3 rfl).all wD28), ?_, ?_, qd (og 26 rfl gf fun S hg=>x_notp (S.p rfl hg)), qd (ori rfl rfl rfl), trivial⟩ ?_
  ·skip
   intro a u S G hE
   refine hcl S (fAll _ _ S.x (.nil _) r_t16 (dn0 (S.u 2 rfl))) cB18 ?_
   rintro e w2 ⟨r_h21, rfl, R_h21, hr_h21, T0⟩; refine ⟨_, rfl, (show ∃ _, _ from ?_), T0.ch, (S.k0 S.s T0).m⟩
   exact ⟨r_h21, rfl, (Enc.up _ R_h21), hr_h21⟩
  ·skip
   intro a u S G hE
   refine hcl S (rAll _ _ S.x (.nil _) r_t16 (dn0 (S.u 2 rfl))) cB19 ?_
   rintro e w2 ⟨r_h23, rfl, R_h23, hr_h23, T0⟩; refine ⟨_, rfl, (show ∃ _, _ from ?_), T0.ch, (S.k0 S.s T0).m⟩
   exact ⟨r_h23, rfl, (Enc.up _ R_h23), hr_h23⟩
  ·skip
   intro a u S G hE
   obtain ⟨e21, e23, -⟩ := hE
   have M0 := S.m
   obtain ⟨x21_17, e21, X17, hr17⟩ := e21
   replace S := S.ext e21
   obtain ⟨x23_18, e23, X18, hr18⟩ := e23
   replace S := S.ext e23
   refine hcl S (rSame _ _ S.x (.nil _) x21_17 (dn0 X17) x23_18 (dn0 X18)) cB17 ?_
   rintro e w2 ⟨rfl, T0⟩; exact ⟨_, rfl, (show _ = _ from (vb (by constructor <;> intro _ <;> first | exact True.intro | (apply Eq.trans; assumption; apply Eq.symm; assumption)))), T0.ch, (M0.k0 T0.ch)⟩
  ·skip
   intro a u S G hE
   refine (Classical.em (¬ (¬ (True)))).symm.elim (fun hg => ?_) fun hg => ?_
   ·exact hng 28 26 S S.m rfl (fun h => hg (gf.2 h)) (show (¬ (¬ (True))) → _ from fun h => absurd h hg)
   refine hcg 26 S rfl (gf.1 hg) (fAll _ _ S.x (.nil _) r_t19 (dn0 (S.u 3 rfl))) cB18 ⟨fun _=>(S.p rfl hg), trivial⟩ ?_
   rintro e w2 ⟨r_h28, rfl, R_h28, hr_h28, T0⟩; refine ⟨_, rfl, (fun _ => ?_), T0.ch, (S.k0 S.s T0).m⟩
   exact ⟨r_h28, rfl, (Enc.up _ R_h28), hr_h28⟩
  ·skip
   intro a u S G hE
   refine (Classical.em (¬ (¬ (True)))).symm.elim (fun hg => ?_) fun hg => ?_
   ·exact hng 30 26 S S.m rfl (fun h => hg (gf.2 h)) (show (¬ (¬ (True))) → _ from fun h => absurd h hg)
   refine hcg 26 S rfl (gf.1 hg) (rAll _ _ S.x (.nil _) r_t19 (dn0 (S.u 3 rfl))) cB19 ⟨fun _=>(S.p rfl hg), trivial⟩ ?_
   rintro e w2 ⟨r_h30, rfl, R_h30, hr_h30, T0⟩; refine ⟨_, rfl, (fun _ => ?_), T0.ch, (S.k0 S.s T0).m⟩
   exact ⟨r_h30, rfl, (Enc.up _ R_h30), hr_h30⟩
  ·skip
   intro a u S G hE
   obtain ⟨e28, e30, -⟩ := hE
   have M0 := S.m
   refine (Classical.em (¬ (¬ (True)))).symm.elim (fun hg => ?_) fun hg => ?_
   ·exact hng 31 26 S M0 rfl (fun h => hg (gf.2 h)) (show _ = _ from (if_neg hg).symm)
   replace e28 := e28 hg
   obtain ⟨x28_19, e28, X19, hr19⟩ := e28
   replace S := S.ext e28
   replace e30 := e30 hg
   obtain ⟨x30_20, e30, X20, hr20⟩ := e30
   replace S := S.ext e30
   refine hcg 26 S rfl (gf.1 hg) (rSame _ _ S.x (.nil _) x28_19 (dn0 X19) x30_20 (dn0 X20)) cB17 ⟨(fun _=>S.e rfl), (fun _=>S.e rfl), trivial⟩ ?_
   rintro e w2 ⟨rfl, T0⟩; exact ⟨_, rfl, (show _ = _ from ((vb (by constructor <;> intro _ <;> first | exact True.intro | (apply Eq.trans; assumption; apply Eq.symm; assumption))).trans (if_pos hg).symm)), T0.ch, (M0.k0 T0.ch)⟩
  clear S; intro a u S G hE
  refine ent ?_
  refine cd S rfl ?_ ?_
  ·intro hc1
   refine rs S (la (av rfl)) ?_; clear S; intro a u S
   refine wp_ret (blk_r (then_r (then_r (blk_r (then_r ?_)))))
   refine ret1 rfl S.s rfl ?_
   replace S := S.pk []
   refine ⟨(r1 (vf ?_)), S.m.c⟩
   first | assumption | trivial | omega | simp_all
  intro hc2
  refine wp_skip (blk_n (then_n ?_))
  refine rg S (tr (mv rfl)<|tr (addi ((i1 + 1 : Nat) : Int) rfl rfl (w_i64 (by omega)))<|la (av rfl)) ?_; clear S; intro a u S
  refine then_n ?_
  refine ⟨(i1 + 1), S.re (subM rfl) rfl rfl, ?_, ?_⟩
  ·omega
  omega
 intro hc3
 refine wp_exit (then_e (then_e (blk_e (then_n (wp_seq ?_)))))
 refine dr (P := Try.prog) S 13 [] [(34, .is _), (35, .is _), (36, .is _), (37, .is _), (38, .of (fun z w => (¬ (hugeT x)) → ∃ (x38a : Sl Fail), z = sV x38a ∧ (slE failE).wf (Fr F [one b3, one T10]) w.heap x38a ∧ x38a.xs.map keyF = allOf x) (fun v w w' c h hg => let ⟨x38a, hv, h0, h1⟩ := h hg; ⟨x38a, hv, Enc.kp (slE failE) h0 c (fun _ h => by simp at h), h1⟩)), (39, .is _), (40, .of (fun z w => (¬ (hugeT x)) → ∃ (x40a : Sl Fail), z = sV x40a ∧ (slE failE).wf (Fr F [one b3, one T10]) w.heap x40a ∧ x40a.xs.map keyF = allOf x) (fun v w w' c h hg => let ⟨x40a, hv, h0, h1⟩ := h hg; ⟨x40a, hv, Enc.kp (slE failE) h0 c (fun _ h => by simp at h), h1⟩)), (41, .is ((if (¬ (hugeT x)) then bD (True) else undef))), (42, .is _), (43, .is _), (44, .is _), (45, .is _), (4, .is _)] [[], [34], [35], [36], [36, 37], [36], [36, 39], [36, 38, 40], [36, 41], [42], [36, 42, 43], [36, 44], [45]] [4] _ ⟨qd (ldkw 0 rfl rfl wD28), qd (oc (fun S=>gHuge _ _ S.x (.nil _) x (dn0 (S.u 1 rfl))) cB20), qd (mv rfl), qd (og 36 rfl gf fun S hg=>x_ldw (S.e rfl) (S.k 0 rfl).all wD28), ?_, qd (og 36 rfl gf fun S hg=>x_ldw (S.e rfl) (S.k 0 rfl).all wD28), ?_, ?_, qd (og 36 rfl gf fun S hg=>x_move (S.p rfl hg)), qd (ocg 42 rfl ggt (fun S hg=>lSane _ _ S.x (.nil _)) cB21 fun S=>trivial), qd (og 36 rfl gf fun S hg=>x_and (S.p rfl hg) (fun hl => (S.p rfl (And.intro hg hl))) (S.e rfl)), qd (ori rfl rfl rfl), qd (av rfl), trivial⟩ ?_
 ·skip
  intro a u S G hE
  refine (Classical.em (¬ (hugeT x))).symm.elim (fun hg => ?_) fun hg => ?_
  ·exact hng 38 36 S S.m rfl (fun h => hg (gf.2 h)) (show (¬ (hugeT x)) → _ from fun h => absurd h hg)
  refine hcg 36 S rfl (gf.1 hg) (fAll _ _ S.x (.nil _) x (dn0 (S.u 1 rfl))) cB18 ⟨fun _=>(S.p rfl hg), trivial⟩ ?_
  rintro e w2 ⟨r_h38, rfl, R_h38, hr_h38, T0⟩; refine ⟨_, rfl, (fun _ => ?_), T0.ch, (S.k0 S.s T0).m⟩
  exact ⟨r_h38, rfl, (Enc.up _ R_h38), hr_h38⟩
 ·skip
  intro a u S G hE
  refine (Classical.em (¬ (hugeT x))).symm.elim (fun hg => ?_) fun hg => ?_
  ·exact hng 40 36 S S.m rfl (fun h => hg (gf.2 h)) (show (¬ (hugeT x)) → _ from fun h => absurd h hg)
  refine hcg 36 S rfl (gf.1 hg) (rAll _ _ S.x (.nil _) x (dn0 (S.u 1 rfl))) cB19 ⟨fun _=>(S.p rfl hg), trivial⟩ ?_
  rintro e w2 ⟨r_h40, rfl, R_h40, hr_h40, T0⟩; refine ⟨_, rfl, (fun _ => ?_), T0.ch, (S.k0 S.s T0).m⟩
  exact ⟨r_h40, rfl, (Enc.up _ R_h40), hr_h40⟩
 ·skip
  intro a u S G hE
  obtain ⟨e38, e40, -⟩ := hE
  have M0 := S.m
  refine (Classical.em (¬ (hugeT x))).symm.elim (fun hg => ?_) fun hg => ?_
  ·exact hng 41 36 S M0 rfl (fun h => hg (gf.2 h)) (show _ = _ from (if_neg hg).symm)
  replace e38 := e38 hg
  obtain ⟨x38_23, e38, X23, hr23⟩ := e38
  replace S := S.ext e38
  replace e40 := e40 hg
  obtain ⟨x40_24, e40, X24, hr24⟩ := e40
  replace S := S.ext e40
  refine hcg 36 S rfl (gf.1 hg) (rSame _ _ S.x (.nil _) x38_23 (dn0 X23) x40_24 (dn0 X24)) cB17 ⟨(fun _=>S.e rfl), (fun _=>S.e rfl), trivial⟩ ?_
  rintro e w2 ⟨rfl, T0⟩; exact ⟨_, rfl, (show _ = _ from ((vb (by constructor <;> intro _ <;> first | exact True.intro | (apply Eq.trans; assumption; apply Eq.symm; assumption))).trans (if_pos hg).symm)), T0.ch, (M0.k0 T0.ch)⟩
 clear S; intro a u S G hE
 refine ent (wp_ret ?_)
 refine ret1 rfl S.s rfl ?_
 replace S := S.pk []
 refine ⟨(r1 (vb ?_)), S.m.c⟩
 first | exact Iff.rfl | assumption | omega | simp_all
end Go.Proofs.Ytfanmniaolncbaa.V
