/- the laws: equivalence -/
import Derived.Test.YtfanmniaolncbaaW14
import Derived.Test.YtfanmniaolncbaaW15
import Derived.Test.YtfanmniaolncbaaLawM
namespace Go.Proofs.Ytfanmniaolncbaa.V
open Go.RowKit Go.Proofs.Ytfanmniaolncbaa
set_option linter.unusedVariables false
set_option linter.unusedSimpArgs false
set_option maxHeartbeats 2000000 in
set_option maxRecDepth 20000 in
theorem lEquiv (w : World) (F : Nat → Prop) (hF : Old F w) (M : MS [] w) (l : Sl Int) (l_w : (slE intE).wf (Fr F []) w.heap l) :
 Calls Try.prog 7 #[sV l] w fun e w' => e = .returned (bD (True)) ∧ Tr [] w [] w' := by
 have C : Tr [] w [] w := Tr.refl M
 have : l.xs.length ≤ 9223372036854775807 := (l_w).1.len
 refine enter Try.func7 rfl 136 rfl (Nat.le_of_ble_eq_true rfl) ?_
 intro a S
 refine qs ?_
 refine qa S rfl ?_; clear S a; intro a S
 refine qt ?_
 refine qs ?_
 refine qm S rfl ?_; clear S a; intro a S
 refine seq_call S (by decide) (vs := #[sV l]) rfl callable_14 (gNew _ (Ex F _) (C.old hF)  (MS.nil _) l ((slE intE).down0 l_w)) ?_
 rintro e w1 ⟨T1, rfl, TK1, T0⟩; refine ⟨_, rfl, ?_⟩; clear S a; intro a S
 have TT : Tr [] w [one T1] w1 := Tr.frame (nw := [one T1]) C.ms T0 (fun _ h => by simp at h); have G := T0.ch
 replace l_w := Enc.tr (slE intE) l_w TT
 replace C := C.trans TT
 clear T0 G TT
 refine qa S rfl ?_; clear S a; intro a S
 refine qt ?_
 refine qs ?_
 refine qm S rfl ?_; clear S a; intro a S
 refine seq_call S (by decide) (vs := #[pT T1 0, iI 6]) rfl callable_15 (gTopology _ (Ex F _) (C.old hF) T1 (C.ms.picks [0] (by decide)) l ((slE intE).dn l_w) TK1 6 ⟨by omega, by omega⟩) ?_
 rintro e w2 ⟨r_2, rfl, R_2, hr_2, tTK1, T0⟩; refine ⟨_, rfl, ?_⟩; clear S a; intro a S
 have TT := Tr.fra C.ms T0; have G := T0.ch
 replace l_w := Enc.tr (slE intE) l_w TT
 replace C := C.trans TT
 clear TK1; have TK1 := tTK1; clear tTK1
 replace R_2 := Enc.up (topoE) R_2
 clear T0 G TT
 have HG : genT r_2 := hr_2
 have HT := HG.1
 have hB := HG.1.1
 unfold topB at hB
 obtain ⟨-, hB1, hB2, hB3, hB4⟩ := HG
 have hn3 : r_2.devs.xs.length ≤ 9223372036854775807 := (R_2.1).1.len
 have hn4 : r_2.links.xs.length ≤ 9223372036854775807 := (R_2.2.1).1.len
 have hn5 : r_2.edges.xs.length ≤ 9223372036854775807 := (R_2.2.2.1).1.len
 have hn6 : r_2.pools.xs.length ≤ 9223372036854775807 := (R_2.2.2.2.1).1.len
 obtain ⟨hl7, hu7⟩ : inI64 r_2.tol := id R_2.2.2.2.2
 refine seq_new S rfl rfl (by decide) (fun b => pT b 0) (cs := [.slice none 0 0, .slice none 0 0, .slice none 0 0, .slice none 0 0, iI 0]) (x_allocz [.slice none 0 0, .slice none 0 0, .slice none 0 0, .slice none 0 0, iI 0] infoz_28 rfl) ?_
 clear S a; intro a w3 b8 hb8 hbs8 G K8 S; have hbl8 : b8 < w3.heap.size := by omega
 have TT := Tr.fresh C.ms hb8 hbl8 G
 replace l_w := Enc.tr (slE intE) l_w TT
 replace TK1 := TpB.tr0 TK1 G
 replace R_2 := Enc.tr (topoE) R_2 TT
 replace C := C.trans TT
 clear TT G
 refine seq_storew S rfl rfl (vs := (tL r_2)) (x_storew (by kernel_rfl) (S.e rfl) (S.e rfl) rfl K8 rfl) K8 ?_
 clear S a; intro a w4 G hz K S; clear hz; have TT := Tr.och C.ms G
 replace l_w := Enc.tr (slE intE) l_w TT
 replace TK1 := TpB.tr TK1 G (C.ms.sep.out 1 [0] rfl rfl rfl)
 replace R_2 := Enc.tr (topoE) R_2 TT
 replace C := C.trans TT
 clear K8; have K8 := K; clear K TT G
 refine qt ?_
 refine qs ?_
 refine qm S rfl ?_; clear S a; intro a S
 refine qv S _ (x_loadw (tL r_2) ⟨_, Try.underlying28, rfl, by kernel_rfl⟩ (S.e rfl) (K8.mid [] _ [] rfl _ rfl)) ?_; clear S a; intro a S
 refine seq_call S (by decide) (vs := #[pT T1 0, tV r_2]) rfl callable_25 (gFailure _ (Ex F _) (C.old hF) T1 (C.ms.picks [1] (by decide)) l ((slE intE).dn l_w) TK1 r_2 ((topoE).dn R_2) (by omega)) ?_
 rintro e w5 ⟨r_9, rfl, R_9, hr_9, tTK1, T0⟩; refine ⟨_, rfl, ?_⟩; clear S a; intro a S
 have TT := Tr.fra C.ms T0; have G := T0.ch
 replace l_w := Enc.tr (slE intE) l_w TT
 replace R_2 := Enc.tr (topoE) R_2 TT
 replace K8 := Blk.tr K8 G (C.ms.sep.out 0 [1] rfl rfl rfl)
 replace C := C.trans TT
 clear TK1; have TK1 := tTK1; clear tTK1
 replace R_9 := Enc.up (failE) R_9
 clear T0 G TT
 have HV := failR_valid hr_9 HT
 have hn10 : r_9.links.xs.length ≤ 9223372036854775807 := (R_9.1).1.len
 have hn11 : r_9.devs.xs.length ≤ 9223372036854775807 := (R_9.2).1.len
 refine seq_new S rfl rfl (by decide) (fun b => pT b 0) (cs := [.slice none 0 0, .slice none 0 0]) (x_allocz [.slice none 0 0, .slice none 0 0] infoz_41 rfl) ?_
 clear S a; intro a w6 b12 hb12 hbs12 G K12 S; have hbl12 : b12 < w6.heap.size := by omega
 have TT := Tr.fresh C.ms hb12 hbl12 G
 replace l_w := Enc.tr (slE intE) l_w TT
 replace TK1 := TpB.tr0 TK1 G
 replace R_2 := Enc.tr (topoE) R_2 TT
 replace K8 := Blk.tr0 K8 G
 replace R_9 := Enc.tr (failE) R_9 TT
 replace C := C.trans TT
 clear TT G
 refine seq_storew S rfl rfl (vs := (fL r_9)) (x_storew (by kernel_rfl) (S.e rfl) (S.e rfl) rfl K12 rfl) K12 ?_
 clear S a; intro a w7 G hz K S; clear hz; have TT := Tr.och C.ms G
 replace l_w := Enc.tr (slE intE) l_w TT
 replace TK1 := TpB.tr TK1 G (C.ms.sep.out 2 [0] rfl rfl rfl)
 replace R_2 := Enc.tr (topoE) R_2 TT
 replace K8 := Blk.tr K8 G (C.ms.sep.out 1 [0] rfl rfl rfl)
 replace R_9 := Enc.tr (failE) R_9 TT
 replace C := C.trans TT
 clear K12; have K12 := K; clear K TT G
 refine qt ?_
 refine qs ?_
 refine qv S _ (x_loadw (tL r_2) ⟨_, Try.underlying28, rfl, by kernel_rfl⟩ (S.e rfl) (K8.mid [] _ [] rfl _ rfl)) ?_; clear S a; intro a S
 refine qv S _ (x_loadw (fL r_9) ⟨_, Try.underlying41, rfl, by kernel_rfl⟩ (S.e rfl) (K12.mid [] _ [] rfl _ rfl)) ?_; clear S a; intro a S
 refine seq_call S (by decide) (vs := #[tV r_2, fV r_9]) rfl callable_33 (fComps _ (Ex F _) (C.old hF)  (MS.nil _) r_2 ((topoE).down0 R_2) r_9 ((failE).down0 R_9)) ?_
 rintro e w8 ⟨ra_13, rc_13, rfl, R_13, T0⟩; refine ⟨_, rfl, ?_⟩; clear S a; intro a S
 have TT := Tr.framed0 C.ms T0; have G := T0.ch
 replace l_w := Enc.tr (slE intE) l_w TT
 replace TK1 := TpB.tr0 TK1 G
 replace R_2 := Enc.tr (topoE) R_2 TT
 replace K8 := Blk.tr0 K8 G
 replace R_9 := Enc.tr (failE) R_9 TT
 replace K12 := Blk.tr0 K12 G
 replace C := C.trans TT
 replace R_13 := Enc.up (slE intE) R_13
 clear T0 G TT
 have hcl := compsV_len HV
 have e0 : intE.dflt = 0 := rfl
 have hn14 : (compsV r_2 r_9).length ≤ 9223372036854775807 := (R_13).1.len
 refine qa S rfl ?_; clear S a; intro a S
 refine qt ?_
 refine qs ?_
 refine qv S (pT b8 (0 + 0)) (x_fld (z := 0) (0) 0 Try.underlying28 rfl rfl (by kernel_rfl) (S.e rfl)) ?_; clear S a; intro a S
 refine qv S (sV r_2.devs) (x_load ⟨_, Try.underlying23, rfl⟩ (S.e rfl) (K8.cell (j := 0) rfl)) ?_; clear S a; intro a S
 refine qv S (iN r_2.devs.xs.length) (x_len Try.underlying23 (S.e rfl)) ?_; clear S a; intro a S
 refine qa S rfl ?_; clear S a; intro a S
 refine qt ?_
 refine wp_seq ?_
 refine qs ?_
 refine qm S rfl ?_; clear S a; intro a S
 refine qv S (iN (compsV r_2 r_9).length) (x_len Try.underlying22 (S.e rfl)) ?_; clear S a; intro a S
 refine qm S rfl ?_; clear S a; intro a S
 refine qv S (bD (¬ (((compsV r_2 r_9).length : Nat) : Int) = ((r_2.devs.xs.length : Nat) : Int))) (x_neq (S.e rfl) (S.e rfl)) ?_; clear S a; intro a S
 refine qt ?_
 refine cond_dec S rfl ?_ ?_
 ·intro hc0
  refine qs ?_
  refine qa S rfl ?_; clear S a; intro a S
  refine qt ?_
  refine wp_ret ?_
  refine then_r ?_
  refine ret1 rfl S rfl ?_
  have TD : Tr [one b12, one b8, one T1] w8 [] w8 := Tr.drop C.ms [] (by decide)
  have GD : Ch (In []) w8 w8 := Ch.refl _
  clear TK1
  clear K8
  clear K12
  replace l_w := Enc.tr (slE intE) l_w TD
  replace R_2 := Enc.tr (topoE) R_2 TD
  replace R_9 := Enc.tr (failE) R_9 TD
  replace R_13 := Enc.tr (slE intE) R_13 TD
  replace C := C.trans TD
  clear TD GD
  refine ⟨(r1 (vf ?_)), C⟩
  intro _; omega
 intro hc1
 refine wp_skip ?_
 refine then_n ?_
 refine wp_seq ?_
 refine qs ?_
 refine qa S rfl ?_; clear S a; intro a S
 refine qt ?_
 refine wp_block ?_
 refine wp_loop_ghost (fun m a wr => ∃ a1 : Nat, Slots 136 [(4, pT b8 0), (5, pT b12 0), (6, .slice ra_13 ((compsV r_2 r_9).length) rc_13), (7, iN r_2.devs.xs.length), (8, iN a1)] a ∧ Tr [one b12, one b8, one T1] w8 [one b12, one b8, one T1] wr ∧ (a1 ≤ r_2.devs.xs.length ∧ True) ∧ TpB 62 T1 l wr ∧ Blk wr.heap b8 (tL r_2) 28 ∧ Blk wr.heap b12 (fL r_9) 41 ∧ (r_2.devs.xs.length - a1) = m) (r_2.devs.xs.length - 0) ?_ ?_
 ·refine ⟨0, S.sub ⟨rfl, rfl, rfl, rfl, rfl, trivial⟩, Tr.refl C.ms, ?_, TK1, K8, K12, rfl⟩
  exact ⟨Nat.zero_le _, by trivial⟩
 rintro m a w9 ⟨a1, S, G, hR, TK1', K8', K12', rfl⟩
 clear TK1; have TK1 := TK1'; clear TK1'
 clear K8; have K8 := K8'; clear K8'
 clear K12; have K12 := K12'; clear K12'
 replace l_w := Enc.tr (slE intE) l_w G
 replace R_2 := Enc.tr (topoE) R_2 G
 replace R_9 := Enc.tr (failE) R_9 G
 replace R_13 := Enc.tr (slE intE) R_13 G
 replace C := C.trans G
 have GL0 := G; clear G
 obtain ⟨ha1, hxa1⟩ := hR
 refine wp_seq ?_
 refine qs ?_
 refine qm S rfl ?_; clear S a; intro a S
 refine qm S rfl ?_; clear S a; intro a S
 refine qv S (bD (((a1 : Nat) : Int) < ((r_2.devs.xs.length : Nat) : Int))) (x_lss (S.e rfl) (S.e rfl)) ?_; clear S a; intro a S
 refine qt ?_
 refine cond_dec S rfl ?_ ?_
 ·intro hc2
  refine wp_skip ?_
  refine then_n ?_
  refine wp_seq ?_
  refine wp_block ?_
  refine wp_seq ?_
  refine wp_seq ?_
  replace S := S.sub (L' := [(4, pT b8 0), (5, pT b12 0), (6, .slice ra_13 ((compsV r_2 r_9).length) rc_13), (7, iN r_2.devs.xs.length), (8, iN a1), (28, iN a1), (29, iN r_2.devs.xs.length), (30, bD (((a1 : Nat) : Int) < ((r_2.devs.xs.length : Nat) : Int)))]) ⟨rfl, rfl, rfl, rfl, rfl, rfl, rfl, rfl, trivial⟩
  refine wp_heads (M := In []) S 30 [(33, iV (tV r_2)), (34, iV (fV r_9)), (35, iV (iN a1)), (36, iV (iN a1)), (37, iV (bD (connV r_2 r_9 ((a1 : Nat) : Int) ((a1 : Nat) : Int)))), (38, iV (tV r_2)), (39, iV (fV r_9)), (40, iV (iN a1)), (41, iV (bD (aliveV r_2 r_9 ((a1 : Nat) : Int)))), (42, iV (bD (¬ ((connV r_2 r_9 ((a1 : Nat) : Int) ((a1 : Nat) : Int)) ↔ (aliveV r_2 r_9 ((a1 : Nat) : Int)))))), (43, iV (bD (¬ ((connV r_2 r_9 ((a1 : Nat) : Int) ((a1 : Nat) : Int)) ↔ (aliveV r_2 r_9 ((a1 : Nat) : Int)))))), (44, iV ((if (¬ (¬ ((connV r_2 r_9 ((a1 : Nat) : Int) ((a1 : Nat) : Int)) ↔ (aliveV r_2 r_9 ((a1 : Nat) : Int))))) then .slice ra_13 ((compsV r_2 r_9).length) rc_13 else undef))), (45, iV ((if (¬ (¬ ((connV r_2 r_9 ((a1 : Nat) : Int) ((a1 : Nat) : Int)) ↔ (aliveV r_2 r_9 ((a1 : Nat) : Int))))) then iN a1 else undef))), (46, iV ((if (¬ (¬ ((connV r_2 r_9 ((a1 : Nat) : Int) ((a1 : Nat) : Int)) ↔ (aliveV r_2 r_9 ((a1 : Nat) : Int))))) then pT (blk ra_13) (off ra_13 + a1 * 1) else undef))), (47, iV ((if (¬ (¬ ((connV r_2 r_9 ((a1 : Nat) : Int) ((a1 : Nat) : Int)) ↔ (aliveV r_2 r_9 ((a1 : Nat) : Int))))) then iI ((compsV r_2 r_9).getD a1 intE.dflt) else undef))), (48, iV ((if (¬ (¬ ((connV r_2 r_9 ((a1 : Nat) : Int) ((a1 : Nat) : Int)) ↔ (aliveV r_2 r_9 ((a1 : Nat) : Int))))) then bD (((compsV r_2 r_9).getD a1 intE.dflt) < 0) else undef))), (49, iV ((if (¬ (¬ ((connV r_2 r_9 ((a1 : Nat) : Int) ((a1 : Nat) : Int)) ↔ (aliveV r_2 r_9 ((a1 : Nat) : Int))))) then tV r_2 else undef))), (50, iV ((if (¬ (¬ ((connV r_2 r_9 ((a1 : Nat) : Int) ((a1 : Nat) : Int)) ↔ (aliveV r_2 r_9 ((a1 : Nat) : Int))))) then fV r_9 else undef))), (51, iV ((if (¬ (¬ ((connV r_2 r_9 ((a1 : Nat) : Int) ((a1 : Nat) : Int)) ↔ (aliveV r_2 r_9 ((a1 : Nat) : Int))))) then iN a1 else undef))), (52, iV ((if (¬ (¬ ((connV r_2 r_9 ((a1 : Nat) : Int) ((a1 : Nat) : Int)) ↔ (aliveV r_2 r_9 ((a1 : Nat) : Int))))) then bD (aliveV r_2 r_9 ((a1 : Nat) : Int)) else undef))), (53, iV ((if (¬ (¬ ((connV r_2 r_9 ((a1 : Nat) : Int) ((a1 : Nat) : Int)) ↔ (aliveV r_2 r_9 ((a1 : Nat) : Int))))) then bD (((((compsV r_2 r_9).getD a1 intE.dflt) < 0) ↔ (aliveV r_2 r_9 ((a1 : Nat) : Int)))) else undef))), (54, iV (bD ((¬ ((connV r_2 r_9 ((a1 : Nat) : Int) ((a1 : Nat) : Int)) ↔ (aliveV r_2 r_9 ((a1 : Nat) : Int)))) ∨ (((((compsV r_2 r_9).getD a1 intE.dflt) < 0) ↔ (aliveV r_2 r_9 ((a1 : Nat) : Int))))))), (55, iV (bD ((¬ ((connV r_2 r_9 ((a1 : Nat) : Int) ((a1 : Nat) : Int)) ↔ (aliveV r_2 r_9 ((a1 : Nat) : Int)))) ∨ (((((compsV r_2 r_9).getD a1 intE.dflt) < 0) ↔ (aliveV r_2 r_9 ((a1 : Nat) : Int))))))), (56, iV ((if (¬ ((¬ ((connV r_2 r_9 ((a1 : Nat) : Int) ((a1 : Nat) : Int)) ↔ (aliveV r_2 r_9 ((a1 : Nat) : Int)))) ∨ (((((compsV r_2 r_9).getD a1 intE.dflt) < 0) ↔ (aliveV r_2 r_9 ((a1 : Nat) : Int)))))) then .slice ra_13 ((compsV r_2 r_9).length) rc_13 else undef))), (57, iV ((if (¬ ((¬ ((connV r_2 r_9 ((a1 : Nat) : Int) ((a1 : Nat) : Int)) ↔ (aliveV r_2 r_9 ((a1 : Nat) : Int)))) ∨ (((((compsV r_2 r_9).getD a1 intE.dflt) < 0) ↔ (aliveV r_2 r_9 ((a1 : Nat) : Int)))))) then iN a1 else undef))), (58, iV ((if (¬ ((¬ ((connV r_2 r_9 ((a1 : Nat) : Int) ((a1 : Nat) : Int)) ↔ (aliveV r_2 r_9 ((a1 : Nat) : Int)))) ∨ (((((compsV r_2 r_9).getD a1 intE.dflt) < 0) ↔ (aliveV r_2 r_9 ((a1 : Nat) : Int)))))) then pT (blk ra_13) (off ra_13 + a1 * 1) else undef))), (59, iV ((if (¬ ((¬ ((connV r_2 r_9 ((a1 : Nat) : Int) ((a1 : Nat) : Int)) ↔ (aliveV r_2 r_9 ((a1 : Nat) : Int)))) ∨ (((((compsV r_2 r_9).getD a1 intE.dflt) < 0) ↔ (aliveV r_2 r_9 ((a1 : Nat) : Int)))))) then iI ((compsV r_2 r_9).getD a1 intE.dflt) else undef))), (60, iV ((if (¬ ((¬ ((connV r_2 r_9 ((a1 : Nat) : Int) ((a1 : Nat) : Int)) ↔ (aliveV r_2 r_9 ((a1 : Nat) : Int)))) ∨ (((((compsV r_2 r_9).getD a1 intE.dflt) < 0) ↔ (aliveV r_2 r_9 ((a1 : Nat) : Int)))))) then iN a1 else undef))), (61, iV ((if (¬ ((¬ ((connV r_2 r_9 ((a1 : Nat) : Int) ((a1 : Nat) : Int)) ↔ (aliveV r_2 r_9 ((a1 : Nat) : Int)))) ∨ (((((compsV r_2 r_9).getD a1 intE.dflt) < 0) ↔ (aliveV r_2 r_9 ((a1 : Nat) : Int)))))) then bD (((a1 : Nat) : Int) < ((compsV r_2 r_9).getD a1 intE.dflt)) else undef))), (62, iV (bD (((¬ ((connV r_2 r_9 ((a1 : Nat) : Int) ((a1 : Nat) : Int)) ↔ (aliveV r_2 r_9 ((a1 : Nat) : Int)))) ∨ (((((compsV r_2 r_9).getD a1 intE.dflt) < 0) ↔ (aliveV r_2 r_9 ((a1 : Nat) : Int))))) ∨ (((a1 : Nat) : Int) < ((compsV r_2 r_9).getD a1 intE.dflt)))))] (fun w => True) [[], [], [], [], [33, 34, 35, 36], [], [], [], [38, 39, 40], [37, 41], [42], [43], [43], [43, 44, 45], [43, 46], [43, 47], [43], [43], [43], [43, 49, 50, 51], [43, 48, 52], [43, 53], [54], [55], [55], [55, 56, 57], [55, 58], [55], [55, 59, 60], [55, 61]] [62] _ rfl mixed (by kernel_rfl) rfl trivial ?_ ?_
  ·refine ⟨?_, ?_, ?_, ?_, ?_, ?_, ?_, ?_, ?_, ?_, ?_, ?_, ?_, ?_, ?_, ?_, ?_, ?_, ?_, ?_, ?_, ?_, ?_, ?_, ?_, ?_, ?_, ?_, ?_, ?_, trivial⟩
   ·intro a w10 G I S hE
    have TT := Tr.of_ch C.ms G (fun _ h => by simp at h)
    replace R_2 := Enc.tr (topoE) R_2 TT
    replace K8 := Blk.tr0 K8 G
    replace C := C.trans TT
    exact qo (tV r_2) (x_loadw (tL r_2) ⟨_, Try.underlying28, rfl, by kernel_rfl⟩ (S.e rfl) (K8.mid [] (tL r_2) [] rfl _ rfl)) I
   ·intro a w11 G I S hE
    have TT := Tr.of_ch C.ms G (fun _ h => by simp at h)
    replace R_9 := Enc.tr (failE) R_9 TT
    replace K12 := Blk.tr0 K12 G
    replace C := C.trans TT
    exact qo (fV r_9) (x_loadw (fL r_9) ⟨_, Try.underlying41, rfl, by kernel_rfl⟩ (S.e rfl) (K12.mid [] (fL r_9) [] rfl _ rfl)) I
   ·intro a w12 G I S hE
    have TT := Tr.of_ch C.ms G (fun _ h => by simp at h)
    replace C := C.trans TT
    exact qo (iN a1) (x_move (S.e rfl)) I
   ·intro a w13 G I S hE
    have TT := Tr.of_ch C.ms G (fun _ h => by simp at h)
    replace C := C.trans TT
    exact qo (iN a1) (x_move (S.e rfl)) I
   ·intro a w14 G I S hE
    have TT := Tr.of_ch C.ms G (fun _ h => by simp at h)
    replace R_2 := Enc.tr (topoE) R_2 TT
    replace R_9 := Enc.tr (failE) R_9 TT
    replace C := C.trans TT
    obtain ⟨e33, e34, e35, e36, _⟩ := hE
    replace S := S.ext e33
    replace S := S.ext e34
    replace S := S.ext e35
    replace S := S.ext e36
    refine head_op rfl rfl (op_call (vs := #[tV r_2, fV r_9, iN a1, iN a1]) (by simp only [List.map_toArray, List.map_cons, List.map_nil, show a.eval (.tmp 33) = tV r_2 from (S.e rfl), show a.eval (.tmp 34) = fV r_9 from (S.e rfl), show a.eval (.tmp 35) = iN a1 from (S.e rfl), show a.eval (.tmp 36) = iN a1 from (S.e rfl)]) callable_27 (fConn _ (Ex F _) (C.old hF)  (MS.nil _) r_2 ((topoE).down0 R_2) r_9 ((failE).down0 R_9) ((a1 : Nat) : Int) ⟨by omega, by omega⟩ ((a1 : Nat) : Int) ⟨by omega, by omega⟩) ?_)
    rintro e w2 ⟨rfl, T0⟩; exact ⟨_, rfl, Done.mk' rfl (by decide) (show _ = _ from rfl) T0.ch trivial⟩
   ·intro a w15 G I S hE
    have TT := Tr.of_ch C.ms G (fun _ h => by simp at h)
    replace R_2 := Enc.tr (topoE) R_2 TT
    replace K8 := Blk.tr0 K8 G
    replace C := C.trans TT
    exact qo (tV r_2) (x_loadw (tL r_2) ⟨_, Try.underlying28, rfl, by kernel_rfl⟩ (S.e rfl) (K8.mid [] (tL r_2) [] rfl _ rfl)) I
   ·intro a w16 G I S hE
    have TT := Tr.of_ch C.ms G (fun _ h => by simp at h)
    replace R_9 := Enc.tr (failE) R_9 TT
    replace K12 := Blk.tr0 K12 G
    replace C := C.trans TT
    exact qo (fV r_9) (x_loadw (fL r_9) ⟨_, Try.underlying41, rfl, by kernel_rfl⟩ (S.e rfl) (K12.mid [] (fL r_9) [] rfl _ rfl)) I
   ·intro a w17 G I S hE
    have TT := Tr.of_ch C.ms G (fun _ h => by simp at h)
    replace C := C.trans TT
    exact qo (iN a1) (x_move (S.e rfl)) I
   ·intro a w18 G I S hE
    have TT := Tr.of_ch C.ms G (fun _ h => by simp at h)
    replace R_2 := Enc.tr (topoE) R_2 TT
    replace R_9 := Enc.tr (failE) R_9 TT
    replace C := C.trans TT
    obtain ⟨e38, e39, e40, _⟩ := hE
    replace S := S.ext e38
    replace S := S.ext e39
    replace S := S.ext e40
    refine head_op rfl rfl (op_call (vs := #[tV r_2, fV r_9, iN a1]) (by simp only [List.map_toArray, List.map_cons, List.map_nil, show a.eval (.tmp 38) = tV r_2 from (S.e rfl), show a.eval (.tmp 39) = fV r_9 from (S.e rfl), show a.eval (.tmp 40) = iN a1 from (S.e rfl)]) callable_34 (fAlive _ (Ex F _) (C.old hF)  (MS.nil _) r_2 ((topoE).down0 R_2) r_9 ((failE).down0 R_9) ((a1 : Nat) : Int) ⟨by omega, by omega⟩) ?_)
    rintro e w2 ⟨rfl, T0⟩; exact ⟨_, rfl, Done.mk' rfl (by decide) (show _ = _ from rfl) T0.ch trivial⟩
   ·intro a w19 G I S hE
    have TT := Tr.of_ch C.ms G (fun _ h => by simp at h)
    replace C := C.trans TT
    obtain ⟨e37, e41, _⟩ := hE
    replace S := S.ext e37
    replace S := S.ext e41
    exact qo (bD (¬ ((connV r_2 r_9 ((a1 : Nat) : Int) ((a1 : Nat) : Int)) ↔ (aliveV r_2 r_9 ((a1 : Nat) : Int))))) (x_bpneq Try.underlying4 (S.e rfl) (S.e rfl)) I
   ·intro a w20 G I S hE
    have TT := Tr.of_ch C.ms G (fun _ h => by simp at h)
    replace C := C.trans TT
    obtain ⟨e42, _⟩ := hE
    replace S := S.ext e42
    exact qo (bD (¬ ((connV r_2 r_9 ((a1 : Nat) : Int) ((a1 : Nat) : Int)) ↔ (aliveV r_2 r_9 ((a1 : Nat) : Int))))) (x_move (S.e rfl)) I
   ·intro a w21 G I S hE
    have TT := Tr.of_ch C.ms G (fun _ h => by simp at h)
    replace R_13 := Enc.tr (slE intE) R_13 TT
    replace C := C.trans TT
    obtain ⟨e43, _⟩ := hE
    replace S := S.ext e43
    refine (Classical.em (¬ (¬ ((connV r_2 r_9 ((a1 : Nat) : Int) ((a1 : Nat) : Int)) ↔ (aliveV r_2 r_9 ((a1 : Nat) : Int)))))).symm.elim (fun hg => ?_) fun hg => ?_
    ·exact qn S 43 rfl (fun h => hg (gf.2 h)) I
    exact qy S 43 rfl (gf.1 hg) (.slice ra_13 ((compsV r_2 r_9).length) rc_13) (x_move (S.e rfl)) I
   ·intro a w22 G I S hE
    have TT := Tr.of_ch C.ms G (fun _ h => by simp at h)
    replace C := C.trans TT
    obtain ⟨e43, _⟩ := hE
    replace S := S.ext e43
    refine (Classical.em (¬ (¬ ((connV r_2 r_9 ((a1 : Nat) : Int) ((a1 : Nat) : Int)) ↔ (aliveV r_2 r_9 ((a1 : Nat) : Int)))))).symm.elim (fun hg => ?_) fun hg => ?_
    ·exact qn S 43 rfl (fun h => hg (gf.2 h)) I
    exact qy S 43 rfl (gf.1 hg) (iN a1) (x_move (S.e rfl)) I
   ·intro a w23 G I S hE
    have TT := Tr.of_ch C.ms G (fun _ h => by simp at h)
    replace R_13 := Enc.tr (slE intE) R_13 TT
    replace C := C.trans TT
    obtain ⟨e43, e44, e45, _⟩ := hE
    replace S := S.ext e43
    replace S := S.ext e44
    replace S := S.ext e45
    refine (Classical.em (¬ (¬ ((connV r_2 r_9 ((a1 : Nat) : Int) ((a1 : Nat) : Int)) ↔ (aliveV r_2 r_9 ((a1 : Nat) : Int)))))).symm.elim (fun hg => ?_) fun hg => ?_
    ·exact qn S 43 rfl (fun h => hg (gf.2 h)) I
    exact qy S 43 rfl (gf.1 hg) (pT (blk ra_13) (off ra_13 + a1 * 1)) (x_idx Try.underlying22 (by kernel_rfl) (S.p rfl hg) (S.p rfl hg) a1 rfl (by omega) ((show LAt intE _ _ ra_13 (compsV r_2 r_9) from (R_13).1).adr (i := a1) (by omega))) I
   ·intro a w24 G I S hE
    have TT := Tr.of_ch C.ms G (fun _ h => by simp at h)
    replace R_13 := Enc.tr (slE intE) R_13 TT
    replace C := C.trans TT
    obtain ⟨e43, e46, _⟩ := hE
    replace S := S.ext e43
    replace S := S.ext e46
    refine (Classical.em (¬ (¬ ((connV r_2 r_9 ((a1 : Nat) : Int) ((a1 : Nat) : Int)) ↔ (aliveV r_2 r_9 ((a1 : Nat) : Int)))))).symm.elim (fun hg => ?_) fun hg => ?_
    ·exact qn S 43 rfl (fun h => hg (gf.2 h)) I
    exact qy S 43 rfl (gf.1 hg) (iI ((compsV r_2 r_9).getD a1 intE.dflt)) (x_load ⟨_, Try.underlying3, rfl⟩ (S.p rfl hg) ((show LAt intE _ _ ra_13 (compsV r_2 r_9) from (R_13).1).cell a1 (by omega) 0 _ rfl)) I
   ·intro a w25 G I S hE
    have TT := Tr.of_ch C.ms G (fun _ h => by simp at h)
    replace R_13 := Enc.tr (slE intE) R_13 TT
    replace C := C.trans TT
    obtain ⟨e43, e47, _⟩ := hE
    replace S := S.ext e43
    replace S := S.ext e47
    refine (Classical.em (¬ (¬ ((connV r_2 r_9 ((a1 : Nat) : Int) ((a1 : Nat) : Int)) ↔ (aliveV r_2 r_9 ((a1 : Nat) : Int)))))).symm.elim (fun hg => ?_) fun hg => ?_
    ·exact qn S 43 rfl (fun h => hg (gf.2 h)) I
    exact qy S 43 rfl (gf.1 hg) (bD (((compsV r_2 r_9).getD a1 intE.dflt) < 0)) (x_lss (S.p rfl hg) (S.e rfl)) I
   ·intro a w26 G I S hE
    have TT := Tr.of_ch C.ms G (fun _ h => by simp at h)
    replace R_2 := Enc.tr (topoE) R_2 TT
    replace K8 := Blk.tr0 K8 G
    replace C := C.trans TT
    obtain ⟨e43, _⟩ := hE
    replace S := S.ext e43
    refine (Classical.em (¬ (¬ ((connV r_2 r_9 ((a1 : Nat) : Int) ((a1 : Nat) : Int)) ↔ (aliveV r_2 r_9 ((a1 : Nat) : Int)))))).symm.elim (fun hg => ?_) fun hg => ?_
    ·exact qn S 43 rfl (fun h => hg (gf.2 h)) I
    exact qy S 43 rfl (gf.1 hg) (tV r_2) (x_loadw (tL r_2) ⟨_, Try.underlying28, rfl, by kernel_rfl⟩ (S.e rfl) (K8.mid [] (tL r_2) [] rfl _ rfl)) I
   ·intro a w27 G I S hE
    have TT := Tr.of_ch C.ms G (fun _ h => by simp at h)
    replace R_9 := Enc.tr (failE) R_9 TT
    replace K12 := Blk.tr0 K12 G
    replace C := C.trans TT
    obtain ⟨e43, _⟩ := hE
    replace S := S.ext e43
    refine (Classical.em (¬ (¬ ((connV r_2 r_9 ((a1 : Nat) : Int) ((a1 : Nat) : Int)) ↔ (aliveV r_2 r_9 ((a1 : Nat) : Int)))))).symm.elim (fun hg => ?_) fun hg => ?_
    ·exact qn S 43 rfl (fun h => hg (gf.2 h)) I
    exact qy S 43 rfl (gf.1 hg) (fV r_9) (x_loadw (fL r_9) ⟨_, Try.underlying41, rfl, by kernel_rfl⟩ (S.e rfl) (K12.mid [] (fL r_9) [] rfl _ rfl)) I
   ·intro a w28 G I S hE
    have TT := Tr.of_ch C.ms G (fun _ h => by simp at h)
    replace C := C.trans TT
    obtain ⟨e43, _⟩ := hE
    replace S := S.ext e43
    refine (Classical.em (¬ (¬ ((connV r_2 r_9 ((a1 : Nat) : Int) ((a1 : Nat) : Int)) ↔ (aliveV r_2 r_9 ((a1 : Nat) : Int)))))).symm.elim (fun hg => ?_) fun hg => ?_
    ·exact qn S 43 rfl (fun h => hg (gf.2 h)) I
    exact qy S 43 rfl (gf.1 hg) (iN a1) (x_move (S.e rfl)) I
   ·intro a w29 G I S hE
    have TT := Tr.of_ch C.ms G (fun _ h => by simp at h)
    replace R_2 := Enc.tr (topoE) R_2 TT
    replace R_9 := Enc.tr (failE) R_9 TT
    replace C := C.trans TT
    obtain ⟨e43, e49, e50, e51, _⟩ := hE
    replace S := S.ext e43
    replace S := S.ext e49
    replace S := S.ext e50
    replace S := S.ext e51
    refine (Classical.em (¬ (¬ ((connV r_2 r_9 ((a1 : Nat) : Int) ((a1 : Nat) : Int)) ↔ (aliveV r_2 r_9 ((a1 : Nat) : Int)))))).symm.elim (fun hg => ?_) fun hg => ?_
    ·exact qn S 43 rfl (fun h => hg (gf.2 h)) I
    refine head_yes rfl rfl rfl rfl (by rw [S.size]; decide) (gv := bD (¬ ((connV r_2 r_9 ((a1 : Nat) : Int) ((a1 : Nat) : Int)) ↔ (aliveV r_2 r_9 ((a1 : Nat) : Int))))) (S.get 43 _ rfl) (gf.1 hg) (op_call (vs := #[tV r_2, fV r_9, iN a1]) (by simp only [List.map_toArray, List.map_cons, List.map_nil, show a.eval (.tmp 49) = tV r_2 from (S.p rfl hg), show a.eval (.tmp 50) = fV r_9 from (S.p rfl hg), show a.eval (.tmp 51) = iN a1 from (S.p rfl hg)]) callable_34 (fAlive _ (Ex F _) (C.old hF)  (MS.nil _) r_2 ((topoE).down0 R_2) r_9 ((failE).down0 R_9) ((a1 : Nat) : Int) ⟨by omega, by omega⟩) ?_)
    rintro e w2 ⟨rfl, T0⟩; exact ⟨_, rfl, Done.mk' rfl (by decide) (show _ = _ from (if_pos hg).symm) T0.ch trivial⟩
   ·intro a w30 G I S hE
    have TT := Tr.of_ch C.ms G (fun _ h => by simp at h)
    replace C := C.trans TT
    obtain ⟨e43, e48, e52, _⟩ := hE
    replace S := S.ext e43
    replace S := S.ext e48
    replace S := S.ext e52
    refine (Classical.em (¬ (¬ ((connV r_2 r_9 ((a1 : Nat) : Int) ((a1 : Nat) : Int)) ↔ (aliveV r_2 r_9 ((a1 : Nat) : Int)))))).symm.elim (fun hg => ?_) fun hg => ?_
    ·exact qn S 43 rfl (fun h => hg (gf.2 h)) I
    exact qy S 43 rfl (gf.1 hg) (bD (((((compsV r_2 r_9).getD a1 intE.dflt) < 0) ↔ (aliveV r_2 r_9 ((a1 : Nat) : Int))))) (x_bpeql Try.underlying4 (S.p rfl hg) (S.p rfl hg)) I
   ·intro a w31 G I S hE
    have TT := Tr.of_ch C.ms G (fun _ h => by simp at h)
    replace C := C.trans TT
    obtain ⟨e43, e53, _⟩ := hE
    replace S := S.ext e43
    replace S := S.ext e53
    exact qo (bD ((¬ ((connV r_2 r_9 ((a1 : Nat) : Int) ((a1 : Nat) : Int)) ↔ (aliveV r_2 r_9 ((a1 : Nat) : Int)))) ∨ (((((compsV r_2 r_9).getD a1 intE.dflt) < 0) ↔ (aliveV r_2 r_9 ((a1 : Nat) : Int)))))) (x_or (S.e rfl) (S.e rfl) (S.p rfl)) I
   ·intro a w32 G I S hE
    have TT := Tr.of_ch C.ms G (fun _ h => by simp at h)
    replace C := C.trans TT
    obtain ⟨e54, _⟩ := hE
    replace S := S.ext e54
    exact qo (bD ((¬ ((connV r_2 r_9 ((a1 : Nat) : Int) ((a1 : Nat) : Int)) ↔ (aliveV r_2 r_9 ((a1 : Nat) : Int)))) ∨ (((((compsV r_2 r_9).getD a1 intE.dflt) < 0) ↔ (aliveV r_2 r_9 ((a1 : Nat) : Int)))))) (x_move (S.e rfl)) I
   ·intro a w33 G I S hE
    have TT := Tr.of_ch C.ms G (fun _ h => by simp at h)
    replace R_13 := Enc.tr (slE intE) R_13 TT
    replace C := C.trans TT
    obtain ⟨e55, _⟩ := hE
    replace S := S.ext e55
    refine (Classical.em (¬ ((¬ ((connV r_2 r_9 ((a1 : Nat) : Int) ((a1 : Nat) : Int)) ↔ (aliveV r_2 r_9 ((a1 : Nat) : Int)))) ∨ (((((compsV r_2 r_9).getD a1 intE.dflt) < 0) ↔ (aliveV r_2 r_9 ((a1 : Nat) : Int))))))).symm.elim (fun hg => ?_) fun hg => ?_
    ·exact qn S 55 rfl (fun h => hg (gf.2 h)) I
    exact qy S 55 rfl (gf.1 hg) (.slice ra_13 ((compsV r_2 r_9).length) rc_13) (x_move (S.e rfl)) I
   ·intro a w34 G I S hE
    have TT := Tr.of_ch C.ms G (fun _ h => by simp at h)
    replace C := C.trans TT
    obtain ⟨e55, _⟩ := hE
    replace S := S.ext e55
    refine (Classical.em (¬ ((¬ ((connV r_2 r_9 ((a1 : Nat) : Int) ((a1 : Nat) : Int)) ↔ (aliveV r_2 r_9 ((a1 : Nat) : Int)))) ∨ (((((compsV r_2 r_9).getD a1 intE.dflt) < 0) ↔ (aliveV r_2 r_9 ((a1 : Nat) : Int))))))).symm.elim (fun hg => ?_) fun hg => ?_
    ·exact qn S 55 rfl (fun h => hg (gf.2 h)) I
    exact qy S 55 rfl (gf.1 hg) (iN a1) (x_move (S.e rfl)) I
   ·intro a w35 G I S hE
    have TT := Tr.of_ch C.ms G (fun _ h => by simp at h)
    replace R_13 := Enc.tr (slE intE) R_13 TT
    replace C := C.trans TT
    obtain ⟨e55, e56, e57, _⟩ := hE
    replace S := S.ext e55
    replace S := S.ext e56
    replace S := S.ext e57
    refine (Classical.em (¬ ((¬ ((connV r_2 r_9 ((a1 : Nat) : Int) ((a1 : Nat) : Int)) ↔ (aliveV r_2 r_9 ((a1 : Nat) : Int)))) ∨ (((((compsV r_2 r_9).getD a1 intE.dflt) < 0) ↔ (aliveV r_2 r_9 ((a1 : Nat) : Int))))))).symm.elim (fun hg => ?_) fun hg => ?_
    ·exact qn S 55 rfl (fun h => hg (gf.2 h)) I
    exact qy S 55 rfl (gf.1 hg) (pT (blk ra_13) (off ra_13 + a1 * 1)) (x_idx Try.underlying22 (by kernel_rfl) (S.p rfl hg) (S.p rfl hg) a1 rfl (by omega) ((show LAt intE _ _ ra_13 (compsV r_2 r_9) from (R_13).1).adr (i := a1) (by omega))) I
   ·intro a w36 G I S hE
    have TT := Tr.of_ch C.ms G (fun _ h => by simp at h)
    replace R_13 := Enc.tr (slE intE) R_13 TT
    replace C := C.trans TT
    obtain ⟨e55, e58, _⟩ := hE
    replace S := S.ext e55
    replace S := S.ext e58
    refine (Classical.em (¬ ((¬ ((connV r_2 r_9 ((a1 : Nat) : Int) ((a1 : Nat) : Int)) ↔ (aliveV r_2 r_9 ((a1 : Nat) : Int)))) ∨ (((((compsV r_2 r_9).getD a1 intE.dflt) < 0) ↔ (aliveV r_2 r_9 ((a1 : Nat) : Int))))))).symm.elim (fun hg => ?_) fun hg => ?_
    ·exact qn S 55 rfl (fun h => hg (gf.2 h)) I
    exact qy S 55 rfl (gf.1 hg) (iI ((compsV r_2 r_9).getD a1 intE.dflt)) (x_load ⟨_, Try.underlying3, rfl⟩ (S.p rfl hg) ((show LAt intE _ _ ra_13 (compsV r_2 r_9) from (R_13).1).cell a1 (by omega) 0 _ rfl)) I
   ·intro a w37 G I S hE
    have TT := Tr.of_ch C.ms G (fun _ h => by simp at h)
    replace C := C.trans TT
    obtain ⟨e55, _⟩ := hE
    replace S := S.ext e55
    refine (Classical.em (¬ ((¬ ((connV r_2 r_9 ((a1 : Nat) : Int) ((a1 : Nat) : Int)) ↔ (aliveV r_2 r_9 ((a1 : Nat) : Int)))) ∨ (((((compsV r_2 r_9).getD a1 intE.dflt) < 0) ↔ (aliveV r_2 r_9 ((a1 : Nat) : Int))))))).symm.elim (fun hg => ?_) fun hg => ?_
    ·exact qn S 55 rfl (fun h => hg (gf.2 h)) I
    exact qy S 55 rfl (gf.1 hg) (iN a1) (x_move (S.e rfl)) I
   ·intro a w38 G I S hE
    have TT := Tr.of_ch C.ms G (fun _ h => by simp at h)
    replace R_13 := Enc.tr (slE intE) R_13 TT
    replace C := C.trans TT
    obtain ⟨e55, e59, e60, _⟩ := hE
    replace S := S.ext e55
    replace S := S.ext e59
    replace S := S.ext e60
    refine (Classical.em (¬ ((¬ ((connV r_2 r_9 ((a1 : Nat) : Int) ((a1 : Nat) : Int)) ↔ (aliveV r_2 r_9 ((a1 : Nat) : Int)))) ∨ (((((compsV r_2 r_9).getD a1 intE.dflt) < 0) ↔ (aliveV r_2 r_9 ((a1 : Nat) : Int))))))).symm.elim (fun hg => ?_) fun hg => ?_
    ·exact qn S 55 rfl (fun h => hg (gf.2 h)) I
    exact qy S 55 rfl (gf.1 hg) (bD (((a1 : Nat) : Int) < ((compsV r_2 r_9).getD a1 intE.dflt))) (x_gtr (S.p rfl hg) (S.p rfl hg)) I
   intro a w39 G I S hE
   have TT := Tr.of_ch C.ms G (fun _ h => by simp at h)
   replace C := C.trans TT
   obtain ⟨e55, e61, _⟩ := hE
   replace S := S.ext e55
   replace S := S.ext e61
   exact qo (bD (((¬ ((connV r_2 r_9 ((a1 : Nat) : Int) ((a1 : Nat) : Int)) ↔ (aliveV r_2 r_9 ((a1 : Nat) : Int)))) ∨ (((((compsV r_2 r_9).getD a1 intE.dflt) < 0) ↔ (aliveV r_2 r_9 ((a1 : Nat) : Int))))) ∨ (((a1 : Nat) : Int) < ((compsV r_2 r_9).getD a1 intE.dflt)))) (x_or (S.e rfl) (S.e rfl) (S.p rfl)) I
  clear S a; intro a w40 G I S hE; have TT := Tr.of_ch C.ms G (fun _ h => by simp at h)
  replace l_w := Enc.tr (slE intE) l_w TT
  replace R_2 := Enc.tr (topoE) R_2 TT
  replace R_9 := Enc.tr (failE) R_9 TT
  replace R_13 := Enc.tr (slE intE) R_13 TT
  replace TK1 := TpB.tr0 TK1 G
  replace K8 := Blk.tr0 K8 G
  replace K12 := Blk.tr0 K12 G
  replace GL0 := GL0.trans TT
  replace C := C.trans TT
  clear TT G
  obtain ⟨e62, -⟩ := hE
  replace S := S.ext e62
  clear e62
  refine qt ?_
  refine cond_dec S rfl ?_ ?_
  ·intro hc3
   refine qs ?_
   refine qa S rfl ?_; clear S a; intro a S
   refine qt ?_
   refine wp_ret ?_
   refine then_r ?_
   refine blk_r ?_
   refine then_r ?_
   refine then_r ?_
   refine blk_r ?_
   refine then_r ?_
   refine ret1 rfl S rfl ?_
   have TD : Tr [one b12, one b8, one T1] w40 [] w40 := Tr.drop C.ms [] (by decide)
   have GD : Ch (In []) w40 w40 := Ch.refl _
   clear TK1
   clear K8
   clear K12
   replace l_w := Enc.tr (slE intE) l_w TD
   replace R_2 := Enc.tr (topoE) R_2 TD
   replace R_9 := Enc.tr (failE) R_9 TD
   replace R_13 := Enc.tr (slE intE) R_13 TD
   replace GL0 := GL0.trans TD
   replace C := C.trans TD
   clear TD GD
   refine ⟨(r1 (vf ?_)), C⟩
   intro _; have e := eqv_one HV (a := a1) (by omega); rw [e0] at hc3
   rcases hc3 with (h | h) | h
   ·exact h e.1
   ·exact e.2.1 h
   omega
  intro hc4
  refine wp_skip ?_
  refine then_n ?_
  refine qs ?_
  refine qa S rfl ?_; clear S a; intro a S
  refine qt ?_
  refine wp_block ?_
  refine wp_loop_ghost (fun m a wr => ∃ b1 : Nat, Slots 136 [(4, pT b8 0), (5, pT b12 0), (6, .slice ra_13 ((compsV r_2 r_9).length) rc_13), (7, iN r_2.devs.xs.length), (8, iN a1), (28, iN a1), (29, iN r_2.devs.xs.length), (30, bD (((a1 : Nat) : Int) < ((r_2.devs.xs.length : Nat) : Int))), (62, bD (((¬ ((connV r_2 r_9 ((a1 : Nat) : Int) ((a1 : Nat) : Int)) ↔ (aliveV r_2 r_9 ((a1 : Nat) : Int)))) ∨ (((((compsV r_2 r_9).getD a1 intE.dflt) < 0) ↔ (aliveV r_2 r_9 ((a1 : Nat) : Int))))) ∨ (((a1 : Nat) : Int) < ((compsV r_2 r_9).getD a1 intE.dflt)))), (9, iN b1)] a ∧ Tr [one b12, one b8, one T1] w40 [one b12, one b8, one T1] wr ∧ (b1 ≤ r_2.devs.xs.length ∧ True) ∧ TpB 62 T1 l wr ∧ Blk wr.heap b8 (tL r_2) 28 ∧ Blk wr.heap b12 (fL r_9) 41 ∧ (r_2.devs.xs.length - b1) = m) (r_2.devs.xs.length - 0) ?_ ?_
  ·refine ⟨0, S.sub ⟨rfl, rfl, rfl, rfl, rfl, rfl, rfl, rfl, rfl, rfl, trivial⟩, Tr.refl C.ms, ?_, TK1, K8, K12, rfl⟩
   exact ⟨Nat.zero_le _, by trivial⟩
  rintro m a w41 ⟨b1, S, G, hR, TK1', K8', K12', rfl⟩
  clear TK1; have TK1 := TK1'; clear TK1'
  clear K8; have K8 := K8'; clear K8'
  clear K12; have K12 := K12'; clear K12'
  replace l_w := Enc.tr (slE intE) l_w G
  replace R_2 := Enc.tr (topoE) R_2 G
  replace R_9 := Enc.tr (failE) R_9 G
  replace R_13 := Enc.tr (slE intE) R_13 G
  replace GL0 := GL0.trans G
  replace C := C.trans G
  have GL1 := G; clear G
  obtain ⟨hb1, hxb1⟩ := hR
  refine wp_seq ?_
  refine qs ?_
  refine qm S rfl ?_; clear S a; intro a S
  refine qm S rfl ?_; clear S a; intro a S
  refine qv S (bD (((b1 : Nat) : Int) < ((r_2.devs.xs.length : Nat) : Int))) (x_lss (S.e rfl) (S.e rfl)) ?_; clear S a; intro a S
  refine qt ?_
  refine cond_dec S rfl ?_ ?_
  ·intro hc5
   refine wp_skip ?_
   refine then_n ?_
   refine wp_seq ?_
   refine wp_block ?_
   refine wp_seq ?_
   replace S := S.sub (L' := [(4, pT b8 0), (5, pT b12 0), (6, .slice ra_13 ((compsV r_2 r_9).length) rc_13), (7, iN r_2.devs.xs.length), (8, iN a1), (28, iN a1), (29, iN r_2.devs.xs.length), (30, bD (((a1 : Nat) : Int) < ((r_2.devs.xs.length : Nat) : Int))), (62, bD (((¬ ((connV r_2 r_9 ((a1 : Nat) : Int) ((a1 : Nat) : Int)) ↔ (aliveV r_2 r_9 ((a1 : Nat) : Int)))) ∨ (((((compsV r_2 r_9).getD a1 intE.dflt) < 0) ↔ (aliveV r_2 r_9 ((a1 : Nat) : Int))))) ∨ (((a1 : Nat) : Int) < ((compsV r_2 r_9).getD a1 intE.dflt)))), (9, iN b1), (63, iN b1), (64, iN r_2.devs.xs.length), (65, bD (((b1 : Nat) : Int) < ((r_2.devs.xs.length : Nat) : Int)))]) ⟨rfl, rfl, rfl, rfl, rfl, rfl, rfl, rfl, rfl, rfl, rfl, rfl, rfl, trivial⟩
   refine wp_heads (M := In []) S 35 [(68, iV (tV r_2)), (69, iV (fV r_9)), (70, iV (iN a1)), (71, iV (iN b1)), (72, iV (bD (connV r_2 r_9 ((a1 : Nat) : Int) ((b1 : Nat) : Int)))), (73, iV (.slice ra_13 ((compsV r_2 r_9).length) rc_13)), (74, iV (iN a1)), (75, iV (pT (blk ra_13) (off ra_13 + a1 * 1))), (76, iV (iI ((compsV r_2 r_9).getD a1 intE.dflt))), (77, iV (bD (0 ≤ ((compsV r_2 r_9).getD a1 intE.dflt)))), (78, iV (bD (0 ≤ ((compsV r_2 r_9).getD a1 intE.dflt)))), (79, iV ((if (0 ≤ ((compsV r_2 r_9).getD a1 intE.dflt)) then .slice ra_13 ((compsV r_2 r_9).length) rc_13 else undef))), (80, iV ((if (0 ≤ ((compsV r_2 r_9).getD a1 intE.dflt)) then iN a1 else undef))), (81, iV ((if (0 ≤ ((compsV r_2 r_9).getD a1 intE.dflt)) then pT (blk ra_13) (off ra_13 + a1 * 1) else undef))), (82, iV ((if (0 ≤ ((compsV r_2 r_9).getD a1 intE.dflt)) then iI ((compsV r_2 r_9).getD a1 intE.dflt) else undef))), (83, iV ((if (0 ≤ ((compsV r_2 r_9).getD a1 intE.dflt)) then .slice ra_13 ((compsV r_2 r_9).length) rc_13 else undef))), (84, iV ((if (0 ≤ ((compsV r_2 r_9).getD a1 intE.dflt)) then iN b1 else undef))), (85, iV ((if (0 ≤ ((compsV r_2 r_9).getD a1 intE.dflt)) then pT (blk ra_13) (off ra_13 + b1 * 1) else undef))), (86, iV ((if (0 ≤ ((compsV r_2 r_9).getD a1 intE.dflt)) then iI ((compsV r_2 r_9).getD b1 intE.dflt) else undef))), (87, iV ((if (0 ≤ ((compsV r_2 r_9).getD a1 intE.dflt)) then bD (((compsV r_2 r_9).getD a1 intE.dflt) = ((compsV r_2 r_9).getD b1 intE.dflt)) else undef))), (88, iV (bD ((0 ≤ ((compsV r_2 r_9).getD a1 intE.dflt)) ∧ (((compsV r_2 r_9).getD a1 intE.dflt) = ((compsV r_2 r_9).getD b1 intE.dflt))))), (89, iV (bD (¬ ((connV r_2 r_9 ((a1 : Nat) : Int) ((b1 : Nat) : Int)) ↔ ((0 ≤ ((compsV r_2 r_9).getD a1 intE.dflt)) ∧ (((compsV r_2 r_9).getD a1 intE.dflt) = ((compsV r_2 r_9).getD b1 intE.dflt))))))), (90, iV (bD (¬ ((connV r_2 r_9 ((a1 : Nat) : Int) ((b1 : Nat) : Int)) ↔ ((0 ≤ ((compsV r_2 r_9).getD a1 intE.dflt)) ∧ (((compsV r_2 r_9).getD a1 intE.dflt) = ((compsV r_2 r_9).getD b1 intE.dflt))))))), (91, iV ((if (¬ (¬ ((connV r_2 r_9 ((a1 : Nat) : Int) ((b1 : Nat) : Int)) ↔ ((0 ≤ ((compsV r_2 r_9).getD a1 intE.dflt)) ∧ (((compsV r_2 r_9).getD a1 intE.dflt) = ((compsV r_2 r_9).getD b1 intE.dflt)))))) then tV r_2 else undef))), (92, iV ((if (¬ (¬ ((connV r_2 r_9 ((a1 : Nat) : Int) ((b1 : Nat) : Int)) ↔ ((0 ≤ ((compsV r_2 r_9).getD a1 intE.dflt)) ∧ (((compsV r_2 r_9).getD a1 intE.dflt) = ((compsV r_2 r_9).getD b1 intE.dflt)))))) then fV r_9 else undef))), (93, iV ((if (¬ (¬ ((connV r_2 r_9 ((a1 : Nat) : Int) ((b1 : Nat) : Int)) ↔ ((0 ≤ ((compsV r_2 r_9).getD a1 intE.dflt)) ∧ (((compsV r_2 r_9).getD a1 intE.dflt) = ((compsV r_2 r_9).getD b1 intE.dflt)))))) then iN a1 else undef))), (94, iV ((if (¬ (¬ ((connV r_2 r_9 ((a1 : Nat) : Int) ((b1 : Nat) : Int)) ↔ ((0 ≤ ((compsV r_2 r_9).getD a1 intE.dflt)) ∧ (((compsV r_2 r_9).getD a1 intE.dflt) = ((compsV r_2 r_9).getD b1 intE.dflt)))))) then iN b1 else undef))), (95, iV ((if (¬ (¬ ((connV r_2 r_9 ((a1 : Nat) : Int) ((b1 : Nat) : Int)) ↔ ((0 ≤ ((compsV r_2 r_9).getD a1 intE.dflt)) ∧ (((compsV r_2 r_9).getD a1 intE.dflt) = ((compsV r_2 r_9).getD b1 intE.dflt)))))) then bD (connV r_2 r_9 ((a1 : Nat) : Int) ((b1 : Nat) : Int)) else undef))), (96, iV ((if (¬ (¬ ((connV r_2 r_9 ((a1 : Nat) : Int) ((b1 : Nat) : Int)) ↔ ((0 ≤ ((compsV r_2 r_9).getD a1 intE.dflt)) ∧ (((compsV r_2 r_9).getD a1 intE.dflt) = ((compsV r_2 r_9).getD b1 intE.dflt)))))) then tV r_2 else undef))), (97, iV ((if (¬ (¬ ((connV r_2 r_9 ((a1 : Nat) : Int) ((b1 : Nat) : Int)) ↔ ((0 ≤ ((compsV r_2 r_9).getD a1 intE.dflt)) ∧ (((compsV r_2 r_9).getD a1 intE.dflt) = ((compsV r_2 r_9).getD b1 intE.dflt)))))) then fV r_9 else undef))), (98, iV ((if (¬ (¬ ((connV r_2 r_9 ((a1 : Nat) : Int) ((b1 : Nat) : Int)) ↔ ((0 ≤ ((compsV r_2 r_9).getD a1 intE.dflt)) ∧ (((compsV r_2 r_9).getD a1 intE.dflt) = ((compsV r_2 r_9).getD b1 intE.dflt)))))) then iN b1 else undef))), (99, iV ((if (¬ (¬ ((connV r_2 r_9 ((a1 : Nat) : Int) ((b1 : Nat) : Int)) ↔ ((0 ≤ ((compsV r_2 r_9).getD a1 intE.dflt)) ∧ (((compsV r_2 r_9).getD a1 intE.dflt) = ((compsV r_2 r_9).getD b1 intE.dflt)))))) then iN a1 else undef))), (100, iV ((if (¬ (¬ ((connV r_2 r_9 ((a1 : Nat) : Int) ((b1 : Nat) : Int)) ↔ ((0 ≤ ((compsV r_2 r_9).getD a1 intE.dflt)) ∧ (((compsV r_2 r_9).getD a1 intE.dflt) = ((compsV r_2 r_9).getD b1 intE.dflt)))))) then bD (connV r_2 r_9 ((b1 : Nat) : Int) ((a1 : Nat) : Int)) else undef))), (101, iV ((if (¬ (¬ ((connV r_2 r_9 ((a1 : Nat) : Int) ((b1 : Nat) : Int)) ↔ ((0 ≤ ((compsV r_2 r_9).getD a1 intE.dflt)) ∧ (((compsV r_2 r_9).getD a1 intE.dflt) = ((compsV r_2 r_9).getD b1 intE.dflt)))))) then bD (¬ ((connV r_2 r_9 ((a1 : Nat) : Int) ((b1 : Nat) : Int)) ↔ (connV r_2 r_9 ((b1 : Nat) : Int) ((a1 : Nat) : Int)))) else undef))), (102, iV (bD ((¬ ((connV r_2 r_9 ((a1 : Nat) : Int) ((b1 : Nat) : Int)) ↔ ((0 ≤ ((compsV r_2 r_9).getD a1 intE.dflt)) ∧ (((compsV r_2 r_9).getD a1 intE.dflt) = ((compsV r_2 r_9).getD b1 intE.dflt))))) ∨ (¬ ((connV r_2 r_9 ((a1 : Nat) : Int) ((b1 : Nat) : Int)) ↔ (connV r_2 r_9 ((b1 : Nat) : Int) ((a1 : Nat) : Int)))))))] (fun w => True) [[], [], [], [], [68, 69, 70, 71], [], [], [73, 74], [75], [76], [77], [78], [78], [78, 79, 80], [78, 81], [78], [78], [78, 83, 84], [78, 85], [78, 82, 86], [78, 87], [72, 88], [89], [90], [90], [90], [90], [90, 91, 92, 93, 94], [90], [90], [90], [90], [90, 96, 97, 98, 99], [90, 95, 100], [90, 101]] [102] _ rfl mixed (by kernel_rfl) rfl trivial ?_ ?_
   ·refine ⟨?_, ?_, ?_, ?_, ?_, ?_, ?_, ?_, ?_, ?_, ?_, ?_, ?_, ?_, ?_, ?_, ?_, ?_, ?_, ?_, ?_, ?_, ?_, ?_, ?_, ?_, ?_, ?_, ?_, ?_, ?_, ?_, ?_, ?_, ?_, trivial⟩
    ·intro a w42 G I S hE
     have TT := Tr.of_ch C.ms G (fun _ h => by simp at h)
     replace R_2 := Enc.tr (topoE) R_2 TT
     replace K8 := Blk.tr0 K8 G
     replace C := C.trans TT
     exact qo (tV r_2) (x_loadw (tL r_2) ⟨_, Try.underlying28, rfl, by kernel_rfl⟩ (S.e rfl) (K8.mid [] (tL r_2) [] rfl _ rfl)) I
    ·intro a w43 G I S hE
     have TT := Tr.of_ch C.ms G (fun _ h => by simp at h)
     replace R_9 := Enc.tr (failE) R_9 TT
     replace K12 := Blk.tr0 K12 G
     replace C := C.trans TT
     exact qo (fV r_9) (x_loadw (fL r_9) ⟨_, Try.underlying41, rfl, by kernel_rfl⟩ (S.e rfl) (K12.mid [] (fL r_9) [] rfl _ rfl)) I
    ·intro a w44 G I S hE
     have TT := Tr.of_ch C.ms G (fun _ h => by simp at h)
     replace C := C.trans TT
     exact qo (iN a1) (x_move (S.e rfl)) I
    ·intro a w45 G I S hE
     have TT := Tr.of_ch C.ms G (fun _ h => by simp at h)
     replace C := C.trans TT
     exact qo (iN b1) (x_move (S.e rfl)) I
    ·intro a w46 G I S hE
     have TT := Tr.of_ch C.ms G (fun _ h => by simp at h)
     replace R_2 := Enc.tr (topoE) R_2 TT
     replace R_9 := Enc.tr (failE) R_9 TT
     replace C := C.trans TT
     obtain ⟨e68, e69, e70, e71, _⟩ := hE
     replace S := S.ext e68
     replace S := S.ext e69
     replace S := S.ext e70
     replace S := S.ext e71
     refine head_op rfl rfl (op_call (vs := #[tV r_2, fV r_9, iN a1, iN b1]) (by simp only [List.map_toArray, List.map_cons, List.map_nil, show a.eval (.tmp 68) = tV r_2 from (S.e rfl), show a.eval (.tmp 69) = fV r_9 from (S.e rfl), show a.eval (.tmp 70) = iN a1 from (S.e rfl), show a.eval (.tmp 71) = iN b1 from (S.e rfl)]) callable_27 (fConn _ (Ex F _) (C.old hF)  (MS.nil _) r_2 ((topoE).down0 R_2) r_9 ((failE).down0 R_9) ((a1 : Nat) : Int) ⟨by omega, by omega⟩ ((b1 : Nat) : Int) ⟨by omega, by omega⟩) ?_)
     rintro e w2 ⟨rfl, T0⟩; exact ⟨_, rfl, Done.mk' rfl (by decide) (show _ = _ from rfl) T0.ch trivial⟩
    ·intro a w47 G I S hE
     have TT := Tr.of_ch C.ms G (fun _ h => by simp at h)
     replace R_13 := Enc.tr (slE intE) R_13 TT
     replace C := C.trans TT
     exact qo (.slice ra_13 ((compsV r_2 r_9).length) rc_13) (x_move (S.e rfl)) I
    ·intro a w48 G I S hE
     have TT := Tr.of_ch C.ms G (fun _ h => by simp at h)
     replace C := C.trans TT
     exact qo (iN a1) (x_move (S.e rfl)) I
    ·intro a w49 G I S hE
     have TT := Tr.of_ch C.ms G (fun _ h => by simp at h)
     replace R_13 := Enc.tr (slE intE) R_13 TT
     replace C := C.trans TT
     obtain ⟨e73, e74, _⟩ := hE
     replace S := S.ext e73
     replace S := S.ext e74
     exact qo (pT (blk ra_13) (off ra_13 + a1 * 1)) (x_idx Try.underlying22 (by kernel_rfl) (S.e rfl) (S.e rfl) a1 rfl (by omega) ((show LAt intE _ _ ra_13 (compsV r_2 r_9) from (R_13).1).adr (i := a1) (by omega))) I
    ·intro a w50 G I S hE
     have TT := Tr.of_ch C.ms G (fun _ h => by simp at h)
     replace R_13 := Enc.tr (slE intE) R_13 TT
     replace C := C.trans TT
     obtain ⟨e75, _⟩ := hE
     replace S := S.ext e75
     obtain ⟨hl15, hu15⟩ : inI64 ((compsV r_2 r_9).getD a1 intE.dflt) := id ((show LAt intE _ _ ra_13 (compsV r_2 r_9) from (R_13).1).wf a1 (by omega))
     exact qo (iI ((compsV r_2 r_9).getD a1 intE.dflt)) (x_load ⟨_, Try.underlying3, rfl⟩ (S.e rfl) ((show LAt intE _ _ ra_13 (compsV r_2 r_9) from (R_13).1).cell a1 (by omega) 0 _ rfl)) I
    ·intro a w51 G I S hE
     have TT := Tr.of_ch C.ms G (fun _ h => by simp at h)
     replace R_13 := Enc.tr (slE intE) R_13 TT
     replace C := C.trans TT
     obtain ⟨e76, _⟩ := hE
     replace S := S.ext e76
     exact qo (bD (0 ≤ ((compsV r_2 r_9).getD a1 intE.dflt))) (x_geq (S.e rfl) (S.e rfl)) I
    ·intro a w52 G I S hE
     have TT := Tr.of_ch C.ms G (fun _ h => by simp at h)
     replace C := C.trans TT
     obtain ⟨e77, _⟩ := hE
     replace S := S.ext e77
     exact qo (bD (0 ≤ ((compsV r_2 r_9).getD a1 intE.dflt))) (x_move (S.e rfl)) I
    ·intro a w53 G I S hE
     have TT := Tr.of_ch C.ms G (fun _ h => by simp at h)
     replace R_13 := Enc.tr (slE intE) R_13 TT
     replace C := C.trans TT
     obtain ⟨e78, _⟩ := hE
     replace S := S.ext e78
     refine (Classical.em (0 ≤ ((compsV r_2 r_9).getD a1 intE.dflt))).symm.elim (fun hg => ?_) fun hg => ?_
     ·exact qn S 78 rfl (fun h => hg (gt.2 h)) I
     exact qy S 78 rfl (gt.1 hg) (.slice ra_13 ((compsV r_2 r_9).length) rc_13) (x_move (S.e rfl)) I
    ·intro a w54 G I S hE
     have TT := Tr.of_ch C.ms G (fun _ h => by simp at h)
     replace C := C.trans TT
     obtain ⟨e78, _⟩ := hE
     replace S := S.ext e78
     refine (Classical.em (0 ≤ ((compsV r_2 r_9).getD a1 intE.dflt))).symm.elim (fun hg => ?_) fun hg => ?_
     ·exact qn S 78 rfl (fun h => hg (gt.2 h)) I
     exact qy S 78 rfl (gt.1 hg) (iN a1) (x_move (S.e rfl)) I
    ·intro a w55 G I S hE
     have TT := Tr.of_ch C.ms G (fun _ h => by simp at h)
     replace R_13 := Enc.tr (slE intE) R_13 TT
     replace C := C.trans TT
     obtain ⟨e78, e79, e80, _⟩ := hE
     replace S := S.ext e78
     replace S := S.ext e79
     replace S := S.ext e80
     refine (Classical.em (0 ≤ ((compsV r_2 r_9).getD a1 intE.dflt))).symm.elim (fun hg => ?_) fun hg => ?_
     ·exact qn S 78 rfl (fun h => hg (gt.2 h)) I
     exact qy S 78 rfl (gt.1 hg) (pT (blk ra_13) (off ra_13 + a1 * 1)) (x_idx Try.underlying22 (by kernel_rfl) (S.p rfl hg) (S.p rfl hg) a1 rfl (by omega) ((show LAt intE _ _ ra_13 (compsV r_2 r_9) from (R_13).1).adr (i := a1) (by omega))) I
    ·intro a w56 G I S hE
     have TT := Tr.of_ch C.ms G (fun _ h => by simp at h)
     replace R_13 := Enc.tr (slE intE) R_13 TT
     replace C := C.trans TT
     obtain ⟨e78, e81, _⟩ := hE
     replace S := S.ext e78
     replace S := S.ext e81
     refine (Classical.em (0 ≤ ((compsV r_2 r_9).getD a1 intE.dflt))).symm.elim (fun hg => ?_) fun hg => ?_
     ·exact qn S 78 rfl (fun h => hg (gt.2 h)) I
     exact qy S 78 rfl (gt.1 hg) (iI ((compsV r_2 r_9).getD a1 intE.dflt)) (x_load ⟨_, Try.underlying3, rfl⟩ (S.p rfl hg) ((show LAt intE _ _ ra_13 (compsV r_2 r_9) from (R_13).1).cell a1 (by omega) 0 _ rfl)) I
    ·intro a w57 G I S hE
     have TT := Tr.of_ch C.ms G (fun _ h => by simp at h)
     replace R_13 := Enc.tr (slE intE) R_13 TT
     replace C := C.trans TT
     obtain ⟨e78, _⟩ := hE
     replace S := S.ext e78
     refine (Classical.em (0 ≤ ((compsV r_2 r_9).getD a1 intE.dflt))).symm.elim (fun hg => ?_) fun hg => ?_
     ·exact qn S 78 rfl (fun h => hg (gt.2 h)) I
     exact qy S 78 rfl (gt.1 hg) (.slice ra_13 ((compsV r_2 r_9).length) rc_13) (x_move (S.e rfl)) I
    ·intro a w58 G I S hE
     have TT := Tr.of_ch C.ms G (fun _ h => by simp at h)
     replace C := C.trans TT
     obtain ⟨e78, _⟩ := hE
     replace S := S.ext e78
     refine (Classical.em (0 ≤ ((compsV r_2 r_9).getD a1 intE.dflt))).symm.elim (fun hg => ?_) fun hg => ?_
     ·exact qn S 78 rfl (fun h => hg (gt.2 h)) I
     exact qy S 78 rfl (gt.1 hg) (iN b1) (x_move (S.e rfl)) I
    ·intro a w59 G I S hE
     have TT := Tr.of_ch C.ms G (fun _ h => by simp at h)
     replace R_13 := Enc.tr (slE intE) R_13 TT
     replace C := C.trans TT
     obtain ⟨e78, e83, e84, _⟩ := hE
     replace S := S.ext e78
     replace S := S.ext e83
     replace S := S.ext e84
     refine (Classical.em (0 ≤ ((compsV r_2 r_9).getD a1 intE.dflt))).symm.elim (fun hg => ?_) fun hg => ?_
     ·exact qn S 78 rfl (fun h => hg (gt.2 h)) I
     exact qy S 78 rfl (gt.1 hg) (pT (blk ra_13) (off ra_13 + b1 * 1)) (x_idx Try.underlying22 (by kernel_rfl) (S.p rfl hg) (S.p rfl hg) b1 rfl (by omega) ((show LAt intE _ _ ra_13 (compsV r_2 r_9) from (R_13).1).adr (i := b1) (by omega))) I
    ·intro a w60 G I S hE
     have TT := Tr.of_ch C.ms G (fun _ h => by simp at h)
     replace R_13 := Enc.tr (slE intE) R_13 TT
     replace C := C.trans TT
     obtain ⟨e78, e85, _⟩ := hE
     replace S := S.ext e78
     replace S := S.ext e85
     refine (Classical.em (0 ≤ ((compsV r_2 r_9).getD a1 intE.dflt))).symm.elim (fun hg => ?_) fun hg => ?_
     ·exact qn S 78 rfl (fun h => hg (gt.2 h)) I
     exact qy S 78 rfl (gt.1 hg) (iI ((compsV r_2 r_9).getD b1 intE.dflt)) (x_load ⟨_, Try.underlying3, rfl⟩ (S.p rfl hg) ((show LAt intE _ _ ra_13 (compsV r_2 r_9) from (R_13).1).cell b1 (by omega) 0 _ rfl)) I
    ·intro a w61 G I S hE
     have TT := Tr.of_ch C.ms G (fun _ h => by simp at h)
     replace R_13 := Enc.tr (slE intE) R_13 TT
     replace C := C.trans TT
     obtain ⟨e78, e82, e86, _⟩ := hE
     replace S := S.ext e78
     replace S := S.ext e82
     replace S := S.ext e86
     refine (Classical.em (0 ≤ ((compsV r_2 r_9).getD a1 intE.dflt))).symm.elim (fun hg => ?_) fun hg => ?_
     ·exact qn S 78 rfl (fun h => hg (gt.2 h)) I
     exact qy S 78 rfl (gt.1 hg) (bD (((compsV r_2 r_9).getD a1 intE.dflt) = ((compsV r_2 r_9).getD b1 intE.dflt))) (x_eql (S.p rfl hg) (S.p rfl hg)) I
    ·intro a w62 G I S hE
     have TT := Tr.of_ch C.ms G (fun _ h => by simp at h)
     replace C := C.trans TT
     obtain ⟨e78, e87, _⟩ := hE
     replace S := S.ext e78
     replace S := S.ext e87
     exact qo (bD ((0 ≤ ((compsV r_2 r_9).getD a1 intE.dflt)) ∧ (((compsV r_2 r_9).getD a1 intE.dflt) = ((compsV r_2 r_9).getD b1 intE.dflt)))) (x_and (S.e rfl) (S.p rfl) (S.e rfl)) I
    ·intro a w63 G I S hE
     have TT := Tr.of_ch C.ms G (fun _ h => by simp at h)
     replace C := C.trans TT
     obtain ⟨e72, e88, _⟩ := hE
     replace S := S.ext e72
     replace S := S.ext e88
     exact qo (bD (¬ ((connV r_2 r_9 ((a1 : Nat) : Int) ((b1 : Nat) : Int)) ↔ ((0 ≤ ((compsV r_2 r_9).getD a1 intE.dflt)) ∧ (((compsV r_2 r_9).getD a1 intE.dflt) = ((compsV r_2 r_9).getD b1 intE.dflt)))))) (x_bpneq Try.underlying4 (S.e rfl) (S.e rfl)) I
    ·intro a w64 G I S hE
     have TT := Tr.of_ch C.ms G (fun _ h => by simp at h)
     replace C := C.trans TT
     obtain ⟨e89, _⟩ := hE
     replace S := S.ext e89
     exact qo (bD (¬ ((connV r_2 r_9 ((a1 : Nat) : Int) ((b1 : Nat) : Int)) ↔ ((0 ≤ ((compsV r_2 r_9).getD a1 intE.dflt)) ∧ (((compsV r_2 r_9).getD a1 intE.dflt) = ((compsV r_2 r_9).getD b1 intE.dflt)))))) (x_move (S.e rfl)) I
    ·intro a w65 G I S hE
     have TT := Tr.of_ch C.ms G (fun _ h => by simp at h)
     replace R_2 := Enc.tr (topoE) R_2 TT
     replace K8 := Blk.tr0 K8 G
     replace C := C.trans TT
     obtain ⟨e90, _⟩ := hE
     replace S := S.ext e90
     refine (Classical.em (¬ (¬ ((connV r_2 r_9 ((a1 : Nat) : Int) ((b1 : Nat) : Int)) ↔ ((0 ≤ ((compsV r_2 r_9).getD a1 intE.dflt)) ∧ (((compsV r_2 r_9).getD a1 intE.dflt) = ((compsV r_2 r_9).getD b1 intE.dflt))))))).symm.elim (fun hg => ?_) fun hg => ?_
     ·exact qn S 90 rfl (fun h => hg (gf.2 h)) I
     exact qy S 90 rfl (gf.1 hg) (tV r_2) (x_loadw (tL r_2) ⟨_, Try.underlying28, rfl, by kernel_rfl⟩ (S.e rfl) (K8.mid [] (tL r_2) [] rfl _ rfl)) I
    ·intro a w66 G I S hE
     have TT := Tr.of_ch C.ms G (fun _ h => by simp at h)
     replace R_9 := Enc.tr (failE) R_9 TT
     replace K12 := Blk.tr0 K12 G
     replace C := C.trans TT
     obtain ⟨e90, _⟩ := hE
     replace S := S.ext e90
     refine (Classical.em (¬ (¬ ((connV r_2 r_9 ((a1 : Nat) : Int) ((b1 : Nat) : Int)) ↔ ((0 ≤ ((compsV r_2 r_9).getD a1 intE.dflt)) ∧ (((compsV r_2 r_9).getD a1 intE.dflt) = ((compsV r_2 r_9).getD b1 intE.dflt))))))).symm.elim (fun hg => ?_) fun hg => ?_
     ·exact qn S 90 rfl (fun h => hg (gf.2 h)) I
     exact qy S 90 rfl (gf.1 hg) (fV r_9) (x_loadw (fL r_9) ⟨_, Try.underlying41, rfl, by kernel_rfl⟩ (S.e rfl) (K12.mid [] (fL r_9) [] rfl _ rfl)) I
    ·intro a w67 G I S hE
     have TT := Tr.of_ch C.ms G (fun _ h => by simp at h)
     replace C := C.trans TT
     obtain ⟨e90, _⟩ := hE
     replace S := S.ext e90
     refine (Classical.em (¬ (¬ ((connV r_2 r_9 ((a1 : Nat) : Int) ((b1 : Nat) : Int)) ↔ ((0 ≤ ((compsV r_2 r_9).getD a1 intE.dflt)) ∧ (((compsV r_2 r_9).getD a1 intE.dflt) = ((compsV r_2 r_9).getD b1 intE.dflt))))))).symm.elim (fun hg => ?_) fun hg => ?_
     ·exact qn S 90 rfl (fun h => hg (gf.2 h)) I
     exact qy S 90 rfl (gf.1 hg) (iN a1) (x_move (S.e rfl)) I
    ·intro a w68 G I S hE
     have TT := Tr.of_ch C.ms G (fun _ h => by simp at h)
     replace C := C.trans TT
     obtain ⟨e90, _⟩ := hE
     replace S := S.ext e90
     refine (Classical.em (¬ (¬ ((connV r_2 r_9 ((a1 : Nat) : Int) ((b1 : Nat) : Int)) ↔ ((0 ≤ ((compsV r_2 r_9).getD a1 intE.dflt)) ∧ (((compsV r_2 r_9).getD a1 intE.dflt) = ((compsV r_2 r_9).getD b1 intE.dflt))))))).symm.elim (fun hg => ?_) fun hg => ?_
     ·exact qn S 90 rfl (fun h => hg (gf.2 h)) I
     exact qy S 90 rfl (gf.1 hg) (iN b1) (x_move (S.e rfl)) I
    ·intro a w69 G I S hE
     have TT := Tr.of_ch C.ms G (fun _ h => by simp at h)
     replace R_2 := Enc.tr (topoE) R_2 TT
     replace R_9 := Enc.tr (failE) R_9 TT
     replace C := C.trans TT
     obtain ⟨e90, e91, e92, e93, e94, _⟩ := hE
     replace S := S.ext e90
     replace S := S.ext e91
     replace S := S.ext e92
     replace S := S.ext e93
     replace S := S.ext e94
     refine (Classical.em (¬ (¬ ((connV r_2 r_9 ((a1 : Nat) : Int) ((b1 : Nat) : Int)) ↔ ((0 ≤ ((compsV r_2 r_9).getD a1 intE.dflt)) ∧ (((compsV r_2 r_9).getD a1 intE.dflt) = ((compsV r_2 r_9).getD b1 intE.dflt))))))).symm.elim (fun hg => ?_) fun hg => ?_
     ·exact qn S 90 rfl (fun h => hg (gf.2 h)) I
     refine head_yes rfl rfl rfl rfl (by rw [S.size]; decide) (gv := bD (¬ ((connV r_2 r_9 ((a1 : Nat) : Int) ((b1 : Nat) : Int)) ↔ ((0 ≤ ((compsV r_2 r_9).getD a1 intE.dflt)) ∧ (((compsV r_2 r_9).getD a1 intE.dflt) = ((compsV r_2 r_9).getD b1 intE.dflt)))))) (S.get 90 _ rfl) (gf.1 hg) (op_call (vs := #[tV r_2, fV r_9, iN a1, iN b1]) (by simp only [List.map_toArray, List.map_cons, List.map_nil, show a.eval (.tmp 91) = tV r_2 from (S.p rfl hg), show a.eval (.tmp 92) = fV r_9 from (S.p rfl hg), show a.eval (.tmp 93) = iN a1 from (S.p rfl hg), show a.eval (.tmp 94) = iN b1 from (S.p rfl hg)]) callable_27 (fConn _ (Ex F _) (C.old hF)  (MS.nil _) r_2 ((topoE).down0 R_2) r_9 ((failE).down0 R_9) ((a1 : Nat) : Int) ⟨by omega, by omega⟩ ((b1 : Nat) : Int) ⟨by omega, by omega⟩) ?_)
     rintro e w2 ⟨rfl, T0⟩; exact ⟨_, rfl, Done.mk' rfl (by decide) (show _ = _ from (if_pos hg).symm) T0.ch trivial⟩
    ·intro a w70 G I S hE
     have TT := Tr.of_ch C.ms G (fun _ h => by simp at h)
     replace R_2 := Enc.tr (topoE) R_2 TT
     replace K8 := Blk.tr0 K8 G
     replace C := C.trans TT
     obtain ⟨e90, _⟩ := hE
     replace S := S.ext e90
     refine (Classical.em (¬ (¬ ((connV r_2 r_9 ((a1 : Nat) : Int) ((b1 : Nat) : Int)) ↔ ((0 ≤ ((compsV r_2 r_9).getD a1 intE.dflt)) ∧ (((compsV r_2 r_9).getD a1 intE.dflt) = ((compsV r_2 r_9).getD b1 intE.dflt))))))).symm.elim (fun hg => ?_) fun hg => ?_
     ·exact qn S 90 rfl (fun h => hg (gf.2 h)) I
     exact qy S 90 rfl (gf.1 hg) (tV r_2) (x_loadw (tL r_2) ⟨_, Try.underlying28, rfl, by kernel_rfl⟩ (S.e rfl) (K8.mid [] (tL r_2) [] rfl _ rfl)) I
    ·intro a w71 G I S hE
     have TT := Tr.of_ch C.ms G (fun _ h => by simp at h)
     replace R_9 := Enc.tr (failE) R_9 TT
     replace K12 := Blk.tr0 K12 G
     replace C := C.trans TT
     obtain ⟨e90, _⟩ := hE
     replace S := S.ext e90
     refine (Classical.em (¬ (¬ ((connV r_2 r_9 ((a1 : Nat) : Int) ((b1 : Nat) : Int)) ↔ ((0 ≤ ((compsV r_2 r_9).getD a1 intE.dflt)) ∧ (((compsV r_2 r_9).getD a1 intE.dflt) = ((compsV r_2 r_9).getD b1 intE.dflt))))))).symm.elim (fun hg => ?_) fun hg => ?_
     ·exact qn S 90 rfl (fun h => hg (gf.2 h)) I
     exact qy S 90 rfl (gf.1 hg) (fV r_9) (x_loadw (fL r_9) ⟨_, Try.underlying41, rfl, by kernel_rfl⟩ (S.e rfl) (K12.mid [] (fL r_9) [] rfl _ rfl)) I
    ·intro a w72 G I S hE
     have TT := Tr.of_ch C.ms G (fun _ h => by simp at h)
     replace C := C.trans TT
     obtain ⟨e90, _⟩ := hE
     replace S := S.ext e90
     refine (Classical.em (¬ (¬ ((connV r_2 r_9 ((a1 : Nat) : Int) ((b1 : Nat) : Int)) ↔ ((0 ≤ ((compsV r_2 r_9).getD a1 intE.dflt)) ∧ (((compsV r_2 r_9).getD a1 intE.dflt) = ((compsV r_2 r_9).getD b1 intE.dflt))))))).symm.elim (fun hg => ?_) fun hg => ?_
     ·exact qn S 90 rfl (fun h => hg (gf.2 h)) I
     exact qy S 90 rfl (gf.1 hg) (iN b1) (x_move (S.e rfl)) I
    ·intro a w73 G I S hE
     have TT := Tr.of_ch C.ms G (fun _ h => by simp at h)
     replace C := C.trans TT
     obtain ⟨e90, _⟩ := hE
     replace S := S.ext e90
     refine (Classical.em (¬ (¬ ((connV r_2 r_9 ((a1 : Nat) : Int) ((b1 : Nat) : Int)) ↔ ((0 ≤ ((compsV r_2 r_9).getD a1 intE.dflt)) ∧ (((compsV r_2 r_9).getD a1 intE.dflt) = ((compsV r_2 r_9).getD b1 intE.dflt))))))).symm.elim (fun hg => ?_) fun hg => ?_
     ·exact qn S 90 rfl (fun h => hg (gf.2 h)) I
     exact qy S 90 rfl (gf.1 hg) (iN a1) (x_move (S.e rfl)) I
    ·intro a w74 G I S hE
     have TT := Tr.of_ch C.ms G (fun _ h => by simp at h)
     replace R_2 := Enc.tr (topoE) R_2 TT
     replace R_9 := Enc.tr (failE) R_9 TT
     replace C := C.trans TT
     obtain ⟨e90, e96, e97, e98, e99, _⟩ := hE
     replace S := S.ext e90
     replace S := S.ext e96
     replace S := S.ext e97
     replace S := S.ext e98
     replace S := S.ext e99
     refine (Classical.em (¬ (¬ ((connV r_2 r_9 ((a1 : Nat) : Int) ((b1 : Nat) : Int)) ↔ ((0 ≤ ((compsV r_2 r_9).getD a1 intE.dflt)) ∧ (((compsV r_2 r_9).getD a1 intE.dflt) = ((compsV r_2 r_9).getD b1 intE.dflt))))))).symm.elim (fun hg => ?_) fun hg => ?_
     ·exact qn S 90 rfl (fun h => hg (gf.2 h)) I
     refine head_yes rfl rfl rfl rfl (by rw [S.size]; decide) (gv := bD (¬ ((connV r_2 r_9 ((a1 : Nat) : Int) ((b1 : Nat) : Int)) ↔ ((0 ≤ ((compsV r_2 r_9).getD a1 intE.dflt)) ∧ (((compsV r_2 r_9).getD a1 intE.dflt) = ((compsV r_2 r_9).getD b1 intE.dflt)))))) (S.get 90 _ rfl) (gf.1 hg) (op_call (vs := #[tV r_2, fV r_9, iN b1, iN a1]) (by simp only [List.map_toArray, List.map_cons, List.map_nil, show a.eval (.tmp 96) = tV r_2 from (S.p rfl hg), show a.eval (.tmp 97) = fV r_9 from (S.p rfl hg), show a.eval (.tmp 98) = iN b1 from (S.p rfl hg), show a.eval (.tmp 99) = iN a1 from (S.p rfl hg)]) callable_27 (fConn _ (Ex F _) (C.old hF)  (MS.nil _) r_2 ((topoE).down0 R_2) r_9 ((failE).down0 R_9) ((b1 : Nat) : Int) ⟨by omega, by omega⟩ ((a1 : Nat) : Int) ⟨by omega, by omega⟩) ?_)
     rintro e w2 ⟨rfl, T0⟩; exact ⟨_, rfl, Done.mk' rfl (by decide) (show _ = _ from (if_pos hg).symm) T0.ch trivial⟩
    ·intro a w75 G I S hE
     have TT := Tr.of_ch C.ms G (fun _ h => by simp at h)
     replace C := C.trans TT
     obtain ⟨e90, e95, e100, _⟩ := hE
     replace S := S.ext e90
     replace S := S.ext e95
     replace S := S.ext e100
     refine (Classical.em (¬ (¬ ((connV r_2 r_9 ((a1 : Nat) : Int) ((b1 : Nat) : Int)) ↔ ((0 ≤ ((compsV r_2 r_9).getD a1 intE.dflt)) ∧ (((compsV r_2 r_9).getD a1 intE.dflt) = ((compsV r_2 r_9).getD b1 intE.dflt))))))).symm.elim (fun hg => ?_) fun hg => ?_
     ·exact qn S 90 rfl (fun h => hg (gf.2 h)) I
     exact qy S 90 rfl (gf.1 hg) (bD (¬ ((connV r_2 r_9 ((a1 : Nat) : Int) ((b1 : Nat) : Int)) ↔ (connV r_2 r_9 ((b1 : Nat) : Int) ((a1 : Nat) : Int))))) (x_bpneq Try.underlying4 (S.p rfl hg) (S.p rfl hg)) I
    intro a w76 G I S hE
    have TT := Tr.of_ch C.ms G (fun _ h => by simp at h)
    replace C := C.trans TT
    obtain ⟨e90, e101, _⟩ := hE
    replace S := S.ext e90
    replace S := S.ext e101
    exact qo (bD ((¬ ((connV r_2 r_9 ((a1 : Nat) : Int) ((b1 : Nat) : Int)) ↔ ((0 ≤ ((compsV r_2 r_9).getD a1 intE.dflt)) ∧ (((compsV r_2 r_9).getD a1 intE.dflt) = ((compsV r_2 r_9).getD b1 intE.dflt))))) ∨ (¬ ((connV r_2 r_9 ((a1 : Nat) : Int) ((b1 : Nat) : Int)) ↔ (connV r_2 r_9 ((b1 : Nat) : Int) ((a1 : Nat) : Int)))))) (x_or (S.e rfl) (S.e rfl) (S.p rfl)) I
   clear S a; intro a w77 G I S hE; have TT := Tr.of_ch C.ms G (fun _ h => by simp at h)
   replace l_w := Enc.tr (slE intE) l_w TT
   replace R_2 := Enc.tr (topoE) R_2 TT
   replace R_9 := Enc.tr (failE) R_9 TT
   replace R_13 := Enc.tr (slE intE) R_13 TT
   replace TK1 := TpB.tr0 TK1 G
   replace K8 := Blk.tr0 K8 G
   replace K12 := Blk.tr0 K12 G
   replace GL0 := GL0.trans TT
   replace GL1 := GL1.trans TT
   replace C := C.trans TT
   clear TT G
   obtain ⟨e102, -⟩ := hE
   replace S := S.ext e102
   clear e102
   obtain ⟨hl16, hu16⟩ : inI64 ((compsV r_2 r_9).getD a1 intE.dflt) := id ((show LAt intE _ _ ra_13 (compsV r_2 r_9) from (R_13).1).wf a1 (by omega))
   refine qt ?_
   refine cond_dec S rfl ?_ ?_
   ·intro hc6
    refine qs ?_
    refine qa S rfl ?_; clear S a; intro a S
    refine qt ?_
    refine wp_ret ?_
    refine blk_r ?_
    refine then_r ?_
    refine then_r ?_
    refine blk_r ?_
    refine blk_r ?_
    refine then_r ?_
    refine then_r ?_
    refine blk_r ?_
    refine then_r ?_
    refine ret1 rfl S rfl ?_
    have TD : Tr [one b12, one b8, one T1] w77 [] w77 := Tr.drop C.ms [] (by decide)
    have GD : Ch (In []) w77 w77 := Ch.refl _
    clear TK1
    clear K8
    clear K12
    replace l_w := Enc.tr (slE intE) l_w TD
    replace R_2 := Enc.tr (topoE) R_2 TD
    replace R_9 := Enc.tr (failE) R_9 TD
    replace R_13 := Enc.tr (slE intE) R_13 TD
    replace GL0 := GL0.trans TD
    replace GL1 := GL1.trans TD
    replace C := C.trans TD
    clear TD GD
    refine ⟨(r1 (vf ?_)), C⟩
    intro _; have e := eqv_two HV (a := a1) (b := b1) (by omega) (by omega); rw [e0] at hc6
    rcases hc6 with h | h
    ·exact h e.1
    exact h e.2
   intro hc7
   refine wp_skip ?_
   refine blk_n ?_
   refine then_n ?_
   refine wp_region_lit ?_
   refine qm S rfl ?_; clear S a; intro a S
   refine qv S (iN (b1 + 1)) (x_add (S.e rfl) (S.e rfl) (r := ((b1 + 1 : Nat) : Int)) (w_i64 (by omega))) ?_; clear S a; intro a S
   refine qa S rfl ?_; clear S a; intro a S
   refine qt ?_
   refine ⟨r_2.devs.xs.length - (b1 + 1), ?_, (b1 + 1), S.sub ⟨rfl, rfl, rfl, rfl, rfl, rfl, rfl, rfl, rfl, rfl, trivial⟩, GL1, ?_, TK1, K8, K12, rfl⟩
   ·omega
   refine ⟨by omega, ?_⟩
   trivial
  intro hc8
  refine wp_exit ?_
  refine then_e ?_
  refine then_e ?_
  refine blk_e ?_
  refine blk_n ?_
  refine then_n ?_
  refine wp_region_lit ?_
  refine qm S rfl ?_; clear S a; intro a S
  refine qv S (iN (a1 + 1)) (x_add (S.e rfl) (S.e rfl) (r := ((a1 + 1 : Nat) : Int)) (w_i64 (by omega))) ?_; clear S a; intro a S
  refine qa S rfl ?_; clear S a; intro a S
  refine qt ?_
  refine ⟨r_2.devs.xs.length - (a1 + 1), ?_, (a1 + 1), S.sub ⟨rfl, rfl, rfl, rfl, rfl, trivial⟩, GL0, ?_, TK1, K8, K12, rfl⟩
  ·omega
  refine ⟨by omega, ?_⟩
  trivial
 intro hc9
 refine wp_exit ?_
 refine then_e ?_
 refine then_e ?_
 refine blk_e ?_
 refine then_n ?_
 refine wp_seq ?_
 refine qs ?_
 refine qa S rfl ?_; clear S a; intro a S
 refine qt ?_
 refine wp_block ?_
 refine wp_loop_ghost (fun m a wr => ∃ i1 : Nat, Slots 136 [(4, pT b8 0), (5, pT b12 0), (6, .slice ra_13 ((compsV r_2 r_9).length) rc_13), (10, iN i1)] a ∧ Tr [one b12, one b8, one T1] w9 [one b12, one b8, one T1] wr ∧ (i1 ≤ r_2.links.xs.length ∧ True) ∧ TpB 62 T1 l wr ∧ Blk wr.heap b8 (tL r_2) 28 ∧ Blk wr.heap b12 (fL r_9) 41 ∧ (r_2.links.xs.length - i1) = m) (r_2.links.xs.length - 0) ?_ ?_
 ·refine ⟨0, S.sub ⟨rfl, rfl, rfl, rfl, trivial⟩, Tr.refl C.ms, ?_, TK1, K8, K12, rfl⟩
  exact ⟨Nat.zero_le _, by trivial⟩
 rintro m a w78 ⟨i1, S, G, hR, TK1', K8', K12', rfl⟩
 clear TK1; have TK1 := TK1'; clear TK1'
 clear K8; have K8 := K8'; clear K8'
 clear K12; have K12 := K12'; clear K12'
 replace l_w := Enc.tr (slE intE) l_w G
 replace R_2 := Enc.tr (topoE) R_2 G
 replace R_9 := Enc.tr (failE) R_9 G
 replace R_13 := Enc.tr (slE intE) R_13 G
 replace GL0 := GL0.trans G
 replace C := C.trans G
 have GL2 := G; clear G
 obtain ⟨hi1, hxi1⟩ := hR
 refine wp_seq ?_
 refine qs ?_
 refine qm S rfl ?_; clear S a; intro a S
 refine qv S (pT b8 (0 + 1)) (x_fld (z := 0) (0) 1 Try.underlying28 rfl rfl (by kernel_rfl) (S.e rfl)) ?_; clear S a; intro a S
 refine qv S (sV r_2.links) (x_load ⟨_, Try.underlying24, rfl⟩ (S.e rfl) (K8.cell (j := 1) rfl)) ?_; clear S a; intro a S
 refine qv S (iN r_2.links.xs.length) (x_len Try.underlying24 (S.e rfl)) ?_; clear S a; intro a S
 refine qv S (bD (((i1 : Nat) : Int) < ((r_2.links.xs.length : Nat) : Int))) (x_lss (S.e rfl) (S.e rfl)) ?_; clear S a; intro a S
 refine qt ?_
 refine cond_dec S rfl ?_ ?_
 ·intro hc10
  have hl := topV_link HT (i := i1) (by omega)
  unfold lnkV at hl
  refine wp_skip ?_
  refine then_n ?_
  refine wp_seq ?_
  refine wp_block ?_
  refine wp_seq ?_
  replace S := S.sub (L' := [(4, pT b8 0), (5, pT b12 0), (6, .slice ra_13 ((compsV r_2 r_9).length) rc_13), (10, iN i1), (103, iN i1), (104, pT b8 (0 + 1)), (105, sV r_2.links), (106, iN r_2.links.xs.length), (107, bD (((i1 : Nat) : Int) < ((r_2.links.xs.length : Nat) : Int)))]) ⟨rfl, rfl, rfl, rfl, rfl, rfl, rfl, rfl, rfl, trivial⟩
  refine wp_heads (M := In []) S 25 [(110, iV (tV r_2)), (111, iV (fV r_9)), (112, iV (iN i1)), (113, iV (bD (usableV r_2 r_9 ((i1 : Nat) : Int)))), (114, iV (bD (usableV r_2 r_9 ((i1 : Nat) : Int)))), (115, iV ((if (usableV r_2 r_9 ((i1 : Nat) : Int)) then .slice ra_13 ((compsV r_2 r_9).length) rc_13 else undef))), (116, iV ((if (usableV r_2 r_9 ((i1 : Nat) : Int)) then pT b8 (0 + 1) else undef))), (117, iV ((if (usableV r_2 r_9 ((i1 : Nat) : Int)) then sV r_2.links else undef))), (118, iV ((if (usableV r_2 r_9 ((i1 : Nat) : Int)) then iN i1 else undef))), (119, iV ((if (usableV r_2 r_9 ((i1 : Nat) : Int)) then pT (blk r_2.links.a) (off r_2.links.a + i1 * 3) else undef))), (120, iV ((if (usableV r_2 r_9 ((i1 : Nat) : Int)) then pT (blk r_2.links.a) (off r_2.links.a + i1 * 3 + 0) else undef))), (121, iV ((if (usableV r_2 r_9 ((i1 : Nat) : Int)) then iI ((r_2.links.xs.getD i1 lnkE.dflt).a) else undef))), (122, iV ((if (usableV r_2 r_9 ((i1 : Nat) : Int)) then pT (blk ra_13) (off ra_13 + ((r_2.links.xs.getD i1 lnkE.dflt).a).toNat * 1) else undef))), (123, iV ((if (usableV r_2 r_9 ((i1 : Nat) : Int)) then iI ((compsV r_2 r_9).getD (((r_2.links.xs.getD i1 lnkE.dflt).a).toNat) intE.dflt) else undef))), (124, iV ((if (usableV r_2 r_9 ((i1 : Nat) : Int)) then .slice ra_13 ((compsV r_2 r_9).length) rc_13 else undef))), (125, iV ((if (usableV r_2 r_9 ((i1 : Nat) : Int)) then pT b8 (0 + 1) else undef))), (126, iV ((if (usableV r_2 r_9 ((i1 : Nat) : Int)) then sV r_2.links else undef))), (127, iV ((if (usableV r_2 r_9 ((i1 : Nat) : Int)) then iN i1 else undef))), (128, iV ((if (usableV r_2 r_9 ((i1 : Nat) : Int)) then pT (blk r_2.links.a) (off r_2.links.a + i1 * 3) else undef))), (129, iV ((if (usableV r_2 r_9 ((i1 : Nat) : Int)) then pT (blk r_2.links.a) (off r_2.links.a + i1 * 3 + 1) else undef))), (130, iV ((if (usableV r_2 r_9 ((i1 : Nat) : Int)) then iI ((r_2.links.xs.getD i1 lnkE.dflt).b) else undef))), (131, iV ((if (usableV r_2 r_9 ((i1 : Nat) : Int)) then pT (blk ra_13) (off ra_13 + ((r_2.links.xs.getD i1 lnkE.dflt).b).toNat * 1) else undef))), (132, iV ((if (usableV r_2 r_9 ((i1 : Nat) : Int)) then iI ((compsV r_2 r_9).getD (((r_2.links.xs.getD i1 lnkE.dflt).b).toNat) intE.dflt) else undef))), (133, iV ((if (usableV r_2 r_9 ((i1 : Nat) : Int)) then bD (¬ ((compsV r_2 r_9).getD (((r_2.links.xs.getD i1 lnkE.dflt).a).toNat) intE.dflt) = ((compsV r_2 r_9).getD (((r_2.links.xs.getD i1 lnkE.dflt).b).toNat) intE.dflt)) else undef))), (134, iV (bD ((usableV r_2 r_9 ((i1 : Nat) : Int)) ∧ (¬ ((compsV r_2 r_9).getD (((r_2.links.xs.getD i1 lnkE.dflt).a).toNat) intE.dflt) = ((compsV r_2 r_9).getD (((r_2.links.xs.getD i1 lnkE.dflt).b).toNat) intE.dflt)))))] (fun w => True) [[], [], [], [110, 111, 112], [113], [114], [114], [114, 116], [114], [114, 117, 118], [114, 119], [114, 120], [114, 115, 121], [114, 122], [114], [114], [114, 125], [114], [114, 126, 127], [114, 128], [114, 129], [114, 124, 130], [114, 131], [114, 123, 132], [114, 133]] [134] _ rfl mixed (by kernel_rfl) rfl trivial ?_ ?_
  ·refine ⟨?_, ?_, ?_, ?_, ?_, ?_, ?_, ?_, ?_, ?_, ?_, ?_, ?_, ?_, ?_, ?_, ?_, ?_, ?_, ?_, ?_, ?_, ?_, ?_, ?_, trivial⟩
   ·intro a w79 G I S hE
    have TT := Tr.of_ch C.ms G (fun _ h => by simp at h)
    replace R_2 := Enc.tr (topoE) R_2 TT
    replace K8 := Blk.tr0 K8 G
    replace C := C.trans TT
    exact qo (tV r_2) (x_loadw (tL r_2) ⟨_, Try.underlying28, rfl, by kernel_rfl⟩ (S.e rfl) (K8.mid [] (tL r_2) [] rfl _ rfl)) I
   ·intro a w80 G I S hE
    have TT := Tr.of_ch C.ms G (fun _ h => by simp at h)
    replace R_9 := Enc.tr (failE) R_9 TT
    replace K12 := Blk.tr0 K12 G
    replace C := C.trans TT
    exact qo (fV r_9) (x_loadw (fL r_9) ⟨_, Try.underlying41, rfl, by kernel_rfl⟩ (S.e rfl) (K12.mid [] (fL r_9) [] rfl _ rfl)) I
   ·intro a w81 G I S hE
    have TT := Tr.of_ch C.ms G (fun _ h => by simp at h)
    replace C := C.trans TT
    exact qo (iN i1) (x_move (S.e rfl)) I
   ·intro a w82 G I S hE
    have TT := Tr.of_ch C.ms G (fun _ h => by simp at h)
    replace R_2 := Enc.tr (topoE) R_2 TT
    replace R_9 := Enc.tr (failE) R_9 TT
    replace C := C.trans TT
    obtain ⟨e110, e111, e112, _⟩ := hE
    replace S := S.ext e110
    replace S := S.ext e111
    replace S := S.ext e112
    refine head_op rfl rfl (op_call (vs := #[tV r_2, fV r_9, iN i1]) (by simp only [List.map_toArray, List.map_cons, List.map_nil, show a.eval (.tmp 110) = tV r_2 from (S.e rfl), show a.eval (.tmp 111) = fV r_9 from (S.e rfl), show a.eval (.tmp 112) = iN i1 from (S.e rfl)]) callable_28 (fUsable _ (Ex F _) (C.old hF)  (MS.nil _) r_2 ((topoE).down0 R_2) r_9 ((failE).down0 R_9) ((i1 : Nat) : Int) ⟨by omega, by omega⟩) ?_)
    rintro e w2 ⟨rfl, T0⟩; exact ⟨_, rfl, Done.mk' rfl (by decide) (show _ = _ from rfl) T0.ch trivial⟩
   ·intro a w83 G I S hE
    have TT := Tr.of_ch C.ms G (fun _ h => by simp at h)
    replace C := C.trans TT
    obtain ⟨e113, _⟩ := hE
    replace S := S.ext e113
    exact qo (bD (usableV r_2 r_9 ((i1 : Nat) : Int))) (x_move (S.e rfl)) I
   ·intro a w84 G I S hE
    have TT := Tr.of_ch C.ms G (fun _ h => by simp at h)
    replace R_13 := Enc.tr (slE intE) R_13 TT
    replace C := C.trans TT
    obtain ⟨e114, _⟩ := hE
    replace S := S.ext e114
    refine (Classical.em (usableV r_2 r_9 ((i1 : Nat) : Int))).symm.elim (fun hg => ?_) fun hg => ?_
    ·exact qn S 114 rfl (fun h => hg (gt.2 h)) I
    exact qy S 114 rfl (gt.1 hg) (.slice ra_13 ((compsV r_2 r_9).length) rc_13) (x_move (S.e rfl)) I
   ·intro a w85 G I S hE
    have TT := Tr.of_ch C.ms G (fun _ h => by simp at h)
    replace R_2 := Enc.tr (topoE) R_2 TT
    replace K8 := Blk.tr0 K8 G
    replace C := C.trans TT
    obtain ⟨e114, _⟩ := hE
    replace S := S.ext e114
    refine (Classical.em (usableV r_2 r_9 ((i1 : Nat) : Int))).symm.elim (fun hg => ?_) fun hg => ?_
    ·exact qn S 114 rfl (fun h => hg (gt.2 h)) I
    exact qy S 114 rfl (gt.1 hg) (pT b8 (0 + 1)) (x_fld (z := 0) (0) 1 Try.underlying28 rfl rfl (by kernel_rfl) (S.e rfl)) I
   ·intro a w86 G I S hE
    have TT := Tr.of_ch C.ms G (fun _ h => by simp at h)
    replace R_2 := Enc.tr (topoE) R_2 TT
    replace K8 := Blk.tr0 K8 G
    replace C := C.trans TT
    obtain ⟨e114, e116, _⟩ := hE
    replace S := S.ext e114
    replace S := S.ext e116
    refine (Classical.em (usableV r_2 r_9 ((i1 : Nat) : Int))).symm.elim (fun hg => ?_) fun hg => ?_
    ·exact qn S 114 rfl (fun h => hg (gt.2 h)) I
    exact qy S 114 rfl (gt.1 hg) (sV r_2.links) (x_load ⟨_, Try.underlying24, rfl⟩ (S.p rfl hg) (K8.cell (j := 1) rfl)) I
   ·intro a w87 G I S hE
    have TT := Tr.of_ch C.ms G (fun _ h => by simp at h)
    replace C := C.trans TT
    obtain ⟨e114, _⟩ := hE
    replace S := S.ext e114
    refine (Classical.em (usableV r_2 r_9 ((i1 : Nat) : Int))).symm.elim (fun hg => ?_) fun hg => ?_
    ·exact qn S 114 rfl (fun h => hg (gt.2 h)) I
    exact qy S 114 rfl (gt.1 hg) (iN i1) (x_move (S.e rfl)) I
   ·intro a w88 G I S hE
    have TT := Tr.of_ch C.ms G (fun _ h => by simp at h)
    replace R_2 := Enc.tr (topoE) R_2 TT
    replace C := C.trans TT
    obtain ⟨e114, e117, e118, _⟩ := hE
    replace S := S.ext e114
    replace S := S.ext e117
    replace S := S.ext e118
    refine (Classical.em (usableV r_2 r_9 ((i1 : Nat) : Int))).symm.elim (fun hg => ?_) fun hg => ?_
    ·exact qn S 114 rfl (fun h => hg (gt.2 h)) I
    exact qy S 114 rfl (gt.1 hg) (pT (blk r_2.links.a) (off r_2.links.a + i1 * 3)) (x_idx Try.underlying24 (by kernel_rfl) (S.p rfl hg) (S.p rfl hg) i1 rfl (by omega) ((R_2.2.1).1.adr (i := i1) (by omega))) I
   ·intro a w89 G I S hE
    have TT := Tr.of_ch C.ms G (fun _ h => by simp at h)
    replace R_2 := Enc.tr (topoE) R_2 TT
    replace C := C.trans TT
    obtain ⟨e114, e119, _⟩ := hE
    replace S := S.ext e114
    replace S := S.ext e119
    refine (Classical.em (usableV r_2 r_9 ((i1 : Nat) : Int))).symm.elim (fun hg => ?_) fun hg => ?_
    ·exact qn S 114 rfl (fun h => hg (gt.2 h)) I
    exact qy S 114 rfl (gt.1 hg) (pT (blk r_2.links.a) (off r_2.links.a + i1 * 3 + 0)) (x_fld (z := 0) (off r_2.links.a + i1 * 3) 0 Try.underlying54 rfl rfl (by kernel_rfl) (S.p rfl hg)) I
   ·intro a w90 G I S hE
    have TT := Tr.of_ch C.ms G (fun _ h => by simp at h)
    replace R_2 := Enc.tr (topoE) R_2 TT
    replace C := C.trans TT
    obtain ⟨e114, e120, _⟩ := hE
    replace S := S.ext e114
    replace S := S.ext e120
    refine (Classical.em (usableV r_2 r_9 ((i1 : Nat) : Int))).symm.elim (fun hg => ?_) fun hg => ?_
    ·exact qn S 114 rfl (fun h => hg (gt.2 h)) I
    exact qy S 114 rfl (gt.1 hg) (iI ((r_2.links.xs.getD i1 lnkE.dflt).a)) (x_load ⟨_, Try.underlying3, rfl⟩ (S.p rfl hg) ((R_2.2.1).1.cell i1 (by omega) 0 _ rfl)) I
   ·intro a w91 G I S hE
    have TT := Tr.of_ch C.ms G (fun _ h => by simp at h)
    replace R_2 := Enc.tr (topoE) R_2 TT
    replace R_13 := Enc.tr (slE intE) R_13 TT
    replace C := C.trans TT
    obtain ⟨e114, e115, e121, _⟩ := hE
    replace S := S.ext e114
    replace S := S.ext e115
    replace S := S.ext e121
    refine (Classical.em (usableV r_2 r_9 ((i1 : Nat) : Int))).symm.elim (fun hg => ?_) fun hg => ?_
    ·exact qn S 114 rfl (fun h => hg (gt.2 h)) I
    exact qy S 114 rfl (gt.1 hg) (pT (blk ra_13) (off ra_13 + ((r_2.links.xs.getD i1 lnkE.dflt).a).toNat * 1)) (x_idx Try.underlying22 (by kernel_rfl) (S.p rfl hg) (S.p rfl hg) ((r_2.links.xs.getD i1 lnkE.dflt).a).toNat (by omega) (by omega) ((show LAt intE _ _ ra_13 (compsV r_2 r_9) from (R_13).1).adr (i := ((r_2.links.xs.getD i1 lnkE.dflt).a).toNat) (by omega))) I
   ·intro a w92 G I S hE
    have TT := Tr.of_ch C.ms G (fun _ h => by simp at h)
    replace R_13 := Enc.tr (slE intE) R_13 TT
    replace C := C.trans TT
    obtain ⟨e114, e122, _⟩ := hE
    replace S := S.ext e114
    replace S := S.ext e122
    refine (Classical.em (usableV r_2 r_9 ((i1 : Nat) : Int))).symm.elim (fun hg => ?_) fun hg => ?_
    ·exact qn S 114 rfl (fun h => hg (gt.2 h)) I
    exact qy S 114 rfl (gt.1 hg) (iI ((compsV r_2 r_9).getD (((r_2.links.xs.getD i1 lnkE.dflt).a).toNat) intE.dflt)) (x_load ⟨_, Try.underlying3, rfl⟩ (S.p rfl hg) ((show LAt intE _ _ ra_13 (compsV r_2 r_9) from (R_13).1).cell ((r_2.links.xs.getD i1 lnkE.dflt).a).toNat (by omega) 0 _ rfl)) I
   ·intro a w93 G I S hE
    have TT := Tr.of_ch C.ms G (fun _ h => by simp at h)
    replace R_13 := Enc.tr (slE intE) R_13 TT
    replace C := C.trans TT
    obtain ⟨e114, _⟩ := hE
    replace S := S.ext e114
    refine (Classical.em (usableV r_2 r_9 ((i1 : Nat) : Int))).symm.elim (fun hg => ?_) fun hg => ?_
    ·exact qn S 114 rfl (fun h => hg (gt.2 h)) I
    exact qy S 114 rfl (gt.1 hg) (.slice ra_13 ((compsV r_2 r_9).length) rc_13) (x_move (S.e rfl)) I
   ·intro a w94 G I S hE
    have TT := Tr.of_ch C.ms G (fun _ h => by simp at h)
    replace R_2 := Enc.tr (topoE) R_2 TT
    replace K8 := Blk.tr0 K8 G
    replace C := C.trans TT
    obtain ⟨e114, _⟩ := hE
    replace S := S.ext e114
    refine (Classical.em (usableV r_2 r_9 ((i1 : Nat) : Int))).symm.elim (fun hg => ?_) fun hg => ?_
    ·exact qn S 114 rfl (fun h => hg (gt.2 h)) I
    exact qy S 114 rfl (gt.1 hg) (pT b8 (0 + 1)) (x_fld (z := 0) (0) 1 Try.underlying28 rfl rfl (by kernel_rfl) (S.e rfl)) I
   ·intro a w95 G I S hE
    have TT := Tr.of_ch C.ms G (fun _ h => by simp at h)
    replace R_2 := Enc.tr (topoE) R_2 TT
    replace K8 := Blk.tr0 K8 G
    replace C := C.trans TT
    obtain ⟨e114, e125, _⟩ := hE
    replace S := S.ext e114
    replace S := S.ext e125
    refine (Classical.em (usableV r_2 r_9 ((i1 : Nat) : Int))).symm.elim (fun hg => ?_) fun hg => ?_
    ·exact qn S 114 rfl (fun h => hg (gt.2 h)) I
    exact qy S 114 rfl (gt.1 hg) (sV r_2.links) (x_load ⟨_, Try.underlying24, rfl⟩ (S.p rfl hg) (K8.cell (j := 1) rfl)) I
   ·intro a w96 G I S hE
    have TT := Tr.of_ch C.ms G (fun _ h => by simp at h)
    replace C := C.trans TT
    obtain ⟨e114, _⟩ := hE
    replace S := S.ext e114
    refine (Classical.em (usableV r_2 r_9 ((i1 : Nat) : Int))).symm.elim (fun hg => ?_) fun hg => ?_
    ·exact qn S 114 rfl (fun h => hg (gt.2 h)) I
    exact qy S 114 rfl (gt.1 hg) (iN i1) (x_move (S.e rfl)) I
   ·intro a w97 G I S hE
    have TT := Tr.of_ch C.ms G (fun _ h => by simp at h)
    replace R_2 := Enc.tr (topoE) R_2 TT
    replace C := C.trans TT
    obtain ⟨e114, e126, e127, _⟩ := hE
    replace S := S.ext e114
    replace S := S.ext e126
    replace S := S.ext e127
    refine (Classical.em (usableV r_2 r_9 ((i1 : Nat) : Int))).symm.elim (fun hg => ?_) fun hg => ?_
    ·exact qn S 114 rfl (fun h => hg (gt.2 h)) I
    exact qy S 114 rfl (gt.1 hg) (pT (blk r_2.links.a) (off r_2.links.a + i1 * 3)) (x_idx Try.underlying24 (by kernel_rfl) (S.p rfl hg) (S.p rfl hg) i1 rfl (by omega) ((R_2.2.1).1.adr (i := i1) (by omega))) I
   ·intro a w98 G I S hE
    have TT := Tr.of_ch C.ms G (fun _ h => by simp at h)
    replace R_2 := Enc.tr (topoE) R_2 TT
    replace C := C.trans TT
    obtain ⟨e114, e128, _⟩ := hE
    replace S := S.ext e114
    replace S := S.ext e128
    refine (Classical.em (usableV r_2 r_9 ((i1 : Nat) : Int))).symm.elim (fun hg => ?_) fun hg => ?_
    ·exact qn S 114 rfl (fun h => hg (gt.2 h)) I
    exact qy S 114 rfl (gt.1 hg) (pT (blk r_2.links.a) (off r_2.links.a + i1 * 3 + 1)) (x_fld (z := 0) (off r_2.links.a + i1 * 3) 1 Try.underlying54 rfl rfl (by kernel_rfl) (S.p rfl hg)) I
   ·intro a w99 G I S hE
    have TT := Tr.of_ch C.ms G (fun _ h => by simp at h)
    replace R_2 := Enc.tr (topoE) R_2 TT
    replace C := C.trans TT
    obtain ⟨e114, e129, _⟩ := hE
    replace S := S.ext e114
    replace S := S.ext e129
    refine (Classical.em (usableV r_2 r_9 ((i1 : Nat) : Int))).symm.elim (fun hg => ?_) fun hg => ?_
    ·exact qn S 114 rfl (fun h => hg (gt.2 h)) I
    exact qy S 114 rfl (gt.1 hg) (iI ((r_2.links.xs.getD i1 lnkE.dflt).b)) (x_load ⟨_, Try.underlying3, rfl⟩ (S.p rfl hg) ((R_2.2.1).1.cell i1 (by omega) 1 _ rfl)) I
   ·intro a w100 G I S hE
    have TT := Tr.of_ch C.ms G (fun _ h => by simp at h)
    replace R_2 := Enc.tr (topoE) R_2 TT
    replace R_13 := Enc.tr (slE intE) R_13 TT
    replace C := C.trans TT
    obtain ⟨e114, e124, e130, _⟩ := hE
    replace S := S.ext e114
    replace S := S.ext e124
    replace S := S.ext e130
    refine (Classical.em (usableV r_2 r_9 ((i1 : Nat) : Int))).symm.elim (fun hg => ?_) fun hg => ?_
    ·exact qn S 114 rfl (fun h => hg (gt.2 h)) I
    exact qy S 114 rfl (gt.1 hg) (pT (blk ra_13) (off ra_13 + ((r_2.links.xs.getD i1 lnkE.dflt).b).toNat * 1)) (x_idx Try.underlying22 (by kernel_rfl) (S.p rfl hg) (S.p rfl hg) ((r_2.links.xs.getD i1 lnkE.dflt).b).toNat (by omega) (by omega) ((show LAt intE _ _ ra_13 (compsV r_2 r_9) from (R_13).1).adr (i := ((r_2.links.xs.getD i1 lnkE.dflt).b).toNat) (by omega))) I
   ·intro a w101 G I S hE
    have TT := Tr.of_ch C.ms G (fun _ h => by simp at h)
    replace R_13 := Enc.tr (slE intE) R_13 TT
    replace C := C.trans TT
    obtain ⟨e114, e131, _⟩ := hE
    replace S := S.ext e114
    replace S := S.ext e131
    refine (Classical.em (usableV r_2 r_9 ((i1 : Nat) : Int))).symm.elim (fun hg => ?_) fun hg => ?_
    ·exact qn S 114 rfl (fun h => hg (gt.2 h)) I
    exact qy S 114 rfl (gt.1 hg) (iI ((compsV r_2 r_9).getD (((r_2.links.xs.getD i1 lnkE.dflt).b).toNat) intE.dflt)) (x_load ⟨_, Try.underlying3, rfl⟩ (S.p rfl hg) ((show LAt intE _ _ ra_13 (compsV r_2 r_9) from (R_13).1).cell ((r_2.links.xs.getD i1 lnkE.dflt).b).toNat (by omega) 0 _ rfl)) I
   ·intro a w102 G I S hE
    have TT := Tr.of_ch C.ms G (fun _ h => by simp at h)
    replace R_13 := Enc.tr (slE intE) R_13 TT
    replace C := C.trans TT
    obtain ⟨e114, e123, e132, _⟩ := hE
    replace S := S.ext e114
    replace S := S.ext e123
    replace S := S.ext e132
    refine (Classical.em (usableV r_2 r_9 ((i1 : Nat) : Int))).symm.elim (fun hg => ?_) fun hg => ?_
    ·exact qn S 114 rfl (fun h => hg (gt.2 h)) I
    exact qy S 114 rfl (gt.1 hg) (bD (¬ ((compsV r_2 r_9).getD (((r_2.links.xs.getD i1 lnkE.dflt).a).toNat) intE.dflt) = ((compsV r_2 r_9).getD (((r_2.links.xs.getD i1 lnkE.dflt).b).toNat) intE.dflt))) (x_neq (S.p rfl hg) (S.p rfl hg)) I
   intro a w103 G I S hE
   have TT := Tr.of_ch C.ms G (fun _ h => by simp at h)
   replace C := C.trans TT
   obtain ⟨e114, e133, _⟩ := hE
   replace S := S.ext e114
   replace S := S.ext e133
   exact qo (bD ((usableV r_2 r_9 ((i1 : Nat) : Int)) ∧ (¬ ((compsV r_2 r_9).getD (((r_2.links.xs.getD i1 lnkE.dflt).a).toNat) intE.dflt) = ((compsV r_2 r_9).getD (((r_2.links.xs.getD i1 lnkE.dflt).b).toNat) intE.dflt)))) (x_and (S.e rfl) (S.p rfl) (S.e rfl)) I
  clear S a; intro a w104 G I S hE; have TT := Tr.of_ch C.ms G (fun _ h => by simp at h)
  replace l_w := Enc.tr (slE intE) l_w TT
  replace R_2 := Enc.tr (topoE) R_2 TT
  replace R_9 := Enc.tr (failE) R_9 TT
  replace R_13 := Enc.tr (slE intE) R_13 TT
  replace TK1 := TpB.tr0 TK1 G
  replace K8 := Blk.tr0 K8 G
  replace K12 := Blk.tr0 K12 G
  replace GL0 := GL0.trans TT
  replace GL2 := GL2.trans TT
  replace C := C.trans TT
  clear TT G
  obtain ⟨e134, -⟩ := hE
  replace S := S.ext e134
  clear e134
  refine qt ?_
  refine cond_dec S rfl ?_ ?_
  ·intro hc11
   refine qs ?_
   refine qa S rfl ?_; clear S a; intro a S
   refine qt ?_
   refine wp_ret ?_
   refine blk_r ?_
   refine then_r ?_
   refine then_r ?_
   refine blk_r ?_
   refine then_r ?_
   refine ret1 rfl S rfl ?_
   have TD : Tr [one b12, one b8, one T1] w104 [] w104 := Tr.drop C.ms [] (by decide)
   have GD : Ch (In []) w104 w104 := Ch.refl _
   clear TK1
   clear K8
   clear K12
   replace l_w := Enc.tr (slE intE) l_w TD
   replace R_2 := Enc.tr (topoE) R_2 TD
   replace R_9 := Enc.tr (failE) R_9 TD
   replace R_13 := Enc.tr (slE intE) R_13 TD
   replace GL0 := GL0.trans TD
   replace GL2 := GL2.trans TD
   replace C := C.trans TD
   clear TD GD
   refine ⟨(r1 (vf ?_)), C⟩
   intro _; rw [e0] at hc11; exact hc11.2 (eqv_link HV (by omega) hc11.1)
  intro hc12
  refine wp_skip ?_
  refine blk_n ?_
  refine then_n ?_
  refine wp_region_lit ?_
  refine qm S rfl ?_; clear S a; intro a S
  refine qv S (iN (i1 + 1)) (x_add (S.e rfl) (S.e rfl) (r := ((i1 + 1 : Nat) : Int)) (w_i64 (by omega))) ?_; clear S a; intro a S
  refine qa S rfl ?_; clear S a; intro a S
  refine qt ?_
  refine ⟨r_2.links.xs.length - (i1 + 1), ?_, (i1 + 1), S.sub ⟨rfl, rfl, rfl, rfl, trivial⟩, GL2, ?_, TK1, K8, K12, rfl⟩
  ·omega
  refine ⟨by omega, ?_⟩
  trivial
 intro hc13
 refine wp_exit ?_
 refine then_e ?_
 refine then_e ?_
 refine blk_e ?_
 refine then_n ?_
 refine qs ?_
 refine seq_call S (by decide) (vs := #[]) rfl callable_21 (lSane _ (Ex F _) (C.old hF)  (MS.nil _) ) ?_
 rintro e w105 ⟨rfl, T0⟩; refine ⟨_, rfl, ?_⟩; clear S a; intro a S
 have TT := Tr.framed0 C.ms T0; have G := T0.ch
 replace l_w := Enc.tr (slE intE) l_w TT
 replace R_2 := Enc.tr (topoE) R_2 TT
 replace R_9 := Enc.tr (failE) R_9 TT
 replace R_13 := Enc.tr (slE intE) R_13 TT
 replace TK1 := TpB.tr0 TK1 G
 replace K8 := Blk.tr0 K8 G
 replace K12 := Blk.tr0 K12 G
 replace GL0 := GL0.trans TT
 replace GL2 := GL2.trans TT
 replace C := C.trans TT
 clear T0 G TT
 refine qa S rfl ?_; clear S a; intro a S
 refine qt ?_
 refine wp_ret ?_
 refine ret1 rfl S rfl ?_
 have TD : Tr [one b12, one b8, one T1] w105 [] w105 := Tr.drop C.ms [] (by decide)
 have GD : Ch (In []) w105 w105 := Ch.refl _
 clear TK1
 clear K8
 clear K12
 replace l_w := Enc.tr (slE intE) l_w TD
 replace R_2 := Enc.tr (topoE) R_2 TD
 replace R_9 := Enc.tr (failE) R_9 TD
 replace R_13 := Enc.tr (slE intE) R_13 TD
 replace GL0 := GL0.trans TD
 replace GL2 := GL2.trans TD
 replace C := C.trans TD
 clear TD GD
 refine ⟨(r1 (vb ?_)), C⟩
 first | exact Iff.rfl | assumption | omega | simp_all
end Go.Proofs.Ytfanmniaolncbaa.V
