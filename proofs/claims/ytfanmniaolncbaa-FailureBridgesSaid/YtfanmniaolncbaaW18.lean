/- the laws: bridges -/
import Derived.Test.YtfanmniaolncbaaW14
import Derived.Test.YtfanmniaolncbaaW15
import Derived.Test.YtfanmniaolncbaaLawM
namespace Go.Proofs.Ytfanmniaolncbaa.V
open Go.RowKit Go.Proofs.Ytfanmniaolncbaa
set_option linter.unusedVariables false
set_option linter.unusedSimpArgs false
set_option maxHeartbeats 2000000 in
set_option maxRecDepth 20000 in
theorem lBridge (w : World) (F : Nat → Prop) (hF : Old F w) (M : MS [] w) (l : Sl Int) (l_w : (slE intE).wf (Fr F []) w.heap l) :
 Calls Try.prog 8 #[sV l] w fun e w' => e = .returned (bD (True)) ∧ Tr [] w [] w' := by
 have C : Tr [] w [] w := Tr.refl M
 have : l.xs.length ≤ 9223372036854775807 := (l_w).1.len
 refine enter Try.func8 rfl 103 rfl (Nat.le_of_ble_eq_true rfl) ?_
 intro a S
 refine qs ?_
 refine qa S rfl ?_; clear S a; intro a S
 refine qt ?_
 refine qs ?_
 refine qm S rfl ?_; clear S a; intro a S
 refine seq_call S (by decide) (vs := #[sV l]) rfl callable_14 (gNew _ (Ex F _) (C.old hF)  (MS.nil _) l ((slE intE).down0 l_w)) ?_
 rintro e w1 ⟨T1, rfl, TK1, T0⟩; refine ⟨_, rfl, ?_⟩; clear S a; intro a S
 have TT : Tr [] w [one T1] w1 := Tr.frame (nw := [one T1]) C.ms T0 (fun _ h => by simp at h); have G := T0.ch
 replace l_w := Enc.tr (slE intE) l_w TT
 replace C := C.trans TT
 clear T0 G TT
 refine qa S rfl ?_; clear S a; intro a S
 refine qt ?_
 refine qs ?_
 refine qm S rfl ?_; clear S a; intro a S
 refine seq_call S (by decide) (vs := #[pT T1 0, iI 6]) rfl callable_15 (gTopology _ (Ex F _) (C.old hF) T1 (C.ms.picks [0] (by decide)) l ((slE intE).dn l_w) TK1 6 ⟨by omega, by omega⟩) ?_
 rintro e w2 ⟨r_2, rfl, R_2, hr_2, tTK1, T0⟩; refine ⟨_, rfl, ?_⟩; clear S a; intro a S
 have TT := Tr.fra C.ms T0; have G := T0.ch
 replace l_w := Enc.tr (slE intE) l_w TT
 replace C := C.trans TT
 clear TK1; have TK1 := tTK1; clear tTK1
 replace R_2 := Enc.up (topoE) R_2
 clear T0 G TT
 have HG : genT r_2 := hr_2
 have HT := HG.1
 have hB := HG.1.1
 unfold topB at hB
 obtain ⟨-, hB1, hB2, hB3, hB4⟩ := HG
 have hn3 : r_2.devs.xs.length ≤ 9223372036854775807 := (R_2.1).1.len
 have hn4 : r_2.links.xs.length ≤ 9223372036854775807 := (R_2.2.1).1.len
 have hn5 : r_2.edges.xs.length ≤ 9223372036854775807 := (R_2.2.2.1).1.len
 have hn6 : r_2.pools.xs.length ≤ 9223372036854775807 := (R_2.2.2.2.1).1.len
 obtain ⟨hl7, hu7⟩ : inI64 r_2.tol := id R_2.2.2.2.2
 refine seq_new S rfl rfl (by decide) (fun b => pT b 0) (cs := [.slice none 0 0, .slice none 0 0, .slice none 0 0, .slice none 0 0, iI 0]) (x_allocz [.slice none 0 0, .slice none 0 0, .slice none 0 0, .slice none 0 0, iI 0] infoz_28 rfl) ?_
 clear S a; intro a w3 b8 hb8 hbs8 G K8 S; have hbl8 : b8 < w3.heap.size := by omega
 have TT := Tr.fresh C.ms hb8 hbl8 G
 replace l_w := Enc.tr (slE intE) l_w TT
 replace TK1 := TpB.tr0 TK1 G
 replace R_2 := Enc.tr (topoE) R_2 TT
 replace C := C.trans TT
 clear TT G
 refine seq_storew S rfl rfl (vs := (tL r_2)) (x_storew (by kernel_rfl) (S.e rfl) (S.e rfl) rfl K8 rfl) K8 ?_
 clear S a; intro a w4 G hz K S; clear hz; have TT := Tr.och C.ms G
 replace l_w := Enc.tr (slE intE) l_w TT
 replace TK1 := TpB.tr TK1 G (C.ms.sep.out 1 [0] rfl rfl rfl)
 replace R_2 := Enc.tr (topoE) R_2 TT
 replace C := C.trans TT
 clear K8; have K8 := K; clear K TT G
 refine qt ?_
 refine qs ?_
 refine qm S rfl ?_; clear S a; intro a S
 refine qv S _ (x_loadw (tL r_2) ⟨_, Try.underlying28, rfl, by kernel_rfl⟩ (S.e rfl) (K8.mid [] _ [] rfl _ rfl)) ?_; clear S a; intro a S
 refine seq_call S (by decide) (vs := #[pT T1 0, tV r_2]) rfl callable_25 (gFailure _ (Ex F _) (C.old hF) T1 (C.ms.picks [1] (by decide)) l ((slE intE).dn l_w) TK1 r_2 ((topoE).dn R_2) (by omega)) ?_
 rintro e w5 ⟨r_9, rfl, R_9, hr_9, tTK1, T0⟩; refine ⟨_, rfl, ?_⟩; clear S a; intro a S
 have TT := Tr.fra C.ms T0; have G := T0.ch
 replace l_w := Enc.tr (slE intE) l_w TT
 replace R_2 := Enc.tr (topoE) R_2 TT
 replace K8 := Blk.tr K8 G (C.ms.sep.out 0 [1] rfl rfl rfl)
 replace C := C.trans TT
 clear TK1; have TK1 := tTK1; clear tTK1
 replace R_9 := Enc.up (failE) R_9
 clear T0 G TT
 have HV := failR_valid hr_9 HT
 have hn10 : r_9.links.xs.length ≤ 9223372036854775807 := (R_9.1).1.len
 have hn11 : r_9.devs.xs.length ≤ 9223372036854775807 := (R_9.2).1.len
 refine seq_new S rfl rfl (by decide) (fun b => pT b 0) (cs := [.slice none 0 0, .slice none 0 0]) (x_allocz [.slice none 0 0, .slice none 0 0] infoz_41 rfl) ?_
 clear S a; intro a w6 b12 hb12 hbs12 G K12 S; have hbl12 : b12 < w6.heap.size := by omega
 have TT := Tr.fresh C.ms hb12 hbl12 G
 replace l_w := Enc.tr (slE intE) l_w TT
 replace TK1 := TpB.tr0 TK1 G
 replace R_2 := Enc.tr (topoE) R_2 TT
 replace K8 := Blk.tr0 K8 G
 replace R_9 := Enc.tr (failE) R_9 TT
 replace C := C.trans TT
 clear TT G
 refine seq_storew S rfl rfl (vs := (fL r_9)) (x_storew (by kernel_rfl) (S.e rfl) (S.e rfl) rfl K12 rfl) K12 ?_
 clear S a; intro a w7 G hz K S; clear hz; have TT := Tr.och C.ms G
 replace l_w := Enc.tr (slE intE) l_w TT
 replace TK1 := TpB.tr TK1 G (C.ms.sep.out 2 [0] rfl rfl rfl)
 replace R_2 := Enc.tr (topoE) R_2 TT
 replace K8 := Blk.tr K8 G (C.ms.sep.out 1 [0] rfl rfl rfl)
 replace R_9 := Enc.tr (failE) R_9 TT
 replace C := C.trans TT
 clear K12; have K12 := K; clear K TT G
 refine qt ?_
 refine qs ?_
 refine qv S _ (x_loadw (tL r_2) ⟨_, Try.underlying28, rfl, by kernel_rfl⟩ (S.e rfl) (K8.mid [] _ [] rfl _ rfl)) ?_; clear S a; intro a S
 refine qv S _ (x_loadw (fL r_9) ⟨_, Try.underlying41, rfl, by kernel_rfl⟩ (S.e rfl) (K12.mid [] _ [] rfl _ rfl)) ?_; clear S a; intro a S
 refine seq_call S (by decide) (vs := #[tV r_2, fV r_9]) rfl callable_35 (fBridges _ (Ex F _) (C.old hF)  (MS.nil _) r_2 ((topoE).down0 R_2) r_9 ((failE).down0 R_9)) ?_
 rintro e w8 ⟨ra_13, rc_13, rfl, R_13, T0⟩; refine ⟨_, rfl, ?_⟩; clear S a; intro a S
 have TT := Tr.framed0 C.ms T0; have G := T0.ch
 replace l_w := Enc.tr (slE intE) l_w TT
 replace TK1 := TpB.tr0 TK1 G
 replace R_2 := Enc.tr (topoE) R_2 TT
 replace K8 := Blk.tr0 K8 G
 replace R_9 := Enc.tr (failE) R_9 TT
 replace K12 := Blk.tr0 K12 G
 replace C := C.trans TT
 replace R_13 := Enc.up (slE intE) R_13
 clear T0 G TT
 have hn14 : (bridgesOf r_2 r_9).length ≤ 9223372036854775807 := (R_13).1.len
 refine qa S rfl ?_; clear S a; intro a S
 refine qt ?_
 refine wp_seq ?_
 refine qs ?_
 refine qa S rfl ?_; clear S a; intro a S
 refine qt ?_
 refine wp_block ?_
 refine wp_loop_ghost (fun m a wr => ∃ i1 : Nat, Slots 103 [(4, pT b8 0), (5, pT b12 0), (6, .slice ra_13 ((bridgesOf r_2 r_9).length) rc_13), (7, iN i1)] a ∧ Tr [one b12, one b8, one T1] w8 [one b12, one b8, one T1] wr ∧ (i1 ≤ r_2.links.xs.length ∧ True) ∧ TpB 62 T1 l wr ∧ Blk wr.heap b8 (tL r_2) 28 ∧ Blk wr.heap b12 (fL r_9) 41 ∧ (r_2.links.xs.length - i1) = m) (r_2.links.xs.length - 0) ?_ ?_
 ·refine ⟨0, S.sub ⟨rfl, rfl, rfl, rfl, trivial⟩, Tr.refl C.ms, ?_, TK1, K8, K12, rfl⟩
  exact ⟨Nat.zero_le _, by trivial⟩
 rintro m a w9 ⟨i1, S, G, hR, TK1', K8', K12', rfl⟩
 clear TK1; have TK1 := TK1'; clear TK1'
 clear K8; have K8 := K8'; clear K8'
 clear K12; have K12 := K12'; clear K12'
 replace l_w := Enc.tr (slE intE) l_w G
 replace R_2 := Enc.tr (topoE) R_2 G
 replace R_9 := Enc.tr (failE) R_9 G
 replace R_13 := Enc.tr (slE intE) R_13 G
 replace C := C.trans G
 have GL0 := G; clear G
 obtain ⟨hi1, hxi1⟩ := hR
 refine wp_seq ?_
 refine qs ?_
 refine qm S rfl ?_; clear S a; intro a S
 refine qv S (pT b8 (0 + 1)) (x_fld (z := 0) (0) 1 Try.underlying28 rfl rfl (by kernel_rfl) (S.e rfl)) ?_; clear S a; intro a S
 refine qv S (sV r_2.links) (x_load ⟨_, Try.underlying24, rfl⟩ (S.e rfl) (K8.cell (j := 1) rfl)) ?_; clear S a; intro a S
 refine qv S (iN r_2.links.xs.length) (x_len Try.underlying24 (S.e rfl)) ?_; clear S a; intro a S
 refine qv S (bD (((i1 : Nat) : Int) < ((r_2.links.xs.length : Nat) : Int))) (x_lss (S.e rfl) (S.e rfl)) ?_; clear S a; intro a S
 refine qt ?_
 refine cond_dec S rfl ?_ ?_
 ·intro hc0
  refine wp_skip ?_
  refine then_n ?_
  refine wp_seq ?_
  refine wp_block ?_
  refine qs ?_
  refine qa S rfl ?_; clear S a; intro a S
  refine qt ?_
  refine wp_seq ?_
  refine qs ?_
  refine qa S rfl ?_; clear S a; intro a S
  refine qt ?_
  refine wp_block ?_
  refine wp_loop_ghost (fun m a wr => ∃ j1 : Nat, ∃ br : Bool, Slots 103 [(4, pT b8 0), (5, pT b12 0), (6, .slice ra_13 ((bridgesOf r_2 r_9).length) rc_13), (7, iN i1), (25, iN i1), (26, pT b8 (0 + 1)), (27, sV r_2.links), (28, iN r_2.links.xs.length), (29, bD (((i1 : Nat) : Int) < ((r_2.links.xs.length : Nat) : Int))), (9, iN j1), (8, bD (br = true))] a ∧ Tr [one b12, one b8, one T1] w9 [one b12, one b8, one T1] wr ∧ (j1 ≤ (bridgesOf r_2 r_9).length ∧ (br = true ↔ ((i1 : Nat) : Int) ∈ (bridgesOf r_2 r_9).take j1)) ∧ TpB 62 T1 l wr ∧ Blk wr.heap b8 (tL r_2) 28 ∧ Blk wr.heap b12 (fL r_9) 41 ∧ ((bridgesOf r_2 r_9).length - j1) = m) ((bridgesOf r_2 r_9).length - 0) ?_ ?_
  ·refine ⟨0, false, S.sub ⟨rfl, rfl, rfl, rfl, rfl, rfl, rfl, rfl, rfl, rfl, rfl, trivial⟩, Tr.refl C.ms, ?_, TK1, K8, K12, rfl⟩
   exact ⟨Nat.zero_le _, by simp⟩
  rintro m a w10 ⟨j1, br, S, G, hR, TK1', K8', K12', rfl⟩
  clear TK1; have TK1 := TK1'; clear TK1'
  clear K8; have K8 := K8'; clear K8'
  clear K12; have K12 := K12'; clear K12'
  replace l_w := Enc.tr (slE intE) l_w G
  replace R_2 := Enc.tr (topoE) R_2 G
  replace R_9 := Enc.tr (failE) R_9 G
  replace R_13 := Enc.tr (slE intE) R_13 G
  replace GL0 := GL0.trans G
  replace C := C.trans G
  have GL1 := G; clear G
  obtain ⟨hj1, hbr⟩ := hR
  refine wp_seq ?_
  refine qs ?_
  refine qm S rfl ?_; clear S a; intro a S
  refine qm S rfl ?_; clear S a; intro a S
  refine qv S (iN (bridgesOf r_2 r_9).length) (x_len Try.underlying22 (S.e rfl)) ?_; clear S a; intro a S
  refine qv S (bD (((j1 : Nat) : Int) < (((bridgesOf r_2 r_9).length : Nat) : Int))) (x_lss (S.e rfl) (S.e rfl)) ?_; clear S a; intro a S
  refine qt ?_
  refine cond_dec S rfl ?_ ?_
  ·intro hc1
   refine wp_skip ?_
   refine then_n ?_
   refine wp_seq ?_
   refine wp_block ?_
   refine wp_region_lit ?_
   refine qm S rfl ?_; clear S a; intro a S
   refine qm S rfl ?_; clear S a; intro a S
   refine qg S 39 rfl (¬ (br = true)) gf (.slice ra_13 ((bridgesOf r_2 r_9).length) rc_13) (fun hg => (x_move (S.e rfl))) ?_; clear S a; intro a S
   refine qg S 39 rfl (¬ (br = true)) gf (iN j1) (fun hg => (x_move (S.e rfl))) ?_; clear S a; intro a S
   refine qg S 39 rfl (¬ (br = true)) gf (pT (blk ra_13) (off ra_13 + j1 * 1)) (fun hg => (x_idx Try.underlying22 (by kernel_rfl) (S.p rfl hg) (S.p rfl hg) j1 rfl (by omega) ((show LAt intE _ _ ra_13 (bridgesOf r_2 r_9) from (R_13).1).adr (i := j1) (by omega)))) ?_; clear S a; intro a S
   refine qg S 39 rfl (¬ (br = true)) gf (iI ((bridgesOf r_2 r_9).getD j1 intE.dflt)) (fun hg => (x_load ⟨_, Try.underlying3, rfl⟩ (S.p rfl hg) ((show LAt intE _ _ ra_13 (bridgesOf r_2 r_9) from (R_13).1).cell j1 (by omega) 0 _ rfl))) ?_; clear S a; intro a S
   refine qg S 39 rfl (¬ (br = true)) gf (iN i1) (fun hg => (x_move (S.e rfl))) ?_; clear S a; intro a S
   refine qg S 39 rfl (¬ (br = true)) gf (bD (((bridgesOf r_2 r_9).getD j1 intE.dflt) = ((i1 : Nat) : Int))) (fun hg => (x_eql (S.p rfl hg) (S.p rfl hg))) ?_; clear S a; intro a S
   refine qv S (bD ((br = true) ∨ (((bridgesOf r_2 r_9).getD j1 intE.dflt) = ((i1 : Nat) : Int)))) (x_or (S.e rfl) (S.e rfl) (S.p rfl)) ?_; clear S a; intro a S
   obtain ⟨bv15, hbv15⟩ : ∃ b : Bool, (b = true) ↔ ((br = true) ∨ (((bridgesOf r_2 r_9).getD j1 intE.dflt) = ((i1 : Nat) : Int))) := ⟨decide ((br = true) ∨ (((bridgesOf r_2 r_9).getD j1 intE.dflt) = ((i1 : Nat) : Int))), by simp⟩
   replace S := S.ext (d := 46) (v := bD (bv15 = true)) ((S.get 46 _ rfl).trans (vb hbv15.symm))
   have hbv := hbv15
   refine qa S rfl ?_; clear S a; intro a S
   refine wpList_nil ?_
   refine blk_n ?_
   refine then_n ?_
   refine wp_region_lit ?_
   refine qm S rfl ?_; clear S a; intro a S
   refine qv S (iN (j1 + 1)) (x_add (S.e rfl) (S.e rfl) (r := ((j1 + 1 : Nat) : Int)) (w_i64 (by omega))) ?_; clear S a; intro a S
   refine qa S rfl ?_; clear S a; intro a S
   refine qt ?_
   refine ⟨(bridgesOf r_2 r_9).length - (j1 + 1), ?_, (j1 + 1), bv15, S.sub ⟨rfl, rfl, rfl, rfl, rfl, rfl, rfl, rfl, rfl, rfl, rfl, trivial⟩, GL1, ?_, TK1, K8, K12, rfl⟩
   ·omega
   refine ⟨by omega, ?_⟩
   rw [hbv, mem_take_snoc (by omega), hbr]; exact Iff.rfl
  intro hc2
  refine wp_exit ?_
  refine then_e ?_
  refine then_e ?_
  refine blk_e ?_
  refine then_n ?_
  refine qs ?_
  refine qa S rfl ?_; clear S a; intro a S
  refine qa S rfl ?_; clear S a; intro a S
  refine qt ?_
  refine wp_seq ?_
  replace S := S.sub (L' := [(4, pT b8 0), (5, pT b12 0), (6, .slice ra_13 ((bridgesOf r_2 r_9).length) rc_13), (7, iN i1), (25, iN i1), (26, pT b8 (0 + 1)), (27, sV r_2.links), (28, iN r_2.links.xs.length), (29, bD (((i1 : Nat) : Int) < ((r_2.links.xs.length : Nat) : Int))), (9, iN j1), (8, bD (br = true)), (32, iN j1), (33, .slice ra_13 ((bridgesOf r_2 r_9).length) rc_13), (34, iN (bridgesOf r_2 r_9).length), (35, bD (((j1 : Nat) : Int) < (((bridgesOf r_2 r_9).length : Nat) : Int))), (10, iI 0), (11, iI 0)]) ⟨rfl, rfl, rfl, rfl, rfl, rfl, rfl, rfl, rfl, rfl, rfl, rfl, rfl, rfl, rfl, rfl, rfl, trivial⟩
  refine wp_heads (M := In []) S 10 [(47, iV (tV r_2)), (48, iV (fV r_9)), (49, ⟨fun u w => ∃ (x49a : Option Addr) (y49a : Nat), u = .slice x49a ((compsV r_2 r_9).length) y49a ∧ (slE intE).wf (Fr F [one b12, one b8, one T1]) w.heap (Sl.mk x49a y49a (compsV r_2 r_9)), fun v w w' c h => let ⟨x49a, y49a, hv, h0⟩ := h; ⟨x49a, y49a, hv, Enc.kp (slE intE) h0 c (fun _ h => by simp at h)⟩⟩), (50, iV (tV r_2)), (51, iV (fV r_9)), (52, iV (iN i1)), (53, ⟨fun u w => ∃ (x53a : Fail), u = fV x53a ∧ (failE).wf (Fr F [one b12, one b8, one T1]) w.heap x53a ∧ OneMore x53a r_9 ((i1 : Nat) : Int), fun v w w' c h => let ⟨x53a, hv, h0, h1⟩ := h; ⟨x53a, hv, Enc.kp (failE) h0 c (fun _ h => by simp at h), h1⟩⟩), (54, ⟨fun u w => ∃ (x54a : Option Addr) (y54a : Nat) (x53b : Fail), u = .slice x54a ((compsV r_2 x53b).length) y54a ∧ (slE intE).wf (Fr F [one b12, one b8, one T1]) w.heap (Sl.mk x54a y54a (compsV r_2 x53b)) ∧ (failE).wf (Fr F [one b12, one b8, one T1]) w.heap x53b ∧ OneMore x53b r_9 ((i1 : Nat) : Int), fun v w w' c h => let ⟨x54a, y54a, x53b, hv, h0, h1, h2⟩ := h; ⟨x54a, y54a, x53b, hv, Enc.kp (slE intE) h0 c (fun _ h => by simp at h), Enc.kp (failE) h1 c (fun _ h => by simp at h), h2⟩⟩), (12, ⟨fun u w => ∃ (x49a : Option Addr) (y49a : Nat), u = .slice x49a ((compsV r_2 r_9).length) y49a ∧ (slE intE).wf (Fr F [one b12, one b8, one T1]) w.heap (Sl.mk x49a y49a (compsV r_2 r_9)), fun v w w' c h => let ⟨x49a, y49a, hv, h0⟩ := h; ⟨x49a, y49a, hv, Enc.kp (slE intE) h0 c (fun _ h => by simp at h)⟩⟩), (13, ⟨fun u w => ∃ (x54a : Option Addr) (y54a : Nat) (x53b : Fail), u = .slice x54a ((compsV r_2 x53b).length) y54a ∧ (slE intE).wf (Fr F [one b12, one b8, one T1]) w.heap (Sl.mk x54a y54a (compsV r_2 x53b)) ∧ (failE).wf (Fr F [one b12, one b8, one T1]) w.heap x53b ∧ OneMore x53b r_9 ((i1 : Nat) : Int), fun v w w' c h => let ⟨x54a, y54a, x53b, hv, h0, h1, h2⟩ := h; ⟨x54a, y54a, x53b, hv, Enc.kp (slE intE) h0 c (fun _ h => by simp at h), Enc.kp (failE) h1 c (fun _ h => by simp at h), h2⟩⟩)] (fun w => True) [[], [], [47, 48], [], [], [], [51, 52], [50, 53], [49], [54]] [12, 13] _ rfl mixed (by kernel_rfl) rfl trivial ?_ ?_
  ·refine ⟨?_, ?_, ?_, ?_, ?_, ?_, ?_, ?_, ?_, ?_, trivial⟩
   ·intro a w11 G I S hE
    have TT := Tr.of_ch C.ms G (fun _ h => by simp at h)
    replace R_2 := Enc.tr (topoE) R_2 TT
    replace K8 := Blk.tr0 K8 G
    replace C := C.trans TT
    exact qo (tV r_2) (x_loadw (tL r_2) ⟨_, Try.underlying28, rfl, by kernel_rfl⟩ (S.e rfl) (K8.mid [] (tL r_2) [] rfl _ rfl)) I
   ·intro a w12 G I S hE
    have TT := Tr.of_ch C.ms G (fun _ h => by simp at h)
    replace R_9 := Enc.tr (failE) R_9 TT
    replace K12 := Blk.tr0 K12 G
    replace C := C.trans TT
    exact qo (fV r_9) (x_loadw (fL r_9) ⟨_, Try.underlying41, rfl, by kernel_rfl⟩ (S.e rfl) (K12.mid [] (fL r_9) [] rfl _ rfl)) I
   ·intro a w13 G I S hE
    have TT := Tr.of_ch C.ms G (fun _ h => by simp at h)
    replace R_2 := Enc.tr (topoE) R_2 TT
    replace R_9 := Enc.tr (failE) R_9 TT
    replace C := C.trans TT
    obtain ⟨e47, e48, _⟩ := hE
    replace S := S.ext e47
    replace S := S.ext e48
    refine head_op rfl rfl (op_call (vs := #[tV r_2, fV r_9]) (by simp only [List.map_toArray, List.map_cons, List.map_nil, show a.eval (.tmp 47) = tV r_2 from (S.e rfl), show a.eval (.tmp 48) = fV r_9 from (S.e rfl)]) callable_33 (fComps _ (Ex F _) (C.old hF)  (MS.nil _) r_2 ((topoE).down0 R_2) r_9 ((failE).down0 R_9)) ?_)
    rintro e w2 ⟨ra_h49, rc_h49, rfl, R_h49, T0⟩; refine ⟨_, rfl, Done.mk' rfl (by decide) (show ∃ _, _ from ?_) T0.ch trivial⟩
    exact ⟨ra_h49, rc_h49, rfl, (Enc.up (slE intE) R_h49)⟩
   ·intro a w14 G I S hE
    have TT := Tr.of_ch C.ms G (fun _ h => by simp at h)
    replace R_2 := Enc.tr (topoE) R_2 TT
    replace K8 := Blk.tr0 K8 G
    replace C := C.trans TT
    exact qo (tV r_2) (x_loadw (tL r_2) ⟨_, Try.underlying28, rfl, by kernel_rfl⟩ (S.e rfl) (K8.mid [] (tL r_2) [] rfl _ rfl)) I
   ·intro a w15 G I S hE
    have TT := Tr.of_ch C.ms G (fun _ h => by simp at h)
    replace R_9 := Enc.tr (failE) R_9 TT
    replace K12 := Blk.tr0 K12 G
    replace C := C.trans TT
    exact qo (fV r_9) (x_loadw (fL r_9) ⟨_, Try.underlying41, rfl, by kernel_rfl⟩ (S.e rfl) (K12.mid [] (fL r_9) [] rfl _ rfl)) I
   ·intro a w16 G I S hE
    have TT := Tr.of_ch C.ms G (fun _ h => by simp at h)
    replace C := C.trans TT
    exact qo (iN i1) (x_move (S.e rfl)) I
   ·intro a w17 G I S hE
    have TT := Tr.of_ch C.ms G (fun _ h => by simp at h)
    replace R_9 := Enc.tr (failE) R_9 TT
    replace C := C.trans TT
    obtain ⟨e51, e52, _⟩ := hE
    replace S := S.ext e51
    replace S := S.ext e52
    refine head_op rfl rfl (op_call (vs := #[fV r_9, iN i1]) (by simp only [List.map_toArray, List.map_cons, List.map_nil, show a.eval (.tmp 51) = fV r_9 from (S.e rfl), show a.eval (.tmp 52) = iN i1 from (S.e rfl)]) callable_26 (rWithout _ (Ex F _) (C.old hF)  (MS.nil _) r_9 ((failE).down0 R_9) ((i1 : Nat) : Int) ⟨by omega, by omega⟩ (by first | omega | exact Nat.le_trans (failV_len hg.1.1.1).1 (by decide) | exact Nat.le_trans (failV_len HV).1 (by decide))) ?_)
    rintro e w2 ⟨r_h53, rfl, R_h53, hr_h53, T0⟩; refine ⟨_, rfl, Done.mk' rfl (by decide) (show ∃ _, _ from ?_) T0.ch trivial⟩
    exact ⟨r_h53, rfl, (Enc.up (failE) R_h53), hr_h53⟩
   ·intro a w18 G I S hE
    have TT := Tr.of_ch C.ms G (fun _ h => by simp at h)
    replace R_2 := Enc.tr (topoE) R_2 TT
    replace C := C.trans TT
    obtain ⟨e50, e53, _⟩ := hE
    replace S := S.ext e50
    obtain ⟨x53_16, e53, X16, hr16⟩ := e53
    replace S := S.ext e53
    refine head_op rfl rfl (op_call (vs := #[tV r_2, fV x53_16]) (by simp only [List.map_toArray, List.map_cons, List.map_nil, show a.eval (.tmp 50) = tV r_2 from (S.e rfl), show a.eval (.tmp 53) = fV x53_16 from (S.e rfl)]) callable_33 (fComps _ (Ex F _) (C.old hF)  (MS.nil _) r_2 ((topoE).down0 R_2) x53_16 ((failE).down0 X16)) ?_)
    rintro e w2 ⟨ra_h54, rc_h54, rfl, R_h54, T0⟩; refine ⟨_, rfl, Done.mk' rfl (by decide) (show ∃ _, _ from ?_) T0.ch trivial⟩
    exact ⟨ra_h54, rc_h54, x53_16, rfl, (Enc.up (slE intE) R_h54), Enc.kp (failE) X16 (T0.ch) (fun _ h => by simp at h), hr16⟩
   ·intro a w19 G I S hE
    have TT := Tr.of_ch C.ms G (fun _ h => by simp at h)
    replace C := C.trans TT
    obtain ⟨e49, _⟩ := hE
    obtain ⟨x49_17, y49_17, e49, X17⟩ := e49
    replace S := S.ext e49
    exact head_op rfl rfl (op_val (v := .slice x49_17 ((compsV r_2 r_9).length) y49_17) (x_assign (S.e rfl)) (Done.same rfl (by decide) (show ∃ _, _ from ⟨x49_17, y49_17, rfl, X17⟩) I))
   intro a w20 G I S hE
   have TT := Tr.of_ch C.ms G (fun _ h => by simp at h)
   replace C := C.trans TT
   obtain ⟨e54, _⟩ := hE
   obtain ⟨x54_18, y54_18, x53_19, e54, X18, X19, hr19⟩ := e54
   replace S := S.ext e54
   exact head_op rfl rfl (op_val (v := .slice x54_18 ((compsV r_2 x53_19).length) y54_18) (x_assign (S.e rfl)) (Done.same rfl (by decide) (show ∃ _, _ from ⟨x54_18, y54_18, x53_19, rfl, X18, X19, hr19⟩) I))
  clear S a; intro a w21 G I S hE; have TT := Tr.of_ch C.ms G (fun _ h => by simp at h)
  replace l_w := Enc.tr (slE intE) l_w TT
  replace R_2 := Enc.tr (topoE) R_2 TT
  replace R_9 := Enc.tr (failE) R_9 TT
  replace R_13 := Enc.tr (slE intE) R_13 TT
  replace TK1 := TpB.tr0 TK1 G
  replace K8 := Blk.tr0 K8 G
  replace K12 := Blk.tr0 K12 G
  replace GL0 := GL0.trans TT
  replace GL1 := GL1.trans TT
  replace C := C.trans TT
  clear TT G
  obtain ⟨e12, e13, -⟩ := hE
  obtain ⟨x49_20, y49_20, e12, X20⟩ := e12
  replace S := S.ext e12
  have hn21 : (compsV r_2 r_9).length ≤ 9223372036854775807 := (X20).1.len
  obtain ⟨x54_22, y54_22, x53_23, e13, X22, X23, hr23⟩ := e13
  replace S := S.ext e13
  have hn24 : (compsV r_2 x53_23).length ≤ 9223372036854775807 := (X22).1.len
  clear e12 e13
  have hcl := compsV_len HV
  have hm0 : OneMore x53_23 r_9 ((i1 : Nat) : Int) := by assumption
  have hVG := more_valid HV (by omega) hm0
  have hcl2 := compsV_len hVG
  have hlaw := bridge_law HV (by omega) hm0
  refine qt ?_
  refine wp_seq ?_
  refine qs ?_
  refine qm S rfl ?_; clear S a; intro a S
  refine qv S (iN (compsV r_2 r_9).length) (x_len Try.underlying22 (S.e rfl)) ?_; clear S a; intro a S
  refine qv S (pT b8 (0 + 0)) (x_fld (z := 0) (0) 0 Try.underlying28 rfl rfl (by kernel_rfl) (S.e rfl)) ?_; clear S a; intro a S
  refine qv S (sV r_2.devs) (x_load ⟨_, Try.underlying23, rfl⟩ (S.e rfl) (K8.cell (j := 0) rfl)) ?_; clear S a; intro a S
  refine qv S (iN r_2.devs.xs.length) (x_len Try.underlying23 (S.e rfl)) ?_; clear S a; intro a S
  refine qv S (bD (¬ (((compsV r_2 r_9).length : Nat) : Int) = ((r_2.devs.xs.length : Nat) : Int))) (x_neq (S.e rfl) (S.e rfl)) ?_; clear S a; intro a S
  refine qm S rfl ?_; clear S a; intro a S
  refine qg S 61 rfl (¬ (¬ (((compsV r_2 r_9).length : Nat) : Int) = ((r_2.devs.xs.length : Nat) : Int))) gf (.slice x54_22 ((compsV r_2 x53_23).length) y54_22) (fun hg => (x_move (S.e rfl))) ?_; clear S a; intro a S
  refine qg S 61 rfl (¬ (¬ (((compsV r_2 r_9).length : Nat) : Int) = ((r_2.devs.xs.length : Nat) : Int))) gf (iN (compsV r_2 x53_23).length) (fun hg => (x_len Try.underlying22 (S.p rfl hg))) ?_; clear S a; intro a S
  refine qg S 61 rfl (¬ (¬ (((compsV r_2 r_9).length : Nat) : Int) = ((r_2.devs.xs.length : Nat) : Int))) gf (pT b8 (0 + 0)) (fun hg => (x_fld (z := 0) (0) 0 Try.underlying28 rfl rfl (by kernel_rfl) (S.e rfl))) ?_; clear S a; intro a S
  refine qg S 61 rfl (¬ (¬ (((compsV r_2 r_9).length : Nat) : Int) = ((r_2.devs.xs.length : Nat) : Int))) gf (sV r_2.devs) (fun hg => (x_load ⟨_, Try.underlying23, rfl⟩ (S.p rfl hg) (K8.cell (j := 0) rfl))) ?_; clear S a; intro a S
  refine qg S 61 rfl (¬ (¬ (((compsV r_2 r_9).length : Nat) : Int) = ((r_2.devs.xs.length : Nat) : Int))) gf (iN r_2.devs.xs.length) (fun hg => (x_len Try.underlying23 (S.p rfl hg))) ?_; clear S a; intro a S
  refine qg S 61 rfl (¬ (¬ (((compsV r_2 r_9).length : Nat) : Int) = ((r_2.devs.xs.length : Nat) : Int))) gf (bD (¬ (((compsV r_2 x53_23).length : Nat) : Int) = ((r_2.devs.xs.length : Nat) : Int))) (fun hg => (x_neq (S.p rfl hg) (S.p rfl hg))) ?_; clear S a; intro a S
  refine qv S (bD ((¬ (((compsV r_2 r_9).length : Nat) : Int) = ((r_2.devs.xs.length : Nat) : Int)) ∨ (¬ (((compsV r_2 x53_23).length : Nat) : Int) = ((r_2.devs.xs.length : Nat) : Int)))) (x_or (S.e rfl) (S.e rfl) (S.p rfl)) ?_; clear S a; intro a S
  refine qt ?_
  refine cond_dec S rfl ?_ ?_
  ·intro hc3
   refine qs ?_
   refine qa S rfl ?_; clear S a; intro a S
   refine qt ?_
   refine wp_ret ?_
   refine then_r ?_
   refine blk_r ?_
   refine then_r ?_
   refine then_r ?_
   refine blk_r ?_
   refine then_r ?_
   refine ret1 rfl S rfl ?_
   have TD : Tr [one b12, one b8, one T1] w21 [] w21 := Tr.drop C.ms [] (by decide)
   have GD : Ch (In []) w21 w21 := Ch.refl _
   clear TK1
   clear K8
   clear K12
   replace l_w := Enc.tr (slE intE) l_w TD
   replace R_2 := Enc.tr (topoE) R_2 TD
   replace R_9 := Enc.tr (failE) R_9 TD
   replace R_13 := Enc.tr (slE intE) R_13 TD
   replace X20 := Enc.tr (slE intE) X20 TD
   replace X22 := Enc.tr (slE intE) X22 TD
   replace X23 := Enc.tr (failE) X23 TD
   replace GL0 := GL0.trans TD
   replace GL1 := GL1.trans TD
   replace C := C.trans TD
   clear TD GD
   refine ⟨(r1 (vf ?_)), C⟩
   intro _; omega
  intro hc4
  refine wp_skip ?_
  refine then_n ?_
  refine wp_seq ?_
  refine qs ?_
  refine qa S rfl ?_; clear S a; intro a S
  refine qt ?_
  refine wp_block ?_
  refine wp_loop_ghost (fun m a wr => ∃ a1 : Nat, ∃ pt : Nat, ∃ af : Nat, Slots 103 [(4, pT b8 0), (5, pT b12 0), (6, .slice ra_13 ((bridgesOf r_2 r_9).length) rc_13), (7, iN i1), (25, iN i1), (26, pT b8 (0 + 1)), (27, sV r_2.links), (28, iN r_2.links.xs.length), (29, bD (((i1 : Nat) : Int) < ((r_2.links.xs.length : Nat) : Int))), (9, iN j1), (8, bD (br = true)), (32, iN j1), (33, .slice ra_13 ((bridgesOf r_2 r_9).length) rc_13), (34, iN (bridgesOf r_2 r_9).length), (35, bD (((j1 : Nat) : Int) < (((bridgesOf r_2 r_9).length : Nat) : Int))), (12, .slice x49_20 ((compsV r_2 r_9).length) y49_20), (13, .slice x54_22 ((compsV r_2 x53_23).length) y54_22), (55, .slice x49_20 ((compsV r_2 r_9).length) y49_20), (56, iN (compsV r_2 r_9).length), (57, pT b8 (0 + 0)), (58, sV r_2.devs), (59, iN r_2.devs.xs.length), (60, bD (¬ (((compsV r_2 r_9).length : Nat) : Int) = ((r_2.devs.xs.length : Nat) : Int))), (61, bD (¬ (((compsV r_2 r_9).length : Nat) : Int) = ((r_2.devs.xs.length : Nat) : Int))), (62, (if (¬ (¬ (((compsV r_2 r_9).length : Nat) : Int) = ((r_2.devs.xs.length : Nat) : Int))) then .slice x54_22 ((compsV r_2 x53_23).length) y54_22 else undef)), (63, (if (¬ (¬ (((compsV r_2 r_9).length : Nat) : Int) = ((r_2.devs.xs.length : Nat) : Int))) then iN (compsV r_2 x53_23).length else undef)), (64, (if (¬ (¬ (((compsV r_2 r_9).length : Nat) : Int) = ((r_2.devs.xs.length : Nat) : Int))) then pT b8 (0 + 0) else undef)), (65, (if (¬ (¬ (((compsV r_2 r_9).length : Nat) : Int) = ((r_2.devs.xs.length : Nat) : Int))) then sV r_2.devs else undef)), (66, (if (¬ (¬ (((compsV r_2 r_9).length : Nat) : Int) = ((r_2.devs.xs.length : Nat) : Int))) then iN r_2.devs.xs.length else undef)), (67, (if (¬ (¬ (((compsV r_2 r_9).length : Nat) : Int) = ((r_2.devs.xs.length : Nat) : Int))) then bD (¬ (((compsV r_2 x53_23).length : Nat) : Int) = ((r_2.devs.xs.length : Nat) : Int)) else undef)), (68, bD ((¬ (((compsV r_2 r_9).length : Nat) : Int) = ((r_2.devs.xs.length : Nat) : Int)) ∨ (¬ (((compsV r_2 x53_23).length : Nat) : Int) = ((r_2.devs.xs.length : Nat) : Int)))), (14, iN a1), (10, iN pt), (11, iN af)] a ∧ Tr [one b12, one b8, one T1] w21 [one b12, one b8, one T1] wr ∧ (a1 ≤ r_2.devs.xs.length ∧ pt = card a1 (head r_2 r_9) ∧ af = card a1 (head r_2 x53_23)) ∧ TpB 62 T1 l wr ∧ Blk wr.heap b8 (tL r_2) 28 ∧ Blk wr.heap b12 (fL r_9) 41 ∧ (r_2.devs.xs.length - a1) = m) (r_2.devs.xs.length - 0) ?_ ?_
  ·refine ⟨0, 0, 0, S.sub ⟨rfl, rfl, rfl, rfl, rfl, rfl, rfl, rfl, rfl, rfl, rfl, rfl, rfl, rfl, rfl, rfl, rfl, rfl, rfl, rfl, rfl, rfl, rfl, rfl, rfl, rfl, rfl, rfl, rfl, rfl, rfl, rfl, rfl, rfl, trivial⟩, Tr.refl C.ms, ?_, TK1, K8, K12, rfl⟩
   exact ⟨Nat.zero_le _, rfl, rfl⟩
  rintro m a w22 ⟨a1, pt, af, S, G, hR, TK1', K8', K12', rfl⟩
  clear TK1; have TK1 := TK1'; clear TK1'
  clear K8; have K8 := K8'; clear K8'
  clear K12; have K12 := K12'; clear K12'
  replace l_w := Enc.tr (slE intE) l_w G
  replace R_2 := Enc.tr (topoE) R_2 G
  replace R_9 := Enc.tr (failE) R_9 G
  replace R_13 := Enc.tr (slE intE) R_13 G
  replace X20 := Enc.tr (slE intE) X20 G
  replace X22 := Enc.tr (slE intE) X22 G
  replace X23 := Enc.tr (failE) X23 G
  replace GL0 := GL0.trans G
  replace GL1 := GL1.trans G
  replace C := C.trans G
  have GL2 := G; clear G
  obtain ⟨ha1, hpt, haf⟩ := hR
  have hpb := card_le (n := a1) (P := head r_2 r_9)
  have hab := card_le (n := a1) (P := head r_2 x53_23)
  refine wp_seq ?_
  refine qs ?_
  refine qm S rfl ?_; clear S a; intro a S
  refine qm S rfl ?_; clear S a; intro a S
  refine qv S (iN (compsV r_2 r_9).length) (x_len Try.underlying22 (S.e rfl)) ?_; clear S a; intro a S
  refine qv S (bD (((a1 : Nat) : Int) < (((compsV r_2 r_9).length : Nat) : Int))) (x_lss (S.e rfl) (S.e rfl)) ?_; clear S a; intro a S
  refine qt ?_
  refine cond_dec S rfl ?_ ?_
  ·intro hc5
   refine wp_skip ?_
   refine then_n ?_
   refine wp_seq ?_
   refine wp_block ?_
   refine wp_seq ?_
   refine qs ?_
   refine qm S rfl ?_; clear S a; intro a S
   refine qm S rfl ?_; clear S a; intro a S
   refine qv S (pT (blk x49_20) (off x49_20 + a1 * 1)) (x_idx Try.underlying22 (by kernel_rfl) (S.e rfl) (S.e rfl) a1 rfl (by omega) ((show LAt intE _ _ x49_20 (compsV r_2 r_9) from (X20).1).adr (i := a1) (by omega))) ?_; clear S a; intro a S
   obtain ⟨hl25, hu25⟩ : inI64 ((compsV r_2 r_9).getD a1 intE.dflt) := id ((show LAt intE _ _ x49_20 (compsV r_2 r_9) from (X20).1).wf a1 (by omega))
   refine qv S (iI ((compsV r_2 r_9).getD a1 intE.dflt)) (x_load ⟨_, Try.underlying3, rfl⟩ (S.e rfl) ((show LAt intE _ _ x49_20 (compsV r_2 r_9) from (X20).1).cell a1 (by omega) 0 _ rfl)) ?_; clear S a; intro a S
   refine qm S rfl ?_; clear S a; intro a S
   refine qv S (bD (((compsV r_2 r_9).getD a1 intE.dflt) = ((a1 : Nat) : Int))) (x_eql (S.e rfl) (S.e rfl)) ?_; clear S a; intro a S
   refine qt ?_
   refine cond_dec S rfl ?_ ?_
   ·intro hc6
    refine wp_region_lit ?_
    refine qm S rfl ?_; clear S a; intro a S
    refine qv S (iN (pt + 1)) (x_add (S.e rfl) (S.e rfl) (r := ((pt + 1 : Nat) : Int)) (w_i64 (by omega))) ?_; clear S a; intro a S
    refine qa S rfl ?_; clear S a; intro a S
    refine qt ?_
    refine qs ?_
    refine qm S rfl ?_; clear S a; intro a S
    refine qm S rfl ?_; clear S a; intro a S
    refine qv S (pT (blk x54_22) (off x54_22 + a1 * 1)) (x_idx Try.underlying22 (by kernel_rfl) (S.e rfl) (S.e rfl) a1 rfl (by omega) ((show LAt intE _ _ x54_22 (compsV r_2 x53_23) from (X22).1).adr (i := a1) (by omega))) ?_; clear S a; intro a S
    obtain ⟨hl26, hu26⟩ : inI64 ((compsV r_2 x53_23).getD a1 intE.dflt) := id ((show LAt intE _ _ x54_22 (compsV r_2 x53_23) from (X22).1).wf a1 (by omega))
    refine qv S (iI ((compsV r_2 x53_23).getD a1 intE.dflt)) (x_load ⟨_, Try.underlying3, rfl⟩ (S.e rfl) ((show LAt intE _ _ x54_22 (compsV r_2 x53_23) from (X22).1).cell a1 (by omega) 0 _ rfl)) ?_; clear S a; intro a S
    refine qm S rfl ?_; clear S a; intro a S
    refine qv S (bD (((compsV r_2 x53_23).getD a1 intE.dflt) = ((a1 : Nat) : Int))) (x_eql (S.e rfl) (S.e rfl)) ?_; clear S a; intro a S
    refine qt ?_
    refine cond_dec S rfl ?_ ?_
    ·intro hc7
     refine wp_region_lit ?_
     refine qm S rfl ?_; clear S a; intro a S
     refine qv S (iN (af + 1)) (x_add (S.e rfl) (S.e rfl) (r := ((af + 1 : Nat) : Int)) (w_i64 (by omega))) ?_; clear S a; intro a S
     refine qa S rfl ?_; clear S a; intro a S
     refine wpList_nil ?_
     refine blk_n ?_
     refine then_n ?_
     refine wp_region_lit ?_
     refine qm S rfl ?_; clear S a; intro a S
     refine qv S (iN (a1 + 1)) (x_add (S.e rfl) (S.e rfl) (r := ((a1 + 1 : Nat) : Int)) (w_i64 (by omega))) ?_; clear S a; intro a S
     refine qa S rfl ?_; clear S a; intro a S
     refine qt ?_
     refine ⟨r_2.devs.xs.length - (a1 + 1), ?_, (a1 + 1), (pt + 1), (af + 1), S.sub ⟨rfl, rfl, rfl, rfl, rfl, rfl, rfl, rfl, rfl, rfl, rfl, rfl, rfl, rfl, rfl, rfl, rfl, rfl, rfl, rfl, rfl, rfl, rfl, rfl, rfl, rfl, rfl, rfl, rfl, rfl, rfl, rfl, rfl, rfl, trivial⟩, GL2, ?_, TK1, K8, K12, rfl⟩
     ·omega
     refine ⟨by omega, ?_, ?_⟩
     ·first | (rw [card_yes hc6]; omega) | (rw [card_no hc6]; exact hpt)
     first | (rw [card_yes hc7]; omega) | (rw [card_no hc7]; exact haf)
    intro hc8
    refine wp_skip ?_
    refine blk_n ?_
    refine then_n ?_
    refine wp_region_lit ?_
    refine qm S rfl ?_; clear S a; intro a S
    refine qv S (iN (a1 + 1)) (x_add (S.e rfl) (S.e rfl) (r := ((a1 + 1 : Nat) : Int)) (w_i64 (by omega))) ?_; clear S a; intro a S
    refine qa S rfl ?_; clear S a; intro a S
    refine qt ?_
    refine ⟨r_2.devs.xs.length - (a1 + 1), ?_, (a1 + 1), (pt + 1), af, S.sub ⟨rfl, rfl, rfl, rfl, rfl, rfl, rfl, rfl, rfl, rfl, rfl, rfl, rfl, rfl, rfl, rfl, rfl, rfl, rfl, rfl, rfl, rfl, rfl, rfl, rfl, rfl, rfl, rfl, rfl, rfl, rfl, rfl, rfl, rfl, trivial⟩, GL2, ?_, TK1, K8, K12, rfl⟩
    ·omega
    refine ⟨by omega, ?_, ?_⟩
    ·first | (rw [card_yes hc6]; omega) | (rw [card_no hc6]; exact hpt)
    first | (rw [card_yes hc8]; omega) | (rw [card_no hc8]; exact haf)
   intro hc9
   refine wp_skip ?_
   refine then_n ?_
   refine qs ?_
   refine qm S rfl ?_; clear S a; intro a S
   refine qm S rfl ?_; clear S a; intro a S
   refine qv S (pT (blk x54_22) (off x54_22 + a1 * 1)) (x_idx Try.underlying22 (by kernel_rfl) (S.e rfl) (S.e rfl) a1 rfl (by omega) ((show LAt intE _ _ x54_22 (compsV r_2 x53_23) from (X22).1).adr (i := a1) (by omega))) ?_; clear S a; intro a S
   obtain ⟨hl27, hu27⟩ : inI64 ((compsV r_2 x53_23).getD a1 intE.dflt) := id ((show LAt intE _ _ x54_22 (compsV r_2 x53_23) from (X22).1).wf a1 (by omega))
   refine qv S (iI ((compsV r_2 x53_23).getD a1 intE.dflt)) (x_load ⟨_, Try.underlying3, rfl⟩ (S.e rfl) ((show LAt intE _ _ x54_22 (compsV r_2 x53_23) from (X22).1).cell a1 (by omega) 0 _ rfl)) ?_; clear S a; intro a S
   refine qm S rfl ?_; clear S a; intro a S
   refine qv S (bD (((compsV r_2 x53_23).getD a1 intE.dflt) = ((a1 : Nat) : Int))) (x_eql (S.e rfl) (S.e rfl)) ?_; clear S a; intro a S
   refine qt ?_
   refine cond_dec S rfl ?_ ?_
   ·intro hc10
    refine wp_region_lit ?_
    refine qm S rfl ?_; clear S a; intro a S
    refine qv S (iN (af + 1)) (x_add (S.e rfl) (S.e rfl) (r := ((af + 1 : Nat) : Int)) (w_i64 (by omega))) ?_; clear S a; intro a S
    refine qa S rfl ?_; clear S a; intro a S
    refine wpList_nil ?_
    refine blk_n ?_
    refine then_n ?_
    refine wp_region_lit ?_
    refine qm S rfl ?_; clear S a; intro a S
    refine qv S (iN (a1 + 1)) (x_add (S.e rfl) (S.e rfl) (r := ((a1 + 1 : Nat) : Int)) (w_i64 (by omega))) ?_; clear S a; intro a S
    refine qa S rfl ?_; clear S a; intro a S
    refine qt ?_
    refine ⟨r_2.devs.xs.length - (a1 + 1), ?_, (a1 + 1), pt, (af + 1), S.sub ⟨rfl, rfl, rfl, rfl, rfl, rfl, rfl, rfl, rfl, rfl, rfl, rfl, rfl, rfl, rfl, rfl, rfl, rfl, rfl, rfl, rfl, rfl, rfl, rfl, rfl, rfl, rfl, rfl, rfl, rfl, rfl, rfl, rfl, rfl, trivial⟩, GL2, ?_, TK1, K8, K12, rfl⟩
    ·omega
    refine ⟨by omega, ?_, ?_⟩
    ·first | (rw [card_yes hc9]; omega) | (rw [card_no hc9]; exact hpt)
    first | (rw [card_yes hc10]; omega) | (rw [card_no hc10]; exact haf)
   intro hc11
   refine wp_skip ?_
   refine blk_n ?_
   refine then_n ?_
   refine wp_region_lit ?_
   refine qm S rfl ?_; clear S a; intro a S
   refine qv S (iN (a1 + 1)) (x_add (S.e rfl) (S.e rfl) (r := ((a1 + 1 : Nat) : Int)) (w_i64 (by omega))) ?_; clear S a; intro a S
   refine qa S rfl ?_; clear S a; intro a S
   refine qt ?_
   refine ⟨r_2.devs.xs.length - (a1 + 1), ?_, (a1 + 1), pt, af, S.sub ⟨rfl, rfl, rfl, rfl, rfl, rfl, rfl, rfl, rfl, rfl, rfl, rfl, rfl, rfl, rfl, rfl, rfl, rfl, rfl, rfl, rfl, rfl, rfl, rfl, rfl, rfl, rfl, rfl, rfl, rfl, rfl, rfl, rfl, rfl, trivial⟩, GL2, ?_, TK1, K8, K12, rfl⟩
   ·omega
   refine ⟨by omega, ?_, ?_⟩
   ·first | (rw [card_yes hc9]; omega) | (rw [card_no hc9]; exact hpt)
   first | (rw [card_yes hc11]; omega) | (rw [card_no hc11]; exact haf)
  intro hc12
  refine wp_exit ?_
  refine then_e ?_
  refine then_e ?_
  refine blk_e ?_
  refine then_n ?_
  refine qs ?_
  refine qm S rfl ?_; clear S a; intro a S
  refine qm S rfl ?_; clear S a; intro a S
  refine qm S rfl ?_; clear S a; intro a S
  refine qv S (bD (((pt : Nat) : Int) < ((af : Nat) : Int))) (x_gtr (S.e rfl) (S.e rfl)) ?_; clear S a; intro a S
  refine qv S (bD (¬ ((br = true) ↔ (((pt : Nat) : Int) < ((af : Nat) : Int))))) (x_bpneq Try.underlying4 (S.e rfl) (S.e rfl)) ?_; clear S a; intro a S
  refine qm S rfl ?_; clear S a; intro a S
  refine qg S 96 rfl (¬ (¬ ((br = true) ↔ (((pt : Nat) : Int) < ((af : Nat) : Int))))) gf (iN af) (fun hg => (x_move (S.e rfl))) ?_; clear S a; intro a S
  refine qg S 96 rfl (¬ (¬ ((br = true) ↔ (((pt : Nat) : Int) < ((af : Nat) : Int))))) gf (iN pt) (fun hg => (x_move (S.e rfl))) ?_; clear S a; intro a S
  refine qg S 96 rfl (¬ (¬ ((br = true) ↔ (((pt : Nat) : Int) < ((af : Nat) : Int))))) gf (iN (pt + 1)) (fun hg => (x_add (S.p rfl hg) (S.e rfl) (r := ((pt + 1 : Nat) : Int)) (w_i64 (by omega)))) ?_; clear S a; intro a S
  refine qg S 96 rfl (¬ (¬ ((br = true) ↔ (((pt : Nat) : Int) < ((af : Nat) : Int))))) gf (bD (((pt + 1 : Nat) : Int) < ((af : Nat) : Int))) (fun hg => (x_gtr (S.p rfl hg) (S.p rfl hg))) ?_; clear S a; intro a S
  refine qv S (bD ((¬ ((br = true) ↔ (((pt : Nat) : Int) < ((af : Nat) : Int)))) ∨ (((pt + 1 : Nat) : Int) < ((af : Nat) : Int)))) (x_or (S.e rfl) (S.e rfl) (S.p rfl)) ?_; clear S a; intro a S
  refine qt ?_
  refine cond_dec S rfl ?_ ?_
  ·intro hc13
   refine qs ?_
   refine qa S rfl ?_; clear S a; intro a S
   refine qt ?_
   refine wp_ret ?_
   refine blk_r ?_
   refine then_r ?_
   refine then_r ?_
   refine blk_r ?_
   refine then_r ?_
   refine ret1 rfl S rfl ?_
   have TD : Tr [one b12, one b8, one T1] w22 [] w22 := Tr.drop C.ms [] (by decide)
   have GD : Ch (In []) w22 w22 := Ch.refl _
   clear TK1
   clear K8
   clear K12
   replace l_w := Enc.tr (slE intE) l_w TD
   replace R_2 := Enc.tr (topoE) R_2 TD
   replace R_9 := Enc.tr (failE) R_9 TD
   replace R_13 := Enc.tr (slE intE) R_13 TD
   replace X20 := Enc.tr (slE intE) X20 TD
   replace X22 := Enc.tr (slE intE) X22 TD
   replace X23 := Enc.tr (failE) X23 TD
   replace GL0 := GL0.trans TD
   replace GL1 := GL1.trans TD
   replace GL2 := GL2.trans TD
   replace C := C.trans TD
   clear TD GD
   refine ⟨(r1 (vf ?_)), C⟩
   intro _; rw [show a1 = r_2.devs.xs.length from by omega] at hpt haf
   have hbr2 : br = true ↔ ((i1 : Nat) : Int) ∈ bridgesOf r_2 r_9 := by rw [hbr, show j1 = (bridgesOf r_2 r_9).length from by omega, List.take_length]
   rcases hc13 with h | h
   ·exact h (by rw [hbr2, hlaw.1, ← hpt, ← haf]; omega)
   omega
  intro hc14
  refine wp_skip ?_
  refine blk_n ?_
  refine then_n ?_
  refine wp_region_lit ?_
  refine qm S rfl ?_; clear S a; intro a S
  refine qv S (iN (i1 + 1)) (x_add (S.e rfl) (S.e rfl) (r := ((i1 + 1 : Nat) : Int)) (w_i64 (by omega))) ?_; clear S a; intro a S
  refine qa S rfl ?_; clear S a; intro a S
  refine qt ?_
  refine ⟨r_2.links.xs.length - (i1 + 1), ?_, (i1 + 1), S.sub ⟨rfl, rfl, rfl, rfl, trivial⟩, GL0, ?_, TK1, K8, K12, rfl⟩
  ·omega
  refine ⟨by omega, ?_⟩
  trivial
 intro hc15
 refine wp_exit ?_
 refine then_e ?_
 refine then_e ?_
 refine blk_e ?_
 refine then_n ?_
 refine qs ?_
 refine seq_call S (by decide) (vs := #[]) rfl callable_21 (lSane _ (Ex F _) (C.old hF)  (MS.nil _) ) ?_
 rintro e w23 ⟨rfl, T0⟩; refine ⟨_, rfl, ?_⟩; clear S a; intro a S
 have TT := Tr.framed0 C.ms T0; have G := T0.ch
 replace l_w := Enc.tr (slE intE) l_w TT
 replace R_2 := Enc.tr (topoE) R_2 TT
 replace R_9 := Enc.tr (failE) R_9 TT
 replace R_13 := Enc.tr (slE intE) R_13 TT
 replace TK1 := TpB.tr0 TK1 G
 replace K8 := Blk.tr0 K8 G
 replace K12 := Blk.tr0 K12 G
 replace GL0 := GL0.trans TT
 replace C := C.trans TT
 clear T0 G TT
 refine qa S rfl ?_; clear S a; intro a S
 refine qt ?_
 refine wp_ret ?_
 refine ret1 rfl S rfl ?_
 have TD : Tr [one b12, one b8, one T1] w23 [] w23 := Tr.drop C.ms [] (by decide)
 have GD : Ch (In []) w23 w23 := Ch.refl _
 clear TK1
 clear K8
 clear K12
 replace l_w := Enc.tr (slE intE) l_w TD
 replace R_2 := Enc.tr (topoE) R_2 TD
 replace R_9 := Enc.tr (failE) R_9 TD
 replace R_13 := Enc.tr (slE intE) R_13 TD
 replace GL0 := GL0.trans TD
 replace C := C.trans TD
 clear TD GD
 refine ⟨(r1 (vb ?_)), C⟩
 first | exact Iff.rfl | assumption | omega | simp_all
end Go.Proofs.Ytfanmniaolncbaa.V
