/- the laws: further failures -/
import Derived.Test.YtfanmniaolncbaaW14
import Derived.Test.YtfanmniaolncbaaW15
import Derived.Test.YtfanmniaolncbaaLawM
namespace Go.Proofs.Ytfanmniaolncbaa.V
open Go.RowKit Go.Proofs.Ytfanmniaolncbaa
set_option linter.unusedVariables false
set_option linter.unusedSimpArgs false
set_option maxHeartbeats 2000000 in
set_option maxRecDepth 20000 in
theorem lMono (w : World) (F : Nat → Prop) (hF : Old F w) (M : MS [] w) (l : Sl Int) (l_w : (slE intE).wf (Fr F []) w.heap l) :
 Calls Try.prog 5 #[sV l] w fun e w' => e = .returned (bD (True)) ∧ Tr [] w [] w' := by
 have C : Tr [] w [] w := Tr.refl M
 have : l.xs.length ≤ 9223372036854775807 := (l_w).1.len
 refine enter Try.func5 rfl 80 rfl (Nat.le_of_ble_eq_true rfl) ?_
 intro a S
 refine qs ?_
 refine qa S rfl ?_; clear S a; intro a S
 refine qt ?_
 refine qs ?_
 refine qm S rfl ?_; clear S a; intro a S
 refine seq_call S (by decide) (vs := #[sV l]) rfl callable_14 (gNew _ (Ex F _) (C.old hF)  (MS.nil _) l ((slE intE).down0 l_w)) ?_
 rintro e w1 ⟨T1, rfl, TK1, T0⟩; refine ⟨_, rfl, ?_⟩; clear S a; intro a S
 have TT : Tr [] w [one T1] w1 := Tr.frame (nw := [one T1]) C.ms T0 (fun _ h => by simp at h); have G := T0.ch
 replace l_w := Enc.tr (slE intE) l_w TT
 replace C := C.trans TT
 clear T0 G TT
 refine qa S rfl ?_; clear S a; intro a S
 refine qt ?_
 refine qs ?_
 refine qm S rfl ?_; clear S a; intro a S
 refine seq_call S (by decide) (vs := #[pT T1 0, iI 6]) rfl callable_15 (gTopology _ (Ex F _) (C.old hF) T1 (C.ms.picks [0] (by decide)) l ((slE intE).dn l_w) TK1 6 ⟨by omega, by omega⟩) ?_
 rintro e w2 ⟨r_2, rfl, R_2, hr_2, tTK1, T0⟩; refine ⟨_, rfl, ?_⟩; clear S a; intro a S
 have TT := Tr.fra C.ms T0; have G := T0.ch
 replace l_w := Enc.tr (slE intE) l_w TT
 replace C := C.trans TT
 clear TK1; have TK1 := tTK1; clear tTK1
 replace R_2 := Enc.up (topoE) R_2
 clear T0 G TT
 have HG : genT r_2 := hr_2
 have HT := HG.1
 have hB := HG.1.1
 unfold topB at hB
 obtain ⟨-, hB1, hB2, hB3, hB4⟩ := HG
 have hn3 : r_2.devs.xs.length ≤ 9223372036854775807 := (R_2.1).1.len
 have hn4 : r_2.links.xs.length ≤ 9223372036854775807 := (R_2.2.1).1.len
 have hn5 : r_2.edges.xs.length ≤ 9223372036854775807 := (R_2.2.2.1).1.len
 have hn6 : r_2.pools.xs.length ≤ 9223372036854775807 := (R_2.2.2.2.1).1.len
 obtain ⟨hl7, hu7⟩ : inI64 r_2.tol := id R_2.2.2.2.2
 refine seq_new S rfl rfl (by decide) (fun b => pT b 0) (cs := [.slice none 0 0, .slice none 0 0, .slice none 0 0, .slice none 0 0, iI 0]) (x_allocz [.slice none 0 0, .slice none 0 0, .slice none 0 0, .slice none 0 0, iI 0] infoz_28 rfl) ?_
 clear S a; intro a w3 b8 hb8 hbs8 G K8 S; have hbl8 : b8 < w3.heap.size := by omega
 have TT := Tr.fresh C.ms hb8 hbl8 G
 replace l_w := Enc.tr (slE intE) l_w TT
 replace TK1 := TpB.tr0 TK1 G
 replace R_2 := Enc.tr (topoE) R_2 TT
 replace C := C.trans TT
 clear TT G
 refine seq_storew S rfl rfl (vs := (tL r_2)) (x_storew (by kernel_rfl) (S.e rfl) (S.e rfl) rfl K8 rfl) K8 ?_
 clear S a; intro a w4 G hz K S; clear hz; have TT := Tr.och C.ms G
 replace l_w := Enc.tr (slE intE) l_w TT
 replace TK1 := TpB.tr TK1 G (C.ms.sep.out 1 [0] rfl rfl rfl)
 replace R_2 := Enc.tr (topoE) R_2 TT
 replace C := C.trans TT
 clear K8; have K8 := K; clear K TT G
 refine qt ?_
 refine qs ?_
 refine qm S rfl ?_; clear S a; intro a S
 refine qv S _ (x_loadw (tL r_2) ⟨_, Try.underlying28, rfl, by kernel_rfl⟩ (S.e rfl) (K8.mid [] _ [] rfl _ rfl)) ?_; clear S a; intro a S
 refine seq_call S (by decide) (vs := #[pT T1 0, tV r_2]) rfl callable_25 (gFailure _ (Ex F _) (C.old hF) T1 (C.ms.picks [1] (by decide)) l ((slE intE).dn l_w) TK1 r_2 ((topoE).dn R_2) (by omega)) ?_
 rintro e w5 ⟨r_9, rfl, R_9, hr_9, tTK1, T0⟩; refine ⟨_, rfl, ?_⟩; clear S a; intro a S
 have TT := Tr.fra C.ms T0; have G := T0.ch
 replace l_w := Enc.tr (slE intE) l_w TT
 replace R_2 := Enc.tr (topoE) R_2 TT
 replace K8 := Blk.tr K8 G (C.ms.sep.out 0 [1] rfl rfl rfl)
 replace C := C.trans TT
 clear TK1; have TK1 := tTK1; clear tTK1
 replace R_9 := Enc.up (failE) R_9
 clear T0 G TT
 have HV := failR_valid hr_9 HT
 have hn10 : r_9.links.xs.length ≤ 9223372036854775807 := (R_9.1).1.len
 have hn11 : r_9.devs.xs.length ≤ 9223372036854775807 := (R_9.2).1.len
 refine seq_new S rfl rfl (by decide) (fun b => pT b 0) (cs := [.slice none 0 0, .slice none 0 0]) (x_allocz [.slice none 0 0, .slice none 0 0] infoz_41 rfl) ?_
 clear S a; intro a w6 b12 hb12 hbs12 G K12 S; have hbl12 : b12 < w6.heap.size := by omega
 have TT := Tr.fresh C.ms hb12 hbl12 G
 replace l_w := Enc.tr (slE intE) l_w TT
 replace TK1 := TpB.tr0 TK1 G
 replace R_2 := Enc.tr (topoE) R_2 TT
 replace K8 := Blk.tr0 K8 G
 replace R_9 := Enc.tr (failE) R_9 TT
 replace C := C.trans TT
 clear TT G
 refine seq_storew S rfl rfl (vs := (fL r_9)) (x_storew (by kernel_rfl) (S.e rfl) (S.e rfl) rfl K12 rfl) K12 ?_
 clear S a; intro a w7 G hz K S; clear hz; have TT := Tr.och C.ms G
 replace l_w := Enc.tr (slE intE) l_w TT
 replace TK1 := TpB.tr TK1 G (C.ms.sep.out 2 [0] rfl rfl rfl)
 replace R_2 := Enc.tr (topoE) R_2 TT
 replace K8 := Blk.tr K8 G (C.ms.sep.out 1 [0] rfl rfl rfl)
 replace R_9 := Enc.tr (failE) R_9 TT
 replace C := C.trans TT
 clear K12; have K12 := K; clear K TT G
 refine qt ?_
 refine qs ?_
 refine qv S _ (x_loadw (fL r_9) ⟨_, Try.underlying41, rfl, by kernel_rfl⟩ (S.e rfl) (K12.mid [] _ [] rfl _ rfl)) ?_; clear S a; intro a S
 refine seq_new S rfl rfl (by decide) (fun b => pT b 0) (cs := [.slice none 0 0, .slice none 0 0]) (x_allocz [.slice none 0 0, .slice none 0 0] infoz_41 rfl) ?_
 clear S a; intro a w8 b13 hb13 hbs13 G K13 S; have hbl13 : b13 < w8.heap.size := by omega
 have TT := Tr.fresh C.ms hb13 hbl13 G
 replace l_w := Enc.tr (slE intE) l_w TT
 replace TK1 := TpB.tr0 TK1 G
 replace R_2 := Enc.tr (topoE) R_2 TT
 replace K8 := Blk.tr0 K8 G
 replace R_9 := Enc.tr (failE) R_9 TT
 replace K12 := Blk.tr0 K12 G
 replace C := C.trans TT
 clear TT G
 refine seq_storew S rfl rfl (vs := (fL r_9)) (x_storew (by kernel_rfl) (S.e rfl) (S.e rfl) rfl K13 rfl) K13 ?_
 clear S a; intro a w9 G hz K S; clear hz; have TT := Tr.och C.ms G
 replace l_w := Enc.tr (slE intE) l_w TT
 replace TK1 := TpB.tr TK1 G (C.ms.sep.out 3 [0] rfl rfl rfl)
 replace R_2 := Enc.tr (topoE) R_2 TT
 replace K8 := Blk.tr K8 G (C.ms.sep.out 2 [0] rfl rfl rfl)
 replace R_9 := Enc.tr (failE) R_9 TT
 replace K12 := Blk.tr K12 G (C.ms.sep.out 1 [0] rfl rfl rfl)
 replace C := C.trans TT
 clear K13; have K13 := K; clear K TT G
 refine qt ?_
 refine wp_seq ?_
 refine qs ?_
 refine qv S (pT b8 (0 + 1)) (x_fld (z := 0) (0) 1 Try.underlying28 rfl rfl (by kernel_rfl) (S.e rfl)) ?_; clear S a; intro a S
 refine qv S (sV r_2.links) (x_load ⟨_, Try.underlying24, rfl⟩ (S.e rfl) (K8.cell (j := 1) rfl)) ?_; clear S a; intro a S
 refine qv S (iN r_2.links.xs.length) (x_len Try.underlying24 (S.e rfl)) ?_; clear S a; intro a S
 refine qv S (bD (0 < ((r_2.links.xs.length : Nat) : Int))) (x_gtr (S.e rfl) (S.e rfl)) ?_; clear S a; intro a S
 refine qt ?_
 refine cond_dec S rfl ?_ ?_
 ·intro hc0
  replace S := S.sub (L' := [(0, sV l), (2, .bool false), (11, sV l), (12, pT T1 0), (3, pT T1 0), (13, pT T1 0), (14, tV r_2), (4, pT b8 0), (15, pT T1 0), (16, tV r_2), (17, fV r_9), (5, pT b12 0), (18, fV r_9), (6, pT b13 0), (19, pT b8 (0 + 1)), (20, sV r_2.links), (21, iN r_2.links.xs.length), (22, bD (0 < ((r_2.links.xs.length : Nat) : Int)))]) ⟨rfl, rfl, rfl, rfl, rfl, rfl, rfl, rfl, rfl, rfl, rfl, rfl, rfl, rfl, rfl, rfl, rfl, rfl, trivial⟩
  refine wp_heads (M := In [one T1]) S 7 [(23, isV (In [one T1]) (fV r_9)), (24, isV (In [one T1]) (pT T1 0)), (25, isV (In [one T1]) (pT b8 (0 + 1))), (26, isV (In [one T1]) (sV r_2.links)), (27, isV (In [one T1]) (iN r_2.links.xs.length)), (28, ⟨fun u w => ∃ (x28a : Int), u = iI x28a ∧ (0 ≤ x28a ∧ (x28a < ((r_2.links.xs.length : Nat) : Int) ∨ x28a = 0)), fun v w w' c h => let ⟨x28a, hv, h0⟩ := h; ⟨x28a, hv, h0⟩⟩), (29, ⟨fun u w => ∃ (x29a : Fail) (x28b : Int), u = fV x29a ∧ (failE).wf (Fr F [one b13, one b12, one b8, one T1]) w.heap x29a ∧ OneMore x29a r_9 x28b ∧ (0 ≤ x28b ∧ (x28b < ((r_2.links.xs.length : Nat) : Int) ∨ x28b = 0)), fun v w w' c h => let ⟨x29a, x28b, hv, h0, h1, h2⟩ := h; ⟨x29a, x28b, hv, Enc.kp (failE) h0 c (by intro o h; simp at h ⊢; first | exact .inl h | simp [h]), h1, h2⟩⟩)] (fun w => TpB 62 T1 l w) [[], [], [], [25], [26], [24, 27], [23, 28]] [29] _ rfl mixed (by kernel_rfl) rfl TK1 ?_ ?_
  ·refine ⟨?_, ?_, ?_, ?_, ?_, ?_, ?_, trivial⟩
   ·intro a w10 G I S hE
    have TT := Tr.och C.ms G
    replace TK1 := I
    replace R_9 := Enc.tr (failE) R_9 TT
    replace K12 := Blk.tr K12 G (C.ms.sep.out 1 [3] rfl rfl rfl)
    replace C := C.trans TT
    exact qo (fV r_9) (x_loadw (fL r_9) ⟨_, Try.underlying41, rfl, by kernel_rfl⟩ (S.e rfl) (K12.mid [] (fL r_9) [] rfl _ rfl)) I
   ·intro a w11 G I S hE
    have TT := Tr.och C.ms G
    replace l_w := Enc.tr (slE intE) l_w TT
    replace TK1 := I
    replace C := C.trans TT
    exact qo (pT T1 0) (x_move (S.e rfl)) I
   ·intro a w12 G I S hE
    have TT := Tr.och C.ms G
    replace TK1 := I
    replace R_2 := Enc.tr (topoE) R_2 TT
    replace K8 := Blk.tr K8 G (C.ms.sep.out 2 [3] rfl rfl rfl)
    replace C := C.trans TT
    exact qo (pT b8 (0 + 1)) (x_fld (z := 0) (0) 1 Try.underlying28 rfl rfl (by kernel_rfl) (S.e rfl)) I
   ·intro a w13 G I S hE
    have TT := Tr.och C.ms G
    replace TK1 := I
    replace R_2 := Enc.tr (topoE) R_2 TT
    replace K8 := Blk.tr K8 G (C.ms.sep.out 2 [3] rfl rfl rfl)
    replace C := C.trans TT
    obtain ⟨e25, _⟩ := hE
    replace S := S.ext e25
    exact qo (sV r_2.links) (x_load ⟨_, Try.underlying24, rfl⟩ (S.e rfl) (K8.cell (j := 1) rfl)) I
   ·intro a w14 G I S hE
    have TT := Tr.och C.ms G
    replace TK1 := I
    replace R_2 := Enc.tr (topoE) R_2 TT
    replace C := C.trans TT
    obtain ⟨e26, _⟩ := hE
    replace S := S.ext e26
    exact qo (iN r_2.links.xs.length) (x_len Try.underlying24 (S.e rfl)) I
   ·intro a w15 G I S hE
    have TT := Tr.och C.ms G
    replace l_w := Enc.tr (slE intE) l_w TT
    replace TK1 := I
    replace C := C.trans TT
    obtain ⟨e24, e27, _⟩ := hE
    replace S := S.ext e24
    replace S := S.ext e27
    refine head_op rfl rfl (op_call (vs := #[pT T1 0, iN r_2.links.xs.length]) (by simp only [List.map_toArray, List.map_cons, List.map_nil, show a.eval (.tmp 24) = pT T1 0 from (S.e rfl), show a.eval (.tmp 27) = iN r_2.links.xs.length from (S.e rfl)]) callable_23 (gNext _ (Ex F _) (C.old hF) T1 (C.ms.picks [3] (by decide)) l ((slE intE).dn l_w) TK1 ((r_2.links.xs.length : Nat) : Int) ⟨by omega, by omega⟩) ?_)
    rintro e w2 ⟨r_h28, rfl, hr_h28, tK0, T0⟩; refine ⟨_, rfl, Done.mk' rfl (by decide) (show ∃ _, _ from ?_) T0.ch tK0⟩
    exact ⟨r_h28, rfl, hr_h28⟩
   intro a w16 G I S hE
   have TT := Tr.och C.ms G
   replace TK1 := I
   replace R_9 := Enc.tr (failE) R_9 TT
   replace C := C.trans TT
   obtain ⟨e23, e28, _⟩ := hE
   replace S := S.ext e23
   obtain ⟨x28_14, e28, hr14⟩ := e28
   replace S := S.ext e28
   refine head_op rfl rfl (op_call (vs := #[fV r_9, iI x28_14]) (by simp only [List.map_toArray, List.map_cons, List.map_nil, show a.eval (.tmp 23) = fV r_9 from (S.e rfl), show a.eval (.tmp 28) = iI x28_14 from (S.e rfl)]) callable_26 (rWithout _ (Ex F _) (C.old hF)  (MS.nil _) r_9 ((failE).down0 R_9) x28_14 ⟨by omega, by omega⟩ (by first | omega | exact Nat.le_trans (failV_len hg.1.1.1).1 (by decide) | exact Nat.le_trans (failV_len HV).1 (by decide))) ?_)
   rintro e w2 ⟨r_h29, rfl, R_h29, hr_h29, T0⟩; refine ⟨_, rfl, Done.mk' rfl (by decide) (show ∃ _, _ from ?_) (T0.ch.mono (fun k hk => by simp [In] at hk)) (TK1.tr0 T0.ch)⟩
   exact ⟨r_h29, x28_14, rfl, (Enc.up (failE) R_h29), hr_h29, hr14⟩
  clear S a; intro a w17 G I S hE; have TT := Tr.och C.ms G
  replace l_w := Enc.tr (slE intE) l_w TT
  replace R_2 := Enc.tr (topoE) R_2 TT
  replace K8 := Blk.tr K8 G (C.ms.sep.out 2 [3] rfl rfl rfl)
  replace R_9 := Enc.tr (failE) R_9 TT
  replace K12 := Blk.tr K12 G (C.ms.sep.out 1 [3] rfl rfl rfl)
  replace K13 := Blk.tr K13 G (C.ms.sep.out 0 [3] rfl rfl rfl)
  replace C := C.trans TT
  replace TK1 := I
  clear TT G
  obtain ⟨e29, -⟩ := hE
  obtain ⟨x29_15, x28_16, e29, X15, hr15, hr16⟩ := e29
  replace S := S.ext e29
  have hn17 : x29_15.links.xs.length ≤ 9223372036854775807 := (X15.1).1.len
  have hn18 : x29_15.devs.xs.length ≤ 9223372036854775807 := (X15.2).1.len
  clear e29
  refine seq_storew S rfl rfl (vs := (fL x29_15)) (x_storew (by kernel_rfl) (S.e rfl) (S.e rfl) rfl K13 rfl) K13 ?_
  clear S a; intro a w18 G hz K S; clear hz; have TT := Tr.och C.ms G
  replace l_w := Enc.tr (slE intE) l_w TT
  replace TK1 := TpB.tr TK1 G (C.ms.sep.out 3 [0] rfl rfl rfl)
  replace R_2 := Enc.tr (topoE) R_2 TT
  replace K8 := Blk.tr K8 G (C.ms.sep.out 2 [0] rfl rfl rfl)
  replace R_9 := Enc.tr (failE) R_9 TT
  replace K12 := Blk.tr K12 G (C.ms.sep.out 1 [0] rfl rfl rfl)
  replace X15 := Enc.tr (failE) X15 TT
  replace C := C.trans TT
  clear K13; have K13 := K; clear K TT G
  refine qt ?_
  refine qs ?_
  refine qv S (pT b8 (0 + 0)) (x_fld (z := 0) (0) 0 Try.underlying28 rfl rfl (by kernel_rfl) (S.e rfl)) ?_; clear S a; intro a S
  refine qv S (sV r_2.devs) (x_load ⟨_, Try.underlying23, rfl⟩ (S.e rfl) (K8.cell (j := 0) rfl)) ?_; clear S a; intro a S
  refine qv S (iN r_2.devs.xs.length) (x_len Try.underlying23 (S.e rfl)) ?_; clear S a; intro a S
  refine qa S rfl ?_; clear S a; intro a S
  refine qt ?_
  refine wp_seq ?_
  refine qs ?_
  refine qa S rfl ?_; clear S a; intro a S
  refine qt ?_
  refine wp_block ?_
  refine wp_loop_ghost (fun m a wr => ∃ a1 : Nat, Slots 80 [(4, pT b8 0), (5, pT b12 0), (6, pT b13 0), (7, iN r_2.devs.xs.length), (8, iN a1)] a ∧ Tr [one b13, one b12, one b8, one T1] w18 [one b13, one b12, one b8, one T1] wr ∧ (a1 ≤ r_2.devs.xs.length ∧ failV r_2 x29_15 ∧ Mono r_2 r_9 x29_15) ∧ TpB 62 T1 l wr ∧ Blk wr.heap b8 (tL r_2) 28 ∧ Blk wr.heap b12 (fL r_9) 41 ∧ Blk wr.heap b13 (fL x29_15) 41 ∧ (r_2.devs.xs.length - a1) = m) (r_2.devs.xs.length - 0) ?_ ?_
  ·refine ⟨0, S.sub ⟨rfl, rfl, rfl, rfl, rfl, trivial⟩, Tr.refl C.ms, ?_, TK1, K8, K12, K13, rfl⟩
   exact ⟨Nat.zero_le _, by exact (by refine mono_more (x := ?x) HV ?a ?b ?c; (case c => assumption); all_goals omega)⟩
  rintro m a w19 ⟨a1, S, G, hR, TK1', K8', K12', K13', rfl⟩
  clear TK1; have TK1 := TK1'; clear TK1'
  clear K8; have K8 := K8'; clear K8'
  clear K12; have K12 := K12'; clear K12'
  clear K13; have K13 := K13'; clear K13'
  replace l_w := Enc.tr (slE intE) l_w G
  replace R_2 := Enc.tr (topoE) R_2 G
  replace R_9 := Enc.tr (failE) R_9 G
  replace X15 := Enc.tr (failE) X15 G
  replace C := C.trans G
  have GL0 := G; clear G
  obtain ⟨ha1, hxa1⟩ := hR
  refine wp_seq ?_
  refine qs ?_
  refine qm S rfl ?_; clear S a; intro a S
  refine qm S rfl ?_; clear S a; intro a S
  refine qv S (bD (((a1 : Nat) : Int) < ((r_2.devs.xs.length : Nat) : Int))) (x_lss (S.e rfl) (S.e rfl)) ?_; clear S a; intro a S
  refine qt ?_
  refine cond_dec S rfl ?_ ?_
  ·intro hc1
   refine wp_skip ?_
   refine then_n ?_
   refine wp_seq ?_
   refine wp_block ?_
   refine qs ?_
   refine qa S rfl ?_; clear S a; intro a S
   refine qt ?_
   refine wp_block ?_
   refine wp_loop_ghost (fun m a wr => ∃ b1 : Nat, Slots 80 [(4, pT b8 0), (5, pT b12 0), (6, pT b13 0), (7, iN r_2.devs.xs.length), (8, iN a1), (33, iN a1), (34, iN r_2.devs.xs.length), (35, bD (((a1 : Nat) : Int) < ((r_2.devs.xs.length : Nat) : Int))), (9, iN b1)] a ∧ Tr [one b13, one b12, one b8, one T1] w19 [one b13, one b12, one b8, one T1] wr ∧ (b1 ≤ r_2.devs.xs.length ∧ failV r_2 x29_15 ∧ Mono r_2 r_9 x29_15) ∧ TpB 62 T1 l wr ∧ Blk wr.heap b8 (tL r_2) 28 ∧ Blk wr.heap b12 (fL r_9) 41 ∧ Blk wr.heap b13 (fL x29_15) 41 ∧ (r_2.devs.xs.length - b1) = m) (r_2.devs.xs.length - 0) ?_ ?_
   ·refine ⟨0, S.sub ⟨rfl, rfl, rfl, rfl, rfl, rfl, rfl, rfl, rfl, trivial⟩, Tr.refl C.ms, ?_, TK1, K8, K12, K13, rfl⟩
    exact ⟨Nat.zero_le _, by exact hxa1⟩
   rintro m a w20 ⟨b1, S, G, hR, TK1', K8', K12', K13', rfl⟩
   clear TK1; have TK1 := TK1'; clear TK1'
   clear K8; have K8 := K8'; clear K8'
   clear K12; have K12 := K12'; clear K12'
   clear K13; have K13 := K13'; clear K13'
   replace l_w := Enc.tr (slE intE) l_w G
   replace R_2 := Enc.tr (topoE) R_2 G
   replace R_9 := Enc.tr (failE) R_9 G
   replace X15 := Enc.tr (failE) X15 G
   replace GL0 := GL0.trans G
   replace C := C.trans G
   have GL1 := G; clear G
   obtain ⟨hb1, hxb1⟩ := hR
   refine wp_seq ?_
   refine qs ?_
   refine qm S rfl ?_; clear S a; intro a S
   refine qm S rfl ?_; clear S a; intro a S
   refine qv S (bD (((b1 : Nat) : Int) < ((r_2.devs.xs.length : Nat) : Int))) (x_lss (S.e rfl) (S.e rfl)) ?_; clear S a; intro a S
   refine qt ?_
   refine cond_dec S rfl ?_ ?_
   ·intro hc2
    refine wp_skip ?_
    refine then_n ?_
    refine wp_seq ?_
    refine wp_block ?_
    refine qs ?_
    refine qv S _ (x_loadw (tL r_2) ⟨_, Try.underlying28, rfl, by kernel_rfl⟩ (S.e rfl) (K8.mid [] _ [] rfl _ rfl)) ?_; clear S a; intro a S
    refine qv S _ (x_loadw (fL x29_15) ⟨_, Try.underlying41, rfl, by kernel_rfl⟩ (S.e rfl) (K13.mid [] _ [] rfl _ rfl)) ?_; clear S a; intro a S
    refine qm S rfl ?_; clear S a; intro a S
    refine qm S rfl ?_; clear S a; intro a S
    refine seq_call S (by decide) (vs := #[tV r_2, fV x29_15, iN a1, iN b1]) rfl callable_27 (fConn _ (Ex F _) (C.old hF)  (MS.nil _) r_2 ((topoE).down0 R_2) x29_15 ((failE).down0 X15) ((a1 : Nat) : Int) ⟨by omega, by omega⟩ ((b1 : Nat) : Int) ⟨by omega, by omega⟩) ?_
    rintro e w21 ⟨rfl, T0⟩; refine ⟨_, rfl, ?_⟩; clear S a; intro a S
    have TT := Tr.framed0 C.ms T0; have G := T0.ch
    replace l_w := Enc.tr (slE intE) l_w TT
    replace R_2 := Enc.tr (topoE) R_2 TT
    replace R_9 := Enc.tr (failE) R_9 TT
    replace X15 := Enc.tr (failE) X15 TT
    replace TK1 := TpB.tr0 TK1 G
    replace K8 := Blk.tr0 K8 G
    replace K12 := Blk.tr0 K12 G
    replace K13 := Blk.tr0 K13 G
    replace GL0 := GL0.trans TT
    replace GL1 := GL1.trans TT
    replace C := C.trans TT
    clear T0 G TT
    refine qm S rfl ?_; clear S a; intro a S
    refine qg S 48 rfl (connV r_2 x29_15 ((a1 : Nat) : Int) ((b1 : Nat) : Int)) gt _ (fun hg => (x_loadw (tL r_2) ⟨_, Try.underlying28, rfl, by kernel_rfl⟩ (S.e rfl) (K8.mid [] _ [] rfl _ rfl))) ?_; clear S a; intro a S
    refine qg S 48 rfl (connV r_2 x29_15 ((a1 : Nat) : Int) ((b1 : Nat) : Int)) gt _ (fun hg => (x_loadw (fL r_9) ⟨_, Try.underlying41, rfl, by kernel_rfl⟩ (S.e rfl) (K12.mid [] _ [] rfl _ rfl))) ?_; clear S a; intro a S
    refine qg S 48 rfl (connV r_2 x29_15 ((a1 : Nat) : Int) ((b1 : Nat) : Int)) gt (iN a1) (fun hg => (x_move (S.e rfl))) ?_; clear S a; intro a S
    refine qg S 48 rfl (connV r_2 x29_15 ((a1 : Nat) : Int) ((b1 : Nat) : Int)) gt (iN b1) (fun hg => (x_move (S.e rfl))) ?_; clear S a; intro a S
    refine seq_gcall S (by decide) (gd := 48) (vs := #[tV r_2, fV r_9, iN a1, iN b1]) (v := bD (connV r_2 r_9 ((a1 : Nat) : Int) ((b1 : Nat) : Int))) rfl rfl (by decide) rfl (c := (connV r_2 x29_15 ((a1 : Nat) : Int) ((b1 : Nat) : Int))) gt (fun hg => by simp only [List.map_toArray, List.map_cons, List.map_nil, show a.eval (.tmp 49) = tV r_2 from (S.p rfl hg), show a.eval (.tmp 50) = fV r_9 from (S.p rfl hg), show a.eval (.tmp 51) = iN a1 from (S.p rfl hg), show a.eval (.tmp 52) = iN b1 from (S.p rfl hg)]) callable_27 (fun hg => ((fConn _ (Ex F _) (C.old hF)  (MS.nil _) r_2 ((topoE).down0 R_2) r_9 ((failE).down0 R_9) ((a1 : Nat) : Int) ⟨by omega, by omega⟩ ((b1 : Nat) : Int) ⟨by omega, by omega⟩)).mono (fun _ _ h => ⟨h.1, h.2.ch⟩)) ?_
    clear S a; intro a w22 G S; have TT := Tr.of_ch0 C.ms G
    replace l_w := Enc.tr (slE intE) l_w TT
    replace R_2 := Enc.tr (topoE) R_2 TT
    replace R_9 := Enc.tr (failE) R_9 TT
    replace X15 := Enc.tr (failE) X15 TT
    replace TK1 := TpB.tr0 TK1 G
    replace K8 := Blk.tr0 K8 G
    replace K12 := Blk.tr0 K12 G
    replace K13 := Blk.tr0 K13 G
    replace GL0 := GL0.trans TT
    replace GL1 := GL1.trans TT
    replace C := C.trans TT
    refine qg S 48 rfl (connV r_2 x29_15 ((a1 : Nat) : Int) ((b1 : Nat) : Int)) gt (bD (¬ (connV r_2 r_9 ((a1 : Nat) : Int) ((b1 : Nat) : Int)))) (fun hg => (x_notp (S.p rfl hg))) ?_; clear S a; intro a S
    refine qv S (bD ((connV r_2 x29_15 ((a1 : Nat) : Int) ((b1 : Nat) : Int)) ∧ (¬ (connV r_2 r_9 ((a1 : Nat) : Int) ((b1 : Nat) : Int))))) (x_and (S.e rfl) (S.p rfl) (S.e rfl)) ?_; clear S a; intro a S
    refine qt ?_
    refine cond_dec S rfl ?_ ?_
    ·intro hc3
     refine qs ?_
     refine qa S rfl ?_; clear S a; intro a S
     refine qt ?_
     refine wp_ret ?_
     refine blk_r ?_
     refine then_r ?_
     refine then_r ?_
     refine blk_r ?_
     refine blk_r ?_
     refine then_r ?_
     refine then_r ?_
     refine blk_r ?_
     refine then_r ?_
     refine ret1 rfl S rfl ?_
     have TD : Tr [one b13, one b12, one b8, one T1] w22 [] w22 := Tr.drop C.ms [] (by decide)
     have GD : Ch (In []) w22 w22 := Ch.refl _
     clear TK1
     clear K8
     clear K12
     clear K13
     replace l_w := Enc.tr (slE intE) l_w TD
     replace R_2 := Enc.tr (topoE) R_2 TD
     replace R_9 := Enc.tr (failE) R_9 TD
     replace X15 := Enc.tr (failE) X15 TD
     replace GL0 := GL0.trans TD
     replace GL1 := GL1.trans TD
     replace C := C.trans TD
     clear TD GD
     refine ⟨(r1 (vf ?_)), C⟩
     intro _; exact hc3.2 (hxb1.2.1 _ _ hc3.1)
    intro hc4
    refine wp_skip ?_
    refine blk_n ?_
    refine then_n ?_
    refine wp_region_lit ?_
    refine qm S rfl ?_; clear S a; intro a S
    refine qv S (iN (b1 + 1)) (x_add (S.e rfl) (S.e rfl) (r := ((b1 + 1 : Nat) : Int)) (w_i64 (by omega))) ?_; clear S a; intro a S
    refine qa S rfl ?_; clear S a; intro a S
    refine qt ?_
    refine ⟨r_2.devs.xs.length - (b1 + 1), ?_, (b1 + 1), S.sub ⟨rfl, rfl, rfl, rfl, rfl, rfl, rfl, rfl, rfl, trivial⟩, GL1, ?_, TK1, K8, K12, K13, rfl⟩
    ·omega
    refine ⟨by omega, ?_⟩
    assumption
   intro hc5
   refine wp_exit ?_
   refine then_e ?_
   refine then_e ?_
   refine blk_e ?_
   refine blk_n ?_
   refine then_n ?_
   refine wp_region_lit ?_
   refine qm S rfl ?_; clear S a; intro a S
   refine qv S (iN (a1 + 1)) (x_add (S.e rfl) (S.e rfl) (r := ((a1 + 1 : Nat) : Int)) (w_i64 (by omega))) ?_; clear S a; intro a S
   refine qa S rfl ?_; clear S a; intro a S
   refine qt ?_
   refine ⟨r_2.devs.xs.length - (a1 + 1), ?_, (a1 + 1), S.sub ⟨rfl, rfl, rfl, rfl, rfl, trivial⟩, GL0, ?_, TK1, K8, K12, K13, rfl⟩
   ·omega
   refine ⟨by omega, ?_⟩
   assumption
  intro hc6
  refine wp_exit ?_
  refine then_e ?_
  refine then_e ?_
  refine blk_e ?_
  refine then_n ?_
  refine wp_seq ?_
  refine qs ?_
  refine qa S rfl ?_; clear S a; intro a S
  refine qt ?_
  refine wp_block ?_
  refine wp_loop_ghost (fun m a wr => ∃ i1 : Nat, Slots 80 [(4, pT b8 0), (5, pT b12 0), (6, pT b13 0), (10, iN i1)] a ∧ Tr [one b13, one b12, one b8, one T1] w19 [one b13, one b12, one b8, one T1] wr ∧ (i1 ≤ r_2.links.xs.length ∧ failV r_2 x29_15 ∧ Mono r_2 r_9 x29_15) ∧ TpB 62 T1 l wr ∧ Blk wr.heap b8 (tL r_2) 28 ∧ Blk wr.heap b12 (fL r_9) 41 ∧ Blk wr.heap b13 (fL x29_15) 41 ∧ (r_2.links.xs.length - i1) = m) (r_2.links.xs.length - 0) ?_ ?_
  ·refine ⟨0, S.sub ⟨rfl, rfl, rfl, rfl, trivial⟩, Tr.refl C.ms, ?_, TK1, K8, K12, K13, rfl⟩
   exact ⟨Nat.zero_le _, by exact hxa1⟩
  rintro m a w23 ⟨i1, S, G, hR, TK1', K8', K12', K13', rfl⟩
  clear TK1; have TK1 := TK1'; clear TK1'
  clear K8; have K8 := K8'; clear K8'
  clear K12; have K12 := K12'; clear K12'
  clear K13; have K13 := K13'; clear K13'
  replace l_w := Enc.tr (slE intE) l_w G
  replace R_2 := Enc.tr (topoE) R_2 G
  replace R_9 := Enc.tr (failE) R_9 G
  replace X15 := Enc.tr (failE) X15 G
  replace GL0 := GL0.trans G
  replace C := C.trans G
  have GL2 := G; clear G
  obtain ⟨hi1, hxi1⟩ := hR
  refine wp_seq ?_
  refine qs ?_
  refine qm S rfl ?_; clear S a; intro a S
  refine qv S (pT b8 (0 + 1)) (x_fld (z := 0) (0) 1 Try.underlying28 rfl rfl (by kernel_rfl) (S.e rfl)) ?_; clear S a; intro a S
  refine qv S (sV r_2.links) (x_load ⟨_, Try.underlying24, rfl⟩ (S.e rfl) (K8.cell (j := 1) rfl)) ?_; clear S a; intro a S
  refine qv S (iN r_2.links.xs.length) (x_len Try.underlying24 (S.e rfl)) ?_; clear S a; intro a S
  refine qv S (bD (((i1 : Nat) : Int) < ((r_2.links.xs.length : Nat) : Int))) (x_lss (S.e rfl) (S.e rfl)) ?_; clear S a; intro a S
  refine qt ?_
  refine cond_dec S rfl ?_ ?_
  ·intro hc7
   refine wp_skip ?_
   refine then_n ?_
   refine wp_seq ?_
   refine wp_block ?_
   refine qs ?_
   refine qv S _ (x_loadw (tL r_2) ⟨_, Try.underlying28, rfl, by kernel_rfl⟩ (S.e rfl) (K8.mid [] _ [] rfl _ rfl)) ?_; clear S a; intro a S
   refine qv S _ (x_loadw (fL x29_15) ⟨_, Try.underlying41, rfl, by kernel_rfl⟩ (S.e rfl) (K13.mid [] _ [] rfl _ rfl)) ?_; clear S a; intro a S
   refine qm S rfl ?_; clear S a; intro a S
   refine seq_call S (by decide) (vs := #[tV r_2, fV x29_15, iN i1]) rfl callable_28 (fUsable _ (Ex F _) (C.old hF)  (MS.nil _) r_2 ((topoE).down0 R_2) x29_15 ((failE).down0 X15) ((i1 : Nat) : Int) ⟨by omega, by omega⟩) ?_
   rintro e w24 ⟨rfl, T0⟩; refine ⟨_, rfl, ?_⟩; clear S a; intro a S
   have TT := Tr.framed0 C.ms T0; have G := T0.ch
   replace l_w := Enc.tr (slE intE) l_w TT
   replace R_2 := Enc.tr (topoE) R_2 TT
   replace R_9 := Enc.tr (failE) R_9 TT
   replace X15 := Enc.tr (failE) X15 TT
   replace TK1 := TpB.tr0 TK1 G
   replace K8 := Blk.tr0 K8 G
   replace K12 := Blk.tr0 K12 G
   replace K13 := Blk.tr0 K13 G
   replace GL0 := GL0.trans TT
   replace GL2 := GL2.trans TT
   replace C := C.trans TT
   clear T0 G TT
   refine qm S rfl ?_; clear S a; intro a S
   refine qg S 67 rfl (usableV r_2 x29_15 ((i1 : Nat) : Int)) gt _ (fun hg => (x_loadw (tL r_2) ⟨_, Try.underlying28, rfl, by kernel_rfl⟩ (S.e rfl) (K8.mid [] _ [] rfl _ rfl))) ?_; clear S a; intro a S
   refine qg S 67 rfl (usableV r_2 x29_15 ((i1 : Nat) : Int)) gt _ (fun hg => (x_loadw (fL r_9) ⟨_, Try.underlying41, rfl, by kernel_rfl⟩ (S.e rfl) (K12.mid [] _ [] rfl _ rfl))) ?_; clear S a; intro a S
   refine qg S 67 rfl (usableV r_2 x29_15 ((i1 : Nat) : Int)) gt (iN i1) (fun hg => (x_move (S.e rfl))) ?_; clear S a; intro a S
   refine seq_gcall S (by decide) (gd := 67) (vs := #[tV r_2, fV r_9, iN i1]) (v := bD (usableV r_2 r_9 ((i1 : Nat) : Int))) rfl rfl (by decide) rfl (c := (usableV r_2 x29_15 ((i1 : Nat) : Int))) gt (fun hg => by simp only [List.map_toArray, List.map_cons, List.map_nil, show a.eval (.tmp 68) = tV r_2 from (S.p rfl hg), show a.eval (.tmp 69) = fV r_9 from (S.p rfl hg), show a.eval (.tmp 70) = iN i1 from (S.p rfl hg)]) callable_28 (fun hg => ((fUsable _ (Ex F _) (C.old hF)  (MS.nil _) r_2 ((topoE).down0 R_2) r_9 ((failE).down0 R_9) ((i1 : Nat) : Int) ⟨by omega, by omega⟩)).mono (fun _ _ h => ⟨h.1, h.2.ch⟩)) ?_
   clear S a; intro a w25 G S; have TT := Tr.of_ch0 C.ms G
   replace l_w := Enc.tr (slE intE) l_w TT
   replace R_2 := Enc.tr (topoE) R_2 TT
   replace R_9 := Enc.tr (failE) R_9 TT
   replace X15 := Enc.tr (failE) X15 TT
   replace TK1 := TpB.tr0 TK1 G
   replace K8 := Blk.tr0 K8 G
   replace K12 := Blk.tr0 K12 G
   replace K13 := Blk.tr0 K13 G
   replace GL0 := GL0.trans TT
   replace GL2 := GL2.trans TT
   replace C := C.trans TT
   refine qg S 67 rfl (usableV r_2 x29_15 ((i1 : Nat) : Int)) gt (bD (¬ (usableV r_2 r_9 ((i1 : Nat) : Int)))) (fun hg => (x_notp (S.p rfl hg))) ?_; clear S a; intro a S
   refine qv S (bD ((usableV r_2 x29_15 ((i1 : Nat) : Int)) ∧ (¬ (usableV r_2 r_9 ((i1 : Nat) : Int))))) (x_and (S.e rfl) (S.p rfl) (S.e rfl)) ?_; clear S a; intro a S
   refine qt ?_
   refine cond_dec S rfl ?_ ?_
   ·intro hc8
    refine qs ?_
    refine qa S rfl ?_; clear S a; intro a S
    refine qt ?_
    refine wp_ret ?_
    refine blk_r ?_
    refine then_r ?_
    refine then_r ?_
    refine blk_r ?_
    refine then_r ?_
    refine ret1 rfl S rfl ?_
    have TD : Tr [one b13, one b12, one b8, one T1] w25 [] w25 := Tr.drop C.ms [] (by decide)
    have GD : Ch (In []) w25 w25 := Ch.refl _
    clear TK1
    clear K8
    clear K12
    clear K13
    replace l_w := Enc.tr (slE intE) l_w TD
    replace R_2 := Enc.tr (topoE) R_2 TD
    replace R_9 := Enc.tr (failE) R_9 TD
    replace X15 := Enc.tr (failE) X15 TD
    replace GL0 := GL0.trans TD
    replace GL2 := GL2.trans TD
    replace C := C.trans TD
    clear TD GD
    refine ⟨(r1 (vf ?_)), C⟩
    intro _; exact hc8.2 (hxi1.2.2 _ hc8.1)
   intro hc9
   refine wp_skip ?_
   refine blk_n ?_
   refine then_n ?_
   refine wp_region_lit ?_
   refine qm S rfl ?_; clear S a; intro a S
   refine qv S (iN (i1 + 1)) (x_add (S.e rfl) (S.e rfl) (r := ((i1 + 1 : Nat) : Int)) (w_i64 (by omega))) ?_; clear S a; intro a S
   refine qa S rfl ?_; clear S a; intro a S
   refine qt ?_
   refine ⟨r_2.links.xs.length - (i1 + 1), ?_, (i1 + 1), S.sub ⟨rfl, rfl, rfl, rfl, trivial⟩, GL2, ?_, TK1, K8, K12, K13, rfl⟩
   ·omega
   refine ⟨by omega, ?_⟩
   assumption
  intro hc10
  refine wp_exit ?_
  refine then_e ?_
  refine then_e ?_
  refine blk_e ?_
  refine then_n ?_
  refine qs ?_
  refine qv S _ (x_loadw (tL r_2) ⟨_, Try.underlying28, rfl, by kernel_rfl⟩ (S.e rfl) (K8.mid [] _ [] rfl _ rfl)) ?_; clear S a; intro a S
  refine qv S _ (x_loadw (fL x29_15) ⟨_, Try.underlying41, rfl, by kernel_rfl⟩ (S.e rfl) (K13.mid [] _ [] rfl _ rfl)) ?_; clear S a; intro a S
  refine seq_call S (by decide) (vs := #[tV r_2, fV x29_15]) rfl callable_22 (fValid _ (Ex F _) (C.old hF)  (MS.nil _) r_2 ((topoE).down0 R_2) x29_15 ((failE).down0 X15)) ?_
  rintro e w26 ⟨rfl, T0⟩; refine ⟨_, rfl, ?_⟩; clear S a; intro a S
  have TT := Tr.framed0 C.ms T0; have G := T0.ch
  replace l_w := Enc.tr (slE intE) l_w TT
  replace R_2 := Enc.tr (topoE) R_2 TT
  replace R_9 := Enc.tr (failE) R_9 TT
  replace X15 := Enc.tr (failE) X15 TT
  replace TK1 := TpB.tr0 TK1 G
  replace K8 := Blk.tr0 K8 G
  replace K12 := Blk.tr0 K12 G
  replace K13 := Blk.tr0 K13 G
  replace GL0 := GL0.trans TT
  replace GL2 := GL2.trans TT
  replace C := C.trans TT
  clear T0 G TT
  refine qm S rfl ?_; clear S a; intro a S
  refine seq_gcall S (by decide) (gd := 77) (vs := #[]) (v := bD (True)) rfl rfl (by decide) rfl (c := (failV r_2 x29_15)) gt (fun hg => by simp only [List.map_toArray, List.map_cons, List.map_nil]) callable_21 (fun hg => ((lSane _ (Ex F _) (C.old hF)  (MS.nil _) )).mono (fun _ _ h => ⟨h.1, h.2.ch⟩)) ?_
  clear S a; intro a w27 G S; have TT := Tr.of_ch0 C.ms G
  replace l_w := Enc.tr (slE intE) l_w TT
  replace R_2 := Enc.tr (topoE) R_2 TT
  replace R_9 := Enc.tr (failE) R_9 TT
  replace X15 := Enc.tr (failE) X15 TT
  replace TK1 := TpB.tr0 TK1 G
  replace K8 := Blk.tr0 K8 G
  replace K12 := Blk.tr0 K12 G
  replace K13 := Blk.tr0 K13 G
  replace GL0 := GL0.trans TT
  replace GL2 := GL2.trans TT
  replace C := C.trans TT
  refine qv S (bD ((failV r_2 x29_15) ∧ (True))) (x_and (S.e rfl) (S.p rfl) (S.e rfl)) ?_; clear S a; intro a S
  refine qa S rfl ?_; clear S a; intro a S
  refine qt ?_
  refine wp_ret ?_
  refine ret1 rfl S rfl ?_
  have TD : Tr [one b13, one b12, one b8, one T1] w27 [] w27 := Tr.drop C.ms [] (by decide)
  have GD : Ch (In []) w27 w27 := Ch.refl _
  clear TK1
  clear K8
  clear K12
  clear K13
  replace l_w := Enc.tr (slE intE) l_w TD
  replace R_2 := Enc.tr (topoE) R_2 TD
  replace R_9 := Enc.tr (failE) R_9 TD
  replace X15 := Enc.tr (failE) X15 TD
  replace GL0 := GL0.trans TD
  replace GL2 := GL2.trans TD
  replace C := C.trans TD
  clear TD GD
  refine ⟨(r1 (vb ?_)), C⟩
  exact ⟨fun _ => trivial, fun _ => ⟨hxi1.1, trivial⟩⟩
 intro hc11
 refine wp_skip ?_
 refine then_n ?_
 refine qs ?_
 refine qv S (pT b8 (0 + 0)) (x_fld (z := 0) (0) 0 Try.underlying28 rfl rfl (by kernel_rfl) (S.e rfl)) ?_; clear S a; intro a S
 refine qv S (sV r_2.devs) (x_load ⟨_, Try.underlying23, rfl⟩ (S.e rfl) (K8.cell (j := 0) rfl)) ?_; clear S a; intro a S
 refine qv S (iN r_2.devs.xs.length) (x_len Try.underlying23 (S.e rfl)) ?_; clear S a; intro a S
 refine qa S rfl ?_; clear S a; intro a S
 refine qt ?_
 refine wp_seq ?_
 refine qs ?_
 refine qa S rfl ?_; clear S a; intro a S
 refine qt ?_
 refine wp_block ?_
 refine wp_loop_ghost (fun m a wr => ∃ a1 : Nat, Slots 80 [(4, pT b8 0), (5, pT b12 0), (6, pT b13 0), (7, iN r_2.devs.xs.length), (8, iN a1)] a ∧ Tr [one b13, one b12, one b8, one T1] w9 [one b13, one b12, one b8, one T1] wr ∧ (a1 ≤ r_2.devs.xs.length ∧ failV r_2 r_9 ∧ Mono r_2 r_9 r_9) ∧ TpB 62 T1 l wr ∧ Blk wr.heap b8 (tL r_2) 28 ∧ Blk wr.heap b12 (fL r_9) 41 ∧ Blk wr.heap b13 (fL r_9) 41 ∧ (r_2.devs.xs.length - a1) = m) (r_2.devs.xs.length - 0) ?_ ?_
 ·refine ⟨0, S.sub ⟨rfl, rfl, rfl, rfl, rfl, trivial⟩, Tr.refl C.ms, ?_, TK1, K8, K12, K13, rfl⟩
  exact ⟨Nat.zero_le _, by exact mono_refl HV⟩
 rintro m a w28 ⟨a1, S, G, hR, TK1', K8', K12', K13', rfl⟩
 clear TK1; have TK1 := TK1'; clear TK1'
 clear K8; have K8 := K8'; clear K8'
 clear K12; have K12 := K12'; clear K12'
 clear K13; have K13 := K13'; clear K13'
 replace l_w := Enc.tr (slE intE) l_w G
 replace R_2 := Enc.tr (topoE) R_2 G
 replace R_9 := Enc.tr (failE) R_9 G
 replace C := C.trans G
 have GL3 := G; clear G
 obtain ⟨ha1, hxa1⟩ := hR
 refine wp_seq ?_
 refine qs ?_
 refine qm S rfl ?_; clear S a; intro a S
 refine qm S rfl ?_; clear S a; intro a S
 refine qv S (bD (((a1 : Nat) : Int) < ((r_2.devs.xs.length : Nat) : Int))) (x_lss (S.e rfl) (S.e rfl)) ?_; clear S a; intro a S
 refine qt ?_
 refine cond_dec S rfl ?_ ?_
 ·intro hc12
  refine wp_skip ?_
  refine then_n ?_
  refine wp_seq ?_
  refine wp_block ?_
  refine qs ?_
  refine qa S rfl ?_; clear S a; intro a S
  refine qt ?_
  refine wp_block ?_
  refine wp_loop_ghost (fun m a wr => ∃ b1 : Nat, Slots 80 [(4, pT b8 0), (5, pT b12 0), (6, pT b13 0), (7, iN r_2.devs.xs.length), (8, iN a1), (33, iN a1), (34, iN r_2.devs.xs.length), (35, bD (((a1 : Nat) : Int) < ((r_2.devs.xs.length : Nat) : Int))), (9, iN b1)] a ∧ Tr [one b13, one b12, one b8, one T1] w28 [one b13, one b12, one b8, one T1] wr ∧ (b1 ≤ r_2.devs.xs.length ∧ failV r_2 r_9 ∧ Mono r_2 r_9 r_9) ∧ TpB 62 T1 l wr ∧ Blk wr.heap b8 (tL r_2) 28 ∧ Blk wr.heap b12 (fL r_9) 41 ∧ Blk wr.heap b13 (fL r_9) 41 ∧ (r_2.devs.xs.length - b1) = m) (r_2.devs.xs.length - 0) ?_ ?_
  ·refine ⟨0, S.sub ⟨rfl, rfl, rfl, rfl, rfl, rfl, rfl, rfl, rfl, trivial⟩, Tr.refl C.ms, ?_, TK1, K8, K12, K13, rfl⟩
   exact ⟨Nat.zero_le _, by exact hxa1⟩
  rintro m a w29 ⟨b1, S, G, hR, TK1', K8', K12', K13', rfl⟩
  clear TK1; have TK1 := TK1'; clear TK1'
  clear K8; have K8 := K8'; clear K8'
  clear K12; have K12 := K12'; clear K12'
  clear K13; have K13 := K13'; clear K13'
  replace l_w := Enc.tr (slE intE) l_w G
  replace R_2 := Enc.tr (topoE) R_2 G
  replace R_9 := Enc.tr (failE) R_9 G
  replace GL3 := GL3.trans G
  replace C := C.trans G
  have GL4 := G; clear G
  obtain ⟨hb1, hxb1⟩ := hR
  refine wp_seq ?_
  refine qs ?_
  refine qm S rfl ?_; clear S a; intro a S
  refine qm S rfl ?_; clear S a; intro a S
  refine qv S (bD (((b1 : Nat) : Int) < ((r_2.devs.xs.length : Nat) : Int))) (x_lss (S.e rfl) (S.e rfl)) ?_; clear S a; intro a S
  refine qt ?_
  refine cond_dec S rfl ?_ ?_
  ·intro hc13
   refine wp_skip ?_
   refine then_n ?_
   refine wp_seq ?_
   refine wp_block ?_
   refine qs ?_
   refine qv S _ (x_loadw (tL r_2) ⟨_, Try.underlying28, rfl, by kernel_rfl⟩ (S.e rfl) (K8.mid [] _ [] rfl _ rfl)) ?_; clear S a; intro a S
   refine qv S _ (x_loadw (fL r_9) ⟨_, Try.underlying41, rfl, by kernel_rfl⟩ (S.e rfl) (K13.mid [] _ [] rfl _ rfl)) ?_; clear S a; intro a S
   refine qm S rfl ?_; clear S a; intro a S
   refine qm S rfl ?_; clear S a; intro a S
   refine seq_call S (by decide) (vs := #[tV r_2, fV r_9, iN a1, iN b1]) rfl callable_27 (fConn _ (Ex F _) (C.old hF)  (MS.nil _) r_2 ((topoE).down0 R_2) r_9 ((failE).down0 R_9) ((a1 : Nat) : Int) ⟨by omega, by omega⟩ ((b1 : Nat) : Int) ⟨by omega, by omega⟩) ?_
   rintro e w30 ⟨rfl, T0⟩; refine ⟨_, rfl, ?_⟩; clear S a; intro a S
   have TT := Tr.framed0 C.ms T0; have G := T0.ch
   replace l_w := Enc.tr (slE intE) l_w TT
   replace R_2 := Enc.tr (topoE) R_2 TT
   replace R_9 := Enc.tr (failE) R_9 TT
   replace TK1 := TpB.tr0 TK1 G
   replace K8 := Blk.tr0 K8 G
   replace K12 := Blk.tr0 K12 G
   replace K13 := Blk.tr0 K13 G
   replace GL3 := GL3.trans TT
   replace GL4 := GL4.trans TT
   replace C := C.trans TT
   clear T0 G TT
   refine qm S rfl ?_; clear S a; intro a S
   refine qg S 48 rfl (connV r_2 r_9 ((a1 : Nat) : Int) ((b1 : Nat) : Int)) gt _ (fun hg => (x_loadw (tL r_2) ⟨_, Try.underlying28, rfl, by kernel_rfl⟩ (S.e rfl) (K8.mid [] _ [] rfl _ rfl))) ?_; clear S a; intro a S
   refine qg S 48 rfl (connV r_2 r_9 ((a1 : Nat) : Int) ((b1 : Nat) : Int)) gt _ (fun hg => (x_loadw (fL r_9) ⟨_, Try.underlying41, rfl, by kernel_rfl⟩ (S.e rfl) (K12.mid [] _ [] rfl _ rfl))) ?_; clear S a; intro a S
   refine qg S 48 rfl (connV r_2 r_9 ((a1 : Nat) : Int) ((b1 : Nat) : Int)) gt (iN a1) (fun hg => (x_move (S.e rfl))) ?_; clear S a; intro a S
   refine qg S 48 rfl (connV r_2 r_9 ((a1 : Nat) : Int) ((b1 : Nat) : Int)) gt (iN b1) (fun hg => (x_move (S.e rfl))) ?_; clear S a; intro a S
   refine seq_gcall S (by decide) (gd := 48) (vs := #[tV r_2, fV r_9, iN a1, iN b1]) (v := bD (connV r_2 r_9 ((a1 : Nat) : Int) ((b1 : Nat) : Int))) rfl rfl (by decide) rfl (c := (connV r_2 r_9 ((a1 : Nat) : Int) ((b1 : Nat) : Int))) gt (fun hg => by simp only [List.map_toArray, List.map_cons, List.map_nil, show a.eval (.tmp 49) = tV r_2 from (S.p rfl hg), show a.eval (.tmp 50) = fV r_9 from (S.p rfl hg), show a.eval (.tmp 51) = iN a1 from (S.p rfl hg), show a.eval (.tmp 52) = iN b1 from (S.p rfl hg)]) callable_27 (fun hg => ((fConn _ (Ex F _) (C.old hF)  (MS.nil _) r_2 ((topoE).down0 R_2) r_9 ((failE).down0 R_9) ((a1 : Nat) : Int) ⟨by omega, by omega⟩ ((b1 : Nat) : Int) ⟨by omega, by omega⟩)).mono (fun _ _ h => ⟨h.1, h.2.ch⟩)) ?_
   clear S a; intro a w31 G S; have TT := Tr.of_ch0 C.ms G
   replace l_w := Enc.tr (slE intE) l_w TT
   replace R_2 := Enc.tr (topoE) R_2 TT
   replace R_9 := Enc.tr (failE) R_9 TT
   replace TK1 := TpB.tr0 TK1 G
   replace K8 := Blk.tr0 K8 G
   replace K12 := Blk.tr0 K12 G
   replace K13 := Blk.tr0 K13 G
   replace GL3 := GL3.trans TT
   replace GL4 := GL4.trans TT
   replace C := C.trans TT
   refine qg S 48 rfl (connV r_2 r_9 ((a1 : Nat) : Int) ((b1 : Nat) : Int)) gt (bD (¬ (connV r_2 r_9 ((a1 : Nat) : Int) ((b1 : Nat) : Int)))) (fun hg => (x_notp (S.p rfl hg))) ?_; clear S a; intro a S
   refine qv S (bD ((connV r_2 r_9 ((a1 : Nat) : Int) ((b1 : Nat) : Int)) ∧ (¬ (connV r_2 r_9 ((a1 : Nat) : Int) ((b1 : Nat) : Int))))) (x_and (S.e rfl) (S.p rfl) (S.e rfl)) ?_; clear S a; intro a S
   refine qt ?_
   refine cond_dec S rfl ?_ ?_
   ·intro hc14
    refine qs ?_
    refine qa S rfl ?_; clear S a; intro a S
    refine qt ?_
    refine wp_ret ?_
    refine blk_r ?_
    refine then_r ?_
    refine then_r ?_
    refine blk_r ?_
    refine blk_r ?_
    refine then_r ?_
    refine then_r ?_
    refine blk_r ?_
    refine then_r ?_
    refine ret1 rfl S rfl ?_
    have TD : Tr [one b13, one b12, one b8, one T1] w31 [] w31 := Tr.drop C.ms [] (by decide)
    have GD : Ch (In []) w31 w31 := Ch.refl _
    clear TK1
    clear K8
    clear K12
    clear K13
    replace l_w := Enc.tr (slE intE) l_w TD
    replace R_2 := Enc.tr (topoE) R_2 TD
    replace R_9 := Enc.tr (failE) R_9 TD
    replace GL3 := GL3.trans TD
    replace GL4 := GL4.trans TD
    replace C := C.trans TD
    clear TD GD
    refine ⟨(r1 (vf ?_)), C⟩
    intro _; exact hc14.2 (hxb1.2.1 _ _ hc14.1)
   intro hc15
   refine wp_skip ?_
   refine blk_n ?_
   refine then_n ?_
   refine wp_region_lit ?_
   refine qm S rfl ?_; clear S a; intro a S
   refine qv S (iN (b1 + 1)) (x_add (S.e rfl) (S.e rfl) (r := ((b1 + 1 : Nat) : Int)) (w_i64 (by omega))) ?_; clear S a; intro a S
   refine qa S rfl ?_; clear S a; intro a S
   refine qt ?_
   refine ⟨r_2.devs.xs.length - (b1 + 1), ?_, (b1 + 1), S.sub ⟨rfl, rfl, rfl, rfl, rfl, rfl, rfl, rfl, rfl, trivial⟩, GL4, ?_, TK1, K8, K12, K13, rfl⟩
   ·omega
   refine ⟨by omega, ?_⟩
   assumption
  intro hc16
  refine wp_exit ?_
  refine then_e ?_
  refine then_e ?_
  refine blk_e ?_
  refine blk_n ?_
  refine then_n ?_
  refine wp_region_lit ?_
  refine qm S rfl ?_; clear S a; intro a S
  refine qv S (iN (a1 + 1)) (x_add (S.e rfl) (S.e rfl) (r := ((a1 + 1 : Nat) : Int)) (w_i64 (by omega))) ?_; clear S a; intro a S
  refine qa S rfl ?_; clear S a; intro a S
  refine qt ?_
  refine ⟨r_2.devs.xs.length - (a1 + 1), ?_, (a1 + 1), S.sub ⟨rfl, rfl, rfl, rfl, rfl, trivial⟩, GL3, ?_, TK1, K8, K12, K13, rfl⟩
  ·omega
  refine ⟨by omega, ?_⟩
  assumption
 intro hc17
 refine wp_exit ?_
 refine then_e ?_
 refine then_e ?_
 refine blk_e ?_
 refine then_n ?_
 refine wp_seq ?_
 refine qs ?_
 refine qa S rfl ?_; clear S a; intro a S
 refine qt ?_
 refine wp_block ?_
 refine wp_loop_ghost (fun m a wr => ∃ i1 : Nat, Slots 80 [(4, pT b8 0), (5, pT b12 0), (6, pT b13 0), (10, iN i1)] a ∧ Tr [one b13, one b12, one b8, one T1] w28 [one b13, one b12, one b8, one T1] wr ∧ (i1 ≤ r_2.links.xs.length ∧ failV r_2 r_9 ∧ Mono r_2 r_9 r_9) ∧ TpB 62 T1 l wr ∧ Blk wr.heap b8 (tL r_2) 28 ∧ Blk wr.heap b12 (fL r_9) 41 ∧ Blk wr.heap b13 (fL r_9) 41 ∧ (r_2.links.xs.length - i1) = m) (r_2.links.xs.length - 0) ?_ ?_
 ·refine ⟨0, S.sub ⟨rfl, rfl, rfl, rfl, trivial⟩, Tr.refl C.ms, ?_, TK1, K8, K12, K13, rfl⟩
  exact ⟨Nat.zero_le _, by exact hxa1⟩
 rintro m a w32 ⟨i1, S, G, hR, TK1', K8', K12', K13', rfl⟩
 clear TK1; have TK1 := TK1'; clear TK1'
 clear K8; have K8 := K8'; clear K8'
 clear K12; have K12 := K12'; clear K12'
 clear K13; have K13 := K13'; clear K13'
 replace l_w := Enc.tr (slE intE) l_w G
 replace R_2 := Enc.tr (topoE) R_2 G
 replace R_9 := Enc.tr (failE) R_9 G
 replace GL3 := GL3.trans G
 replace C := C.trans G
 have GL5 := G; clear G
 obtain ⟨hi1, hxi1⟩ := hR
 refine wp_seq ?_
 refine qs ?_
 refine qm S rfl ?_; clear S a; intro a S
 refine qv S (pT b8 (0 + 1)) (x_fld (z := 0) (0) 1 Try.underlying28 rfl rfl (by kernel_rfl) (S.e rfl)) ?_; clear S a; intro a S
 refine qv S (sV r_2.links) (x_load ⟨_, Try.underlying24, rfl⟩ (S.e rfl) (K8.cell (j := 1) rfl)) ?_; clear S a; intro a S
 refine qv S (iN r_2.links.xs.length) (x_len Try.underlying24 (S.e rfl)) ?_; clear S a; intro a S
 refine qv S (bD (((i1 : Nat) : Int) < ((r_2.links.xs.length : Nat) : Int))) (x_lss (S.e rfl) (S.e rfl)) ?_; clear S a; intro a S
 refine qt ?_
 refine cond_dec S rfl ?_ ?_
 ·intro hc18
  refine wp_skip ?_
  refine then_n ?_
  refine wp_seq ?_
  refine wp_block ?_
  refine qs ?_
  refine qv S _ (x_loadw (tL r_2) ⟨_, Try.underlying28, rfl, by kernel_rfl⟩ (S.e rfl) (K8.mid [] _ [] rfl _ rfl)) ?_; clear S a; intro a S
  refine qv S _ (x_loadw (fL r_9) ⟨_, Try.underlying41, rfl, by kernel_rfl⟩ (S.e rfl) (K13.mid [] _ [] rfl _ rfl)) ?_; clear S a; intro a S
  refine qm S rfl ?_; clear S a; intro a S
  refine seq_call S (by decide) (vs := #[tV r_2, fV r_9, iN i1]) rfl callable_28 (fUsable _ (Ex F _) (C.old hF)  (MS.nil _) r_2 ((topoE).down0 R_2) r_9 ((failE).down0 R_9) ((i1 : Nat) : Int) ⟨by omega, by omega⟩) ?_
  rintro e w33 ⟨rfl, T0⟩; refine ⟨_, rfl, ?_⟩; clear S a; intro a S
  have TT := Tr.framed0 C.ms T0; have G := T0.ch
  replace l_w := Enc.tr (slE intE) l_w TT
  replace R_2 := Enc.tr (topoE) R_2 TT
  replace R_9 := Enc.tr (failE) R_9 TT
  replace TK1 := TpB.tr0 TK1 G
  replace K8 := Blk.tr0 K8 G
  replace K12 := Blk.tr0 K12 G
  replace K13 := Blk.tr0 K13 G
  replace GL3 := GL3.trans TT
  replace GL5 := GL5.trans TT
  replace C := C.trans TT
  clear T0 G TT
  refine qm S rfl ?_; clear S a; intro a S
  refine qg S 67 rfl (usableV r_2 r_9 ((i1 : Nat) : Int)) gt _ (fun hg => (x_loadw (tL r_2) ⟨_, Try.underlying28, rfl, by kernel_rfl⟩ (S.e rfl) (K8.mid [] _ [] rfl _ rfl))) ?_; clear S a; intro a S
  refine qg S 67 rfl (usableV r_2 r_9 ((i1 : Nat) : Int)) gt _ (fun hg => (x_loadw (fL r_9) ⟨_, Try.underlying41, rfl, by kernel_rfl⟩ (S.e rfl) (K12.mid [] _ [] rfl _ rfl))) ?_; clear S a; intro a S
  refine qg S 67 rfl (usableV r_2 r_9 ((i1 : Nat) : Int)) gt (iN i1) (fun hg => (x_move (S.e rfl))) ?_; clear S a; intro a S
  refine seq_gcall S (by decide) (gd := 67) (vs := #[tV r_2, fV r_9, iN i1]) (v := bD (usableV r_2 r_9 ((i1 : Nat) : Int))) rfl rfl (by decide) rfl (c := (usableV r_2 r_9 ((i1 : Nat) : Int))) gt (fun hg => by simp only [List.map_toArray, List.map_cons, List.map_nil, show a.eval (.tmp 68) = tV r_2 from (S.p rfl hg), show a.eval (.tmp 69) = fV r_9 from (S.p rfl hg), show a.eval (.tmp 70) = iN i1 from (S.p rfl hg)]) callable_28 (fun hg => ((fUsable _ (Ex F _) (C.old hF)  (MS.nil _) r_2 ((topoE).down0 R_2) r_9 ((failE).down0 R_9) ((i1 : Nat) : Int) ⟨by omega, by omega⟩)).mono (fun _ _ h => ⟨h.1, h.2.ch⟩)) ?_
  clear S a; intro a w34 G S; have TT := Tr.of_ch0 C.ms G
  replace l_w := Enc.tr (slE intE) l_w TT
  replace R_2 := Enc.tr (topoE) R_2 TT
  replace R_9 := Enc.tr (failE) R_9 TT
  replace TK1 := TpB.tr0 TK1 G
  replace K8 := Blk.tr0 K8 G
  replace K12 := Blk.tr0 K12 G
  replace K13 := Blk.tr0 K13 G
  replace GL3 := GL3.trans TT
  replace GL5 := GL5.trans TT
  replace C := C.trans TT
  refine qg S 67 rfl (usableV r_2 r_9 ((i1 : Nat) : Int)) gt (bD (¬ (usableV r_2 r_9 ((i1 : Nat) : Int)))) (fun hg => (x_notp (S.p rfl hg))) ?_; clear S a; intro a S
  refine qv S (bD ((usableV r_2 r_9 ((i1 : Nat) : Int)) ∧ (¬ (usableV r_2 r_9 ((i1 : Nat) : Int))))) (x_and (S.e rfl) (S.p rfl) (S.e rfl)) ?_; clear S a; intro a S
  refine qt ?_
  refine cond_dec S rfl ?_ ?_
  ·intro hc19
   refine qs ?_
   refine qa S rfl ?_; clear S a; intro a S
   refine qt ?_
   refine wp_ret ?_
   refine blk_r ?_
   refine then_r ?_
   refine then_r ?_
   refine blk_r ?_
   refine then_r ?_
   refine ret1 rfl S rfl ?_
   have TD : Tr [one b13, one b12, one b8, one T1] w34 [] w34 := Tr.drop C.ms [] (by decide)
   have GD : Ch (In []) w34 w34 := Ch.refl _
   clear TK1
   clear K8
   clear K12
   clear K13
   replace l_w := Enc.tr (slE intE) l_w TD
   replace R_2 := Enc.tr (topoE) R_2 TD
   replace R_9 := Enc.tr (failE) R_9 TD
   replace GL3 := GL3.trans TD
   replace GL5 := GL5.trans TD
   replace C := C.trans TD
   clear TD GD
   refine ⟨(r1 (vf ?_)), C⟩
   intro _; exact hc19.2 (hxi1.2.2 _ hc19.1)
  intro hc20
  refine wp_skip ?_
  refine blk_n ?_
  refine then_n ?_
  refine wp_region_lit ?_
  refine qm S rfl ?_; clear S a; intro a S
  refine qv S (iN (i1 + 1)) (x_add (S.e rfl) (S.e rfl) (r := ((i1 + 1 : Nat) : Int)) (w_i64 (by omega))) ?_; clear S a; intro a S
  refine qa S rfl ?_; clear S a; intro a S
  refine qt ?_
  refine ⟨r_2.links.xs.length - (i1 + 1), ?_, (i1 + 1), S.sub ⟨rfl, rfl, rfl, rfl, trivial⟩, GL5, ?_, TK1, K8, K12, K13, rfl⟩
  ·omega
  refine ⟨by omega, ?_⟩
  assumption
 intro hc21
 refine wp_exit ?_
 refine then_e ?_
 refine then_e ?_
 refine blk_e ?_
 refine then_n ?_
 refine qs ?_
 refine qv S _ (x_loadw (tL r_2) ⟨_, Try.underlying28, rfl, by kernel_rfl⟩ (S.e rfl) (K8.mid [] _ [] rfl _ rfl)) ?_; clear S a; intro a S
 refine qv S _ (x_loadw (fL r_9) ⟨_, Try.underlying41, rfl, by kernel_rfl⟩ (S.e rfl) (K13.mid [] _ [] rfl _ rfl)) ?_; clear S a; intro a S
 refine seq_call S (by decide) (vs := #[tV r_2, fV r_9]) rfl callable_22 (fValid _ (Ex F _) (C.old hF)  (MS.nil _) r_2 ((topoE).down0 R_2) r_9 ((failE).down0 R_9)) ?_
 rintro e w35 ⟨rfl, T0⟩; refine ⟨_, rfl, ?_⟩; clear S a; intro a S
 have TT := Tr.framed0 C.ms T0; have G := T0.ch
 replace l_w := Enc.tr (slE intE) l_w TT
 replace R_2 := Enc.tr (topoE) R_2 TT
 replace R_9 := Enc.tr (failE) R_9 TT
 replace TK1 := TpB.tr0 TK1 G
 replace K8 := Blk.tr0 K8 G
 replace K12 := Blk.tr0 K12 G
 replace K13 := Blk.tr0 K13 G
 replace GL3 := GL3.trans TT
 replace GL5 := GL5.trans TT
 replace C := C.trans TT
 clear T0 G TT
 refine qm S rfl ?_; clear S a; intro a S
 refine seq_gcall S (by decide) (gd := 77) (vs := #[]) (v := bD (True)) rfl rfl (by decide) rfl (c := (failV r_2 r_9)) gt (fun hg => by simp only [List.map_toArray, List.map_cons, List.map_nil]) callable_21 (fun hg => ((lSane _ (Ex F _) (C.old hF)  (MS.nil _) )).mono (fun _ _ h => ⟨h.1, h.2.ch⟩)) ?_
 clear S a; intro a w36 G S; have TT := Tr.of_ch0 C.ms G
 replace l_w := Enc.tr (slE intE) l_w TT
 replace R_2 := Enc.tr (topoE) R_2 TT
 replace R_9 := Enc.tr (failE) R_9 TT
 replace TK1 := TpB.tr0 TK1 G
 replace K8 := Blk.tr0 K8 G
 replace K12 := Blk.tr0 K12 G
 replace K13 := Blk.tr0 K13 G
 replace GL3 := GL3.trans TT
 replace GL5 := GL5.trans TT
 replace C := C.trans TT
 refine qv S (bD ((failV r_2 r_9) ∧ (True))) (x_and (S.e rfl) (S.p rfl) (S.e rfl)) ?_; clear S a; intro a S
 refine qa S rfl ?_; clear S a; intro a S
 refine qt ?_
 refine wp_ret ?_
 refine ret1 rfl S rfl ?_
 have TD : Tr [one b13, one b12, one b8, one T1] w36 [] w36 := Tr.drop C.ms [] (by decide)
 have GD : Ch (In []) w36 w36 := Ch.refl _
 clear TK1
 clear K8
 clear K12
 clear K13
 replace l_w := Enc.tr (slE intE) l_w TD
 replace R_2 := Enc.tr (topoE) R_2 TD
 replace R_9 := Enc.tr (failE) R_9 TD
 replace GL3 := GL3.trans TD
 replace GL5 := GL5.trans TD
 replace C := C.trans TD
 clear TD GD
 refine ⟨(r1 (vb ?_)), C⟩
 exact ⟨fun _ => trivial, fun _ => ⟨hxi1.1, trivial⟩⟩
end Go.Proofs.Ytfanmniaolncbaa.V
