/- the laws: the tolerated states -/
import Derived.Test.YtfanmniaolncbaaW14
import Derived.Test.YtfanmniaolncbaaW15
import Derived.Test.YtfanmniaolncbaaStaM
namespace Go.Proofs.Ytfanmniaolncbaa.V
open Go.RowKit Go.Proofs.Ytfanmniaolncbaa
set_option linter.unusedVariables false
set_option linter.unusedSimpArgs false
set_option maxHeartbeats 2000000 in
set_option maxRecDepth 20000 in
theorem lStates (w : World) (F : Nat → Prop) (hF : Old F w) (M : MS [] w) (l : Sl Int) (l_w : (slE intE).wf (Fr F []) w.heap l) :
 Calls Try.prog 4 #[sV l] w fun e w' => e = .returned (bD (True)) ∧ Tr [] w [] w' := by
 have C : Tr [] w [] w := Tr.refl M
 have : l.xs.length ≤ 9223372036854775807 := (l_w).1.len
 refine enter Try.func4 rfl 99 rfl (Nat.le_of_ble_eq_true rfl) ?_
 intro a S
 refine qs ?_
 refine qa S rfl ?_; clear S a; intro a S
 refine qt ?_
 refine qs ?_
 refine qm S rfl ?_; clear S a; intro a S
 refine seq_call S (by decide) (vs := #[sV l]) rfl callable_14 (gNew _ (Ex F _) (C.old hF)  (MS.nil _) l ((slE intE).down0 l_w)) ?_
 rintro e w1 ⟨T1, rfl, TK1, T0⟩; refine ⟨_, rfl, ?_⟩; clear S a; intro a S
 have TT : Tr [] w [one T1] w1 := Tr.frame (nw := [one T1]) C.ms T0 (fun _ h => by simp at h); have G := T0.ch
 replace l_w := Enc.tr (slE intE) l_w TT
 replace C := C.trans TT
 clear T0 G TT
 refine qa S rfl ?_; clear S a; intro a S
 refine qt ?_
 refine qs ?_
 refine qm S rfl ?_; clear S a; intro a S
 refine seq_call S (by decide) (vs := #[pT T1 0, iI 4]) rfl callable_15 (gTopology _ (Ex F _) (C.old hF) T1 (C.ms.picks [0] (by decide)) l ((slE intE).dn l_w) TK1 4 ⟨by omega, by omega⟩) ?_
 rintro e w2 ⟨r_2, rfl, R_2, hr_2, tTK1, T0⟩; refine ⟨_, rfl, ?_⟩; clear S a; intro a S
 have TT := Tr.fra C.ms T0; have G := T0.ch
 replace l_w := Enc.tr (slE intE) l_w TT
 replace C := C.trans TT
 clear TK1; have TK1 := tTK1; clear tTK1
 replace R_2 := Enc.up (topoE) R_2
 clear T0 G TT
 have HG : genT r_2 := hr_2
 have HT := HG.1
 have hB := HG.1.1
 unfold topB at hB
 obtain ⟨-, hB1, hB2, hB3, hB4⟩ := HG
 have hm := mul_small (n := elems r_2) (by unfold elems; omega)
 have hn3 : r_2.devs.xs.length ≤ 9223372036854775807 := (R_2.1).1.len
 have hn4 : r_2.links.xs.length ≤ 9223372036854775807 := (R_2.2.1).1.len
 have hn5 : r_2.edges.xs.length ≤ 9223372036854775807 := (R_2.2.2.1).1.len
 have hn6 : r_2.pools.xs.length ≤ 9223372036854775807 := (R_2.2.2.2.1).1.len
 obtain ⟨hl7, hu7⟩ : inI64 r_2.tol := id R_2.2.2.2.2
 refine seq_new S rfl rfl (by decide) (fun b => pT b 0) (cs := [.slice none 0 0, .slice none 0 0, .slice none 0 0, .slice none 0 0, iI 0]) (x_allocz [.slice none 0 0, .slice none 0 0, .slice none 0 0, .slice none 0 0, iI 0] infoz_28 rfl) ?_
 clear S a; intro a w3 b8 hb8 hbs8 G K8 S; have hbl8 : b8 < w3.heap.size := by omega
 have TT := Tr.fresh C.ms hb8 hbl8 G
 replace l_w := Enc.tr (slE intE) l_w TT
 replace TK1 := TpB.tr0 TK1 G
 replace R_2 := Enc.tr (topoE) R_2 TT
 replace C := C.trans TT
 clear TT G
 refine seq_storew S rfl rfl (vs := (tL r_2)) (x_storew (by kernel_rfl) (S.e rfl) (S.e rfl) rfl K8 rfl) K8 ?_
 clear S a; intro a w4 G hz K S; clear hz; have TT := Tr.och C.ms G
 replace l_w := Enc.tr (slE intE) l_w TT
 replace TK1 := TpB.tr TK1 G (C.ms.sep.out 1 [0] rfl rfl rfl)
 replace R_2 := Enc.tr (topoE) R_2 TT
 replace C := C.trans TT
 clear K8; have K8 := K; clear K TT G
 refine qt ?_
 refine qs ?_
 refine qv S _ (x_loadw (tL r_2) ⟨_, Try.underlying28, rfl, by kernel_rfl⟩ (S.e rfl) (K8.mid [] _ [] rfl _ rfl)) ?_; clear S a; intro a S
 refine seq_call S (by decide) (vs := #[tV r_2]) rfl callable_18 (fAll _ (Ex F _) (C.old hF)  (MS.nil _) r_2 ((topoE).down0 R_2)) ?_
 rintro e w5 ⟨r_9, rfl, R_9, hr_9, T0⟩; refine ⟨_, rfl, ?_⟩; clear S a; intro a S
 have TT := Tr.framed0 C.ms T0; have G := T0.ch
 replace l_w := Enc.tr (slE intE) l_w TT
 replace TK1 := TpB.tr0 TK1 G
 replace R_2 := Enc.tr (topoE) R_2 TT
 replace K8 := Blk.tr0 K8 G
 replace C := C.trans TT
 replace R_9 := Enc.up (slE failE) R_9
 clear T0 G TT
 have hr5 := hr_9
 have hlen := congrArg List.length hr5; rw [List.length_map] at hlen
 have hal := all_len HT
 have hn10 : r_9.xs.length ≤ 9223372036854775807 := (R_9).1.len
 refine qa S rfl ?_; clear S a; intro a S
 refine qt ?_
 refine qs ?_
 refine qv S (pT b8 (0 + 0)) (x_fld (z := 0) (0) 0 Try.underlying28 rfl rfl (by kernel_rfl) (S.e rfl)) ?_; clear S a; intro a S
 refine qv S (sV r_2.devs) (x_load ⟨_, Try.underlying23, rfl⟩ (S.e rfl) (K8.cell (j := 0) rfl)) ?_; clear S a; intro a S
 refine qv S (iN r_2.devs.xs.length) (x_len Try.underlying23 (S.e rfl)) ?_; clear S a; intro a S
 refine qv S (pT b8 (0 + 1)) (x_fld (z := 0) (0) 1 Try.underlying28 rfl rfl (by kernel_rfl) (S.e rfl)) ?_; clear S a; intro a S
 refine qv S (sV r_2.links) (x_load ⟨_, Try.underlying24, rfl⟩ (S.e rfl) (K8.cell (j := 1) rfl)) ?_; clear S a; intro a S
 refine qv S (iN r_2.links.xs.length) (x_len Try.underlying24 (S.e rfl)) ?_; clear S a; intro a S
 refine qv S (iN (r_2.devs.xs.length + r_2.links.xs.length)) (x_add (S.e rfl) (S.e rfl) (r := ((r_2.devs.xs.length + r_2.links.xs.length : Nat) : Int)) (w_i64 (by omega))) ?_; clear S a; intro a S
 refine qa S rfl ?_; clear S a; intro a S
 replace S := S.ext (d := 6) (v := iN (elems r_2)) (S.get 6 _ rfl)
 have hel : elems r_2 = r_2.devs.xs.length + r_2.links.xs.length := rfl
 refine qt ?_
 refine qs ?_
 refine qa S rfl ?_; clear S a; intro a S
 refine qt ?_
 refine wp_seq ?_
 refine qs ?_
 refine qv S (pT b8 (0 + 4)) (x_fld (z := 0) (0) 4 Try.underlying28 rfl rfl (by kernel_rfl) (S.e rfl)) ?_; clear S a; intro a S
 refine qv S (iI r_2.tol) (x_load ⟨_, Try.underlying3, rfl⟩ (S.e rfl) (K8.cell (j := 4) rfl)) ?_; clear S a; intro a S
 refine qv S (bD (1 ≤ r_2.tol)) (x_geq (S.e rfl) (S.e rfl)) ?_; clear S a; intro a S
 refine qt ?_
 refine wp_join (J := fun a' => ∃ j26 : Int, Slots 99 [(0, sV l), (2, .bool false), (11, sV l), (12, pT T1 0), (3, pT T1 0), (13, pT T1 0), (14, tV r_2), (4, pT b8 0), (15, tV r_2), (16, sV r_9), (5, sV r_9), (17, pT b8 (0 + 0)), (18, sV r_2.devs), (19, iN r_2.devs.xs.length), (20, pT b8 (0 + 1)), (21, sV r_2.links), (22, iN r_2.links.xs.length), (23, iN (r_2.devs.xs.length + r_2.links.xs.length)), (6, iN (elems r_2)), (7, iI j26), (24, pT b8 (0 + 4)), (25, iI r_2.tol), (26, bD (1 ≤ r_2.tol))] a' ∧ (j26 = 1 + (if 1 ≤ r_2.tol then ((elems r_2 : Nat) : Int) else 0))) ?_ ?_
 ·skip
  refine cond_dec S rfl ?_ ?_
  ·intro hc0
   refine wp_region_lit ?_
   refine qm S rfl ?_; clear S a; intro a S
   refine qm S rfl ?_; clear S a; intro a S
   refine qv S (iN (1 + elems r_2)) (x_add (S.e rfl) (S.e rfl) (r := ((1 + elems r_2 : Nat) : Int)) (w_i64 (by omega))) ?_; clear S a; intro a S
   refine qa S rfl ?_; clear S a; intro a S
   refine wpList_nil ?_
   exact ⟨rfl, rfl, ((1 + elems r_2 : Nat) : Int), S.sub ⟨rfl, rfl, rfl, rfl, rfl, rfl, rfl, rfl, rfl, rfl, rfl, rfl, rfl, rfl, rfl, rfl, rfl, rfl, rfl, rfl, rfl, rfl, rfl, trivial⟩, by split <;> omega⟩
  intro hc1
  refine wp_skip ?_
  exact ⟨rfl, rfl, 1, S.sub ⟨rfl, rfl, rfl, rfl, rfl, rfl, rfl, rfl, rfl, rfl, rfl, rfl, rfl, rfl, rfl, rfl, rfl, rfl, rfl, rfl, rfl, rfl, rfl, trivial⟩, by split <;> omega⟩
 clear S a; rintro a ⟨j26, S, hj26⟩
 refine wp_seq ?_
 refine qs ?_
 refine qv S (pT b8 (0 + 4)) (x_fld (z := 0) (0) 4 Try.underlying28 rfl rfl (by kernel_rfl) (S.e rfl)) ?_; clear S a; intro a S
 refine qv S (iI r_2.tol) (x_load ⟨_, Try.underlying3, rfl⟩ (S.e rfl) (K8.cell (j := 4) rfl)) ?_; clear S a; intro a S
 refine qv S (bD (2 ≤ r_2.tol)) (x_geq (S.e rfl) (S.e rfl)) ?_; clear S a; intro a S
 refine qt ?_
 refine wp_join (J := fun a' => ∃ j32 : Int, Slots 99 [(0, sV l), (2, .bool false), (11, sV l), (12, pT T1 0), (3, pT T1 0), (13, pT T1 0), (14, tV r_2), (4, pT b8 0), (15, tV r_2), (16, sV r_9), (5, sV r_9), (17, pT b8 (0 + 0)), (18, sV r_2.devs), (19, iN r_2.devs.xs.length), (20, pT b8 (0 + 1)), (21, sV r_2.links), (22, iN r_2.links.xs.length), (23, iN (r_2.devs.xs.length + r_2.links.xs.length)), (6, iN (elems r_2)), (7, iI j32), (24, pT b8 (0 + 4)), (25, iI r_2.tol), (26, bD (1 ≤ r_2.tol)), (30, pT b8 (0 + 4)), (31, iI r_2.tol), (32, bD (2 ≤ r_2.tol))] a' ∧ (j32 = j26 + (if 2 ≤ r_2.tol then ((elems r_2 : Nat) : Int) * (((elems r_2 : Nat) : Int) - 1) / 2 else 0))) ?_ ?_
 ·skip
  refine cond_dec S rfl ?_ ?_
  ·intro hc2
   refine wp_region_lit ?_
   refine qm S rfl ?_; clear S a; intro a S
   refine qm S rfl ?_; clear S a; intro a S
   refine qm S rfl ?_; clear S a; intro a S
   refine qv S (iI (((elems r_2 : Nat) : Int) - 1)) (x_sub (S.e rfl) (S.e rfl) (r := (((elems r_2 : Nat) : Int) - 1)) (w_i64 (by omega))) ?_; clear S a; intro a S
   refine qv S (iI (((elems r_2 : Nat) : Int) * (((elems r_2 : Nat) : Int) - 1))) (x_mul (S.e rfl) (S.e rfl) (r := (((elems r_2 : Nat) : Int) * (((elems r_2 : Nat) : Int) - 1))) (w_i64 (by omega))) ?_; clear S a; intro a S
   refine qv S (iI ((((elems r_2 : Nat) : Int) * (((elems r_2 : Nat) : Int) - 1)) / 2)) (x_quo (S.e rfl) (S.e rfl) (by omega) (r := ((((elems r_2 : Nat) : Int) * (((elems r_2 : Nat) : Int) - 1)) / 2)) (w_i64 (by rw [Int.tdiv_eq_ediv_of_nonneg (by omega)]; omega))) ?_; clear S a; intro a S
   refine qv S (iI (j26 + ((((elems r_2 : Nat) : Int) * (((elems r_2 : Nat) : Int) - 1)) / 2))) (x_add (S.e rfl) (S.e rfl) (r := (j26 + ((((elems r_2 : Nat) : Int) * (((elems r_2 : Nat) : Int) - 1)) / 2))) (w_i64 (by omega))) ?_; clear S a; intro a S
   refine qa S rfl ?_; clear S a; intro a S
   refine wpList_nil ?_
   exact ⟨rfl, rfl, (j26 + ((((elems r_2 : Nat) : Int) * (((elems r_2 : Nat) : Int) - 1)) / 2)), S.sub ⟨rfl, rfl, rfl, rfl, rfl, rfl, rfl, rfl, rfl, rfl, rfl, rfl, rfl, rfl, rfl, rfl, rfl, rfl, rfl, rfl, rfl, rfl, rfl, rfl, rfl, rfl, trivial⟩, by split <;> omega⟩
  intro hc3
  refine wp_skip ?_
  exact ⟨rfl, rfl, j26, S.sub ⟨rfl, rfl, rfl, rfl, rfl, rfl, rfl, rfl, rfl, rfl, rfl, rfl, rfl, rfl, rfl, rfl, rfl, rfl, rfl, rfl, rfl, rfl, rfl, rfl, rfl, rfl, trivial⟩, by split <;> omega⟩
 clear S a; rintro a ⟨j32, S, hj32⟩
 refine wp_seq ?_
 refine qs ?_
 refine qm S rfl ?_; clear S a; intro a S
 refine qv S (iN r_9.xs.length) (x_len Try.underlying34 (S.e rfl)) ?_; clear S a; intro a S
 refine qm S rfl ?_; clear S a; intro a S
 refine qv S (bD (¬ ((r_9.xs.length : Nat) : Int) = j32)) (x_neq (S.e rfl) (S.e rfl)) ?_; clear S a; intro a S
 refine qt ?_
 refine cond_dec S rfl ?_ ?_
 ·intro hc4
  refine qs ?_
  refine qa S rfl ?_; clear S a; intro a S
  refine qt ?_
  refine wp_ret ?_
  refine then_r ?_
  refine ret1 rfl S rfl ?_
  have TD : Tr [one b8, one T1] w5 [] w5 := Tr.drop C.ms [] (by decide)
  have GD : Ch (In []) w5 w5 := Ch.refl _
  clear TK1
  clear K8
  replace l_w := Enc.tr (slE intE) l_w TD
  replace R_2 := Enc.tr (topoE) R_2 TD
  replace R_9 := Enc.tr (slE failE) R_9 TD
  replace C := C.trans TD
  clear TD GD
  refine ⟨(r1 (vf ?_)), C⟩
  intro _; omega
 intro hc5
 refine wp_skip ?_
 refine then_n ?_
 refine wp_seq ?_
 refine qs ?_
 refine qa S rfl ?_; clear S a; intro a S
 refine qt ?_
 refine wp_block ?_
 refine wp_loop_ghost (fun m a wr => ∃ i : Nat, Slots 99 [(3, pT T1 0), (4, pT b8 0), (5, sV r_9), (8, iN i)] a ∧ Tr [one b8, one T1] w5 [one b8, one T1] wr ∧ (i ≤ r_9.xs.length) ∧ TpB 62 T1 l wr ∧ Blk wr.heap b8 (tL r_2) 28 ∧ (r_9.xs.length - i) = m) (r_9.xs.length - 0) ?_ ?_
 ·refine ⟨0, S.sub ⟨rfl, rfl, rfl, rfl, trivial⟩, Tr.refl C.ms, ?_, TK1, K8, rfl⟩
  exact Nat.zero_le _
 rintro m a w6 ⟨i, S, G, hR, TK1', K8', rfl⟩
 clear TK1; have TK1 := TK1'; clear TK1'
 clear K8; have K8 := K8'; clear K8'
 replace l_w := Enc.tr (slE intE) l_w G
 replace R_2 := Enc.tr (topoE) R_2 G
 replace R_9 := Enc.tr (slE failE) R_9 G
 replace C := C.trans G
 have GL0 := G; clear G
 have hi := hR
 refine wp_seq ?_
 refine qs ?_
 refine qm S rfl ?_; clear S a; intro a S
 refine qm S rfl ?_; clear S a; intro a S
 refine qv S (iN r_9.xs.length) (x_len Try.underlying34 (S.e rfl)) ?_; clear S a; intro a S
 refine qv S (bD (((i : Nat) : Int) < ((r_9.xs.length : Nat) : Int))) (x_lss (S.e rfl) (S.e rfl)) ?_; clear S a; intro a S
 refine qt ?_
 refine cond_dec S rfl ?_ ?_
 ·intro hc6
  obtain ⟨hsv, hst⟩ := all_state HT (i := i) (f := r_9.xs.getD i failE.dflt) (by omega) (by rw [← hr5, getD_map (d := failE.dflt) (by omega)])
  refine wp_skip ?_
  refine then_n ?_
  refine wp_seq ?_
  refine wp_block ?_
  refine wp_seq ?_
  replace S := S.sub (L' := [(3, pT T1 0), (4, pT b8 0), (5, sV r_9), (8, iN i), (44, iN i), (45, sV r_9), (46, iN r_9.xs.length), (47, bD (((i : Nat) : Int) < ((r_9.xs.length : Nat) : Int)))]) ⟨rfl, rfl, rfl, rfl, rfl, rfl, rfl, rfl, trivial⟩
  refine wp_heads (M := In []) S 25 [(50, iV (tV r_2)), (51, iV (sV r_9)), (52, iV (iN i)), (53, iV (pT (blk r_9.a) (off r_9.a + i * 2))), (54, iV (fV (r_9.xs.getD i failE.dflt))), (55, iV (bD (failV r_2 (r_9.xs.getD i failE.dflt)))), (56, iV (bD (¬ (failV r_2 (r_9.xs.getD i failE.dflt))))), (57, iV (bD (¬ (failV r_2 (r_9.xs.getD i failE.dflt))))), (58, iV ((if (¬ (¬ (failV r_2 (r_9.xs.getD i failE.dflt)))) then sV r_9 else undef))), (59, iV ((if (¬ (¬ (failV r_2 (r_9.xs.getD i failE.dflt)))) then iN i else undef))), (60, iV ((if (¬ (¬ (failV r_2 (r_9.xs.getD i failE.dflt)))) then pT (blk r_9.a) (off r_9.a + i * 2) else undef))), (61, iV ((if (¬ (¬ (failV r_2 (r_9.xs.getD i failE.dflt)))) then pT (blk r_9.a) (off r_9.a + i * 2 + 0) else undef))), (62, iV ((if (¬ (¬ (failV r_2 (r_9.xs.getD i failE.dflt)))) then sV (r_9.xs.getD i failE.dflt).links else undef))), (63, iV ((if (¬ (¬ (failV r_2 (r_9.xs.getD i failE.dflt)))) then iN (r_9.xs.getD i failE.dflt).links.xs.length else undef))), (64, iV ((if (¬ (¬ (failV r_2 (r_9.xs.getD i failE.dflt)))) then sV r_9 else undef))), (65, iV ((if (¬ (¬ (failV r_2 (r_9.xs.getD i failE.dflt)))) then iN i else undef))), (66, iV ((if (¬ (¬ (failV r_2 (r_9.xs.getD i failE.dflt)))) then pT (blk r_9.a) (off r_9.a + i * 2) else undef))), (67, iV ((if (¬ (¬ (failV r_2 (r_9.xs.getD i failE.dflt)))) then pT (blk r_9.a) (off r_9.a + i * 2 + 1) else undef))), (68, iV ((if (¬ (¬ (failV r_2 (r_9.xs.getD i failE.dflt)))) then sV (r_9.xs.getD i failE.dflt).devs else undef))), (69, iV ((if (¬ (¬ (failV r_2 (r_9.xs.getD i failE.dflt)))) then iN (r_9.xs.getD i failE.dflt).devs.xs.length else undef))), (70, iV ((if (¬ (¬ (failV r_2 (r_9.xs.getD i failE.dflt)))) then iN ((r_9.xs.getD i failE.dflt).links.xs.length + (r_9.xs.getD i failE.dflt).devs.xs.length) else undef))), (71, iV ((if (¬ (¬ (failV r_2 (r_9.xs.getD i failE.dflt)))) then pT b8 (0 + 4) else undef))), (72, iV ((if (¬ (¬ (failV r_2 (r_9.xs.getD i failE.dflt)))) then iI r_2.tol else undef))), (73, iV ((if (¬ (¬ (failV r_2 (r_9.xs.getD i failE.dflt)))) then bD (r_2.tol < (((r_9.xs.getD i failE.dflt).links.xs.length + (r_9.xs.getD i failE.dflt).devs.xs.length : Nat) : Int)) else undef))), (74, iV (bD ((¬ (failV r_2 (r_9.xs.getD i failE.dflt))) ∨ (r_2.tol < (((r_9.xs.getD i failE.dflt).links.xs.length + (r_9.xs.getD i failE.dflt).devs.xs.length : Nat) : Int)))))] (fun w => True) [[], [], [], [51, 52], [53], [50, 54], [55], [56], [57], [57], [57, 58, 59], [57, 60], [57, 61], [57, 62], [57], [57], [57, 64, 65], [57, 66], [57, 67], [57, 68], [57, 63, 69], [57], [57, 71], [57, 70, 72], [57, 73]] [74] _ rfl mixed (by kernel_rfl) rfl trivial ?_ ?_
  ·refine ⟨?_, ?_, ?_, ?_, ?_, ?_, ?_, ?_, ?_, ?_, ?_, ?_, ?_, ?_, ?_, ?_, ?_, ?_, ?_, ?_, ?_, ?_, ?_, ?_, ?_, trivial⟩
   ·intro a w7 G I S hE
    have TT := Tr.of_ch C.ms G (fun _ h => by simp at h)
    replace R_2 := Enc.tr (topoE) R_2 TT
    replace K8 := Blk.tr0 K8 G
    replace C := C.trans TT
    exact qo (tV r_2) (x_loadw (tL r_2) ⟨_, Try.underlying28, rfl, by kernel_rfl⟩ (S.e rfl) (K8.mid [] (tL r_2) [] rfl _ rfl)) I
   ·intro a w8 G I S hE
    have TT := Tr.of_ch C.ms G (fun _ h => by simp at h)
    replace R_9 := Enc.tr (slE failE) R_9 TT
    replace C := C.trans TT
    exact qo (sV r_9) (x_move (S.e rfl)) I
   ·intro a w9 G I S hE
    have TT := Tr.of_ch C.ms G (fun _ h => by simp at h)
    replace C := C.trans TT
    exact qo (iN i) (x_move (S.e rfl)) I
   ·intro a w10 G I S hE
    have TT := Tr.of_ch C.ms G (fun _ h => by simp at h)
    replace R_9 := Enc.tr (slE failE) R_9 TT
    replace C := C.trans TT
    obtain ⟨e51, e52, _⟩ := hE
    replace S := S.ext e51
    replace S := S.ext e52
    exact qo (pT (blk r_9.a) (off r_9.a + i * 2)) (x_idx Try.underlying34 (by kernel_rfl) (S.e rfl) (S.e rfl) i rfl (by omega) ((R_9).1.adr (i := i) (by omega))) I
   ·intro a w11 G I S hE
    have TT := Tr.of_ch C.ms G (fun _ h => by simp at h)
    replace R_9 := Enc.tr (slE failE) R_9 TT
    replace C := C.trans TT
    obtain ⟨e53, _⟩ := hE
    replace S := S.ext e53
    have hn11 : ((r_9.xs.getD i failE.dflt).links.xs).length ≤ 9223372036854775807 := (((R_9).1.wf i (by omega)).1).1.len
    have hn12 : ((r_9.xs.getD i failE.dflt).devs.xs).length ≤ 9223372036854775807 := (((R_9).1.wf i (by omega)).2).1.len
    exact qo (fV (r_9.xs.getD i failE.dflt)) (x_loadw (fL (r_9.xs.getD i failE.dflt)) ⟨_, Try.underlying41, rfl, by kernel_rfl⟩ (S.e rfl) ((R_9).1.wcell i (by omega) _ rfl _ rfl)) I
   ·intro a w12 G I S hE
    have TT := Tr.of_ch C.ms G (fun _ h => by simp at h)
    replace R_2 := Enc.tr (topoE) R_2 TT
    replace R_9 := Enc.tr (slE failE) R_9 TT
    replace C := C.trans TT
    obtain ⟨e50, e54, _⟩ := hE
    replace S := S.ext e50
    replace S := S.ext e54
    refine head_op rfl rfl (op_call (vs := #[tV r_2, fV (r_9.xs.getD i failE.dflt)]) (by simp only [List.map_toArray, List.map_cons, List.map_nil, show a.eval (.tmp 50) = tV r_2 from (S.e rfl), show a.eval (.tmp 54) = fV (r_9.xs.getD i failE.dflt) from (S.e rfl)]) callable_22 (fValid _ (Ex F _) (C.old hF)  (MS.nil _) r_2 ((topoE).down0 R_2) (r_9.xs.getD i failE.dflt) ((failE).down0 ((R_9).1.wf i (by omega)))) ?_)
    rintro e w2 ⟨rfl, T0⟩; exact ⟨_, rfl, Done.mk' rfl (by decide) (show _ = _ from rfl) T0.ch trivial⟩
   ·intro a w13 G I S hE
    have TT := Tr.of_ch C.ms G (fun _ h => by simp at h)
    replace C := C.trans TT
    obtain ⟨e55, _⟩ := hE
    replace S := S.ext e55
    exact qo (bD (¬ (failV r_2 (r_9.xs.getD i failE.dflt)))) (x_notp (S.e rfl)) I
   ·intro a w14 G I S hE
    have TT := Tr.of_ch C.ms G (fun _ h => by simp at h)
    replace C := C.trans TT
    obtain ⟨e56, _⟩ := hE
    replace S := S.ext e56
    exact qo (bD (¬ (failV r_2 (r_9.xs.getD i failE.dflt)))) (x_move (S.e rfl)) I
   ·intro a w15 G I S hE
    have TT := Tr.of_ch C.ms G (fun _ h => by simp at h)
    replace R_9 := Enc.tr (slE failE) R_9 TT
    replace C := C.trans TT
    obtain ⟨e57, _⟩ := hE
    replace S := S.ext e57
    refine (Classical.em (¬ (¬ (failV r_2 (r_9.xs.getD i failE.dflt))))).symm.elim (fun hg => ?_) fun hg => ?_
    ·exact qn S 57 rfl (fun h => hg (gf.2 h)) I
    exact qy S 57 rfl (gf.1 hg) (sV r_9) (x_move (S.e rfl)) I
   ·intro a w16 G I S hE
    have TT := Tr.of_ch C.ms G (fun _ h => by simp at h)
    replace C := C.trans TT
    obtain ⟨e57, _⟩ := hE
    replace S := S.ext e57
    refine (Classical.em (¬ (¬ (failV r_2 (r_9.xs.getD i failE.dflt))))).symm.elim (fun hg => ?_) fun hg => ?_
    ·exact qn S 57 rfl (fun h => hg (gf.2 h)) I
    exact qy S 57 rfl (gf.1 hg) (iN i) (x_move (S.e rfl)) I
   ·intro a w17 G I S hE
    have TT := Tr.of_ch C.ms G (fun _ h => by simp at h)
    replace R_9 := Enc.tr (slE failE) R_9 TT
    replace C := C.trans TT
    obtain ⟨e57, e58, e59, _⟩ := hE
    replace S := S.ext e57
    replace S := S.ext e58
    replace S := S.ext e59
    refine (Classical.em (¬ (¬ (failV r_2 (r_9.xs.getD i failE.dflt))))).symm.elim (fun hg => ?_) fun hg => ?_
    ·exact qn S 57 rfl (fun h => hg (gf.2 h)) I
    exact qy S 57 rfl (gf.1 hg) (pT (blk r_9.a) (off r_9.a + i * 2)) (x_idx Try.underlying34 (by kernel_rfl) (S.p rfl hg) (S.p rfl hg) i rfl (by omega) ((R_9).1.adr (i := i) (by omega))) I
   ·intro a w18 G I S hE
    have TT := Tr.of_ch C.ms G (fun _ h => by simp at h)
    replace R_9 := Enc.tr (slE failE) R_9 TT
    replace C := C.trans TT
    obtain ⟨e57, e60, _⟩ := hE
    replace S := S.ext e57
    replace S := S.ext e60
    refine (Classical.em (¬ (¬ (failV r_2 (r_9.xs.getD i failE.dflt))))).symm.elim (fun hg => ?_) fun hg => ?_
    ·exact qn S 57 rfl (fun h => hg (gf.2 h)) I
    exact qy S 57 rfl (gf.1 hg) (pT (blk r_9.a) (off r_9.a + i * 2 + 0)) (x_fld (z := 0) (off r_9.a + i * 2) 0 Try.underlying41 rfl rfl (by kernel_rfl) (S.p rfl hg)) I
   ·intro a w19 G I S hE
    have TT := Tr.of_ch C.ms G (fun _ h => by simp at h)
    replace R_9 := Enc.tr (slE failE) R_9 TT
    replace C := C.trans TT
    obtain ⟨e57, e61, _⟩ := hE
    replace S := S.ext e57
    replace S := S.ext e61
    refine (Classical.em (¬ (¬ (failV r_2 (r_9.xs.getD i failE.dflt))))).symm.elim (fun hg => ?_) fun hg => ?_
    ·exact qn S 57 rfl (fun h => hg (gf.2 h)) I
    exact qy S 57 rfl (gf.1 hg) (sV (r_9.xs.getD i failE.dflt).links) (x_load ⟨_, Try.underlying22, rfl⟩ (S.p rfl hg) ((R_9).1.cell i (by omega) 0 _ rfl)) I
   ·intro a w20 G I S hE
    have TT := Tr.of_ch C.ms G (fun _ h => by simp at h)
    replace R_9 := Enc.tr (slE failE) R_9 TT
    replace C := C.trans TT
    obtain ⟨e57, e62, _⟩ := hE
    replace S := S.ext e57
    replace S := S.ext e62
    refine (Classical.em (¬ (¬ (failV r_2 (r_9.xs.getD i failE.dflt))))).symm.elim (fun hg => ?_) fun hg => ?_
    ·exact qn S 57 rfl (fun h => hg (gf.2 h)) I
    exact qy S 57 rfl (gf.1 hg) (iN (r_9.xs.getD i failE.dflt).links.xs.length) (x_len Try.underlying22 (S.p rfl hg)) I
   ·intro a w21 G I S hE
    have TT := Tr.of_ch C.ms G (fun _ h => by simp at h)
    replace R_9 := Enc.tr (slE failE) R_9 TT
    replace C := C.trans TT
    obtain ⟨e57, _⟩ := hE
    replace S := S.ext e57
    refine (Classical.em (¬ (¬ (failV r_2 (r_9.xs.getD i failE.dflt))))).symm.elim (fun hg => ?_) fun hg => ?_
    ·exact qn S 57 rfl (fun h => hg (gf.2 h)) I
    exact qy S 57 rfl (gf.1 hg) (sV r_9) (x_move (S.e rfl)) I
   ·intro a w22 G I S hE
    have TT := Tr.of_ch C.ms G (fun _ h => by simp at h)
    replace C := C.trans TT
    obtain ⟨e57, _⟩ := hE
    replace S := S.ext e57
    refine (Classical.em (¬ (¬ (failV r_2 (r_9.xs.getD i failE.dflt))))).symm.elim (fun hg => ?_) fun hg => ?_
    ·exact qn S 57 rfl (fun h => hg (gf.2 h)) I
    exact qy S 57 rfl (gf.1 hg) (iN i) (x_move (S.e rfl)) I
   ·intro a w23 G I S hE
    have TT := Tr.of_ch C.ms G (fun _ h => by simp at h)
    replace R_9 := Enc.tr (slE failE) R_9 TT
    replace C := C.trans TT
    obtain ⟨e57, e64, e65, _⟩ := hE
    replace S := S.ext e57
    replace S := S.ext e64
    replace S := S.ext e65
    refine (Classical.em (¬ (¬ (failV r_2 (r_9.xs.getD i failE.dflt))))).symm.elim (fun hg => ?_) fun hg => ?_
    ·exact qn S 57 rfl (fun h => hg (gf.2 h)) I
    exact qy S 57 rfl (gf.1 hg) (pT (blk r_9.a) (off r_9.a + i * 2)) (x_idx Try.underlying34 (by kernel_rfl) (S.p rfl hg) (S.p rfl hg) i rfl (by omega) ((R_9).1.adr (i := i) (by omega))) I
   ·intro a w24 G I S hE
    have TT := Tr.of_ch C.ms G (fun _ h => by simp at h)
    replace R_9 := Enc.tr (slE failE) R_9 TT
    replace C := C.trans TT
    obtain ⟨e57, e66, _⟩ := hE
    replace S := S.ext e57
    replace S := S.ext e66
    refine (Classical.em (¬ (¬ (failV r_2 (r_9.xs.getD i failE.dflt))))).symm.elim (fun hg => ?_) fun hg => ?_
    ·exact qn S 57 rfl (fun h => hg (gf.2 h)) I
    exact qy S 57 rfl (gf.1 hg) (pT (blk r_9.a) (off r_9.a + i * 2 + 1)) (x_fld (z := 0) (off r_9.a + i * 2) 1 Try.underlying41 rfl rfl (by kernel_rfl) (S.p rfl hg)) I
   ·intro a w25 G I S hE
    have TT := Tr.of_ch C.ms G (fun _ h => by simp at h)
    replace R_9 := Enc.tr (slE failE) R_9 TT
    replace C := C.trans TT
    obtain ⟨e57, e67, _⟩ := hE
    replace S := S.ext e57
    replace S := S.ext e67
    refine (Classical.em (¬ (¬ (failV r_2 (r_9.xs.getD i failE.dflt))))).symm.elim (fun hg => ?_) fun hg => ?_
    ·exact qn S 57 rfl (fun h => hg (gf.2 h)) I
    exact qy S 57 rfl (gf.1 hg) (sV (r_9.xs.getD i failE.dflt).devs) (x_load ⟨_, Try.underlying22, rfl⟩ (S.p rfl hg) ((R_9).1.cell i (by omega) 1 _ rfl)) I
   ·intro a w26 G I S hE
    have TT := Tr.of_ch C.ms G (fun _ h => by simp at h)
    replace R_9 := Enc.tr (slE failE) R_9 TT
    replace C := C.trans TT
    obtain ⟨e57, e68, _⟩ := hE
    replace S := S.ext e57
    replace S := S.ext e68
    refine (Classical.em (¬ (¬ (failV r_2 (r_9.xs.getD i failE.dflt))))).symm.elim (fun hg => ?_) fun hg => ?_
    ·exact qn S 57 rfl (fun h => hg (gf.2 h)) I
    exact qy S 57 rfl (gf.1 hg) (iN (r_9.xs.getD i failE.dflt).devs.xs.length) (x_len Try.underlying22 (S.p rfl hg)) I
   ·intro a w27 G I S hE
    have TT := Tr.of_ch C.ms G (fun _ h => by simp at h)
    replace C := C.trans TT
    obtain ⟨e57, e63, e69, _⟩ := hE
    replace S := S.ext e57
    replace S := S.ext e63
    replace S := S.ext e69
    refine (Classical.em (¬ (¬ (failV r_2 (r_9.xs.getD i failE.dflt))))).symm.elim (fun hg => ?_) fun hg => ?_
    ·exact qn S 57 rfl (fun h => hg (gf.2 h)) I
    exact qy S 57 rfl (gf.1 hg) (iN ((r_9.xs.getD i failE.dflt).links.xs.length + (r_9.xs.getD i failE.dflt).devs.xs.length)) (x_add (S.p rfl hg) (S.p rfl hg) (r := (((r_9.xs.getD i failE.dflt).links.xs.length + (r_9.xs.getD i failE.dflt).devs.xs.length : Nat) : Int)) (w_i64 (by omega))) I
   ·intro a w28 G I S hE
    have TT := Tr.of_ch C.ms G (fun _ h => by simp at h)
    replace R_2 := Enc.tr (topoE) R_2 TT
    replace K8 := Blk.tr0 K8 G
    replace C := C.trans TT
    obtain ⟨e57, _⟩ := hE
    replace S := S.ext e57
    refine (Classical.em (¬ (¬ (failV r_2 (r_9.xs.getD i failE.dflt))))).symm.elim (fun hg => ?_) fun hg => ?_
    ·exact qn S 57 rfl (fun h => hg (gf.2 h)) I
    exact qy S 57 rfl (gf.1 hg) (pT b8 (0 + 4)) (x_fld (z := 0) (0) 4 Try.underlying28 rfl rfl (by kernel_rfl) (S.e rfl)) I
   ·intro a w29 G I S hE
    have TT := Tr.of_ch C.ms G (fun _ h => by simp at h)
    replace R_2 := Enc.tr (topoE) R_2 TT
    replace K8 := Blk.tr0 K8 G
    replace C := C.trans TT
    obtain ⟨e57, e71, _⟩ := hE
    replace S := S.ext e57
    replace S := S.ext e71
    refine (Classical.em (¬ (¬ (failV r_2 (r_9.xs.getD i failE.dflt))))).symm.elim (fun hg => ?_) fun hg => ?_
    ·exact qn S 57 rfl (fun h => hg (gf.2 h)) I
    exact qy S 57 rfl (gf.1 hg) (iI r_2.tol) (x_load ⟨_, Try.underlying3, rfl⟩ (S.p rfl hg) (K8.cell (j := 4) rfl)) I
   ·intro a w30 G I S hE
    have TT := Tr.of_ch C.ms G (fun _ h => by simp at h)
    replace R_2 := Enc.tr (topoE) R_2 TT
    replace C := C.trans TT
    obtain ⟨e57, e70, e72, _⟩ := hE
    replace S := S.ext e57
    replace S := S.ext e70
    replace S := S.ext e72
    refine (Classical.em (¬ (¬ (failV r_2 (r_9.xs.getD i failE.dflt))))).symm.elim (fun hg => ?_) fun hg => ?_
    ·exact qn S 57 rfl (fun h => hg (gf.2 h)) I
    exact qy S 57 rfl (gf.1 hg) (bD (r_2.tol < (((r_9.xs.getD i failE.dflt).links.xs.length + (r_9.xs.getD i failE.dflt).devs.xs.length : Nat) : Int))) (x_gtr (S.p rfl hg) (S.p rfl hg)) I
   intro a w31 G I S hE
   have TT := Tr.of_ch C.ms G (fun _ h => by simp at h)
   replace C := C.trans TT
   obtain ⟨e57, e73, _⟩ := hE
   replace S := S.ext e57
   replace S := S.ext e73
   exact qo (bD ((¬ (failV r_2 (r_9.xs.getD i failE.dflt))) ∨ (r_2.tol < (((r_9.xs.getD i failE.dflt).links.xs.length + (r_9.xs.getD i failE.dflt).devs.xs.length : Nat) : Int)))) (x_or (S.e rfl) (S.e rfl) (S.p rfl)) I
  clear S a; intro a w32 G I S hE; have TT := Tr.of_ch C.ms G (fun _ h => by simp at h)
  replace l_w := Enc.tr (slE intE) l_w TT
  replace R_2 := Enc.tr (topoE) R_2 TT
  replace R_9 := Enc.tr (slE failE) R_9 TT
  replace TK1 := TpB.tr0 TK1 G
  replace K8 := Blk.tr0 K8 G
  replace GL0 := GL0.trans TT
  replace C := C.trans TT
  clear TT G
  obtain ⟨e74, -⟩ := hE
  replace S := S.ext e74
  clear e74
  refine qt ?_
  refine cond_dec S rfl ?_ ?_
  ·intro hc7
   refine qs ?_
   refine qa S rfl ?_; clear S a; intro a S
   refine qt ?_
   refine wp_ret ?_
   refine blk_r ?_
   refine then_r ?_
   refine then_r ?_
   refine blk_r ?_
   refine then_r ?_
   refine ret1 rfl S rfl ?_
   have TD : Tr [one b8, one T1] w32 [] w32 := Tr.drop C.ms [] (by decide)
   have GD : Ch (In []) w32 w32 := Ch.refl _
   clear TK1
   clear K8
   replace l_w := Enc.tr (slE intE) l_w TD
   replace R_2 := Enc.tr (topoE) R_2 TD
   replace R_9 := Enc.tr (slE failE) R_9 TD
   replace GL0 := GL0.trans TD
   replace C := C.trans TD
   clear TD GD
   refine ⟨(r1 (vf ?_)), C⟩
   intro _
   rcases hc7 with h | h
   ·exact h hsv
   omega
  intro hc8
  refine wp_skip ?_
  refine blk_n ?_
  refine then_n ?_
  refine wp_region_lit ?_
  refine qm S rfl ?_; clear S a; intro a S
  refine qv S (iN (i + 1)) (x_add (S.e rfl) (S.e rfl) (r := ((i + 1 : Nat) : Int)) (w_i64 (by omega))) ?_; clear S a; intro a S
  refine qa S rfl ?_; clear S a; intro a S
  refine qt ?_
  refine ⟨r_9.xs.length - (i + 1), ?_, (i + 1), S.sub ⟨rfl, rfl, rfl, rfl, trivial⟩, GL0, ?_, TK1, K8, rfl⟩
  ·omega
  omega
 intro hc9
 refine wp_exit ?_
 refine then_e ?_
 refine then_e ?_
 refine blk_e ?_
 refine then_n ?_
 refine qs ?_
 refine qm S rfl ?_; clear S a; intro a S
 refine qm S rfl ?_; clear S a; intro a S
 refine qv S (iN r_9.xs.length) (x_len Try.underlying34 (S.e rfl)) ?_; clear S a; intro a S
 refine seq_call S (by decide) (vs := #[pT T1 0, iN r_9.xs.length]) rfl callable_23 (gNext _ (Ex F _) (C.old hF) T1 (C.ms.picks [1] (by decide)) l ((slE intE).dn l_w) TK1 ((r_9.xs.length : Nat) : Int) ⟨by omega, by omega⟩) ?_
 rintro e w33 ⟨r_13, rfl, hr_13, tTK1, T0⟩; refine ⟨_, rfl, ?_⟩; clear S a; intro a S
 have TT := Tr.fra C.ms T0; have G := T0.ch
 replace l_w := Enc.tr (slE intE) l_w TT
 replace R_2 := Enc.tr (topoE) R_2 TT
 replace R_9 := Enc.tr (slE failE) R_9 TT
 replace K8 := Blk.tr K8 G (C.ms.sep.out 0 [1] rfl rfl rfl)
 replace GL0 := GL0.trans TT
 replace C := C.trans TT
 clear TK1; have TK1 := tTK1; clear tTK1
 clear T0 G TT
 refine qm S rfl ?_; clear S a; intro a S
 refine qm S rfl ?_; clear S a; intro a S
 refine qv S (iN r_9.xs.length) (x_len Try.underlying34 (S.e rfl)) ?_; clear S a; intro a S
 refine seq_call S (by decide) (vs := #[pT T1 0, iN r_9.xs.length]) rfl callable_23 (gNext _ (Ex F _) (C.old hF) T1 (C.ms.picks [1] (by decide)) l ((slE intE).dn l_w) TK1 ((r_9.xs.length : Nat) : Int) ⟨by omega, by omega⟩) ?_
 rintro e w34 ⟨r_14, rfl, hr_14, tTK1, T0⟩; refine ⟨_, rfl, ?_⟩; clear S a; intro a S
 have TT := Tr.fra C.ms T0; have G := T0.ch
 replace l_w := Enc.tr (slE intE) l_w TT
 replace R_2 := Enc.tr (topoE) R_2 TT
 replace R_9 := Enc.tr (slE failE) R_9 TT
 replace K8 := Blk.tr K8 G (C.ms.sep.out 0 [1] rfl rfl rfl)
 replace GL0 := GL0.trans TT
 replace C := C.trans TT
 clear TK1; have TK1 := tTK1; clear tTK1
 clear T0 G TT
 refine qa S rfl ?_; clear S a; intro a S
 refine qa S rfl ?_; clear S a; intro a S
 refine qt ?_
 refine wp_seq ?_
 replace S := S.sub (L' := [(3, pT T1 0), (4, pT b8 0), (5, sV r_9), (8, iN i), (44, iN i), (45, sV r_9), (46, iN r_9.xs.length), (47, bD (((i : Nat) : Int) < ((r_9.xs.length : Nat) : Int))), (75, pT T1 0), (76, sV r_9), (77, iN r_9.xs.length), (78, iI r_13), (79, pT T1 0), (80, sV r_9), (81, iN r_9.xs.length), (82, iI r_14), (9, iI r_13), (10, iI r_14)]) ⟨rfl, rfl, rfl, rfl, rfl, rfl, rfl, rfl, rfl, rfl, rfl, rfl, rfl, rfl, rfl, rfl, rfl, rfl, trivial⟩
 refine wp_heads (M := In []) S 17 [(83, iV (iI r_13)), (84, iV (iI r_14)), (85, iV (bD (r_13 = r_14))), (86, iV (sV r_9)), (87, iV (iI r_13)), (88, iV (pT (blk r_9.a) (off r_9.a + (r_13).toNat * 2))), (89, iV (.agg #[sV (r_9.xs.getD ((r_13).toNat) failE.dflt).links, sV (r_9.xs.getD ((r_13).toNat) failE.dflt).devs])), (90, iV (sV r_9)), (91, iV (iI r_14)), (92, iV (pT (blk r_9.a) (off r_9.a + (r_14).toNat * 2))), (93, iV (.agg #[sV (r_9.xs.getD ((r_14).toNat) failE.dflt).links, sV (r_9.xs.getD ((r_14).toNat) failE.dflt).devs])), (94, iV (bD (keyF (r_9.xs.getD ((r_13).toNat) failE.dflt) = keyF (r_9.xs.getD ((r_14).toNat) failE.dflt)))), (95, iV (bD (((r_13 = r_14) ↔ (keyF (r_9.xs.getD ((r_13).toNat) failE.dflt) = keyF (r_9.xs.getD ((r_14).toNat) failE.dflt)))))), (96, iV (bD (((r_13 = r_14) ↔ (keyF (r_9.xs.getD ((r_13).toNat) failE.dflt) = keyF (r_9.xs.getD ((r_14).toNat) failE.dflt)))))), (97, iV ((if (((r_13 = r_14) ↔ (keyF (r_9.xs.getD ((r_13).toNat) failE.dflt) = keyF (r_9.xs.getD ((r_14).toNat) failE.dflt)))) then bD (True) else undef))), (98, iV (bD ((((r_13 = r_14) ↔ (keyF (r_9.xs.getD ((r_13).toNat) failE.dflt) = keyF (r_9.xs.getD ((r_14).toNat) failE.dflt)))) ∧ (True)))), (2, iV (bD ((((r_13 = r_14) ↔ (keyF (r_9.xs.getD ((r_13).toNat) failE.dflt) = keyF (r_9.xs.getD ((r_14).toNat) failE.dflt)))) ∧ (True))))] (fun w => True) [[], [], [83, 84], [], [], [86, 87], [88], [], [], [90, 91], [92], [89, 93], [85, 94], [95], [96], [96, 97], [98]] [2] _ rfl mixed (by kernel_rfl) rfl trivial ?_ ?_
 ·refine ⟨?_, ?_, ?_, ?_, ?_, ?_, ?_, ?_, ?_, ?_, ?_, ?_, ?_, ?_, ?_, ?_, ?_, trivial⟩
  ·intro a w35 G I S hE
   have TT := Tr.of_ch C.ms G (fun _ h => by simp at h)
   replace C := C.trans TT
   exact qo (iI r_13) (x_move (S.e rfl)) I
  ·intro a w36 G I S hE
   have TT := Tr.of_ch C.ms G (fun _ h => by simp at h)
   replace C := C.trans TT
   exact qo (iI r_14) (x_move (S.e rfl)) I
  ·intro a w37 G I S hE
   have TT := Tr.of_ch C.ms G (fun _ h => by simp at h)
   replace C := C.trans TT
   obtain ⟨e83, e84, _⟩ := hE
   replace S := S.ext e83
   replace S := S.ext e84
   exact qo (bD (r_13 = r_14)) (x_eql (S.e rfl) (S.e rfl)) I
  ·intro a w38 G I S hE
   have TT := Tr.of_ch C.ms G (fun _ h => by simp at h)
   replace R_9 := Enc.tr (slE failE) R_9 TT
   replace C := C.trans TT
   exact qo (sV r_9) (x_move (S.e rfl)) I
  ·intro a w39 G I S hE
   have TT := Tr.of_ch C.ms G (fun _ h => by simp at h)
   replace C := C.trans TT
   exact qo (iI r_13) (x_move (S.e rfl)) I
  ·intro a w40 G I S hE
   have TT := Tr.of_ch C.ms G (fun _ h => by simp at h)
   replace R_9 := Enc.tr (slE failE) R_9 TT
   replace C := C.trans TT
   obtain ⟨e86, e87, _⟩ := hE
   replace S := S.ext e86
   replace S := S.ext e87
   exact qo (pT (blk r_9.a) (off r_9.a + (r_13).toNat * 2)) (x_idx Try.underlying34 (by kernel_rfl) (S.e rfl) (S.e rfl) (r_13).toNat (by omega) (by omega) ((R_9).1.adr (i := (r_13).toNat) (by omega))) I
  ·intro a w41 G I S hE
   have TT := Tr.of_ch C.ms G (fun _ h => by simp at h)
   replace R_9 := Enc.tr (slE failE) R_9 TT
   replace C := C.trans TT
   obtain ⟨e88, _⟩ := hE
   replace S := S.ext e88
   have hn15 : ((r_9.xs.getD ((r_13).toNat) failE.dflt).links.xs).length ≤ 9223372036854775807 := (((R_9).1.wf (r_13).toNat (by omega)).1).1.len
   have hn16 : ((r_9.xs.getD ((r_13).toNat) failE.dflt).devs.xs).length ≤ 9223372036854775807 := (((R_9).1.wf (r_13).toNat (by omega)).2).1.len
   exact qo (.agg #[sV (r_9.xs.getD ((r_13).toNat) failE.dflt).links, sV (r_9.xs.getD ((r_13).toNat) failE.dflt).devs]) (x_loadw [sV (r_9.xs.getD ((r_13).toNat) failE.dflt).links, sV (r_9.xs.getD ((r_13).toNat) failE.dflt).devs] ⟨_, Try.underlying41, rfl, by kernel_rfl⟩ (S.e rfl) ((R_9).1.wcell (r_13).toNat (by omega) _ rfl _ rfl)) I
  ·intro a w42 G I S hE
   have TT := Tr.of_ch C.ms G (fun _ h => by simp at h)
   replace R_9 := Enc.tr (slE failE) R_9 TT
   replace C := C.trans TT
   exact qo (sV r_9) (x_move (S.e rfl)) I
  ·intro a w43 G I S hE
   have TT := Tr.of_ch C.ms G (fun _ h => by simp at h)
   replace C := C.trans TT
   exact qo (iI r_14) (x_move (S.e rfl)) I
  ·intro a w44 G I S hE
   have TT := Tr.of_ch C.ms G (fun _ h => by simp at h)
   replace R_9 := Enc.tr (slE failE) R_9 TT
   replace C := C.trans TT
   obtain ⟨e90, e91, _⟩ := hE
   replace S := S.ext e90
   replace S := S.ext e91
   exact qo (pT (blk r_9.a) (off r_9.a + (r_14).toNat * 2)) (x_idx Try.underlying34 (by kernel_rfl) (S.e rfl) (S.e rfl) (r_14).toNat (by omega) (by omega) ((R_9).1.adr (i := (r_14).toNat) (by omega))) I
  ·intro a w45 G I S hE
   have TT := Tr.of_ch C.ms G (fun _ h => by simp at h)
   replace R_9 := Enc.tr (slE failE) R_9 TT
   replace C := C.trans TT
   obtain ⟨e92, _⟩ := hE
   replace S := S.ext e92
   have hn17 : ((r_9.xs.getD ((r_14).toNat) failE.dflt).links.xs).length ≤ 9223372036854775807 := (((R_9).1.wf (r_14).toNat (by omega)).1).1.len
   have hn18 : ((r_9.xs.getD ((r_14).toNat) failE.dflt).devs.xs).length ≤ 9223372036854775807 := (((R_9).1.wf (r_14).toNat (by omega)).2).1.len
   exact qo (.agg #[sV (r_9.xs.getD ((r_14).toNat) failE.dflt).links, sV (r_9.xs.getD ((r_14).toNat) failE.dflt).devs]) (x_loadw [sV (r_9.xs.getD ((r_14).toNat) failE.dflt).links, sV (r_9.xs.getD ((r_14).toNat) failE.dflt).devs] ⟨_, Try.underlying41, rfl, by kernel_rfl⟩ (S.e rfl) ((R_9).1.wcell (r_14).toNat (by omega) _ rfl _ rfl)) I
  ·intro a w46 G I S hE
   have TT := Tr.of_ch C.ms G (fun _ h => by simp at h)
   replace R_9 := Enc.tr (slE failE) R_9 TT
   replace C := C.trans TT
   obtain ⟨e89, e93, _⟩ := hE
   replace S := S.ext e89
   replace S := S.ext e93
   refine head_op rfl rfl (op_call (vs := #[.agg #[sV (r_9.xs.getD ((r_13).toNat) failE.dflt).links, sV (r_9.xs.getD ((r_13).toNat) failE.dflt).devs], .agg #[sV (r_9.xs.getD ((r_14).toNat) failE.dflt).links, sV (r_9.xs.getD ((r_14).toNat) failE.dflt).devs]]) (by simp only [List.map_toArray, List.map_cons, List.map_nil, show a.eval (.tmp 89) = .agg #[sV (r_9.xs.getD ((r_13).toNat) failE.dflt).links, sV (r_9.xs.getD ((r_13).toNat) failE.dflt).devs] from (S.e rfl), show a.eval (.tmp 93) = .agg #[sV (r_9.xs.getD ((r_14).toNat) failE.dflt).links, sV (r_9.xs.getD ((r_14).toNat) failE.dflt).devs] from (S.e rfl)]) callable_24 (rEqual _ (Ex F _) (C.old hF)  (MS.nil _) (r_9.xs.getD ((r_13).toNat) failE.dflt) ((failE).down0 ((R_9).1.wf (r_13).toNat (by omega))) (r_9.xs.getD ((r_14).toNat) failE.dflt) ((failE).down0 ((R_9).1.wf (r_14).toNat (by omega)))) ?_)
   rintro e w2 ⟨rfl, T0⟩; exact ⟨_, rfl, Done.mk' rfl (by decide) (show _ = _ from rfl) T0.ch trivial⟩
  ·intro a w47 G I S hE
   have TT := Tr.of_ch C.ms G (fun _ h => by simp at h)
   replace C := C.trans TT
   obtain ⟨e85, e94, _⟩ := hE
   replace S := S.ext e85
   replace S := S.ext e94
   exact qo (bD (((r_13 = r_14) ↔ (keyF (r_9.xs.getD ((r_13).toNat) failE.dflt) = keyF (r_9.xs.getD ((r_14).toNat) failE.dflt))))) (x_bpeql Try.underlying4 (S.e rfl) (S.e rfl)) I
  ·intro a w48 G I S hE
   have TT := Tr.of_ch C.ms G (fun _ h => by simp at h)
   replace C := C.trans TT
   obtain ⟨e95, _⟩ := hE
   replace S := S.ext e95
   exact qo (bD (((r_13 = r_14) ↔ (keyF (r_9.xs.getD ((r_13).toNat) failE.dflt) = keyF (r_9.xs.getD ((r_14).toNat) failE.dflt))))) (x_move (S.e rfl)) I
  ·intro a w49 G I S hE
   have TT := Tr.of_ch C.ms G (fun _ h => by simp at h)
   replace C := C.trans TT
   obtain ⟨e96, _⟩ := hE
   replace S := S.ext e96
   refine (Classical.em (((r_13 = r_14) ↔ (keyF (r_9.xs.getD ((r_13).toNat) failE.dflt) = keyF (r_9.xs.getD ((r_14).toNat) failE.dflt))))).symm.elim (fun hg => ?_) fun hg => ?_
   ·exact qn S 96 rfl (fun h => hg (gt.2 h)) I
   refine head_yes rfl rfl rfl rfl (by rw [S.size]; decide) (gv := bD (((r_13 = r_14) ↔ (keyF (r_9.xs.getD ((r_13).toNat) failE.dflt) = keyF (r_9.xs.getD ((r_14).toNat) failE.dflt))))) (S.get 96 _ rfl) (gt.1 hg) (op_call (vs := #[]) (by simp only [List.map_toArray, List.map_cons, List.map_nil]) callable_21 (lSane _ (Ex F _) (C.old hF)  (MS.nil _) ) ?_)
   rintro e w2 ⟨rfl, T0⟩; exact ⟨_, rfl, Done.mk' rfl (by decide) (show _ = _ from (if_pos hg).symm) T0.ch trivial⟩
  ·intro a w50 G I S hE
   have TT := Tr.of_ch C.ms G (fun _ h => by simp at h)
   replace C := C.trans TT
   obtain ⟨e96, e97, _⟩ := hE
   replace S := S.ext e96
   replace S := S.ext e97
   exact qo (bD ((((r_13 = r_14) ↔ (keyF (r_9.xs.getD ((r_13).toNat) failE.dflt) = keyF (r_9.xs.getD ((r_14).toNat) failE.dflt)))) ∧ (True))) (x_and (S.e rfl) (S.p rfl) (S.e rfl)) I
  intro a w51 G I S hE
  have TT := Tr.of_ch C.ms G (fun _ h => by simp at h)
  replace C := C.trans TT
  obtain ⟨e98, _⟩ := hE
  replace S := S.ext e98
  exact qo (bD ((((r_13 = r_14) ↔ (keyF (r_9.xs.getD ((r_13).toNat) failE.dflt) = keyF (r_9.xs.getD ((r_14).toNat) failE.dflt)))) ∧ (True))) (x_assign (S.e rfl)) I
 clear S a; intro a w52 G I S hE; have TT := Tr.of_ch C.ms G (fun _ h => by simp at h)
 replace l_w := Enc.tr (slE intE) l_w TT
 replace R_2 := Enc.tr (topoE) R_2 TT
 replace R_9 := Enc.tr (slE failE) R_9 TT
 replace TK1 := TpB.tr0 TK1 G
 replace K8 := Blk.tr0 K8 G
 replace GL0 := GL0.trans TT
 replace C := C.trans TT
 clear TT G
 obtain ⟨e2, -⟩ := hE
 replace S := S.ext e2
 clear e2
 refine qt ?_
 refine wp_ret ?_
 refine ret1 rfl S rfl ?_
 have TD : Tr [one b8, one T1] w52 [] w52 := Tr.drop C.ms [] (by decide)
 have GD : Ch (In []) w52 w52 := Ch.refl _
 clear TK1
 clear K8
 replace l_w := Enc.tr (slE intE) l_w TD
 replace R_2 := Enc.tr (topoE) R_2 TD
 replace R_9 := Enc.tr (slE failE) R_9 TD
 replace GL0 := GL0.trans TD
 replace C := C.trans TD
 clear TD GD
 refine ⟨(r1 (vb ?_)), C⟩
 refine ⟨fun _ => trivial, fun _ => ⟨?_, trivial⟩⟩
 have h1 := all_differ HT (i := (r_13).toNat) (j := (r_14).toNat) (by omega) (by omega)
 rw [← hr5, getD_map (d := failE.dflt) (by omega), getD_map (d := failE.dflt) (by omega)] at h1
 rw [← h1]; constructor <;> intro h <;> omega
end Go.Proofs.Ytfanmniaolncbaa.V
