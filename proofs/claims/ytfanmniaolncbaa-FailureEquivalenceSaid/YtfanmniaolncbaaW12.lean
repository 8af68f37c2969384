/- the tolerated failure states -/
import Derived.Test.YtfanmniaolncbaaW11
namespace Go.Proofs.Ytfanmniaolncbaa.V
open Go.RowKit Go.Proofs.Ytfanmniaolncbaa
set_option linter.unusedVariables false
set_option linter.unusedSimpArgs false
set_option maxHeartbeats 2000000 in
set_option maxRecDepth 20000 in
theorem sClone (w : World) (F : Nat → Prop) (hF : Old F w) (M : MS [] w) (l : Sl Int) (l_w : (slE intE).wf (Fr F []) w.heap l) (hl : l.xs.length ≤ 1024) :
 Calls Try.prog 51 #[sV l] w fun e w' => ∃ (ra : Option Addr) (rc : Nat), e = .returned (.slice ra l.xs.length rc) ∧ Row intE 3 w.heap.size F [abk ra] w' ra rc l.xs ∧ Tr [] w [abk ra] w' := by
 have C : Tr [] w [] w := Tr.refl M
 have : l.xs.length ≤ 9223372036854775807 := (l_w).1.len
 refine enter Try.func51 rfl 8 rfl (Nat.le_of_ble_eq_true rfl) ?_
 intro a S
 refine qs ?_
 refine qa S rfl ?_; clear S a; intro a S
 refine qt ?_
 refine wp_seq ?_
 refine qs ?_
 refine qm S rfl ?_; clear S a; intro a S
 refine qv S (bD (l.a = none)) (x_sleql Try.underlying22 (S.e rfl) (S.e rfl)) ?_; clear S a; intro a S
 refine qt ?_
 refine cond_dec S rfl ?_ ?_
 ·intro hc0
  refine qs ?_
  refine qa S rfl ?_; clear S a; intro a S
  refine qt ?_
  refine wp_ret ?_
  refine then_r ?_
  have W1 := Row.nil intE 3 w.heap.size F [abk none] w
  have TT : Tr [] w [abk none] w := (Tr.refl C.ms).cons (b := abk none) (fun k e => absurd e abk_none); have G : Ch (In []) w w := Ch.refl _
  replace l_w := Enc.tr (slE intE) l_w TT
  replace C := C.trans TT
  clear TT G
  refine ret1 rfl S rfl ?_
  have hx2 : l.xs = [] := by
   have h := l_w.1.ad; rcases Nat.eq_zero_or_pos l.xs.length with e | e
   ·exact List.length_eq_zero_iff.1 e
   have := (h e).1; rw [hc0] at this; cases this
  rw [hx2]
  refine ⟨none, 0, rfl, W1, C⟩
 intro hc1
 refine wp_skip ?_
 refine then_n ?_
 refine qs ?_
 refine seq_new S rfl rfl (by decide) (fun b => .slice (some ⟨b, 0, none⟩) 0 0) (cs := []) (x_bsl0 Try.underlying22 infoz_3) ?_
 clear S a; intro a w1 b3 hb3 hbs3 G K3 S; have hbl3 : b3 < w1.heap.size := (by omega); have hCs := C.size
 have K3_r : Row intE 3 w.heap.size F [abk (some ⟨b3, 0, none⟩)] w1 (some ⟨b3, 0, none⟩) 0 [] := row_of_nil K3 (by omega); clear K3 hCs
 have TT : Tr [] w [abk (some ⟨b3, 0, none⟩)] w1 := Tr.freshRow C.ms hb3 hbl3 G
 replace l_w := Enc.tr (slE intE) l_w TT
 replace C := C.trans TT
 clear TT G
 refine qm S rfl ?_; clear S a; intro a S
 refine seq_op rfl (op_append (E := intE) [] [] (.tmp 5) (.tmp 6) 22 rfl zero_3 8 Try.underlying22 infoz_3 rfl (by decide) rfl C.ms (S.e rfl) K3_r l.xs l.a l.c (S.e rfl) (l_w).1 (l_w).2.2 (LAt.mem (l_w).1) (by unfold maxLen; (try simp only [List.length_cons, List.length_nil, List.length_append, List.length_map]); omega) (by (try simp only [List.length_cons, List.length_nil, List.length_append, List.length_map]); omega) (C.size) ?_)
 intro ad4 cap4 w2 Rn TT G
 have S1 := S.put (d := 7) (v := .slice ad4 ([] ++ l.xs).length cap4) (by decide); clear S; revert S1; generalize Act.put a _ _ = a1; intro S; clear a; rename Act => a
 replace TT : Tr [abk (some ⟨b3, 0, none⟩)] w1 [abk ad4] w2 := TT; replace Rn : Row intE 3 w.heap.size F [abk ad4] w2 ad4 cap4 ([] ++ l.xs) := Rn
 replace l_w := Enc.tr (slE intE) l_w TT
 replace C := C.trans TT
 clear K3_r; have K3_r := Rn; clear Rn TT G
 refine qa S rfl ?_; clear S a; intro a S
 refine qt ?_
 refine wp_ret ?_
 refine ret1 rfl S rfl ?_
 have hx5 : l.xs = ([] ++ l.xs) := by
  simp
 rw [hx5]
 refine ⟨ad4, cap4, rfl, K3_r, C⟩
set_option maxHeartbeats 2000000 in
set_option maxRecDepth 20000 in
theorem rEqual (w : World) (F : Nat → Prop) (hF : Old F w) (M : MS [] w) (x : Fail) (x_w : failE.wf (Fr F []) w.heap x) (y : Fail) (y_w : failE.wf (Fr F []) w.heap y) :
 Calls Try.prog 24 #[fV x, fV y] w fun e w' => e = .returned (bD (keyF x = keyF y)) ∧ Tr [] w [] w' := by
 have C : Tr [] w [] w := Tr.refl M
 have : x.links.xs.length ≤ 9223372036854775807 := (x_w.1).1.len
 have : x.devs.xs.length ≤ 9223372036854775807 := (x_w.2).1.len
 have : y.links.xs.length ≤ 9223372036854775807 := (y_w.1).1.len
 have : y.devs.xs.length ≤ 9223372036854775807 := (y_w.2).1.len
 refine enter Try.func24 rfl 17 rfl (Nat.le_of_ble_eq_true rfl) ?_
 intro a S
 refine qs ?_
 refine seq_new S rfl rfl (by decide) (fun b => pT b 0) (cs := (fL x)) (x_box (fL x) (S.e rfl) rfl) ?_
 clear S a; intro a w1 b1 hb1 hbs1 G K1 S; have hbl1 : b1 < w1.heap.size := by omega
 have TT := Tr.fresh C.ms hb1 hbl1 G
 replace x_w := Enc.tr (failE) x_w TT
 replace y_w := Enc.tr (failE) y_w TT
 replace C := C.trans TT
 clear TT G
 refine seq_new S rfl rfl (by decide) (fun b => pT b 0) (cs := (fL y)) (x_box (fL y) (S.e rfl) rfl) ?_
 clear S a; intro a w2 b2 hb2 hbs2 G K2 S; have hbl2 : b2 < w2.heap.size := by omega
 have TT := Tr.fresh C.ms hb2 hbl2 G
 replace x_w := Enc.tr (failE) x_w TT
 replace y_w := Enc.tr (failE) y_w TT
 replace K1 := Blk.tr0 K1 G
 replace C := C.trans TT
 clear TT G
 refine qa S rfl ?_; clear S a; intro a S
 refine qt ?_
 refine qs ?_
 refine qv S (pT b1 (0 + 0)) (x_fld (z := 0) (0) 0 Try.underlying41 rfl rfl (by kernel_rfl) (S.e rfl)) ?_; clear S a; intro a S
 refine qv S (sV x.links) (x_load ⟨_, Try.underlying22, rfl⟩ (S.e rfl) (K1.cell (j := 0) rfl)) ?_; clear S a; intro a S
 refine qv S (pT b2 (0 + 0)) (x_fld (z := 0) (0) 0 Try.underlying41 rfl rfl (by kernel_rfl) (S.e rfl)) ?_; clear S a; intro a S
 refine qv S (sV y.links) (x_load ⟨_, Try.underlying22, rfl⟩ (S.e rfl) (K2.cell (j := 0) rfl)) ?_; clear S a; intro a S
 refine seq_call S (by decide) (vs := #[sV x.links, sV y.links]) rfl callable_45 (sameIdx _ (Ex F _) (C.old hF)  (MS.nil _) x.links ((slE intE).down0 x_w.1) y.links ((slE intE).down0 y_w.1)) ?_
 rintro e w3 ⟨rfl, T0⟩; refine ⟨_, rfl, ?_⟩; clear S a; intro a S
 have TT := Tr.framed0 C.ms T0; have G := T0.ch
 replace x_w := Enc.tr (failE) x_w TT
 replace y_w := Enc.tr (failE) y_w TT
 replace K1 := Blk.tr0 K1 G
 replace K2 := Blk.tr0 K2 G
 replace C := C.trans TT
 clear T0 G TT
 refine qm S rfl ?_; clear S a; intro a S
 refine qg S 10 rfl (x.links.xs = y.links.xs) gt (pT b1 (0 + 1)) (fun hg => (x_fld (z := 0) (0) 1 Try.underlying41 rfl rfl (by kernel_rfl) (S.e rfl))) ?_; clear S a; intro a S
 refine qg S 10 rfl (x.links.xs = y.links.xs) gt (sV x.devs) (fun hg => (x_load ⟨_, Try.underlying22, rfl⟩ (S.p rfl hg) (K1.cell (j := 1) rfl))) ?_; clear S a; intro a S
 refine qg S 10 rfl (x.links.xs = y.links.xs) gt (pT b2 (0 + 1)) (fun hg => (x_fld (z := 0) (0) 1 Try.underlying41 rfl rfl (by kernel_rfl) (S.e rfl))) ?_; clear S a; intro a S
 refine qg S 10 rfl (x.links.xs = y.links.xs) gt (sV y.devs) (fun hg => (x_load ⟨_, Try.underlying22, rfl⟩ (S.p rfl hg) (K2.cell (j := 1) rfl))) ?_; clear S a; intro a S
 refine seq_gcall S (by decide) (gd := 10) (vs := #[sV x.devs, sV y.devs]) (v := bD (x.devs.xs = y.devs.xs)) rfl rfl (by decide) rfl (c := (x.links.xs = y.links.xs)) gt (fun hg => by simp only [List.map_toArray, List.map_cons, List.map_nil, show a.eval (.tmp 12) = sV x.devs from (S.p rfl hg), show a.eval (.tmp 14) = sV y.devs from (S.p rfl hg)]) callable_45 (fun hg => ((sameIdx _ (Ex F _) (C.old hF)  (MS.nil _) x.devs ((slE intE).down0 x_w.2) y.devs ((slE intE).down0 y_w.2))).mono (fun _ _ h => ⟨h.1, h.2.ch⟩)) ?_
 clear S a; intro a w4 G S; have TT := Tr.of_ch0 C.ms G
 replace x_w := Enc.tr (failE) x_w TT
 replace y_w := Enc.tr (failE) y_w TT
 replace K1 := Blk.tr0 K1 G
 replace K2 := Blk.tr0 K2 G
 replace C := C.trans TT
 refine qv S (bD ((x.links.xs = y.links.xs) ∧ (x.devs.xs = y.devs.xs))) (x_and (S.e rfl) (S.p rfl) (S.e rfl)) ?_; clear S a; intro a S
 refine qa S rfl ?_; clear S a; intro a S
 refine qt ?_
 refine wp_ret ?_
 refine ret1 rfl S rfl ?_
 have TD : Tr [one b2, one b1] w4 [] w4 := Tr.drop C.ms [] (by decide)
 have GD : Ch (In []) w4 w4 := Ch.refl _
 clear K1
 clear K2
 replace x_w := Enc.tr (failE) x_w TD
 replace y_w := Enc.tr (failE) y_w TD
 replace C := C.trans TD
 clear TD GD
 refine ⟨(r1 (vb ?_)), C⟩
 unfold keyF; simp only [Prod.mk.injEq]
set_option maxHeartbeats 2000000 in
set_option maxRecDepth 20000 in
theorem rSame (w : World) (F : Nat → Prop) (hF : Old F w) (M : MS [] w) (x : Sl Fail) (x_w : (slE failE).wf (Fr F []) w.heap x) (y : Sl Fail) (y_w : (slE failE).wf (Fr F []) w.heap y) :
 Calls Try.prog 17 #[sV x, sV y] w fun e w' => e = .returned (bD (x.xs.map keyF = y.xs.map keyF)) ∧ Tr [] w [] w' := by
 have C : Tr [] w [] w := Tr.refl M
 have : x.xs.length ≤ 9223372036854775807 := (x_w).1.len
 have : y.xs.length ≤ 9223372036854775807 := (y_w).1.len
 refine enter Try.func17 rfl 27 rfl (Nat.le_of_ble_eq_true rfl) ?_
 intro a S
 refine qs ?_
 refine qa S rfl ?_; clear S a; intro a S
 refine qt ?_
 refine wp_seq ?_
 refine qs ?_
 refine qm S rfl ?_; clear S a; intro a S
 have hn1 : x.xs.length ≤ 9223372036854775807 := (x_w).1.len
 refine qv S (iN x.xs.length) (x_len Try.underlying34 (S.e rfl)) ?_; clear S a; intro a S
 refine qm S rfl ?_; clear S a; intro a S
 have hn2 : y.xs.length ≤ 9223372036854775807 := (y_w).1.len
 refine qv S (iN y.xs.length) (x_len Try.underlying34 (S.e rfl)) ?_; clear S a; intro a S
 refine qv S (bD (¬ ((x.xs.length : Nat) : Int) = ((y.xs.length : Nat) : Int))) (x_neq (S.e rfl) (S.e rfl)) ?_; clear S a; intro a S
 refine qt ?_
 refine cond_dec S rfl ?_ ?_
 ·intro hc0
  refine qs ?_
  refine qa S rfl ?_; clear S a; intro a S
  refine qt ?_
  refine wp_ret ?_
  refine then_r ?_
  refine ret1 rfl S rfl ?_
  refine ⟨(r1 (vf ?_)), C⟩
  intro h; have := congrArg List.length h; simp at this; omega
 intro hc1
 refine wp_skip ?_
 refine then_n ?_
 refine wp_seq ?_
 refine qs ?_
 refine qa S rfl ?_; clear S a; intro a S
 refine qt ?_
 refine wp_block ?_
 refine wp_loop_ghost (fun m a wr => ∃ k : Nat, Slots 27 [(0, sV x), (1, sV y), (5, iN k)] a ∧ Tr [] w [] wr ∧ (k ≤ x.xs.length ∧ ∀ j, j < k → keyF (x.xs.getD j failE.dflt) = keyF (y.xs.getD j failE.dflt)) ∧ (x.xs.length - k) = m) (x.xs.length - 0) ?_ ?_
 ·refine ⟨0, S.sub ⟨rfl, rfl, rfl, trivial⟩, Tr.refl C.ms, ?_, rfl⟩
  exact ⟨Nat.zero_le _, fun j hj => by omega⟩
 rintro m a w1 ⟨k, S, G, hR, rfl⟩
 replace x_w := Enc.tr (slE failE) x_w G
 replace y_w := Enc.tr (slE failE) y_w G
 replace C := C.trans G
 have GL0 := G; clear G
 obtain ⟨hk, hn⟩ := hR
 refine wp_seq ?_
 refine qs ?_
 refine qm S rfl ?_; clear S a; intro a S
 refine qm S rfl ?_; clear S a; intro a S
 refine qv S (iN x.xs.length) (x_len Try.underlying34 (S.e rfl)) ?_; clear S a; intro a S
 refine qv S (bD (((k : Nat) : Int) < ((x.xs.length : Nat) : Int))) (x_lss (S.e rfl) (S.e rfl)) ?_; clear S a; intro a S
 refine qt ?_
 refine cond_dec S rfl ?_ ?_
 ·intro hc2
  refine wp_skip ?_
  refine then_n ?_
  refine wp_seq ?_
  refine wp_block ?_
  refine wp_seq ?_
  replace S := S.sub (L' := [(0, sV x), (1, sV y), (5, iN k), (11, iN k), (12, sV x), (13, iN x.xs.length), (14, bD (((k : Nat) : Int) < ((x.xs.length : Nat) : Int)))]) ⟨rfl, rfl, rfl, rfl, rfl, rfl, rfl, trivial⟩
  refine wp_heads (M := In []) S 10 [(17, iV (sV x)), (18, iV (iN k)), (19, iV (pT (blk x.a) (off x.a + k * 2))), (20, iV (fV (x.xs.getD k failE.dflt))), (21, iV (sV y)), (22, iV (iN k)), (23, iV (pT (blk y.a) (off y.a + k * 2))), (24, iV (fV (y.xs.getD k failE.dflt))), (25, iV (bD (keyF (x.xs.getD k failE.dflt) = keyF (y.xs.getD k failE.dflt)))), (26, iV (bD (¬ (keyF (x.xs.getD k failE.dflt) = keyF (y.xs.getD k failE.dflt)))))] (fun w => True) [[], [], [17, 18], [19], [], [], [21, 22], [23], [20, 24], [25]] [26] _ rfl mixed (by kernel_rfl) rfl trivial ?_ ?_
  ·refine ⟨?_, ?_, ?_, ?_, ?_, ?_, ?_, ?_, ?_, ?_, trivial⟩
   ·intro a w2 G I S hE
    have TT := Tr.of_ch C.ms G (fun _ h => by simp at h)
    replace x_w := Enc.tr (slE failE) x_w TT
    replace C := C.trans TT
    exact qo (sV x) (x_move (S.e rfl)) I
   ·intro a w3 G I S hE
    have TT := Tr.of_ch C.ms G (fun _ h => by simp at h)
    replace C := C.trans TT
    exact qo (iN k) (x_move (S.e rfl)) I
   ·intro a w4 G I S hE
    have TT := Tr.of_ch C.ms G (fun _ h => by simp at h)
    replace x_w := Enc.tr (slE failE) x_w TT
    replace C := C.trans TT
    obtain ⟨e17, e18, _⟩ := hE
    replace S := S.ext e17
    replace S := S.ext e18
    exact qo (pT (blk x.a) (off x.a + k * 2)) (x_idx Try.underlying34 (by kernel_rfl) (S.e rfl) (S.e rfl) k rfl (by omega) ((x_w).1.adr (i := k) (by omega))) I
   ·intro a w5 G I S hE
    have TT := Tr.of_ch C.ms G (fun _ h => by simp at h)
    replace x_w := Enc.tr (slE failE) x_w TT
    replace C := C.trans TT
    obtain ⟨e19, _⟩ := hE
    replace S := S.ext e19
    have hn3 : ((x.xs.getD k failE.dflt).links.xs).length ≤ 9223372036854775807 := (((x_w).1.wf k (by omega)).1).1.len
    have hn4 : ((x.xs.getD k failE.dflt).devs.xs).length ≤ 9223372036854775807 := (((x_w).1.wf k (by omega)).2).1.len
    exact qo (fV (x.xs.getD k failE.dflt)) (x_loadw (fL (x.xs.getD k failE.dflt)) ⟨_, Try.underlying41, rfl, by kernel_rfl⟩ (S.e rfl) ((x_w).1.wcell k (by omega) _ rfl _ rfl)) I
   ·intro a w6 G I S hE
    have TT := Tr.of_ch C.ms G (fun _ h => by simp at h)
    replace y_w := Enc.tr (slE failE) y_w TT
    replace C := C.trans TT
    exact qo (sV y) (x_move (S.e rfl)) I
   ·intro a w7 G I S hE
    have TT := Tr.of_ch C.ms G (fun _ h => by simp at h)
    replace C := C.trans TT
    exact qo (iN k) (x_move (S.e rfl)) I
   ·intro a w8 G I S hE
    have TT := Tr.of_ch C.ms G (fun _ h => by simp at h)
    replace y_w := Enc.tr (slE failE) y_w TT
    replace C := C.trans TT
    obtain ⟨e21, e22, _⟩ := hE
    replace S := S.ext e21
    replace S := S.ext e22
    exact qo (pT (blk y.a) (off y.a + k * 2)) (x_idx Try.underlying34 (by kernel_rfl) (S.e rfl) (S.e rfl) k rfl (by omega) ((y_w).1.adr (i := k) (by omega))) I
   ·intro a w9 G I S hE
    have TT := Tr.of_ch C.ms G (fun _ h => by simp at h)
    replace y_w := Enc.tr (slE failE) y_w TT
    replace C := C.trans TT
    obtain ⟨e23, _⟩ := hE
    replace S := S.ext e23
    have hn5 : ((y.xs.getD k failE.dflt).links.xs).length ≤ 9223372036854775807 := (((y_w).1.wf k (by omega)).1).1.len
    have hn6 : ((y.xs.getD k failE.dflt).devs.xs).length ≤ 9223372036854775807 := (((y_w).1.wf k (by omega)).2).1.len
    exact qo (fV (y.xs.getD k failE.dflt)) (x_loadw (fL (y.xs.getD k failE.dflt)) ⟨_, Try.underlying41, rfl, by kernel_rfl⟩ (S.e rfl) ((y_w).1.wcell k (by omega) _ rfl _ rfl)) I
   ·intro a w10 G I S hE
    have TT := Tr.of_ch C.ms G (fun _ h => by simp at h)
    replace x_w := Enc.tr (slE failE) x_w TT
    replace y_w := Enc.tr (slE failE) y_w TT
    replace C := C.trans TT
    obtain ⟨e20, e24, _⟩ := hE
    replace S := S.ext e20
    replace S := S.ext e24
    refine head_op rfl rfl (op_call (vs := #[fV (x.xs.getD k failE.dflt), fV (y.xs.getD k failE.dflt)]) (by simp only [List.map_toArray, List.map_cons, List.map_nil, show a.eval (.tmp 20) = fV (x.xs.getD k failE.dflt) from (S.e rfl), show a.eval (.tmp 24) = fV (y.xs.getD k failE.dflt) from (S.e rfl)]) callable_24 (rEqual _ (Ex F _) (C.old hF)  (MS.nil _) (x.xs.getD k failE.dflt) ((failE).down0 ((x_w).1.wf k (by omega))) (y.xs.getD k failE.dflt) ((failE).down0 ((y_w).1.wf k (by omega)))) ?_)
    rintro e w2 ⟨rfl, T0⟩; exact ⟨_, rfl, Done.mk' rfl (by decide) (show _ = _ from rfl) T0.ch trivial⟩
   intro a w11 G I S hE
   have TT := Tr.of_ch C.ms G (fun _ h => by simp at h)
   replace C := C.trans TT
   obtain ⟨e25, _⟩ := hE
   replace S := S.ext e25
   exact qo (bD (¬ (keyF (x.xs.getD k failE.dflt) = keyF (y.xs.getD k failE.dflt)))) (x_notp (S.e rfl)) I
  clear S a; intro a w12 G I S hE; have TT := Tr.of_ch C.ms G (fun _ h => by simp at h)
  replace x_w := Enc.tr (slE failE) x_w TT
  replace y_w := Enc.tr (slE failE) y_w TT
  replace GL0 := GL0.trans TT
  replace C := C.trans TT
  clear TT G
  obtain ⟨e26, -⟩ := hE
  replace S := S.ext e26
  clear e26
  refine qt ?_
  refine cond_dec S rfl ?_ ?_
  ·intro hc3
   refine qs ?_
   refine qa S rfl ?_; clear S a; intro a S
   refine qt ?_
   refine wp_ret ?_
   refine blk_r ?_
   refine then_r ?_
   refine then_r ?_
   refine blk_r ?_
   refine then_r ?_
   refine ret1 rfl S rfl ?_
   refine ⟨(r1 (vf ?_)), C⟩
   intro h; have h1 := getD_map (f := keyF) (l := x.xs) (d := failE.dflt) (k := k) (by omega) ([], []); have h2 := getD_map (f := keyF) (l := y.xs) (d := failE.dflt) (k := k) (by omega) ([], []); rw [h] at h1; exact hc3 (h1.symm.trans h2)
  intro hc4
  refine wp_skip ?_
  refine blk_n ?_
  refine then_n ?_
  refine wp_region_lit ?_
  refine qm S rfl ?_; clear S a; intro a S
  refine qv S (iN (k + 1)) (x_add (S.e rfl) (S.e rfl) (r := ((k + 1 : Nat) : Int)) (w_i64 (by omega))) ?_; clear S a; intro a S
  refine qa S rfl ?_; clear S a; intro a S
  refine qt ?_
  refine ⟨x.xs.length - (k + 1), ?_, k + 1, S.sub ⟨rfl, rfl, rfl, trivial⟩, GL0, ?_, rfl⟩
  ·omega
  refine ⟨by omega, fun j hj => ?_⟩
  rcases Nat.lt_succ_iff_lt_or_eq.1 hj with h | h
  ·exact hn j h
  subst h; exact Classical.not_not.1 hc4
 intro hc5
 refine wp_exit ?_
 refine then_e ?_
 refine then_e ?_
 refine blk_e ?_
 refine then_n ?_
 refine qs ?_
 refine qa S rfl ?_; clear S a; intro a S
 refine qt ?_
 refine wp_ret ?_
 refine ret1 rfl S rfl ?_
 refine ⟨(r1 (vt ?_)), C⟩
 refine list_ext ([], []) (by simp; omega) fun i hi => ?_; simp at hi; rw [getD_map (d := failE.dflt) (by omega), getD_map (d := failE.dflt) (by omega)]; exact hn i (by omega)
set_option maxHeartbeats 2000000 in
set_option maxRecDepth 20000 in
theorem rAll (w : World) (F : Nat → Prop) (hF : Old F w) (M : MS [] w) (t : Topo) (t_w : topoE.wf (Fr F []) w.heap t) :
 Calls Try.prog 19 #[tV t] w fun e w' => ∃ (r : Sl Fail), e = .returned (sV r) ∧ (slE failE).wf (Fr F []) w'.heap r ∧ r.xs.map keyF = allOf t ∧ Tr [] w [] w' := by
 have C : Tr [] w [] w := Tr.refl M
 have : t.devs.xs.length ≤ 9223372036854775807 := (t_w.1).1.len
 have : t.links.xs.length ≤ 9223372036854775807 := (t_w.2.1).1.len
 have : t.edges.xs.length ≤ 9223372036854775807 := (t_w.2.2.1).1.len
 have : t.pools.xs.length ≤ 9223372036854775807 := (t_w.2.2.2.1).1.len
 obtain ⟨_, _⟩ : inI64 t.tol := t_w.2.2.2.2
 refine enter Try.func19 rfl 63 rfl (Nat.le_of_ble_eq_true rfl) ?_
 intro a S
 refine qs ?_
 refine seq_new S rfl rfl (by decide) (fun b => pT b 0) (cs := (tL t)) (x_box (tL t) (S.e rfl) rfl) ?_
 clear S a; intro a w1 b1 hb1 hbs1 G K1 S; have hbl1 : b1 < w1.heap.size := by omega
 have TT := Tr.fresh C.ms hb1 hbl1 G
 replace t_w := Enc.tr (topoE) t_w TT
 replace C := C.trans TT
 clear TT G
 refine qa S rfl ?_; clear S a; intro a S
 refine qt ?_
 refine wp_seq ?_
 refine qs ?_
 refine qv S _ (x_loadw (tL t) ⟨_, Try.underlying28, rfl, by kernel_rfl⟩ (S.e rfl) (K1.mid [] _ [] rfl _ rfl)) ?_; clear S a; intro a S
 refine seq_call S (by decide) (vs := #[tV t]) rfl callable_53 (r11Valid _ (Ex F _) (C.old hF)  (MS.nil _) t ((topoE).down0 t_w)) ?_
 rintro e w2 ⟨rfl, T0⟩; refine ⟨_, rfl, ?_⟩; clear S a; intro a S
 have TT := Tr.framed0 C.ms T0; have G := T0.ch
 replace t_w := Enc.tr (topoE) t_w TT
 replace K1 := Blk.tr0 K1 G
 replace C := C.trans TT
 clear T0 G TT
 refine qv S (bD (¬ (topV t))) (x_notp (S.e rfl)) ?_; clear S a; intro a S
 refine qt ?_
 refine cond_dec S rfl ?_ ?_
 ·intro hc0
  refine qs ?_
  refine qa S rfl ?_; clear S a; intro a S
  refine qt ?_
  refine wp_ret ?_
  refine then_r ?_
  refine ret1 rfl S rfl ?_
  have TD : Tr [one b1] w2 [] w2 := Tr.drop C.ms [] (by decide)
  have GD : Ch (In []) w2 w2 := Ch.refl _
  clear K1
  replace t_w := Enc.tr (topoE) t_w TD
  replace C := C.trans TD
  clear TD GD
  refine ⟨(Sl.mk none 0 ([] : List Fail)), rfl, sl_nil, ?_, C⟩
  unfold allOf; rw [if_neg hc0]; rfl
 intro hc1
 have hV := Classical.not_not.1 hc1
 have hB : topB t := hV.1
 unfold topB at hB
 have hE : elems t = t.devs.xs.length + t.links.xs.length := rfl
 refine wp_skip ?_
 refine then_n ?_
 refine qs ?_
 refine qv S (pT b1 (0 + 0)) (x_fld (z := 0) (0) 0 Try.underlying28 rfl rfl (by kernel_rfl) (S.e rfl)) ?_; clear S a; intro a S
 refine qv S (sV t.devs) (x_load ⟨_, Try.underlying23, rfl⟩ (S.e rfl) (K1.cell (j := 0) rfl)) ?_; clear S a; intro a S
 have hn3 : t.devs.xs.length ≤ 9223372036854775807 := (t_w.1).1.len
 refine qv S (iN t.devs.xs.length) (x_len Try.underlying23 (S.e rfl)) ?_; clear S a; intro a S
 refine qv S (pT b1 (0 + 1)) (x_fld (z := 0) (0) 1 Try.underlying28 rfl rfl (by kernel_rfl) (S.e rfl)) ?_; clear S a; intro a S
 refine qv S (sV t.links) (x_load ⟨_, Try.underlying24, rfl⟩ (S.e rfl) (K1.cell (j := 1) rfl)) ?_; clear S a; intro a S
 have hn4 : t.links.xs.length ≤ 9223372036854775807 := (t_w.2.1).1.len
 refine qv S (iN t.links.xs.length) (x_len Try.underlying24 (S.e rfl)) ?_; clear S a; intro a S
 refine qv S (iN (t.devs.xs.length + t.links.xs.length)) (x_add (S.e rfl) (S.e rfl) (r := ((t.devs.xs.length + t.links.xs.length : Nat) : Int)) (w_i64 (by omega))) ?_; clear S a; intro a S
 refine qa S rfl ?_; clear S a; intro a S
 refine qt ?_
 refine qs ?_
 refine qv S (.agg #[.slice none 0 0, .slice none 0 0]) (x_build [] [.slice none 0 0, .slice none 0 0] (by simp only [List.map_cons, List.map_nil]) (by kernel_rfl)) ?_; clear S a; intro a S
 refine seq_new S rfl rfl (by decide) (fun b => .slice (some ⟨b, 0, none⟩) 1 1) (cs := [.slice none 0 0, .slice none 0 0]) (x_bsl [(0, .agg #[.slice none 0 0, .slice none 0 0])] [.slice none 0 0, .slice none 0 0] Try.underlying34 infoz_41 (by decide) (by decide) (by simp only [List.map_cons, List.map_nil, show a.eval (.tmp 18) = .agg #[.slice none 0 0, .slice none 0 0] from (S.e rfl)]) (by kernel_rfl)) ?_
 clear S a; intro a w3 b5 hb5 hbs5 G K5 S; have hbl5 : b5 < w3.heap.size := by omega
 have we5_0 : failE.wf (Fr F [one b1]) w2.heap (⟨(Sl.mk none 0 ([])), (Sl.mk none 0 ([]))⟩ : Fail) := ⟨sl_nil, sl_nil⟩
 have hCs := C.size; have TT : Tr [one b1] w2 [abk (some ⟨b5, 0, none⟩), one b1] w3 := Tr.freshRow C.ms hb5 hbl5 G
 replace t_w := Enc.tr (topoE) t_w TT
 replace K1 := Blk.tr0 K1 G
 replace C := C.trans TT
 have K5_r : Row failE 41 w.heap.size F [abk (some ⟨b5, 0, none⟩), one b1] w3 (some ⟨b5, 0, none⟩) 1 [(⟨(Sl.mk none 0 ([])), (Sl.mk none 0 ([]))⟩ : Fail)] := row_of_blk K5 [(⟨(Sl.mk none 0 ([])), (Sl.mk none 0 ([]))⟩ : Fail)] 1 rfl (by decide) (by decide) rfl (by omega) (by intro x hx; simp only [List.mem_cons, List.not_mem_nil, or_false] at hx; subst hx; exact Enc.tr (failE) we5_0 TT)
 clear K5 hCs TT G we5_0
 refine qa S rfl ?_; clear S a; intro a S
 refine qt ?_
 refine wp_seq ?_
 refine qs ?_
 refine qa S rfl ?_; clear S a; intro a S
 refine qt ?_
 refine wp_block ?_
 refine wp_loop_ghost (fun m a wr => ∃ i : Nat, ∃ o1_a : Option Addr, ∃ o1_c : Nat, ∃ o1 : List Fail, Slots 63 [(1, pT b1 0), (2, .slice none 0 0), (3, iN (t.devs.xs.length + t.links.xs.length)), (5, iN i), (4, .slice o1_a o1.length o1_c)] a ∧ Tr [abk (some ⟨b5, 0, none⟩), one b1] w3 [abk o1_a, one b1] wr ∧ (i ≤ elems t ∧ (i = 0 ∨ 1 ≤ t.tol) ∧ o1.map keyF = (([] : List Int) :: singles i).map (keyOf t.devs.xs.length)) ∧ Blk wr.heap b1 (tL t) 28 ∧ Row failE 41 w.heap.size F [abk o1_a, one b1] wr o1_a o1_c o1 ∧ (elems t - i) = m) (elems t - 0) ?_ ?_
 ·refine ⟨0, (some ⟨b5, 0, none⟩), 1, [(⟨(Sl.mk none 0 ([])), (Sl.mk none 0 ([]))⟩ : Fail)], S.sub ⟨rfl, rfl, rfl, rfl, rfl, trivial⟩, Tr.refl C.ms, ?_, K1, K5_r, rfl⟩
  exact ⟨Nat.zero_le _, .inl rfl, rfl⟩
 rintro m a w4 ⟨i, o1_a, o1_c, o1, S, G, hR, K1', K5_r', rfl⟩
 clear K1; have K1 := K1'; clear K1'
 clear K5_r; have K5_r := K5_r'; clear K5_r'
 replace t_w := Enc.tr (topoE) t_w G
 replace C := C.trans G
 have GL0 := G; clear G
 have o1_len := K5_r.len_le; simp only [maxLen] at o1_len
 obtain ⟨hi, hi1, ho⟩ := hR
 have hol := congrArg List.length ho; rw [List.length_map, List.length_map, List.length_cons, singles_len] at hol
 refine wp_seq ?_
 refine qs ?_
 refine qm S rfl ?_; clear S a; intro a S
 refine qm S rfl ?_; clear S a; intro a S
 refine qv S (bD (((i : Nat) : Int) < ((t.devs.xs.length + t.links.xs.length : Nat) : Int))) (x_lss (S.e rfl) (S.e rfl)) ?_; clear S a; intro a S
 refine qm S rfl ?_; clear S a; intro a S
 refine qg S 23 rfl (((i : Nat) : Int) < ((t.devs.xs.length + t.links.xs.length : Nat) : Int)) gt (pT b1 (0 + 4)) (fun hg => (x_fld (z := 0) (0) 4 Try.underlying28 rfl rfl (by kernel_rfl) (S.e rfl))) ?_; clear S a; intro a S
 refine qg S 23 rfl (((i : Nat) : Int) < ((t.devs.xs.length + t.links.xs.length : Nat) : Int)) gt (iI t.tol) (fun hg => (x_load ⟨_, Try.underlying3, rfl⟩ (S.p rfl hg) (K1.cell (j := 4) rfl))) ?_; clear S a; intro a S
 refine qg S 23 rfl (((i : Nat) : Int) < ((t.devs.xs.length + t.links.xs.length : Nat) : Int)) gt (bD (1 ≤ t.tol)) (fun hg => (x_geq (S.p rfl hg) (S.e rfl))) ?_; clear S a; intro a S
 refine qv S (bD ((((i : Nat) : Int) < ((t.devs.xs.length + t.links.xs.length : Nat) : Int)) ∧ (1 ≤ t.tol))) (x_and (S.e rfl) (S.p rfl) (S.e rfl)) ?_; clear S a; intro a S
 refine qt ?_
 refine cond_dec S rfl ?_ ?_
 ·intro hc2
  refine wp_skip ?_
  refine then_n ?_
  refine wp_seq ?_
  refine wp_block ?_
  refine wp_region_lit ?_
  refine qm S rfl ?_; clear S a; intro a S
  refine qv S _ (x_loadw (tL t) ⟨_, Try.underlying28, rfl, by kernel_rfl⟩ (S.e rfl) (K1.mid [] _ [] rfl _ rfl)) ?_; clear S a; intro a S
  refine qm S rfl ?_; clear S a; intro a S
  refine seq_new S rfl rfl (by decide) (fun b => .slice (some ⟨b, 0, none⟩) 1 1) (cs := [iN i]) (x_bsl [(0, iN i)] [iN i] Try.underlying22 infoz_3 (by decide) (by decide) (by simp only [List.map_cons, List.map_nil, show a.eval (.tmp 32) = iN i from (S.e rfl)]) (by kernel_rfl)) ?_
  clear S a; intro a w5 b6 hb6 hbs6 G K6 S; have hbl6 : b6 < w5.heap.size := by omega
  have we6_0 : intE.wf (Fr F [abk o1_a, one b1]) w4.heap ((i : Nat) : Int) := (show inI64 ((i : Nat) : Int) from ⟨by omega, by omega⟩)
  have hfr6 := fr_fresh C hF hb6; have TT := Tr.of_ch0 C.ms G
  replace t_w := Enc.tr (topoE) t_w TT
  replace K1 := Blk.tr0 K1 G
  replace K5_r := Row.tr0 K5_r TT G
  replace GL0 := GL0.trans TT
  replace C := C.trans TT
  have KS6 : (slE intE).wf (Fr F [abk o1_a, one b1]) w5.heap ⟨some ⟨b6, 0, none⟩, 1, [((i : Nat) : Int)]⟩ := sl_of_blk K6 [((i : Nat) : Int)] 1 rfl (by decide) (by decide) rfl hfr6 (by intro x hx; simp only [List.mem_cons, List.not_mem_nil, or_false] at hx; subst hx; exact Enc.tr (intE) we6_0 TT)
  clear K6 hfr6 TT G we6_0
  refine seq_call S (by decide) (vs := #[tV t, .slice (some ⟨b6, 0, none⟩) 1 1]) rfl callable_54 (rOf _ (Ex F _) (C.old hF)  (MS.nil _) t ((topoE).down0 t_w) (Sl.mk (some ⟨b6, 0, none⟩) 1 ([((i : Nat) : Int)])) ((slE intE).down0 KS6) (by first | omega | (simp only [List.length_cons, List.length_nil]; omega)) (by omega)) ?_
  rintro e w6 ⟨r_7, rfl, R_7, hr_7, T0⟩; refine ⟨_, rfl, ?_⟩; clear S a; intro a S
  have TT := Tr.framed0 C.ms T0; have G := T0.ch
  replace t_w := Enc.tr (topoE) t_w TT
  replace K1 := Blk.tr0 K1 G
  replace K5_r := Row.tr0 K5_r TT G
  replace KS6 := Enc.tr (slE intE) KS6 TT
  replace GL0 := GL0.trans TT
  replace C := C.trans TT
  replace R_7 := Enc.up (failE) R_7
  clear T0 G TT
  have hn8 : r_7.links.xs.length ≤ 9223372036854775807 := (R_7.1).1.len
  have hn9 : r_7.devs.xs.length ≤ 9223372036854775807 := (R_7.2).1.len
  refine seq_new S rfl rfl (by decide) (fun b => .slice (some ⟨b, 0, none⟩) 1 1) (cs := (fL r_7)) (x_bsl [(0, fV r_7)] (fL r_7) Try.underlying34 infoz_41 (by decide) (by decide) (by simp only [List.map_cons, List.map_nil, show a.eval (.tmp 34) = fV r_7 from (S.e rfl)]) (by kernel_rfl)) ?_
  clear S a; intro a w7 b10 hb10 hbs10 G K10 S; have hbl10 : b10 < w7.heap.size := by omega
  have we10_0 : failE.wf (Fr F [abk o1_a, one b1]) w6.heap r_7 := ⟨R_7.1, R_7.2⟩
  have hfr10 := fr_fresh C hF hb10; have TT := Tr.of_ch0 C.ms G
  replace t_w := Enc.tr (topoE) t_w TT
  replace K1 := Blk.tr0 K1 G
  replace K5_r := Row.tr0 K5_r TT G
  replace KS6 := Enc.tr (slE intE) KS6 TT
  replace R_7 := Enc.tr (failE) R_7 TT
  replace GL0 := GL0.trans TT
  replace C := C.trans TT
  have KS10 : (slE failE).wf (Fr F [abk o1_a, one b1]) w7.heap ⟨some ⟨b10, 0, none⟩, 1, [r_7]⟩ := sl_of_blk K10 [r_7] 1 rfl (by decide) (by decide) rfl hfr10 (by intro x hx; simp only [List.mem_cons, List.not_mem_nil, or_false] at hx; subst hx; exact Enc.tr (failE) we10_0 TT)
  clear K10 hfr10 TT G we10_0
  refine seq_op rfl (op_append (E := failE) [] [one b1] (.tmp 30) (.tmp 35) 34 rfl zero_41 48 Try.underlying34 infoz_41 rfl (by decide) rfl C.ms (S.e rfl) K5_r ([r_7]) (some ⟨b10, 0, none⟩) 1 (S.e rfl) (show LAt failE _ _ (some ⟨b10, 0, none⟩) ([r_7]) from (KS10).1) (KS10).2.2 (LAt.mem (show LAt failE _ _ (some ⟨b10, 0, none⟩) ([r_7]) from (KS10).1)) (by unfold maxLen; (try simp only [List.length_cons, List.length_nil, List.length_append, List.length_map]); omega) (by (try simp only [List.length_cons, List.length_nil, List.length_append, List.length_map]); omega) (C.size) ?_)
  intro ad11 cap11 w8 Rn TT G
  have S1 := S.put (d := 36) (v := .slice ad11 (o1 ++ [r_7]).length cap11) (by decide); clear S; revert S1; generalize Act.put a _ _ = a1; intro S; clear a; rename Act => a
  replace TT : Tr [abk o1_a, one b1] w7 [abk ad11, one b1] w8 := TT; replace Rn : Row failE 41 w.heap.size F [abk ad11, one b1] w8 ad11 cap11 (o1 ++ [r_7]) := Rn
  replace t_w := Enc.tr (topoE) t_w TT
  replace K1 := Blk.tr K1 G (C.ms.sep.out 1 [0] rfl rfl rfl)
  replace KS6 := Enc.tr (slE intE) KS6 TT
  replace R_7 := Enc.tr (failE) R_7 TT
  replace KS10 := Enc.tr (slE failE) KS10 TT
  replace GL0 := GL0.trans TT
  replace C := C.trans TT
  clear K5_r; have K5_r := Rn; clear Rn TT G
  refine qa S rfl ?_; clear S a; intro a S
  refine wpList_nil ?_
  refine blk_n ?_
  refine then_n ?_
  refine wp_region_lit ?_
  refine qm S rfl ?_; clear S a; intro a S
  refine qv S (iN (i + 1)) (x_add (S.e rfl) (S.e rfl) (r := ((i + 1 : Nat) : Int)) (w_i64 (by omega))) ?_; clear S a; intro a S
  refine qa S rfl ?_; clear S a; intro a S
  refine qt ?_
  refine ⟨elems t - (i + 1), ?_, (i + 1), ad11, cap11, (o1 ++ [r_7]), S.sub ⟨rfl, rfl, rfl, rfl, (by first | rfl | (simp only [List.length_set]; rfl)), trivial⟩, GL0, ?_, K1, K5_r, rfl⟩
  ·omega
  refine ⟨by omega, .inr (by omega), ?_⟩
  rw [List.map_append, ho, singles_snoc, ← List.cons_append, List.map_append]; congr 1; exact congrArg (· :: []) (by assumption)
 intro hc3
 refine wp_exit ?_
 refine then_e ?_
 refine then_e ?_
 refine blk_e ?_
 refine then_n ?_
 refine wp_seq ?_
 refine qs ?_
 refine qa S rfl ?_; clear S a; intro a S
 refine qt ?_
 refine wp_block ?_
 refine wp_loop_ghost (fun m a wr => ∃ i2 : Nat, ∃ o2_a : Option Addr, ∃ o2_c : Nat, ∃ o2 : List Fail, Slots 63 [(1, pT b1 0), (2, .slice none 0 0), (3, iN (t.devs.xs.length + t.links.xs.length)), (6, iN i2), (4, .slice o2_a o2.length o2_c)] a ∧ Tr [abk o1_a, one b1] w4 [abk o2_a, one b1] wr ∧ (i2 ≤ elems t ∧ (i2 = 0 ∨ 2 ≤ t.tol) ∧ o2.map keyF = (([] : List Int) :: (singles i ++ pairs (elems t) i2)).map (keyOf t.devs.xs.length)) ∧ Blk wr.heap b1 (tL t) 28 ∧ Row failE 41 w.heap.size F [abk o2_a, one b1] wr o2_a o2_c o2 ∧ (elems t - i2) = m) (elems t - 0) ?_ ?_
 ·refine ⟨0, o1_a, o1_c, o1, S.sub ⟨rfl, rfl, rfl, rfl, rfl, trivial⟩, Tr.refl C.ms, ?_, K1, K5_r, rfl⟩
  exact ⟨Nat.zero_le _, .inl rfl, by rw [ho]; simp [pairs]⟩
 rintro m a w9 ⟨i2, o2_a, o2_c, o2, S, G, hR, K1', K5_r', rfl⟩
 clear K1; have K1 := K1'; clear K1'
 clear K5_r; have K5_r := K5_r'; clear K5_r'
 replace t_w := Enc.tr (topoE) t_w G
 replace GL0 := GL0.trans G
 replace C := C.trans G
 have GL1 := G; clear G
 have o2_len := K5_r.len_le; simp only [maxLen] at o2_len
 obtain ⟨hi2, hi3, ho2⟩ := hR
 refine wp_seq ?_
 refine qs ?_
 refine qm S rfl ?_; clear S a; intro a S
 refine qm S rfl ?_; clear S a; intro a S
 refine qv S (bD (((i2 : Nat) : Int) < ((t.devs.xs.length + t.links.xs.length : Nat) : Int))) (x_lss (S.e rfl) (S.e rfl)) ?_; clear S a; intro a S
 refine qm S rfl ?_; clear S a; intro a S
 refine qg S 40 rfl (((i2 : Nat) : Int) < ((t.devs.xs.length + t.links.xs.length : Nat) : Int)) gt (pT b1 (0 + 4)) (fun hg => (x_fld (z := 0) (0) 4 Try.underlying28 rfl rfl (by kernel_rfl) (S.e rfl))) ?_; clear S a; intro a S
 refine qg S 40 rfl (((i2 : Nat) : Int) < ((t.devs.xs.length + t.links.xs.length : Nat) : Int)) gt (iI t.tol) (fun hg => (x_load ⟨_, Try.underlying3, rfl⟩ (S.p rfl hg) (K1.cell (j := 4) rfl))) ?_; clear S a; intro a S
 refine qg S 40 rfl (((i2 : Nat) : Int) < ((t.devs.xs.length + t.links.xs.length : Nat) : Int)) gt (bD (2 ≤ t.tol)) (fun hg => (x_geq (S.p rfl hg) (S.e rfl))) ?_; clear S a; intro a S
 refine qv S (bD ((((i2 : Nat) : Int) < ((t.devs.xs.length + t.links.xs.length : Nat) : Int)) ∧ (2 ≤ t.tol))) (x_and (S.e rfl) (S.p rfl) (S.e rfl)) ?_; clear S a; intro a S
 refine qt ?_
 refine cond_dec S rfl ?_ ?_
 ·intro hc4
  refine wp_skip ?_
  refine then_n ?_
  refine wp_seq ?_
  refine wp_block ?_
  refine qs ?_
  refine qm S rfl ?_; clear S a; intro a S
  refine qv S (iN (i2 + 1)) (x_add (S.e rfl) (S.e rfl) (r := ((i2 + 1 : Nat) : Int)) (w_i64 (by omega))) ?_; clear S a; intro a S
  refine qa S rfl ?_; clear S a; intro a S
  refine qt ?_
  refine wp_block ?_
  refine wp_loop_ghost (fun m a wr => ∃ k : Nat, ∃ o3_a : Option Addr, ∃ o3_c : Nat, ∃ o3 : List Fail, Slots 63 [(1, pT b1 0), (2, .slice none 0 0), (3, iN (t.devs.xs.length + t.links.xs.length)), (6, iN i2), (37, iN i2), (38, iN (t.devs.xs.length + t.links.xs.length)), (39, bD (((i2 : Nat) : Int) < ((t.devs.xs.length + t.links.xs.length : Nat) : Int))), (40, bD (((i2 : Nat) : Int) < ((t.devs.xs.length + t.links.xs.length : Nat) : Int))), (41, (if (((i2 : Nat) : Int) < ((t.devs.xs.length + t.links.xs.length : Nat) : Int)) then pT b1 (0 + 4) else undef)), (42, (if (((i2 : Nat) : Int) < ((t.devs.xs.length + t.links.xs.length : Nat) : Int)) then iI t.tol else undef)), (43, (if (((i2 : Nat) : Int) < ((t.devs.xs.length + t.links.xs.length : Nat) : Int)) then bD (2 ≤ t.tol) else undef)), (44, bD ((((i2 : Nat) : Int) < ((t.devs.xs.length + t.links.xs.length : Nat) : Int)) ∧ (2 ≤ t.tol))), (47, iN i2), (48, iN (i2 + 1)), (7, iN k), (4, .slice o3_a o3.length o3_c)] a ∧ Tr [abk o2_a, one b1] w9 [abk o3_a, one b1] wr ∧ (i2 < k ∧ k ≤ elems t ∧ o3.map keyF = (([] : List Int) :: (singles i ++ (pairs (elems t) i2 ++ pairsRow i2 k))).map (keyOf t.devs.xs.length)) ∧ Blk wr.heap b1 (tL t) 28 ∧ Row failE 41 w.heap.size F [abk o3_a, one b1] wr o3_a o3_c o3 ∧ (elems t - k) = m) (elems t - (i2 + 1)) ?_ ?_
  ·refine ⟨(i2 + 1), o2_a, o2_c, o2, S.sub ⟨rfl, rfl, rfl, rfl, rfl, rfl, rfl, rfl, rfl, rfl, rfl, rfl, rfl, rfl, rfl, rfl, trivial⟩, Tr.refl C.ms, ?_, K1, K5_r, rfl⟩
   exact ⟨Nat.lt_succ_self _, by omega, by rw [ho2, pairsRow_nil, List.append_nil]⟩
  rintro m a w10 ⟨k, o3_a, o3_c, o3, S, G, hR, K1', K5_r', rfl⟩
  clear K1; have K1 := K1'; clear K1'
  clear K5_r; have K5_r := K5_r'; clear K5_r'
  replace t_w := Enc.tr (topoE) t_w G
  replace GL0 := GL0.trans G
  replace GL1 := GL1.trans G
  replace C := C.trans G
  have GL2 := G; clear G
  have o3_len := K5_r.len_le; simp only [maxLen] at o3_len
  obtain ⟨hk, hk2, ho3⟩ := hR
  have hol3 := congrArg List.length ho3; simp only [List.length_map, List.length_cons, List.length_append, singles_len] at hol3
  have hp2 := pairs_bd (n := elems t) (m := i2) (by omega) (by omega)
  have hp3 := pairsRow_len i2 k
  refine wp_seq ?_
  refine qs ?_
  refine qm S rfl ?_; clear S a; intro a S
  refine qm S rfl ?_; clear S a; intro a S
  refine qv S (bD (((k : Nat) : Int) < ((t.devs.xs.length + t.links.xs.length : Nat) : Int))) (x_lss (S.e rfl) (S.e rfl)) ?_; clear S a; intro a S
  refine qt ?_
  refine cond_dec S rfl ?_ ?_
  ·intro hc5
   refine wp_skip ?_
   refine then_n ?_
   refine wp_seq ?_
   refine wp_block ?_
   refine wp_region_lit ?_
   refine qm S rfl ?_; clear S a; intro a S
   refine qv S _ (x_loadw (tL t) ⟨_, Try.underlying28, rfl, by kernel_rfl⟩ (S.e rfl) (K1.mid [] _ [] rfl _ rfl)) ?_; clear S a; intro a S
   refine qm S rfl ?_; clear S a; intro a S
   refine qm S rfl ?_; clear S a; intro a S
   refine seq_new S rfl rfl (by decide) (fun b => .slice (some ⟨b, 0, none⟩) 2 2) (cs := [iN i2, iN k]) (x_bsl [(0, iN i2), (1, iN k)] [iN i2, iN k] Try.underlying22 infoz_3 (by decide) (by decide) (by simp only [List.map_cons, List.map_nil, show a.eval (.tmp 56) = iN i2 from (S.e rfl), show a.eval (.tmp 57) = iN k from (S.e rfl)]) (by kernel_rfl)) ?_
   clear S a; intro a w11 b12 hb12 hbs12 G K12 S; have hbl12 : b12 < w11.heap.size := by omega
   have we12_0 : intE.wf (Fr F [abk o3_a, one b1]) w10.heap ((i2 : Nat) : Int) := (show inI64 ((i2 : Nat) : Int) from ⟨by omega, by omega⟩)
   have we12_1 : intE.wf (Fr F [abk o3_a, one b1]) w10.heap ((k : Nat) : Int) := (show inI64 ((k : Nat) : Int) from ⟨by omega, by omega⟩)
   have hfr12 := fr_fresh C hF hb12; have TT := Tr.of_ch0 C.ms G
   replace t_w := Enc.tr (topoE) t_w TT
   replace K1 := Blk.tr0 K1 G
   replace K5_r := Row.tr0 K5_r TT G
   replace GL0 := GL0.trans TT
   replace GL1 := GL1.trans TT
   replace GL2 := GL2.trans TT
   replace C := C.trans TT
   have KS12 : (slE intE).wf (Fr F [abk o3_a, one b1]) w11.heap ⟨some ⟨b12, 0, none⟩, 2, [((i2 : Nat) : Int), ((k : Nat) : Int)]⟩ := sl_of_blk K12 [((i2 : Nat) : Int), ((k : Nat) : Int)] 2 rfl (by decide) (by decide) rfl hfr12 (by intro x hx; simp only [List.mem_cons, List.not_mem_nil, or_false] at hx; rcases hx with rfl | rfl <;> first | exact Enc.tr (intE) we12_0 TT | exact Enc.tr (intE) we12_1 TT)
   clear K12 hfr12 TT G we12_0 we12_1
   refine seq_call S (by decide) (vs := #[tV t, .slice (some ⟨b12, 0, none⟩) 2 2]) rfl callable_54 (rOf _ (Ex F _) (C.old hF)  (MS.nil _) t ((topoE).down0 t_w) (Sl.mk (some ⟨b12, 0, none⟩) 2 ([((i2 : Nat) : Int), ((k : Nat) : Int)])) ((slE intE).down0 KS12) (by first | omega | (simp only [List.length_cons, List.length_nil]; omega)) (by omega)) ?_
   rintro e w12 ⟨r_13, rfl, R_13, hr_13, T0⟩; refine ⟨_, rfl, ?_⟩; clear S a; intro a S
   have TT := Tr.framed0 C.ms T0; have G := T0.ch
   replace t_w := Enc.tr (topoE) t_w TT
   replace K1 := Blk.tr0 K1 G
   replace K5_r := Row.tr0 K5_r TT G
   replace KS12 := Enc.tr (slE intE) KS12 TT
   replace GL0 := GL0.trans TT
   replace GL1 := GL1.trans TT
   replace GL2 := GL2.trans TT
   replace C := C.trans TT
   replace R_13 := Enc.up (failE) R_13
   clear T0 G TT
   have hr := hr_13
   have hn14 : r_13.links.xs.length ≤ 9223372036854775807 := (R_13.1).1.len
   have hn15 : r_13.devs.xs.length ≤ 9223372036854775807 := (R_13.2).1.len
   refine seq_new S rfl rfl (by decide) (fun b => .slice (some ⟨b, 0, none⟩) 1 1) (cs := (fL r_13)) (x_bsl [(0, fV r_13)] (fL r_13) Try.underlying34 infoz_41 (by decide) (by decide) (by simp only [List.map_cons, List.map_nil, show a.eval (.tmp 59) = fV r_13 from (S.e rfl)]) (by kernel_rfl)) ?_
   clear S a; intro a w13 b16 hb16 hbs16 G K16 S; have hbl16 : b16 < w13.heap.size := by omega
   have we16_0 : failE.wf (Fr F [abk o3_a, one b1]) w12.heap r_13 := ⟨R_13.1, R_13.2⟩
   have hfr16 := fr_fresh C hF hb16; have TT := Tr.of_ch0 C.ms G
   replace t_w := Enc.tr (topoE) t_w TT
   replace K1 := Blk.tr0 K1 G
   replace K5_r := Row.tr0 K5_r TT G
   replace KS12 := Enc.tr (slE intE) KS12 TT
   replace R_13 := Enc.tr (failE) R_13 TT
   replace GL0 := GL0.trans TT
   replace GL1 := GL1.trans TT
   replace GL2 := GL2.trans TT
   replace C := C.trans TT
   have KS16 : (slE failE).wf (Fr F [abk o3_a, one b1]) w13.heap ⟨some ⟨b16, 0, none⟩, 1, [r_13]⟩ := sl_of_blk K16 [r_13] 1 rfl (by decide) (by decide) rfl hfr16 (by intro x hx; simp only [List.mem_cons, List.not_mem_nil, or_false] at hx; subst hx; exact Enc.tr (failE) we16_0 TT)
   clear K16 hfr16 TT G we16_0
   refine seq_op rfl (op_append (E := failE) [] [one b1] (.tmp 54) (.tmp 60) 34 rfl zero_41 48 Try.underlying34 infoz_41 rfl (by decide) rfl C.ms (S.e rfl) K5_r ([r_13]) (some ⟨b16, 0, none⟩) 1 (S.e rfl) (show LAt failE _ _ (some ⟨b16, 0, none⟩) ([r_13]) from (KS16).1) (KS16).2.2 (LAt.mem (show LAt failE _ _ (some ⟨b16, 0, none⟩) ([r_13]) from (KS16).1)) (by unfold maxLen; (try simp only [List.length_cons, List.length_nil, List.length_append, List.length_map]); omega) (by (try simp only [List.length_cons, List.length_nil, List.length_append, List.length_map]); omega) (C.size) ?_)
   intro ad17 cap17 w14 Rn TT G
   have S1 := S.put (d := 61) (v := .slice ad17 (o3 ++ [r_13]).length cap17) (by decide); clear S; revert S1; generalize Act.put a _ _ = a1; intro S; clear a; rename Act => a
   replace TT : Tr [abk o3_a, one b1] w13 [abk ad17, one b1] w14 := TT; replace Rn : Row failE 41 w.heap.size F [abk ad17, one b1] w14 ad17 cap17 (o3 ++ [r_13]) := Rn
   replace t_w := Enc.tr (topoE) t_w TT
   replace K1 := Blk.tr K1 G (C.ms.sep.out 1 [0] rfl rfl rfl)
   replace KS12 := Enc.tr (slE intE) KS12 TT
   replace R_13 := Enc.tr (failE) R_13 TT
   replace KS16 := Enc.tr (slE failE) KS16 TT
   replace GL0 := GL0.trans TT
   replace GL1 := GL1.trans TT
   replace GL2 := GL2.trans TT
   replace C := C.trans TT
   clear K5_r; have K5_r := Rn; clear Rn TT G
   refine qa S rfl ?_; clear S a; intro a S
   refine wpList_nil ?_
   refine blk_n ?_
   refine then_n ?_
   refine wp_region_lit ?_
   refine qm S rfl ?_; clear S a; intro a S
   refine qv S (iN (k + 1)) (x_add (S.e rfl) (S.e rfl) (r := ((k + 1 : Nat) : Int)) (w_i64 (by omega))) ?_; clear S a; intro a S
   refine qa S rfl ?_; clear S a; intro a S
   refine qt ?_
   refine ⟨elems t - (k + 1), ?_, (k + 1), ad17, cap17, (o3 ++ [r_13]), S.sub ⟨rfl, rfl, rfl, rfl, rfl, rfl, rfl, rfl, rfl, rfl, rfl, rfl, rfl, rfl, rfl, (by first | rfl | (simp only [List.length_set]; rfl)), trivial⟩, GL2, ?_, K1, K5_r, rfl⟩
   ·omega
   refine ⟨by omega, by omega, ?_⟩
   rw [List.map_append, ho3, pairsRow_snoc hk]
   simp only [List.map_cons, List.map_append, List.map_nil, List.cons_append, List.append_assoc, hr]
  intro hc6
  refine wp_exit ?_
  refine then_e ?_
  refine then_e ?_
  refine blk_e ?_
  refine blk_n ?_
  refine then_n ?_
  refine wp_region_lit ?_
  refine qm S rfl ?_; clear S a; intro a S
  refine qv S (iN (i2 + 1)) (x_add (S.e rfl) (S.e rfl) (r := ((i2 + 1 : Nat) : Int)) (w_i64 (by omega))) ?_; clear S a; intro a S
  refine qa S rfl ?_; clear S a; intro a S
  refine qt ?_
  refine ⟨elems t - (i2 + 1), ?_, (i2 + 1), o3_a, o3_c, o3, S.sub ⟨rfl, rfl, rfl, rfl, (by first | rfl | (simp only [List.length_set]; rfl)), trivial⟩, GL1, ?_, K1, K5_r, rfl⟩
  ·omega
  refine ⟨by omega, .inr (by omega), ?_⟩
  rw [ho3, pairs_snoc, show k = elems t from by omega]
 intro hc7
 refine wp_exit ?_
 refine then_e ?_
 refine then_e ?_
 refine blk_e ?_
 refine then_n ?_
 refine qs ?_
 refine qm S rfl ?_; clear S a; intro a S
 refine qa S rfl ?_; clear S a; intro a S
 refine qt ?_
 refine wp_ret ?_
 have FK5_r := Row.freeze (pre := []) (post := [one b1]) rfl C.ms K5_r (by first | decide | exact Nat.one_pos) (K5_r.notF hF (Nat.le_refl _))
 have TF := Tr.leave (pre := []) (o := abk o2_a) (post := [one b1]) C.ms
 have GF : Ch (In []) w9 w9 := Ch.refl _
 replace t_w := Enc.tr (topoE) t_w TF
 replace K1 := Blk.tr0 K1 GF
 replace GL0 := GL0.trans TF
 replace GL1 := GL1.trans TF
 replace C := C.trans TF
 replace FK5_r : (slE failE).wf (Fr F [one b1]) w9.heap ⟨o2_a, o2_c, o2⟩ := FK5_r; clear K5_r
 refine ret1 rfl S rfl ?_
 have TD : Tr [one b1] w9 [] w9 := Tr.drop C.ms [] (by decide)
 have GD : Ch (In []) w9 w9 := Ch.refl _
 clear K1
 replace t_w := Enc.tr (topoE) t_w TD
 replace FK5_r := Enc.tr (slE failE) FK5_r TD
 replace GL0 := GL0.trans TD
 replace GL1 := GL1.trans TD
 replace C := C.trans TD
 clear TD GD
 refine ⟨(Sl.mk o2_a o2_c o2), rfl, FK5_r, ?_, C⟩
 have e1 : singles i = if 1 ≤ t.tol then singles (elems t) else [] := by
  split
  ·rw [show i = elems t from by omega]
  rw [show i = 0 from by omega]; rfl
 have e2 : pairs (elems t) i2 = if 2 ≤ t.tol then pairs (elems t) (elems t) else [] := by
  split
  ·rw [show i2 = elems t from by omega]
  rw [show i2 = 0 from by omega]; rfl
 unfold allOf; rw [if_pos hV, ho2, e1, e2]
set_option maxHeartbeats 2000000 in
set_option maxRecDepth 20000 in
theorem fAll (w : World) (F : Nat → Prop) (hF : Old F w) (M : MS [] w) (t : Topo) (t_w : topoE.wf (Fr F []) w.heap t) :
 Calls Try.prog 18 #[tV t] w fun e w' => ∃ (r : Sl Fail), e = .returned (sV r) ∧ (slE failE).wf (Fr F []) w'.heap r ∧ r.xs.map keyF = allOf t ∧ Tr [] w [] w' := by
 have C : Tr [] w [] w := Tr.refl M
 have : t.devs.xs.length ≤ 9223372036854775807 := (t_w.1).1.len
 have : t.links.xs.length ≤ 9223372036854775807 := (t_w.2.1).1.len
 have : t.edges.xs.length ≤ 9223372036854775807 := (t_w.2.2.1).1.len
 have : t.pools.xs.length ≤ 9223372036854775807 := (t_w.2.2.2.1).1.len
 obtain ⟨_, _⟩ : inI64 t.tol := t_w.2.2.2.2
 refine enter Try.func18 rfl 79 rfl (Nat.le_of_ble_eq_true rfl) ?_
 intro a S
 refine qs ?_
 refine seq_new S rfl rfl (by decide) (fun b => pT b 0) (cs := (tL t)) (x_box (tL t) (S.e rfl) rfl) ?_
 clear S a; intro a w1 b1 hb1 hbs1 G K1 S; have hbl1 : b1 < w1.heap.size := by omega
 have TT := Tr.fresh C.ms hb1 hbl1 G
 replace t_w := Enc.tr (topoE) t_w TT
 replace C := C.trans TT
 clear TT G
 refine qa S rfl ?_; clear S a; intro a S
 refine qt ?_
 refine wp_seq ?_
 refine qs ?_
 refine qv S _ (x_loadw (tL t) ⟨_, Try.underlying28, rfl, by kernel_rfl⟩ (S.e rfl) (K1.mid [] _ [] rfl _ rfl)) ?_; clear S a; intro a S
 refine seq_call S (by decide) (vs := #[tV t]) rfl callable_50 (tValid _ (Ex F _) (C.old hF)  (MS.nil _) t ((topoE).down0 t_w)) ?_
 rintro e w2 ⟨rfl, T0⟩; refine ⟨_, rfl, ?_⟩; clear S a; intro a S
 have TT := Tr.framed0 C.ms T0; have G := T0.ch
 replace t_w := Enc.tr (topoE) t_w TT
 replace K1 := Blk.tr0 K1 G
 replace C := C.trans TT
 clear T0 G TT
 refine qv S (bD (¬ (topV t))) (x_notp (S.e rfl)) ?_; clear S a; intro a S
 refine qt ?_
 refine cond_dec S rfl ?_ ?_
 ·intro hc0
  refine qs ?_
  refine qa S rfl ?_; clear S a; intro a S
  refine qt ?_
  refine wp_ret ?_
  refine then_r ?_
  refine ret1 rfl S rfl ?_
  have TD : Tr [one b1] w2 [] w2 := Tr.drop C.ms [] (by decide)
  have GD : Ch (In []) w2 w2 := Ch.refl _
  clear K1
  replace t_w := Enc.tr (topoE) t_w TD
  replace C := C.trans TD
  clear TD GD
  refine ⟨(Sl.mk none 0 ([] : List Fail)), rfl, sl_nil, ?_, C⟩
  unfold allOf; rw [if_neg hc0]; rfl
 intro hc1
 have hV := Classical.not_not.1 hc1
 have hB : topB t := hV.1
 unfold topB at hB
 have hE : elems t = t.devs.xs.length + t.links.xs.length := rfl
 refine wp_skip ?_
 refine then_n ?_
 refine qs ?_
 refine qv S (pT b1 (0 + 0)) (x_fld (z := 0) (0) 0 Try.underlying28 rfl rfl (by kernel_rfl) (S.e rfl)) ?_; clear S a; intro a S
 refine qv S (sV t.devs) (x_load ⟨_, Try.underlying23, rfl⟩ (S.e rfl) (K1.cell (j := 0) rfl)) ?_; clear S a; intro a S
 have hn3 : t.devs.xs.length ≤ 9223372036854775807 := (t_w.1).1.len
 refine qv S (iN t.devs.xs.length) (x_len Try.underlying23 (S.e rfl)) ?_; clear S a; intro a S
 refine qv S (pT b1 (0 + 1)) (x_fld (z := 0) (0) 1 Try.underlying28 rfl rfl (by kernel_rfl) (S.e rfl)) ?_; clear S a; intro a S
 refine qv S (sV t.links) (x_load ⟨_, Try.underlying24, rfl⟩ (S.e rfl) (K1.cell (j := 1) rfl)) ?_; clear S a; intro a S
 have hn4 : t.links.xs.length ≤ 9223372036854775807 := (t_w.2.1).1.len
 refine qv S (iN t.links.xs.length) (x_len Try.underlying24 (S.e rfl)) ?_; clear S a; intro a S
 refine qv S (iN (t.devs.xs.length + t.links.xs.length)) (x_add (S.e rfl) (S.e rfl) (r := ((t.devs.xs.length + t.links.xs.length : Nat) : Int)) (w_i64 (by omega))) ?_; clear S a; intro a S
 refine qa S rfl ?_; clear S a; intro a S
 refine qt ?_
 refine qs ?_
 refine qv S (.agg #[.slice none 0 0, .slice none 0 0]) (x_build [] [.slice none 0 0, .slice none 0 0] (by simp only [List.map_cons, List.map_nil]) (by kernel_rfl)) ?_; clear S a; intro a S
 refine seq_new S rfl rfl (by decide) (fun b => .slice (some ⟨b, 0, none⟩) 1 1) (cs := [.slice none 0 0, .slice none 0 0]) (x_bsl [(0, .agg #[.slice none 0 0, .slice none 0 0])] [.slice none 0 0, .slice none 0 0] Try.underlying34 infoz_41 (by decide) (by decide) (by simp only [List.map_cons, List.map_nil, show a.eval (.tmp 24) = .agg #[.slice none 0 0, .slice none 0 0] from (S.e rfl)]) (by kernel_rfl)) ?_
 clear S a; intro a w3 b5 hb5 hbs5 G K5 S; have hbl5 : b5 < w3.heap.size := by omega
 have we5_0 : failE.wf (Fr F [one b1]) w2.heap (⟨(Sl.mk none 0 ([])), (Sl.mk none 0 ([]))⟩ : Fail) := ⟨sl_nil, sl_nil⟩
 have hCs := C.size; have TT : Tr [one b1] w2 [abk (some ⟨b5, 0, none⟩), one b1] w3 := Tr.freshRow C.ms hb5 hbl5 G
 replace t_w := Enc.tr (topoE) t_w TT
 replace K1 := Blk.tr0 K1 G
 replace C := C.trans TT
 have K5_r : Row failE 41 w.heap.size F [abk (some ⟨b5, 0, none⟩), one b1] w3 (some ⟨b5, 0, none⟩) 1 [(⟨(Sl.mk none 0 ([])), (Sl.mk none 0 ([]))⟩ : Fail)] := row_of_blk K5 [(⟨(Sl.mk none 0 ([])), (Sl.mk none 0 ([]))⟩ : Fail)] 1 rfl (by decide) (by decide) rfl (by omega) (by intro x hx; simp only [List.mem_cons, List.not_mem_nil, or_false] at hx; subst hx; exact Enc.tr (failE) we5_0 TT)
 clear K5 hCs TT G we5_0
 refine qa S rfl ?_; clear S a; intro a S
 refine qt ?_
 refine qs ?_
 refine seq_new S rfl rfl (by decide) (fun b => .slice (some ⟨b, 0, none⟩) 1 1) (cs := [.slice none 0 0]) (x_bsl [(0, .slice none 0 0)] [.slice none 0 0] Try.underlying55 infoz_22 (by decide) (by decide) (by simp only [List.map_cons, List.map_nil, show a.eval (.const (.slice none 0 0)) = .slice none 0 0 from (S.e rfl)]) (by kernel_rfl)) ?_
 clear S a; intro a w4 b6 hb6 hbs6 G K6 S; have hbl6 : b6 < w4.heap.size := by omega
 have we6_0 : (slE intE).wf (Fr F [abk (some ⟨b5, 0, none⟩), one b1]) w3.heap (Sl.mk none 0 ([] : List Int)) := sl_nil
 have hCs := C.size; have TT : Tr [abk (some ⟨b5, 0, none⟩), one b1] w3 [abk (some ⟨b6, 0, none⟩), abk (some ⟨b5, 0, none⟩), one b1] w4 := Tr.freshRow C.ms hb6 hbl6 G
 replace t_w := Enc.tr (topoE) t_w TT
 replace K1 := Blk.tr0 K1 G
 replace K5_r := Row.tr0 K5_r TT G
 replace C := C.trans TT
 have K6_r : Row (slE intE) 22 w.heap.size F [abk (some ⟨b6, 0, none⟩), abk (some ⟨b5, 0, none⟩), one b1] w4 (some ⟨b6, 0, none⟩) 1 [(Sl.mk none 0 ([] : List Int))] := row_of_blk K6 [(Sl.mk none 0 ([] : List Int))] 1 rfl (by decide) (by decide) rfl (by omega) (by intro x hx; simp only [List.mem_cons, List.not_mem_nil, or_false] at hx; subst hx; exact Enc.tr (slE intE) we6_0 TT)
 clear K6 hCs TT G we6_0
 refine qa S rfl ?_; clear S a; intro a S
 refine qt ?_
 refine wp_seq ?_
 refine qs ?_
 refine qa S rfl ?_; clear S a; intro a S
 refine qt ?_
 refine wp_block ?_
 refine wp_loop_ghost (fun m a wr => ∃ z : Nat, ∃ o1_a : Option Addr, ∃ o1_c : Nat, ∃ o1 : List Fail, ∃ lv_a : Option Addr, ∃ lv_c : Nat, ∃ lv : List (Sl Int), Slots 79 [(1, pT b1 0), (2, .slice none 0 0), (3, iN (t.devs.xs.length + t.links.xs.length)), (6, iN (z + 1)), (4, .slice o1_a o1.length o1_c), (5, .slice lv_a lv.length lv_c)] a ∧ Tr [abk (some ⟨b6, 0, none⟩), abk (some ⟨b5, 0, none⟩), one b1] w4 [abk lv_a, abk o1_a, one b1] wr ∧ ((z : Int) ≤ t.tol ∧ lv.map (fun l => l.xs) = lev (elems t) z ∧ o1.map keyF = (outTo (elems t) z).map (keyOf t.devs.xs.length)) ∧ Blk wr.heap b1 (tL t) 28 ∧ Row failE 41 w.heap.size F [abk lv_a, abk o1_a, one b1] wr o1_a o1_c o1 ∧ Row (slE intE) 22 w.heap.size F [abk lv_a, abk o1_a, one b1] wr lv_a lv_c lv ∧ (2 - z) = m) (2 - 0) ?_ ?_
 ·refine ⟨0, (some ⟨b5, 0, none⟩), 1, [(⟨(Sl.mk none 0 ([])), (Sl.mk none 0 ([]))⟩ : Fail)], (some ⟨b6, 0, none⟩), 1, [(Sl.mk none 0 ([] : List Int))], S.sub ⟨rfl, rfl, rfl, rfl, rfl, rfl, trivial⟩, Tr.refl C.ms, ?_, K1, K5_r, K6_r, rfl⟩
  exact ⟨by omega, rfl, rfl⟩
 rintro m a w5 ⟨z, o1_a, o1_c, o1, lv_a, lv_c, lv, S, G, hR, K1', K5_r', K6_r', rfl⟩
 clear K1; have K1 := K1'; clear K1'
 clear K5_r; have K5_r := K5_r'; clear K5_r'
 clear K6_r; have K6_r := K6_r'; clear K6_r'
 replace t_w := Enc.tr (topoE) t_w G
 replace C := C.trans G
 have GL0 := G; clear G
 have o1_len := K5_r.len_le; simp only [maxLen] at o1_len
 have lv_len := K6_r.len_le; simp only [maxLen] at lv_len
 obtain ⟨hz, hlv, ho⟩ := hR
 have hlvl := congrArg List.length hlv; rw [List.length_map] at hlvl
 have hol := congrArg List.length ho; rw [List.length_map, List.length_map] at hol
 have hob := outTo_len (n := elems t) (s := z) (by omega) (by omega)
 refine wp_seq ?_
 refine qs ?_
 refine qm S rfl ?_; clear S a; intro a S
 refine qv S (pT b1 (0 + 4)) (x_fld (z := 0) (0) 4 Try.underlying28 rfl rfl (by kernel_rfl) (S.e rfl)) ?_; clear S a; intro a S
 refine qv S (iI t.tol) (x_load ⟨_, Try.underlying3, rfl⟩ (S.e rfl) (K1.cell (j := 4) rfl)) ?_; clear S a; intro a S
 refine qv S (bD ((((z + 1) : Nat) : Int) ≤ t.tol)) (x_leq (S.e rfl) (S.e rfl)) ?_; clear S a; intro a S
 refine qt ?_
 refine cond_dec S rfl ?_ ?_
 ·intro hc2
  refine wp_skip ?_
  refine then_n ?_
  refine wp_seq ?_
  refine wp_block ?_
  refine qs ?_
  refine qa S rfl ?_; clear S a; intro a S
  refine qt ?_
  refine wp_seq ?_
  refine qs ?_
  refine qm S rfl ?_; clear S a; intro a S
  refine qv S (iN lv.length) (x_len Try.underlying55 (S.e rfl)) ?_; clear S a; intro a S
  refine qm S rfl ?_; clear S a; intro a S
  refine qt ?_
  refine wp_block ?_
  have W7 := Row.nil (slE intE) 22 w.heap.size F [abk none, abk lv_a, abk o1_a, one b1] w5
  have TT : Tr [abk lv_a, abk o1_a, one b1] w5 [abk none, abk lv_a, abk o1_a, one b1] w5 := (Tr.refl C.ms).cons (b := abk none) (fun k e => absurd e abk_none); have G : Ch (In []) w5 w5 := Ch.refl _
  replace t_w := Enc.tr (topoE) t_w TT
  replace K1 := Blk.tr0 K1 G
  replace K5_r := Row.tr0 K5_r TT G
  replace K6_r := Row.tr0 K6_r TT G
  replace GL0 := GL0.trans TT
  replace C := C.trans TT
  clear TT G
  refine wp_loop_ghost (fun m a wr => ∃ j : Nat, ∃ nx_a : Option Addr, ∃ nx_c : Nat, ∃ nx : List (Sl Int), Slots 79 [(1, pT b1 0), (2, .slice none 0 0), (3, iN (t.devs.xs.length + t.links.xs.length)), (6, iN (z + 1)), (4, .slice o1_a o1.length o1_c), (5, .slice lv_a lv.length lv_c), (27, iN (z + 1)), (28, pT b1 (0 + 4)), (29, iI t.tol), (30, bD ((((z + 1) : Nat) : Int) ≤ t.tol)), (33, .slice lv_a lv.length lv_c), (34, iN lv.length), (35, iN j), (7, .slice nx_a nx.length nx_c)] a ∧ Tr [abk none, abk lv_a, abk o1_a, one b1] w5 [abk nx_a, abk lv_a, abk o1_a, one b1] wr ∧ (j ≤ (lev (elems t) z).length ∧ nx.map (fun l => l.xs) = ((lev (elems t) z).take j).flatMap (fun l => nxTo l (elems t))) ∧ Blk wr.heap b1 (tL t) 28 ∧ Row failE 41 w.heap.size F [abk nx_a, abk lv_a, abk o1_a, one b1] wr o1_a o1_c o1 ∧ Row (slE intE) 22 w.heap.size F [abk nx_a, abk lv_a, abk o1_a, one b1] wr lv_a lv_c lv ∧ Row (slE intE) 22 w.heap.size F [abk nx_a, abk lv_a, abk o1_a, one b1] wr nx_a nx_c nx ∧ ((lev (elems t) z).length - j) = m) ((lev (elems t) z).length - 0) ?_ ?_
  ·refine ⟨0, none, 0, [], S.sub ⟨rfl, rfl, rfl, rfl, rfl, rfl, rfl, rfl, rfl, rfl, rfl, rfl, rfl, rfl, trivial⟩, Tr.refl C.ms, ?_, K1, K5_r, K6_r, W7, rfl⟩
   exact ⟨Nat.zero_le _, rfl⟩
  rintro m a w6 ⟨j, nx_a, nx_c, nx, S, G, hR, K1', K5_r', K6_r', W7', rfl⟩
  clear K1; have K1 := K1'; clear K1'
  clear K5_r; have K5_r := K5_r'; clear K5_r'
  clear K6_r; have K6_r := K6_r'; clear K6_r'
  clear W7; have W7 := W7'; clear W7'
  replace t_w := Enc.tr (topoE) t_w G
  replace GL0 := GL0.trans G
  replace C := C.trans G
  have GL1 := G; clear G
  have nx_len := W7.len_le; simp only [maxLen] at nx_len
  obtain ⟨hj, hnx⟩ := hR
  have hnl := congrArg List.length hnx; rw [List.length_map] at hnl
  have hnb := levnx_len (n := elems t) (s := z) (j := j) (by omega) (by omega)
  refine qs ?_
  refine qv S (bD (((j : Nat) : Int) < ((lv.length : Nat) : Int))) (x_lss (S.e rfl) (S.e rfl)) ?_; clear S a; intro a S
  refine qt ?_
  refine wp_seq ?_
  refine cond_dec S rfl ?_ ?_
  ·intro hc3
   have hLL : (lv.getD j (slE intE).dflt).xs = (lev (elems t) z).getD j [] := by rw [← hlv]; exact (getD_map (f := fun l : Sl Int => l.xs) (by omega) []).symm
   have hLm : (lev (elems t) z).getD j [] ∈ lev (elems t) z := getD_mem (by omega)
   rw [← hLL] at hLm
   have hLl := lev_mem hLm
   have hLf := firstOf_le hLm
   refine wp_skip ?_
   refine then_n ?_
   refine wp_seq ?_
   refine wp_block ?_
   refine qs ?_
   refine qv S (pT (blk lv_a) (0 + j * 1)) (x_idx Try.underlying55 (by kernel_rfl) (S.e rfl) (S.e rfl) j rfl (by omega) (row_off K6_r (m := j) (by omega))) ?_; clear S a; intro a S
   have hn8 : ((lv.getD j (slE intE).dflt).xs).length ≤ 9223372036854775807 := ((K6_r.wfi j (by omega))).1.len
   refine qv S (sV (lv.getD j (slE intE).dflt)) (x_load ⟨_, Try.underlying22, rfl⟩ (S.e rfl) ((K6_r.latz (by first | decide | exact Nat.one_pos)).cell j (by omega) 0 _ rfl)) ?_; clear S a; intro a S
   refine qa S rfl ?_; clear S a; intro a S
   refine qt ?_
   refine qs ?_
   refine qa S rfl ?_; clear S a; intro a S
   refine qt ?_
   refine wp_seq ?_
   refine qs ?_
   refine qm S rfl ?_; clear S a; intro a S
   refine qv S (iN (lv.getD j (slE intE).dflt).xs.length) (x_len Try.underlying22 (S.e rfl)) ?_; clear S a; intro a S
   refine qv S (bD (0 < (((lv.getD j (slE intE).dflt).xs.length : Nat) : Int))) (x_gtr (S.e rfl) (S.e rfl)) ?_; clear S a; intro a S
   refine qt ?_
   refine cond_dec S rfl ?_ ?_
   ·intro hc4
    have hx := hLl.2 _ (getD_mem (d := intE.dflt) (i := ((((lv.getD j (slE intE).dflt).xs.length : Nat) : Int) - 1).toNat) (by omega))
    refine wp_region_lit ?_
    refine qm S rfl ?_; clear S a; intro a S
    refine qm S rfl ?_; clear S a; intro a S
    refine qv S (iN (lv.getD j (slE intE).dflt).xs.length) (x_len Try.underlying22 (S.e rfl)) ?_; clear S a; intro a S
    refine qv S (iI ((((lv.getD j (slE intE).dflt).xs.length : Nat) : Int) - 1)) (x_sub (S.e rfl) (S.e rfl) (r := ((((lv.getD j (slE intE).dflt).xs.length : Nat) : Int) - 1)) (w_i64 (by omega))) ?_; clear S a; intro a S
    refine qv S (pT (blk ((lv.getD j (slE intE).dflt).a)) (off ((lv.getD j (slE intE).dflt).a) + (((((lv.getD j (slE intE).dflt).xs.length : Nat) : Int) - 1)).toNat * 1)) (x_idx Try.underlying22 (by kernel_rfl) (S.e rfl) (S.e rfl) (((((lv.getD j (slE intE).dflt).xs.length : Nat) : Int) - 1)).toNat (by omega) (by omega) (((K6_r.wfi j (by omega))).1.adr (i := (((((lv.getD j (slE intE).dflt).xs.length : Nat) : Int) - 1)).toNat) (by omega))) ?_; clear S a; intro a S
    obtain ⟨hl9, hu9⟩ : inI64 (((lv.getD j (slE intE).dflt).xs).getD ((((((lv.getD j (slE intE).dflt).xs.length : Nat) : Int) - 1)).toNat) intE.dflt) := id (((K6_r.wfi j (by omega))).1.wf (((((lv.getD j (slE intE).dflt).xs.length : Nat) : Int) - 1)).toNat (by omega))
    refine qv S (iI (((lv.getD j (slE intE).dflt).xs).getD ((((((lv.getD j (slE intE).dflt).xs.length : Nat) : Int) - 1)).toNat) intE.dflt)) (x_load ⟨_, Try.underlying3, rfl⟩ (S.e rfl) (((K6_r.wfi j (by omega))).1.cell (((((lv.getD j (slE intE).dflt).xs.length : Nat) : Int) - 1)).toNat (by omega) 0 _ rfl)) ?_; clear S a; intro a S
    refine qv S (iI ((((lv.getD j (slE intE).dflt).xs).getD ((((((lv.getD j (slE intE).dflt).xs.length : Nat) : Int) - 1)).toNat) intE.dflt) + 1)) (x_add (S.e rfl) (S.e rfl) (r := ((((lv.getD j (slE intE).dflt).xs).getD ((((((lv.getD j (slE intE).dflt).xs.length : Nat) : Int) - 1)).toNat) intE.dflt) + 1)) (w_i64 (by omega))) ?_; clear S a; intro a S
    refine qa S rfl ?_; clear S a; intro a S
    refine qt ?_
    refine qs ?_
    refine qm S rfl ?_; clear S a; intro a S
    refine qa S rfl ?_; clear S a; intro a S
    refine qt ?_
    refine wp_block ?_
    have hf := firstOf_pos (l := (lv.getD j (slE intE).dflt).xs) (by omega) (fun x hx => (hLl.2 x hx).1)
    have hf2 : ((((lv.getD j (slE intE).dflt).xs).getD ((((((lv.getD j (slE intE).dflt).xs.length : Nat) : Int) - 1)).toNat) intE.dflt) + 1) = ((firstOf (lv.getD j (slE intE).dflt).xs : Nat) : Int) := by
     rw [hf, show ((((lv.getD j (slE intE).dflt).xs.length : Nat) : Int) - 1).toNat = (lv.getD j (slE intE).dflt).xs.length - 1 from by omega]; rfl
    refine wp_loop_ghost (fun m a wr => ∃ e : Int, ∃ n2_a : Option Addr, ∃ n2_c : Nat, ∃ n2 : List (Sl Int), Slots 79 [(1, pT b1 0), (2, .slice none 0 0), (3, iN (t.devs.xs.length + t.links.xs.length)), (6, iN (z + 1)), (4, .slice o1_a o1.length o1_c), (5, .slice lv_a lv.length lv_c), (27, iN (z + 1)), (28, pT b1 (0 + 4)), (29, iI t.tol), (30, bD ((((z + 1) : Nat) : Int) ≤ t.tol)), (33, .slice lv_a lv.length lv_c), (34, iN lv.length), (35, iN j), (36, bD (((j : Nat) : Int) < ((lv.length : Nat) : Int))), (37, pT (blk lv_a) (0 + j * 1)), (38, sV (lv.getD j (slE intE).dflt)), (9, sV (lv.getD j (slE intE).dflt)), (10, iI ((((lv.getD j (slE intE).dflt).xs).getD ((((((lv.getD j (slE intE).dflt).xs.length : Nat) : Int) - 1)).toNat) intE.dflt) + 1)), (39, sV (lv.getD j (slE intE).dflt)), (40, iN (lv.getD j (slE intE).dflt).xs.length), (41, bD (0 < (((lv.getD j (slE intE).dflt).xs.length : Nat) : Int))), (42, sV (lv.getD j (slE intE).dflt)), (43, sV (lv.getD j (slE intE).dflt)), (44, iN (lv.getD j (slE intE).dflt).xs.length), (45, iI ((((lv.getD j (slE intE).dflt).xs.length : Nat) : Int) - 1)), (46, pT (blk ((lv.getD j (slE intE).dflt).a)) (off ((lv.getD j (slE intE).dflt).a) + (((((lv.getD j (slE intE).dflt).xs.length : Nat) : Int) - 1)).toNat * 1)), (47, iI (((lv.getD j (slE intE).dflt).xs).getD ((((((lv.getD j (slE intE).dflt).xs.length : Nat) : Int) - 1)).toNat) intE.dflt)), (48, iI ((((lv.getD j (slE intE).dflt).xs).getD ((((((lv.getD j (slE intE).dflt).xs.length : Nat) : Int) - 1)).toNat) intE.dflt) + 1)), (49, iI ((((lv.getD j (slE intE).dflt).xs).getD ((((((lv.getD j (slE intE).dflt).xs.length : Nat) : Int) - 1)).toNat) intE.dflt) + 1)), (11, iI e), (7, .slice n2_a n2.length n2_c)] a ∧ Tr [abk nx_a, abk lv_a, abk o1_a, one b1] w6 [abk n2_a, abk lv_a, abk o1_a, one b1] wr ∧ (((firstOf (lv.getD j (slE intE).dflt).xs : Nat) : Int) ≤ e ∧ e ≤ elems t ∧ n2.map (fun l => l.xs) = ((lev (elems t) z).take j).flatMap (fun l => nxTo l (elems t)) ++ nxTo (lv.getD j (slE intE).dflt).xs e.toNat) ∧ Blk wr.heap b1 (tL t) 28 ∧ Row failE 41 w.heap.size F [abk n2_a, abk lv_a, abk o1_a, one b1] wr o1_a o1_c o1 ∧ Row (slE intE) 22 w.heap.size F [abk n2_a, abk lv_a, abk o1_a, one b1] wr lv_a lv_c lv ∧ Row (slE intE) 22 w.heap.size F [abk n2_a, abk lv_a, abk o1_a, one b1] wr n2_a n2_c n2 ∧ (((elems t : Int) - e).toNat) = m) (((elems t : Int) - ((((lv.getD j (slE intE).dflt).xs).getD ((((((lv.getD j (slE intE).dflt).xs.length : Nat) : Int) - 1)).toNat) intE.dflt) + 1)).toNat) ?_ ?_
    ·refine ⟨((((lv.getD j (slE intE).dflt).xs).getD ((((((lv.getD j (slE intE).dflt).xs.length : Nat) : Int) - 1)).toNat) intE.dflt) + 1), nx_a, nx_c, nx, S.sub ⟨rfl, rfl, rfl, rfl, rfl, rfl, rfl, rfl, rfl, rfl, rfl, rfl, rfl, rfl, rfl, rfl, rfl, rfl, rfl, rfl, rfl, rfl, rfl, rfl, rfl, rfl, rfl, rfl, rfl, rfl, rfl, trivial⟩, Tr.refl C.ms, ?_, K1, K5_r, K6_r, W7, rfl⟩
     refine ⟨by omega, by omega, ?_⟩
     rw [show (((((lv.getD j (slE intE).dflt).xs).getD ((((((lv.getD j (slE intE).dflt).xs.length : Nat) : Int) - 1)).toNat) intE.dflt) + 1) : Int).toNat = firstOf (lv.getD j (slE intE).dflt).xs from by omega, nxTo_nil, List.append_nil]; exact hnx
    rintro m a w7 ⟨e, n2_a, n2_c, n2, S, G, hR, K1', K5_r', K6_r', W7', rfl⟩
    clear K1; have K1 := K1'; clear K1'
    clear K5_r; have K5_r := K5_r'; clear K5_r'
    clear K6_r; have K6_r := K6_r'; clear K6_r'
    clear W7; have W7 := W7'; clear W7'
    replace t_w := Enc.tr (topoE) t_w G
    replace GL0 := GL0.trans G
    replace GL1 := GL1.trans G
    replace C := C.trans G
    have GL2 := G; clear G
    have n2_len := W7.len_le; simp only [maxLen] at n2_len
    obtain ⟨he, he2, hn2⟩ := hR
    have hn2l := congrArg List.length hn2; rw [List.length_map, List.length_append] at hn2l
    have hn2b := nxTo_len (lv.getD j (slE intE).dflt).xs e.toNat
    refine wp_seq ?_
    refine qs ?_
    refine qm S rfl ?_; clear S a; intro a S
    refine qm S rfl ?_; clear S a; intro a S
    refine qv S (bD (e < ((t.devs.xs.length + t.links.xs.length : Nat) : Int))) (x_lss (S.e rfl) (S.e rfl)) ?_; clear S a; intro a S
    refine qt ?_
    refine cond_dec S rfl ?_ ?_
    ·intro hc5
     refine wp_skip ?_
     refine then_n ?_
     refine wp_seq ?_
     refine wp_block ?_
     refine wp_region_lit ?_
     refine qm S rfl ?_; clear S a; intro a S
     refine qm S rfl ?_; clear S a; intro a S
     refine seq_call S (by decide) (vs := #[sV (lv.getD j (slE intE).dflt)]) rfl callable_51 (sClone _ (Ex F _) (C.old hF)  (MS.nil _) (lv.getD j (slE intE).dflt) ((slE intE).down0 (K6_r.wfi j (by omega))) (by first | omega | (simp only [List.length_cons, List.length_nil]; omega))) ?_
     rintro e w8 ⟨ra_10, rc_10, rfl, R_10, T0⟩; refine ⟨_, rfl, ?_⟩; clear S a; intro a S
     have TT : Tr [abk n2_a, abk lv_a, abk o1_a, one b1] w7 [abk ra_10, abk n2_a, abk lv_a, abk o1_a, one b1] w8 := Tr.frame (nw := [abk ra_10]) C.ms T0 (fun _ h => by simp at h); have G := T0.ch; have hCs := C.size
     replace R_10 := Row.up R_10 hCs
     replace t_w := Enc.tr (topoE) t_w TT
     replace K1 := Blk.tr0 K1 G
     replace K5_r := Row.tr0 K5_r TT G
     replace K6_r := Row.tr0 K6_r TT G
     replace W7 := Row.tr0 W7 TT G
     replace GL0 := GL0.trans TT
     replace GL1 := GL1.trans TT
     replace GL2 := GL2.trans TT
     replace C := C.trans TT
     clear T0 G TT
     refine qm S rfl ?_; clear S a; intro a S
     refine seq_new S rfl rfl (by decide) (fun b => .slice (some ⟨b, 0, none⟩) 1 1) (cs := [iI e]) (x_bsl [(0, iI e)] [iI e] Try.underlying22 infoz_3 (by decide) (by decide) (by simp only [List.map_cons, List.map_nil, show a.eval (.tmp 58) = iI e from (S.e rfl)]) (by kernel_rfl)) ?_
     clear S a; intro a w9 b11 hb11 hbs11 G K11 S; have hbl11 : b11 < w9.heap.size := by omega
     have we11_0 : intE.wf (Fr F [abk ra_10, abk n2_a, abk lv_a, abk o1_a, one b1]) w8.heap e := (show inI64 e from ⟨by omega, by omega⟩)
     have hfr11 := fr_fresh C hF hb11; have TT := Tr.of_ch0 C.ms G
     replace t_w := Enc.tr (topoE) t_w TT
     replace K1 := Blk.tr0 K1 G
     replace K5_r := Row.tr0 K5_r TT G
     replace K6_r := Row.tr0 K6_r TT G
     replace W7 := Row.tr0 W7 TT G
     replace R_10 := Row.tr0 R_10 TT G
     replace GL0 := GL0.trans TT
     replace GL1 := GL1.trans TT
     replace GL2 := GL2.trans TT
     replace C := C.trans TT
     have KS11 : (slE intE).wf (Fr F [abk ra_10, abk n2_a, abk lv_a, abk o1_a, one b1]) w9.heap ⟨some ⟨b11, 0, none⟩, 1, [e]⟩ := sl_of_blk K11 [e] 1 rfl (by decide) (by decide) rfl hfr11 (by intro x hx; simp only [List.mem_cons, List.not_mem_nil, or_false] at hx; subst hx; exact Enc.tr (intE) we11_0 TT)
     clear K11 hfr11 TT G we11_0
     refine seq_op rfl (op_append (E := intE) [] [abk n2_a, abk lv_a, abk o1_a, one b1] (.tmp 57) (.tmp 59) 22 rfl zero_3 8 Try.underlying22 infoz_3 rfl (by decide) rfl C.ms (S.e rfl) R_10 ([e]) (some ⟨b11, 0, none⟩) 1 (S.e rfl) (show LAt intE _ _ (some ⟨b11, 0, none⟩) ([e]) from (KS11).1) (KS11).2.2 (LAt.mem (show LAt intE _ _ (some ⟨b11, 0, none⟩) ([e]) from (KS11).1)) (by unfold maxLen; (try simp only [List.length_cons, List.length_nil, List.length_append, List.length_map]); omega) (by (try simp only [List.length_cons, List.length_nil, List.length_append, List.length_map]); omega) (C.size) ?_)
     intro ad12 cap12 w10 Rn TT G
     have S1 := S.put (d := 60) (v := .slice ad12 ((lv.getD j (slE intE).dflt).xs ++ [e]).length cap12) (by decide); clear S; revert S1; generalize Act.put a _ _ = a1; intro S; clear a; rename Act => a
     replace TT : Tr [abk ra_10, abk n2_a, abk lv_a, abk o1_a, one b1] w9 [abk ad12, abk n2_a, abk lv_a, abk o1_a, one b1] w10 := TT; replace Rn : Row intE 3 w.heap.size F [abk ad12, abk n2_a, abk lv_a, abk o1_a, one b1] w10 ad12 cap12 ((lv.getD j (slE intE).dflt).xs ++ [e]) := Rn
     replace t_w := Enc.tr (topoE) t_w TT
     replace K1 := Blk.tr K1 G (C.ms.sep.out 4 [0] rfl rfl rfl)
     replace K5_r := Row.tr K5_r TT G (fun k e => C.ms.sep.out 3 [0] rfl rfl e)
     replace K6_r := Row.tr K6_r TT G (fun k e => C.ms.sep.out 2 [0] rfl rfl e)
     replace W7 := Row.tr W7 TT G (fun k e => C.ms.sep.out 1 [0] rfl rfl e)
     replace KS11 := Enc.tr (slE intE) KS11 TT
     replace GL0 := GL0.trans TT
     replace GL1 := GL1.trans TT
     replace GL2 := GL2.trans TT
     replace C := C.trans TT
     clear R_10; have R_10 := Rn; clear Rn TT G
     have FR_10 := Row.freeze (pre := []) (post := [abk n2_a, abk lv_a, abk o1_a, one b1]) rfl C.ms R_10 (by first | decide | exact Nat.one_pos) (R_10.notF hF (Nat.le_refl _))
     have TF := Tr.leave (pre := []) (o := abk ad12) (post := [abk n2_a, abk lv_a, abk o1_a, one b1]) C.ms
     have GF : Ch (In []) w10 w10 := Ch.refl _
     replace t_w := Enc.tr (topoE) t_w TF
     replace K1 := Blk.tr0 K1 GF
     replace K5_r := Row.tr0 K5_r TF GF
     replace K6_r := Row.tr0 K6_r TF GF
     replace W7 := Row.tr0 W7 TF GF
     replace KS11 := Enc.tr (slE intE) KS11 TF
     replace GL0 := GL0.trans TF
     replace GL1 := GL1.trans TF
     replace GL2 := GL2.trans TF
     replace C := C.trans TF
     replace FR_10 : (slE intE).wf (Fr F [abk n2_a, abk lv_a, abk o1_a, one b1]) w10.heap ⟨ad12, cap12, ((lv.getD j (slE intE).dflt).xs ++ [e])⟩ := FR_10; clear R_10
     refine seq_new S rfl rfl (by decide) (fun b => .slice (some ⟨b, 0, none⟩) 1 1) (cs := [.slice ad12 (((lv.getD j (slE intE).dflt).xs ++ [e]).length) cap12]) (x_bsl [(0, .slice ad12 (((lv.getD j (slE intE).dflt).xs ++ [e]).length) cap12)] [.slice ad12 (((lv.getD j (slE intE).dflt).xs ++ [e]).length) cap12] Try.underlying55 infoz_22 (by decide) (by decide) (by simp only [List.map_cons, List.map_nil, show a.eval (.tmp 60) = .slice ad12 (((lv.getD j (slE intE).dflt).xs ++ [e]).length) cap12 from (S.e rfl)]) (by kernel_rfl)) ?_
     clear S a; intro a w11 b13 hb13 hbs13 G K13 S; have hbl13 : b13 < w11.heap.size := by omega
     have we13_0 : (slE intE).wf (Fr F [abk n2_a, abk lv_a, abk o1_a, one b1]) w10.heap (Sl.mk ad12 cap12 ((lv.getD j (slE intE).dflt).xs ++ [e])) := FR_10
     have hfr13 := fr_fresh C hF hb13; have TT := Tr.of_ch0 C.ms G
     replace t_w := Enc.tr (topoE) t_w TT
     replace K1 := Blk.tr0 K1 G
     replace K5_r := Row.tr0 K5_r TT G
     replace K6_r := Row.tr0 K6_r TT G
     replace W7 := Row.tr0 W7 TT G
     replace KS11 := Enc.tr (slE intE) KS11 TT
     replace FR_10 := Enc.tr (slE intE) FR_10 TT
     replace GL0 := GL0.trans TT
     replace GL1 := GL1.trans TT
     replace GL2 := GL2.trans TT
     replace C := C.trans TT
     have KS13 : (slE (slE intE)).wf (Fr F [abk n2_a, abk lv_a, abk o1_a, one b1]) w11.heap ⟨some ⟨b13, 0, none⟩, 1, [(Sl.mk ad12 cap12 ((lv.getD j (slE intE).dflt).xs ++ [e]))]⟩ := sl_of_blk K13 [(Sl.mk ad12 cap12 ((lv.getD j (slE intE).dflt).xs ++ [e]))] 1 rfl (by decide) (by decide) rfl hfr13 (by intro x hx; simp only [List.mem_cons, List.not_mem_nil, or_false] at hx; subst hx; exact Enc.tr (slE intE) we13_0 TT)
     clear K13 hfr13 TT G we13_0
     refine seq_op rfl (op_append (E := (slE intE)) [] [abk lv_a, abk o1_a, one b1] (.tmp 55) (.tmp 61) 55 rfl zero_22 24 Try.underlying55 infoz_22 rfl (by decide) rfl C.ms (S.e rfl) W7 ([(Sl.mk ad12 cap12 ((lv.getD j (slE intE).dflt).xs ++ [e]))]) (some ⟨b13, 0, none⟩) 1 (S.e rfl) (show LAt (slE intE) _ _ (some ⟨b13, 0, none⟩) ([(Sl.mk ad12 cap12 ((lv.getD j (slE intE).dflt).xs ++ [e]))]) from (KS13).1) (KS13).2.2 (LAt.mem (show LAt (slE intE) _ _ (some ⟨b13, 0, none⟩) ([(Sl.mk ad12 cap12 ((lv.getD j (slE intE).dflt).xs ++ [e]))]) from (KS13).1)) (by unfold maxLen; (try simp only [List.length_cons, List.length_nil, List.length_append, List.length_map]); omega) (by (try simp only [List.length_cons, List.length_nil, List.length_append, List.length_map]); omega) (C.size) ?_)
     intro ad14 cap14 w12 Rn TT G
     have S1 := S.put (d := 62) (v := .slice ad14 (n2 ++ [(Sl.mk ad12 cap12 ((lv.getD j (slE intE).dflt).xs ++ [e]))]).length cap14) (by decide); clear S; revert S1; generalize Act.put a _ _ = a1; intro S; clear a; rename Act => a
     replace TT : Tr [abk n2_a, abk lv_a, abk o1_a, one b1] w11 [abk ad14, abk lv_a, abk o1_a, one b1] w12 := TT; replace Rn : Row (slE intE) 22 w.heap.size F [abk ad14, abk lv_a, abk o1_a, one b1] w12 ad14 cap14 (n2 ++ [(Sl.mk ad12 cap12 ((lv.getD j (slE intE).dflt).xs ++ [e]))]) := Rn
     replace t_w := Enc.tr (topoE) t_w TT
     replace K1 := Blk.tr K1 G (C.ms.sep.out 3 [0] rfl rfl rfl)
     replace K5_r := Row.tr K5_r TT G (fun k e => C.ms.sep.out 2 [0] rfl rfl e)
     replace K6_r := Row.tr K6_r TT G (fun k e => C.ms.sep.out 1 [0] rfl rfl e)
     replace KS11 := Enc.tr (slE intE) KS11 TT
     replace FR_10 := Enc.tr (slE intE) FR_10 TT
     replace KS13 := Enc.tr (slE (slE intE)) KS13 TT
     replace GL0 := GL0.trans TT
     replace GL1 := GL1.trans TT
     replace GL2 := GL2.trans TT
     replace C := C.trans TT
     clear W7; have W7 := Rn; clear Rn TT G
     refine qa S rfl ?_; clear S a; intro a S
     refine wpList_nil ?_
     refine blk_n ?_
     refine then_n ?_
     refine wp_region_lit ?_
     refine qm S rfl ?_; clear S a; intro a S
     refine qv S (iI (e + 1)) (x_add (S.e rfl) (S.e rfl) (r := (e + 1)) (w_i64 (by omega))) ?_; clear S a; intro a S
     refine qa S rfl ?_; clear S a; intro a S
     refine qt ?_
     refine ⟨((elems t : Int) - (e + 1)).toNat, ?_, (e + 1), ad14, cap14, (n2 ++ [(Sl.mk ad12 cap12 ((lv.getD j (slE intE).dflt).xs ++ [e]))]), S.sub ⟨rfl, rfl, rfl, rfl, rfl, rfl, rfl, rfl, rfl, rfl, rfl, rfl, rfl, rfl, rfl, rfl, rfl, rfl, rfl, rfl, rfl, rfl, rfl, rfl, rfl, rfl, rfl, rfl, rfl, rfl, (by first | rfl | (simp only [List.length_set]; rfl)), trivial⟩, GL2, ?_, K1, K5_r, K6_r, W7, rfl⟩
     ·omega
     refine ⟨by omega, by omega, ?_⟩
     rw [List.map_append, hn2, show (e + 1).toNat = e.toNat + 1 from by omega, nxTo_snoc (by omega), ← List.append_assoc, show ((e.toNat : Nat) : Int) = e from by omega]; rfl
    intro hc6
    refine wp_exit ?_
    refine then_e ?_
    refine then_e ?_
    refine blk_e ?_
    refine blk_n ?_
    refine then_n ?_
    refine wp_region_lit ?_
    refine qv S (iN (j + 1)) (x_add (S.e rfl) (S.e rfl) (r := ((j + 1 : Nat) : Int)) (w_i64 (by omega))) ?_; clear S a; intro a S
    refine qm S rfl ?_; clear S a; intro a S
    refine qt ?_
    refine ⟨(lev (elems t) z).length - (j + 1), ?_, (j + 1), n2_a, n2_c, n2, S.sub ⟨rfl, rfl, rfl, rfl, rfl, rfl, rfl, rfl, rfl, rfl, rfl, rfl, rfl, (by first | rfl | (simp only [List.length_set]; rfl)), trivial⟩, GL1, ?_, K1, K5_r, K6_r, W7, rfl⟩
    ·omega
    refine ⟨by omega, ?_⟩
    rw [hn2, flat_snocD [] (by omega), ← hLL, show e.toNat = elems t from by omega]
   intro hc7
   refine wp_skip ?_
   refine then_n ?_
   refine qs ?_
   refine qm S rfl ?_; clear S a; intro a S
   refine qa S rfl ?_; clear S a; intro a S
   refine qt ?_
   refine wp_block ?_
   have hf2 : (0 : Int) = ((firstOf (lv.getD j (slE intE).dflt).xs : Nat) : Int) := by
    rw [show (lv.getD j (slE intE).dflt).xs = [] from List.length_eq_zero_iff.1 (by omega)]; rfl
   refine wp_loop_ghost (fun m a wr => ∃ e : Int, ∃ n2_a : Option Addr, ∃ n2_c : Nat, ∃ n2 : List (Sl Int), Slots 79 [(1, pT b1 0), (2, .slice none 0 0), (3, iN (t.devs.xs.length + t.links.xs.length)), (6, iN (z + 1)), (4, .slice o1_a o1.length o1_c), (5, .slice lv_a lv.length lv_c), (27, iN (z + 1)), (28, pT b1 (0 + 4)), (29, iI t.tol), (30, bD ((((z + 1) : Nat) : Int) ≤ t.tol)), (33, .slice lv_a lv.length lv_c), (34, iN lv.length), (35, iN j), (36, bD (((j : Nat) : Int) < ((lv.length : Nat) : Int))), (37, pT (blk lv_a) (0 + j * 1)), (38, sV (lv.getD j (slE intE).dflt)), (9, sV (lv.getD j (slE intE).dflt)), (10, iI 0), (39, sV (lv.getD j (slE intE).dflt)), (40, iN (lv.getD j (slE intE).dflt).xs.length), (41, bD (0 < (((lv.getD j (slE intE).dflt).xs.length : Nat) : Int))), (49, iI 0), (11, iI e), (7, .slice n2_a n2.length n2_c)] a ∧ Tr [abk nx_a, abk lv_a, abk o1_a, one b1] w6 [abk n2_a, abk lv_a, abk o1_a, one b1] wr ∧ (((firstOf (lv.getD j (slE intE).dflt).xs : Nat) : Int) ≤ e ∧ e ≤ elems t ∧ n2.map (fun l => l.xs) = ((lev (elems t) z).take j).flatMap (fun l => nxTo l (elems t)) ++ nxTo (lv.getD j (slE intE).dflt).xs e.toNat) ∧ Blk wr.heap b1 (tL t) 28 ∧ Row failE 41 w.heap.size F [abk n2_a, abk lv_a, abk o1_a, one b1] wr o1_a o1_c o1 ∧ Row (slE intE) 22 w.heap.size F [abk n2_a, abk lv_a, abk o1_a, one b1] wr lv_a lv_c lv ∧ Row (slE intE) 22 w.heap.size F [abk n2_a, abk lv_a, abk o1_a, one b1] wr n2_a n2_c n2 ∧ (((elems t : Int) - e).toNat) = m) (((elems t : Int) - 0).toNat) ?_ ?_
   ·refine ⟨0, nx_a, nx_c, nx, S.sub ⟨rfl, rfl, rfl, rfl, rfl, rfl, rfl, rfl, rfl, rfl, rfl, rfl, rfl, rfl, rfl, rfl, rfl, rfl, rfl, rfl, rfl, rfl, rfl, rfl, trivial⟩, Tr.refl C.ms, ?_, K1, K5_r, K6_r, W7, rfl⟩
    refine ⟨by omega, by omega, ?_⟩
    rw [show (0 : Int).toNat = firstOf (lv.getD j (slE intE).dflt).xs from by omega, nxTo_nil, List.append_nil]; exact hnx
   rintro m a w13 ⟨e, n2_a, n2_c, n2, S, G, hR, K1', K5_r', K6_r', W7', rfl⟩
   clear K1; have K1 := K1'; clear K1'
   clear K5_r; have K5_r := K5_r'; clear K5_r'
   clear K6_r; have K6_r := K6_r'; clear K6_r'
   clear W7; have W7 := W7'; clear W7'
   replace t_w := Enc.tr (topoE) t_w G
   replace GL0 := GL0.trans G
   replace GL1 := GL1.trans G
   replace C := C.trans G
   have GL3 := G; clear G
   have n2_len := W7.len_le; simp only [maxLen] at n2_len
   obtain ⟨he, he2, hn2⟩ := hR
   have hn2l := congrArg List.length hn2; rw [List.length_map, List.length_append] at hn2l
   have hn2b := nxTo_len (lv.getD j (slE intE).dflt).xs e.toNat
   refine wp_seq ?_
   refine qs ?_
   refine qm S rfl ?_; clear S a; intro a S
   refine qm S rfl ?_; clear S a; intro a S
   refine qv S (bD (e < ((t.devs.xs.length + t.links.xs.length : Nat) : Int))) (x_lss (S.e rfl) (S.e rfl)) ?_; clear S a; intro a S
   refine qt ?_
   refine cond_dec S rfl ?_ ?_
   ·intro hc8
    refine wp_skip ?_
    refine then_n ?_
    refine wp_seq ?_
    refine wp_block ?_
    refine wp_region_lit ?_
    refine qm S rfl ?_; clear S a; intro a S
    refine qm S rfl ?_; clear S a; intro a S
    refine seq_call S (by decide) (vs := #[sV (lv.getD j (slE intE).dflt)]) rfl callable_51 (sClone _ (Ex F _) (C.old hF)  (MS.nil _) (lv.getD j (slE intE).dflt) ((slE intE).down0 (K6_r.wfi j (by omega))) (by first | omega | (simp only [List.length_cons, List.length_nil]; omega))) ?_
    rintro e w14 ⟨ra_15, rc_15, rfl, R_15, T0⟩; refine ⟨_, rfl, ?_⟩; clear S a; intro a S
    have TT : Tr [abk n2_a, abk lv_a, abk o1_a, one b1] w13 [abk ra_15, abk n2_a, abk lv_a, abk o1_a, one b1] w14 := Tr.frame (nw := [abk ra_15]) C.ms T0 (fun _ h => by simp at h); have G := T0.ch; have hCs := C.size
    replace R_15 := Row.up R_15 hCs
    replace t_w := Enc.tr (topoE) t_w TT
    replace K1 := Blk.tr0 K1 G
    replace K5_r := Row.tr0 K5_r TT G
    replace K6_r := Row.tr0 K6_r TT G
    replace W7 := Row.tr0 W7 TT G
    replace GL0 := GL0.trans TT
    replace GL1 := GL1.trans TT
    replace GL3 := GL3.trans TT
    replace C := C.trans TT
    clear T0 G TT
    refine qm S rfl ?_; clear S a; intro a S
    refine seq_new S rfl rfl (by decide) (fun b => .slice (some ⟨b, 0, none⟩) 1 1) (cs := [iI e]) (x_bsl [(0, iI e)] [iI e] Try.underlying22 infoz_3 (by decide) (by decide) (by simp only [List.map_cons, List.map_nil, show a.eval (.tmp 58) = iI e from (S.e rfl)]) (by kernel_rfl)) ?_
    clear S a; intro a w15 b16 hb16 hbs16 G K16 S; have hbl16 : b16 < w15.heap.size := by omega
    have we16_0 : intE.wf (Fr F [abk ra_15, abk n2_a, abk lv_a, abk o1_a, one b1]) w14.heap e := (show inI64 e from ⟨by omega, by omega⟩)
    have hfr16 := fr_fresh C hF hb16; have TT := Tr.of_ch0 C.ms G
    replace t_w := Enc.tr (topoE) t_w TT
    replace K1 := Blk.tr0 K1 G
    replace K5_r := Row.tr0 K5_r TT G
    replace K6_r := Row.tr0 K6_r TT G
    replace W7 := Row.tr0 W7 TT G
    replace R_15 := Row.tr0 R_15 TT G
    replace GL0 := GL0.trans TT
    replace GL1 := GL1.trans TT
    replace GL3 := GL3.trans TT
    replace C := C.trans TT
    have KS16 : (slE intE).wf (Fr F [abk ra_15, abk n2_a, abk lv_a, abk o1_a, one b1]) w15.heap ⟨some ⟨b16, 0, none⟩, 1, [e]⟩ := sl_of_blk K16 [e] 1 rfl (by decide) (by decide) rfl hfr16 (by intro x hx; simp only [List.mem_cons, List.not_mem_nil, or_false] at hx; subst hx; exact Enc.tr (intE) we16_0 TT)
    clear K16 hfr16 TT G we16_0
    refine seq_op rfl (op_append (E := intE) [] [abk n2_a, abk lv_a, abk o1_a, one b1] (.tmp 57) (.tmp 59) 22 rfl zero_3 8 Try.underlying22 infoz_3 rfl (by decide) rfl C.ms (S.e rfl) R_15 ([e]) (some ⟨b16, 0, none⟩) 1 (S.e rfl) (show LAt intE _ _ (some ⟨b16, 0, none⟩) ([e]) from (KS16).1) (KS16).2.2 (LAt.mem (show LAt intE _ _ (some ⟨b16, 0, none⟩) ([e]) from (KS16).1)) (by unfold maxLen; (try simp only [List.length_cons, List.length_nil, List.length_append, List.length_map]); omega) (by (try simp only [List.length_cons, List.length_nil, List.length_append, List.length_map]); omega) (C.size) ?_)
    intro ad17 cap17 w16 Rn TT G
    have S1 := S.put (d := 60) (v := .slice ad17 ((lv.getD j (slE intE).dflt).xs ++ [e]).length cap17) (by decide); clear S; revert S1; generalize Act.put a _ _ = a1; intro S; clear a; rename Act => a
    replace TT : Tr [abk ra_15, abk n2_a, abk lv_a, abk o1_a, one b1] w15 [abk ad17, abk n2_a, abk lv_a, abk o1_a, one b1] w16 := TT; replace Rn : Row intE 3 w.heap.size F [abk ad17, abk n2_a, abk lv_a, abk o1_a, one b1] w16 ad17 cap17 ((lv.getD j (slE intE).dflt).xs ++ [e]) := Rn
    replace t_w := Enc.tr (topoE) t_w TT
    replace K1 := Blk.tr K1 G (C.ms.sep.out 4 [0] rfl rfl rfl)
    replace K5_r := Row.tr K5_r TT G (fun k e => C.ms.sep.out 3 [0] rfl rfl e)
    replace K6_r := Row.tr K6_r TT G (fun k e => C.ms.sep.out 2 [0] rfl rfl e)
    replace W7 := Row.tr W7 TT G (fun k e => C.ms.sep.out 1 [0] rfl rfl e)
    replace KS16 := Enc.tr (slE intE) KS16 TT
    replace GL0 := GL0.trans TT
    replace GL1 := GL1.trans TT
    replace GL3 := GL3.trans TT
    replace C := C.trans TT
    clear R_15; have R_15 := Rn; clear Rn TT G
    have FR_15 := Row.freeze (pre := []) (post := [abk n2_a, abk lv_a, abk o1_a, one b1]) rfl C.ms R_15 (by first | decide | exact Nat.one_pos) (R_15.notF hF (Nat.le_refl _))
    have TF := Tr.leave (pre := []) (o := abk ad17) (post := [abk n2_a, abk lv_a, abk o1_a, one b1]) C.ms
    have GF : Ch (In []) w16 w16 := Ch.refl _
    replace t_w := Enc.tr (topoE) t_w TF
    replace K1 := Blk.tr0 K1 GF
    replace K5_r := Row.tr0 K5_r TF GF
    replace K6_r := Row.tr0 K6_r TF GF
    replace W7 := Row.tr0 W7 TF GF
    replace KS16 := Enc.tr (slE intE) KS16 TF
    replace GL0 := GL0.trans TF
    replace GL1 := GL1.trans TF
    replace GL3 := GL3.trans TF
    replace C := C.trans TF
    replace FR_15 : (slE intE).wf (Fr F [abk n2_a, abk lv_a, abk o1_a, one b1]) w16.heap ⟨ad17, cap17, ((lv.getD j (slE intE).dflt).xs ++ [e])⟩ := FR_15; clear R_15
    refine seq_new S rfl rfl (by decide) (fun b => .slice (some ⟨b, 0, none⟩) 1 1) (cs := [.slice ad17 (((lv.getD j (slE intE).dflt).xs ++ [e]).length) cap17]) (x_bsl [(0, .slice ad17 (((lv.getD j (slE intE).dflt).xs ++ [e]).length) cap17)] [.slice ad17 (((lv.getD j (slE intE).dflt).xs ++ [e]).length) cap17] Try.underlying55 infoz_22 (by decide) (by decide) (by simp only [List.map_cons, List.map_nil, show a.eval (.tmp 60) = .slice ad17 (((lv.getD j (slE intE).dflt).xs ++ [e]).length) cap17 from (S.e rfl)]) (by kernel_rfl)) ?_
    clear S a; intro a w17 b18 hb18 hbs18 G K18 S; have hbl18 : b18 < w17.heap.size := by omega
    have we18_0 : (slE intE).wf (Fr F [abk n2_a, abk lv_a, abk o1_a, one b1]) w16.heap (Sl.mk ad17 cap17 ((lv.getD j (slE intE).dflt).xs ++ [e])) := FR_15
    have hfr18 := fr_fresh C hF hb18; have TT := Tr.of_ch0 C.ms G
    replace t_w := Enc.tr (topoE) t_w TT
    replace K1 := Blk.tr0 K1 G
    replace K5_r := Row.tr0 K5_r TT G
    replace K6_r := Row.tr0 K6_r TT G
    replace W7 := Row.tr0 W7 TT G
    replace KS16 := Enc.tr (slE intE) KS16 TT
    replace FR_15 := Enc.tr (slE intE) FR_15 TT
    replace GL0 := GL0.trans TT
    replace GL1 := GL1.trans TT
    replace GL3 := GL3.trans TT
    replace C := C.trans TT
    have KS18 : (slE (slE intE)).wf (Fr F [abk n2_a, abk lv_a, abk o1_a, one b1]) w17.heap ⟨some ⟨b18, 0, none⟩, 1, [(Sl.mk ad17 cap17 ((lv.getD j (slE intE).dflt).xs ++ [e]))]⟩ := sl_of_blk K18 [(Sl.mk ad17 cap17 ((lv.getD j (slE intE).dflt).xs ++ [e]))] 1 rfl (by decide) (by decide) rfl hfr18 (by intro x hx; simp only [List.mem_cons, List.not_mem_nil, or_false] at hx; subst hx; exact Enc.tr (slE intE) we18_0 TT)
    clear K18 hfr18 TT G we18_0
    refine seq_op rfl (op_append (E := (slE intE)) [] [abk lv_a, abk o1_a, one b1] (.tmp 55) (.tmp 61) 55 rfl zero_22 24 Try.underlying55 infoz_22 rfl (by decide) rfl C.ms (S.e rfl) W7 ([(Sl.mk ad17 cap17 ((lv.getD j (slE intE).dflt).xs ++ [e]))]) (some ⟨b18, 0, none⟩) 1 (S.e rfl) (show LAt (slE intE) _ _ (some ⟨b18, 0, none⟩) ([(Sl.mk ad17 cap17 ((lv.getD j (slE intE).dflt).xs ++ [e]))]) from (KS18).1) (KS18).2.2 (LAt.mem (show LAt (slE intE) _ _ (some ⟨b18, 0, none⟩) ([(Sl.mk ad17 cap17 ((lv.getD j (slE intE).dflt).xs ++ [e]))]) from (KS18).1)) (by unfold maxLen; (try simp only [List.length_cons, List.length_nil, List.length_append, List.length_map]); omega) (by (try simp only [List.length_cons, List.length_nil, List.length_append, List.length_map]); omega) (C.size) ?_)
    intro ad19 cap19 w18 Rn TT G
    have S1 := S.put (d := 62) (v := .slice ad19 (n2 ++ [(Sl.mk ad17 cap17 ((lv.getD j (slE intE).dflt).xs ++ [e]))]).length cap19) (by decide); clear S; revert S1; generalize Act.put a _ _ = a1; intro S; clear a; rename Act => a
    replace TT : Tr [abk n2_a, abk lv_a, abk o1_a, one b1] w17 [abk ad19, abk lv_a, abk o1_a, one b1] w18 := TT; replace Rn : Row (slE intE) 22 w.heap.size F [abk ad19, abk lv_a, abk o1_a, one b1] w18 ad19 cap19 (n2 ++ [(Sl.mk ad17 cap17 ((lv.getD j (slE intE).dflt).xs ++ [e]))]) := Rn
    replace t_w := Enc.tr (topoE) t_w TT
    replace K1 := Blk.tr K1 G (C.ms.sep.out 3 [0] rfl rfl rfl)
    replace K5_r := Row.tr K5_r TT G (fun k e => C.ms.sep.out 2 [0] rfl rfl e)
    replace K6_r := Row.tr K6_r TT G (fun k e => C.ms.sep.out 1 [0] rfl rfl e)
    replace KS16 := Enc.tr (slE intE) KS16 TT
    replace FR_15 := Enc.tr (slE intE) FR_15 TT
    replace KS18 := Enc.tr (slE (slE intE)) KS18 TT
    replace GL0 := GL0.trans TT
    replace GL1 := GL1.trans TT
    replace GL3 := GL3.trans TT
    replace C := C.trans TT
    clear W7; have W7 := Rn; clear Rn TT G
    refine qa S rfl ?_; clear S a; intro a S
    refine wpList_nil ?_
    refine blk_n ?_
    refine then_n ?_
    refine wp_region_lit ?_
    refine qm S rfl ?_; clear S a; intro a S
    refine qv S (iI (e + 1)) (x_add (S.e rfl) (S.e rfl) (r := (e + 1)) (w_i64 (by omega))) ?_; clear S a; intro a S
    refine qa S rfl ?_; clear S a; intro a S
    refine qt ?_
    refine ⟨((elems t : Int) - (e + 1)).toNat, ?_, (e + 1), ad19, cap19, (n2 ++ [(Sl.mk ad17 cap17 ((lv.getD j (slE intE).dflt).xs ++ [e]))]), S.sub ⟨rfl, rfl, rfl, rfl, rfl, rfl, rfl, rfl, rfl, rfl, rfl, rfl, rfl, rfl, rfl, rfl, rfl, rfl, rfl, rfl, rfl, rfl, rfl, (by first | rfl | (simp only [List.length_set]; rfl)), trivial⟩, GL3, ?_, K1, K5_r, K6_r, W7, rfl⟩
    ·omega
    refine ⟨by omega, by omega, ?_⟩
    rw [List.map_append, hn2, show (e + 1).toNat = e.toNat + 1 from by omega, nxTo_snoc (by omega), ← List.append_assoc, show ((e.toNat : Nat) : Int) = e from by omega]; rfl
   intro hc9
   refine wp_exit ?_
   refine then_e ?_
   refine then_e ?_
   refine blk_e ?_
   refine blk_n ?_
   refine then_n ?_
   refine wp_region_lit ?_
   refine qv S (iN (j + 1)) (x_add (S.e rfl) (S.e rfl) (r := ((j + 1 : Nat) : Int)) (w_i64 (by omega))) ?_; clear S a; intro a S
   refine qm S rfl ?_; clear S a; intro a S
   refine qt ?_
   refine ⟨(lev (elems t) z).length - (j + 1), ?_, (j + 1), n2_a, n2_c, n2, S.sub ⟨rfl, rfl, rfl, rfl, rfl, rfl, rfl, rfl, rfl, rfl, rfl, rfl, rfl, (by first | rfl | (simp only [List.length_set]; rfl)), trivial⟩, GL1, ?_, K1, K5_r, K6_r, W7, rfl⟩
   ·omega
   refine ⟨by omega, ?_⟩
   rw [hn2, flat_snocD [] (by omega), ← hLL, show e.toNat = elems t from by omega]
  intro hc10
  refine wp_exit ?_
  refine then_e ?_
  refine then_e ?_
  refine blk_e ?_
  refine then_n ?_
  refine qs ?_
  refine qm S rfl ?_; clear S a; intro a S
  refine qa S rfl ?_; clear S a; intro a S
  refine qt ?_
  refine qs ?_
  refine qm S rfl ?_; clear S a; intro a S
  refine qv S (iN nx.length) (x_len Try.underlying55 (S.e rfl)) ?_; clear S a; intro a S
  refine qm S rfl ?_; clear S a; intro a S
  refine qt ?_
  refine wp_block ?_
  refine wp_loop_ghost (fun m a wr => ∃ j2 : Nat, ∃ o2_a : Option Addr, ∃ o2_c : Nat, ∃ o2 : List Fail, Slots 79 [(1, pT b1 0), (2, .slice none 0 0), (3, iN (t.devs.xs.length + t.links.xs.length)), (6, iN (z + 1)), (5, .slice nx_a nx.length nx_c), (27, iN (z + 1)), (28, pT b1 (0 + 4)), (29, iI t.tol), (30, bD ((((z + 1) : Nat) : Int) ≤ t.tol)), (33, .slice lv_a lv.length lv_c), (34, iN lv.length), (35, iN j), (7, .slice nx_a nx.length nx_c), (36, bD (((j : Nat) : Int) < ((lv.length : Nat) : Int))), (64, .slice nx_a nx.length nx_c), (65, .slice nx_a nx.length nx_c), (66, iN nx.length), (67, iN j2), (4, .slice o2_a o2.length o2_c)] a ∧ Tr [abk nx_a, abk lv_a, abk o1_a, one b1] w6 [abk nx_a, abk lv_a, abk o2_a, one b1] wr ∧ (j2 ≤ (lev (elems t) (z + 1)).length ∧ o2.map keyF = (outTo (elems t) z ++ (lev (elems t) (z + 1)).take j2).map (keyOf t.devs.xs.length)) ∧ Blk wr.heap b1 (tL t) 28 ∧ Row failE 41 w.heap.size F [abk nx_a, abk lv_a, abk o2_a, one b1] wr o2_a o2_c o2 ∧ Row (slE intE) 22 w.heap.size F [abk nx_a, abk lv_a, abk o2_a, one b1] wr lv_a lv_c lv ∧ Row (slE intE) 22 w.heap.size F [abk nx_a, abk lv_a, abk o2_a, one b1] wr nx_a nx_c nx ∧ ((lev (elems t) (z + 1)).length - j2) = m) ((lev (elems t) (z + 1)).length - 0) ?_ ?_
  ·refine ⟨0, o1_a, o1_c, o1, S.sub ⟨rfl, rfl, rfl, rfl, rfl, rfl, rfl, rfl, rfl, rfl, rfl, rfl, rfl, rfl, rfl, rfl, rfl, rfl, rfl, trivial⟩, Tr.refl C.ms, ?_, K1, K5_r, K6_r, W7, rfl⟩
   exact ⟨Nat.zero_le _, by rw [List.take_zero, List.append_nil]; exact ho⟩
  rintro m a w19 ⟨j2, o2_a, o2_c, o2, S, G, hR, K1', K5_r', K6_r', W7', rfl⟩
  clear K1; have K1 := K1'; clear K1'
  clear K5_r; have K5_r := K5_r'; clear K5_r'
  clear K6_r; have K6_r := K6_r'; clear K6_r'
  clear W7; have W7 := W7'; clear W7'
  replace t_w := Enc.tr (topoE) t_w G
  replace GL0 := GL0.trans G
  replace GL1 := GL1.trans G
  replace C := C.trans G
  have GL4 := G; clear G
  have o2_len := K5_r.len_le; simp only [maxLen] at o2_len
  obtain ⟨hj2, ho2⟩ := hR
  have hol2 := congrArg List.length ho2; rw [List.length_map, List.length_map, List.length_append, List.length_take] at hol2
  have hnx2 : nx.map (fun l => l.xs) = lev (elems t) (z + 1) := by rw [hnx, List.take_of_length_le (by omega)]; rfl
  have hnl2 := congrArg List.length hnx2; rw [List.length_map] at hnl2
  have hlb := (lev_len (n := elems t) (s := z + 1) (by omega) (by omega)).1
  refine qs ?_
  refine qv S (bD (((j2 : Nat) : Int) < ((nx.length : Nat) : Int))) (x_lss (S.e rfl) (S.e rfl)) ?_; clear S a; intro a S
  refine qt ?_
  refine wp_seq ?_
  refine cond_dec S rfl ?_ ?_
  ·intro hc11
   have hq := (lev_mem (getD_mem (d := []) (show j2 < (lev (elems t) (z + 1)).length by omega))).1
   rw [← hnx2, getD_map (f := fun l : Sl Int => l.xs) (d := (slE intE).dflt) (by omega) []] at hq
   refine wp_skip ?_
   refine then_n ?_
   refine wp_seq ?_
   refine wp_block ?_
   refine qs ?_
   refine qv S (pT (blk nx_a) (0 + j2 * 1)) (x_idx Try.underlying55 (by kernel_rfl) (S.e rfl) (S.e rfl) j2 rfl (by omega) (row_off W7 (m := j2) (by omega))) ?_; clear S a; intro a S
   have hn20 : ((nx.getD j2 (slE intE).dflt).xs).length ≤ 9223372036854775807 := ((W7.wfi j2 (by omega))).1.len
   refine qv S (sV (nx.getD j2 (slE intE).dflt)) (x_load ⟨_, Try.underlying22, rfl⟩ (S.e rfl) ((W7.latz (by first | decide | exact Nat.one_pos)).cell j2 (by omega) 0 _ rfl)) ?_; clear S a; intro a S
   refine qa S rfl ?_; clear S a; intro a S
   refine qt ?_
   refine wp_region_lit ?_
   refine qm S rfl ?_; clear S a; intro a S
   refine qv S _ (x_loadw (tL t) ⟨_, Try.underlying28, rfl, by kernel_rfl⟩ (S.e rfl) (K1.mid [] _ [] rfl _ rfl)) ?_; clear S a; intro a S
   refine qm S rfl ?_; clear S a; intro a S
   refine seq_call S (by decide) (vs := #[tV t, sV (nx.getD j2 (slE intE).dflt)]) rfl callable_52 (fState _ (Ex F _) (C.old hF)  (MS.nil _) t ((topoE).down0 t_w) (nx.getD j2 (slE intE).dflt) ((slE intE).down0 (W7.wfi j2 (by omega))) (by first | omega | (simp only [List.length_cons, List.length_nil]; omega)) (by omega)) ?_
   rintro e w20 ⟨r_21, rfl, R_21, hr_21, T0⟩; refine ⟨_, rfl, ?_⟩; clear S a; intro a S
   have TT := Tr.framed0 C.ms T0; have G := T0.ch
   replace t_w := Enc.tr (topoE) t_w TT
   replace K1 := Blk.tr0 K1 G
   replace K5_r := Row.tr0 K5_r TT G
   replace K6_r := Row.tr0 K6_r TT G
   replace W7 := Row.tr0 W7 TT G
   replace GL0 := GL0.trans TT
   replace GL1 := GL1.trans TT
   replace GL4 := GL4.trans TT
   replace C := C.trans TT
   replace R_21 := Enc.up (failE) R_21
   clear T0 G TT
   have hr := hr_21
   have hn22 : r_21.links.xs.length ≤ 9223372036854775807 := (R_21.1).1.len
   have hn23 : r_21.devs.xs.length ≤ 9223372036854775807 := (R_21.2).1.len
   refine seq_new S rfl rfl (by decide) (fun b => .slice (some ⟨b, 0, none⟩) 1 1) (cs := (fL r_21)) (x_bsl [(0, fV r_21)] (fL r_21) Try.underlying34 infoz_41 (by decide) (by decide) (by simp only [List.map_cons, List.map_nil, show a.eval (.tmp 74) = fV r_21 from (S.e rfl)]) (by kernel_rfl)) ?_
   clear S a; intro a w21 b24 hb24 hbs24 G K24 S; have hbl24 : b24 < w21.heap.size := by omega
   have we24_0 : failE.wf (Fr F [abk nx_a, abk lv_a, abk o2_a, one b1]) w20.heap r_21 := ⟨R_21.1, R_21.2⟩
   have hfr24 := fr_fresh C hF hb24; have TT := Tr.of_ch0 C.ms G
   replace t_w := Enc.tr (topoE) t_w TT
   replace K1 := Blk.tr0 K1 G
   replace K5_r := Row.tr0 K5_r TT G
   replace K6_r := Row.tr0 K6_r TT G
   replace W7 := Row.tr0 W7 TT G
   replace R_21 := Enc.tr (failE) R_21 TT
   replace GL0 := GL0.trans TT
   replace GL1 := GL1.trans TT
   replace GL4 := GL4.trans TT
   replace C := C.trans TT
   have KS24 : (slE failE).wf (Fr F [abk nx_a, abk lv_a, abk o2_a, one b1]) w21.heap ⟨some ⟨b24, 0, none⟩, 1, [r_21]⟩ := sl_of_blk K24 [r_21] 1 rfl (by decide) (by decide) rfl hfr24 (by intro x hx; simp only [List.mem_cons, List.not_mem_nil, or_false] at hx; subst hx; exact Enc.tr (failE) we24_0 TT)
   clear K24 hfr24 TT G we24_0
   refine seq_op rfl (op_append (E := failE) [abk nx_a, abk lv_a] [one b1] (.tmp 71) (.tmp 75) 34 rfl zero_41 48 Try.underlying34 infoz_41 rfl (by decide) rfl C.ms (S.e rfl) K5_r ([r_21]) (some ⟨b24, 0, none⟩) 1 (S.e rfl) (show LAt failE _ _ (some ⟨b24, 0, none⟩) ([r_21]) from (KS24).1) (KS24).2.2 (LAt.mem (show LAt failE _ _ (some ⟨b24, 0, none⟩) ([r_21]) from (KS24).1)) (by unfold maxLen; (try simp only [List.length_cons, List.length_nil, List.length_append, List.length_map]); omega) (by (try simp only [List.length_cons, List.length_nil, List.length_append, List.length_map]); omega) (C.size) ?_)
   intro ad25 cap25 w22 Rn TT G
   have S1 := S.put (d := 76) (v := .slice ad25 (o2 ++ [r_21]).length cap25) (by decide); clear S; revert S1; generalize Act.put a _ _ = a1; intro S; clear a; rename Act => a
   replace TT : Tr [abk nx_a, abk lv_a, abk o2_a, one b1] w21 [abk nx_a, abk lv_a, abk ad25, one b1] w22 := TT; replace Rn : Row failE 41 w.heap.size F [abk nx_a, abk lv_a, abk ad25, one b1] w22 ad25 cap25 (o2 ++ [r_21]) := Rn
   replace t_w := Enc.tr (topoE) t_w TT
   replace K1 := Blk.tr K1 G (C.ms.sep.out 3 [2] rfl rfl rfl)
   replace K6_r := Row.tr K6_r TT G (fun k e => C.ms.sep.out 1 [2] rfl rfl e)
   replace W7 := Row.tr W7 TT G (fun k e => C.ms.sep.out 0 [2] rfl rfl e)
   replace R_21 := Enc.tr (failE) R_21 TT
   replace KS24 := Enc.tr (slE failE) KS24 TT
   replace GL0 := GL0.trans TT
   replace GL1 := GL1.trans TT
   replace GL4 := GL4.trans TT
   replace C := C.trans TT
   clear K5_r; have K5_r := Rn; clear Rn TT G
   refine qa S rfl ?_; clear S a; intro a S
   refine wpList_nil ?_
   refine blk_n ?_
   refine then_n ?_
   refine wp_region_lit ?_
   refine qv S (iN (j2 + 1)) (x_add (S.e rfl) (S.e rfl) (r := ((j2 + 1 : Nat) : Int)) (w_i64 (by omega))) ?_; clear S a; intro a S
   refine qm S rfl ?_; clear S a; intro a S
   refine qt ?_
   refine ⟨(lev (elems t) (z + 1)).length - (j2 + 1), ?_, (j2 + 1), ad25, cap25, (o2 ++ [r_21]), S.sub ⟨rfl, rfl, rfl, rfl, rfl, rfl, rfl, rfl, rfl, rfl, rfl, rfl, rfl, rfl, rfl, rfl, rfl, rfl, (by first | rfl | (simp only [List.length_set]; rfl)), trivial⟩, GL4, ?_, K1, K5_r, K6_r, W7, rfl⟩
   ·omega
   refine ⟨by omega, ?_⟩
   rw [List.map_append, ho2, take_snocD [] (by omega), ← hnx2, getD_map (f := fun l : Sl Int => l.xs) (d := (slE intE).dflt) (by omega) []]
   simp only [List.map_append, List.append_assoc, List.map_cons, List.map_nil, hr]
  intro hc12
  refine wp_exit ?_
  refine then_e ?_
  refine then_e ?_
  refine blk_e ?_
  refine blk_n ?_
  refine then_n ?_
  refine wp_region_lit ?_
  refine qm S rfl ?_; clear S a; intro a S
  refine qv S (iN ((z + 1) + 1)) (x_add (S.e rfl) (S.e rfl) (r := (((z + 1) + 1 : Nat) : Int)) (w_i64 (by omega))) ?_; clear S a; intro a S
  refine qa S rfl ?_; clear S a; intro a S
  refine wpList_nil ?_
  have TD : Tr [abk nx_a, abk lv_a, abk o2_a, one b1] w19 [abk nx_a, abk o2_a, one b1] w19 := Tr.drop C.ms [0, 2, 3] (by decide)
  have GD : Ch (In []) w19 w19 := Ch.refl _
  clear K6_r
  replace t_w := Enc.tr (topoE) t_w TD
  replace K1 := Blk.tr0 K1 GD
  replace K5_r := Row.tr0 K5_r TD GD
  replace W7 := Row.tr0 W7 TD GD
  replace GL0 := GL0.trans TD
  replace GL1 := GL1.trans TD
  replace GL4 := GL4.trans TD
  replace C := C.trans TD
  clear TD GD
  refine then_n ?_
  refine ⟨2 - (z + 1), ?_, (z + 1), o2_a, o2_c, o2, nx_a, nx_c, nx, S.sub ⟨rfl, rfl, rfl, rfl, (by first | rfl | (simp only [List.length_set]; rfl)), (by first | rfl | (simp only [List.length_set]; rfl)), trivial⟩, GL0, ?_, K1, K5_r, W7, rfl⟩
  ·omega
  refine ⟨by omega, ?_, by rw [ho2, outTo_snoc, List.take_of_length_le (by omega)]⟩
  rw [hnx, List.take_of_length_le (by omega)]; rfl
 intro hc13
 refine wp_exit ?_
 refine then_e ?_
 refine then_e ?_
 refine blk_e ?_
 refine then_n ?_
 refine qs ?_
 refine qm S rfl ?_; clear S a; intro a S
 refine qa S rfl ?_; clear S a; intro a S
 refine qt ?_
 refine wp_ret ?_
 have FK5_r := Row.freeze (pre := [abk lv_a]) (post := [one b1]) rfl C.ms K5_r (by first | decide | exact Nat.one_pos) (K5_r.notF hF (Nat.le_refl _))
 have TF := Tr.leave (pre := [abk lv_a]) (o := abk o1_a) (post := [one b1]) C.ms
 have GF : Ch (In []) w5 w5 := Ch.refl _
 replace t_w := Enc.tr (topoE) t_w TF
 replace K1 := Blk.tr0 K1 GF
 replace K6_r := Row.tr0 K6_r TF GF
 replace GL0 := GL0.trans TF
 replace C := C.trans TF
 replace FK5_r : (slE failE).wf (Fr F [abk lv_a, one b1]) w5.heap ⟨o1_a, o1_c, o1⟩ := FK5_r; clear K5_r
 refine ret1 rfl S rfl ?_
 have TD : Tr [abk lv_a, one b1] w5 [] w5 := Tr.drop C.ms [] (by decide)
 have GD : Ch (In []) w5 w5 := Ch.refl _
 clear K1
 clear K6_r
 replace t_w := Enc.tr (topoE) t_w TD
 replace FK5_r := Enc.tr (slE failE) FK5_r TD
 replace GL0 := GL0.trans TD
 replace C := C.trans TD
 clear TD GD
 refine ⟨(Sl.mk o1_a o1_c o1), rfl, FK5_r, ?_, C⟩
 rw [all_prog hV (s := z) (by omega)]; exact ho
end Go.Proofs.Ytfanmniaolncbaa.V
