/- lists of failure states -/
import Derived.Test.YtfanmniaolncbaaW10
import Derived.Test.YtfanmniaolncbaaAllM
namespace Go.Proofs.Ytfanmniaolncbaa.V
open Go.RowKit Go.Proofs.Ytfanmniaolncbaa
set_option linter.unusedVariables false
set_option linter.unusedSimpArgs false
set_option maxHeartbeats 2000000 in
set_option maxRecDepth 20000 in
theorem rOf (w : World) (F : Nat → Prop) (hF : Old F w) (M : MS [] w) (t : Topo) (t_w : topoE.wf (Fr F []) w.heap t) (l : Sl Int) (l_w : (slE intE).wf (Fr F []) w.heap l) (hl : l.xs.length ≤ 1024) (hb : t.devs.xs.length ≤ 12) :
 Calls Try.prog 54 #[tV t, sV l] w fun e w' => ∃ (r : Fail), e = .returned (fV r) ∧ failE.wf (Fr F []) w'.heap r ∧ keyF r = keyOf t.devs.xs.length l.xs ∧ Tr [] w [] w' := by
 have C : Tr [] w [] w := Tr.refl M
 have : t.devs.xs.length ≤ 9223372036854775807 := (t_w.1).1.len
 have : t.links.xs.length ≤ 9223372036854775807 := (t_w.2.1).1.len
 have : t.edges.xs.length ≤ 9223372036854775807 := (t_w.2.2.1).1.len
 have : t.pools.xs.length ≤ 9223372036854775807 := (t_w.2.2.2.1).1.len
 obtain ⟨_, _⟩ : inI64 t.tol := t_w.2.2.2.2
 have : l.xs.length ≤ 9223372036854775807 := (l_w).1.len
 refine enter Try.func54 rfl 44 rfl (Nat.le_of_ble_eq_true rfl) ?_
 intro a S
 refine qs ?_
 refine seq_new S rfl rfl (by decide) (fun b => pT b 0) (cs := (tL t)) (x_box (tL t) (S.e rfl) rfl) ?_
 clear S a; intro a w1 b1 hb1 hbs1 G K1 S; have hbl1 : b1 < w1.heap.size := by omega
 have TT := Tr.fresh C.ms hb1 hbl1 G
 replace t_w := Enc.tr (topoE) t_w TT
 replace l_w := Enc.tr (slE intE) l_w TT
 replace C := C.trans TT
 clear TT G
 refine seq_new S rfl rfl (by decide) (fun b => pT b 0) (cs := [.slice none 0 0, .slice none 0 0]) (x_allocz [.slice none 0 0, .slice none 0 0] infoz_41 rfl) ?_
 clear S a; intro a w2 b2 hb2 hbs2 G K2 S; have hbl2 : b2 < w2.heap.size := by omega
 have TT := Tr.fresh C.ms hb2 hbl2 G
 replace t_w := Enc.tr (topoE) t_w TT
 replace l_w := Enc.tr (slE intE) l_w TT
 replace K1 := Blk.tr0 K1 G
 replace C := C.trans TT
 clear TT G
 refine qt ?_
 refine qs ?_
 refine seq_new S rfl rfl (by decide) (fun b => pT b 0) (cs := [.slice none 0 0, .slice none 0 0]) (x_allocz [.slice none 0 0, .slice none 0 0] infoz_41 rfl) ?_
 clear S a; intro a w3 b3 hb3 hbs3 G K3 S; have hbl3 : b3 < w3.heap.size := by omega
 have TT := Tr.fresh C.ms hb3 hbl3 G
 replace t_w := Enc.tr (topoE) t_w TT
 replace l_w := Enc.tr (slE intE) l_w TT
 replace K1 := Blk.tr0 K1 G
 replace K2 := Blk.tr0 K2 G
 replace C := C.trans TT
 clear TT G
 refine qt ?_
 refine wp_seq ?_
 refine qs ?_
 refine qa S rfl ?_; clear S a; intro a S
 refine qt ?_
 refine wp_block ?_
 have W4 := Row.nil intE 3 w.heap.size F [abk none, one b3, one b2, one b1] w3
 have TT : Tr [one b3, one b2, one b1] w3 [abk none, one b3, one b2, one b1] w3 := (Tr.refl C.ms).cons (b := abk none) (fun k e => absurd e abk_none); have G : Ch (In []) w3 w3 := Ch.refl _
 replace t_w := Enc.tr (topoE) t_w TT
 replace l_w := Enc.tr (slE intE) l_w TT
 replace K1 := Blk.tr0 K1 G
 replace K2 := Blk.tr0 K2 G
 replace K3 := Blk.tr0 K3 G
 replace C := C.trans TT
 clear TT G
 have W5 := Row.nil intE 3 w.heap.size F [abk none, abk none, one b3, one b2, one b1] w3
 have TT : Tr [abk none, one b3, one b2, one b1] w3 [abk none, abk none, one b3, one b2, one b1] w3 := (Tr.refl C.ms).cons (b := abk none) (fun k e => absurd e abk_none); have G : Ch (In []) w3 w3 := Ch.refl _
 replace t_w := Enc.tr (topoE) t_w TT
 replace l_w := Enc.tr (slE intE) l_w TT
 replace K1 := Blk.tr0 K1 G
 replace K2 := Blk.tr0 K2 G
 replace K3 := Blk.tr0 K3 G
 replace W4 := Row.tr0 W4 TT G
 replace C := C.trans TT
 clear TT G
 refine wp_loop_ghost (fun m a wr => ∃ k : Nat, ∃ ls_a : Option Addr, ∃ ls_c : Nat, ∃ ls : List Int, ∃ ds_a : Option Addr, ∃ ds_c : Nat, ∃ ds : List Int, Slots 44 [(1, sV l), (2, pT b1 0), (4, pT b2 0), (5, pT b3 0), (6, iN k)] a ∧ Tr [abk none, abk none, one b3, one b2, one b1] w3 [abk ls_a, abk ds_a, one b3, one b2, one b1] wr ∧ (k ≤ l.xs.length ∧ (ls, ds) = keyOf t.devs.xs.length (l.xs.take k) ∧ ls.length + ds.length ≤ k) ∧ Blk wr.heap b1 (tL t) 28 ∧ Blk wr.heap b2 [.slice none 0 0, .slice none 0 0] 41 ∧ Blk wr.heap b3 [.slice ls_a ls.length ls_c, .slice ds_a ds.length ds_c] 41 ∧ Row intE 3 w.heap.size F [abk ls_a, abk ds_a, one b3, one b2, one b1] wr ls_a ls_c ls ∧ Row intE 3 w.heap.size F [abk ls_a, abk ds_a, one b3, one b2, one b1] wr ds_a ds_c ds ∧ (l.xs.length - k) = m) (l.xs.length - 0) ?_ ?_
 ·refine ⟨0, none, 0, [], none, 0, [], S.sub ⟨rfl, rfl, rfl, rfl, rfl, trivial⟩, Tr.refl C.ms, ?_, K1, K2, K3, W4, W5, rfl⟩
  exact ⟨Nat.zero_le _, rfl, Nat.zero_le _⟩
 rintro m a w4 ⟨k, ls_a, ls_c, ls, ds_a, ds_c, ds, S, G, hR, K1', K2', K3', W4', W5', rfl⟩
 clear K1; have K1 := K1'; clear K1'
 clear K2; have K2 := K2'; clear K2'
 clear K3; have K3 := K3'; clear K3'
 clear W4; have W4 := W4'; clear W4'
 clear W5; have W5 := W5'; clear W5'
 replace t_w := Enc.tr (topoE) t_w G
 replace l_w := Enc.tr (slE intE) l_w G
 replace C := C.trans G
 have GL0 := G; clear G
 have ls_len := W4.len_le; simp only [maxLen] at ls_len
 have ds_len := W5.len_le; simp only [maxLen] at ds_len
 obtain ⟨hk, ho, hol⟩ := hR
 refine wp_seq ?_
 refine qs ?_
 refine qm S rfl ?_; clear S a; intro a S
 refine qm S rfl ?_; clear S a; intro a S
 have hn6 : l.xs.length ≤ 9223372036854775807 := (l_w).1.len
 refine qv S (iN l.xs.length) (x_len Try.underlying22 (S.e rfl)) ?_; clear S a; intro a S
 refine qv S (bD (((k : Nat) : Int) < ((l.xs.length : Nat) : Int))) (x_lss (S.e rfl) (S.e rfl)) ?_; clear S a; intro a S
 refine qt ?_
 refine cond_dec S rfl ?_ ?_
 ·intro hc0
  refine wp_skip ?_
  refine then_n ?_
  refine wp_seq ?_
  refine wp_block ?_
  refine wp_seq ?_
  replace S := S.sub (L' := [(1, sV l), (2, pT b1 0), (4, pT b2 0), (5, pT b3 0), (6, iN k), (7, iN k), (8, sV l), (9, iN l.xs.length), (10, bD (((k : Nat) : Int) < ((l.xs.length : Nat) : Int)))]) ⟨rfl, rfl, rfl, rfl, rfl, rfl, rfl, rfl, rfl, trivial⟩
  refine wp_heads (M := In []) S 8 [(13, iV (sV l)), (14, iV (iN k)), (15, iV (pT (blk l.a) (off l.a + k * 1))), (16, iV (iI (l.xs.getD k intE.dflt))), (17, iV (pT b1 (0 + 0))), (18, iV (sV t.devs)), (19, iV (iN t.devs.xs.length)), (20, iV (bD ((l.xs.getD k intE.dflt) < ((t.devs.xs.length : Nat) : Int))))] (fun w => True) [[], [], [13, 14], [15], [], [17], [18], [16, 19]] [20] _ rfl mixed (by kernel_rfl) rfl trivial ?_ ?_
  ·refine ⟨?_, ?_, ?_, ?_, ?_, ?_, ?_, ?_, trivial⟩
   ·intro a w5 G I S hE
    have TT := Tr.of_ch C.ms G (fun _ h => by simp at h)
    replace l_w := Enc.tr (slE intE) l_w TT
    replace C := C.trans TT
    exact qo (sV l) (x_move (S.e rfl)) I
   ·intro a w6 G I S hE
    have TT := Tr.of_ch C.ms G (fun _ h => by simp at h)
    replace C := C.trans TT
    exact qo (iN k) (x_move (S.e rfl)) I
   ·intro a w7 G I S hE
    have TT := Tr.of_ch C.ms G (fun _ h => by simp at h)
    replace l_w := Enc.tr (slE intE) l_w TT
    replace C := C.trans TT
    obtain ⟨e13, e14, _⟩ := hE
    replace S := S.ext e13
    replace S := S.ext e14
    exact qo (pT (blk l.a) (off l.a + k * 1)) (x_idx Try.underlying22 (by kernel_rfl) (S.e rfl) (S.e rfl) k rfl (by omega) ((l_w).1.adr (i := k) (by omega))) I
   ·intro a w8 G I S hE
    have TT := Tr.of_ch C.ms G (fun _ h => by simp at h)
    replace l_w := Enc.tr (slE intE) l_w TT
    replace C := C.trans TT
    obtain ⟨e15, _⟩ := hE
    replace S := S.ext e15
    obtain ⟨hl7, hu7⟩ : inI64 (l.xs.getD k intE.dflt) := id ((l_w).1.wf k (by omega))
    exact qo (iI (l.xs.getD k intE.dflt)) (x_load ⟨_, Try.underlying3, rfl⟩ (S.e rfl) ((l_w).1.cell k (by omega) 0 _ rfl)) I
   ·intro a w9 G I S hE
    have TT := Tr.of_ch C.ms G (fun _ h => by simp at h)
    replace t_w := Enc.tr (topoE) t_w TT
    replace K1 := Blk.tr0 K1 G
    replace C := C.trans TT
    exact qo (pT b1 (0 + 0)) (x_fld (z := 0) (0) 0 Try.underlying28 rfl rfl (by kernel_rfl) (S.e rfl)) I
   ·intro a w10 G I S hE
    have TT := Tr.of_ch C.ms G (fun _ h => by simp at h)
    replace t_w := Enc.tr (topoE) t_w TT
    replace K1 := Blk.tr0 K1 G
    replace C := C.trans TT
    obtain ⟨e17, _⟩ := hE
    replace S := S.ext e17
    exact qo (sV t.devs) (x_load ⟨_, Try.underlying23, rfl⟩ (S.e rfl) (K1.cell (j := 0) rfl)) I
   ·intro a w11 G I S hE
    have TT := Tr.of_ch C.ms G (fun _ h => by simp at h)
    replace t_w := Enc.tr (topoE) t_w TT
    replace C := C.trans TT
    obtain ⟨e18, _⟩ := hE
    replace S := S.ext e18
    have hn8 : t.devs.xs.length ≤ 9223372036854775807 := (t_w.1).1.len
    exact qo (iN t.devs.xs.length) (x_len Try.underlying23 (S.e rfl)) I
   intro a w12 G I S hE
   have TT := Tr.of_ch C.ms G (fun _ h => by simp at h)
   replace l_w := Enc.tr (slE intE) l_w TT
   replace C := C.trans TT
   obtain ⟨e16, e19, _⟩ := hE
   replace S := S.ext e16
   replace S := S.ext e19
   exact qo (bD ((l.xs.getD k intE.dflt) < ((t.devs.xs.length : Nat) : Int))) (x_lss (S.e rfl) (S.e rfl)) I
  clear S a; intro a w13 G I S hE; have TT := Tr.of_ch C.ms G (fun _ h => by simp at h)
  replace t_w := Enc.tr (topoE) t_w TT
  replace l_w := Enc.tr (slE intE) l_w TT
  replace K1 := Blk.tr0 K1 G
  replace K2 := Blk.tr0 K2 G
  replace K3 := Blk.tr0 K3 G
  replace W4 := Row.tr0 W4 TT G
  replace W5 := Row.tr0 W5 TT G
  replace GL0 := GL0.trans TT
  replace C := C.trans TT
  clear TT G
  obtain ⟨e20, -⟩ := hE
  replace S := S.ext e20
  clear e20
  obtain ⟨hl9, hu9⟩ : inI64 (l.xs.getD k intE.dflt) := id ((l_w).1.wf k (by omega))
  refine qt ?_
  refine cond_dec S rfl ?_ ?_
  ·intro hc1
   replace S := S.sub (L' := [(1, sV l), (2, pT b1 0), (4, pT b2 0), (5, pT b3 0), (6, iN k), (7, iN k), (8, sV l), (9, iN l.xs.length), (10, bD (((k : Nat) : Int) < ((l.xs.length : Nat) : Int))), (20, bD ((l.xs.getD k intE.dflt) < ((t.devs.xs.length : Nat) : Int)))]) ⟨rfl, rfl, rfl, rfl, rfl, rfl, rfl, rfl, rfl, rfl, trivial⟩
   refine wp_heads (M := In []) S 7 [(21, iV (pT b3 (0 + 1))), (22, iV (.slice ds_a ds.length ds_c)), (23, iV (sV l)), (24, iV (iN k)), (25, iV (pT (blk l.a) (off l.a + k * 1))), (26, iV (iI (l.xs.getD k intE.dflt))), (27, ⟨fun u w => ∃ (x27a : Nat), u = .slice (some ⟨x27a, 0, none⟩) 1 1 ∧ (slE intE).wf (Fr F [abk ls_a, abk ds_a, one b3, one b2, one b1]) w.heap (Sl.mk (some ⟨x27a, 0, none⟩) 1 ([(l.xs.getD k intE.dflt)])), fun v w w' c h => let ⟨x27a, hv, h0⟩ := h; ⟨x27a, hv, Enc.kp (slE intE) h0 c (fun _ h => by simp at h)⟩⟩)] (fun w => True) [[], [21], [], [], [23, 24], [25], [26]] [22, 27] _ rfl mixed (by kernel_rfl) rfl trivial ?_ ?_
   ·refine ⟨?_, ?_, ?_, ?_, ?_, ?_, ?_, trivial⟩
    ·intro a w14 G I S hE
     have TT := Tr.of_ch C.ms G (fun _ h => by simp at h)
     replace K3 := Blk.tr0 K3 G
     replace W4 := Row.tr0 W4 TT G
     replace W5 := Row.tr0 W5 TT G
     replace C := C.trans TT
     exact qo (pT b3 (0 + 1)) (x_fld (z := 0) (0) 1 Try.underlying41 rfl rfl (by kernel_rfl) (S.e rfl)) I
    ·intro a w15 G I S hE
     have TT := Tr.of_ch C.ms G (fun _ h => by simp at h)
     replace K3 := Blk.tr0 K3 G
     replace W4 := Row.tr0 W4 TT G
     replace W5 := Row.tr0 W5 TT G
     replace C := C.trans TT
     obtain ⟨e21, _⟩ := hE
     replace S := S.ext e21
     exact qo (.slice ds_a ds.length ds_c) (x_load ⟨_, Try.underlying22, rfl⟩ (S.e rfl) (K3.cell (j := 1) rfl)) I
    ·intro a w16 G I S hE
     have TT := Tr.of_ch C.ms G (fun _ h => by simp at h)
     replace l_w := Enc.tr (slE intE) l_w TT
     replace C := C.trans TT
     exact qo (sV l) (x_move (S.e rfl)) I
    ·intro a w17 G I S hE
     have TT := Tr.of_ch C.ms G (fun _ h => by simp at h)
     replace C := C.trans TT
     exact qo (iN k) (x_move (S.e rfl)) I
    ·intro a w18 G I S hE
     have TT := Tr.of_ch C.ms G (fun _ h => by simp at h)
     replace l_w := Enc.tr (slE intE) l_w TT
     replace C := C.trans TT
     obtain ⟨e23, e24, _⟩ := hE
     replace S := S.ext e23
     replace S := S.ext e24
     exact qo (pT (blk l.a) (off l.a + k * 1)) (x_idx Try.underlying22 (by kernel_rfl) (S.e rfl) (S.e rfl) k rfl (by omega) ((l_w).1.adr (i := k) (by omega))) I
    ·intro a w19 G I S hE
     have TT := Tr.of_ch C.ms G (fun _ h => by simp at h)
     replace l_w := Enc.tr (slE intE) l_w TT
     replace C := C.trans TT
     obtain ⟨e25, _⟩ := hE
     replace S := S.ext e25
     exact qo (iI (l.xs.getD k intE.dflt)) (x_load ⟨_, Try.underlying3, rfl⟩ (S.e rfl) ((l_w).1.cell k (by omega) 0 _ rfl)) I
    intro a w20 G I S hE
    have TT := Tr.of_ch C.ms G (fun _ h => by simp at h)
    replace l_w := Enc.tr (slE intE) l_w TT
    replace C := C.trans TT
    obtain ⟨e26, _⟩ := hE
    replace S := S.ext e26
    refine head_op rfl rfl (op_val (v := .slice (some ⟨_, 0, none⟩) 1 1) (x_bsl [(0, iI (l.xs.getD k intE.dflt))] [iI (l.xs.getD k intE.dflt)] Try.underlying22 infoz_3 (by decide) (by decide) (by simp only [List.map_cons, List.map_nil, show a.eval (.tmp 26) = iI (l.xs.getD k intE.dflt) from (S.e rfl)]) (by kernel_rfl)) ?_)
    refine Done.mk' rfl (by decide) (show ∃ _, _ from ⟨_, rfl, sl_of_blk (Blk.new _ [iI (l.xs.getD k intE.dflt)] 3) [(l.xs.getD k intE.dflt)] 1 rfl (by decide) (by decide) rfl (fr_fresh C hF rfl) ?_⟩) ((ch_alloc _ _).mono (fun k hk => by simp [In] at hk)) trivial
    intro x hx; simp only [List.mem_cons, List.not_mem_nil, or_false] at hx; subst hx <;> first | exact Enc.tr (intE) (show intE.wf (Fr F [abk ls_a, abk ds_a, one b3, one b2, one b1]) _ (l.xs.getD k intE.dflt) from ((l_w).1.wf k (by omega))) (Tr.of_ch0 C.ms (ch_alloc _ _))
   clear S a; intro a w21 G I S hE; have TT := Tr.of_ch C.ms G (fun _ h => by simp at h)
   replace t_w := Enc.tr (topoE) t_w TT
   replace l_w := Enc.tr (slE intE) l_w TT
   replace K1 := Blk.tr0 K1 G
   replace K2 := Blk.tr0 K2 G
   replace K3 := Blk.tr0 K3 G
   replace W4 := Row.tr0 W4 TT G
   replace W5 := Row.tr0 W5 TT G
   replace GL0 := GL0.trans TT
   replace C := C.trans TT
   clear TT G
   obtain ⟨e22, e27, -⟩ := hE
   replace S := S.ext e22
   obtain ⟨x27_10, e27, X10⟩ := e27
   replace S := S.ext e27
   have hn11 : ([(l.xs.getD k intE.dflt)]).length ≤ 9223372036854775807 := (X10).1.len
   clear e22 e27
   refine seq_op rfl (op_append (E := intE) [abk ls_a] [one b3, one b2, one b1] (.tmp 22) (.tmp 27) 22 rfl zero_3 8 Try.underlying22 infoz_3 rfl (by decide) rfl C.ms (S.e rfl) W5 ([(l.xs.getD k intE.dflt)]) (some ⟨x27_10, 0, none⟩) 1 (S.e rfl) (show LAt intE _ _ (some ⟨x27_10, 0, none⟩) ([(l.xs.getD k intE.dflt)]) from (X10).1) (X10).2.2 (LAt.mem (show LAt intE _ _ (some ⟨x27_10, 0, none⟩) ([(l.xs.getD k intE.dflt)]) from (X10).1)) (by unfold maxLen; (try simp only [List.length_cons, List.length_nil, List.length_append, List.length_map]); omega) (by (try simp only [List.length_cons, List.length_nil, List.length_append, List.length_map]); omega) (C.size) ?_)
   intro ad12 cap12 w22 Rn TT G
   have S1 := S.put (d := 28) (v := .slice ad12 (ds ++ [(l.xs.getD k intE.dflt)]).length cap12) (by decide); clear S; revert S1; generalize Act.put a _ _ = a1; intro S; clear a; rename Act => a
   replace TT : Tr [abk ls_a, abk ds_a, one b3, one b2, one b1] w21 [abk ls_a, abk ad12, one b3, one b2, one b1] w22 := TT; replace Rn : Row intE 3 w.heap.size F [abk ls_a, abk ad12, one b3, one b2, one b1] w22 ad12 cap12 (ds ++ [(l.xs.getD k intE.dflt)]) := Rn
   replace t_w := Enc.tr (topoE) t_w TT
   replace l_w := Enc.tr (slE intE) l_w TT
   replace K1 := Blk.tr K1 G (C.ms.sep.out 4 [1] rfl rfl rfl)
   replace K2 := Blk.tr K2 G (C.ms.sep.out 3 [1] rfl rfl rfl)
   replace K3 := Blk.tr K3 G (C.ms.sep.out 2 [1] rfl rfl rfl)
   replace W4 := Row.tr W4 TT G (fun k e => C.ms.sep.out 0 [1] rfl rfl e)
   replace X10 := Enc.tr (slE intE) X10 TT
   replace GL0 := GL0.trans TT
   replace C := C.trans TT
   clear W5; have W5 := Rn; clear Rn TT G
   refine qv S (pT b3 (0 + 1)) (x_fld (z := 0) (0) 1 Try.underlying41 rfl rfl (by kernel_rfl) (S.e rfl)) ?_; clear S a; intro a S
   refine seq_store S rfl rfl [.slice ls_a ls.length ls_c, .slice ad12 ((ds ++ [(l.xs.getD k intE.dflt)]).length) cap12] (x_store (by kernel_rfl) (S.e rfl) (S.e rfl) rfl K3 (o := 0 + 1) (u := .slice ds_a ds.length ds_c) rfl) K3 rfl ?_
   clear S a; intro a w23 G hz K S; clear hz; have TT := Tr.och C.ms G
   replace t_w := Enc.tr (topoE) t_w TT
   replace l_w := Enc.tr (slE intE) l_w TT
   replace K1 := Blk.tr K1 G (C.ms.sep.out 4 [2] rfl rfl rfl)
   replace K2 := Blk.tr K2 G (C.ms.sep.out 3 [2] rfl rfl rfl)
   replace W4 := Row.tr W4 TT G (fun k e => C.ms.sep.out 0 [2] rfl rfl e)
   replace W5 := Row.tr W5 TT G (fun k e => C.ms.sep.out 1 [2] rfl rfl e)
   replace X10 := Enc.tr (slE intE) X10 TT
   replace GL0 := GL0.trans TT
   replace C := C.trans TT
   clear K3; have K3 := K; clear K TT G
   refine wpList_nil ?_
   refine blk_n ?_
   refine then_n ?_
   refine wp_region_lit ?_
   refine qm S rfl ?_; clear S a; intro a S
   refine qv S (iN (k + 1)) (x_add (S.e rfl) (S.e rfl) (r := ((k + 1 : Nat) : Int)) (w_i64 (by omega))) ?_; clear S a; intro a S
   refine qa S rfl ?_; clear S a; intro a S
   refine qt ?_
   refine ⟨l.xs.length - (k + 1), ?_, (k + 1), ls_a, ls_c, ls, ad12, cap12, (ds ++ [(l.xs.getD k intE.dflt)]), S.sub ⟨rfl, rfl, rfl, rfl, rfl, trivial⟩, GL0, ?_, K1, K2, K3, W4, W5, rfl⟩
   ·omega
   refine ⟨by omega, ?_, by simp only [List.length_append, List.length_cons, List.length_nil]; omega⟩
   have e0 : intE.dflt = 0 := rfl
   rw [e0] at hc1 ⊢
   rw [keyOf_snoc (by omega), ← ho]
   first | rw [if_pos hc1] | rw [if_neg hc1]
  intro hc2
  replace S := S.sub (L' := [(1, sV l), (2, pT b1 0), (4, pT b2 0), (5, pT b3 0), (6, iN k), (7, iN k), (8, sV l), (9, iN l.xs.length), (10, bD (((k : Nat) : Int) < ((l.xs.length : Nat) : Int))), (20, bD ((l.xs.getD k intE.dflt) < ((t.devs.xs.length : Nat) : Int)))]) ⟨rfl, rfl, rfl, rfl, rfl, rfl, rfl, rfl, rfl, rfl, trivial⟩
  refine wp_heads (M := In []) S 11 [(30, iV (pT b3 (0 + 0))), (31, iV (.slice ls_a ls.length ls_c)), (32, iV (sV l)), (33, iV (iN k)), (34, iV (pT (blk l.a) (off l.a + k * 1))), (35, iV (iI (l.xs.getD k intE.dflt))), (36, iV (pT b1 (0 + 0))), (37, iV (sV t.devs)), (38, iV (iN t.devs.xs.length)), (39, iV (iI ((l.xs.getD k intE.dflt) - ((t.devs.xs.length : Nat) : Int)))), (40, ⟨fun u w => ∃ (x40a : Nat), u = .slice (some ⟨x40a, 0, none⟩) 1 1 ∧ (slE intE).wf (Fr F [abk ls_a, abk ds_a, one b3, one b2, one b1]) w.heap (Sl.mk (some ⟨x40a, 0, none⟩) 1 ([((l.xs.getD k intE.dflt) - ((t.devs.xs.length : Nat) : Int))])), fun v w w' c h => let ⟨x40a, hv, h0⟩ := h; ⟨x40a, hv, Enc.kp (slE intE) h0 c (fun _ h => by simp at h)⟩⟩)] (fun w => True) [[], [30], [], [], [32, 33], [34], [], [36], [37], [35, 38], [39]] [31, 40] _ rfl mixed (by kernel_rfl) rfl trivial ?_ ?_
  ·refine ⟨?_, ?_, ?_, ?_, ?_, ?_, ?_, ?_, ?_, ?_, ?_, trivial⟩
   ·intro a w24 G I S hE
    have TT := Tr.of_ch C.ms G (fun _ h => by simp at h)
    replace K3 := Blk.tr0 K3 G
    replace W4 := Row.tr0 W4 TT G
    replace W5 := Row.tr0 W5 TT G
    replace C := C.trans TT
    exact qo (pT b3 (0 + 0)) (x_fld (z := 0) (0) 0 Try.underlying41 rfl rfl (by kernel_rfl) (S.e rfl)) I
   ·intro a w25 G I S hE
    have TT := Tr.of_ch C.ms G (fun _ h => by simp at h)
    replace K3 := Blk.tr0 K3 G
    replace W4 := Row.tr0 W4 TT G
    replace W5 := Row.tr0 W5 TT G
    replace C := C.trans TT
    obtain ⟨e30, _⟩ := hE
    replace S := S.ext e30
    exact qo (.slice ls_a ls.length ls_c) (x_load ⟨_, Try.underlying22, rfl⟩ (S.e rfl) (K3.cell (j := 0) rfl)) I
   ·intro a w26 G I S hE
    have TT := Tr.of_ch C.ms G (fun _ h => by simp at h)
    replace l_w := Enc.tr (slE intE) l_w TT
    replace C := C.trans TT
    exact qo (sV l) (x_move (S.e rfl)) I
   ·intro a w27 G I S hE
    have TT := Tr.of_ch C.ms G (fun _ h => by simp at h)
    replace C := C.trans TT
    exact qo (iN k) (x_move (S.e rfl)) I
   ·intro a w28 G I S hE
    have TT := Tr.of_ch C.ms G (fun _ h => by simp at h)
    replace l_w := Enc.tr (slE intE) l_w TT
    replace C := C.trans TT
    obtain ⟨e32, e33, _⟩ := hE
    replace S := S.ext e32
    replace S := S.ext e33
    exact qo (pT (blk l.a) (off l.a + k * 1)) (x_idx Try.underlying22 (by kernel_rfl) (S.e rfl) (S.e rfl) k rfl (by omega) ((l_w).1.adr (i := k) (by omega))) I
   ·intro a w29 G I S hE
    have TT := Tr.of_ch C.ms G (fun _ h => by simp at h)
    replace l_w := Enc.tr (slE intE) l_w TT
    replace C := C.trans TT
    obtain ⟨e34, _⟩ := hE
    replace S := S.ext e34
    exact qo (iI (l.xs.getD k intE.dflt)) (x_load ⟨_, Try.underlying3, rfl⟩ (S.e rfl) ((l_w).1.cell k (by omega) 0 _ rfl)) I
   ·intro a w30 G I S hE
    have TT := Tr.of_ch C.ms G (fun _ h => by simp at h)
    replace t_w := Enc.tr (topoE) t_w TT
    replace K1 := Blk.tr0 K1 G
    replace C := C.trans TT
    exact qo (pT b1 (0 + 0)) (x_fld (z := 0) (0) 0 Try.underlying28 rfl rfl (by kernel_rfl) (S.e rfl)) I
   ·intro a w31 G I S hE
    have TT := Tr.of_ch C.ms G (fun _ h => by simp at h)
    replace t_w := Enc.tr (topoE) t_w TT
    replace K1 := Blk.tr0 K1 G
    replace C := C.trans TT
    obtain ⟨e36, _⟩ := hE
    replace S := S.ext e36
    exact qo (sV t.devs) (x_load ⟨_, Try.underlying23, rfl⟩ (S.e rfl) (K1.cell (j := 0) rfl)) I
   ·intro a w32 G I S hE
    have TT := Tr.of_ch C.ms G (fun _ h => by simp at h)
    replace t_w := Enc.tr (topoE) t_w TT
    replace C := C.trans TT
    obtain ⟨e37, _⟩ := hE
    replace S := S.ext e37
    have hn13 : t.devs.xs.length ≤ 9223372036854775807 := (t_w.1).1.len
    exact qo (iN t.devs.xs.length) (x_len Try.underlying23 (S.e rfl)) I
   ·intro a w33 G I S hE
    have TT := Tr.of_ch C.ms G (fun _ h => by simp at h)
    replace l_w := Enc.tr (slE intE) l_w TT
    replace C := C.trans TT
    obtain ⟨e35, e38, _⟩ := hE
    replace S := S.ext e35
    replace S := S.ext e38
    exact qo (iI ((l.xs.getD k intE.dflt) - ((t.devs.xs.length : Nat) : Int))) (x_sub (S.e rfl) (S.e rfl) (r := ((l.xs.getD k intE.dflt) - ((t.devs.xs.length : Nat) : Int))) (w_i64 (by omega))) I
   intro a w34 G I S hE
   have TT := Tr.of_ch C.ms G (fun _ h => by simp at h)
   replace C := C.trans TT
   obtain ⟨e39, _⟩ := hE
   replace S := S.ext e39
   refine head_op rfl rfl (op_val (v := .slice (some ⟨_, 0, none⟩) 1 1) (x_bsl [(0, iI ((l.xs.getD k intE.dflt) - ((t.devs.xs.length : Nat) : Int)))] [iI ((l.xs.getD k intE.dflt) - ((t.devs.xs.length : Nat) : Int))] Try.underlying22 infoz_3 (by decide) (by decide) (by simp only [List.map_cons, List.map_nil, show a.eval (.tmp 39) = iI ((l.xs.getD k intE.dflt) - ((t.devs.xs.length : Nat) : Int)) from (S.e rfl)]) (by kernel_rfl)) ?_)
   refine Done.mk' rfl (by decide) (show ∃ _, _ from ⟨_, rfl, sl_of_blk (Blk.new _ [iI ((l.xs.getD k intE.dflt) - ((t.devs.xs.length : Nat) : Int))] 3) [((l.xs.getD k intE.dflt) - ((t.devs.xs.length : Nat) : Int))] 1 rfl (by decide) (by decide) rfl (fr_fresh C hF rfl) ?_⟩) ((ch_alloc _ _).mono (fun k hk => by simp [In] at hk)) trivial
   intro x hx; simp only [List.mem_cons, List.not_mem_nil, or_false] at hx; subst hx <;> first | exact Enc.tr (intE) (show intE.wf (Fr F [abk ls_a, abk ds_a, one b3, one b2, one b1]) _ ((l.xs.getD k intE.dflt) - ((t.devs.xs.length : Nat) : Int)) from (show inI64 ((l.xs.getD k intE.dflt) - ((t.devs.xs.length : Nat) : Int)) from ⟨by omega, by omega⟩)) (Tr.of_ch0 C.ms (ch_alloc _ _))
  clear S a; intro a w35 G I S hE; have TT := Tr.of_ch C.ms G (fun _ h => by simp at h)
  replace t_w := Enc.tr (topoE) t_w TT
  replace l_w := Enc.tr (slE intE) l_w TT
  replace K1 := Blk.tr0 K1 G
  replace K2 := Blk.tr0 K2 G
  replace K3 := Blk.tr0 K3 G
  replace W4 := Row.tr0 W4 TT G
  replace W5 := Row.tr0 W5 TT G
  replace GL0 := GL0.trans TT
  replace C := C.trans TT
  clear TT G
  obtain ⟨e31, e40, -⟩ := hE
  replace S := S.ext e31
  obtain ⟨x40_14, e40, X14⟩ := e40
  replace S := S.ext e40
  have hn15 : ([((l.xs.getD k intE.dflt) - ((t.devs.xs.length : Nat) : Int))]).length ≤ 9223372036854775807 := (X14).1.len
  clear e31 e40
  refine seq_op rfl (op_append (E := intE) [] [abk ds_a, one b3, one b2, one b1] (.tmp 31) (.tmp 40) 22 rfl zero_3 8 Try.underlying22 infoz_3 rfl (by decide) rfl C.ms (S.e rfl) W4 ([((l.xs.getD k intE.dflt) - ((t.devs.xs.length : Nat) : Int))]) (some ⟨x40_14, 0, none⟩) 1 (S.e rfl) (show LAt intE _ _ (some ⟨x40_14, 0, none⟩) ([((l.xs.getD k intE.dflt) - ((t.devs.xs.length : Nat) : Int))]) from (X14).1) (X14).2.2 (LAt.mem (show LAt intE _ _ (some ⟨x40_14, 0, none⟩) ([((l.xs.getD k intE.dflt) - ((t.devs.xs.length : Nat) : Int))]) from (X14).1)) (by unfold maxLen; (try simp only [List.length_cons, List.length_nil, List.length_append, List.length_map]); omega) (by (try simp only [List.length_cons, List.length_nil, List.length_append, List.length_map]); omega) (C.size) ?_)
  intro ad16 cap16 w36 Rn TT G
  have S1 := S.put (d := 41) (v := .slice ad16 (ls ++ [((l.xs.getD k intE.dflt) - ((t.devs.xs.length : Nat) : Int))]).length cap16) (by decide); clear S; revert S1; generalize Act.put a _ _ = a1; intro S; clear a; rename Act => a
  replace TT : Tr [abk ls_a, abk ds_a, one b3, one b2, one b1] w35 [abk ad16, abk ds_a, one b3, one b2, one b1] w36 := TT; replace Rn : Row intE 3 w.heap.size F [abk ad16, abk ds_a, one b3, one b2, one b1] w36 ad16 cap16 (ls ++ [((l.xs.getD k intE.dflt) - ((t.devs.xs.length : Nat) : Int))]) := Rn
  replace t_w := Enc.tr (topoE) t_w TT
  replace l_w := Enc.tr (slE intE) l_w TT
  replace K1 := Blk.tr K1 G (C.ms.sep.out 4 [0] rfl rfl rfl)
  replace K2 := Blk.tr K2 G (C.ms.sep.out 3 [0] rfl rfl rfl)
  replace K3 := Blk.tr K3 G (C.ms.sep.out 2 [0] rfl rfl rfl)
  replace W5 := Row.tr W5 TT G (fun k e => C.ms.sep.out 1 [0] rfl rfl e)
  replace X14 := Enc.tr (slE intE) X14 TT
  replace GL0 := GL0.trans TT
  replace C := C.trans TT
  clear W4; have W4 := Rn; clear Rn TT G
  refine qv S (pT b3 (0 + 0)) (x_fld (z := 0) (0) 0 Try.underlying41 rfl rfl (by kernel_rfl) (S.e rfl)) ?_; clear S a; intro a S
  refine seq_store S rfl rfl [.slice ad16 ((ls ++ [((l.xs.getD k intE.dflt) - ((t.devs.xs.length : Nat) : Int))]).length) cap16, .slice ds_a ds.length ds_c] (x_store (by kernel_rfl) (S.e rfl) (S.e rfl) rfl K3 (o := 0 + 0) (u := .slice ls_a ls.length ls_c) rfl) K3 rfl ?_
  clear S a; intro a w37 G hz K S; clear hz; have TT := Tr.och C.ms G
  replace t_w := Enc.tr (topoE) t_w TT
  replace l_w := Enc.tr (slE intE) l_w TT
  replace K1 := Blk.tr K1 G (C.ms.sep.out 4 [2] rfl rfl rfl)
  replace K2 := Blk.tr K2 G (C.ms.sep.out 3 [2] rfl rfl rfl)
  replace W4 := Row.tr W4 TT G (fun k e => C.ms.sep.out 0 [2] rfl rfl e)
  replace W5 := Row.tr W5 TT G (fun k e => C.ms.sep.out 1 [2] rfl rfl e)
  replace X14 := Enc.tr (slE intE) X14 TT
  replace GL0 := GL0.trans TT
  replace C := C.trans TT
  clear K3; have K3 := K; clear K TT G
  refine wpList_nil ?_
  refine blk_n ?_
  refine then_n ?_
  refine wp_region_lit ?_
  refine qm S rfl ?_; clear S a; intro a S
  refine qv S (iN (k + 1)) (x_add (S.e rfl) (S.e rfl) (r := ((k + 1 : Nat) : Int)) (w_i64 (by omega))) ?_; clear S a; intro a S
  refine qa S rfl ?_; clear S a; intro a S
  refine qt ?_
  refine ⟨l.xs.length - (k + 1), ?_, (k + 1), ad16, cap16, (ls ++ [((l.xs.getD k intE.dflt) - ((t.devs.xs.length : Nat) : Int))]), ds_a, ds_c, ds, S.sub ⟨rfl, rfl, rfl, rfl, rfl, trivial⟩, GL0, ?_, K1, K2, K3, W4, W5, rfl⟩
  ·omega
  refine ⟨by omega, ?_, by simp only [List.length_append, List.length_cons, List.length_nil]; omega⟩
  have e0 : intE.dflt = 0 := rfl
  rw [e0] at hc2 ⊢
  rw [keyOf_snoc (by omega), ← ho]
  first | rw [if_pos hc2] | rw [if_neg hc2]
 intro hc3
 refine wp_exit ?_
 refine then_e ?_
 refine then_e ?_
 refine blk_e ?_
 refine then_n ?_
 refine qs ?_
 refine qv S _ (x_loadw [.slice ls_a ls.length ls_c, .slice ds_a ds.length ds_c] ⟨_, Try.underlying41, rfl, by kernel_rfl⟩ (S.e rfl) (K3.mid [] _ [] rfl _ rfl)) ?_; clear S a; intro a S
 refine seq_storew S rfl rfl (vs := [.slice ls_a ls.length ls_c, .slice ds_a ds.length ds_c]) (x_storew (by kernel_rfl) (S.e rfl) (S.e rfl) rfl K2 rfl) K2 ?_
 clear S a; intro a w38 G hz K S; clear hz; have TT := Tr.och C.ms G
 replace t_w := Enc.tr (topoE) t_w TT
 replace l_w := Enc.tr (slE intE) l_w TT
 replace K1 := Blk.tr K1 G (C.ms.sep.out 4 [3] rfl rfl rfl)
 replace K3 := Blk.tr K3 G (C.ms.sep.out 2 [3] rfl rfl rfl)
 replace W4 := Row.tr W4 TT G (fun k e => C.ms.sep.out 0 [3] rfl rfl e)
 replace W5 := Row.tr W5 TT G (fun k e => C.ms.sep.out 1 [3] rfl rfl e)
 replace GL0 := GL0.trans TT
 replace C := C.trans TT
 clear K2; have K2 := K; clear K TT G
 refine qt ?_
 refine wp_ret ?_
 have FW4 := Row.freeze (pre := []) (post := [abk ds_a, one b3, one b2, one b1]) rfl C.ms W4 (by first | decide | exact Nat.one_pos) (W4.notF hF (Nat.le_refl _))
 have TF := Tr.leave (pre := []) (o := abk ls_a) (post := [abk ds_a, one b3, one b2, one b1]) C.ms
 have GF : Ch (In []) w38 w38 := Ch.refl _
 replace t_w := Enc.tr (topoE) t_w TF
 replace l_w := Enc.tr (slE intE) l_w TF
 replace K1 := Blk.tr0 K1 GF
 replace K2 := Blk.tr0 K2 GF
 replace K3 := Blk.tr0 K3 GF
 replace W5 := Row.tr0 W5 TF GF
 replace GL0 := GL0.trans TF
 replace C := C.trans TF
 replace FW4 : (slE intE).wf (Fr F [abk ds_a, one b3, one b2, one b1]) w38.heap ⟨ls_a, ls_c, ls⟩ := FW4; clear W4
 have FW5 := Row.freeze (pre := []) (post := [one b3, one b2, one b1]) rfl C.ms W5 (by first | decide | exact Nat.one_pos) (W5.notF hF (Nat.le_refl _))
 have TF := Tr.leave (pre := []) (o := abk ds_a) (post := [one b3, one b2, one b1]) C.ms
 have GF : Ch (In []) w38 w38 := Ch.refl _
 replace t_w := Enc.tr (topoE) t_w TF
 replace l_w := Enc.tr (slE intE) l_w TF
 replace K1 := Blk.tr0 K1 GF
 replace K2 := Blk.tr0 K2 GF
 replace K3 := Blk.tr0 K3 GF
 replace FW4 := Enc.tr (slE intE) FW4 TF
 replace GL0 := GL0.trans TF
 replace C := C.trans TF
 replace FW5 : (slE intE).wf (Fr F [one b3, one b2, one b1]) w38.heap ⟨ds_a, ds_c, ds⟩ := FW5; clear W5
 refine retcw rfl S rfl [.slice ls_a ls.length ls_c, .slice ds_a ds.length ds_c] ⟨_, Try.underlying41, rfl, by kernel_rfl⟩ (fun j v hv => by rw [Nat.zero_add]; exact K2.cell hv) ?_
 have TD : Tr [one b3, one b2, one b1] w38 [] w38 := Tr.drop C.ms [] (by decide)
 have GD : Ch (In []) w38 w38 := Ch.refl _
 clear K1
 clear K2
 clear K3
 replace t_w := Enc.tr (topoE) t_w TD
 replace l_w := Enc.tr (slE intE) l_w TD
 replace FW4 := Enc.tr (slE intE) FW4 TD
 replace FW5 := Enc.tr (slE intE) FW5 TD
 replace GL0 := GL0.trans TD
 replace C := C.trans TD
 clear TD GD
 refine ⟨(⟨(Sl.mk ls_a ls_c ls), (Sl.mk ds_a ds_c ds)⟩ : Fail), rfl, ⟨FW4, FW5⟩, ?_, C⟩
 show (ls, ds) = _; rw [ho, show k = l.xs.length from by omega, List.take_length]
set_option maxHeartbeats 2000000 in
set_option maxRecDepth 20000 in
theorem fState (w : World) (F : Nat → Prop) (hF : Old F w) (M : MS [] w) (t : Topo) (t_w : topoE.wf (Fr F []) w.heap t) (l : Sl Int) (l_w : (slE intE).wf (Fr F []) w.heap l) (hl : l.xs.length ≤ 1024) (hb : t.devs.xs.length ≤ 12) :
 Calls Try.prog 52 #[tV t, sV l] w fun e w' => ∃ (r : Fail), e = .returned (fV r) ∧ failE.wf (Fr F []) w'.heap r ∧ keyF r = keyOf t.devs.xs.length l.xs ∧ Tr [] w [] w' := by
 have C : Tr [] w [] w := Tr.refl M
 have : t.devs.xs.length ≤ 9223372036854775807 := (t_w.1).1.len
 have : t.links.xs.length ≤ 9223372036854775807 := (t_w.2.1).1.len
 have : t.edges.xs.length ≤ 9223372036854775807 := (t_w.2.2.1).1.len
 have : t.pools.xs.length ≤ 9223372036854775807 := (t_w.2.2.2.1).1.len
 obtain ⟨_, _⟩ : inI64 t.tol := t_w.2.2.2.2
 have : l.xs.length ≤ 9223372036854775807 := (l_w).1.len
 refine enter Try.func52 rfl 37 rfl (Nat.le_of_ble_eq_true rfl) ?_
 intro a S
 refine qs ?_
 refine seq_new S rfl rfl (by decide) (fun b => pT b 0) (cs := (tL t)) (x_box (tL t) (S.e rfl) rfl) ?_
 clear S a; intro a w1 b1 hb1 hbs1 G K1 S; have hbl1 : b1 < w1.heap.size := by omega
 have TT := Tr.fresh C.ms hb1 hbl1 G
 replace t_w := Enc.tr (topoE) t_w TT
 replace l_w := Enc.tr (slE intE) l_w TT
 replace C := C.trans TT
 clear TT G
 refine seq_new S rfl rfl (by decide) (fun b => pT b 0) (cs := [.slice none 0 0, .slice none 0 0]) (x_allocz [.slice none 0 0, .slice none 0 0] infoz_41 rfl) ?_
 clear S a; intro a w2 b2 hb2 hbs2 G K2 S; have hbl2 : b2 < w2.heap.size := by omega
 have TT := Tr.fresh C.ms hb2 hbl2 G
 replace t_w := Enc.tr (topoE) t_w TT
 replace l_w := Enc.tr (slE intE) l_w TT
 replace K1 := Blk.tr0 K1 G
 replace C := C.trans TT
 clear TT G
 refine qt ?_
 refine qs ?_
 refine seq_new S rfl rfl (by decide) (fun b => pT b 0) (cs := [.slice none 0 0, .slice none 0 0]) (x_allocz [.slice none 0 0, .slice none 0 0] infoz_41 rfl) ?_
 clear S a; intro a w3 b3 hb3 hbs3 G K3 S; have hbl3 : b3 < w3.heap.size := by omega
 have TT := Tr.fresh C.ms hb3 hbl3 G
 replace t_w := Enc.tr (topoE) t_w TT
 replace l_w := Enc.tr (slE intE) l_w TT
 replace K1 := Blk.tr0 K1 G
 replace K2 := Blk.tr0 K2 G
 replace C := C.trans TT
 clear TT G
 refine qt ?_
 refine wp_seq ?_
 refine qs ?_
 refine qm S rfl ?_; clear S a; intro a S
 have hn4 : l.xs.length ≤ 9223372036854775807 := (l_w).1.len
 refine qv S (iN l.xs.length) (x_len Try.underlying22 (S.e rfl)) ?_; clear S a; intro a S
 refine qm S rfl ?_; clear S a; intro a S
 refine qt ?_
 refine wp_block ?_
 have W5 := Row.nil intE 3 w.heap.size F [abk none, one b3, one b2, one b1] w3
 have TT : Tr [one b3, one b2, one b1] w3 [abk none, one b3, one b2, one b1] w3 := (Tr.refl C.ms).cons (b := abk none) (fun k e => absurd e abk_none); have G : Ch (In []) w3 w3 := Ch.refl _
 replace t_w := Enc.tr (topoE) t_w TT
 replace l_w := Enc.tr (slE intE) l_w TT
 replace K1 := Blk.tr0 K1 G
 replace K2 := Blk.tr0 K2 G
 replace K3 := Blk.tr0 K3 G
 replace C := C.trans TT
 clear TT G
 have W6 := Row.nil intE 3 w.heap.size F [abk none, abk none, one b3, one b2, one b1] w3
 have TT : Tr [abk none, one b3, one b2, one b1] w3 [abk none, abk none, one b3, one b2, one b1] w3 := (Tr.refl C.ms).cons (b := abk none) (fun k e => absurd e abk_none); have G : Ch (In []) w3 w3 := Ch.refl _
 replace t_w := Enc.tr (topoE) t_w TT
 replace l_w := Enc.tr (slE intE) l_w TT
 replace K1 := Blk.tr0 K1 G
 replace K2 := Blk.tr0 K2 G
 replace K3 := Blk.tr0 K3 G
 replace W5 := Row.tr0 W5 TT G
 replace C := C.trans TT
 clear TT G
 refine wp_loop_ghost (fun m a wr => ∃ k : Nat, ∃ ls_a : Option Addr, ∃ ls_c : Nat, ∃ ls : List Int, ∃ ds_a : Option Addr, ∃ ds_c : Nat, ∃ ds : List Int, Slots 37 [(2, pT b1 0), (4, pT b2 0), (5, pT b3 0), (8, sV l), (9, iN l.xs.length), (10, iN k)] a ∧ Tr [abk none, abk none, one b3, one b2, one b1] w3 [abk ls_a, abk ds_a, one b3, one b2, one b1] wr ∧ (k ≤ l.xs.length ∧ (ls, ds) = keyOf t.devs.xs.length (l.xs.take k) ∧ ls.length + ds.length ≤ k) ∧ Blk wr.heap b1 (tL t) 28 ∧ Blk wr.heap b2 [.slice none 0 0, .slice none 0 0] 41 ∧ Blk wr.heap b3 [.slice ls_a ls.length ls_c, .slice ds_a ds.length ds_c] 41 ∧ Row intE 3 w.heap.size F [abk ls_a, abk ds_a, one b3, one b2, one b1] wr ls_a ls_c ls ∧ Row intE 3 w.heap.size F [abk ls_a, abk ds_a, one b3, one b2, one b1] wr ds_a ds_c ds ∧ (l.xs.length - k) = m) (l.xs.length - 0) ?_ ?_
 ·refine ⟨0, none, 0, [], none, 0, [], S.sub ⟨rfl, rfl, rfl, rfl, rfl, rfl, trivial⟩, Tr.refl C.ms, ?_, K1, K2, K3, W5, W6, rfl⟩
  exact ⟨Nat.zero_le _, rfl, Nat.zero_le _⟩
 rintro m a w4 ⟨k, ls_a, ls_c, ls, ds_a, ds_c, ds, S, G, hR, K1', K2', K3', W5', W6', rfl⟩
 clear K1; have K1 := K1'; clear K1'
 clear K2; have K2 := K2'; clear K2'
 clear K3; have K3 := K3'; clear K3'
 clear W5; have W5 := W5'; clear W5'
 clear W6; have W6 := W6'; clear W6'
 replace t_w := Enc.tr (topoE) t_w G
 replace l_w := Enc.tr (slE intE) l_w G
 replace C := C.trans G
 have GL0 := G; clear G
 have ls_len := W5.len_le; simp only [maxLen] at ls_len
 have ds_len := W6.len_le; simp only [maxLen] at ds_len
 obtain ⟨hk, ho, hol⟩ := hR
 refine qs ?_
 refine qv S (bD (((k : Nat) : Int) < ((l.xs.length : Nat) : Int))) (x_lss (S.e rfl) (S.e rfl)) ?_; clear S a; intro a S
 refine qt ?_
 refine wp_seq ?_
 refine cond_dec S rfl ?_ ?_
 ·intro hc0
  refine wp_skip ?_
  refine then_n ?_
  refine wp_seq ?_
  refine wp_block ?_
  refine qs ?_
  refine qv S (pT (blk l.a) (off l.a + k * 1)) (x_idx Try.underlying22 (by kernel_rfl) (S.e rfl) (S.e rfl) k rfl (by omega) ((l_w).1.adr (i := k) (by omega))) ?_; clear S a; intro a S
  obtain ⟨hl7, hu7⟩ : inI64 (l.xs.getD k intE.dflt) := id ((l_w).1.wf k (by omega))
  refine qv S (iI (l.xs.getD k intE.dflt)) (x_load ⟨_, Try.underlying3, rfl⟩ (S.e rfl) ((l_w).1.cell k (by omega) 0 _ rfl)) ?_; clear S a; intro a S
  refine qa S rfl ?_; clear S a; intro a S
  refine qt ?_
  refine qs ?_
  refine qm S rfl ?_; clear S a; intro a S
  refine qv S (pT b1 (0 + 0)) (x_fld (z := 0) (0) 0 Try.underlying28 rfl rfl (by kernel_rfl) (S.e rfl)) ?_; clear S a; intro a S
  refine qv S (sV t.devs) (x_load ⟨_, Try.underlying23, rfl⟩ (S.e rfl) (K1.cell (j := 0) rfl)) ?_; clear S a; intro a S
  have hn8 : t.devs.xs.length ≤ 9223372036854775807 := (t_w.1).1.len
  refine qv S (iN t.devs.xs.length) (x_len Try.underlying23 (S.e rfl)) ?_; clear S a; intro a S
  refine qv S (bD ((l.xs.getD k intE.dflt) < ((t.devs.xs.length : Nat) : Int))) (x_lss (S.e rfl) (S.e rfl)) ?_; clear S a; intro a S
  refine qt ?_
  refine cond_dec S rfl ?_ ?_
  ·intro hc1
   refine wp_region_lit ?_
   refine qv S (pT b3 (0 + 1)) (x_fld (z := 0) (0) 1 Try.underlying41 rfl rfl (by kernel_rfl) (S.e rfl)) ?_; clear S a; intro a S
   refine qv S (.slice ds_a ds.length ds_c) (x_load ⟨_, Try.underlying22, rfl⟩ (S.e rfl) (K3.cell (j := 1) rfl)) ?_; clear S a; intro a S
   refine qm S rfl ?_; clear S a; intro a S
   refine seq_new S rfl rfl (by decide) (fun b => .slice (some ⟨b, 0, none⟩) 1 1) (cs := [iI (l.xs.getD k intE.dflt)]) (x_bsl [(0, iI (l.xs.getD k intE.dflt))] [iI (l.xs.getD k intE.dflt)] Try.underlying22 infoz_3 (by decide) (by decide) (by simp only [List.map_cons, List.map_nil, show a.eval (.tmp 21) = iI (l.xs.getD k intE.dflt) from (S.e rfl)]) (by kernel_rfl)) ?_
   clear S a; intro a w5 b9 hb9 hbs9 G K9 S; have hbl9 : b9 < w5.heap.size := by omega
   have we9_0 : intE.wf (Fr F [abk ls_a, abk ds_a, one b3, one b2, one b1]) w4.heap (l.xs.getD k intE.dflt) := ((l_w).1.wf k (by omega))
   have hfr9 := fr_fresh C hF hb9; have TT := Tr.of_ch0 C.ms G
   replace t_w := Enc.tr (topoE) t_w TT
   replace l_w := Enc.tr (slE intE) l_w TT
   replace K1 := Blk.tr0 K1 G
   replace K2 := Blk.tr0 K2 G
   replace K3 := Blk.tr0 K3 G
   replace W5 := Row.tr0 W5 TT G
   replace W6 := Row.tr0 W6 TT G
   replace GL0 := GL0.trans TT
   replace C := C.trans TT
   have KS9 : (slE intE).wf (Fr F [abk ls_a, abk ds_a, one b3, one b2, one b1]) w5.heap ⟨some ⟨b9, 0, none⟩, 1, [(l.xs.getD k intE.dflt)]⟩ := sl_of_blk K9 [(l.xs.getD k intE.dflt)] 1 rfl (by decide) (by decide) rfl hfr9 (by intro x hx; simp only [List.mem_cons, List.not_mem_nil, or_false] at hx; subst hx; exact Enc.tr (intE) we9_0 TT)
   clear K9 hfr9 TT G we9_0
   refine seq_op rfl (op_append (E := intE) [abk ls_a] [one b3, one b2, one b1] (.tmp 20) (.tmp 22) 22 rfl zero_3 8 Try.underlying22 infoz_3 rfl (by decide) rfl C.ms (S.e rfl) W6 ([(l.xs.getD k intE.dflt)]) (some ⟨b9, 0, none⟩) 1 (S.e rfl) (show LAt intE _ _ (some ⟨b9, 0, none⟩) ([(l.xs.getD k intE.dflt)]) from (KS9).1) (KS9).2.2 (LAt.mem (show LAt intE _ _ (some ⟨b9, 0, none⟩) ([(l.xs.getD k intE.dflt)]) from (KS9).1)) (by unfold maxLen; (try simp only [List.length_cons, List.length_nil, List.length_append, List.length_map]); omega) (by (try simp only [List.length_cons, List.length_nil, List.length_append, List.length_map]); omega) (C.size) ?_)
   intro ad10 cap10 w6 Rn TT G
   have S1 := S.put (d := 23) (v := .slice ad10 (ds ++ [(l.xs.getD k intE.dflt)]).length cap10) (by decide); clear S; revert S1; generalize Act.put a _ _ = a1; intro S; clear a; rename Act => a
   replace TT : Tr [abk ls_a, abk ds_a, one b3, one b2, one b1] w5 [abk ls_a, abk ad10, one b3, one b2, one b1] w6 := TT; replace Rn : Row intE 3 w.heap.size F [abk ls_a, abk ad10, one b3, one b2, one b1] w6 ad10 cap10 (ds ++ [(l.xs.getD k intE.dflt)]) := Rn
   replace t_w := Enc.tr (topoE) t_w TT
   replace l_w := Enc.tr (slE intE) l_w TT
   replace K1 := Blk.tr K1 G (C.ms.sep.out 4 [1] rfl rfl rfl)
   replace K2 := Blk.tr K2 G (C.ms.sep.out 3 [1] rfl rfl rfl)
   replace K3 := Blk.tr K3 G (C.ms.sep.out 2 [1] rfl rfl rfl)
   replace W5 := Row.tr W5 TT G (fun k e => C.ms.sep.out 0 [1] rfl rfl e)
   replace KS9 := Enc.tr (slE intE) KS9 TT
   replace GL0 := GL0.trans TT
   replace C := C.trans TT
   clear W6; have W6 := Rn; clear Rn TT G
   refine qv S (pT b3 (0 + 1)) (x_fld (z := 0) (0) 1 Try.underlying41 rfl rfl (by kernel_rfl) (S.e rfl)) ?_; clear S a; intro a S
   refine seq_store S rfl rfl [.slice ls_a ls.length ls_c, .slice ad10 ((ds ++ [(l.xs.getD k intE.dflt)]).length) cap10] (x_store (by kernel_rfl) (S.e rfl) (S.e rfl) rfl K3 (o := 0 + 1) (u := .slice ds_a ds.length ds_c) rfl) K3 rfl ?_
   clear S a; intro a w7 G hz K S; clear hz; have TT := Tr.och C.ms G
   replace t_w := Enc.tr (topoE) t_w TT
   replace l_w := Enc.tr (slE intE) l_w TT
   replace K1 := Blk.tr K1 G (C.ms.sep.out 4 [2] rfl rfl rfl)
   replace K2 := Blk.tr K2 G (C.ms.sep.out 3 [2] rfl rfl rfl)
   replace W5 := Row.tr W5 TT G (fun k e => C.ms.sep.out 0 [2] rfl rfl e)
   replace W6 := Row.tr W6 TT G (fun k e => C.ms.sep.out 1 [2] rfl rfl e)
   replace KS9 := Enc.tr (slE intE) KS9 TT
   replace GL0 := GL0.trans TT
   replace C := C.trans TT
   clear K3; have K3 := K; clear K TT G
   refine wpList_nil ?_
   refine blk_n ?_
   refine then_n ?_
   refine wp_region_lit ?_
   refine qv S (iN (k + 1)) (x_add (S.e rfl) (S.e rfl) (r := ((k + 1 : Nat) : Int)) (w_i64 (by omega))) ?_; clear S a; intro a S
   refine qm S rfl ?_; clear S a; intro a S
   refine qt ?_
   refine ⟨l.xs.length - (k + 1), ?_, (k + 1), ls_a, ls_c, ls, ad10, cap10, (ds ++ [(l.xs.getD k intE.dflt)]), S.sub ⟨rfl, rfl, rfl, rfl, rfl, rfl, trivial⟩, GL0, ?_, K1, K2, K3, W5, W6, rfl⟩
   ·omega
   refine ⟨by omega, ?_, by simp only [List.length_append, List.length_cons, List.length_nil]; omega⟩
   have e0 : intE.dflt = 0 := rfl
   rw [e0] at hc1 ⊢
   rw [keyOf_snoc (by omega), ← ho]
   first | rw [if_pos hc1] | rw [if_neg hc1]
  intro hc2
  refine wp_region_lit ?_
  refine qv S (pT b3 (0 + 0)) (x_fld (z := 0) (0) 0 Try.underlying41 rfl rfl (by kernel_rfl) (S.e rfl)) ?_; clear S a; intro a S
  refine qv S (.slice ls_a ls.length ls_c) (x_load ⟨_, Try.underlying22, rfl⟩ (S.e rfl) (K3.cell (j := 0) rfl)) ?_; clear S a; intro a S
  refine qm S rfl ?_; clear S a; intro a S
  refine qv S (pT b1 (0 + 0)) (x_fld (z := 0) (0) 0 Try.underlying28 rfl rfl (by kernel_rfl) (S.e rfl)) ?_; clear S a; intro a S
  refine qv S (sV t.devs) (x_load ⟨_, Try.underlying23, rfl⟩ (S.e rfl) (K1.cell (j := 0) rfl)) ?_; clear S a; intro a S
  refine qv S (iN t.devs.xs.length) (x_len Try.underlying23 (S.e rfl)) ?_; clear S a; intro a S
  refine qv S (iI ((l.xs.getD k intE.dflt) - ((t.devs.xs.length : Nat) : Int))) (x_sub (S.e rfl) (S.e rfl) (r := ((l.xs.getD k intE.dflt) - ((t.devs.xs.length : Nat) : Int))) (w_i64 (by omega))) ?_; clear S a; intro a S
  refine seq_new S rfl rfl (by decide) (fun b => .slice (some ⟨b, 0, none⟩) 1 1) (cs := [iI ((l.xs.getD k intE.dflt) - ((t.devs.xs.length : Nat) : Int))]) (x_bsl [(0, iI ((l.xs.getD k intE.dflt) - ((t.devs.xs.length : Nat) : Int)))] [iI ((l.xs.getD k intE.dflt) - ((t.devs.xs.length : Nat) : Int))] Try.underlying22 infoz_3 (by decide) (by decide) (by simp only [List.map_cons, List.map_nil, show a.eval (.tmp 31) = iI ((l.xs.getD k intE.dflt) - ((t.devs.xs.length : Nat) : Int)) from (S.e rfl)]) (by kernel_rfl)) ?_
  clear S a; intro a w8 b11 hb11 hbs11 G K11 S; have hbl11 : b11 < w8.heap.size := by omega
  have we11_0 : intE.wf (Fr F [abk ls_a, abk ds_a, one b3, one b2, one b1]) w4.heap ((l.xs.getD k intE.dflt) - ((t.devs.xs.length : Nat) : Int)) := (show inI64 ((l.xs.getD k intE.dflt) - ((t.devs.xs.length : Nat) : Int)) from ⟨by omega, by omega⟩)
  have hfr11 := fr_fresh C hF hb11; have TT := Tr.of_ch0 C.ms G
  replace t_w := Enc.tr (topoE) t_w TT
  replace l_w := Enc.tr (slE intE) l_w TT
  replace K1 := Blk.tr0 K1 G
  replace K2 := Blk.tr0 K2 G
  replace K3 := Blk.tr0 K3 G
  replace W5 := Row.tr0 W5 TT G
  replace W6 := Row.tr0 W6 TT G
  replace GL0 := GL0.trans TT
  replace C := C.trans TT
  have KS11 : (slE intE).wf (Fr F [abk ls_a, abk ds_a, one b3, one b2, one b1]) w8.heap ⟨some ⟨b11, 0, none⟩, 1, [((l.xs.getD k intE.dflt) - ((t.devs.xs.length : Nat) : Int))]⟩ := sl_of_blk K11 [((l.xs.getD k intE.dflt) - ((t.devs.xs.length : Nat) : Int))] 1 rfl (by decide) (by decide) rfl hfr11 (by intro x hx; simp only [List.mem_cons, List.not_mem_nil, or_false] at hx; subst hx; exact Enc.tr (intE) we11_0 TT)
  clear K11 hfr11 TT G we11_0
  refine seq_op rfl (op_append (E := intE) [] [abk ds_a, one b3, one b2, one b1] (.tmp 26) (.tmp 32) 22 rfl zero_3 8 Try.underlying22 infoz_3 rfl (by decide) rfl C.ms (S.e rfl) W5 ([((l.xs.getD k intE.dflt) - ((t.devs.xs.length : Nat) : Int))]) (some ⟨b11, 0, none⟩) 1 (S.e rfl) (show LAt intE _ _ (some ⟨b11, 0, none⟩) ([((l.xs.getD k intE.dflt) - ((t.devs.xs.length : Nat) : Int))]) from (KS11).1) (KS11).2.2 (LAt.mem (show LAt intE _ _ (some ⟨b11, 0, none⟩) ([((l.xs.getD k intE.dflt) - ((t.devs.xs.length : Nat) : Int))]) from (KS11).1)) (by unfold maxLen; (try simp only [List.length_cons, List.length_nil, List.length_append, List.length_map]); omega) (by (try simp only [List.length_cons, List.length_nil, List.length_append, List.length_map]); omega) (C.size) ?_)
  intro ad12 cap12 w9 Rn TT G
  have S1 := S.put (d := 33) (v := .slice ad12 (ls ++ [((l.xs.getD k intE.dflt) - ((t.devs.xs.length : Nat) : Int))]).length cap12) (by decide); clear S; revert S1; generalize Act.put a _ _ = a1; intro S; clear a; rename Act => a
  replace TT : Tr [abk ls_a, abk ds_a, one b3, one b2, one b1] w8 [abk ad12, abk ds_a, one b3, one b2, one b1] w9 := TT; replace Rn : Row intE 3 w.heap.size F [abk ad12, abk ds_a, one b3, one b2, one b1] w9 ad12 cap12 (ls ++ [((l.xs.getD k intE.dflt) - ((t.devs.xs.length : Nat) : Int))]) := Rn
  replace t_w := Enc.tr (topoE) t_w TT
  replace l_w := Enc.tr (slE intE) l_w TT
  replace K1 := Blk.tr K1 G (C.ms.sep.out 4 [0] rfl rfl rfl)
  replace K2 := Blk.tr K2 G (C.ms.sep.out 3 [0] rfl rfl rfl)
  replace K3 := Blk.tr K3 G (C.ms.sep.out 2 [0] rfl rfl rfl)
  replace W6 := Row.tr W6 TT G (fun k e => C.ms.sep.out 1 [0] rfl rfl e)
  replace KS11 := Enc.tr (slE intE) KS11 TT
  replace GL0 := GL0.trans TT
  replace C := C.trans TT
  clear W5; have W5 := Rn; clear Rn TT G
  refine qv S (pT b3 (0 + 0)) (x_fld (z := 0) (0) 0 Try.underlying41 rfl rfl (by kernel_rfl) (S.e rfl)) ?_; clear S a; intro a S
  refine seq_store S rfl rfl [.slice ad12 ((ls ++ [((l.xs.getD k intE.dflt) - ((t.devs.xs.length : Nat) : Int))]).length) cap12, .slice ds_a ds.length ds_c] (x_store (by kernel_rfl) (S.e rfl) (S.e rfl) rfl K3 (o := 0 + 0) (u := .slice ls_a ls.length ls_c) rfl) K3 rfl ?_
  clear S a; intro a w10 G hz K S; clear hz; have TT := Tr.och C.ms G
  replace t_w := Enc.tr (topoE) t_w TT
  replace l_w := Enc.tr (slE intE) l_w TT
  replace K1 := Blk.tr K1 G (C.ms.sep.out 4 [2] rfl rfl rfl)
  replace K2 := Blk.tr K2 G (C.ms.sep.out 3 [2] rfl rfl rfl)
  replace W5 := Row.tr W5 TT G (fun k e => C.ms.sep.out 0 [2] rfl rfl e)
  replace W6 := Row.tr W6 TT G (fun k e => C.ms.sep.out 1 [2] rfl rfl e)
  replace KS11 := Enc.tr (slE intE) KS11 TT
  replace GL0 := GL0.trans TT
  replace C := C.trans TT
  clear K3; have K3 := K; clear K TT G
  refine wpList_nil ?_
  refine blk_n ?_
  refine then_n ?_
  refine wp_region_lit ?_
  refine qv S (iN (k + 1)) (x_add (S.e rfl) (S.e rfl) (r := ((k + 1 : Nat) : Int)) (w_i64 (by omega))) ?_; clear S a; intro a S
  refine qm S rfl ?_; clear S a; intro a S
  refine qt ?_
  refine ⟨l.xs.length - (k + 1), ?_, (k + 1), ad12, cap12, (ls ++ [((l.xs.getD k intE.dflt) - ((t.devs.xs.length : Nat) : Int))]), ds_a, ds_c, ds, S.sub ⟨rfl, rfl, rfl, rfl, rfl, rfl, trivial⟩, GL0, ?_, K1, K2, K3, W5, W6, rfl⟩
  ·omega
  refine ⟨by omega, ?_, by simp only [List.length_append, List.length_cons, List.length_nil]; omega⟩
  have e0 : intE.dflt = 0 := rfl
  rw [e0] at hc2 ⊢
  rw [keyOf_snoc (by omega), ← ho]
  first | rw [if_pos hc2] | rw [if_neg hc2]
 intro hc3
 refine wp_exit ?_
 refine then_e ?_
 refine then_e ?_
 refine blk_e ?_
 refine then_n ?_
 refine qs ?_
 refine qv S _ (x_loadw [.slice ls_a ls.length ls_c, .slice ds_a ds.length ds_c] ⟨_, Try.underlying41, rfl, by kernel_rfl⟩ (S.e rfl) (K3.mid [] _ [] rfl _ rfl)) ?_; clear S a; intro a S
 refine seq_storew S rfl rfl (vs := [.slice ls_a ls.length ls_c, .slice ds_a ds.length ds_c]) (x_storew (by kernel_rfl) (S.e rfl) (S.e rfl) rfl K2 rfl) K2 ?_
 clear S a; intro a w11 G hz K S; clear hz; have TT := Tr.och C.ms G
 replace t_w := Enc.tr (topoE) t_w TT
 replace l_w := Enc.tr (slE intE) l_w TT
 replace K1 := Blk.tr K1 G (C.ms.sep.out 4 [3] rfl rfl rfl)
 replace K3 := Blk.tr K3 G (C.ms.sep.out 2 [3] rfl rfl rfl)
 replace W5 := Row.tr W5 TT G (fun k e => C.ms.sep.out 0 [3] rfl rfl e)
 replace W6 := Row.tr W6 TT G (fun k e => C.ms.sep.out 1 [3] rfl rfl e)
 replace GL0 := GL0.trans TT
 replace C := C.trans TT
 clear K2; have K2 := K; clear K TT G
 refine qt ?_
 refine wp_ret ?_
 have FW5 := Row.freeze (pre := []) (post := [abk ds_a, one b3, one b2, one b1]) rfl C.ms W5 (by first | decide | exact Nat.one_pos) (W5.notF hF (Nat.le_refl _))
 have TF := Tr.leave (pre := []) (o := abk ls_a) (post := [abk ds_a, one b3, one b2, one b1]) C.ms
 have GF : Ch (In []) w11 w11 := Ch.refl _
 replace t_w := Enc.tr (topoE) t_w TF
 replace l_w := Enc.tr (slE intE) l_w TF
 replace K1 := Blk.tr0 K1 GF
 replace K2 := Blk.tr0 K2 GF
 replace K3 := Blk.tr0 K3 GF
 replace W6 := Row.tr0 W6 TF GF
 replace GL0 := GL0.trans TF
 replace C := C.trans TF
 replace FW5 : (slE intE).wf (Fr F [abk ds_a, one b3, one b2, one b1]) w11.heap ⟨ls_a, ls_c, ls⟩ := FW5; clear W5
 have FW6 := Row.freeze (pre := []) (post := [one b3, one b2, one b1]) rfl C.ms W6 (by first | decide | exact Nat.one_pos) (W6.notF hF (Nat.le_refl _))
 have TF := Tr.leave (pre := []) (o := abk ds_a) (post := [one b3, one b2, one b1]) C.ms
 have GF : Ch (In []) w11 w11 := Ch.refl _
 replace t_w := Enc.tr (topoE) t_w TF
 replace l_w := Enc.tr (slE intE) l_w TF
 replace K1 := Blk.tr0 K1 GF
 replace K2 := Blk.tr0 K2 GF
 replace K3 := Blk.tr0 K3 GF
 replace FW5 := Enc.tr (slE intE) FW5 TF
 replace GL0 := GL0.trans TF
 replace C := C.trans TF
 replace FW6 : (slE intE).wf (Fr F [one b3, one b2, one b1]) w11.heap ⟨ds_a, ds_c, ds⟩ := FW6; clear W6
 refine retcw rfl S rfl [.slice ls_a ls.length ls_c, .slice ds_a ds.length ds_c] ⟨_, Try.underlying41, rfl, by kernel_rfl⟩ (fun j v hv => by rw [Nat.zero_add]; exact K2.cell hv) ?_
 have TD : Tr [one b3, one b2, one b1] w11 [] w11 := Tr.drop C.ms [] (by decide)
 have GD : Ch (In []) w11 w11 := Ch.refl _
 clear K1
 clear K2
 clear K3
 replace t_w := Enc.tr (topoE) t_w TD
 replace l_w := Enc.tr (slE intE) l_w TD
 replace FW5 := Enc.tr (slE intE) FW5 TD
 replace FW6 := Enc.tr (slE intE) FW6 TD
 replace GL0 := GL0.trans TD
 replace C := C.trans TD
 clear TD GD
 refine ⟨(⟨(Sl.mk ls_a ls_c ls), (Sl.mk ds_a ds_c ds)⟩ : Fail), rfl, ⟨FW5, FW6⟩, ?_, C⟩
 show (ls, ds) = _; rw [ho, show k = l.xs.length from by omega, List.take_length]
end Go.Proofs.Ytfanmniaolncbaa.V
