/- components: the reference -/
import Derived.Test.YtfanmniaolncbaaW6
import Derived.Test.YtfanmniaolncbaaLabM
namespace Go.Proofs.Ytfanmniaolncbaa.V
open Go.RowKit Go.Proofs.Ytfanmniaolncbaa
set_option linter.unusedVariables false
set_option linter.unusedSimpArgs false
set_option maxHeartbeats 2000000 in
set_option maxRecDepth 20000 in
theorem rComps (w : World) (F : Nat → Prop) (hF : Old F w) (M : MS [] w) (t : Topo) (t_w : topoE.wf (Fr F []) w.heap t) (f : Fail) (f_w : failE.wf (Fr F []) w.heap f) :
 Calls Try.prog 61 #[tV t, fV f] w fun e w' => ∃ (ra : Option Addr) (rc : Nat), e = .returned (.slice ra ((compsV t f).length) rc) ∧ (slE intE).wf (Fr F []) w'.heap (Sl.mk ra rc (compsV t f)) ∧ Tr [] w [] w' := by
 have C : Tr [] w [] w := Tr.refl M
 have : t.devs.xs.length ≤ 9223372036854775807 := (t_w.1).1.len
 have : t.links.xs.length ≤ 9223372036854775807 := (t_w.2.1).1.len
 have : t.edges.xs.length ≤ 9223372036854775807 := (t_w.2.2.1).1.len
 have : t.pools.xs.length ≤ 9223372036854775807 := (t_w.2.2.2.1).1.len
 obtain ⟨_, _⟩ : inI64 t.tol := t_w.2.2.2.2
 have : f.links.xs.length ≤ 9223372036854775807 := (f_w.1).1.len
 have : f.devs.xs.length ≤ 9223372036854775807 := (f_w.2).1.len
 refine enter Try.func61 rfl 83 rfl (Nat.le_of_ble_eq_true rfl) ?_
 intro a S
 refine qs ?_
 refine seq_new S rfl rfl (by decide) (fun b => pT b 0) (cs := (tL t)) (x_box (tL t) (S.e rfl) rfl) ?_
 clear S a; intro a w1 b1 hb1 hbs1 G K1 S; have hbl1 : b1 < w1.heap.size := by omega
 have TT := Tr.fresh C.ms hb1 hbl1 G
 replace t_w := Enc.tr (topoE) t_w TT
 replace f_w := Enc.tr (failE) f_w TT
 replace C := C.trans TT
 clear TT G
 refine seq_new S rfl rfl (by decide) (fun b => pT b 0) (cs := (fL f)) (x_box (fL f) (S.e rfl) rfl) ?_
 clear S a; intro a w2 b2 hb2 hbs2 G K2 S; have hbl2 : b2 < w2.heap.size := by omega
 have TT := Tr.fresh C.ms hb2 hbl2 G
 replace t_w := Enc.tr (topoE) t_w TT
 replace f_w := Enc.tr (failE) f_w TT
 replace K1 := Blk.tr0 K1 G
 replace C := C.trans TT
 clear TT G
 refine qa S rfl ?_; clear S a; intro a S
 refine qt ?_
 refine wp_seq ?_
 refine qs ?_
 refine qv S _ (x_loadw (tL t) ⟨_, Try.underlying28, rfl, by kernel_rfl⟩ (S.e rfl) (K1.mid [] _ [] rfl _ rfl)) ?_; clear S a; intro a S
 refine qv S _ (x_loadw (fL f) ⟨_, Try.underlying41, rfl, by kernel_rfl⟩ (S.e rfl) (K2.mid [] _ [] rfl _ rfl)) ?_; clear S a; intro a S
 refine seq_call S (by decide) (vs := #[tV t, fV f]) rfl callable_59 (rValidF _ (Ex F _) (C.old hF)  (MS.nil _) t ((topoE).down0 t_w) f ((failE).down0 f_w)) ?_
 rintro e w3 ⟨rfl, T0⟩; refine ⟨_, rfl, ?_⟩; clear S a; intro a S
 have TT := Tr.framed0 C.ms T0; have G := T0.ch
 replace t_w := Enc.tr (topoE) t_w TT
 replace f_w := Enc.tr (failE) f_w TT
 replace K1 := Blk.tr0 K1 G
 replace K2 := Blk.tr0 K2 G
 replace C := C.trans TT
 clear T0 G TT
 refine qv S (bD (¬ (failV t f))) (x_notp (S.e rfl)) ?_; clear S a; intro a S
 refine qt ?_
 refine cond_dec S rfl ?_ ?_
 ·intro hc0
  refine qs ?_
  refine qa S rfl ?_; clear S a; intro a S
  refine qt ?_
  refine wp_ret ?_
  refine then_r ?_
  refine ret1 rfl S rfl ?_
  have TD : Tr [one b2, one b1] w3 [] w3 := Tr.drop C.ms [] (by decide)
  have GD : Ch (In []) w3 w3 := Ch.refl _
  clear K1
  clear K2
  replace t_w := Enc.tr (topoE) t_w TD
  replace f_w := Enc.tr (failE) f_w TD
  replace C := C.trans TD
  clear TD GD
  have hx4 : compsV t f = [] := by
   unfold compsV; exact if_neg hc0
  rw [hx4]
  refine ⟨none, 0, rfl, sl_nil, C⟩
 intro hc1
 have HV := Classical.not_not.1 hc1
 have hB : topB t := HV.1.1.1
 unfold topB at hB
 refine wp_skip ?_
 refine then_n ?_
 refine qs ?_
 refine qa S rfl ?_; clear S a; intro a S
 refine qt ?_
 refine wp_seq ?_
 refine qs ?_
 refine qa S rfl ?_; clear S a; intro a S
 refine qt ?_
 refine wp_block ?_
 have W5 := Row.nil intE 3 w.heap.size F [abk none, one b2, one b1] w3
 have TT : Tr [one b2, one b1] w3 [abk none, one b2, one b1] w3 := (Tr.refl C.ms).cons (b := abk none) (fun k e => absurd e abk_none); have G : Ch (In []) w3 w3 := Ch.refl _
 replace t_w := Enc.tr (topoE) t_w TT
 replace f_w := Enc.tr (failE) f_w TT
 replace K1 := Blk.tr0 K1 G
 replace K2 := Blk.tr0 K2 G
 replace C := C.trans TT
 clear TT G
 refine wp_loop_ghost (fun m a wr => ∃ k : Nat, ∃ out_a : Option Addr, ∃ out_c : Nat, ∃ out : List Int, Slots 83 [(2, pT b1 0), (3, pT b2 0), (4, .slice none 0 0), (6, iN k), (5, .slice out_a out.length out_c)] a ∧ Tr [abk none, one b2, one b1] w3 [abk out_a, one b2, one b1] wr ∧ (k ≤ t.devs.xs.length ∧ out.length = k ∧ ∀ d, d < k → out.getD d 0 = if ((d : Nat) : Int) ∈ f.devs.xs then -1 else ((d : Nat) : Int)) ∧ Blk wr.heap b1 (tL t) 28 ∧ Blk wr.heap b2 (fL f) 41 ∧ Row intE 3 w.heap.size F [abk out_a, one b2, one b1] wr out_a out_c out ∧ (t.devs.xs.length - k) = m) (t.devs.xs.length - 0) ?_ ?_
 ·refine ⟨0, none, 0, [], S.sub ⟨rfl, rfl, rfl, rfl, rfl, trivial⟩, Tr.refl C.ms, ?_, K1, K2, W5, rfl⟩
  exact ⟨Nat.zero_le _, rfl, fun d h => by omega⟩
 rintro m a w4 ⟨k, out_a, out_c, out, S, G, hR, K1', K2', W5', rfl⟩
 clear K1; have K1 := K1'; clear K1'
 clear K2; have K2 := K2'; clear K2'
 clear W5; have W5 := W5'; clear W5'
 replace t_w := Enc.tr (topoE) t_w G
 replace f_w := Enc.tr (failE) f_w G
 replace C := C.trans G
 have GL0 := G; clear G
 have out_len := W5.len_le; simp only [maxLen] at out_len
 obtain ⟨hk, hol, hoe⟩ := hR
 refine wp_seq ?_
 refine qs ?_
 refine qm S rfl ?_; clear S a; intro a S
 refine qv S (pT b1 (0 + 0)) (x_fld (z := 0) (0) 0 Try.underlying28 rfl rfl (by kernel_rfl) (S.e rfl)) ?_; clear S a; intro a S
 refine qv S (sV t.devs) (x_load ⟨_, Try.underlying23, rfl⟩ (S.e rfl) (K1.cell (j := 0) rfl)) ?_; clear S a; intro a S
 have hn6 : t.devs.xs.length ≤ 9223372036854775807 := (t_w.1).1.len
 refine qv S (iN t.devs.xs.length) (x_len Try.underlying23 (S.e rfl)) ?_; clear S a; intro a S
 refine qv S (bD (((k : Nat) : Int) < ((t.devs.xs.length : Nat) : Int))) (x_lss (S.e rfl) (S.e rfl)) ?_; clear S a; intro a S
 refine qt ?_
 refine cond_dec S rfl ?_ ?_
 ·intro hc2
  refine wp_skip ?_
  refine then_n ?_
  refine wp_seq ?_
  refine wp_block ?_
  refine qs ?_
  refine qv S _ (x_loadw (tL t) ⟨_, Try.underlying28, rfl, by kernel_rfl⟩ (S.e rfl) (K1.mid [] _ [] rfl _ rfl)) ?_; clear S a; intro a S
  refine qv S _ (x_loadw (fL f) ⟨_, Try.underlying41, rfl, by kernel_rfl⟩ (S.e rfl) (K2.mid [] _ [] rfl _ rfl)) ?_; clear S a; intro a S
  refine qm S rfl ?_; clear S a; intro a S
  refine seq_call S (by decide) (vs := #[tV t, fV f, iN k]) rfl callable_60 (rAlive _ (Ex F _) (C.old hF)  (MS.nil _) t ((topoE).down0 t_w) f ((failE).down0 f_w) ((k : Nat) : Int) ⟨by omega, by omega⟩) ?_
  rintro e w5 ⟨rfl, T0⟩; refine ⟨_, rfl, ?_⟩; clear S a; intro a S
  have TT := Tr.framed0 C.ms T0; have G := T0.ch
  replace t_w := Enc.tr (topoE) t_w TT
  replace f_w := Enc.tr (failE) f_w TT
  replace K1 := Blk.tr0 K1 G
  replace K2 := Blk.tr0 K2 G
  replace W5 := Row.tr0 W5 TT G
  replace GL0 := GL0.trans TT
  replace C := C.trans TT
  clear T0 G TT
  refine qt ?_
  refine cond_dec S rfl ?_ ?_
  ·intro hc3
   refine wp_region_lit ?_
   refine qm S rfl ?_; clear S a; intro a S
   refine qm S rfl ?_; clear S a; intro a S
   refine seq_new S rfl rfl (by decide) (fun b => .slice (some ⟨b, 0, none⟩) 1 1) (cs := [iN k]) (x_bsl [(0, iN k)] [iN k] Try.underlying22 infoz_3 (by decide) (by decide) (by simp only [List.map_cons, List.map_nil, show a.eval (.tmp 27) = iN k from (S.e rfl)]) (by kernel_rfl)) ?_
   clear S a; intro a w6 b8 hb8 hbs8 G K8 S; have hbl8 : b8 < w6.heap.size := by omega
   have we8_0 : intE.wf (Fr F [abk out_a, one b2, one b1]) w5.heap ((k : Nat) : Int) := (show inI64 ((k : Nat) : Int) from ⟨by omega, by omega⟩)
   have hfr8 := fr_fresh C hF hb8; have TT := Tr.of_ch0 C.ms G
   replace t_w := Enc.tr (topoE) t_w TT
   replace f_w := Enc.tr (failE) f_w TT
   replace K1 := Blk.tr0 K1 G
   replace K2 := Blk.tr0 K2 G
   replace W5 := Row.tr0 W5 TT G
   replace GL0 := GL0.trans TT
   replace C := C.trans TT
   have KS8 : (slE intE).wf (Fr F [abk out_a, one b2, one b1]) w6.heap ⟨some ⟨b8, 0, none⟩, 1, [((k : Nat) : Int)]⟩ := sl_of_blk K8 [((k : Nat) : Int)] 1 rfl (by decide) (by decide) rfl hfr8 (by intro x hx; simp only [List.mem_cons, List.not_mem_nil, or_false] at hx; subst hx; exact Enc.tr (intE) we8_0 TT)
   clear K8 hfr8 TT G we8_0
   refine seq_op rfl (op_append (E := intE) [] [one b2, one b1] (.tmp 26) (.tmp 28) 22 rfl zero_3 8 Try.underlying22 infoz_3 rfl (by decide) rfl C.ms (S.e rfl) W5 ([((k : Nat) : Int)]) (some ⟨b8, 0, none⟩) 1 (S.e rfl) (show LAt intE _ _ (some ⟨b8, 0, none⟩) ([((k : Nat) : Int)]) from (KS8).1) (KS8).2.2 (LAt.mem (show LAt intE _ _ (some ⟨b8, 0, none⟩) ([((k : Nat) : Int)]) from (KS8).1)) (by unfold maxLen; (try simp only [List.length_cons, List.length_nil, List.length_append, List.length_map]); omega) (by (try simp only [List.length_cons, List.length_nil, List.length_append, List.length_map]); omega) (C.size) ?_)
   intro ad9 cap9 w7 Rn TT G
   have S1 := S.put (d := 29) (v := .slice ad9 (out ++ [((k : Nat) : Int)]).length cap9) (by decide); clear S; revert S1; generalize Act.put a _ _ = a1; intro S; clear a; rename Act => a
   replace TT : Tr [abk out_a, one b2, one b1] w6 [abk ad9, one b2, one b1] w7 := TT; replace Rn : Row intE 3 w.heap.size F [abk ad9, one b2, one b1] w7 ad9 cap9 (out ++ [((k : Nat) : Int)]) := Rn
   replace t_w := Enc.tr (topoE) t_w TT
   replace f_w := Enc.tr (failE) f_w TT
   replace K1 := Blk.tr K1 G (C.ms.sep.out 2 [0] rfl rfl rfl)
   replace K2 := Blk.tr K2 G (C.ms.sep.out 1 [0] rfl rfl rfl)
   replace KS8 := Enc.tr (slE intE) KS8 TT
   replace GL0 := GL0.trans TT
   replace C := C.trans TT
   clear W5; have W5 := Rn; clear Rn TT G
   refine qa S rfl ?_; clear S a; intro a S
   refine wpList_nil ?_
   refine blk_n ?_
   refine then_n ?_
   refine wp_region_lit ?_
   refine qm S rfl ?_; clear S a; intro a S
   refine qv S (iN (k + 1)) (x_add (S.e rfl) (S.e rfl) (r := ((k + 1 : Nat) : Int)) (w_i64 (by omega))) ?_; clear S a; intro a S
   refine qa S rfl ?_; clear S a; intro a S
   refine qt ?_
   refine ⟨t.devs.xs.length - (k + 1), ?_, k + 1, ad9, cap9, (out ++ [((k : Nat) : Int)]), S.sub ⟨rfl, rfl, rfl, rfl, (by first | rfl | (simp only [List.length_set]; rfl)), trivial⟩, GL0, ?_, K1, K2, W5, rfl⟩
   ·omega
   refine ⟨by omega, by simp; omega, fun d hd => ?_⟩
   rcases Nat.lt_succ_iff_lt_or_eq.1 hd with h | h
   ·rw [List.getD_eq_getElem?_getD, List.getElem?_append_left (by omega), ← List.getD_eq_getElem?_getD]; exact hoe d h
   subst h
   have ha := alive_iff HV (i := d) (by omega)
   rw [List.getD_eq_getElem?_getD, List.getElem?_append_right (by omega), show d - out.length = 0 from by omega]
   first | rw [if_neg (ha.1 hc3)] | rw [if_pos (Classical.not_not.1 (fun e => hc3 (ha.2 e)))]
   rfl
  intro hc4
  refine wp_region_lit ?_
  refine qm S rfl ?_; clear S a; intro a S
  refine seq_new S rfl rfl (by decide) (fun b => .slice (some ⟨b, 0, none⟩) 1 1) (cs := [iI (-1)]) (x_bsl [(0, iI (-1))] [iI (-1)] Try.underlying22 infoz_3 (by decide) (by decide) (by simp only [List.map_cons, List.map_nil, show a.eval (.const (iI (-1))) = iI (-1) from (S.e rfl)]) (by kernel_rfl)) ?_
  clear S a; intro a w8 b10 hb10 hbs10 G K10 S; have hbl10 : b10 < w8.heap.size := by omega
  have we10_0 : intE.wf (Fr F [abk out_a, one b2, one b1]) w5.heap (-1) := (show inI64 (-1) from ⟨by omega, by omega⟩)
  have hfr10 := fr_fresh C hF hb10; have TT := Tr.of_ch0 C.ms G
  replace t_w := Enc.tr (topoE) t_w TT
  replace f_w := Enc.tr (failE) f_w TT
  replace K1 := Blk.tr0 K1 G
  replace K2 := Blk.tr0 K2 G
  replace W5 := Row.tr0 W5 TT G
  replace GL0 := GL0.trans TT
  replace C := C.trans TT
  have KS10 : (slE intE).wf (Fr F [abk out_a, one b2, one b1]) w8.heap ⟨some ⟨b10, 0, none⟩, 1, [(-1)]⟩ := sl_of_blk K10 [(-1)] 1 rfl (by decide) (by decide) rfl hfr10 (by intro x hx; simp only [List.mem_cons, List.not_mem_nil, or_false] at hx; subst hx; exact Enc.tr (intE) we10_0 TT)
  clear K10 hfr10 TT G we10_0
  refine seq_op rfl (op_append (E := intE) [] [one b2, one b1] (.tmp 30) (.tmp 31) 22 rfl zero_3 8 Try.underlying22 infoz_3 rfl (by decide) rfl C.ms (S.e rfl) W5 ([(-1)]) (some ⟨b10, 0, none⟩) 1 (S.e rfl) (show LAt intE _ _ (some ⟨b10, 0, none⟩) ([(-1)]) from (KS10).1) (KS10).2.2 (LAt.mem (show LAt intE _ _ (some ⟨b10, 0, none⟩) ([(-1)]) from (KS10).1)) (by unfold maxLen; (try simp only [List.length_cons, List.length_nil, List.length_append, List.length_map]); omega) (by (try simp only [List.length_cons, List.length_nil, List.length_append, List.length_map]); omega) (C.size) ?_)
  intro ad11 cap11 w9 Rn TT G
  have S1 := S.put (d := 32) (v := .slice ad11 (out ++ [(-1)]).length cap11) (by decide); clear S; revert S1; generalize Act.put a _ _ = a1; intro S; clear a; rename Act => a
  replace TT : Tr [abk out_a, one b2, one b1] w8 [abk ad11, one b2, one b1] w9 := TT; replace Rn : Row intE 3 w.heap.size F [abk ad11, one b2, one b1] w9 ad11 cap11 (out ++ [(-1)]) := Rn
  replace t_w := Enc.tr (topoE) t_w TT
  replace f_w := Enc.tr (failE) f_w TT
  replace K1 := Blk.tr K1 G (C.ms.sep.out 2 [0] rfl rfl rfl)
  replace K2 := Blk.tr K2 G (C.ms.sep.out 1 [0] rfl rfl rfl)
  replace KS10 := Enc.tr (slE intE) KS10 TT
  replace GL0 := GL0.trans TT
  replace C := C.trans TT
  clear W5; have W5 := Rn; clear Rn TT G
  refine qa S rfl ?_; clear S a; intro a S
  refine wpList_nil ?_
  refine blk_n ?_
  refine then_n ?_
  refine wp_region_lit ?_
  refine qm S rfl ?_; clear S a; intro a S
  refine qv S (iN (k + 1)) (x_add (S.e rfl) (S.e rfl) (r := ((k + 1 : Nat) : Int)) (w_i64 (by omega))) ?_; clear S a; intro a S
  refine qa S rfl ?_; clear S a; intro a S
  refine qt ?_
  refine ⟨t.devs.xs.length - (k + 1), ?_, k + 1, ad11, cap11, (out ++ [(-1)]), S.sub ⟨rfl, rfl, rfl, rfl, (by first | rfl | (simp only [List.length_set]; rfl)), trivial⟩, GL0, ?_, K1, K2, W5, rfl⟩
  ·omega
  refine ⟨by omega, by simp; omega, fun d hd => ?_⟩
  rcases Nat.lt_succ_iff_lt_or_eq.1 hd with h | h
  ·rw [List.getD_eq_getElem?_getD, List.getElem?_append_left (by omega), ← List.getD_eq_getElem?_getD]; exact hoe d h
  subst h
  have ha := alive_iff HV (i := d) (by omega)
  rw [List.getD_eq_getElem?_getD, List.getElem?_append_right (by omega), show d - out.length = 0 from by omega]
  first | rw [if_neg (ha.1 hc4)] | rw [if_pos (Classical.not_not.1 (fun e => hc4 (ha.2 e)))]
  rfl
 intro hc5
 refine wp_exit ?_
 refine then_e ?_
 refine then_e ?_
 refine blk_e ?_
 refine then_n ?_
 refine wp_seq ?_
 refine qs ?_
 refine qa S rfl ?_; clear S a; intro a S
 refine qt ?_
 refine wp_block ?_
 refine wp_loop_ghost (fun m a wr => ∃ r : Nat, ∃ o1_a : Option Addr, ∃ o1_c : Nat, ∃ o1 : List Int, Slots 83 [(2, pT b1 0), (3, pT b2 0), (4, .slice none 0 0), (5, .slice o1_a o1.length o1_c), (7, iN r)] a ∧ Tr [abk out_a, one b2, one b1] w4 [abk o1_a, one b2, one b1] wr ∧ (r ≤ t.devs.xs.length ∧ LabI t f o1 r 0) ∧ Blk wr.heap b1 (tL t) 28 ∧ Blk wr.heap b2 (fL f) 41 ∧ Row intE 3 w.heap.size F [abk o1_a, one b2, one b1] wr o1_a o1_c o1 ∧ (t.devs.xs.length - r) = m) (t.devs.xs.length - 0) ?_ ?_
 ·refine ⟨0, out_a, out_c, out, S.sub ⟨rfl, rfl, rfl, rfl, rfl, trivial⟩, Tr.refl C.ms, ?_, K1, K2, W5, rfl⟩
  exact ⟨Nat.zero_le _, LabI.start (by omega) (fun d h1 h2 => (hoe d (by omega)).trans (if_pos h2)) (fun d h1 h2 => (hoe d (by omega)).trans (if_neg h2))⟩
 rintro m a w10 ⟨r, o1_a, o1_c, o1, S, G, hR, K1', K2', W5', rfl⟩
 clear K1; have K1 := K1'; clear K1'
 clear K2; have K2 := K2'; clear K2'
 clear W5; have W5 := W5'; clear W5'
 replace t_w := Enc.tr (topoE) t_w G
 replace f_w := Enc.tr (failE) f_w G
 replace GL0 := GL0.trans G
 replace C := C.trans G
 have GL1 := G; clear G
 have o1_len := W5.len_le; simp only [maxLen] at o1_len
 obtain ⟨hr, hI⟩ := hR
 refine wp_seq ?_
 refine qs ?_
 refine qm S rfl ?_; clear S a; intro a S
 refine qv S (pT b1 (0 + 0)) (x_fld (z := 0) (0) 0 Try.underlying28 rfl rfl (by kernel_rfl) (S.e rfl)) ?_; clear S a; intro a S
 refine qv S (sV t.devs) (x_load ⟨_, Try.underlying23, rfl⟩ (S.e rfl) (K1.cell (j := 0) rfl)) ?_; clear S a; intro a S
 refine qv S (iN t.devs.xs.length) (x_len Try.underlying23 (S.e rfl)) ?_; clear S a; intro a S
 refine qv S (bD (((r : Nat) : Int) < ((t.devs.xs.length : Nat) : Int))) (x_lss (S.e rfl) (S.e rfl)) ?_; clear S a; intro a S
 refine qt ?_
 refine cond_dec S rfl ?_ ?_
 ·intro hc6
  refine wp_skip ?_
  refine then_n ?_
  refine wp_seq ?_
  refine wp_block ?_
  refine qs ?_
  refine qa S rfl ?_; clear S a; intro a S
  refine qt ?_
  refine wp_block ?_
  refine wp_loop_ghost (fun m a wr => ∃ k : Nat, ∃ o2_a : Option Addr, ∃ o2_c : Nat, ∃ o2 : List Int, Slots 83 [(2, pT b1 0), (3, pT b2 0), (4, .slice none 0 0), (5, .slice o2_a o2.length o2_c), (7, iN r), (33, iN r), (34, pT b1 (0 + 0)), (35, sV t.devs), (36, iN t.devs.xs.length), (37, bD (((r : Nat) : Int) < ((t.devs.xs.length : Nat) : Int))), (8, iN k)] a ∧ Tr [abk o1_a, one b2, one b1] w10 [abk o2_a, one b2, one b1] wr ∧ (k ≤ t.links.xs.length ∧ LabI t f o2 r k) ∧ Blk wr.heap b1 (tL t) 28 ∧ Blk wr.heap b2 (fL f) 41 ∧ Row intE 3 w.heap.size F [abk o2_a, one b2, one b1] wr o2_a o2_c o2 ∧ (t.links.xs.length - k) = m) (t.links.xs.length - 0) ?_ ?_
  ·refine ⟨0, o1_a, o1_c, o1, S.sub ⟨rfl, rfl, rfl, rfl, rfl, rfl, rfl, rfl, rfl, rfl, rfl, trivial⟩, Tr.refl C.ms, ?_, K1, K2, W5, rfl⟩
   exact ⟨Nat.zero_le _, hI⟩
  rintro m a w11 ⟨k, o2_a, o2_c, o2, S, G, hR, K1', K2', W5', rfl⟩
  clear K1; have K1 := K1'; clear K1'
  clear K2; have K2 := K2'; clear K2'
  clear W5; have W5 := W5'; clear W5'
  replace t_w := Enc.tr (topoE) t_w G
  replace f_w := Enc.tr (failE) f_w G
  replace GL0 := GL0.trans G
  replace GL1 := GL1.trans G
  replace C := C.trans G
  have GL2 := G; clear G
  have o2_len := W5.len_le; simp only [maxLen] at o2_len
  obtain ⟨hk, hJ⟩ := hR
  have hol2 := hJ.len
  refine wp_seq ?_
  refine qs ?_
  refine qm S rfl ?_; clear S a; intro a S
  refine qv S (pT b1 (0 + 1)) (x_fld (z := 0) (0) 1 Try.underlying28 rfl rfl (by kernel_rfl) (S.e rfl)) ?_; clear S a; intro a S
  refine qv S (sV t.links) (x_load ⟨_, Try.underlying24, rfl⟩ (S.e rfl) (K1.cell (j := 1) rfl)) ?_; clear S a; intro a S
  have hn12 : t.links.xs.length ≤ 9223372036854775807 := (t_w.2.1).1.len
  refine qv S (iN t.links.xs.length) (x_len Try.underlying24 (S.e rfl)) ?_; clear S a; intro a S
  refine qv S (bD (((k : Nat) : Int) < ((t.links.xs.length : Nat) : Int))) (x_lss (S.e rfl) (S.e rfl)) ?_; clear S a; intro a S
  refine qt ?_
  refine cond_dec S rfl ?_ ?_
  ·intro hc7
   have hl := topV_link HV.1.1 (i := k) (by omega)
   unfold lnkV at hl
   refine wp_skip ?_
   refine then_n ?_
   refine wp_seq ?_
   refine wp_block ?_
   refine qs ?_
   refine qv S _ (x_loadw (tL t) ⟨_, Try.underlying28, rfl, by kernel_rfl⟩ (S.e rfl) (K1.mid [] _ [] rfl _ rfl)) ?_; clear S a; intro a S
   refine qv S _ (x_loadw (fL f) ⟨_, Try.underlying41, rfl, by kernel_rfl⟩ (S.e rfl) (K2.mid [] _ [] rfl _ rfl)) ?_; clear S a; intro a S
   refine qm S rfl ?_; clear S a; intro a S
   refine seq_call S (by decide) (vs := #[tV t, fV f, iN k]) rfl callable_40 (rUsable _ (Ex F _) (C.old hF)  (MS.nil _) t ((topoE).down0 t_w) f ((failE).down0 f_w) ((k : Nat) : Int) ⟨by omega, by omega⟩) ?_
   rintro e w12 ⟨rfl, T0⟩; refine ⟨_, rfl, ?_⟩; clear S a; intro a S
   have TT := Tr.framed0 C.ms T0; have G := T0.ch
   replace t_w := Enc.tr (topoE) t_w TT
   replace f_w := Enc.tr (failE) f_w TT
   replace K1 := Blk.tr0 K1 G
   replace K2 := Blk.tr0 K2 G
   replace W5 := Row.tr0 W5 TT G
   replace GL0 := GL0.trans TT
   replace GL1 := GL1.trans TT
   replace GL2 := GL2.trans TT
   replace C := C.trans TT
   clear T0 G TT
   refine qt ?_
   refine cond_dec S rfl ?_ ?_
   ·intro hc8
    refine wp_seq ?_
    replace S := S.sub (L' := [(2, pT b1 0), (3, pT b2 0), (4, .slice none 0 0), (5, .slice o2_a o2.length o2_c), (7, iN r), (33, iN r), (34, pT b1 (0 + 0)), (35, sV t.devs), (36, iN t.devs.xs.length), (37, bD (((r : Nat) : Int) < ((t.devs.xs.length : Nat) : Int))), (8, iN k), (40, iN k), (41, pT b1 (0 + 1)), (42, sV t.links), (43, iN t.links.xs.length), (44, bD (((k : Nat) : Int) < ((t.links.xs.length : Nat) : Int))), (47, tV t), (48, fV f), (49, iN k), (50, bD (usableV t f ((k : Nat) : Int)))]) ⟨rfl, rfl, rfl, rfl, rfl, rfl, rfl, rfl, rfl, rfl, rfl, rfl, rfl, rfl, rfl, rfl, rfl, rfl, rfl, rfl, trivial⟩
    refine wp_heads (M := In []) S 14 [(51, iV (pT b1 (0 + 1))), (52, iV (sV t.links)), (53, iV (iN k)), (54, iV (pT (blk t.links.a) (off t.links.a + k * 3))), (55, iV (pT (blk t.links.a) (off t.links.a + k * 3 + 0))), (56, iV (iI ((t.links.xs.getD k lnkE.dflt).a))), (57, iV (pT b1 (0 + 1))), (58, iV (sV t.links)), (59, iV (iN k)), (60, iV (pT (blk t.links.a) (off t.links.a + k * 3))), (61, iV (pT (blk t.links.a) (off t.links.a + k * 3 + 1))), (62, iV (iI ((t.links.xs.getD k lnkE.dflt).b))), (9, iV (iI ((t.links.xs.getD k lnkE.dflt).a))), (10, iV (iI ((t.links.xs.getD k lnkE.dflt).b)))] (fun w => True) [[], [51], [], [52, 53], [54], [55], [], [57], [], [58, 59], [60], [61], [56], [62]] [9, 10] _ rfl mixed (by kernel_rfl) rfl trivial ?_ ?_
    ·refine ⟨?_, ?_, ?_, ?_, ?_, ?_, ?_, ?_, ?_, ?_, ?_, ?_, ?_, ?_, trivial⟩
     ·intro a w13 G I S hE
      have TT := Tr.of_ch C.ms G (fun _ h => by simp at h)
      replace t_w := Enc.tr (topoE) t_w TT
      replace K1 := Blk.tr0 K1 G
      replace C := C.trans TT
      exact qo (pT b1 (0 + 1)) (x_fld (z := 0) (0) 1 Try.underlying28 rfl rfl (by kernel_rfl) (S.e rfl)) I
     ·intro a w14 G I S hE
      have TT := Tr.of_ch C.ms G (fun _ h => by simp at h)
      replace t_w := Enc.tr (topoE) t_w TT
      replace K1 := Blk.tr0 K1 G
      replace C := C.trans TT
      obtain ⟨e51, _⟩ := hE
      replace S := S.ext e51
      exact qo (sV t.links) (x_load ⟨_, Try.underlying24, rfl⟩ (S.e rfl) (K1.cell (j := 1) rfl)) I
     ·intro a w15 G I S hE
      have TT := Tr.of_ch C.ms G (fun _ h => by simp at h)
      replace C := C.trans TT
      exact qo (iN k) (x_move (S.e rfl)) I
     ·intro a w16 G I S hE
      have TT := Tr.of_ch C.ms G (fun _ h => by simp at h)
      replace t_w := Enc.tr (topoE) t_w TT
      replace C := C.trans TT
      obtain ⟨e52, e53, _⟩ := hE
      replace S := S.ext e52
      replace S := S.ext e53
      exact qo (pT (blk t.links.a) (off t.links.a + k * 3)) (x_idx Try.underlying24 (by kernel_rfl) (S.e rfl) (S.e rfl) k rfl (by omega) ((t_w.2.1).1.adr (i := k) (by omega))) I
     ·intro a w17 G I S hE
      have TT := Tr.of_ch C.ms G (fun _ h => by simp at h)
      replace t_w := Enc.tr (topoE) t_w TT
      replace C := C.trans TT
      obtain ⟨e54, _⟩ := hE
      replace S := S.ext e54
      exact qo (pT (blk t.links.a) (off t.links.a + k * 3 + 0)) (x_fld (z := 0) (off t.links.a + k * 3) 0 Try.underlying54 rfl rfl (by kernel_rfl) (S.e rfl)) I
     ·intro a w18 G I S hE
      have TT := Tr.of_ch C.ms G (fun _ h => by simp at h)
      replace t_w := Enc.tr (topoE) t_w TT
      replace C := C.trans TT
      obtain ⟨e55, _⟩ := hE
      replace S := S.ext e55
      obtain ⟨hl14, hu14⟩ : inI64 ((t.links.xs.getD k lnkE.dflt).a) := id (((t_w.2.1).1.wf k (by omega)).1)
      exact qo (iI ((t.links.xs.getD k lnkE.dflt).a)) (x_load ⟨_, Try.underlying3, rfl⟩ (S.e rfl) ((t_w.2.1).1.cell k (by omega) 0 _ rfl)) I
     ·intro a w19 G I S hE
      have TT := Tr.of_ch C.ms G (fun _ h => by simp at h)
      replace t_w := Enc.tr (topoE) t_w TT
      replace K1 := Blk.tr0 K1 G
      replace C := C.trans TT
      exact qo (pT b1 (0 + 1)) (x_fld (z := 0) (0) 1 Try.underlying28 rfl rfl (by kernel_rfl) (S.e rfl)) I
     ·intro a w20 G I S hE
      have TT := Tr.of_ch C.ms G (fun _ h => by simp at h)
      replace t_w := Enc.tr (topoE) t_w TT
      replace K1 := Blk.tr0 K1 G
      replace C := C.trans TT
      obtain ⟨e57, _⟩ := hE
      replace S := S.ext e57
      exact qo (sV t.links) (x_load ⟨_, Try.underlying24, rfl⟩ (S.e rfl) (K1.cell (j := 1) rfl)) I
     ·intro a w21 G I S hE
      have TT := Tr.of_ch C.ms G (fun _ h => by simp at h)
      replace C := C.trans TT
      exact qo (iN k) (x_move (S.e rfl)) I
     ·intro a w22 G I S hE
      have TT := Tr.of_ch C.ms G (fun _ h => by simp at h)
      replace t_w := Enc.tr (topoE) t_w TT
      replace C := C.trans TT
      obtain ⟨e58, e59, _⟩ := hE
      replace S := S.ext e58
      replace S := S.ext e59
      exact qo (pT (blk t.links.a) (off t.links.a + k * 3)) (x_idx Try.underlying24 (by kernel_rfl) (S.e rfl) (S.e rfl) k rfl (by omega) ((t_w.2.1).1.adr (i := k) (by omega))) I
     ·intro a w23 G I S hE
      have TT := Tr.of_ch C.ms G (fun _ h => by simp at h)
      replace t_w := Enc.tr (topoE) t_w TT
      replace C := C.trans TT
      obtain ⟨e60, _⟩ := hE
      replace S := S.ext e60
      exact qo (pT (blk t.links.a) (off t.links.a + k * 3 + 1)) (x_fld (z := 0) (off t.links.a + k * 3) 1 Try.underlying54 rfl rfl (by kernel_rfl) (S.e rfl)) I
     ·intro a w24 G I S hE
      have TT := Tr.of_ch C.ms G (fun _ h => by simp at h)
      replace t_w := Enc.tr (topoE) t_w TT
      replace C := C.trans TT
      obtain ⟨e61, _⟩ := hE
      replace S := S.ext e61
      obtain ⟨hl15, hu15⟩ : inI64 ((t.links.xs.getD k lnkE.dflt).b) := id (((t_w.2.1).1.wf k (by omega)).2.1)
      exact qo (iI ((t.links.xs.getD k lnkE.dflt).b)) (x_load ⟨_, Try.underlying3, rfl⟩ (S.e rfl) ((t_w.2.1).1.cell k (by omega) 1 _ rfl)) I
     ·intro a w25 G I S hE
      have TT := Tr.of_ch C.ms G (fun _ h => by simp at h)
      replace t_w := Enc.tr (topoE) t_w TT
      replace C := C.trans TT
      obtain ⟨e56, _⟩ := hE
      replace S := S.ext e56
      exact qo (iI ((t.links.xs.getD k lnkE.dflt).a)) (x_assign (S.e rfl)) I
     intro a w26 G I S hE
     have TT := Tr.of_ch C.ms G (fun _ h => by simp at h)
     replace t_w := Enc.tr (topoE) t_w TT
     replace C := C.trans TT
     obtain ⟨e62, _⟩ := hE
     replace S := S.ext e62
     exact qo (iI ((t.links.xs.getD k lnkE.dflt).b)) (x_assign (S.e rfl)) I
    clear S a; intro a w27 G I S hE; have TT := Tr.of_ch C.ms G (fun _ h => by simp at h)
    replace t_w := Enc.tr (topoE) t_w TT
    replace f_w := Enc.tr (failE) f_w TT
    replace K1 := Blk.tr0 K1 G
    replace K2 := Blk.tr0 K2 G
    replace W5 := Row.tr0 W5 TT G
    replace GL0 := GL0.trans TT
    replace GL1 := GL1.trans TT
    replace GL2 := GL2.trans TT
    replace C := C.trans TT
    clear TT G
    obtain ⟨e9, e10, -⟩ := hE
    replace S := S.ext e9
    obtain ⟨hl16, hu16⟩ : inI64 ((t.links.xs.getD k lnkE.dflt).a) := id (((t_w.2.1).1.wf k (by omega)).1)
    replace S := S.ext e10
    obtain ⟨hl17, hu17⟩ : inI64 ((t.links.xs.getD k lnkE.dflt).b) := id (((t_w.2.1).1.wf k (by omega)).2.1)
    clear e9 e10
    refine qt ?_
    refine wp_seq ?_
    replace S := S.sub (L' := [(2, pT b1 0), (3, pT b2 0), (4, .slice none 0 0), (5, .slice o2_a o2.length o2_c), (7, iN r), (33, iN r), (34, pT b1 (0 + 0)), (35, sV t.devs), (36, iN t.devs.xs.length), (37, bD (((r : Nat) : Int) < ((t.devs.xs.length : Nat) : Int))), (8, iN k), (40, iN k), (41, pT b1 (0 + 1)), (42, sV t.links), (43, iN t.links.xs.length), (44, bD (((k : Nat) : Int) < ((t.links.xs.length : Nat) : Int))), (47, tV t), (48, fV f), (49, iN k), (50, bD (usableV t f ((k : Nat) : Int))), (9, iI ((t.links.xs.getD k lnkE.dflt).a)), (10, iI ((t.links.xs.getD k lnkE.dflt).b))]) ⟨rfl, rfl, rfl, rfl, rfl, rfl, rfl, rfl, rfl, rfl, rfl, rfl, rfl, rfl, rfl, rfl, rfl, rfl, rfl, rfl, rfl, rfl, trivial⟩
    refine wp_heads (M := In []) S 12 [(63, iV (.slice o2_a o2.length o2_c)), (64, iV (iI ((t.links.xs.getD k lnkE.dflt).a))), (65, iV (.slice o2_a o2.length o2_c)), (66, iV (iI ((t.links.xs.getD k lnkE.dflt).a))), (67, iV (pT (blk o2_a) (0 + ((t.links.xs.getD k lnkE.dflt).a).toNat * 1))), (68, iV (iI (o2.getD (((t.links.xs.getD k lnkE.dflt).a).toNat) intE.dflt))), (69, iV (.slice o2_a o2.length o2_c)), (70, iV (iI ((t.links.xs.getD k lnkE.dflt).b))), (71, iV (pT (blk o2_a) (0 + ((t.links.xs.getD k lnkE.dflt).b).toNat * 1))), (72, iV (iI (o2.getD (((t.links.xs.getD k lnkE.dflt).b).toNat) intE.dflt))), (73, iV (iI (if (o2.getD (((t.links.xs.getD k lnkE.dflt).b).toNat) intE.dflt) < (o2.getD (((t.links.xs.getD k lnkE.dflt).a).toNat) intE.dflt) then (o2.getD (((t.links.xs.getD k lnkE.dflt).b).toNat) intE.dflt) else (o2.getD (((t.links.xs.getD k lnkE.dflt).a).toNat) intE.dflt)))), (74, iV (pT (blk o2_a) (0 + ((t.links.xs.getD k lnkE.dflt).a).toNat * 1)))] (fun w => True) [[], [], [], [], [65, 66], [67], [], [], [69, 70], [71], [68, 72], [63, 64]] [73, 74] _ rfl mixed (by kernel_rfl) rfl trivial ?_ ?_
    ·refine ⟨?_, ?_, ?_, ?_, ?_, ?_, ?_, ?_, ?_, ?_, ?_, ?_, trivial⟩
     ·intro a w28 G I S hE
      have TT := Tr.of_ch C.ms G (fun _ h => by simp at h)
      replace W5 := Row.tr0 W5 TT G
      replace C := C.trans TT
      exact qo (.slice o2_a o2.length o2_c) (x_move (S.e rfl)) I
     ·intro a w29 G I S hE
      have TT := Tr.of_ch C.ms G (fun _ h => by simp at h)
      replace t_w := Enc.tr (topoE) t_w TT
      replace C := C.trans TT
      exact qo (iI ((t.links.xs.getD k lnkE.dflt).a)) (x_move (S.e rfl)) I
     ·intro a w30 G I S hE
      have TT := Tr.of_ch C.ms G (fun _ h => by simp at h)
      replace W5 := Row.tr0 W5 TT G
      replace C := C.trans TT
      exact qo (.slice o2_a o2.length o2_c) (x_move (S.e rfl)) I
     ·intro a w31 G I S hE
      have TT := Tr.of_ch C.ms G (fun _ h => by simp at h)
      replace t_w := Enc.tr (topoE) t_w TT
      replace C := C.trans TT
      exact qo (iI ((t.links.xs.getD k lnkE.dflt).a)) (x_move (S.e rfl)) I
     ·intro a w32 G I S hE
      have TT := Tr.of_ch C.ms G (fun _ h => by simp at h)
      replace t_w := Enc.tr (topoE) t_w TT
      replace W5 := Row.tr0 W5 TT G
      replace C := C.trans TT
      obtain ⟨e65, e66, _⟩ := hE
      replace S := S.ext e65
      replace S := S.ext e66
      exact qo (pT (blk o2_a) (0 + ((t.links.xs.getD k lnkE.dflt).a).toNat * 1)) (x_idx Try.underlying22 (by kernel_rfl) (S.e rfl) (S.e rfl) ((t.links.xs.getD k lnkE.dflt).a).toNat (by omega) (by omega) (row_off W5 (m := ((t.links.xs.getD k lnkE.dflt).a).toNat) (by omega))) I
     ·intro a w33 G I S hE
      have TT := Tr.of_ch C.ms G (fun _ h => by simp at h)
      replace W5 := Row.tr0 W5 TT G
      replace C := C.trans TT
      obtain ⟨e67, _⟩ := hE
      replace S := S.ext e67
      obtain ⟨hl18, hu18⟩ : inI64 (o2.getD (((t.links.xs.getD k lnkE.dflt).a).toNat) intE.dflt) := id (W5.wfi ((t.links.xs.getD k lnkE.dflt).a).toNat (by omega))
      exact qo (iI (o2.getD (((t.links.xs.getD k lnkE.dflt).a).toNat) intE.dflt)) (x_load ⟨_, Try.underlying3, rfl⟩ (S.e rfl) ((W5.latz (by first | decide | exact Nat.one_pos)).cell ((t.links.xs.getD k lnkE.dflt).a).toNat (by omega) 0 _ rfl)) I
     ·intro a w34 G I S hE
      have TT := Tr.of_ch C.ms G (fun _ h => by simp at h)
      replace W5 := Row.tr0 W5 TT G
      replace C := C.trans TT
      exact qo (.slice o2_a o2.length o2_c) (x_move (S.e rfl)) I
     ·intro a w35 G I S hE
      have TT := Tr.of_ch C.ms G (fun _ h => by simp at h)
      replace t_w := Enc.tr (topoE) t_w TT
      replace C := C.trans TT
      exact qo (iI ((t.links.xs.getD k lnkE.dflt).b)) (x_move (S.e rfl)) I
     ·intro a w36 G I S hE
      have TT := Tr.of_ch C.ms G (fun _ h => by simp at h)
      replace t_w := Enc.tr (topoE) t_w TT
      replace W5 := Row.tr0 W5 TT G
      replace C := C.trans TT
      obtain ⟨e69, e70, _⟩ := hE
      replace S := S.ext e69
      replace S := S.ext e70
      exact qo (pT (blk o2_a) (0 + ((t.links.xs.getD k lnkE.dflt).b).toNat * 1)) (x_idx Try.underlying22 (by kernel_rfl) (S.e rfl) (S.e rfl) ((t.links.xs.getD k lnkE.dflt).b).toNat (by omega) (by omega) (row_off W5 (m := ((t.links.xs.getD k lnkE.dflt).b).toNat) (by omega))) I
     ·intro a w37 G I S hE
      have TT := Tr.of_ch C.ms G (fun _ h => by simp at h)
      replace W5 := Row.tr0 W5 TT G
      replace C := C.trans TT
      obtain ⟨e71, _⟩ := hE
      replace S := S.ext e71
      obtain ⟨hl19, hu19⟩ : inI64 (o2.getD (((t.links.xs.getD k lnkE.dflt).b).toNat) intE.dflt) := id (W5.wfi ((t.links.xs.getD k lnkE.dflt).b).toNat (by omega))
      exact qo (iI (o2.getD (((t.links.xs.getD k lnkE.dflt).b).toNat) intE.dflt)) (x_load ⟨_, Try.underlying3, rfl⟩ (S.e rfl) ((W5.latz (by first | decide | exact Nat.one_pos)).cell ((t.links.xs.getD k lnkE.dflt).b).toNat (by omega) 0 _ rfl)) I
     ·intro a w38 G I S hE
      have TT := Tr.of_ch C.ms G (fun _ h => by simp at h)
      replace W5 := Row.tr0 W5 TT G
      replace C := C.trans TT
      obtain ⟨e68, e72, _⟩ := hE
      replace S := S.ext e68
      replace S := S.ext e72
      exact qo (iI (if (o2.getD (((t.links.xs.getD k lnkE.dflt).b).toNat) intE.dflt) < (o2.getD (((t.links.xs.getD k lnkE.dflt).a).toNat) intE.dflt) then (o2.getD (((t.links.xs.getD k lnkE.dflt).b).toNat) intE.dflt) else (o2.getD (((t.links.xs.getD k lnkE.dflt).a).toNat) intE.dflt))) (x_min (S.e rfl) (S.e rfl)) I
     intro a w39 G I S hE
     have TT := Tr.of_ch C.ms G (fun _ h => by simp at h)
     replace t_w := Enc.tr (topoE) t_w TT
     replace W5 := Row.tr0 W5 TT G
     replace C := C.trans TT
     obtain ⟨e63, e64, _⟩ := hE
     replace S := S.ext e63
     replace S := S.ext e64
     exact qo (pT (blk o2_a) (0 + ((t.links.xs.getD k lnkE.dflt).a).toNat * 1)) (x_idx Try.underlying22 (by kernel_rfl) (S.e rfl) (S.e rfl) ((t.links.xs.getD k lnkE.dflt).a).toNat (by omega) (by omega) (row_off W5 (m := ((t.links.xs.getD k lnkE.dflt).a).toNat) (by omega))) I
    clear S a; intro a w40 G I S hE; have TT := Tr.of_ch C.ms G (fun _ h => by simp at h)
    replace t_w := Enc.tr (topoE) t_w TT
    replace f_w := Enc.tr (failE) f_w TT
    replace K1 := Blk.tr0 K1 G
    replace K2 := Blk.tr0 K2 G
    replace W5 := Row.tr0 W5 TT G
    replace GL0 := GL0.trans TT
    replace GL1 := GL1.trans TT
    replace GL2 := GL2.trans TT
    replace C := C.trans TT
    clear TT G
    obtain ⟨e73, e74, -⟩ := hE
    replace S := S.ext e73
    replace S := S.ext e74
    clear e73 e74
    obtain ⟨hl20, hu20⟩ : inI64 (o2.getD (((t.links.xs.getD k lnkE.dflt).a).toNat) intE.dflt) := id (W5.wfi ((t.links.xs.getD k lnkE.dflt).a).toNat (by omega))
    obtain ⟨hl21, hu21⟩ : inI64 (o2.getD (((t.links.xs.getD k lnkE.dflt).b).toNat) intE.dflt) := id (W5.wfi ((t.links.xs.getD k lnkE.dflt).b).toNat (by omega))
    refine seq_rowset S (by kernel_rfl) (S.e rfl) (S.e rfl) rfl W5 ((t.links.xs.getD k lnkE.dflt).a).toNat 0 (by omega) (by first | decide | exact Nat.one_pos) (if (o2.getD (((t.links.xs.getD k lnkE.dflt).b).toNat) intE.dflt) < (o2.getD (((t.links.xs.getD k lnkE.dflt).a).toNat) intE.dflt) then (o2.getD (((t.links.xs.getD k lnkE.dflt).b).toNat) intE.dflt) else (o2.getD (((t.links.xs.getD k lnkE.dflt).a).toNat) intE.dflt)) rfl (by simp) (show inI64 (if (o2.getD (((t.links.xs.getD k lnkE.dflt).b).toNat) intE.dflt) < (o2.getD (((t.links.xs.getD k lnkE.dflt).a).toNat) intE.dflt) then (o2.getD (((t.links.xs.getD k lnkE.dflt).b).toNat) intE.dflt) else (o2.getD (((t.links.xs.getD k lnkE.dflt).a).toNat) intE.dflt)) from ⟨by omega, by omega⟩) (by first | rfl | (show _ = _ * 1 + 0; omega) | (simp [intE]; omega) | simp [intE]) ?_
    clear S a; intro a w41 G hz22 Rn S; have TT := Tr.och C.ms G
    replace t_w := Enc.tr (topoE) t_w TT
    replace f_w := Enc.tr (failE) f_w TT
    replace K1 := Blk.tr K1 G (C.ms.sep.out 2 [0] rfl rfl rfl)
    replace K2 := Blk.tr K2 G (C.ms.sep.out 1 [0] rfl rfl rfl)
    replace GL0 := GL0.trans TT
    replace GL1 := GL1.trans TT
    replace GL2 := GL2.trans TT
    replace C := C.trans TT
    clear W5; have W5 := Rn; clear Rn TT G
    have W5_ls23 : (o2.set ((t.links.xs.getD k lnkE.dflt).a).toNat (if (o2.getD (((t.links.xs.getD k lnkE.dflt).b).toNat) intE.dflt) < (o2.getD (((t.links.xs.getD k lnkE.dflt).a).toNat) intE.dflt) then (o2.getD (((t.links.xs.getD k lnkE.dflt).b).toNat) intE.dflt) else (o2.getD (((t.links.xs.getD k lnkE.dflt).a).toNat) intE.dflt))).length = o2.length := by simp
    refine qt ?_
    refine wp_region_lit ?_
    refine qm S rfl ?_; clear S a; intro a S
    refine qm S rfl ?_; clear S a; intro a S
    refine qm S rfl ?_; clear S a; intro a S
    refine qm S rfl ?_; clear S a; intro a S
    refine qv S (pT (blk o2_a) (0 + ((t.links.xs.getD k lnkE.dflt).a).toNat * 1)) (x_idx Try.underlying22 (by kernel_rfl) (S.e rfl) (S.e rfl) ((t.links.xs.getD k lnkE.dflt).a).toNat (by omega) (by omega) (row_off W5 (m := ((t.links.xs.getD k lnkE.dflt).a).toNat) (by omega))) ?_; clear S a; intro a S
    obtain ⟨hl24, hu24⟩ : inI64 ((o2.set ((t.links.xs.getD k lnkE.dflt).a).toNat (if (o2.getD (((t.links.xs.getD k lnkE.dflt).b).toNat) intE.dflt) < (o2.getD (((t.links.xs.getD k lnkE.dflt).a).toNat) intE.dflt) then (o2.getD (((t.links.xs.getD k lnkE.dflt).b).toNat) intE.dflt) else (o2.getD (((t.links.xs.getD k lnkE.dflt).a).toNat) intE.dflt))).getD (((t.links.xs.getD k lnkE.dflt).a).toNat) intE.dflt) := id (W5.wfi ((t.links.xs.getD k lnkE.dflt).a).toNat (by omega))
    refine qv S (iI ((o2.set ((t.links.xs.getD k lnkE.dflt).a).toNat (if (o2.getD (((t.links.xs.getD k lnkE.dflt).b).toNat) intE.dflt) < (o2.getD (((t.links.xs.getD k lnkE.dflt).a).toNat) intE.dflt) then (o2.getD (((t.links.xs.getD k lnkE.dflt).b).toNat) intE.dflt) else (o2.getD (((t.links.xs.getD k lnkE.dflt).a).toNat) intE.dflt))).getD (((t.links.xs.getD k lnkE.dflt).a).toNat) intE.dflt)) (x_load ⟨_, Try.underlying3, rfl⟩ (S.e rfl) ((W5.latz (by first | decide | exact Nat.one_pos)).cell ((t.links.xs.getD k lnkE.dflt).a).toNat (by omega) 0 _ rfl)) ?_; clear S a; intro a S
    refine qv S (pT (blk o2_a) (0 + ((t.links.xs.getD k lnkE.dflt).b).toNat * 1)) (x_idx Try.underlying22 (by kernel_rfl) (S.e rfl) (S.e rfl) ((t.links.xs.getD k lnkE.dflt).b).toNat (by omega) (by omega) (row_off W5 (m := ((t.links.xs.getD k lnkE.dflt).b).toNat) (by omega))) ?_; clear S a; intro a S
    refine seq_rowset S (by kernel_rfl) (S.e rfl) (S.e rfl) rfl W5 ((t.links.xs.getD k lnkE.dflt).b).toNat 0 (by omega) (by first | decide | exact Nat.one_pos) ((o2.set ((t.links.xs.getD k lnkE.dflt).a).toNat (if (o2.getD (((t.links.xs.getD k lnkE.dflt).b).toNat) intE.dflt) < (o2.getD (((t.links.xs.getD k lnkE.dflt).a).toNat) intE.dflt) then (o2.getD (((t.links.xs.getD k lnkE.dflt).b).toNat) intE.dflt) else (o2.getD (((t.links.xs.getD k lnkE.dflt).a).toNat) intE.dflt))).getD (((t.links.xs.getD k lnkE.dflt).a).toNat) intE.dflt) rfl (by simp) (W5.wfi ((t.links.xs.getD k lnkE.dflt).a).toNat (by omega)) (by first | rfl | (show _ = _ * 1 + 0; omega) | (simp [intE]; omega) | simp [intE]) ?_
    clear S a; intro a w42 G hz25 Rn S; have TT := Tr.och C.ms G
    replace t_w := Enc.tr (topoE) t_w TT
    replace f_w := Enc.tr (failE) f_w TT
    replace K1 := Blk.tr K1 G (C.ms.sep.out 2 [0] rfl rfl rfl)
    replace K2 := Blk.tr K2 G (C.ms.sep.out 1 [0] rfl rfl rfl)
    replace GL0 := GL0.trans TT
    replace GL1 := GL1.trans TT
    replace GL2 := GL2.trans TT
    replace C := C.trans TT
    clear W5; have W5 := Rn; clear Rn TT G
    have W5_ls26 : ((o2.set ((t.links.xs.getD k lnkE.dflt).a).toNat (if (o2.getD (((t.links.xs.getD k lnkE.dflt).b).toNat) intE.dflt) < (o2.getD (((t.links.xs.getD k lnkE.dflt).a).toNat) intE.dflt) then (o2.getD (((t.links.xs.getD k lnkE.dflt).b).toNat) intE.dflt) else (o2.getD (((t.links.xs.getD k lnkE.dflt).a).toNat) intE.dflt))).set ((t.links.xs.getD k lnkE.dflt).b).toNat ((o2.set ((t.links.xs.getD k lnkE.dflt).a).toNat (if (o2.getD (((t.links.xs.getD k lnkE.dflt).b).toNat) intE.dflt) < (o2.getD (((t.links.xs.getD k lnkE.dflt).a).toNat) intE.dflt) then (o2.getD (((t.links.xs.getD k lnkE.dflt).b).toNat) intE.dflt) else (o2.getD (((t.links.xs.getD k lnkE.dflt).a).toNat) intE.dflt))).getD (((t.links.xs.getD k lnkE.dflt).a).toNat) intE.dflt)).length = o2.length := by simp
    refine wpList_nil ?_
    refine blk_n ?_
    refine then_n ?_
    refine wp_region_lit ?_
    refine qm S rfl ?_; clear S a; intro a S
    refine qv S (iN (k + 1)) (x_add (S.e rfl) (S.e rfl) (r := ((k + 1 : Nat) : Int)) (w_i64 (by omega))) ?_; clear S a; intro a S
    refine qa S rfl ?_; clear S a; intro a S
    refine qt ?_
    refine ⟨t.links.xs.length - (k + 1), ?_, k + 1, o2_a, o2_c, ((o2.set ((t.links.xs.getD k lnkE.dflt).a).toNat (if (o2.getD (((t.links.xs.getD k lnkE.dflt).b).toNat) intE.dflt) < (o2.getD (((t.links.xs.getD k lnkE.dflt).a).toNat) intE.dflt) then (o2.getD (((t.links.xs.getD k lnkE.dflt).b).toNat) intE.dflt) else (o2.getD (((t.links.xs.getD k lnkE.dflt).a).toNat) intE.dflt))).set ((t.links.xs.getD k lnkE.dflt).b).toNat ((o2.set ((t.links.xs.getD k lnkE.dflt).a).toNat (if (o2.getD (((t.links.xs.getD k lnkE.dflt).b).toNat) intE.dflt) < (o2.getD (((t.links.xs.getD k lnkE.dflt).a).toNat) intE.dflt) then (o2.getD (((t.links.xs.getD k lnkE.dflt).b).toNat) intE.dflt) else (o2.getD (((t.links.xs.getD k lnkE.dflt).a).toNat) intE.dflt))).getD (((t.links.xs.getD k lnkE.dflt).a).toNat) intE.dflt)), S.sub ⟨rfl, rfl, rfl, (by first | rfl | (simp only [List.length_set]; rfl)), rfl, rfl, rfl, rfl, rfl, rfl, rfl, trivial⟩, GL2, ?_, K1, K2, W5, rfl⟩
    ·omega
    have hiu := usable_iff HV (i := k) (by omega)
    first
    | exact ⟨by omega, hJ.skip fun e => hc8 (hiu.2 e)⟩
    | (refine ⟨by omega, ?_⟩
       have e1 : ∀ v, (o2.set (t.links.xs.getD k lnkE.dflt).a.toNat v).getD (t.links.xs.getD k lnkE.dflt).a.toNat 0 = v := fun v => by rw [List.getD_eq_getElem?_getD, List.getElem?_set_self (by omega)]; rfl
       simp only [show intE.dflt = 0 from rfl, e1]
       exact hJ.link HV.1.1 (by omega) (hiu.1 hc8) (a := (t.links.xs.getD k lnkE.dflt).a.toNat) (b := (t.links.xs.getD k lnkE.dflt).b.toNat) (by show (t.links.xs.getD k lnkE.dflt).a = _; omega) (by show (t.links.xs.getD k lnkE.dflt).b = _; omega) rfl)
   intro hc9
   refine wp_skip ?_
   refine blk_n ?_
   refine then_n ?_
   refine wp_region_lit ?_
   refine qm S rfl ?_; clear S a; intro a S
   refine qv S (iN (k + 1)) (x_add (S.e rfl) (S.e rfl) (r := ((k + 1 : Nat) : Int)) (w_i64 (by omega))) ?_; clear S a; intro a S
   refine qa S rfl ?_; clear S a; intro a S
   refine qt ?_
   refine ⟨t.links.xs.length - (k + 1), ?_, k + 1, o2_a, o2_c, o2, S.sub ⟨rfl, rfl, rfl, (by first | rfl | (simp only [List.length_set]; rfl)), rfl, rfl, rfl, rfl, rfl, rfl, rfl, trivial⟩, GL2, ?_, K1, K2, W5, rfl⟩
   ·omega
   have hiu := usable_iff HV (i := k) (by omega)
   first
   | exact ⟨by omega, hJ.skip fun e => hc9 (hiu.2 e)⟩
   | (refine ⟨by omega, ?_⟩
      have e1 : ∀ v, (o2.set (t.links.xs.getD k lnkE.dflt).a.toNat v).getD (t.links.xs.getD k lnkE.dflt).a.toNat 0 = v := fun v => by rw [List.getD_eq_getElem?_getD, List.getElem?_set_self (by omega)]; rfl
      simp only [show intE.dflt = 0 from rfl, e1]
      exact hJ.link HV.1.1 (by omega) (hiu.1 hc9) (a := (t.links.xs.getD k lnkE.dflt).a.toNat) (b := (t.links.xs.getD k lnkE.dflt).b.toNat) (by show (t.links.xs.getD k lnkE.dflt).a = _; omega) (by show (t.links.xs.getD k lnkE.dflt).b = _; omega) rfl)
  intro hc10
  refine wp_exit ?_
  refine then_e ?_
  refine then_e ?_
  refine blk_e ?_
  refine blk_n ?_
  refine then_n ?_
  refine wp_region_lit ?_
  refine qm S rfl ?_; clear S a; intro a S
  refine qv S (iN (r + 1)) (x_add (S.e rfl) (S.e rfl) (r := ((r + 1 : Nat) : Int)) (w_i64 (by omega))) ?_; clear S a; intro a S
  refine qa S rfl ?_; clear S a; intro a S
  refine qt ?_
  refine ⟨t.devs.xs.length - (r + 1), ?_, r + 1, o2_a, o2_c, o2, S.sub ⟨rfl, rfl, rfl, (by first | rfl | (simp only [List.length_set]; rfl)), rfl, trivial⟩, GL1, ?_, K1, K2, W5, rfl⟩
  ·omega
  exact ⟨by omega, LabI.next (by rw [show t.links.xs.length = k from by omega]; exact hJ) HV.1.1⟩
 intro hc11
 refine wp_exit ?_
 refine then_e ?_
 refine then_e ?_
 refine blk_e ?_
 refine then_n ?_
 refine qs ?_
 refine qm S rfl ?_; clear S a; intro a S
 refine qa S rfl ?_; clear S a; intro a S
 refine qt ?_
 refine wp_ret ?_
 have FW5 := Row.freeze (pre := []) (post := [one b2, one b1]) rfl C.ms W5 (by first | decide | exact Nat.one_pos) (W5.notF hF (Nat.le_refl _))
 have TF := Tr.leave (pre := []) (o := abk o1_a) (post := [one b2, one b1]) C.ms
 have GF : Ch (In []) w10 w10 := Ch.refl _
 replace t_w := Enc.tr (topoE) t_w TF
 replace f_w := Enc.tr (failE) f_w TF
 replace K1 := Blk.tr0 K1 GF
 replace K2 := Blk.tr0 K2 GF
 replace GL0 := GL0.trans TF
 replace GL1 := GL1.trans TF
 replace C := C.trans TF
 replace FW5 : (slE intE).wf (Fr F [one b2, one b1]) w10.heap ⟨o1_a, o1_c, o1⟩ := FW5; clear W5
 refine ret1 rfl S rfl ?_
 have TD : Tr [one b2, one b1] w10 [] w10 := Tr.drop C.ms [] (by decide)
 have GD : Ch (In []) w10 w10 := Ch.refl _
 clear K1
 clear K2
 replace t_w := Enc.tr (topoE) t_w TD
 replace f_w := Enc.tr (failE) f_w TD
 replace FW5 := Enc.tr (slE intE) FW5 TD
 replace GL0 := GL0.trans TD
 replace GL1 := GL1.trans TD
 replace C := C.trans TD
 clear TD GD
 have hx27 : compsV t f = o1 := by
  unfold compsV; rw [if_pos HV]; exact LabI.all (by rw [show t.devs.xs.length = r from by omega]; exact hI) HV.1.1
 rw [hx27]
 refine ⟨o1_a, o1_c, rfl, FW5, C⟩
end Go.Proofs.Ytfanmniaolncbaa.V
