/- components: the program -/
import Derived.Test.YtfanmniaolncbaaW7
namespace Go.Proofs.Ytfanmniaolncbaa.V
open Go.RowKit Go.Proofs.Ytfanmniaolncbaa
set_option linter.unusedVariables false
set_option linter.unusedSimpArgs false
set_option maxHeartbeats 2000000 in
set_option maxRecDepth 20000 in
theorem fComps0 (w : World) (F : Nat → Prop) (hF : Old F w) (M : MS [] w) (t : Topo) (t_w : topoE.wf (Fr F []) w.heap t) (f : Fail) (f_w : failE.wf (Fr F []) w.heap f) (sk : Int) (sk_h : inI64 sk) (ht : topV t) :
 Calls Try.prog 57 #[.agg (topoE.cells t).toArray, .agg (failE.cells f).toArray, iI sk] w fun e w' => ∃ (ra : Option Addr) (rc : Nat), e = .returned (.slice ra ((compsOf t f sk).length) rc) ∧ (slE intE).wf (Fr F []) w'.heap (Sl.mk ra rc (compsOf t f sk)) ∧ Tr [] w [] w' := by
 have C : Tr [] w [] w := Tr.refl M
 have : t.devs.xs.length ≤ 9223372036854775807 := (t_w.1).1.len
 have : t.links.xs.length ≤ 9223372036854775807 := (t_w.2.1).1.len
 have : t.edges.xs.length ≤ 9223372036854775807 := (t_w.2.2.1).1.len
 have : t.pools.xs.length ≤ 9223372036854775807 := (t_w.2.2.2.1).1.len
 obtain ⟨_, _⟩ : inI64 t.tol := t_w.2.2.2.2
 have : f.links.xs.length ≤ 9223372036854775807 := (f_w.1).1.len
 have : f.devs.xs.length ≤ 9223372036854775807 := (f_w.2).1.len
 obtain ⟨sk_hl, sk_hu⟩ : inI64 sk := id sk_h
 have hB : topB t := ht.1
 unfold topB at hB
 refine enter Try.func57 rfl 86 rfl (Nat.le_of_ble_eq_true rfl) ?_
 intro a S
 refine qs ?_
 refine seq_new S rfl rfl (by decide) (fun b => pT b 0) (cs := (tL t)) (x_box (tL t) (S.e rfl) rfl) ?_
 clear S a; intro a w1 b1 hb1 hbs1 G K1 S; have hbl1 : b1 < w1.heap.size := by omega
 have TT := Tr.fresh C.ms hb1 hbl1 G
 replace t_w := Enc.tr (topoE) t_w TT
 replace f_w := Enc.tr (failE) f_w TT
 replace C := C.trans TT
 clear TT G
 refine seq_new S rfl rfl (by decide) (fun b => pT b 0) (cs := (fL f)) (x_box (fL f) (S.e rfl) rfl) ?_
 clear S a; intro a w2 b2 hb2 hbs2 G K2 S; have hbl2 : b2 < w2.heap.size := by omega
 have TT := Tr.fresh C.ms hb2 hbl2 G
 replace t_w := Enc.tr (topoE) t_w TT
 replace f_w := Enc.tr (failE) f_w TT
 replace K1 := Blk.tr0 K1 G
 replace C := C.trans TT
 clear TT G
 refine qa S rfl ?_; clear S a; intro a S
 refine qt ?_
 refine qs ?_
 refine qv S (pT b1 (0 + 0)) (x_fld (z := 0) (0) 0 uT28 rfl rfl (by kernel_rfl) (S.e rfl)) ?_; clear S a; intro a S
 refine qv S (sV t.devs) (x_load ⟨_, uT23, rfl⟩ (S.e rfl) (K1.cell (j := 0) rfl)) ?_; clear S a; intro a S
 have hn3 : t.devs.xs.length ≤ 9223372036854775807 := (t_w.1).1.len
 refine qv S (iN t.devs.xs.length) (x_len uT23 (S.e rfl)) ?_; clear S a; intro a S
 refine seq_op rfl (op_make (E := (nodeE 0)) (F := F) (w0 := w) (.tmp 16) (.tmp 16) rfl zero_107 8 uT106 iZ107 rfl ((none : Option Nat) : Option Nat) rfl rfl t.devs.xs.length (S.e rfl) (S.e rfl) rfl rfl (by omega) (by unfold maxLen; omega) C.ms (fun h => by first | exact ⟨by omega, by omega⟩ | trivial | exact sl_nil) C.size ?_)
 intro ad4 w3 R4 TT G
 have S1 := S.put (d := 17) (v := .slice ad4 t.devs.xs.length t.devs.xs.length) (by decide); clear S; revert S1; generalize Act.put a _ _ = a1; intro S; clear a; rename Act => a
 replace t_w := Enc.tr (topoE) t_w TT
 replace f_w := Enc.tr (failE) f_w TT
 replace K1 := Blk.tr0 K1 G
 replace K2 := Blk.tr0 K2 G
 replace C := C.trans TT
 clear TT G; have hrl4 : (List.replicate t.devs.xs.length ((none : Option Nat) : Option Nat)).length = t.devs.xs.length := List.length_replicate
 replace S := S.cast1 (show Value.slice ad4 t.devs.xs.length t.devs.xs.length = .slice ad4 (List.replicate t.devs.xs.length ((none : Option Nat) : Option Nat)).length t.devs.xs.length from by rw [hrl4])
 refine qa S rfl ?_; clear S a; intro a S
 refine qt ?_
 refine wp_seq ?_
 refine qs ?_
 refine qm S rfl ?_; clear S a; intro a S
 refine qv S (iN (List.replicate t.devs.xs.length ((none : Option Nat) : Option Nat)).length) (x_len uT106 (S.e rfl)) ?_; clear S a; intro a S
 refine qm S rfl ?_; clear S a; intro a S
 refine qt ?_
 refine wp_block ?_
 obtain ⟨fB, hfB⟩ : ∃ b, b = w3.heap.size := ⟨_, rfl⟩
 replace R4 := Row.nodes fB R4
 have HF := Forest.new w3 fB 109
 have TT : Tr [abk ad4, one b2, one b1] w3 [span fB 0, abk ad4, one b2, one b1] w3 := (Tr.refl C.ms).cons (b := span fB 0) (fun k e => absurd e span_nil); have G : Ch (In []) w3 w3 := Ch.refl _
 replace t_w := Enc.tr (topoE) t_w TT
 replace f_w := Enc.tr (failE) f_w TT
 replace K1 := Blk.tr0 K1 G
 replace K2 := Blk.tr0 K2 G
 replace R4 := Row.tr0 R4 TT G
 replace C := C.trans TT
 clear TT G
 refine wp_loop_ghost (fun m a wr => ∃ i : Nat, ∃ ps : List (Option Nat), ∃ mem_a : Option Addr, ∃ mem_c : Nat, ∃ mem : List (Option Nat), Slots 86 [(2, iI sk), (3, pT b1 0), (4, pT b2 0), (6, .slice none 0 0), (7, .slice mem_a mem.length mem_c), (19, iN (List.replicate t.devs.xs.length ((none : Option Nat) : Option Nat)).length), (20, iN i)] a ∧ Tr [span fB 0, abk ad4, one b2, one b1] w3 [span fB i, abk mem_a, one b2, one b1] wr ∧ (i ≤ t.devs.xs.length ∧ wr.heap.size = fB + i ∧ mem.length = t.devs.xs.length ∧ (∀ j, j < i → mem.getD j none = some j) ∧ ∀ x, ps.getD x none = none) ∧ Blk wr.heap b1 (tL t) 28 ∧ Blk wr.heap b2 (fL f) 41 ∧ Row (nodeE fB) 107 w.heap.size F [span fB i, abk mem_a, one b2, one b1] wr mem_a mem_c mem ∧ Forest 109 wr.heap fB i ps ∧ (t.devs.xs.length - i) = m) (t.devs.xs.length - 0) ?_ ?_
 ·refine ⟨0, [], ad4, t.devs.xs.length, (List.replicate t.devs.xs.length ((none : Option Nat) : Option Nat)), S.sub ⟨rfl, rfl, rfl, rfl, rfl, rfl, rfl, trivial⟩, Tr.refl C.ms, ?_, K1, K2, R4, HF, rfl⟩
  exact ⟨Nat.zero_le _, by omega, by simp, fun j hj => by omega, fun x => by simp⟩
 rintro m a w4 ⟨i, ps, mem_a, mem_c, mem, S, G, hR, K1', K2', R4', HF', rfl⟩
 clear K1; have K1 := K1'; clear K1'
 clear K2; have K2 := K2'; clear K2'
 clear R4; have R4 := R4'; clear R4'
 clear HF; have HF := HF'; clear HF'
 replace t_w := Enc.tr (topoE) t_w G
 replace f_w := Enc.tr (failE) f_w G
 replace C := C.trans G
 have GL0 := G; clear G
 have mem_len := R4.len_le; simp only [maxLen] at mem_len
 obtain ⟨hi, hsz, hml, hme, hpn⟩ := hR
 have hml2 := hml
 refine qs ?_
 refine qv S (bD (((i : Nat) : Int) < (((List.replicate t.devs.xs.length ((none : Option Nat) : Option Nat)).length : Nat) : Int))) (x_lss (S.e rfl) (S.e rfl)) ?_; clear S a; intro a S
 refine qt ?_
 refine wp_seq ?_
 refine cond_dec S rfl ?_ ?_
 ·intro hc0
  refine wp_skip (then_n (wp_seq (wp_block ?_)))
  refine qs ?_
  refine qm S rfl ?_; clear S a; intro a S
  refine qa S rfl ?_; clear S a; intro a S
  refine qt ?_
  refine wp_region_lit ?_
  refine qm S rfl ?_; clear S a; intro a S
  refine qm S rfl ?_; clear S a; intro a S
  refine qm S rfl ?_; clear S a; intro a S
  refine qv S (.agg #[.pointer none, iN i]) (x_build [(1, iN i)] [.pointer none, iN i] (by simp only [List.map_cons, List.map_nil, show a.eval (.tmp 25) = iN i from (S.e rfl)]) (by kernel_rfl)) ?_; clear S a; intro a S
  refine seq_new S rfl rfl (by decide) (fun b => pT b 0) (cs := [.pointer none, iN i]) (x_box [.pointer none, iN i] (S.e rfl) rfl) ?_
  clear S a; intro a w5 b5 hb5 hbs5 G K5 S; have hbl5 : b5 < w5.heap.size := by omega
  have TT := Tr.fresh C.ms hb5 hbl5 G
  replace t_w := Enc.tr (topoE) t_w TT
  replace f_w := Enc.tr (failE) f_w TT
  replace K1 := Blk.tr0 K1 G
  replace K2 := Blk.tr0 K2 G
  replace R4 := Row.tr0 R4 TT G
  replace HF := Forest.tr0 HF G
  replace GL0 := GL0.trans TT
  replace C := C.trans TT
  clear TT G
  have hbb : b5 = fB + i := by omega
  subst hbb
  have HN := Forest.snoc HF rfl K5; clear HF; have HF := HN; clear HN K5
  have TT : Tr [one (fB + i), span fB i, abk mem_a, one b2, one b1] w5 [span fB (i + 1), abk mem_a, one b2, one b1] w5 := Tr.both (pre := []) (post := [abk mem_a, one b2, one b1]) (span_both rfl) C.ms; have G : Ch (In []) w5 w5 := Ch.refl _
  replace t_w := Enc.tr (topoE) t_w TT
  replace f_w := Enc.tr (failE) f_w TT
  replace K1 := Blk.tr0 K1 G
  replace K2 := Blk.tr0 K2 G
  replace R4 := Row.tr0 R4 TT G
  replace GL0 := GL0.trans TT
  replace C := C.trans TT
  clear TT G
  refine qv S (pT (blk mem_a) (0 + i * 1)) (x_idx uT106 (by kernel_rfl) (S.e rfl) (S.e rfl) i rfl (by omega) (row_off R4 (m := i) (by omega))) ?_; clear S a; intro a S
  refine seq_rowset S (by kernel_rfl) (S.e rfl) (S.e rfl) rfl R4 i 0 (by omega) (by first | decide | exact Nat.one_pos) (some i) rfl (by simp) trivial (by first | rfl | (show _ = _ * 1 + 0; omega) | (simp [nodeE]; omega) | simp [nodeE]) ?_
  clear S a; intro a w6 G hz6 Rn S; have TT := Tr.och C.ms G
  replace t_w := Enc.tr (topoE) t_w TT
  replace f_w := Enc.tr (failE) f_w TT
  replace K1 := Blk.tr K1 G (C.ms.sep.out 3 [1] rfl rfl rfl)
  replace K2 := Blk.tr K2 G (C.ms.sep.out 2 [1] rfl rfl rfl)
  replace HF := Forest.tr HF G (fun k e => C.ms.sep.out 0 [1] rfl rfl e)
  replace GL0 := GL0.trans TT
  replace C := C.trans TT
  clear R4; have R4 := Rn; clear Rn TT G
  have R4_ls7 : (mem.set i (some i)).length = mem.length := by simp
  refine wpList_nil ?_
  refine blk_n (then_n ?_)
  refine wp_region_lit ?_
  refine qv S (iN (i + 1)) (x_add (S.e rfl) (S.e rfl) (r := ((i + 1 : Nat) : Int)) (w_i64 (by omega))) ?_; clear S a; intro a S
  refine qm S rfl ?_; clear S a; intro a S
  refine qt ?_
  refine ⟨t.devs.xs.length - (i + 1), ?_, (i + 1), (ps ++ [none]), mem_a, mem_c, (mem.set i (some i)), S.sub ⟨rfl, rfl, rfl, rfl, (by first | rfl | (simp only [List.length_set]; rfl)), rfl, rfl, trivial⟩, GL0, ?_, K1, K2, R4, HF, rfl⟩
  ·omega
  refine ⟨by omega, by omega, by rw [List.length_set]; exact hml, fun j hj => ?_, fun x => ?_⟩
  ·by_cases hij : i = j
   ·subst hij; rw [List.getD_eq_getElem?_getD, List.getElem?_set_self (by omega)]; rfl
   rw [List.getD_eq_getElem?_getD, List.getElem?_set_ne hij, ← List.getD_eq_getElem?_getD]; exact hme j (by omega)
  rcases Nat.lt_or_ge x ps.length with h | h
  ·rw [List.getD_eq_getElem?_getD, List.getElem?_append_left h, ← List.getD_eq_getElem?_getD]; exact hpn x
  rw [List.getD_eq_getElem?_getD, List.getElem?_append_right h]; rcases x - ps.length with _ | m <;> simp
 intro hc1
 refine wp_exit (then_e (then_e (blk_e (then_n (wp_seq ?_)))))
 refine qs ?_
 refine qv S (pT b1 (0 + 1)) (x_fld (z := 0) (0) 1 uT28 rfl rfl (by kernel_rfl) (S.e rfl)) ?_; clear S a; intro a S
 refine qv S (sV t.links) (x_load ⟨_, uT24, rfl⟩ (S.e rfl) (K1.cell (j := 1) rfl)) ?_; clear S a; intro a S
 have hn8 : t.links.xs.length ≤ 9223372036854775807 := (t_w.2.1).1.len
 refine qv S (iN t.links.xs.length) (x_len uT24 (S.e rfl)) ?_; clear S a; intro a S
 refine qm S rfl ?_; clear S a; intro a S
 refine qt ?_
 refine wp_block ?_
 refine wp_loop_ghost (fun m a wr => ∃ k : Nat, ∃ ps : List (Option Nat), Slots 86 [(2, iI sk), (3, pT b1 0), (4, pT b2 0), (6, .slice none 0 0), (7, .slice mem_a mem.length mem_c), (31, sV t.links), (32, iN t.links.xs.length), (33, iN k)] a ∧ Tr [span fB i, abk mem_a, one b2, one b1] w4 [span fB i, abk mem_a, one b2, one b1] wr ∧ (k ≤ t.links.xs.length ∧ ∀ x, rootOf ps x = lab (linkR t f sk k) x) ∧ Blk wr.heap b1 (tL t) 28 ∧ Blk wr.heap b2 (fL f) 41 ∧ Row (nodeE fB) 107 w.heap.size F [span fB i, abk mem_a, one b2, one b1] wr mem_a mem_c mem ∧ Forest 109 wr.heap fB i ps ∧ (t.links.xs.length - k) = m) (t.links.xs.length - 0) ?_ ?_
 ·refine ⟨0, ps, S.sub ⟨rfl, rfl, rfl, rfl, rfl, rfl, rfl, rfl, trivial⟩, Tr.refl C.ms, ?_, K1, K2, R4, HF, rfl⟩
  exact ⟨Nat.zero_le _, fun x => by (rw [linkR_zero]; exact root_alone (hpn x))⟩
 rintro m a w7 ⟨k, ps, S, G, hR, K1', K2', R4', HF', rfl⟩
 clear K1; have K1 := K1'; clear K1'
 clear K2; have K2 := K2'; clear K2'
 clear R4; have R4 := R4'; clear R4'
 clear HF; have HF := HF'; clear HF'
 replace t_w := Enc.tr (topoE) t_w G
 replace f_w := Enc.tr (failE) f_w G
 replace GL0 := GL0.trans G
 replace C := C.trans G
 have GL1 := G; clear G
 obtain ⟨hk, hT⟩ := hR
 refine qs ?_
 refine qv S (bD (((k : Nat) : Int) < ((t.links.xs.length : Nat) : Int))) (x_lss (S.e rfl) (S.e rfl)) ?_; clear S a; intro a S
 refine qt ?_
 refine wp_seq ?_
 refine cond_dec S rfl ?_ ?_
 ·intro hc2
  have hl := topV_link ht (i := k) (by omega)
  unfold lnkV at hl
  refine wp_skip (then_n (wp_seq (wp_block ?_)))
  refine qs ?_
  refine qm S rfl ?_; clear S a; intro a S
  refine qv S (pT (blk t.links.a) (off t.links.a + k * 3)) (x_idx uT24 (by kernel_rfl) (S.e rfl) (S.e rfl) k rfl (by omega) ((t_w.2.1).1.adr (i := k) (by omega))) ?_; clear S a; intro a S
  obtain ⟨hl9, hu9⟩ : inI64 ((t.links.xs.getD k lnkE.dflt).a) := id (((t_w.2.1).1.wf k (by omega)).1)
  obtain ⟨hl10, hu10⟩ : inI64 ((t.links.xs.getD k lnkE.dflt).b) := id (((t_w.2.1).1.wf k (by omega)).2.1)
  obtain ⟨hl11, hu11⟩ : inI64 ((t.links.xs.getD k lnkE.dflt).cost) := id (((t_w.2.1).1.wf k (by omega)).2.2)
  refine qv S (.agg (lnkE.cells (t.links.xs.getD k lnkE.dflt)).toArray) (x_loadw [iI ((t.links.xs.getD k lnkE.dflt).a), iI ((t.links.xs.getD k lnkE.dflt).b), iI ((t.links.xs.getD k lnkE.dflt).cost)] ⟨_, uT54, rfl, by kernel_rfl⟩ (S.e rfl) ((t_w.2.1).1.wcell k (by omega) _ rfl _ rfl)) ?_; clear S a; intro a S
  refine seq_new S rfl rfl (by decide) (fun b => pT b 0) (cs := [iI 0, iI 0, iI 0]) (x_allocz [iI 0, iI 0, iI 0] iZ54 rfl) ?_
  clear S a; intro a w8 b12 hb12 hbs12 G K12 S; have hbl12 : b12 < w8.heap.size := by omega
  have TT := Tr.fresh C.ms hb12 hbl12 G
  replace t_w := Enc.tr (topoE) t_w TT
  replace f_w := Enc.tr (failE) f_w TT
  replace K1 := Blk.tr0 K1 G
  replace K2 := Blk.tr0 K2 G
  replace R4 := Row.tr0 R4 TT G
  replace HF := Forest.tr0 HF G
  replace GL0 := GL0.trans TT
  replace GL1 := GL1.trans TT
  replace C := C.trans TT
  clear TT G
  refine qa S rfl ?_; clear S a; intro a S
  refine seq_storew S rfl rfl (vs := [iI ((t.links.xs.getD k lnkE.dflt).a), iI ((t.links.xs.getD k lnkE.dflt).b), iI ((t.links.xs.getD k lnkE.dflt).cost)]) (x_storew (by kernel_rfl) (S.e rfl) (S.e rfl) rfl K12 rfl) K12 ?_
  clear S a; intro a w9 G hz K S; clear hz; have TT := Tr.och C.ms G
  replace t_w := Enc.tr (topoE) t_w TT
  replace f_w := Enc.tr (failE) f_w TT
  replace K1 := Blk.tr K1 G (C.ms.sep.out 4 [0] rfl rfl rfl)
  replace K2 := Blk.tr K2 G (C.ms.sep.out 3 [0] rfl rfl rfl)
  replace R4 := Row.tr R4 TT G (fun k e => C.ms.sep.out 2 [0] rfl rfl e)
  replace HF := Forest.tr HF G (fun k e => C.ms.sep.out 1 [0] rfl rfl e)
  replace GL0 := GL0.trans TT
  replace GL1 := GL1.trans TT
  replace C := C.trans TT
  clear K12; have K12 := K; clear K TT G
  refine qt ?_
  refine qs ?_
  refine qm S rfl ?_; clear S a; intro a S
  refine qm S rfl ?_; clear S a; intro a S
  refine qv S (bD (¬ ((k : Nat) : Int) = sk)) (x_neq (S.e rfl) (S.e rfl)) ?_; clear S a; intro a S
  refine qm S rfl ?_; clear S a; intro a S
  refine qg S 41 rfl (¬ ((k : Nat) : Int) = sk) gt _ (fun hg => (x_loadw (tL t) ⟨_, uT28, rfl, by kernel_rfl⟩ (S.e rfl) (K1.mid [] _ [] rfl _ rfl))) ?_; clear S a; intro a S
  refine qg S 41 rfl (¬ ((k : Nat) : Int) = sk) gt _ (fun hg => (x_loadw (fL f) ⟨_, uT41, rfl, by kernel_rfl⟩ (S.e rfl) (K2.mid [] _ [] rfl _ rfl))) ?_; clear S a; intro a S
  refine qg S 41 rfl (¬ ((k : Nat) : Int) = sk) gt (iN k) (fun hg => (x_move (S.e rfl))) ?_; clear S a; intro a S
  refine seq_gcall S (by decide) (gd := 41) (vs := #[tV t, fV f, iN k]) (v := bD (usableR t f ((k : Nat) : Int))) rfl rfl (by decide) rfl (c := (¬ ((k : Nat) : Int) = sk)) gt (fun hg => by simp only [List.map_toArray, List.map_cons, List.map_nil, show a.eval (.tmp 42) = tV t from (S.p rfl hg), show a.eval (.tmp 43) = fV f from (S.p rfl hg), show a.eval (.tmp 44) = iN k from (S.p rfl hg)]) cB58 (fun hg => ((fUsable0 _ (Ex F _) (C.old hF)  (MS.nil _) t ((topoE).down0 t_w) f ((failE).down0 f_w) ((k : Nat) : Int) ⟨by omega, by omega⟩ (⟨by omega, by omega⟩))).mono (fun _ _ h => ⟨h.1, h.2.ch⟩)) ?_
  clear S a; intro a w10 G S; have TT := Tr.of_ch0 C.ms G
  replace t_w := Enc.tr (topoE) t_w TT
  replace f_w := Enc.tr (failE) f_w TT
  replace K1 := Blk.tr0 K1 G
  replace K2 := Blk.tr0 K2 G
  replace R4 := Row.tr0 R4 TT G
  replace HF := Forest.tr0 HF G
  replace K12 := Blk.tr0 K12 G
  replace GL0 := GL0.trans TT
  replace GL1 := GL1.trans TT
  replace C := C.trans TT
  refine qv S (bD ((¬ ((k : Nat) : Int) = sk) ∧ (usableR t f ((k : Nat) : Int)))) (x_and (S.e rfl) (S.p rfl) (S.e rfl)) ?_; clear S a; intro a S
  refine qt ?_
  refine cond_dec S rfl ?_ ?_
  ·intro hc3
   replace S := S.sub (L' := [(2, iI sk), (3, pT b1 0), (4, pT b2 0), (6, .slice none 0 0), (7, .slice mem_a mem.length mem_c), (31, sV t.links), (32, iN t.links.xs.length), (33, iN k), (34, bD (((k : Nat) : Int) < ((t.links.xs.length : Nat) : Int))), (35, iN k), (36, pT (blk t.links.a) (off t.links.a + k * 3)), (37, .agg (lnkE.cells (t.links.xs.getD k lnkE.dflt)).toArray), (10, pT b12 0), (9, iN k), (38, iN k), (39, iI sk), (40, bD (¬ ((k : Nat) : Int) = sk)), (41, bD (¬ ((k : Nat) : Int) = sk)), (42, (if (¬ ((k : Nat) : Int) = sk) then tV t else undef)), (43, (if (¬ ((k : Nat) : Int) = sk) then fV f else undef)), (44, (if (¬ ((k : Nat) : Int) = sk) then iN k else undef)), (45, (if (¬ ((k : Nat) : Int) = sk) then bD (usableR t f ((k : Nat) : Int)) else undef)), (46, bD ((¬ ((k : Nat) : Int) = sk) ∧ (usableR t f ((k : Nat) : Int))))]) ⟨rfl, rfl, rfl, rfl, rfl, rfl, rfl, rfl, rfl, rfl, rfl, rfl, rfl, rfl, rfl, rfl, rfl, rfl, rfl, rfl, rfl, rfl, rfl, trivial⟩
   refine wp_heads (M := In []) S 10 [(47, iV (.slice mem_a mem.length mem_c)), (48, iV (pT b12 (0 + 0))), (49, iV (iI ((t.links.xs.getD k lnkE.dflt).a))), (50, iV (pT (blk mem_a) (0 + ((t.links.xs.getD k lnkE.dflt).a).toNat * 1))), (51, iV (ptrOf fB (mem.getD (((t.links.xs.getD k lnkE.dflt).a).toNat) (nodeE fB).dflt))), (52, iV (.slice mem_a mem.length mem_c)), (53, iV (pT b12 (0 + 1))), (54, iV (iI ((t.links.xs.getD k lnkE.dflt).b))), (55, iV (pT (blk mem_a) (0 + ((t.links.xs.getD k lnkE.dflt).b).toNat * 1))), (56, iV (ptrOf fB (mem.getD (((t.links.xs.getD k lnkE.dflt).b).toNat) (nodeE fB).dflt)))] (fun w => True) [[], [], [48], [47, 49], [50], [], [], [53], [52, 54], [55]] [51, 56] _ rfl mixed (by kernel_rfl) rfl trivial ?_ ?_
   ·refine ⟨?_, ?_, ?_, ?_, ?_, ?_, ?_, ?_, ?_, ?_, trivial⟩
    ·intro a w11 G I S hE
     have TT := Tr.of_ch C.ms G (fun _ h => by simp at h)
     replace R4 := Row.tr0 R4 TT G
     replace C := C.trans TT
     exact qo (.slice mem_a mem.length mem_c) (x_move (S.e rfl)) I
    ·intro a w12 G I S hE
     have TT := Tr.of_ch C.ms G (fun _ h => by simp at h)
     replace t_w := Enc.tr (topoE) t_w TT
     replace K12 := Blk.tr0 K12 G
     replace C := C.trans TT
     exact qo (pT b12 (0 + 0)) (x_fld (z := 0) (0) 0 uT54 rfl rfl (by kernel_rfl) (S.e rfl)) I
    ·intro a w13 G I S hE
     have TT := Tr.of_ch C.ms G (fun _ h => by simp at h)
     replace t_w := Enc.tr (topoE) t_w TT
     replace K12 := Blk.tr0 K12 G
     replace C := C.trans TT
     obtain ⟨e48, _⟩ := hE
     replace S := S.ext e48
     exact qo (iI ((t.links.xs.getD k lnkE.dflt).a)) (x_load ⟨_, uT3, rfl⟩ (S.e rfl) (K12.cell (j := 0) rfl)) I
    ·intro a w14 G I S hE
     have TT := Tr.of_ch C.ms G (fun _ h => by simp at h)
     replace t_w := Enc.tr (topoE) t_w TT
     replace R4 := Row.tr0 R4 TT G
     replace C := C.trans TT
     obtain ⟨e47, e49, _⟩ := hE
     replace S := S.ext e47
     replace S := S.ext e49
     exact qo (pT (blk mem_a) (0 + ((t.links.xs.getD k lnkE.dflt).a).toNat * 1)) (x_idx uT106 (by kernel_rfl) (S.e rfl) (S.e rfl) ((t.links.xs.getD k lnkE.dflt).a).toNat (by omega) (by omega) (row_off R4 (m := ((t.links.xs.getD k lnkE.dflt).a).toNat) (by omega))) I
    ·intro a w15 G I S hE
     have TT := Tr.of_ch C.ms G (fun _ h => by simp at h)
     replace R4 := Row.tr0 R4 TT G
     replace C := C.trans TT
     obtain ⟨e50, _⟩ := hE
     replace S := S.ext e50
     exact qo (ptrOf fB (mem.getD (((t.links.xs.getD k lnkE.dflt).a).toNat) (nodeE fB).dflt)) (x_load ⟨_, uT107, rfl⟩ (S.e rfl) ((R4.latz (by first | decide | exact Nat.one_pos)).cell ((t.links.xs.getD k lnkE.dflt).a).toNat (by omega) 0 _ rfl)) I
    ·intro a w16 G I S hE
     have TT := Tr.of_ch C.ms G (fun _ h => by simp at h)
     replace R4 := Row.tr0 R4 TT G
     replace C := C.trans TT
     exact qo (.slice mem_a mem.length mem_c) (x_move (S.e rfl)) I
    ·intro a w17 G I S hE
     have TT := Tr.of_ch C.ms G (fun _ h => by simp at h)
     replace t_w := Enc.tr (topoE) t_w TT
     replace K12 := Blk.tr0 K12 G
     replace C := C.trans TT
     exact qo (pT b12 (0 + 1)) (x_fld (z := 0) (0) 1 uT54 rfl rfl (by kernel_rfl) (S.e rfl)) I
    ·intro a w18 G I S hE
     have TT := Tr.of_ch C.ms G (fun _ h => by simp at h)
     replace t_w := Enc.tr (topoE) t_w TT
     replace K12 := Blk.tr0 K12 G
     replace C := C.trans TT
     obtain ⟨e53, _⟩ := hE
     replace S := S.ext e53
     exact qo (iI ((t.links.xs.getD k lnkE.dflt).b)) (x_load ⟨_, uT3, rfl⟩ (S.e rfl) (K12.cell (j := 1) rfl)) I
    ·intro a w19 G I S hE
     have TT := Tr.of_ch C.ms G (fun _ h => by simp at h)
     replace t_w := Enc.tr (topoE) t_w TT
     replace R4 := Row.tr0 R4 TT G
     replace C := C.trans TT
     obtain ⟨e52, e54, _⟩ := hE
     replace S := S.ext e52
     replace S := S.ext e54
     exact qo (pT (blk mem_a) (0 + ((t.links.xs.getD k lnkE.dflt).b).toNat * 1)) (x_idx uT106 (by kernel_rfl) (S.e rfl) (S.e rfl) ((t.links.xs.getD k lnkE.dflt).b).toNat (by omega) (by omega) (row_off R4 (m := ((t.links.xs.getD k lnkE.dflt).b).toNat) (by omega))) I
    intro a w20 G I S hE
    have TT := Tr.of_ch C.ms G (fun _ h => by simp at h)
    replace R4 := Row.tr0 R4 TT G
    replace C := C.trans TT
    obtain ⟨e55, _⟩ := hE
    replace S := S.ext e55
    exact qo (ptrOf fB (mem.getD (((t.links.xs.getD k lnkE.dflt).b).toNat) (nodeE fB).dflt)) (x_load ⟨_, uT107, rfl⟩ (S.e rfl) ((R4.latz (by first | decide | exact Nat.one_pos)).cell ((t.links.xs.getD k lnkE.dflt).b).toNat (by omega) 0 _ rfl)) I
   clear S a; intro a w21 G I S hE; have TT := Tr.of_ch C.ms G (fun _ h => by simp at h)
   replace t_w := Enc.tr (topoE) t_w TT
   replace f_w := Enc.tr (failE) f_w TT
   replace K1 := Blk.tr0 K1 G
   replace K2 := Blk.tr0 K2 G
   replace R4 := Row.tr0 R4 TT G
   replace HF := Forest.tr0 HF G
   replace K12 := Blk.tr0 K12 G
   replace GL0 := GL0.trans TT
   replace GL1 := GL1.trans TT
   replace C := C.trans TT
   clear TT G
   obtain ⟨e51, e56, -⟩ := hE
   replace S := S.ext e51
   replace S := S.ext e56
   clear e51 e56
   rw [show ptrOf fB (mem.getD (((t.links.xs.getD k lnkE.dflt).a).toNat) (nodeE fB).dflt) = pT (fB + ((t.links.xs.getD k lnkE.dflt).a.toNat)) 0 from congrArg (ptrOf fB) (hme _ (by omega))] at S
   rw [show ptrOf fB (mem.getD (((t.links.xs.getD k lnkE.dflt).b).toNat) (nodeE fB).dflt) = pT (fB + ((t.links.xs.getD k lnkE.dflt).b.toNat)) 0 from congrArg (ptrOf fB) (hme _ (by omega))] at S
   refine seq_call S (by decide) (vs := #[pT (fB + (t.links.xs.getD k lnkE.dflt).a.toNat) 0, pT (fB + (t.links.xs.getD k lnkE.dflt).b.toNat) 0]) rfl cB92 (fJoin _ (Ex F _) (C.old hF) fB i (C.ms.picks [1] (by decide)) ps HF ((t.links.xs.getD k lnkE.dflt).a.toNat) (by omega) ((t.links.xs.getD k lnkE.dflt).b.toNat) (by omega)) ?_
   rintro e w22 ⟨ps_13, rfl, tHF, hf_13, T0⟩; refine ⟨_, rfl, ?_⟩; clear S a; intro a S
   have TT := Tr.fra C.ms T0; have G := T0.ch
   replace t_w := Enc.tr (topoE) t_w TT
   replace f_w := Enc.tr (failE) f_w TT
   replace K1 := Blk.tr K1 G (C.ms.sep.out 4 [1] rfl rfl rfl)
   replace K2 := Blk.tr K2 G (C.ms.sep.out 3 [1] rfl rfl rfl)
   replace R4 := Row.tr R4 TT G (fun k e => C.ms.sep.out 2 [1] rfl rfl e)
   replace K12 := Blk.tr K12 G (C.ms.sep.out 0 [1] rfl rfl rfl)
   replace GL0 := GL0.trans TT
   replace GL1 := GL1.trans TT
   replace C := C.trans TT
   clear HF; have HF := tHF; clear tHF
   clear T0 G TT
   have hfj := hf_13
   refine wpList_nil ?_
   refine blk_n (then_n ?_)
   refine wp_region_lit ?_
   refine qv S (iN (k + 1)) (x_add (S.e rfl) (S.e rfl) (r := ((k + 1 : Nat) : Int)) (w_i64 (by omega))) ?_; clear S a; intro a S
   refine qm S rfl ?_; clear S a; intro a S
   refine wpList_nil ?_
   have TD : Tr [one b12, span fB i, abk mem_a, one b2, one b1] w22 [span fB i, abk mem_a, one b2, one b1] w22 := Tr.drop C.ms [1, 2, 3, 4] (by decide)
   have GD : Ch (In []) w22 w22 := Ch.refl _
   clear K12
   replace t_w := Enc.tr (topoE) t_w TD
   replace f_w := Enc.tr (failE) f_w TD
   replace K1 := Blk.tr0 K1 GD
   replace K2 := Blk.tr0 K2 GD
   replace R4 := Row.tr0 R4 TD GD
   replace HF := Forest.tr0 HF GD
   replace GL0 := GL0.trans TD
   replace GL1 := GL1.trans TD
   replace C := C.trans TD
   clear TD GD
   refine then_n ?_
   refine ⟨t.links.xs.length - (k + 1), ?_, (k + 1), ps_13, S.sub ⟨rfl, rfl, rfl, rfl, rfl, rfl, rfl, rfl, trivial⟩, GL1, ?_, K1, K2, R4, HF, rfl⟩
   ·omega
   refine ⟨by omega, fun x => ?_⟩
   first | (rw [linkR_skip hc3]; exact hT x) | (rw [linkR_add hc3.1 hc3.2 (p := (t.links.xs.getD k lnkE.dflt).a.toNat) (q := (t.links.xs.getD k lnkE.dflt).b.toNat) (by show (t.links.xs.getD k lnkE.dflt).a = _; omega) (by show (t.links.xs.getD k lnkE.dflt).b = _; omega), lab_add, hfj, hT, hT, hT]; unfold joinR; rfl)
  intro hc4
  refine wp_skip (blk_n (then_n ?_))
  refine wp_region_lit ?_
  refine qv S (iN (k + 1)) (x_add (S.e rfl) (S.e rfl) (r := ((k + 1 : Nat) : Int)) (w_i64 (by omega))) ?_; clear S a; intro a S
  refine qm S rfl ?_; clear S a; intro a S
  refine wpList_nil ?_
  have TD : Tr [one b12, span fB i, abk mem_a, one b2, one b1] w10 [span fB i, abk mem_a, one b2, one b1] w10 := Tr.drop C.ms [1, 2, 3, 4] (by decide)
  have GD : Ch (In []) w10 w10 := Ch.refl _
  clear K12
  replace t_w := Enc.tr (topoE) t_w TD
  replace f_w := Enc.tr (failE) f_w TD
  replace K1 := Blk.tr0 K1 GD
  replace K2 := Blk.tr0 K2 GD
  replace R4 := Row.tr0 R4 TD GD
  replace HF := Forest.tr0 HF GD
  replace GL0 := GL0.trans TD
  replace GL1 := GL1.trans TD
  replace C := C.trans TD
  clear TD GD
  refine then_n ?_
  refine ⟨t.links.xs.length - (k + 1), ?_, (k + 1), ps, S.sub ⟨rfl, rfl, rfl, rfl, rfl, rfl, rfl, rfl, trivial⟩, GL1, ?_, K1, K2, R4, HF, rfl⟩
  ·omega
  refine ⟨by omega, fun x => ?_⟩
  first | (rw [linkR_skip hc4]; exact hT x) | (rw [linkR_add hc4.1 hc4.2 (p := (t.links.xs.getD k lnkE.dflt).a.toNat) (q := (t.links.xs.getD k lnkE.dflt).b.toNat) (by show (t.links.xs.getD k lnkE.dflt).a = _; omega) (by show (t.links.xs.getD k lnkE.dflt).b = _; omega), lab_add, hfj, hT, hT, hT]; unfold joinR; rfl)
 intro hc5
 refine wp_exit (then_e (then_e (blk_e (then_n ?_))))
 refine qs ?_
 refine qm S rfl ?_; clear S a; intro a S
 refine qv S (iN mem.length) (x_len uT106 (S.e rfl)) ?_; clear S a; intro a S
 refine seq_op rfl (op_make (E := intE) (F := F) (w0 := w) (.tmp 60) (.tmp 60) rfl zero_3 8 uT22 iZ3 rfl (0 : Int) rfl rfl mem.length (S.e rfl) (S.e rfl) rfl rfl (by omega) (by unfold maxLen; omega) C.ms (fun h => by first | exact ⟨by omega, by omega⟩ | trivial | exact sl_nil) C.size ?_)
 intro ad14 w23 R14 TT G
 have S1 := S.put (d := 61) (v := .slice ad14 mem.length mem.length) (by decide); clear S; revert S1; generalize Act.put a _ _ = a1; intro S; clear a; rename Act => a
 replace t_w := Enc.tr (topoE) t_w TT
 replace f_w := Enc.tr (failE) f_w TT
 replace K1 := Blk.tr0 K1 G
 replace K2 := Blk.tr0 K2 G
 replace R4 := Row.tr0 R4 TT G
 replace HF := Forest.tr0 HF G
 replace GL0 := GL0.trans TT
 replace GL1 := GL1.trans TT
 replace C := C.trans TT
 clear TT G; have hrl14 : (List.replicate mem.length (0 : Int)).length = mem.length := List.length_replicate
 replace S := S.cast1 (show Value.slice ad14 mem.length mem.length = .slice ad14 (List.replicate mem.length (0 : Int)).length mem.length from by rw [hrl14])
 refine qa S rfl ?_; clear S a; intro a S
 refine qt ?_
 refine wp_seq ?_
 refine qs ?_
 refine qm S rfl ?_; clear S a; intro a S
 refine qv S (iN mem.length) (x_len uT106 (S.e rfl)) ?_; clear S a; intro a S
 refine qm S rfl ?_; clear S a; intro a S
 refine qt ?_
 refine wp_block ?_
 refine wp_loop_ghost (fun m a wr => ∃ j : Nat, ∃ ps : List (Option Nat), ∃ out_a : Option Addr, ∃ out_c : Nat, ∃ out : List Int, Slots 86 [(4, pT b2 0), (6, .slice none 0 0), (11, .slice out_a out.length out_c), (62, .slice mem_a mem.length mem_c), (63, iN mem.length), (64, iN j)] a ∧ Tr [abk ad14, span fB i, abk mem_a, one b2, one b1] w23 [abk out_a, span fB i, abk mem_a, one b2, one b1] wr ∧ (j ≤ t.devs.xs.length ∧ (∀ x, rootOf ps x = lab (linkR t f sk t.links.xs.length) x) ∧ out.length = t.devs.xs.length ∧ ∀ i, i < j → out.getD i 0 = cv t f sk i) ∧ Blk wr.heap b1 (tL t) 28 ∧ Blk wr.heap b2 (fL f) 41 ∧ Row (nodeE fB) 107 w.heap.size F [abk out_a, span fB i, abk mem_a, one b2, one b1] wr mem_a mem_c mem ∧ Forest 109 wr.heap fB i ps ∧ Row intE 3 w.heap.size F [abk out_a, span fB i, abk mem_a, one b2, one b1] wr out_a out_c out ∧ (t.devs.xs.length - j) = m) (t.devs.xs.length - 0) ?_ ?_
 ·refine ⟨0, ps, ad14, mem.length, (List.replicate mem.length (0 : Int)), S.sub ⟨rfl, rfl, rfl, rfl, rfl, rfl, trivial⟩, Tr.refl C.ms, ?_, K1, K2, R4, HF, R14, rfl⟩
  exact ⟨Nat.zero_le _, by (rw [show t.links.xs.length = k from by omega]; exact hT), by (simp only [List.length_replicate]; omega), fun i h => by omega⟩
 rintro m a w24 ⟨j, ps, out_a, out_c, out, S, G, hR, K1', K2', R4', HF', R14', rfl⟩
 clear K1; have K1 := K1'; clear K1'
 clear K2; have K2 := K2'; clear K2'
 clear R4; have R4 := R4'; clear R4'
 clear HF; have HF := HF'; clear HF'
 clear R14; have R14 := R14'; clear R14'
 replace t_w := Enc.tr (topoE) t_w G
 replace f_w := Enc.tr (failE) f_w G
 replace GL0 := GL0.trans G
 replace GL1 := GL1.trans G
 replace C := C.trans G
 have GL2 := G; clear G
 have out_len := R14.len_le; simp only [maxLen] at out_len
 obtain ⟨hj, hT2, hol, hoe⟩ := hR
 refine qs ?_
 refine qv S (bD (((j : Nat) : Int) < ((mem.length : Nat) : Int))) (x_lss (S.e rfl) (S.e rfl)) ?_; clear S a; intro a S
 refine qt ?_
 refine wp_seq ?_
 refine cond_dec S rfl ?_ ?_
 ·intro hc6
  refine wp_skip (then_n (wp_seq (wp_block ?_)))
  refine qs ?_
  refine qm S rfl ?_; clear S a; intro a S
  refine qv S (pT (blk mem_a) (0 + j * 1)) (x_idx uT106 (by kernel_rfl) (S.e rfl) (S.e rfl) j rfl (by omega) (row_off R4 (m := j) (by omega))) ?_; clear S a; intro a S
  refine qv S (ptrOf fB (mem.getD j (nodeE fB).dflt)) (x_load ⟨_, uT107, rfl⟩ (S.e rfl) ((R4.latz (by first | decide | exact Nat.one_pos)).cell j (by omega) 0 _ rfl)) ?_; clear S a; intro a S
  rw [show ptrOf fB (mem.getD j (nodeE fB).dflt) = pT (fB + j) 0 from congrArg (ptrOf fB) (hme _ (by omega))] at S
  refine qa S rfl ?_; clear S a; intro a S
  refine qa S rfl ?_; clear S a; intro a S
  refine qt ?_
  refine qs ?_
  refine qm S rfl ?_; clear S a; intro a S
  refine qm S rfl ?_; clear S a; intro a S
  refine qm S rfl ?_; clear S a; intro a S
  refine seq_call S (by decide) (vs := #[pT (fB + j) 0]) rfl cB93 (fRoot _ (Ex F _) (C.old hF) fB i (C.ms.picks [1] (by decide)) ps HF j (by omega)) ?_
  rintro e w25 ⟨ps_15, rfl, tHF, hf_15, T0⟩; refine ⟨_, rfl, ?_⟩; clear S a; intro a S
  have TT := Tr.fra C.ms T0; have G := T0.ch
  replace t_w := Enc.tr (topoE) t_w TT
  replace f_w := Enc.tr (failE) f_w TT
  replace K1 := Blk.tr K1 G (C.ms.sep.out 4 [1] rfl rfl rfl)
  replace K2 := Blk.tr K2 G (C.ms.sep.out 3 [1] rfl rfl rfl)
  replace R4 := Row.tr R4 TT G (fun k e => C.ms.sep.out 2 [1] rfl rfl e)
  replace R14 := Row.tr R14 TT G (fun k e => C.ms.sep.out 0 [1] rfl rfl e)
  replace GL0 := GL0.trans TT
  replace GL1 := GL1.trans TT
  replace GL2 := GL2.trans TT
  replace C := C.trans TT
  clear HF; have HF := tHF; clear tHF
  clear T0 G TT
  have hrr : rootOf ps j < t.devs.xs.length := by rw [← hf_15 j]; exact Nat.lt_of_lt_of_le (HF.rlt (by omega)) (by omega)
  have hfj := hf_15
  refine qv S (pT (fB + (rootOf ps j)) 0) (x_nilck (S.e rfl)) ?_; clear S a; intro a S
  refine qv S (pT (fB + (rootOf ps j)) (0 + 1)) (x_fld (z := 0) (0) 1 uT109 rfl rfl (by kernel_rfl) (S.e rfl)) ?_; clear S a; intro a S
  refine qv S (iN (rootOf ps j)) (x_load ⟨_, uT3, rfl⟩ (S.e rfl) (HF.c1 (by omega))) ?_; clear S a; intro a S
  refine qv S (pT (blk out_a) (0 + j * 1)) (x_idx uT22 (by kernel_rfl) (S.e rfl) (S.e rfl) j rfl (by omega) (row_off R14 (m := j) (by omega))) ?_; clear S a; intro a S
  refine seq_rowset S (by kernel_rfl) (S.e rfl) (S.e rfl) rfl R14 j 0 (by omega) (by first | decide | exact Nat.one_pos) (((rootOf ps j) : Nat) : Int) rfl (by simp) (show inI64 (((rootOf ps j) : Nat) : Int) from ⟨by omega, by omega⟩) (by first | rfl | (show _ = _ * 1 + 0; omega) | (simp [intE]; omega) | simp [intE]) ?_
  clear S a; intro a w26 G hz16 Rn S; have TT := Tr.och C.ms G
  replace t_w := Enc.tr (topoE) t_w TT
  replace f_w := Enc.tr (failE) f_w TT
  replace K1 := Blk.tr K1 G (C.ms.sep.out 4 [0] rfl rfl rfl)
  replace K2 := Blk.tr K2 G (C.ms.sep.out 3 [0] rfl rfl rfl)
  replace R4 := Row.tr R4 TT G (fun k e => C.ms.sep.out 2 [0] rfl rfl e)
  replace HF := Forest.tr HF G (fun k e => C.ms.sep.out 1 [0] rfl rfl e)
  replace GL0 := GL0.trans TT
  replace GL1 := GL1.trans TT
  replace GL2 := GL2.trans TT
  replace C := C.trans TT
  clear R14; have R14 := Rn; clear Rn TT G
  have R14_ls17 : (out.set j (((rootOf ps j) : Nat) : Int)).length = out.length := by simp
  refine qt ?_
  refine qs ?_
  refine qv S _ (x_loadw (fL f) ⟨_, uT41, rfl, by kernel_rfl⟩ (S.e rfl) (K2.mid [] _ [] rfl _ rfl)) ?_; clear S a; intro a S
  refine qm S rfl ?_; clear S a; intro a S
  refine seq_call S (by decide) (vs := #[fV f, iN j]) rfl cB63 (fAlive0 _ (Ex F _) (C.old hF)  (MS.nil _) f ((failE).down0 f_w) ((j : Nat) : Int) ⟨by omega, by omega⟩) ?_
  rintro e w27 ⟨rfl, T0⟩; refine ⟨_, rfl, ?_⟩; clear S a; intro a S
  have TT := Tr.framed0 C.ms T0; have G := T0.ch
  replace t_w := Enc.tr (topoE) t_w TT
  replace f_w := Enc.tr (failE) f_w TT
  replace K1 := Blk.tr0 K1 G
  replace K2 := Blk.tr0 K2 G
  replace R4 := Row.tr0 R4 TT G
  replace HF := Forest.tr0 HF G
  replace R14 := Row.tr0 R14 TT G
  replace GL0 := GL0.trans TT
  replace GL1 := GL1.trans TT
  replace GL2 := GL2.trans TT
  replace C := C.trans TT
  clear T0 G TT
  refine qv S (bD (¬ (¬ (((j : Nat) : Int) ∈ f.devs.xs)))) (x_notp (S.e rfl)) ?_; clear S a; intro a S
  refine qt ?_
  refine cond_dec S rfl ?_ ?_
  ·intro hc7
   refine wp_region_lit ?_
   refine qm S rfl ?_; clear S a; intro a S
   refine qm S rfl ?_; clear S a; intro a S
   refine qv S (pT (blk out_a) (0 + j * 1)) (x_idx uT22 (by kernel_rfl) (S.e rfl) (S.e rfl) j rfl (by omega) (row_off R14 (m := j) (by omega))) ?_; clear S a; intro a S
   refine seq_rowset S (by kernel_rfl) (S.e rfl) (S.e rfl) rfl R14 j 0 (by omega) (by first | decide | exact Nat.one_pos) (-1) rfl (by simp) (show inI64 (-1) from ⟨by omega, by omega⟩) (by first | rfl | (show _ = _ * 1 + 0; omega) | (simp [intE]; omega) | simp [intE]) ?_
   clear S a; intro a w28 G hz19 Rn S; have TT := Tr.och C.ms G
   replace t_w := Enc.tr (topoE) t_w TT
   replace f_w := Enc.tr (failE) f_w TT
   replace K1 := Blk.tr K1 G (C.ms.sep.out 4 [0] rfl rfl rfl)
   replace K2 := Blk.tr K2 G (C.ms.sep.out 3 [0] rfl rfl rfl)
   replace R4 := Row.tr R4 TT G (fun k e => C.ms.sep.out 2 [0] rfl rfl e)
   replace HF := Forest.tr HF G (fun k e => C.ms.sep.out 1 [0] rfl rfl e)
   replace GL0 := GL0.trans TT
   replace GL1 := GL1.trans TT
   replace GL2 := GL2.trans TT
   replace C := C.trans TT
   clear R14; have R14 := Rn; clear Rn TT G
   have R14_ls20 : ((out.set j (((rootOf ps j) : Nat) : Int)).set j (-1)).length = out.length := by simp
   refine wpList_nil ?_
   refine blk_n (then_n ?_)
   refine wp_region_lit ?_
   refine qv S (iN (j + 1)) (x_add (S.e rfl) (S.e rfl) (r := ((j + 1 : Nat) : Int)) (w_i64 (by omega))) ?_; clear S a; intro a S
   refine qm S rfl ?_; clear S a; intro a S
   refine qt ?_
   refine ⟨t.devs.xs.length - (j + 1), ?_, (j + 1), ps_15, out_a, out_c, ((out.set j (((rootOf ps j) : Nat) : Int)).set j (-1)), S.sub ⟨rfl, rfl, (by first | rfl | (simp only [List.length_set]; rfl)), rfl, rfl, rfl, trivial⟩, GL2, ?_, K1, K2, R4, HF, R14, rfl⟩
   ·omega
   refine ⟨by omega, fun x => (hfj x).trans (hT2 x), by simp only [List.length_set]; exact hol, fun i hi => ?_⟩
   rcases Nat.lt_succ_iff_lt_or_eq.1 hi with h | h
   ·simp only [List.getD_eq_getElem?_getD]
    first | rw [List.getElem?_set_ne (by omega), List.getElem?_set_ne (by omega)] | rw [List.getElem?_set_ne (by omega)]
    rw [← List.getD_eq_getElem?_getD]; exact hoe i h
   subst h
   unfold cv
   first | (rw [if_pos (Classical.not_not.1 hc7), List.getD_eq_getElem?_getD, List.getElem?_set_self (by simp only [List.length_set]; omega)]; rfl) | (rw [if_neg (fun e => hc7 (fun g => g e)), ← hT2, List.getD_eq_getElem?_getD, List.getElem?_set_self (by omega)]; rfl)
  intro hc8
  refine wp_skip (blk_n (then_n ?_))
  refine wp_region_lit ?_
  refine qv S (iN (j + 1)) (x_add (S.e rfl) (S.e rfl) (r := ((j + 1 : Nat) : Int)) (w_i64 (by omega))) ?_; clear S a; intro a S
  refine qm S rfl ?_; clear S a; intro a S
  refine qt ?_
  refine ⟨t.devs.xs.length - (j + 1), ?_, (j + 1), ps_15, out_a, out_c, (out.set j (((rootOf ps j) : Nat) : Int)), S.sub ⟨rfl, rfl, (by first | rfl | (simp only [List.length_set]; rfl)), rfl, rfl, rfl, trivial⟩, GL2, ?_, K1, K2, R4, HF, R14, rfl⟩
  ·omega
  refine ⟨by omega, fun x => (hfj x).trans (hT2 x), by simp only [List.length_set]; exact hol, fun i hi => ?_⟩
  rcases Nat.lt_succ_iff_lt_or_eq.1 hi with h | h
  ·simp only [List.getD_eq_getElem?_getD]
   first | rw [List.getElem?_set_ne (by omega), List.getElem?_set_ne (by omega)] | rw [List.getElem?_set_ne (by omega)]
   rw [← List.getD_eq_getElem?_getD]; exact hoe i h
  subst h
  unfold cv
  first | (rw [if_pos (Classical.not_not.1 hc8), List.getD_eq_getElem?_getD, List.getElem?_set_self (by simp only [List.length_set]; omega)]; rfl) | (rw [if_neg (fun e => hc8 (fun g => g e)), ← hT2, List.getD_eq_getElem?_getD, List.getElem?_set_self (by omega)]; rfl)
 intro hc9
 refine wp_exit (then_e (then_e (blk_e (then_n ?_))))
 refine qs ?_
 refine qm S rfl ?_; clear S a; intro a S
 refine qa S rfl ?_; clear S a; intro a S
 refine qt ?_
 refine wp_ret ?_
 have FR14 := Row.freeze (pre := []) (post := [span fB i, abk mem_a, one b2, one b1]) rfl C.ms R14 (by first | decide | exact Nat.one_pos) (R14.notF hF (Nat.le_refl _))
 have TF := Tr.leave (pre := []) (o := abk out_a) (post := [span fB i, abk mem_a, one b2, one b1]) C.ms
 have GF : Ch (In []) w24 w24 := Ch.refl _
 replace t_w := Enc.tr (topoE) t_w TF
 replace f_w := Enc.tr (failE) f_w TF
 replace K1 := Blk.tr0 K1 GF
 replace K2 := Blk.tr0 K2 GF
 replace R4 := Row.tr0 R4 TF GF
 replace HF := Forest.tr0 HF GF
 replace GL0 := GL0.trans TF
 replace GL1 := GL1.trans TF
 replace GL2 := GL2.trans TF
 replace C := C.trans TF
 replace FR14 : (slE intE).wf (Fr F [span fB i, abk mem_a, one b2, one b1]) w24.heap ⟨out_a, out_c, out⟩ := FR14; clear R14
 refine ret1 rfl S rfl ?_
 have TD : Tr [span fB i, abk mem_a, one b2, one b1] w24 [] w24 := Tr.drop C.ms [] (by decide)
 have GD : Ch (In []) w24 w24 := Ch.refl _
 clear K1
 clear K2
 clear R4
 clear HF
 replace t_w := Enc.tr (topoE) t_w TD
 replace f_w := Enc.tr (failE) f_w TD
 replace FR14 := Enc.tr (slE intE) FR14 TD
 replace GL0 := GL0.trans TD
 replace GL1 := GL1.trans TD
 replace GL2 := GL2.trans TD
 replace C := C.trans TD
 clear TD GD
 have hx21 : compsOf t f sk = out := by
  exact comps_is hol (fun i hi => hoe i (by omega))
 rw [hx21]
 refine ⟨out_a, out_c, rfl, FR14, C⟩
end Go.Proofs.Ytfanmniaolncbaa.V
