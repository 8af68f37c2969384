/- the generator: topologies -/
import Derived.Test.YtfanmniaolncbaaW13
namespace Go.Proofs.Ytfanmniaolncbaa.V
open Go.RowKit Go.Proofs.Ytfanmniaolncbaa
set_option linter.unusedVariables false
set_option linter.unusedSimpArgs false
set_option maxHeartbeats 2000000 in
set_option maxRecDepth 20000 in
theorem gTopology (w : World) (F : Nat → Prop) (hF : Old F w) (T : Nat) (M : MS [one T] w) (T_l : Sl Int) (T_w : (slE intE).wf (Fr F [one T]) w.heap T_l) (T_K : TpB 62 T T_l w) (n : Int) (n_h : inI64 n) :
 Calls Try.prog 15 #[pT T 0, iI n] w fun e w' => ∃ (r : Topo), e = .returned (tV r) ∧ topoE.wf (Fr F [one T]) w'.heap r ∧ genT r ∧ TpB 62 T T_l w' ∧ Tr [one T] w [one T] w' := by
 have C : Tr [one T] w [one T] w := Tr.refl M
 obtain ⟨n_hl, n_hu⟩ : inI64 n := id n_h
 refine enter Try.func15 rfl 154 rfl (Nat.le_of_ble_eq_true rfl) ?_
 intro a S
 refine qs ?_
 refine seq_new S rfl rfl (by decide) (fun b => pT b 0) (cs := [.slice none 0 0, .slice none 0 0, .slice none 0 0, .slice none 0 0, iI 0]) (x_allocz [.slice none 0 0, .slice none 0 0, .slice none 0 0, .slice none 0 0, iI 0] infoz_28 rfl) ?_
 clear S a; intro a w1 b1 hb1 hbs1 G K1 S; have hbl1 : b1 < w1.heap.size := by omega
 have TT := Tr.fresh C.ms hb1 hbl1 G
 replace T_w := Enc.tr (slE intE) T_w TT
 replace T_K := TpB.tr0 T_K G
 replace C := C.trans TT
 clear TT G
 refine qt ?_
 refine qs ?_
 refine seq_new S rfl rfl (by decide) (fun b => pT b 0) (cs := [.slice none 0 0, .slice none 0 0, .slice none 0 0, .slice none 0 0, iI 0]) (x_allocz [.slice none 0 0, .slice none 0 0, .slice none 0 0, .slice none 0 0, iI 0] infoz_28 rfl) ?_
 clear S a; intro a w2 b2 hb2 hbs2 G K2 S; have hbl2 : b2 < w2.heap.size := by omega
 have TT := Tr.fresh C.ms hb2 hbl2 G
 replace T_w := Enc.tr (slE intE) T_w TT
 replace T_K := TpB.tr0 T_K G
 replace K1 := Blk.tr0 K1 G
 replace C := C.trans TT
 clear TT G
 refine qt ?_
 refine qs ?_
 refine qm S rfl ?_; clear S a; intro a S
 refine qm S rfl ?_; clear S a; intro a S
 refine qv S (iI (if 6 < n then 6 else n)) (x_min (S.e rfl) (S.e rfl)) ?_; clear S a; intro a S
 refine seq_call S (by decide) (vs := #[pT T 0, iI (if 6 < n then 6 else n)]) rfl callable_23 (gNext _ (Ex F _) (C.old hF) T (C.ms.picks [2] (by decide)) T_l ((slE intE).dn T_w) T_K (if 6 < n then 6 else n) ⟨by omega, by omega⟩) ?_
 rintro e w3 ⟨r_3, rfl, hr_3, tT_K, T0⟩; refine ⟨_, rfl, ?_⟩; clear S a; intro a S
 have TT := Tr.fra C.ms T0; have G := T0.ch
 replace T_w := Enc.tr (slE intE) T_w TT
 replace K1 := Blk.tr K1 G (C.ms.sep.out 1 [2] rfl rfl rfl)
 replace K2 := Blk.tr K2 G (C.ms.sep.out 0 [2] rfl rfl rfl)
 replace C := C.trans TT
 clear T_K; have T_K := tT_K; clear tT_K
 clear T0 G TT
 obtain ⟨nn, hnn, hn1, hn6⟩ : ∃ nn : Nat, ((nn : Nat) : Int) = 1 + r_3 ∧ 1 ≤ nn ∧ nn ≤ 6 := ⟨(1 + r_3).toNat, by (obtain ⟨h1, h2⟩ := hr_3; split at h2 <;> refine ⟨?_, ?_, ?_⟩ <;> omega)⟩
 refine qv S (iI (1 + r_3)) (x_add (S.e rfl) (S.e rfl) (r := (1 + r_3)) (w_i64 (by omega))) ?_; clear S a; intro a S
 rw [← hnn] at S
 refine qa S rfl ?_; clear S a; intro a S
 refine qt ?_
 refine wp_seq ?_
 refine qs ?_
 refine qa S rfl ?_; clear S a; intro a S
 refine qt ?_
 refine wp_block ?_
 have W4 := Row.nil devE 65 w.heap.size F [abk none, one b2, one b1, one T] w3
 have TT : Tr [one b2, one b1, one T] w3 [abk none, one b2, one b1, one T] w3 := (Tr.refl C.ms).cons (b := abk none) (fun k e => absurd e abk_none); have G : Ch (In []) w3 w3 := Ch.refl _
 replace T_w := Enc.tr (slE intE) T_w TT
 replace T_K := TpB.tr0 T_K G
 replace K1 := Blk.tr0 K1 G
 replace K2 := Blk.tr0 K2 G
 replace C := C.trans TT
 clear TT G
 have W5 := Row.nil lnkE 54 w.heap.size F [abk none, abk none, one b2, one b1, one T] w3
 have TT : Tr [abk none, one b2, one b1, one T] w3 [abk none, abk none, one b2, one b1, one T] w3 := (Tr.refl C.ms).cons (b := abk none) (fun k e => absurd e abk_none); have G : Ch (In []) w3 w3 := Ch.refl _
 replace T_w := Enc.tr (slE intE) T_w TT
 replace T_K := TpB.tr0 T_K G
 replace K1 := Blk.tr0 K1 G
 replace K2 := Blk.tr0 K2 G
 replace W4 := Row.tr0 W4 TT G
 replace C := C.trans TT
 clear TT G
 refine wp_loop_ghost (fun m a wr => ∃ i : Nat, ∃ ds_a : Option Addr, ∃ ds_c : Nat, ∃ ds : List Dev, ∃ ls_a : Option Addr, ∃ ls_c : Nat, ∃ ls : List Lnk, Slots 154 [(0, pT T 0), (1, iN nn), (4, pT b1 0), (5, pT b2 0), (6, iN i)] a ∧ Tr [abk none, abk none, one b2, one b1, one T] w3 [abk ds_a, abk ls_a, one b2, one b1, one T] wr ∧ (i ≤ nn ∧ ds.length = i ∧ (∀ j, j < i → okDev j (ds.getD j devE.dflt)) ∧ ls.length ≤ i ∧ ∀ l ∈ ls, lnkV nn l) ∧ TpB 62 T T_l wr ∧ Blk wr.heap b1 [.slice none 0 0, .slice none 0 0, .slice none 0 0, .slice none 0 0, iI 0] 28 ∧ Blk wr.heap b2 [.slice ds_a ds.length ds_c, .slice ls_a ls.length ls_c, .slice none 0 0, .slice none 0 0, iI 0] 28 ∧ Row devE 65 w.heap.size F [abk ds_a, abk ls_a, one b2, one b1, one T] wr ds_a ds_c ds ∧ Row lnkE 54 w.heap.size F [abk ds_a, abk ls_a, one b2, one b1, one T] wr ls_a ls_c ls ∧ (nn - i) = m) (nn - 0) ?_ ?_
 ·refine ⟨0, none, 0, [], none, 0, [], S.sub ⟨rfl, rfl, rfl, rfl, rfl, trivial⟩, Tr.refl C.ms, ?_, T_K, K1, K2, W4, W5, rfl⟩
  exact ⟨Nat.zero_le _, rfl, fun j h => absurd h (Nat.not_lt_zero _), Nat.zero_le _, fun l h => by simp at h⟩
 rintro m a w4 ⟨i, ds_a, ds_c, ds, ls_a, ls_c, ls, S, G, hR, T_K', K1', K2', W4', W5', rfl⟩
 clear T_K; have T_K := T_K'; clear T_K'
 clear K1; have K1 := K1'; clear K1'
 clear K2; have K2 := K2'; clear K2'
 clear W4; have W4 := W4'; clear W4'
 clear W5; have W5 := W5'; clear W5'
 replace T_w := Enc.tr (slE intE) T_w G
 replace C := C.trans G
 have GL0 := G; clear G
 have ds_len := W4.len_le; simp only [maxLen] at ds_len
 have ls_len := W5.len_le; simp only [maxLen] at ls_len
 obtain ⟨hi, hdl, hd, hll, hl⟩ := hR
 refine wp_seq ?_
 refine qs ?_
 refine qm S rfl ?_; clear S a; intro a S
 refine qm S rfl ?_; clear S a; intro a S
 refine qv S (bD (((i : Nat) : Int) < ((nn : Nat) : Int))) (x_lss (S.e rfl) (S.e rfl)) ?_; clear S a; intro a S
 refine qt ?_
 refine cond_dec S rfl ?_ ?_
 ·intro hc0
  refine wp_skip ?_
  refine then_n ?_
  refine wp_seq ?_
  refine wp_block ?_
  refine wp_seq ?_
  replace S := S.sub (L' := [(0, pT T 0), (1, iN nn), (4, pT b1 0), (5, pT b2 0), (6, iN i), (17, iN i), (18, iN nn), (19, bD (((i : Nat) : Int) < ((nn : Nat) : Int)))]) ⟨rfl, rfl, rfl, rfl, rfl, rfl, rfl, rfl, trivial⟩
  refine wp_heads (M := In [one T]) S 11 [(22, ⟨fun u w => ∃ (x22a : Nat), u = .slice (some ⟨x22a, 0, none⟩) 6 6 ∧ (slE strE).wf (Fr F [abk ds_a, abk ls_a, one b2, one b1, one T]) w.heap (Sl.mk (some ⟨x22a, 0, none⟩) 6 ([⟨#[114, 49]⟩, ⟨#[114, 50]⟩, ⟨#[114, 51]⟩, ⟨#[114, 52]⟩, ⟨#[114, 53]⟩, ⟨#[114, 54]⟩] : List ByteArray)), fun v w w' c h => let ⟨x22a, hv, h0⟩ := h; ⟨x22a, hv, Enc.kp (slE strE) h0 c (by intro o h; simp at h ⊢; first | exact .inl h | simp [h])⟩⟩), (23, isV (In [one T]) (iN i)), (24, ⟨fun u w => ∃ (x22a : Nat), u = pT (blk (some ⟨x22a, 0, none⟩)) (off (some ⟨x22a, 0, none⟩) + i * 1) ∧ (slE strE).wf (Fr F [abk ds_a, abk ls_a, one b2, one b1, one T]) w.heap (Sl.mk (some ⟨x22a, 0, none⟩) 6 ([⟨#[114, 49]⟩, ⟨#[114, 50]⟩, ⟨#[114, 51]⟩, ⟨#[114, 52]⟩, ⟨#[114, 53]⟩, ⟨#[114, 54]⟩] : List ByteArray)), fun v w w' c h => let ⟨x22a, hv, h0⟩ := h; ⟨x22a, hv, Enc.kp (slE strE) h0 c (by intro o h; simp at h ⊢; first | exact .inl h | simp [h])⟩⟩), (25, ⟨fun u w => ∃ (x22a : Nat), u = .string (([⟨#[114, 49]⟩, ⟨#[114, 50]⟩, ⟨#[114, 51]⟩, ⟨#[114, 52]⟩, ⟨#[114, 53]⟩, ⟨#[114, 54]⟩] : List ByteArray).getD i strE.dflt) ∧ (slE strE).wf (Fr F [abk ds_a, abk ls_a, one b2, one b1, one T]) w.heap (Sl.mk (some ⟨x22a, 0, none⟩) 6 ([⟨#[114, 49]⟩, ⟨#[114, 50]⟩, ⟨#[114, 51]⟩, ⟨#[114, 52]⟩, ⟨#[114, 53]⟩, ⟨#[114, 54]⟩] : List ByteArray)), fun v w w' c h => let ⟨x22a, hv, h0⟩ := h; ⟨x22a, hv, Enc.kp (slE strE) h0 c (by intro o h; simp at h ⊢; first | exact .inl h | simp [h])⟩⟩), (26, ⟨fun u w => ∃ (x26a : Nat), u = .slice (some ⟨x26a, 0, none⟩) 6 6 ∧ (slE intE).wf (Fr F [abk ds_a, abk ls_a, one b2, one b1, one T]) w.heap (Sl.mk (some ⟨x26a, 0, none⟩) 6 ([4096, 400, 60, 20, 5, 0])), fun v w w' c h => let ⟨x26a, hv, h0⟩ := h; ⟨x26a, hv, Enc.kp (slE intE) h0 c (by intro o h; simp at h ⊢; first | exact .inl h | simp [h])⟩⟩), (27, isV (In [one T]) (pT T 0)), (28, ⟨fun u w => ∃ (x28a : Int), u = iI x28a ∧ (0 ≤ x28a ∧ (x28a < 6 ∨ x28a = 0)), fun v w w' c h => let ⟨x28a, hv, h0⟩ := h; ⟨x28a, hv, h0⟩⟩), (29, ⟨fun u w => ∃ (x26a : Nat) (x28b : Int), u = pT (blk (some ⟨x26a, 0, none⟩)) (off (some ⟨x26a, 0, none⟩) + (x28b).toNat * 1) ∧ (slE intE).wf (Fr F [abk ds_a, abk ls_a, one b2, one b1, one T]) w.heap (Sl.mk (some ⟨x26a, 0, none⟩) 6 ([4096, 400, 60, 20, 5, 0])) ∧ (0 ≤ x28b ∧ (x28b < 6 ∨ x28b = 0)), fun v w w' c h => let ⟨x26a, x28b, hv, h0, h1⟩ := h; ⟨x26a, x28b, hv, Enc.kp (slE intE) h0 c (by intro o h; simp at h ⊢; first | exact .inl h | simp [h]), h1⟩⟩), (30, ⟨fun u w => ∃ (x26a : Nat) (x28b : Int), u = iI (([4096, 400, 60, 20, 5, 0]).getD ((x28b).toNat) intE.dflt) ∧ (slE intE).wf (Fr F [abk ds_a, abk ls_a, one b2, one b1, one T]) w.heap (Sl.mk (some ⟨x26a, 0, none⟩) 6 ([4096, 400, 60, 20, 5, 0])) ∧ (0 ≤ x28b ∧ (x28b < 6 ∨ x28b = 0)), fun v w w' c h => let ⟨x26a, x28b, hv, h0, h1⟩ := h; ⟨x26a, x28b, hv, Enc.kp (slE intE) h0 c (by intro o h; simp at h ⊢; first | exact .inl h | simp [h]), h1⟩⟩), (31, ⟨fun u w => ∃ (x22a : Nat) (x26b : Nat) (x28c : Int), u = .agg #[.string (([⟨#[114, 49]⟩, ⟨#[114, 50]⟩, ⟨#[114, 51]⟩, ⟨#[114, 52]⟩, ⟨#[114, 53]⟩, ⟨#[114, 54]⟩] : List ByteArray).getD i strE.dflt), iI (([4096, 400, 60, 20, 5, 0]).getD ((x28c).toNat) intE.dflt), .bool false, .bool false, .string (⟨#[]⟩)] ∧ (slE strE).wf (Fr F [abk ds_a, abk ls_a, one b2, one b1, one T]) w.heap (Sl.mk (some ⟨x22a, 0, none⟩) 6 ([⟨#[114, 49]⟩, ⟨#[114, 50]⟩, ⟨#[114, 51]⟩, ⟨#[114, 52]⟩, ⟨#[114, 53]⟩, ⟨#[114, 54]⟩] : List ByteArray)) ∧ (slE intE).wf (Fr F [abk ds_a, abk ls_a, one b2, one b1, one T]) w.heap (Sl.mk (some ⟨x26b, 0, none⟩) 6 ([4096, 400, 60, 20, 5, 0])) ∧ (0 ≤ x28c ∧ (x28c < 6 ∨ x28c = 0)), fun v w w' c h => let ⟨x22a, x26b, x28c, hv, h0, h1, h2⟩ := h; ⟨x22a, x26b, x28c, hv, Enc.kp (slE strE) h0 c (by intro o h; simp at h ⊢; first | exact .inl h | simp [h]), Enc.kp (slE intE) h1 c (by intro o h; simp at h ⊢; first | exact .inl h | simp [h]), h2⟩⟩), (7, ⟨fun u w => ∃ (x7a : Nat), u = pT x7a 0 ∧ (Blk w.heap x7a [.string (⟨#[]⟩), iI 0, .bool false, .bool false, .string (⟨#[]⟩)] 65 ∧ w4.heap.size ≤ x7a ∧ ¬ In [one T] x7a), fun v w w' c h => let ⟨x7a, hv, h0⟩ := h; ⟨x7a, hv, ⟨Blk.tr h0.1 c h0.2.2, h0.2⟩⟩⟩)] (fun w => TpB 62 T T_l w) [[], [], [22, 23], [24], [], [], [27], [26, 28], [29], [25, 30], []] [31, 7] _ rfl mixed (by kernel_rfl) rfl T_K ?_ ?_
  ·refine ⟨?_, ?_, ?_, ?_, ?_, ?_, ?_, ?_, ?_, ?_, ?_, trivial⟩
   ·intro a w5 G I S hE
    have TT := Tr.och C.ms G
    replace T_K := I
    replace C := C.trans TT
    refine head_op rfl rfl (op_val (v := .slice (some ⟨_, 0, none⟩) 6 6) (x_bsl [(0, .string (⟨#[114, 49]⟩)), (1, .string (⟨#[114, 50]⟩)), (2, .string (⟨#[114, 51]⟩)), (3, .string (⟨#[114, 52]⟩)), (4, .string (⟨#[114, 53]⟩)), (5, .string (⟨#[114, 54]⟩))] [.string (⟨#[114, 49]⟩), .string (⟨#[114, 50]⟩), .string (⟨#[114, 51]⟩), .string (⟨#[114, 52]⟩), .string (⟨#[114, 53]⟩), .string (⟨#[114, 54]⟩)] Try.underlying63 infoz_9 (by decide) (by decide) (by simp only [List.map_cons, List.map_nil, show a.eval (.const (.string (⟨#[114, 49]⟩))) = .string (⟨#[114, 49]⟩) from (S.e rfl), show a.eval (.const (.string (⟨#[114, 50]⟩))) = .string (⟨#[114, 50]⟩) from (S.e rfl), show a.eval (.const (.string (⟨#[114, 51]⟩))) = .string (⟨#[114, 51]⟩) from (S.e rfl), show a.eval (.const (.string (⟨#[114, 52]⟩))) = .string (⟨#[114, 52]⟩) from (S.e rfl), show a.eval (.const (.string (⟨#[114, 53]⟩))) = .string (⟨#[114, 53]⟩) from (S.e rfl), show a.eval (.const (.string (⟨#[114, 54]⟩))) = .string (⟨#[114, 54]⟩) from (S.e rfl)]) (by kernel_rfl)) ?_)
    refine Done.mk' rfl (by decide) (show ∃ _, _ from ⟨_, rfl, sl_of_blk (Blk.new _ [.string (⟨#[114, 49]⟩), .string (⟨#[114, 50]⟩), .string (⟨#[114, 51]⟩), .string (⟨#[114, 52]⟩), .string (⟨#[114, 53]⟩), .string (⟨#[114, 54]⟩)] 9) ([⟨#[114, 49]⟩, ⟨#[114, 50]⟩, ⟨#[114, 51]⟩, ⟨#[114, 52]⟩, ⟨#[114, 53]⟩, ⟨#[114, 54]⟩] : List ByteArray) 6 rfl (by decide) (by decide) rfl (fr_fresh C hF rfl) ?_⟩) ((ch_alloc _ _).mono (fun k hk => by simp [In] at hk)) (TpB.tr0 I (ch_alloc _ _))
    intro x hx; simp only [List.mem_cons, List.not_mem_nil, or_false] at hx; rcases hx with rfl | rfl | rfl | rfl | rfl | rfl <;> first | exact Enc.tr (strE) (show strE.wf (Fr F [abk ds_a, abk ls_a, one b2, one b1, one T]) _ (⟨#[114, 49]⟩) from (by show _ ≤ maxLen; unfold maxLen; decide)) (Tr.of_ch0 C.ms (ch_alloc _ _)) | exact Enc.tr (strE) (show strE.wf (Fr F [abk ds_a, abk ls_a, one b2, one b1, one T]) _ (⟨#[114, 50]⟩) from (by show _ ≤ maxLen; unfold maxLen; decide)) (Tr.of_ch0 C.ms (ch_alloc _ _)) | exact Enc.tr (strE) (show strE.wf (Fr F [abk ds_a, abk ls_a, one b2, one b1, one T]) _ (⟨#[114, 51]⟩) from (by show _ ≤ maxLen; unfold maxLen; decide)) (Tr.of_ch0 C.ms (ch_alloc _ _)) | exact Enc.tr (strE) (show strE.wf (Fr F [abk ds_a, abk ls_a, one b2, one b1, one T]) _ (⟨#[114, 52]⟩) from (by show _ ≤ maxLen; unfold maxLen; decide)) (Tr.of_ch0 C.ms (ch_alloc _ _)) | exact Enc.tr (strE) (show strE.wf (Fr F [abk ds_a, abk ls_a, one b2, one b1, one T]) _ (⟨#[114, 53]⟩) from (by show _ ≤ maxLen; unfold maxLen; decide)) (Tr.of_ch0 C.ms (ch_alloc _ _)) | exact Enc.tr (strE) (show strE.wf (Fr F [abk ds_a, abk ls_a, one b2, one b1, one T]) _ (⟨#[114, 54]⟩) from (by show _ ≤ maxLen; unfold maxLen; decide)) (Tr.of_ch0 C.ms (ch_alloc _ _))
   ·intro a w6 G I S hE
    have TT := Tr.och C.ms G
    replace T_K := I
    replace C := C.trans TT
    exact qo (iN i) (x_move (S.e rfl)) I
   ·intro a w7 G I S hE
    have TT := Tr.och C.ms G
    replace T_K := I
    replace C := C.trans TT
    obtain ⟨e22, e23, _⟩ := hE
    obtain ⟨x22_6, e22, X6⟩ := e22
    replace S := S.ext e22
    replace S := S.ext e23
    exact head_op rfl rfl (op_val (v := pT (blk (some ⟨x22_6, 0, none⟩)) (off (some ⟨x22_6, 0, none⟩) + i * 1)) (x_idx Try.underlying63 (by kernel_rfl) (S.e rfl) (S.e rfl) i rfl (by first | omega | (simp only [List.length_cons, List.length_nil]; omega)) ((show LAt strE _ _ (some ⟨x22_6, 0, none⟩) ([⟨#[114, 49]⟩, ⟨#[114, 50]⟩, ⟨#[114, 51]⟩, ⟨#[114, 52]⟩, ⟨#[114, 53]⟩, ⟨#[114, 54]⟩] : List ByteArray) from (X6).1).adr (i := i) (by first | omega | (simp only [List.length_cons, List.length_nil]; omega)))) (Done.same rfl (by decide) (show ∃ _, _ from ⟨x22_6, rfl, X6⟩) I))
   ·intro a w8 G I S hE
    have TT := Tr.och C.ms G
    replace T_K := I
    replace C := C.trans TT
    obtain ⟨e24, _⟩ := hE
    obtain ⟨x22_7, e24, X7⟩ := e24
    replace S := S.ext e24
    exact head_op rfl rfl (op_val (v := .string (([⟨#[114, 49]⟩, ⟨#[114, 50]⟩, ⟨#[114, 51]⟩, ⟨#[114, 52]⟩, ⟨#[114, 53]⟩, ⟨#[114, 54]⟩] : List ByteArray).getD i strE.dflt)) (x_load ⟨_, Try.underlying9, rfl⟩ (S.e rfl) ((show LAt strE _ _ (some ⟨x22_7, 0, none⟩) ([⟨#[114, 49]⟩, ⟨#[114, 50]⟩, ⟨#[114, 51]⟩, ⟨#[114, 52]⟩, ⟨#[114, 53]⟩, ⟨#[114, 54]⟩] : List ByteArray) from (X7).1).cell i (by first | omega | (simp only [List.length_cons, List.length_nil]; omega)) 0 _ rfl)) (Done.same rfl (by decide) (show ∃ _, _ from ⟨x22_7, rfl, X7⟩) I))
   ·intro a w9 G I S hE
    have TT := Tr.och C.ms G
    replace T_K := I
    replace C := C.trans TT
    refine head_op rfl rfl (op_val (v := .slice (some ⟨_, 0, none⟩) 6 6) (x_bsl [(0, iI 4096), (1, iI 400), (2, iI 60), (3, iI 20), (4, iI 5), (5, iI 0)] [iI 4096, iI 400, iI 60, iI 20, iI 5, iI 0] Try.underlying22 infoz_3 (by decide) (by decide) (by simp only [List.map_cons, List.map_nil, show a.eval (.const (iI 4096)) = iI 4096 from (S.e rfl), show a.eval (.const (iI 400)) = iI 400 from (S.e rfl), show a.eval (.const (iI 60)) = iI 60 from (S.e rfl), show a.eval (.const (iI 20)) = iI 20 from (S.e rfl), show a.eval (.const (iI 5)) = iI 5 from (S.e rfl), show a.eval (.const (iI 0)) = iI 0 from (S.e rfl)]) (by kernel_rfl)) ?_)
    refine Done.mk' rfl (by decide) (show ∃ _, _ from ⟨_, rfl, sl_of_blk (Blk.new _ [iI 4096, iI 400, iI 60, iI 20, iI 5, iI 0] 3) [4096, 400, 60, 20, 5, 0] 6 rfl (by decide) (by decide) rfl (fr_fresh C hF rfl) ?_⟩) ((ch_alloc _ _).mono (fun k hk => by simp [In] at hk)) (TpB.tr0 I (ch_alloc _ _))
    intro x hx; simp only [List.mem_cons, List.not_mem_nil, or_false] at hx; rcases hx with rfl | rfl | rfl | rfl | rfl | rfl <;> first | exact Enc.tr (intE) (show intE.wf (Fr F [abk ds_a, abk ls_a, one b2, one b1, one T]) _ 4096 from (show inI64 4096 from ⟨by omega, by omega⟩)) (Tr.of_ch0 C.ms (ch_alloc _ _)) | exact Enc.tr (intE) (show intE.wf (Fr F [abk ds_a, abk ls_a, one b2, one b1, one T]) _ 400 from (show inI64 400 from ⟨by omega, by omega⟩)) (Tr.of_ch0 C.ms (ch_alloc _ _)) | exact Enc.tr (intE) (show intE.wf (Fr F [abk ds_a, abk ls_a, one b2, one b1, one T]) _ 60 from (show inI64 60 from ⟨by omega, by omega⟩)) (Tr.of_ch0 C.ms (ch_alloc _ _)) | exact Enc.tr (intE) (show intE.wf (Fr F [abk ds_a, abk ls_a, one b2, one b1, one T]) _ 20 from (show inI64 20 from ⟨by omega, by omega⟩)) (Tr.of_ch0 C.ms (ch_alloc _ _)) | exact Enc.tr (intE) (show intE.wf (Fr F [abk ds_a, abk ls_a, one b2, one b1, one T]) _ 5 from (show inI64 5 from ⟨by omega, by omega⟩)) (Tr.of_ch0 C.ms (ch_alloc _ _)) | exact Enc.tr (intE) (show intE.wf (Fr F [abk ds_a, abk ls_a, one b2, one b1, one T]) _ 0 from (show inI64 0 from ⟨by omega, by omega⟩)) (Tr.of_ch0 C.ms (ch_alloc _ _))
   ·intro a w10 G I S hE
    have TT := Tr.och C.ms G
    replace T_w := Enc.tr (slE intE) T_w TT
    replace T_K := I
    replace C := C.trans TT
    exact qo (pT T 0) (x_move (S.e rfl)) I
   ·intro a w11 G I S hE
    have TT := Tr.och C.ms G
    replace T_w := Enc.tr (slE intE) T_w TT
    replace T_K := I
    replace C := C.trans TT
    obtain ⟨e27, _⟩ := hE
    replace S := S.ext e27
    refine head_op rfl rfl (op_call (vs := #[pT T 0, iI 6]) (by simp only [List.map_toArray, List.map_cons, List.map_nil, show a.eval (.tmp 27) = pT T 0 from (S.e rfl), show a.eval (.const (iI 6)) = iI 6 from (S.e rfl)]) callable_23 (gNext _ (Ex F _) (C.old hF) T (C.ms.picks [4] (by decide)) T_l ((slE intE).dn T_w) T_K 6 ⟨by omega, by omega⟩) ?_)
    rintro e w2 ⟨r_h28, rfl, hr_h28, tK0, T0⟩; refine ⟨_, rfl, Done.mk' rfl (by decide) (show ∃ _, _ from ?_) T0.ch tK0⟩
    exact ⟨r_h28, rfl, hr_h28⟩
   ·intro a w12 G I S hE
    have TT := Tr.och C.ms G
    replace T_K := I
    replace C := C.trans TT
    obtain ⟨e26, e28, _⟩ := hE
    obtain ⟨x26_8, e26, X8⟩ := e26
    replace S := S.ext e26
    obtain ⟨x28_9, e28, hr9⟩ := e28
    replace S := S.ext e28
    exact head_op rfl rfl (op_val (v := pT (blk (some ⟨x26_8, 0, none⟩)) (off (some ⟨x26_8, 0, none⟩) + (x28_9).toNat * 1)) (x_idx Try.underlying22 (by kernel_rfl) (S.e rfl) (S.e rfl) (x28_9).toNat (by omega) (by first | omega | (simp only [List.length_cons, List.length_nil]; omega)) ((show LAt intE _ _ (some ⟨x26_8, 0, none⟩) ([4096, 400, 60, 20, 5, 0]) from (X8).1).adr (i := (x28_9).toNat) (by first | omega | (simp only [List.length_cons, List.length_nil]; omega)))) (Done.same rfl (by decide) (show ∃ _, _ from ⟨x26_8, x28_9, rfl, X8, hr9⟩) I))
   ·intro a w13 G I S hE
    have TT := Tr.och C.ms G
    replace T_K := I
    replace C := C.trans TT
    obtain ⟨e29, _⟩ := hE
    obtain ⟨x26_10, x28_11, e29, X10, hr11⟩ := e29
    replace S := S.ext e29
    obtain ⟨hl12, hu12⟩ : inI64 (([4096, 400, 60, 20, 5, 0]).getD ((x28_11).toNat) intE.dflt) := id ((show LAt intE _ _ (some ⟨x26_10, 0, none⟩) ([4096, 400, 60, 20, 5, 0]) from (X10).1).wf (x28_11).toNat (by first | omega | (simp only [List.length_cons, List.length_nil]; omega)))
    exact head_op rfl rfl (op_val (v := iI (([4096, 400, 60, 20, 5, 0]).getD ((x28_11).toNat) intE.dflt)) (x_load ⟨_, Try.underlying3, rfl⟩ (S.e rfl) ((show LAt intE _ _ (some ⟨x26_10, 0, none⟩) ([4096, 400, 60, 20, 5, 0]) from (X10).1).cell (x28_11).toNat (by first | omega | (simp only [List.length_cons, List.length_nil]; omega)) 0 _ rfl)) (Done.same rfl (by decide) (show ∃ _, _ from ⟨x26_10, x28_11, rfl, X10, hr11⟩) I))
   ·intro a w14 G I S hE
    have TT := Tr.och C.ms G
    replace T_K := I
    replace C := C.trans TT
    obtain ⟨e25, e30, _⟩ := hE
    obtain ⟨x22_13, e25, X13⟩ := e25
    replace S := S.ext e25
    obtain ⟨x26_14, x28_15, e30, X14, hr15⟩ := e30
    replace S := S.ext e30
    exact head_op rfl rfl (op_val (v := .agg #[.string (([⟨#[114, 49]⟩, ⟨#[114, 50]⟩, ⟨#[114, 51]⟩, ⟨#[114, 52]⟩, ⟨#[114, 53]⟩, ⟨#[114, 54]⟩] : List ByteArray).getD i strE.dflt), iI (([4096, 400, 60, 20, 5, 0]).getD ((x28_15).toNat) intE.dflt), .bool false, .bool false, .string (⟨#[]⟩)]) (x_build [(0, .string (([⟨#[114, 49]⟩, ⟨#[114, 50]⟩, ⟨#[114, 51]⟩, ⟨#[114, 52]⟩, ⟨#[114, 53]⟩, ⟨#[114, 54]⟩] : List ByteArray).getD i strE.dflt)), (1, iI (([4096, 400, 60, 20, 5, 0]).getD ((x28_15).toNat) intE.dflt))] [.string (([⟨#[114, 49]⟩, ⟨#[114, 50]⟩, ⟨#[114, 51]⟩, ⟨#[114, 52]⟩, ⟨#[114, 53]⟩, ⟨#[114, 54]⟩] : List ByteArray).getD i strE.dflt), iI (([4096, 400, 60, 20, 5, 0]).getD ((x28_15).toNat) intE.dflt), .bool false, .bool false, .string (⟨#[]⟩)] (by simp only [List.map_cons, List.map_nil, show a.eval (.tmp 25) = .string (([⟨#[114, 49]⟩, ⟨#[114, 50]⟩, ⟨#[114, 51]⟩, ⟨#[114, 52]⟩, ⟨#[114, 53]⟩, ⟨#[114, 54]⟩] : List ByteArray).getD i strE.dflt) from (S.e rfl), show a.eval (.tmp 30) = iI (([4096, 400, 60, 20, 5, 0]).getD ((x28_15).toNat) intE.dflt) from (S.e rfl)]) (by kernel_rfl)) (Done.same rfl (by decide) (show ∃ _, _ from ⟨x22_13, x26_14, x28_15, rfl, X13, X14, hr15⟩) I))
   intro a w15 G I S hE
   have TT := Tr.och C.ms G
   replace T_K := I
   replace C := C.trans TT
   exact head_op rfl rfl (op_val (v := .pointer (some ⟨_, 0, none⟩)) (x_allocz [.string (⟨#[]⟩), iI 0, .bool false, .bool false, .string (⟨#[]⟩)] infoz_65 rfl) (Done.mk' rfl (by decide) (show ∃ _, _ from ⟨_, rfl, Blk.new _ [.string (⟨#[]⟩), iI 0, .bool false, .bool false, .string (⟨#[]⟩)] 65, G.size, fun h => absurd (C.ms.lt _ (in_sub (by intro o h; simp at h ⊢; first | exact .inl h | simp [h]) h)) (Nat.lt_irrefl _)⟩) ((ch_alloc _ _).mono (fun k hk => by simp [In] at hk)) (TpB.tr0 I (ch_alloc _ _))))
  clear S a; intro a w16 G I S hE; have TT := Tr.och C.ms G
  obtain ⟨e31, e7, -⟩ := hE
  obtain ⟨x7_16, e7, X16⟩ := e7
  replace S := S.ext e7
  replace TT : Tr [abk ds_a, abk ls_a, one b2, one b1, one T] w4 [one x7_16, abk ds_a, abk ls_a, one b2, one b1, one T] w16 := TT.cons (b := one x7_16) (fun k e => by obtain rfl : k = x7_16 := e; exact ⟨X16.2.1, X16.1.lt, fun h => absurd (C.ms.lt _ h) (Nat.not_lt.2 X16.2.1)⟩)
  replace T_w := Enc.tr (slE intE) T_w TT
  replace K1 := Blk.tr K1 G (C.ms.sep.out 3 [4] rfl rfl rfl)
  replace K2 := Blk.tr K2 G (C.ms.sep.out 2 [4] rfl rfl rfl)
  replace W4 := Row.tr W4 TT G (fun k e => C.ms.sep.out 0 [4] rfl rfl e)
  replace W5 := Row.tr W5 TT G (fun k e => C.ms.sep.out 1 [4] rfl rfl e)
  replace GL0 := GL0.trans TT
  replace C := C.trans TT
  replace X16 := X16.1
  replace T_K := I
  clear TT G
  obtain ⟨x22_17, x26_18, x28_19, e31, X17, X18, hr19⟩ := e31
  replace S := S.ext e31
  obtain ⟨hl20, hu20⟩ : inI64 (([4096, 400, 60, 20, 5, 0]).getD ((x28_19).toNat) intE.dflt) := id ((show LAt intE _ _ (some ⟨x26_18, 0, none⟩) ([4096, 400, 60, 20, 5, 0]) from (X18).1).wf (x28_19).toNat (by first | omega | (simp only [List.length_cons, List.length_nil]; omega)))
  clear e31 e7
  refine seq_storew S rfl rfl (vs := [.string (([⟨#[114, 49]⟩, ⟨#[114, 50]⟩, ⟨#[114, 51]⟩, ⟨#[114, 52]⟩, ⟨#[114, 53]⟩, ⟨#[114, 54]⟩] : List ByteArray).getD i strE.dflt), iI (([4096, 400, 60, 20, 5, 0]).getD ((x28_19).toNat) intE.dflt), .bool false, .bool false, .string (⟨#[]⟩)]) (x_storew (by kernel_rfl) (S.e rfl) (S.e rfl) rfl X16 rfl) X16 ?_
  clear S a; intro a w17 G hz K S; clear hz; have TT := Tr.och C.ms G
  replace T_w := Enc.tr (slE intE) T_w TT
  replace T_K := TpB.tr T_K G (C.ms.sep.out 5 [0] rfl rfl rfl)
  replace K1 := Blk.tr K1 G (C.ms.sep.out 4 [0] rfl rfl rfl)
  replace K2 := Blk.tr K2 G (C.ms.sep.out 3 [0] rfl rfl rfl)
  replace W4 := Row.tr W4 TT G (fun k e => C.ms.sep.out 1 [0] rfl rfl e)
  replace W5 := Row.tr W5 TT G (fun k e => C.ms.sep.out 2 [0] rfl rfl e)
  replace GL0 := GL0.trans TT
  replace C := C.trans TT
  clear X16; have X16 := K; clear K TT G
  refine qt ?_
  refine qs ?_
  refine qm S rfl ?_; clear S a; intro a S
  refine seq_call S (by decide) (vs := #[pT T 0, iI 3]) rfl callable_23 (gNext _ (Ex F _) (C.old hF) T (C.ms.picks [5] (by decide)) T_l ((slE intE).dn T_w) T_K 3 ⟨by omega, by omega⟩) ?_
  rintro e w18 ⟨r_21, rfl, hr_21, tT_K, T0⟩; refine ⟨_, rfl, ?_⟩; clear S a; intro a S
  have TT := Tr.fra C.ms T0; have G := T0.ch
  replace T_w := Enc.tr (slE intE) T_w TT
  replace K1 := Blk.tr K1 G (C.ms.sep.out 4 [5] rfl rfl rfl)
  replace K2 := Blk.tr K2 G (C.ms.sep.out 3 [5] rfl rfl rfl)
  replace W4 := Row.tr W4 TT G (fun k e => C.ms.sep.out 1 [5] rfl rfl e)
  replace W5 := Row.tr W5 TT G (fun k e => C.ms.sep.out 2 [5] rfl rfl e)
  replace X16 := Blk.tr X16 G (C.ms.sep.out 0 [5] rfl rfl rfl)
  replace GL0 := GL0.trans TT
  replace C := C.trans TT
  clear T_K; have T_K := tT_K; clear tT_K
  clear T0 G TT
  refine qv S (bD (r_21 = 1)) (x_eql (S.e rfl) (S.e rfl)) ?_; clear S a; intro a S
  refine qm S rfl ?_; clear S a; intro a S
  refine seq_call S (by decide) (vs := #[pT T 0, iI 3]) rfl callable_23 (gNext _ (Ex F _) (C.old hF) T (C.ms.picks [5] (by decide)) T_l ((slE intE).dn T_w) T_K 3 ⟨by omega, by omega⟩) ?_
  rintro e w19 ⟨r_22, rfl, hr_22, tT_K, T0⟩; refine ⟨_, rfl, ?_⟩; clear S a; intro a S
  have TT := Tr.fra C.ms T0; have G := T0.ch
  replace T_w := Enc.tr (slE intE) T_w TT
  replace K1 := Blk.tr K1 G (C.ms.sep.out 4 [5] rfl rfl rfl)
  replace K2 := Blk.tr K2 G (C.ms.sep.out 3 [5] rfl rfl rfl)
  replace W4 := Row.tr W4 TT G (fun k e => C.ms.sep.out 1 [5] rfl rfl e)
  replace W5 := Row.tr W5 TT G (fun k e => C.ms.sep.out 2 [5] rfl rfl e)
  replace X16 := Blk.tr X16 G (C.ms.sep.out 0 [5] rfl rfl rfl)
  replace GL0 := GL0.trans TT
  replace C := C.trans TT
  clear T_K; have T_K := tT_K; clear tT_K
  clear T0 G TT
  refine qv S (bD (r_22 = 1)) (x_eql (S.e rfl) (S.e rfl)) ?_; clear S a; intro a S
  refine qv S (pT x7_16 (0 + 2)) (x_fld (z := 0) (0) 2 Try.underlying65 rfl rfl (by kernel_rfl) (S.e rfl)) ?_; clear S a; intro a S
  obtain ⟨bv23, hbv23⟩ : ∃ b : Bool, (b = true) ↔ (r_21 = 1) := ⟨decide (r_21 = 1), by simp⟩
  replace S := S.ext (d := 34) (v := bD (bv23 = true)) ((S.get 34 _ rfl).trans (vb hbv23.symm))
  refine seq_store S rfl rfl [.string (([⟨#[114, 49]⟩, ⟨#[114, 50]⟩, ⟨#[114, 51]⟩, ⟨#[114, 52]⟩, ⟨#[114, 53]⟩, ⟨#[114, 54]⟩] : List ByteArray).getD i strE.dflt), iI (([4096, 400, 60, 20, 5, 0]).getD ((x28_19).toNat) intE.dflt), bD (bv23 = true), .bool false, .string (⟨#[]⟩)] (x_store (by kernel_rfl) (S.e rfl) (S.e rfl) rfl X16 (o := 0 + 2) (u := .bool false) rfl) X16 rfl ?_
  clear S a; intro a w20 G hz K S; clear hz; have TT := Tr.och C.ms G
  replace T_w := Enc.tr (slE intE) T_w TT
  replace T_K := TpB.tr T_K G (C.ms.sep.out 5 [0] rfl rfl rfl)
  replace K1 := Blk.tr K1 G (C.ms.sep.out 4 [0] rfl rfl rfl)
  replace K2 := Blk.tr K2 G (C.ms.sep.out 3 [0] rfl rfl rfl)
  replace W4 := Row.tr W4 TT G (fun k e => C.ms.sep.out 1 [0] rfl rfl e)
  replace W5 := Row.tr W5 TT G (fun k e => C.ms.sep.out 2 [0] rfl rfl e)
  replace GL0 := GL0.trans TT
  replace C := C.trans TT
  clear X16; have X16 := K; clear K TT G
  refine qv S (pT x7_16 (0 + 3)) (x_fld (z := 0) (0) 3 Try.underlying65 rfl rfl (by kernel_rfl) (S.e rfl)) ?_; clear S a; intro a S
  obtain ⟨bv24, hbv24⟩ : ∃ b : Bool, (b = true) ↔ (r_22 = 1) := ⟨decide (r_22 = 1), by simp⟩
  replace S := S.ext (d := 37) (v := bD (bv24 = true)) ((S.get 37 _ rfl).trans (vb hbv24.symm))
  refine seq_store S rfl rfl [.string (([⟨#[114, 49]⟩, ⟨#[114, 50]⟩, ⟨#[114, 51]⟩, ⟨#[114, 52]⟩, ⟨#[114, 53]⟩, ⟨#[114, 54]⟩] : List ByteArray).getD i strE.dflt), iI (([4096, 400, 60, 20, 5, 0]).getD ((x28_19).toNat) intE.dflt), bD (bv23 = true), bD (bv24 = true), .string (⟨#[]⟩)] (x_store (by kernel_rfl) (S.e rfl) (S.e rfl) rfl X16 (o := 0 + 3) (u := .bool false) rfl) X16 rfl ?_
  clear S a; intro a w21 G hz K S; clear hz; have TT := Tr.och C.ms G
  replace T_w := Enc.tr (slE intE) T_w TT
  replace T_K := TpB.tr T_K G (C.ms.sep.out 5 [0] rfl rfl rfl)
  replace K1 := Blk.tr K1 G (C.ms.sep.out 4 [0] rfl rfl rfl)
  replace K2 := Blk.tr K2 G (C.ms.sep.out 3 [0] rfl rfl rfl)
  replace W4 := Row.tr W4 TT G (fun k e => C.ms.sep.out 1 [0] rfl rfl e)
  replace W5 := Row.tr W5 TT G (fun k e => C.ms.sep.out 2 [0] rfl rfl e)
  replace GL0 := GL0.trans TT
  replace C := C.trans TT
  clear X16; have X16 := K; clear K TT G
  refine qt ?_
  refine qs ?_
  refine seq_new S rfl rfl (by decide) (fun b => .slice (some ⟨b, 0, none⟩) 3 3) (cs := [.string (⟨#[]⟩), .string (⟨#[105, 112, 115]⟩), .string (⟨#[100, 108, 112]⟩)]) (x_bsl [(0, .string (⟨#[]⟩)), (1, .string (⟨#[105, 112, 115]⟩)), (2, .string (⟨#[100, 108, 112]⟩))] [.string (⟨#[]⟩), .string (⟨#[105, 112, 115]⟩), .string (⟨#[100, 108, 112]⟩)] Try.underlying63 infoz_9 (by decide) (by decide) (by simp only [List.map_cons, List.map_nil, show a.eval (.const (.string (⟨#[]⟩))) = .string (⟨#[]⟩) from (S.e rfl), show a.eval (.const (.string (⟨#[105, 112, 115]⟩))) = .string (⟨#[105, 112, 115]⟩) from (S.e rfl), show a.eval (.const (.string (⟨#[100, 108, 112]⟩))) = .string (⟨#[100, 108, 112]⟩) from (S.e rfl)]) (by kernel_rfl)) ?_
  clear S a; intro a w22 b25 hb25 hbs25 G K25 S; have hbl25 : b25 < w22.heap.size := by omega
  have we25_0 : strE.wf (Fr F [one x7_16, abk ds_a, abk ls_a, one b2, one b1, one T]) w21.heap (⟨#[]⟩) := (by show _ ≤ maxLen; unfold maxLen; decide)
  have we25_1 : strE.wf (Fr F [one x7_16, abk ds_a, abk ls_a, one b2, one b1, one T]) w21.heap (⟨#[105, 112, 115]⟩) := (by show _ ≤ maxLen; unfold maxLen; decide)
  have we25_2 : strE.wf (Fr F [one x7_16, abk ds_a, abk ls_a, one b2, one b1, one T]) w21.heap (⟨#[100, 108, 112]⟩) := (by show _ ≤ maxLen; unfold maxLen; decide)
  have hfr25 := fr_fresh C hF hb25; have TT := Tr.of_ch0 C.ms G
  replace T_w := Enc.tr (slE intE) T_w TT
  replace T_K := TpB.tr0 T_K G
  replace K1 := Blk.tr0 K1 G
  replace K2 := Blk.tr0 K2 G
  replace W4 := Row.tr0 W4 TT G
  replace W5 := Row.tr0 W5 TT G
  replace X16 := Blk.tr0 X16 G
  replace GL0 := GL0.trans TT
  replace C := C.trans TT
  have KS25 : (slE strE).wf (Fr F [one x7_16, abk ds_a, abk ls_a, one b2, one b1, one T]) w22.heap ⟨some ⟨b25, 0, none⟩, 3, ([⟨#[]⟩, ⟨#[105, 112, 115]⟩, ⟨#[100, 108, 112]⟩] : List ByteArray)⟩ := sl_of_blk K25 ([⟨#[]⟩, ⟨#[105, 112, 115]⟩, ⟨#[100, 108, 112]⟩] : List ByteArray) 3 rfl (by decide) (by decide) rfl hfr25 (by intro x hx; simp only [List.mem_cons, List.not_mem_nil, or_false] at hx; rcases hx with rfl | rfl | rfl <;> first | exact Enc.tr (strE) we25_0 TT | exact Enc.tr (strE) we25_1 TT | exact Enc.tr (strE) we25_2 TT)
  clear K25 hfr25 TT G we25_0 we25_1 we25_2
  refine qm S rfl ?_; clear S a; intro a S
  refine seq_call S (by decide) (vs := #[pT T 0, iI 3]) rfl callable_23 (gNext _ (Ex F _) (C.old hF) T (C.ms.picks [5] (by decide)) T_l ((slE intE).dn T_w) T_K 3 ⟨by omega, by omega⟩) ?_
  rintro e w23 ⟨r_26, rfl, hr_26, tT_K, T0⟩; refine ⟨_, rfl, ?_⟩; clear S a; intro a S
  have TT := Tr.fra C.ms T0; have G := T0.ch
  replace T_w := Enc.tr (slE intE) T_w TT
  replace K1 := Blk.tr K1 G (C.ms.sep.out 4 [5] rfl rfl rfl)
  replace K2 := Blk.tr K2 G (C.ms.sep.out 3 [5] rfl rfl rfl)
  replace W4 := Row.tr W4 TT G (fun k e => C.ms.sep.out 1 [5] rfl rfl e)
  replace W5 := Row.tr W5 TT G (fun k e => C.ms.sep.out 2 [5] rfl rfl e)
  replace X16 := Blk.tr X16 G (C.ms.sep.out 0 [5] rfl rfl rfl)
  replace KS25 := Enc.tr (slE strE) KS25 TT
  replace GL0 := GL0.trans TT
  replace C := C.trans TT
  clear T_K; have T_K := tT_K; clear tT_K
  clear T0 G TT
  refine qv S (pT (blk (some ⟨b25, 0, none⟩)) (off (some ⟨b25, 0, none⟩) + (r_26).toNat * 1)) (x_idx Try.underlying63 (by kernel_rfl) (S.e rfl) (S.e rfl) (r_26).toNat (by omega) (by first | omega | (simp only [List.length_cons, List.length_nil]; omega)) ((show LAt strE _ _ (some ⟨b25, 0, none⟩) ([⟨#[]⟩, ⟨#[105, 112, 115]⟩, ⟨#[100, 108, 112]⟩] : List ByteArray) from (KS25).1).adr (i := (r_26).toNat) (by first | omega | (simp only [List.length_cons, List.length_nil]; omega)))) ?_; clear S a; intro a S
  refine qv S (.string (([⟨#[]⟩, ⟨#[105, 112, 115]⟩, ⟨#[100, 108, 112]⟩] : List ByteArray).getD ((r_26).toNat) strE.dflt)) (x_load ⟨_, Try.underlying9, rfl⟩ (S.e rfl) ((show LAt strE _ _ (some ⟨b25, 0, none⟩) ([⟨#[]⟩, ⟨#[105, 112, 115]⟩, ⟨#[100, 108, 112]⟩] : List ByteArray) from (KS25).1).cell (r_26).toNat (by first | omega | (simp only [List.length_cons, List.length_nil]; omega)) 0 _ rfl)) ?_; clear S a; intro a S
  refine qv S (pT x7_16 (0 + 4)) (x_fld (z := 0) (0) 4 Try.underlying65 rfl rfl (by kernel_rfl) (S.e rfl)) ?_; clear S a; intro a S
  refine seq_store S rfl rfl [.string (([⟨#[114, 49]⟩, ⟨#[114, 50]⟩, ⟨#[114, 51]⟩, ⟨#[114, 52]⟩, ⟨#[114, 53]⟩, ⟨#[114, 54]⟩] : List ByteArray).getD i strE.dflt), iI (([4096, 400, 60, 20, 5, 0]).getD ((x28_19).toNat) intE.dflt), bD (bv23 = true), bD (bv24 = true), .string (([⟨#[]⟩, ⟨#[105, 112, 115]⟩, ⟨#[100, 108, 112]⟩] : List ByteArray).getD ((r_26).toNat) strE.dflt)] (x_store (by kernel_rfl) (S.e rfl) (S.e rfl) rfl X16 (o := 0 + 4) (u := .string (⟨#[]⟩)) rfl) X16 rfl ?_
  clear S a; intro a w24 G hz K S; clear hz; have TT := Tr.och C.ms G
  replace T_w := Enc.tr (slE intE) T_w TT
  replace T_K := TpB.tr T_K G (C.ms.sep.out 5 [0] rfl rfl rfl)
  replace K1 := Blk.tr K1 G (C.ms.sep.out 4 [0] rfl rfl rfl)
  replace K2 := Blk.tr K2 G (C.ms.sep.out 3 [0] rfl rfl rfl)
  replace W4 := Row.tr W4 TT G (fun k e => C.ms.sep.out 1 [0] rfl rfl e)
  replace W5 := Row.tr W5 TT G (fun k e => C.ms.sep.out 2 [0] rfl rfl e)
  replace KS25 := Enc.tr (slE strE) KS25 TT
  replace GL0 := GL0.trans TT
  replace C := C.trans TT
  clear X16; have X16 := K; clear K TT G
  refine qt ?_
  refine qs ?_
  refine qv S (pT b2 (0 + 0)) (x_fld (z := 0) (0) 0 Try.underlying28 rfl rfl (by kernel_rfl) (S.e rfl)) ?_; clear S a; intro a S
  refine qv S (.slice ds_a ds.length ds_c) (x_load ⟨_, Try.underlying23, rfl⟩ (S.e rfl) (K2.cell (j := 0) rfl)) ?_; clear S a; intro a S
  refine qv S _ (x_loadw [.string (([⟨#[114, 49]⟩, ⟨#[114, 50]⟩, ⟨#[114, 51]⟩, ⟨#[114, 52]⟩, ⟨#[114, 53]⟩, ⟨#[114, 54]⟩] : List ByteArray).getD i strE.dflt), iI (([4096, 400, 60, 20, 5, 0]).getD ((x28_19).toNat) intE.dflt), bD (bv23 = true), bD (bv24 = true), .string (([⟨#[]⟩, ⟨#[105, 112, 115]⟩, ⟨#[100, 108, 112]⟩] : List ByteArray).getD ((r_26).toNat) strE.dflt)] ⟨_, Try.underlying65, rfl, by kernel_rfl⟩ (S.e rfl) (X16.mid [] _ [] rfl _ rfl)) ?_; clear S a; intro a S
  refine seq_new S rfl rfl (by decide) (fun b => .slice (some ⟨b, 0, none⟩) 1 1) (cs := [.string (([⟨#[114, 49]⟩, ⟨#[114, 50]⟩, ⟨#[114, 51]⟩, ⟨#[114, 52]⟩, ⟨#[114, 53]⟩, ⟨#[114, 54]⟩] : List ByteArray).getD i strE.dflt), iI (([4096, 400, 60, 20, 5, 0]).getD ((x28_19).toNat) intE.dflt), bD (bv23 = true), bD (bv24 = true), .string (([⟨#[]⟩, ⟨#[105, 112, 115]⟩, ⟨#[100, 108, 112]⟩] : List ByteArray).getD ((r_26).toNat) strE.dflt)]) (x_bsl [(0, .agg #[.string (([⟨#[114, 49]⟩, ⟨#[114, 50]⟩, ⟨#[114, 51]⟩, ⟨#[114, 52]⟩, ⟨#[114, 53]⟩, ⟨#[114, 54]⟩] : List ByteArray).getD i strE.dflt), iI (([4096, 400, 60, 20, 5, 0]).getD ((x28_19).toNat) intE.dflt), bD (bv23 = true), bD (bv24 = true), .string (([⟨#[]⟩, ⟨#[105, 112, 115]⟩, ⟨#[100, 108, 112]⟩] : List ByteArray).getD ((r_26).toNat) strE.dflt)])] [.string (([⟨#[114, 49]⟩, ⟨#[114, 50]⟩, ⟨#[114, 51]⟩, ⟨#[114, 52]⟩, ⟨#[114, 53]⟩, ⟨#[114, 54]⟩] : List ByteArray).getD i strE.dflt), iI (([4096, 400, 60, 20, 5, 0]).getD ((x28_19).toNat) intE.dflt), bD (bv23 = true), bD (bv24 = true), .string (([⟨#[]⟩, ⟨#[105, 112, 115]⟩, ⟨#[100, 108, 112]⟩] : List ByteArray).getD ((r_26).toNat) strE.dflt)] Try.underlying23 infoz_65 (by decide) (by decide) (by simp only [List.map_cons, List.map_nil, show a.eval (.tmp 48) = .agg #[.string (([⟨#[114, 49]⟩, ⟨#[114, 50]⟩, ⟨#[114, 51]⟩, ⟨#[114, 52]⟩, ⟨#[114, 53]⟩, ⟨#[114, 54]⟩] : List ByteArray).getD i strE.dflt), iI (([4096, 400, 60, 20, 5, 0]).getD ((x28_19).toNat) intE.dflt), bD (bv23 = true), bD (bv24 = true), .string (([⟨#[]⟩, ⟨#[105, 112, 115]⟩, ⟨#[100, 108, 112]⟩] : List ByteArray).getD ((r_26).toNat) strE.dflt)] from (S.e rfl)]) (by kernel_rfl)) ?_
  clear S a; intro a w25 b27 hb27 hbs27 G K27 S; have hbl27 : b27 < w25.heap.size := by omega
  have we27_0 : devE.wf (Fr F [one x7_16, abk ds_a, abk ls_a, one b2, one b1, one T]) w24.heap (⟨(([⟨#[114, 49]⟩, ⟨#[114, 50]⟩, ⟨#[114, 51]⟩, ⟨#[114, 52]⟩, ⟨#[114, 53]⟩, ⟨#[114, 54]⟩] : List ByteArray).getD i strE.dflt), (([4096, 400, 60, 20, 5, 0]).getD ((x28_19).toNat) intE.dflt), bv23, bv24, (([⟨#[]⟩, ⟨#[105, 112, 115]⟩, ⟨#[100, 108, 112]⟩] : List ByteArray).getD ((r_26).toNat) strE.dflt)⟩ : Dev) := ⟨((show LAt strE _ _ (some ⟨x22_17, 0, none⟩) ([⟨#[114, 49]⟩, ⟨#[114, 50]⟩, ⟨#[114, 51]⟩, ⟨#[114, 52]⟩, ⟨#[114, 53]⟩, ⟨#[114, 54]⟩] : List ByteArray) from (X17).1).wf i (by first | omega | (simp only [List.length_cons, List.length_nil]; omega))), ((show LAt intE _ _ (some ⟨x26_18, 0, none⟩) ([4096, 400, 60, 20, 5, 0]) from (X18).1).wf (x28_19).toNat (by first | omega | (simp only [List.length_cons, List.length_nil]; omega))), trivial, trivial, ((show LAt strE _ _ (some ⟨b25, 0, none⟩) ([⟨#[]⟩, ⟨#[105, 112, 115]⟩, ⟨#[100, 108, 112]⟩] : List ByteArray) from (KS25).1).wf (r_26).toNat (by first | omega | (simp only [List.length_cons, List.length_nil]; omega)))⟩
  have hfr27 := fr_fresh C hF hb27; have TT := Tr.of_ch0 C.ms G
  replace T_w := Enc.tr (slE intE) T_w TT
  replace T_K := TpB.tr0 T_K G
  replace K1 := Blk.tr0 K1 G
  replace K2 := Blk.tr0 K2 G
  replace W4 := Row.tr0 W4 TT G
  replace W5 := Row.tr0 W5 TT G
  replace X16 := Blk.tr0 X16 G
  replace KS25 := Enc.tr (slE strE) KS25 TT
  replace GL0 := GL0.trans TT
  replace C := C.trans TT
  have KS27 : (slE devE).wf (Fr F [one x7_16, abk ds_a, abk ls_a, one b2, one b1, one T]) w25.heap ⟨some ⟨b27, 0, none⟩, 1, [(⟨(([⟨#[114, 49]⟩, ⟨#[114, 50]⟩, ⟨#[114, 51]⟩, ⟨#[114, 52]⟩, ⟨#[114, 53]⟩, ⟨#[114, 54]⟩] : List ByteArray).getD i strE.dflt), (([4096, 400, 60, 20, 5, 0]).getD ((x28_19).toNat) intE.dflt), bv23, bv24, (([⟨#[]⟩, ⟨#[105, 112, 115]⟩, ⟨#[100, 108, 112]⟩] : List ByteArray).getD ((r_26).toNat) strE.dflt)⟩ : Dev)]⟩ := sl_of_blk K27 [(⟨(([⟨#[114, 49]⟩, ⟨#[114, 50]⟩, ⟨#[114, 51]⟩, ⟨#[114, 52]⟩, ⟨#[114, 53]⟩, ⟨#[114, 54]⟩] : List ByteArray).getD i strE.dflt), (([4096, 400, 60, 20, 5, 0]).getD ((x28_19).toNat) intE.dflt), bv23, bv24, (([⟨#[]⟩, ⟨#[105, 112, 115]⟩, ⟨#[100, 108, 112]⟩] : List ByteArray).getD ((r_26).toNat) strE.dflt)⟩ : Dev)] 1 rfl (by decide) (by decide) rfl hfr27 (by intro x hx; simp only [List.mem_cons, List.not_mem_nil, or_false] at hx; subst hx; exact Enc.tr (devE) we27_0 TT)
  clear K27 hfr27 TT G we27_0
  refine seq_op rfl (op_append (E := devE) [one x7_16] [abk ls_a, one b2, one b1, one T] (.tmp 47) (.tmp 49) 23 rfl zero_65 48 Try.underlying23 infoz_65 rfl (by decide) rfl C.ms (S.e rfl) W4 ([(⟨(([⟨#[114, 49]⟩, ⟨#[114, 50]⟩, ⟨#[114, 51]⟩, ⟨#[114, 52]⟩, ⟨#[114, 53]⟩, ⟨#[114, 54]⟩] : List ByteArray).getD i strE.dflt), (([4096, 400, 60, 20, 5, 0]).getD ((x28_19).toNat) intE.dflt), bv23, bv24, (([⟨#[]⟩, ⟨#[105, 112, 115]⟩, ⟨#[100, 108, 112]⟩] : List ByteArray).getD ((r_26).toNat) strE.dflt)⟩ : Dev)]) (some ⟨b27, 0, none⟩) 1 (S.e rfl) (show LAt devE _ _ (some ⟨b27, 0, none⟩) ([(⟨(([⟨#[114, 49]⟩, ⟨#[114, 50]⟩, ⟨#[114, 51]⟩, ⟨#[114, 52]⟩, ⟨#[114, 53]⟩, ⟨#[114, 54]⟩] : List ByteArray).getD i strE.dflt), (([4096, 400, 60, 20, 5, 0]).getD ((x28_19).toNat) intE.dflt), bv23, bv24, (([⟨#[]⟩, ⟨#[105, 112, 115]⟩, ⟨#[100, 108, 112]⟩] : List ByteArray).getD ((r_26).toNat) strE.dflt)⟩ : Dev)]) from (KS27).1) (KS27).2.2 (LAt.mem (show LAt devE _ _ (some ⟨b27, 0, none⟩) ([(⟨(([⟨#[114, 49]⟩, ⟨#[114, 50]⟩, ⟨#[114, 51]⟩, ⟨#[114, 52]⟩, ⟨#[114, 53]⟩, ⟨#[114, 54]⟩] : List ByteArray).getD i strE.dflt), (([4096, 400, 60, 20, 5, 0]).getD ((x28_19).toNat) intE.dflt), bv23, bv24, (([⟨#[]⟩, ⟨#[105, 112, 115]⟩, ⟨#[100, 108, 112]⟩] : List ByteArray).getD ((r_26).toNat) strE.dflt)⟩ : Dev)]) from (KS27).1)) (by unfold maxLen; (try simp only [List.length_cons, List.length_nil, List.length_append, List.length_map]); omega) (by (try simp only [List.length_cons, List.length_nil, List.length_append, List.length_map]); omega) (C.size) ?_)
  intro ad28 cap28 w26 Rn TT G
  have S1 := S.put (d := 50) (v := .slice ad28 (ds ++ [(⟨(([⟨#[114, 49]⟩, ⟨#[114, 50]⟩, ⟨#[114, 51]⟩, ⟨#[114, 52]⟩, ⟨#[114, 53]⟩, ⟨#[114, 54]⟩] : List ByteArray).getD i strE.dflt), (([4096, 400, 60, 20, 5, 0]).getD ((x28_19).toNat) intE.dflt), bv23, bv24, (([⟨#[]⟩, ⟨#[105, 112, 115]⟩, ⟨#[100, 108, 112]⟩] : List ByteArray).getD ((r_26).toNat) strE.dflt)⟩ : Dev)]).length cap28) (by decide); clear S; revert S1; generalize Act.put a _ _ = a1; intro S; clear a; rename Act => a
  replace TT : Tr [one x7_16, abk ds_a, abk ls_a, one b2, one b1, one T] w25 [one x7_16, abk ad28, abk ls_a, one b2, one b1, one T] w26 := TT; replace Rn : Row devE 65 w.heap.size F [one x7_16, abk ad28, abk ls_a, one b2, one b1, one T] w26 ad28 cap28 (ds ++ [(⟨(([⟨#[114, 49]⟩, ⟨#[114, 50]⟩, ⟨#[114, 51]⟩, ⟨#[114, 52]⟩, ⟨#[114, 53]⟩, ⟨#[114, 54]⟩] : List ByteArray).getD i strE.dflt), (([4096, 400, 60, 20, 5, 0]).getD ((x28_19).toNat) intE.dflt), bv23, bv24, (([⟨#[]⟩, ⟨#[105, 112, 115]⟩, ⟨#[100, 108, 112]⟩] : List ByteArray).getD ((r_26).toNat) strE.dflt)⟩ : Dev)]) := Rn
  replace T_w := Enc.tr (slE intE) T_w TT
  replace T_K := TpB.tr T_K G (C.ms.sep.out 5 [1] rfl rfl rfl)
  replace K1 := Blk.tr K1 G (C.ms.sep.out 4 [1] rfl rfl rfl)
  replace K2 := Blk.tr K2 G (C.ms.sep.out 3 [1] rfl rfl rfl)
  replace W5 := Row.tr W5 TT G (fun k e => C.ms.sep.out 2 [1] rfl rfl e)
  replace X16 := Blk.tr X16 G (C.ms.sep.out 0 [1] rfl rfl rfl)
  replace KS25 := Enc.tr (slE strE) KS25 TT
  replace KS27 := Enc.tr (slE devE) KS27 TT
  replace GL0 := GL0.trans TT
  replace C := C.trans TT
  clear W4; have W4 := Rn; clear Rn TT G
  refine qv S (pT b2 (0 + 0)) (x_fld (z := 0) (0) 0 Try.underlying28 rfl rfl (by kernel_rfl) (S.e rfl)) ?_; clear S a; intro a S
  refine seq_store S rfl rfl [.slice ad28 ((ds ++ [(⟨(([⟨#[114, 49]⟩, ⟨#[114, 50]⟩, ⟨#[114, 51]⟩, ⟨#[114, 52]⟩, ⟨#[114, 53]⟩, ⟨#[114, 54]⟩] : List ByteArray).getD i strE.dflt), (([4096, 400, 60, 20, 5, 0]).getD ((x28_19).toNat) intE.dflt), bv23, bv24, (([⟨#[]⟩, ⟨#[105, 112, 115]⟩, ⟨#[100, 108, 112]⟩] : List ByteArray).getD ((r_26).toNat) strE.dflt)⟩ : Dev)]).length) cap28, .slice ls_a ls.length ls_c, .slice none 0 0, .slice none 0 0, iI 0] (x_store (by kernel_rfl) (S.e rfl) (S.e rfl) rfl K2 (o := 0 + 0) (u := .slice ds_a ds.length ds_c) rfl) K2 rfl ?_
  clear S a; intro a w27 G hz K S; clear hz; have TT := Tr.och C.ms G
  replace T_w := Enc.tr (slE intE) T_w TT
  replace T_K := TpB.tr T_K G (C.ms.sep.out 5 [3] rfl rfl rfl)
  replace K1 := Blk.tr K1 G (C.ms.sep.out 4 [3] rfl rfl rfl)
  replace W4 := Row.tr W4 TT G (fun k e => C.ms.sep.out 1 [3] rfl rfl e)
  replace W5 := Row.tr W5 TT G (fun k e => C.ms.sep.out 2 [3] rfl rfl e)
  replace X16 := Blk.tr X16 G (C.ms.sep.out 0 [3] rfl rfl rfl)
  replace KS25 := Enc.tr (slE strE) KS25 TT
  replace KS27 := Enc.tr (slE devE) KS27 TT
  replace GL0 := GL0.trans TT
  replace C := C.trans TT
  clear K2; have K2 := K; clear K TT G
  refine qt ?_
  refine qs ?_
  refine qm S rfl ?_; clear S a; intro a S
  refine qv S (bD (0 < ((i : Nat) : Int))) (x_gtr (S.e rfl) (S.e rfl)) ?_; clear S a; intro a S
  refine qt ?_
  refine cond_dec S rfl ?_ ?_
  ·intro hc1
   replace S := S.sub (L' := [(0, pT T 0), (1, iN nn), (4, pT b1 0), (5, pT b2 0), (6, iN i), (17, iN i), (18, iN nn), (19, bD (((i : Nat) : Int) < ((nn : Nat) : Int))), (7, pT x7_16 0), (31, .agg #[.string (([⟨#[114, 49]⟩, ⟨#[114, 50]⟩, ⟨#[114, 51]⟩, ⟨#[114, 52]⟩, ⟨#[114, 53]⟩, ⟨#[114, 54]⟩] : List ByteArray).getD i strE.dflt), iI (([4096, 400, 60, 20, 5, 0]).getD ((x28_19).toNat) intE.dflt), .bool false, .bool false, .string (⟨#[]⟩)]), (32, pT T 0), (33, iI r_21), (34, bD (bv23 = true)), (35, pT T 0), (36, iI r_22), (37, bD (bv24 = true)), (38, pT x7_16 (0 + 2)), (39, pT x7_16 (0 + 3)), (40, .slice (some ⟨b25, 0, none⟩) 3 3), (41, pT T 0), (42, iI r_26), (43, pT (blk (some ⟨b25, 0, none⟩)) (off (some ⟨b25, 0, none⟩) + (r_26).toNat * 1)), (44, .string (([⟨#[]⟩, ⟨#[105, 112, 115]⟩, ⟨#[100, 108, 112]⟩] : List ByteArray).getD ((r_26).toNat) strE.dflt)), (45, pT x7_16 (0 + 4)), (46, pT b2 (0 + 0)), (47, .slice ds_a ds.length ds_c), (48, .agg #[.string (([⟨#[114, 49]⟩, ⟨#[114, 50]⟩, ⟨#[114, 51]⟩, ⟨#[114, 52]⟩, ⟨#[114, 53]⟩, ⟨#[114, 54]⟩] : List ByteArray).getD i strE.dflt), iI (([4096, 400, 60, 20, 5, 0]).getD ((x28_19).toNat) intE.dflt), bD (bv23 = true), bD (bv24 = true), .string (([⟨#[]⟩, ⟨#[105, 112, 115]⟩, ⟨#[100, 108, 112]⟩] : List ByteArray).getD ((r_26).toNat) strE.dflt)]), (49, .slice (some ⟨b27, 0, none⟩) 1 1), (50, .slice ad28 ((ds ++ [(⟨(([⟨#[114, 49]⟩, ⟨#[114, 50]⟩, ⟨#[114, 51]⟩, ⟨#[114, 52]⟩, ⟨#[114, 53]⟩, ⟨#[114, 54]⟩] : List ByteArray).getD i strE.dflt), (([4096, 400, 60, 20, 5, 0]).getD ((x28_19).toNat) intE.dflt), bv23, bv24, (([⟨#[]⟩, ⟨#[105, 112, 115]⟩, ⟨#[100, 108, 112]⟩] : List ByteArray).getD ((r_26).toNat) strE.dflt)⟩ : Dev)]).length) cap28), (51, pT b2 (0 + 0)), (52, iN i), (53, bD (0 < ((i : Nat) : Int)))]) ⟨rfl, rfl, rfl, rfl, rfl, rfl, rfl, rfl, rfl, rfl, rfl, rfl, rfl, rfl, rfl, rfl, rfl, rfl, rfl, rfl, rfl, rfl, rfl, rfl, rfl, rfl, rfl, rfl, rfl, rfl, rfl, rfl, trivial⟩
   refine wp_heads (M := In [one T]) S 13 [(54, isV (In [one T]) (pT b2 (0 + 1))), (55, isV (In [one T]) (.slice ls_a ls.length ls_c)), (56, isV (In [one T]) (pT T 0)), (57, isV (In [one T]) (iN i)), (58, ⟨fun u w => ∃ (x58a : Int), u = iI x58a ∧ (0 ≤ x58a ∧ (x58a < ((i : Nat) : Int) ∨ x58a = 0)), fun v w w' c h => let ⟨x58a, hv, h0⟩ := h; ⟨x58a, hv, h0⟩⟩), (59, isV (In [one T]) (iN i)), (60, ⟨fun u w => ∃ (x60a : Nat), u = .slice (some ⟨x60a, 0, none⟩) 4 4 ∧ (slE intE).wf (Fr F [one x7_16, abk ad28, abk ls_a, one b2, one b1, one T]) w.heap (Sl.mk (some ⟨x60a, 0, none⟩) 4 ([1, 2, 3, 1000])), fun v w w' c h => let ⟨x60a, hv, h0⟩ := h; ⟨x60a, hv, Enc.kp (slE intE) h0 c (by intro o h; simp at h ⊢; first | exact .inl h | simp [h])⟩⟩), (61, isV (In [one T]) (pT T 0)), (62, ⟨fun u w => ∃ (x62a : Int), u = iI x62a ∧ (0 ≤ x62a ∧ (x62a < 4 ∨ x62a = 0)), fun v w w' c h => let ⟨x62a, hv, h0⟩ := h; ⟨x62a, hv, h0⟩⟩), (63, ⟨fun u w => ∃ (x60a : Nat) (x62b : Int), u = pT (blk (some ⟨x60a, 0, none⟩)) (off (some ⟨x60a, 0, none⟩) + (x62b).toNat * 1) ∧ (slE intE).wf (Fr F [one x7_16, abk ad28, abk ls_a, one b2, one b1, one T]) w.heap (Sl.mk (some ⟨x60a, 0, none⟩) 4 ([1, 2, 3, 1000])) ∧ (0 ≤ x62b ∧ (x62b < 4 ∨ x62b = 0)), fun v w w' c h => let ⟨x60a, x62b, hv, h0, h1⟩ := h; ⟨x60a, x62b, hv, Enc.kp (slE intE) h0 c (by intro o h; simp at h ⊢; first | exact .inl h | simp [h]), h1⟩⟩), (64, ⟨fun u w => ∃ (x60a : Nat) (x62b : Int), u = iI (([1, 2, 3, 1000]).getD ((x62b).toNat) intE.dflt) ∧ (slE intE).wf (Fr F [one x7_16, abk ad28, abk ls_a, one b2, one b1, one T]) w.heap (Sl.mk (some ⟨x60a, 0, none⟩) 4 ([1, 2, 3, 1000])) ∧ (0 ≤ x62b ∧ (x62b < 4 ∨ x62b = 0)), fun v w w' c h => let ⟨x60a, x62b, hv, h0, h1⟩ := h; ⟨x60a, x62b, hv, Enc.kp (slE intE) h0 c (by intro o h; simp at h ⊢; first | exact .inl h | simp [h]), h1⟩⟩), (65, ⟨fun u w => ∃ (x58a : Int) (x60b : Nat) (x62c : Int), u = .agg #[iI x58a, iN i, iI (([1, 2, 3, 1000]).getD ((x62c).toNat) intE.dflt)] ∧ (0 ≤ x58a ∧ (x58a < ((i : Nat) : Int) ∨ x58a = 0)) ∧ (slE intE).wf (Fr F [one x7_16, abk ad28, abk ls_a, one b2, one b1, one T]) w.heap (Sl.mk (some ⟨x60b, 0, none⟩) 4 ([1, 2, 3, 1000])) ∧ (0 ≤ x62c ∧ (x62c < 4 ∨ x62c = 0)), fun v w w' c h => let ⟨x58a, x60b, x62c, hv, h0, h1, h2⟩ := h; ⟨x58a, x60b, x62c, hv, h0, Enc.kp (slE intE) h1 c (by intro o h; simp at h ⊢; first | exact .inl h | simp [h]), h2⟩⟩), (66, ⟨fun u w => ∃ (x66a : Nat) (x58b : Int) (x60c : Nat) (x62d : Int), u = .slice (some ⟨x66a, 0, none⟩) 1 1 ∧ (slE lnkE).wf (Fr F [one x7_16, abk ad28, abk ls_a, one b2, one b1, one T]) w.heap (Sl.mk (some ⟨x66a, 0, none⟩) 1 ([(⟨x58b, ((i : Nat) : Int), (([1, 2, 3, 1000]).getD ((x62d).toNat) intE.dflt)⟩ : Lnk)])) ∧ (0 ≤ x58b ∧ (x58b < ((i : Nat) : Int) ∨ x58b = 0)) ∧ (slE intE).wf (Fr F [one x7_16, abk ad28, abk ls_a, one b2, one b1, one T]) w.heap (Sl.mk (some ⟨x60c, 0, none⟩) 4 ([1, 2, 3, 1000])) ∧ (0 ≤ x62d ∧ (x62d < 4 ∨ x62d = 0)), fun v w w' c h => let ⟨x66a, x58b, x60c, x62d, hv, h0, h1, h2, h3⟩ := h; ⟨x66a, x58b, x60c, x62d, hv, Enc.kp (slE lnkE) h0 c (by intro o h; simp at h ⊢; first | exact .inl h | simp [h]), h1, Enc.kp (slE intE) h2 c (by intro o h; simp at h ⊢; first | exact .inl h | simp [h]), h3⟩⟩)] (fun w => TpB 62 T T_l w) [[], [54], [], [], [56, 57], [], [], [], [61], [60, 62], [63], [58, 59, 64], [65]] [55, 66] _ rfl mixed (by kernel_rfl) rfl T_K ?_ ?_
   ·refine ⟨?_, ?_, ?_, ?_, ?_, ?_, ?_, ?_, ?_, ?_, ?_, ?_, ?_, trivial⟩
    ·intro a w28 G I S hE
     have TT := Tr.och C.ms G
     replace T_K := I
     replace K2 := Blk.tr K2 G (C.ms.sep.out 3 [5] rfl rfl rfl)
     replace W4 := Row.tr W4 TT G (fun k e => C.ms.sep.out 1 [5] rfl rfl e)
     replace W5 := Row.tr W5 TT G (fun k e => C.ms.sep.out 2 [5] rfl rfl e)
     replace C := C.trans TT
     exact qo (pT b2 (0 + 1)) (x_fld (z := 0) (0) 1 Try.underlying28 rfl rfl (by kernel_rfl) (S.e rfl)) I
    ·intro a w29 G I S hE
     have TT := Tr.och C.ms G
     replace T_K := I
     replace K2 := Blk.tr K2 G (C.ms.sep.out 3 [5] rfl rfl rfl)
     replace W4 := Row.tr W4 TT G (fun k e => C.ms.sep.out 1 [5] rfl rfl e)
     replace W5 := Row.tr W5 TT G (fun k e => C.ms.sep.out 2 [5] rfl rfl e)
     replace C := C.trans TT
     obtain ⟨e54, _⟩ := hE
     replace S := S.ext e54
     exact qo (.slice ls_a ls.length ls_c) (x_load ⟨_, Try.underlying24, rfl⟩ (S.e rfl) (K2.cell (j := 1) rfl)) I
    ·intro a w30 G I S hE
     have TT := Tr.och C.ms G
     replace T_w := Enc.tr (slE intE) T_w TT
     replace T_K := I
     replace C := C.trans TT
     exact qo (pT T 0) (x_move (S.e rfl)) I
    ·intro a w31 G I S hE
     have TT := Tr.och C.ms G
     replace T_K := I
     replace C := C.trans TT
     exact qo (iN i) (x_move (S.e rfl)) I
    ·intro a w32 G I S hE
     have TT := Tr.och C.ms G
     replace T_w := Enc.tr (slE intE) T_w TT
     replace T_K := I
     replace C := C.trans TT
     obtain ⟨e56, e57, _⟩ := hE
     replace S := S.ext e56
     replace S := S.ext e57
     refine head_op rfl rfl (op_call (vs := #[pT T 0, iN i]) (by simp only [List.map_toArray, List.map_cons, List.map_nil, show a.eval (.tmp 56) = pT T 0 from (S.e rfl), show a.eval (.tmp 57) = iN i from (S.e rfl)]) callable_23 (gNext _ (Ex F _) (C.old hF) T (C.ms.picks [5] (by decide)) T_l ((slE intE).dn T_w) T_K ((i : Nat) : Int) ⟨by omega, by omega⟩) ?_)
     rintro e w2 ⟨r_h58, rfl, hr_h58, tK0, T0⟩; refine ⟨_, rfl, Done.mk' rfl (by decide) (show ∃ _, _ from ?_) T0.ch tK0⟩
     exact ⟨r_h58, rfl, hr_h58⟩
    ·intro a w33 G I S hE
     have TT := Tr.och C.ms G
     replace T_K := I
     replace C := C.trans TT
     exact qo (iN i) (x_move (S.e rfl)) I
    ·intro a w34 G I S hE
     have TT := Tr.och C.ms G
     replace T_K := I
     replace C := C.trans TT
     refine head_op rfl rfl (op_val (v := .slice (some ⟨_, 0, none⟩) 4 4) (x_bsl [(0, iI 1), (1, iI 2), (2, iI 3), (3, iI 1000)] [iI 1, iI 2, iI 3, iI 1000] Try.underlying22 infoz_3 (by decide) (by decide) (by simp only [List.map_cons, List.map_nil, show a.eval (.const (iI 1)) = iI 1 from (S.e rfl), show a.eval (.const (iI 2)) = iI 2 from (S.e rfl), show a.eval (.const (iI 3)) = iI 3 from (S.e rfl), show a.eval (.const (iI 1000)) = iI 1000 from (S.e rfl)]) (by kernel_rfl)) ?_)
     refine Done.mk' rfl (by decide) (show ∃ _, _ from ⟨_, rfl, sl_of_blk (Blk.new _ [iI 1, iI 2, iI 3, iI 1000] 3) [1, 2, 3, 1000] 4 rfl (by decide) (by decide) rfl (fr_fresh C hF rfl) ?_⟩) ((ch_alloc _ _).mono (fun k hk => by simp [In] at hk)) (TpB.tr0 I (ch_alloc _ _))
     intro x hx; simp only [List.mem_cons, List.not_mem_nil, or_false] at hx; rcases hx with rfl | rfl | rfl | rfl <;> first | exact Enc.tr (intE) (show intE.wf (Fr F [one x7_16, abk ad28, abk ls_a, one b2, one b1, one T]) _ 1 from (show inI64 1 from ⟨by omega, by omega⟩)) (Tr.of_ch0 C.ms (ch_alloc _ _)) | exact Enc.tr (intE) (show intE.wf (Fr F [one x7_16, abk ad28, abk ls_a, one b2, one b1, one T]) _ 2 from (show inI64 2 from ⟨by omega, by omega⟩)) (Tr.of_ch0 C.ms (ch_alloc _ _)) | exact Enc.tr (intE) (show intE.wf (Fr F [one x7_16, abk ad28, abk ls_a, one b2, one b1, one T]) _ 3 from (show inI64 3 from ⟨by omega, by omega⟩)) (Tr.of_ch0 C.ms (ch_alloc _ _)) | exact Enc.tr (intE) (show intE.wf (Fr F [one x7_16, abk ad28, abk ls_a, one b2, one b1, one T]) _ 1000 from (show inI64 1000 from ⟨by omega, by omega⟩)) (Tr.of_ch0 C.ms (ch_alloc _ _))
    ·intro a w35 G I S hE
     have TT := Tr.och C.ms G
     replace T_w := Enc.tr (slE intE) T_w TT
     replace T_K := I
     replace C := C.trans TT
     exact qo (pT T 0) (x_move (S.e rfl)) I
    ·intro a w36 G I S hE
     have TT := Tr.och C.ms G
     replace T_w := Enc.tr (slE intE) T_w TT
     replace T_K := I
     replace C := C.trans TT
     obtain ⟨e61, _⟩ := hE
     replace S := S.ext e61
     refine head_op rfl rfl (op_call (vs := #[pT T 0, iI 4]) (by simp only [List.map_toArray, List.map_cons, List.map_nil, show a.eval (.tmp 61) = pT T 0 from (S.e rfl), show a.eval (.const (iI 4)) = iI 4 from (S.e rfl)]) callable_23 (gNext _ (Ex F _) (C.old hF) T (C.ms.picks [5] (by decide)) T_l ((slE intE).dn T_w) T_K 4 ⟨by omega, by omega⟩) ?_)
     rintro e w2 ⟨r_h62, rfl, hr_h62, tK0, T0⟩; refine ⟨_, rfl, Done.mk' rfl (by decide) (show ∃ _, _ from ?_) T0.ch tK0⟩
     exact ⟨r_h62, rfl, hr_h62⟩
    ·intro a w37 G I S hE
     have TT := Tr.och C.ms G
     replace T_K := I
     replace C := C.trans TT
     obtain ⟨e60, e62, _⟩ := hE
     obtain ⟨x60_29, e60, X29⟩ := e60
     replace S := S.ext e60
     obtain ⟨x62_30, e62, hr30⟩ := e62
     replace S := S.ext e62
     exact head_op rfl rfl (op_val (v := pT (blk (some ⟨x60_29, 0, none⟩)) (off (some ⟨x60_29, 0, none⟩) + (x62_30).toNat * 1)) (x_idx Try.underlying22 (by kernel_rfl) (S.e rfl) (S.e rfl) (x62_30).toNat (by omega) (by first | omega | (simp only [List.length_cons, List.length_nil]; omega)) ((show LAt intE _ _ (some ⟨x60_29, 0, none⟩) ([1, 2, 3, 1000]) from (X29).1).adr (i := (x62_30).toNat) (by first | omega | (simp only [List.length_cons, List.length_nil]; omega)))) (Done.same rfl (by decide) (show ∃ _, _ from ⟨x60_29, x62_30, rfl, X29, hr30⟩) I))
    ·intro a w38 G I S hE
     have TT := Tr.och C.ms G
     replace T_K := I
     replace C := C.trans TT
     obtain ⟨e63, _⟩ := hE
     obtain ⟨x60_31, x62_32, e63, X31, hr32⟩ := e63
     replace S := S.ext e63
     obtain ⟨hl33, hu33⟩ : inI64 (([1, 2, 3, 1000]).getD ((x62_32).toNat) intE.dflt) := id ((show LAt intE _ _ (some ⟨x60_31, 0, none⟩) ([1, 2, 3, 1000]) from (X31).1).wf (x62_32).toNat (by first | omega | (simp only [List.length_cons, List.length_nil]; omega)))
     exact head_op rfl rfl (op_val (v := iI (([1, 2, 3, 1000]).getD ((x62_32).toNat) intE.dflt)) (x_load ⟨_, Try.underlying3, rfl⟩ (S.e rfl) ((show LAt intE _ _ (some ⟨x60_31, 0, none⟩) ([1, 2, 3, 1000]) from (X31).1).cell (x62_32).toNat (by first | omega | (simp only [List.length_cons, List.length_nil]; omega)) 0 _ rfl)) (Done.same rfl (by decide) (show ∃ _, _ from ⟨x60_31, x62_32, rfl, X31, hr32⟩) I))
    ·intro a w39 G I S hE
     have TT := Tr.och C.ms G
     replace T_K := I
     replace C := C.trans TT
     obtain ⟨e58, e59, e64, _⟩ := hE
     obtain ⟨x58_34, e58, hr34⟩ := e58
     replace S := S.ext e58
     replace S := S.ext e59
     obtain ⟨x60_35, x62_36, e64, X35, hr36⟩ := e64
     replace S := S.ext e64
     exact head_op rfl rfl (op_val (v := .agg #[iI x58_34, iN i, iI (([1, 2, 3, 1000]).getD ((x62_36).toNat) intE.dflt)]) (x_build [(0, iI x58_34), (1, iN i), (2, iI (([1, 2, 3, 1000]).getD ((x62_36).toNat) intE.dflt))] [iI x58_34, iN i, iI (([1, 2, 3, 1000]).getD ((x62_36).toNat) intE.dflt)] (by simp only [List.map_cons, List.map_nil, show a.eval (.tmp 58) = iI x58_34 from (S.e rfl), show a.eval (.tmp 59) = iN i from (S.e rfl), show a.eval (.tmp 64) = iI (([1, 2, 3, 1000]).getD ((x62_36).toNat) intE.dflt) from (S.e rfl)]) (by kernel_rfl)) (Done.same rfl (by decide) (show ∃ _, _ from ⟨x58_34, x60_35, x62_36, rfl, hr34, X35, hr36⟩) I))
    intro a w40 G I S hE
    have TT := Tr.och C.ms G
    replace T_K := I
    replace C := C.trans TT
    obtain ⟨e65, _⟩ := hE
    obtain ⟨x58_37, x60_38, x62_39, e65, hr37, X38, hr39⟩ := e65
    replace S := S.ext e65
    refine head_op rfl rfl (op_val (v := .slice (some ⟨_, 0, none⟩) 1 1) (x_bsl [(0, .agg #[iI x58_37, iN i, iI (([1, 2, 3, 1000]).getD ((x62_39).toNat) intE.dflt)])] [iI x58_37, iN i, iI (([1, 2, 3, 1000]).getD ((x62_39).toNat) intE.dflt)] Try.underlying24 infoz_54 (by decide) (by decide) (by simp only [List.map_cons, List.map_nil, show a.eval (.tmp 65) = .agg #[iI x58_37, iN i, iI (([1, 2, 3, 1000]).getD ((x62_39).toNat) intE.dflt)] from (S.e rfl)]) (by kernel_rfl)) ?_)
    refine Done.mk' rfl (by decide) (show ∃ _, _ from ⟨_, x58_37, x60_38, x62_39, rfl, sl_of_blk (Blk.new _ [iI x58_37, iN i, iI (([1, 2, 3, 1000]).getD ((x62_39).toNat) intE.dflt)] 54) [(⟨x58_37, ((i : Nat) : Int), (([1, 2, 3, 1000]).getD ((x62_39).toNat) intE.dflt)⟩ : Lnk)] 1 rfl (by decide) (by decide) rfl (fr_fresh C hF rfl) ?_, hr37, Enc.tr (slE intE) X38 (Tr.of_ch0 C.ms (ch_alloc _ _)), hr39⟩) ((ch_alloc _ _).mono (fun k hk => by simp [In] at hk)) (TpB.tr0 I (ch_alloc _ _))
    intro x hx; simp only [List.mem_cons, List.not_mem_nil, or_false] at hx; subst hx <;> first | exact Enc.tr (lnkE) (show lnkE.wf (Fr F [one x7_16, abk ad28, abk ls_a, one b2, one b1, one T]) _ (⟨x58_37, ((i : Nat) : Int), (([1, 2, 3, 1000]).getD ((x62_39).toNat) intE.dflt)⟩ : Lnk) from ⟨(show inI64 x58_37 from ⟨by omega, by omega⟩), (show inI64 ((i : Nat) : Int) from ⟨by omega, by omega⟩), ((show LAt intE _ _ (some ⟨x60_38, 0, none⟩) ([1, 2, 3, 1000]) from (X38).1).wf (x62_39).toNat (by first | omega | (simp only [List.length_cons, List.length_nil]; omega)))⟩) (Tr.of_ch0 C.ms (ch_alloc _ _))
   clear S a; intro a w41 G I S hE; have TT := Tr.och C.ms G
   replace T_w := Enc.tr (slE intE) T_w TT
   replace K1 := Blk.tr K1 G (C.ms.sep.out 4 [5] rfl rfl rfl)
   replace K2 := Blk.tr K2 G (C.ms.sep.out 3 [5] rfl rfl rfl)
   replace W4 := Row.tr W4 TT G (fun k e => C.ms.sep.out 1 [5] rfl rfl e)
   replace W5 := Row.tr W5 TT G (fun k e => C.ms.sep.out 2 [5] rfl rfl e)
   replace X16 := Blk.tr X16 G (C.ms.sep.out 0 [5] rfl rfl rfl)
   replace KS25 := Enc.tr (slE strE) KS25 TT
   replace KS27 := Enc.tr (slE devE) KS27 TT
   replace GL0 := GL0.trans TT
   replace C := C.trans TT
   replace T_K := I
   clear TT G
   obtain ⟨e55, e66, -⟩ := hE
   replace S := S.ext e55
   obtain ⟨x66_40, x58_41, x60_42, x62_43, e66, X40, hr41, X42, hr43⟩ := e66
   replace S := S.ext e66
   have hn44 : ([(⟨x58_41, ((i : Nat) : Int), (([1, 2, 3, 1000]).getD ((x62_43).toNat) intE.dflt)⟩ : Lnk)]).length ≤ 9223372036854775807 := (X40).1.len
   clear e55 e66
   refine seq_op rfl (op_append (E := lnkE) [one x7_16, abk ad28] [one b2, one b1, one T] (.tmp 55) (.tmp 66) 24 rfl zero_54 24 Try.underlying24 infoz_54 rfl (by decide) rfl C.ms (S.e rfl) W5 ([(⟨x58_41, ((i : Nat) : Int), (([1, 2, 3, 1000]).getD ((x62_43).toNat) intE.dflt)⟩ : Lnk)]) (some ⟨x66_40, 0, none⟩) 1 (S.e rfl) (show LAt lnkE _ _ (some ⟨x66_40, 0, none⟩) ([(⟨x58_41, ((i : Nat) : Int), (([1, 2, 3, 1000]).getD ((x62_43).toNat) intE.dflt)⟩ : Lnk)]) from (X40).1) (X40).2.2 (LAt.mem (show LAt lnkE _ _ (some ⟨x66_40, 0, none⟩) ([(⟨x58_41, ((i : Nat) : Int), (([1, 2, 3, 1000]).getD ((x62_43).toNat) intE.dflt)⟩ : Lnk)]) from (X40).1)) (by unfold maxLen; (try simp only [List.length_cons, List.length_nil, List.length_append, List.length_map]); omega) (by (try simp only [List.length_cons, List.length_nil, List.length_append, List.length_map]); omega) (C.size) ?_)
   intro ad45 cap45 w42 Rn TT G
   have S1 := S.put (d := 67) (v := .slice ad45 (ls ++ [(⟨x58_41, ((i : Nat) : Int), (([1, 2, 3, 1000]).getD ((x62_43).toNat) intE.dflt)⟩ : Lnk)]).length cap45) (by decide); clear S; revert S1; generalize Act.put a _ _ = a1; intro S; clear a; rename Act => a
   replace TT : Tr [one x7_16, abk ad28, abk ls_a, one b2, one b1, one T] w41 [one x7_16, abk ad28, abk ad45, one b2, one b1, one T] w42 := TT; replace Rn : Row lnkE 54 w.heap.size F [one x7_16, abk ad28, abk ad45, one b2, one b1, one T] w42 ad45 cap45 (ls ++ [(⟨x58_41, ((i : Nat) : Int), (([1, 2, 3, 1000]).getD ((x62_43).toNat) intE.dflt)⟩ : Lnk)]) := Rn
   replace T_w := Enc.tr (slE intE) T_w TT
   replace T_K := TpB.tr T_K G (C.ms.sep.out 5 [2] rfl rfl rfl)
   replace K1 := Blk.tr K1 G (C.ms.sep.out 4 [2] rfl rfl rfl)
   replace K2 := Blk.tr K2 G (C.ms.sep.out 3 [2] rfl rfl rfl)
   replace W4 := Row.tr W4 TT G (fun k e => C.ms.sep.out 1 [2] rfl rfl e)
   replace X16 := Blk.tr X16 G (C.ms.sep.out 0 [2] rfl rfl rfl)
   replace KS25 := Enc.tr (slE strE) KS25 TT
   replace KS27 := Enc.tr (slE devE) KS27 TT
   replace X40 := Enc.tr (slE lnkE) X40 TT
   replace X42 := Enc.tr (slE intE) X42 TT
   replace GL0 := GL0.trans TT
   replace C := C.trans TT
   clear W5; have W5 := Rn; clear Rn TT G
   refine qv S (pT b2 (0 + 1)) (x_fld (z := 0) (0) 1 Try.underlying28 rfl rfl (by kernel_rfl) (S.e rfl)) ?_; clear S a; intro a S
   refine seq_store S rfl rfl [.slice ad28 ((ds ++ [(⟨(([⟨#[114, 49]⟩, ⟨#[114, 50]⟩, ⟨#[114, 51]⟩, ⟨#[114, 52]⟩, ⟨#[114, 53]⟩, ⟨#[114, 54]⟩] : List ByteArray).getD i strE.dflt), (([4096, 400, 60, 20, 5, 0]).getD ((x28_19).toNat) intE.dflt), bv23, bv24, (([⟨#[]⟩, ⟨#[105, 112, 115]⟩, ⟨#[100, 108, 112]⟩] : List ByteArray).getD ((r_26).toNat) strE.dflt)⟩ : Dev)]).length) cap28, .slice ad45 ((ls ++ [(⟨x58_41, ((i : Nat) : Int), (([1, 2, 3, 1000]).getD ((x62_43).toNat) intE.dflt)⟩ : Lnk)]).length) cap45, .slice none 0 0, .slice none 0 0, iI 0] (x_store (by kernel_rfl) (S.e rfl) (S.e rfl) rfl K2 (o := 0 + 1) (u := .slice ls_a ls.length ls_c) rfl) K2 rfl ?_
   clear S a; intro a w43 G hz K S; clear hz; have TT := Tr.och C.ms G
   replace T_w := Enc.tr (slE intE) T_w TT
   replace T_K := TpB.tr T_K G (C.ms.sep.out 5 [3] rfl rfl rfl)
   replace K1 := Blk.tr K1 G (C.ms.sep.out 4 [3] rfl rfl rfl)
   replace W4 := Row.tr W4 TT G (fun k e => C.ms.sep.out 1 [3] rfl rfl e)
   replace W5 := Row.tr W5 TT G (fun k e => C.ms.sep.out 2 [3] rfl rfl e)
   replace X16 := Blk.tr X16 G (C.ms.sep.out 0 [3] rfl rfl rfl)
   replace KS25 := Enc.tr (slE strE) KS25 TT
   replace KS27 := Enc.tr (slE devE) KS27 TT
   replace X40 := Enc.tr (slE lnkE) X40 TT
   replace X42 := Enc.tr (slE intE) X42 TT
   replace GL0 := GL0.trans TT
   replace C := C.trans TT
   clear K2; have K2 := K; clear K TT G
   refine wpList_nil ?_
   refine blk_n ?_
   refine then_n ?_
   refine wp_region_lit ?_
   refine qm S rfl ?_; clear S a; intro a S
   refine qv S (iN (i + 1)) (x_add (S.e rfl) (S.e rfl) (r := ((i + 1 : Nat) : Int)) (w_i64 (by omega))) ?_; clear S a; intro a S
   refine qa S rfl ?_; clear S a; intro a S
   refine wpList_nil ?_
   have TD : Tr [one x7_16, abk ad28, abk ad45, one b2, one b1, one T] w43 [abk ad28, abk ad45, one b2, one b1, one T] w43 := Tr.drop C.ms [1, 2, 3, 4, 5] (by decide)
   have GD : Ch (In []) w43 w43 := Ch.refl _
   clear X16
   replace T_w := Enc.tr (slE intE) T_w TD
   replace T_K := TpB.tr0 T_K GD
   replace K1 := Blk.tr0 K1 GD
   replace K2 := Blk.tr0 K2 GD
   replace W4 := Row.tr0 W4 TD GD
   replace W5 := Row.tr0 W5 TD GD
   replace KS25 := Enc.tr (slE strE) KS25 TD
   replace KS27 := Enc.tr (slE devE) KS27 TD
   replace X40 := Enc.tr (slE lnkE) X40 TD
   replace X42 := Enc.tr (slE intE) X42 TD
   replace GL0 := GL0.trans TD
   replace C := C.trans TD
   clear TD GD
   refine then_n ?_
   refine ⟨nn - (i + 1), ?_, (i + 1), ad28, cap28, (ds ++ [(⟨(([⟨#[114, 49]⟩, ⟨#[114, 50]⟩, ⟨#[114, 51]⟩, ⟨#[114, 52]⟩, ⟨#[114, 53]⟩, ⟨#[114, 54]⟩] : List ByteArray).getD i strE.dflt), (([4096, 400, 60, 20, 5, 0]).getD ((x28_19).toNat) intE.dflt), bv23, bv24, (([⟨#[]⟩, ⟨#[105, 112, 115]⟩, ⟨#[100, 108, 112]⟩] : List ByteArray).getD ((r_26).toNat) strE.dflt)⟩ : Dev)]), ad45, cap45, (ls ++ [(⟨x58_41, ((i : Nat) : Int), (([1, 2, 3, 1000]).getD ((x62_43).toNat) intE.dflt)⟩ : Lnk)]), S.sub ⟨rfl, rfl, rfl, rfl, rfl, trivial⟩, GL0, ?_, T_K, K1, K2, W4, W5, rfl⟩
   ·omega
   refine ⟨by omega, by first | omega | (simp only [List.length_append, List.length_cons, List.length_nil]; omega), snocD hdl hd ⟨rfl, (caps_fine _).1, (caps_fine _).2, classes_fine _⟩, by first | omega | (simp only [List.length_append, List.length_cons, List.length_nil]; omega), ?_⟩
   first | exact hl | exact all_snoc hl (lnk_mk (by omega) (by omega) (by omega) (costs_fine _ (by omega)))
  intro hc2
  refine wp_skip ?_
  refine blk_n ?_
  refine then_n ?_
  refine wp_region_lit ?_
  refine qm S rfl ?_; clear S a; intro a S
  refine qv S (iN (i + 1)) (x_add (S.e rfl) (S.e rfl) (r := ((i + 1 : Nat) : Int)) (w_i64 (by omega))) ?_; clear S a; intro a S
  refine qa S rfl ?_; clear S a; intro a S
  refine wpList_nil ?_
  have TD : Tr [one x7_16, abk ad28, abk ls_a, one b2, one b1, one T] w27 [abk ad28, abk ls_a, one b2, one b1, one T] w27 := Tr.drop C.ms [1, 2, 3, 4, 5] (by decide)
  have GD : Ch (In []) w27 w27 := Ch.refl _
  clear X16
  replace T_w := Enc.tr (slE intE) T_w TD
  replace T_K := TpB.tr0 T_K GD
  replace K1 := Blk.tr0 K1 GD
  replace K2 := Blk.tr0 K2 GD
  replace W4 := Row.tr0 W4 TD GD
  replace W5 := Row.tr0 W5 TD GD
  replace KS25 := Enc.tr (slE strE) KS25 TD
  replace KS27 := Enc.tr (slE devE) KS27 TD
  replace GL0 := GL0.trans TD
  replace C := C.trans TD
  clear TD GD
  refine then_n ?_
  refine ⟨nn - (i + 1), ?_, (i + 1), ad28, cap28, (ds ++ [(⟨(([⟨#[114, 49]⟩, ⟨#[114, 50]⟩, ⟨#[114, 51]⟩, ⟨#[114, 52]⟩, ⟨#[114, 53]⟩, ⟨#[114, 54]⟩] : List ByteArray).getD i strE.dflt), (([4096, 400, 60, 20, 5, 0]).getD ((x28_19).toNat) intE.dflt), bv23, bv24, (([⟨#[]⟩, ⟨#[105, 112, 115]⟩, ⟨#[100, 108, 112]⟩] : List ByteArray).getD ((r_26).toNat) strE.dflt)⟩ : Dev)]), ls_a, ls_c, ls, S.sub ⟨rfl, rfl, rfl, rfl, rfl, trivial⟩, GL0, ?_, T_K, K1, K2, W4, W5, rfl⟩
  ·omega
  refine ⟨by omega, by first | omega | (simp only [List.length_append, List.length_cons, List.length_nil]; omega), snocD hdl hd ⟨rfl, (caps_fine _).1, (caps_fine _).2, classes_fine _⟩, by first | omega | (simp only [List.length_append, List.length_cons, List.length_nil]; omega), ?_⟩
  first | exact hl | exact all_snoc hl (lnk_mk (by omega) (by omega) (by omega) (costs_fine _ (by omega)))
 intro hc3
 refine wp_exit ?_
 refine then_e ?_
 refine then_e ?_
 refine blk_e ?_
 refine then_n ?_
 refine wp_seq ?_
 refine qs ?_
 refine qm S rfl ?_; clear S a; intro a S
 refine seq_call S (by decide) (vs := #[pT T 0, iI 4]) rfl callable_23 (gNext _ (Ex F _) (C.old hF) T (C.ms.picks [4] (by decide)) T_l ((slE intE).dn T_w) T_K 4 ⟨by omega, by omega⟩) ?_
 rintro e w44 ⟨r_46, rfl, hr_46, tT_K, T0⟩; refine ⟨_, rfl, ?_⟩; clear S a; intro a S
 have TT := Tr.fra C.ms T0; have G := T0.ch
 replace T_w := Enc.tr (slE intE) T_w TT
 replace K1 := Blk.tr K1 G (C.ms.sep.out 3 [4] rfl rfl rfl)
 replace K2 := Blk.tr K2 G (C.ms.sep.out 2 [4] rfl rfl rfl)
 replace W4 := Row.tr W4 TT G (fun k e => C.ms.sep.out 0 [4] rfl rfl e)
 replace W5 := Row.tr W5 TT G (fun k e => C.ms.sep.out 1 [4] rfl rfl e)
 replace GL0 := GL0.trans TT
 replace C := C.trans TT
 clear T_K; have T_K := tT_K; clear tT_K
 clear T0 G TT
 refine qa S rfl ?_; clear S a; intro a S
 refine qt ?_
 refine wp_block ?_
 refine wp_loop_ghost (fun m a wr => ∃ c : Int, ∃ l2_a : Option Addr, ∃ l2_c : Nat, ∃ l2 : List Lnk, Slots 154 [(0, pT T 0), (1, iN nn), (4, pT b1 0), (5, pT b2 0), (8, iI c)] a ∧ Tr [abk ds_a, abk ls_a, one b2, one b1, one T] w44 [abk ds_a, abk l2_a, one b2, one b1, one T] wr ∧ (0 ≤ c ∧ c ≤ 3 ∧ (l2.length : Int) ≤ 9 - c ∧ ∀ l ∈ l2, lnkV nn l) ∧ TpB 62 T T_l wr ∧ Blk wr.heap b1 [.slice none 0 0, .slice none 0 0, .slice none 0 0, .slice none 0 0, iI 0] 28 ∧ Blk wr.heap b2 [.slice ds_a ds.length ds_c, .slice l2_a l2.length l2_c, .slice none 0 0, .slice none 0 0, iI 0] 28 ∧ Row devE 65 w.heap.size F [abk ds_a, abk l2_a, one b2, one b1, one T] wr ds_a ds_c ds ∧ Row lnkE 54 w.heap.size F [abk ds_a, abk l2_a, one b2, one b1, one T] wr l2_a l2_c l2 ∧ c.toNat = m) (r_46.toNat) ?_ ?_
 ·refine ⟨r_46, ls_a, ls_c, ls, S.sub ⟨rfl, rfl, rfl, rfl, rfl, trivial⟩, Tr.refl C.ms, ?_, T_K, K1, K2, W4, W5, rfl⟩
  exact ⟨by omega, by omega, by omega, hl⟩
 rintro m a w45 ⟨c, l2_a, l2_c, l2, S, G, hR, T_K', K1', K2', W4', W5', rfl⟩
 clear T_K; have T_K := T_K'; clear T_K'
 clear K1; have K1 := K1'; clear K1'
 clear K2; have K2 := K2'; clear K2'
 clear W4; have W4 := W4'; clear W4'
 clear W5; have W5 := W5'; clear W5'
 replace T_w := Enc.tr (slE intE) T_w G
 replace GL0 := GL0.trans G
 replace C := C.trans G
 have GL1 := G; clear G
 have l2_len := W5.len_le; simp only [maxLen] at l2_len
 obtain ⟨hc0_, hc3_, hl2l, hl2⟩ := hR
 refine wp_seq ?_
 refine qs ?_
 refine qm S rfl ?_; clear S a; intro a S
 refine qv S (bD (0 < c)) (x_gtr (S.e rfl) (S.e rfl)) ?_; clear S a; intro a S
 refine qm S rfl ?_; clear S a; intro a S
 refine qg S 73 rfl (0 < c) gt (iN nn) (fun hg => (x_move (S.e rfl))) ?_; clear S a; intro a S
 refine qg S 73 rfl (0 < c) gt (bD (1 < ((nn : Nat) : Int))) (fun hg => (x_gtr (S.p rfl hg) (S.e rfl))) ?_; clear S a; intro a S
 refine qv S (bD ((0 < c) ∧ (1 < ((nn : Nat) : Int)))) (x_and (S.e rfl) (S.p rfl) (S.e rfl)) ?_; clear S a; intro a S
 refine qt ?_
 refine cond_dec S rfl ?_ ?_
 ·intro hc4
  refine wp_skip ?_
  refine then_n ?_
  refine wp_seq ?_
  refine wp_block ?_
  refine qs ?_
  refine qm S rfl ?_; clear S a; intro a S
  refine qm S rfl ?_; clear S a; intro a S
  refine qv S (iI (((nn : Nat) : Int) - 1)) (x_sub (S.e rfl) (S.e rfl) (r := (((nn : Nat) : Int) - 1)) (w_i64 (by omega))) ?_; clear S a; intro a S
  refine seq_call S (by decide) (vs := #[pT T 0, iI (((nn : Nat) : Int) - 1)]) rfl callable_23 (gNext _ (Ex F _) (C.old hF) T (C.ms.picks [4] (by decide)) T_l ((slE intE).dn T_w) T_K (((nn : Nat) : Int) - 1) ⟨by omega, by omega⟩) ?_
  rintro e w46 ⟨r_47, rfl, hr_47, tT_K, T0⟩; refine ⟨_, rfl, ?_⟩; clear S a; intro a S
  have TT := Tr.fra C.ms T0; have G := T0.ch
  replace T_w := Enc.tr (slE intE) T_w TT
  replace K1 := Blk.tr K1 G (C.ms.sep.out 3 [4] rfl rfl rfl)
  replace K2 := Blk.tr K2 G (C.ms.sep.out 2 [4] rfl rfl rfl)
  replace W4 := Row.tr W4 TT G (fun k e => C.ms.sep.out 0 [4] rfl rfl e)
  replace W5 := Row.tr W5 TT G (fun k e => C.ms.sep.out 1 [4] rfl rfl e)
  replace GL0 := GL0.trans TT
  replace GL1 := GL1.trans TT
  replace C := C.trans TT
  clear T_K; have T_K := tT_K; clear tT_K
  clear T0 G TT
  refine qv S (iI (1 + r_47)) (x_add (S.e rfl) (S.e rfl) (r := (1 + r_47)) (w_i64 (by omega))) ?_; clear S a; intro a S
  refine qa S rfl ?_; clear S a; intro a S
  refine qt ?_
  replace S := S.sub (L' := [(0, pT T 0), (1, iN nn), (4, pT b1 0), (5, pT b2 0), (8, iI c), (71, iI c), (72, bD (0 < c)), (73, bD (0 < c)), (74, (if (0 < c) then iN nn else undef)), (75, (if (0 < c) then bD (1 < ((nn : Nat) : Int)) else undef)), (76, bD ((0 < c) ∧ (1 < ((nn : Nat) : Int)))), (79, pT T 0), (80, iN nn), (81, iI (((nn : Nat) : Int) - 1)), (82, iI r_47), (83, iI (1 + r_47)), (9, iI (1 + r_47))]) ⟨rfl, rfl, rfl, rfl, rfl, rfl, rfl, rfl, rfl, rfl, rfl, rfl, rfl, rfl, rfl, rfl, rfl, trivial⟩
  refine wp_heads (M := In [one T]) S 13 [(84, isV (In [one T]) (pT b2 (0 + 1))), (85, isV (In [one T]) (.slice l2_a l2.length l2_c)), (86, isV (In [one T]) (pT T 0)), (87, isV (In [one T]) (iI (1 + r_47))), (88, ⟨fun u w => ∃ (x88a : Int), u = iI x88a ∧ (0 ≤ x88a ∧ (x88a < (1 + r_47) ∨ x88a = 0)), fun v w w' c h => let ⟨x88a, hv, h0⟩ := h; ⟨x88a, hv, h0⟩⟩), (89, isV (In [one T]) (iI (1 + r_47))), (90, ⟨fun u w => ∃ (x90a : Nat), u = .slice (some ⟨x90a, 0, none⟩) 4 4 ∧ (slE intE).wf (Fr F [abk ds_a, abk l2_a, one b2, one b1, one T]) w.heap (Sl.mk (some ⟨x90a, 0, none⟩) 4 ([1, 2, 3, 1000])), fun v w w' c h => let ⟨x90a, hv, h0⟩ := h; ⟨x90a, hv, Enc.kp (slE intE) h0 c (by intro o h; simp at h ⊢; first | exact .inl h | simp [h])⟩⟩), (91, isV (In [one T]) (pT T 0)), (92, ⟨fun u w => ∃ (x92a : Int), u = iI x92a ∧ (0 ≤ x92a ∧ (x92a < 4 ∨ x92a = 0)), fun v w w' c h => let ⟨x92a, hv, h0⟩ := h; ⟨x92a, hv, h0⟩⟩), (93, ⟨fun u w => ∃ (x90a : Nat) (x92b : Int), u = pT (blk (some ⟨x90a, 0, none⟩)) (off (some ⟨x90a, 0, none⟩) + (x92b).toNat * 1) ∧ (slE intE).wf (Fr F [abk ds_a, abk l2_a, one b2, one b1, one T]) w.heap (Sl.mk (some ⟨x90a, 0, none⟩) 4 ([1, 2, 3, 1000])) ∧ (0 ≤ x92b ∧ (x92b < 4 ∨ x92b = 0)), fun v w w' c h => let ⟨x90a, x92b, hv, h0, h1⟩ := h; ⟨x90a, x92b, hv, Enc.kp (slE intE) h0 c (by intro o h; simp at h ⊢; first | exact .inl h | simp [h]), h1⟩⟩), (94, ⟨fun u w => ∃ (x90a : Nat) (x92b : Int), u = iI (([1, 2, 3, 1000]).getD ((x92b).toNat) intE.dflt) ∧ (slE intE).wf (Fr F [abk ds_a, abk l2_a, one b2, one b1, one T]) w.heap (Sl.mk (some ⟨x90a, 0, none⟩) 4 ([1, 2, 3, 1000])) ∧ (0 ≤ x92b ∧ (x92b < 4 ∨ x92b = 0)), fun v w w' c h => let ⟨x90a, x92b, hv, h0, h1⟩ := h; ⟨x90a, x92b, hv, Enc.kp (slE intE) h0 c (by intro o h; simp at h ⊢; first | exact .inl h | simp [h]), h1⟩⟩), (95, ⟨fun u w => ∃ (x88a : Int) (x90b : Nat) (x92c : Int), u = .agg #[iI x88a, iI (1 + r_47), iI (([1, 2, 3, 1000]).getD ((x92c).toNat) intE.dflt)] ∧ (0 ≤ x88a ∧ (x88a < (1 + r_47) ∨ x88a = 0)) ∧ (slE intE).wf (Fr F [abk ds_a, abk l2_a, one b2, one b1, one T]) w.heap (Sl.mk (some ⟨x90b, 0, none⟩) 4 ([1, 2, 3, 1000])) ∧ (0 ≤ x92c ∧ (x92c < 4 ∨ x92c = 0)), fun v w w' c h => let ⟨x88a, x90b, x92c, hv, h0, h1, h2⟩ := h; ⟨x88a, x90b, x92c, hv, h0, Enc.kp (slE intE) h1 c (by intro o h; simp at h ⊢; first | exact .inl h | simp [h]), h2⟩⟩), (96, ⟨fun u w => ∃ (x96a : Nat) (x88b : Int) (x90c : Nat) (x92d : Int), u = .slice (some ⟨x96a, 0, none⟩) 1 1 ∧ (slE lnkE).wf (Fr F [abk ds_a, abk l2_a, one b2, one b1, one T]) w.heap (Sl.mk (some ⟨x96a, 0, none⟩) 1 ([(⟨x88b, (1 + r_47), (([1, 2, 3, 1000]).getD ((x92d).toNat) intE.dflt)⟩ : Lnk)])) ∧ (0 ≤ x88b ∧ (x88b < (1 + r_47) ∨ x88b = 0)) ∧ (slE intE).wf (Fr F [abk ds_a, abk l2_a, one b2, one b1, one T]) w.heap (Sl.mk (some ⟨x90c, 0, none⟩) 4 ([1, 2, 3, 1000])) ∧ (0 ≤ x92d ∧ (x92d < 4 ∨ x92d = 0)), fun v w w' c h => let ⟨x96a, x88b, x90c, x92d, hv, h0, h1, h2, h3⟩ := h; ⟨x96a, x88b, x90c, x92d, hv, Enc.kp (slE lnkE) h0 c (by intro o h; simp at h ⊢; first | exact .inl h | simp [h]), h1, Enc.kp (slE intE) h2 c (by intro o h; simp at h ⊢; first | exact .inl h | simp [h]), h3⟩⟩)] (fun w => TpB 62 T T_l w) [[], [84], [], [], [86, 87], [], [], [], [91], [90, 92], [93], [88, 89, 94], [95]] [85, 96] _ rfl mixed (by kernel_rfl) rfl T_K ?_ ?_
  ·refine ⟨?_, ?_, ?_, ?_, ?_, ?_, ?_, ?_, ?_, ?_, ?_, ?_, ?_, trivial⟩
   ·intro a w47 G I S hE
    have TT := Tr.och C.ms G
    replace T_K := I
    replace K2 := Blk.tr K2 G (C.ms.sep.out 2 [4] rfl rfl rfl)
    replace W4 := Row.tr W4 TT G (fun k e => C.ms.sep.out 0 [4] rfl rfl e)
    replace W5 := Row.tr W5 TT G (fun k e => C.ms.sep.out 1 [4] rfl rfl e)
    replace C := C.trans TT
    exact qo (pT b2 (0 + 1)) (x_fld (z := 0) (0) 1 Try.underlying28 rfl rfl (by kernel_rfl) (S.e rfl)) I
   ·intro a w48 G I S hE
    have TT := Tr.och C.ms G
    replace T_K := I
    replace K2 := Blk.tr K2 G (C.ms.sep.out 2 [4] rfl rfl rfl)
    replace W4 := Row.tr W4 TT G (fun k e => C.ms.sep.out 0 [4] rfl rfl e)
    replace W5 := Row.tr W5 TT G (fun k e => C.ms.sep.out 1 [4] rfl rfl e)
    replace C := C.trans TT
    obtain ⟨e84, _⟩ := hE
    replace S := S.ext e84
    exact qo (.slice l2_a l2.length l2_c) (x_load ⟨_, Try.underlying24, rfl⟩ (S.e rfl) (K2.cell (j := 1) rfl)) I
   ·intro a w49 G I S hE
    have TT := Tr.och C.ms G
    replace T_w := Enc.tr (slE intE) T_w TT
    replace T_K := I
    replace C := C.trans TT
    exact qo (pT T 0) (x_move (S.e rfl)) I
   ·intro a w50 G I S hE
    have TT := Tr.och C.ms G
    replace T_K := I
    replace C := C.trans TT
    exact qo (iI (1 + r_47)) (x_move (S.e rfl)) I
   ·intro a w51 G I S hE
    have TT := Tr.och C.ms G
    replace T_w := Enc.tr (slE intE) T_w TT
    replace T_K := I
    replace C := C.trans TT
    obtain ⟨e86, e87, _⟩ := hE
    replace S := S.ext e86
    replace S := S.ext e87
    refine head_op rfl rfl (op_call (vs := #[pT T 0, iI (1 + r_47)]) (by simp only [List.map_toArray, List.map_cons, List.map_nil, show a.eval (.tmp 86) = pT T 0 from (S.e rfl), show a.eval (.tmp 87) = iI (1 + r_47) from (S.e rfl)]) callable_23 (gNext _ (Ex F _) (C.old hF) T (C.ms.picks [4] (by decide)) T_l ((slE intE).dn T_w) T_K (1 + r_47) ⟨by omega, by omega⟩) ?_)
    rintro e w2 ⟨r_h88, rfl, hr_h88, tK0, T0⟩; refine ⟨_, rfl, Done.mk' rfl (by decide) (show ∃ _, _ from ?_) T0.ch tK0⟩
    exact ⟨r_h88, rfl, hr_h88⟩
   ·intro a w52 G I S hE
    have TT := Tr.och C.ms G
    replace T_K := I
    replace C := C.trans TT
    exact qo (iI (1 + r_47)) (x_move (S.e rfl)) I
   ·intro a w53 G I S hE
    have TT := Tr.och C.ms G
    replace T_K := I
    replace C := C.trans TT
    refine head_op rfl rfl (op_val (v := .slice (some ⟨_, 0, none⟩) 4 4) (x_bsl [(0, iI 1), (1, iI 2), (2, iI 3), (3, iI 1000)] [iI 1, iI 2, iI 3, iI 1000] Try.underlying22 infoz_3 (by decide) (by decide) (by simp only [List.map_cons, List.map_nil, show a.eval (.const (iI 1)) = iI 1 from (S.e rfl), show a.eval (.const (iI 2)) = iI 2 from (S.e rfl), show a.eval (.const (iI 3)) = iI 3 from (S.e rfl), show a.eval (.const (iI 1000)) = iI 1000 from (S.e rfl)]) (by kernel_rfl)) ?_)
    refine Done.mk' rfl (by decide) (show ∃ _, _ from ⟨_, rfl, sl_of_blk (Blk.new _ [iI 1, iI 2, iI 3, iI 1000] 3) [1, 2, 3, 1000] 4 rfl (by decide) (by decide) rfl (fr_fresh C hF rfl) ?_⟩) ((ch_alloc _ _).mono (fun k hk => by simp [In] at hk)) (TpB.tr0 I (ch_alloc _ _))
    intro x hx; simp only [List.mem_cons, List.not_mem_nil, or_false] at hx; rcases hx with rfl | rfl | rfl | rfl <;> first | exact Enc.tr (intE) (show intE.wf (Fr F [abk ds_a, abk l2_a, one b2, one b1, one T]) _ 1 from (show inI64 1 from ⟨by omega, by omega⟩)) (Tr.of_ch0 C.ms (ch_alloc _ _)) | exact Enc.tr (intE) (show intE.wf (Fr F [abk ds_a, abk l2_a, one b2, one b1, one T]) _ 2 from (show inI64 2 from ⟨by omega, by omega⟩)) (Tr.of_ch0 C.ms (ch_alloc _ _)) | exact Enc.tr (intE) (show intE.wf (Fr F [abk ds_a, abk l2_a, one b2, one b1, one T]) _ 3 from (show inI64 3 from ⟨by omega, by omega⟩)) (Tr.of_ch0 C.ms (ch_alloc _ _)) | exact Enc.tr (intE) (show intE.wf (Fr F [abk ds_a, abk l2_a, one b2, one b1, one T]) _ 1000 from (show inI64 1000 from ⟨by omega, by omega⟩)) (Tr.of_ch0 C.ms (ch_alloc _ _))
   ·intro a w54 G I S hE
    have TT := Tr.och C.ms G
    replace T_w := Enc.tr (slE intE) T_w TT
    replace T_K := I
    replace C := C.trans TT
    exact qo (pT T 0) (x_move (S.e rfl)) I
   ·intro a w55 G I S hE
    have TT := Tr.och C.ms G
    replace T_w := Enc.tr (slE intE) T_w TT
    replace T_K := I
    replace C := C.trans TT
    obtain ⟨e91, _⟩ := hE
    replace S := S.ext e91
    refine head_op rfl rfl (op_call (vs := #[pT T 0, iI 4]) (by simp only [List.map_toArray, List.map_cons, List.map_nil, show a.eval (.tmp 91) = pT T 0 from (S.e rfl), show a.eval (.const (iI 4)) = iI 4 from (S.e rfl)]) callable_23 (gNext _ (Ex F _) (C.old hF) T (C.ms.picks [4] (by decide)) T_l ((slE intE).dn T_w) T_K 4 ⟨by omega, by omega⟩) ?_)
    rintro e w2 ⟨r_h92, rfl, hr_h92, tK0, T0⟩; refine ⟨_, rfl, Done.mk' rfl (by decide) (show ∃ _, _ from ?_) T0.ch tK0⟩
    exact ⟨r_h92, rfl, hr_h92⟩
   ·intro a w56 G I S hE
    have TT := Tr.och C.ms G
    replace T_K := I
    replace C := C.trans TT
    obtain ⟨e90, e92, _⟩ := hE
    obtain ⟨x90_48, e90, X48⟩ := e90
    replace S := S.ext e90
    obtain ⟨x92_49, e92, hr49⟩ := e92
    replace S := S.ext e92
    exact head_op rfl rfl (op_val (v := pT (blk (some ⟨x90_48, 0, none⟩)) (off (some ⟨x90_48, 0, none⟩) + (x92_49).toNat * 1)) (x_idx Try.underlying22 (by kernel_rfl) (S.e rfl) (S.e rfl) (x92_49).toNat (by omega) (by first | omega | (simp only [List.length_cons, List.length_nil]; omega)) ((show LAt intE _ _ (some ⟨x90_48, 0, none⟩) ([1, 2, 3, 1000]) from (X48).1).adr (i := (x92_49).toNat) (by first | omega | (simp only [List.length_cons, List.length_nil]; omega)))) (Done.same rfl (by decide) (show ∃ _, _ from ⟨x90_48, x92_49, rfl, X48, hr49⟩) I))
   ·intro a w57 G I S hE
    have TT := Tr.och C.ms G
    replace T_K := I
    replace C := C.trans TT
    obtain ⟨e93, _⟩ := hE
    obtain ⟨x90_50, x92_51, e93, X50, hr51⟩ := e93
    replace S := S.ext e93
    obtain ⟨hl52, hu52⟩ : inI64 (([1, 2, 3, 1000]).getD ((x92_51).toNat) intE.dflt) := id ((show LAt intE _ _ (some ⟨x90_50, 0, none⟩) ([1, 2, 3, 1000]) from (X50).1).wf (x92_51).toNat (by first | omega | (simp only [List.length_cons, List.length_nil]; omega)))
    exact head_op rfl rfl (op_val (v := iI (([1, 2, 3, 1000]).getD ((x92_51).toNat) intE.dflt)) (x_load ⟨_, Try.underlying3, rfl⟩ (S.e rfl) ((show LAt intE _ _ (some ⟨x90_50, 0, none⟩) ([1, 2, 3, 1000]) from (X50).1).cell (x92_51).toNat (by first | omega | (simp only [List.length_cons, List.length_nil]; omega)) 0 _ rfl)) (Done.same rfl (by decide) (show ∃ _, _ from ⟨x90_50, x92_51, rfl, X50, hr51⟩) I))
   ·intro a w58 G I S hE
    have TT := Tr.och C.ms G
    replace T_K := I
    replace C := C.trans TT
    obtain ⟨e88, e89, e94, _⟩ := hE
    obtain ⟨x88_53, e88, hr53⟩ := e88
    replace S := S.ext e88
    replace S := S.ext e89
    obtain ⟨x90_54, x92_55, e94, X54, hr55⟩ := e94
    replace S := S.ext e94
    exact head_op rfl rfl (op_val (v := .agg #[iI x88_53, iI (1 + r_47), iI (([1, 2, 3, 1000]).getD ((x92_55).toNat) intE.dflt)]) (x_build [(0, iI x88_53), (1, iI (1 + r_47)), (2, iI (([1, 2, 3, 1000]).getD ((x92_55).toNat) intE.dflt))] [iI x88_53, iI (1 + r_47), iI (([1, 2, 3, 1000]).getD ((x92_55).toNat) intE.dflt)] (by simp only [List.map_cons, List.map_nil, show a.eval (.tmp 88) = iI x88_53 from (S.e rfl), show a.eval (.tmp 89) = iI (1 + r_47) from (S.e rfl), show a.eval (.tmp 94) = iI (([1, 2, 3, 1000]).getD ((x92_55).toNat) intE.dflt) from (S.e rfl)]) (by kernel_rfl)) (Done.same rfl (by decide) (show ∃ _, _ from ⟨x88_53, x90_54, x92_55, rfl, hr53, X54, hr55⟩) I))
   intro a w59 G I S hE
   have TT := Tr.och C.ms G
   replace T_K := I
   replace C := C.trans TT
   obtain ⟨e95, _⟩ := hE
   obtain ⟨x88_56, x90_57, x92_58, e95, hr56, X57, hr58⟩ := e95
   replace S := S.ext e95
   refine head_op rfl rfl (op_val (v := .slice (some ⟨_, 0, none⟩) 1 1) (x_bsl [(0, .agg #[iI x88_56, iI (1 + r_47), iI (([1, 2, 3, 1000]).getD ((x92_58).toNat) intE.dflt)])] [iI x88_56, iI (1 + r_47), iI (([1, 2, 3, 1000]).getD ((x92_58).toNat) intE.dflt)] Try.underlying24 infoz_54 (by decide) (by decide) (by simp only [List.map_cons, List.map_nil, show a.eval (.tmp 95) = .agg #[iI x88_56, iI (1 + r_47), iI (([1, 2, 3, 1000]).getD ((x92_58).toNat) intE.dflt)] from (S.e rfl)]) (by kernel_rfl)) ?_)
   refine Done.mk' rfl (by decide) (show ∃ _, _ from ⟨_, x88_56, x90_57, x92_58, rfl, sl_of_blk (Blk.new _ [iI x88_56, iI (1 + r_47), iI (([1, 2, 3, 1000]).getD ((x92_58).toNat) intE.dflt)] 54) [(⟨x88_56, (1 + r_47), (([1, 2, 3, 1000]).getD ((x92_58).toNat) intE.dflt)⟩ : Lnk)] 1 rfl (by decide) (by decide) rfl (fr_fresh C hF rfl) ?_, hr56, Enc.tr (slE intE) X57 (Tr.of_ch0 C.ms (ch_alloc _ _)), hr58⟩) ((ch_alloc _ _).mono (fun k hk => by simp [In] at hk)) (TpB.tr0 I (ch_alloc _ _))
   intro x hx; simp only [List.mem_cons, List.not_mem_nil, or_false] at hx; subst hx <;> first | exact Enc.tr (lnkE) (show lnkE.wf (Fr F [abk ds_a, abk l2_a, one b2, one b1, one T]) _ (⟨x88_56, (1 + r_47), (([1, 2, 3, 1000]).getD ((x92_58).toNat) intE.dflt)⟩ : Lnk) from ⟨(show inI64 x88_56 from ⟨by omega, by omega⟩), (show inI64 (1 + r_47) from ⟨by omega, by omega⟩), ((show LAt intE _ _ (some ⟨x90_57, 0, none⟩) ([1, 2, 3, 1000]) from (X57).1).wf (x92_58).toNat (by first | omega | (simp only [List.length_cons, List.length_nil]; omega)))⟩) (Tr.of_ch0 C.ms (ch_alloc _ _))
  clear S a; intro a w60 G I S hE; have TT := Tr.och C.ms G
  replace T_w := Enc.tr (slE intE) T_w TT
  replace K1 := Blk.tr K1 G (C.ms.sep.out 3 [4] rfl rfl rfl)
  replace K2 := Blk.tr K2 G (C.ms.sep.out 2 [4] rfl rfl rfl)
  replace W4 := Row.tr W4 TT G (fun k e => C.ms.sep.out 0 [4] rfl rfl e)
  replace W5 := Row.tr W5 TT G (fun k e => C.ms.sep.out 1 [4] rfl rfl e)
  replace GL0 := GL0.trans TT
  replace GL1 := GL1.trans TT
  replace C := C.trans TT
  replace T_K := I
  clear TT G
  obtain ⟨e85, e96, -⟩ := hE
  replace S := S.ext e85
  obtain ⟨x96_59, x88_60, x90_61, x92_62, e96, X59, hr60, X61, hr62⟩ := e96
  replace S := S.ext e96
  have hn63 : ([(⟨x88_60, (1 + r_47), (([1, 2, 3, 1000]).getD ((x92_62).toNat) intE.dflt)⟩ : Lnk)]).length ≤ 9223372036854775807 := (X59).1.len
  clear e85 e96
  refine seq_op rfl (op_append (E := lnkE) [abk ds_a] [one b2, one b1, one T] (.tmp 85) (.tmp 96) 24 rfl zero_54 24 Try.underlying24 infoz_54 rfl (by decide) rfl C.ms (S.e rfl) W5 ([(⟨x88_60, (1 + r_47), (([1, 2, 3, 1000]).getD ((x92_62).toNat) intE.dflt)⟩ : Lnk)]) (some ⟨x96_59, 0, none⟩) 1 (S.e rfl) (show LAt lnkE _ _ (some ⟨x96_59, 0, none⟩) ([(⟨x88_60, (1 + r_47), (([1, 2, 3, 1000]).getD ((x92_62).toNat) intE.dflt)⟩ : Lnk)]) from (X59).1) (X59).2.2 (LAt.mem (show LAt lnkE _ _ (some ⟨x96_59, 0, none⟩) ([(⟨x88_60, (1 + r_47), (([1, 2, 3, 1000]).getD ((x92_62).toNat) intE.dflt)⟩ : Lnk)]) from (X59).1)) (by unfold maxLen; (try simp only [List.length_cons, List.length_nil, List.length_append, List.length_map]); omega) (by (try simp only [List.length_cons, List.length_nil, List.length_append, List.length_map]); omega) (C.size) ?_)
  intro ad64 cap64 w61 Rn TT G
  have S1 := S.put (d := 97) (v := .slice ad64 (l2 ++ [(⟨x88_60, (1 + r_47), (([1, 2, 3, 1000]).getD ((x92_62).toNat) intE.dflt)⟩ : Lnk)]).length cap64) (by decide); clear S; revert S1; generalize Act.put a _ _ = a1; intro S; clear a; rename Act => a
  replace TT : Tr [abk ds_a, abk l2_a, one b2, one b1, one T] w60 [abk ds_a, abk ad64, one b2, one b1, one T] w61 := TT; replace Rn : Row lnkE 54 w.heap.size F [abk ds_a, abk ad64, one b2, one b1, one T] w61 ad64 cap64 (l2 ++ [(⟨x88_60, (1 + r_47), (([1, 2, 3, 1000]).getD ((x92_62).toNat) intE.dflt)⟩ : Lnk)]) := Rn
  replace T_w := Enc.tr (slE intE) T_w TT
  replace T_K := TpB.tr T_K G (C.ms.sep.out 4 [1] rfl rfl rfl)
  replace K1 := Blk.tr K1 G (C.ms.sep.out 3 [1] rfl rfl rfl)
  replace K2 := Blk.tr K2 G (C.ms.sep.out 2 [1] rfl rfl rfl)
  replace W4 := Row.tr W4 TT G (fun k e => C.ms.sep.out 0 [1] rfl rfl e)
  replace X59 := Enc.tr (slE lnkE) X59 TT
  replace X61 := Enc.tr (slE intE) X61 TT
  replace GL0 := GL0.trans TT
  replace GL1 := GL1.trans TT
  replace C := C.trans TT
  clear W5; have W5 := Rn; clear Rn TT G
  refine qv S (pT b2 (0 + 1)) (x_fld (z := 0) (0) 1 Try.underlying28 rfl rfl (by kernel_rfl) (S.e rfl)) ?_; clear S a; intro a S
  refine seq_store S rfl rfl [.slice ds_a ds.length ds_c, .slice ad64 ((l2 ++ [(⟨x88_60, (1 + r_47), (([1, 2, 3, 1000]).getD ((x92_62).toNat) intE.dflt)⟩ : Lnk)]).length) cap64, .slice none 0 0, .slice none 0 0, iI 0] (x_store (by kernel_rfl) (S.e rfl) (S.e rfl) rfl K2 (o := 0 + 1) (u := .slice l2_a l2.length l2_c) rfl) K2 rfl ?_
  clear S a; intro a w62 G hz K S; clear hz; have TT := Tr.och C.ms G
  replace T_w := Enc.tr (slE intE) T_w TT
  replace T_K := TpB.tr T_K G (C.ms.sep.out 4 [2] rfl rfl rfl)
  replace K1 := Blk.tr K1 G (C.ms.sep.out 3 [2] rfl rfl rfl)
  replace W4 := Row.tr W4 TT G (fun k e => C.ms.sep.out 0 [2] rfl rfl e)
  replace W5 := Row.tr W5 TT G (fun k e => C.ms.sep.out 1 [2] rfl rfl e)
  replace X59 := Enc.tr (slE lnkE) X59 TT
  replace X61 := Enc.tr (slE intE) X61 TT
  replace GL0 := GL0.trans TT
  replace GL1 := GL1.trans TT
  replace C := C.trans TT
  clear K2; have K2 := K; clear K TT G
  refine wpList_nil ?_
  refine blk_n ?_
  refine then_n ?_
  refine wp_region_lit ?_
  refine qm S rfl ?_; clear S a; intro a S
  refine qv S (iI (c - 1)) (x_sub (S.e rfl) (S.e rfl) (r := (c - 1)) (w_i64 (by omega))) ?_; clear S a; intro a S
  refine qa S rfl ?_; clear S a; intro a S
  refine qt ?_
  refine ⟨(c - 1).toNat, ?_, (c - 1), ad64, cap64, (l2 ++ [(⟨x88_60, (1 + r_47), (([1, 2, 3, 1000]).getD ((x92_62).toNat) intE.dflt)⟩ : Lnk)]), S.sub ⟨rfl, rfl, rfl, rfl, rfl, trivial⟩, GL1, ?_, T_K, K1, K2, W4, W5, rfl⟩
  ·omega
  exact ⟨by omega, by omega, by first | omega | (simp only [List.length_append, List.length_cons, List.length_nil]; omega), all_snoc hl2 (lnk_mk (by omega) (by omega) (by omega) (costs_fine _ (by omega)))⟩
 intro hc5
 refine wp_exit ?_
 refine then_e ?_
 refine then_e ?_
 refine blk_e ?_
 refine then_n ?_
 refine qs ?_
 refine seq_new S rfl rfl (by decide) (fun b => .slice (some ⟨b, 0, none⟩) 6 6) (cs := [iI 2, iI 3, iI 4, iI 1, iI 5, iI 0]) (x_bsl [(0, iI 2), (1, iI 3), (2, iI 4), (3, iI 1), (4, iI 5), (5, iI 0)] [iI 2, iI 3, iI 4, iI 1, iI 5, iI 0] Try.underlying22 infoz_3 (by decide) (by decide) (by simp only [List.map_cons, List.map_nil, show a.eval (.const (iI 2)) = iI 2 from (S.e rfl), show a.eval (.const (iI 3)) = iI 3 from (S.e rfl), show a.eval (.const (iI 4)) = iI 4 from (S.e rfl), show a.eval (.const (iI 1)) = iI 1 from (S.e rfl), show a.eval (.const (iI 5)) = iI 5 from (S.e rfl), show a.eval (.const (iI 0)) = iI 0 from (S.e rfl)]) (by kernel_rfl)) ?_
 clear S a; intro a w63 b65 hb65 hbs65 G K65 S; have hbl65 : b65 < w63.heap.size := by omega
 have we65_0 : intE.wf (Fr F [abk ds_a, abk l2_a, one b2, one b1, one T]) w45.heap 2 := (show inI64 2 from ⟨by omega, by omega⟩)
 have we65_1 : intE.wf (Fr F [abk ds_a, abk l2_a, one b2, one b1, one T]) w45.heap 3 := (show inI64 3 from ⟨by omega, by omega⟩)
 have we65_2 : intE.wf (Fr F [abk ds_a, abk l2_a, one b2, one b1, one T]) w45.heap 4 := (show inI64 4 from ⟨by omega, by omega⟩)
 have we65_3 : intE.wf (Fr F [abk ds_a, abk l2_a, one b2, one b1, one T]) w45.heap 1 := (show inI64 1 from ⟨by omega, by omega⟩)
 have we65_4 : intE.wf (Fr F [abk ds_a, abk l2_a, one b2, one b1, one T]) w45.heap 5 := (show inI64 5 from ⟨by omega, by omega⟩)
 have we65_5 : intE.wf (Fr F [abk ds_a, abk l2_a, one b2, one b1, one T]) w45.heap 0 := (show inI64 0 from ⟨by omega, by omega⟩)
 have hfr65 := fr_fresh C hF hb65; have TT := Tr.of_ch0 C.ms G
 replace T_w := Enc.tr (slE intE) T_w TT
 replace T_K := TpB.tr0 T_K G
 replace K1 := Blk.tr0 K1 G
 replace K2 := Blk.tr0 K2 G
 replace W4 := Row.tr0 W4 TT G
 replace W5 := Row.tr0 W5 TT G
 replace GL0 := GL0.trans TT
 replace GL1 := GL1.trans TT
 replace C := C.trans TT
 have KS65 : (slE intE).wf (Fr F [abk ds_a, abk l2_a, one b2, one b1, one T]) w63.heap ⟨some ⟨b65, 0, none⟩, 6, [2, 3, 4, 1, 5, 0]⟩ := sl_of_blk K65 [2, 3, 4, 1, 5, 0] 6 rfl (by decide) (by decide) rfl hfr65 (by intro x hx; simp only [List.mem_cons, List.not_mem_nil, or_false] at hx; rcases hx with rfl | rfl | rfl | rfl | rfl | rfl <;> first | exact Enc.tr (intE) we65_0 TT | exact Enc.tr (intE) we65_1 TT | exact Enc.tr (intE) we65_2 TT | exact Enc.tr (intE) we65_3 TT | exact Enc.tr (intE) we65_4 TT | exact Enc.tr (intE) we65_5 TT)
 clear K65 hfr65 TT G we65_0 we65_1 we65_2 we65_3 we65_4 we65_5
 refine qm S rfl ?_; clear S a; intro a S
 refine seq_call S (by decide) (vs := #[pT T 0, iI 6]) rfl callable_23 (gNext _ (Ex F _) (C.old hF) T (C.ms.picks [4] (by decide)) T_l ((slE intE).dn T_w) T_K 6 ⟨by omega, by omega⟩) ?_
 rintro e w64 ⟨r_66, rfl, hr_66, tT_K, T0⟩; refine ⟨_, rfl, ?_⟩; clear S a; intro a S
 have TT := Tr.fra C.ms T0; have G := T0.ch
 replace T_w := Enc.tr (slE intE) T_w TT
 replace K1 := Blk.tr K1 G (C.ms.sep.out 3 [4] rfl rfl rfl)
 replace K2 := Blk.tr K2 G (C.ms.sep.out 2 [4] rfl rfl rfl)
 replace W4 := Row.tr W4 TT G (fun k e => C.ms.sep.out 0 [4] rfl rfl e)
 replace W5 := Row.tr W5 TT G (fun k e => C.ms.sep.out 1 [4] rfl rfl e)
 replace KS65 := Enc.tr (slE intE) KS65 TT
 replace GL0 := GL0.trans TT
 replace GL1 := GL1.trans TT
 replace C := C.trans TT
 clear T_K; have T_K := tT_K; clear tT_K
 clear T0 G TT
 refine qv S (pT (blk (some ⟨b65, 0, none⟩)) (off (some ⟨b65, 0, none⟩) + (r_66).toNat * 1)) (x_idx Try.underlying22 (by kernel_rfl) (S.e rfl) (S.e rfl) (r_66).toNat (by omega) (by first | omega | (simp only [List.length_cons, List.length_nil]; omega)) ((show LAt intE _ _ (some ⟨b65, 0, none⟩) ([2, 3, 4, 1, 5, 0]) from (KS65).1).adr (i := (r_66).toNat) (by first | omega | (simp only [List.length_cons, List.length_nil]; omega)))) ?_; clear S a; intro a S
 obtain ⟨hl67, hu67⟩ : inI64 (([2, 3, 4, 1, 5, 0]).getD ((r_66).toNat) intE.dflt) := id ((show LAt intE _ _ (some ⟨b65, 0, none⟩) ([2, 3, 4, 1, 5, 0]) from (KS65).1).wf (r_66).toNat (by first | omega | (simp only [List.length_cons, List.length_nil]; omega)))
 refine qv S (iI (([2, 3, 4, 1, 5, 0]).getD ((r_66).toNat) intE.dflt)) (x_load ⟨_, Try.underlying3, rfl⟩ (S.e rfl) ((show LAt intE _ _ (some ⟨b65, 0, none⟩) ([2, 3, 4, 1, 5, 0]) from (KS65).1).cell (r_66).toNat (by first | omega | (simp only [List.length_cons, List.length_nil]; omega)) 0 _ rfl)) ?_; clear S a; intro a S
 have h103 : 0 ≤ (([2, 3, 4, 1, 5, 0]).getD ((r_66).toNat) intE.dflt) ∧ (([2, 3, 4, 1, 5, 0]).getD ((r_66).toNat) intE.dflt) ≤ 5 := counts_fine _
 refine qa S rfl ?_; clear S a; intro a S
 refine qt ?_
 refine wp_seq ?_
 refine qs ?_
 refine qa S rfl ?_; clear S a; intro a S
 refine qt ?_
 refine wp_block ?_
 have W68 := Row.nil edgE 71 w.heap.size F [abk none, abk ds_a, abk l2_a, one b2, one b1, one T] w64
 have TT : Tr [abk ds_a, abk l2_a, one b2, one b1, one T] w64 [abk none, abk ds_a, abk l2_a, one b2, one b1, one T] w64 := (Tr.refl C.ms).cons (b := abk none) (fun k e => absurd e abk_none); have G : Ch (In []) w64 w64 := Ch.refl _
 replace T_w := Enc.tr (slE intE) T_w TT
 replace T_K := TpB.tr0 T_K G
 replace K1 := Blk.tr0 K1 G
 replace K2 := Blk.tr0 K2 G
 replace W4 := Row.tr0 W4 TT G
 replace W5 := Row.tr0 W5 TT G
 replace KS65 := Enc.tr (slE intE) KS65 TT
 replace GL0 := GL0.trans TT
 replace GL1 := GL1.trans TT
 replace C := C.trans TT
 clear TT G
 refine wp_loop_ghost (fun m a wr => ∃ k : Nat, ∃ es_a : Option Addr, ∃ es_c : Nat, ∃ es : List Edg, Slots 154 [(0, pT T 0), (1, iN nn), (4, pT b1 0), (5, pT b2 0), (10, iI (([2, 3, 4, 1, 5, 0]).getD ((r_66).toNat) intE.dflt)), (11, iN k)] a ∧ Tr [abk none, abk ds_a, abk l2_a, one b2, one b1, one T] w64 [abk es_a, abk ds_a, abk l2_a, one b2, one b1, one T] wr ∧ (k ≤ 5 ∧ es.length = k ∧ ∀ j, j < k → okEdg nn j (es.getD j edgE.dflt)) ∧ TpB 62 T T_l wr ∧ Blk wr.heap b1 [.slice none 0 0, .slice none 0 0, .slice none 0 0, .slice none 0 0, iI 0] 28 ∧ Blk wr.heap b2 [.slice ds_a ds.length ds_c, .slice l2_a l2.length l2_c, .slice es_a es.length es_c, .slice none 0 0, iI 0] 28 ∧ Row devE 65 w.heap.size F [abk es_a, abk ds_a, abk l2_a, one b2, one b1, one T] wr ds_a ds_c ds ∧ Row lnkE 54 w.heap.size F [abk es_a, abk ds_a, abk l2_a, one b2, one b1, one T] wr l2_a l2_c l2 ∧ Row edgE 71 w.heap.size F [abk es_a, abk ds_a, abk l2_a, one b2, one b1, one T] wr es_a es_c es ∧ (5 - k) = m) (5 - 0) ?_ ?_
 ·refine ⟨0, none, 0, [], S.sub ⟨rfl, rfl, rfl, rfl, rfl, rfl, trivial⟩, Tr.refl C.ms, ?_, T_K, K1, K2, W4, W5, W68, rfl⟩
  exact ⟨Nat.zero_le _, rfl, fun j h => absurd h (Nat.not_lt_zero _)⟩
 rintro m a w65 ⟨k, es_a, es_c, es, S, G, hR, T_K', K1', K2', W4', W5', W68', rfl⟩
 clear T_K; have T_K := T_K'; clear T_K'
 clear K1; have K1 := K1'; clear K1'
 clear K2; have K2 := K2'; clear K2'
 clear W4; have W4 := W4'; clear W4'
 clear W5; have W5 := W5'; clear W5'
 clear W68; have W68 := W68'; clear W68'
 replace T_w := Enc.tr (slE intE) T_w G
 replace KS65 := Enc.tr (slE intE) KS65 G
 replace GL0 := GL0.trans G
 replace GL1 := GL1.trans G
 replace C := C.trans G
 have GL2 := G; clear G
 have es_len := W68.len_le; simp only [maxLen] at es_len
 obtain ⟨hk, hel, he⟩ := hR
 refine wp_seq ?_
 refine qs ?_
 refine qm S rfl ?_; clear S a; intro a S
 refine qm S rfl ?_; clear S a; intro a S
 refine qv S (bD (((k : Nat) : Int) < (([2, 3, 4, 1, 5, 0]).getD ((r_66).toNat) intE.dflt))) (x_lss (S.e rfl) (S.e rfl)) ?_; clear S a; intro a S
 refine qt ?_
 refine cond_dec S rfl ?_ ?_
 ·intro hc6
  refine wp_skip ?_
  refine then_n ?_
  refine wp_seq ?_
  refine wp_block ?_
  replace S := S.sub (L' := [(0, pT T 0), (1, iN nn), (4, pT b1 0), (5, pT b2 0), (10, iI (([2, 3, 4, 1, 5, 0]).getD ((r_66).toNat) intE.dflt)), (11, iN k), (104, iN k), (105, iI (([2, 3, 4, 1, 5, 0]).getD ((r_66).toNat) intE.dflt)), (106, bD (((k : Nat) : Int) < (([2, 3, 4, 1, 5, 0]).getD ((r_66).toNat) intE.dflt)))]) ⟨rfl, rfl, rfl, rfl, rfl, rfl, rfl, rfl, rfl, trivial⟩
  refine wp_heads (M := In [one T]) S 18 [(109, isV (In [one T]) (pT b2 (0 + 2))), (110, isV (In [one T]) (.slice es_a es.length es_c)), (111, ⟨fun u w => ∃ (x111a : Nat), u = .slice (some ⟨x111a, 0, none⟩) 5 5 ∧ (slE strE).wf (Fr F [abk es_a, abk ds_a, abk l2_a, one b2, one b1, one T]) w.heap (Sl.mk (some ⟨x111a, 0, none⟩) 5 ([⟨#[101, 49]⟩, ⟨#[101, 50]⟩, ⟨#[101, 51]⟩, ⟨#[101, 52]⟩, ⟨#[101, 53]⟩] : List ByteArray)), fun v w w' c h => let ⟨x111a, hv, h0⟩ := h; ⟨x111a, hv, Enc.kp (slE strE) h0 c (by intro o h; simp at h ⊢; first | exact .inl h | simp [h])⟩⟩), (112, isV (In [one T]) (iN k)), (113, ⟨fun u w => ∃ (x111a : Nat), u = pT (blk (some ⟨x111a, 0, none⟩)) (off (some ⟨x111a, 0, none⟩) + k * 1) ∧ (slE strE).wf (Fr F [abk es_a, abk ds_a, abk l2_a, one b2, one b1, one T]) w.heap (Sl.mk (some ⟨x111a, 0, none⟩) 5 ([⟨#[101, 49]⟩, ⟨#[101, 50]⟩, ⟨#[101, 51]⟩, ⟨#[101, 52]⟩, ⟨#[101, 53]⟩] : List ByteArray)), fun v w w' c h => let ⟨x111a, hv, h0⟩ := h; ⟨x111a, hv, Enc.kp (slE strE) h0 c (by intro o h; simp at h ⊢; first | exact .inl h | simp [h])⟩⟩), (114, ⟨fun u w => ∃ (x111a : Nat), u = .string (([⟨#[101, 49]⟩, ⟨#[101, 50]⟩, ⟨#[101, 51]⟩, ⟨#[101, 52]⟩, ⟨#[101, 53]⟩] : List ByteArray).getD k strE.dflt) ∧ (slE strE).wf (Fr F [abk es_a, abk ds_a, abk l2_a, one b2, one b1, one T]) w.heap (Sl.mk (some ⟨x111a, 0, none⟩) 5 ([⟨#[101, 49]⟩, ⟨#[101, 50]⟩, ⟨#[101, 51]⟩, ⟨#[101, 52]⟩, ⟨#[101, 53]⟩] : List ByteArray)), fun v w w' c h => let ⟨x111a, hv, h0⟩ := h; ⟨x111a, hv, Enc.kp (slE strE) h0 c (by intro o h; simp at h ⊢; first | exact .inl h | simp [h])⟩⟩), (115, isV (In [one T]) (pT T 0)), (116, isV (In [one T]) (iN nn)), (117, ⟨fun u w => ∃ (x117a : Int), u = iI x117a ∧ (0 ≤ x117a ∧ (x117a < ((nn : Nat) : Int) ∨ x117a = 0)), fun v w w' c h => let ⟨x117a, hv, h0⟩ := h; ⟨x117a, hv, h0⟩⟩), (118, ⟨fun u w => ∃ (x118a : Nat), u = .slice (some ⟨x118a, 0, none⟩) 3 3 ∧ (slE strE).wf (Fr F [abk es_a, abk ds_a, abk l2_a, one b2, one b1, one T]) w.heap (Sl.mk (some ⟨x118a, 0, none⟩) 3 ([⟨#[108, 97, 110]⟩, ⟨#[100, 109, 122]⟩, ⟨#[110, 101, 116]⟩] : List ByteArray)), fun v w w' c h => let ⟨x118a, hv, h0⟩ := h; ⟨x118a, hv, Enc.kp (slE strE) h0 c (by intro o h; simp at h ⊢; first | exact .inl h | simp [h])⟩⟩), (119, isV (In [one T]) (pT T 0)), (120, ⟨fun u w => ∃ (x120a : Int), u = iI x120a ∧ (0 ≤ x120a ∧ (x120a < 3 ∨ x120a = 0)), fun v w w' c h => let ⟨x120a, hv, h0⟩ := h; ⟨x120a, hv, h0⟩⟩), (121, ⟨fun u w => ∃ (x118a : Nat) (x120b : Int), u = pT (blk (some ⟨x118a, 0, none⟩)) (off (some ⟨x118a, 0, none⟩) + (x120b).toNat * 1) ∧ (slE strE).wf (Fr F [abk es_a, abk ds_a, abk l2_a, one b2, one b1, one T]) w.heap (Sl.mk (some ⟨x118a, 0, none⟩) 3 ([⟨#[108, 97, 110]⟩, ⟨#[100, 109, 122]⟩, ⟨#[110, 101, 116]⟩] : List ByteArray)) ∧ (0 ≤ x120b ∧ (x120b < 3 ∨ x120b = 0)), fun v w w' c h => let ⟨x118a, x120b, hv, h0, h1⟩ := h; ⟨x118a, x120b, hv, Enc.kp (slE strE) h0 c (by intro o h; simp at h ⊢; first | exact .inl h | simp [h]), h1⟩⟩), (122, ⟨fun u w => ∃ (x118a : Nat) (x120b : Int), u = .string (([⟨#[108, 97, 110]⟩, ⟨#[100, 109, 122]⟩, ⟨#[110, 101, 116]⟩] : List ByteArray).getD ((x120b).toNat) strE.dflt) ∧ (slE strE).wf (Fr F [abk es_a, abk ds_a, abk l2_a, one b2, one b1, one T]) w.heap (Sl.mk (some ⟨x118a, 0, none⟩) 3 ([⟨#[108, 97, 110]⟩, ⟨#[100, 109, 122]⟩, ⟨#[110, 101, 116]⟩] : List ByteArray)) ∧ (0 ≤ x120b ∧ (x120b < 3 ∨ x120b = 0)), fun v w w' c h => let ⟨x118a, x120b, hv, h0, h1⟩ := h; ⟨x118a, x120b, hv, Enc.kp (slE strE) h0 c (by intro o h; simp at h ⊢; first | exact .inl h | simp [h]), h1⟩⟩), (123, isV (In [one T]) (iN k)), (124, ⟨fun u w => ∃ (x124a : Pfx), u = .agg #[.int .u32 x124a.addr, iI x124a.bits] ∧ (pfxE).wf (Fr F [abk es_a, abk ds_a, abk l2_a, one b2, one b1, one T]) w.heap x124a ∧ x124a = subnet ((k : Nat) : Int), fun v w w' c h => let ⟨x124a, hv, h0, h1⟩ := h; ⟨x124a, hv, Enc.kp (pfxE) h0 c (by intro o h; simp at h ⊢; first | exact .inl h | simp [h]), h1⟩⟩), (125, ⟨fun u w => ∃ (x111a : Nat) (x117b : Int) (x118c : Nat) (x120d : Int) (x124e : Pfx), u = .agg #[.string (([⟨#[101, 49]⟩, ⟨#[101, 50]⟩, ⟨#[101, 51]⟩, ⟨#[101, 52]⟩, ⟨#[101, 53]⟩] : List ByteArray).getD k strE.dflt), iI x117b, .string (([⟨#[108, 97, 110]⟩, ⟨#[100, 109, 122]⟩, ⟨#[110, 101, 116]⟩] : List ByteArray).getD ((x120d).toNat) strE.dflt), .int .u32 x124e.addr, iI x124e.bits, .bool false] ∧ (slE strE).wf (Fr F [abk es_a, abk ds_a, abk l2_a, one b2, one b1, one T]) w.heap (Sl.mk (some ⟨x111a, 0, none⟩) 5 ([⟨#[101, 49]⟩, ⟨#[101, 50]⟩, ⟨#[101, 51]⟩, ⟨#[101, 52]⟩, ⟨#[101, 53]⟩] : List ByteArray)) ∧ (0 ≤ x117b ∧ (x117b < ((nn : Nat) : Int) ∨ x117b = 0)) ∧ (slE strE).wf (Fr F [abk es_a, abk ds_a, abk l2_a, one b2, one b1, one T]) w.heap (Sl.mk (some ⟨x118c, 0, none⟩) 3 ([⟨#[108, 97, 110]⟩, ⟨#[100, 109, 122]⟩, ⟨#[110, 101, 116]⟩] : List ByteArray)) ∧ (0 ≤ x120d ∧ (x120d < 3 ∨ x120d = 0)) ∧ (pfxE).wf (Fr F [abk es_a, abk ds_a, abk l2_a, one b2, one b1, one T]) w.heap x124e ∧ x124e = subnet ((k : Nat) : Int), fun v w w' c h => let ⟨x111a, x117b, x118c, x120d, x124e, hv, h0, h1, h2, h3, h4, h5⟩ := h; ⟨x111a, x117b, x118c, x120d, x124e, hv, Enc.kp (slE strE) h0 c (by intro o h; simp at h ⊢; first | exact .inl h | simp [h]), h1, Enc.kp (slE strE) h2 c (by intro o h; simp at h ⊢; first | exact .inl h | simp [h]), h3, Enc.kp (pfxE) h4 c (by intro o h; simp at h ⊢; first | exact .inl h | simp [h]), h5⟩⟩), (126, ⟨fun u w => ∃ (x126a : Nat) (x111b : Nat) (x117c : Int) (x118d : Nat) (x120e : Int) (x124f : Pfx), u = .slice (some ⟨x126a, 0, none⟩) 1 1 ∧ (slE edgE).wf (Fr F [abk es_a, abk ds_a, abk l2_a, one b2, one b1, one T]) w.heap (Sl.mk (some ⟨x126a, 0, none⟩) 1 ([(⟨(([⟨#[101, 49]⟩, ⟨#[101, 50]⟩, ⟨#[101, 51]⟩, ⟨#[101, 52]⟩, ⟨#[101, 53]⟩] : List ByteArray).getD k strE.dflt), x117c, (([⟨#[108, 97, 110]⟩, ⟨#[100, 109, 122]⟩, ⟨#[110, 101, 116]⟩] : List ByteArray).getD ((x120e).toNat) strE.dflt), x124f, false⟩ : Edg)])) ∧ (slE strE).wf (Fr F [abk es_a, abk ds_a, abk l2_a, one b2, one b1, one T]) w.heap (Sl.mk (some ⟨x111b, 0, none⟩) 5 ([⟨#[101, 49]⟩, ⟨#[101, 50]⟩, ⟨#[101, 51]⟩, ⟨#[101, 52]⟩, ⟨#[101, 53]⟩] : List ByteArray)) ∧ (0 ≤ x117c ∧ (x117c < ((nn : Nat) : Int) ∨ x117c = 0)) ∧ (slE strE).wf (Fr F [abk es_a, abk ds_a, abk l2_a, one b2, one b1, one T]) w.heap (Sl.mk (some ⟨x118d, 0, none⟩) 3 ([⟨#[108, 97, 110]⟩, ⟨#[100, 109, 122]⟩, ⟨#[110, 101, 116]⟩] : List ByteArray)) ∧ (0 ≤ x120e ∧ (x120e < 3 ∨ x120e = 0)) ∧ (pfxE).wf (Fr F [abk es_a, abk ds_a, abk l2_a, one b2, one b1, one T]) w.heap x124f ∧ x124f = subnet ((k : Nat) : Int), fun v w w' c h => let ⟨x126a, x111b, x117c, x118d, x120e, x124f, hv, h0, h1, h2, h3, h4, h5, h6⟩ := h; ⟨x126a, x111b, x117c, x118d, x120e, x124f, hv, Enc.kp (slE edgE) h0 c (by intro o h; simp at h ⊢; first | exact .inl h | simp [h]), Enc.kp (slE strE) h1 c (by intro o h; simp at h ⊢; first | exact .inl h | simp [h]), h2, Enc.kp (slE strE) h3 c (by intro o h; simp at h ⊢; first | exact .inl h | simp [h]), h4, Enc.kp (pfxE) h5 c (by intro o h; simp at h ⊢; first | exact .inl h | simp [h]), h6⟩⟩)] (fun w => TpB 62 T T_l w) [[], [109], [], [], [111, 112], [113], [], [], [115, 116], [], [], [119], [118, 120], [121], [], [123], [114, 117, 122, 124], [125]] [110, 126] _ rfl mixed (by kernel_rfl) rfl T_K ?_ ?_
  ·refine ⟨?_, ?_, ?_, ?_, ?_, ?_, ?_, ?_, ?_, ?_, ?_, ?_, ?_, ?_, ?_, ?_, ?_, ?_, trivial⟩
   ·intro a w66 G I S hE
    have TT := Tr.och C.ms G
    replace T_K := I
    replace K2 := Blk.tr K2 G (C.ms.sep.out 3 [5] rfl rfl rfl)
    replace W4 := Row.tr W4 TT G (fun k e => C.ms.sep.out 1 [5] rfl rfl e)
    replace W5 := Row.tr W5 TT G (fun k e => C.ms.sep.out 2 [5] rfl rfl e)
    replace W68 := Row.tr W68 TT G (fun k e => C.ms.sep.out 0 [5] rfl rfl e)
    replace C := C.trans TT
    exact qo (pT b2 (0 + 2)) (x_fld (z := 0) (0) 2 Try.underlying28 rfl rfl (by kernel_rfl) (S.e rfl)) I
   ·intro a w67 G I S hE
    have TT := Tr.och C.ms G
    replace T_K := I
    replace K2 := Blk.tr K2 G (C.ms.sep.out 3 [5] rfl rfl rfl)
    replace W4 := Row.tr W4 TT G (fun k e => C.ms.sep.out 1 [5] rfl rfl e)
    replace W5 := Row.tr W5 TT G (fun k e => C.ms.sep.out 2 [5] rfl rfl e)
    replace W68 := Row.tr W68 TT G (fun k e => C.ms.sep.out 0 [5] rfl rfl e)
    replace C := C.trans TT
    obtain ⟨e109, _⟩ := hE
    replace S := S.ext e109
    exact qo (.slice es_a es.length es_c) (x_load ⟨_, Try.underlying25, rfl⟩ (S.e rfl) (K2.cell (j := 2) rfl)) I
   ·intro a w68 G I S hE
    have TT := Tr.och C.ms G
    replace T_K := I
    replace C := C.trans TT
    refine head_op rfl rfl (op_val (v := .slice (some ⟨_, 0, none⟩) 5 5) (x_bsl [(0, .string (⟨#[101, 49]⟩)), (1, .string (⟨#[101, 50]⟩)), (2, .string (⟨#[101, 51]⟩)), (3, .string (⟨#[101, 52]⟩)), (4, .string (⟨#[101, 53]⟩))] [.string (⟨#[101, 49]⟩), .string (⟨#[101, 50]⟩), .string (⟨#[101, 51]⟩), .string (⟨#[101, 52]⟩), .string (⟨#[101, 53]⟩)] Try.underlying63 infoz_9 (by decide) (by decide) (by simp only [List.map_cons, List.map_nil, show a.eval (.const (.string (⟨#[101, 49]⟩))) = .string (⟨#[101, 49]⟩) from (S.e rfl), show a.eval (.const (.string (⟨#[101, 50]⟩))) = .string (⟨#[101, 50]⟩) from (S.e rfl), show a.eval (.const (.string (⟨#[101, 51]⟩))) = .string (⟨#[101, 51]⟩) from (S.e rfl), show a.eval (.const (.string (⟨#[101, 52]⟩))) = .string (⟨#[101, 52]⟩) from (S.e rfl), show a.eval (.const (.string (⟨#[101, 53]⟩))) = .string (⟨#[101, 53]⟩) from (S.e rfl)]) (by kernel_rfl)) ?_)
    refine Done.mk' rfl (by decide) (show ∃ _, _ from ⟨_, rfl, sl_of_blk (Blk.new _ [.string (⟨#[101, 49]⟩), .string (⟨#[101, 50]⟩), .string (⟨#[101, 51]⟩), .string (⟨#[101, 52]⟩), .string (⟨#[101, 53]⟩)] 9) ([⟨#[101, 49]⟩, ⟨#[101, 50]⟩, ⟨#[101, 51]⟩, ⟨#[101, 52]⟩, ⟨#[101, 53]⟩] : List ByteArray) 5 rfl (by decide) (by decide) rfl (fr_fresh C hF rfl) ?_⟩) ((ch_alloc _ _).mono (fun k hk => by simp [In] at hk)) (TpB.tr0 I (ch_alloc _ _))
    intro x hx; simp only [List.mem_cons, List.not_mem_nil, or_false] at hx; rcases hx with rfl | rfl | rfl | rfl | rfl <;> first | exact Enc.tr (strE) (show strE.wf (Fr F [abk es_a, abk ds_a, abk l2_a, one b2, one b1, one T]) _ (⟨#[101, 49]⟩) from (by show _ ≤ maxLen; unfold maxLen; decide)) (Tr.of_ch0 C.ms (ch_alloc _ _)) | exact Enc.tr (strE) (show strE.wf (Fr F [abk es_a, abk ds_a, abk l2_a, one b2, one b1, one T]) _ (⟨#[101, 50]⟩) from (by show _ ≤ maxLen; unfold maxLen; decide)) (Tr.of_ch0 C.ms (ch_alloc _ _)) | exact Enc.tr (strE) (show strE.wf (Fr F [abk es_a, abk ds_a, abk l2_a, one b2, one b1, one T]) _ (⟨#[101, 51]⟩) from (by show _ ≤ maxLen; unfold maxLen; decide)) (Tr.of_ch0 C.ms (ch_alloc _ _)) | exact Enc.tr (strE) (show strE.wf (Fr F [abk es_a, abk ds_a, abk l2_a, one b2, one b1, one T]) _ (⟨#[101, 52]⟩) from (by show _ ≤ maxLen; unfold maxLen; decide)) (Tr.of_ch0 C.ms (ch_alloc _ _)) | exact Enc.tr (strE) (show strE.wf (Fr F [abk es_a, abk ds_a, abk l2_a, one b2, one b1, one T]) _ (⟨#[101, 53]⟩) from (by show _ ≤ maxLen; unfold maxLen; decide)) (Tr.of_ch0 C.ms (ch_alloc _ _))
   ·intro a w69 G I S hE
    have TT := Tr.och C.ms G
    replace T_K := I
    replace C := C.trans TT
    exact qo (iN k) (x_move (S.e rfl)) I
   ·intro a w70 G I S hE
    have TT := Tr.och C.ms G
    replace T_K := I
    replace C := C.trans TT
    obtain ⟨e111, e112, _⟩ := hE
    obtain ⟨x111_69, e111, X69⟩ := e111
    replace S := S.ext e111
    replace S := S.ext e112
    exact head_op rfl rfl (op_val (v := pT (blk (some ⟨x111_69, 0, none⟩)) (off (some ⟨x111_69, 0, none⟩) + k * 1)) (x_idx Try.underlying63 (by kernel_rfl) (S.e rfl) (S.e rfl) k rfl (by first | omega | (simp only [List.length_cons, List.length_nil]; omega)) ((show LAt strE _ _ (some ⟨x111_69, 0, none⟩) ([⟨#[101, 49]⟩, ⟨#[101, 50]⟩, ⟨#[101, 51]⟩, ⟨#[101, 52]⟩, ⟨#[101, 53]⟩] : List ByteArray) from (X69).1).adr (i := k) (by first | omega | (simp only [List.length_cons, List.length_nil]; omega)))) (Done.same rfl (by decide) (show ∃ _, _ from ⟨x111_69, rfl, X69⟩) I))
   ·intro a w71 G I S hE
    have TT := Tr.och C.ms G
    replace T_K := I
    replace C := C.trans TT
    obtain ⟨e113, _⟩ := hE
    obtain ⟨x111_70, e113, X70⟩ := e113
    replace S := S.ext e113
    exact head_op rfl rfl (op_val (v := .string (([⟨#[101, 49]⟩, ⟨#[101, 50]⟩, ⟨#[101, 51]⟩, ⟨#[101, 52]⟩, ⟨#[101, 53]⟩] : List ByteArray).getD k strE.dflt)) (x_load ⟨_, Try.underlying9, rfl⟩ (S.e rfl) ((show LAt strE _ _ (some ⟨x111_70, 0, none⟩) ([⟨#[101, 49]⟩, ⟨#[101, 50]⟩, ⟨#[101, 51]⟩, ⟨#[101, 52]⟩, ⟨#[101, 53]⟩] : List ByteArray) from (X70).1).cell k (by first | omega | (simp only [List.length_cons, List.length_nil]; omega)) 0 _ rfl)) (Done.same rfl (by decide) (show ∃ _, _ from ⟨x111_70, rfl, X70⟩) I))
   ·intro a w72 G I S hE
    have TT := Tr.och C.ms G
    replace T_w := Enc.tr (slE intE) T_w TT
    replace T_K := I
    replace C := C.trans TT
    exact qo (pT T 0) (x_move (S.e rfl)) I
   ·intro a w73 G I S hE
    have TT := Tr.och C.ms G
    replace T_K := I
    replace C := C.trans TT
    exact qo (iN nn) (x_move (S.e rfl)) I
   ·intro a w74 G I S hE
    have TT := Tr.och C.ms G
    replace T_w := Enc.tr (slE intE) T_w TT
    replace T_K := I
    replace C := C.trans TT
    obtain ⟨e115, e116, _⟩ := hE
    replace S := S.ext e115
    replace S := S.ext e116
    refine head_op rfl rfl (op_call (vs := #[pT T 0, iN nn]) (by simp only [List.map_toArray, List.map_cons, List.map_nil, show a.eval (.tmp 115) = pT T 0 from (S.e rfl), show a.eval (.tmp 116) = iN nn from (S.e rfl)]) callable_23 (gNext _ (Ex F _) (C.old hF) T (C.ms.picks [5] (by decide)) T_l ((slE intE).dn T_w) T_K ((nn : Nat) : Int) ⟨by omega, by omega⟩) ?_)
    rintro e w2 ⟨r_h117, rfl, hr_h117, tK0, T0⟩; refine ⟨_, rfl, Done.mk' rfl (by decide) (show ∃ _, _ from ?_) T0.ch tK0⟩
    exact ⟨r_h117, rfl, hr_h117⟩
   ·intro a w75 G I S hE
    have TT := Tr.och C.ms G
    replace T_K := I
    replace C := C.trans TT
    refine head_op rfl rfl (op_val (v := .slice (some ⟨_, 0, none⟩) 3 3) (x_bsl [(0, .string (⟨#[108, 97, 110]⟩)), (1, .string (⟨#[100, 109, 122]⟩)), (2, .string (⟨#[110, 101, 116]⟩))] [.string (⟨#[108, 97, 110]⟩), .string (⟨#[100, 109, 122]⟩), .string (⟨#[110, 101, 116]⟩)] Try.underlying63 infoz_9 (by decide) (by decide) (by simp only [List.map_cons, List.map_nil, show a.eval (.const (.string (⟨#[108, 97, 110]⟩))) = .string (⟨#[108, 97, 110]⟩) from (S.e rfl), show a.eval (.const (.string (⟨#[100, 109, 122]⟩))) = .string (⟨#[100, 109, 122]⟩) from (S.e rfl), show a.eval (.const (.string (⟨#[110, 101, 116]⟩))) = .string (⟨#[110, 101, 116]⟩) from (S.e rfl)]) (by kernel_rfl)) ?_)
    refine Done.mk' rfl (by decide) (show ∃ _, _ from ⟨_, rfl, sl_of_blk (Blk.new _ [.string (⟨#[108, 97, 110]⟩), .string (⟨#[100, 109, 122]⟩), .string (⟨#[110, 101, 116]⟩)] 9) ([⟨#[108, 97, 110]⟩, ⟨#[100, 109, 122]⟩, ⟨#[110, 101, 116]⟩] : List ByteArray) 3 rfl (by decide) (by decide) rfl (fr_fresh C hF rfl) ?_⟩) ((ch_alloc _ _).mono (fun k hk => by simp [In] at hk)) (TpB.tr0 I (ch_alloc _ _))
    intro x hx; simp only [List.mem_cons, List.not_mem_nil, or_false] at hx; rcases hx with rfl | rfl | rfl <;> first | exact Enc.tr (strE) (show strE.wf (Fr F [abk es_a, abk ds_a, abk l2_a, one b2, one b1, one T]) _ (⟨#[108, 97, 110]⟩) from (by show _ ≤ maxLen; unfold maxLen; decide)) (Tr.of_ch0 C.ms (ch_alloc _ _)) | exact Enc.tr (strE) (show strE.wf (Fr F [abk es_a, abk ds_a, abk l2_a, one b2, one b1, one T]) _ (⟨#[100, 109, 122]⟩) from (by show _ ≤ maxLen; unfold maxLen; decide)) (Tr.of_ch0 C.ms (ch_alloc _ _)) | exact Enc.tr (strE) (show strE.wf (Fr F [abk es_a, abk ds_a, abk l2_a, one b2, one b1, one T]) _ (⟨#[110, 101, 116]⟩) from (by show _ ≤ maxLen; unfold maxLen; decide)) (Tr.of_ch0 C.ms (ch_alloc _ _))
   ·intro a w76 G I S hE
    have TT := Tr.och C.ms G
    replace T_w := Enc.tr (slE intE) T_w TT
    replace T_K := I
    replace C := C.trans TT
    exact qo (pT T 0) (x_move (S.e rfl)) I
   ·intro a w77 G I S hE
    have TT := Tr.och C.ms G
    replace T_w := Enc.tr (slE intE) T_w TT
    replace T_K := I
    replace C := C.trans TT
    obtain ⟨e119, _⟩ := hE
    replace S := S.ext e119
    refine head_op rfl rfl (op_call (vs := #[pT T 0, iI 3]) (by simp only [List.map_toArray, List.map_cons, List.map_nil, show a.eval (.tmp 119) = pT T 0 from (S.e rfl), show a.eval (.const (iI 3)) = iI 3 from (S.e rfl)]) callable_23 (gNext _ (Ex F _) (C.old hF) T (C.ms.picks [5] (by decide)) T_l ((slE intE).dn T_w) T_K 3 ⟨by omega, by omega⟩) ?_)
    rintro e w2 ⟨r_h120, rfl, hr_h120, tK0, T0⟩; refine ⟨_, rfl, Done.mk' rfl (by decide) (show ∃ _, _ from ?_) T0.ch tK0⟩
    exact ⟨r_h120, rfl, hr_h120⟩
   ·intro a w78 G I S hE
    have TT := Tr.och C.ms G
    replace T_K := I
    replace C := C.trans TT
    obtain ⟨e118, e120, _⟩ := hE
    obtain ⟨x118_71, e118, X71⟩ := e118
    replace S := S.ext e118
    obtain ⟨x120_72, e120, hr72⟩ := e120
    replace S := S.ext e120
    exact head_op rfl rfl (op_val (v := pT (blk (some ⟨x118_71, 0, none⟩)) (off (some ⟨x118_71, 0, none⟩) + (x120_72).toNat * 1)) (x_idx Try.underlying63 (by kernel_rfl) (S.e rfl) (S.e rfl) (x120_72).toNat (by omega) (by first | omega | (simp only [List.length_cons, List.length_nil]; omega)) ((show LAt strE _ _ (some ⟨x118_71, 0, none⟩) ([⟨#[108, 97, 110]⟩, ⟨#[100, 109, 122]⟩, ⟨#[110, 101, 116]⟩] : List ByteArray) from (X71).1).adr (i := (x120_72).toNat) (by first | omega | (simp only [List.length_cons, List.length_nil]; omega)))) (Done.same rfl (by decide) (show ∃ _, _ from ⟨x118_71, x120_72, rfl, X71, hr72⟩) I))
   ·intro a w79 G I S hE
    have TT := Tr.och C.ms G
    replace T_K := I
    replace C := C.trans TT
    obtain ⟨e121, _⟩ := hE
    obtain ⟨x118_73, x120_74, e121, X73, hr74⟩ := e121
    replace S := S.ext e121
    exact head_op rfl rfl (op_val (v := .string (([⟨#[108, 97, 110]⟩, ⟨#[100, 109, 122]⟩, ⟨#[110, 101, 116]⟩] : List ByteArray).getD ((x120_74).toNat) strE.dflt)) (x_load ⟨_, Try.underlying9, rfl⟩ (S.e rfl) ((show LAt strE _ _ (some ⟨x118_73, 0, none⟩) ([⟨#[108, 97, 110]⟩, ⟨#[100, 109, 122]⟩, ⟨#[110, 101, 116]⟩] : List ByteArray) from (X73).1).cell (x120_74).toNat (by first | omega | (simp only [List.length_cons, List.length_nil]; omega)) 0 _ rfl)) (Done.same rfl (by decide) (show ∃ _, _ from ⟨x118_73, x120_74, rfl, X73, hr74⟩) I))
   ·intro a w80 G I S hE
    have TT := Tr.och C.ms G
    replace T_K := I
    replace C := C.trans TT
    exact qo (iN k) (x_move (S.e rfl)) I
   ·intro a w81 G I S hE
    have TT := Tr.och C.ms G
    replace T_K := I
    replace C := C.trans TT
    obtain ⟨e123, _⟩ := hE
    replace S := S.ext e123
    refine head_op rfl rfl (op_call (vs := #[iN k]) (by simp only [List.map_toArray, List.map_cons, List.map_nil, show a.eval (.tmp 123) = iN k from (S.e rfl)]) callable_46 (gSubnet _ (Ex F _) (C.old hF)  (MS.nil _) ((k : Nat) : Int) ⟨by omega, by omega⟩ (by omega)) ?_)
    rintro e w2 ⟨r_h124, rfl, R_h124, hr_h124, T0⟩; refine ⟨_, rfl, Done.mk' rfl (by decide) (show ∃ _, _ from ?_) (T0.ch.mono (fun k hk => by simp [In] at hk)) (T_K.tr0 T0.ch)⟩
    exact ⟨r_h124, rfl, (Enc.up (pfxE) R_h124), hr_h124⟩
   ·intro a w82 G I S hE
    have TT := Tr.och C.ms G
    replace T_K := I
    replace C := C.trans TT
    obtain ⟨e114, e117, e122, e124, _⟩ := hE
    obtain ⟨x111_75, e114, X75⟩ := e114
    replace S := S.ext e114
    obtain ⟨x117_76, e117, hr76⟩ := e117
    replace S := S.ext e117
    obtain ⟨x118_77, x120_78, e122, X77, hr78⟩ := e122
    replace S := S.ext e122
    obtain ⟨x124_79, e124, X79, hr79⟩ := e124
    replace S := S.ext e124
    exact head_op rfl rfl (op_val (v := .agg #[.string (([⟨#[101, 49]⟩, ⟨#[101, 50]⟩, ⟨#[101, 51]⟩, ⟨#[101, 52]⟩, ⟨#[101, 53]⟩] : List ByteArray).getD k strE.dflt), iI x117_76, .string (([⟨#[108, 97, 110]⟩, ⟨#[100, 109, 122]⟩, ⟨#[110, 101, 116]⟩] : List ByteArray).getD ((x120_78).toNat) strE.dflt), .int .u32 x124_79.addr, iI x124_79.bits, .bool false]) (x_build [(0, .string (([⟨#[101, 49]⟩, ⟨#[101, 50]⟩, ⟨#[101, 51]⟩, ⟨#[101, 52]⟩, ⟨#[101, 53]⟩] : List ByteArray).getD k strE.dflt)), (1, iI x117_76), (2, .string (([⟨#[108, 97, 110]⟩, ⟨#[100, 109, 122]⟩, ⟨#[110, 101, 116]⟩] : List ByteArray).getD ((x120_78).toNat) strE.dflt)), (3, .agg #[.int .u32 x124_79.addr, iI x124_79.bits])] [.string (([⟨#[101, 49]⟩, ⟨#[101, 50]⟩, ⟨#[101, 51]⟩, ⟨#[101, 52]⟩, ⟨#[101, 53]⟩] : List ByteArray).getD k strE.dflt), iI x117_76, .string (([⟨#[108, 97, 110]⟩, ⟨#[100, 109, 122]⟩, ⟨#[110, 101, 116]⟩] : List ByteArray).getD ((x120_78).toNat) strE.dflt), .int .u32 x124_79.addr, iI x124_79.bits, .bool false] (by simp only [List.map_cons, List.map_nil, show a.eval (.tmp 114) = .string (([⟨#[101, 49]⟩, ⟨#[101, 50]⟩, ⟨#[101, 51]⟩, ⟨#[101, 52]⟩, ⟨#[101, 53]⟩] : List ByteArray).getD k strE.dflt) from (S.e rfl), show a.eval (.tmp 117) = iI x117_76 from (S.e rfl), show a.eval (.tmp 122) = .string (([⟨#[108, 97, 110]⟩, ⟨#[100, 109, 122]⟩, ⟨#[110, 101, 116]⟩] : List ByteArray).getD ((x120_78).toNat) strE.dflt) from (S.e rfl), show a.eval (.tmp 124) = .agg #[.int .u32 x124_79.addr, iI x124_79.bits] from (S.e rfl)]) (by kernel_rfl)) (Done.same rfl (by decide) (show ∃ _, _ from ⟨x111_75, x117_76, x118_77, x120_78, x124_79, rfl, X75, hr76, X77, hr78, X79, hr79⟩) I))
   intro a w83 G I S hE
   have TT := Tr.och C.ms G
   replace T_K := I
   replace C := C.trans TT
   obtain ⟨e125, _⟩ := hE
   obtain ⟨x111_80, x117_81, x118_82, x120_83, x124_84, e125, X80, hr81, X82, hr83, X84, hr84⟩ := e125
   replace S := S.ext e125
   refine head_op rfl rfl (op_val (v := .slice (some ⟨_, 0, none⟩) 1 1) (x_bsl [(0, .agg #[.string (([⟨#[101, 49]⟩, ⟨#[101, 50]⟩, ⟨#[101, 51]⟩, ⟨#[101, 52]⟩, ⟨#[101, 53]⟩] : List ByteArray).getD k strE.dflt), iI x117_81, .string (([⟨#[108, 97, 110]⟩, ⟨#[100, 109, 122]⟩, ⟨#[110, 101, 116]⟩] : List ByteArray).getD ((x120_83).toNat) strE.dflt), .int .u32 x124_84.addr, iI x124_84.bits, .bool false])] [.string (([⟨#[101, 49]⟩, ⟨#[101, 50]⟩, ⟨#[101, 51]⟩, ⟨#[101, 52]⟩, ⟨#[101, 53]⟩] : List ByteArray).getD k strE.dflt), iI x117_81, .string (([⟨#[108, 97, 110]⟩, ⟨#[100, 109, 122]⟩, ⟨#[110, 101, 116]⟩] : List ByteArray).getD ((x120_83).toNat) strE.dflt), .int .u32 x124_84.addr, iI x124_84.bits, .bool false] Try.underlying25 infoz_71 (by decide) (by decide) (by simp only [List.map_cons, List.map_nil, show a.eval (.tmp 125) = .agg #[.string (([⟨#[101, 49]⟩, ⟨#[101, 50]⟩, ⟨#[101, 51]⟩, ⟨#[101, 52]⟩, ⟨#[101, 53]⟩] : List ByteArray).getD k strE.dflt), iI x117_81, .string (([⟨#[108, 97, 110]⟩, ⟨#[100, 109, 122]⟩, ⟨#[110, 101, 116]⟩] : List ByteArray).getD ((x120_83).toNat) strE.dflt), .int .u32 x124_84.addr, iI x124_84.bits, .bool false] from (S.e rfl)]) (by kernel_rfl)) ?_)
   refine Done.mk' rfl (by decide) (show ∃ _, _ from ⟨_, x111_80, x117_81, x118_82, x120_83, x124_84, rfl, sl_of_blk (Blk.new _ [.string (([⟨#[101, 49]⟩, ⟨#[101, 50]⟩, ⟨#[101, 51]⟩, ⟨#[101, 52]⟩, ⟨#[101, 53]⟩] : List ByteArray).getD k strE.dflt), iI x117_81, .string (([⟨#[108, 97, 110]⟩, ⟨#[100, 109, 122]⟩, ⟨#[110, 101, 116]⟩] : List ByteArray).getD ((x120_83).toNat) strE.dflt), .int .u32 x124_84.addr, iI x124_84.bits, .bool false] 71) [(⟨(([⟨#[101, 49]⟩, ⟨#[101, 50]⟩, ⟨#[101, 51]⟩, ⟨#[101, 52]⟩, ⟨#[101, 53]⟩] : List ByteArray).getD k strE.dflt), x117_81, (([⟨#[108, 97, 110]⟩, ⟨#[100, 109, 122]⟩, ⟨#[110, 101, 116]⟩] : List ByteArray).getD ((x120_83).toNat) strE.dflt), x124_84, false⟩ : Edg)] 1 rfl (by decide) (by decide) rfl (fr_fresh C hF rfl) ?_, Enc.tr (slE strE) X80 (Tr.of_ch0 C.ms (ch_alloc _ _)), hr81, Enc.tr (slE strE) X82 (Tr.of_ch0 C.ms (ch_alloc _ _)), hr83, Enc.tr (pfxE) X84 (Tr.of_ch0 C.ms (ch_alloc _ _)), hr84⟩) ((ch_alloc _ _).mono (fun k hk => by simp [In] at hk)) (TpB.tr0 I (ch_alloc _ _))
   intro x hx; simp only [List.mem_cons, List.not_mem_nil, or_false] at hx; subst hx <;> first | exact Enc.tr (edgE) (show edgE.wf (Fr F [abk es_a, abk ds_a, abk l2_a, one b2, one b1, one T]) _ (⟨(([⟨#[101, 49]⟩, ⟨#[101, 50]⟩, ⟨#[101, 51]⟩, ⟨#[101, 52]⟩, ⟨#[101, 53]⟩] : List ByteArray).getD k strE.dflt), x117_81, (([⟨#[108, 97, 110]⟩, ⟨#[100, 109, 122]⟩, ⟨#[110, 101, 116]⟩] : List ByteArray).getD ((x120_83).toNat) strE.dflt), x124_84, false⟩ : Edg) from ⟨((show LAt strE _ _ (some ⟨x111_80, 0, none⟩) ([⟨#[101, 49]⟩, ⟨#[101, 50]⟩, ⟨#[101, 51]⟩, ⟨#[101, 52]⟩, ⟨#[101, 53]⟩] : List ByteArray) from (X80).1).wf k (by first | omega | (simp only [List.length_cons, List.length_nil]; omega))), (show inI64 x117_81 from ⟨by omega, by omega⟩), ((show LAt strE _ _ (some ⟨x118_82, 0, none⟩) ([⟨#[108, 97, 110]⟩, ⟨#[100, 109, 122]⟩, ⟨#[110, 101, 116]⟩] : List ByteArray) from (X82).1).wf (x120_83).toNat (by first | omega | (simp only [List.length_cons, List.length_nil]; omega))), ⟨X84.1, X84.2⟩, trivial⟩) (Tr.of_ch0 C.ms (ch_alloc _ _))
  clear S a; intro a w84 G I S hE; have TT := Tr.och C.ms G
  replace T_w := Enc.tr (slE intE) T_w TT
  replace KS65 := Enc.tr (slE intE) KS65 TT
  replace K1 := Blk.tr K1 G (C.ms.sep.out 4 [5] rfl rfl rfl)
  replace K2 := Blk.tr K2 G (C.ms.sep.out 3 [5] rfl rfl rfl)
  replace W4 := Row.tr W4 TT G (fun k e => C.ms.sep.out 1 [5] rfl rfl e)
  replace W5 := Row.tr W5 TT G (fun k e => C.ms.sep.out 2 [5] rfl rfl e)
  replace W68 := Row.tr W68 TT G (fun k e => C.ms.sep.out 0 [5] rfl rfl e)
  replace GL0 := GL0.trans TT
  replace GL1 := GL1.trans TT
  replace GL2 := GL2.trans TT
  replace C := C.trans TT
  replace T_K := I
  clear TT G
  obtain ⟨e110, e126, -⟩ := hE
  replace S := S.ext e110
  obtain ⟨x126_85, x111_86, x117_87, x118_88, x120_89, x124_90, e126, X85, X86, hr87, X88, hr89, X90, hr90⟩ := e126
  replace S := S.ext e126
  have hn91 : ([(⟨(([⟨#[101, 49]⟩, ⟨#[101, 50]⟩, ⟨#[101, 51]⟩, ⟨#[101, 52]⟩, ⟨#[101, 53]⟩] : List ByteArray).getD k strE.dflt), x117_87, (([⟨#[108, 97, 110]⟩, ⟨#[100, 109, 122]⟩, ⟨#[110, 101, 116]⟩] : List ByteArray).getD ((x120_89).toNat) strE.dflt), x124_90, false⟩ : Edg)]).length ≤ 9223372036854775807 := (X85).1.len
  clear e110 e126
  refine seq_op rfl (op_append (E := edgE) [] [abk ds_a, abk l2_a, one b2, one b1, one T] (.tmp 110) (.tmp 126) 25 rfl zero_71 64 Try.underlying25 infoz_71 rfl (by decide) rfl C.ms (S.e rfl) W68 ([(⟨(([⟨#[101, 49]⟩, ⟨#[101, 50]⟩, ⟨#[101, 51]⟩, ⟨#[101, 52]⟩, ⟨#[101, 53]⟩] : List ByteArray).getD k strE.dflt), x117_87, (([⟨#[108, 97, 110]⟩, ⟨#[100, 109, 122]⟩, ⟨#[110, 101, 116]⟩] : List ByteArray).getD ((x120_89).toNat) strE.dflt), x124_90, false⟩ : Edg)]) (some ⟨x126_85, 0, none⟩) 1 (S.e rfl) (show LAt edgE _ _ (some ⟨x126_85, 0, none⟩) ([(⟨(([⟨#[101, 49]⟩, ⟨#[101, 50]⟩, ⟨#[101, 51]⟩, ⟨#[101, 52]⟩, ⟨#[101, 53]⟩] : List ByteArray).getD k strE.dflt), x117_87, (([⟨#[108, 97, 110]⟩, ⟨#[100, 109, 122]⟩, ⟨#[110, 101, 116]⟩] : List ByteArray).getD ((x120_89).toNat) strE.dflt), x124_90, false⟩ : Edg)]) from (X85).1) (X85).2.2 (LAt.mem (show LAt edgE _ _ (some ⟨x126_85, 0, none⟩) ([(⟨(([⟨#[101, 49]⟩, ⟨#[101, 50]⟩, ⟨#[101, 51]⟩, ⟨#[101, 52]⟩, ⟨#[101, 53]⟩] : List ByteArray).getD k strE.dflt), x117_87, (([⟨#[108, 97, 110]⟩, ⟨#[100, 109, 122]⟩, ⟨#[110, 101, 116]⟩] : List ByteArray).getD ((x120_89).toNat) strE.dflt), x124_90, false⟩ : Edg)]) from (X85).1)) (by unfold maxLen; (try simp only [List.length_cons, List.length_nil, List.length_append, List.length_map]); omega) (by (try simp only [List.length_cons, List.length_nil, List.length_append, List.length_map]); omega) (C.size) ?_)
  intro ad92 cap92 w85 Rn TT G
  have S1 := S.put (d := 127) (v := .slice ad92 (es ++ [(⟨(([⟨#[101, 49]⟩, ⟨#[101, 50]⟩, ⟨#[101, 51]⟩, ⟨#[101, 52]⟩, ⟨#[101, 53]⟩] : List ByteArray).getD k strE.dflt), x117_87, (([⟨#[108, 97, 110]⟩, ⟨#[100, 109, 122]⟩, ⟨#[110, 101, 116]⟩] : List ByteArray).getD ((x120_89).toNat) strE.dflt), x124_90, false⟩ : Edg)]).length cap92) (by decide); clear S; revert S1; generalize Act.put a _ _ = a1; intro S; clear a; rename Act => a
  replace TT : Tr [abk es_a, abk ds_a, abk l2_a, one b2, one b1, one T] w84 [abk ad92, abk ds_a, abk l2_a, one b2, one b1, one T] w85 := TT; replace Rn : Row edgE 71 w.heap.size F [abk ad92, abk ds_a, abk l2_a, one b2, one b1, one T] w85 ad92 cap92 (es ++ [(⟨(([⟨#[101, 49]⟩, ⟨#[101, 50]⟩, ⟨#[101, 51]⟩, ⟨#[101, 52]⟩, ⟨#[101, 53]⟩] : List ByteArray).getD k strE.dflt), x117_87, (([⟨#[108, 97, 110]⟩, ⟨#[100, 109, 122]⟩, ⟨#[110, 101, 116]⟩] : List ByteArray).getD ((x120_89).toNat) strE.dflt), x124_90, false⟩ : Edg)]) := Rn
  replace T_w := Enc.tr (slE intE) T_w TT
  replace KS65 := Enc.tr (slE intE) KS65 TT
  replace T_K := TpB.tr T_K G (C.ms.sep.out 5 [0] rfl rfl rfl)
  replace K1 := Blk.tr K1 G (C.ms.sep.out 4 [0] rfl rfl rfl)
  replace K2 := Blk.tr K2 G (C.ms.sep.out 3 [0] rfl rfl rfl)
  replace W4 := Row.tr W4 TT G (fun k e => C.ms.sep.out 1 [0] rfl rfl e)
  replace W5 := Row.tr W5 TT G (fun k e => C.ms.sep.out 2 [0] rfl rfl e)
  replace X85 := Enc.tr (slE edgE) X85 TT
  replace X86 := Enc.tr (slE strE) X86 TT
  replace X88 := Enc.tr (slE strE) X88 TT
  replace X90 := Enc.tr (pfxE) X90 TT
  replace GL0 := GL0.trans TT
  replace GL1 := GL1.trans TT
  replace GL2 := GL2.trans TT
  replace C := C.trans TT
  clear W68; have W68 := Rn; clear Rn TT G
  refine qv S (pT b2 (0 + 2)) (x_fld (z := 0) (0) 2 Try.underlying28 rfl rfl (by kernel_rfl) (S.e rfl)) ?_; clear S a; intro a S
  refine seq_store S rfl rfl [.slice ds_a ds.length ds_c, .slice l2_a l2.length l2_c, .slice ad92 ((es ++ [(⟨(([⟨#[101, 49]⟩, ⟨#[101, 50]⟩, ⟨#[101, 51]⟩, ⟨#[101, 52]⟩, ⟨#[101, 53]⟩] : List ByteArray).getD k strE.dflt), x117_87, (([⟨#[108, 97, 110]⟩, ⟨#[100, 109, 122]⟩, ⟨#[110, 101, 116]⟩] : List ByteArray).getD ((x120_89).toNat) strE.dflt), x124_90, false⟩ : Edg)]).length) cap92, .slice none 0 0, iI 0] (x_store (by kernel_rfl) (S.e rfl) (S.e rfl) rfl K2 (o := 0 + 2) (u := .slice es_a es.length es_c) rfl) K2 rfl ?_
  clear S a; intro a w86 G hz K S; clear hz; have TT := Tr.och C.ms G
  replace T_w := Enc.tr (slE intE) T_w TT
  replace KS65 := Enc.tr (slE intE) KS65 TT
  replace T_K := TpB.tr T_K G (C.ms.sep.out 5 [3] rfl rfl rfl)
  replace K1 := Blk.tr K1 G (C.ms.sep.out 4 [3] rfl rfl rfl)
  replace W4 := Row.tr W4 TT G (fun k e => C.ms.sep.out 1 [3] rfl rfl e)
  replace W5 := Row.tr W5 TT G (fun k e => C.ms.sep.out 2 [3] rfl rfl e)
  replace W68 := Row.tr W68 TT G (fun k e => C.ms.sep.out 0 [3] rfl rfl e)
  replace X85 := Enc.tr (slE edgE) X85 TT
  replace X86 := Enc.tr (slE strE) X86 TT
  replace X88 := Enc.tr (slE strE) X88 TT
  replace X90 := Enc.tr (pfxE) X90 TT
  replace GL0 := GL0.trans TT
  replace GL1 := GL1.trans TT
  replace GL2 := GL2.trans TT
  replace C := C.trans TT
  clear K2; have K2 := K; clear K TT G
  refine wpList_nil ?_
  refine blk_n ?_
  refine then_n ?_
  refine wp_region_lit ?_
  refine qm S rfl ?_; clear S a; intro a S
  refine qv S (iN (k + 1)) (x_add (S.e rfl) (S.e rfl) (r := ((k + 1 : Nat) : Int)) (w_i64 (by omega))) ?_; clear S a; intro a S
  refine qa S rfl ?_; clear S a; intro a S
  refine qt ?_
  refine ⟨5 - (k + 1), ?_, (k + 1), ad92, cap92, (es ++ [(⟨(([⟨#[101, 49]⟩, ⟨#[101, 50]⟩, ⟨#[101, 51]⟩, ⟨#[101, 52]⟩, ⟨#[101, 53]⟩] : List ByteArray).getD k strE.dflt), x117_87, (([⟨#[108, 97, 110]⟩, ⟨#[100, 109, 122]⟩, ⟨#[110, 101, 116]⟩] : List ByteArray).getD ((x120_89).toNat) strE.dflt), x124_90, false⟩ : Edg)]), S.sub ⟨rfl, rfl, rfl, rfl, rfl, rfl, trivial⟩, GL2, ?_, T_K, K1, K2, W4, W5, W68, rfl⟩
  ·omega
  exact ⟨by omega, by first | omega | (simp only [List.length_append, List.length_cons, List.length_nil]; omega), snocD hel he (edg_mk rfl (by omega) (by omega) (zones_fine _ (by omega)) (by assumption))⟩
 intro hc7
 refine wp_exit ?_
 refine then_e ?_
 refine then_e ?_
 refine blk_e ?_
 refine then_n ?_
 refine wp_seq ?_
 refine qs ?_
 refine qm S rfl ?_; clear S a; intro a S
 refine seq_call S (by decide) (vs := #[pT T 0, iI 2]) rfl callable_23 (gNext _ (Ex F _) (C.old hF) T (C.ms.picks [5] (by decide)) T_l ((slE intE).dn T_w) T_K 2 ⟨by omega, by omega⟩) ?_
 rintro e w87 ⟨r_93, rfl, hr_93, tT_K, T0⟩; refine ⟨_, rfl, ?_⟩; clear S a; intro a S
 have TT := Tr.fra C.ms T0; have G := T0.ch
 replace T_w := Enc.tr (slE intE) T_w TT
 replace KS65 := Enc.tr (slE intE) KS65 TT
 replace K1 := Blk.tr K1 G (C.ms.sep.out 4 [5] rfl rfl rfl)
 replace K2 := Blk.tr K2 G (C.ms.sep.out 3 [5] rfl rfl rfl)
 replace W4 := Row.tr W4 TT G (fun k e => C.ms.sep.out 1 [5] rfl rfl e)
 replace W5 := Row.tr W5 TT G (fun k e => C.ms.sep.out 2 [5] rfl rfl e)
 replace W68 := Row.tr W68 TT G (fun k e => C.ms.sep.out 0 [5] rfl rfl e)
 replace GL0 := GL0.trans TT
 replace GL1 := GL1.trans TT
 replace GL2 := GL2.trans TT
 replace C := C.trans TT
 clear T_K; have T_K := tT_K; clear tT_K
 clear T0 G TT
 refine qv S (bD (r_93 = 1)) (x_eql (S.e rfl) (S.e rfl)) ?_; clear S a; intro a S
 refine qt ?_
 refine cond_dec S rfl ?_ ?_
 ·intro hc8
  refine wp_region_lit ?_
  refine qv S (pT b2 (0 + 3)) (x_fld (z := 0) (0) 3 Try.underlying28 rfl rfl (by kernel_rfl) (S.e rfl)) ?_; clear S a; intro a S
  refine qv S (.slice none 0 0) (x_load ⟨_, Try.underlying26, rfl⟩ (S.e rfl) (K2.cell (j := 3) rfl)) ?_; clear S a; intro a S
  refine qv S (.agg #[.int .u32 168296448, iI 22]) (x_build [(0, .int .u32 168296448), (1, iI 22)] [.int .u32 168296448, iI 22] (by simp only [List.map_cons, List.map_nil, show a.eval (.const (.int .u32 168296448)) = .int .u32 168296448 from (S.e rfl), show a.eval (.const (iI 22)) = iI 22 from (S.e rfl)]) (by kernel_rfl)) ?_; clear S a; intro a S
  refine seq_new S rfl rfl (by decide) (fun b => .slice (some ⟨b, 0, none⟩) 1 1) (cs := [.int .u32 168296448, iI 22]) (x_bsl [(0, .agg #[.int .u32 168296448, iI 22])] [.int .u32 168296448, iI 22] Try.underlying26 infoz_68 (by decide) (by decide) (by simp only [List.map_cons, List.map_nil, show a.eval (.tmp 134) = .agg #[.int .u32 168296448, iI 22] from (S.e rfl)]) (by kernel_rfl)) ?_
  clear S a; intro a w88 b94 hb94 hbs94 G K94 S; have hbl94 : b94 < w88.heap.size := by omega
  have we94_0 : pfxE.wf (Fr F [abk es_a, abk ds_a, abk l2_a, one b2, one b1, one T]) w87.heap (⟨168296448, 22⟩ : Pfx) := ⟨(show inU32 168296448 from ⟨by omega, by omega⟩), (show inI64 22 from ⟨by omega, by omega⟩)⟩
  have hfr94 := fr_fresh C hF hb94; have TT := Tr.of_ch0 C.ms G
  replace T_w := Enc.tr (slE intE) T_w TT
  replace KS65 := Enc.tr (slE intE) KS65 TT
  replace T_K := TpB.tr0 T_K G
  replace K1 := Blk.tr0 K1 G
  replace K2 := Blk.tr0 K2 G
  replace W4 := Row.tr0 W4 TT G
  replace W5 := Row.tr0 W5 TT G
  replace W68 := Row.tr0 W68 TT G
  replace GL0 := GL0.trans TT
  replace GL1 := GL1.trans TT
  replace GL2 := GL2.trans TT
  replace C := C.trans TT
  have KS94 : (slE pfxE).wf (Fr F [abk es_a, abk ds_a, abk l2_a, one b2, one b1, one T]) w88.heap ⟨some ⟨b94, 0, none⟩, 1, [(⟨168296448, 22⟩ : Pfx)]⟩ := sl_of_blk K94 [(⟨168296448, 22⟩ : Pfx)] 1 rfl (by decide) (by decide) rfl hfr94 (by intro x hx; simp only [List.mem_cons, List.not_mem_nil, or_false] at hx; subst hx; exact Enc.tr (pfxE) we94_0 TT)
  clear K94 hfr94 TT G we94_0
  have W96 := Row.nil pfxE 68 w.heap.size F [abk none, abk es_a, abk ds_a, abk l2_a, one b2, one b1, one T] w88
  have TT : Tr [abk es_a, abk ds_a, abk l2_a, one b2, one b1, one T] w88 [abk none, abk es_a, abk ds_a, abk l2_a, one b2, one b1, one T] w88 := (Tr.refl C.ms).cons (b := abk none) (fun k e => absurd e abk_none); have G : Ch (In []) w88 w88 := Ch.refl _
  replace T_w := Enc.tr (slE intE) T_w TT
  replace KS65 := Enc.tr (slE intE) KS65 TT
  replace T_K := TpB.tr0 T_K G
  replace K1 := Blk.tr0 K1 G
  replace K2 := Blk.tr0 K2 G
  replace W4 := Row.tr0 W4 TT G
  replace W5 := Row.tr0 W5 TT G
  replace W68 := Row.tr0 W68 TT G
  replace KS94 := Enc.tr (slE pfxE) KS94 TT
  replace GL0 := GL0.trans TT
  replace GL1 := GL1.trans TT
  replace GL2 := GL2.trans TT
  replace C := C.trans TT
  clear TT G
  refine seq_op rfl (op_append (E := pfxE) [] [abk es_a, abk ds_a, abk l2_a, one b2, one b1, one T] (.tmp 133) (.tmp 135) 26 rfl zero_68 16 Try.underlying26 infoz_68 rfl (by decide) rfl C.ms (S.e rfl) W96 ([(⟨168296448, 22⟩ : Pfx)]) (some ⟨b94, 0, none⟩) 1 (S.e rfl) (show LAt pfxE _ _ (some ⟨b94, 0, none⟩) ([(⟨168296448, 22⟩ : Pfx)]) from (KS94).1) (KS94).2.2 (LAt.mem (show LAt pfxE _ _ (some ⟨b94, 0, none⟩) ([(⟨168296448, 22⟩ : Pfx)]) from (KS94).1)) (by unfold maxLen; (try simp only [List.length_cons, List.length_nil, List.length_append, List.length_map]); omega) (by (try simp only [List.length_cons, List.length_nil, List.length_append, List.length_map]); omega) (C.size) ?_)
  intro ad95 cap95 w89 Rn TT G
  have S1 := S.put (d := 136) (v := .slice ad95 ([] ++ [(⟨168296448, 22⟩ : Pfx)]).length cap95) (by decide); clear S; revert S1; generalize Act.put a _ _ = a1; intro S; clear a; rename Act => a
  replace TT : Tr [abk none, abk es_a, abk ds_a, abk l2_a, one b2, one b1, one T] w88 [abk ad95, abk es_a, abk ds_a, abk l2_a, one b2, one b1, one T] w89 := TT; replace Rn : Row pfxE 68 w.heap.size F [abk ad95, abk es_a, abk ds_a, abk l2_a, one b2, one b1, one T] w89 ad95 cap95 ([] ++ [(⟨168296448, 22⟩ : Pfx)]) := Rn
  replace T_w := Enc.tr (slE intE) T_w TT
  replace KS65 := Enc.tr (slE intE) KS65 TT
  replace T_K := TpB.tr T_K G (C.ms.sep.out 6 [0] rfl rfl rfl)
  replace K1 := Blk.tr K1 G (C.ms.sep.out 5 [0] rfl rfl rfl)
  replace K2 := Blk.tr K2 G (C.ms.sep.out 4 [0] rfl rfl rfl)
  replace W4 := Row.tr W4 TT G (fun k e => C.ms.sep.out 2 [0] rfl rfl e)
  replace W5 := Row.tr W5 TT G (fun k e => C.ms.sep.out 3 [0] rfl rfl e)
  replace W68 := Row.tr W68 TT G (fun k e => C.ms.sep.out 1 [0] rfl rfl e)
  replace KS94 := Enc.tr (slE pfxE) KS94 TT
  replace GL0 := GL0.trans TT
  replace GL1 := GL1.trans TT
  replace GL2 := GL2.trans TT
  replace C := C.trans TT
  clear W96; have W96 := Rn; clear Rn TT G
  refine qv S (pT b2 (0 + 3)) (x_fld (z := 0) (0) 3 Try.underlying28 rfl rfl (by kernel_rfl) (S.e rfl)) ?_; clear S a; intro a S
  refine seq_store S rfl rfl [.slice ds_a ds.length ds_c, .slice l2_a l2.length l2_c, .slice es_a es.length es_c, .slice ad95 (([] ++ [(⟨168296448, 22⟩ : Pfx)]).length) cap95, iI 0] (x_store (by kernel_rfl) (S.e rfl) (S.e rfl) rfl K2 (o := 0 + 3) (u := .slice none 0 0) rfl) K2 rfl ?_
  clear S a; intro a w90 G hz K S; clear hz; have TT := Tr.och C.ms G
  replace T_w := Enc.tr (slE intE) T_w TT
  replace KS65 := Enc.tr (slE intE) KS65 TT
  replace T_K := TpB.tr T_K G (C.ms.sep.out 6 [4] rfl rfl rfl)
  replace K1 := Blk.tr K1 G (C.ms.sep.out 5 [4] rfl rfl rfl)
  replace W4 := Row.tr W4 TT G (fun k e => C.ms.sep.out 2 [4] rfl rfl e)
  replace W5 := Row.tr W5 TT G (fun k e => C.ms.sep.out 3 [4] rfl rfl e)
  replace W68 := Row.tr W68 TT G (fun k e => C.ms.sep.out 1 [4] rfl rfl e)
  replace KS94 := Enc.tr (slE pfxE) KS94 TT
  replace W96 := Row.tr W96 TT G (fun k e => C.ms.sep.out 0 [4] rfl rfl e)
  replace GL0 := GL0.trans TT
  replace GL1 := GL1.trans TT
  replace GL2 := GL2.trans TT
  replace C := C.trans TT
  clear K2; have K2 := K; clear K TT G
  refine qt ?_
  refine wp_seq ?_
  refine qs ?_
  refine qm S rfl ?_; clear S a; intro a S
  refine seq_call S (by decide) (vs := #[pT T 0, iI 3]) rfl callable_23 (gNext _ (Ex F _) (C.old hF) T (C.ms.picks [6] (by decide)) T_l ((slE intE).dn T_w) T_K 3 ⟨by omega, by omega⟩) ?_
  rintro e w91 ⟨r_97, rfl, hr_97, tT_K, T0⟩; refine ⟨_, rfl, ?_⟩; clear S a; intro a S
  have TT := Tr.fra C.ms T0; have G := T0.ch
  replace T_w := Enc.tr (slE intE) T_w TT
  replace KS65 := Enc.tr (slE intE) KS65 TT
  replace K1 := Blk.tr K1 G (C.ms.sep.out 5 [6] rfl rfl rfl)
  replace K2 := Blk.tr K2 G (C.ms.sep.out 4 [6] rfl rfl rfl)
  replace W4 := Row.tr W4 TT G (fun k e => C.ms.sep.out 2 [6] rfl rfl e)
  replace W5 := Row.tr W5 TT G (fun k e => C.ms.sep.out 3 [6] rfl rfl e)
  replace W68 := Row.tr W68 TT G (fun k e => C.ms.sep.out 1 [6] rfl rfl e)
  replace KS94 := Enc.tr (slE pfxE) KS94 TT
  replace W96 := Row.tr W96 TT G (fun k e => C.ms.sep.out 0 [6] rfl rfl e)
  replace GL0 := GL0.trans TT
  replace GL1 := GL1.trans TT
  replace GL2 := GL2.trans TT
  replace C := C.trans TT
  clear T_K; have T_K := tT_K; clear tT_K
  clear T0 G TT
  refine qv S (bD (r_97 = 1)) (x_eql (S.e rfl) (S.e rfl)) ?_; clear S a; intro a S
  refine qt ?_
  refine cond_dec S rfl ?_ ?_
  ·intro hc9
   refine wp_region_lit ?_
   refine qv S (pT b2 (0 + 3)) (x_fld (z := 0) (0) 3 Try.underlying28 rfl rfl (by kernel_rfl) (S.e rfl)) ?_; clear S a; intro a S
   refine qv S (.slice ad95 (([] ++ [(⟨168296448, 22⟩ : Pfx)]).length) cap95) (x_load ⟨_, Try.underlying26, rfl⟩ (S.e rfl) (K2.cell (j := 3) rfl)) ?_; clear S a; intro a S
   refine qv S (.agg #[.int .u32 167772672, iI 24]) (x_build [(0, .int .u32 167772672), (1, iI 24)] [.int .u32 167772672, iI 24] (by simp only [List.map_cons, List.map_nil, show a.eval (.const (.int .u32 167772672)) = .int .u32 167772672 from (S.e rfl), show a.eval (.const (iI 24)) = iI 24 from (S.e rfl)]) (by kernel_rfl)) ?_; clear S a; intro a S
   refine seq_new S rfl rfl (by decide) (fun b => .slice (some ⟨b, 0, none⟩) 1 1) (cs := [.int .u32 167772672, iI 24]) (x_bsl [(0, .agg #[.int .u32 167772672, iI 24])] [.int .u32 167772672, iI 24] Try.underlying26 infoz_68 (by decide) (by decide) (by simp only [List.map_cons, List.map_nil, show a.eval (.tmp 143) = .agg #[.int .u32 167772672, iI 24] from (S.e rfl)]) (by kernel_rfl)) ?_
   clear S a; intro a w92 b98 hb98 hbs98 G K98 S; have hbl98 : b98 < w92.heap.size := by omega
   have we98_0 : pfxE.wf (Fr F [abk ad95, abk es_a, abk ds_a, abk l2_a, one b2, one b1, one T]) w91.heap (⟨167772672, 24⟩ : Pfx) := ⟨(show inU32 167772672 from ⟨by omega, by omega⟩), (show inI64 24 from ⟨by omega, by omega⟩)⟩
   have hfr98 := fr_fresh C hF hb98; have TT := Tr.of_ch0 C.ms G
   replace T_w := Enc.tr (slE intE) T_w TT
   replace KS65 := Enc.tr (slE intE) KS65 TT
   replace T_K := TpB.tr0 T_K G
   replace K1 := Blk.tr0 K1 G
   replace K2 := Blk.tr0 K2 G
   replace W4 := Row.tr0 W4 TT G
   replace W5 := Row.tr0 W5 TT G
   replace W68 := Row.tr0 W68 TT G
   replace KS94 := Enc.tr (slE pfxE) KS94 TT
   replace W96 := Row.tr0 W96 TT G
   replace GL0 := GL0.trans TT
   replace GL1 := GL1.trans TT
   replace GL2 := GL2.trans TT
   replace C := C.trans TT
   have KS98 : (slE pfxE).wf (Fr F [abk ad95, abk es_a, abk ds_a, abk l2_a, one b2, one b1, one T]) w92.heap ⟨some ⟨b98, 0, none⟩, 1, [(⟨167772672, 24⟩ : Pfx)]⟩ := sl_of_blk K98 [(⟨167772672, 24⟩ : Pfx)] 1 rfl (by decide) (by decide) rfl hfr98 (by intro x hx; simp only [List.mem_cons, List.not_mem_nil, or_false] at hx; subst hx; exact Enc.tr (pfxE) we98_0 TT)
   clear K98 hfr98 TT G we98_0
   refine seq_op rfl (op_append (E := pfxE) [] [abk es_a, abk ds_a, abk l2_a, one b2, one b1, one T] (.tmp 142) (.tmp 144) 26 rfl zero_68 16 Try.underlying26 infoz_68 rfl (by decide) rfl C.ms (S.e rfl) W96 ([(⟨167772672, 24⟩ : Pfx)]) (some ⟨b98, 0, none⟩) 1 (S.e rfl) (show LAt pfxE _ _ (some ⟨b98, 0, none⟩) ([(⟨167772672, 24⟩ : Pfx)]) from (KS98).1) (KS98).2.2 (LAt.mem (show LAt pfxE _ _ (some ⟨b98, 0, none⟩) ([(⟨167772672, 24⟩ : Pfx)]) from (KS98).1)) (by unfold maxLen; (try simp only [List.length_cons, List.length_nil, List.length_append, List.length_map]); omega) (by (try simp only [List.length_cons, List.length_nil, List.length_append, List.length_map]); omega) (C.size) ?_)
   intro ad99 cap99 w93 Rn TT G
   have S1 := S.put (d := 145) (v := .slice ad99 (([] ++ [(⟨168296448, 22⟩ : Pfx)]) ++ [(⟨167772672, 24⟩ : Pfx)]).length cap99) (by decide); clear S; revert S1; generalize Act.put a _ _ = a1; intro S; clear a; rename Act => a
   replace TT : Tr [abk ad95, abk es_a, abk ds_a, abk l2_a, one b2, one b1, one T] w92 [abk ad99, abk es_a, abk ds_a, abk l2_a, one b2, one b1, one T] w93 := TT; replace Rn : Row pfxE 68 w.heap.size F [abk ad99, abk es_a, abk ds_a, abk l2_a, one b2, one b1, one T] w93 ad99 cap99 (([] ++ [(⟨168296448, 22⟩ : Pfx)]) ++ [(⟨167772672, 24⟩ : Pfx)]) := Rn
   replace T_w := Enc.tr (slE intE) T_w TT
   replace KS65 := Enc.tr (slE intE) KS65 TT
   replace T_K := TpB.tr T_K G (C.ms.sep.out 6 [0] rfl rfl rfl)
   replace K1 := Blk.tr K1 G (C.ms.sep.out 5 [0] rfl rfl rfl)
   replace K2 := Blk.tr K2 G (C.ms.sep.out 4 [0] rfl rfl rfl)
   replace W4 := Row.tr W4 TT G (fun k e => C.ms.sep.out 2 [0] rfl rfl e)
   replace W5 := Row.tr W5 TT G (fun k e => C.ms.sep.out 3 [0] rfl rfl e)
   replace W68 := Row.tr W68 TT G (fun k e => C.ms.sep.out 1 [0] rfl rfl e)
   replace KS94 := Enc.tr (slE pfxE) KS94 TT
   replace KS98 := Enc.tr (slE pfxE) KS98 TT
   replace GL0 := GL0.trans TT
   replace GL1 := GL1.trans TT
   replace GL2 := GL2.trans TT
   replace C := C.trans TT
   clear W96; have W96 := Rn; clear Rn TT G
   refine qv S (pT b2 (0 + 3)) (x_fld (z := 0) (0) 3 Try.underlying28 rfl rfl (by kernel_rfl) (S.e rfl)) ?_; clear S a; intro a S
   refine seq_store S rfl rfl [.slice ds_a ds.length ds_c, .slice l2_a l2.length l2_c, .slice es_a es.length es_c, .slice ad99 ((([] ++ [(⟨168296448, 22⟩ : Pfx)]) ++ [(⟨167772672, 24⟩ : Pfx)]).length) cap99, iI 0] (x_store (by kernel_rfl) (S.e rfl) (S.e rfl) rfl K2 (o := 0 + 3) (u := .slice ad95 (([] ++ [(⟨168296448, 22⟩ : Pfx)]).length) cap95) rfl) K2 rfl ?_
   clear S a; intro a w94 G hz K S; clear hz; have TT := Tr.och C.ms G
   replace T_w := Enc.tr (slE intE) T_w TT
   replace KS65 := Enc.tr (slE intE) KS65 TT
   replace T_K := TpB.tr T_K G (C.ms.sep.out 6 [4] rfl rfl rfl)
   replace K1 := Blk.tr K1 G (C.ms.sep.out 5 [4] rfl rfl rfl)
   replace W4 := Row.tr W4 TT G (fun k e => C.ms.sep.out 2 [4] rfl rfl e)
   replace W5 := Row.tr W5 TT G (fun k e => C.ms.sep.out 3 [4] rfl rfl e)
   replace W68 := Row.tr W68 TT G (fun k e => C.ms.sep.out 1 [4] rfl rfl e)
   replace KS94 := Enc.tr (slE pfxE) KS94 TT
   replace W96 := Row.tr W96 TT G (fun k e => C.ms.sep.out 0 [4] rfl rfl e)
   replace KS98 := Enc.tr (slE pfxE) KS98 TT
   replace GL0 := GL0.trans TT
   replace GL1 := GL1.trans TT
   replace GL2 := GL2.trans TT
   replace C := C.trans TT
   clear K2; have K2 := K; clear K TT G
   refine qt ?_
   refine qs ?_
   refine seq_new S rfl rfl (by decide) (fun b => .slice (some ⟨b, 0, none⟩) 5 5) (cs := [iI 0, iI 1, iI 0, iI 1, iI 2]) (x_bsl [(0, iI 0), (1, iI 1), (2, iI 0), (3, iI 1), (4, iI 2)] [iI 0, iI 1, iI 0, iI 1, iI 2] Try.underlying22 infoz_3 (by decide) (by decide) (by simp only [List.map_cons, List.map_nil, show a.eval (.const (iI 0)) = iI 0 from (S.e rfl), show a.eval (.const (iI 1)) = iI 1 from (S.e rfl), show a.eval (.const (iI 2)) = iI 2 from (S.e rfl)]) (by kernel_rfl)) ?_
   clear S a; intro a w95 b100 hb100 hbs100 G K100 S; have hbl100 : b100 < w95.heap.size := by omega
   have we100_0 : intE.wf (Fr F [abk ad99, abk es_a, abk ds_a, abk l2_a, one b2, one b1, one T]) w94.heap 0 := (show inI64 0 from ⟨by omega, by omega⟩)
   have we100_1 : intE.wf (Fr F [abk ad99, abk es_a, abk ds_a, abk l2_a, one b2, one b1, one T]) w94.heap 1 := (show inI64 1 from ⟨by omega, by omega⟩)
   have we100_2 : intE.wf (Fr F [abk ad99, abk es_a, abk ds_a, abk l2_a, one b2, one b1, one T]) w94.heap 0 := (show inI64 0 from ⟨by omega, by omega⟩)
   have we100_3 : intE.wf (Fr F [abk ad99, abk es_a, abk ds_a, abk l2_a, one b2, one b1, one T]) w94.heap 1 := (show inI64 1 from ⟨by omega, by omega⟩)
   have we100_4 : intE.wf (Fr F [abk ad99, abk es_a, abk ds_a, abk l2_a, one b2, one b1, one T]) w94.heap 2 := (show inI64 2 from ⟨by omega, by omega⟩)
   have hfr100 := fr_fresh C hF hb100; have TT := Tr.of_ch0 C.ms G
   replace T_w := Enc.tr (slE intE) T_w TT
   replace KS65 := Enc.tr (slE intE) KS65 TT
   replace T_K := TpB.tr0 T_K G
   replace K1 := Blk.tr0 K1 G
   replace K2 := Blk.tr0 K2 G
   replace W4 := Row.tr0 W4 TT G
   replace W5 := Row.tr0 W5 TT G
   replace W68 := Row.tr0 W68 TT G
   replace KS94 := Enc.tr (slE pfxE) KS94 TT
   replace W96 := Row.tr0 W96 TT G
   replace KS98 := Enc.tr (slE pfxE) KS98 TT
   replace GL0 := GL0.trans TT
   replace GL1 := GL1.trans TT
   replace GL2 := GL2.trans TT
   replace C := C.trans TT
   have KS100 : (slE intE).wf (Fr F [abk ad99, abk es_a, abk ds_a, abk l2_a, one b2, one b1, one T]) w95.heap ⟨some ⟨b100, 0, none⟩, 5, [0, 1, 0, 1, 2]⟩ := sl_of_blk K100 [0, 1, 0, 1, 2] 5 rfl (by decide) (by decide) rfl hfr100 (by intro x hx; simp only [List.mem_cons, List.not_mem_nil, or_false] at hx; rcases hx with rfl | rfl | rfl | rfl | rfl <;> first | exact Enc.tr (intE) we100_0 TT | exact Enc.tr (intE) we100_1 TT | exact Enc.tr (intE) we100_2 TT | exact Enc.tr (intE) we100_3 TT | exact Enc.tr (intE) we100_4 TT)
   clear K100 hfr100 TT G we100_0 we100_1 we100_2 we100_3 we100_4
   refine qm S rfl ?_; clear S a; intro a S
   refine seq_call S (by decide) (vs := #[pT T 0, iI 5]) rfl callable_23 (gNext _ (Ex F _) (C.old hF) T (C.ms.picks [6] (by decide)) T_l ((slE intE).dn T_w) T_K 5 ⟨by omega, by omega⟩) ?_
   rintro e w96 ⟨r_101, rfl, hr_101, tT_K, T0⟩; refine ⟨_, rfl, ?_⟩; clear S a; intro a S
   have TT := Tr.fra C.ms T0; have G := T0.ch
   replace T_w := Enc.tr (slE intE) T_w TT
   replace KS65 := Enc.tr (slE intE) KS65 TT
   replace K1 := Blk.tr K1 G (C.ms.sep.out 5 [6] rfl rfl rfl)
   replace K2 := Blk.tr K2 G (C.ms.sep.out 4 [6] rfl rfl rfl)
   replace W4 := Row.tr W4 TT G (fun k e => C.ms.sep.out 2 [6] rfl rfl e)
   replace W5 := Row.tr W5 TT G (fun k e => C.ms.sep.out 3 [6] rfl rfl e)
   replace W68 := Row.tr W68 TT G (fun k e => C.ms.sep.out 1 [6] rfl rfl e)
   replace KS94 := Enc.tr (slE pfxE) KS94 TT
   replace W96 := Row.tr W96 TT G (fun k e => C.ms.sep.out 0 [6] rfl rfl e)
   replace KS98 := Enc.tr (slE pfxE) KS98 TT
   replace KS100 := Enc.tr (slE intE) KS100 TT
   replace GL0 := GL0.trans TT
   replace GL1 := GL1.trans TT
   replace GL2 := GL2.trans TT
   replace C := C.trans TT
   clear T_K; have T_K := tT_K; clear tT_K
   clear T0 G TT
   refine qv S (pT (blk (some ⟨b100, 0, none⟩)) (off (some ⟨b100, 0, none⟩) + (r_101).toNat * 1)) (x_idx Try.underlying22 (by kernel_rfl) (S.e rfl) (S.e rfl) (r_101).toNat (by omega) (by first | omega | (simp only [List.length_cons, List.length_nil]; omega)) ((show LAt intE _ _ (some ⟨b100, 0, none⟩) ([0, 1, 0, 1, 2]) from (KS100).1).adr (i := (r_101).toNat) (by first | omega | (simp only [List.length_cons, List.length_nil]; omega)))) ?_; clear S a; intro a S
   obtain ⟨hl102, hu102⟩ : inI64 (([0, 1, 0, 1, 2]).getD ((r_101).toNat) intE.dflt) := id ((show LAt intE _ _ (some ⟨b100, 0, none⟩) ([0, 1, 0, 1, 2]) from (KS100).1).wf (r_101).toNat (by first | omega | (simp only [List.length_cons, List.length_nil]; omega)))
   refine qv S (iI (([0, 1, 0, 1, 2]).getD ((r_101).toNat) intE.dflt)) (x_load ⟨_, Try.underlying3, rfl⟩ (S.e rfl) ((show LAt intE _ _ (some ⟨b100, 0, none⟩) ([0, 1, 0, 1, 2]) from (KS100).1).cell (r_101).toNat (by first | omega | (simp only [List.length_cons, List.length_nil]; omega)) 0 _ rfl)) ?_; clear S a; intro a S
   refine qv S (pT b2 (0 + 4)) (x_fld (z := 0) (0) 4 Try.underlying28 rfl rfl (by kernel_rfl) (S.e rfl)) ?_; clear S a; intro a S
   refine seq_store S rfl rfl [.slice ds_a ds.length ds_c, .slice l2_a l2.length l2_c, .slice es_a es.length es_c, .slice ad99 ((([] ++ [(⟨168296448, 22⟩ : Pfx)]) ++ [(⟨167772672, 24⟩ : Pfx)]).length) cap99, iI (([0, 1, 0, 1, 2]).getD ((r_101).toNat) intE.dflt)] (x_store (by kernel_rfl) (S.e rfl) (S.e rfl) rfl K2 (o := 0 + 4) (u := iI 0) rfl) K2 rfl ?_
   clear S a; intro a w97 G hz K S; clear hz; have TT := Tr.och C.ms G
   replace T_w := Enc.tr (slE intE) T_w TT
   replace KS65 := Enc.tr (slE intE) KS65 TT
   replace T_K := TpB.tr T_K G (C.ms.sep.out 6 [4] rfl rfl rfl)
   replace K1 := Blk.tr K1 G (C.ms.sep.out 5 [4] rfl rfl rfl)
   replace W4 := Row.tr W4 TT G (fun k e => C.ms.sep.out 2 [4] rfl rfl e)
   replace W5 := Row.tr W5 TT G (fun k e => C.ms.sep.out 3 [4] rfl rfl e)
   replace W68 := Row.tr W68 TT G (fun k e => C.ms.sep.out 1 [4] rfl rfl e)
   replace KS94 := Enc.tr (slE pfxE) KS94 TT
   replace W96 := Row.tr W96 TT G (fun k e => C.ms.sep.out 0 [4] rfl rfl e)
   replace KS98 := Enc.tr (slE pfxE) KS98 TT
   replace KS100 := Enc.tr (slE intE) KS100 TT
   replace GL0 := GL0.trans TT
   replace GL1 := GL1.trans TT
   replace GL2 := GL2.trans TT
   replace C := C.trans TT
   clear K2; have K2 := K; clear K TT G
   refine qt ?_
   refine qs ?_
   refine qv S _ (x_loadw [.slice ds_a ds.length ds_c, .slice l2_a l2.length l2_c, .slice es_a es.length es_c, .slice ad99 ((([] ++ [(⟨168296448, 22⟩ : Pfx)]) ++ [(⟨167772672, 24⟩ : Pfx)]).length) cap99, iI (([0, 1, 0, 1, 2]).getD ((r_101).toNat) intE.dflt)] ⟨_, Try.underlying28, rfl, by kernel_rfl⟩ (S.e rfl) (K2.mid [] _ [] rfl _ rfl)) ?_; clear S a; intro a S
   refine seq_storew S rfl rfl (vs := [.slice ds_a ds.length ds_c, .slice l2_a l2.length l2_c, .slice es_a es.length es_c, .slice ad99 ((([] ++ [(⟨168296448, 22⟩ : Pfx)]) ++ [(⟨167772672, 24⟩ : Pfx)]).length) cap99, iI (([0, 1, 0, 1, 2]).getD ((r_101).toNat) intE.dflt)]) (x_storew (by kernel_rfl) (S.e rfl) (S.e rfl) rfl K1 rfl) K1 ?_
   clear S a; intro a w98 G hz K S; clear hz; have TT := Tr.och C.ms G
   replace T_w := Enc.tr (slE intE) T_w TT
   replace KS65 := Enc.tr (slE intE) KS65 TT
   replace T_K := TpB.tr T_K G (C.ms.sep.out 6 [5] rfl rfl rfl)
   replace K2 := Blk.tr K2 G (C.ms.sep.out 4 [5] rfl rfl rfl)
   replace W4 := Row.tr W4 TT G (fun k e => C.ms.sep.out 2 [5] rfl rfl e)
   replace W5 := Row.tr W5 TT G (fun k e => C.ms.sep.out 3 [5] rfl rfl e)
   replace W68 := Row.tr W68 TT G (fun k e => C.ms.sep.out 1 [5] rfl rfl e)
   replace KS94 := Enc.tr (slE pfxE) KS94 TT
   replace W96 := Row.tr W96 TT G (fun k e => C.ms.sep.out 0 [5] rfl rfl e)
   replace KS98 := Enc.tr (slE pfxE) KS98 TT
   replace KS100 := Enc.tr (slE intE) KS100 TT
   replace GL0 := GL0.trans TT
   replace GL1 := GL1.trans TT
   replace GL2 := GL2.trans TT
   replace C := C.trans TT
   clear K1; have K1 := K; clear K TT G
   refine qt ?_
   refine wp_ret ?_
   have FW4 := Row.freeze (pre := [abk ad99, abk es_a]) (post := [abk l2_a, one b2, one b1, one T]) rfl C.ms W4 (by first | decide | exact Nat.one_pos) (W4.notF hF (Nat.le_refl _))
   have TF := Tr.leave (pre := [abk ad99, abk es_a]) (o := abk ds_a) (post := [abk l2_a, one b2, one b1, one T]) C.ms
   have GF : Ch (In []) w98 w98 := Ch.refl _
   replace T_w := Enc.tr (slE intE) T_w TF
   replace KS65 := Enc.tr (slE intE) KS65 TF
   replace T_K := TpB.tr0 T_K GF
   replace K1 := Blk.tr0 K1 GF
   replace K2 := Blk.tr0 K2 GF
   replace W5 := Row.tr0 W5 TF GF
   replace W68 := Row.tr0 W68 TF GF
   replace KS94 := Enc.tr (slE pfxE) KS94 TF
   replace W96 := Row.tr0 W96 TF GF
   replace KS98 := Enc.tr (slE pfxE) KS98 TF
   replace KS100 := Enc.tr (slE intE) KS100 TF
   replace GL0 := GL0.trans TF
   replace GL1 := GL1.trans TF
   replace GL2 := GL2.trans TF
   replace C := C.trans TF
   replace FW4 : (slE devE).wf (Fr F [abk ad99, abk es_a, abk l2_a, one b2, one b1, one T]) w98.heap ⟨ds_a, ds_c, ds⟩ := FW4; clear W4
   have FW5 := Row.freeze (pre := [abk ad99, abk es_a]) (post := [one b2, one b1, one T]) rfl C.ms W5 (by first | decide | exact Nat.one_pos) (W5.notF hF (Nat.le_refl _))
   have TF := Tr.leave (pre := [abk ad99, abk es_a]) (o := abk l2_a) (post := [one b2, one b1, one T]) C.ms
   have GF : Ch (In []) w98 w98 := Ch.refl _
   replace T_w := Enc.tr (slE intE) T_w TF
   replace KS65 := Enc.tr (slE intE) KS65 TF
   replace T_K := TpB.tr0 T_K GF
   replace K1 := Blk.tr0 K1 GF
   replace K2 := Blk.tr0 K2 GF
   replace W68 := Row.tr0 W68 TF GF
   replace KS94 := Enc.tr (slE pfxE) KS94 TF
   replace W96 := Row.tr0 W96 TF GF
   replace KS98 := Enc.tr (slE pfxE) KS98 TF
   replace KS100 := Enc.tr (slE intE) KS100 TF
   replace FW4 := Enc.tr (slE devE) FW4 TF
   replace GL0 := GL0.trans TF
   replace GL1 := GL1.trans TF
   replace GL2 := GL2.trans TF
   replace C := C.trans TF
   replace FW5 : (slE lnkE).wf (Fr F [abk ad99, abk es_a, one b2, one b1, one T]) w98.heap ⟨l2_a, l2_c, l2⟩ := FW5; clear W5
   have FW68 := Row.freeze (pre := [abk ad99]) (post := [one b2, one b1, one T]) rfl C.ms W68 (by first | decide | exact Nat.one_pos) (W68.notF hF (Nat.le_refl _))
   have TF := Tr.leave (pre := [abk ad99]) (o := abk es_a) (post := [one b2, one b1, one T]) C.ms
   have GF : Ch (In []) w98 w98 := Ch.refl _
   replace T_w := Enc.tr (slE intE) T_w TF
   replace KS65 := Enc.tr (slE intE) KS65 TF
   replace T_K := TpB.tr0 T_K GF
   replace K1 := Blk.tr0 K1 GF
   replace K2 := Blk.tr0 K2 GF
   replace KS94 := Enc.tr (slE pfxE) KS94 TF
   replace W96 := Row.tr0 W96 TF GF
   replace KS98 := Enc.tr (slE pfxE) KS98 TF
   replace KS100 := Enc.tr (slE intE) KS100 TF
   replace FW4 := Enc.tr (slE devE) FW4 TF
   replace FW5 := Enc.tr (slE lnkE) FW5 TF
   replace GL0 := GL0.trans TF
   replace GL1 := GL1.trans TF
   replace GL2 := GL2.trans TF
   replace C := C.trans TF
   replace FW68 : (slE edgE).wf (Fr F [abk ad99, one b2, one b1, one T]) w98.heap ⟨es_a, es_c, es⟩ := FW68; clear W68
   have FW96 := Row.freeze (pre := []) (post := [one b2, one b1, one T]) rfl C.ms W96 (by first | decide | exact Nat.one_pos) (W96.notF hF (Nat.le_refl _))
   have TF := Tr.leave (pre := []) (o := abk ad99) (post := [one b2, one b1, one T]) C.ms
   have GF : Ch (In []) w98 w98 := Ch.refl _
   replace T_w := Enc.tr (slE intE) T_w TF
   replace KS65 := Enc.tr (slE intE) KS65 TF
   replace T_K := TpB.tr0 T_K GF
   replace K1 := Blk.tr0 K1 GF
   replace K2 := Blk.tr0 K2 GF
   replace KS94 := Enc.tr (slE pfxE) KS94 TF
   replace KS98 := Enc.tr (slE pfxE) KS98 TF
   replace KS100 := Enc.tr (slE intE) KS100 TF
   replace FW4 := Enc.tr (slE devE) FW4 TF
   replace FW5 := Enc.tr (slE lnkE) FW5 TF
   replace FW68 := Enc.tr (slE edgE) FW68 TF
   replace GL0 := GL0.trans TF
   replace GL1 := GL1.trans TF
   replace GL2 := GL2.trans TF
   replace C := C.trans TF
   replace FW96 : (slE pfxE).wf (Fr F [one b2, one b1, one T]) w98.heap ⟨ad99, cap99, (([] ++ [(⟨168296448, 22⟩ : Pfx)]) ++ [(⟨167772672, 24⟩ : Pfx)])⟩ := FW96; clear W96
   refine retcw rfl S rfl [.slice ds_a ds.length ds_c, .slice l2_a l2.length l2_c, .slice es_a es.length es_c, .slice ad99 ((([] ++ [(⟨168296448, 22⟩ : Pfx)]) ++ [(⟨167772672, 24⟩ : Pfx)]).length) cap99, iI (([0, 1, 0, 1, 2]).getD ((r_101).toNat) intE.dflt)] ⟨_, Try.underlying28, rfl, by kernel_rfl⟩ (fun j v hv => by rw [Nat.zero_add]; exact K1.cell hv) ?_
   have TD : Tr [one b2, one b1, one T] w98 [one T] w98 := Tr.drop C.ms [2] (by decide)
   have GD : Ch (In []) w98 w98 := Ch.refl _
   clear K1
   clear K2
   replace T_w := Enc.tr (slE intE) T_w TD
   replace KS65 := Enc.tr (slE intE) KS65 TD
   replace T_K := TpB.tr0 T_K GD
   replace KS94 := Enc.tr (slE pfxE) KS94 TD
   replace KS98 := Enc.tr (slE pfxE) KS98 TD
   replace KS100 := Enc.tr (slE intE) KS100 TD
   replace FW4 := Enc.tr (slE devE) FW4 TD
   replace FW5 := Enc.tr (slE lnkE) FW5 TD
   replace FW68 := Enc.tr (slE edgE) FW68 TD
   replace FW96 := Enc.tr (slE pfxE) FW96 TD
   replace GL0 := GL0.trans TD
   replace GL1 := GL1.trans TD
   replace GL2 := GL2.trans TD
   replace C := C.trans TD
   clear TD GD
   refine ⟨(⟨(Sl.mk ds_a ds_c ds), (Sl.mk l2_a l2_c l2), (Sl.mk es_a es_c es), (Sl.mk ad99 cap99 (([] ++ [(⟨168296448, 22⟩ : Pfx)]) ++ [(⟨167772672, 24⟩ : Pfx)])), (([0, 1, 0, 1, 2]).getD ((r_101).toNat) intE.dflt)⟩ : Topo), rfl, ⟨FW4, FW5, FW68, FW96, ((show LAt intE _ _ (some ⟨b100, 0, none⟩) ([0, 1, 0, 1, 2]) from (KS100).1).wf (r_101).toNat (by first | omega | (simp only [List.length_cons, List.length_nil]; omega)))⟩, ?_, T_K, C⟩
   exact ⟨gen_valid hn1 hn6 (by show ds.length = nn; omega) (fun j hj => hd j (by omega)) (by show l2.length ≤ 9; omega) hl2 (by show es.length ≤ 5; omega) (fun j hj => he j (by rw [← hel]; exact hj)) (by first | exact .inl rfl | exact .inr (.inl rfl) | exact .inr (.inr (.inl rfl)) | exact .inr (.inr (.inr rfl))) (tols_fine _), by show ds.length ≤ 6; omega, by show l2.length ≤ 9; omega, by show es.length ≤ 5; omega, by first | (show List.length [] ≤ 2; decide) | (simp)⟩
  intro hc10
  refine wp_skip ?_
  refine then_n ?_
  refine qs ?_
  refine seq_new S rfl rfl (by decide) (fun b => .slice (some ⟨b, 0, none⟩) 5 5) (cs := [iI 0, iI 1, iI 0, iI 1, iI 2]) (x_bsl [(0, iI 0), (1, iI 1), (2, iI 0), (3, iI 1), (4, iI 2)] [iI 0, iI 1, iI 0, iI 1, iI 2] Try.underlying22 infoz_3 (by decide) (by decide) (by simp only [List.map_cons, List.map_nil, show a.eval (.const (iI 0)) = iI 0 from (S.e rfl), show a.eval (.const (iI 1)) = iI 1 from (S.e rfl), show a.eval (.const (iI 2)) = iI 2 from (S.e rfl)]) (by kernel_rfl)) ?_
  clear S a; intro a w99 b103 hb103 hbs103 G K103 S; have hbl103 : b103 < w99.heap.size := by omega
  have we103_0 : intE.wf (Fr F [abk ad95, abk es_a, abk ds_a, abk l2_a, one b2, one b1, one T]) w91.heap 0 := (show inI64 0 from ⟨by omega, by omega⟩)
  have we103_1 : intE.wf (Fr F [abk ad95, abk es_a, abk ds_a, abk l2_a, one b2, one b1, one T]) w91.heap 1 := (show inI64 1 from ⟨by omega, by omega⟩)
  have we103_2 : intE.wf (Fr F [abk ad95, abk es_a, abk ds_a, abk l2_a, one b2, one b1, one T]) w91.heap 0 := (show inI64 0 from ⟨by omega, by omega⟩)
  have we103_3 : intE.wf (Fr F [abk ad95, abk es_a, abk ds_a, abk l2_a, one b2, one b1, one T]) w91.heap 1 := (show inI64 1 from ⟨by omega, by omega⟩)
  have we103_4 : intE.wf (Fr F [abk ad95, abk es_a, abk ds_a, abk l2_a, one b2, one b1, one T]) w91.heap 2 := (show inI64 2 from ⟨by omega, by omega⟩)
  have hfr103 := fr_fresh C hF hb103; have TT := Tr.of_ch0 C.ms G
  replace T_w := Enc.tr (slE intE) T_w TT
  replace KS65 := Enc.tr (slE intE) KS65 TT
  replace T_K := TpB.tr0 T_K G
  replace K1 := Blk.tr0 K1 G
  replace K2 := Blk.tr0 K2 G
  replace W4 := Row.tr0 W4 TT G
  replace W5 := Row.tr0 W5 TT G
  replace W68 := Row.tr0 W68 TT G
  replace KS94 := Enc.tr (slE pfxE) KS94 TT
  replace W96 := Row.tr0 W96 TT G
  replace GL0 := GL0.trans TT
  replace GL1 := GL1.trans TT
  replace GL2 := GL2.trans TT
  replace C := C.trans TT
  have KS103 : (slE intE).wf (Fr F [abk ad95, abk es_a, abk ds_a, abk l2_a, one b2, one b1, one T]) w99.heap ⟨some ⟨b103, 0, none⟩, 5, [0, 1, 0, 1, 2]⟩ := sl_of_blk K103 [0, 1, 0, 1, 2] 5 rfl (by decide) (by decide) rfl hfr103 (by intro x hx; simp only [List.mem_cons, List.not_mem_nil, or_false] at hx; rcases hx with rfl | rfl | rfl | rfl | rfl <;> first | exact Enc.tr (intE) we103_0 TT | exact Enc.tr (intE) we103_1 TT | exact Enc.tr (intE) we103_2 TT | exact Enc.tr (intE) we103_3 TT | exact Enc.tr (intE) we103_4 TT)
  clear K103 hfr103 TT G we103_0 we103_1 we103_2 we103_3 we103_4
  refine qm S rfl ?_; clear S a; intro a S
  refine seq_call S (by decide) (vs := #[pT T 0, iI 5]) rfl callable_23 (gNext _ (Ex F _) (C.old hF) T (C.ms.picks [6] (by decide)) T_l ((slE intE).dn T_w) T_K 5 ⟨by omega, by omega⟩) ?_
  rintro e w100 ⟨r_104, rfl, hr_104, tT_K, T0⟩; refine ⟨_, rfl, ?_⟩; clear S a; intro a S
  have TT := Tr.fra C.ms T0; have G := T0.ch
  replace T_w := Enc.tr (slE intE) T_w TT
  replace KS65 := Enc.tr (slE intE) KS65 TT
  replace K1 := Blk.tr K1 G (C.ms.sep.out 5 [6] rfl rfl rfl)
  replace K2 := Blk.tr K2 G (C.ms.sep.out 4 [6] rfl rfl rfl)
  replace W4 := Row.tr W4 TT G (fun k e => C.ms.sep.out 2 [6] rfl rfl e)
  replace W5 := Row.tr W5 TT G (fun k e => C.ms.sep.out 3 [6] rfl rfl e)
  replace W68 := Row.tr W68 TT G (fun k e => C.ms.sep.out 1 [6] rfl rfl e)
  replace KS94 := Enc.tr (slE pfxE) KS94 TT
  replace W96 := Row.tr W96 TT G (fun k e => C.ms.sep.out 0 [6] rfl rfl e)
  replace KS103 := Enc.tr (slE intE) KS103 TT
  replace GL0 := GL0.trans TT
  replace GL1 := GL1.trans TT
  replace GL2 := GL2.trans TT
  replace C := C.trans TT
  clear T_K; have T_K := tT_K; clear tT_K
  clear T0 G TT
  refine qv S (pT (blk (some ⟨b103, 0, none⟩)) (off (some ⟨b103, 0, none⟩) + (r_104).toNat * 1)) (x_idx Try.underlying22 (by kernel_rfl) (S.e rfl) (S.e rfl) (r_104).toNat (by omega) (by first | omega | (simp only [List.length_cons, List.length_nil]; omega)) ((show LAt intE _ _ (some ⟨b103, 0, none⟩) ([0, 1, 0, 1, 2]) from (KS103).1).adr (i := (r_104).toNat) (by first | omega | (simp only [List.length_cons, List.length_nil]; omega)))) ?_; clear S a; intro a S
  obtain ⟨hl105, hu105⟩ : inI64 (([0, 1, 0, 1, 2]).getD ((r_104).toNat) intE.dflt) := id ((show LAt intE _ _ (some ⟨b103, 0, none⟩) ([0, 1, 0, 1, 2]) from (KS103).1).wf (r_104).toNat (by first | omega | (simp only [List.length_cons, List.length_nil]; omega)))
  refine qv S (iI (([0, 1, 0, 1, 2]).getD ((r_104).toNat) intE.dflt)) (x_load ⟨_, Try.underlying3, rfl⟩ (S.e rfl) ((show LAt intE _ _ (some ⟨b103, 0, none⟩) ([0, 1, 0, 1, 2]) from (KS103).1).cell (r_104).toNat (by first | omega | (simp only [List.length_cons, List.length_nil]; omega)) 0 _ rfl)) ?_; clear S a; intro a S
  refine qv S (pT b2 (0 + 4)) (x_fld (z := 0) (0) 4 Try.underlying28 rfl rfl (by kernel_rfl) (S.e rfl)) ?_; clear S a; intro a S
  refine seq_store S rfl rfl [.slice ds_a ds.length ds_c, .slice l2_a l2.length l2_c, .slice es_a es.length es_c, .slice ad95 (([] ++ [(⟨168296448, 22⟩ : Pfx)]).length) cap95, iI (([0, 1, 0, 1, 2]).getD ((r_104).toNat) intE.dflt)] (x_store (by kernel_rfl) (S.e rfl) (S.e rfl) rfl K2 (o := 0 + 4) (u := iI 0) rfl) K2 rfl ?_
  clear S a; intro a w101 G hz K S; clear hz; have TT := Tr.och C.ms G
  replace T_w := Enc.tr (slE intE) T_w TT
  replace KS65 := Enc.tr (slE intE) KS65 TT
  replace T_K := TpB.tr T_K G (C.ms.sep.out 6 [4] rfl rfl rfl)
  replace K1 := Blk.tr K1 G (C.ms.sep.out 5 [4] rfl rfl rfl)
  replace W4 := Row.tr W4 TT G (fun k e => C.ms.sep.out 2 [4] rfl rfl e)
  replace W5 := Row.tr W5 TT G (fun k e => C.ms.sep.out 3 [4] rfl rfl e)
  replace W68 := Row.tr W68 TT G (fun k e => C.ms.sep.out 1 [4] rfl rfl e)
  replace KS94 := Enc.tr (slE pfxE) KS94 TT
  replace W96 := Row.tr W96 TT G (fun k e => C.ms.sep.out 0 [4] rfl rfl e)
  replace KS103 := Enc.tr (slE intE) KS103 TT
  replace GL0 := GL0.trans TT
  replace GL1 := GL1.trans TT
  replace GL2 := GL2.trans TT
  replace C := C.trans TT
  clear K2; have K2 := K; clear K TT G
  refine qt ?_
  refine qs ?_
  refine qv S _ (x_loadw [.slice ds_a ds.length ds_c, .slice l2_a l2.length l2_c, .slice es_a es.length es_c, .slice ad95 (([] ++ [(⟨168296448, 22⟩ : Pfx)]).length) cap95, iI (([0, 1, 0, 1, 2]).getD ((r_104).toNat) intE.dflt)] ⟨_, Try.underlying28, rfl, by kernel_rfl⟩ (S.e rfl) (K2.mid [] _ [] rfl _ rfl)) ?_; clear S a; intro a S
  refine seq_storew S rfl rfl (vs := [.slice ds_a ds.length ds_c, .slice l2_a l2.length l2_c, .slice es_a es.length es_c, .slice ad95 (([] ++ [(⟨168296448, 22⟩ : Pfx)]).length) cap95, iI (([0, 1, 0, 1, 2]).getD ((r_104).toNat) intE.dflt)]) (x_storew (by kernel_rfl) (S.e rfl) (S.e rfl) rfl K1 rfl) K1 ?_
  clear S a; intro a w102 G hz K S; clear hz; have TT := Tr.och C.ms G
  replace T_w := Enc.tr (slE intE) T_w TT
  replace KS65 := Enc.tr (slE intE) KS65 TT
  replace T_K := TpB.tr T_K G (C.ms.sep.out 6 [5] rfl rfl rfl)
  replace K2 := Blk.tr K2 G (C.ms.sep.out 4 [5] rfl rfl rfl)
  replace W4 := Row.tr W4 TT G (fun k e => C.ms.sep.out 2 [5] rfl rfl e)
  replace W5 := Row.tr W5 TT G (fun k e => C.ms.sep.out 3 [5] rfl rfl e)
  replace W68 := Row.tr W68 TT G (fun k e => C.ms.sep.out 1 [5] rfl rfl e)
  replace KS94 := Enc.tr (slE pfxE) KS94 TT
  replace W96 := Row.tr W96 TT G (fun k e => C.ms.sep.out 0 [5] rfl rfl e)
  replace KS103 := Enc.tr (slE intE) KS103 TT
  replace GL0 := GL0.trans TT
  replace GL1 := GL1.trans TT
  replace GL2 := GL2.trans TT
  replace C := C.trans TT
  clear K1; have K1 := K; clear K TT G
  refine qt ?_
  refine wp_ret ?_
  have FW4 := Row.freeze (pre := [abk ad95, abk es_a]) (post := [abk l2_a, one b2, one b1, one T]) rfl C.ms W4 (by first | decide | exact Nat.one_pos) (W4.notF hF (Nat.le_refl _))
  have TF := Tr.leave (pre := [abk ad95, abk es_a]) (o := abk ds_a) (post := [abk l2_a, one b2, one b1, one T]) C.ms
  have GF : Ch (In []) w102 w102 := Ch.refl _
  replace T_w := Enc.tr (slE intE) T_w TF
  replace KS65 := Enc.tr (slE intE) KS65 TF
  replace T_K := TpB.tr0 T_K GF
  replace K1 := Blk.tr0 K1 GF
  replace K2 := Blk.tr0 K2 GF
  replace W5 := Row.tr0 W5 TF GF
  replace W68 := Row.tr0 W68 TF GF
  replace KS94 := Enc.tr (slE pfxE) KS94 TF
  replace W96 := Row.tr0 W96 TF GF
  replace KS103 := Enc.tr (slE intE) KS103 TF
  replace GL0 := GL0.trans TF
  replace GL1 := GL1.trans TF
  replace GL2 := GL2.trans TF
  replace C := C.trans TF
  replace FW4 : (slE devE).wf (Fr F [abk ad95, abk es_a, abk l2_a, one b2, one b1, one T]) w102.heap ⟨ds_a, ds_c, ds⟩ := FW4; clear W4
  have FW5 := Row.freeze (pre := [abk ad95, abk es_a]) (post := [one b2, one b1, one T]) rfl C.ms W5 (by first | decide | exact Nat.one_pos) (W5.notF hF (Nat.le_refl _))
  have TF := Tr.leave (pre := [abk ad95, abk es_a]) (o := abk l2_a) (post := [one b2, one b1, one T]) C.ms
  have GF : Ch (In []) w102 w102 := Ch.refl _
  replace T_w := Enc.tr (slE intE) T_w TF
  replace KS65 := Enc.tr (slE intE) KS65 TF
  replace T_K := TpB.tr0 T_K GF
  replace K1 := Blk.tr0 K1 GF
  replace K2 := Blk.tr0 K2 GF
  replace W68 := Row.tr0 W68 TF GF
  replace KS94 := Enc.tr (slE pfxE) KS94 TF
  replace W96 := Row.tr0 W96 TF GF
  replace KS103 := Enc.tr (slE intE) KS103 TF
  replace FW4 := Enc.tr (slE devE) FW4 TF
  replace GL0 := GL0.trans TF
  replace GL1 := GL1.trans TF
  replace GL2 := GL2.trans TF
  replace C := C.trans TF
  replace FW5 : (slE lnkE).wf (Fr F [abk ad95, abk es_a, one b2, one b1, one T]) w102.heap ⟨l2_a, l2_c, l2⟩ := FW5; clear W5
  have FW68 := Row.freeze (pre := [abk ad95]) (post := [one b2, one b1, one T]) rfl C.ms W68 (by first | decide | exact Nat.one_pos) (W68.notF hF (Nat.le_refl _))
  have TF := Tr.leave (pre := [abk ad95]) (o := abk es_a) (post := [one b2, one b1, one T]) C.ms
  have GF : Ch (In []) w102 w102 := Ch.refl _
  replace T_w := Enc.tr (slE intE) T_w TF
  replace KS65 := Enc.tr (slE intE) KS65 TF
  replace T_K := TpB.tr0 T_K GF
  replace K1 := Blk.tr0 K1 GF
  replace K2 := Blk.tr0 K2 GF
  replace KS94 := Enc.tr (slE pfxE) KS94 TF
  replace W96 := Row.tr0 W96 TF GF
  replace KS103 := Enc.tr (slE intE) KS103 TF
  replace FW4 := Enc.tr (slE devE) FW4 TF
  replace FW5 := Enc.tr (slE lnkE) FW5 TF
  replace GL0 := GL0.trans TF
  replace GL1 := GL1.trans TF
  replace GL2 := GL2.trans TF
  replace C := C.trans TF
  replace FW68 : (slE edgE).wf (Fr F [abk ad95, one b2, one b1, one T]) w102.heap ⟨es_a, es_c, es⟩ := FW68; clear W68
  have FW96 := Row.freeze (pre := []) (post := [one b2, one b1, one T]) rfl C.ms W96 (by first | decide | exact Nat.one_pos) (W96.notF hF (Nat.le_refl _))
  have TF := Tr.leave (pre := []) (o := abk ad95) (post := [one b2, one b1, one T]) C.ms
  have GF : Ch (In []) w102 w102 := Ch.refl _
  replace T_w := Enc.tr (slE intE) T_w TF
  replace KS65 := Enc.tr (slE intE) KS65 TF
  replace T_K := TpB.tr0 T_K GF
  replace K1 := Blk.tr0 K1 GF
  replace K2 := Blk.tr0 K2 GF
  replace KS94 := Enc.tr (slE pfxE) KS94 TF
  replace KS103 := Enc.tr (slE intE) KS103 TF
  replace FW4 := Enc.tr (slE devE) FW4 TF
  replace FW5 := Enc.tr (slE lnkE) FW5 TF
  replace FW68 := Enc.tr (slE edgE) FW68 TF
  replace GL0 := GL0.trans TF
  replace GL1 := GL1.trans TF
  replace GL2 := GL2.trans TF
  replace C := C.trans TF
  replace FW96 : (slE pfxE).wf (Fr F [one b2, one b1, one T]) w102.heap ⟨ad95, cap95, ([] ++ [(⟨168296448, 22⟩ : Pfx)])⟩ := FW96; clear W96
  refine retcw rfl S rfl [.slice ds_a ds.length ds_c, .slice l2_a l2.length l2_c, .slice es_a es.length es_c, .slice ad95 (([] ++ [(⟨168296448, 22⟩ : Pfx)]).length) cap95, iI (([0, 1, 0, 1, 2]).getD ((r_104).toNat) intE.dflt)] ⟨_, Try.underlying28, rfl, by kernel_rfl⟩ (fun j v hv => by rw [Nat.zero_add]; exact K1.cell hv) ?_
  have TD : Tr [one b2, one b1, one T] w102 [one T] w102 := Tr.drop C.ms [2] (by decide)
  have GD : Ch (In []) w102 w102 := Ch.refl _
  clear K1
  clear K2
  replace T_w := Enc.tr (slE intE) T_w TD
  replace KS65 := Enc.tr (slE intE) KS65 TD
  replace T_K := TpB.tr0 T_K GD
  replace KS94 := Enc.tr (slE pfxE) KS94 TD
  replace KS103 := Enc.tr (slE intE) KS103 TD
  replace FW4 := Enc.tr (slE devE) FW4 TD
  replace FW5 := Enc.tr (slE lnkE) FW5 TD
  replace FW68 := Enc.tr (slE edgE) FW68 TD
  replace FW96 := Enc.tr (slE pfxE) FW96 TD
  replace GL0 := GL0.trans TD
  replace GL1 := GL1.trans TD
  replace GL2 := GL2.trans TD
  replace C := C.trans TD
  clear TD GD
  refine ⟨(⟨(Sl.mk ds_a ds_c ds), (Sl.mk l2_a l2_c l2), (Sl.mk es_a es_c es), (Sl.mk ad95 cap95 ([] ++ [(⟨168296448, 22⟩ : Pfx)])), (([0, 1, 0, 1, 2]).getD ((r_104).toNat) intE.dflt)⟩ : Topo), rfl, ⟨FW4, FW5, FW68, FW96, ((show LAt intE _ _ (some ⟨b103, 0, none⟩) ([0, 1, 0, 1, 2]) from (KS103).1).wf (r_104).toNat (by first | omega | (simp only [List.length_cons, List.length_nil]; omega)))⟩, ?_, T_K, C⟩
  exact ⟨gen_valid hn1 hn6 (by show ds.length = nn; omega) (fun j hj => hd j (by omega)) (by show l2.length ≤ 9; omega) hl2 (by show es.length ≤ 5; omega) (fun j hj => he j (by rw [← hel]; exact hj)) (by first | exact .inl rfl | exact .inr (.inl rfl) | exact .inr (.inr (.inl rfl)) | exact .inr (.inr (.inr rfl))) (tols_fine _), by show ds.length ≤ 6; omega, by show l2.length ≤ 9; omega, by show es.length ≤ 5; omega, by first | (show List.length [] ≤ 2; decide) | (simp)⟩
 intro hc11
 refine wp_skip ?_
 refine then_n ?_
 refine wp_seq ?_
 refine qs ?_
 refine qm S rfl ?_; clear S a; intro a S
 refine seq_call S (by decide) (vs := #[pT T 0, iI 3]) rfl callable_23 (gNext _ (Ex F _) (C.old hF) T (C.ms.picks [5] (by decide)) T_l ((slE intE).dn T_w) T_K 3 ⟨by omega, by omega⟩) ?_
 rintro e w103 ⟨r_106, rfl, hr_106, tT_K, T0⟩; refine ⟨_, rfl, ?_⟩; clear S a; intro a S
 have TT := Tr.fra C.ms T0; have G := T0.ch
 replace T_w := Enc.tr (slE intE) T_w TT
 replace KS65 := Enc.tr (slE intE) KS65 TT
 replace K1 := Blk.tr K1 G (C.ms.sep.out 4 [5] rfl rfl rfl)
 replace K2 := Blk.tr K2 G (C.ms.sep.out 3 [5] rfl rfl rfl)
 replace W4 := Row.tr W4 TT G (fun k e => C.ms.sep.out 1 [5] rfl rfl e)
 replace W5 := Row.tr W5 TT G (fun k e => C.ms.sep.out 2 [5] rfl rfl e)
 replace W68 := Row.tr W68 TT G (fun k e => C.ms.sep.out 0 [5] rfl rfl e)
 replace GL0 := GL0.trans TT
 replace GL1 := GL1.trans TT
 replace GL2 := GL2.trans TT
 replace C := C.trans TT
 clear T_K; have T_K := tT_K; clear tT_K
 clear T0 G TT
 refine qv S (bD (r_106 = 1)) (x_eql (S.e rfl) (S.e rfl)) ?_; clear S a; intro a S
 refine qt ?_
 refine cond_dec S rfl ?_ ?_
 ·intro hc12
  refine wp_region_lit ?_
  refine qv S (pT b2 (0 + 3)) (x_fld (z := 0) (0) 3 Try.underlying28 rfl rfl (by kernel_rfl) (S.e rfl)) ?_; clear S a; intro a S
  refine qv S (.slice none 0 0) (x_load ⟨_, Try.underlying26, rfl⟩ (S.e rfl) (K2.cell (j := 3) rfl)) ?_; clear S a; intro a S
  refine qv S (.agg #[.int .u32 167772672, iI 24]) (x_build [(0, .int .u32 167772672), (1, iI 24)] [.int .u32 167772672, iI 24] (by simp only [List.map_cons, List.map_nil, show a.eval (.const (.int .u32 167772672)) = .int .u32 167772672 from (S.e rfl), show a.eval (.const (iI 24)) = iI 24 from (S.e rfl)]) (by kernel_rfl)) ?_; clear S a; intro a S
  refine seq_new S rfl rfl (by decide) (fun b => .slice (some ⟨b, 0, none⟩) 1 1) (cs := [.int .u32 167772672, iI 24]) (x_bsl [(0, .agg #[.int .u32 167772672, iI 24])] [.int .u32 167772672, iI 24] Try.underlying26 infoz_68 (by decide) (by decide) (by simp only [List.map_cons, List.map_nil, show a.eval (.tmp 143) = .agg #[.int .u32 167772672, iI 24] from (S.e rfl)]) (by kernel_rfl)) ?_
  clear S a; intro a w104 b107 hb107 hbs107 G K107 S; have hbl107 : b107 < w104.heap.size := by omega
  have we107_0 : pfxE.wf (Fr F [abk es_a, abk ds_a, abk l2_a, one b2, one b1, one T]) w103.heap (⟨167772672, 24⟩ : Pfx) := ⟨(show inU32 167772672 from ⟨by omega, by omega⟩), (show inI64 24 from ⟨by omega, by omega⟩)⟩
  have hfr107 := fr_fresh C hF hb107; have TT := Tr.of_ch0 C.ms G
  replace T_w := Enc.tr (slE intE) T_w TT
  replace KS65 := Enc.tr (slE intE) KS65 TT
  replace T_K := TpB.tr0 T_K G
  replace K1 := Blk.tr0 K1 G
  replace K2 := Blk.tr0 K2 G
  replace W4 := Row.tr0 W4 TT G
  replace W5 := Row.tr0 W5 TT G
  replace W68 := Row.tr0 W68 TT G
  replace GL0 := GL0.trans TT
  replace GL1 := GL1.trans TT
  replace GL2 := GL2.trans TT
  replace C := C.trans TT
  have KS107 : (slE pfxE).wf (Fr F [abk es_a, abk ds_a, abk l2_a, one b2, one b1, one T]) w104.heap ⟨some ⟨b107, 0, none⟩, 1, [(⟨167772672, 24⟩ : Pfx)]⟩ := sl_of_blk K107 [(⟨167772672, 24⟩ : Pfx)] 1 rfl (by decide) (by decide) rfl hfr107 (by intro x hx; simp only [List.mem_cons, List.not_mem_nil, or_false] at hx; subst hx; exact Enc.tr (pfxE) we107_0 TT)
  clear K107 hfr107 TT G we107_0
  have W109 := Row.nil pfxE 68 w.heap.size F [abk none, abk es_a, abk ds_a, abk l2_a, one b2, one b1, one T] w104
  have TT : Tr [abk es_a, abk ds_a, abk l2_a, one b2, one b1, one T] w104 [abk none, abk es_a, abk ds_a, abk l2_a, one b2, one b1, one T] w104 := (Tr.refl C.ms).cons (b := abk none) (fun k e => absurd e abk_none); have G : Ch (In []) w104 w104 := Ch.refl _
  replace T_w := Enc.tr (slE intE) T_w TT
  replace KS65 := Enc.tr (slE intE) KS65 TT
  replace T_K := TpB.tr0 T_K G
  replace K1 := Blk.tr0 K1 G
  replace K2 := Blk.tr0 K2 G
  replace W4 := Row.tr0 W4 TT G
  replace W5 := Row.tr0 W5 TT G
  replace W68 := Row.tr0 W68 TT G
  replace KS107 := Enc.tr (slE pfxE) KS107 TT
  replace GL0 := GL0.trans TT
  replace GL1 := GL1.trans TT
  replace GL2 := GL2.trans TT
  replace C := C.trans TT
  clear TT G
  refine seq_op rfl (op_append (E := pfxE) [] [abk es_a, abk ds_a, abk l2_a, one b2, one b1, one T] (.tmp 142) (.tmp 144) 26 rfl zero_68 16 Try.underlying26 infoz_68 rfl (by decide) rfl C.ms (S.e rfl) W109 ([(⟨167772672, 24⟩ : Pfx)]) (some ⟨b107, 0, none⟩) 1 (S.e rfl) (show LAt pfxE _ _ (some ⟨b107, 0, none⟩) ([(⟨167772672, 24⟩ : Pfx)]) from (KS107).1) (KS107).2.2 (LAt.mem (show LAt pfxE _ _ (some ⟨b107, 0, none⟩) ([(⟨167772672, 24⟩ : Pfx)]) from (KS107).1)) (by unfold maxLen; (try simp only [List.length_cons, List.length_nil, List.length_append, List.length_map]); omega) (by (try simp only [List.length_cons, List.length_nil, List.length_append, List.length_map]); omega) (C.size) ?_)
  intro ad108 cap108 w105 Rn TT G
  have S1 := S.put (d := 145) (v := .slice ad108 ([] ++ [(⟨167772672, 24⟩ : Pfx)]).length cap108) (by decide); clear S; revert S1; generalize Act.put a _ _ = a1; intro S; clear a; rename Act => a
  replace TT : Tr [abk none, abk es_a, abk ds_a, abk l2_a, one b2, one b1, one T] w104 [abk ad108, abk es_a, abk ds_a, abk l2_a, one b2, one b1, one T] w105 := TT; replace Rn : Row pfxE 68 w.heap.size F [abk ad108, abk es_a, abk ds_a, abk l2_a, one b2, one b1, one T] w105 ad108 cap108 ([] ++ [(⟨167772672, 24⟩ : Pfx)]) := Rn
  replace T_w := Enc.tr (slE intE) T_w TT
  replace KS65 := Enc.tr (slE intE) KS65 TT
  replace T_K := TpB.tr T_K G (C.ms.sep.out 6 [0] rfl rfl rfl)
  replace K1 := Blk.tr K1 G (C.ms.sep.out 5 [0] rfl rfl rfl)
  replace K2 := Blk.tr K2 G (C.ms.sep.out 4 [0] rfl rfl rfl)
  replace W4 := Row.tr W4 TT G (fun k e => C.ms.sep.out 2 [0] rfl rfl e)
  replace W5 := Row.tr W5 TT G (fun k e => C.ms.sep.out 3 [0] rfl rfl e)
  replace W68 := Row.tr W68 TT G (fun k e => C.ms.sep.out 1 [0] rfl rfl e)
  replace KS107 := Enc.tr (slE pfxE) KS107 TT
  replace GL0 := GL0.trans TT
  replace GL1 := GL1.trans TT
  replace GL2 := GL2.trans TT
  replace C := C.trans TT
  clear W109; have W109 := Rn; clear Rn TT G
  refine qv S (pT b2 (0 + 3)) (x_fld (z := 0) (0) 3 Try.underlying28 rfl rfl (by kernel_rfl) (S.e rfl)) ?_; clear S a; intro a S
  refine seq_store S rfl rfl [.slice ds_a ds.length ds_c, .slice l2_a l2.length l2_c, .slice es_a es.length es_c, .slice ad108 (([] ++ [(⟨167772672, 24⟩ : Pfx)]).length) cap108, iI 0] (x_store (by kernel_rfl) (S.e rfl) (S.e rfl) rfl K2 (o := 0 + 3) (u := .slice none 0 0) rfl) K2 rfl ?_
  clear S a; intro a w106 G hz K S; clear hz; have TT := Tr.och C.ms G
  replace T_w := Enc.tr (slE intE) T_w TT
  replace KS65 := Enc.tr (slE intE) KS65 TT
  replace T_K := TpB.tr T_K G (C.ms.sep.out 6 [4] rfl rfl rfl)
  replace K1 := Blk.tr K1 G (C.ms.sep.out 5 [4] rfl rfl rfl)
  replace W4 := Row.tr W4 TT G (fun k e => C.ms.sep.out 2 [4] rfl rfl e)
  replace W5 := Row.tr W5 TT G (fun k e => C.ms.sep.out 3 [4] rfl rfl e)
  replace W68 := Row.tr W68 TT G (fun k e => C.ms.sep.out 1 [4] rfl rfl e)
  replace KS107 := Enc.tr (slE pfxE) KS107 TT
  replace W109 := Row.tr W109 TT G (fun k e => C.ms.sep.out 0 [4] rfl rfl e)
  replace GL0 := GL0.trans TT
  replace GL1 := GL1.trans TT
  replace GL2 := GL2.trans TT
  replace C := C.trans TT
  clear K2; have K2 := K; clear K TT G
  refine qt ?_
  refine qs ?_
  refine seq_new S rfl rfl (by decide) (fun b => .slice (some ⟨b, 0, none⟩) 5 5) (cs := [iI 0, iI 1, iI 0, iI 1, iI 2]) (x_bsl [(0, iI 0), (1, iI 1), (2, iI 0), (3, iI 1), (4, iI 2)] [iI 0, iI 1, iI 0, iI 1, iI 2] Try.underlying22 infoz_3 (by decide) (by decide) (by simp only [List.map_cons, List.map_nil, show a.eval (.const (iI 0)) = iI 0 from (S.e rfl), show a.eval (.const (iI 1)) = iI 1 from (S.e rfl), show a.eval (.const (iI 2)) = iI 2 from (S.e rfl)]) (by kernel_rfl)) ?_
  clear S a; intro a w107 b110 hb110 hbs110 G K110 S; have hbl110 : b110 < w107.heap.size := by omega
  have we110_0 : intE.wf (Fr F [abk ad108, abk es_a, abk ds_a, abk l2_a, one b2, one b1, one T]) w106.heap 0 := (show inI64 0 from ⟨by omega, by omega⟩)
  have we110_1 : intE.wf (Fr F [abk ad108, abk es_a, abk ds_a, abk l2_a, one b2, one b1, one T]) w106.heap 1 := (show inI64 1 from ⟨by omega, by omega⟩)
  have we110_2 : intE.wf (Fr F [abk ad108, abk es_a, abk ds_a, abk l2_a, one b2, one b1, one T]) w106.heap 0 := (show inI64 0 from ⟨by omega, by omega⟩)
  have we110_3 : intE.wf (Fr F [abk ad108, abk es_a, abk ds_a, abk l2_a, one b2, one b1, one T]) w106.heap 1 := (show inI64 1 from ⟨by omega, by omega⟩)
  have we110_4 : intE.wf (Fr F [abk ad108, abk es_a, abk ds_a, abk l2_a, one b2, one b1, one T]) w106.heap 2 := (show inI64 2 from ⟨by omega, by omega⟩)
  have hfr110 := fr_fresh C hF hb110; have TT := Tr.of_ch0 C.ms G
  replace T_w := Enc.tr (slE intE) T_w TT
  replace KS65 := Enc.tr (slE intE) KS65 TT
  replace T_K := TpB.tr0 T_K G
  replace K1 := Blk.tr0 K1 G
  replace K2 := Blk.tr0 K2 G
  replace W4 := Row.tr0 W4 TT G
  replace W5 := Row.tr0 W5 TT G
  replace W68 := Row.tr0 W68 TT G
  replace KS107 := Enc.tr (slE pfxE) KS107 TT
  replace W109 := Row.tr0 W109 TT G
  replace GL0 := GL0.trans TT
  replace GL1 := GL1.trans TT
  replace GL2 := GL2.trans TT
  replace C := C.trans TT
  have KS110 : (slE intE).wf (Fr F [abk ad108, abk es_a, abk ds_a, abk l2_a, one b2, one b1, one T]) w107.heap ⟨some ⟨b110, 0, none⟩, 5, [0, 1, 0, 1, 2]⟩ := sl_of_blk K110 [0, 1, 0, 1, 2] 5 rfl (by decide) (by decide) rfl hfr110 (by intro x hx; simp only [List.mem_cons, List.not_mem_nil, or_false] at hx; rcases hx with rfl | rfl | rfl | rfl | rfl <;> first | exact Enc.tr (intE) we110_0 TT | exact Enc.tr (intE) we110_1 TT | exact Enc.tr (intE) we110_2 TT | exact Enc.tr (intE) we110_3 TT | exact Enc.tr (intE) we110_4 TT)
  clear K110 hfr110 TT G we110_0 we110_1 we110_2 we110_3 we110_4
  refine qm S rfl ?_; clear S a; intro a S
  refine seq_call S (by decide) (vs := #[pT T 0, iI 5]) rfl callable_23 (gNext _ (Ex F _) (C.old hF) T (C.ms.picks [6] (by decide)) T_l ((slE intE).dn T_w) T_K 5 ⟨by omega, by omega⟩) ?_
  rintro e w108 ⟨r_111, rfl, hr_111, tT_K, T0⟩; refine ⟨_, rfl, ?_⟩; clear S a; intro a S
  have TT := Tr.fra C.ms T0; have G := T0.ch
  replace T_w := Enc.tr (slE intE) T_w TT
  replace KS65 := Enc.tr (slE intE) KS65 TT
  replace K1 := Blk.tr K1 G (C.ms.sep.out 5 [6] rfl rfl rfl)
  replace K2 := Blk.tr K2 G (C.ms.sep.out 4 [6] rfl rfl rfl)
  replace W4 := Row.tr W4 TT G (fun k e => C.ms.sep.out 2 [6] rfl rfl e)
  replace W5 := Row.tr W5 TT G (fun k e => C.ms.sep.out 3 [6] rfl rfl e)
  replace W68 := Row.tr W68 TT G (fun k e => C.ms.sep.out 1 [6] rfl rfl e)
  replace KS107 := Enc.tr (slE pfxE) KS107 TT
  replace W109 := Row.tr W109 TT G (fun k e => C.ms.sep.out 0 [6] rfl rfl e)
  replace KS110 := Enc.tr (slE intE) KS110 TT
  replace GL0 := GL0.trans TT
  replace GL1 := GL1.trans TT
  replace GL2 := GL2.trans TT
  replace C := C.trans TT
  clear T_K; have T_K := tT_K; clear tT_K
  clear T0 G TT
  refine qv S (pT (blk (some ⟨b110, 0, none⟩)) (off (some ⟨b110, 0, none⟩) + (r_111).toNat * 1)) (x_idx Try.underlying22 (by kernel_rfl) (S.e rfl) (S.e rfl) (r_111).toNat (by omega) (by first | omega | (simp only [List.length_cons, List.length_nil]; omega)) ((show LAt intE _ _ (some ⟨b110, 0, none⟩) ([0, 1, 0, 1, 2]) from (KS110).1).adr (i := (r_111).toNat) (by first | omega | (simp only [List.length_cons, List.length_nil]; omega)))) ?_; clear S a; intro a S
  obtain ⟨hl112, hu112⟩ : inI64 (([0, 1, 0, 1, 2]).getD ((r_111).toNat) intE.dflt) := id ((show LAt intE _ _ (some ⟨b110, 0, none⟩) ([0, 1, 0, 1, 2]) from (KS110).1).wf (r_111).toNat (by first | omega | (simp only [List.length_cons, List.length_nil]; omega)))
  refine qv S (iI (([0, 1, 0, 1, 2]).getD ((r_111).toNat) intE.dflt)) (x_load ⟨_, Try.underlying3, rfl⟩ (S.e rfl) ((show LAt intE _ _ (some ⟨b110, 0, none⟩) ([0, 1, 0, 1, 2]) from (KS110).1).cell (r_111).toNat (by first | omega | (simp only [List.length_cons, List.length_nil]; omega)) 0 _ rfl)) ?_; clear S a; intro a S
  refine qv S (pT b2 (0 + 4)) (x_fld (z := 0) (0) 4 Try.underlying28 rfl rfl (by kernel_rfl) (S.e rfl)) ?_; clear S a; intro a S
  refine seq_store S rfl rfl [.slice ds_a ds.length ds_c, .slice l2_a l2.length l2_c, .slice es_a es.length es_c, .slice ad108 (([] ++ [(⟨167772672, 24⟩ : Pfx)]).length) cap108, iI (([0, 1, 0, 1, 2]).getD ((r_111).toNat) intE.dflt)] (x_store (by kernel_rfl) (S.e rfl) (S.e rfl) rfl K2 (o := 0 + 4) (u := iI 0) rfl) K2 rfl ?_
  clear S a; intro a w109 G hz K S; clear hz; have TT := Tr.och C.ms G
  replace T_w := Enc.tr (slE intE) T_w TT
  replace KS65 := Enc.tr (slE intE) KS65 TT
  replace T_K := TpB.tr T_K G (C.ms.sep.out 6 [4] rfl rfl rfl)
  replace K1 := Blk.tr K1 G (C.ms.sep.out 5 [4] rfl rfl rfl)
  replace W4 := Row.tr W4 TT G (fun k e => C.ms.sep.out 2 [4] rfl rfl e)
  replace W5 := Row.tr W5 TT G (fun k e => C.ms.sep.out 3 [4] rfl rfl e)
  replace W68 := Row.tr W68 TT G (fun k e => C.ms.sep.out 1 [4] rfl rfl e)
  replace KS107 := Enc.tr (slE pfxE) KS107 TT
  replace W109 := Row.tr W109 TT G (fun k e => C.ms.sep.out 0 [4] rfl rfl e)
  replace KS110 := Enc.tr (slE intE) KS110 TT
  replace GL0 := GL0.trans TT
  replace GL1 := GL1.trans TT
  replace GL2 := GL2.trans TT
  replace C := C.trans TT
  clear K2; have K2 := K; clear K TT G
  refine qt ?_
  refine qs ?_
  refine qv S _ (x_loadw [.slice ds_a ds.length ds_c, .slice l2_a l2.length l2_c, .slice es_a es.length es_c, .slice ad108 (([] ++ [(⟨167772672, 24⟩ : Pfx)]).length) cap108, iI (([0, 1, 0, 1, 2]).getD ((r_111).toNat) intE.dflt)] ⟨_, Try.underlying28, rfl, by kernel_rfl⟩ (S.e rfl) (K2.mid [] _ [] rfl _ rfl)) ?_; clear S a; intro a S
  refine seq_storew S rfl rfl (vs := [.slice ds_a ds.length ds_c, .slice l2_a l2.length l2_c, .slice es_a es.length es_c, .slice ad108 (([] ++ [(⟨167772672, 24⟩ : Pfx)]).length) cap108, iI (([0, 1, 0, 1, 2]).getD ((r_111).toNat) intE.dflt)]) (x_storew (by kernel_rfl) (S.e rfl) (S.e rfl) rfl K1 rfl) K1 ?_
  clear S a; intro a w110 G hz K S; clear hz; have TT := Tr.och C.ms G
  replace T_w := Enc.tr (slE intE) T_w TT
  replace KS65 := Enc.tr (slE intE) KS65 TT
  replace T_K := TpB.tr T_K G (C.ms.sep.out 6 [5] rfl rfl rfl)
  replace K2 := Blk.tr K2 G (C.ms.sep.out 4 [5] rfl rfl rfl)
  replace W4 := Row.tr W4 TT G (fun k e => C.ms.sep.out 2 [5] rfl rfl e)
  replace W5 := Row.tr W5 TT G (fun k e => C.ms.sep.out 3 [5] rfl rfl e)
  replace W68 := Row.tr W68 TT G (fun k e => C.ms.sep.out 1 [5] rfl rfl e)
  replace KS107 := Enc.tr (slE pfxE) KS107 TT
  replace W109 := Row.tr W109 TT G (fun k e => C.ms.sep.out 0 [5] rfl rfl e)
  replace KS110 := Enc.tr (slE intE) KS110 TT
  replace GL0 := GL0.trans TT
  replace GL1 := GL1.trans TT
  replace GL2 := GL2.trans TT
  replace C := C.trans TT
  clear K1; have K1 := K; clear K TT G
  refine qt ?_
  refine wp_ret ?_
  have FW4 := Row.freeze (pre := [abk ad108, abk es_a]) (post := [abk l2_a, one b2, one b1, one T]) rfl C.ms W4 (by first | decide | exact Nat.one_pos) (W4.notF hF (Nat.le_refl _))
  have TF := Tr.leave (pre := [abk ad108, abk es_a]) (o := abk ds_a) (post := [abk l2_a, one b2, one b1, one T]) C.ms
  have GF : Ch (In []) w110 w110 := Ch.refl _
  replace T_w := Enc.tr (slE intE) T_w TF
  replace KS65 := Enc.tr (slE intE) KS65 TF
  replace T_K := TpB.tr0 T_K GF
  replace K1 := Blk.tr0 K1 GF
  replace K2 := Blk.tr0 K2 GF
  replace W5 := Row.tr0 W5 TF GF
  replace W68 := Row.tr0 W68 TF GF
  replace KS107 := Enc.tr (slE pfxE) KS107 TF
  replace W109 := Row.tr0 W109 TF GF
  replace KS110 := Enc.tr (slE intE) KS110 TF
  replace GL0 := GL0.trans TF
  replace GL1 := GL1.trans TF
  replace GL2 := GL2.trans TF
  replace C := C.trans TF
  replace FW4 : (slE devE).wf (Fr F [abk ad108, abk es_a, abk l2_a, one b2, one b1, one T]) w110.heap ⟨ds_a, ds_c, ds⟩ := FW4; clear W4
  have FW5 := Row.freeze (pre := [abk ad108, abk es_a]) (post := [one b2, one b1, one T]) rfl C.ms W5 (by first | decide | exact Nat.one_pos) (W5.notF hF (Nat.le_refl _))
  have TF := Tr.leave (pre := [abk ad108, abk es_a]) (o := abk l2_a) (post := [one b2, one b1, one T]) C.ms
  have GF : Ch (In []) w110 w110 := Ch.refl _
  replace T_w := Enc.tr (slE intE) T_w TF
  replace KS65 := Enc.tr (slE intE) KS65 TF
  replace T_K := TpB.tr0 T_K GF
  replace K1 := Blk.tr0 K1 GF
  replace K2 := Blk.tr0 K2 GF
  replace W68 := Row.tr0 W68 TF GF
  replace KS107 := Enc.tr (slE pfxE) KS107 TF
  replace W109 := Row.tr0 W109 TF GF
  replace KS110 := Enc.tr (slE intE) KS110 TF
  replace FW4 := Enc.tr (slE devE) FW4 TF
  replace GL0 := GL0.trans TF
  replace GL1 := GL1.trans TF
  replace GL2 := GL2.trans TF
  replace C := C.trans TF
  replace FW5 : (slE lnkE).wf (Fr F [abk ad108, abk es_a, one b2, one b1, one T]) w110.heap ⟨l2_a, l2_c, l2⟩ := FW5; clear W5
  have FW68 := Row.freeze (pre := [abk ad108]) (post := [one b2, one b1, one T]) rfl C.ms W68 (by first | decide | exact Nat.one_pos) (W68.notF hF (Nat.le_refl _))
  have TF := Tr.leave (pre := [abk ad108]) (o := abk es_a) (post := [one b2, one b1, one T]) C.ms
  have GF : Ch (In []) w110 w110 := Ch.refl _
  replace T_w := Enc.tr (slE intE) T_w TF
  replace KS65 := Enc.tr (slE intE) KS65 TF
  replace T_K := TpB.tr0 T_K GF
  replace K1 := Blk.tr0 K1 GF
  replace K2 := Blk.tr0 K2 GF
  replace KS107 := Enc.tr (slE pfxE) KS107 TF
  replace W109 := Row.tr0 W109 TF GF
  replace KS110 := Enc.tr (slE intE) KS110 TF
  replace FW4 := Enc.tr (slE devE) FW4 TF
  replace FW5 := Enc.tr (slE lnkE) FW5 TF
  replace GL0 := GL0.trans TF
  replace GL1 := GL1.trans TF
  replace GL2 := GL2.trans TF
  replace C := C.trans TF
  replace FW68 : (slE edgE).wf (Fr F [abk ad108, one b2, one b1, one T]) w110.heap ⟨es_a, es_c, es⟩ := FW68; clear W68
  have FW109 := Row.freeze (pre := []) (post := [one b2, one b1, one T]) rfl C.ms W109 (by first | decide | exact Nat.one_pos) (W109.notF hF (Nat.le_refl _))
  have TF := Tr.leave (pre := []) (o := abk ad108) (post := [one b2, one b1, one T]) C.ms
  have GF : Ch (In []) w110 w110 := Ch.refl _
  replace T_w := Enc.tr (slE intE) T_w TF
  replace KS65 := Enc.tr (slE intE) KS65 TF
  replace T_K := TpB.tr0 T_K GF
  replace K1 := Blk.tr0 K1 GF
  replace K2 := Blk.tr0 K2 GF
  replace KS107 := Enc.tr (slE pfxE) KS107 TF
  replace KS110 := Enc.tr (slE intE) KS110 TF
  replace FW4 := Enc.tr (slE devE) FW4 TF
  replace FW5 := Enc.tr (slE lnkE) FW5 TF
  replace FW68 := Enc.tr (slE edgE) FW68 TF
  replace GL0 := GL0.trans TF
  replace GL1 := GL1.trans TF
  replace GL2 := GL2.trans TF
  replace C := C.trans TF
  replace FW109 : (slE pfxE).wf (Fr F [one b2, one b1, one T]) w110.heap ⟨ad108, cap108, ([] ++ [(⟨167772672, 24⟩ : Pfx)])⟩ := FW109; clear W109
  refine retcw rfl S rfl [.slice ds_a ds.length ds_c, .slice l2_a l2.length l2_c, .slice es_a es.length es_c, .slice ad108 (([] ++ [(⟨167772672, 24⟩ : Pfx)]).length) cap108, iI (([0, 1, 0, 1, 2]).getD ((r_111).toNat) intE.dflt)] ⟨_, Try.underlying28, rfl, by kernel_rfl⟩ (fun j v hv => by rw [Nat.zero_add]; exact K1.cell hv) ?_
  have TD : Tr [one b2, one b1, one T] w110 [one T] w110 := Tr.drop C.ms [2] (by decide)
  have GD : Ch (In []) w110 w110 := Ch.refl _
  clear K1
  clear K2
  replace T_w := Enc.tr (slE intE) T_w TD
  replace KS65 := Enc.tr (slE intE) KS65 TD
  replace T_K := TpB.tr0 T_K GD
  replace KS107 := Enc.tr (slE pfxE) KS107 TD
  replace KS110 := Enc.tr (slE intE) KS110 TD
  replace FW4 := Enc.tr (slE devE) FW4 TD
  replace FW5 := Enc.tr (slE lnkE) FW5 TD
  replace FW68 := Enc.tr (slE edgE) FW68 TD
  replace FW109 := Enc.tr (slE pfxE) FW109 TD
  replace GL0 := GL0.trans TD
  replace GL1 := GL1.trans TD
  replace GL2 := GL2.trans TD
  replace C := C.trans TD
  clear TD GD
  refine ⟨(⟨(Sl.mk ds_a ds_c ds), (Sl.mk l2_a l2_c l2), (Sl.mk es_a es_c es), (Sl.mk ad108 cap108 ([] ++ [(⟨167772672, 24⟩ : Pfx)])), (([0, 1, 0, 1, 2]).getD ((r_111).toNat) intE.dflt)⟩ : Topo), rfl, ⟨FW4, FW5, FW68, FW109, ((show LAt intE _ _ (some ⟨b110, 0, none⟩) ([0, 1, 0, 1, 2]) from (KS110).1).wf (r_111).toNat (by first | omega | (simp only [List.length_cons, List.length_nil]; omega)))⟩, ?_, T_K, C⟩
  exact ⟨gen_valid hn1 hn6 (by show ds.length = nn; omega) (fun j hj => hd j (by omega)) (by show l2.length ≤ 9; omega) hl2 (by show es.length ≤ 5; omega) (fun j hj => he j (by rw [← hel]; exact hj)) (by first | exact .inl rfl | exact .inr (.inl rfl) | exact .inr (.inr (.inl rfl)) | exact .inr (.inr (.inr rfl))) (tols_fine _), by show ds.length ≤ 6; omega, by show l2.length ≤ 9; omega, by show es.length ≤ 5; omega, by first | (show List.length [] ≤ 2; decide) | (simp)⟩
 intro hc13
 refine wp_skip ?_
 refine then_n ?_
 refine qs ?_
 refine seq_new S rfl rfl (by decide) (fun b => .slice (some ⟨b, 0, none⟩) 5 5) (cs := [iI 0, iI 1, iI 0, iI 1, iI 2]) (x_bsl [(0, iI 0), (1, iI 1), (2, iI 0), (3, iI 1), (4, iI 2)] [iI 0, iI 1, iI 0, iI 1, iI 2] Try.underlying22 infoz_3 (by decide) (by decide) (by simp only [List.map_cons, List.map_nil, show a.eval (.const (iI 0)) = iI 0 from (S.e rfl), show a.eval (.const (iI 1)) = iI 1 from (S.e rfl), show a.eval (.const (iI 2)) = iI 2 from (S.e rfl)]) (by kernel_rfl)) ?_
 clear S a; intro a w111 b113 hb113 hbs113 G K113 S; have hbl113 : b113 < w111.heap.size := by omega
 have we113_0 : intE.wf (Fr F [abk es_a, abk ds_a, abk l2_a, one b2, one b1, one T]) w103.heap 0 := (show inI64 0 from ⟨by omega, by omega⟩)
 have we113_1 : intE.wf (Fr F [abk es_a, abk ds_a, abk l2_a, one b2, one b1, one T]) w103.heap 1 := (show inI64 1 from ⟨by omega, by omega⟩)
 have we113_2 : intE.wf (Fr F [abk es_a, abk ds_a, abk l2_a, one b2, one b1, one T]) w103.heap 0 := (show inI64 0 from ⟨by omega, by omega⟩)
 have we113_3 : intE.wf (Fr F [abk es_a, abk ds_a, abk l2_a, one b2, one b1, one T]) w103.heap 1 := (show inI64 1 from ⟨by omega, by omega⟩)
 have we113_4 : intE.wf (Fr F [abk es_a, abk ds_a, abk l2_a, one b2, one b1, one T]) w103.heap 2 := (show inI64 2 from ⟨by omega, by omega⟩)
 have hfr113 := fr_fresh C hF hb113; have TT := Tr.of_ch0 C.ms G
 replace T_w := Enc.tr (slE intE) T_w TT
 replace KS65 := Enc.tr (slE intE) KS65 TT
 replace T_K := TpB.tr0 T_K G
 replace K1 := Blk.tr0 K1 G
 replace K2 := Blk.tr0 K2 G
 replace W4 := Row.tr0 W4 TT G
 replace W5 := Row.tr0 W5 TT G
 replace W68 := Row.tr0 W68 TT G
 replace GL0 := GL0.trans TT
 replace GL1 := GL1.trans TT
 replace GL2 := GL2.trans TT
 replace C := C.trans TT
 have KS113 : (slE intE).wf (Fr F [abk es_a, abk ds_a, abk l2_a, one b2, one b1, one T]) w111.heap ⟨some ⟨b113, 0, none⟩, 5, [0, 1, 0, 1, 2]⟩ := sl_of_blk K113 [0, 1, 0, 1, 2] 5 rfl (by decide) (by decide) rfl hfr113 (by intro x hx; simp only [List.mem_cons, List.not_mem_nil, or_false] at hx; rcases hx with rfl | rfl | rfl | rfl | rfl <;> first | exact Enc.tr (intE) we113_0 TT | exact Enc.tr (intE) we113_1 TT | exact Enc.tr (intE) we113_2 TT | exact Enc.tr (intE) we113_3 TT | exact Enc.tr (intE) we113_4 TT)
 clear K113 hfr113 TT G we113_0 we113_1 we113_2 we113_3 we113_4
 refine qm S rfl ?_; clear S a; intro a S
 refine seq_call S (by decide) (vs := #[pT T 0, iI 5]) rfl callable_23 (gNext _ (Ex F _) (C.old hF) T (C.ms.picks [5] (by decide)) T_l ((slE intE).dn T_w) T_K 5 ⟨by omega, by omega⟩) ?_
 rintro e w112 ⟨r_114, rfl, hr_114, tT_K, T0⟩; refine ⟨_, rfl, ?_⟩; clear S a; intro a S
 have TT := Tr.fra C.ms T0; have G := T0.ch
 replace T_w := Enc.tr (slE intE) T_w TT
 replace KS65 := Enc.tr (slE intE) KS65 TT
 replace K1 := Blk.tr K1 G (C.ms.sep.out 4 [5] rfl rfl rfl)
 replace K2 := Blk.tr K2 G (C.ms.sep.out 3 [5] rfl rfl rfl)
 replace W4 := Row.tr W4 TT G (fun k e => C.ms.sep.out 1 [5] rfl rfl e)
 replace W5 := Row.tr W5 TT G (fun k e => C.ms.sep.out 2 [5] rfl rfl e)
 replace W68 := Row.tr W68 TT G (fun k e => C.ms.sep.out 0 [5] rfl rfl e)
 replace KS113 := Enc.tr (slE intE) KS113 TT
 replace GL0 := GL0.trans TT
 replace GL1 := GL1.trans TT
 replace GL2 := GL2.trans TT
 replace C := C.trans TT
 clear T_K; have T_K := tT_K; clear tT_K
 clear T0 G TT
 refine qv S (pT (blk (some ⟨b113, 0, none⟩)) (off (some ⟨b113, 0, none⟩) + (r_114).toNat * 1)) (x_idx Try.underlying22 (by kernel_rfl) (S.e rfl) (S.e rfl) (r_114).toNat (by omega) (by first | omega | (simp only [List.length_cons, List.length_nil]; omega)) ((show LAt intE _ _ (some ⟨b113, 0, none⟩) ([0, 1, 0, 1, 2]) from (KS113).1).adr (i := (r_114).toNat) (by first | omega | (simp only [List.length_cons, List.length_nil]; omega)))) ?_; clear S a; intro a S
 obtain ⟨hl115, hu115⟩ : inI64 (([0, 1, 0, 1, 2]).getD ((r_114).toNat) intE.dflt) := id ((show LAt intE _ _ (some ⟨b113, 0, none⟩) ([0, 1, 0, 1, 2]) from (KS113).1).wf (r_114).toNat (by first | omega | (simp only [List.length_cons, List.length_nil]; omega)))
 refine qv S (iI (([0, 1, 0, 1, 2]).getD ((r_114).toNat) intE.dflt)) (x_load ⟨_, Try.underlying3, rfl⟩ (S.e rfl) ((show LAt intE _ _ (some ⟨b113, 0, none⟩) ([0, 1, 0, 1, 2]) from (KS113).1).cell (r_114).toNat (by first | omega | (simp only [List.length_cons, List.length_nil]; omega)) 0 _ rfl)) ?_; clear S a; intro a S
 refine qv S (pT b2 (0 + 4)) (x_fld (z := 0) (0) 4 Try.underlying28 rfl rfl (by kernel_rfl) (S.e rfl)) ?_; clear S a; intro a S
 refine seq_store S rfl rfl [.slice ds_a ds.length ds_c, .slice l2_a l2.length l2_c, .slice es_a es.length es_c, .slice none 0 0, iI (([0, 1, 0, 1, 2]).getD ((r_114).toNat) intE.dflt)] (x_store (by kernel_rfl) (S.e rfl) (S.e rfl) rfl K2 (o := 0 + 4) (u := iI 0) rfl) K2 rfl ?_
 clear S a; intro a w113 G hz K S; clear hz; have TT := Tr.och C.ms G
 replace T_w := Enc.tr (slE intE) T_w TT
 replace KS65 := Enc.tr (slE intE) KS65 TT
 replace T_K := TpB.tr T_K G (C.ms.sep.out 5 [3] rfl rfl rfl)
 replace K1 := Blk.tr K1 G (C.ms.sep.out 4 [3] rfl rfl rfl)
 replace W4 := Row.tr W4 TT G (fun k e => C.ms.sep.out 1 [3] rfl rfl e)
 replace W5 := Row.tr W5 TT G (fun k e => C.ms.sep.out 2 [3] rfl rfl e)
 replace W68 := Row.tr W68 TT G (fun k e => C.ms.sep.out 0 [3] rfl rfl e)
 replace KS113 := Enc.tr (slE intE) KS113 TT
 replace GL0 := GL0.trans TT
 replace GL1 := GL1.trans TT
 replace GL2 := GL2.trans TT
 replace C := C.trans TT
 clear K2; have K2 := K; clear K TT G
 refine qt ?_
 refine qs ?_
 refine qv S _ (x_loadw [.slice ds_a ds.length ds_c, .slice l2_a l2.length l2_c, .slice es_a es.length es_c, .slice none 0 0, iI (([0, 1, 0, 1, 2]).getD ((r_114).toNat) intE.dflt)] ⟨_, Try.underlying28, rfl, by kernel_rfl⟩ (S.e rfl) (K2.mid [] _ [] rfl _ rfl)) ?_; clear S a; intro a S
 refine seq_storew S rfl rfl (vs := [.slice ds_a ds.length ds_c, .slice l2_a l2.length l2_c, .slice es_a es.length es_c, .slice none 0 0, iI (([0, 1, 0, 1, 2]).getD ((r_114).toNat) intE.dflt)]) (x_storew (by kernel_rfl) (S.e rfl) (S.e rfl) rfl K1 rfl) K1 ?_
 clear S a; intro a w114 G hz K S; clear hz; have TT := Tr.och C.ms G
 replace T_w := Enc.tr (slE intE) T_w TT
 replace KS65 := Enc.tr (slE intE) KS65 TT
 replace T_K := TpB.tr T_K G (C.ms.sep.out 5 [4] rfl rfl rfl)
 replace K2 := Blk.tr K2 G (C.ms.sep.out 3 [4] rfl rfl rfl)
 replace W4 := Row.tr W4 TT G (fun k e => C.ms.sep.out 1 [4] rfl rfl e)
 replace W5 := Row.tr W5 TT G (fun k e => C.ms.sep.out 2 [4] rfl rfl e)
 replace W68 := Row.tr W68 TT G (fun k e => C.ms.sep.out 0 [4] rfl rfl e)
 replace KS113 := Enc.tr (slE intE) KS113 TT
 replace GL0 := GL0.trans TT
 replace GL1 := GL1.trans TT
 replace GL2 := GL2.trans TT
 replace C := C.trans TT
 clear K1; have K1 := K; clear K TT G
 refine qt ?_
 refine wp_ret ?_
 have FW4 := Row.freeze (pre := [abk es_a]) (post := [abk l2_a, one b2, one b1, one T]) rfl C.ms W4 (by first | decide | exact Nat.one_pos) (W4.notF hF (Nat.le_refl _))
 have TF := Tr.leave (pre := [abk es_a]) (o := abk ds_a) (post := [abk l2_a, one b2, one b1, one T]) C.ms
 have GF : Ch (In []) w114 w114 := Ch.refl _
 replace T_w := Enc.tr (slE intE) T_w TF
 replace KS65 := Enc.tr (slE intE) KS65 TF
 replace T_K := TpB.tr0 T_K GF
 replace K1 := Blk.tr0 K1 GF
 replace K2 := Blk.tr0 K2 GF
 replace W5 := Row.tr0 W5 TF GF
 replace W68 := Row.tr0 W68 TF GF
 replace KS113 := Enc.tr (slE intE) KS113 TF
 replace GL0 := GL0.trans TF
 replace GL1 := GL1.trans TF
 replace GL2 := GL2.trans TF
 replace C := C.trans TF
 replace FW4 : (slE devE).wf (Fr F [abk es_a, abk l2_a, one b2, one b1, one T]) w114.heap ⟨ds_a, ds_c, ds⟩ := FW4; clear W4
 have FW5 := Row.freeze (pre := [abk es_a]) (post := [one b2, one b1, one T]) rfl C.ms W5 (by first | decide | exact Nat.one_pos) (W5.notF hF (Nat.le_refl _))
 have TF := Tr.leave (pre := [abk es_a]) (o := abk l2_a) (post := [one b2, one b1, one T]) C.ms
 have GF : Ch (In []) w114 w114 := Ch.refl _
 replace T_w := Enc.tr (slE intE) T_w TF
 replace KS65 := Enc.tr (slE intE) KS65 TF
 replace T_K := TpB.tr0 T_K GF
 replace K1 := Blk.tr0 K1 GF
 replace K2 := Blk.tr0 K2 GF
 replace W68 := Row.tr0 W68 TF GF
 replace KS113 := Enc.tr (slE intE) KS113 TF
 replace FW4 := Enc.tr (slE devE) FW4 TF
 replace GL0 := GL0.trans TF
 replace GL1 := GL1.trans TF
 replace GL2 := GL2.trans TF
 replace C := C.trans TF
 replace FW5 : (slE lnkE).wf (Fr F [abk es_a, one b2, one b1, one T]) w114.heap ⟨l2_a, l2_c, l2⟩ := FW5; clear W5
 have FW68 := Row.freeze (pre := []) (post := [one b2, one b1, one T]) rfl C.ms W68 (by first | decide | exact Nat.one_pos) (W68.notF hF (Nat.le_refl _))
 have TF := Tr.leave (pre := []) (o := abk es_a) (post := [one b2, one b1, one T]) C.ms
 have GF : Ch (In []) w114 w114 := Ch.refl _
 replace T_w := Enc.tr (slE intE) T_w TF
 replace KS65 := Enc.tr (slE intE) KS65 TF
 replace T_K := TpB.tr0 T_K GF
 replace K1 := Blk.tr0 K1 GF
 replace K2 := Blk.tr0 K2 GF
 replace KS113 := Enc.tr (slE intE) KS113 TF
 replace FW4 := Enc.tr (slE devE) FW4 TF
 replace FW5 := Enc.tr (slE lnkE) FW5 TF
 replace GL0 := GL0.trans TF
 replace GL1 := GL1.trans TF
 replace GL2 := GL2.trans TF
 replace C := C.trans TF
 replace FW68 : (slE edgE).wf (Fr F [one b2, one b1, one T]) w114.heap ⟨es_a, es_c, es⟩ := FW68; clear W68
 refine retcw rfl S rfl [.slice ds_a ds.length ds_c, .slice l2_a l2.length l2_c, .slice es_a es.length es_c, .slice none 0 0, iI (([0, 1, 0, 1, 2]).getD ((r_114).toNat) intE.dflt)] ⟨_, Try.underlying28, rfl, by kernel_rfl⟩ (fun j v hv => by rw [Nat.zero_add]; exact K1.cell hv) ?_
 have TD : Tr [one b2, one b1, one T] w114 [one T] w114 := Tr.drop C.ms [2] (by decide)
 have GD : Ch (In []) w114 w114 := Ch.refl _
 clear K1
 clear K2
 replace T_w := Enc.tr (slE intE) T_w TD
 replace KS65 := Enc.tr (slE intE) KS65 TD
 replace T_K := TpB.tr0 T_K GD
 replace KS113 := Enc.tr (slE intE) KS113 TD
 replace FW4 := Enc.tr (slE devE) FW4 TD
 replace FW5 := Enc.tr (slE lnkE) FW5 TD
 replace FW68 := Enc.tr (slE edgE) FW68 TD
 replace GL0 := GL0.trans TD
 replace GL1 := GL1.trans TD
 replace GL2 := GL2.trans TD
 replace C := C.trans TD
 clear TD GD
 refine ⟨(⟨(Sl.mk ds_a ds_c ds), (Sl.mk l2_a l2_c l2), (Sl.mk es_a es_c es), (Sl.mk none 0 ([])), (([0, 1, 0, 1, 2]).getD ((r_114).toNat) intE.dflt)⟩ : Topo), rfl, ⟨FW4, FW5, FW68, sl_nil, ((show LAt intE _ _ (some ⟨b113, 0, none⟩) ([0, 1, 0, 1, 2]) from (KS113).1).wf (r_114).toNat (by first | omega | (simp only [List.length_cons, List.length_nil]; omega)))⟩, ?_, T_K, C⟩
 exact ⟨gen_valid hn1 hn6 (by show ds.length = nn; omega) (fun j hj => hd j (by omega)) (by show l2.length ≤ 9; omega) hl2 (by show es.length ≤ 5; omega) (fun j hj => he j (by rw [← hel]; exact hj)) (by first | exact .inl rfl | exact .inr (.inl rfl) | exact .inr (.inr (.inl rfl)) | exact .inr (.inr (.inr rfl))) (tols_fine _), by show ds.length ≤ 6; omega, by show l2.length ≤ 9; omega, by show es.length ≤ 5; omega, by first | (show List.length [] ≤ 2; decide) | (simp)⟩
end Go.Proofs.Ytfanmniaolncbaa.V
