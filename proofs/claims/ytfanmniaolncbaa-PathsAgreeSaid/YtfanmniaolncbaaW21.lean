/- the generator: failure states that are spoiled -/
import Derived.Test.YtfanmniaolncbaaW20
import Derived.Test.YtfanmniaolncbaaU4
namespace Go.Proofs.Ytfanmniaolncbaa.V
open Go.RowKit Go.Proofs.Ytfanmniaolncbaa
set_option linter.unusedVariables false
set_option linter.unusedSimpArgs false
set_option maxHeartbeats 2000000 in
set_option maxRecDepth 20000 in
theorem gSpoilF (w : World) (F : Nat → Prop) (hF : Old F w) (T : Nat) (M : MS [one T] w) (T_l : Sl Int) (T_w : (slE intE).wf (Fr F [one T]) w.heap T_l) (T_K : TpB 62 T T_l w) (f : Fail) (f_w : failE.wf (Fr F [one T]) w.heap f) (hsm : f.links.xs.length ≤ 99 ∧ f.devs.xs.length ≤ 99) :
 Calls Try.prog 30 #[pT T 0, .agg (failE.cells f).toArray] w fun e w' => ∃ (r : Fail), e = .returned (.agg (failE.cells r).toArray) ∧ failE.wf (Fr F [one T]) w'.heap r ∧ TpB 62 T T_l w' ∧ Tr [one T] w [one T] w' := by
 have : f.links.xs.length ≤ 9223372036854775807 := (f_w.1).1.len
 have : f.devs.xs.length ≤ 9223372036854775807 := (f_w.2).1.len
 refine go Try.func30 rfl 50 rfl [wfF (slE intE) T_l, wfF failE f] [tpO 62 T T_l] hF M ⟨T_w, f_w, trivial⟩ ⟨T_K, trivial⟩ ?_
 intro a S
 refine rs0 ?_
 refine nbp S (x_box _ (S.e rfl) rfl) ?_; clear S; intro a u b3 S
 refine nbp S (x_allocz _ iZ41 rfl) ?_; clear S; intro a u b4 S
 refine ent (wp_seq ?_)
 obtain ⟨z0, hz0⟩ := S.z
 refine dr3 (P := Try.prog) S 10 [6, 9, 10, 13, 5, 14] [(6, 10), (6, 13), (6, 5), (9, 10), (9, 13), (9, 5), (10, 5), (13, 5), (5, 14)] [] [(6, nilT 3 z0 _), (7, .is _), (8, .is _), (9, rowT intE 3 z0 _ f.links.xs), (10, nilT 3 z0 _), (11, .is _), (12, .is _), (13, rowT intE 3 z0 _ f.devs.xs), (14, agg2T intE 3 f.links.xs intE 3 f.devs.xs (fun x9 x13 => [x9, x13]) z0 _), (5, varT [.slice none 0 0, .slice none 0 0] 41 z0 _)] [[], [], [7], [6, 8], [], [], [11], [10, 12], [9, 13], []] [14, 5] _ ⟨⟨_, rfl, nilT_owns⟩, ⟨_, rfl, rowT_owns⟩, ⟨_, rfl, nilT_owns⟩, ⟨_, rfl, rowT_owns⟩, ⟨_, rfl, varT_owns⟩, ⟨_, rfl, agg2T_owns (by intro x9 x13 v h; simp only [List.mem_cons, List.not_mem_nil, or_false] at h; rcases h with h | h <;> simp_all [blkOf])⟩, trivial⟩ ⟨hcn rfl hz0 uT22 iZ3, qdc (qd (fldi 0 0 rfl uT41)), qdc (qd (ldk 1 sC22 rfl rfl rfl)), ?_, hcn rfl hz0 uT22 iZ3, qdc (qd (fldi 0 1 rfl uT41)), qdc (qd (ldk 1 sC22 rfl rfl rfl)), ?_, ?_, hcv rfl hz0 iZ41 rfl, trivial⟩ ?_
 ·skip
  intro a u S G hE _; obtain ⟨e6, -⟩ := hE; obtain ⟨x6, e6, X6, hg6, hn6⟩ := e6; have M0 := S.m; replace S := S.ext e6
  exact hca 6 S M0 G rfl hz0 ⟨e6, X6, hg6, hn6⟩ rfl rfl ((S.u 1 rfl).1).1 ⟨by unfold maxLen; omega, by omega⟩ uT22 iZ3 rfl
 ·skip
  intro a u S G hE _; obtain ⟨e10, -⟩ := hE; obtain ⟨x10, e10, X10, hg10, hn10⟩ := e10; have M0 := S.m; replace S := S.ext e10
  exact hca 10 S M0 G rfl hz0 ⟨e10, X10, hg10, hn10⟩ rfl rfl ((S.u 1 rfl).2).1 ⟨by unfold maxLen; omega, by omega⟩ uT22 iZ3 rfl
 ·skip
  intro a u S G hE hQ; obtain ⟨e9, e13, -⟩ := hE
  obtain ⟨ad9, cap9, e9, X9, hn9⟩ := e9; have M0 := S.m; replace S := S.ext e9
  obtain ⟨ad13, cap13, e13, X13, hn13⟩ := e13; have M0 := S.m; replace S := S.ext e13
  exact hag2 14 9 13 M0 rfl ⟨e9, X9, hn9⟩ ⟨e13, X13, hn13⟩ hQ (x_bd S [(0, (.slice ad9 f.links.xs.length cap9)), (1, (.slice ad13 f.devs.xs.length cap13))] [(.slice ad9 f.links.xs.length cap9), (.slice ad13 f.devs.xs.length cap13)]) rfl (by intro x9 x13 v h; simp only [List.mem_cons, List.not_mem_nil, or_false] at h; rcases h with h | h <;> simp_all [blkOf])
 have S0 := S
 clear S; intro a u S G hE hP
 obtain ⟨e14, e5, -⟩ := hE
 obtain ⟨ad9, cap9, ad13, cap13, e14, X9, hn9, X13, hn13, hd9_13⟩ := e14; replace S := S.ext e14
 obtain ⟨b5, e5, X5, hg5, hn5⟩ := e5; replace S := S.ext e5
 have hsep : Sep (ow [rwO intE 3 w.heap.size ad9 cap9 f.links.xs, rwO intE 3 w.heap.size ad13 cap13 f.devs.xs, blO b5 [.slice none 0 0, .slice none 0 0] 41]) := by
  refine ⟨?_, ?_, ?_, trivial⟩
  ·intro k hk hm
   rcases hm with hm | hm | hm
   ·exact hd9_13 k hk hm
   ·exact hP 14 5 rfl k (abk_agg e14 (List.mem_of_getElem? (i := 0) rfl) hk) (one_blks e5 hm)
   exact hm
  ·intro k hk hm
   rcases hm with hm | hm
   ·exact hP 14 5 rfl k (abk_agg e14 (List.mem_of_getElem? (i := 1) rfl) hk) (one_blks e5 hm)
   exact hm
  intro k hk hm
  exact hm
 replace S := S0.ownM S [] G (by intro j f hj; simp at hj) [rwO intE 3 w.heap.size ad9 cap9 f.links.xs, rwO intE 3 w.heap.size ad13 cap13 f.devs.xs, blO b5 [.slice none 0 0, .slice none 0 0] 41] hsep (by
  intro f hf; simp only [List.mem_cons, List.not_mem_nil, or_false] at hf; rcases hf with rfl | rfl | rfl
  ·exact fun k hk => let ⟨q2, q3⟩ := row_blk X9 k hk; ⟨hz0 ▸ q2, q3⟩
  ·exact fun k hk => let ⟨q2, q3⟩ := row_blk X13 k hk; ⟨hz0 ▸ q2, q3⟩
  ·exact fun k hk => let ⟨q2, q3⟩ := var_blk X5 hg5 k hk; ⟨hz0 ▸ q2, q3⟩) (by
  intro m f hf; simp only [List.mem_cons, List.not_mem_nil, or_false] at hf; rcases hf with rfl | rfl | rfl
  ·exact ⟨Row.lower3 X9 (by have := S0.m.c.size; omega), fun x hx => Enc.mv _ m (LAt.mem ((S0.u 1 rfl).1).1 x hx)⟩
  ·exact ⟨Row.lower3 X13 (by have := S0.m.c.size; omega), fun x hx => Enc.mv _ m (LAt.mem ((S0.u 1 rfl).2).1 x hx)⟩
  exact X5)
 clear S0 hsep
 refine ens S (la (stkw 5 rfl rfl rfl)) ?_; clear S; intro a u S
 refine wp_seq (rs0 ?_)
 refine sp S (la (mv rfl)) ?_; clear S; intro a u S
 refine cl S (gNext _ _ S.x T (S.M.pick [0] (by decide)) T_l (dn1 (js := [0]) (S.u 0 rfl)) (S.t 0 rfl) 4 ⟨by omega, by omega⟩) cB23 ?_
 rintro e u ⟨r_t16, rfl, hr_t16, tK, T0⟩; refine ⟨_, rfl, fun a s => ?_⟩
 replace S := S.k1 0 rfl s T0 tK; clear s T0 tK
 refine ent (wp_block ?_)
 refine rs S (tr (eqli rfl rfl)<|la (av rfl)) ?_; clear S; intro a u S
 refine cd S rfl ?_ ?_
 ·intro hc0
  refine dr (P := Try.prog) S 6 [one T] [(24, .is _), (25, .is _), (26, .is _), (27, .of (fun z w => ∃ (x27a : Int), z = iI x27a ∧ (0 ≤ x27a ∧ (x27a < 3 ∨ x27a = 0))) (fun v w w' c h => let ⟨x27a, hv, h0⟩ := h; ⟨x27a, hv, h0⟩)), (28, .of (fun z w => ∃ (x27a : Int), z = iI (x27a - 1) ∧ (0 ≤ x27a ∧ (x27a < 3 ∨ x27a = 0))) (fun v w w' c h => let ⟨x27a, hv, h0⟩ := h; ⟨x27a, hv, h0⟩)), (29, .of (fun z w => ∃ (x29a : Nat) (x27b : Int), z = .slice (some ⟨x29a, 0, none⟩) 1 1 ∧ (slE intE).wf (Fr F [one T, one b3, one b4, abk ad9, abk ad13, one b5]) w.heap (Sl.mk (some ⟨x29a, 0, none⟩) 1 ([(x27b - 1)])) ∧ (0 ≤ x27b ∧ (x27b < 3 ∨ x27b = 0))) (fun v w w' c h => let ⟨x29a, x27b, hv, h0, h1⟩ := h; ⟨x29a, x27b, hv, Enc.kp (slE intE) h0 c (by intro o h; simp at h ⊢; first | exact .inl h | simp [h]), h1⟩))] [[], [24], [], [26], [27], [28]] [25, 29] _ ⟨qd (fldi 0 0 rfl uT41), qd (ldk 5 sC22 rfl rfl rfl), qd (mv rfl), ?_, ?_, ?_, trivial⟩ ?_
  ·skip
   intro a u S G hE
   refine hcl S (gNext _ _ S.x T (S.M.pick [0] (by decide)) T_l (dn1 (js := [0]) (S.u 0 rfl)) (S.t 0 rfl) 3 ⟨by omega, by omega⟩) cB23 ?_
   rintro e w2 ⟨r_h27, rfl, hr_h27, tK, T0⟩; refine ⟨_, rfl, (show ∃ _, _ from ?_), T0.ch, (S.k1 0 rfl S.s T0 tK).m⟩
   exact ⟨r_h27, rfl, hr_h27⟩
  ·skip
   intro a u S G hE
   obtain ⟨e27, -⟩ := hE
   have M0 := S.m
   obtain ⟨x27_4, e27, hr4⟩ := e27
   replace S := S.ext e27
   exact hvl 28 S M0 (v := iI (x27_4 - 1)) (x_sub (S.e rfl) (S.e rfl) (r := (x27_4 - 1)) (w_i64 (by omega))) (show ∃ _, _ from ⟨x27_4, rfl, hr4⟩)
  ·skip
   intro a u S G hE
   obtain ⟨e28, -⟩ := hE
   have M0 := S.m
   obtain ⟨x27_5, e28, hr5⟩ := e28
   replace S := S.ext e28
   refine hnb 29 M0 (x_bsl [(0, iI (x27_5 - 1))] [iI (x27_5 - 1)] uT22 iZ3 (by decide) (by decide) (by simp only [List.map_cons, List.map_nil, S.e (x := .tmp 28) (v := iI (x27_5 - 1)) rfl]) (by kernel_rfl)) fun g => (show ∃ _, _ from ⟨_, x27_5, rfl, sl_of_blk (Blk.new _ [iI (x27_5 - 1)] 3) [(x27_5 - 1)] 1 rfl (by decide) (by decide) rfl (fr_fresh S.m.c S.m.f rfl) ?_, hr5⟩)
   intro x hx; simp only [List.mem_cons, List.not_mem_nil, or_false] at hx; rw [hx] <;> first | exact Enc.tr (intE) (show intE.wf (Fr F (ow _)) _ (x27_5 - 1) from (show inI64 (x27_5 - 1) from ⟨by omega, by omega⟩)) (Tr.of_ch0 S.M g)
  clear S; intro a u S G hE
  obtain ⟨e29, -⟩ := hE
  obtain ⟨x29_6, x27_7, e29, X6, hr7⟩ := e29
  replace S := S.ext e29
  clear e29
  replace S := S.ar (wfF (slE intE) (Sl.mk (some ⟨x29_6, 0, none⟩) 1 ([(x27_7 - 1)]))) X6
  have hn8 : ([(x27_7 - 1)]).length ≤ 9223372036854775807 := ((S.u 2 rfl)).1.len
  refine ap (E := intE) (ys := [(x27_7 - 1)]) S 3 rfl uT22 iZ3 rfl rfl (show LAt intE _ _ (some ⟨x29_6, 0, none⟩) ([(x27_7 - 1)]) from ((S.u 2 rfl)).1) ((S.u 2 rfl)).2.2 (LAt.mem (show LAt intE _ _ (some ⟨x29_6, 0, none⟩) ([(x27_7 - 1)]) from ((S.u 2 rfl)).1)) ⟨by unfold maxLen; (try simp only [List.length_cons, List.length_nil, List.length_append, List.length_map]); omega, by (try simp only [List.length_cons, List.length_nil, List.length_append, List.length_map]); omega⟩ ?_; clear S; intro a u ad30 cap30 S
  refine en S (tr (fldi 0 0 rfl uT41)<|la (stk 5 rfl rfl rfl)) ?_; clear S; intro a u S
  refine blk_n (then_n ?_)
  refine rs S (tr (ldkw 5 rfl rfl wD41)<|la (stkw 2 rfl rfl rfl)) ?_; clear S; intro a u S
  refine wp_ret ?_
  replace S := S.fz 3 rfl
  replace S := S.fz 4 rfl
  refine retcw rfl S.s rfl [.slice ad30 ((f.links.xs ++ [(x27_7 - 1)]).length) cap30, .slice ad13 f.devs.xs.length cap13] wD41 (fun j v hv => by rw [Nat.zero_add]; exact (S.k 2 rfl).cell hv) ?_
  replace S := S.pk [0] (os' := [tpO 62 T T_l])
  refine ⟨(⟨(Sl.mk ad30 cap30 (f.links.xs ++ [(x27_7 - 1)])), (Sl.mk ad13 cap13 f.devs.xs)⟩ : Fail), rfl, ⟨(S.u 3 rfl), (S.u 4 rfl)⟩, (S.t 0 rfl), S.m.c⟩
 intro hc1
 refine rs S (tr (eqli rfl rfl)<|la (av rfl)) ?_; clear S; intro a u S
 refine cd S rfl ?_ ?_
 ·intro hc2
  refine dr (P := Try.prog) S 6 [one T] [(34, .is _), (35, .is _), (36, .is _), (37, .of (fun z w => ∃ (x37a : Int), z = iI x37a ∧ (0 ≤ x37a ∧ (x37a < 9 ∨ x37a = 0))) (fun v w w' c h => let ⟨x37a, hv, h0⟩ := h; ⟨x37a, hv, h0⟩)), (38, .of (fun z w => ∃ (x37a : Int), z = iI (x37a - 1) ∧ (0 ≤ x37a ∧ (x37a < 9 ∨ x37a = 0))) (fun v w w' c h => let ⟨x37a, hv, h0⟩ := h; ⟨x37a, hv, h0⟩)), (39, .of (fun z w => ∃ (x39a : Nat) (x37b : Int), z = .slice (some ⟨x39a, 0, none⟩) 1 1 ∧ (slE intE).wf (Fr F [one T, one b3, one b4, abk ad9, abk ad13, one b5]) w.heap (Sl.mk (some ⟨x39a, 0, none⟩) 1 ([(x37b - 1)])) ∧ (0 ≤ x37b ∧ (x37b < 9 ∨ x37b = 0))) (fun v w w' c h => let ⟨x39a, x37b, hv, h0, h1⟩ := h; ⟨x39a, x37b, hv, Enc.kp (slE intE) h0 c (by intro o h; simp at h ⊢; first | exact .inl h | simp [h]), h1⟩))] [[], [34], [], [36], [37], [38]] [35, 39] _ ⟨qd (fldi 0 1 rfl uT41), qd (ldk 5 sC22 rfl rfl rfl), qd (mv rfl), ?_, ?_, ?_, trivial⟩ ?_
  ·skip
   intro a u S G hE
   refine hcl S (gNext _ _ S.x T (S.M.pick [0] (by decide)) T_l (dn1 (js := [0]) (S.u 0 rfl)) (S.t 0 rfl) 9 ⟨by omega, by omega⟩) cB23 ?_
   rintro e w2 ⟨r_h37, rfl, hr_h37, tK, T0⟩; refine ⟨_, rfl, (show ∃ _, _ from ?_), T0.ch, (S.k1 0 rfl S.s T0 tK).m⟩
   exact ⟨r_h37, rfl, hr_h37⟩
  ·skip
   intro a u S G hE
   obtain ⟨e37, -⟩ := hE
   have M0 := S.m
   obtain ⟨x37_11, e37, hr11⟩ := e37
   replace S := S.ext e37
   exact hvl 38 S M0 (v := iI (x37_11 - 1)) (x_sub (S.e rfl) (S.e rfl) (r := (x37_11 - 1)) (w_i64 (by omega))) (show ∃ _, _ from ⟨x37_11, rfl, hr11⟩)
  ·skip
   intro a u S G hE
   obtain ⟨e38, -⟩ := hE
   have M0 := S.m
   obtain ⟨x37_12, e38, hr12⟩ := e38
   replace S := S.ext e38
   refine hnb 39 M0 (x_bsl [(0, iI (x37_12 - 1))] [iI (x37_12 - 1)] uT22 iZ3 (by decide) (by decide) (by simp only [List.map_cons, List.map_nil, S.e (x := .tmp 38) (v := iI (x37_12 - 1)) rfl]) (by kernel_rfl)) fun g => (show ∃ _, _ from ⟨_, x37_12, rfl, sl_of_blk (Blk.new _ [iI (x37_12 - 1)] 3) [(x37_12 - 1)] 1 rfl (by decide) (by decide) rfl (fr_fresh S.m.c S.m.f rfl) ?_, hr12⟩)
   intro x hx; simp only [List.mem_cons, List.not_mem_nil, or_false] at hx; rw [hx] <;> first | exact Enc.tr (intE) (show intE.wf (Fr F (ow _)) _ (x37_12 - 1) from (show inI64 (x37_12 - 1) from ⟨by omega, by omega⟩)) (Tr.of_ch0 S.M g)
  clear S; intro a u S G hE
  obtain ⟨e39, -⟩ := hE
  obtain ⟨x39_13, x37_14, e39, X13, hr14⟩ := e39
  replace S := S.ext e39
  clear e39
  replace S := S.ar (wfF (slE intE) (Sl.mk (some ⟨x39_13, 0, none⟩) 1 ([(x37_14 - 1)]))) X13
  have hn15 : ([(x37_14 - 1)]).length ≤ 9223372036854775807 := ((S.u 2 rfl)).1.len
  refine ap (E := intE) (ys := [(x37_14 - 1)]) S 4 rfl uT22 iZ3 rfl rfl (show LAt intE _ _ (some ⟨x39_13, 0, none⟩) ([(x37_14 - 1)]) from ((S.u 2 rfl)).1) ((S.u 2 rfl)).2.2 (LAt.mem (show LAt intE _ _ (some ⟨x39_13, 0, none⟩) ([(x37_14 - 1)]) from ((S.u 2 rfl)).1)) ⟨by unfold maxLen; (try simp only [List.length_cons, List.length_nil, List.length_append, List.length_map]); omega, by (try simp only [List.length_cons, List.length_nil, List.length_append, List.length_map]); omega⟩ ?_; clear S; intro a u ad40 cap40 S
  refine en S (tr (fldi 0 1 rfl uT41)<|la (stk 5 rfl rfl rfl)) ?_; clear S; intro a u S
  refine blk_n (then_n ?_)
  refine rs S (tr (ldkw 5 rfl rfl wD41)<|la (stkw 2 rfl rfl rfl)) ?_; clear S; intro a u S
  refine wp_ret ?_
  replace S := S.fz 3 rfl
  replace S := S.fz 4 rfl
  refine retcw rfl S.s rfl [.slice ad9 f.links.xs.length cap9, .slice ad40 ((f.devs.xs ++ [(x37_14 - 1)]).length) cap40] wD41 (fun j v hv => by rw [Nat.zero_add]; exact (S.k 2 rfl).cell hv) ?_
  replace S := S.pk [0] (os' := [tpO 62 T T_l])
  refine ⟨(⟨(Sl.mk ad9 cap9 f.links.xs), (Sl.mk ad40 cap40 (f.devs.xs ++ [(x37_14 - 1)]))⟩ : Fail), rfl, ⟨(S.u 3 rfl), (S.u 4 rfl)⟩, (S.t 0 rfl), S.m.c⟩
 intro hc3
 refine rs S (tr (eqli rfl rfl)<|la (av rfl)) ?_; clear S; intro a u S
 refine cd S rfl ?_ ?_
 ·intro hc4
  refine r0 ?_
  refine nbr intE S [99] (x_bs S [(0, iI 99)] uT22 iZ3) (fun x hx => by simp only [List.mem_cons, List.not_mem_nil, or_false] at hx; rw [hx]; exact (show intE.wf _ _ 99 from (show inI64 99 from ⟨by omega, by omega⟩))) ?_; clear S; intro a u b44 S
  refine sp S (tr (fldi 0 0 rfl uT41)<|la (ldk 5 sC22 rfl rfl rfl)) ?_; clear S; intro a u S
  refine ap (E := intE) (ys := f.links.xs) S 6 rfl uT22 iZ3 rfl rfl ((S.row 3 rfl).lat (by first | decide | exact Nat.one_pos)) (S.row 3 rfl).cap_le.2 (S.row 3 rfl).wf ⟨by unfold maxLen; (try simp only [List.length_cons, List.length_nil, List.length_append, List.length_map]); omega, by (try simp only [List.length_cons, List.length_nil, List.length_append, List.length_map]); omega⟩ ?_; clear S; intro a u ad47 cap47 S
  refine en S (tr (fldi 0 0 rfl uT41)<|la (stk 5 rfl rfl rfl)) ?_; clear S; intro a u S
  refine blk_n (then_n ?_)
  refine rs S (tr (ldkw 5 rfl rfl wD41)<|la (stkw 2 rfl rfl rfl)) ?_; clear S; intro a u S
  refine wp_ret ?_
  replace S := S.fz 6 rfl
  replace S := S.fz 4 rfl
  refine retcw rfl S.s rfl [.slice ad47 (([99] ++ f.links.xs).length) cap47, .slice ad13 f.devs.xs.length cap13] wD41 (fun j v hv => by rw [Nat.zero_add]; exact (S.k 2 rfl).cell hv) ?_
  replace S := S.pk [0] (os' := [tpO 62 T T_l])
  refine ⟨(⟨(Sl.mk ad47 cap47 ([99] ++ f.links.xs)), (Sl.mk ad13 cap13 f.devs.xs)⟩ : Fail), rfl, ⟨(S.u 2 rfl), (S.u 3 rfl)⟩, (S.t 0 rfl), S.m.c⟩
 intro hc5
 refine r0 ?_
 refine nbr intE S [0] (x_bs S [(0, iI 0)] uT22 iZ3) (fun x hx => by simp only [List.mem_cons, List.not_mem_nil, or_false] at hx; rw [hx]; exact (show intE.wf _ _ 0 from (show inI64 0 from ⟨by omega, by omega⟩))) ?_; clear S; intro a u b17 S
 refine sp S (tr (fldi 0 1 rfl uT41)<|la (ldk 5 sC22 rfl rfl rfl)) ?_; clear S; intro a u S
 refine ap (E := intE) (ys := f.devs.xs) S 6 rfl uT22 iZ3 rfl rfl ((S.row 4 rfl).lat (by first | decide | exact Nat.one_pos)) (S.row 4 rfl).cap_le.2 (S.row 4 rfl).wf ⟨by unfold maxLen; (try simp only [List.length_cons, List.length_nil, List.length_append, List.length_map]); omega, by (try simp only [List.length_cons, List.length_nil, List.length_append, List.length_map]); omega⟩ ?_; clear S; intro a u ad20 cap20 S
 refine en S (tr (fldi 0 1 rfl uT41)<|la (stk 5 rfl rfl rfl)) ?_; clear S; intro a u S
 refine blk_n (then_n ?_)
 refine rs S (tr (ldkw 5 rfl rfl wD41)<|la (stkw 2 rfl rfl rfl)) ?_; clear S; intro a u S
 refine wp_ret ?_
 replace S := S.fz 3 rfl
 replace S := S.fz 6 rfl
 refine retcw rfl S.s rfl [.slice ad9 f.links.xs.length cap9, .slice ad20 (([0] ++ f.devs.xs).length) cap20] wD41 (fun j v hv => by rw [Nat.zero_add]; exact (S.k 2 rfl).cell hv) ?_
 replace S := S.pk [0] (os' := [tpO 62 T T_l])
 refine ⟨(⟨(Sl.mk ad9 cap9 f.links.xs), (Sl.mk ad20 cap20 ([0] ++ f.devs.xs))⟩ : Fail), rfl, ⟨(S.u 2 rfl), (S.u 3 rfl)⟩, (S.t 0 rfl), S.m.c⟩
end Go.Proofs.Ytfanmniaolncbaa.V
