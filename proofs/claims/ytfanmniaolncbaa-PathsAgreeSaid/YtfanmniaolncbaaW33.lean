/- paths: the heap -/
import Derived.Test.YtfanmniaolncbaaU7
import Derived.Test.YtfanmniaolncbaaW32
import Derived.Test.YtfanmniaolncbaaHeapM
namespace Go.Proofs.Ytfanmniaolncbaa.V
open Go.RowKit Go.Proofs.Ytfanmniaolncbaa
set_option linter.unusedVariables false
set_option linter.unusedSimpArgs false
set_option maxHeartbeats 2000000 in
set_option maxRecDepth 20000 in
theorem hPush (w : World) (F : Nat → Prop) (hF : Old F w) (H_b : Nat) (H_a : Option Addr) (M : MS [one H_b, abk H_a] w) (H_c H_s H_l : Nat) (H : List Vis) (H_sh : H_s ≤ w.heap.size) (H_lh : H.length = H_l) (H_K : Blk w.heap H_b [.slice H_a H_l H_c, .func (.func 69) #[] #[]] 86) (H_R : Row visE 82 H_s F [one H_b, abk H_a] w H_a H_c H) (v : Vis) (v_w : visE.wf (Fr F [one H_b, abk H_a]) w.heap v) (ho : HeapO H) (hb : H.length ≤ 2000) :
 Calls Try.prog 70 #[pT H_b 0, .agg (visE.cells v).toArray] w fun e w' => ∃ (H_a1 : Option Addr) (H_c1 H_n : Nat) (H_y : List Vis), e = .returned (.tuple #[]) ∧ H_y.length = H_n ∧ Blk w'.heap H_b [.slice H_a1 H_n H_c1, .func (.func 69) #[] #[]] 86 ∧ Row visE 82 H_s F [one H_b, abk H_a1] w' H_a1 H_c1 H_y ∧ (HeapO H_y ∧ H_y.Perm (v :: H)) ∧ Tr [one H_b, abk H_a] w [one H_b, abk H_a1] w' := by
 subst H_lh
 obtain ⟨_, _⟩ : inI64 v.dev := v_w.1
 obtain ⟨_, _⟩ : inI64 v.dist := v_w.2
 have hlv : (H ++ [v]).length = H.length + 1 := by simp
 refine go Try.func70 rfl 74 rfl [wfF visE v] [blO H_b [.slice H_a H.length H_c, .func (.func 69) #[] #[]] 86, rwO visE 82 H_s H_a H_c H] hF M ⟨v_w, trivial⟩ ⟨H_K, ⟨H_R.own, H_R.wf⟩, trivial⟩ ?_
 intro a S
 refine rs0 ?_
 refine nbp S (x_box _ (S.e rfl) rfl) ?_; clear S; intro a u b3 S
 refine ent (wp_seq ?_)
 refine lza3 (P := Try.prog) (s := .tmp 10) (x := .tmp 12) visE Nat S 7 0 6 (pT H_b 0) [] [(6, .is _), (7, .is _), (8, .is _), (9, .is _), (10, .is _), (11, .is _), (12, .of (fun z w => ∃ (x12a : Nat), z = .slice (some ⟨x12a, 0, none⟩) 1 1 ∧ (slE visE).wf (Fr F [one H_b, abk H_a, one b3]) w.heap (Sl.mk (some ⟨x12a, 0, none⟩) 1 ([v]))) (fun v w w' c h => let ⟨x12a, hv, h0⟩ := h; ⟨x12a, hv, Enc.kp (slE visE) h0 c (fun _ h => by simp at h)⟩))] [[], [], [7], [8], [9], [], [11]] [10, 12] 1 rfl (fun g => [(10, .slice H_a H.length H_c), (12, .slice (some ⟨g, 0, none⟩) 1 1)]) (fun g => True) (fun g => [v]) ⟨qd (mv rfl), qd (mv rfl), qd (ov fun S=>x_nilck (S.e rfl)), qd (fldi 0 0 rfl uT86), qd (ldk 0 sC84 rfl rfl rfl), qd (ldkw 2 rfl rfl wD82), ?_, trivial⟩ (fun a w S => (x_move (S.e rfl))) ?_ ?_ uT84 iZ82
 ·skip
  intro a u S G hE
  refine hnb 12 S.m (x_bsl [(0, .agg (visE.cells v).toArray)] [iI v.dev, iI v.dist] uT84 iZ82 (by decide) (by decide) (by simp only [List.map_cons, List.map_nil, S.e (x := .tmp 11) (v := .agg (visE.cells v).toArray) rfl]) (by kernel_rfl)) fun g => (show ∃ _, _ from ⟨_, rfl, sl_of_blk (Blk.new _ [iI v.dev, iI v.dist] 82) [v] 1 rfl (by decide) (by decide) rfl (fr_fresh S.m.c S.m.f rfl) ?_⟩)
  intro x hx; simp only [List.mem_cons, List.not_mem_nil, or_false] at hx; rw [hx] <;> first | exact Enc.tr (visE) (show visE.wf (Fr F (ow _)) _ v from ⟨(S.u 0 rfl).1, (S.u 0 rfl).2⟩) (Tr.of_ch0 S.M g)
 ·intro a u S G hE
  obtain ⟨e12, -⟩ := hE
  obtain ⟨x12_2, e12, X2⟩ := e12
  replace S := S.ext e12
  have hn3 : ([v]).length ≤ 9223372036854775807 := (X2).1.len
  exact ⟨x12_2, _, _, _, S.s.sub (subM rfl), trivial, rfl, rfl, (show LAt visE _ _ (some ⟨x12_2, 0, none⟩) ([v]) from (X2).1), (X2).2.2, (LAt.mem (show LAt visE _ _ (some ⟨x12_2, 0, none⟩) ([v]) from (X2).1)), ⟨by unfold maxLen; (try simp only [List.length_cons, List.length_nil, List.length_append, List.length_map]); omega, by (try simp only [List.length_cons, List.length_nil, List.length_append, List.length_map]); omega⟩⟩
 clear S; intro g ad13 cap13 a u S hR
 revert S hR; revert a u ad13 cap13; revert g; intro x12_2 ad13 cap13 a u S hR
 refine ens S (tr (ov fun S=>x_nilck (S.e rfl))<|tr (fldi 0 0 rfl uT86)<|la (stk 0 rfl rfl rfl)) ?_; clear S; intro a u S
 refine rs0 ?_
 refine sp S (tr (mv rfl)<|tr (ov fun S=>x_nilck (S.e rfl))<|tr (fldi 0 0 rfl uT86)<|tr (ldk 0 sC84 rfl rfl rfl)<|tr (leni uT84 rfl)<|la (subi ((((H ++ [v]).length : Nat) : Int) - 1) rfl rfl (w_i64 (by omega)))) ?_; clear S; intro a u S
 rw [show ((((H ++ [v]).length : Nat) : Int) - 1) = ((H.length : Nat) : Int) from by omega] at S
 refine ens S (la (av rfl)) ?_; clear S; intro a u S
 refine wp_block ?_
 refine lp4 (fun (i : Nat) (ys_a : Option Addr) (ys_c : Nat) (ys : List Vis) => [(0, pT H_b 0), (4, iN i)]) (fun (i : Nat) (ys_a : Option Addr) (ys_c : Nat) (ys : List Vis) => [blO H_b [.slice ys_a ys.length ys_c, .func (.func 69) #[] #[]] 86, rwO visE 82 H_s ys_a ys_c ys, blO b3 (visE.cells v) 82]) (fun (i : Nat) (ys_a : Option Addr) (ys_c : Nat) (ys : List Vis) => UpI ys i ∧ ys.Perm (v :: H)) (fun (i : Nat) (ys_a : Option Addr) (ys_c : Nat) (ys : List Vis) => i) S H.length ad13 cap13 (H ++ [v]) (subM rfl) rfl ?_ ?_
 ·exact ⟨up_start ho, List.perm_append_comm⟩
 clear S; intro i ys_a ys_c ys a u S hR
 have ys_len := (S.row 1 rfl).len_le; simp only [maxLen] at ys_len
 obtain ⟨hU, hp⟩ := hR
 have hui := hU.lt
 refine wp_seq ?_
 refine rs S (tr (mv rfl)<|la (gtri rfl rfl)) ?_; clear S; intro a u S
 refine cd S rfl ?_ ?_
 ·intro hc0
  refine wp_skip (then_n (wp_block (rs0 ?_)))
  refine sp S (tr (mv rfl)<|tr (subi (((i : Nat) : Int) - 1) rfl rfl (w_i64 (by omega)))<|la (ov fun S=>x_quo (S.e rfl) (S.e rfl) (by omega) (r := ((((i : Nat) : Int) - 1) / 2)) (w_i64 (by rw [Int.tdiv_eq_ediv_of_nonneg (by omega)]; omega)))) ?_; clear S; intro a u S
  rw [show (((((i : Nat) : Int) - 1) / 2) : Int) = (((i - 1) / 2 : Nat) : Int) from by omega] at S
  refine ens S (la (av rfl)) ?_; clear S; intro a u S
  refine wp_seq (wp_seq ?_)
  obtain ⟨hl7, hu7⟩ : inI64 ((ys.getD i visE.dflt).dev) := id (((S.row 1 rfl).wfi i (by omega)).1)
  obtain ⟨hl8, hu8⟩ : inI64 ((ys.getD i visE.dflt).dist) := id (((S.row 1 rfl).wfi i (by omega)).2)
  obtain ⟨hl9, hu9⟩ : inI64 ((ys.getD ((i - 1) / 2) visE.dflt).dev) := id (((S.row 1 rfl).wfi ((i - 1) / 2) (by omega)).1)
  obtain ⟨hl10, hu10⟩ : inI64 ((ys.getD ((i - 1) / 2) visE.dflt).dist) := id (((S.row 1 rfl).wfi ((i - 1) / 2) (by omega)).2)
  refine dr (P := Try.prog) S 20 [] [(27, .is _), (28, .is _), (29, .is _), (30, .is _), (31, .is _), (32, .is _), (33, .is _), (34, .is _), (35, .is _), (36, .is _), (37, .is _), (38, .is _), (39, .is _), (40, .is _), (41, .is _), (42, .is _), (43, .is _), (44, .is _), (45, .is _), (46, .is _)] [[], [27], [28], [29], [], [31], [32], [33], [], [34, 35], [36], [], [38], [39], [40], [], [41, 42], [43], [30, 37, 44], [45]] [46] _ ⟨qd (mv rfl), qd (ov fun S=>x_nilck (S.e rfl)), qd (fldi 0 1 rfl uT86), qd (ldk 0 sC83 rfl rfl rfl), qd (mv rfl), qd (ov fun S=>x_nilck (S.e rfl)), qd (fldi 0 0 rfl uT86), qd (ldk 0 sC84 rfl rfl rfl), qd (mv rfl), qd (ov fun S=>x_idx uT84 sZ82 (S.e rfl) (S.e rfl) i rfl (by omega) (row_off (S.row 1 rfl) (m := i) (by omega))), qd (ov fun S=>x_ldw (S.e rfl) (((S.row 1 rfl).latz (by first | decide | exact Nat.one_pos)).wcell i (by omega) _ rfl _ rfl) wD82), qd (mv rfl), qd (ov fun S=>x_nilck (S.e rfl)), qd (fldi 0 0 rfl uT86), qd (ldk 0 sC84 rfl rfl rfl), qd (mv rfl), qd (ov fun S=>x_idx uT84 sZ82 (S.e rfl) (S.e rfl) ((i - 1) / 2) rfl (by omega) (row_off (S.row 1 rfl) (m := ((i - 1) / 2)) (by omega))), qd (ov fun S=>x_ldw (S.e rfl) (((S.row 1 rfl).latz (by first | decide | exact Nat.one_pos)).wcell ((i - 1) / 2) (by omega) _ rfl _ rfl) wD82), qd (ocf (fun S=>pLess _ _ S.x (.nil _) (ys.getD i visE.dflt) (dn0 ((S.row 1 rfl).wfi i (by omega))) (ys.getD ((i - 1) / 2) visE.dflt) (dn0 ((S.row 1 rfl).wfi ((i - 1) / 2) (by omega)))) cB69), qd (noti rfl), trivial⟩ ?_
  clear S; intro a u S G hE
  refine ent ?_
  refine cd S rfl ?_ ?_
  ·intro hc1
   refine wp_exit (then_e (blk_o (by decide) ?_))
   refine then_e (blk_e ?_)
   refine end0 rfl S.s ?_
   replace S := S.pk [0, 1] (os' := [blO H_b [.slice ys_a ys.length ys_c, .func (.func 69) #[] #[]] 86, rwO visE 82 H_s ys_a ys_c ys])
   refine ⟨ys_a, ys_c, ys.length, ys, rfl, (by first | rfl | (simp only [List.length_set, swap_len]; done) | (simp; done) | (simp; omega)), (S.k 0 rfl), (S.row 1 rfl), ?_, S.m.c⟩
   exact ⟨up_stop hU (by unfold kq; omega), hp⟩
  intro hc2
  refine wp_skip (then_n (wp_seq ?_))
  obtain ⟨hl11, hu11⟩ : inI64 ((ys.getD ((i - 1) / 2) visE.dflt).dev) := id (((S.row 1 rfl).wfi ((i - 1) / 2) (by omega)).1)
  obtain ⟨hl12, hu12⟩ : inI64 ((ys.getD ((i - 1) / 2) visE.dflt).dist) := id (((S.row 1 rfl).wfi ((i - 1) / 2) (by omega)).2)
  obtain ⟨hl13, hu13⟩ : inI64 ((ys.getD i visE.dflt).dev) := id (((S.row 1 rfl).wfi i (by omega)).1)
  obtain ⟨hl14, hu14⟩ : inI64 ((ys.getD i visE.dflt).dist) := id (((S.row 1 rfl).wfi i (by omega)).2)
  have hq63 := id ((S.row 1 rfl).wfi ((i - 1) / 2) (by omega))
  have hq70 := id ((S.row 1 rfl).wfi i (by omega))
  refine lz3 (P := Try.prog) (x := .tmp 71) (y := .tmp 63) visE S 25 9 56 (iN ((i - 1) / 2)) [(47, .is _), (48, .is _), (49, .is _), (50, .is _), (51, .is _), (52, .is _), (53, .is _), (54, .is _), (55, .is _), (56, .is _), (57, .is _), (58, .is _), (59, .is _), (60, .is _), (61, .is _), (62, .is _), (63, .is _), (64, .is _), (65, .is _), (66, .is _), (67, .is _), (68, .is _), (69, .is _), (70, .is _), (71, .is _)] [[], [47], [48], [49], [], [], [52], [53], [54], [], [], [57], [58], [59], [], [60, 61], [62], [], [64], [65], [66], [], [67, 68], [69], [50, 51]] [55, 63, 70, 71] 1 i (ys.getD ((i - 1) / 2) visE.dflt) rfl ⟨qd (mv rfl), qd (ov fun S=>x_nilck (S.e rfl)), qd (fldi 0 0 rfl uT86), qd (ldk 0 sC84 rfl rfl rfl), qd (mv rfl), qd (mv rfl), qd (ov fun S=>x_nilck (S.e rfl)), qd (fldi 0 0 rfl uT86), qd (ldk 0 sC84 rfl rfl rfl), qd (mv rfl), qd (mv rfl), qd (ov fun S=>x_nilck (S.e rfl)), qd (fldi 0 0 rfl uT86), qd (ldk 0 sC84 rfl rfl rfl), qd (mv rfl), qd (ov fun S=>x_idx uT84 sZ82 (S.e rfl) (S.e rfl) ((i - 1) / 2) rfl (by omega) (row_off (S.row 1 rfl) (m := ((i - 1) / 2)) (by omega))), qd (ov fun S=>x_ldw (S.e rfl) (((S.row 1 rfl).latz (by first | decide | exact Nat.one_pos)).wcell ((i - 1) / 2) (by omega) _ rfl _ rfl) wD82), qd (mv rfl), qd (ov fun S=>x_nilck (S.e rfl)), qd (fldi 0 0 rfl uT86), qd (ldk 0 sC84 rfl rfl rfl), qd (mv rfl), qd (ov fun S=>x_idx uT84 sZ82 (S.e rfl) (S.e rfl) i rfl (by omega) (row_off (S.row 1 rfl) (m := i) (by omega))), qd (ov fun S=>x_ldw (S.e rfl) (((S.row 1 rfl).latz (by first | decide | exact Nat.one_pos)).wcell i (by omega) _ rfl _ rfl) wD82), qd (ov fun S=>x_idx uT84 sZ82 (S.e rfl) (S.e rfl) i rfl (by omega) (row_off (S.row 1 rfl) (m := i) (by omega))), trivial⟩ (fun a w S => (x_move (S.e rfl))) rfl rfl (by omega) rfl (fun S=>hq63) rfl (by first | rfl | (simp [visE]; omega) | simp [visE]) rfl ?_
  clear S; intro a u S
  have hls15 : (ys.set i (ys.getD ((i - 1) / 2) visE.dflt)).length = ys.length := by simp
  refine sp S (la (ov fun S=>x_idx uT84 sZ82 (S.e rfl) (S.e rfl) ((i - 1) / 2) rfl (by omega) (row_off (S.row 1 rfl) (m := ((i - 1) / 2)) (by omega)))) ?_; clear S; intro a u S
  refine sp S (la (strw (E := visE) 1 rfl rfl rfl ((i - 1) / 2) 0 (by omega) (by exact (show 0 + 2 ≤ 2 from by decide)) (ys.getD i visE.dflt) (fun S=>hq70) rfl (by first | rfl | (simp [visE]; omega) | simp [visE]) rfl)) ?_; clear S; intro a u S
  have hls16 : ((ys.set i (ys.getD ((i - 1) / 2) visE.dflt)).set ((i - 1) / 2) (ys.getD i visE.dflt)).length = ys.length := by simp
  refine ent ?_
  refine rg S (tr (mv rfl)<|la (av rfl)) ?_; clear S; intro a u S
  refine blk_n (then_n ?_)
  refine ⟨((i - 1) / 2), ys_a, ys_c, ((ys.set i (ys.getD ((i - 1) / 2) visE.dflt)).set ((i - 1) / 2) (ys.getD i visE.dflt)), S.re (subM rfl) rfl (by first | rfl | (simp only [List.length_set]; rfl)), ?_, ?_⟩
  ·exact ⟨up_swap hU (by omega) (by unfold kq; omega), (swap_perm (by omega) (by omega)).trans hp⟩
  omega
 intro hc3
 refine wp_exit (then_e (then_e (blk_e ?_)))
 refine end0 rfl S.s ?_
 replace S := S.pk [0, 1] (os' := [blO H_b [.slice ys_a ys.length ys_c, .func (.func 69) #[] #[]] 86, rwO visE 82 H_s ys_a ys_c ys])
 refine ⟨ys_a, ys_c, ys.length, ys, rfl, (by first | rfl | (simp only [List.length_set, swap_len]; done) | (simp; done) | (simp; omega)), (S.k 0 rfl), (S.row 1 rfl), ?_, S.m.c⟩
 obtain rfl : i = 0 := by omega
 exact ⟨up_top hU, hp⟩
end Go.Proofs.Ytfanmniaolncbaa.V
