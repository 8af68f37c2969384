/- paths: pop of the heap -/
import Derived.Test.YtfanmniaolncbaaW33
namespace Go.Proofs.Ytfanmniaolncbaa.V
open Go.RowKit Go.Proofs.Ytfanmniaolncbaa
set_option linter.unusedVariables false
set_option linter.unusedSimpArgs false
theorem heap_least {xs : List Vis} {u : Vis} (h : HeapO xs) (hu : u ∈ xs) : (xs.getD 0 visE.dflt).dist ≤ u.dist := by
 obtain ⟨i, hi, e⟩ := List.mem_iff_getElem.1 hu
 have := heap_min h i i (Nat.le_refl _) hi
 unfold kq at this
 rwa [show xs.getD i visE.dflt = u from by rw [List.getD_eq_getElem?_getD, List.getElem?_eq_getElem hi]; exact e] at this
set_option maxHeartbeats 2000000 in
set_option maxRecDepth 20000 in
theorem hPop (w : World) (F : Nat → Prop) (hF : Old F w) (H_b : Nat) (H_a : Option Addr) (M : MS [one H_b, abk H_a] w) (H_c H_s H_l : Nat) (H : List Vis) (H_sh : H_s ≤ w.heap.size) (H_lh : H.length = H_l) (H_K : Blk w.heap H_b [.slice H_a H_l H_c, .func (.func 69) #[] #[]] 86) (H_R : Row visE 82 H_s F [one H_b, abk H_a] w H_a H_c H) (ho : HeapO H) (hb : 0 < H.length ∧ H.length ≤ 3000) :
 Calls Try.prog 71 #[pT H_b 0] w fun e w' => ∃ (r : Vis) (H_a1 : Option Addr) (H_c1 H_n : Nat) (H_y : List Vis), e = .returned (.agg (visE.cells r).toArray) ∧ visE.wf (Fr F [one H_b, abk H_a]) w'.heap r ∧ H_y.length = H_n ∧ Blk w'.heap H_b [.slice H_a1 H_n H_c1, .func (.func 69) #[] #[]] 86 ∧ Row visE 82 H_s F [one H_b, abk H_a1] w' H_a1 H_c1 H_y ∧ (HeapO H_y ∧ H.Perm (r :: H_y) ∧ ∀ u ∈ H_y, r.dist ≤ u.dist) ∧ Tr [one H_b, abk H_a] w [one H_b, abk H_a1] w' := by
 subst H_lh
 obtain ⟨hb0, hb1⟩ := hb
 refine go Try.func71 rfl 108 rfl [] [blO H_b [.slice H_a H.length H_c, .func (.func 69) #[] #[]] 86, rwO visE 82 H_s H_a H_c H] hF M trivial ⟨H_K, ⟨H_R.own, H_R.wf⟩, trivial⟩ ?_
 intro a S
 refine rs0 ?_
 refine nbp S (x_allocz _ iZ82 rfl) ?_; clear S; intro a u b2 S
 refine ent (rs0 ?_)
 obtain ⟨hl3, hu3⟩ : inI64 ((H.getD 0 visE.dflt).dev) := id (((S.row 1 rfl).wfi 0 (by omega)).1)
 obtain ⟨hl4, hu4⟩ : inI64 ((H.getD 0 visE.dflt).dist) := id (((S.row 1 rfl).wfi 0 (by omega)).2)
 refine sp S (tr (mv rfl)<|tr (ov fun S=>x_nilck (S.e rfl))<|tr (fldi 0 0 rfl uT86)<|tr (ldk 0 sC84 rfl rfl rfl)<|tr (ov fun S=>x_idx uT84 sZ82 (S.e rfl) (S.e rfl) 0 rfl (by omega) (row_off (S.row 1 rfl) (m := 0) (by omega)))<|la (ov fun S=>x_ldw (S.e rfl) (((S.row 1 rfl).latz (by first | decide | exact Nat.one_pos)).wcell 0 (by omega) _ rfl _ rfl) wD82)) ?_; clear S; intro a u S
 have hq13 := id ((S.row 1 rfl).wfi 0 (by omega))
 refine nbp S (x_allocz _ iZ82 rfl) ?_; clear S; intro a u b3 S
 refine ens S (la (stkw 3 rfl rfl rfl)) ?_; clear S; intro a u S
 refine rs0 ?_
 refine sp S (tr (mv rfl)<|tr (ov fun S=>x_nilck (S.e rfl))<|tr (fldi 0 0 rfl uT86)<|tr (ldk 0 sC84 rfl rfl rfl)<|tr (leni uT84 rfl)<|la (subi (((H.length : Nat) : Int) - 1) rfl rfl (w_i64 (by omega)))) ?_; clear S; intro a u S
 rw [show ((((H.length : Nat) : Int) - 1) : Int) = (((H.length - 1) : Nat) : Int) from by omega] at S
 refine ens S (la (av rfl)) ?_; clear S; intro a u S
 refine wp_seq ?_
 obtain ⟨hl6, hu6⟩ : inI64 ((H.getD (H.length - 1) visE.dflt).dev) := id (((S.row 1 rfl).wfi (H.length - 1) (by omega)).1)
 obtain ⟨hl7, hu7⟩ : inI64 ((H.getD (H.length - 1) visE.dflt).dist) := id (((S.row 1 rfl).wfi (H.length - 1) (by omega)).2)
 refine dr (P := Try.prog) S 12 [] [(20, .is _), (21, .is _), (22, .is _), (23, .is _), (24, .is _), (25, .is _), (26, .is _), (27, .is _), (28, .is _), (29, .is _), (30, .is _), (31, .is _)] [[], [20], [21], [22], [], [24], [25], [26], [], [27, 28], [29], [23]] [30, 31] _ ⟨qd (mv rfl), qd (ov fun S=>x_nilck (S.e rfl)), qd (fldi 0 0 rfl uT86), qd (ldk 0 sC84 rfl rfl rfl), qd (mv rfl), qd (ov fun S=>x_nilck (S.e rfl)), qd (fldi 0 0 rfl uT86), qd (ldk 0 sC84 rfl rfl rfl), qd (mv rfl), qd (ov fun S=>x_idx uT84 sZ82 (S.e rfl) (S.e rfl) (H.length - 1) rfl (by omega) (row_off (S.row 1 rfl) (m := (H.length - 1)) (by omega))), qd (ov fun S=>x_ldw (S.e rfl) (((S.row 1 rfl).latz (by first | decide | exact Nat.one_pos)).wcell (H.length - 1) (by omega) _ rfl _ rfl) wD82), qd (ov fun S=>x_idx uT84 sZ82 (S.e rfl) (S.e rfl) 0 rfl (by omega) (row_off (S.row 1 rfl) (m := 0) (by omega))), trivial⟩ ?_
 clear S; intro a u S G hE
 obtain ⟨hl8, hu8⟩ : inI64 ((H.getD (H.length - 1) visE.dflt).dev) := id (((S.row 1 rfl).wfi (H.length - 1) (by omega)).1)
 obtain ⟨hl9, hu9⟩ : inI64 ((H.getD (H.length - 1) visE.dflt).dist) := id (((S.row 1 rfl).wfi (H.length - 1) (by omega)).2)
 refine sp S (la (strw (E := visE) 1 rfl rfl rfl 0 0 (by omega) (by exact (show 0 + 2 ≤ 2 from by decide)) (H.getD (H.length - 1) visE.dflt) (fun S=>((S.row 1 rfl).wfi (H.length - 1) (by omega))) rfl (by first | rfl | (simp [visE]; omega) | simp [visE]) rfl)) ?_; clear S; intro a u S
 have hls10 : (H.set 0 (H.getD (H.length - 1) visE.dflt)).length = H.length := by simp
 refine ent (rs0 ?_)
 refine sp S (tr (mv rfl)<|tr (mv rfl)<|tr (ov fun S=>x_nilck (S.e rfl))<|tr (fldi 0 0 rfl uT86)<|tr (ldk 0 sC84 rfl rfl rfl)<|la (mv rfl)) ?_; clear S; intro a u S
 have hk12 : ((H.set 0 (H.getD (H.length - 1) visE.dflt)).take (H.length - 1)).length = (H.length - 1) := by rw [List.length_take]; omega
 refine sp S (la (ov (v := .slice H_a (((H.set 0 (H.getD (H.length - 1) visE.dflt)).take (H.length - 1)).length) H_c) fun S=>x_slhn uT84 iZ82 (S.e rfl) (S.e rfl) (H.length - 1) rfl (Nat.le_trans (show (H.length - 1) ≤ _ from by omega) (S.row 1 rfl).cap_le.1) (S.row 1 rfl).cap_le.2 _ hk12.symm)) ?_; clear S; intro a u S
 replace S := S.rtk 1 rfl (H.length - 1) (by omega)
 refine ens S (tr (ov fun S=>x_nilck (S.e rfl))<|tr (fldi 0 0 rfl uT86)<|la (stk 0 rfl rfl rfl)) ?_; clear S; intro a u S
 refine wp_seq ?_
 refine rs S (la (av rfl)) ?_; clear S; intro a u S
 refine wp_block ?_
 refine lp4 (fun (i : Nat) (ys_a : Option Addr) (ys_c : Nat) (ys : List Vis) => [(0, pT H_b 0), (2, pT b2 0), (3, pT b3 0), (4, iN (H.length - 1)), (5, iN i)]) (fun (i : Nat) (ys_a : Option Addr) (ys_c : Nat) (ys : List Vis) => [blO H_b [.slice ys_a ys.length ys_c, .func (.func 69) #[] #[]] 86, rwO visE 82 H_s ys_a ys_c ys, blO b2 [iI 0, iI 0] 82, blO b3 (visE.cells (H.getD 0 visE.dflt)) 82]) (fun (i : Nat) (ys_a : Option Addr) (ys_c : Nat) (ys : List Vis) => DownI ys i ∧ ys.length = H.length - 1 ∧ H.Perm (H.getD 0 visE.dflt :: ys) ∧ i ≤ 3000) (fun (i : Nat) (ys_a : Option Addr) (ys_c : Nat) (ys : List Vis) => ys.length - i) S 0 H_a H_c ((H.set 0 (H.getD (H.length - 1) visE.dflt)).take (H.length - 1)) (subM rfl) rfl ?_ ?_
 ·exact ⟨down_start ho _, by rw [List.length_take, List.length_set]; omega, pop_perm hb0, Nat.zero_le _⟩
 clear S; intro i ys_a ys_c ys a u S hR
 have ys_len := (S.row 1 rfl).len_le; simp only [maxLen] at ys_len
 obtain ⟨hD, hyl, hp, hi0⟩ := hR
 refine wp_block ?_
 refine rs S (tr (mv rfl)<|la (av rfl)) ?_; clear S; intro a u S
 refine wp_seq (rs0 ?_)
 refine sp S (tr (mv rfl)<|tr (muli ((2 * i : Nat) : Int) rfl rfl (w_i64 (by omega)))<|la (addi ((2 * i + 1 : Nat) : Int) rfl rfl (w_i64 (by omega)))) ?_; clear S; intro a u S
 rw [show (((2 * i + 1 : Nat) : Int) : Int) = (((2 * i + 1) : Nat) : Int) from by omega] at S
 refine ens S (la (av rfl)) ?_; clear S; intro a u S
 refine wp_block ?_
 refine lp2 (fun (c : Nat) (m : Nat) => [(0, pT H_b 0), (2, pT b2 0), (3, pT b3 0), (4, iN (H.length - 1)), (5, iN i), (41, iN i), (42, iN i), (43, iN (2 * i)), (44, iN (2 * i + 1)), (7, iN c), (6, iN m)]) (fun (c : Nat) (m : Nat) => [blO H_b [.slice ys_a ys.length ys_c, .func (.func 69) #[] #[]] 86, rwO visE 82 H_s ys_a ys_c ys, blO b2 [iI 0, iI 0] 82, blO b3 (visE.cells (H.getD 0 visE.dflt)) 82]) (fun (c : Nat) (m : Nat) => LeastI ys i c m) (fun (c : Nat) (m : Nat) => 2 * i + 3 - c) S (2 * i + 1) i (subM rfl) rfl ?_ ?_
 ·exact least_start
 clear S; intro c m a u S hR
 have hL1 := hR.hi
 have hL2 := hR.lo
 have hL3 := hR.is
 refine wp_seq ?_
 refine rs S (tr (mv rfl)<|tr (mv rfl)<|tr (muli ((2 * i : Nat) : Int) rfl rfl (w_i64 (by omega)))<|tr (addi ((2 * i + 2 : Nat) : Int) rfl rfl (w_i64 (by omega)))<|tr (leqi rfl rfl)<|tr (mv rfl)<|tr (og 50 rfl gt fun S hg=>x_move (S.e rfl))<|tr (og 50 rfl gt fun S hg=>x_move (S.e rfl))<|tr (og 50 rfl gt fun S hg=>x_lss (S.p rfl hg) (S.p rfl hg))<|la (andi rfl rfl rfl)) ?_; clear S; intro a u S
 refine cd S rfl ?_ ?_
 ·intro hc0
  refine wp_skip (then_n (wp_seq (wp_block (wp_seq ?_))))
  obtain ⟨hl17, hu17⟩ : inI64 ((ys.getD c visE.dflt).dev) := id (((S.row 1 rfl).wfi c (by omega)).1)
  obtain ⟨hl18, hu18⟩ : inI64 ((ys.getD c visE.dflt).dist) := id (((S.row 1 rfl).wfi c (by omega)).2)
  obtain ⟨hl19, hu19⟩ : inI64 ((ys.getD m visE.dflt).dev) := id (((S.row 1 rfl).wfi m (by omega)).1)
  obtain ⟨hl20, hu20⟩ : inI64 ((ys.getD m visE.dflt).dist) := id (((S.row 1 rfl).wfi m (by omega)).2)
  refine dr (P := Try.prog) S 19 [] [(57, .is _), (58, .is _), (59, .is _), (60, .is _), (61, .is _), (62, .is _), (63, .is _), (64, .is _), (65, .is _), (66, .is _), (67, .is _), (68, .is _), (69, .is _), (70, .is _), (71, .is _), (72, .is _), (73, .is _), (74, .is _), (75, .is _)] [[], [57], [58], [59], [], [61], [62], [63], [], [64, 65], [66], [], [68], [69], [70], [], [71, 72], [73], [60, 67, 74]] [75] _ ⟨qd (mv rfl), qd (ov fun S=>x_nilck (S.e rfl)), qd (fldi 0 1 rfl uT86), qd (ldk 0 sC83 rfl rfl rfl), qd (mv rfl), qd (ov fun S=>x_nilck (S.e rfl)), qd (fldi 0 0 rfl uT86), qd (ldk 0 sC84 rfl rfl rfl), qd (mv rfl), qd (ov fun S=>x_idx uT84 sZ82 (S.e rfl) (S.e rfl) c rfl (by omega) (row_off (S.row 1 rfl) (m := c) (by omega))), qd (ov fun S=>x_ldw (S.e rfl) (((S.row 1 rfl).latz (by first | decide | exact Nat.one_pos)).wcell c (by omega) _ rfl _ rfl) wD82), qd (mv rfl), qd (ov fun S=>x_nilck (S.e rfl)), qd (fldi 0 0 rfl uT86), qd (ldk 0 sC84 rfl rfl rfl), qd (mv rfl), qd (ov fun S=>x_idx uT84 sZ82 (S.e rfl) (S.e rfl) m rfl (by omega) (row_off (S.row 1 rfl) (m := m) (by omega))), qd (ov fun S=>x_ldw (S.e rfl) (((S.row 1 rfl).latz (by first | decide | exact Nat.one_pos)).wcell m (by omega) _ rfl _ rfl) wD82), qd (ocf (fun S=>pLess _ _ S.x (.nil _) (ys.getD c visE.dflt) (dn0 ((S.row 1 rfl).wfi c (by omega))) (ys.getD m visE.dflt) (dn0 ((S.row 1 rfl).wfi m (by omega)))) cB69), trivial⟩ ?_
  clear S; intro a u S G hE
  refine ent ?_
  refine cd S rfl ?_ ?_
  ·intro hc1
   refine rg S (tr (mv rfl)<|la (av rfl)) ?_; clear S; intro a u S
   refine blk_n (then_n ?_)
   refine rg S (tr (mv rfl)<|tr (addi ((c + 1 : Nat) : Int) rfl rfl (w_i64 (by omega)))<|la (av rfl)) ?_; clear S; intro a u S
   refine then_n ?_
   refine ⟨(c + 1), c, S.re (subM rfl) rfl rfl, ?_, ?_⟩
   ·first | exact least_less hR (by omega) (by omega) (by unfold kq; omega) | exact least_keep hR (by omega) (by unfold kq; omega)
   omega
  intro hc2
  refine wp_skip (blk_n (then_n ?_))
  refine rg S (tr (mv rfl)<|tr (addi ((c + 1 : Nat) : Int) rfl rfl (w_i64 (by omega)))<|la (av rfl)) ?_; clear S; intro a u S
  refine then_n ?_
  refine ⟨(c + 1), m, S.re (subM rfl) rfl rfl, ?_, ?_⟩
  ·first | exact least_less hR (by omega) (by omega) (by unfold kq; omega) | exact least_keep hR (by omega) (by unfold kq; omega)
  omega
 intro hc3
 refine wp_exit (then_e (then_e (blk_e (then_n (wp_seq ?_)))))
 refine rs S (tr (mv rfl)<|tr (mv rfl)<|la (eqli rfl rfl)) ?_; clear S; intro a u S
 refine cd S rfl ?_ ?_
 ·intro hc4
  refine wp_exit (then_e (blk_o (by decide) ?_))
  refine then_e (blk_e (then_n ?_))
  refine rs S (tr (ldkw 3 rfl rfl wD82)<|la (stkw 2 rfl rfl rfl)) ?_; clear S; intro a u S
  refine wp_ret ?_
  refine retcw rfl S.s rfl [iI ((H.getD 0 visE.dflt).dev), iI ((H.getD 0 visE.dflt).dist)] wD82 (fun j v hv => by rw [Nat.zero_add]; exact (S.k 2 rfl).cell hv) ?_
  replace S := S.pk [0, 1] (os' := [blO H_b [.slice ys_a ys.length ys_c, .func (.func 69) #[] #[]] 86, rwO visE 82 H_s ys_a ys_c ys])
  refine ⟨(H.getD 0 visE.dflt), ys_a, ys_c, ys.length, ys, rfl, hq13, (by first | rfl | (simp only [List.length_set, swap_len]; done) | (simp; done) | (simp; omega)), (S.k 0 rfl), (S.row 1 rfl), ?_, S.m.c⟩
  obtain rfl : m = i := by omega
  exact ⟨down_stop hD hR (by omega), hp, fun u hu => heap_least ho (hp.mem_iff.2 (List.mem_cons_of_mem _ hu))⟩
 intro hc5
 obtain ⟨hi1, hm1, hD2⟩ := down_swap hD hR (by omega) (by omega)
 have hm2 : i < m := by omega
 refine wp_skip (then_n (wp_seq ?_))
 obtain ⟨hl26, hu26⟩ : inI64 ((ys.getD m visE.dflt).dev) := id (((S.row 1 rfl).wfi m (by omega)).1)
 obtain ⟨hl27, hu27⟩ : inI64 ((ys.getD m visE.dflt).dist) := id (((S.row 1 rfl).wfi m (by omega)).2)
 obtain ⟨hl28, hu28⟩ : inI64 ((ys.getD i visE.dflt).dev) := id (((S.row 1 rfl).wfi i (by omega)).1)
 obtain ⟨hl29, hu29⟩ : inI64 ((ys.getD i visE.dflt).dist) := id (((S.row 1 rfl).wfi i (by omega)).2)
 have hq96 := id ((S.row 1 rfl).wfi m (by omega))
 have hq103 := id ((S.row 1 rfl).wfi i (by omega))
 refine lz3 (P := Try.prog) (x := .tmp 104) (y := .tmp 96) visE S 25 9 89 (iN m) [(80, .is _), (81, .is _), (82, .is _), (83, .is _), (84, .is _), (85, .is _), (86, .is _), (87, .is _), (88, .is _), (89, .is _), (90, .is _), (91, .is _), (92, .is _), (93, .is _), (94, .is _), (95, .is _), (96, .is _), (97, .is _), (98, .is _), (99, .is _), (100, .is _), (101, .is _), (102, .is _), (103, .is _), (104, .is _)] [[], [80], [81], [82], [], [], [85], [86], [87], [], [], [90], [91], [92], [], [93, 94], [95], [], [97], [98], [99], [], [100, 101], [102], [83, 84]] [88, 96, 103, 104] 1 i (ys.getD m visE.dflt) rfl ⟨qd (mv rfl), qd (ov fun S=>x_nilck (S.e rfl)), qd (fldi 0 0 rfl uT86), qd (ldk 0 sC84 rfl rfl rfl), qd (mv rfl), qd (mv rfl), qd (ov fun S=>x_nilck (S.e rfl)), qd (fldi 0 0 rfl uT86), qd (ldk 0 sC84 rfl rfl rfl), qd (mv rfl), qd (mv rfl), qd (ov fun S=>x_nilck (S.e rfl)), qd (fldi 0 0 rfl uT86), qd (ldk 0 sC84 rfl rfl rfl), qd (mv rfl), qd (ov fun S=>x_idx uT84 sZ82 (S.e rfl) (S.e rfl) m rfl (by omega) (row_off (S.row 1 rfl) (m := m) (by omega))), qd (ov fun S=>x_ldw (S.e rfl) (((S.row 1 rfl).latz (by first | decide | exact Nat.one_pos)).wcell m (by omega) _ rfl _ rfl) wD82), qd (mv rfl), qd (ov fun S=>x_nilck (S.e rfl)), qd (fldi 0 0 rfl uT86), qd (ldk 0 sC84 rfl rfl rfl), qd (mv rfl), qd (ov fun S=>x_idx uT84 sZ82 (S.e rfl) (S.e rfl) i rfl (by omega) (row_off (S.row 1 rfl) (m := i) (by omega))), qd (ov fun S=>x_ldw (S.e rfl) (((S.row 1 rfl).latz (by first | decide | exact Nat.one_pos)).wcell i (by omega) _ rfl _ rfl) wD82), qd (ov fun S=>x_idx uT84 sZ82 (S.e rfl) (S.e rfl) i rfl (by omega) (row_off (S.row 1 rfl) (m := i) (by omega))), trivial⟩ (fun a w S => (x_move (S.e rfl))) rfl rfl (by omega) rfl (fun S=>hq96) rfl (by first | rfl | (simp [visE]; omega) | simp [visE]) rfl ?_
 clear S; intro a u S
 have hls30 : (ys.set i (ys.getD m visE.dflt)).length = ys.length := by simp
 refine sp S (la (ov fun S=>x_idx uT84 sZ82 (S.e rfl) (S.e rfl) m rfl (by omega) (row_off (S.row 1 rfl) (m := m) (by omega)))) ?_; clear S; intro a u S
 refine sp S (la (strw (E := visE) 1 rfl rfl rfl m 0 (by omega) (by exact (show 0 + 2 ≤ 2 from by decide)) (ys.getD i visE.dflt) (fun S=>hq103) rfl (by first | rfl | (simp [visE]; omega) | simp [visE]) rfl)) ?_; clear S; intro a u S
 have hls31 : ((ys.set i (ys.getD m visE.dflt)).set m (ys.getD i visE.dflt)).length = ys.length := by simp
 refine ent ?_
 refine rg S (tr (mv rfl)<|la (av rfl)) ?_; clear S; intro a u S
 refine blk_n (then_n ?_)
 refine ⟨m, ys_a, ys_c, ((ys.set i (ys.getD m visE.dflt)).set m (ys.getD i visE.dflt)), S.re (subM rfl) rfl (by first | rfl | (simp only [List.length_set]; rfl)), ?_, ?_⟩
 ·exact ⟨hD2, by simp; omega, hp.trans (List.Perm.cons _ (swap_perm hi1 hm1).symm), by omega⟩
 omega
end Go.Proofs.Ytfanmniaolncbaa.V
