/- paths: the distances of the reference -/
import Derived.Test.YtfanmniaolncbaaW30
import Derived.Test.YtfanmniaolncbaaW9
namespace Go.Proofs.Ytfanmniaolncbaa.V
open Go.RowKit Go.Proofs.Ytfanmniaolncbaa
set_option linter.unusedVariables false
set_option linter.unusedSimpArgs false
set_option maxHeartbeats 2000000 in
set_option maxRecDepth 20000 in
theorem r14Dist (w : World) (F : Nat → Prop) (hF : Old F w) (M : MS [] w) (t : Topo) (t_w : topoE.wf (Fr F []) w.heap t) (f : Fail) (f_w : failE.wf (Fr F []) w.heap f) (dz : Int) (dz_h : inI64 dz) :
 Calls Try.prog 64 #[.agg (topoE.cells t).toArray, .agg (failE.cells f).toArray, iI dz] w fun e w' => ∃ (ra : Option Addr) (rc : Nat), e = .returned (.slice ra ((distV t f dz).length) rc) ∧ (slE intE).wf (Fr F []) w'.heap (Sl.mk ra rc (distV t f dz)) ∧ Tr [] w [] w' := by
 have : t.devs.xs.length ≤ 9223372036854775807 := (t_w.1).1.len
 have : t.links.xs.length ≤ 9223372036854775807 := (t_w.2.1).1.len
 have : t.edges.xs.length ≤ 9223372036854775807 := (t_w.2.2.1).1.len
 have : t.pools.xs.length ≤ 9223372036854775807 := (t_w.2.2.2.1).1.len
 obtain ⟨_, _⟩ : inI64 t.tol := t_w.2.2.2.2
 have : f.links.xs.length ≤ 9223372036854775807 := (f_w.1).1.len
 have : f.devs.xs.length ≤ 9223372036854775807 := (f_w.2).1.len
 obtain ⟨dz_hl, dz_hu⟩ : inI64 dz := id dz_h
 refine go Try.func64 rfl 92 rfl [wfF topoE t, wfF failE f] [] hF M ⟨t_w, f_w, trivial⟩ trivial ?_
 intro a S
 refine rs0 ?_
 refine nbp S (x_box _ (S.e rfl) rfl) ?_; clear S; intro a u b3 S
 refine nbp S (x_box _ (S.e rfl) rfl) ?_; clear S; intro a u b4 S
 refine ens S (la (av rfl)) ?_; clear S; intro a u S
 refine wp_seq ?_
 refine rs S (tr (ldkw 0 rfl rfl wD28)<|tr (ldkw 1 rfl rfl wD41)<|tr (mv rfl)<|tr (oc (fun S=>r14device _ _ S.x (.nil _) t (dn0 (S.u 0 rfl)) f (dn0 (S.u 1 rfl)) dz dz_h) cB96)<|la (noti rfl)) ?_; clear S; intro a u S
 refine cd S rfl ?_ ?_
 ·intro hc0
  refine rs S (la (av rfl)) ?_; clear S; intro a u S
  refine wp_ret (then_r ?_)
  refine ret1 rfl S.s rfl ?_
  replace S := S.pk []
  have hx4 : distV t f dz = [] := by
   unfold distV; exact if_neg hc0
  rw [hx4]
  refine ⟨none, 0, rfl, sl_nil, S.m.c⟩
 intro hc1
 have hD := Classical.not_not.1 hc1
 have HV := hD.1.1
 have hz0 := hD.1.2
 have hz1 := hD.2
 have hB : topB t := HV.1.1.1
 unfold topB at hB
 refine wp_skip (then_n ?_)
 refine rs S (la (av rfl)) ?_; clear S; intro a u S
 refine wp_seq ?_
 refine rs S (la (av rfl)) ?_; clear S; intro a u S
 refine wp_block ?_
 replace S := S.nr intE 3
 refine lp4 (fun (k : Nat) (out_a : Option Addr) (out_c : Nat) (out : List Int) => [(2, iI dz), (3, pT b3 0), (4, pT b4 0), (6, .slice none 0 0), (8, iN k), (7, .slice out_a out.length out_c)]) (fun (k : Nat) (out_a : Option Addr) (out_c : Nat) (out : List Int) => [blO b3 (topoE.cells t) 28, blO b4 (failE.cells f) 41, rwO intE 3 w.heap.size out_a out_c out]) (fun (k : Nat) (out_a : Option Addr) (out_c : Nat) (out : List Int) => k ≤ t.devs.xs.length ∧ out.length = k ∧ ∀ d, d < k → out.getD d 0 = -1) (fun (k : Nat) (out_a : Option Addr) (out_c : Nat) (out : List Int) => t.devs.xs.length - k) S 0 none 0 ([]) (subM rfl) rfl ?_ ?_
 ·exact ⟨Nat.zero_le _, rfl, fun d h => by omega⟩
 clear S; intro k out_a out_c out a u S hR
 have out_len := (S.row 2 rfl).len_le; simp only [maxLen] at out_len
 obtain ⟨hk, hol, hoe⟩ := hR
 refine wp_seq ?_
 have hn8 : t.devs.xs.length ≤ 9223372036854775807 := ((S.u 0 rfl).1).1.len
 refine rs S (tr (mv rfl)<|tr (fldi 0 0 rfl uT28)<|tr (ldk 0 sC23 rfl rfl rfl)<|tr (leni uT23 rfl)<|la (lssi rfl rfl)) ?_; clear S; intro a u S
 refine cd S rfl ?_ ?_
 ·intro hc2
  refine wp_skip (then_n (wp_seq (wp_block (r0 ?_))))
  refine sp S (la (mv rfl)) ?_; clear S; intro a u S
  refine nbs intE S [(-1)] (x_bs S [(0, iI (-1))] uT22 iZ3) (fun x hx => by simp only [List.mem_cons, List.not_mem_nil, or_false] at hx; rw [hx]; exact (show intE.wf _ _ (-1) from (show inI64 (-1) from ⟨by omega, by omega⟩))) ?_; clear S; intro a u b24 S
  refine ap (E := intE) (ys := [(-1)]) S 2 rfl uT22 iZ3 rfl rfl (show LAt intE _ _ (some ⟨b24, 0, none⟩) ([(-1)]) from ((S.u 2 rfl)).1) ((S.u 2 rfl)).2.2 (LAt.mem (show LAt intE _ _ (some ⟨b24, 0, none⟩) ([(-1)]) from ((S.u 2 rfl)).1)) ⟨by unfold maxLen; (try simp only [List.length_cons, List.length_nil, List.length_append, List.length_map]); omega, by (try simp only [List.length_cons, List.length_nil, List.length_append, List.length_map]); omega⟩ ?_; clear S; intro a u ad25 cap25 S
  refine en S (la (av rfl)) ?_; clear S; intro a u S
  refine blk_n (then_n ?_)
  refine rg S (tr (mv rfl)<|tr (addi ((k + 1 : Nat) : Int) rfl rfl (w_i64 (by omega)))<|la (av rfl)) ?_; clear S; intro a u S
  refine then_n ?_
  refine ⟨k + 1, ad25, cap25, (out ++ [(-1)]), S.re (subM rfl) rfl rfl, ?_, ?_⟩
  ·refine ⟨by omega, by simp; omega, fun d hd => ?_⟩
   rcases Nat.lt_succ_iff_lt_or_eq.1 hd with h | h
   ·rw [List.getD_eq_getElem?_getD, List.getElem?_append_left (by omega), ← List.getD_eq_getElem?_getD]; exact hoe d h
   subst h
   rw [List.getD_eq_getElem?_getD, List.getElem?_append_right (by omega), show d - out.length = 0 from by omega]; rfl
  omega
 intro hc3
 refine wp_exit (then_e (then_e (blk_e (then_n (wp_seq ?_)))))
 refine rs S (tr (ldkw 0 rfl rfl wD28)<|tr (ldkw 1 rfl rfl wD41)<|tr (mv rfl)<|la (oc (fun S=>rAlive _ _ S.x (.nil _) t (dn0 (S.u 0 rfl)) f (dn0 (S.u 1 rfl)) dz dz_h) cB60)) ?_; clear S; intro a u S
 refine cd S rfl ?_ ?_
 ·intro hc4
  refine r0 ?_
  refine sp S (tr (mv rfl)<|tr (mv rfl)<|la (ov fun S=>x_idx uT22 sZ3 (S.e rfl) (S.e rfl) (dz).toNat (by omega) (by omega) (row_off (S.row 2 rfl) (m := (dz).toNat) (by omega)))) ?_; clear S; intro a u S
  refine sp S (la (str (E := intE) 2 (by kernel_rfl) rfl rfl rfl (dz).toNat 0 (by omega) (by first | decide | exact Nat.one_pos) 0 (fun S=>(show inI64 0 from ⟨by omega, by omega⟩)) rfl (by first | rfl | (show _ = _ * 1 + 0; omega) | (simp [intE]; omega) | simp [intE]) rfl)) ?_; clear S; intro a u S
  have hls13 : (out.set (dz).toNat 0).length = out.length := by simp
  refine ent (wp_seq ?_)
  refine rs S (la (av rfl)) ?_; clear S; intro a u S
  refine wp_block ?_
  refine lp4 (fun (r : Nat) (o1_a : Option Addr) (o1_c : Nat) (o1 : List Int) => [(3, pT b3 0), (4, pT b4 0), (6, .slice none 0 0), (7, .slice o1_a o1.length o1_c), (9, iN r)]) (fun (r : Nat) (o1_a : Option Addr) (o1_c : Nat) (o1 : List Int) => [blO b3 (topoE.cells t) 28, blO b4 (failE.cells f) 41, rwO intE 3 w.heap.size o1_a o1_c o1]) (fun (r : Nat) (o1_a : Option Addr) (o1_c : Nat) (o1 : List Int) => r ≤ t.devs.xs.length ∧ BfI t f dz.toNat o1 r 0) (fun (r : Nat) (o1_a : Option Addr) (o1_c : Nat) (o1 : List Int) => t.devs.xs.length - r) S 0 out_a out_c (out.set (dz).toNat 0) ⟨rfl, rfl, rfl, (by first | rfl | (simp only [List.length_set, relax_len]; rfl)), rfl, trivial⟩ rfl ?_ ?_
  ·have hol3 : out.length = t.devs.xs.length := by omega
   first | exact ⟨Nat.zero_le _, BfI.start1 HV hz0 hz1 hol3 (fun d hd => hoe d (by omega)) hc4⟩ | exact ⟨Nat.zero_le _, BfI.start0 HV hz0 hz1 hol3 (fun d hd => hoe d (by omega)) hc4⟩
  clear S; intro r o1_a o1_c o1 a u S hR
  have o1_len := (S.row 2 rfl).len_le; simp only [maxLen] at o1_len
  obtain ⟨hr, hI⟩ := hR
  refine wp_seq ?_
  refine rs S (tr (mv rfl)<|tr (fldi 0 0 rfl uT28)<|tr (ldk 0 sC23 rfl rfl rfl)<|tr (leni uT23 rfl)<|la (lssi rfl rfl)) ?_; clear S; intro a u S
  refine cd S rfl ?_ ?_
  ·intro hc5
   refine wp_skip (then_n (wp_seq (wp_block ?_)))
   refine rs S (la (av rfl)) ?_; clear S; intro a u S
   refine wp_block ?_
   refine lp4 (fun (k : Nat) (o2_a : Option Addr) (o2_c : Nat) (o2 : List Int) => [(3, pT b3 0), (4, pT b4 0), (6, .slice none 0 0), (7, .slice o2_a o2.length o2_c), (9, iN r), (33, iN r), (34, pT b3 (0 + 0)), (35, sV t.devs), (36, iN t.devs.xs.length), (37, bD (((r : Nat) : Int) < ((t.devs.xs.length : Nat) : Int))), (10, iN k)]) (fun (k : Nat) (o2_a : Option Addr) (o2_c : Nat) (o2 : List Int) => [blO b3 (topoE.cells t) 28, blO b4 (failE.cells f) 41, rwO intE 3 w.heap.size o2_a o2_c o2]) (fun (k : Nat) (o2_a : Option Addr) (o2_c : Nat) (o2 : List Int) => k ≤ t.links.xs.length ∧ BfI t f dz.toNat o2 r k) (fun (k : Nat) (o2_a : Option Addr) (o2_c : Nat) (o2 : List Int) => t.links.xs.length - k) S 0 o1_a o1_c o1 (subM rfl) rfl ?_ ?_
   ·exact ⟨Nat.zero_le _, hI⟩
   clear S; intro k o2_a o2_c o2 a u S hR
   have o2_len := (S.row 2 rfl).len_le; simp only [maxLen] at o2_len
   obtain ⟨hk, hJ⟩ := hR
   have hol2 := hJ.s.len
   have hv0 := hJ.caps HV.1.1 hr hk
   have hv1 := caps_up hv0
   refine wp_seq ?_
   have hn18 : t.links.xs.length ≤ 9223372036854775807 := ((S.u 0 rfl).2.1).1.len
   refine rs S (tr (mv rfl)<|tr (fldi 0 1 rfl uT28)<|tr (ldk 0 sC24 rfl rfl rfl)<|tr (leni uT24 rfl)<|la (lssi rfl rfl)) ?_; clear S; intro a u S
   refine cd S rfl ?_ ?_
   ·intro hc6
    refine wp_skip (then_n (wp_seq (wp_block ?_)))
    refine rs S (tr (ldkw 0 rfl rfl wD28)<|tr (ldkw 1 rfl rfl wD41)<|tr (mv rfl)<|la (oc (fun S=>rUsable _ _ S.x (.nil _) t (dn0 (S.u 0 rfl)) f (dn0 (S.u 1 rfl)) ((k : Nat) : Int) ⟨by omega, by omega⟩) cB40)) ?_; clear S; intro a u S
    refine cd S rfl ?_ ?_
    ·intro hc7
     have hl := topV_link HV.1.1 (i := k) (by omega)
     unfold lnkV at hl
     have hv2 := relax_caps (a := (t.links.xs.getD k lnkE.dflt).a.toNat) (b := (t.links.xs.getD k lnkE.dflt).b.toNat) (c := (t.links.xs.getD k lnkE.dflt).cost) hv0 (by omega)
     have hrl : (relaxL o2 (t.links.xs.getD k lnkE.dflt).a.toNat (t.links.xs.getD k lnkE.dflt).b.toNat (t.links.xs.getD k lnkE.dflt).cost).length = o2.length := relax_len
     refine wp_seq ?_
     obtain ⟨hl20, hu20⟩ : inI64 ((t.links.xs.getD k lnkE.dflt).a) := id ((((S.u 0 rfl).2.1).1.wf k (by omega)).1)
     obtain ⟨hl21, hu21⟩ : inI64 ((t.links.xs.getD k lnkE.dflt).b) := id ((((S.u 0 rfl).2.1).1.wf k (by omega)).2.1)
     obtain ⟨hl22, hu22⟩ : inI64 ((t.links.xs.getD k lnkE.dflt).cost) := id ((((S.u 0 rfl).2.1).1.wf k (by omega)).2.2)
     refine dr (P := Try.prog) S 19 [] [(51, .is _), (52, .is _), (53, .is _), (54, .is _), (55, .is _), (56, .is _), (57, .is _), (58, .is _), (59, .is _), (60, .is _), (61, .is _), (62, .is _), (63, .is _), (64, .is _), (65, .is _), (66, .is _), (67, .is _), (68, .is _), (69, .is _)] [[], [], [52], [], [53, 54], [55], [56], [], [58], [], [59, 60], [61], [62], [], [64], [], [65, 66], [67], [68]] [51, 57, 63, 69] _ ⟨qd (mv rfl), qd (fldi 0 1 rfl uT28), qd (ldk 0 sC24 rfl rfl rfl), qd (mv rfl), qd (idxi uT24 sZ54 rfl rfl k rfl (by omega) (((S.u 0 rfl).2.1).1.adr (i := k) (by omega))), qd (fldi (off t.links.a + k * 3) 0 rfl uT54), qd (ov fun S=>x_load sC3 (S.e rfl) (((S.u 0 rfl).2.1).1.cell k (by omega) 0 _ rfl)), qd (fldi 0 1 rfl uT28), qd (ldk 0 sC24 rfl rfl rfl), qd (mv rfl), qd (idxi uT24 sZ54 rfl rfl k rfl (by omega) (((S.u 0 rfl).2.1).1.adr (i := k) (by omega))), qd (fldi (off t.links.a + k * 3) 1 rfl uT54), qd (ov fun S=>x_load sC3 (S.e rfl) (((S.u 0 rfl).2.1).1.cell k (by omega) 1 _ rfl)), qd (fldi 0 1 rfl uT28), qd (ldk 0 sC24 rfl rfl rfl), qd (mv rfl), qd (idxi uT24 sZ54 rfl rfl k rfl (by omega) (((S.u 0 rfl).2.1).1.adr (i := k) (by omega))), qd (fldi (off t.links.a + k * 3) 2 rfl uT54), qd (ov fun S=>x_load sC3 (S.e rfl) (((S.u 0 rfl).2.1).1.cell k (by omega) 2 _ rfl)), trivial⟩ ?_
     clear S; intro a u S G hE
     obtain ⟨hl23, hu23⟩ : inI64 ((t.links.xs.getD k lnkE.dflt).a) := id ((((S.u 0 rfl).2.1).1.wf k (by omega)).1)
     obtain ⟨hl24, hu24⟩ : inI64 ((t.links.xs.getD k lnkE.dflt).b) := id ((((S.u 0 rfl).2.1).1.wf k (by omega)).2.1)
     obtain ⟨hl25, hu25⟩ : inI64 ((t.links.xs.getD k lnkE.dflt).cost) := id ((((S.u 0 rfl).2.1).1.wf k (by omega)).2.2)
     refine cl S (r14relax _ _ S.x o2_a (S.M.pick [2] (by decide)) o2_c w.heap.size o2.length o2 S.bs0 (by first | rfl | assumption | omega) ((S.row 2 rfl).dn1 (js := [2])) ((t.links.xs.getD k lnkE.dflt).a) (((S.u 0 rfl).2.1).1.wf k (by omega)).1 ((t.links.xs.getD k lnkE.dflt).b) (((S.u 0 rfl).2.1).1.wf k (by omega)).2.1 ((t.links.xs.getD k lnkE.dflt).cost) (((S.u 0 rfl).2.1).1.wf k (by omega)).2.2 (⟨⟨by omega, by omega⟩, ⟨by omega, by omega⟩, ⟨by omega, by omega⟩⟩) (by assumption)) cB97 ?_
     rintro e u ⟨rfl, tK, T0⟩; refine ⟨_, rfl, fun a s => ?_⟩
     have hls26 : (relaxL o2 ((t.links.xs.getD k lnkE.dflt).a).toNat ((t.links.xs.getD k lnkE.dflt).b).toNat (t.links.xs.getD k lnkE.dflt).cost).length = o2.length := by simp only [relax_len]
     replace S := S.k1s 2 rfl (rwO intE 3 w.heap.size o2_a o2_c (relaxL o2 ((t.links.xs.getD k lnkE.dflt).a).toNat ((t.links.xs.getD k lnkE.dflt).b).toNat (t.links.xs.getD k lnkE.dflt).cost)) rfl s T0.ch tK.ret; clear s T0 tK
     refine ent ?_
     refine dr (P := Try.prog) S 19 [] [(71, .is _), (72, .is _), (73, .is _), (74, .is _), (75, .is _), (76, .is _), (77, .is _), (78, .is _), (79, .is _), (80, .is _), (81, .is _), (82, .is _), (83, .is _), (84, .is _), (85, .is _), (86, .is _), (87, .is _), (88, .is _), (89, .is _)] [[], [], [72], [], [73, 74], [75], [76], [], [78], [], [79, 80], [81], [82], [], [84], [], [85, 86], [87], [88]] [71, 77, 83, 89] _ ⟨qd (mv rfl), qd (fldi 0 1 rfl uT28), qd (ldk 0 sC24 rfl rfl rfl), qd (mv rfl), qd (idxi uT24 sZ54 rfl rfl k rfl (by omega) (((S.u 0 rfl).2.1).1.adr (i := k) (by omega))), qd (fldi (off t.links.a + k * 3) 1 rfl uT54), qd (ov fun S=>x_load sC3 (S.e rfl) (((S.u 0 rfl).2.1).1.cell k (by omega) 1 _ rfl)), qd (fldi 0 1 rfl uT28), qd (ldk 0 sC24 rfl rfl rfl), qd (mv rfl), qd (idxi uT24 sZ54 rfl rfl k rfl (by omega) (((S.u 0 rfl).2.1).1.adr (i := k) (by omega))), qd (fldi (off t.links.a + k * 3) 0 rfl uT54), qd (ov fun S=>x_load sC3 (S.e rfl) (((S.u 0 rfl).2.1).1.cell k (by omega) 0 _ rfl)), qd (fldi 0 1 rfl uT28), qd (ldk 0 sC24 rfl rfl rfl), qd (mv rfl), qd (idxi uT24 sZ54 rfl rfl k rfl (by omega) (((S.u 0 rfl).2.1).1.adr (i := k) (by omega))), qd (fldi (off t.links.a + k * 3) 2 rfl uT54), qd (ov fun S=>x_load sC3 (S.e rfl) (((S.u 0 rfl).2.1).1.cell k (by omega) 2 _ rfl)), trivial⟩ ?_
     clear S; intro a u S G hE
     refine cl S (r14relax _ _ S.x o2_a (S.M.pick [2] (by decide)) o2_c w.heap.size o2.length (relaxL o2 ((t.links.xs.getD k lnkE.dflt).a).toNat ((t.links.xs.getD k lnkE.dflt).b).toNat (t.links.xs.getD k lnkE.dflt).cost) S.bs0 (by first | rfl | assumption | omega) ((S.row 2 rfl).dn1 (js := [2])) ((t.links.xs.getD k lnkE.dflt).b) (((S.u 0 rfl).2.1).1.wf k (by omega)).2.1 ((t.links.xs.getD k lnkE.dflt).a) (((S.u 0 rfl).2.1).1.wf k (by omega)).1 ((t.links.xs.getD k lnkE.dflt).cost) (((S.u 0 rfl).2.1).1.wf k (by omega)).2.2 (⟨⟨by omega, by omega⟩, ⟨by omega, by omega⟩, ⟨by omega, by omega⟩⟩) (by assumption)) cB97 ?_
     rintro e u ⟨rfl, tK, T0⟩; refine ⟨_, rfl, fun a s => ?_⟩
     have hls27 : (relaxL (relaxL o2 ((t.links.xs.getD k lnkE.dflt).a).toNat ((t.links.xs.getD k lnkE.dflt).b).toNat (t.links.xs.getD k lnkE.dflt).cost) ((t.links.xs.getD k lnkE.dflt).b).toNat ((t.links.xs.getD k lnkE.dflt).a).toNat (t.links.xs.getD k lnkE.dflt).cost).length = o2.length := by simp only [relax_len]
     replace S := S.k1s 2 rfl (rwO intE 3 w.heap.size o2_a o2_c (relaxL (relaxL o2 ((t.links.xs.getD k lnkE.dflt).a).toNat ((t.links.xs.getD k lnkE.dflt).b).toNat (t.links.xs.getD k lnkE.dflt).cost) ((t.links.xs.getD k lnkE.dflt).b).toNat ((t.links.xs.getD k lnkE.dflt).a).toNat (t.links.xs.getD k lnkE.dflt).cost)) rfl s T0.ch tK.ret; clear s T0 tK
     refine nn (blk_n (then_n ?_))
     refine rg S (tr (mv rfl)<|tr (addi ((k + 1 : Nat) : Int) rfl rfl (w_i64 (by omega)))<|la (av rfl)) ?_; clear S; intro a u S
     refine then_n ?_
     refine ⟨k + 1, o2_a, o2_c, relaxL (relaxL o2 ((t.links.xs.getD k lnkE.dflt).a).toNat ((t.links.xs.getD k lnkE.dflt).b).toNat (t.links.xs.getD k lnkE.dflt).cost) ((t.links.xs.getD k lnkE.dflt).b).toNat ((t.links.xs.getD k lnkE.dflt).a).toNat (t.links.xs.getD k lnkE.dflt).cost, S.re ⟨rfl, rfl, rfl, (by first | rfl | (simp only [List.length_set, relax_len]; rfl)), rfl, rfl, rfl, rfl, rfl, rfl, rfl, trivial⟩ rfl rfl, ?_, ?_⟩
     ·have hiu := usable_iff HV (i := k) (by omega)
      first
      | exact ⟨by omega, hJ.skip fun e => hc7 (hiu.2 e)⟩
      | exact ⟨by omega, hJ.link HV.1.1 (by omega) (hiu.1 hc7) (a := (t.links.xs.getD k lnkE.dflt).a.toNat) (b := (t.links.xs.getD k lnkE.dflt).b.toNat) (by show (t.links.xs.getD k lnkE.dflt).a = _; omega) (by show (t.links.xs.getD k lnkE.dflt).b = _; omega)⟩
     omega
    intro hc8
    refine wp_skip (blk_n (then_n ?_))
    refine rg S (tr (mv rfl)<|tr (addi ((k + 1 : Nat) : Int) rfl rfl (w_i64 (by omega)))<|la (av rfl)) ?_; clear S; intro a u S
    refine then_n ?_
    refine ⟨k + 1, o2_a, o2_c, o2, S.re (subM rfl) rfl rfl, ?_, ?_⟩
    ·have hiu := usable_iff HV (i := k) (by omega)
     first
     | exact ⟨by omega, hJ.skip fun e => hc8 (hiu.2 e)⟩
     | exact ⟨by omega, hJ.link HV.1.1 (by omega) (hiu.1 hc8) (a := (t.links.xs.getD k lnkE.dflt).a.toNat) (b := (t.links.xs.getD k lnkE.dflt).b.toNat) (by show (t.links.xs.getD k lnkE.dflt).a = _; omega) (by show (t.links.xs.getD k lnkE.dflt).b = _; omega)⟩
    omega
   intro hc9
   refine wp_exit (then_e (then_e (blk_e (blk_n (then_n ?_)))))
   refine rg S (tr (mv rfl)<|tr (addi ((r + 1 : Nat) : Int) rfl rfl (w_i64 (by omega)))<|la (av rfl)) ?_; clear S; intro a u S
   refine then_n ?_
   refine ⟨r + 1, o2_a, o2_c, o2, S.re (subM rfl) rfl rfl, ?_, ?_⟩
   ·exact ⟨by omega, BfI.next (by rw [show t.links.xs.length = k from by omega]; exact hJ) HV.1.1⟩
   omega
  intro hc10
  refine wp_exit (then_e (then_e (blk_e (then_n ?_))))
  refine rs S (tr (mv rfl)<|la (av rfl)) ?_; clear S; intro a u S
  refine wp_ret ?_
  replace S := S.fz 2 rfl
  refine ret1 rfl S.s rfl ?_
  replace S := S.pk []
  have hx32 : distV t f dz = o1 := by
   unfold distV; rw [if_pos hD]; exact BfI.all (by rw [show t.devs.xs.length = r from by omega]; exact hI) HV.1.1
  rw [hx32]
  refine ⟨o1_a, o1_c, rfl, (S.u 2 rfl), S.m.c⟩
 intro hc11
 refine wp_skip (then_n (wp_seq ?_))
 refine rs S (la (av rfl)) ?_; clear S; intro a u S
 refine wp_block ?_
 refine lp4 (fun (r : Nat) (o1_a : Option Addr) (o1_c : Nat) (o1 : List Int) => [(3, pT b3 0), (4, pT b4 0), (6, .slice none 0 0), (7, .slice o1_a o1.length o1_c), (9, iN r)]) (fun (r : Nat) (o1_a : Option Addr) (o1_c : Nat) (o1 : List Int) => [blO b3 (topoE.cells t) 28, blO b4 (failE.cells f) 41, rwO intE 3 w.heap.size o1_a o1_c o1]) (fun (r : Nat) (o1_a : Option Addr) (o1_c : Nat) (o1 : List Int) => r ≤ t.devs.xs.length ∧ BfI t f dz.toNat o1 r 0) (fun (r : Nat) (o1_a : Option Addr) (o1_c : Nat) (o1 : List Int) => t.devs.xs.length - r) S 0 out_a out_c out (subM rfl) rfl ?_ ?_
 ·have hol3 : out.length = t.devs.xs.length := by omega
  first | exact ⟨Nat.zero_le _, BfI.start1 HV hz0 hz1 hol3 (fun d hd => hoe d (by omega)) hc11⟩ | exact ⟨Nat.zero_le _, BfI.start0 HV hz0 hz1 hol3 (fun d hd => hoe d (by omega)) hc11⟩
 clear S; intro r o1_a o1_c o1 a u S hR
 have o1_len := (S.row 2 rfl).len_le; simp only [maxLen] at o1_len
 obtain ⟨hr, hI⟩ := hR
 refine wp_seq ?_
 refine rs S (tr (mv rfl)<|tr (fldi 0 0 rfl uT28)<|tr (ldk 0 sC23 rfl rfl rfl)<|tr (leni uT23 rfl)<|la (lssi rfl rfl)) ?_; clear S; intro a u S
 refine cd S rfl ?_ ?_
 ·intro hc12
  refine wp_skip (then_n (wp_seq (wp_block ?_)))
  refine rs S (la (av rfl)) ?_; clear S; intro a u S
  refine wp_block ?_
  refine lp4 (fun (k : Nat) (o2_a : Option Addr) (o2_c : Nat) (o2 : List Int) => [(3, pT b3 0), (4, pT b4 0), (6, .slice none 0 0), (7, .slice o2_a o2.length o2_c), (9, iN r), (33, iN r), (34, pT b3 (0 + 0)), (35, sV t.devs), (36, iN t.devs.xs.length), (37, bD (((r : Nat) : Int) < ((t.devs.xs.length : Nat) : Int))), (10, iN k)]) (fun (k : Nat) (o2_a : Option Addr) (o2_c : Nat) (o2 : List Int) => [blO b3 (topoE.cells t) 28, blO b4 (failE.cells f) 41, rwO intE 3 w.heap.size o2_a o2_c o2]) (fun (k : Nat) (o2_a : Option Addr) (o2_c : Nat) (o2 : List Int) => k ≤ t.links.xs.length ∧ BfI t f dz.toNat o2 r k) (fun (k : Nat) (o2_a : Option Addr) (o2_c : Nat) (o2 : List Int) => t.links.xs.length - k) S 0 o1_a o1_c o1 (subM rfl) rfl ?_ ?_
  ·exact ⟨Nat.zero_le _, hI⟩
  clear S; intro k o2_a o2_c o2 a u S hR
  have o2_len := (S.row 2 rfl).len_le; simp only [maxLen] at o2_len
  obtain ⟨hk, hJ⟩ := hR
  have hol2 := hJ.s.len
  have hv0 := hJ.caps HV.1.1 hr hk
  have hv1 := caps_up hv0
  refine wp_seq ?_
  have hn37 : t.links.xs.length ≤ 9223372036854775807 := ((S.u 0 rfl).2.1).1.len
  refine rs S (tr (mv rfl)<|tr (fldi 0 1 rfl uT28)<|tr (ldk 0 sC24 rfl rfl rfl)<|tr (leni uT24 rfl)<|la (lssi rfl rfl)) ?_; clear S; intro a u S
  refine cd S rfl ?_ ?_
  ·intro hc13
   refine wp_skip (then_n (wp_seq (wp_block ?_)))
   refine rs S (tr (ldkw 0 rfl rfl wD28)<|tr (ldkw 1 rfl rfl wD41)<|tr (mv rfl)<|la (oc (fun S=>rUsable _ _ S.x (.nil _) t (dn0 (S.u 0 rfl)) f (dn0 (S.u 1 rfl)) ((k : Nat) : Int) ⟨by omega, by omega⟩) cB40)) ?_; clear S; intro a u S
   refine cd S rfl ?_ ?_
   ·intro hc14
    have hl := topV_link HV.1.1 (i := k) (by omega)
    unfold lnkV at hl
    have hv2 := relax_caps (a := (t.links.xs.getD k lnkE.dflt).a.toNat) (b := (t.links.xs.getD k lnkE.dflt).b.toNat) (c := (t.links.xs.getD k lnkE.dflt).cost) hv0 (by omega)
    have hrl : (relaxL o2 (t.links.xs.getD k lnkE.dflt).a.toNat (t.links.xs.getD k lnkE.dflt).b.toNat (t.links.xs.getD k lnkE.dflt).cost).length = o2.length := relax_len
    refine wp_seq ?_
    obtain ⟨hl39, hu39⟩ : inI64 ((t.links.xs.getD k lnkE.dflt).a) := id ((((S.u 0 rfl).2.1).1.wf k (by omega)).1)
    obtain ⟨hl40, hu40⟩ : inI64 ((t.links.xs.getD k lnkE.dflt).b) := id ((((S.u 0 rfl).2.1).1.wf k (by omega)).2.1)
    obtain ⟨hl41, hu41⟩ : inI64 ((t.links.xs.getD k lnkE.dflt).cost) := id ((((S.u 0 rfl).2.1).1.wf k (by omega)).2.2)
    refine dr (P := Try.prog) S 19 [] [(51, .is _), (52, .is _), (53, .is _), (54, .is _), (55, .is _), (56, .is _), (57, .is _), (58, .is _), (59, .is _), (60, .is _), (61, .is _), (62, .is _), (63, .is _), (64, .is _), (65, .is _), (66, .is _), (67, .is _), (68, .is _), (69, .is _)] [[], [], [52], [], [53, 54], [55], [56], [], [58], [], [59, 60], [61], [62], [], [64], [], [65, 66], [67], [68]] [51, 57, 63, 69] _ ⟨qd (mv rfl), qd (fldi 0 1 rfl uT28), qd (ldk 0 sC24 rfl rfl rfl), qd (mv rfl), qd (idxi uT24 sZ54 rfl rfl k rfl (by omega) (((S.u 0 rfl).2.1).1.adr (i := k) (by omega))), qd (fldi (off t.links.a + k * 3) 0 rfl uT54), qd (ov fun S=>x_load sC3 (S.e rfl) (((S.u 0 rfl).2.1).1.cell k (by omega) 0 _ rfl)), qd (fldi 0 1 rfl uT28), qd (ldk 0 sC24 rfl rfl rfl), qd (mv rfl), qd (idxi uT24 sZ54 rfl rfl k rfl (by omega) (((S.u 0 rfl).2.1).1.adr (i := k) (by omega))), qd (fldi (off t.links.a + k * 3) 1 rfl uT54), qd (ov fun S=>x_load sC3 (S.e rfl) (((S.u 0 rfl).2.1).1.cell k (by omega) 1 _ rfl)), qd (fldi 0 1 rfl uT28), qd (ldk 0 sC24 rfl rfl rfl), qd (mv rfl), qd (idxi uT24 sZ54 rfl rfl k rfl (by omega) (((S.u 0 rfl).2.1).1.adr (i := k) (by omega))), qd (fldi (off t.links.a + k * 3) 2 rfl uT54), qd (ov fun S=>x_load sC3 (S.e rfl) (((S.u 0 rfl).2.1).1.cell k (by omega) 2 _ rfl)), trivial⟩ ?_
    clear S; intro a u S G hE
    obtain ⟨hl42, hu42⟩ : inI64 ((t.links.xs.getD k lnkE.dflt).a) := id ((((S.u 0 rfl).2.1).1.wf k (by omega)).1)
    obtain ⟨hl43, hu43⟩ : inI64 ((t.links.xs.getD k lnkE.dflt).b) := id ((((S.u 0 rfl).2.1).1.wf k (by omega)).2.1)
    obtain ⟨hl44, hu44⟩ : inI64 ((t.links.xs.getD k lnkE.dflt).cost) := id ((((S.u 0 rfl).2.1).1.wf k (by omega)).2.2)
    refine cl S (r14relax _ _ S.x o2_a (S.M.pick [2] (by decide)) o2_c w.heap.size o2.length o2 S.bs0 (by first | rfl | assumption | omega) ((S.row 2 rfl).dn1 (js := [2])) ((t.links.xs.getD k lnkE.dflt).a) (((S.u 0 rfl).2.1).1.wf k (by omega)).1 ((t.links.xs.getD k lnkE.dflt).b) (((S.u 0 rfl).2.1).1.wf k (by omega)).2.1 ((t.links.xs.getD k lnkE.dflt).cost) (((S.u 0 rfl).2.1).1.wf k (by omega)).2.2 (⟨⟨by omega, by omega⟩, ⟨by omega, by omega⟩, ⟨by omega, by omega⟩⟩) (by assumption)) cB97 ?_
    rintro e u ⟨rfl, tK, T0⟩; refine ⟨_, rfl, fun a s => ?_⟩
    have hls45 : (relaxL o2 ((t.links.xs.getD k lnkE.dflt).a).toNat ((t.links.xs.getD k lnkE.dflt).b).toNat (t.links.xs.getD k lnkE.dflt).cost).length = o2.length := by simp only [relax_len]
    replace S := S.k1s 2 rfl (rwO intE 3 w.heap.size o2_a o2_c (relaxL o2 ((t.links.xs.getD k lnkE.dflt).a).toNat ((t.links.xs.getD k lnkE.dflt).b).toNat (t.links.xs.getD k lnkE.dflt).cost)) rfl s T0.ch tK.ret; clear s T0 tK
    refine ent ?_
    refine dr (P := Try.prog) S 19 [] [(71, .is _), (72, .is _), (73, .is _), (74, .is _), (75, .is _), (76, .is _), (77, .is _), (78, .is _), (79, .is _), (80, .is _), (81, .is _), (82, .is _), (83, .is _), (84, .is _), (85, .is _), (86, .is _), (87, .is _), (88, .is _), (89, .is _)] [[], [], [72], [], [73, 74], [75], [76], [], [78], [], [79, 80], [81], [82], [], [84], [], [85, 86], [87], [88]] [71, 77, 83, 89] _ ⟨qd (mv rfl), qd (fldi 0 1 rfl uT28), qd (ldk 0 sC24 rfl rfl rfl), qd (mv rfl), qd (idxi uT24 sZ54 rfl rfl k rfl (by omega) (((S.u 0 rfl).2.1).1.adr (i := k) (by omega))), qd (fldi (off t.links.a + k * 3) 1 rfl uT54), qd (ov fun S=>x_load sC3 (S.e rfl) (((S.u 0 rfl).2.1).1.cell k (by omega) 1 _ rfl)), qd (fldi 0 1 rfl uT28), qd (ldk 0 sC24 rfl rfl rfl), qd (mv rfl), qd (idxi uT24 sZ54 rfl rfl k rfl (by omega) (((S.u 0 rfl).2.1).1.adr (i := k) (by omega))), qd (fldi (off t.links.a + k * 3) 0 rfl uT54), qd (ov fun S=>x_load sC3 (S.e rfl) (((S.u 0 rfl).2.1).1.cell k (by omega) 0 _ rfl)), qd (fldi 0 1 rfl uT28), qd (ldk 0 sC24 rfl rfl rfl), qd (mv rfl), qd (idxi uT24 sZ54 rfl rfl k rfl (by omega) (((S.u 0 rfl).2.1).1.adr (i := k) (by omega))), qd (fldi (off t.links.a + k * 3) 2 rfl uT54), qd (ov fun S=>x_load sC3 (S.e rfl) (((S.u 0 rfl).2.1).1.cell k (by omega) 2 _ rfl)), trivial⟩ ?_
    clear S; intro a u S G hE
    refine cl S (r14relax _ _ S.x o2_a (S.M.pick [2] (by decide)) o2_c w.heap.size o2.length (relaxL o2 ((t.links.xs.getD k lnkE.dflt).a).toNat ((t.links.xs.getD k lnkE.dflt).b).toNat (t.links.xs.getD k lnkE.dflt).cost) S.bs0 (by first | rfl | assumption | omega) ((S.row 2 rfl).dn1 (js := [2])) ((t.links.xs.getD k lnkE.dflt).b) (((S.u 0 rfl).2.1).1.wf k (by omega)).2.1 ((t.links.xs.getD k lnkE.dflt).a) (((S.u 0 rfl).2.1).1.wf k (by omega)).1 ((t.links.xs.getD k lnkE.dflt).cost) (((S.u 0 rfl).2.1).1.wf k (by omega)).2.2 (⟨⟨by omega, by omega⟩, ⟨by omega, by omega⟩, ⟨by omega, by omega⟩⟩) (by assumption)) cB97 ?_
    rintro e u ⟨rfl, tK, T0⟩; refine ⟨_, rfl, fun a s => ?_⟩
    have hls46 : (relaxL (relaxL o2 ((t.links.xs.getD k lnkE.dflt).a).toNat ((t.links.xs.getD k lnkE.dflt).b).toNat (t.links.xs.getD k lnkE.dflt).cost) ((t.links.xs.getD k lnkE.dflt).b).toNat ((t.links.xs.getD k lnkE.dflt).a).toNat (t.links.xs.getD k lnkE.dflt).cost).length = o2.length := by simp only [relax_len]
    replace S := S.k1s 2 rfl (rwO intE 3 w.heap.size o2_a o2_c (relaxL (relaxL o2 ((t.links.xs.getD k lnkE.dflt).a).toNat ((t.links.xs.getD k lnkE.dflt).b).toNat (t.links.xs.getD k lnkE.dflt).cost) ((t.links.xs.getD k lnkE.dflt).b).toNat ((t.links.xs.getD k lnkE.dflt).a).toNat (t.links.xs.getD k lnkE.dflt).cost)) rfl s T0.ch tK.ret; clear s T0 tK
    refine nn (blk_n (then_n ?_))
    refine rg S (tr (mv rfl)<|tr (addi ((k + 1 : Nat) : Int) rfl rfl (w_i64 (by omega)))<|la (av rfl)) ?_; clear S; intro a u S
    refine then_n ?_
    refine ⟨k + 1, o2_a, o2_c, relaxL (relaxL o2 ((t.links.xs.getD k lnkE.dflt).a).toNat ((t.links.xs.getD k lnkE.dflt).b).toNat (t.links.xs.getD k lnkE.dflt).cost) ((t.links.xs.getD k lnkE.dflt).b).toNat ((t.links.xs.getD k lnkE.dflt).a).toNat (t.links.xs.getD k lnkE.dflt).cost, S.re ⟨rfl, rfl, rfl, (by first | rfl | (simp only [List.length_set, relax_len]; rfl)), rfl, rfl, rfl, rfl, rfl, rfl, rfl, trivial⟩ rfl rfl, ?_, ?_⟩
    ·have hiu := usable_iff HV (i := k) (by omega)
     first
     | exact ⟨by omega, hJ.skip fun e => hc14 (hiu.2 e)⟩
     | exact ⟨by omega, hJ.link HV.1.1 (by omega) (hiu.1 hc14) (a := (t.links.xs.getD k lnkE.dflt).a.toNat) (b := (t.links.xs.getD k lnkE.dflt).b.toNat) (by show (t.links.xs.getD k lnkE.dflt).a = _; omega) (by show (t.links.xs.getD k lnkE.dflt).b = _; omega)⟩
    omega
   intro hc15
   refine wp_skip (blk_n (then_n ?_))
   refine rg S (tr (mv rfl)<|tr (addi ((k + 1 : Nat) : Int) rfl rfl (w_i64 (by omega)))<|la (av rfl)) ?_; clear S; intro a u S
   refine then_n ?_
   refine ⟨k + 1, o2_a, o2_c, o2, S.re (subM rfl) rfl rfl, ?_, ?_⟩
   ·have hiu := usable_iff HV (i := k) (by omega)
    first
    | exact ⟨by omega, hJ.skip fun e => hc15 (hiu.2 e)⟩
    | exact ⟨by omega, hJ.link HV.1.1 (by omega) (hiu.1 hc15) (a := (t.links.xs.getD k lnkE.dflt).a.toNat) (b := (t.links.xs.getD k lnkE.dflt).b.toNat) (by show (t.links.xs.getD k lnkE.dflt).a = _; omega) (by show (t.links.xs.getD k lnkE.dflt).b = _; omega)⟩
   omega
  intro hc16
  refine wp_exit (then_e (then_e (blk_e (blk_n (then_n ?_)))))
  refine rg S (tr (mv rfl)<|tr (addi ((r + 1 : Nat) : Int) rfl rfl (w_i64 (by omega)))<|la (av rfl)) ?_; clear S; intro a u S
  refine then_n ?_
  refine ⟨r + 1, o2_a, o2_c, o2, S.re (subM rfl) rfl rfl, ?_, ?_⟩
  ·exact ⟨by omega, BfI.next (by rw [show t.links.xs.length = k from by omega]; exact hJ) HV.1.1⟩
  omega
 intro hc17
 refine wp_exit (then_e (then_e (blk_e (then_n ?_))))
 refine rs S (tr (mv rfl)<|la (av rfl)) ?_; clear S; intro a u S
 refine wp_ret ?_
 replace S := S.fz 2 rfl
 refine ret1 rfl S.s rfl ?_
 replace S := S.pk []
 have hx51 : distV t f dz = o1 := by
  unfold distV; rw [if_pos hD]; exact BfI.all (by rw [show t.devs.xs.length = r from by omega]; exact hI) HV.1.1
 rw [hx51]
 refine ⟨o1_a, o1_c, rfl, (S.u 2 rfl), S.m.c⟩
end Go.Proofs.Ytfanmniaolncbaa.V
