/- components: the reference -/
import Derived.Test.YtfanmniaolncbaaW6
import Derived.Test.YtfanmniaolncbaaGrpE
namespace Go.Proofs.Ytfanmniaolncbaa.V
open Go.RowKit Go.Proofs.Ytfanmniaolncbaa
set_option linter.unusedVariables false
set_option linter.unusedSimpArgs false
set_option maxHeartbeats 2000000 in
set_option maxRecDepth 20000 in
theorem rComps (w : World) (F : Nat → Prop) (hF : Old F w) (M : MS [] w) (t : Topo) (t_w : topoE.wf (Fr F []) w.heap t) (f : Fail) (f_w : failE.wf (Fr F []) w.heap f) :
 Calls Try.prog 61 #[.agg (topoE.cells t).toArray, .agg (failE.cells f).toArray] w fun e w' => ∃ (ra : Option Addr) (rc : Nat), e = .returned (.slice ra ((compsV t f).length) rc) ∧ (slE intE).wf (Fr F []) w'.heap (Sl.mk ra rc (compsV t f)) ∧ Tr [] w [] w' := by
 have : t.devs.xs.length ≤ 9223372036854775807 := (t_w.1).1.len
 have : t.links.xs.length ≤ 9223372036854775807 := (t_w.2.1).1.len
 have : t.edges.xs.length ≤ 9223372036854775807 := (t_w.2.2.1).1.len
 have : t.pools.xs.length ≤ 9223372036854775807 := (t_w.2.2.2.1).1.len
 obtain ⟨_, _⟩ : inI64 t.tol := t_w.2.2.2.2
 have : f.links.xs.length ≤ 9223372036854775807 := (f_w.1).1.len
 have : f.devs.xs.length ≤ 9223372036854775807 := (f_w.2).1.len
 refine go Try.func61 rfl 83 rfl [wfF topoE t, wfF failE f] [] hF M ⟨t_w, f_w, trivial⟩ trivial ?_
 intro a S
 refine rs0 ?_
 refine nbp S (x_box _ (S.e rfl) rfl) ?_; clear S; intro a u b2 S
 refine nbp S (x_box _ (S.e rfl) rfl) ?_; clear S; intro a u b3 S
 refine ens S (la (av rfl)) ?_; clear S; intro a u S
 refine wp_seq ?_
 refine rs S (tr (ldkw 0 rfl rfl wD28)<|tr (ldkw 1 rfl rfl wD41)<|tr (oc (fun S=>rValidF _ _ S.x (.nil _) t (dn0 (S.u 0 rfl)) f (dn0 (S.u 1 rfl))) cB59)<|la (noti rfl)) ?_; clear S; intro a u S
 refine cd S rfl ?_ ?_
 ·intro hc0
  refine rs S (la (av rfl)) ?_; clear S; intro a u S
  refine wp_ret (then_r ?_)
  refine ret1 rfl S.s rfl ?_
  replace S := S.pk []
  have hx4 : compsV t f = [] := by
   unfold compsV; exact if_neg hc0
  rw [hx4]
  refine ⟨none, 0, rfl, sl_nil, S.m.c⟩
 intro hc1
 have HV := Classical.not_not.1 hc1
 have hB : topB t := HV.1.1.1
 unfold topB at hB
 refine wp_skip (then_n ?_)
 refine rs S (la (av rfl)) ?_; clear S; intro a u S
 refine wp_seq ?_
 refine rs S (la (av rfl)) ?_; clear S; intro a u S
 refine wp_block ?_
 replace S := S.nr intE 3
 refine lp4 (fun (k : Nat) (out_a : Option Addr) (out_c : Nat) (out : List Int) => [(2, pT b2 0), (3, pT b3 0), (4, .slice none 0 0), (6, iN k), (5, .slice out_a out.length out_c)]) (fun (k : Nat) (out_a : Option Addr) (out_c : Nat) (out : List Int) => [blO b2 (topoE.cells t) 28, blO b3 (failE.cells f) 41, rwO intE 3 w.heap.size out_a out_c out]) (fun (k : Nat) (out_a : Option Addr) (out_c : Nat) (out : List Int) => k ≤ t.devs.xs.length ∧ out.length = k ∧ ∀ d, d < k → out.getD d 0 = if ((d : Nat) : Int) ∈ f.devs.xs then -1 else ((d : Nat) : Int)) (fun (k : Nat) (out_a : Option Addr) (out_c : Nat) (out : List Int) => t.devs.xs.length - k) S 0 none 0 ([]) (subM rfl) rfl ?_ ?_
 ·exact ⟨Nat.zero_le _, rfl, fun d h => by omega⟩
 clear S; intro k out_a out_c out a u S hR
 have out_len := (S.row 2 rfl).len_le; simp only [maxLen] at out_len
 obtain ⟨hk, hol, hoe⟩ := hR
 refine wp_seq ?_
 have hn8 : t.devs.xs.length ≤ 9223372036854775807 := ((S.u 0 rfl).1).1.len
 refine rs S (tr (mv rfl)<|tr (fldi 0 0 rfl uT28)<|tr (ldk 0 sC23 rfl rfl rfl)<|tr (leni uT23 rfl)<|la (lssi rfl rfl)) ?_; clear S; intro a u S
 refine cd S rfl ?_ ?_
 ·intro hc2
  refine wp_skip (then_n (wp_seq (wp_block ?_)))
  refine rs S (tr (ldkw 0 rfl rfl wD28)<|tr (ldkw 1 rfl rfl wD41)<|tr (mv rfl)<|la (oc (fun S=>rAlive _ _ S.x (.nil _) t (dn0 (S.u 0 rfl)) f (dn0 (S.u 1 rfl)) ((k : Nat) : Int) ⟨by omega, by omega⟩) cB60)) ?_; clear S; intro a u S
  refine cd S rfl ?_ ?_
  ·intro hc3
   refine r0 ?_
   refine sp S (tr (mv rfl)<|la (mv rfl)) ?_; clear S; intro a u S
   refine nbs intE S [((k : Nat) : Int)] (x_bs S [(0, iN k)] uT22 iZ3) (fun x hx => by simp only [List.mem_cons, List.not_mem_nil, or_false] at hx; rw [hx]; exact (show intE.wf _ _ ((k : Nat) : Int) from (show inI64 ((k : Nat) : Int) from ⟨by omega, by omega⟩))) ?_; clear S; intro a u b28 S
   refine ap (E := intE) (ys := [((k : Nat) : Int)]) S 2 rfl uT22 iZ3 rfl rfl (show LAt intE _ _ (some ⟨b28, 0, none⟩) ([((k : Nat) : Int)]) from ((S.u 2 rfl)).1) ((S.u 2 rfl)).2.2 (LAt.mem (show LAt intE _ _ (some ⟨b28, 0, none⟩) ([((k : Nat) : Int)]) from ((S.u 2 rfl)).1)) ⟨by unfold maxLen; (try simp only [List.length_cons, List.length_nil, List.length_append, List.length_map]); omega, by (try simp only [List.length_cons, List.length_nil, List.length_append, List.length_map]); omega⟩ ?_; clear S; intro a u ad29 cap29 S
   refine en S (la (av rfl)) ?_; clear S; intro a u S
   refine blk_n (then_n ?_)
   refine rg S (tr (mv rfl)<|tr (addi ((k + 1 : Nat) : Int) rfl rfl (w_i64 (by omega)))<|la (av rfl)) ?_; clear S; intro a u S
   refine then_n ?_
   refine ⟨k + 1, ad29, cap29, (out ++ [((k : Nat) : Int)]), S.re (subM rfl) rfl rfl, ?_, ?_⟩
   ·refine ⟨by omega, by simp; omega, fun d hd => ?_⟩
    rcases Nat.lt_succ_iff_lt_or_eq.1 hd with h | h
    ·rw [List.getD_eq_getElem?_getD, List.getElem?_append_left (by omega), ← List.getD_eq_getElem?_getD]; exact hoe d h
    subst h
    have ha := alive_iff HV (i := d) (by omega)
    rw [List.getD_eq_getElem?_getD, List.getElem?_append_right (by omega), show d - out.length = 0 from by omega]
    first | rw [if_neg (ha.1 hc3)] | rw [if_pos (Classical.not_not.1 (fun e => hc3 (ha.2 e)))]
    rfl
   omega
  intro hc4
  refine r0 ?_
  refine sp S (la (mv rfl)) ?_; clear S; intro a u S
  refine nbs intE S [(-1)] (x_bs S [(0, iI (-1))] uT22 iZ3) (fun x hx => by simp only [List.mem_cons, List.not_mem_nil, or_false] at hx; rw [hx]; exact (show intE.wf _ _ (-1) from (show inI64 (-1) from ⟨by omega, by omega⟩))) ?_; clear S; intro a u b31 S
  refine ap (E := intE) (ys := [(-1)]) S 2 rfl uT22 iZ3 rfl rfl (show LAt intE _ _ (some ⟨b31, 0, none⟩) ([(-1)]) from ((S.u 2 rfl)).1) ((S.u 2 rfl)).2.2 (LAt.mem (show LAt intE _ _ (some ⟨b31, 0, none⟩) ([(-1)]) from ((S.u 2 rfl)).1)) ⟨by unfold maxLen; (try simp only [List.length_cons, List.length_nil, List.length_append, List.length_map]); omega, by (try simp only [List.length_cons, List.length_nil, List.length_append, List.length_map]); omega⟩ ?_; clear S; intro a u ad32 cap32 S
  refine en S (la (av rfl)) ?_; clear S; intro a u S
  refine blk_n (then_n ?_)
  refine rg S (tr (mv rfl)<|tr (addi ((k + 1 : Nat) : Int) rfl rfl (w_i64 (by omega)))<|la (av rfl)) ?_; clear S; intro a u S
  refine then_n ?_
  refine ⟨k + 1, ad32, cap32, (out ++ [(-1)]), S.re (subM rfl) rfl rfl, ?_, ?_⟩
  ·refine ⟨by omega, by simp; omega, fun d hd => ?_⟩
   rcases Nat.lt_succ_iff_lt_or_eq.1 hd with h | h
   ·rw [List.getD_eq_getElem?_getD, List.getElem?_append_left (by omega), ← List.getD_eq_getElem?_getD]; exact hoe d h
   subst h
   have ha := alive_iff HV (i := d) (by omega)
   rw [List.getD_eq_getElem?_getD, List.getElem?_append_right (by omega), show d - out.length = 0 from by omega]
   first | rw [if_neg (ha.1 hc4)] | rw [if_pos (Classical.not_not.1 (fun e => hc4 (ha.2 e)))]
   rfl
  omega
 intro hc5
 refine wp_exit (then_e (then_e (blk_e (then_n (wp_seq ?_)))))
 refine rs S (la (av rfl)) ?_; clear S; intro a u S
 refine wp_block ?_
 refine lp4 (fun (r : Nat) (o1_a : Option Addr) (o1_c : Nat) (o1 : List Int) => [(2, pT b2 0), (3, pT b3 0), (4, .slice none 0 0), (5, .slice o1_a o1.length o1_c), (7, iN r)]) (fun (r : Nat) (o1_a : Option Addr) (o1_c : Nat) (o1 : List Int) => [blO b2 (topoE.cells t) 28, blO b3 (failE.cells f) 41, rwO intE 3 w.heap.size o1_a o1_c o1]) (fun (r : Nat) (o1_a : Option Addr) (o1_c : Nat) (o1 : List Int) => r ≤ t.devs.xs.length ∧ LabI t f o1 r 0) (fun (r : Nat) (o1_a : Option Addr) (o1_c : Nat) (o1 : List Int) => t.devs.xs.length - r) S 0 out_a out_c out (subM rfl) rfl ?_ ?_
 ·exact ⟨Nat.zero_le _, LabI.start (by omega) (fun d h1 h2 => (hoe d (by omega)).trans (if_pos h2)) (fun d h1 h2 => (hoe d (by omega)).trans (if_neg h2))⟩
 clear S; intro r o1_a o1_c o1 a u S hR
 have o1_len := (S.row 2 rfl).len_le; simp only [maxLen] at o1_len
 obtain ⟨hr, hI⟩ := hR
 refine wp_seq ?_
 refine rs S (tr (mv rfl)<|tr (fldi 0 0 rfl uT28)<|tr (ldk 0 sC23 rfl rfl rfl)<|tr (leni uT23 rfl)<|la (lssi rfl rfl)) ?_; clear S; intro a u S
 refine cd S rfl ?_ ?_
 ·intro hc6
  refine wp_skip (then_n (wp_seq (wp_block ?_)))
  refine rs S (la (av rfl)) ?_; clear S; intro a u S
  refine wp_block ?_
  refine lp4 (fun (k : Nat) (o2_a : Option Addr) (o2_c : Nat) (o2 : List Int) => [(2, pT b2 0), (3, pT b3 0), (4, .slice none 0 0), (5, .slice o2_a o2.length o2_c), (7, iN r), (33, iN r), (34, pT b2 (0 + 0)), (35, sV t.devs), (36, iN t.devs.xs.length), (37, bD (((r : Nat) : Int) < ((t.devs.xs.length : Nat) : Int))), (8, iN k)]) (fun (k : Nat) (o2_a : Option Addr) (o2_c : Nat) (o2 : List Int) => [blO b2 (topoE.cells t) 28, blO b3 (failE.cells f) 41, rwO intE 3 w.heap.size o2_a o2_c o2]) (fun (k : Nat) (o2_a : Option Addr) (o2_c : Nat) (o2 : List Int) => k ≤ t.links.xs.length ∧ LabI t f o2 r k) (fun (k : Nat) (o2_a : Option Addr) (o2_c : Nat) (o2 : List Int) => t.links.xs.length - k) S 0 o1_a o1_c o1 (subM rfl) rfl ?_ ?_
  ·exact ⟨Nat.zero_le _, hI⟩
  clear S; intro k o2_a o2_c o2 a u S hR
  have o2_len := (S.row 2 rfl).len_le; simp only [maxLen] at o2_len
  obtain ⟨hk, hJ⟩ := hR
  have hol2 := hJ.len
  refine wp_seq ?_
  have hn18 : t.links.xs.length ≤ 9223372036854775807 := ((S.u 0 rfl).2.1).1.len
  refine rs S (tr (mv rfl)<|tr (fldi 0 1 rfl uT28)<|tr (ldk 0 sC24 rfl rfl rfl)<|tr (leni uT24 rfl)<|la (lssi rfl rfl)) ?_; clear S; intro a u S
  refine cd S rfl ?_ ?_
  ·intro hc7
   have hl := topV_link HV.1.1 (i := k) (by omega)
   unfold lnkV at hl
   refine wp_skip (then_n (wp_seq (wp_block ?_)))
   refine rs S (tr (ldkw 0 rfl rfl wD28)<|tr (ldkw 1 rfl rfl wD41)<|tr (mv rfl)<|la (oc (fun S=>rUsable _ _ S.x (.nil _) t (dn0 (S.u 0 rfl)) f (dn0 (S.u 1 rfl)) ((k : Nat) : Int) ⟨by omega, by omega⟩) cB40)) ?_; clear S; intro a u S
   refine cd S rfl ?_ ?_
   ·intro hc8
    refine wp_seq ?_
    obtain ⟨hl20, hu20⟩ : inI64 ((t.links.xs.getD k lnkE.dflt).a) := id ((((S.u 0 rfl).2.1).1.wf k (by omega)).1)
    obtain ⟨hl21, hu21⟩ : inI64 ((t.links.xs.getD k lnkE.dflt).b) := id ((((S.u 0 rfl).2.1).1.wf k (by omega)).2.1)
    refine dr (P := Try.prog) S 14 [] [(51, .is _), (52, .is _), (53, .is _), (54, .is _), (55, .is _), (56, .is _), (57, .is _), (58, .is _), (59, .is _), (60, .is _), (61, .is _), (62, .is _), (9, .is _), (10, .is _)] [[], [51], [], [52, 53], [54], [55], [], [57], [], [58, 59], [60], [61], [56], [62]] [9, 10] _ ⟨qd (fldi 0 1 rfl uT28), qd (ldk 0 sC24 rfl rfl rfl), qd (mv rfl), qd (idxi uT24 sZ54 rfl rfl k rfl (by omega) (((S.u 0 rfl).2.1).1.adr (i := k) (by omega))), qd (fldi (off t.links.a + k * 3) 0 rfl uT54), qd (ov fun S=>x_load sC3 (S.e rfl) (((S.u 0 rfl).2.1).1.cell k (by omega) 0 _ rfl)), qd (fldi 0 1 rfl uT28), qd (ldk 0 sC24 rfl rfl rfl), qd (mv rfl), qd (idxi uT24 sZ54 rfl rfl k rfl (by omega) (((S.u 0 rfl).2.1).1.adr (i := k) (by omega))), qd (fldi (off t.links.a + k * 3) 1 rfl uT54), qd (ov fun S=>x_load sC3 (S.e rfl) (((S.u 0 rfl).2.1).1.cell k (by omega) 1 _ rfl)), qd (av rfl), qd (av rfl), trivial⟩ ?_
    clear S; intro a u S G hE
    obtain ⟨hl22, hu22⟩ : inI64 ((t.links.xs.getD k lnkE.dflt).a) := id ((((S.u 0 rfl).2.1).1.wf k (by omega)).1)
    obtain ⟨hl23, hu23⟩ : inI64 ((t.links.xs.getD k lnkE.dflt).b) := id ((((S.u 0 rfl).2.1).1.wf k (by omega)).2.1)
    refine ent (wp_seq ?_)
    obtain ⟨hl24, hu24⟩ : inI64 (o2.getD (((t.links.xs.getD k lnkE.dflt).a).toNat) intE.dflt) := id ((S.row 2 rfl).wfi ((t.links.xs.getD k lnkE.dflt).a).toNat (by omega))
    obtain ⟨hl25, hu25⟩ : inI64 (o2.getD (((t.links.xs.getD k lnkE.dflt).b).toNat) intE.dflt) := id ((S.row 2 rfl).wfi ((t.links.xs.getD k lnkE.dflt).b).toNat (by omega))
    refine dr (P := Try.prog) S 12 [] [(63, .is _), (64, .is _), (65, .is _), (66, .is _), (67, .is _), (68, .is _), (69, .is _), (70, .is _), (71, .is _), (72, .is _), (73, .is _), (74, .is _)] [[], [], [], [], [65, 66], [67], [], [], [69, 70], [71], [68, 72], [63, 64]] [73, 74] _ ⟨qd (mv rfl), qd (mv rfl), qd (mv rfl), qd (mv rfl), qd (ov fun S=>x_idx uT22 sZ3 (S.e rfl) (S.e rfl) ((t.links.xs.getD k lnkE.dflt).a).toNat (by omega) (by omega) (row_off (S.row 2 rfl) (m := ((t.links.xs.getD k lnkE.dflt).a).toNat) (by omega))), qd (ov fun S=>x_load sC3 (S.e rfl) (((S.row 2 rfl).latz (by first | decide | exact Nat.one_pos)).cell ((t.links.xs.getD k lnkE.dflt).a).toNat (by omega) 0 _ rfl)), qd (mv rfl), qd (mv rfl), qd (ov fun S=>x_idx uT22 sZ3 (S.e rfl) (S.e rfl) ((t.links.xs.getD k lnkE.dflt).b).toNat (by omega) (by omega) (row_off (S.row 2 rfl) (m := ((t.links.xs.getD k lnkE.dflt).b).toNat) (by omega))), qd (ov fun S=>x_load sC3 (S.e rfl) (((S.row 2 rfl).latz (by first | decide | exact Nat.one_pos)).cell ((t.links.xs.getD k lnkE.dflt).b).toNat (by omega) 0 _ rfl)), qd (ov fun S=>x_min (S.e rfl) (S.e rfl)), qd (ov fun S=>x_idx uT22 sZ3 (S.e rfl) (S.e rfl) ((t.links.xs.getD k lnkE.dflt).a).toNat (by omega) (by omega) (row_off (S.row 2 rfl) (m := ((t.links.xs.getD k lnkE.dflt).a).toNat) (by omega))), trivial⟩ ?_
    clear S; intro a u S G hE
    obtain ⟨hl26, hu26⟩ : inI64 (o2.getD (((t.links.xs.getD k lnkE.dflt).a).toNat) intE.dflt) := id ((S.row 2 rfl).wfi ((t.links.xs.getD k lnkE.dflt).a).toNat (by omega))
    obtain ⟨hl27, hu27⟩ : inI64 (o2.getD (((t.links.xs.getD k lnkE.dflt).b).toNat) intE.dflt) := id ((S.row 2 rfl).wfi ((t.links.xs.getD k lnkE.dflt).b).toNat (by omega))
    refine sp S (la (str (E := intE) 2 (by kernel_rfl) rfl rfl rfl ((t.links.xs.getD k lnkE.dflt).a).toNat 0 (by omega) (by first | decide | exact Nat.one_pos) (if (o2.getD (((t.links.xs.getD k lnkE.dflt).b).toNat) intE.dflt) < (o2.getD (((t.links.xs.getD k lnkE.dflt).a).toNat) intE.dflt) then (o2.getD (((t.links.xs.getD k lnkE.dflt).b).toNat) intE.dflt) else (o2.getD (((t.links.xs.getD k lnkE.dflt).a).toNat) intE.dflt)) (fun S=>(show inI64 (if (o2.getD (((t.links.xs.getD k lnkE.dflt).b).toNat) intE.dflt) < (o2.getD (((t.links.xs.getD k lnkE.dflt).a).toNat) intE.dflt) then (o2.getD (((t.links.xs.getD k lnkE.dflt).b).toNat) intE.dflt) else (o2.getD (((t.links.xs.getD k lnkE.dflt).a).toNat) intE.dflt)) from ⟨by omega, by omega⟩)) rfl (by first | rfl | (show _ = _ * 1 + 0; omega) | (simp [intE]; omega) | simp [intE]) rfl)) ?_; clear S; intro a u S
    have hls28 : (o2.set ((t.links.xs.getD k lnkE.dflt).a).toNat (if (o2.getD (((t.links.xs.getD k lnkE.dflt).b).toNat) intE.dflt) < (o2.getD (((t.links.xs.getD k lnkE.dflt).a).toNat) intE.dflt) then (o2.getD (((t.links.xs.getD k lnkE.dflt).b).toNat) intE.dflt) else (o2.getD (((t.links.xs.getD k lnkE.dflt).a).toNat) intE.dflt))).length = o2.length := by simp
    refine ent (r0 ?_)
    obtain ⟨hl30, hu30⟩ : inI64 ((o2.set ((t.links.xs.getD k lnkE.dflt).a).toNat (if (o2.getD (((t.links.xs.getD k lnkE.dflt).b).toNat) intE.dflt) < (o2.getD (((t.links.xs.getD k lnkE.dflt).a).toNat) intE.dflt) then (o2.getD (((t.links.xs.getD k lnkE.dflt).b).toNat) intE.dflt) else (o2.getD (((t.links.xs.getD k lnkE.dflt).a).toNat) intE.dflt))).getD (((t.links.xs.getD k lnkE.dflt).a).toNat) intE.dflt) := id ((S.row 2 rfl).wfi ((t.links.xs.getD k lnkE.dflt).a).toNat (by omega))
    refine sp S (tr (mv rfl)<|tr (mv rfl)<|tr (mv rfl)<|tr (mv rfl)<|tr (ov fun S=>x_idx uT22 sZ3 (S.e rfl) (S.e rfl) ((t.links.xs.getD k lnkE.dflt).a).toNat (by omega) (by omega) (row_off (S.row 2 rfl) (m := ((t.links.xs.getD k lnkE.dflt).a).toNat) (by omega)))<|tr (ov fun S=>x_load sC3 (S.e rfl) (((S.row 2 rfl).latz (by first | decide | exact Nat.one_pos)).cell ((t.links.xs.getD k lnkE.dflt).a).toNat (by omega) 0 _ rfl))<|la (ov fun S=>x_idx uT22 sZ3 (S.e rfl) (S.e rfl) ((t.links.xs.getD k lnkE.dflt).b).toNat (by omega) (by omega) (row_off (S.row 2 rfl) (m := ((t.links.xs.getD k lnkE.dflt).b).toNat) (by omega)))) ?_; clear S; intro a u S
    refine sp S (la (str (E := intE) 2 (by kernel_rfl) rfl rfl rfl ((t.links.xs.getD k lnkE.dflt).b).toNat 0 (by omega) (by first | decide | exact Nat.one_pos) ((o2.set ((t.links.xs.getD k lnkE.dflt).a).toNat (if (o2.getD (((t.links.xs.getD k lnkE.dflt).b).toNat) intE.dflt) < (o2.getD (((t.links.xs.getD k lnkE.dflt).a).toNat) intE.dflt) then (o2.getD (((t.links.xs.getD k lnkE.dflt).b).toNat) intE.dflt) else (o2.getD (((t.links.xs.getD k lnkE.dflt).a).toNat) intE.dflt))).getD (((t.links.xs.getD k lnkE.dflt).a).toNat) intE.dflt) (fun S=>((S.row 2 rfl).wfi ((t.links.xs.getD k lnkE.dflt).a).toNat (by omega))) rfl (by first | rfl | (show _ = _ * 1 + 0; omega) | (simp [intE]; omega) | simp [intE]) rfl)) ?_; clear S; intro a u S
    have hls31 : ((o2.set ((t.links.xs.getD k lnkE.dflt).a).toNat (if (o2.getD (((t.links.xs.getD k lnkE.dflt).b).toNat) intE.dflt) < (o2.getD (((t.links.xs.getD k lnkE.dflt).a).toNat) intE.dflt) then (o2.getD (((t.links.xs.getD k lnkE.dflt).b).toNat) intE.dflt) else (o2.getD (((t.links.xs.getD k lnkE.dflt).a).toNat) intE.dflt))).set ((t.links.xs.getD k lnkE.dflt).b).toNat ((o2.set ((t.links.xs.getD k lnkE.dflt).a).toNat (if (o2.getD (((t.links.xs.getD k lnkE.dflt).b).toNat) intE.dflt) < (o2.getD (((t.links.xs.getD k lnkE.dflt).a).toNat) intE.dflt) then (o2.getD (((t.links.xs.getD k lnkE.dflt).b).toNat) intE.dflt) else (o2.getD (((t.links.xs.getD k lnkE.dflt).a).toNat) intE.dflt))).getD (((t.links.xs.getD k lnkE.dflt).a).toNat) intE.dflt)).length = o2.length := by simp
    refine nn (blk_n (then_n ?_))
    refine rg S (tr (mv rfl)<|tr (addi ((k + 1 : Nat) : Int) rfl rfl (w_i64 (by omega)))<|la (av rfl)) ?_; clear S; intro a u S
    refine then_n ?_
    refine ⟨k + 1, o2_a, o2_c, ((o2.set ((t.links.xs.getD k lnkE.dflt).a).toNat (if (o2.getD (((t.links.xs.getD k lnkE.dflt).b).toNat) intE.dflt) < (o2.getD (((t.links.xs.getD k lnkE.dflt).a).toNat) intE.dflt) then (o2.getD (((t.links.xs.getD k lnkE.dflt).b).toNat) intE.dflt) else (o2.getD (((t.links.xs.getD k lnkE.dflt).a).toNat) intE.dflt))).set ((t.links.xs.getD k lnkE.dflt).b).toNat ((o2.set ((t.links.xs.getD k lnkE.dflt).a).toNat (if (o2.getD (((t.links.xs.getD k lnkE.dflt).b).toNat) intE.dflt) < (o2.getD (((t.links.xs.getD k lnkE.dflt).a).toNat) intE.dflt) then (o2.getD (((t.links.xs.getD k lnkE.dflt).b).toNat) intE.dflt) else (o2.getD (((t.links.xs.getD k lnkE.dflt).a).toNat) intE.dflt))).getD (((t.links.xs.getD k lnkE.dflt).a).toNat) intE.dflt)), S.re ⟨rfl, rfl, rfl, (by first | rfl | (simp only [List.length_set]; rfl)), rfl, rfl, rfl, rfl, rfl, rfl, rfl, trivial⟩ rfl rfl, ?_, ?_⟩
    ·have hiu := usable_iff HV (i := k) (by omega)
     first
     | exact ⟨by omega, hJ.skip fun e => hc8 (hiu.2 e)⟩
     | (refine ⟨by omega, ?_⟩
        have e1 : ∀ v, (o2.set (t.links.xs.getD k lnkE.dflt).a.toNat v).getD (t.links.xs.getD k lnkE.dflt).a.toNat 0 = v := fun v => by rw [List.getD_eq_getElem?_getD, List.getElem?_set_self (by omega)]; rfl
        simp only [show intE.dflt = 0 from rfl, e1]
        exact hJ.link HV.1.1 (by omega) (hiu.1 hc8) (a := (t.links.xs.getD k lnkE.dflt).a.toNat) (b := (t.links.xs.getD k lnkE.dflt).b.toNat) (by show (t.links.xs.getD k lnkE.dflt).a = _; omega) (by show (t.links.xs.getD k lnkE.dflt).b = _; omega) rfl)
    omega
   intro hc9
   refine wp_skip (blk_n (then_n ?_))
   refine rg S (tr (mv rfl)<|tr (addi ((k + 1 : Nat) : Int) rfl rfl (w_i64 (by omega)))<|la (av rfl)) ?_; clear S; intro a u S
   refine then_n ?_
   refine ⟨k + 1, o2_a, o2_c, o2, S.re (subM rfl) rfl rfl, ?_, ?_⟩
   ·have hiu := usable_iff HV (i := k) (by omega)
    first
    | exact ⟨by omega, hJ.skip fun e => hc9 (hiu.2 e)⟩
    | (refine ⟨by omega, ?_⟩
       have e1 : ∀ v, (o2.set (t.links.xs.getD k lnkE.dflt).a.toNat v).getD (t.links.xs.getD k lnkE.dflt).a.toNat 0 = v := fun v => by rw [List.getD_eq_getElem?_getD, List.getElem?_set_self (by omega)]; rfl
       simp only [show intE.dflt = 0 from rfl, e1]
       exact hJ.link HV.1.1 (by omega) (hiu.1 hc9) (a := (t.links.xs.getD k lnkE.dflt).a.toNat) (b := (t.links.xs.getD k lnkE.dflt).b.toNat) (by show (t.links.xs.getD k lnkE.dflt).a = _; omega) (by show (t.links.xs.getD k lnkE.dflt).b = _; omega) rfl)
   omega
  intro hc10
  refine wp_exit (then_e (then_e (blk_e (blk_n (then_n ?_)))))
  refine rg S (tr (mv rfl)<|tr (addi ((r + 1 : Nat) : Int) rfl rfl (w_i64 (by omega)))<|la (av rfl)) ?_; clear S; intro a u S
  refine then_n ?_
  refine ⟨r + 1, o2_a, o2_c, o2, S.re (subM rfl) rfl rfl, ?_, ?_⟩
  ·exact ⟨by omega, LabI.next (by rw [show t.links.xs.length = k from by omega]; exact hJ) HV.1.1⟩
  omega
 intro hc11
 refine wp_exit (then_e (then_e (blk_e (then_n ?_))))
 refine rs S (tr (mv rfl)<|la (av rfl)) ?_; clear S; intro a u S
 refine wp_ret ?_
 replace S := S.fz 2 rfl
 refine ret1 rfl S.s rfl ?_
 replace S := S.pk []
 have hx36 : compsV t f = o1 := by
  unfold compsV; rw [if_pos HV]; exact LabI.all (by rw [show t.devs.xs.length = r from by omega]; exact hI) HV.1.1
 rw [hx36]
 refine ⟨o1_a, o1_c, rfl, (S.u 2 rfl), S.m.c⟩
end Go.Proofs.Ytfanmniaolncbaa.V
