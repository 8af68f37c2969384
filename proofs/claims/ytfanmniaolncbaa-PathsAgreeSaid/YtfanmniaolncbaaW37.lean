/- paths: next links and paths -/
import Derived.Test.YtfanmniaolncbaaW36
namespace Go.Proofs.Ytfanmniaolncbaa.V
open Go.RowKit Go.Proofs.Ytfanmniaolncbaa
set_option linter.unusedVariables false
set_option linter.unusedSimpArgs false
set_option maxHeartbeats 2000000 in
set_option maxRecDepth 20000 in
theorem pNext (w : World) (F : Nat → Prop) (hF : Old F w) (M : MS [] w) (t : Topo) (t_w : topoE.wf (Fr F []) w.heap t) (f : Fail) (f_w : failE.wf (Fr F []) w.heap f) (da : Int) (da_h : inI64 da) (dz : Int) (dz_h : inI64 dz) :
 Calls Try.prog 43 #[.agg (topoE.cells t).toArray, .agg (failE.cells f).toArray, iI da, iI dz] w fun e w' => e = .returned (iI (nextV t f da dz)) ∧ Tr [] w [] w' := by
 have : t.devs.xs.length ≤ 9223372036854775807 := (t_w.1).1.len
 have : t.links.xs.length ≤ 9223372036854775807 := (t_w.2.1).1.len
 have : t.edges.xs.length ≤ 9223372036854775807 := (t_w.2.2.1).1.len
 have : t.pools.xs.length ≤ 9223372036854775807 := (t_w.2.2.2.1).1.len
 obtain ⟨_, _⟩ : inI64 t.tol := t_w.2.2.2.2
 have : f.links.xs.length ≤ 9223372036854775807 := (f_w.1).1.len
 have : f.devs.xs.length ≤ 9223372036854775807 := (f_w.2).1.len
 obtain ⟨da_hl, da_hu⟩ : inI64 da := id da_h
 obtain ⟨dz_hl, dz_hu⟩ : inI64 dz := id dz_h
 refine go Try.func43 rfl 30 rfl [wfF topoE t, wfF failE f] [] hF M ⟨t_w, f_w, trivial⟩ trivial ?_
 intro a S
 refine rs0 ?_
 refine nbp S (x_box _ (S.e rfl) rfl) ?_; clear S; intro a u b4 S
 refine nbp S (x_box _ (S.e rfl) rfl) ?_; clear S; intro a u b5 S
 refine ens S (la (av rfl)) ?_; clear S; intro a u S
 refine wp_seq (rs0 ?_)
 refine sp S (tr (ldkw 0 rfl rfl wD28)<|tr (ldkw 1 rfl rfl wD41)<|tr (mv rfl)<|la (mv rfl)) ?_; clear S; intro a u S
 refine nbs intE S [da, dz] (x_bs S [(0, iI da), (1, iI dz)] uT22 iZ3) (fun x hx => by simp only [List.mem_cons, List.not_mem_nil, or_false] at hx; rcases hx with hx | hx <;> rw [hx] <;> first | exact (show intE.wf _ _ da from da_h) | exact (show intE.wf _ _ dz from dz_h)) ?_; clear S; intro a u b15 S
 refine ens S (tr (oc (fun S=>pKnown _ _ S.x (.nil _) t (dn0 (S.u 0 rfl)) f (dn0 (S.u 1 rfl)) (Sl.mk (some ⟨b15, 0, none⟩) 2 ([da, dz])) (dn0 (S.u 2 rfl))) cB68)<|la (noti rfl)) ?_; clear S; intro a u S
 refine cd S rfl ?_ ?_
 ·intro hc0
  refine rs S (la (av rfl)) ?_; clear S; intro a u S
  refine wp_ret (then_r ?_)
  refine ret1 rfl S.s rfl ?_
  replace S := S.pk []
  refine ⟨(r1 (vi ?_)), S.m.c⟩
  unfold nextV; exact (if_neg fun h => hc0 (known2.2 h)).symm
 intro hc1
 have hK : K2 t f da dz := known2.1 (Classical.not_not.1 hc1)
 have HV := hK.1.1
 have ha0 := hK.1.2.1
 have ha1 := hK.1.2.2
 have hz0 := hK.2.1
 have hz1 := hK.2.2
 have hB : topB t := HV.1.1.1
 unfold topB at hB
 have hdv := distV_of hK
 have hdl : (distV t f dz).length = t.devs.xs.length := by rw [hdv]; exact dists_len
 have hle : ∀ x, (distV t f dz).getD x 0 ≤ 12000 := fun x => by rw [hdv]; exact dists_le HV.1.1 x
 have hda : (distV t f dz).getD da.toNat intE.dflt = dOf t f dz.toNat da.toNat := by rw [hdv]; exact dists_at (by omega)
 refine wp_skip (then_n (wp_seq ?_))
 refine dr (P := Try.prog) S 13 [] [(19, .is _), (20, .is _), (21, .is _), (22, .is _), (23, .is _), (24, .of (fun z w => ∃ (x24a : Option Addr) (y24a : Nat), z = .slice x24a ((distV t f dz).length) y24a ∧ (slE intE).wf (Fr F [one b4, one b5]) w.heap (Sl.mk x24a y24a (distV t f dz))) (fun v w w' c h => let ⟨x24a, y24a, hv, h0⟩ := h; ⟨x24a, y24a, hv, Enc.kp (slE intE) h0 c (fun _ h => by simp at h)⟩)), (25, .is _), (26, .is (.tuple #[iI (nextDs t f (distV t f dz) (da).toNat), iI (devDs t f (distV t f dz) da)])), (18, .is _), (27, .is _), (28, .is _), (9, .is _), (10, .is _)] [[], [], [], [], [], [21, 22, 23], [], [19, 20, 24, 25], [26], [18], [18], [27], [28]] [9] _ ⟨qd (ldkw 0 rfl rfl wD28), qd (ldkw 1 rfl rfl wD41), qd (ldkw 0 rfl rfl wD28), qd (ldkw 1 rfl rfl wD41), qd (mv rfl), ?_, qd (mv rfl), ?_, qd (mv rfl), qd (exi rfl rfl), qd (exi rfl rfl), qd (av rfl), qd (av rfl), trivial⟩ ?_
 ·skip
  intro a u S G hE
  refine hcl S (pDist _ _ S.x (.nil _) t (dn0 (S.u 0 rfl)) f (dn0 (S.u 1 rfl)) dz dz_h) cB38 ?_
  rintro e w2 ⟨ra_h24, rc_h24, rfl, R_h24, T0⟩; refine ⟨_, rfl, (show ∃ _, _ from ?_), T0.ch, (S.k0 S.s T0).m⟩
  exact ⟨ra_h24, rc_h24, rfl, (Enc.up _ R_h24)⟩
 ·skip
  intro a u S G hE
  obtain ⟨e24, -⟩ := hE
  have M0 := S.m
  obtain ⟨x24_4, y24_4, e24, X4⟩ := e24
  replace S := S.ext e24
  refine hcl S (pNext0 _ _ S.x (.nil _) t (dn0 (S.u 0 rfl)) f (dn0 (S.u 1 rfl)) (Sl.mk x24_4 y24_4 (distV t f dz)) (dn0 X4) da da_h (by assumption) (⟨⟨by omega, by omega⟩, by omega⟩) (by assumption)) cB75 ?_
  rintro e w2 ⟨rfl, T0⟩; exact ⟨_, rfl, (show _ = _ from rfl), T0.ch, (M0.k0 T0.ch)⟩
 clear S; intro a u S G hE
 obtain ⟨hl5, hu5⟩ : inI64 dz := id dz_h
 obtain ⟨hl6, hu6⟩ : inI64 da := id da_h
 refine ent ?_
 refine rs S (tr (mv rfl)<|la (av rfl)) ?_; clear S; intro a u S
 refine wp_ret ?_
 refine ret1 rfl S.s rfl ?_
 replace S := S.pk []
 refine ⟨(r1 (vi ?_)), S.m.c⟩
 unfold nextV; rw [if_pos hK, hdv]; first | exact nextDs_eq HV.1.1 _ | exact (nextDs_eq HV.1.1 _).symm
set_option maxHeartbeats 2000000 in
set_option maxRecDepth 20000 in
theorem pWalk (w : World) (F : Nat → Prop) (hF : Old F w) (M : MS [] w) (t : Topo) (t_w : topoE.wf (Fr F []) w.heap t) (f : Fail) (f_w : failE.wf (Fr F []) w.heap f) (da : Int) (da_h : inI64 da) (dz : Int) (dz_h : inI64 dz) :
 Calls Try.prog 74 #[.agg (topoE.cells t).toArray, .agg (failE.cells f).toArray, iI da, iI dz] w fun e w' => ∃ (ra0 : Option Addr) (rc0 : Nat) (ra1 : Option Addr) (rc1 : Nat), e = .returned (.tuple #[.slice ra0 ((pathV t f da dz).length) rc0, .slice ra1 ((linkV t f da dz).length) rc1]) ∧ (slE intE).wf (Fr F []) w'.heap (Sl.mk ra0 rc0 (pathV t f da dz)) ∧ (slE intE).wf (Fr F []) w'.heap (Sl.mk ra1 rc1 (linkV t f da dz)) ∧ Tr [] w [] w' := by
 have : t.devs.xs.length ≤ 9223372036854775807 := (t_w.1).1.len
 have : t.links.xs.length ≤ 9223372036854775807 := (t_w.2.1).1.len
 have : t.edges.xs.length ≤ 9223372036854775807 := (t_w.2.2.1).1.len
 have : t.pools.xs.length ≤ 9223372036854775807 := (t_w.2.2.2.1).1.len
 obtain ⟨_, _⟩ : inI64 t.tol := t_w.2.2.2.2
 have : f.links.xs.length ≤ 9223372036854775807 := (f_w.1).1.len
 have : f.devs.xs.length ≤ 9223372036854775807 := (f_w.2).1.len
 obtain ⟨da_hl, da_hu⟩ : inI64 da := id da_h
 obtain ⟨dz_hl, dz_hu⟩ : inI64 dz := id dz_h
 refine go Try.func74 rfl 57 rfl [wfF topoE t, wfF failE f] [] hF M ⟨t_w, f_w, trivial⟩ trivial ?_
 intro a S
 refine rs0 ?_
 refine nbp S (x_box _ (S.e rfl) rfl) ?_; clear S; intro a u b4 S
 refine nbp S (x_box _ (S.e rfl) rfl) ?_; clear S; intro a u b5 S
 refine ens S (tr (av rfl)<|la (av rfl)) ?_; clear S; intro a u S
 refine wp_seq (rs0 ?_)
 refine sp S (tr (ldkw 0 rfl rfl wD28)<|tr (ldkw 1 rfl rfl wD41)<|tr (mv rfl)<|la (mv rfl)) ?_; clear S; intro a u S
 refine nbs intE S [da, dz] (x_bs S [(0, iI da), (1, iI dz)] uT22 iZ3) (fun x hx => by simp only [List.mem_cons, List.not_mem_nil, or_false] at hx; rcases hx with hx | hx <;> rw [hx] <;> first | exact (show intE.wf _ _ da from da_h) | exact (show intE.wf _ _ dz from dz_h)) ?_; clear S; intro a u b19 S
 refine ens S (tr (oc (fun S=>pKnown _ _ S.x (.nil _) t (dn0 (S.u 0 rfl)) f (dn0 (S.u 1 rfl)) (Sl.mk (some ⟨b19, 0, none⟩) 2 ([da, dz])) (dn0 (S.u 2 rfl))) cB68)<|la (noti rfl)) ?_; clear S; intro a u S
 refine cd S rfl ?_ ?_
 ·intro hc0
  refine rs S (tr (av rfl)<|la (av rfl)) ?_; clear S; intro a u S
  refine wp_ret (then_r ?_)
  refine ret2 rfl S.s rfl rfl ?_
  replace S := S.pk []
  have hx4 : pathV t f da dz = [] := by
   unfold pathV; exact if_neg fun h => hc0 (known2.2 h.1)
  rw [hx4]
  have hx5 : linkV t f da dz = [] := by
   unfold linkV; exact if_neg fun h => hc0 (known2.2 h.1)
  rw [hx5]
  refine ⟨none, 0, none, 0, rfl, sl_nil, sl_nil, S.m.c⟩
 intro hc1
 have hK : K2 t f da dz := known2.1 (Classical.not_not.1 hc1)
 have HV := hK.1.1
 have ha0 := hK.1.2.1
 have ha1 := hK.1.2.2
 have hz0 := hK.2.1
 have hz1 := hK.2.2
 have hB : topB t := HV.1.1.1
 unfold topB at hB
 have hdv := distV_of hK
 have hdl : (distV t f dz).length = t.devs.xs.length := by rw [hdv]; exact dists_len
 have hle : ∀ x, (distV t f dz).getD x 0 ≤ 12000 := fun x => by rw [hdv]; exact dists_le HV.1.1 x
 have hda : (distV t f dz).getD da.toNat intE.dflt = dOf t f dz.toNat da.toNat := by rw [hdv]; exact dists_at (by omega)
 refine wp_skip (then_n (rs0 ?_))
 refine sp S (tr (ldkw 0 rfl rfl wD28)<|tr (ldkw 1 rfl rfl wD41)<|la (mv rfl)) ?_; clear S; intro a u S
 refine cl S (pDist _ _ S.x (.nil _) t (dn0 (S.u 0 rfl)) f (dn0 (S.u 1 rfl)) dz dz_h) cB38 ?_
 rintro e u ⟨ra_t25, rc_t25, rfl, R_t25, T0⟩; refine ⟨_, rfl, fun a s => ?_⟩
 replace S := (S.k0 s T0).ar (wfF (slE intE) (Sl.mk ra_t25 rc_t25 (distV t f dz))) (Enc.up _ R_t25); clear s T0 R_t25
 have hn7 : (distV t f dz).length ≤ 9223372036854775807 := ((S.u 3 rfl)).1.len
 refine ens S (la (av rfl)) ?_; clear S; intro a u S
 refine wp_seq ?_
 obtain ⟨hl9, hu9⟩ : inI64 ((distV t f dz).getD ((da).toNat) intE.dflt) := id ((show LAt intE _ _ ra_t25 (distV t f dz) from ((S.u 3 rfl)).1).wf (da).toNat (by omega))
 refine rs S (tr (mv rfl)<|tr (mv rfl)<|tr (idxi uT22 sZ3 rfl rfl (da).toNat (by omega) (by omega) ((show LAt intE _ _ ra_t25 (distV t f dz) from ((S.u 3 rfl)).1).adr (i := (da).toNat) (by omega)))<|tr (ov fun S=>x_load sC3 (S.e rfl) ((show LAt intE _ _ ra_t25 (distV t f dz) from ((S.u 3 rfl)).1).cell (da).toNat (by omega) 0 _ rfl))<|la (lssi rfl rfl)) ?_; clear S; intro a u S
 refine cd S rfl ?_ ?_
 ·intro hc2
  refine rs S (tr (av rfl)<|la (av rfl)) ?_; clear S; intro a u S
  refine wp_ret (then_r ?_)
  refine ret2 rfl S.s rfl rfl ?_
  replace S := S.pk []
  have hx11 : pathV t f da dz = [] := by
   unfold pathV; exact if_neg fun h => by have := h.2; omega
  rw [hx11]
  have hx12 : linkV t f da dz = [] := by
   unfold linkV; exact if_neg fun h => by have := h.2; omega
  rw [hx12]
  refine ⟨none, 0, none, 0, rfl, sl_nil, sl_nil, S.m.c⟩
 intro hc3
 have hdb := dOf_le (f := f) (z := dz.toNat) HV.1.1 da.toNat
 refine wp_skip (then_n (rs0 ?_))
 refine sp S (la (mv rfl)) ?_; clear S; intro a u S
 refine nbr intE S [da] (x_bs S [(0, iI da)] uT22 iZ3) (fun x hx => by simp only [List.mem_cons, List.not_mem_nil, or_false] at hx; rw [hx]; exact (show intE.wf _ _ da from da_h)) ?_; clear S; intro a u b32 S
 refine ens S (tr (av rfl)<|la (av rfl)) ?_; clear S; intro a u S
 refine wp_seq (wp_block ?_)
 replace S := S.nr intE 3
 refine lp7 (fun (cx : Int) (ps_a : Option Addr) (ps_c : Nat) (ps : List Int) (ls_a : Option Addr) (ls_c : Nat) (ls : List Int) => [(3, iI dz), (4, pT b4 0), (5, pT b5 0), (10, .slice ra_t25 ((distV t f dz).length) rc_t25), (2, iI cx), (11, .slice ps_a ps.length ps_c), (12, .slice ls_a ls.length ls_c)]) (fun (cx : Int) (ps_a : Option Addr) (ps_c : Nat) (ps : List Int) (ls_a : Option Addr) (ls_c : Nat) (ls : List Int) => [blO b4 (topoE.cells t) 28, blO b5 (failE.cells f) 41, rwO intE 3 w.heap.size ps_a ps_c ps, rwO intE 3 w.heap.size ls_a ls_c ls]) (fun (cx : Int) (ps_a : Option Addr) (ps_c : Nat) (ps : List Int) (ls_a : Option Addr) (ls_c : Nat) (ls : List Int) => (0 ≤ cx ∧ cx < t.devs.xs.length) ∧ 0 ≤ dOf t f dz.toNat cx.toNat ∧ (∃ pre, ps = pre ++ [cx] ∧ pathL t f dz.toNat da.toNat = pre ++ pathL t f dz.toNat cx.toNat) ∧ linkL t f dz.toNat da.toNat = ls ++ linkL t f dz.toNat cx.toNat ∧ (ps.length : Int) + dOf t f dz.toNat cx.toNat ≤ 12001 ∧ (ls.length : Int) + dOf t f dz.toNat cx.toNat ≤ 12001) (fun (cx : Int) (ps_a : Option Addr) (ps_c : Nat) (ps : List Int) (ls_a : Option Addr) (ls_c : Nat) (ls : List Int) => (dOf t f dz.toNat cx.toNat).toNat) S da (some ⟨b32, 0, none⟩) 1 ([da]) none 0 ([]) (subM rfl) rfl ?_ ?_
 ·exact ⟨⟨ha0, ha1⟩, by omega, ⟨[], rfl, rfl⟩, rfl, by show ((1 : Nat) : Int) + _ ≤ _; omega, by show ((0 : Nat) : Int) + _ ≤ _; omega⟩
 clear S; intro cx ps_a ps_c ps ls_a ls_c ls a u S hR
 have ps_len := (S.row 2 rfl).len_le; simp only [maxLen] at ps_len
 have ls_len := (S.row 3 rfl).len_le; simp only [maxLen] at ls_len
 obtain ⟨⟨hx0, hx1⟩, hxd, ⟨pre, hps, hpp⟩, hll, hbl1, hbl2⟩ := hR
 refine wp_seq ?_
 refine rs S (tr (mv rfl)<|tr (mv rfl)<|la (neqi rfl rfl)) ?_; clear S; intro a u S
 refine cd S rfl ?_ ?_
 ·intro hc4
  rcases next_cases (f := f) (z := dz.toNat) HV.1.1 cx.toNat with ⟨hq1, hq2⟩ | ⟨i, b, hq1, hq2, hq3, hq4, hq5, _⟩
  ·exact absurd (show cx = dz from by have := dOf_zero (t := t) (f := f) (z := dz.toNat) HV.1.1 (show dOf t f dz.toNat cx.toNat = 0 from by omega); omega) hc4
  have hqf := hop_facts HV.1.1 hq3
  have hnd : nextDs t f (distV t f dz) cx.toNat = (i : Int) := by rw [hdv, nextDs_eq HV.1.1]; exact hq1
  have hxn : ((cx.toNat : Nat) : Int) = cx := by omega
  have hdd : devDs t f (distV t f dz) cx = (b : Int) := by
   unfold devDs; rw [hnd, if_pos (by omega)]
   have := (hop_other HV.1.1 hq3).2
   rwa [hxn] at this
  obtain ⟨hg1, hg2⟩ := path_go HV.1.1 hq1 hq3 hq4 hq5
  rw [hxn] at hg1
  refine wp_skip (then_n (wp_block ?_))
  refine rs S (tr (ldkw 0 rfl rfl wD28)<|tr (ldkw 1 rfl rfl wD41)<|tr (mv rfl)<|tr (mv rfl)<|tr (oc (fun S=>pNext0 _ _ S.x (.nil _) t (dn0 (S.u 0 rfl)) f (dn0 (S.u 1 rfl)) (Sl.mk ra_t25 rc_t25 (distV t f dz)) (dn0 (S.u 3 rfl)) cx ⟨by omega, by omega⟩ (by assumption) (⟨⟨by omega, by omega⟩, by omega⟩) (by assumption)) cB75)<|tr (mv rfl)<|tr (exi rfl rfl)<|tr (exi rfl rfl)<|tr (av rfl)<|la (av rfl)) ?_; clear S; intro a u S
  refine wp_seq ?_
  refine rs S (tr (mv rfl)<|la (lssi rfl rfl)) ?_; clear S; intro a u S
  refine cd S rfl ?_ ?_
  ·intro hc5
   replace hc5 : nextDs t f (distV t f dz) cx.toNat < 0 := hc5
   refine rs S (tr (av rfl)<|la (av rfl)) ?_; clear S; intro a u S
   refine wp_ret (then_r (blk_r (then_r (blk_r (then_r ?_)))))
   refine ret2 rfl S.s rfl rfl ?_
   replace S := S.pk []
   have hx18 : pathV t f da dz = [] := by
    exfalso; omega
   rw [hx18]
   have hx19 : linkV t f da dz = [] := by
    exfalso; omega
   rw [hx19]
   refine ⟨none, 0, none, 0, rfl, sl_nil, sl_nil, S.m.c⟩
  intro hc6
  refine wp_skip (then_n (r0 ?_))
  refine sp S (tr (mv rfl)<|la (mv rfl)) ?_; clear S; intro a u S
  refine nbs intE S [devDs t f (distV t f dz) cx] (x_bs S [(0, iI (devDs t f (distV t f dz) cx))] uT22 iZ3) (fun x hx => by simp only [List.mem_cons, List.not_mem_nil, or_false] at hx; rw [hx]; exact (show intE.wf _ _ (devDs t f (distV t f dz) cx) from (show inI64 (devDs t f (distV t f dz) cx) from ⟨by omega, by omega⟩))) ?_; clear S; intro a u b48 S
  refine ap (E := intE) (ys := [devDs t f (distV t f dz) cx]) S 2 rfl uT22 iZ3 rfl rfl (show LAt intE _ _ (some ⟨b48, 0, none⟩) ([devDs t f (distV t f dz) cx]) from ((S.u 4 rfl)).1) ((S.u 4 rfl)).2.2 (LAt.mem (show LAt intE _ _ (some ⟨b48, 0, none⟩) ([devDs t f (distV t f dz) cx]) from ((S.u 4 rfl)).1)) ⟨by unfold maxLen; (try simp only [List.length_cons, List.length_nil, List.length_append, List.length_map]); omega, by (try simp only [List.length_cons, List.length_nil, List.length_append, List.length_map]); omega⟩ ?_; clear S; intro a u ad49 cap49 S
  refine sp S (tr (mv rfl)<|la (mv rfl)) ?_; clear S; intro a u S
  refine nbs intE S [nextDs t f (distV t f dz) (cx).toNat] (x_bs S [(0, iI (nextDs t f (distV t f dz) (cx).toNat))] uT22 iZ3) (fun x hx => by simp only [List.mem_cons, List.not_mem_nil, or_false] at hx; rw [hx]; exact (show intE.wf _ _ (nextDs t f (distV t f dz) (cx).toNat) from (show inI64 (nextDs t f (distV t f dz) (cx).toNat) from ⟨by omega, by omega⟩))) ?_; clear S; intro a u b52 S
  refine ap (E := intE) (ys := [nextDs t f (distV t f dz) (cx).toNat]) S 3 rfl uT22 iZ3 rfl rfl (show LAt intE _ _ (some ⟨b52, 0, none⟩) ([nextDs t f (distV t f dz) (cx).toNat]) from ((S.u 5 rfl)).1) ((S.u 5 rfl)).2.2 (LAt.mem (show LAt intE _ _ (some ⟨b52, 0, none⟩) ([nextDs t f (distV t f dz) (cx).toNat]) from ((S.u 5 rfl)).1)) ⟨by unfold maxLen; (try simp only [List.length_cons, List.length_nil, List.length_append, List.length_map]); omega, by (try simp only [List.length_cons, List.length_nil, List.length_append, List.length_map]); omega⟩ ?_; clear S; intro a u ad53 cap53 S
  refine en S (tr (mv rfl)<|tr (av rfl)<|tr (av rfl)<|la (av rfl)) ?_; clear S; intro a u S
  refine blk_n (then_n ?_)
  refine ⟨(devDs t f (distV t f dz) cx), ad49, cap49, (ps ++ [devDs t f (distV t f dz) cx]), ad53, cap53, (ls ++ [nextDs t f (distV t f dz) (cx).toNat]), S.re (subM rfl) rfl rfl, ?_, ?_⟩
  ·rw [hdd, Int.toNat_natCast]
   refine ⟨⟨by omega, by omega⟩, hq4, ⟨ps, rfl, ?_⟩, ?_, ?_, ?_⟩
   ·rw [hpp, hg1, hps, List.append_assoc]; rfl
   ·rw [hll, hg2, hnd, List.append_assoc]; rfl
   ·rw [List.length_append]; simp only [List.length_cons, List.length_nil]; omega
   rw [List.length_append]; simp only [List.length_cons, List.length_nil]; omega
  rw [hdd, Int.toNat_natCast]
  omega
 intro hc7
 have hxz : cx = dz := by omega
 have hdz : dOf t f dz.toNat cx.toNat ≤ 0 := by
  rw [hxz] at hxd ⊢
  obtain ⟨_, _, w, _⟩ := dOf_pos hxd
  rw [dOf_self w.goal.1 w.goal.2]
  exact Int.le_refl 0
 obtain ⟨hs1, hs2⟩ := path_stop HV.1.1 hdz
 rw [show ((cx.toNat : Nat) : Int) = cx from by omega] at hs1
 refine wp_exit (then_e (then_e (blk_e (then_n ?_))))
 refine rs S (tr (mv rfl)<|tr (mv rfl)<|tr (av rfl)<|la (av rfl)) ?_; clear S; intro a u S
 refine wp_ret ?_
 replace S := S.fz 2 rfl
 replace S := S.fz 3 rfl
 refine ret2 rfl S.s rfl rfl ?_
 replace S := S.pk []
 have hx22 : pathV t f da dz = ps := by
  unfold pathV; rw [if_pos ⟨hK, by omega⟩, hpp, hs1, hps]
 rw [hx22]
 have hx23 : linkV t f da dz = ls := by
  unfold linkV; rw [if_pos ⟨hK, by omega⟩, hll, hs2, List.append_nil]
 rw [hx23]
 refine ⟨ps_a, ps_c, ls_a, ls_c, rfl, (S.u 4 rfl), (S.u 5 rfl), S.m.c⟩
set_option maxHeartbeats 2000000 in
set_option maxRecDepth 20000 in
theorem pPath (w : World) (F : Nat → Prop) (hF : Old F w) (M : MS [] w) (t : Topo) (t_w : topoE.wf (Fr F []) w.heap t) (f : Fail) (f_w : failE.wf (Fr F []) w.heap f) (da : Int) (da_h : inI64 da) (dz : Int) (dz_h : inI64 dz) :
 Calls Try.prog 41 #[.agg (topoE.cells t).toArray, .agg (failE.cells f).toArray, iI da, iI dz] w fun e w' => ∃ (ra : Option Addr) (rc : Nat), e = .returned (.slice ra ((pathV t f da dz).length) rc) ∧ (slE intE).wf (Fr F []) w'.heap (Sl.mk ra rc (pathV t f da dz)) ∧ Tr [] w [] w' := by
 have : t.devs.xs.length ≤ 9223372036854775807 := (t_w.1).1.len
 have : t.links.xs.length ≤ 9223372036854775807 := (t_w.2.1).1.len
 have : t.edges.xs.length ≤ 9223372036854775807 := (t_w.2.2.1).1.len
 have : t.pools.xs.length ≤ 9223372036854775807 := (t_w.2.2.2.1).1.len
 obtain ⟨_, _⟩ : inI64 t.tol := t_w.2.2.2.2
 have : f.links.xs.length ≤ 9223372036854775807 := (f_w.1).1.len
 have : f.devs.xs.length ≤ 9223372036854775807 := (f_w.2).1.len
 obtain ⟨da_hl, da_hu⟩ : inI64 da := id da_h
 obtain ⟨dz_hl, dz_hu⟩ : inI64 dz := id dz_h
 refine go Try.func41 rfl 20 rfl [wfF topoE t, wfF failE f] [] hF M ⟨t_w, f_w, trivial⟩ trivial ?_
 intro a S
 refine rs0 ?_
 refine nbp S (x_box _ (S.e rfl) rfl) ?_; clear S; intro a u b4 S
 refine nbp S (x_box _ (S.e rfl) rfl) ?_; clear S; intro a u b5 S
 refine ens S (la (av rfl)) ?_; clear S; intro a u S
 refine rs0 ?_
 refine sp S (tr (ldkw 0 rfl rfl wD28)<|tr (ldkw 1 rfl rfl wD41)<|tr (mv rfl)<|la (mv rfl)) ?_; clear S; intro a u S
 refine cl S (pWalk _ _ S.x (.nil _) t (dn0 (S.u 0 rfl)) f (dn0 (S.u 1 rfl)) da da_h dz dz_h) cB74 ?_
 rintro e u ⟨ra_t160, rc_t160, ra_t161, rc_t161, rfl, R_t160, R_t161, T0⟩; refine ⟨_, rfl, fun a s => ?_⟩
 replace S := ((S.k0 s T0).ar (wfF (slE intE) (Sl.mk ra_t160 rc_t160 (pathV t f da dz))) (Enc.up _ R_t160)).ar (wfF (slE intE) (Sl.mk ra_t161 rc_t161 (linkV t f da dz))) (Enc.up _ R_t161); clear s T0 R_t160 R_t161
 have hn3 : (pathV t f da dz).length ≤ 9223372036854775807 := ((S.u 2 rfl)).1.len
 have hn4 : (linkV t f da dz).length ≤ 9223372036854775807 := ((S.u 3 rfl)).1.len
 refine ens S (tr (mv rfl)<|tr (exi rfl rfl)<|tr (exi rfl rfl)<|tr (av rfl)<|la (av rfl)) ?_; clear S; intro a u S
 refine rs S (tr (mv rfl)<|la (av rfl)) ?_; clear S; intro a u S
 refine wp_ret ?_
 refine ret1 rfl S.s rfl ?_
 replace S := S.pk []
 refine ⟨ra_t160, rc_t160, rfl, (S.u 2 rfl), S.m.c⟩
set_option maxHeartbeats 2000000 in
set_option maxRecDepth 20000 in
theorem pLinks (w : World) (F : Nat → Prop) (hF : Old F w) (M : MS [] w) (t : Topo) (t_w : topoE.wf (Fr F []) w.heap t) (f : Fail) (f_w : failE.wf (Fr F []) w.heap f) (da : Int) (da_h : inI64 da) (dz : Int) (dz_h : inI64 dz) :
 Calls Try.prog 42 #[.agg (topoE.cells t).toArray, .agg (failE.cells f).toArray, iI da, iI dz] w fun e w' => ∃ (ra : Option Addr) (rc : Nat), e = .returned (.slice ra ((linkV t f da dz).length) rc) ∧ (slE intE).wf (Fr F []) w'.heap (Sl.mk ra rc (linkV t f da dz)) ∧ Tr [] w [] w' := by
 have : t.devs.xs.length ≤ 9223372036854775807 := (t_w.1).1.len
 have : t.links.xs.length ≤ 9223372036854775807 := (t_w.2.1).1.len
 have : t.edges.xs.length ≤ 9223372036854775807 := (t_w.2.2.1).1.len
 have : t.pools.xs.length ≤ 9223372036854775807 := (t_w.2.2.2.1).1.len
 obtain ⟨_, _⟩ : inI64 t.tol := t_w.2.2.2.2
 have : f.links.xs.length ≤ 9223372036854775807 := (f_w.1).1.len
 have : f.devs.xs.length ≤ 9223372036854775807 := (f_w.2).1.len
 obtain ⟨da_hl, da_hu⟩ : inI64 da := id da_h
 obtain ⟨dz_hl, dz_hu⟩ : inI64 dz := id dz_h
 refine go Try.func42 rfl 20 rfl [wfF topoE t, wfF failE f] [] hF M ⟨t_w, f_w, trivial⟩ trivial ?_
 intro a S
 refine rs0 ?_
 refine nbp S (x_box _ (S.e rfl) rfl) ?_; clear S; intro a u b4 S
 refine nbp S (x_box _ (S.e rfl) rfl) ?_; clear S; intro a u b5 S
 refine ens S (la (av rfl)) ?_; clear S; intro a u S
 refine rs0 ?_
 refine sp S (tr (ldkw 0 rfl rfl wD28)<|tr (ldkw 1 rfl rfl wD41)<|tr (mv rfl)<|la (mv rfl)) ?_; clear S; intro a u S
 refine cl S (pWalk _ _ S.x (.nil _) t (dn0 (S.u 0 rfl)) f (dn0 (S.u 1 rfl)) da da_h dz dz_h) cB74 ?_
 rintro e u ⟨ra_t160, rc_t160, ra_t161, rc_t161, rfl, R_t160, R_t161, T0⟩; refine ⟨_, rfl, fun a s => ?_⟩
 replace S := ((S.k0 s T0).ar (wfF (slE intE) (Sl.mk ra_t160 rc_t160 (pathV t f da dz))) (Enc.up _ R_t160)).ar (wfF (slE intE) (Sl.mk ra_t161 rc_t161 (linkV t f da dz))) (Enc.up _ R_t161); clear s T0 R_t160 R_t161
 have hn3 : (pathV t f da dz).length ≤ 9223372036854775807 := ((S.u 2 rfl)).1.len
 have hn4 : (linkV t f da dz).length ≤ 9223372036854775807 := ((S.u 3 rfl)).1.len
 refine ens S (tr (mv rfl)<|tr (exi rfl rfl)<|tr (exi rfl rfl)<|tr (av rfl)<|la (av rfl)) ?_; clear S; intro a u S
 refine rs S (tr (mv rfl)<|la (av rfl)) ?_; clear S; intro a u S
 refine wp_ret ?_
 refine ret1 rfl S.s rfl ?_
 replace S := S.pk []
 refine ⟨ra_t161, rc_t161, rfl, (S.u 3 rfl), S.m.c⟩
end Go.Proofs.Ytfanmniaolncbaa.V
