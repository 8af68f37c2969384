/- paths: next links and paths of the reference -/
import Derived.Test.YtfanmniaolncbaaW37
import Derived.Test.YtfanmniaolncbaaW31
namespace Go.Proofs.Ytfanmniaolncbaa.V
open Go.RowKit Go.Proofs.Ytfanmniaolncbaa
set_option linter.unusedVariables false
set_option linter.unusedSimpArgs false
set_option maxHeartbeats 2000000 in
set_option maxRecDepth 20000 in
theorem r14Next (w : World) (F : Nat → Prop) (hF : Old F w) (M : MS [] w) (t : Topo) (t_w : topoE.wf (Fr F []) w.heap t) (f : Fail) (f_w : failE.wf (Fr F []) w.heap f) (da : Int) (da_h : inI64 da) (dz : Int) (dz_h : inI64 dz) :
 Calls Try.prog 65 #[.agg (topoE.cells t).toArray, .agg (failE.cells f).toArray, iI da, iI dz] w fun e w' => e = .returned (iI (nextV t f da dz)) ∧ Tr [] w [] w' := by
 have : t.devs.xs.length ≤ 9223372036854775807 := (t_w.1).1.len
 have : t.links.xs.length ≤ 9223372036854775807 := (t_w.2.1).1.len
 have : t.edges.xs.length ≤ 9223372036854775807 := (t_w.2.2.1).1.len
 have : t.pools.xs.length ≤ 9223372036854775807 := (t_w.2.2.2.1).1.len
 obtain ⟨_, _⟩ : inI64 t.tol := t_w.2.2.2.2
 have : f.links.xs.length ≤ 9223372036854775807 := (f_w.1).1.len
 have : f.devs.xs.length ≤ 9223372036854775807 := (f_w.2).1.len
 obtain ⟨da_hl, da_hu⟩ : inI64 da := id da_h
 obtain ⟨dz_hl, dz_hu⟩ : inI64 dz := id dz_h
 refine go Try.func65 rfl 81 rfl [wfF topoE t, wfF failE f] [] hF M ⟨t_w, f_w, trivial⟩ trivial ?_
 intro a S
 refine rs0 ?_
 refine nbp S (x_box _ (S.e rfl) rfl) ?_; clear S; intro a u b4 S
 refine nbp S (x_box _ (S.e rfl) rfl) ?_; clear S; intro a u b5 S
 refine ens S (la (av rfl)) ?_; clear S; intro a u S
 refine wp_seq ?_
 refine rs S (tr (ldkw 0 rfl rfl wD28)<|tr (ldkw 1 rfl rfl wD41)<|tr (mv rfl)<|tr (oc (fun S=>r14device _ _ S.x (.nil _) t (dn0 (S.u 0 rfl)) f (dn0 (S.u 1 rfl)) da da_h) cB96)<|tr (noti rfl)<|tr (mv rfl)<|tr (og 17 rfl gf fun S hg=>x_ldw (S.e rfl) (S.k 0 rfl).all wD28)<|tr (og 17 rfl gf fun S hg=>x_ldw (S.e rfl) (S.k 1 rfl).all wD41)<|tr (og 17 rfl gf fun S hg=>x_move (S.e rfl))<|tr (ocg 17 rfl gf (fun S hg=>r14device _ _ S.x (.nil _) t (dn0 (S.u 0 rfl)) f (dn0 (S.u 1 rfl)) dz dz_h) cB96 fun S=>⟨fun hg=>(S.p rfl hg), fun hg=>(S.p rfl hg), fun hg=>(S.p rfl hg), trivial⟩)<|tr (og 17 rfl gf fun S hg=>x_notp (S.p rfl hg))<|tr (ori rfl rfl rfl)<|tr (mv rfl)<|tr (og 24 rfl gf fun S hg=>x_move (S.e rfl))<|tr (og 24 rfl gf fun S hg=>x_move (S.e rfl))<|tr (og 24 rfl gf fun S hg=>x_eql (S.p rfl hg) (S.p rfl hg))<|la (ori rfl rfl rfl)) ?_; clear S; intro a u S
 refine cd S rfl ?_ ?_
 ·intro hc0
  refine rs S (la (av rfl)) ?_; clear S; intro a u S
  refine wp_ret (then_r ?_)
  refine ret1 rfl S.s rfl ?_
  replace S := S.pk []
  refine ⟨(r1 (vi ?_)), S.m.c⟩
  unfold nextV; split
  ·rename_i hK
   rcases hc0 with hc0 | rfl
   ·exfalso; exact hc0.elim (fun h => h ⟨⟨hK.1.1, hK.1.2.1⟩, hK.1.2.2⟩) fun h => h ⟨⟨hK.1.1, hK.2.1⟩, hK.2.2⟩
   exact (next_self hK.1.1.1.1).symm
  rfl
 intro hc1
 have hK : K2 t f da dz := by have hc := hc1; simp only [not_or, Classical.not_not] at hc; exact ⟨⟨hc.1.1.1.1, hc.1.1.1.2, hc.1.1.2⟩, hc.1.2.1.2, hc.1.2.2⟩
 have HV := hK.1.1
 have ha0 := hK.1.2.1
 have ha1 := hK.1.2.2
 have hz0 := hK.2.1
 have hz1 := hK.2.2
 have hB : topB t := HV.1.1.1
 unfold topB at hB
 have hdv := distV_of hK
 have hdl : (distV t f dz).length = t.devs.xs.length := by rw [hdv]; exact dists_len
 have hle : ∀ x, (distV t f dz).getD x 0 ≤ 12000 := fun x => by rw [hdv]; exact dists_le HV.1.1 x
 have hda : (distV t f dz).getD da.toNat intE.dflt = dOf t f dz.toNat da.toNat := by rw [hdv]; exact dists_at (by omega)
 refine wp_skip (then_n (rs0 ?_))
 refine sp S (tr (ldkw 0 rfl rfl wD28)<|tr (ldkw 1 rfl rfl wD41)<|la (mv rfl)) ?_; clear S; intro a u S
 refine cl S (r14Dist _ _ S.x (.nil _) t (dn0 (S.u 0 rfl)) f (dn0 (S.u 1 rfl)) dz dz_h) cB64 ?_
 rintro e u ⟨ra_t32, rc_t32, rfl, R_t32, T0⟩; refine ⟨_, rfl, fun a s => ?_⟩
 replace S := (S.k0 s T0).ar (wfF (slE intE) (Sl.mk ra_t32 rc_t32 (distV t f dz))) (Enc.up _ R_t32); clear s T0 R_t32
 have hn5 : (distV t f dz).length ≤ 9223372036854775807 := ((S.u 2 rfl)).1.len
 refine ens S (la (av rfl)) ?_; clear S; intro a u S
 refine wp_seq ?_
 refine rs S (la (av rfl)) ?_; clear S; intro a u S
 refine wp_block ?_
 refine lp1 (fun (k : Nat) => [(2, iI da), (4, pT b4 0), (5, pT b5 0), (9, .slice ra_t32 ((distV t f dz).length) rc_t32), (10, iN k)]) (fun (k : Nat) => [blO b4 (topoE.cells t) 28, blO b5 (failE.cells f) 41]) (fun (k : Nat) => k ≤ t.links.xs.length ∧ ∀ j, j < k → ¬ goesD t f (distV t f dz) da.toNat j) (fun (k : Nat) => t.links.xs.length - k) S 0 (subM rfl) rfl ?_ ?_
 ·exact ⟨Nat.zero_le _, fun j h => by omega⟩
 clear S; intro k a u S hR
 obtain ⟨hk, hn⟩ := hR
 refine wp_seq ?_
 have hn8 : t.links.xs.length ≤ 9223372036854775807 := ((S.u 0 rfl).2.1).1.len
 refine rs S (tr (mv rfl)<|tr (fldi 0 1 rfl uT28)<|tr (ldk 0 sC24 rfl rfl rfl)<|tr (leni uT24 rfl)<|la (lssi rfl rfl)) ?_; clear S; intro a u S
 refine cd S rfl ?_ ?_
 ·intro hc2
  have hlv : lnkV t.devs.xs.length (t.links.xs.getD k lnkE.dflt) := topV_link HV.1.1 (by omega)
  have hlv2 := hlv; unfold lnkV at hlv2
  have hob := other_bd2 (d := da) hlv
  have hvo : (distV t f dz).getD (otherOf (t.links.xs.getD k lnkE.dflt) da).toNat intE.dflt ≤ 12000 := hle _
  refine wp_skip (then_n (wp_seq (wp_block ?_)))
  obtain ⟨hl10, hu10⟩ : inI64 ((t.links.xs.getD k lnkE.dflt).a) := id ((((S.u 0 rfl).2.1).1.wf k (by omega)).1)
  obtain ⟨hl11, hu11⟩ : inI64 ((t.links.xs.getD k lnkE.dflt).b) := id ((((S.u 0 rfl).2.1).1.wf k (by omega)).2.1)
  obtain ⟨hl12, hu12⟩ : inI64 ((t.links.xs.getD k lnkE.dflt).cost) := id ((((S.u 0 rfl).2.1).1.wf k (by omega)).2.2)
  refine rs S (tr (fldi 0 1 rfl uT28)<|tr (ldk 0 sC24 rfl rfl rfl)<|tr (mv rfl)<|tr (idxi uT24 sZ54 rfl rfl k rfl (by omega) (((S.u 0 rfl).2.1).1.adr (i := k) (by omega)))<|tr (ov fun S=>x_ldw (S.e rfl) (((S.u 0 rfl).2.1).1.wcell k (by omega) _ rfl _ rfl) wD54)<|tr (mv rfl)<|tr (oc (fun S=>r14Other _ _ S.x (.nil _) (t.links.xs.getD k lnkE.dflt) (dn0 (((S.u 0 rfl).2.1).1.wf k (by omega))) da da_h) cB44)<|la (av rfl)) ?_; clear S; intro a u S
  refine wp_seq ?_
  refine dr (P := Try.prog) S 33 [] ((47, .is _) :: (48, .is _) :: (49, .is _) :: (50, .is _) :: (51, .is _) :: (52, .is _) :: (53, .is _) :: (54, .is _) :: (55, .is _) :: (56, .is _) :: (57, .is _) :: (58, .is _) :: (59, .is _) :: (60, .is _) :: (61, .is _) :: (62, .is _) :: (63, .is _) :: (64, .is _) :: (65, .is _) :: (66, .is _) :: (67, .is _) :: (68, .is _) :: (69, .is _) :: (70, .is _) :: (71, .is _) :: (72, .is _) :: (73, .is _) :: (74, .is _) :: (75, .is _) :: (76, .is _) :: (77, .is _) :: (78, .is _) :: (79, .is _) :: []) ([] :: [] :: [] :: [47, 48, 49] :: [50] :: [51] :: [51, 52] :: [51, 53] :: [54] :: [55] :: [55] :: [55, 56, 57] :: [55, 58] :: [55, 59] :: [55, 60] :: [61] :: [62] :: [62] :: [62, 63, 64] :: [62, 65] :: [62] :: [62, 67] :: [62] :: [62, 68, 69] :: [62, 70] :: [62, 71] :: [62, 66, 72] :: [62] :: [62] :: [62, 74, 75] :: [62, 76] :: [62, 73, 77] :: [62, 78] :: []) [79] _ ⟨qd (ldkw 0 rfl rfl wD28), qd (ldkw 1 rfl rfl wD41), qd (mv rfl), qd (oc (fun S=>rUsable _ _ S.x (.nil _) t (dn0 (S.u 0 rfl)) f (dn0 (S.u 1 rfl)) ((k : Nat) : Int) ⟨by omega, by omega⟩) cB40), qd (mv rfl), qd (og 51 rfl gt fun S hg=>x_move (S.e rfl)), qd (og 51 rfl gt fun S hg=>x_geq (S.p rfl hg) (S.e rfl)), qd (andi rfl rfl rfl), qd (mv rfl), qd (og 55 rfl gt fun S hg=>x_move (S.e rfl)), qd (og 55 rfl gt fun S hg=>x_move (S.e rfl)), qd (og 55 rfl gt fun S hg=>x_idx uT22 sZ3 (S.p rfl hg) (S.p rfl hg) (otherOf (t.links.xs.getD k lnkE.dflt) da).toNat (by omega) (by omega) ((show LAt intE _ _ ra_t32 (distV t f dz) from ((S.u 2 rfl)).1).adr (i := (otherOf (t.links.xs.getD k lnkE.dflt) da).toNat) (by omega))), qd (og 55 rfl gt fun S hg=>x_load sC3 (S.p rfl hg) ((show LAt intE _ _ ra_t32 (distV t f dz) from ((S.u 2 rfl)).1).cell (otherOf (t.links.xs.getD k lnkE.dflt) da).toNat (by omega) 0 _ rfl)), qd (og 55 rfl gt fun S hg=>x_geq (S.p rfl hg) (S.e rfl)), qd (andi rfl rfl rfl), qd (mv rfl), qd (og 62 rfl gt fun S hg=>x_move (S.e rfl)), qd (og 62 rfl gt fun S hg=>x_move (S.e rfl)), qd (og 62 rfl gt fun S hg=>x_idx uT22 sZ3 (S.p rfl hg) (S.p rfl hg) (otherOf (t.links.xs.getD k lnkE.dflt) da).toNat (by omega) (by omega) ((show LAt intE _ _ ra_t32 (distV t f dz) from ((S.u 2 rfl)).1).adr (i := (otherOf (t.links.xs.getD k lnkE.dflt) da).toNat) (by omega))), qd (og 62 rfl gt fun S hg=>x_load sC3 (S.p rfl hg) ((show LAt intE _ _ ra_t32 (distV t f dz) from ((S.u 2 rfl)).1).cell (otherOf (t.links.xs.getD k lnkE.dflt) da).toNat (by omega) 0 _ rfl)), qd (og 62 rfl gt fun S hg=>xf (0) 1 uT28 (S.e rfl)), qd (og 62 rfl gt fun S hg=>x_load sC24 (S.p rfl hg) ((S.k 0 rfl).cell (j := 1) rfl)), qd (og 62 rfl gt fun S hg=>x_move (S.e rfl)), qd (og 62 rfl gt fun S hg=>x_idx uT24 sZ54 (S.p rfl hg) (S.p rfl hg) k rfl (by omega) (((S.u 0 rfl).2.1).1.adr (i := k) (by omega))), qd (og 62 rfl gt fun S hg=>xf (off t.links.a + k * 3) 2 uT54 (S.p rfl hg)), qd (og 62 rfl gt fun S hg=>x_load sC3 (S.p rfl hg) (((S.u 0 rfl).2.1).1.cell k (by omega) 2 _ rfl)), qd (og 62 rfl gt fun S hg=>x_add (S.p rfl hg) (S.p rfl hg) (r := (((distV t f dz).getD ((otherOf (t.links.xs.getD k lnkE.dflt) da).toNat) intE.dflt) + (t.links.xs.getD k lnkE.dflt).cost)) (w_i64 (by omega))), qd (og 62 rfl gt fun S hg=>x_move (S.e rfl)), qd (og 62 rfl gt fun S hg=>x_move (S.e rfl)), qd (og 62 rfl gt fun S hg=>x_idx uT22 sZ3 (S.p rfl hg) (S.p rfl hg) (da).toNat (by omega) (by omega) ((show LAt intE _ _ ra_t32 (distV t f dz) from ((S.u 2 rfl)).1).adr (i := (da).toNat) (by omega))), qd (og 62 rfl gt fun S hg=>x_load sC3 (S.p rfl hg) ((show LAt intE _ _ ra_t32 (distV t f dz) from ((S.u 2 rfl)).1).cell (da).toNat (by omega) 0 _ rfl)), qd (og 62 rfl gt fun S hg=>x_eql (S.p rfl hg) (S.p rfl hg)), qd (andi rfl rfl rfl), trivial⟩ ?_
  clear S; intro a u S G hE
  refine ent ?_
  refine cd S rfl ?_ ?_
  ·intro hc3
   refine rs S (tr (mv rfl)<|la (av rfl)) ?_; clear S; intro a u S
   refine wp_ret (blk_r (then_r (then_r (blk_r (then_r ?_)))))
   refine ret1 rfl S.s rfl ?_
   replace S := S.pk []
   refine ⟨(r1 (vi ?_)), S.m.c⟩
   unfold nextV; rw [if_pos hK, ← nextDs_eq HV.1.1, ← hdv]; first | exact firstI_at (p := goesD t f (distV t f dz) da.toNat) (show k < _ from by omega) ((goesD_of HV.1.1 (by omega) ha0).2 ⟨⟨⟨(usable_iff HV (by omega)).1 hc3.1.1.1, hc3.1.1.2⟩, hc3.1.2⟩, hc3.2⟩) hn | exact (firstI_at (p := goesD t f (distV t f dz) da.toNat) (show k < _ from by omega) ((goesD_of HV.1.1 (by omega) ha0).2 ⟨⟨⟨(usable_iff HV (by omega)).1 hc3.1.1.1, hc3.1.1.2⟩, hc3.1.2⟩, hc3.2⟩) hn).symm
  intro hc4
  refine wp_skip (blk_n (then_n ?_))
  refine rg S (tr (mv rfl)<|tr (addi ((k + 1 : Nat) : Int) rfl rfl (w_i64 (by omega)))<|la (av rfl)) ?_; clear S; intro a u S
  refine then_n ?_
  refine ⟨(k + 1), S.re (subM rfl) rfl rfl, ?_, ?_⟩
  ·refine ⟨by omega, fun j hj g => ?_⟩
   rcases Nat.lt_succ_iff_lt_or_eq.1 hj with h | rfl
   ·exact hn j h g
   obtain ⟨⟨⟨g1, g2⟩, g3⟩, g4⟩ := (goesD_of HV.1.1 (by omega) ha0).1 g
   exact hc4 ⟨⟨⟨(usable_iff HV (by omega)).2 g1, g2⟩, g3⟩, g4⟩
  omega
 intro hc5
 refine wp_exit (then_e (then_e (blk_e (then_n ?_))))
 refine rs S (la (av rfl)) ?_; clear S; intro a u S
 refine wp_ret ?_
 refine ret1 rfl S.s rfl ?_
 replace S := S.pk []
 refine ⟨(r1 (vi ?_)), S.m.c⟩
 unfold nextV; rw [if_pos hK, ← nextDs_eq HV.1.1, ← hdv]; first | exact firstI_none (p := goesD t f (distV t f dz) da.toNat) (n := t.links.xs.length) (fun j hj => hn j (by omega)) | exact (firstI_none (p := goesD t f (distV t f dz) da.toNat) (n := t.links.xs.length) (fun j hj => hn j (by omega))).symm
set_option maxHeartbeats 2000000 in
set_option maxRecDepth 20000 in
theorem r14Path (w : World) (F : Nat → Prop) (hF : Old F w) (M : MS [] w) (t : Topo) (t_w : topoE.wf (Fr F []) w.heap t) (f : Fail) (f_w : failE.wf (Fr F []) w.heap f) (da : Int) (da_h : inI64 da) (dz : Int) (dz_h : inI64 dz) :
 Calls Try.prog 66 #[.agg (topoE.cells t).toArray, .agg (failE.cells f).toArray, iI da, iI dz] w fun e w' => ∃ (ra : Option Addr) (rc : Nat), e = .returned (.slice ra ((pathV t f da dz).length) rc) ∧ (slE intE).wf (Fr F []) w'.heap (Sl.mk ra rc (pathV t f da dz)) ∧ Tr [] w [] w' := by
 have : t.devs.xs.length ≤ 9223372036854775807 := (t_w.1).1.len
 have : t.links.xs.length ≤ 9223372036854775807 := (t_w.2.1).1.len
 have : t.edges.xs.length ≤ 9223372036854775807 := (t_w.2.2.1).1.len
 have : t.pools.xs.length ≤ 9223372036854775807 := (t_w.2.2.2.1).1.len
 obtain ⟨_, _⟩ : inI64 t.tol := t_w.2.2.2.2
 have : f.links.xs.length ≤ 9223372036854775807 := (f_w.1).1.len
 have : f.devs.xs.length ≤ 9223372036854775807 := (f_w.2).1.len
 obtain ⟨da_hl, da_hu⟩ : inI64 da := id da_h
 obtain ⟨dz_hl, dz_hu⟩ : inI64 dz := id dz_h
 refine go Try.func66 rfl 39 rfl [wfF topoE t, wfF failE f] [] hF M ⟨t_w, f_w, trivial⟩ trivial ?_
 intro a S
 refine rs0 ?_
 refine nbp S (x_box _ (S.e rfl) rfl) ?_; clear S; intro a u b4 S
 refine nbp S (x_box _ (S.e rfl) rfl) ?_; clear S; intro a u b5 S
 refine ens S (la (av rfl)) ?_; clear S; intro a u S
 refine wp_seq ?_
 refine rs S (tr (ldkw 0 rfl rfl wD28)<|tr (ldkw 1 rfl rfl wD41)<|tr (mv rfl)<|tr (mv rfl)<|tr (oc (fun S=>rConn _ _ S.x (.nil _) t (dn0 (S.u 0 rfl)) f (dn0 (S.u 1 rfl)) da da_h dz dz_h) cB39)<|la (noti rfl)) ?_; clear S; intro a u S
 refine cd S rfl ?_ ?_
 ·intro hc0
  refine rs S (la (av rfl)) ?_; clear S; intro a u S
  refine wp_ret (then_r ?_)
  refine ret1 rfl S.s rfl ?_
  replace S := S.pk []
  have hx4 : pathV t f da dz = [] := by
   unfold pathV; exact if_neg fun h => hc0 ((conn_iff h.1.1.1.1.1 h.1.1.1).2 h)
  rw [hx4]
  refine ⟨none, 0, rfl, sl_nil, S.m.c⟩
 intro hc1
 have hcn := Classical.not_not.1 hc1
 have HV : failV t f := hcn.1.1.1.1.1
 obtain ⟨hK, hd0⟩ := (conn_iff HV.1.1 HV).1 hcn
 have ha0 := hK.1.2.1
 have ha1 := hK.1.2.2
 have hz0 := hK.2.1
 have hz1 := hK.2.2
 have hB : topB t := HV.1.1.1
 unfold topB at hB
 have hdv := distV_of hK
 have hdl : (distV t f dz).length = t.devs.xs.length := by rw [hdv]; exact dists_len
 have hle : ∀ x, (distV t f dz).getD x 0 ≤ 12000 := fun x => by rw [hdv]; exact dists_le HV.1.1 x
 have hda : (distV t f dz).getD da.toNat intE.dflt = dOf t f dz.toNat da.toNat := by rw [hdv]; exact dists_at (by omega)
 have hdb := dOf_le (f := f) (z := dz.toNat) HV.1.1 da.toNat
 refine wp_skip (then_n (rs0 ?_))
 refine sp S (la (mv rfl)) ?_; clear S; intro a u S
 refine nbr intE S [da] (x_bs S [(0, iI da)] uT22 iZ3) (fun x hx => by simp only [List.mem_cons, List.not_mem_nil, or_false] at hx; rw [hx]; exact (show intE.wf _ _ da from da_h)) ?_; clear S; intro a u b18 S
 refine ens S (la (av rfl)) ?_; clear S; intro a u S
 refine wp_seq ?_
 refine rs S (tr (mv rfl)<|la (av rfl)) ?_; clear S; intro a u S
 refine wp_block ?_
 refine lp4 (fun (cx : Int) (ps_a : Option Addr) (ps_c : Nat) (ps : List Int) => [(3, iI dz), (4, pT b4 0), (5, pT b5 0), (8, .slice none 0 0), (10, iI cx), (9, .slice ps_a ps.length ps_c)]) (fun (cx : Int) (ps_a : Option Addr) (ps_c : Nat) (ps : List Int) => [blO b4 (topoE.cells t) 28, blO b5 (failE.cells f) 41, rwO intE 3 w.heap.size ps_a ps_c ps]) (fun (cx : Int) (ps_a : Option Addr) (ps_c : Nat) (ps : List Int) => (0 ≤ cx ∧ cx < t.devs.xs.length) ∧ 0 ≤ dOf t f dz.toNat cx.toNat ∧ (∃ pre, ps = pre ++ [cx] ∧ pathL t f dz.toNat da.toNat = pre ++ pathL t f dz.toNat cx.toNat) ∧ (ps.length : Int) + dOf t f dz.toNat cx.toNat ≤ 12001) (fun (cx : Int) (ps_a : Option Addr) (ps_c : Nat) (ps : List Int) => (dOf t f dz.toNat cx.toNat).toNat) S da (some ⟨b18, 0, none⟩) 1 ([da]) (subM rfl) rfl ?_ ?_
 ·exact ⟨⟨ha0, ha1⟩, hd0, ⟨[], rfl, rfl⟩, by show ((1 : Nat) : Int) + _ ≤ _; omega⟩
 clear S; intro cx ps_a ps_c ps a u S hR
 have ps_len := (S.row 2 rfl).len_le; simp only [maxLen] at ps_len
 obtain ⟨⟨hx0, hx1⟩, hxd, ⟨pre, hps, hpp⟩, hbl1⟩ := hR
 refine wp_seq ?_
 refine rs S (tr (mv rfl)<|tr (mv rfl)<|la (neqi rfl rfl)) ?_; clear S; intro a u S
 refine cd S rfl ?_ ?_
 ·intro hc2
  rcases next_cases (f := f) (z := dz.toNat) HV.1.1 cx.toNat with ⟨hq1, hq2⟩ | ⟨i, b, hq1, hqi, hq3, hq4, hq5, _⟩
  ·exact absurd (show cx = dz from by have := dOf_zero (t := t) (f := f) (z := dz.toNat) HV.1.1 (show dOf t f dz.toNat cx.toNat = 0 from by omega); omega) hc2
  have hqf := hop_facts HV.1.1 hq3
  have hnd : nextV t f cx dz = (i : Int) := by unfold nextV; rw [if_pos ⟨⟨HV, hx0, hx1⟩, hz0, hz1⟩]; exact hq1
  have hxn : ((cx.toNat : Nat) : Int) = cx := by omega
  have hdd : otherOf (t.links.xs.getD (nextV t f cx dz).toNat lnkE.dflt) cx = (b : Int) := by
   rw [hnd]
   have := (hop_other HV.1.1 hq3).1
   rwa [hxn] at this
  obtain ⟨hg1, hg2⟩ := path_go HV.1.1 hq1 hq3 hq4 hq5
  rw [hxn] at hg1
  refine wp_skip (then_n (wp_block (wp_seq ?_)))
  obtain ⟨hl8, hu8⟩ : inI64 ((t.links.xs.getD ((nextV t f cx dz).toNat) lnkE.dflt).a) := id ((((S.u 0 rfl).2.1).1.wf (nextV t f cx dz).toNat (by omega)).1)
  obtain ⟨hl9, hu9⟩ : inI64 ((t.links.xs.getD ((nextV t f cx dz).toNat) lnkE.dflt).b) := id ((((S.u 0 rfl).2.1).1.wf (nextV t f cx dz).toNat (by omega)).2.1)
  obtain ⟨hl10, hu10⟩ : inI64 ((t.links.xs.getD ((nextV t f cx dz).toNat) lnkE.dflt).cost) := id ((((S.u 0 rfl).2.1).1.wf (nextV t f cx dz).toNat (by omega)).2.2)
  refine dr (P := Try.prog) S 11 [] [(23, .is _), (24, .is _), (25, .is _), (26, .is _), (27, .is _), (28, .is _), (29, .is _), (30, .is _), (31, .is _), (32, .is _), (33, .is _)] [[], [23], [], [], [], [], [25, 26, 27, 28], [24, 29], [30], [], [31, 32]] [33] _ ⟨qd (fldi 0 1 rfl uT28), qd (ldk 0 sC24 rfl rfl rfl), qd (ldkw 0 rfl rfl wD28), qd (ldkw 1 rfl rfl wD41), qd (mv rfl), qd (mv rfl), qd (oc (fun S=>r14Next _ _ S.x (.nil _) t (dn0 (S.u 0 rfl)) f (dn0 (S.u 1 rfl)) cx ⟨by omega, by omega⟩ dz dz_h) cB65), qd (idxi uT24 sZ54 rfl rfl (nextV t f cx dz).toNat (by omega) (by omega) (((S.u 0 rfl).2.1).1.adr (i := (nextV t f cx dz).toNat) (by omega))), qd (ov fun S=>x_ldw (S.e rfl) (((S.u 0 rfl).2.1).1.wcell (nextV t f cx dz).toNat (by omega) _ rfl _ rfl) wD54), qd (mv rfl), qd (oc (fun S=>r14Other _ _ S.x (.nil _) (t.links.xs.getD ((nextV t f cx dz).toNat) lnkE.dflt) (dn0 (((S.u 0 rfl).2.1).1.wf (nextV t f cx dz).toNat (by omega))) cx ⟨by omega, by omega⟩) cB44), trivial⟩ ?_
  clear S; intro a u S G hE
  obtain ⟨hl11, hu11⟩ : inI64 dz := id dz_h
  refine ens S (la (av rfl)) ?_; clear S; intro a u S
  refine r0 ?_
  refine sp S (tr (mv rfl)<|la (mv rfl)) ?_; clear S; intro a u S
  refine nbs intE S [otherOf (t.links.xs.getD ((nextV t f cx dz).toNat) lnkE.dflt) cx] (x_bs S [(0, iI (otherOf (t.links.xs.getD ((nextV t f cx dz).toNat) lnkE.dflt) cx))] uT22 iZ3) (fun x hx => by simp only [List.mem_cons, List.not_mem_nil, or_false] at hx; rw [hx]; exact (show intE.wf _ _ (otherOf (t.links.xs.getD ((nextV t f cx dz).toNat) lnkE.dflt) cx) from (show inI64 (otherOf (t.links.xs.getD ((nextV t f cx dz).toNat) lnkE.dflt) cx) from ⟨by omega, by omega⟩))) ?_; clear S; intro a u b36 S
  refine ap (E := intE) (ys := [otherOf (t.links.xs.getD ((nextV t f cx dz).toNat) lnkE.dflt) cx]) S 2 rfl uT22 iZ3 rfl rfl (show LAt intE _ _ (some ⟨b36, 0, none⟩) ([otherOf (t.links.xs.getD ((nextV t f cx dz).toNat) lnkE.dflt) cx]) from ((S.u 2 rfl)).1) ((S.u 2 rfl)).2.2 (LAt.mem (show LAt intE _ _ (some ⟨b36, 0, none⟩) ([otherOf (t.links.xs.getD ((nextV t f cx dz).toNat) lnkE.dflt) cx]) from ((S.u 2 rfl)).1)) ⟨by unfold maxLen; (try simp only [List.length_cons, List.length_nil, List.length_append, List.length_map]); omega, by (try simp only [List.length_cons, List.length_nil, List.length_append, List.length_map]); omega⟩ ?_; clear S; intro a u ad37 cap37 S
  refine en S (la (av rfl)) ?_; clear S; intro a u S
  refine blk_n (then_n ?_)
  refine ⟨(otherOf (t.links.xs.getD (nextV t f cx dz).toNat lnkE.dflt) cx), ad37, cap37, (ps ++ [otherOf (t.links.xs.getD ((nextV t f cx dz).toNat) lnkE.dflt) cx]), S.re (subM rfl) rfl rfl, ?_, ?_⟩
  ·rw [hdd, Int.toNat_natCast]
   refine ⟨⟨by omega, by omega⟩, hq4, ⟨ps, rfl, ?_⟩, ?_⟩
   ·rw [hpp, hg1, hps, List.append_assoc]; rfl
   rw [List.length_append]; simp only [List.length_cons, List.length_nil]; omega
  rw [hdd, Int.toNat_natCast]
  omega
 intro hc3
 have hxz : cx = dz := by omega
 have hdz : dOf t f dz.toNat cx.toNat ≤ 0 := by
  rw [hxz] at hxd ⊢
  obtain ⟨_, _, w, _⟩ := dOf_pos hxd
  rw [dOf_self w.goal.1 w.goal.2]
  exact Int.le_refl 0
 obtain ⟨hs1, hs2⟩ := path_stop HV.1.1 hdz
 rw [show ((cx.toNat : Nat) : Int) = cx from by omega] at hs1
 refine wp_exit (then_e (then_e (blk_e (then_n ?_))))
 refine rs S (tr (mv rfl)<|la (av rfl)) ?_; clear S; intro a u S
 refine wp_ret ?_
 replace S := S.fz 2 rfl
 refine ret1 rfl S.s rfl ?_
 replace S := S.pk []
 have hx14 : pathV t f da dz = ps := by
  unfold pathV; rw [if_pos ⟨hK, hd0⟩, hpp, hs1, hps]
 rw [hx14]
 refine ⟨ps_a, ps_c, rfl, (S.u 2 rfl), S.m.c⟩
set_option maxHeartbeats 2000000 in
set_option maxRecDepth 20000 in
theorem r14Links (w : World) (F : Nat → Prop) (hF : Old F w) (M : MS [] w) (t : Topo) (t_w : topoE.wf (Fr F []) w.heap t) (f : Fail) (f_w : failE.wf (Fr F []) w.heap f) (da : Int) (da_h : inI64 da) (dz : Int) (dz_h : inI64 dz) :
 Calls Try.prog 67 #[.agg (topoE.cells t).toArray, .agg (failE.cells f).toArray, iI da, iI dz] w fun e w' => ∃ (ra : Option Addr) (rc : Nat), e = .returned (.slice ra ((linkV t f da dz).length) rc) ∧ (slE intE).wf (Fr F []) w'.heap (Sl.mk ra rc (linkV t f da dz)) ∧ Tr [] w [] w' := by
 have : t.devs.xs.length ≤ 9223372036854775807 := (t_w.1).1.len
 have : t.links.xs.length ≤ 9223372036854775807 := (t_w.2.1).1.len
 have : t.edges.xs.length ≤ 9223372036854775807 := (t_w.2.2.1).1.len
 have : t.pools.xs.length ≤ 9223372036854775807 := (t_w.2.2.2.1).1.len
 obtain ⟨_, _⟩ : inI64 t.tol := t_w.2.2.2.2
 have : f.links.xs.length ≤ 9223372036854775807 := (f_w.1).1.len
 have : f.devs.xs.length ≤ 9223372036854775807 := (f_w.2).1.len
 obtain ⟨da_hl, da_hu⟩ : inI64 da := id da_h
 obtain ⟨dz_hl, dz_hu⟩ : inI64 dz := id dz_h
 refine go Try.func67 rfl 36 rfl [wfF topoE t, wfF failE f] [] hF M ⟨t_w, f_w, trivial⟩ trivial ?_
 intro a S
 refine rs0 ?_
 refine nbp S (x_box _ (S.e rfl) rfl) ?_; clear S; intro a u b4 S
 refine nbp S (x_box _ (S.e rfl) rfl) ?_; clear S; intro a u b5 S
 refine ens S (la (av rfl)) ?_; clear S; intro a u S
 refine rs S (la (av rfl)) ?_; clear S; intro a u S
 refine rs0 ?_
 refine sp S (tr (ldkw 0 rfl rfl wD28)<|tr (ldkw 1 rfl rfl wD41)<|tr (mv rfl)<|la (mv rfl)) ?_; clear S; intro a u S
 refine cl S (r14Path _ _ S.x (.nil _) t (dn0 (S.u 0 rfl)) f (dn0 (S.u 1 rfl)) da da_h dz dz_h) cB66 ?_
 rintro e u ⟨ra_t16, rc_t16, rfl, R_t16, T0⟩; refine ⟨_, rfl, fun a s => ?_⟩
 replace S := (S.k0 s T0).ar (wfF (slE intE) (Sl.mk ra_t16 rc_t16 (pathV t f da dz))) (Enc.up _ R_t16); clear s T0 R_t16
 have hn4 : (pathV t f da dz).length ≤ 9223372036854775807 := ((S.u 2 rfl)).1.len
 refine ens S (la (av rfl)) ?_; clear S; intro a u S
 refine wp_seq ?_
 refine rs S (la (av rfl)) ?_; clear S; intro a u S
 refine wp_block ?_
 replace S := S.nr intE 3
 refine lp4 (fun (k : Nat) (ls_a : Option Addr) (ls_c : Nat) (ls : List Int) => [(3, iI dz), (4, pT b4 0), (5, pT b5 0), (8, .slice none 0 0), (10, .slice ra_t16 ((pathV t f da dz).length) rc_t16), (11, iN k), (9, .slice ls_a ls.length ls_c)]) (fun (k : Nat) (ls_a : Option Addr) (ls_c : Nat) (ls : List Int) => [blO b4 (topoE.cells t) 28, blO b5 (failE.cells f) 41, rwO intE 3 w.heap.size ls_a ls_c ls]) (fun (k : Nat) (ls_a : Option Addr) (ls_c : Nat) (ls : List Int) => k ≤ (linkV t f da dz).length ∧ ls = (linkV t f da dz).take k) (fun (k : Nat) (ls_a : Option Addr) (ls_c : Nat) (ls : List Int) => (pathV t f da dz).length - k) S 0 none 0 ([]) (subM rfl) rfl ?_ ?_
 ·exact ⟨Nat.zero_le _, rfl⟩
 clear S; intro k ls_a ls_c ls a u S hR
 have ls_len := (S.row 2 rfl).len_le; simp only [maxLen] at ls_len
 obtain ⟨hk, hls⟩ := hR
 have hlk := link_small t f da dz
 refine wp_seq ?_
 refine rs S (tr (mv rfl)<|tr (addi ((k + 1 : Nat) : Int) rfl rfl (w_i64 (by omega)))<|tr (mv rfl)<|tr (leni uT22 rfl)<|la (lssi rfl rfl)) ?_; clear S; intro a u S
 refine cd S rfl ?_ ?_
 ·intro hc0
  have hps := path_small t f da dz
  rcases pv_cases t f da dz with ⟨_, hp1, hp2⟩ | ⟨hK, hd0, hT⟩
  ·rw [hp1] at hc0; simp only [List.length_nil] at hc0; omega
  have hTl := hT.len
  have hnx := next_at hK hT (i := k) (by omega)
  have hnbd := next_bd t f ((pathV t f da dz).getD k intE.dflt) dz
  have hlsl := congrArg List.length hls
  rw [List.length_take] at hlsl
  refine wp_skip (then_n (wp_seq (wp_block ?_)))
  obtain ⟨hl7, hu7⟩ : inI64 ((pathV t f da dz).getD k intE.dflt) := id ((show LAt intE _ _ ra_t16 (pathV t f da dz) from ((S.u 2 rfl)).1).wf k (by omega))
  refine dr (P := Try.prog) S 10 [] [(24, .is _), (25, .is _), (26, .is _), (27, .is _), (28, .is _), (29, .is _), (30, .is _), (31, .is _), (32, .is _), (33, .of (fun z w => ∃ (x33a : Nat), z = .slice (some ⟨x33a, 0, none⟩) 1 1 ∧ (slE intE).wf (Fr F [one b4, one b5, abk ls_a]) w.heap (Sl.mk (some ⟨x33a, 0, none⟩) 1 ([nextV t f ((pathV t f da dz).getD k intE.dflt) dz]))) (fun v w w' c h => let ⟨x33a, hv, h0⟩ := h; ⟨x33a, hv, Enc.kp (slE intE) h0 c (fun _ h => by simp at h)⟩))] [[], [], [], [], [], [27, 28], [29], [], [25, 26, 30, 31], [32]] [24, 33] _ ⟨qd (mv rfl), qd (ldkw 0 rfl rfl wD28), qd (ldkw 1 rfl rfl wD41), qd (mv rfl), qd (mv rfl), qd (idxi uT22 sZ3 rfl rfl k rfl (by omega) ((show LAt intE _ _ ra_t16 (pathV t f da dz) from ((S.u 2 rfl)).1).adr (i := k) (by omega))), qd (ov fun S=>x_load sC3 (S.e rfl) ((show LAt intE _ _ ra_t16 (pathV t f da dz) from ((S.u 2 rfl)).1).cell k (by omega) 0 _ rfl)), qd (mv rfl), qd (oc (fun S=>r14Next _ _ S.x (.nil _) t (dn0 (S.u 0 rfl)) f (dn0 (S.u 1 rfl)) ((pathV t f da dz).getD k intE.dflt) ((show LAt intE _ _ ra_t16 (pathV t f da dz) from ((S.u 2 rfl)).1).wf k (by omega)) dz dz_h) cB65), ?_, trivial⟩ ?_
  ·skip
   intro a u S G hE
   refine hnb 33 S.m (x_bsl [(0, iI (nextV t f ((pathV t f da dz).getD k intE.dflt) dz))] [iI (nextV t f ((pathV t f da dz).getD k intE.dflt) dz)] uT22 iZ3 (by decide) (by decide) (by simp only [List.map_cons, List.map_nil, S.e (x := .tmp 32) (v := iI (nextV t f ((pathV t f da dz).getD k intE.dflt) dz)) rfl]) (by kernel_rfl)) fun g => (show ∃ _, _ from ⟨_, rfl, sl_of_blk (Blk.new _ [iI (nextV t f ((pathV t f da dz).getD k intE.dflt) dz)] 3) [nextV t f ((pathV t f da dz).getD k intE.dflt) dz] 1 rfl (by decide) (by decide) rfl (fr_fresh S.m.c S.m.f rfl) ?_⟩)
   intro x hx; simp only [List.mem_cons, List.not_mem_nil, or_false] at hx; rw [hx] <;> first | exact Enc.tr (intE) (show intE.wf (Fr F (ow _)) _ (nextV t f ((pathV t f da dz).getD k intE.dflt) dz) from (show inI64 (nextV t f ((pathV t f da dz).getD k intE.dflt) dz) from ⟨by omega, by omega⟩)) (Tr.of_ch0 S.M g)
  clear S; intro a u S G hE
  obtain ⟨e33, -⟩ := hE
  obtain ⟨x33_8, e33, X8⟩ := e33
  replace S := S.ext e33
  clear e33
  replace S := S.ar (wfF (slE intE) (Sl.mk (some ⟨x33_8, 0, none⟩) 1 ([nextV t f ((pathV t f da dz).getD k intE.dflt) dz]))) X8
  have hn9 : ([nextV t f ((pathV t f da dz).getD k intE.dflt) dz]).length ≤ 9223372036854775807 := ((S.u 3 rfl)).1.len
  obtain ⟨hl10, hu10⟩ : inI64 ((pathV t f da dz).getD k intE.dflt) := id ((show LAt intE _ _ ra_t16 (pathV t f da dz) from ((S.u 2 rfl)).1).wf k (by omega))
  obtain ⟨hl11, hu11⟩ : inI64 dz := id dz_h
  refine ap (E := intE) (ys := [nextV t f ((pathV t f da dz).getD k intE.dflt) dz]) S 2 rfl uT22 iZ3 rfl rfl (show LAt intE _ _ (some ⟨x33_8, 0, none⟩) ([nextV t f ((pathV t f da dz).getD k intE.dflt) dz]) from ((S.u 3 rfl)).1) ((S.u 3 rfl)).2.2 (LAt.mem (show LAt intE _ _ (some ⟨x33_8, 0, none⟩) ([nextV t f ((pathV t f da dz).getD k intE.dflt) dz]) from ((S.u 3 rfl)).1)) ⟨by unfold maxLen; (try simp only [List.length_cons, List.length_nil, List.length_append, List.length_map]); omega, by (try simp only [List.length_cons, List.length_nil, List.length_append, List.length_map]); omega⟩ ?_; clear S; intro a u ad34 cap34 S
  refine en S (la (av rfl)) ?_; clear S; intro a u S
  refine blk_n (then_n ?_)
  refine rg S (tr (mv rfl)<|tr (addi ((k + 1 : Nat) : Int) rfl rfl (w_i64 (by omega)))<|la (av rfl)) ?_; clear S; intro a u S
  refine then_n ?_
  refine ⟨(k + 1), ad34, cap34, (ls ++ [nextV t f ((pathV t f da dz).getD k intE.dflt) dz]), S.re (subM rfl) rfl rfl, ?_, ?_⟩
  ·exact ⟨by omega, by rw [take_snocD 0 (by omega), ← hls, ← hnx]; rfl⟩
  omega
 intro hc1
 refine wp_exit (then_e (then_e (blk_e (then_n ?_))))
 refine rs S (tr (mv rfl)<|la (av rfl)) ?_; clear S; intro a u S
 refine wp_ret ?_
 replace S := S.fz 2 rfl
 refine ret1 rfl S.s rfl ?_
 replace S := S.pk []
 have hx14 : linkV t f da dz = ls := by
  have hkl : (linkV t f da dz).length ≤ k := by
   rcases pv_cases t f da dz with ⟨_, hp1, hp2⟩ | ⟨hK, hd0, hT⟩
   ·rw [hp2]; exact Nat.zero_le _
   have := hT.len; omega
  rw [hls, List.take_of_length_le hkl]
 rw [hx14]
 refine ⟨ls_a, ls_c, rfl, (S.u 3 rfl), S.m.c⟩
end Go.Proofs.Ytfanmniaolncbaa.V
