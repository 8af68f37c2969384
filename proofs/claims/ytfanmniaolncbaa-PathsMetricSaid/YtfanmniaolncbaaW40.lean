/- the laws on paths: distances -/
import Derived.Test.YtfanmniaolncbaaW14
import Derived.Test.YtfanmniaolncbaaW39
import Derived.Test.YtfanmniaolncbaaPLawM
namespace Go.Proofs.Ytfanmniaolncbaa.V
open Go.RowKit Go.Proofs.Ytfanmniaolncbaa
set_option linter.unusedVariables false
set_option linter.unusedSimpArgs false
set_option maxHeartbeats 2000000 in
set_option maxRecDepth 20000 in
theorem lPMetric (w : World) (F : Nat → Prop) (hF : Old F w) (M : MS [] w) (l : Sl Int) (l_w : (slE intE).wf (Fr F []) w.heap l) :
 Calls Try.prog 10 #[sV l] w fun e w' => e = .returned (bD (True)) ∧ Tr [] w [] w' := by
 have : l.xs.length ≤ 9223372036854775807 := (l_w).1.len
 refine go Try.func10 rfl 202 rfl [wfF (slE intE) l] [] hF M ⟨l_w, trivial⟩ trivial ?_
 intro a S
 refine rs S (la (av rfl)) ?_; clear S; intro a u S
 refine rs0 ?_
 refine sp S (la (mv rfl)) ?_; clear S; intro a u S
 refine cl S (gNew _ _ S.x (.nil _) l (dn0 (S.u 0 rfl))) cB14 ?_
 rintro e u ⟨T16, rfl, TK, T0⟩; refine ⟨_, rfl, fun a s => ?_⟩; replace S := S.kt s T0 TK; clear s T0 TK
 refine ens S (la (av rfl)) ?_; clear S; intro a u S
 refine rs0 ?_
 refine sp S (la (mv rfl)) ?_; clear S; intro a u S
 refine cl S (gTopology _ _ S.x T16 (S.M.pick [0] (by decide)) l (dn1 (js := [0]) (S.u 0 rfl)) (S.t 0 rfl) 6 ⟨by omega, by omega⟩) cB15 ?_
 rintro e u ⟨r_t18, rfl, R_t18, hr_t18, tK, T0⟩; refine ⟨_, rfl, fun a s => ?_⟩
 replace S := (S.k1 0 rfl s T0 tK).ar (wfF topoE r_t18) (Enc.up _ R_t18); clear s T0 tK R_t18
 have HG : genT r_t18 := hr_t18
 have HT := HG.1
 have hB := HG.1.1
 unfold topB at hB
 obtain ⟨-, hB1, hB2, hB3, hB4⟩ := HG
 have hn4 : r_t18.devs.xs.length ≤ 9223372036854775807 := ((S.u 1 rfl).1).1.len
 have hn5 : r_t18.links.xs.length ≤ 9223372036854775807 := ((S.u 1 rfl).2.1).1.len
 have hn6 : r_t18.edges.xs.length ≤ 9223372036854775807 := ((S.u 1 rfl).2.2.1).1.len
 have hn7 : r_t18.pools.xs.length ≤ 9223372036854775807 := ((S.u 1 rfl).2.2.2.1).1.len
 obtain ⟨hl8, hu8⟩ : inI64 r_t18.tol := id ((S.u 1 rfl).2.2.2.2)
 refine nbp S (x_allocz _ iZ28 rfl) ?_; clear S; intro a u b4 S
 refine ens S (la (stkw 1 rfl rfl rfl)) ?_; clear S; intro a u S
 refine rs0 ?_
 refine sp S (tr (mv rfl)<|la (ldkw 1 rfl rfl wD28)) ?_; clear S; intro a u S
 refine cl S (gFailure _ _ S.x T16 (S.M.pick [0] (by decide)) l (dn1 (js := [0]) (S.u 0 rfl)) (S.t 0 rfl) r_t18 (dn1 (js := [0]) (S.u 1 rfl)) (by omega)) cB25 ?_
 rintro e u ⟨r_t21, rfl, R_t21, hr_t21, tK, T0⟩; refine ⟨_, rfl, fun a s => ?_⟩
 replace S := (S.k1 0 rfl s T0 tK).ar (wfF failE r_t21) (Enc.up _ R_t21); clear s T0 tK R_t21
 have HV := failR_valid hr_t21 HT
 have hn10 : r_t21.links.xs.length ≤ 9223372036854775807 := ((S.u 2 rfl).1).1.len
 have hn11 : r_t21.devs.xs.length ≤ 9223372036854775807 := ((S.u 2 rfl).2).1.len
 refine nbp S (x_allocz _ iZ41 rfl) ?_; clear S; intro a u b5 S
 refine ens S (la (stkw 2 rfl rfl rfl)) ?_; clear S; intro a u S
 refine rs S (tr (fldi 0 0 rfl uT28)<|tr (ldk 1 sC23 rfl rfl rfl)<|tr (leni uT23 rfl)<|la (av rfl)) ?_; clear S; intro a u S
 refine rs S (la (av rfl)) ?_; clear S; intro a u S
 refine wp_seq ?_
 refine rs S (la (av rfl)) ?_; clear S; intro a u S
 refine wp_block ?_
 replace S := S.nr (slE intE) 22
 refine lp4 (fun (a0 : Nat) (dd_a : Option Addr) (dd_c : Nat) (dd : List (Sl Int)) => [(4, pT b4 0), (5, pT b5 0), (6, iN r_t18.devs.xs.length), (8, iN a0), (7, .slice dd_a dd.length dd_c)]) (fun (a0 : Nat) (dd_a : Option Addr) (dd_c : Nat) (dd : List (Sl Int)) => [tpO 62 T16 l, blO b4 (topoE.cells r_t18) 28, blO b5 (failE.cells r_t21) 41, rwO (slE intE) 22 w.heap.size dd_a dd_c dd]) (fun (a0 : Nat) (dd_a : Option Addr) (dd_c : Nat) (dd : List (Sl Int)) => a0 ≤ r_t18.devs.xs.length ∧ dd.length = a0 ∧ ∀ j, j < a0 → (dd.getD j (slE intE).dflt).xs = distsOf r_t18 r_t21 j) (fun (a0 : Nat) (dd_a : Option Addr) (dd_c : Nat) (dd : List (Sl Int)) => r_t18.devs.xs.length - a0) S 0 none 0 ([]) (subM rfl) rfl ?_ ?_
 ·exact ⟨Nat.zero_le _, rfl, fun j h => by omega⟩
 clear S; intro a0 dd_a dd_c dd a u S hR
 have dd_len := (S.row 3 rfl).len_le; simp only [maxLen] at dd_len
 obtain ⟨ha0, hdl, hdd⟩ := hR
 refine wp_seq ?_
 refine rs S (tr (mv rfl)<|tr (mv rfl)<|la (lssi rfl rfl)) ?_; clear S; intro a u S
 refine cd S rfl ?_ ?_
 ·intro hc0
  refine wp_skip (then_n (wp_seq (wp_block (rs0 ?_))))
  refine sp S (tr (ldkw 1 rfl rfl wD28)<|tr (ldkw 2 rfl rfl wD41)<|la (mv rfl)) ?_; clear S; intro a u S
  refine cl S (pDist _ _ S.x (.nil _) r_t18 (dn0 (S.u 1 rfl)) r_t21 (dn0 (S.u 2 rfl)) ((a0 : Nat) : Int) ⟨by omega, by omega⟩) cB38 ?_
  rintro e u ⟨ra_t33, rc_t33, rfl, R_t33, T0⟩; refine ⟨_, rfl, fun a s => ?_⟩
  replace S := (S.k0 s T0).ar (wfF (slE intE) (Sl.mk ra_t33 rc_t33 (distV r_t18 r_t21 ((a0 : Nat) : Int)))) (Enc.up _ R_t33); clear s T0 R_t33
  have hdv : distV r_t18 r_t21 ((a0 : Nat) : Int) = distsOf r_t18 r_t21 a0 := dist_nat HV (by omega)
  have hdl2 : (distV r_t18 r_t21 ((a0 : Nat) : Int)).length = r_t18.devs.xs.length := by rw [hdv]; exact dists_len
  have hn17 : (distV r_t18 r_t21 ((a0 : Nat) : Int)).length ≤ 9223372036854775807 := ((S.u 3 rfl)).1.len
  refine ens S (la (av rfl)) ?_; clear S; intro a u S
  refine wp_seq ?_
  refine rs S (tr (mv rfl)<|tr (leni uT22 rfl)<|tr (mv rfl)<|la (neqi rfl rfl)) ?_; clear S; intro a u S
  refine cd S rfl ?_ ?_
  ·intro hc1
   refine rs S (la (av rfl)) ?_; clear S; intro a u S
   refine wp_ret (then_r (blk_r (then_r (then_r (blk_r (then_r ?_))))))
   refine ret1 rfl S.s rfl ?_
   replace S := S.pk []
   refine ⟨(r1 (vf ?_)), S.m.c⟩
   intro _; omega
  intro hc2
  refine wp_skip (then_n (r0 ?_))
  refine sp S (tr (mv rfl)<|la (mv rfl)) ?_; clear S; intro a u S
  refine nbs (slE intE) S [(Sl.mk ra_t33 rc_t33 (distV r_t18 r_t21 ((a0 : Nat) : Int)))] (x_bs S [(0, .slice ra_t33 ((distV r_t18 r_t21 ((a0 : Nat) : Int)).length) rc_t33)] uT55 iZ22) (fun x hx => by simp only [List.mem_cons, List.not_mem_nil, or_false] at hx; rw [hx]; exact (show (slE intE).wf _ _ (Sl.mk ra_t33 rc_t33 (distV r_t18 r_t21 ((a0 : Nat) : Int))) from (S.u 3 rfl))) ?_; clear S; intro a u b40 S
  refine ap (E := (slE intE)) (ys := [(Sl.mk ra_t33 rc_t33 (distV r_t18 r_t21 ((a0 : Nat) : Int)))]) S 3 rfl uT55 iZ22 rfl rfl (show LAt (slE intE) _ _ (some ⟨b40, 0, none⟩) ([(Sl.mk ra_t33 rc_t33 (distV r_t18 r_t21 ((a0 : Nat) : Int)))]) from ((S.u 4 rfl)).1) ((S.u 4 rfl)).2.2 (LAt.mem (show LAt (slE intE) _ _ (some ⟨b40, 0, none⟩) ([(Sl.mk ra_t33 rc_t33 (distV r_t18 r_t21 ((a0 : Nat) : Int)))]) from ((S.u 4 rfl)).1)) ⟨by unfold maxLen; (try simp only [List.length_cons, List.length_nil, List.length_append, List.length_map]); omega, by (try simp only [List.length_cons, List.length_nil, List.length_append, List.length_map]); omega⟩ ?_; clear S; intro a u ad41 cap41 S
  refine en S (la (av rfl)) ?_; clear S; intro a u S
  refine blk_n (then_n ?_)
  refine rg S (tr (mv rfl)<|tr (addi ((a0 + 1 : Nat) : Int) rfl rfl (w_i64 (by omega)))<|la (av rfl)) ?_; clear S; intro a u S
  refine then_n ?_
  refine ⟨(a0 + 1), ad41, cap41, (dd ++ [(Sl.mk ra_t33 rc_t33 (distV r_t18 r_t21 ((a0 : Nat) : Int)))]), S.re (subM rfl) rfl rfl, ?_, ?_⟩
  ·exact ⟨by omega, by rw [List.length_append, hdl]; rfl, snocD (P := fun j x => x.xs = distsOf r_t18 r_t21 j) hdl hdd hdv⟩
  omega
 intro hc3
 have ha0n : a0 = r_t18.devs.xs.length := by omega
 refine wp_exit (then_e (then_e (blk_e (then_n (wp_seq ?_)))))
 refine rs S (la (av rfl)) ?_; clear S; intro a u S
 refine wp_block ?_
 refine lp1 (fun (a1 : Nat) => [(4, pT b4 0), (5, pT b5 0), (6, iN r_t18.devs.xs.length), (7, .slice dd_a dd.length dd_c), (10, iN a1)]) (fun (a1 : Nat) => [tpO 62 T16 l, blO b4 (topoE.cells r_t18) 28, blO b5 (failE.cells r_t21) 41, rwO (slE intE) 22 w.heap.size dd_a dd_c dd]) (fun (a1 : Nat) => a1 ≤ r_t18.devs.xs.length ∧ True) (fun (a1 : Nat) => r_t18.devs.xs.length - a1) S 0 (subM rfl) rfl ?_ ?_
 ·exact ⟨Nat.zero_le _, by trivial⟩
 clear S; intro a1 a u S hR
 obtain ⟨ha1, hxa1⟩ := hR
 refine wp_seq ?_
 refine rs S (tr (mv rfl)<|tr (mv rfl)<|la (lssi rfl rfl)) ?_; clear S; intro a u S
 refine cd S rfl ?_ ?_
 ·intro hc4
  have pea : (dd.getD a1 (slE intE).dflt).xs = distsOf r_t18 r_t21 a1 := hdd _ (by omega)
  have pla := congrArg List.length pea; rw [dists_len] at pla
  refine wp_skip (then_n (wp_seq (wp_block ?_)))
  refine rs S (la (av rfl)) ?_; clear S; intro a u S
  refine wp_block ?_
  refine lp1 (fun (b1 : Nat) => [(4, pT b4 0), (5, pT b5 0), (6, iN r_t18.devs.xs.length), (7, .slice dd_a dd.length dd_c), (10, iN a1), (42, iN a1), (43, iN r_t18.devs.xs.length), (44, bD (((a1 : Nat) : Int) < ((r_t18.devs.xs.length : Nat) : Int))), (11, iN b1)]) (fun (b1 : Nat) => [tpO 62 T16 l, blO b4 (topoE.cells r_t18) 28, blO b5 (failE.cells r_t21) 41, rwO (slE intE) 22 w.heap.size dd_a dd_c dd]) (fun (b1 : Nat) => b1 ≤ r_t18.devs.xs.length ∧ True) (fun (b1 : Nat) => r_t18.devs.xs.length - b1) S 0 (subM rfl) rfl ?_ ?_
  ·exact ⟨Nat.zero_le _, by trivial⟩
  clear S; intro b1 a u S hR
  obtain ⟨hb1, hxb1⟩ := hR
  refine wp_seq ?_
  refine rs S (tr (mv rfl)<|tr (mv rfl)<|la (lssi rfl rfl)) ?_; clear S; intro a u S
  refine cd S rfl ?_ ?_
  ·intro hc5
   have peb : (dd.getD b1 (slE intE).dflt).xs = distsOf r_t18 r_t21 b1 := hdd _ (by omega)
   have plb := congrArg List.length peb; rw [dists_len] at plb
   have pvab : (dd.getD a1 (slE intE).dflt).xs.getD b1 intE.dflt = dOf r_t18 r_t21 a1 b1 := by rw [pea]; exact dists_at (by omega)
   have pqab := dOf_le (f := r_t21) (z := a1) HT b1
   have pvba : (dd.getD b1 (slE intE).dflt).xs.getD a1 intE.dflt = dOf r_t18 r_t21 b1 a1 := by rw [peb]; exact dists_at (by omega)
   have pqba := dOf_le (f := r_t21) (z := b1) HT a1
   have hm := met_one HV (a := a1) (b := b1) (by omega) (by omega)
   refine wp_skip (then_n (wp_seq (wp_block (wp_seq (wp_seq ?_)))))
   have hn26 : ((dd.getD a1 (slE intE).dflt).xs).length ≤ 9223372036854775807 := (((S.row 3 rfl).wfi a1 (by omega))).1.len
   obtain ⟨hl27, hu27⟩ : inI64 (((dd.getD a1 (slE intE).dflt).xs).getD b1 intE.dflt) := id ((((S.row 3 rfl).wfi a1 (by omega))).1.wf b1 (by omega))
   have hn28 : ((dd.getD b1 (slE intE).dflt).xs).length ≤ 9223372036854775807 := (((S.row 3 rfl).wfi b1 (by omega))).1.len
   obtain ⟨hl29, hu29⟩ : inI64 (((dd.getD b1 (slE intE).dflt).xs).getD a1 intE.dflt) := id ((((S.row 3 rfl).wfi b1 (by omega))).1.wf a1 (by omega))
   refine dr (P := Try.prog) S 61 [] ((52, .is _) :: (53, .is _) :: (54, .is _) :: (55, .is _) :: (56, .is _) :: (57, .is _) :: (58, .is _) :: (59, .is _) :: (60, .is _) :: (61, .is _) :: (62, .is _) :: (63, .is _) :: (64, .is _) :: (65, .is _) :: (66, .is _) :: (67, .is _) :: (68, .is _) :: (69, .is _) :: (70, .is _) :: (71, .is _) :: (72, .is _) :: (73, .is _) :: (74, .is _) :: (75, .is _) :: (76, .is _) :: (77, .is _) :: (78, .is _) :: (79, .is _) :: (80, .is _) :: (81, .is _) :: (82, .is _) :: (83, .is _) :: (84, .is _) :: (85, .is _) :: (86, .is _) :: (87, .is _) :: (88, .is _) :: (89, .is _) :: (90, .is _) :: (91, .is _) :: (92, .is _) :: (93, .is _) :: (94, .is _) :: (95, .is _) :: (96, .is _) :: (97, .is _) :: (98, .is _) :: (99, .is _) :: (100, .is _) :: (101, .is _) :: (102, .is _) :: (103, .is _) :: (104, .is _) :: (105, .is _) :: (106, .is _) :: (107, .is _) :: (108, .is _) :: (109, .is _) :: (110, .is _) :: (111, .is _) :: (112, .is _) :: []) ([] :: [] :: [52, 53] :: [54] :: [] :: [55, 56] :: [57] :: [] :: [] :: [59, 60] :: [61] :: [] :: [62, 63] :: [64] :: [58, 65] :: [66] :: [67] :: [67] :: [67, 68, 69] :: [67, 70] :: [67] :: [67, 71, 72] :: [67, 73] :: [67, 74] :: [67] :: [67] :: [67] :: [67] :: [67, 76, 77, 78, 79] :: [67, 75, 80] :: [67, 81] :: [82] :: [83] :: [83] :: [83, 84, 85] :: [83, 86] :: [83] :: [83, 87, 88] :: [83, 89] :: [83, 90] :: [83, 91] :: [92] :: [92] :: [92, 93, 94] :: [83, 92, 95] :: [83, 96] :: [97] :: [98] :: [98] :: [98, 99, 100] :: [98, 101] :: [102] :: [102] :: [102, 103, 104] :: [102, 105] :: [102] :: [102, 106, 107] :: [102, 108] :: [102, 109] :: [98, 102, 110] :: [98, 111] :: []) [112] _ ⟨qd (mv rfl), qd (mv rfl), qd (ov fun S=>x_idx uT55 sZ22 (S.e rfl) (S.e rfl) a1 rfl (by omega) (row_off (S.row 3 rfl) (m := a1) (by omega))), qd (ov fun S=>x_load sC22 (S.e rfl) (((S.row 3 rfl).latz (by first | decide | exact Nat.one_pos)).cell a1 (by omega) 0 _ rfl)), qd (mv rfl), qd (idxi uT22 sZ3 rfl rfl b1 rfl (by omega) ((((S.row 3 rfl).wfi a1 (by omega))).1.adr (i := b1) (by omega))), qd (ov fun S=>x_load sC3 (S.e rfl) ((((S.row 3 rfl).wfi a1 (by omega))).1.cell b1 (by omega) 0 _ rfl)), qd (mv rfl), qd (mv rfl), qd (ov fun S=>x_idx uT55 sZ22 (S.e rfl) (S.e rfl) b1 rfl (by omega) (row_off (S.row 3 rfl) (m := b1) (by omega))), qd (ov fun S=>x_load sC22 (S.e rfl) (((S.row 3 rfl).latz (by first | decide | exact Nat.one_pos)).cell b1 (by omega) 0 _ rfl)), qd (mv rfl), qd (idxi uT22 sZ3 rfl rfl a1 rfl (by omega) ((((S.row 3 rfl).wfi b1 (by omega))).1.adr (i := a1) (by omega))), qd (ov fun S=>x_load sC3 (S.e rfl) ((((S.row 3 rfl).wfi b1 (by omega))).1.cell a1 (by omega) 0 _ rfl)), qd (neqi rfl rfl), qd (mv rfl), qd (og 67 rfl gf fun S hg=>x_move (S.e rfl)), qd (og 67 rfl gf fun S hg=>x_move (S.e rfl)), qd (og 67 rfl gf fun S hg=>x_idx uT55 sZ22 (S.p rfl hg) (S.p rfl hg) a1 rfl (by omega) (row_off (S.row 3 rfl) (m := a1) (by omega))), qd (og 67 rfl gf fun S hg=>x_load sC22 (S.p rfl hg) (((S.row 3 rfl).latz (by first | decide | exact Nat.one_pos)).cell a1 (by omega) 0 _ rfl)), qd (og 67 rfl gf fun S hg=>x_move (S.e rfl)), qd (og 67 rfl gf fun S hg=>x_idx uT22 sZ3 (S.p rfl hg) (S.p rfl hg) b1 rfl (by omega) ((((S.row 3 rfl).wfi a1 (by omega))).1.adr (i := b1) (by omega))), qd (og 67 rfl gf fun S hg=>x_load sC3 (S.p rfl hg) ((((S.row 3 rfl).wfi a1 (by omega))).1.cell b1 (by omega) 0 _ rfl)), qd (og 67 rfl gf fun S hg=>x_geq (S.p rfl hg) (S.e rfl)), qd (og 67 rfl gf fun S hg=>x_ldw (S.e rfl) (S.k 1 rfl).all wD28), qd (og 67 rfl gf fun S hg=>x_ldw (S.e rfl) (S.k 2 rfl).all wD41), qd (og 67 rfl gf fun S hg=>x_move (S.e rfl)), qd (og 67 rfl gf fun S hg=>x_move (S.e rfl)), qd (ocg 67 rfl gf (fun S hg=>rConn _ _ S.x (.nil _) r_t18 (dn0 (S.u 1 rfl)) r_t21 (dn0 (S.u 2 rfl)) ((a1 : Nat) : Int) ⟨by omega, by omega⟩ ((b1 : Nat) : Int) ⟨by omega, by omega⟩) cB39 fun S=>⟨fun hg=>(S.p rfl hg), fun hg=>(S.p rfl hg), fun hg=>(S.p rfl hg), fun hg=>(S.p rfl hg), trivial⟩), qd (og 67 rfl gf fun S hg=>x_bpneq uT4 (S.p rfl hg) (S.p rfl hg)), qd (ori rfl rfl rfl), qd (mv rfl), qd (og 83 rfl gf fun S hg=>x_move (S.e rfl)), qd (og 83 rfl gf fun S hg=>x_move (S.e rfl)), qd (og 83 rfl gf fun S hg=>x_idx uT55 sZ22 (S.p rfl hg) (S.p rfl hg) a1 rfl (by omega) (row_off (S.row 3 rfl) (m := a1) (by omega))), qd (og 83 rfl gf fun S hg=>x_load sC22 (S.p rfl hg) (((S.row 3 rfl).latz (by first | decide | exact Nat.one_pos)).cell a1 (by omega) 0 _ rfl)), qd (og 83 rfl gf fun S hg=>x_move (S.e rfl)), qd (og 83 rfl gf fun S hg=>x_idx uT22 sZ3 (S.p rfl hg) (S.p rfl hg) b1 rfl (by omega) ((((S.row 3 rfl).wfi a1 (by omega))).1.adr (i := b1) (by omega))), qd (og 83 rfl gf fun S hg=>x_load sC3 (S.p rfl hg) ((((S.row 3 rfl).wfi a1 (by omega))).1.cell b1 (by omega) 0 _ rfl)), qd (og 83 rfl gf fun S hg=>x_eql (S.p rfl hg) (S.e rfl)), qd (og 83 rfl gf fun S hg=>x_move (S.p rfl hg)), qd (og 92 rfl ggt fun S hg=>x_move (S.e rfl)), qd (og 92 rfl ggt fun S hg=>x_move (S.e rfl)), qd (og 92 rfl ggt fun S hg=>x_neq (S.p rfl hg) (S.p rfl hg)), qd (og 83 rfl gf fun S hg=>x_and (S.p rfl hg) (fun hl => (S.p rfl (And.intro hg hl))) (S.e rfl)), qd (ori rfl rfl rfl), qd (mv rfl), qd (og 98 rfl gf fun S hg=>x_move (S.e rfl)), qd (og 98 rfl gf fun S hg=>x_move (S.e rfl)), qd (og 98 rfl gf fun S hg=>x_eql (S.p rfl hg) (S.p rfl hg)), qd (og 98 rfl gf fun S hg=>x_move (S.p rfl hg)), qd (og 102 rfl ggt fun S hg=>x_move (S.e rfl)), qd (og 102 rfl ggt fun S hg=>x_move (S.e rfl)), qd (og 102 rfl ggt fun S hg=>x_idx uT55 sZ22 (S.p rfl hg) (S.p rfl hg) a1 rfl (by omega) (row_off (S.row 3 rfl) (m := a1) (by omega))), qd (og 102 rfl ggt fun S hg=>x_load sC22 (S.p rfl hg) (((S.row 3 rfl).latz (by first | decide | exact Nat.one_pos)).cell a1 (by omega) 0 _ rfl)), qd (og 102 rfl ggt fun S hg=>x_move (S.e rfl)), qd (og 102 rfl ggt fun S hg=>x_idx uT22 sZ3 (S.p rfl hg) (S.p rfl hg) b1 rfl (by omega) ((((S.row 3 rfl).wfi a1 (by omega))).1.adr (i := b1) (by omega))), qd (og 102 rfl ggt fun S hg=>x_load sC3 (S.p rfl hg) ((((S.row 3 rfl).wfi a1 (by omega))).1.cell b1 (by omega) 0 _ rfl)), qd (og 102 rfl ggt fun S hg=>x_gtr (S.p rfl hg) (S.e rfl)), qd (og 98 rfl gf fun S hg=>x_and (S.p rfl hg) (fun hl => (S.p rfl (And.intro hg hl))) (S.e rfl)), qd (ori rfl rfl rfl), trivial⟩ ?_
   clear S; intro a u S G hE
   obtain ⟨hl30, hu30⟩ : inI64 (((dd.getD a1 (slE intE).dflt).xs).getD b1 intE.dflt) := id ((((S.row 3 rfl).wfi a1 (by omega))).1.wf b1 (by omega))
   obtain ⟨hl31, hu31⟩ : inI64 (((dd.getD b1 (slE intE).dflt).xs).getD a1 intE.dflt) := id ((((S.row 3 rfl).wfi b1 (by omega))).1.wf a1 (by omega))
   refine ent ?_
   refine cd S rfl ?_ ?_
   ·intro hc6
    refine rs S (la (av rfl)) ?_; clear S; intro a u S
    refine wp_ret (then_r (blk_r (then_r (then_r (blk_r (blk_r (then_r (then_r (blk_r (then_r ?_))))))))))
    refine ret1 rfl S.s rfl ?_
    replace S := S.pk []
    refine ⟨(r1 (vf ?_)), S.m.c⟩
    intro _; rw [pvab, pvba] at hc6
    rcases hc6 with ((h | h) | h) | h
    ·exact h hm.1
    ·exact h hm.2.1
    ·have := hm.2.2.1 h.1; omega
    have := hm.2.2.2 (by omega); omega
   intro hc7
   refine wp_skip (then_n ?_)
   refine rs S (la (av rfl)) ?_; clear S; intro a u S
   refine wp_block ?_
   refine lp1 (fun (c1 : Nat) => [(4, pT b4 0), (5, pT b5 0), (6, iN r_t18.devs.xs.length), (7, .slice dd_a dd.length dd_c), (10, iN a1), (42, iN a1), (43, iN r_t18.devs.xs.length), (44, bD (((a1 : Nat) : Int) < ((r_t18.devs.xs.length : Nat) : Int))), (11, iN b1), (47, iN b1), (48, iN r_t18.devs.xs.length), (49, bD (((b1 : Nat) : Int) < ((r_t18.devs.xs.length : Nat) : Int))), (112, bD ((((¬ (((dd.getD a1 (slE intE).dflt).xs).getD b1 intE.dflt) = (((dd.getD b1 (slE intE).dflt).xs).getD a1 intE.dflt)) ∨ (¬ ((0 ≤ (((dd.getD a1 (slE intE).dflt).xs).getD b1 intE.dflt)) ↔ (connV r_t18 r_t21 ((a1 : Nat) : Int) ((b1 : Nat) : Int))))) ∨ (((((dd.getD a1 (slE intE).dflt).xs).getD b1 intE.dflt) = 0) ∧ (¬ ((a1 : Nat) : Int) = ((b1 : Nat) : Int)))) ∨ ((((a1 : Nat) : Int) = ((b1 : Nat) : Int)) ∧ (0 < (((dd.getD a1 (slE intE).dflt).xs).getD b1 intE.dflt))))), (12, iN c1)]) (fun (c1 : Nat) => [tpO 62 T16 l, blO b4 (topoE.cells r_t18) 28, blO b5 (failE.cells r_t21) 41, rwO (slE intE) 22 w.heap.size dd_a dd_c dd]) (fun (c1 : Nat) => c1 ≤ r_t18.devs.xs.length ∧ True) (fun (c1 : Nat) => r_t18.devs.xs.length - c1) S 0 (subM rfl) rfl ?_ ?_
   ·exact ⟨Nat.zero_le _, by trivial⟩
   clear S; intro c1 a u S hR
   obtain ⟨hc1, hxc1⟩ := hR
   refine wp_seq ?_
   refine rs S (tr (mv rfl)<|tr (mv rfl)<|la (lssi rfl rfl)) ?_; clear S; intro a u S
   refine cd S rfl ?_ ?_
   ·intro hc8
    have pvbc : (dd.getD b1 (slE intE).dflt).xs.getD c1 intE.dflt = dOf r_t18 r_t21 b1 c1 := by rw [peb]; exact dists_at (by omega)
    have pqbc := dOf_le (f := r_t21) (z := b1) HT c1
    have pvac : (dd.getD a1 (slE intE).dflt).xs.getD c1 intE.dflt = dOf r_t18 r_t21 a1 c1 := by rw [pea]; exact dists_at (by omega)
    have pqac := dOf_le (f := r_t21) (z := a1) HT c1
    refine wp_skip (then_n (wp_seq (wp_block (wp_seq ?_))))
    have hn35 : ((dd.getD a1 (slE intE).dflt).xs).length ≤ 9223372036854775807 := (((S.row 3 rfl).wfi a1 (by omega))).1.len
    refine dr (P := Try.prog) S 53 [] ((118, .is _) :: (119, .is _) :: (120, .is _) :: (121, .is _) :: (122, .is _) :: (123, .is _) :: (124, .is _) :: (125, .is _) :: (126, .is _) :: (127, .is _) :: (128, .is _) :: (129, .is _) :: (130, .is _) :: (131, .is _) :: (132, .is _) :: (133, .is _) :: (134, .is _) :: (135, .is _) :: (136, .is _) :: (137, .is _) :: (138, .is _) :: (139, .is _) :: (140, .is _) :: (141, .is _) :: (142, .is _) :: (143, .is _) :: (144, .is _) :: (145, .is _) :: (146, .is _) :: (147, .is _) :: (148, .is _) :: (149, .is _) :: (150, .is _) :: (151, .is _) :: (152, .is _) :: (153, .is _) :: (154, .is _) :: (155, .is _) :: (156, .is _) :: (157, .is _) :: (158, .is _) :: (159, .is _) :: (160, .is _) :: (161, .is _) :: (162, .is _) :: (163, .is _) :: (164, .is _) :: (165, .is _) :: (166, .is _) :: (167, .is _) :: (168, .is _) :: (169, .is _) :: (170, .is _) :: []) ([] :: [] :: [118, 119] :: [120] :: [] :: [121, 122] :: [123] :: [124] :: [125] :: [126] :: [126] :: [126, 127, 128] :: [126, 129] :: [126] :: [126, 130, 131] :: [126, 132] :: [126, 133] :: [126, 134] :: [135] :: [136] :: [136] :: [136, 137, 138] :: [136, 139] :: [136] :: [136, 140, 141] :: [136, 142] :: [136, 143] :: [136, 144] :: [145] :: [145] :: [145, 146, 147] :: [145, 148] :: [145] :: [145, 149, 150] :: [145, 151] :: [145] :: [145] :: [145, 153, 154] :: [145, 155] :: [145] :: [145, 156, 157] :: [145, 158] :: [145] :: [145] :: [145, 160, 161] :: [145, 162] :: [145] :: [145, 163, 164] :: [145, 165] :: [145, 159, 166] :: [145, 152, 167] :: [136, 145, 168] :: [136, 169] :: []) [170] _ ⟨qd (mv rfl), qd (mv rfl), qd (ov fun S=>x_idx uT55 sZ22 (S.e rfl) (S.e rfl) a1 rfl (by omega) (row_off (S.row 3 rfl) (m := a1) (by omega))), qd (ov fun S=>x_load sC22 (S.e rfl) (((S.row 3 rfl).latz (by first | decide | exact Nat.one_pos)).cell a1 (by omega) 0 _ rfl)), qd (mv rfl), qd (idxi uT22 sZ3 rfl rfl b1 rfl (by omega) ((((S.row 3 rfl).wfi a1 (by omega))).1.adr (i := b1) (by omega))), qd (ov fun S=>x_load sC3 (S.e rfl) ((((S.row 3 rfl).wfi a1 (by omega))).1.cell b1 (by omega) 0 _ rfl)), qd (geqi rfl rfl), qd (mv rfl), qd (og 126 rfl gt fun S hg=>x_move (S.e rfl)), qd (og 126 rfl gt fun S hg=>x_move (S.e rfl)), qd (og 126 rfl gt fun S hg=>x_idx uT55 sZ22 (S.p rfl hg) (S.p rfl hg) b1 rfl (by omega) (row_off (S.row 3 rfl) (m := b1) (by omega))), qd (og 126 rfl gt fun S hg=>x_load sC22 (S.p rfl hg) (((S.row 3 rfl).latz (by first | decide | exact Nat.one_pos)).cell b1 (by omega) 0 _ rfl)), qd (og 126 rfl gt fun S hg=>x_move (S.e rfl)), qd (og 126 rfl gt fun S hg=>x_idx uT22 sZ3 (S.p rfl hg) (S.p rfl hg) c1 rfl (by omega) ((((S.row 3 rfl).wfi b1 (by omega))).1.adr (i := c1) (by omega))), qd (og 126 rfl gt fun S hg=>x_load sC3 (S.p rfl hg) ((((S.row 3 rfl).wfi b1 (by omega))).1.cell c1 (by omega) 0 _ rfl)), qd (og 126 rfl gt fun S hg=>x_geq (S.p rfl hg) (S.e rfl)), qd (andi rfl rfl rfl), qd (mv rfl), qd (og 136 rfl gt fun S hg=>x_move (S.e rfl)), qd (og 136 rfl gt fun S hg=>x_move (S.e rfl)), qd (og 136 rfl gt fun S hg=>x_idx uT55 sZ22 (S.p rfl hg) (S.p rfl hg) a1 rfl (by omega) (row_off (S.row 3 rfl) (m := a1) (by omega))), qd (og 136 rfl gt fun S hg=>x_load sC22 (S.p rfl hg) (((S.row 3 rfl).latz (by first | decide | exact Nat.one_pos)).cell a1 (by omega) 0 _ rfl)), qd (og 136 rfl gt fun S hg=>x_move (S.e rfl)), qd (og 136 rfl gt fun S hg=>x_idx uT22 sZ3 (S.p rfl hg) (S.p rfl hg) c1 rfl (by omega) ((((S.row 3 rfl).wfi a1 (by omega))).1.adr (i := c1) (by omega))), qd (og 136 rfl gt fun S hg=>x_load sC3 (S.p rfl hg) ((((S.row 3 rfl).wfi a1 (by omega))).1.cell c1 (by omega) 0 _ rfl)), qd (og 136 rfl gt fun S hg=>x_lss (S.p rfl hg) (S.e rfl)), qd (og 136 rfl gt fun S hg=>x_move (S.p rfl hg)), qd (og 145 rfl ggf fun S hg=>x_move (S.e rfl)), qd (og 145 rfl ggf fun S hg=>x_move (S.e rfl)), qd (og 145 rfl ggf fun S hg=>x_idx uT55 sZ22 (S.p rfl hg) (S.p rfl hg) a1 rfl (by omega) (row_off (S.row 3 rfl) (m := a1) (by omega))), qd (og 145 rfl ggf fun S hg=>x_load sC22 (S.p rfl hg) (((S.row 3 rfl).latz (by first | decide | exact Nat.one_pos)).cell a1 (by omega) 0 _ rfl)), qd (og 145 rfl ggf fun S hg=>x_move (S.e rfl)), qd (og 145 rfl ggf fun S hg=>x_idx uT22 sZ3 (S.p rfl hg) (S.p rfl hg) c1 rfl (by omega) ((((S.row 3 rfl).wfi a1 (by omega))).1.adr (i := c1) (by omega))), qd (og 145 rfl ggf fun S hg=>x_load sC3 (S.p rfl hg) ((((S.row 3 rfl).wfi a1 (by omega))).1.cell c1 (by omega) 0 _ rfl)), qd (og 145 rfl ggf fun S hg=>x_move (S.e rfl)), qd (og 145 rfl ggf fun S hg=>x_move (S.e rfl)), qd (og 145 rfl ggf fun S hg=>x_idx uT55 sZ22 (S.p rfl hg) (S.p rfl hg) a1 rfl (by omega) (row_off (S.row 3 rfl) (m := a1) (by omega))), qd (og 145 rfl ggf fun S hg=>x_load sC22 (S.p rfl hg) (((S.row 3 rfl).latz (by first | decide | exact Nat.one_pos)).cell a1 (by omega) 0 _ rfl)), qd (og 145 rfl ggf fun S hg=>x_move (S.e rfl)), qd (og 145 rfl ggf fun S hg=>x_idx uT22 sZ3 (S.p rfl hg) (S.p rfl hg) b1 rfl (by omega) ((((S.row 3 rfl).wfi a1 (by omega))).1.adr (i := b1) (by omega))), qd (og 145 rfl ggf fun S hg=>x_load sC3 (S.p rfl hg) ((((S.row 3 rfl).wfi a1 (by omega))).1.cell b1 (by omega) 0 _ rfl)), qd (og 145 rfl ggf fun S hg=>x_move (S.e rfl)), qd (og 145 rfl ggf fun S hg=>x_move (S.e rfl)), qd (og 145 rfl ggf fun S hg=>x_idx uT55 sZ22 (S.p rfl hg) (S.p rfl hg) b1 rfl (by omega) (row_off (S.row 3 rfl) (m := b1) (by omega))), qd (og 145 rfl ggf fun S hg=>x_load sC22 (S.p rfl hg) (((S.row 3 rfl).latz (by first | decide | exact Nat.one_pos)).cell b1 (by omega) 0 _ rfl)), qd (og 145 rfl ggf fun S hg=>x_move (S.e rfl)), qd (og 145 rfl ggf fun S hg=>x_idx uT22 sZ3 (S.p rfl hg) (S.p rfl hg) c1 rfl (by omega) ((((S.row 3 rfl).wfi b1 (by omega))).1.adr (i := c1) (by omega))), qd (og 145 rfl ggf fun S hg=>x_load sC3 (S.p rfl hg) ((((S.row 3 rfl).wfi b1 (by omega))).1.cell c1 (by omega) 0 _ rfl)), qd (og 145 rfl ggf fun S hg=>x_add (S.p rfl hg) (S.p rfl hg) (r := ((((dd.getD a1 (slE intE).dflt).xs).getD b1 intE.dflt) + (((dd.getD b1 (slE intE).dflt).xs).getD c1 intE.dflt))) (w_i64 (by omega))), qd (og 145 rfl ggf fun S hg=>x_gtr (S.p rfl hg) (S.p rfl hg)), qd (og 136 rfl gt fun S hg=>x_or (S.p rfl hg) (S.e rfl) (fun hl => (S.p rfl (And.intro hg hl)))), qd (andi rfl rfl rfl), trivial⟩ ?_
    clear S; intro a u S G hE
    refine ent ?_
    refine cd S rfl ?_ ?_
    ·intro hc9
     refine rs S (la (av rfl)) ?_; clear S; intro a u S
     refine wp_ret (blk_r (then_r (then_r (blk_r (blk_r (then_r (then_r (blk_r (blk_r (then_r (then_r (blk_r (then_r ?_)))))))))))))
     refine ret1 rfl S.s rfl ?_
     replace S := S.pk []
     refine ⟨(r1 (vf ?_)), S.m.c⟩
     intro _; rw [pvab, pvbc, pvac] at hc9; have := met_tri hc9.1.1 hc9.1.2; omega
    intro hc10
    refine wp_skip (blk_n (then_n ?_))
    refine rg S (tr (mv rfl)<|tr (addi ((c1 + 1 : Nat) : Int) rfl rfl (w_i64 (by omega)))<|la (av rfl)) ?_; clear S; intro a u S
    refine then_n ?_
    refine ⟨(c1 + 1), S.re (subM rfl) rfl rfl, ?_, ?_⟩
    ·refine ⟨by omega, ?_⟩
     trivial
    omega
   intro hc11
   refine wp_exit (then_e (then_e (blk_e (blk_n (then_n ?_)))))
   refine rg S (tr (mv rfl)<|tr (addi ((b1 + 1 : Nat) : Int) rfl rfl (w_i64 (by omega)))<|la (av rfl)) ?_; clear S; intro a u S
   refine then_n ?_
   refine ⟨(b1 + 1), S.re (subM rfl) rfl rfl, ?_, ?_⟩
   ·refine ⟨by omega, ?_⟩
    trivial
   omega
  intro hc12
  refine wp_exit (then_e (then_e (blk_e (blk_n (then_n ?_)))))
  refine rg S (tr (mv rfl)<|tr (addi ((a1 + 1 : Nat) : Int) rfl rfl (w_i64 (by omega)))<|la (av rfl)) ?_; clear S; intro a u S
  refine then_n ?_
  refine ⟨(a1 + 1), S.re (subM rfl) rfl rfl, ?_, ?_⟩
  ·refine ⟨by omega, ?_⟩
   trivial
  omega
 intro hc13
 refine wp_exit (then_e (then_e (blk_e (then_n (wp_seq ?_)))))
 refine rs S (la (av rfl)) ?_; clear S; intro a u S
 refine wp_block ?_
 refine lp1 (fun (i1 : Nat) => [(4, pT b4 0), (5, pT b5 0), (7, .slice dd_a dd.length dd_c), (13, iN i1)]) (fun (i1 : Nat) => [tpO 62 T16 l, blO b4 (topoE.cells r_t18) 28, blO b5 (failE.cells r_t21) 41, rwO (slE intE) 22 w.heap.size dd_a dd_c dd]) (fun (i1 : Nat) => i1 ≤ r_t18.links.xs.length ∧ True) (fun (i1 : Nat) => r_t18.links.xs.length - i1) S 0 (subM rfl) rfl ?_ ?_
 ·exact ⟨Nat.zero_le _, by trivial⟩
 clear S; intro i1 a u S hR
 obtain ⟨hi1, hxi1⟩ := hR
 refine wp_seq ?_
 refine rs S (tr (mv rfl)<|tr (fldi 0 1 rfl uT28)<|tr (ldk 1 sC24 rfl rfl rfl)<|tr (leni uT24 rfl)<|la (lssi rfl rfl)) ?_; clear S; intro a u S
 refine cd S rfl ?_ ?_
 ·intro hc14
  have hl := topV_link HT (i := i1) (by omega)
  unfold lnkV at hl
  have pel : (dd.getD (r_t18.links.xs.getD i1 lnkE.dflt).a.toNat (slE intE).dflt).xs = distsOf r_t18 r_t21 (r_t18.links.xs.getD i1 lnkE.dflt).a.toNat := hdd _ (by omega)
  have pll := congrArg List.length pel; rw [dists_len] at pll
  have pvli : (dd.getD (r_t18.links.xs.getD i1 lnkE.dflt).a.toNat (slE intE).dflt).xs.getD (r_t18.links.xs.getD i1 lnkE.dflt).b.toNat intE.dflt = dOf r_t18 r_t21 (r_t18.links.xs.getD i1 lnkE.dflt).a.toNat (r_t18.links.xs.getD i1 lnkE.dflt).b.toNat := by rw [pel]; exact dists_at (by omega)
  have pqli := dOf_le (f := r_t21) (z := ((r_t18.links.xs.getD i1 lnkE.dflt).a.toNat)) HT ((r_t18.links.xs.getD i1 lnkE.dflt).b.toNat)
  refine wp_skip (then_n (wp_seq (wp_block (rs0 ?_))))
  obtain ⟨hl43, hu43⟩ : inI64 ((r_t18.links.xs.getD i1 lnkE.dflt).a) := id ((((S.u 1 rfl).2.1).1.wf i1 (by omega)).1)
  obtain ⟨hl44, hu44⟩ : inI64 ((r_t18.links.xs.getD i1 lnkE.dflt).b) := id ((((S.u 1 rfl).2.1).1.wf i1 (by omega)).2.1)
  obtain ⟨hl45, hu45⟩ : inI64 ((r_t18.links.xs.getD i1 lnkE.dflt).cost) := id ((((S.u 1 rfl).2.1).1.wf i1 (by omega)).2.2)
  refine sp S (tr (fldi 0 1 rfl uT28)<|tr (ldk 1 sC24 rfl rfl rfl)<|tr (mv rfl)<|tr (idxi uT24 sZ54 rfl rfl i1 rfl (by omega) (((S.u 1 rfl).2.1).1.adr (i := i1) (by omega)))<|la (ov fun S=>x_ldw (S.e rfl) (((S.u 1 rfl).2.1).1.wcell i1 (by omega) _ rfl _ rfl) wD54)) ?_; clear S; intro a u S
  refine nbp S (x_allocz _ iZ54 rfl) ?_; clear S; intro a u b14 S
  refine ens S (la (stkw 4 rfl rfl rfl)) ?_; clear S; intro a u S
  refine wp_seq ?_
  refine dr (P := Try.prog) S 18 [] [(183, .is _), (184, .is _), (185, .is _), (186, .is _), (187, .is _), (188, .is _), (189, .is _), (190, .is _), (191, .is _), (192, .is _), (193, .is _), (194, .is _), (195, .is _), (196, .is _), (197, .is _), (198, .is _), (199, .is _), (200, .is _)] [[], [], [], [183, 184, 185], [186], [187], [187], [187, 189], [187, 188, 190], [187, 191], [187], [187, 193], [187, 192, 194], [187, 195], [187], [187, 197], [187, 196, 198], [187, 199]] [200] _ ⟨qd (ldkw 1 rfl rfl wD28), qd (ldkw 2 rfl rfl wD41), qd (mv rfl), qd (oc (fun S=>rUsable _ _ S.x (.nil _) r_t18 (dn0 (S.u 1 rfl)) r_t21 (dn0 (S.u 2 rfl)) ((i1 : Nat) : Int) ⟨by omega, by omega⟩) cB40), qd (mv rfl), qd (og 187 rfl gt fun S hg=>x_move (S.e rfl)), qd (og 187 rfl gt fun S hg=>xf (0) 0 uT54 (S.e rfl)), qd (og 187 rfl gt fun S hg=>x_load sC3 (S.p rfl hg) ((S.k 4 rfl).cell (j := 0) rfl)), qd (og 187 rfl gt fun S hg=>x_idx uT55 sZ22 (S.p rfl hg) (S.p rfl hg) ((r_t18.links.xs.getD i1 lnkE.dflt).a).toNat (by omega) (by omega) (row_off (S.row 3 rfl) (m := ((r_t18.links.xs.getD i1 lnkE.dflt).a).toNat) (by omega))), qd (og 187 rfl gt fun S hg=>x_load sC22 (S.p rfl hg) (((S.row 3 rfl).latz (by first | decide | exact Nat.one_pos)).cell ((r_t18.links.xs.getD i1 lnkE.dflt).a).toNat (by omega) 0 _ rfl)), qd (og 187 rfl gt fun S hg=>xf (0) 1 uT54 (S.e rfl)), qd (og 187 rfl gt fun S hg=>x_load sC3 (S.p rfl hg) ((S.k 4 rfl).cell (j := 1) rfl)), qd (og 187 rfl gt fun S hg=>x_idx uT22 sZ3 (S.p rfl hg) (S.p rfl hg) ((r_t18.links.xs.getD i1 lnkE.dflt).b).toNat (by omega) (by omega) ((((S.row 3 rfl).wfi ((r_t18.links.xs.getD i1 lnkE.dflt).a).toNat (by omega))).1.adr (i := ((r_t18.links.xs.getD i1 lnkE.dflt).b).toNat) (by omega))), qd (og 187 rfl gt fun S hg=>x_load sC3 (S.p rfl hg) ((((S.row 3 rfl).wfi ((r_t18.links.xs.getD i1 lnkE.dflt).a).toNat (by omega))).1.cell ((r_t18.links.xs.getD i1 lnkE.dflt).b).toNat (by omega) 0 _ rfl)), qd (og 187 rfl gt fun S hg=>xf (0) 2 uT54 (S.e rfl)), qd (og 187 rfl gt fun S hg=>x_load sC3 (S.p rfl hg) ((S.k 4 rfl).cell (j := 2) rfl)), qd (og 187 rfl gt fun S hg=>x_gtr (S.p rfl hg) (S.p rfl hg)), qd (andi rfl rfl rfl), trivial⟩ ?_
  clear S; intro a u S G hE
  refine ent ?_
  refine cd S rfl ?_ ?_
  ·intro hc15
   refine rs S (la (av rfl)) ?_; clear S; intro a u S
   refine wp_ret (blk_r (then_r (then_r (blk_r (then_r ?_)))))
   refine ret1 rfl S.s rfl ?_
   replace S := S.pk []
   refine ⟨(r1 (vf ?_)), S.m.c⟩
   intro _; rw [pvli] at hc15; have := met_link HV (i := i1) (by omega) hc15.1; omega
  intro hc16
  refine wp_skip (blk_n (then_n ?_))
  refine rg S (tr (mv rfl)<|tr (addi ((i1 + 1 : Nat) : Int) rfl rfl (w_i64 (by omega)))<|la (av rfl)) ?_; clear S; intro a u S
  refine then_n ?_
  refine ⟨(i1 + 1), S.re (subM rfl) rfl rfl, ?_, ?_⟩
  ·refine ⟨by omega, ?_⟩
   trivial
  omega
 intro hc17
 refine wp_exit (then_e (then_e (blk_e (then_n ?_))))
 refine rs S (tr (oc (fun S=>lSaneP _ _ S.x (.nil _)) cB37)<|la (av rfl)) ?_; clear S; intro a u S
 refine wp_ret ?_
 refine ret1 rfl S.s rfl ?_
 replace S := S.pk []
 refine ⟨(r1 (vb ?_)), S.m.c⟩
 first | exact Iff.rfl | assumption | omega | simp_all
end Go.Proofs.Ytfanmniaolncbaa.V
