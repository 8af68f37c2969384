/- the law SourceRoundTrip -/
import Derived.Test.YtmaiillomoehgaaDoorS13
import Derived.Test.YtmaiillomoehgaaDoorS12
import Derived.Test.YtmaiillomoehgaaDoorRtpM
namespace Go.Proofs.YtmaiillomoehgaaDoor.V
open Go.RowKit Go.Proofs.YtmaiillomoehgaaDoor
set_option linter.unusedVariables false
set_option linter.unusedSimpArgs false
set_option maxHeartbeats 2000000 in
set_option maxRecDepth 20000 in
theorem lwRound (w : World) (F : Nat → Prop) (hF : Old F w) (M : MS [] w) (l : Sl Int) (l_w : (slE intE).wf (Fr F []) w.heap l) (tx : ByteArray) (tx_h : inStr tx) (g_w : hasML w.heap) :
 Calls Tryd.prog 7 #[sV l, .string tx] w fun e w' => e = .returned (bD (True)) ∧ Tr [] w [] w' := by
 have : l.xs.length ≤ 9223372036854775807 := (l_w).1.len
 refine go Tryd.func7 rfl 89 rfl [wfF (slE intE) l, glF] [] hF M ⟨l_w, ⟨fun h => h, g_w⟩, trivial⟩ trivial ?_
 intro a S
 refine rs S (la (av rfl)) ?_; clear S; intro a u S
 refine rs0 ?_
 refine sp S (la (mv rfl)) ?_; clear S; intro a u S
 refine cl S (gNew _ _ S.x (.nil _) l (dn0 (S.u 0 rfl))) cB9 ?_
 rintro e u ⟨T15, rfl, TK, T0⟩; refine ⟨_, rfl, fun a s => ?_⟩; replace S := S.kt s T0 TK; clear s T0 TK
 refine ens S (la (av rfl)) ?_; clear S; intro a u S
 refine wp_seq (rs0 ?_)
 refine sp S (la (mv rfl)) ?_; clear S; intro a u S
 refine cl S (gNext _ _ S.x T15 (S.M.pick [0] (by decide)) l (dn1 (js := [0]) (S.u 0 rfl)) (S.t 0 rfl) 3 ⟨by omega, by omega⟩) cB14 ?_
 rintro e u ⟨r_t17, rfl, hr_t17, tK, T0⟩; refine ⟨_, rfl, fun a s => ?_⟩
 replace S := S.k1 0 rfl s T0 tK; clear s T0 tK
 refine ens S (la (gtri rfl rfl)) ?_; clear S; intro a u S
 refine cd S rfl ?_ ?_
 ·intro hc0
  refine r0 ?_
  refine sp S (la (mv rfl)) ?_; clear S; intro a u S
  refine cl S (lText _ _ S.x T15 (S.M.pick [0] (by decide)) l (dn1 (js := [0]) (S.u 0 rfl)) (S.t 0 rfl)) cB10 ?_
  rintro e u ⟨r_t20, rfl, R_t20, hr_t20, tK, T0⟩; refine ⟨_, rfl, fun a s => ?_⟩
  replace S := (S.k1 0 rfl s T0 tK).ar (wfF strE r_t20) (Enc.up _ R_t20); clear s T0 tK R_t20
  refine ens S (la (av rfl)) ?_; clear S; intro a u S
  refine rs0 ?_
  refine sp S (la (mv rfl)) ?_; clear S; intro a u S
  refine cl S (sLines _ _ S.x (.nil _) r_t20 (S.u 2 rfl) (S.gl 1 rfl)) cB17 ?_
  rintro e u ⟨r_t230, rfl, R_t230, hr_t230, T0⟩; refine ⟨_, rfl, fun a s => ?_⟩
  replace S := (S.k0 s T0).ar (wfF (slE lineE) r_t230) (Enc.up _ R_t230); clear s T0 R_t230
  have hn6 : r_t230.xs.length ≤ 9223372036854775807 := ((S.u 3 rfl)).1.len
  refine ens S (tr (mv rfl)<|tr (exi rfl rfl)<|tr (exi rfl rfl)<|tr (exi rfl rfl)<|tr (av rfl)<|tr (av rfl)<|la (av rfl)) ?_; clear S; intro a u S
  refine wp_seq ?_
  refine rs S (tr (mv rfl)<|la (neqi rfl rfl)) ?_; clear S; intro a u S
  refine cd S rfl ?_ ?_
  ·intro hc1
   refine rs0 ?_
   refine sp S (tr (mv rfl)<|tr (leni uT36 rfl)<|tr (eqli rfl rfl)<|la (mv rfl)) ?_; clear S; intro a u S
   have ht32 : ((r_t230.xs.length : Nat) : Int) = 0 := by
    have h1 := by first | exact linesS_err hc1 | exact linesS_err hc12
    rw [h1] at hr_t230
    have h2 := congrArg List.length hr_t230
    rw [List.length_map] at h2
    simp only [List.length_nil] at h2
    omega
   replace S := S.ext (d := 32) (v := .bool true) ((S.get 32 rfl).trans (congrArg Value.bool (decide_eq_true ht32)))
   refine strip S.s rfl rfl (gd := 32) rfl ?_
   refine ens S (tr (oc (fun S=>lSane _ _ S.x (.nil _) (S.gl 1 rfl)) cB15)<|tr (ov fun S=>x_pickt (S.e rfl) (S.e rfl))<|la (av rfl)) ?_; clear S; intro a u S
   refine wp_ret (then_r ?_)
   refine ret1 rfl S.s rfl ?_
   replace S := S.pk []
   refine ⟨(r1 (vt ?_)), S.m.c⟩
   trivial
  intro hc2
  obtain ⟨hQ, hL, hN⟩ := linesS_ok (Classical.not_not.1 hc2)
  rw [← hr_t230] at hQ hL
  have hls : ∀ ws ∈ (r_t230.xs.map fun x => x.words.xs), QW ws := fun ws h => by
   obtain ⟨x, hx, rfl⟩ := List.mem_map.1 h
   exact hQ (keyL x) (List.mem_map_of_mem hx)
  have hJN : (joinB (r_t230.xs.map fun x => x.words.xs)).size ≤ 1099511627776 := by
   have h1 := joinL_bd _ hls
   have h2 : (joinB (r_t230.xs.map fun x => x.words.xs)).size = (joinL (r_t230.xs.map fun x => x.words.xs)).length := mkB_size _
   rw [List.length_map] at h1 hL
   omega
  refine wp_skip (then_n ?_)
  refine rs S (tr (mv rfl)<|tr (oc (fun S=>sJoin _ _ S.x (.nil _) r_t230 (dn0 (S.u 3 rfl)) (by first | assumption | exact hJN)) cB24)<|la (av rfl)) ?_; clear S; intro a u S
  refine wp_seq ?_
  refine rs S (tr (mv rfl)<|tr (lesi uT9 rfl)<|la (gtri rfl rfl)) ?_; clear S; intro a u S
  refine cd S rfl ?_ ?_
  ·intro hc3
   refine rs S (tr (oc (fun S=>lSane _ _ S.x (.nil _) (S.gl 1 rfl)) cB15)<|la (av rfl)) ?_; clear S; intro a u S
   refine wp_ret (then_r ?_)
   refine ret1 rfl S.s rfl ?_
   replace S := S.pk []
   refine ⟨(r1 (vt ?_)), S.m.c⟩
   trivial
  intro hc4
  have hrt := rt_law hls (by omega)
  have hin : inStr (joinB (r_t230.xs.map fun x => x.words.xs)) := by unfold inStr maxLen; omega
  refine wp_skip (then_n (rs0 ?_))
  refine sp S (la (mv rfl)) ?_; clear S; intro a u S
  refine cl S (sLines _ _ S.x (.nil _) (joinB (r_t230.xs.map fun x => x.words.xs)) (by assumption) (S.gl 1 rfl)) cB17 ?_
  rintro e u ⟨r_t430, rfl, R_t430, hr_t430, T0⟩; refine ⟨_, rfl, fun a s => ?_⟩
  replace S := (S.k0 s T0).ar (wfF (slE lineE) r_t430) (Enc.up _ R_t430); clear s T0 R_t430
  have hn13 : r_t430.xs.length ≤ 9223372036854775807 := ((S.u 4 rfl)).1.len
  refine ens S (tr (mv rfl)<|tr (exi rfl rfl)<|tr (exi rfl rfl)<|tr (exi rfl rfl)<|tr (av rfl)<|tr (av rfl)<|la (av rfl)) ?_; clear S; intro a u S
  refine wp_seq ?_
  refine rs S (tr (mv rfl)<|tr (neqi rfl rfl)<|tr (mv rfl)<|tr (og 49 rfl gf fun S hg=>x_move (S.e rfl))<|tr (og 49 rfl gf fun S hg=>x_neq (S.p rfl hg) (S.e rfl))<|tr (ori rfl rfl rfl)<|tr (mv rfl)<|tr (og 53 rfl gf fun S hg=>x_move (S.e rfl))<|tr (og 53 rfl gf fun S hg=>x_len uT36 (S.p rfl hg))<|tr (og 53 rfl gf fun S hg=>x_move (S.e rfl))<|tr (og 53 rfl gf fun S hg=>x_len uT36 (S.p rfl hg))<|tr (og 53 rfl gf fun S hg=>x_neq (S.p rfl hg) (S.p rfl hg))<|la (ori rfl rfl rfl)) ?_; clear S; intro a u S
  refine cd S rfl ?_ ?_
  ·intro hc5
   have hlen : r_t430.xs.length = r_t230.xs.length := by have h1 := congrArg List.length hr_t430; rw [hrt] at h1; simp only [List.length_map] at h1; rw [h1, (numW_all _ 0 fun ws h => (hls ws h).1).1, List.length_map]
   refine rs S (la (av rfl)) ?_; clear S; intro a u S
   refine wp_ret (then_r ?_)
   refine ret1 rfl S.s rfl ?_
   replace S := S.pk []
   refine ⟨(r1 (vf ?_)), S.m.c⟩
   intro _; rw [hrt] at hc5; rcases hc5 with (h | h) | h
   ·exact h rfl
   ·exact h rfl
   exact h (by rw [hlen])
  intro hc6
  have hlen : r_t430.xs.length = r_t230.xs.length := by have h1 := congrArg List.length hr_t430; rw [hrt] at h1; simp only [List.length_map] at h1; rw [h1, (numW_all _ 0 fun ws h => (hls ws h).1).1, List.length_map]
  refine wp_skip (then_n (wp_seq ?_))
  refine rs S (la (av rfl)) ?_; clear S; intro a u S
  refine wp_block ?_
  refine lp1 (fun (k1 : Nat) => [(6, sV r_t230), (10, sV r_t430), (13, iN k1)]) (fun (k1 : Nat) => [tpO 58 T15 l]) (fun (k1 : Nat) => k1 ≤ r_t430.xs.length ∧ True) (fun (k1 : Nat) => r_t430.xs.length - k1) S 0 (subM rfl) rfl ?_ ?_
  ·exact ⟨Nat.zero_le _, by trivial⟩
  clear S; intro k1 a u S hR
  obtain ⟨hk1, hxk1⟩ := hR
  refine wp_seq ?_
  refine rs S (tr (mv rfl)<|tr (mv rfl)<|tr (leni uT36 rfl)<|la (lssi rfl rfl)) ?_; clear S; intro a u S
  refine cd S rfl ?_ ?_
  ·intro hc7
   refine wp_skip (then_n (wp_seq (wp_block (wp_seq ?_))))
   obtain ⟨hl18, hu18⟩ : inI64 ((r_t430.xs.getD k1 lineE.dflt).num) := id ((((S.u 4 rfl)).1.wf k1 (by omega)).1)
   refine dr (P := Tryd.prog) S 22 [] [(66, .is _), (67, .is _), (68, .is _), (69, .is _), (70, .is _), (71, .is _), (72, .is _), (73, .is _), (74, .is _), (75, .is _), (76, .is _), (77, .is _), (78, .is _), (79, .is _), (80, .is _), (81, .is _), (82, .is _), (83, .is _), (84, .is _), (85, .is _), (86, .is _), (87, .is _)] [[], [], [66, 67], [68], [69], [], [71], [70, 72], [73], [74], [74], [74, 75, 76], [74, 77], [74, 78], [74], [74], [74, 80, 81], [74, 82], [74, 83], [74, 79, 84], [74, 85], [74, 86]] [87] _ ⟨qd (mv rfl), qd (mv rfl), qd (idxi uT36 sZ35 rfl rfl k1 rfl (by omega) (((S.u 4 rfl)).1.adr (i := k1) (by omega))), qd (fldi (off r_t430.a + k1 * 2) 0 rfl uT35), qd (ov fun S=>x_load sC3 (S.e rfl) (((S.u 4 rfl)).1.cell k1 (by omega) 0 _ rfl)), qd (mv rfl), qd (addi ((k1 + 1 : Nat) : Int) rfl rfl (w_i64 (by omega))), qd (neqi rfl rfl), qd (mv rfl), qd (og 74 rfl gf fun S hg=>x_move (S.e rfl)), qd (og 74 rfl gf fun S hg=>x_move (S.e rfl)), qd (og 74 rfl gf fun S hg=>x_idx uT36 sZ35 (S.p rfl hg) (S.p rfl hg) k1 rfl (by omega) (((S.u 4 rfl)).1.adr (i := k1) (by omega))), qd (og 74 rfl gf fun S hg=>xf (off r_t430.a + k1 * 2) 1 uT35 (S.p rfl hg)), qd (og 74 rfl gf fun S hg=>x_load sC29 (S.p rfl hg) (((S.u 4 rfl)).1.cell k1 (by omega) 1 _ rfl)), qd (og 74 rfl gf fun S hg=>x_move (S.e rfl)), qd (og 74 rfl gf fun S hg=>x_move (S.e rfl)), qd (og 74 rfl gf fun S hg=>x_idx uT36 sZ35 (S.p rfl hg) (S.p rfl hg) k1 rfl (by omega) (((S.u 3 rfl)).1.adr (i := k1) (by omega))), qd (og 74 rfl gf fun S hg=>xf (off r_t230.a + k1 * 2) 1 uT35 (S.p rfl hg)), qd (og 74 rfl gf fun S hg=>x_load sC29 (S.p rfl hg) (((S.u 3 rfl)).1.cell k1 (by omega) 1 _ rfl)), qd (ocg 74 rfl gf (fun S hg=>same9 _ _ S.x (.nil _) ((r_t430.xs.getD k1 lineE.dflt).words) (dn0 ((((S.u 4 rfl)).1.wf k1 (by omega)).2)) ((r_t230.xs.getD k1 lineE.dflt).words) (dn0 ((((S.u 3 rfl)).1.wf k1 (by omega)).2))) cB19 fun S=>⟨fun hg=>(S.p rfl hg), fun hg=>(S.p rfl hg), trivial⟩), qd (og 74 rfl gf fun S hg=>x_notp (S.p rfl hg)), qd (ori rfl rfl rfl), trivial⟩ ?_
   clear S; intro a u S G hE
   obtain ⟨hl19, hu19⟩ : inI64 ((r_t430.xs.getD k1 lineE.dflt).num) := id ((((S.u 4 rfl)).1.wf k1 (by omega)).1)
   refine ent ?_
   refine cd S rfl ?_ ?_
   ·intro hc8
    refine rs S (la (av rfl)) ?_; clear S; intro a u S
    refine wp_ret (blk_r (then_r (then_r (blk_r (then_r ?_)))))
    refine ret1 rfl S.s rfl ?_
    replace S := S.pk []
    refine ⟨(r1 (vf ?_)), S.m.c⟩
    intro _
    have hk2 := (numW_all _ 0 fun ws h => (hls ws h).1).2 k1 (by rw [List.length_map]; omega)
    have h1 := getD_mapL (xs := r_t430.xs) (k := k1) (by omega)
    rw [hr_t430, hrt, hk2, kl_at (by omega)] at h1
    unfold keyL at h1
    rw [Prod.mk.injEq] at h1
    rcases hc8 with q | q
    ·exact q (by omega)
    exact q h1.2.symm
   intro hc9
   refine wp_skip (blk_n (then_n ?_))
   refine rg S (tr (mv rfl)<|tr (addi ((k1 + 1 : Nat) : Int) rfl rfl (w_i64 (by omega)))<|la (av rfl)) ?_; clear S; intro a u S
   refine then_n ?_
   refine ⟨(k1 + 1), S.re (subM rfl) rfl rfl, ?_, ?_⟩
   ·refine ⟨by omega, ?_⟩
    trivial
   omega
  intro hc10
  refine wp_exit (then_e (then_e (blk_e (then_n ?_))))
  refine rs S (tr (oc (fun S=>lSane _ _ S.x (.nil _) (S.gl 1 rfl)) cB15)<|la (av rfl)) ?_; clear S; intro a u S
  refine wp_ret ?_
  refine ret1 rfl S.s rfl ?_
  replace S := S.pk []
  refine ⟨(r1 (vt ?_)), S.m.c⟩
  trivial
 intro hc11
 refine wp_skip (then_n (rs0 ?_))
 refine sp S (la (mv rfl)) ?_; clear S; intro a u S
 refine cl S (sLines _ _ S.x (.nil _) tx tx_h (S.gl 1 rfl)) cB17 ?_
 rintro e u ⟨r_t230, rfl, R_t230, hr_t230, T0⟩; refine ⟨_, rfl, fun a s => ?_⟩
 replace S := (S.k0 s T0).ar (wfF (slE lineE) r_t230) (Enc.up _ R_t230); clear s T0 R_t230
 have hn24 : r_t230.xs.length ≤ 9223372036854775807 := ((S.u 2 rfl)).1.len
 refine ens S (tr (mv rfl)<|tr (exi rfl rfl)<|tr (exi rfl rfl)<|tr (exi rfl rfl)<|tr (av rfl)<|tr (av rfl)<|la (av rfl)) ?_; clear S; intro a u S
 refine wp_seq ?_
 refine rs S (tr (mv rfl)<|la (neqi rfl rfl)) ?_; clear S; intro a u S
 refine cd S rfl ?_ ?_
 ·intro hc12
  refine rs0 ?_
  refine sp S (tr (mv rfl)<|tr (leni uT36 rfl)<|tr (eqli rfl rfl)<|la (mv rfl)) ?_; clear S; intro a u S
  have ht32 : ((r_t230.xs.length : Nat) : Int) = 0 := by
   have h1 := by first | exact linesS_err hc1 | exact linesS_err hc12
   rw [h1] at hr_t230
   have h2 := congrArg List.length hr_t230
   rw [List.length_map] at h2
   simp only [List.length_nil] at h2
   omega
  replace S := S.ext (d := 32) (v := .bool true) ((S.get 32 rfl).trans (congrArg Value.bool (decide_eq_true ht32)))
  refine strip S.s rfl rfl (gd := 32) rfl ?_
  refine ens S (tr (oc (fun S=>lSane _ _ S.x (.nil _) (S.gl 1 rfl)) cB15)<|tr (ov fun S=>x_pickt (S.e rfl) (S.e rfl))<|la (av rfl)) ?_; clear S; intro a u S
  refine wp_ret (then_r ?_)
  refine ret1 rfl S.s rfl ?_
  replace S := S.pk []
  refine ⟨(r1 (vt ?_)), S.m.c⟩
  trivial
 intro hc13
 obtain ⟨hQ, hL, hN⟩ := linesS_ok (Classical.not_not.1 hc13)
 rw [← hr_t230] at hQ hL
 have hls : ∀ ws ∈ (r_t230.xs.map fun x => x.words.xs), QW ws := fun ws h => by
  obtain ⟨x, hx, rfl⟩ := List.mem_map.1 h
  exact hQ (keyL x) (List.mem_map_of_mem hx)
 have hJN : (joinB (r_t230.xs.map fun x => x.words.xs)).size ≤ 1099511627776 := by
  have h1 := joinL_bd _ hls
  have h2 : (joinB (r_t230.xs.map fun x => x.words.xs)).size = (joinL (r_t230.xs.map fun x => x.words.xs)).length := mkB_size _
  rw [List.length_map] at h1 hL
  omega
 refine wp_skip (then_n ?_)
 refine rs S (tr (mv rfl)<|tr (oc (fun S=>sJoin _ _ S.x (.nil _) r_t230 (dn0 (S.u 2 rfl)) (by first | assumption | exact hJN)) cB24)<|la (av rfl)) ?_; clear S; intro a u S
 refine wp_seq ?_
 refine rs S (tr (mv rfl)<|tr (lesi uT9 rfl)<|la (gtri rfl rfl)) ?_; clear S; intro a u S
 refine cd S rfl ?_ ?_
 ·intro hc14
  refine rs S (tr (oc (fun S=>lSane _ _ S.x (.nil _) (S.gl 1 rfl)) cB15)<|la (av rfl)) ?_; clear S; intro a u S
  refine wp_ret (then_r ?_)
  refine ret1 rfl S.s rfl ?_
  replace S := S.pk []
  refine ⟨(r1 (vt ?_)), S.m.c⟩
  trivial
 intro hc15
 have hrt := rt_law hls (by omega)
 have hin : inStr (joinB (r_t230.xs.map fun x => x.words.xs)) := by unfold inStr maxLen; omega
 refine wp_skip (then_n (rs0 ?_))
 refine sp S (la (mv rfl)) ?_; clear S; intro a u S
 refine cl S (sLines _ _ S.x (.nil _) (joinB (r_t230.xs.map fun x => x.words.xs)) (by assumption) (S.gl 1 rfl)) cB17 ?_
 rintro e u ⟨r_t430, rfl, R_t430, hr_t430, T0⟩; refine ⟨_, rfl, fun a s => ?_⟩
 replace S := (S.k0 s T0).ar (wfF (slE lineE) r_t430) (Enc.up _ R_t430); clear s T0 R_t430
 have hn31 : r_t430.xs.length ≤ 9223372036854775807 := ((S.u 3 rfl)).1.len
 refine ens S (tr (mv rfl)<|tr (exi rfl rfl)<|tr (exi rfl rfl)<|tr (exi rfl rfl)<|tr (av rfl)<|tr (av rfl)<|la (av rfl)) ?_; clear S; intro a u S
 refine wp_seq ?_
 refine rs S (tr (mv rfl)<|tr (neqi rfl rfl)<|tr (mv rfl)<|tr (og 49 rfl gf fun S hg=>x_move (S.e rfl))<|tr (og 49 rfl gf fun S hg=>x_neq (S.p rfl hg) (S.e rfl))<|tr (ori rfl rfl rfl)<|tr (mv rfl)<|tr (og 53 rfl gf fun S hg=>x_move (S.e rfl))<|tr (og 53 rfl gf fun S hg=>x_len uT36 (S.p rfl hg))<|tr (og 53 rfl gf fun S hg=>x_move (S.e rfl))<|tr (og 53 rfl gf fun S hg=>x_len uT36 (S.p rfl hg))<|tr (og 53 rfl gf fun S hg=>x_neq (S.p rfl hg) (S.p rfl hg))<|la (ori rfl rfl rfl)) ?_; clear S; intro a u S
 refine cd S rfl ?_ ?_
 ·intro hc16
  have hlen : r_t430.xs.length = r_t230.xs.length := by have h1 := congrArg List.length hr_t430; rw [hrt] at h1; simp only [List.length_map] at h1; rw [h1, (numW_all _ 0 fun ws h => (hls ws h).1).1, List.length_map]
  refine rs S (la (av rfl)) ?_; clear S; intro a u S
  refine wp_ret (then_r ?_)
  refine ret1 rfl S.s rfl ?_
  replace S := S.pk []
  refine ⟨(r1 (vf ?_)), S.m.c⟩
  intro _; rw [hrt] at hc16; rcases hc16 with (h | h) | h
  ·exact h rfl
  ·exact h rfl
  exact h (by rw [hlen])
 intro hc17
 have hlen : r_t430.xs.length = r_t230.xs.length := by have h1 := congrArg List.length hr_t430; rw [hrt] at h1; simp only [List.length_map] at h1; rw [h1, (numW_all _ 0 fun ws h => (hls ws h).1).1, List.length_map]
 refine wp_skip (then_n (wp_seq ?_))
 refine rs S (la (av rfl)) ?_; clear S; intro a u S
 refine wp_block ?_
 refine lp1 (fun (k1 : Nat) => [(6, sV r_t230), (10, sV r_t430), (13, iN k1)]) (fun (k1 : Nat) => [tpO 58 T15 l]) (fun (k1 : Nat) => k1 ≤ r_t430.xs.length ∧ True) (fun (k1 : Nat) => r_t430.xs.length - k1) S 0 (subM rfl) rfl ?_ ?_
 ·exact ⟨Nat.zero_le _, by trivial⟩
 clear S; intro k1 a u S hR
 obtain ⟨hk1, hxk1⟩ := hR
 refine wp_seq ?_
 refine rs S (tr (mv rfl)<|tr (mv rfl)<|tr (leni uT36 rfl)<|la (lssi rfl rfl)) ?_; clear S; intro a u S
 refine cd S rfl ?_ ?_
 ·intro hc18
  refine wp_skip (then_n (wp_seq (wp_block (wp_seq ?_))))
  obtain ⟨hl36, hu36⟩ : inI64 ((r_t430.xs.getD k1 lineE.dflt).num) := id ((((S.u 3 rfl)).1.wf k1 (by omega)).1)
  refine dr (P := Tryd.prog) S 22 [] [(66, .is _), (67, .is _), (68, .is _), (69, .is _), (70, .is _), (71, .is _), (72, .is _), (73, .is _), (74, .is _), (75, .is _), (76, .is _), (77, .is _), (78, .is _), (79, .is _), (80, .is _), (81, .is _), (82, .is _), (83, .is _), (84, .is _), (85, .is _), (86, .is _), (87, .is _)] [[], [], [66, 67], [68], [69], [], [71], [70, 72], [73], [74], [74], [74, 75, 76], [74, 77], [74, 78], [74], [74], [74, 80, 81], [74, 82], [74, 83], [74, 79, 84], [74, 85], [74, 86]] [87] _ ⟨qd (mv rfl), qd (mv rfl), qd (idxi uT36 sZ35 rfl rfl k1 rfl (by omega) (((S.u 3 rfl)).1.adr (i := k1) (by omega))), qd (fldi (off r_t430.a + k1 * 2) 0 rfl uT35), qd (ov fun S=>x_load sC3 (S.e rfl) (((S.u 3 rfl)).1.cell k1 (by omega) 0 _ rfl)), qd (mv rfl), qd (addi ((k1 + 1 : Nat) : Int) rfl rfl (w_i64 (by omega))), qd (neqi rfl rfl), qd (mv rfl), qd (og 74 rfl gf fun S hg=>x_move (S.e rfl)), qd (og 74 rfl gf fun S hg=>x_move (S.e rfl)), qd (og 74 rfl gf fun S hg=>x_idx uT36 sZ35 (S.p rfl hg) (S.p rfl hg) k1 rfl (by omega) (((S.u 3 rfl)).1.adr (i := k1) (by omega))), qd (og 74 rfl gf fun S hg=>xf (off r_t430.a + k1 * 2) 1 uT35 (S.p rfl hg)), qd (og 74 rfl gf fun S hg=>x_load sC29 (S.p rfl hg) (((S.u 3 rfl)).1.cell k1 (by omega) 1 _ rfl)), qd (og 74 rfl gf fun S hg=>x_move (S.e rfl)), qd (og 74 rfl gf fun S hg=>x_move (S.e rfl)), qd (og 74 rfl gf fun S hg=>x_idx uT36 sZ35 (S.p rfl hg) (S.p rfl hg) k1 rfl (by omega) (((S.u 2 rfl)).1.adr (i := k1) (by omega))), qd (og 74 rfl gf fun S hg=>xf (off r_t230.a + k1 * 2) 1 uT35 (S.p rfl hg)), qd (og 74 rfl gf fun S hg=>x_load sC29 (S.p rfl hg) (((S.u 2 rfl)).1.cell k1 (by omega) 1 _ rfl)), qd (ocg 74 rfl gf (fun S hg=>same9 _ _ S.x (.nil _) ((r_t430.xs.getD k1 lineE.dflt).words) (dn0 ((((S.u 3 rfl)).1.wf k1 (by omega)).2)) ((r_t230.xs.getD k1 lineE.dflt).words) (dn0 ((((S.u 2 rfl)).1.wf k1 (by omega)).2))) cB19 fun S=>⟨fun hg=>(S.p rfl hg), fun hg=>(S.p rfl hg), trivial⟩), qd (og 74 rfl gf fun S hg=>x_notp (S.p rfl hg)), qd (ori rfl rfl rfl), trivial⟩ ?_
  clear S; intro a u S G hE
  obtain ⟨hl37, hu37⟩ : inI64 ((r_t430.xs.getD k1 lineE.dflt).num) := id ((((S.u 3 rfl)).1.wf k1 (by omega)).1)
  refine ent ?_
  refine cd S rfl ?_ ?_
  ·intro hc19
   refine rs S (la (av rfl)) ?_; clear S; intro a u S
   refine wp_ret (blk_r (then_r (then_r (blk_r (then_r ?_)))))
   refine ret1 rfl S.s rfl ?_
   replace S := S.pk []
   refine ⟨(r1 (vf ?_)), S.m.c⟩
   intro _
   have hk2 := (numW_all _ 0 fun ws h => (hls ws h).1).2 k1 (by rw [List.length_map]; omega)
   have h1 := getD_mapL (xs := r_t430.xs) (k := k1) (by omega)
   rw [hr_t430, hrt, hk2, kl_at (by omega)] at h1
   unfold keyL at h1
   rw [Prod.mk.injEq] at h1
   rcases hc19 with q | q
   ·exact q (by omega)
   exact q h1.2.symm
  intro hc20
  refine wp_skip (blk_n (then_n ?_))
  refine rg S (tr (mv rfl)<|tr (addi ((k1 + 1 : Nat) : Int) rfl rfl (w_i64 (by omega)))<|la (av rfl)) ?_; clear S; intro a u S
  refine then_n ?_
  refine ⟨(k1 + 1), S.re (subM rfl) rfl rfl, ?_, ?_⟩
  ·refine ⟨by omega, ?_⟩
   trivial
  omega
 intro hc21
 refine wp_exit (then_e (then_e (blk_e (then_n ?_))))
 refine rs S (tr (oc (fun S=>lSane _ _ S.x (.nil _) (S.gl 1 rfl)) cB15)<|la (av rfl)) ?_; clear S; intro a u S
 refine wp_ret ?_
 refine ret1 rfl S.s rfl ?_
 replace S := S.pk []
 refine ⟨(r1 (vt ?_)), S.m.c⟩
 trivial
end Go.Proofs.YtmaiillomoehgaaDoor.V
