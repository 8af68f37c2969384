/- logs are opened; records are replayed -/
import Derived.Test.YtobggnpnochnnaaK7
namespace Go.Proofs.Ytobggnpnochnnaa.V
open Go.RowKit Go.Proofs.Ytobggnpnochnnaa
set_option linter.unusedVariables false
set_option linter.unusedSimpArgs false
set_option maxHeartbeats 2000000 in
set_option maxRecDepth 20000 in
theorem jReplay (w : World) (F : Nat → Prop) (hF : Old F w) (M : MS [] w) (p : Plan) (p_w : planE.wf (Fr F []) w.heap p) (n : Int) (n_h : inI64 n) (l : Sl Rec) (l_w : (slE recE).wf (Fr F []) w.heap l) (hb : p.rounds.xs.length ≤ 100) :
 Calls Try.prog 68 #[.agg (planE.cells p).toArray, iI n, sV l] w fun e w' => ∃ (r0 : Ctrl), e = .returned (.tuple #[.agg (ctrlE.cells r0).toArray, iI (replE p n l.xs)]) ∧ ctrlE.wf (Fr F []) w'.heap r0 ∧ ctlR r0 (replC p n l.xs) ∧ Tr [] w [] w' := by
 have : p.rounds.xs.length ≤ 9223372036854775807 := (p_w.2).1.len
 obtain ⟨n_hl, n_hu⟩ : inI64 n := id n_h
 have : l.xs.length ≤ 9223372036854775807 := (l_w).1.len
 refine go Try.func68 rfl 48 rfl [wfF planE p, wfF (slE recE) l] [] hF M ⟨p_w, l_w, trivial⟩ trivial ?_
 intro a S
 have hD : ∀ k, In ([] : List BS) k → ¬ F k := fun _ h => h.elim
 refine rs0 ?_
 refine nbp S (x_box _ (S.e rfl) rfl) ?_; clear S; intro a u b3 S
 refine nbp S (x_allocz _ iZ57 rfl) ?_; clear S; intro a u b6 S
 refine ens S (la (av rfl)) ?_; clear S; intro a u S
 refine rs0 ?_
 refine sp S (tr (ldkw 0 rfl rfl wD47)<|la (mv rfl)) ?_; clear S; intro a u S
 refine cl S (cNew _ _ (S.xx (ow []))  (S.mF (ks := [blO b3 (planE.cells p) 47, blO b6 [iI 0, .bool false, iI 0, .slice none 0 0, .slice none 0 0, .slice none 0 0] 57]) (fs := [])) (S.nfF (ks := [blO b3 (planE.cells p) 47, blO b6 [iI 0, .bool false, iI 0, .slice none 0 0, .slice none 0 0, .slice none 0 0] 57]) (fs := []) hD) p (dnF (ks := [blO b3 (planE.cells p) 47, blO b6 [iI 0, .bool false, iI 0, .slice none 0 0, .slice none 0 0, .slice none 0 0] 57]) (fs := []) (S.u 0 rfl)) n n_h (by first | omega | (dsimp only; omega))) cB71 ?_
 rintro e u ⟨q_t15, rfl, qK_t15, qB_t15, hr_t15, T0⟩; refine ⟨_, rfl, fun a s => ?_⟩
 have S2 := S.kF (ks := [blO b3 (planE.cells p) 47, blO b6 [iI 0, .bool false, iI 0, .slice none 0 0, .slice none 0 0, .slice none 0 0] 57]) (fs := []) [bnO (machQ q_t15)] s T0 ⟨qB_t15, trivial⟩ ⟨(mo_bn (mo_machQ _)), trivial⟩
 replace S2 := (show St _ _ _ _ _ _ [blO b3 (planE.cells p) 47, blO b6 [iI 0, .bool false, iI 0, .slice none 0 0, .slice none 0 0, .slice none 0 0] 57, bnO (machQ q_t15)] _ _ from S2)
 clear S; have S := S2; clear S2 s T0 qB_t15
 rcases q_t15 with _ | ⟨B_t15, x_t15⟩
 ·skip
  replace S := S.pk [0, 1] (os' := [blO b3 (planE.cells p) 47, blO b6 [iI 0, .bool false, iI 0, .slice none 0 0, .slice none 0 0, .slice none 0 0] 57])
  have hng : ¬ ((statesP p.staged (rdsP p) n).isSome = true ∧ p.rounds.xs.length ≤ 16) := fun h => (by have := hr_t15.1.2 h; cases this)
  refine ens S (tr (mv rfl)<|tr (exi rfl rfl)<|tr (exi rfl rfl)<|tr (av rfl)<|la (av rfl)) ?_; clear S; intro a u S
  refine wp_seq ?_
  refine rs S (tr (mv rfl)<|la (neqi rfl rfl)) ?_; clear S; intro a u S
  refine cdt S rfl ?_
  refine rs S (tr (ov fun S=>x_bd S [] [iI 0, .bool false, iI 0, .slice none 0 0, .slice none 0 0, .slice none 0 0])<|tr (mv rfl)<|tr (stkw 1 rfl rfl rfl)<|la (av rfl)) ?_; clear S; intro a u S
  refine wp_ret (then_r ?_)
  refine retcw2 rfl S.s rfl rfl (S.k 1 rfl).all wD57 ?_
  replace S := S.pk []
  refine ⟨(⟨0, false, 0, (Sl.mk none 0 ([])), (Sl.mk none 0 ([])), (Sl.mk none 0 ([]))⟩ : Ctrl), (r2 rfl (vi ?_)), ⟨(show inI64 0 from ⟨by omega, by omega⟩), trivial, (show inI64 0 from ⟨by omega, by omega⟩), sl_nil, sl_nil, sl_nil⟩, ?_, S.m.c⟩
  ·have e : replE p n l.xs = 1 := by unfold replE; rw [if_pos hng]
   exact e.symm
  have e : replE p n l.xs = 1 := by unfold replE; rw [if_pos hng]
  rw [replC_z (by rw [e]; decide)]
  exact ⟨rfl, rfl, rfl, rfl, rfl, rfl⟩
 skip
 replace S := (show St _ _ _ _ _ _ [blO b3 (planE.cells p) 47, blO b6 [iI 0, .bool false, iI 0, .slice none 0 0, .slice none 0 0, .slice none 0 0] 57, bnO (machF B_t15 x_t15)] _ _ from S)
 obtain ⟨hg, hx⟩ := hr_t15
 have hgd := hg.1 rfl
 have hx0 := hx _ rfl
 have hn0 : 0 ≤ n := by obtain ⟨sts, hst⟩ := Option.isSome_iff_exists.1 hgd.1; have := (statesP_ok hst (by rw [rdsP_len]; exact hgd.2)).1; omega
 have hMA := MachAt.new hn0 hx0.1 hx0.2.1 hx0.2.2.1 hx0.2.2.2
 refine ens S (tr (mv rfl)<|tr (exi rfl rfl)<|tr (exi rfl rfl)<|tr (av rfl)<|la (av rfl)) ?_; clear S; intro a u S
 refine wp_seq ?_
 refine rs S (tr (mv rfl)<|la (neqi rfl rfl)) ?_; clear S; intro a u S
 refine cdf S rfl ?_
 refine wp_skip (then_n (wp_seq ?_))
 have hn7 : l.xs.length ≤ 9223372036854775807 := ((S.u 1 rfl)).1.len
 refine rs S (tr (mv rfl)<|tr (leni uT32 rfl)<|la (gtri rfl rfl)) ?_; clear S; intro a u S
 refine cd S rfl ?_ ?_
 ·intro hc0
  refine rs S (tr (ov fun S=>x_bd S [] [iI 0, .bool false, iI 0, .slice none 0 0, .slice none 0 0, .slice none 0 0])<|tr (stkw 1 rfl rfl rfl)<|la (av rfl)) ?_; clear S; intro a u S
  refine wp_ret (then_r ?_)
  refine retcw2 rfl S.s rfl rfl (S.k 1 rfl).all wD57 ?_
  replace S := S.pk []
  refine ⟨(⟨0, false, 0, (Sl.mk none 0 ([])), (Sl.mk none 0 ([])), (Sl.mk none 0 ([]))⟩ : Ctrl), (r2 rfl (vi ?_)), ⟨(show inI64 0 from ⟨by omega, by omega⟩), trivial, (show inI64 0 from ⟨by omega, by omega⟩), sl_nil, sl_nil, sl_nil⟩, ?_, S.m.c⟩
  ·have e : replE p n l.xs = 3 := by unfold replE; rw [if_neg (fun h => h hgd), if_pos (by omega)]
   exact e.symm
  have e : replE p n l.xs = 3 := by unfold replE; rw [if_neg (fun h => h hgd), if_pos (by omega)]
  rw [replC_z (by rw [e]; decide)]
  exact ⟨rfl, rfl, rfl, rfl, rfl, rfl⟩
 intro hc1
 refine wp_skip (then_n (wp_seq ?_))
 refine rs S (tr (mv rfl)<|tr (leni uT32 rfl)<|la (mv rfl)) ?_; clear S; intro a u S
 refine wp_block ?_
 refine lp2 (fun (k : Nat) (mj : Mach) => [(1, iI n), (6, pT b6 0), (8, pT B_t15 0), (26, sV l), (27, iN l.xs.length), (28, iN k)]) (fun (k : Nat) (mj : Mach) => [blO b3 (planE.cells p) 47, blO b6 [iI 0, .bool false, iI 0, .slice none 0 0, .slice none 0 0, .slice none 0 0] 57, bnO (machF B_t15 mj)]) (fun (k : Nat) (mj : Mach) => machK mj ∧ (k ≤ l.xs.length ∧ MachAt (rdsP p) (stsD (statesP p.staged (rdsP p) n)) n mj (l.xs.take k))) (fun (k : Nat) (mj : Mach) => l.xs.length - k) S 0 x_t15 (subM rfl) rfl ?_ ?_
 ·refine ⟨qK_t15, ?_⟩
  exact ⟨Nat.zero_le _, hMA⟩
 clear S; intro k mj a u S hR
 obtain ⟨hk_mj, hR⟩ := hR
 obtain ⟨hk, hA⟩ := hR
 have hOK := hA.ok
 have hsn := hA.sn
 have htg := hA.tg
 have hkn : mj.known.xs.length = mj.target.xs.length := hA.ok.2.kn
 have hwt := hA.ok.2.wt.len
 have hwt2 : mj.waiting.xs.length ≤ _ := hwt
 have hn12 := hA.ok.1.n1
 obtain ⟨⟨_, _⟩, ⟨_, _⟩⟩ : inI64 mj.round ∧ inI64 mj.seq := id hk_mj
 refine rs S (la (lssi rfl rfl)) ?_; clear S; intro a u S
 refine wp_seq ?_
 refine cd S rfl ?_ ?_
 ·intro hc2
  refine wp_skip (then_n (wp_seq (wp_block (rs0 ?_))))
  obtain ⟨hl12, hu12⟩ : inI64 ((l.xs.getD k recE.dflt).kind) := id ((((S.u 1 rfl)).1.wf k (by omega)).1)
  obtain ⟨hl13, hu13⟩ : inI64 ((l.xs.getD k recE.dflt).dev) := id ((((S.u 1 rfl)).1.wf k (by omega)).2.1)
  obtain ⟨hl14, hu14⟩ : inI64 ((l.xs.getD k recE.dflt).inc) := id ((((S.u 1 rfl)).1.wf k (by omega)).2.2.1)
  obtain ⟨hl15, hu15⟩ : inI64 ((l.xs.getD k recE.dflt).seq) := id ((((S.u 1 rfl)).1.wf k (by omega)).2.2.2)
  refine sp S (tr (idxi uT32 sZ24 rfl rfl k rfl (by omega) (((S.u 1 rfl)).1.adr (i := k) (by omega)))<|la (ov fun S=>x_ldw (S.e rfl) (((S.u 1 rfl)).1.wcell k (by omega) _ rfl _ rfl) wD24)) ?_; clear S; intro a u S
  refine nbp S (x_allocz _ iZ24 rfl) ?_; clear S; intro a u b11 S
  refine ens S (la (stkw 3 rfl rfl rfl)) ?_; clear S; intro a u S
  refine wp_seq ?_
  refine rs S (tr (ldkw 3 rfl rfl wD24)<|tr (oc (fun S=>jValid _ _ S.x (.nil _) (l.xs.getD k recE.dflt) (dn0 (((S.u 1 rfl)).1.wf k (by omega)))) cB61)<|tr (noti rfl)<|tr (mv rfl)<|tr (og 35 rfl gf fun S hg=>xf (0) 1 uT24 (S.e rfl))<|tr (og 35 rfl gf fun S hg=>x_load sC3 (S.p rfl hg) ((S.k 3 rfl).cell (j := 1) rfl))<|tr (og 35 rfl gf fun S hg=>x_move (S.e rfl))<|tr (og 35 rfl gf fun S hg=>x_geq (S.p rfl hg) (S.p rfl hg))<|la (ori rfl rfl rfl)) ?_; clear S; intro a u S
  refine cd S rfl ?_ ?_
  ·intro hc3
   refine rs S (tr (ov fun S=>x_bd S [] [iI 0, .bool false, iI 0, .slice none 0 0, .slice none 0 0, .slice none 0 0])<|tr (stkw 1 rfl rfl rfl)<|la (av rfl)) ?_; clear S; intro a u S
   refine wp_ret (then_r (blk_r (then_r (then_r (blk_r (then_r ?_))))))
   refine retcw2 rfl S.s rfl rfl (S.k 1 rfl).all wD57 ?_
   replace S := S.pk []
   refine ⟨(⟨0, false, 0, (Sl.mk none 0 ([])), (Sl.mk none 0 ([])), (Sl.mk none 0 ([]))⟩ : Ctrl), (r2 rfl (vi ?_)), ⟨(show inI64 0 from ⟨by omega, by omega⟩), trivial, (show inI64 0 from ⟨by omega, by omega⟩), sl_nil, sl_nil, sl_nil⟩, ?_, S.m.c⟩
   ·have e : replE p n l.xs = 1 := by unfold replE; rw [if_neg (fun h => h hgd), if_neg (by omega), if_neg (fun h => by have := h _ (getD_mem (d := recE.dflt) (i := k) (by omega)); rcases hc3 with q | q; exact q this.1; omega)]
    exact e.symm
   have e : replE p n l.xs = 1 := by unfold replE; rw [if_neg (fun h => h hgd), if_neg (by omega), if_neg (fun h => by have := h _ (getD_mem (d := recE.dflt) (i := k) (by omega)); rcases hc3 with q | q; exact q this.1; omega)]
   rw [replC_z (by rw [e]; decide)]
   exact ⟨rfl, rfl, rfl, rfl, rfl, rfl⟩
  intro hc4
  obtain ⟨hv0, hdv0⟩ := not_or.1 hc4
  have hv := Classical.not_not.1 hv0
  have hv2 := hv
  unfold recOK at hv2
  refine wp_skip (then_n (r0 ?_))
  refine sp S (tr (mv rfl)<|la (ldkw 3 rfl rfl wD24)) ?_; clear S; intro a u S
  replace S := S.pk [0, 1, 3, 2] (os' := [blO b3 (planE.cells p) 47, blO b6 [iI 0, .bool false, iI 0, .slice none 0 0, .slice none 0 0, .slice none 0 0] 57, blO b11 (recE.cells (l.xs.getD k recE.dflt)) 24, bnO (machF B_t15 mj)])
  refine cl S (jApply _ _ (S.xx (ow [bnO (machF B_t15 mj)])) B_t15 mj (S.mF (ks := [blO b3 (planE.cells p) 47, blO b6 [iI 0, .bool false, iI 0, .slice none 0 0, .slice none 0 0, .slice none 0 0] 57, blO b11 (recE.cells (l.xs.getD k recE.dflt)) 24]) (fs := [bnO (machF B_t15 mj)])) (S.nfF (ks := [blO b3 (planE.cells p) 47, blO b6 [iI 0, .bool false, iI 0, .slice none 0 0, .slice none 0 0, .slice none 0 0] 57, blO b11 (recE.cells (l.xs.getD k recE.dflt)) 24]) (fs := [bnO (machF B_t15 mj)]) hD) hk_mj (S.dF (ks := [blO b3 (planE.cells p) 47, blO b6 [iI 0, .bool false, iI 0, .slice none 0 0, .slice none 0 0, .slice none 0 0] 57, blO b11 (recE.cells (l.xs.getD k recE.dflt)) 24]) (fs := [bnO (machF B_t15 mj)]) 0 rfl (mo_bn (mo_mach _ _))) (l.xs.getD k recE.dflt) (dnF (ks := [blO b3 (planE.cells p) 47, blO b6 [iI 0, .bool false, iI 0, .slice none 0 0, .slice none 0 0, .slice none 0 0] 57, blO b11 (recE.cells (l.xs.getD k recE.dflt)) 24]) (fs := [bnO (machF B_t15 mj)]) (((S.u 1 rfl)).1.wf k (by omega))) (⟨by first | assumption | exact hOK, by first | omega | (dsimp only; omega), by first | omega | assumption, by first | omega | assumption⟩)) cB73 ?_
  rintro e u ⟨m_t44, rfl, hk_m_t44, hK_m_t44, hq_m_t44, T0⟩; refine ⟨_, rfl, fun a s => ?_⟩
  have S2 := S.kF (ks := [blO b3 (planE.cells p) 47, blO b6 [iI 0, .bool false, iI 0, .slice none 0 0, .slice none 0 0, .slice none 0 0] 57, blO b11 (recE.cells (l.xs.getD k recE.dflt)) 24]) (fs := [bnO (machF B_t15 mj)]) [bnO (machF B_t15 m_t44)] s T0 ⟨hK_m_t44, trivial⟩ ⟨(mo_bn (mo_mach _ _)), trivial⟩
  replace S2 := (show St _ _ _ _ _ _ [blO b3 (planE.cells p) 47, blO b6 [iI 0, .bool false, iI 0, .slice none 0 0, .slice none 0 0, .slice none 0 0] 57, blO b11 (recE.cells (l.xs.getD k recE.dflt)) 24, bnO (machF B_t15 m_t44)] _ _ from S2)
  clear S; have S := S2; clear S2 s T0 hK_m_t44
  refine nn (blk_n (then_n ?_))
  refine rg S (tr (addi ((k + 1 : Nat) : Int) rfl rfl (w_i64 (by omega)))<|la (mv rfl)) ?_; clear S; intro a u S
  replace S := S.pk [0, 1, 3]
  refine then_n ?_
  refine ⟨(k + 1), m_t44, S.re (subM rfl) rfl rfl, ?_, ?_⟩
  ·refine ⟨hk_m_t44, ?_⟩
   refine ⟨by omega, ?_⟩
   rw [take_up (l := l.xs) (k := k) (m := k + 1) (by omega) rfl recE.dflt]
   exact hA.step ⟨hq_m_t44.1.1, hq_m_t44.1.2⟩ hq_m_t44.2 hv (by omega)
  omega
 intro hc5
 refine wp_exit (then_e (then_e (blk_e (then_n (rs0 ?_)))))
 refine sp S (la (mv rfl)) ?_; clear S; intro a u S
 refine cl S (cControl _ _ (S.xx [In (ow (machF B_t15 mj))]) (.nil _) (B_t15, mj) (S.rob hD 2 rfl (X := fun D => (ptE machE 166).wf D _ (B_t15, mj)) (rd_mach hk_mj) _ (by simp)) (⟨by first | omega | (dsimp only; omega), by first | omega | (dsimp only; omega), by first | omega | (dsimp only; omega)⟩)) cB77 ?_
 rintro e u ⟨ra_t47_3, rc_t47_3, ra_t47_4, rc_t47_4, ra_t47_5, rc_t47_5, rfl, R_t47_3, R_t47_4, R_t47_5, T0⟩; refine ⟨_, rfl, fun a s => ?_⟩
 replace S := S.krx [⟨_, intE, 3, ra_t47_5, rc_t47_5, mj.waiting.xs⟩, ⟨_, intE, 3, ra_t47_4, rc_t47_4, mj.known.xs⟩, ⟨_, intE, 3, ra_t47_3, rc_t47_3, mj.target.xs⟩] s T0 ⟨R_t47_5, R_t47_4, R_t47_3, trivial⟩ ⟨fun _ _ _ _ h => h, fun _ _ _ _ h => h, fun _ _ _ _ h => h, trivial⟩; clear s T0 R_t47_5 R_t47_4 R_t47_3
 replace S := S.pk [0, 1, 2, 3, 4, 5] (os' := [blO b3 (planE.cells p) 47, blO b6 [iI 0, .bool false, iI 0, .slice none 0 0, .slice none 0 0, .slice none 0 0] 57, bnO (machF B_t15 mj), rwO intE 3 w.heap.size ra_t47_5 rc_t47_5 mj.waiting.xs, rwO intE 3 w.heap.size ra_t47_4 rc_t47_4 mj.known.xs, rwO intE 3 w.heap.size ra_t47_3 rc_t47_3 mj.target.xs])
 refine ens S (tr (stkw 1 rfl rfl rfl)<|la (av rfl)) ?_; clear S; intro a u S
 refine wp_ret ?_
 replace S := S.fz 5 rfl
 replace S := S.fz 4 rfl
 replace S := S.fz 3 rfl
 refine retcw2 rfl S.s rfl rfl (S.k 1 rfl).all wD57 ?_
 replace S := S.pk []
 refine ⟨(⟨mj.round, mj.back, mj.seq, (Sl.mk ra_t47_3 rc_t47_3 mj.target.xs), (Sl.mk ra_t47_4 rc_t47_4 mj.known.xs), (Sl.mk ra_t47_5 rc_t47_5 mj.waiting.xs)⟩ : Ctrl), (r2 rfl (vi ?_)), ⟨(show inI64 mj.round from ⟨by omega, by omega⟩), trivial, (show inI64 mj.seq from ⟨by omega, by omega⟩), (S.u 2 rfl), (S.u 3 rfl), (S.u 4 rfl)⟩, ?_, S.m.c⟩
 ·have e : replE p n l.xs = 0 := by
   unfold replE
   rw [if_neg (fun h => h hgd), if_neg (by omega), if_pos (by have := hA.al; rwa [List.take_of_length_le (by omega)] at this)]
  rw [e]
 have e : replE p n l.xs = 0 := by
  unfold replE
  rw [if_neg (fun h => h hgd), if_neg (by omega), if_pos (by have := hA.al; rwa [List.take_of_length_le (by omega)] at this)]
 unfold replC
 rw [if_pos e]
 have hab := hA.ab
 rw [List.take_of_length_le (by omega)] at hab
 rw [← hab]
 exact ⟨rfl, rfl, rfl, rfl, rfl, rfl⟩
end Go.Proofs.Ytobggnpnochnnaa.V
