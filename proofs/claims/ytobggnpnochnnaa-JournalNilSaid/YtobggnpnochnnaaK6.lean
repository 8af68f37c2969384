/- records are applied -/
import Derived.Test.YtobggnpnochnnaaK5
import Derived.Test.YtobggnpnochnnaaJouM
import Derived.Test.YtobggnpnochnnaaJ8
namespace Go.Proofs.Ytobggnpnochnnaa.V
open Go.RowKit Go.Proofs.Ytobggnpnochnnaa
set_option linter.unusedVariables false
set_option linter.unusedSimpArgs false
set_option maxHeartbeats 2000000 in
set_option maxRecDepth 20000 in
theorem jApply (w : World) (F : Nat → Prop) (hF : Old F w) (m_b : Nat) (m : Mach) (M : MS [In (ow (machF m_b m))] w) (hD : ∀ k, In [In (ow (machF m_b m))] k → ¬ F k) (m_k : machK m) (m_K : (bnO (machF m_b m)).p F (In [In (ow (machF m_b m))]) w) (r : Rec) (r_w : recE.wf (Fr F [In (ow (machF m_b m))]) w.heap r) (ok : MachOK m ∧ m.sent.xs.length ≤ 300000 ∧ 0 ≤ r.dev ∧ r.dev < m.target.xs.length) :
 Calls Try.prog 73 #[pT m_b 0, .agg (recE.cells r).toArray] w fun e w' => ∃ (m_1 : Mach), e = .returned (.tuple #[]) ∧ machK m_1 ∧ (bnO (machF m_b m_1)).p F (In [In (ow (machF m_b m_1))]) w' ∧ (KeepM m m_1 ∧ absM m_1 = stepJ (rdsM m) (stsM m) (absM m) r) ∧ Tr [In (ow (machF m_b m))] w [In (ow (machF m_b m_1))] w' := by
 obtain ⟨_, _⟩ : inI64 r.kind := r_w.1
 obtain ⟨_, _⟩ : inI64 r.dev := r_w.2.1
 obtain ⟨_, _⟩ : inI64 r.inc := r_w.2.2.1
 obtain ⟨_, _⟩ : inI64 r.seq := r_w.2.2.2
 obtain ⟨hOK, hsent, hd0, hd1⟩ := ok
 refine go Try.func73 rfl 36 rfl [wfF recE r] [bnO (machF m_b m)] hF M ⟨r_w, trivial⟩ ⟨m_K, trivial⟩ ?_
 intro a S
 refine rs0 ?_
 refine nbp S (x_box _ (S.e rfl) rfl) ?_; clear S; intro a u b3 S
 refine ent (wp_seq ?_)
 refine rs S (tr (fldi 0 0 rfl uT24)<|la (ldk 1 sC3 rfl rfl rfl)) ?_; clear S; intro a u S
 refine wp_block ?_
 refine rs S (tr (eqli rfl rfl)<|la (av rfl)) ?_; clear S; intro a u S
 refine cd S rfl ?_ ?_
 ·intro hc0
  refine r0 ?_
  refine sp S (tr (mv rfl)<|tr (fldi 0 1 rfl uT24)<|tr (ldk 1 sC3 rfl rfl rfl)<|tr (fldi 0 2 rfl uT24)<|tr (ldk 1 sC3 rfl rfl rfl)<|tr (fldi 0 3 rfl uT24)<|la (ldk 1 sC3 rfl rfl rfl)) ?_; clear S; intro a u S
  replace S := S.pk [1, 0] (os' := [blO b3 (recE.cells r) 24, bnO (machF m_b m)])
  refine cl S (cAck _ _ (S.xx (ow [bnO (machF m_b m)])) m_b m (S.mF (ks := [blO b3 (recE.cells r) 24]) (fs := [bnO (machF m_b m)])) (S.nfF (ks := [blO b3 (recE.cells r) 24]) (fs := [bnO (machF m_b m)]) hD) m_k (S.dF (ks := [blO b3 (recE.cells r) 24]) (fs := [bnO (machF m_b m)]) 0 rfl (mo_bn (mo_mach _ _))) r.dev (S.u 0 rfl).2.1 r.inc (S.u 0 rfl).2.2.1 r.seq (S.u 0 rfl).2.2.2 (⟨by first | assumption | exact hOK, by first | omega | (dsimp only; omega), by omega, by first | omega | (dsimp only; omega)⟩)) cB106 ?_
  rintro e u ⟨m_t15, rfl, hk_m_t15, hK_m_t15, hq_m_t15, T0⟩; refine ⟨_, rfl, fun a s => ?_⟩
  have S2 := S.kF (ks := [blO b3 (recE.cells r) 24]) (fs := [bnO (machF m_b m)]) [bnO (machF m_b m_t15)] s T0 ⟨hK_m_t15, trivial⟩ ⟨(mo_bn (mo_mach _ _)), trivial⟩
  replace S2 := (show St _ _ _ _ _ _ [blO b3 (recE.cells r) 24, bnO (machF m_b m_t15)] _ _ from S2)
  clear S; have S := S2; clear S2 s T0 hK_m_t15
  refine nn (blk_n (then_n (r0 ?_)))
  refine sp S (la (mv rfl)) ?_; clear S; intro a u S
  refine cl S (cSent _ _ (S.xx (ow [bnO (machF m_b m_t15)])) m_b m_t15 (S.mF (ks := [blO b3 (recE.cells r) 24]) (fs := [bnO (machF m_b m_t15)])) (S.nfF (ks := [blO b3 (recE.cells r) 24]) (fs := [bnO (machF m_b m_t15)]) hD) hk_m_t15 (S.dF (ks := [blO b3 (recE.cells r) 24]) (fs := [bnO (machF m_b m_t15)]) 0 rfl (mo_bn (mo_mach _ _)))) cB108 ?_
  rintro e u ⟨ra_t35, rc_t35, m_t35, rfl, R_t35, hk_m_t35, hK_m_t35, hq_m_t35, T0⟩; refine ⟨_, rfl, fun a s => ?_⟩
  have S2 := S.kF (ks := [blO b3 (recE.cells r) 24]) (fs := [bnO (machF m_b m_t15)]) [bnO (machF m_b m_t35)] s T0 ⟨hK_m_t35, trivial⟩ ⟨(mo_bn (mo_mach _ _)), trivial⟩
  replace S2 := S2.ar (wfF (slE intE) (Sl.mk ra_t35 rc_t35 m_t15.sent.xs)) (S.upF (ks := [blO b3 (recE.cells r) 24]) (fs := [bnO (machF m_b m_t15)]) (fs' := [bnO (machF m_b m_t35)]) R_t35)
  replace S2 := (show St _ _ _ _ _ _ [blO b3 (recE.cells r) 24, bnO (machF m_b m_t35)] _ _ from S2)
  clear S; have S := S2; clear S2 s T0 hK_m_t35 R_t35
  have hn6 : m_t15.sent.xs.length ≤ 9223372036854775807 := ((S.u 1 rfl)).1.len
  refine nn ?_
  refine end0 rfl S.s ?_
  replace S := S.pk [1] (os' := [bnO (machF m_b m_t35)])
  refine ⟨m_t35, rfl, hk_m_t35, (S.m.o _ (nth_mem (i := 0) rfl)), ?_, S.m.c⟩
  have e1 : absM m_t15 = ackC (rdsM m) (stsM m) (absM m) r.dev r.inc r.seq := hq_m_t15.2
  have e2 : absM m_t35 = {absM m_t15 with sent := []} := hq_m_t35.2
  refine ⟨KeepM.trans ⟨hq_m_t15.1.1, hq_m_t15.1.2⟩ ⟨hq_m_t35.1.1, hq_m_t35.1.2⟩, ?_⟩
  rw [e2, e1]
  unfold stepJ stepK
  rw [if_pos (by assumption)]
 intro hc1
 refine rs S (tr (eqli rfl rfl)<|la (av rfl)) ?_; clear S; intro a u S
 refine cd S rfl ?_ ?_
 ·intro hc2
  refine r0 ?_
  refine sp S (tr (mv rfl)<|tr (fldi 0 1 rfl uT24)<|tr (ldk 1 sC3 rfl rfl rfl)<|tr (fldi 0 2 rfl uT24)<|la (ldk 1 sC3 rfl rfl rfl)) ?_; clear S; intro a u S
  replace S := S.pk [1, 0] (os' := [blO b3 (recE.cells r) 24, bnO (machF m_b m)])
  refine cl S (cHello _ _ (S.xx (ow [bnO (machF m_b m)])) m_b m (S.mF (ks := [blO b3 (recE.cells r) 24]) (fs := [bnO (machF m_b m)])) (S.nfF (ks := [blO b3 (recE.cells r) 24]) (fs := [bnO (machF m_b m)]) hD) m_k (S.dF (ks := [blO b3 (recE.cells r) 24]) (fs := [bnO (machF m_b m)]) 0 rfl (mo_bn (mo_mach _ _))) r.dev (S.u 0 rfl).2.1 r.inc (S.u 0 rfl).2.2.1 (⟨by first | assumption | exact hOK, by first | omega | (dsimp only; omega), by omega, by first | omega | (dsimp only; omega)⟩)) cB107 ?_
  rintro e u ⟨m_t23, rfl, hk_m_t23, hK_m_t23, hq_m_t23, T0⟩; refine ⟨_, rfl, fun a s => ?_⟩
  have S2 := S.kF (ks := [blO b3 (recE.cells r) 24]) (fs := [bnO (machF m_b m)]) [bnO (machF m_b m_t23)] s T0 ⟨hK_m_t23, trivial⟩ ⟨(mo_bn (mo_mach _ _)), trivial⟩
  replace S2 := (show St _ _ _ _ _ _ [blO b3 (recE.cells r) 24, bnO (machF m_b m_t23)] _ _ from S2)
  clear S; have S := S2; clear S2 s T0 hK_m_t23
  refine nn (blk_n (then_n (r0 ?_)))
  refine sp S (la (mv rfl)) ?_; clear S; intro a u S
  refine cl S (cSent _ _ (S.xx (ow [bnO (machF m_b m_t23)])) m_b m_t23 (S.mF (ks := [blO b3 (recE.cells r) 24]) (fs := [bnO (machF m_b m_t23)])) (S.nfF (ks := [blO b3 (recE.cells r) 24]) (fs := [bnO (machF m_b m_t23)]) hD) hk_m_t23 (S.dF (ks := [blO b3 (recE.cells r) 24]) (fs := [bnO (machF m_b m_t23)]) 0 rfl (mo_bn (mo_mach _ _)))) cB108 ?_
  rintro e u ⟨ra_t35, rc_t35, m_t35, rfl, R_t35, hk_m_t35, hK_m_t35, hq_m_t35, T0⟩; refine ⟨_, rfl, fun a s => ?_⟩
  have S2 := S.kF (ks := [blO b3 (recE.cells r) 24]) (fs := [bnO (machF m_b m_t23)]) [bnO (machF m_b m_t35)] s T0 ⟨hK_m_t35, trivial⟩ ⟨(mo_bn (mo_mach _ _)), trivial⟩
  replace S2 := S2.ar (wfF (slE intE) (Sl.mk ra_t35 rc_t35 m_t23.sent.xs)) (S.upF (ks := [blO b3 (recE.cells r) 24]) (fs := [bnO (machF m_b m_t23)]) (fs' := [bnO (machF m_b m_t35)]) R_t35)
  replace S2 := (show St _ _ _ _ _ _ [blO b3 (recE.cells r) 24, bnO (machF m_b m_t35)] _ _ from S2)
  clear S; have S := S2; clear S2 s T0 hK_m_t35 R_t35
  have hn10 : m_t23.sent.xs.length ≤ 9223372036854775807 := ((S.u 1 rfl)).1.len
  refine nn ?_
  refine end0 rfl S.s ?_
  replace S := S.pk [1] (os' := [bnO (machF m_b m_t35)])
  refine ⟨m_t35, rfl, hk_m_t35, (S.m.o _ (nth_mem (i := 0) rfl)), ?_, S.m.c⟩
  have e1 : absM m_t23 = helloC (absM m) r.dev r.inc := hq_m_t23.2
  have e2 : absM m_t35 = {absM m_t23 with sent := []} := hq_m_t35.2
  refine ⟨KeepM.trans ⟨hq_m_t23.1.1, hq_m_t23.1.2⟩ ⟨hq_m_t35.1.1, hq_m_t35.1.2⟩, ?_⟩
  rw [e2, e1]
  unfold stepJ stepK
  rw [if_neg (by assumption), if_pos (by assumption)]
 intro hc3
 refine rs S (tr (eqli rfl rfl)<|la (av rfl)) ?_; clear S; intro a u S
 refine cd S rfl ?_ ?_
 ·intro hc4
  refine r0 ?_
  refine sp S (tr (mv rfl)<|tr (fldi 0 1 rfl uT24)<|la (ldk 1 sC3 rfl rfl rfl)) ?_; clear S; intro a u S
  replace S := S.pk [1, 0] (os' := [blO b3 (recE.cells r) 24, bnO (machF m_b m)])
  refine cl S (cSkip _ _ (S.xx (ow [bnO (machF m_b m)])) m_b m (S.mF (ks := [blO b3 (recE.cells r) 24]) (fs := [bnO (machF m_b m)])) (S.nfF (ks := [blO b3 (recE.cells r) 24]) (fs := [bnO (machF m_b m)]) hD) m_k (S.dF (ks := [blO b3 (recE.cells r) 24]) (fs := [bnO (machF m_b m)]) 0 rfl (mo_bn (mo_mach _ _))) r.dev (S.u 0 rfl).2.1 (⟨by first | assumption | exact hOK, by first | omega | (dsimp only; omega)⟩)) cB86 ?_
  rintro e u ⟨m_t29, rfl, hk_m_t29, hK_m_t29, hq_m_t29, T0⟩; refine ⟨_, rfl, fun a s => ?_⟩
  have S2 := S.kF (ks := [blO b3 (recE.cells r) 24]) (fs := [bnO (machF m_b m)]) [bnO (machF m_b m_t29)] s T0 ⟨hK_m_t29, trivial⟩ ⟨(mo_bn (mo_mach _ _)), trivial⟩
  replace S2 := (show St _ _ _ _ _ _ [blO b3 (recE.cells r) 24, bnO (machF m_b m_t29)] _ _ from S2)
  clear S; have S := S2; clear S2 s T0 hK_m_t29
  refine nn (blk_n (then_n (r0 ?_)))
  refine sp S (la (mv rfl)) ?_; clear S; intro a u S
  refine cl S (cSent _ _ (S.xx (ow [bnO (machF m_b m_t29)])) m_b m_t29 (S.mF (ks := [blO b3 (recE.cells r) 24]) (fs := [bnO (machF m_b m_t29)])) (S.nfF (ks := [blO b3 (recE.cells r) 24]) (fs := [bnO (machF m_b m_t29)]) hD) hk_m_t29 (S.dF (ks := [blO b3 (recE.cells r) 24]) (fs := [bnO (machF m_b m_t29)]) 0 rfl (mo_bn (mo_mach _ _)))) cB108 ?_
  rintro e u ⟨ra_t35, rc_t35, m_t35, rfl, R_t35, hk_m_t35, hK_m_t35, hq_m_t35, T0⟩; refine ⟨_, rfl, fun a s => ?_⟩
  have S2 := S.kF (ks := [blO b3 (recE.cells r) 24]) (fs := [bnO (machF m_b m_t29)]) [bnO (machF m_b m_t35)] s T0 ⟨hK_m_t35, trivial⟩ ⟨(mo_bn (mo_mach _ _)), trivial⟩
  replace S2 := S2.ar (wfF (slE intE) (Sl.mk ra_t35 rc_t35 m_t29.sent.xs)) (S.upF (ks := [blO b3 (recE.cells r) 24]) (fs := [bnO (machF m_b m_t29)]) (fs' := [bnO (machF m_b m_t35)]) R_t35)
  replace S2 := (show St _ _ _ _ _ _ [blO b3 (recE.cells r) 24, bnO (machF m_b m_t35)] _ _ from S2)
  clear S; have S := S2; clear S2 s T0 hK_m_t35 R_t35
  have hn14 : m_t29.sent.xs.length ≤ 9223372036854775807 := ((S.u 1 rfl)).1.len
  refine nn ?_
  refine end0 rfl S.s ?_
  replace S := S.pk [1] (os' := [bnO (machF m_b m_t35)])
  refine ⟨m_t35, rfl, hk_m_t35, (S.m.o _ (nth_mem (i := 0) rfl)), ?_, S.m.c⟩
  have e1 : absM m_t29 = rmC (rdsM m) (stsM m) (absM m) r.dev := hq_m_t29.2
  have e2 : absM m_t35 = {absM m_t29 with sent := []} := hq_m_t35.2
  refine ⟨KeepM.trans ⟨hq_m_t29.1.1, hq_m_t29.1.2⟩ ⟨hq_m_t35.1.1, hq_m_t35.1.2⟩, ?_⟩
  rw [e2, e1]
  unfold stepJ stepK
  rw [if_neg (by assumption), if_neg (by assumption), if_pos (by assumption)]
 intro hc5
 refine rs S (tr (eqli rfl rfl)<|la (av rfl)) ?_; clear S; intro a u S
 refine cd S rfl ?_ ?_
 ·intro hc6
  refine r0 ?_
  refine sp S (la (mv rfl)) ?_; clear S; intro a u S
  replace S := S.pk [1, 0] (os' := [blO b3 (recE.cells r) 24, bnO (machF m_b m)])
  refine cl S (cAbort _ _ (S.xx (ow [bnO (machF m_b m)])) m_b m (S.mF (ks := [blO b3 (recE.cells r) 24]) (fs := [bnO (machF m_b m)])) (S.nfF (ks := [blO b3 (recE.cells r) 24]) (fs := [bnO (machF m_b m)]) hD) m_k (S.dF (ks := [blO b3 (recE.cells r) 24]) (fs := [bnO (machF m_b m)]) 0 rfl (mo_bn (mo_mach _ _))) (⟨by first | assumption | exact hOK, by first | omega | (dsimp only; omega)⟩)) cB87 ?_
  rintro e u ⟨m_t33, rfl, hk_m_t33, hK_m_t33, hq_m_t33, T0⟩; refine ⟨_, rfl, fun a s => ?_⟩
  have S2 := S.kF (ks := [blO b3 (recE.cells r) 24]) (fs := [bnO (machF m_b m)]) [bnO (machF m_b m_t33)] s T0 ⟨hK_m_t33, trivial⟩ ⟨(mo_bn (mo_mach _ _)), trivial⟩
  replace S2 := (show St _ _ _ _ _ _ [blO b3 (recE.cells r) 24, bnO (machF m_b m_t33)] _ _ from S2)
  clear S; have S := S2; clear S2 s T0 hK_m_t33
  refine nn (blk_n (then_n (r0 ?_)))
  refine sp S (la (mv rfl)) ?_; clear S; intro a u S
  refine cl S (cSent _ _ (S.xx (ow [bnO (machF m_b m_t33)])) m_b m_t33 (S.mF (ks := [blO b3 (recE.cells r) 24]) (fs := [bnO (machF m_b m_t33)])) (S.nfF (ks := [blO b3 (recE.cells r) 24]) (fs := [bnO (machF m_b m_t33)]) hD) hk_m_t33 (S.dF (ks := [blO b3 (recE.cells r) 24]) (fs := [bnO (machF m_b m_t33)]) 0 rfl (mo_bn (mo_mach _ _)))) cB108 ?_
  rintro e u ⟨ra_t35, rc_t35, m_t35, rfl, R_t35, hk_m_t35, hK_m_t35, hq_m_t35, T0⟩; refine ⟨_, rfl, fun a s => ?_⟩
  have S2 := S.kF (ks := [blO b3 (recE.cells r) 24]) (fs := [bnO (machF m_b m_t33)]) [bnO (machF m_b m_t35)] s T0 ⟨hK_m_t35, trivial⟩ ⟨(mo_bn (mo_mach _ _)), trivial⟩
  replace S2 := S2.ar (wfF (slE intE) (Sl.mk ra_t35 rc_t35 m_t33.sent.xs)) (S.upF (ks := [blO b3 (recE.cells r) 24]) (fs := [bnO (machF m_b m_t33)]) (fs' := [bnO (machF m_b m_t35)]) R_t35)
  replace S2 := (show St _ _ _ _ _ _ [blO b3 (recE.cells r) 24, bnO (machF m_b m_t35)] _ _ from S2)
  clear S; have S := S2; clear S2 s T0 hK_m_t35 R_t35
  have hn18 : m_t33.sent.xs.length ≤ 9223372036854775807 := ((S.u 1 rfl)).1.len
  refine nn ?_
  refine end0 rfl S.s ?_
  replace S := S.pk [1] (os' := [bnO (machF m_b m_t35)])
  refine ⟨m_t35, rfl, hk_m_t35, (S.m.o _ (nth_mem (i := 0) rfl)), ?_, S.m.c⟩
  have e1 : absM m_t33 = abortC (rdsM m) (stsM m) (absM m) := hq_m_t33.2
  have e2 : absM m_t35 = {absM m_t33 with sent := []} := hq_m_t35.2
  refine ⟨KeepM.trans ⟨hq_m_t33.1.1, hq_m_t33.1.2⟩ ⟨hq_m_t35.1.1, hq_m_t35.1.2⟩, ?_⟩
  rw [e2, e1]
  unfold stepJ stepK
  rw [if_neg (by assumption), if_neg (by assumption), if_neg (by assumption), if_pos (by assumption)]
 intro hc7
 refine wp_skip (blk_n (then_n (r0 ?_)))
 refine sp S (la (mv rfl)) ?_; clear S; intro a u S
 replace S := S.pk [1, 0] (os' := [blO b3 (recE.cells r) 24, bnO (machF m_b m)])
 refine cl S (cSent _ _ (S.xx (ow [bnO (machF m_b m)])) m_b m (S.mF (ks := [blO b3 (recE.cells r) 24]) (fs := [bnO (machF m_b m)])) (S.nfF (ks := [blO b3 (recE.cells r) 24]) (fs := [bnO (machF m_b m)]) hD) m_k (S.dF (ks := [blO b3 (recE.cells r) 24]) (fs := [bnO (machF m_b m)]) 0 rfl (mo_bn (mo_mach _ _)))) cB108 ?_
 rintro e u ⟨ra_t35, rc_t35, m_t35, rfl, R_t35, hk_m_t35, hK_m_t35, hq_m_t35, T0⟩; refine ⟨_, rfl, fun a s => ?_⟩
 have S2 := S.kF (ks := [blO b3 (recE.cells r) 24]) (fs := [bnO (machF m_b m)]) [bnO (machF m_b m_t35)] s T0 ⟨hK_m_t35, trivial⟩ ⟨(mo_bn (mo_mach _ _)), trivial⟩
 replace S2 := S2.ar (wfF (slE intE) (Sl.mk ra_t35 rc_t35 m.sent.xs)) (S.upF (ks := [blO b3 (recE.cells r) 24]) (fs := [bnO (machF m_b m)]) (fs' := [bnO (machF m_b m_t35)]) R_t35)
 replace S2 := (show St _ _ _ _ _ _ [blO b3 (recE.cells r) 24, bnO (machF m_b m_t35)] _ _ from S2)
 clear S; have S := S2; clear S2 s T0 hK_m_t35 R_t35
 have hn20 : m.sent.xs.length ≤ 9223372036854775807 := ((S.u 1 rfl)).1.len
 refine nn ?_
 refine end0 rfl S.s ?_
 replace S := S.pk [1] (os' := [bnO (machF m_b m_t35)])
 refine ⟨m_t35, rfl, hk_m_t35, (S.m.o _ (nth_mem (i := 0) rfl)), ?_, S.m.c⟩
 have e2 : absM m_t35 = {absM m with sent := []} := hq_m_t35.2
 refine ⟨⟨hq_m_t35.1.1, hq_m_t35.1.2⟩, ?_⟩
 rw [e2]
 unfold stepJ stepK
 rw [if_neg (by assumption), if_neg (by assumption), if_neg (by assumption), if_neg (by assumption)]
end Go.Proofs.Ytobggnpnochnnaa.V
