/- the controller: messages -/
import Derived.Test.YtobggnpnochnnaaJ4
import Derived.Test.YtobggnpnochnnaaCtlO
namespace Go.Proofs.Ytobggnpnochnnaa.V
open Go.RowKit Go.Proofs.Ytobggnpnochnnaa
set_option linter.unusedVariables false
set_option linter.unusedSimpArgs false
set_option maxHeartbeats 2000000 in
set_option maxRecDepth 20000 in
theorem cSkip (w : World) (F : Nat → Prop) (hF : Old F w) (m_b : Nat) (m : Mach) (M : MS [In (ow (machF m_b m))] w) (hD : ∀ k, In [In (ow (machF m_b m))] k → ¬ F k) (m_k : machK m) (m_K : (bnO (machF m_b m)).p F (In [In (ow (machF m_b m))]) w) (d : Int) (d_h : inI64 d) (ok : MachOK m ∧ m.sent.xs.length ≤ 300000) :
 Calls Try.prog 86 #[pT m_b 0, iI d] w fun e w' => ∃ (m_1 : Mach), e = .returned (.tuple #[]) ∧ machK m_1 ∧ (bnO (machF m_b m_1)).p F (In [In (ow (machF m_b m_1))]) w' ∧ (KeepM m m_1 ∧ absM m_1 = rmC (rdsM m) (stsM m) (absM m) d) ∧ Tr [In (ow (machF m_b m))] w [In (ow (machF m_b m_1))] w' := by
 obtain ⟨d_hl, d_hu⟩ : inI64 d := id d_h
 obtain ⟨⟨PO, CO⟩, hsent⟩ := ok
 have hRl := rds_len m
 have hSl := sts_len m
 have hP1 := PO.r1
 have hP2 := PO.s1
 have hPn := PO.n1
 have hC1 : -1 ≤ m.round ∧ m.round ≤ _ := CO.rd
 have hsq : 0 ≤ m.seq ∧ m.seq ≤ 40 := CO.sqb hP1
 have hkn : m.known.xs.length = _ := CO.kn
 have hwt : Asc _ m.waiting.xs := CO.wt
 have hwl := hwt.len
 have hOK : MachOK m := ⟨PO, CO⟩
 refine go Try.func86 rfl 7 rfl [] [bnO (machF m_b m)] hF M trivial ⟨m_K, trivial⟩ ?_
 intro a S
 refine r0 ?_
 refine sp S (tr (mv rfl)<|la (mv rfl)) ?_; clear S; intro a u S
 refine cl S (cRemove _ _ (S.xx (ow [bnO (machF m_b m)])) m_b m (S.mF (ks := []) (fs := [bnO (machF m_b m)])) (S.nfF (ks := []) (fs := [bnO (machF m_b m)]) hD) m_k (S.dF (ks := []) (fs := [bnO (machF m_b m)]) 0 rfl (mo_bn (mo_mach _ _))) d d_h (⟨by first | assumption | exact hOK, by first | omega | (dsimp only; omega)⟩)) cB116 ?_
 rintro e u ⟨m_t6, rfl, hk_m_t6, hK_m_t6, hq_m_t6, T0⟩; refine ⟨_, rfl, fun a s => ?_⟩
 have S2 := S.kF (ks := []) (fs := [bnO (machF m_b m)]) [bnO (machF m_b m_t6)] s T0 ⟨hK_m_t6, trivial⟩ ⟨(mo_bn (mo_mach _ _)), trivial⟩
 replace S2 := (show St _ _ _ _ _ _ [bnO (machF m_b m_t6)] _ _ from S2)
 clear S; have S := S2; clear S2 s T0 hK_m_t6
 refine nn ?_
 refine end0 rfl S.s ?_
 refine ⟨m_t6, rfl, hk_m_t6, (S.m.o _ (nth_mem (i := 0) rfl)), ?_, S.m.c⟩
 first | assumption | trivial | rfl
set_option maxHeartbeats 2000000 in
set_option maxRecDepth 20000 in
theorem cAck (w : World) (F : Nat → Prop) (hF : Old F w) (m_b : Nat) (m : Mach) (M : MS [In (ow (machF m_b m))] w) (hD : ∀ k, In [In (ow (machF m_b m))] k → ¬ F k) (m_k : machK m) (m_K : (bnO (machF m_b m)).p F (In [In (ow (machF m_b m))]) w) (d : Int) (d_h : inI64 d) (i : Int) (i_h : inI64 i) (q : Int) (q_h : inI64 q) (ok : MachOK m ∧ m.sent.xs.length ≤ 300000 ∧ 0 ≤ d ∧ d < m.target.xs.length) :
 Calls Try.prog 106 #[pT m_b 0, iI d, iI i, iI q] w fun e w' => ∃ (m_1 : Mach), e = .returned (.tuple #[]) ∧ machK m_1 ∧ (bnO (machF m_b m_1)).p F (In [In (ow (machF m_b m_1))]) w' ∧ (KeepM m m_1 ∧ absM m_1 = ackC (rdsM m) (stsM m) (absM m) d i q) ∧ Tr [In (ow (machF m_b m))] w [In (ow (machF m_b m_1))] w' := by
 obtain ⟨d_hl, d_hu⟩ : inI64 d := id d_h
 obtain ⟨i_hl, i_hu⟩ : inI64 i := id i_h
 obtain ⟨q_hl, q_hu⟩ : inI64 q := id q_h
 obtain ⟨⟨PO, CO⟩, hsent⟩ := ok
 have hRl := rds_len m
 have hSl := sts_len m
 have hP1 := PO.r1
 have hP2 := PO.s1
 have hPn := PO.n1
 have hC1 : -1 ≤ m.round ∧ m.round ≤ _ := CO.rd
 have hsq : 0 ≤ m.seq ∧ m.seq ≤ 40 := CO.sqb hP1
 have hkn : m.known.xs.length = _ := CO.kn
 have hwt : Asc _ m.waiting.xs := CO.wt
 have hwl := hwt.len
 obtain ⟨hsent, hd0, hd1⟩ := hsent
 have hOK : MachOK m := ⟨PO, CO⟩
 have hkl : m.known.xs.length = m.target.xs.length := CO.kn
 refine go Try.func106 rfl 30 rfl [] [bnO (machF m_b m)] hF M trivial ⟨m_K, trivial⟩ ?_
 intro a S
 refine rs0 ?_
 refine sp S (tr (mv rfl)<|tr (mv rfl)<|la (ov fun S=>x_nilck (S.e rfl))) ?_; clear S; intro a u S
 replace S := (show St _ _ _ _ _ _ [blO m_b [sV m.rounds, sV m.states, iI m.round, bD (m.back = true), iI m.seq, sV m.target, sV m.known, sV m.waiting, sV m.sent] 166, rwO intE 3 0 m.target.a m.target.c m.target.xs, rwO intE 3 0 m.known.a m.known.c m.known.xs, rwO intE 3 0 m.waiting.a m.waiting.c m.waiting.xs, rwO intE 3 0 m.sent.a m.sent.c m.sent.xs, daO (slE (slE chgE)) m.rounds, daO (slE (slE intE)) m.states] _ _ from S.opn (ks := []))
 replace S := S.ar (wfF (slE (slE chgE)) m.rounds) (S.da 5 rfl)
 replace S := S.ar (wfF (slE (slE intE)) m.states) (S.da 6 rfl)
 replace S := S.pk [0, 1, 2, 3, 4] (os' := [blO m_b [sV m.rounds, sV m.states, iI m.round, bD (m.back = true), iI m.seq, sV m.target, sV m.known, sV m.waiting, sV m.sent] 166, rwO intE 3 0 m.target.a m.target.c m.target.xs, rwO intE 3 0 m.known.a m.known.c m.known.xs, rwO intE 3 0 m.waiting.a m.waiting.c m.waiting.xs, rwO intE 3 0 m.sent.a m.sent.c m.sent.xs])
 have : m.target.xs.length ≤ 9223372036854775807 := (S.row 1 rfl).len_le
 have : m.known.xs.length ≤ 9223372036854775807 := (S.row 2 rfl).len_le
 have : m.waiting.xs.length ≤ 9223372036854775807 := (S.row 3 rfl).len_le
 have : m.sent.xs.length ≤ 9223372036854775807 := (S.row 4 rfl).len_le
 have : m.rounds.xs.length ≤ 9223372036854775807 := ((S.u 0 rfl)).1.len
 have : m.states.xs.length ≤ 9223372036854775807 := ((S.u 1 rfl)).1.len
 obtain ⟨_, _⟩ : inI64 m.round := m_k.1
 obtain ⟨_, _⟩ : inI64 m.seq := m_k.2
 obtain ⟨hl2, hu2⟩ : inI64 (m.known.xs.getD ((d).toNat) intE.dflt) := id ((S.row 2 rfl).wfi (d).toNat (by omega))
 refine ens S (tr (fldi 0 2 rfl uT166)<|tr (fldi (0 + 2) 4 rfl uT57)<|tr (ldk 0 sC22 rfl rfl rfl)<|tr (mv rfl)<|tr (ov fun S=>x_idx uT22 sZ3 (S.e rfl) (S.e rfl) (d).toNat (by omega) (by omega) (row_off (S.row 2 rfl) (m := (d).toNat) (by omega)))<|tr (ov fun S=>x_load sC3 (S.e rfl) (((S.row 2 rfl).latz (by first | decide | exact Nat.one_pos)).cell (d).toNat (by omega) 0 _ rfl))<|tr (eqli rfl rfl)<|tr (mv rfl)<|tr (og 18 rfl gt fun S hg=>x_move (S.e rfl))<|tr (og 18 rfl gt fun S hg=>x_move (S.e rfl))<|tr (og 18 rfl gt fun S hg=>x_nilck (S.p rfl hg))<|tr (og 18 rfl gt fun S hg=>xf (0) 2 uT166 (S.p rfl hg))<|tr (og 18 rfl gt fun S hg=>xf (0 + 2) 2 uT57 (S.p rfl hg))<|tr (og 18 rfl gt fun S hg=>x_load sC3 (S.p rfl hg) ((S.k 0 rfl).cell (j := 4) rfl))<|tr (og 18 rfl gt fun S hg=>x_eql (S.p rfl hg) (S.p rfl hg))<|la (andi rfl rfl rfl)) ?_; clear S; intro a u S
 refine cd S rfl ?_ ?_
 ·intro hc0
  refine r0 ?_
  refine sp S (tr (mv rfl)<|la (mv rfl)) ?_; clear S; intro a u S
  replace S := S.oda (E := slE (slE chgE)) (x := m.rounds) (S.u 0 rfl)
  replace S := S.oda (E := slE (slE intE)) (x := m.states) (S.u 1 rfl)
  have hk4 : machK (⟨m.rounds, m.states, m.round, m.back, m.seq, (Sl.mk m.target.a m.target.c m.target.xs), (Sl.mk m.known.a m.known.c m.known.xs), (Sl.mk m.waiting.a m.waiting.c m.waiting.xs), (Sl.mk m.sent.a m.sent.c m.sent.xs)⟩ : Mach) := ⟨m_k.1, m_k.2⟩
  replace S := (show St _ _ _ _ _ _ ([] ++ machF m_b (⟨m.rounds, m.states, m.round, m.back, m.seq, (Sl.mk m.target.a m.target.c m.target.xs), (Sl.mk m.known.a m.known.c m.known.xs), (Sl.mk m.waiting.a m.waiting.c m.waiting.xs), (Sl.mk m.sent.a m.sent.c m.sent.xs)⟩ : Mach)) _ _ from S).cls
  replace S := (show St _ _ _ _ _ _ [bnO (machF m_b (⟨m.rounds, m.states, m.round, m.back, m.seq, (Sl.mk m.target.a m.target.c m.target.xs), (Sl.mk m.known.a m.known.c m.known.xs), (Sl.mk m.waiting.a m.waiting.c m.waiting.xs), (Sl.mk m.sent.a m.sent.c m.sent.xs)⟩ : Mach))] _ _ from S)
  obtain ⟨y5, hy5⟩ : ∃ y : Mach, (⟨m.rounds, m.states, m.round, m.back, m.seq, (Sl.mk m.target.a m.target.c m.target.xs), (Sl.mk m.known.a m.known.c m.known.xs), (Sl.mk m.waiting.a m.waiting.c m.waiting.xs), (Sl.mk m.sent.a m.sent.c m.sent.xs)⟩ : Mach) = y := ⟨_, rfl⟩; rw [hy5] at S hk4
  refine cl S (cRemove _ _ (S.xx (ow [bnO (machF m_b y5)])) m_b y5 (S.mF (ks := []) (fs := [bnO (machF m_b y5)])) (S.nfF (ks := []) (fs := [bnO (machF m_b y5)]) hD) hk4 (S.dF (ks := []) (fs := [bnO (machF m_b y5)]) 0 rfl (mo_bn (mo_mach _ _))) d d_h (by subst hy5; exact (⟨by first | assumption | exact hOK, by first | omega | (dsimp only; omega)⟩))) cB116 ?_
  rintro e u ⟨m_t29, rfl, hk_m_t29, hK_m_t29, hq_m_t29, T0⟩; refine ⟨_, rfl, fun a s => ?_⟩
  have S2 := S.kF (ks := []) (fs := [bnO (machF m_b y5)]) [bnO (machF m_b m_t29)] s T0 ⟨hK_m_t29, trivial⟩ ⟨(mo_bn (mo_mach _ _)), trivial⟩
  replace S2 := (show St _ _ _ _ _ _ [bnO (machF m_b m_t29)] _ _ from S2)
  clear S; have S := S2; clear S2 s T0 hK_m_t29
  subst hy5
  refine nn ?_
  refine end0 rfl S.s ?_
  refine ⟨m_t29, rfl, hk_m_t29, (S.m.o _ (nth_mem (i := 0) rfl)), ?_, S.m.c⟩
  refine ⟨hq_m_t29.1, hq_m_t29.2.trans ?_⟩
  unfold ackC
  rw [if_pos ⟨hc0.1, hc0.2⟩]; rfl
 intro hc1
 refine wp_skip ?_
 replace S := S.oda (E := slE (slE chgE)) (x := m.rounds) (S.u 0 rfl)
 replace S := S.oda (E := slE (slE intE)) (x := m.states) (S.u 1 rfl)
 have hk6 : machK (⟨m.rounds, m.states, m.round, m.back, m.seq, (Sl.mk m.target.a m.target.c m.target.xs), (Sl.mk m.known.a m.known.c m.known.xs), (Sl.mk m.waiting.a m.waiting.c m.waiting.xs), (Sl.mk m.sent.a m.sent.c m.sent.xs)⟩ : Mach) := ⟨m_k.1, m_k.2⟩
 replace S := (show St _ _ _ _ _ _ ([] ++ machF m_b (⟨m.rounds, m.states, m.round, m.back, m.seq, (Sl.mk m.target.a m.target.c m.target.xs), (Sl.mk m.known.a m.known.c m.known.xs), (Sl.mk m.waiting.a m.waiting.c m.waiting.xs), (Sl.mk m.sent.a m.sent.c m.sent.xs)⟩ : Mach)) _ _ from S).cls
 replace S := (show St _ _ _ _ _ _ [bnO (machF m_b (⟨m.rounds, m.states, m.round, m.back, m.seq, (Sl.mk m.target.a m.target.c m.target.xs), (Sl.mk m.known.a m.known.c m.known.xs), (Sl.mk m.waiting.a m.waiting.c m.waiting.xs), (Sl.mk m.sent.a m.sent.c m.sent.xs)⟩ : Mach))] _ _ from S)
 refine end0 rfl S.s ?_
 refine ⟨(⟨m.rounds, m.states, m.round, m.back, m.seq, (Sl.mk m.target.a m.target.c m.target.xs), (Sl.mk m.known.a m.known.c m.known.xs), (Sl.mk m.waiting.a m.waiting.c m.waiting.xs), (Sl.mk m.sent.a m.sent.c m.sent.xs)⟩ : Mach), rfl, hk6, (S.m.o _ (nth_mem (i := 0) rfl)), ?_, S.m.c⟩
 refine ⟨⟨rfl, rfl⟩, ?_⟩
 unfold ackC
 rw [if_neg fun h => hc1 ⟨h.1, h.2⟩]
set_option maxHeartbeats 2000000 in
set_option maxRecDepth 20000 in
theorem cDevices (w : World) (F : Nat → Prop) (hF : Old F w) (M : MS [] w) (m : Nat × Mach) (m_w : (ptE machE 166).wf (Fr F []) w.heap m) :
 Calls Try.prog 72 #[pT m.1 0] w fun e w' => e = .returned (iN m.2.target.xs.length) ∧ Tr [] w [] w' := by
 have : m.2.rounds.xs.length ≤ 9223372036854775807 := (m_w.2.2.1).1.len
 have : m.2.states.xs.length ≤ 9223372036854775807 := (m_w.2.2.2.1).1.len
 obtain ⟨_, _⟩ : inI64 m.2.round := m_w.2.2.2.2.1
 obtain ⟨_, _⟩ : inI64 m.2.seq := m_w.2.2.2.2.2.2.1
 have : m.2.target.xs.length ≤ 9223372036854775807 := (m_w.2.2.2.2.2.2.2.1).1.len
 have : m.2.known.xs.length ≤ 9223372036854775807 := (m_w.2.2.2.2.2.2.2.2.1).1.len
 have : m.2.waiting.xs.length ≤ 9223372036854775807 := (m_w.2.2.2.2.2.2.2.2.2.1).1.len
 have : m.2.sent.xs.length ≤ 9223372036854775807 := (m_w.2.2.2.2.2.2.2.2.2.2).1.len
 refine go Try.func72 rfl 9 rfl [wfF (ptE machE 166) m] [] hF M ⟨m_w, trivial⟩ trivial ?_
 intro a S
 have hD : ∀ k, In ([] : List BS) k → ¬ F k := fun _ h => h.elim
 refine rs S (la (av rfl)) ?_; clear S; intro a u S
 have hn3 : m.2.target.xs.length ≤ 9223372036854775807 := (((S.u 0 rfl).2.2).2.2.2.2.2.1).1.len
 refine rs S (tr (mv rfl)<|tr (ov fun S=>x_nilck (S.e rfl))<|tr (fldi 0 2 rfl uT166)<|tr (fldi (0 + 2) 3 rfl uT57)<|tr (ov fun S=>x_load sC22 (S.e rfl) ((S.u 0 rfl).1.cell (j := 5) rfl))<|tr (leni uT22 rfl)<|la (av rfl)) ?_; clear S; intro a u S
 refine wp_ret ?_
 refine ret1 rfl S.s rfl ?_
 refine ⟨(r1 (vi ?_)), S.m.c⟩
 first | rfl | omega | assumption
set_option maxHeartbeats 2000000 in
set_option maxRecDepth 20000 in
theorem cAbort (w : World) (F : Nat → Prop) (hF : Old F w) (m_b : Nat) (m : Mach) (M : MS [In (ow (machF m_b m))] w) (hD : ∀ k, In [In (ow (machF m_b m))] k → ¬ F k) (m_k : machK m) (m_K : (bnO (machF m_b m)).p F (In [In (ow (machF m_b m))]) w) (ok : MachOK m ∧ m.sent.xs.length ≤ 300000) :
 Calls Try.prog 87 #[pT m_b 0] w fun e w' => ∃ (m_1 : Mach), e = .returned (.tuple #[]) ∧ machK m_1 ∧ (bnO (machF m_b m_1)).p F (In [In (ow (machF m_b m_1))]) w' ∧ (KeepM m m_1 ∧ absM m_1 = abortC (rdsM m) (stsM m) (absM m)) ∧ Tr [In (ow (machF m_b m))] w [In (ow (machF m_b m_1))] w' := by
 obtain ⟨⟨PO, CO⟩, hsent⟩ := ok
 have hRl := rds_len m
 have hSl := sts_len m
 have hP1 := PO.r1
 have hP2 := PO.s1
 have hPn := PO.n1
 have hC1 : -1 ≤ m.round ∧ m.round ≤ _ := CO.rd
 have hsq : 0 ≤ m.seq ∧ m.seq ≤ 40 := CO.sqb hP1
 have hkn : m.known.xs.length = _ := CO.kn
 have hwt : Asc _ m.waiting.xs := CO.wt
 have hwl := hwt.len
 have hOK0 : MachOK m := ⟨PO, CO⟩
 refine go Try.func87 rfl 15 rfl [] [bnO (machF m_b m)] hF M trivial ⟨m_K, trivial⟩ ?_
 intro a S
 refine wp_seq (rs0 ?_)
 refine sp S (tr (mv rfl)<|la (ov fun S=>x_nilck (S.e rfl))) ?_; clear S; intro a u S
 replace S := (show St _ _ _ _ _ _ [blO m_b [sV m.rounds, sV m.states, iI m.round, bD (m.back = true), iI m.seq, sV m.target, sV m.known, sV m.waiting, sV m.sent] 166, rwO intE 3 0 m.target.a m.target.c m.target.xs, rwO intE 3 0 m.known.a m.known.c m.known.xs, rwO intE 3 0 m.waiting.a m.waiting.c m.waiting.xs, rwO intE 3 0 m.sent.a m.sent.c m.sent.xs, daO (slE (slE chgE)) m.rounds, daO (slE (slE intE)) m.states] _ _ from S.opn (ks := []))
 replace S := S.ar (wfF (slE (slE chgE)) m.rounds) (S.da 5 rfl)
 replace S := S.ar (wfF (slE (slE intE)) m.states) (S.da 6 rfl)
 replace S := S.pk [0, 1, 2, 3, 4] (os' := [blO m_b [sV m.rounds, sV m.states, iI m.round, bD (m.back = true), iI m.seq, sV m.target, sV m.known, sV m.waiting, sV m.sent] 166, rwO intE 3 0 m.target.a m.target.c m.target.xs, rwO intE 3 0 m.known.a m.known.c m.known.xs, rwO intE 3 0 m.waiting.a m.waiting.c m.waiting.xs, rwO intE 3 0 m.sent.a m.sent.c m.sent.xs])
 have : m.target.xs.length ≤ 9223372036854775807 := (S.row 1 rfl).len_le
 have : m.known.xs.length ≤ 9223372036854775807 := (S.row 2 rfl).len_le
 have : m.waiting.xs.length ≤ 9223372036854775807 := (S.row 3 rfl).len_le
 have : m.sent.xs.length ≤ 9223372036854775807 := (S.row 4 rfl).len_le
 have : m.rounds.xs.length ≤ 9223372036854775807 := ((S.u 0 rfl)).1.len
 have : m.states.xs.length ≤ 9223372036854775807 := ((S.u 1 rfl)).1.len
 obtain ⟨_, _⟩ : inI64 m.round := m_k.1
 obtain ⟨_, _⟩ : inI64 m.seq := m_k.2
 refine ens S (tr (fldi 0 2 rfl uT166)<|tr (fldi (0 + 2) 1 rfl uT57)<|la (ldk 0 sC4 rfl rfl rfl)) ?_; clear S; intro a u S
 refine cd S rfl ?_ ?_
 ·intro hc0
  refine wp_ret (then_r ?_)
  replace S := S.oda (E := slE (slE chgE)) (x := m.rounds) (S.u 0 rfl)
  replace S := S.oda (E := slE (slE intE)) (x := m.states) (S.u 1 rfl)
  have hk2 : machK (⟨m.rounds, m.states, m.round, m.back, m.seq, (Sl.mk m.target.a m.target.c m.target.xs), (Sl.mk m.known.a m.known.c m.known.xs), (Sl.mk m.waiting.a m.waiting.c m.waiting.xs), (Sl.mk m.sent.a m.sent.c m.sent.xs)⟩ : Mach) := ⟨m_k.1, m_k.2⟩
  replace S := (show St _ _ _ _ _ _ ([] ++ machF m_b (⟨m.rounds, m.states, m.round, m.back, m.seq, (Sl.mk m.target.a m.target.c m.target.xs), (Sl.mk m.known.a m.known.c m.known.xs), (Sl.mk m.waiting.a m.waiting.c m.waiting.xs), (Sl.mk m.sent.a m.sent.c m.sent.xs)⟩ : Mach)) _ _ from S).cls
  replace S := (show St _ _ _ _ _ _ [bnO (machF m_b (⟨m.rounds, m.states, m.round, m.back, m.seq, (Sl.mk m.target.a m.target.c m.target.xs), (Sl.mk m.known.a m.known.c m.known.xs), (Sl.mk m.waiting.a m.waiting.c m.waiting.xs), (Sl.mk m.sent.a m.sent.c m.sent.xs)⟩ : Mach))] _ _ from S)
  refine ret0 rfl S.s  ?_
  refine ⟨(⟨m.rounds, m.states, m.round, m.back, m.seq, (Sl.mk m.target.a m.target.c m.target.xs), (Sl.mk m.known.a m.known.c m.known.xs), (Sl.mk m.waiting.a m.waiting.c m.waiting.xs), (Sl.mk m.sent.a m.sent.c m.sent.xs)⟩ : Mach), rfl, hk2, (S.m.o _ (nth_mem (i := 0) rfl)), ?_, S.m.c⟩
  refine ⟨⟨rfl, rfl⟩, ?_⟩
  unfold abortC
  rw [if_pos (show (absM m).back = true from hc0)]
 intro hc1
 have hOK : MachOK {m with back := true} := machOK_of hOK0 ⟨rfl, rfl⟩ (CO.bk hc1)
 have hAb := abort_ok PO CO hc1
 refine wp_skip (then_n ?_)
 refine rs S (tr (mv rfl)<|tr (ov fun S=>x_nilck (S.e rfl))<|tr (fldi 0 2 rfl uT166)<|tr (fldi (0 + 2) 1 rfl uT57)<|la (stk 0 rfl rfl rfl)) ?_; clear S; intro a u S
 refine rs0 ?_
 refine sp S (la (mv rfl)) ?_; clear S; intro a u S
 replace S := S.oda (E := slE (slE chgE)) (x := m.rounds) (S.u 0 rfl)
 replace S := S.oda (E := slE (slE intE)) (x := m.states) (S.u 1 rfl)
 have hk5 : machK (⟨m.rounds, m.states, m.round, true, m.seq, (Sl.mk m.target.a m.target.c m.target.xs), (Sl.mk m.known.a m.known.c m.known.xs), (Sl.mk m.waiting.a m.waiting.c m.waiting.xs), (Sl.mk m.sent.a m.sent.c m.sent.xs)⟩ : Mach) := ⟨m_k.1, m_k.2⟩
 replace S := (show St _ _ _ _ _ _ ([] ++ machF m_b (⟨m.rounds, m.states, m.round, true, m.seq, (Sl.mk m.target.a m.target.c m.target.xs), (Sl.mk m.known.a m.known.c m.known.xs), (Sl.mk m.waiting.a m.waiting.c m.waiting.xs), (Sl.mk m.sent.a m.sent.c m.sent.xs)⟩ : Mach)) _ _ from S).cls
 replace S := (show St _ _ _ _ _ _ [bnO (machF m_b (⟨m.rounds, m.states, m.round, true, m.seq, (Sl.mk m.target.a m.target.c m.target.xs), (Sl.mk m.known.a m.known.c m.known.xs), (Sl.mk m.waiting.a m.waiting.c m.waiting.xs), (Sl.mk m.sent.a m.sent.c m.sent.xs)⟩ : Mach))] _ _ from S)
 obtain ⟨y6, hy6⟩ : ∃ y : Mach, (⟨m.rounds, m.states, m.round, true, m.seq, (Sl.mk m.target.a m.target.c m.target.xs), (Sl.mk m.known.a m.known.c m.known.xs), (Sl.mk m.waiting.a m.waiting.c m.waiting.xs), (Sl.mk m.sent.a m.sent.c m.sent.xs)⟩ : Mach) = y := ⟨_, rfl⟩; rw [hy6] at S hk5
 refine cl S (cStart _ _ (S.xx (ow [bnO (machF m_b y6)])) m_b y6 (S.mF (ks := []) (fs := [bnO (machF m_b y6)])) (S.nfF (ks := []) (fs := [bnO (machF m_b y6)]) hD) hk5 (S.dF (ks := []) (fs := [bnO (machF m_b y6)]) 0 rfl (mo_bn (mo_mach _ _))) (by subst hy6; exact (⟨by first | assumption | exact hOK, by first | omega | (dsimp only; omega) | simp⟩))) cB105 ?_
 rintro e u ⟨m_t12, rfl, hk_m_t12, hK_m_t12, hq_m_t12, T0⟩; refine ⟨_, rfl, fun a s => ?_⟩
 have S2 := S.kF (ks := []) (fs := [bnO (machF m_b y6)]) [bnO (machF m_b m_t12)] s T0 ⟨hK_m_t12, trivial⟩ ⟨(mo_bn (mo_mach _ _)), trivial⟩
 replace S2 := (show St _ _ _ _ _ _ [bnO (machF m_b m_t12)] _ _ from S2)
 clear S; have S := S2; clear S2 s T0 hK_m_t12
 subst hy6
 have hk1 : KeepM m m_t12 := ⟨hq_m_t12.1.1, hq_m_t12.1.2⟩
 have hm12 : absM m_t12 = startC (rdsM m) (stsM m) {absM m with back := true} := hq_m_t12.2
 have hOK : MachOK m_t12 := machOK_of hOK0 hk1 (by rw [hm12]; exact hAb.1)
 have hsl : m_t12.sent.xs.length ≤ m.sent.xs.length + 1000 := by
  have := hAb.2
  rw [← hm12] at this
  exact this
 refine ent (r0 ?_)
 refine sp S (la (mv rfl)) ?_; clear S; intro a u S
 refine cl S (cAdvance _ _ (S.xx (ow [bnO (machF m_b m_t12)])) m_b m_t12 (S.mF (ks := []) (fs := [bnO (machF m_b m_t12)])) (S.nfF (ks := []) (fs := [bnO (machF m_b m_t12)]) hD) hk_m_t12 (S.dF (ks := []) (fs := [bnO (machF m_b m_t12)]) 0 rfl (mo_bn (mo_mach _ _))) (⟨by first | assumption | exact hOK, by first | omega | (dsimp only; omega)⟩)) cB117 ?_
 rintro e u ⟨m_t14, rfl, hk_m_t14, hK_m_t14, hq_m_t14, T0⟩; refine ⟨_, rfl, fun a s => ?_⟩
 have S2 := S.kF (ks := []) (fs := [bnO (machF m_b m_t12)]) [bnO (machF m_b m_t14)] s T0 ⟨hK_m_t14, trivial⟩ ⟨(mo_bn (mo_mach _ _)), trivial⟩
 replace S2 := (show St _ _ _ _ _ _ [bnO (machF m_b m_t14)] _ _ from S2)
 clear S; have S := S2; clear S2 s T0 hK_m_t14
 refine nn ?_
 refine end0 rfl S.s ?_
 refine ⟨m_t14, rfl, hk_m_t14, (S.m.o _ (nth_mem (i := 0) rfl)), ?_, S.m.c⟩
 refine ⟨KeepM.trans hk1 ⟨hq_m_t14.1.1, hq_m_t14.1.2⟩, ?_⟩
 have e14 : absM m_t14 = advA (rdsM m_t12) (stsM m_t12) (absM m_t12) := hq_m_t14.2
 show absM m_t14 = _
 rw [e14, keep_rds hk1, keep_sts hk1, hm12]
 unfold abortC
 rw [if_neg (show ¬ (absM m).back = true from hc1)]
set_option maxHeartbeats 2000000 in
set_option maxRecDepth 20000 in
theorem cHello (w : World) (F : Nat → Prop) (hF : Old F w) (m_b : Nat) (m : Mach) (M : MS [In (ow (machF m_b m))] w) (hD : ∀ k, In [In (ow (machF m_b m))] k → ¬ F k) (m_k : machK m) (m_K : (bnO (machF m_b m)).p F (In [In (ow (machF m_b m))]) w) (d : Int) (d_h : inI64 d) (i : Int) (i_h : inI64 i) (ok : MachOK m ∧ m.sent.xs.length ≤ 300000 ∧ 0 ≤ d ∧ d < m.target.xs.length) :
 Calls Try.prog 107 #[pT m_b 0, iI d, iI i] w fun e w' => ∃ (m_1 : Mach), e = .returned (.tuple #[]) ∧ machK m_1 ∧ (bnO (machF m_b m_1)).p F (In [In (ow (machF m_b m_1))]) w' ∧ (KeepM m m_1 ∧ absM m_1 = helloC (absM m) d i) ∧ Tr [In (ow (machF m_b m))] w [In (ow (machF m_b m_1))] w' := by
 obtain ⟨d_hl, d_hu⟩ : inI64 d := id d_h
 obtain ⟨i_hl, i_hu⟩ : inI64 i := id i_h
 obtain ⟨⟨PO, CO⟩, hsent⟩ := ok
 have hRl := rds_len m
 have hSl := sts_len m
 have hP1 := PO.r1
 have hP2 := PO.s1
 have hPn := PO.n1
 have hC1 : -1 ≤ m.round ∧ m.round ≤ _ := CO.rd
 have hsq : 0 ≤ m.seq ∧ m.seq ≤ 40 := CO.sqb hP1
 have hkn : m.known.xs.length = _ := CO.kn
 have hwt : Asc _ m.waiting.xs := CO.wt
 have hwl := hwt.len
 obtain ⟨hsent, hd0, hd1⟩ := hsent
 have hOK : MachOK m := ⟨PO, CO⟩
 have hkl : m.known.xs.length = m.target.xs.length := CO.kn
 have hwj : m.waiting.xs.Pairwise (· < ·) ∧ m.waiting.xs.length ≤ 1000 := ⟨hwt.1, by omega⟩
 refine go Try.func107 rfl 37 rfl [] [bnO (machF m_b m)] hF M trivial ⟨m_K, trivial⟩ ?_
 intro a S
 refine rs0 ?_
 refine sp S (tr (mv rfl)<|tr (mv rfl)<|la (ov fun S=>x_nilck (S.e rfl))) ?_; clear S; intro a u S
 replace S := (show St _ _ _ _ _ _ [blO m_b [sV m.rounds, sV m.states, iI m.round, bD (m.back = true), iI m.seq, sV m.target, sV m.known, sV m.waiting, sV m.sent] 166, rwO intE 3 0 m.target.a m.target.c m.target.xs, rwO intE 3 0 m.known.a m.known.c m.known.xs, rwO intE 3 0 m.waiting.a m.waiting.c m.waiting.xs, rwO intE 3 0 m.sent.a m.sent.c m.sent.xs, daO (slE (slE chgE)) m.rounds, daO (slE (slE intE)) m.states] _ _ from S.opn (ks := []))
 replace S := S.ar (wfF (slE (slE chgE)) m.rounds) (S.da 5 rfl)
 replace S := S.ar (wfF (slE (slE intE)) m.states) (S.da 6 rfl)
 replace S := S.pk [0, 1, 2, 3, 4] (os' := [blO m_b [sV m.rounds, sV m.states, iI m.round, bD (m.back = true), iI m.seq, sV m.target, sV m.known, sV m.waiting, sV m.sent] 166, rwO intE 3 0 m.target.a m.target.c m.target.xs, rwO intE 3 0 m.known.a m.known.c m.known.xs, rwO intE 3 0 m.waiting.a m.waiting.c m.waiting.xs, rwO intE 3 0 m.sent.a m.sent.c m.sent.xs])
 have : m.target.xs.length ≤ 9223372036854775807 := (S.row 1 rfl).len_le
 have : m.known.xs.length ≤ 9223372036854775807 := (S.row 2 rfl).len_le
 have : m.waiting.xs.length ≤ 9223372036854775807 := (S.row 3 rfl).len_le
 have : m.sent.xs.length ≤ 9223372036854775807 := (S.row 4 rfl).len_le
 have : m.rounds.xs.length ≤ 9223372036854775807 := ((S.u 0 rfl)).1.len
 have : m.states.xs.length ≤ 9223372036854775807 := ((S.u 1 rfl)).1.len
 obtain ⟨_, _⟩ : inI64 m.round := m_k.1
 obtain ⟨_, _⟩ : inI64 m.seq := m_k.2
 obtain ⟨hl2, hu2⟩ : inI64 (m.known.xs.getD ((d).toNat) intE.dflt) := id ((S.row 2 rfl).wfi (d).toNat (by omega))
 refine ens S (tr (fldi 0 2 rfl uT166)<|tr (fldi (0 + 2) 4 rfl uT57)<|tr (ldk 0 sC22 rfl rfl rfl)<|tr (mv rfl)<|tr (ov fun S=>x_idx uT22 sZ3 (S.e rfl) (S.e rfl) (d).toNat (by omega) (by omega) (row_off (S.row 2 rfl) (m := (d).toNat) (by omega)))<|tr (ov fun S=>x_load sC3 (S.e rfl) (((S.row 2 rfl).latz (by first | decide | exact Nat.one_pos)).cell (d).toNat (by omega) 0 _ rfl))<|la (gtri rfl rfl)) ?_; clear S; intro a u S
 refine cd S rfl ?_ ?_
 ·intro hc0
  refine rs0 ?_
  refine sp S (tr (mv rfl)<|tr (ov fun S=>x_nilck (S.e rfl))<|tr (fldi 0 2 rfl uT166)<|tr (fldi (0 + 2) 4 rfl uT57)<|tr (ldk 0 sC22 rfl rfl rfl)<|tr (mv rfl)<|tr (mv rfl)<|la (ov fun S=>x_idx uT22 sZ3 (S.e rfl) (S.e rfl) (d).toNat (by omega) (by omega) (row_off (S.row 2 rfl) (m := (d).toNat) (by omega)))) ?_; clear S; intro a u S
  refine sp S (la (str (E := intE) 2 (by kernel_rfl) rfl rfl rfl (d).toNat 0 (by omega) (by first | decide | exact Nat.one_pos) i (fun S=>i_h) rfl (by first | rfl | (show _ = _ * 1 + 0; omega) | (simp [intE]; omega) | simp [intE]) rfl)) ?_; clear S; intro a u S
  have hls4 : (m.known.xs.set (d).toNat i).length = m.known.xs.length := by simp
  refine ent (rs0 ?_)
  refine sp S (tr (mv rfl)<|la (mv rfl)) ?_; clear S; intro a u S
  replace S := (show St _ _ _ _ _ _ [blO m_b [sV m.rounds, sV m.states, iI m.round, bD (m.back = true), iI m.seq, sV m.target, .slice m.known.a ((m.known.xs.set (d).toNat i).length) m.known.c, sV m.waiting, sV m.sent] 166, rwO intE 3 0 m.target.a m.target.c m.target.xs, rwO intE 3 0 m.known.a m.known.c (m.known.xs.set (d).toNat i), rwO intE 3 0 m.waiting.a m.waiting.c m.waiting.xs, rwO intE 3 0 m.sent.a m.sent.c m.sent.xs] _ _ from S.k1s 0 rfl (blO m_b [sV m.rounds, sV m.states, iI m.round, bD (m.back = true), iI m.seq, sV m.target, .slice m.known.a ((m.known.xs.set (d).toNat i).length) m.known.c, sV m.waiting, sV m.sent] 166) rfl S.s (Ch.refl _) (by have hb := S.k 0 rfl; simp only [blO, List.length_set, List.length_replicate]; exact hb))
  replace S := S.oda (E := slE (slE chgE)) (x := m.rounds) (S.u 0 rfl)
  replace S := S.oda (E := slE (slE intE)) (x := m.states) (S.u 1 rfl)
  have hk6 : machK (⟨m.rounds, m.states, m.round, m.back, m.seq, (Sl.mk m.target.a m.target.c m.target.xs), (Sl.mk m.known.a m.known.c (m.known.xs.set (d).toNat i)), (Sl.mk m.waiting.a m.waiting.c m.waiting.xs), (Sl.mk m.sent.a m.sent.c m.sent.xs)⟩ : Mach) := ⟨m_k.1, m_k.2⟩
  replace S := (show St _ _ _ _ _ _ ([] ++ machF m_b (⟨m.rounds, m.states, m.round, m.back, m.seq, (Sl.mk m.target.a m.target.c m.target.xs), (Sl.mk m.known.a m.known.c (m.known.xs.set (d).toNat i)), (Sl.mk m.waiting.a m.waiting.c m.waiting.xs), (Sl.mk m.sent.a m.sent.c m.sent.xs)⟩ : Mach)) _ _ from S).cls
  replace S := (show St _ _ _ _ _ _ [bnO (machF m_b (⟨m.rounds, m.states, m.round, m.back, m.seq, (Sl.mk m.target.a m.target.c m.target.xs), (Sl.mk m.known.a m.known.c (m.known.xs.set (d).toNat i)), (Sl.mk m.waiting.a m.waiting.c m.waiting.xs), (Sl.mk m.sent.a m.sent.c m.sent.xs)⟩ : Mach))] _ _ from S)
  obtain ⟨y7, hy7⟩ : ∃ y : Mach, (⟨m.rounds, m.states, m.round, m.back, m.seq, (Sl.mk m.target.a m.target.c m.target.xs), (Sl.mk m.known.a m.known.c (m.known.xs.set (d).toNat i)), (Sl.mk m.waiting.a m.waiting.c m.waiting.xs), (Sl.mk m.sent.a m.sent.c m.sent.xs)⟩ : Mach) = y := ⟨_, rfl⟩; rw [hy7] at S hk6
  refine cl S (cWait _ _ (S.xx (ow [bnO (machF m_b y7)])) m_b y7 (S.mF (ks := []) (fs := [bnO (machF m_b y7)])) (S.nfF (ks := []) (fs := [bnO (machF m_b y7)]) hD) hk6 (S.dF (ks := []) (fs := [bnO (machF m_b y7)]) 0 rfl (mo_bn (mo_mach _ _))) d d_h (by subst hy7; exact (by assumption))) cB122 ?_
  rintro e u ⟨m_t26, rfl, hk_m_t26, hK_m_t26, hq_m_t26, T0⟩; refine ⟨_, rfl, fun a s => ?_⟩
  have S2 := S.kF (ks := []) (fs := [bnO (machF m_b y7)]) [bnO (machF m_b m_t26)] s T0 ⟨hK_m_t26, trivial⟩ ⟨(mo_bn (mo_mach _ _)), trivial⟩
  replace S2 := (show St _ _ _ _ _ _ [bnO (machF m_b m_t26)] _ _ from S2)
  clear S; have S := S2; clear S2 s T0 hK_m_t26
  subst hy7
  have hs26 : m_t26.sent.xs = m.sent.xs := congrArg Ctl.sent hq_m_t26.2
  have hs26l := congrArg List.length hs26
  refine ent (r0 ?_)
  refine sp S (tr (mv rfl)<|tr (mv rfl)<|la (ov fun S=>x_nilck (S.e rfl))) ?_; clear S; intro a u S
  replace S := (show St _ _ _ _ _ _ [blO m_b [sV m_t26.rounds, sV m_t26.states, iI m_t26.round, bD (m_t26.back = true), iI m_t26.seq, sV m_t26.target, sV m_t26.known, sV m_t26.waiting, sV m_t26.sent] 166, rwO intE 3 0 m_t26.target.a m_t26.target.c m_t26.target.xs, rwO intE 3 0 m_t26.known.a m_t26.known.c m_t26.known.xs, rwO intE 3 0 m_t26.waiting.a m_t26.waiting.c m_t26.waiting.xs, rwO intE 3 0 m_t26.sent.a m_t26.sent.c m_t26.sent.xs, daO (slE (slE chgE)) m_t26.rounds, daO (slE (slE intE)) m_t26.states] _ _ from S.opn (ks := []))
  replace S := S.ar (wfF (slE (slE chgE)) m_t26.rounds) (S.da 5 rfl)
  replace S := S.ar (wfF (slE (slE intE)) m_t26.states) (S.da 6 rfl)
  replace S := S.pk [0, 1, 2, 3, 4] (os' := [blO m_b [sV m_t26.rounds, sV m_t26.states, iI m_t26.round, bD (m_t26.back = true), iI m_t26.seq, sV m_t26.target, sV m_t26.known, sV m_t26.waiting, sV m_t26.sent] 166, rwO intE 3 0 m_t26.target.a m_t26.target.c m_t26.target.xs, rwO intE 3 0 m_t26.known.a m_t26.known.c m_t26.known.xs, rwO intE 3 0 m_t26.waiting.a m_t26.waiting.c m_t26.waiting.xs, rwO intE 3 0 m_t26.sent.a m_t26.sent.c m_t26.sent.xs])
  have : m_t26.target.xs.length ≤ 9223372036854775807 := (S.row 1 rfl).len_le
  have : m_t26.known.xs.length ≤ 9223372036854775807 := (S.row 2 rfl).len_le
  have : m_t26.waiting.xs.length ≤ 9223372036854775807 := (S.row 3 rfl).len_le
  have : m_t26.sent.xs.length ≤ 9223372036854775807 := (S.row 4 rfl).len_le
  have : m_t26.rounds.xs.length ≤ 9223372036854775807 := ((S.u 2 rfl)).1.len
  have : m_t26.states.xs.length ≤ 9223372036854775807 := ((S.u 3 rfl)).1.len
  obtain ⟨_, _⟩ : inI64 m_t26.round := hk_m_t26.1
  obtain ⟨_, _⟩ : inI64 m_t26.seq := hk_m_t26.2
  refine sp S (tr (fldi 0 8 rfl uT166)<|tr (ldk 0 sC22 rfl rfl rfl)<|la (mv rfl)) ?_; clear S; intro a u S
  refine nbs intE S [d] (x_bs S [(0, iI d)] uT22 iZ3) (fun x hx => by simp only [List.mem_cons, List.not_mem_nil, or_false] at hx; rw [hx]; exact (show intE.wf _ _ d from d_h)) ?_; clear S; intro a u b33 S
  refine ap (E := intE) (ys := [d]) S 4 rfl uT22 iZ3 rfl rfl (show LAt intE _ _ (some ⟨b33, 0, none⟩) ([d]) from ((S.u 4 rfl)).1) ((S.u 4 rfl)).2.2 (LAt.mem (show LAt intE _ _ (some ⟨b33, 0, none⟩) ([d]) from ((S.u 4 rfl)).1)) ⟨by unfold maxLen; (try simp only [List.length_cons, List.length_nil, List.length_append, List.length_map]); omega, by (try simp only [List.length_cons, List.length_nil, List.length_append, List.length_map]); omega⟩ ?_; clear S; intro a u ad34 cap34 S
  refine en S (tr (ov fun S=>x_nilck (S.e rfl))<|tr (fldi 0 8 rfl uT166)<|la (stk 0 rfl rfl rfl)) ?_; clear S; intro a u S
  replace S := S.oda (E := slE (slE chgE)) (x := m_t26.rounds) (S.u 2 rfl)
  replace S := S.oda (E := slE (slE intE)) (x := m_t26.states) (S.u 3 rfl)
  have hk9 : machK (⟨m_t26.rounds, m_t26.states, m_t26.round, m_t26.back, m_t26.seq, (Sl.mk m_t26.target.a m_t26.target.c m_t26.target.xs), (Sl.mk m_t26.known.a m_t26.known.c m_t26.known.xs), (Sl.mk m_t26.waiting.a m_t26.waiting.c m_t26.waiting.xs), (Sl.mk ad34 cap34 (m_t26.sent.xs ++ [d]))⟩ : Mach) := ⟨hk_m_t26.1, hk_m_t26.2⟩
  replace S := (show St _ _ _ _ _ _ ([] ++ machF m_b (⟨m_t26.rounds, m_t26.states, m_t26.round, m_t26.back, m_t26.seq, (Sl.mk m_t26.target.a m_t26.target.c m_t26.target.xs), (Sl.mk m_t26.known.a m_t26.known.c m_t26.known.xs), (Sl.mk m_t26.waiting.a m_t26.waiting.c m_t26.waiting.xs), (Sl.mk ad34 cap34 (m_t26.sent.xs ++ [d]))⟩ : Mach)) _ _ from S).cls
  replace S := (show St _ _ _ _ _ _ [bnO (machF m_b (⟨m_t26.rounds, m_t26.states, m_t26.round, m_t26.back, m_t26.seq, (Sl.mk m_t26.target.a m_t26.target.c m_t26.target.xs), (Sl.mk m_t26.known.a m_t26.known.c m_t26.known.xs), (Sl.mk m_t26.waiting.a m_t26.waiting.c m_t26.waiting.xs), (Sl.mk ad34 cap34 (m_t26.sent.xs ++ [d]))⟩ : Mach))] _ _ from S)
  refine end0 rfl S.s ?_
  refine ⟨(⟨m_t26.rounds, m_t26.states, m_t26.round, m_t26.back, m_t26.seq, (Sl.mk m_t26.target.a m_t26.target.c m_t26.target.xs), (Sl.mk m_t26.known.a m_t26.known.c m_t26.known.xs), (Sl.mk m_t26.waiting.a m_t26.waiting.c m_t26.waiting.xs), (Sl.mk ad34 cap34 (m_t26.sent.xs ++ [d]))⟩ : Mach), rfl, hk9, (S.m.o _ (nth_mem (i := 0) rfl)), ?_, S.m.c⟩
  refine ⟨⟨hq_m_t26.1.1, hq_m_t26.1.2⟩, ?_⟩
  unfold helloC
  rw [if_pos (show (absM m).known.getD d.toNat 0 < i from hc0)]
  show {absM m_t26 with sent := m_t26.sent.xs ++ [d]} = _
  rw [hq_m_t26.2, hs26]; rfl
 intro hc1
 refine wp_skip ?_
 replace S := S.oda (E := slE (slE chgE)) (x := m.rounds) (S.u 0 rfl)
 replace S := S.oda (E := slE (slE intE)) (x := m.states) (S.u 1 rfl)
 have hk10 : machK (⟨m.rounds, m.states, m.round, m.back, m.seq, (Sl.mk m.target.a m.target.c m.target.xs), (Sl.mk m.known.a m.known.c m.known.xs), (Sl.mk m.waiting.a m.waiting.c m.waiting.xs), (Sl.mk m.sent.a m.sent.c m.sent.xs)⟩ : Mach) := ⟨m_k.1, m_k.2⟩
 replace S := (show St _ _ _ _ _ _ ([] ++ machF m_b (⟨m.rounds, m.states, m.round, m.back, m.seq, (Sl.mk m.target.a m.target.c m.target.xs), (Sl.mk m.known.a m.known.c m.known.xs), (Sl.mk m.waiting.a m.waiting.c m.waiting.xs), (Sl.mk m.sent.a m.sent.c m.sent.xs)⟩ : Mach)) _ _ from S).cls
 replace S := (show St _ _ _ _ _ _ [bnO (machF m_b (⟨m.rounds, m.states, m.round, m.back, m.seq, (Sl.mk m.target.a m.target.c m.target.xs), (Sl.mk m.known.a m.known.c m.known.xs), (Sl.mk m.waiting.a m.waiting.c m.waiting.xs), (Sl.mk m.sent.a m.sent.c m.sent.xs)⟩ : Mach))] _ _ from S)
 refine end0 rfl S.s ?_
 refine ⟨(⟨m.rounds, m.states, m.round, m.back, m.seq, (Sl.mk m.target.a m.target.c m.target.xs), (Sl.mk m.known.a m.known.c m.known.xs), (Sl.mk m.waiting.a m.waiting.c m.waiting.xs), (Sl.mk m.sent.a m.sent.c m.sent.xs)⟩ : Mach), rfl, hk10, (S.m.o _ (nth_mem (i := 0) rfl)), ?_, S.m.c⟩
 refine ⟨⟨rfl, rfl⟩, ?_⟩
 unfold helloC
 rw [if_neg (show ¬ (absM m).known.getD d.toNat 0 < i from hc1)]
end Go.Proofs.Ytobggnpnochnnaa.V
