/- the controller: start -/
import Derived.Test.YtobggnpnochnnaaJ1
namespace Go.Proofs.Ytobggnpnochnnaa.V
open Go.RowKit Go.Proofs.Ytobggnpnochnnaa
set_option linter.unusedVariables false
set_option linter.unusedSimpArgs false
set_option maxHeartbeats 2000000 in
set_option maxRecDepth 20000 in
theorem cStart (w : World) (F : Nat → Prop) (hF : Old F w) (m_b : Nat) (m : Mach) (M : MS [In (ow (machF m_b m))] w) (hD : ∀ k, In [In (ow (machF m_b m))] k → ¬ F k) (m_k : machK m) (m_K : (bnO (machF m_b m)).p F (In [In (ow (machF m_b m))]) w) (ok : MachOK m ∧ m.sent.xs.length ≤ 1000000) :
 Calls Try.prog 105 #[pT m_b 0] w fun e w' => ∃ (m_1 : Mach), e = .returned (.tuple #[]) ∧ machK m_1 ∧ (bnO (machF m_b m_1)).p F (In [In (ow (machF m_b m_1))]) w' ∧ (KeepM m m_1 ∧ absM m_1 = startC (rdsM m) (stsM m) (absM m)) ∧ Tr [In (ow (machF m_b m))] w [In (ow (machF m_b m_1))] w' := by
 obtain ⟨⟨PO, CO⟩, hsent⟩ := ok
 have hRl := rds_len m
 have hSl := sts_len m
 have hP1 := PO.r1
 have hP2 := PO.s1
 have hPn := PO.n1
 have hC1 : -1 ≤ m.round ∧ m.round ≤ _ := CO.rd
 have hsq : 0 ≤ m.seq ∧ m.seq ≤ 40 := CO.sqb hP1
 have hkn : m.known.xs.length = _ := CO.kn
 have hwt : Asc _ m.waiting.xs := CO.wt
 have hwl := hwt.len
 refine go Try.func105 rfl 94 rfl [] [bnO (machF m_b m)] hF M trivial ⟨m_K, trivial⟩ ?_
 intro a S
 refine rs0 ?_
 refine sp S (tr (mv rfl)<|la (ov fun S=>x_nilck (S.e rfl))) ?_; clear S; intro a u S
 replace S := (show St _ _ _ _ _ _ [blO m_b [sV m.rounds, sV m.states, iI m.round, bD (m.back = true), iI m.seq, sV m.target, sV m.known, sV m.waiting, sV m.sent] 166, rwO intE 3 0 m.target.a m.target.c m.target.xs, rwO intE 3 0 m.known.a m.known.c m.known.xs, rwO intE 3 0 m.waiting.a m.waiting.c m.waiting.xs, rwO intE 3 0 m.sent.a m.sent.c m.sent.xs, daO (slE (slE chgE)) m.rounds, daO (slE (slE intE)) m.states] _ _ from S.opn (ks := []))
 replace S := S.ar (wfF (slE (slE chgE)) m.rounds) (S.da 5 rfl)
 replace S := S.ar (wfF (slE (slE intE)) m.states) (S.da 6 rfl)
 replace S := S.pk [0, 1, 2, 3, 4] (os' := [blO m_b [sV m.rounds, sV m.states, iI m.round, bD (m.back = true), iI m.seq, sV m.target, sV m.known, sV m.waiting, sV m.sent] 166, rwO intE 3 0 m.target.a m.target.c m.target.xs, rwO intE 3 0 m.known.a m.known.c m.known.xs, rwO intE 3 0 m.waiting.a m.waiting.c m.waiting.xs, rwO intE 3 0 m.sent.a m.sent.c m.sent.xs])
 have : m.target.xs.length ≤ 9223372036854775807 := (S.row 1 rfl).len_le
 have : m.known.xs.length ≤ 9223372036854775807 := (S.row 2 rfl).len_le
 have : m.waiting.xs.length ≤ 9223372036854775807 := (S.row 3 rfl).len_le
 have : m.sent.xs.length ≤ 9223372036854775807 := (S.row 4 rfl).len_le
 have : m.rounds.xs.length ≤ 9223372036854775807 := ((S.u 0 rfl)).1.len
 have : m.states.xs.length ≤ 9223372036854775807 := ((S.u 1 rfl)).1.len
 obtain ⟨_, _⟩ : inI64 m.round := m_k.1
 obtain ⟨_, _⟩ : inI64 m.seq := m_k.2
 refine ens S (tr (fldi 0 2 rfl uT166)<|tr (fldi (0 + 2) 0 rfl uT57)<|tr (ldk 0 sC3 rfl rfl rfl)<|la (av rfl)) ?_; clear S; intro a u S
 refine wp_seq ?_
 refine rs S (tr (mv rfl)<|tr (lssi rfl rfl)<|tr (mv rfl)<|tr (og 12 rfl gf fun S hg=>x_move (S.e rfl))<|tr (og 12 rfl gf fun S hg=>x_move (S.e rfl))<|tr (og 12 rfl gf fun S hg=>x_nilck (S.p rfl hg))<|tr (og 12 rfl gf fun S hg=>xf (0) 0 uT166 (S.p rfl hg))<|tr (og 12 rfl gf fun S hg=>x_load sC45 (S.p rfl hg) ((S.k 0 rfl).cell (j := 0) rfl))<|tr (og 12 rfl gf fun S hg=>x_len uT45 (S.p rfl hg))<|tr (og 12 rfl gf fun S hg=>x_geq (S.p rfl hg) (S.p rfl hg))<|la (ori rfl rfl rfl)) ?_; clear S; intro a u S
 refine cd S rfl ?_ ?_
 ·intro hc0
  refine wp_ret (then_r ?_)
  replace S := S.oda (E := slE (slE chgE)) (x := m.rounds) (S.u 0 rfl)
  replace S := S.oda (E := slE (slE intE)) (x := m.states) (S.u 1 rfl)
  have hk3 : machK (⟨m.rounds, m.states, m.round, m.back, m.seq, (Sl.mk m.target.a m.target.c m.target.xs), (Sl.mk m.known.a m.known.c m.known.xs), (Sl.mk m.waiting.a m.waiting.c m.waiting.xs), (Sl.mk m.sent.a m.sent.c m.sent.xs)⟩ : Mach) := ⟨m_k.1, m_k.2⟩
  replace S := (show St _ _ _ _ _ _ ([] ++ machF m_b (⟨m.rounds, m.states, m.round, m.back, m.seq, (Sl.mk m.target.a m.target.c m.target.xs), (Sl.mk m.known.a m.known.c m.known.xs), (Sl.mk m.waiting.a m.waiting.c m.waiting.xs), (Sl.mk m.sent.a m.sent.c m.sent.xs)⟩ : Mach)) _ _ from S).cls
  replace S := (show St _ _ _ _ _ _ [bnO (machF m_b (⟨m.rounds, m.states, m.round, m.back, m.seq, (Sl.mk m.target.a m.target.c m.target.xs), (Sl.mk m.known.a m.known.c m.known.xs), (Sl.mk m.waiting.a m.waiting.c m.waiting.xs), (Sl.mk m.sent.a m.sent.c m.sent.xs)⟩ : Mach))] _ _ from S)
  refine ret0 rfl S.s  ?_
  refine ⟨(⟨m.rounds, m.states, m.round, m.back, m.seq, (Sl.mk m.target.a m.target.c m.target.xs), (Sl.mk m.known.a m.known.c m.known.xs), (Sl.mk m.waiting.a m.waiting.c m.waiting.xs), (Sl.mk m.sent.a m.sent.c m.sent.xs)⟩ : Mach), rfl, hk3, (S.m.o _ (nth_mem (i := 0) rfl)), ?_, S.m.c⟩
  exact ⟨⟨rfl, rfl⟩, by show absM m = _; unfold startC; rw [if_pos (by rw [hRl]; exact hc0)]⟩
 intro hc1
 refine wp_skip (then_n ?_)
 refine rs S (tr (mv rfl)<|tr (ov fun S=>x_nilck (S.e rfl))<|tr (fldi 0 2 rfl uT166)<|tr (fldi (0 + 2) 2 rfl uT57)<|tr (ldk 0 sC3 rfl rfl rfl)<|tr (addi (m.seq + 1) rfl rfl (w_i64 (by omega)))<|tr (ov fun S=>x_nilck (S.e rfl))<|tr (fldi 0 2 rfl uT166)<|tr (fldi (0 + 2) 2 rfl uT57)<|la (stk 0 rfl rfl rfl)) ?_; clear S; intro a u S
 refine wp_seq ?_
 have hn6 : ((m.rounds.xs.getD ((m.round).toNat) (slE chgE).dflt).xs).length ≤ 9223372036854775807 := ((((S.u 0 rfl)).1.wf (m.round).toNat (by omega))).1.len
 refine rs S (tr (mv rfl)<|tr (ov fun S=>x_nilck (S.e rfl))<|tr (fldi 0 0 rfl uT166)<|tr (ldk 0 sC45 rfl rfl rfl)<|tr (mv rfl)<|tr (idxi uT45 sZ122 rfl rfl (m.round).toNat (by omega) (by omega) (((S.u 0 rfl)).1.adr (i := (m.round).toNat) (by omega)))<|tr (ov fun S=>x_load sC122 (S.e rfl) (((S.u 0 rfl)).1.cell (m.round).toNat (by omega) 0 _ rfl))<|tr (leni uT122 rfl)<|la (mv rfl)) ?_; clear S; intro a u S
 refine wp_block ?_
 replace S := S.oda (E := slE (slE chgE)) (x := m.rounds) (S.u 0 rfl)
 replace S := S.oda (E := slE (slE intE)) (x := m.states) (S.u 1 rfl)
 have hk7 : machK (⟨m.rounds, m.states, m.round, m.back, (m.seq + 1), (Sl.mk m.target.a m.target.c m.target.xs), (Sl.mk m.known.a m.known.c m.known.xs), (Sl.mk m.waiting.a m.waiting.c m.waiting.xs), (Sl.mk m.sent.a m.sent.c m.sent.xs)⟩ : Mach) := ⟨m_k.1, (show inI64 (m.seq + 1) from ⟨by omega, by omega⟩)⟩
 replace S := (show St _ _ _ _ _ _ ([] ++ machF m_b (⟨m.rounds, m.states, m.round, m.back, (m.seq + 1), (Sl.mk m.target.a m.target.c m.target.xs), (Sl.mk m.known.a m.known.c m.known.xs), (Sl.mk m.waiting.a m.waiting.c m.waiting.xs), (Sl.mk m.sent.a m.sent.c m.sent.xs)⟩ : Mach)) _ _ from S).cls
 replace S := (show St _ _ _ _ _ _ [bnO (machF m_b (⟨m.rounds, m.states, m.round, m.back, (m.seq + 1), (Sl.mk m.target.a m.target.c m.target.xs), (Sl.mk m.known.a m.known.c m.known.xs), (Sl.mk m.waiting.a m.waiting.c m.waiting.xs), (Sl.mk m.sent.a m.sent.c m.sent.xs)⟩ : Mach))] _ _ from S)
 refine lp2 (fun (j1 : Nat) (mj : Mach) => [(0, pT m_b 0), (2, iI m.round), (36, sV (m.rounds.xs.getD ((m.round).toNat) (slE chgE).dflt)), (37, iN (m.rounds.xs.getD ((m.round).toNat) (slE chgE).dflt).xs.length), (38, iN j1)]) (fun (j1 : Nat) (mj : Mach) => [bnO (machF m_b mj)]) (fun (j1 : Nat) (mj : Mach) => machK mj ∧ (j1 ≤ (m.rounds.xs.getD (m.round).toNat (slE chgE).dflt).xs.length ∧ KeepM m mj ∧ absM mj = ((m.rounds.xs.getD (m.round).toNat (slE chgE).dflt).xs.take j1).foldl (chgC ((stsM m).getD (m.round).toNat [])) {absM m with seq := m.seq + 1})) (fun (j1 : Nat) (mj : Mach) => (m.rounds.xs.getD (m.round).toNat (slE chgE).dflt).xs.length - j1) S 0 (⟨m.rounds, m.states, m.round, m.back, (m.seq + 1), (Sl.mk m.target.a m.target.c m.target.xs), (Sl.mk m.known.a m.known.c m.known.xs), (Sl.mk m.waiting.a m.waiting.c m.waiting.xs), (Sl.mk m.sent.a m.sent.c m.sent.xs)⟩ : Mach) (subM rfl) rfl ?_ ?_
 ·refine ⟨hk7, ?_⟩
  exact ⟨Nat.zero_le _, ⟨rfl, rfl⟩, rfl⟩
 clear S; intro j1 mj a u S hR
 obtain ⟨hk_mj, hR⟩ := hR
 obtain ⟨hj1, hKm, hfold⟩ := hR
 have hRd := rd_of PO (k := (m.round).toNat) (by omega)
 rw [rds_at] at hRd
 have hQ : ChgK m.target.xs.length {absM m with seq := m.seq + 1} (absM mj) := by rw [hfold]; exact foldl_chgK _ (ChgK.refl hwt) (fun x hx => hRd.2 x (List.mem_of_mem_take hx))
 have q1 : mj.round = m.round := hQ.rd
 have q2 : mj.back = m.back := hQ.bk
 have q3 : mj.seq = m.seq + 1 := hQ.sq
 have q4 : mj.target.xs.length = m.target.xs.length := hQ.tg
 have q5 : Asc m.target.xs.length mj.waiting.xs := hQ.wt
 have q6 : mj.sent.xs = m.sent.xs := hQ.sn
 have q6l := congrArg List.length q6
 have q5l := q5.len
 have hwj : mj.waiting.xs.Pairwise (· < ·) ∧ mj.waiting.xs.length ≤ 1000 := ⟨q5.1, by omega⟩
 have hst := st_of PO (k := (m.round).toNat) (by omega)
 rw [sts_at] at hst
 have q7 : mj.states.xs.length = m.states.xs.length := by rw [hKm.2]
 have q8 : (mj.states.xs.getD (m.round).toNat (slE intE).dflt).xs.length = m.target.xs.length := by rw [hKm.2]; exact hst
 refine rs S (la (lssi rfl rfl)) ?_; clear S; intro a u S
 refine wp_seq ?_
 refine cd S rfl ?_ ?_
 ·intro hc2
  have hx := hRd.2 _ (getD_mem (d := chgE.dflt) (i := j1) (by omega))
  refine wp_skip (then_n (wp_seq (wp_block (rs0 ?_))))
  obtain ⟨hl10, hu10⟩ : inI64 ((((m.rounds.xs.getD ((m.round).toNat) (slE chgE).dflt).xs).getD j1 chgE.dflt).dev) := id ((((((S.u 0 rfl)).1.wf (m.round).toNat (by omega))).1.wf j1 (by omega)).1)
  obtain ⟨hl11, hu11⟩ : inI64 ((((m.rounds.xs.getD ((m.round).toNat) (slE chgE).dflt).xs).getD j1 chgE.dflt).ver) := id ((((((S.u 0 rfl)).1.wf (m.round).toNat (by omega))).1.wf j1 (by omega)).2)
  refine sp S (tr (idxi uT122 sZ124 rfl rfl j1 rfl (by omega) (((((S.u 0 rfl)).1.wf (m.round).toNat (by omega))).1.adr (i := j1) (by omega)))<|la (ov fun S=>x_ldw (S.e rfl) (((((S.u 0 rfl)).1.wf (m.round).toNat (by omega))).1.wcell j1 (by omega) _ rfl _ rfl) wD124)) ?_; clear S; intro a u S
  refine nbp S (x_allocz _ iZ124 rfl) ?_; clear S; intro a u b4 S
  refine ens S (la (stkw 1 rfl rfl rfl)) ?_; clear S; intro a u S
  refine wp_seq ?_
  replace S := S.pk [1, 0] (os' := [blO b4 (chgE.cells (((m.rounds.xs.getD ((m.round).toNat) (slE chgE).dflt).xs).getD j1 chgE.dflt)) 124, bnO (machF m_b mj)])
  replace S := (show St _ _ _ _ _ _ [blO b4 (chgE.cells (((m.rounds.xs.getD ((m.round).toNat) (slE chgE).dflt).xs).getD j1 chgE.dflt)) 124, blO m_b [sV mj.rounds, sV mj.states, iI mj.round, bD (mj.back = true), iI mj.seq, sV mj.target, sV mj.known, sV mj.waiting, sV mj.sent] 166, rwO intE 3 0 mj.target.a mj.target.c mj.target.xs, rwO intE 3 0 mj.known.a mj.known.c mj.known.xs, rwO intE 3 0 mj.waiting.a mj.waiting.c mj.waiting.xs, rwO intE 3 0 mj.sent.a mj.sent.c mj.sent.xs, daO (slE (slE chgE)) mj.rounds, daO (slE (slE intE)) mj.states] _ _ from S.opn (ks := [blO b4 (chgE.cells (((m.rounds.xs.getD ((m.round).toNat) (slE chgE).dflt).xs).getD j1 chgE.dflt)) 124]))
  replace S := S.ar (wfF (slE (slE chgE)) mj.rounds) (S.da 6 rfl)
  replace S := S.ar (wfF (slE (slE intE)) mj.states) (S.da 7 rfl)
  replace S := S.pk [0, 1, 2, 3, 4, 5] (os' := [blO b4 (chgE.cells (((m.rounds.xs.getD ((m.round).toNat) (slE chgE).dflt).xs).getD j1 chgE.dflt)) 124, blO m_b [sV mj.rounds, sV mj.states, iI mj.round, bD (mj.back = true), iI mj.seq, sV mj.target, sV mj.known, sV mj.waiting, sV mj.sent] 166, rwO intE 3 0 mj.target.a mj.target.c mj.target.xs, rwO intE 3 0 mj.known.a mj.known.c mj.known.xs, rwO intE 3 0 mj.waiting.a mj.waiting.c mj.waiting.xs, rwO intE 3 0 mj.sent.a mj.sent.c mj.sent.xs])
  have : mj.target.xs.length ≤ 9223372036854775807 := (S.row 2 rfl).len_le
  have : mj.known.xs.length ≤ 9223372036854775807 := (S.row 3 rfl).len_le
  have : mj.waiting.xs.length ≤ 9223372036854775807 := (S.row 4 rfl).len_le
  have : mj.sent.xs.length ≤ 9223372036854775807 := (S.row 5 rfl).len_le
  have : mj.rounds.xs.length ≤ 9223372036854775807 := ((S.u 2 rfl)).1.len
  have : mj.states.xs.length ≤ 9223372036854775807 := ((S.u 3 rfl)).1.len
  obtain ⟨_, _⟩ : inI64 mj.round := hk_mj.1
  obtain ⟨_, _⟩ : inI64 mj.seq := hk_mj.2
  refine dr (P := Try.prog) S 10 [] [(42, .is _), (43, .is _), (44, .is _), (45, .is _), (46, .is _), (47, .is _), (48, .is _), (49, .is _), (50, .is _), (51, .is _)] [[], [42], [43], [44], [45], [], [47], [], [49], [46, 48]] [50, 51] _ ⟨qd (mv rfl), qd (ov fun S=>x_nilck (S.e rfl)), qd (fldi 0 2 rfl uT166), qd (fldi (0 + 2) 3 rfl uT57), qd (ldk 1 sC22 rfl rfl rfl), qd (fldi 0 0 rfl uT124), qd (ldk 0 sC3 rfl rfl rfl), qd (fldi 0 1 rfl uT124), qd (ldk 0 sC3 rfl rfl rfl), qd (ov fun S=>x_idx uT22 sZ3 (S.e rfl) (S.e rfl) ((((m.rounds.xs.getD ((m.round).toNat) (slE chgE).dflt).xs).getD j1 chgE.dflt).dev).toNat (by omega) (by omega) (row_off (S.row 2 rfl) (m := ((((m.rounds.xs.getD ((m.round).toNat) (slE chgE).dflt).xs).getD j1 chgE.dflt).dev).toNat) (by omega))), trivial⟩ ?_
  clear S; intro a u S G hE
  refine sp S (la (str (E := intE) 2 (by kernel_rfl) rfl rfl rfl ((((m.rounds.xs.getD ((m.round).toNat) (slE chgE).dflt).xs).getD j1 chgE.dflt).dev).toNat 0 (by omega) (by first | decide | exact Nat.one_pos) ((((m.rounds.xs.getD ((m.round).toNat) (slE chgE).dflt).xs).getD j1 chgE.dflt).ver) (fun S=>(((((S.u 0 rfl)).1.wf (m.round).toNat (by omega))).1.wf j1 (by omega)).2) rfl (by first | rfl | (show _ = _ * 1 + 0; omega) | (simp [intE]; omega) | simp [intE]) rfl)) ?_; clear S; intro a u S
  have hls12 : (mj.target.xs.set ((((m.rounds.xs.getD ((m.round).toNat) (slE chgE).dflt).xs).getD j1 chgE.dflt).dev).toNat ((((m.rounds.xs.getD ((m.round).toNat) (slE chgE).dflt).xs).getD j1 chgE.dflt).ver)).length = mj.target.xs.length := by simp
  refine ent (wp_seq ?_)
  refine rs S (tr (mv rfl)<|tr (ov fun S=>x_nilck (S.e rfl))<|tr (fldi 0 2 rfl uT166)<|tr (fldi (0 + 2) 1 rfl uT57)<|la (ldk 1 sC4 rfl rfl rfl)) ?_; clear S; intro a u S
  refine cd S rfl ?_ ?_
  ·intro hc3
   have hn14 : ((mj.states.xs.getD ((m.round).toNat) (slE intE).dflt).xs).length ≤ 9223372036854775807 := ((((S.u 3 rfl)).1.wf (m.round).toNat (by omega))).1.len
   obtain ⟨hl15, hu15⟩ : inI64 (((mj.states.xs.getD ((m.round).toNat) (slE intE).dflt).xs).getD (((((m.rounds.xs.getD ((m.round).toNat) (slE chgE).dflt).xs).getD j1 chgE.dflt).dev).toNat) intE.dflt) := id (((((S.u 3 rfl)).1.wf (m.round).toNat (by omega))).1.wf ((((m.rounds.xs.getD ((m.round).toNat) (slE chgE).dflt).xs).getD j1 chgE.dflt).dev).toNat (by omega))
   refine dr (P := Try.prog) S 19 [] [(57, .is _), (58, .is _), (59, .is _), (60, .is _), (61, .is _), (62, .is _), (63, .is _), (64, .is _), (65, .is _), (66, .is _), (67, .is _), (68, .is _), (69, .is _), (70, .is _), (71, .is _), (72, .is _), (73, .is _), (74, .is _), (75, .is _)] [[], [57], [58], [59], [60], [], [62], [], [64], [65], [66], [], [67, 68], [69], [], [71], [70, 72], [73], [61, 63]] [74, 75] _ ⟨qd (mv rfl), qd (ov fun S=>x_nilck (S.e rfl)), qd (fldi 0 2 rfl uT166), qd (fldi (0 + 2) 3 rfl uT57), qd (ldk 1 sC22 rfl rfl rfl), qd (fldi 0 0 rfl uT124), qd (ldk 0 sC3 rfl rfl rfl), qd (mv rfl), qd (ov fun S=>x_nilck (S.e rfl)), qd (fldi 0 1 rfl uT166), qd (ldk 1 sC66 rfl rfl rfl), qd (mv rfl), qd (idxi uT66 sZ22 rfl rfl (m.round).toNat (by omega) (by omega) (((S.u 3 rfl)).1.adr (i := (m.round).toNat) (by omega))), qd (ov fun S=>x_load sC22 (S.e rfl) (((S.u 3 rfl)).1.cell (m.round).toNat (by omega) 0 _ rfl)), qd (fldi 0 0 rfl uT124), qd (ldk 0 sC3 rfl rfl rfl), qd (idxi uT22 sZ3 rfl rfl ((((m.rounds.xs.getD ((m.round).toNat) (slE chgE).dflt).xs).getD j1 chgE.dflt).dev).toNat (by omega) (by omega) (((((S.u 3 rfl)).1.wf (m.round).toNat (by omega))).1.adr (i := ((((m.rounds.xs.getD ((m.round).toNat) (slE chgE).dflt).xs).getD j1 chgE.dflt).dev).toNat) (by omega))), qd (ov fun S=>x_load sC3 (S.e rfl) (((((S.u 3 rfl)).1.wf (m.round).toNat (by omega))).1.cell ((((m.rounds.xs.getD ((m.round).toNat) (slE chgE).dflt).xs).getD j1 chgE.dflt).dev).toNat (by omega) 0 _ rfl)), qd (ov fun S=>x_idx uT22 sZ3 (S.e rfl) (S.e rfl) ((((m.rounds.xs.getD ((m.round).toNat) (slE chgE).dflt).xs).getD j1 chgE.dflt).dev).toNat (by omega) (by omega) (row_off (S.row 2 rfl) (m := ((((m.rounds.xs.getD ((m.round).toNat) (slE chgE).dflt).xs).getD j1 chgE.dflt).dev).toNat) (by omega))), trivial⟩ ?_
   clear S; intro a u S G hE
   obtain ⟨hl16, hu16⟩ : inI64 (((mj.states.xs.getD ((m.round).toNat) (slE intE).dflt).xs).getD (((((m.rounds.xs.getD ((m.round).toNat) (slE chgE).dflt).xs).getD j1 chgE.dflt).dev).toNat) intE.dflt) := id (((((S.u 3 rfl)).1.wf (m.round).toNat (by omega))).1.wf ((((m.rounds.xs.getD ((m.round).toNat) (slE chgE).dflt).xs).getD j1 chgE.dflt).dev).toNat (by omega))
   obtain ⟨hl17, hu17⟩ : inI64 m.round := id m_k.1
   refine sp S (la (str (E := intE) 2 (by kernel_rfl) rfl rfl rfl ((((m.rounds.xs.getD ((m.round).toNat) (slE chgE).dflt).xs).getD j1 chgE.dflt).dev).toNat 0 (by omega) (by first | decide | exact Nat.one_pos) (((mj.states.xs.getD ((m.round).toNat) (slE intE).dflt).xs).getD (((((m.rounds.xs.getD ((m.round).toNat) (slE chgE).dflt).xs).getD j1 chgE.dflt).dev).toNat) intE.dflt) (fun S=>(((((S.u 3 rfl)).1.wf (m.round).toNat (by omega))).1.wf ((((m.rounds.xs.getD ((m.round).toNat) (slE chgE).dflt).xs).getD j1 chgE.dflt).dev).toNat (by omega))) rfl (by first | rfl | (show _ = _ * 1 + 0; omega) | (simp [intE]; omega) | simp [intE]) rfl)) ?_; clear S; intro a u S
   have hls18 : ((mj.target.xs.set ((((m.rounds.xs.getD ((m.round).toNat) (slE chgE).dflt).xs).getD j1 chgE.dflt).dev).toNat ((((m.rounds.xs.getD ((m.round).toNat) (slE chgE).dflt).xs).getD j1 chgE.dflt).ver)).set ((((m.rounds.xs.getD ((m.round).toNat) (slE chgE).dflt).xs).getD j1 chgE.dflt).dev).toNat (((mj.states.xs.getD ((m.round).toNat) (slE intE).dflt).xs).getD (((((m.rounds.xs.getD ((m.round).toNat) (slE chgE).dflt).xs).getD j1 chgE.dflt).dev).toNat) intE.dflt)).length = mj.target.xs.length := by simp
   refine ent (r0 ?_)
   refine sp S (tr (mv rfl)<|tr (fldi 0 0 rfl uT124)<|la (ldk 0 sC3 rfl rfl rfl)) ?_; clear S; intro a u S
   replace S := (show St _ _ _ _ _ _ [blO b4 (chgE.cells (((m.rounds.xs.getD ((m.round).toNat) (slE chgE).dflt).xs).getD j1 chgE.dflt)) 124, blO m_b [sV mj.rounds, sV mj.states, iI mj.round, bD (mj.back = true), iI mj.seq, .slice mj.target.a (((mj.target.xs.set ((((m.rounds.xs.getD ((m.round).toNat) (slE chgE).dflt).xs).getD j1 chgE.dflt).dev).toNat ((((m.rounds.xs.getD ((m.round).toNat) (slE chgE).dflt).xs).getD j1 chgE.dflt).ver)).set ((((m.rounds.xs.getD ((m.round).toNat) (slE chgE).dflt).xs).getD j1 chgE.dflt).dev).toNat (((mj.states.xs.getD ((m.round).toNat) (slE intE).dflt).xs).getD (((((m.rounds.xs.getD ((m.round).toNat) (slE chgE).dflt).xs).getD j1 chgE.dflt).dev).toNat) intE.dflt)).length) mj.target.c, sV mj.known, sV mj.waiting, sV mj.sent] 166, rwO intE 3 0 mj.target.a mj.target.c ((mj.target.xs.set ((((m.rounds.xs.getD ((m.round).toNat) (slE chgE).dflt).xs).getD j1 chgE.dflt).dev).toNat ((((m.rounds.xs.getD ((m.round).toNat) (slE chgE).dflt).xs).getD j1 chgE.dflt).ver)).set ((((m.rounds.xs.getD ((m.round).toNat) (slE chgE).dflt).xs).getD j1 chgE.dflt).dev).toNat (((mj.states.xs.getD ((m.round).toNat) (slE intE).dflt).xs).getD (((((m.rounds.xs.getD ((m.round).toNat) (slE chgE).dflt).xs).getD j1 chgE.dflt).dev).toNat) intE.dflt)), rwO intE 3 0 mj.known.a mj.known.c mj.known.xs, rwO intE 3 0 mj.waiting.a mj.waiting.c mj.waiting.xs, rwO intE 3 0 mj.sent.a mj.sent.c mj.sent.xs] _ _ from S.k1s 1 rfl (blO m_b [sV mj.rounds, sV mj.states, iI mj.round, bD (mj.back = true), iI mj.seq, .slice mj.target.a (((mj.target.xs.set ((((m.rounds.xs.getD ((m.round).toNat) (slE chgE).dflt).xs).getD j1 chgE.dflt).dev).toNat ((((m.rounds.xs.getD ((m.round).toNat) (slE chgE).dflt).xs).getD j1 chgE.dflt).ver)).set ((((m.rounds.xs.getD ((m.round).toNat) (slE chgE).dflt).xs).getD j1 chgE.dflt).dev).toNat (((mj.states.xs.getD ((m.round).toNat) (slE intE).dflt).xs).getD (((((m.rounds.xs.getD ((m.round).toNat) (slE chgE).dflt).xs).getD j1 chgE.dflt).dev).toNat) intE.dflt)).length) mj.target.c, sV mj.known, sV mj.waiting, sV mj.sent] 166) rfl S.s (Ch.refl _) (by have hb := S.k 1 rfl; simp only [blO, List.length_set, List.length_replicate]; exact hb))
   replace S := S.oda (E := slE (slE chgE)) (x := mj.rounds) (S.u 2 rfl)
   replace S := S.oda (E := slE (slE intE)) (x := mj.states) (S.u 3 rfl)
   have hk20 : machK (⟨mj.rounds, mj.states, mj.round, mj.back, mj.seq, (Sl.mk mj.target.a mj.target.c ((mj.target.xs.set ((((m.rounds.xs.getD ((m.round).toNat) (slE chgE).dflt).xs).getD j1 chgE.dflt).dev).toNat ((((m.rounds.xs.getD ((m.round).toNat) (slE chgE).dflt).xs).getD j1 chgE.dflt).ver)).set ((((m.rounds.xs.getD ((m.round).toNat) (slE chgE).dflt).xs).getD j1 chgE.dflt).dev).toNat (((mj.states.xs.getD ((m.round).toNat) (slE intE).dflt).xs).getD (((((m.rounds.xs.getD ((m.round).toNat) (slE chgE).dflt).xs).getD j1 chgE.dflt).dev).toNat) intE.dflt))), (Sl.mk mj.known.a mj.known.c mj.known.xs), (Sl.mk mj.waiting.a mj.waiting.c mj.waiting.xs), (Sl.mk mj.sent.a mj.sent.c mj.sent.xs)⟩ : Mach) := ⟨hk_mj.1, hk_mj.2⟩
   replace S := (show St _ _ _ _ _ _ ([blO b4 (chgE.cells (((m.rounds.xs.getD ((m.round).toNat) (slE chgE).dflt).xs).getD j1 chgE.dflt)) 124] ++ machF m_b (⟨mj.rounds, mj.states, mj.round, mj.back, mj.seq, (Sl.mk mj.target.a mj.target.c ((mj.target.xs.set ((((m.rounds.xs.getD ((m.round).toNat) (slE chgE).dflt).xs).getD j1 chgE.dflt).dev).toNat ((((m.rounds.xs.getD ((m.round).toNat) (slE chgE).dflt).xs).getD j1 chgE.dflt).ver)).set ((((m.rounds.xs.getD ((m.round).toNat) (slE chgE).dflt).xs).getD j1 chgE.dflt).dev).toNat (((mj.states.xs.getD ((m.round).toNat) (slE intE).dflt).xs).getD (((((m.rounds.xs.getD ((m.round).toNat) (slE chgE).dflt).xs).getD j1 chgE.dflt).dev).toNat) intE.dflt))), (Sl.mk mj.known.a mj.known.c mj.known.xs), (Sl.mk mj.waiting.a mj.waiting.c mj.waiting.xs), (Sl.mk mj.sent.a mj.sent.c mj.sent.xs)⟩ : Mach)) _ _ from S).cls
   replace S := (show St _ _ _ _ _ _ [blO b4 (chgE.cells (((m.rounds.xs.getD ((m.round).toNat) (slE chgE).dflt).xs).getD j1 chgE.dflt)) 124, bnO (machF m_b (⟨mj.rounds, mj.states, mj.round, mj.back, mj.seq, (Sl.mk mj.target.a mj.target.c ((mj.target.xs.set ((((m.rounds.xs.getD ((m.round).toNat) (slE chgE).dflt).xs).getD j1 chgE.dflt).dev).toNat ((((m.rounds.xs.getD ((m.round).toNat) (slE chgE).dflt).xs).getD j1 chgE.dflt).ver)).set ((((m.rounds.xs.getD ((m.round).toNat) (slE chgE).dflt).xs).getD j1 chgE.dflt).dev).toNat (((mj.states.xs.getD ((m.round).toNat) (slE intE).dflt).xs).getD (((((m.rounds.xs.getD ((m.round).toNat) (slE chgE).dflt).xs).getD j1 chgE.dflt).dev).toNat) intE.dflt))), (Sl.mk mj.known.a mj.known.c mj.known.xs), (Sl.mk mj.waiting.a mj.waiting.c mj.waiting.xs), (Sl.mk mj.sent.a mj.sent.c mj.sent.xs)⟩ : Mach))] _ _ from S)
   obtain ⟨y21, hy21⟩ : ∃ y : Mach, (⟨mj.rounds, mj.states, mj.round, mj.back, mj.seq, (Sl.mk mj.target.a mj.target.c ((mj.target.xs.set ((((m.rounds.xs.getD ((m.round).toNat) (slE chgE).dflt).xs).getD j1 chgE.dflt).dev).toNat ((((m.rounds.xs.getD ((m.round).toNat) (slE chgE).dflt).xs).getD j1 chgE.dflt).ver)).set ((((m.rounds.xs.getD ((m.round).toNat) (slE chgE).dflt).xs).getD j1 chgE.dflt).dev).toNat (((mj.states.xs.getD ((m.round).toNat) (slE intE).dflt).xs).getD (((((m.rounds.xs.getD ((m.round).toNat) (slE chgE).dflt).xs).getD j1 chgE.dflt).dev).toNat) intE.dflt))), (Sl.mk mj.known.a mj.known.c mj.known.xs), (Sl.mk mj.waiting.a mj.waiting.c mj.waiting.xs), (Sl.mk mj.sent.a mj.sent.c mj.sent.xs)⟩ : Mach) = y := ⟨_, rfl⟩; rw [hy21] at S hk20
   refine cl S (cWait _ _ (S.xx (ow [bnO (machF m_b y21)])) m_b y21 (S.mF (ks := [blO b4 (chgE.cells (((m.rounds.xs.getD ((m.round).toNat) (slE chgE).dflt).xs).getD j1 chgE.dflt)) 124]) (fs := [bnO (machF m_b y21)])) (S.nfF (ks := [blO b4 (chgE.cells (((m.rounds.xs.getD ((m.round).toNat) (slE chgE).dflt).xs).getD j1 chgE.dflt)) 124]) (fs := [bnO (machF m_b y21)]) hD) hk20 (S.dF (ks := [blO b4 (chgE.cells (((m.rounds.xs.getD ((m.round).toNat) (slE chgE).dflt).xs).getD j1 chgE.dflt)) 124]) (fs := [bnO (machF m_b y21)]) 0 rfl (mo_bn (mo_mach _ _))) ((((m.rounds.xs.getD ((m.round).toNat) (slE chgE).dflt).xs).getD j1 chgE.dflt).dev) (((((S.u 0 rfl)).1.wf (m.round).toNat (by omega))).1.wf j1 (by omega)).1 (by subst hy21; exact (by assumption))) cB122 ?_
   rintro e u ⟨m_t79, rfl, hk_m_t79, hK_m_t79, hq_m_t79, T0⟩; refine ⟨_, rfl, fun a s => ?_⟩
   have S2 := S.kF (ks := [blO b4 (chgE.cells (((m.rounds.xs.getD ((m.round).toNat) (slE chgE).dflt).xs).getD j1 chgE.dflt)) 124]) (fs := [bnO (machF m_b y21)]) [bnO (machF m_b m_t79)] s T0 ⟨hK_m_t79, trivial⟩ ⟨(mo_bn (mo_mach _ _)), trivial⟩
   replace S2 := (show St _ _ _ _ _ _ [blO b4 (chgE.cells (((m.rounds.xs.getD ((m.round).toNat) (slE chgE).dflt).xs).getD j1 chgE.dflt)) 124, bnO (machF m_b m_t79)] _ _ from S2)
   clear S; have S := S2; clear S2 s T0 hK_m_t79
   subst hy21
   refine nn (blk_n (then_n ?_))
   refine rg S (tr (addi ((j1 + 1 : Nat) : Int) rfl rfl (w_i64 (by omega)))<|la (mv rfl)) ?_; clear S; intro a u S
   replace S := S.pk [1]
   refine then_n ?_
   refine ⟨(j1 + 1), m_t79, S.re (subM rfl) rfl rfl, ?_, ?_⟩
   ·refine ⟨hk_m_t79, ?_⟩
    refine ⟨by omega, ⟨hq_m_t79.1.1.trans hKm.1, hq_m_t79.1.2.trans hKm.2⟩, ?_⟩
    rw [foldl_take _ _ _ chgE.dflt (by omega), ← hfold]
    refine hq_m_t79.2.trans ?_
    rw [sts_at]
    unfold chgC absM
    dsimp only
    first
    | (rw [if_pos hc3]; simp only [hKm.2, List.set_set]; rfl)
    | (rw [if_neg hc4])
   omega
  intro hc4
  refine wp_skip (then_n (r0 ?_))
  refine sp S (tr (mv rfl)<|tr (fldi 0 0 rfl uT124)<|la (ldk 0 sC3 rfl rfl rfl)) ?_; clear S; intro a u S
  replace S := (show St _ _ _ _ _ _ [blO b4 (chgE.cells (((m.rounds.xs.getD ((m.round).toNat) (slE chgE).dflt).xs).getD j1 chgE.dflt)) 124, blO m_b [sV mj.rounds, sV mj.states, iI mj.round, bD (mj.back = true), iI mj.seq, .slice mj.target.a ((mj.target.xs.set ((((m.rounds.xs.getD ((m.round).toNat) (slE chgE).dflt).xs).getD j1 chgE.dflt).dev).toNat ((((m.rounds.xs.getD ((m.round).toNat) (slE chgE).dflt).xs).getD j1 chgE.dflt).ver)).length) mj.target.c, sV mj.known, sV mj.waiting, sV mj.sent] 166, rwO intE 3 0 mj.target.a mj.target.c (mj.target.xs.set ((((m.rounds.xs.getD ((m.round).toNat) (slE chgE).dflt).xs).getD j1 chgE.dflt).dev).toNat ((((m.rounds.xs.getD ((m.round).toNat) (slE chgE).dflt).xs).getD j1 chgE.dflt).ver)), rwO intE 3 0 mj.known.a mj.known.c mj.known.xs, rwO intE 3 0 mj.waiting.a mj.waiting.c mj.waiting.xs, rwO intE 3 0 mj.sent.a mj.sent.c mj.sent.xs] _ _ from S.k1s 1 rfl (blO m_b [sV mj.rounds, sV mj.states, iI mj.round, bD (mj.back = true), iI mj.seq, .slice mj.target.a ((mj.target.xs.set ((((m.rounds.xs.getD ((m.round).toNat) (slE chgE).dflt).xs).getD j1 chgE.dflt).dev).toNat ((((m.rounds.xs.getD ((m.round).toNat) (slE chgE).dflt).xs).getD j1 chgE.dflt).ver)).length) mj.target.c, sV mj.known, sV mj.waiting, sV mj.sent] 166) rfl S.s (Ch.refl _) (by have hb := S.k 1 rfl; simp only [blO, List.length_set, List.length_replicate]; exact hb))
  replace S := S.oda (E := slE (slE chgE)) (x := mj.rounds) (S.u 2 rfl)
  replace S := S.oda (E := slE (slE intE)) (x := mj.states) (S.u 3 rfl)
  have hk24 : machK (⟨mj.rounds, mj.states, mj.round, mj.back, mj.seq, (Sl.mk mj.target.a mj.target.c (mj.target.xs.set ((((m.rounds.xs.getD ((m.round).toNat) (slE chgE).dflt).xs).getD j1 chgE.dflt).dev).toNat ((((m.rounds.xs.getD ((m.round).toNat) (slE chgE).dflt).xs).getD j1 chgE.dflt).ver))), (Sl.mk mj.known.a mj.known.c mj.known.xs), (Sl.mk mj.waiting.a mj.waiting.c mj.waiting.xs), (Sl.mk mj.sent.a mj.sent.c mj.sent.xs)⟩ : Mach) := ⟨hk_mj.1, hk_mj.2⟩
  replace S := (show St _ _ _ _ _ _ ([blO b4 (chgE.cells (((m.rounds.xs.getD ((m.round).toNat) (slE chgE).dflt).xs).getD j1 chgE.dflt)) 124] ++ machF m_b (⟨mj.rounds, mj.states, mj.round, mj.back, mj.seq, (Sl.mk mj.target.a mj.target.c (mj.target.xs.set ((((m.rounds.xs.getD ((m.round).toNat) (slE chgE).dflt).xs).getD j1 chgE.dflt).dev).toNat ((((m.rounds.xs.getD ((m.round).toNat) (slE chgE).dflt).xs).getD j1 chgE.dflt).ver))), (Sl.mk mj.known.a mj.known.c mj.known.xs), (Sl.mk mj.waiting.a mj.waiting.c mj.waiting.xs), (Sl.mk mj.sent.a mj.sent.c mj.sent.xs)⟩ : Mach)) _ _ from S).cls
  replace S := (show St _ _ _ _ _ _ [blO b4 (chgE.cells (((m.rounds.xs.getD ((m.round).toNat) (slE chgE).dflt).xs).getD j1 chgE.dflt)) 124, bnO (machF m_b (⟨mj.rounds, mj.states, mj.round, mj.back, mj.seq, (Sl.mk mj.target.a mj.target.c (mj.target.xs.set ((((m.rounds.xs.getD ((m.round).toNat) (slE chgE).dflt).xs).getD j1 chgE.dflt).dev).toNat ((((m.rounds.xs.getD ((m.round).toNat) (slE chgE).dflt).xs).getD j1 chgE.dflt).ver))), (Sl.mk mj.known.a mj.known.c mj.known.xs), (Sl.mk mj.waiting.a mj.waiting.c mj.waiting.xs), (Sl.mk mj.sent.a mj.sent.c mj.sent.xs)⟩ : Mach))] _ _ from S)
  obtain ⟨y25, hy25⟩ : ∃ y : Mach, (⟨mj.rounds, mj.states, mj.round, mj.back, mj.seq, (Sl.mk mj.target.a mj.target.c (mj.target.xs.set ((((m.rounds.xs.getD ((m.round).toNat) (slE chgE).dflt).xs).getD j1 chgE.dflt).dev).toNat ((((m.rounds.xs.getD ((m.round).toNat) (slE chgE).dflt).xs).getD j1 chgE.dflt).ver))), (Sl.mk mj.known.a mj.known.c mj.known.xs), (Sl.mk mj.waiting.a mj.waiting.c mj.waiting.xs), (Sl.mk mj.sent.a mj.sent.c mj.sent.xs)⟩ : Mach) = y := ⟨_, rfl⟩; rw [hy25] at S hk24
  refine cl S (cWait _ _ (S.xx (ow [bnO (machF m_b y25)])) m_b y25 (S.mF (ks := [blO b4 (chgE.cells (((m.rounds.xs.getD ((m.round).toNat) (slE chgE).dflt).xs).getD j1 chgE.dflt)) 124]) (fs := [bnO (machF m_b y25)])) (S.nfF (ks := [blO b4 (chgE.cells (((m.rounds.xs.getD ((m.round).toNat) (slE chgE).dflt).xs).getD j1 chgE.dflt)) 124]) (fs := [bnO (machF m_b y25)]) hD) hk24 (S.dF (ks := [blO b4 (chgE.cells (((m.rounds.xs.getD ((m.round).toNat) (slE chgE).dflt).xs).getD j1 chgE.dflt)) 124]) (fs := [bnO (machF m_b y25)]) 0 rfl (mo_bn (mo_mach _ _))) ((((m.rounds.xs.getD ((m.round).toNat) (slE chgE).dflt).xs).getD j1 chgE.dflt).dev) (((((S.u 0 rfl)).1.wf (m.round).toNat (by omega))).1.wf j1 (by omega)).1 (by subst hy25; exact (by assumption))) cB122 ?_
  rintro e u ⟨m_t79, rfl, hk_m_t79, hK_m_t79, hq_m_t79, T0⟩; refine ⟨_, rfl, fun a s => ?_⟩
  have S2 := S.kF (ks := [blO b4 (chgE.cells (((m.rounds.xs.getD ((m.round).toNat) (slE chgE).dflt).xs).getD j1 chgE.dflt)) 124]) (fs := [bnO (machF m_b y25)]) [bnO (machF m_b m_t79)] s T0 ⟨hK_m_t79, trivial⟩ ⟨(mo_bn (mo_mach _ _)), trivial⟩
  replace S2 := (show St _ _ _ _ _ _ [blO b4 (chgE.cells (((m.rounds.xs.getD ((m.round).toNat) (slE chgE).dflt).xs).getD j1 chgE.dflt)) 124, bnO (machF m_b m_t79)] _ _ from S2)
  clear S; have S := S2; clear S2 s T0 hK_m_t79
  subst hy25
  refine nn (blk_n (then_n ?_))
  refine rg S (tr (addi ((j1 + 1 : Nat) : Int) rfl rfl (w_i64 (by omega)))<|la (mv rfl)) ?_; clear S; intro a u S
  replace S := S.pk [1]
  refine then_n ?_
  refine ⟨(j1 + 1), m_t79, S.re (subM rfl) rfl rfl, ?_, ?_⟩
  ·refine ⟨hk_m_t79, ?_⟩
   refine ⟨by omega, ⟨hq_m_t79.1.1.trans hKm.1, hq_m_t79.1.2.trans hKm.2⟩, ?_⟩
   rw [foldl_take _ _ _ chgE.dflt (by omega), ← hfold]
   refine hq_m_t79.2.trans ?_
   rw [sts_at]
   unfold chgC absM
   dsimp only
   first
   | (rw [if_pos hc3]; simp only [hKm.2, List.set_set]; rfl)
   | (rw [if_neg hc4])
  omega
 intro hc5
 refine wp_exit (then_e (then_e (blk_e (then_n ?_))))
 replace S := (show St _ _ _ _ _ _ [blO m_b [sV mj.rounds, sV mj.states, iI mj.round, bD (mj.back = true), iI mj.seq, sV mj.target, sV mj.known, sV mj.waiting, sV mj.sent] 166, rwO intE 3 0 mj.target.a mj.target.c mj.target.xs, rwO intE 3 0 mj.known.a mj.known.c mj.known.xs, rwO intE 3 0 mj.waiting.a mj.waiting.c mj.waiting.xs, rwO intE 3 0 mj.sent.a mj.sent.c mj.sent.xs, daO (slE (slE chgE)) mj.rounds, daO (slE (slE intE)) mj.states] _ _ from S.opn (ks := []))
 replace S := S.ar (wfF (slE (slE chgE)) mj.rounds) (S.da 5 rfl)
 replace S := S.ar (wfF (slE (slE intE)) mj.states) (S.da 6 rfl)
 replace S := S.pk [0, 1, 2, 3, 4] (os' := [blO m_b [sV mj.rounds, sV mj.states, iI mj.round, bD (mj.back = true), iI mj.seq, sV mj.target, sV mj.known, sV mj.waiting, sV mj.sent] 166, rwO intE 3 0 mj.target.a mj.target.c mj.target.xs, rwO intE 3 0 mj.known.a mj.known.c mj.known.xs, rwO intE 3 0 mj.waiting.a mj.waiting.c mj.waiting.xs, rwO intE 3 0 mj.sent.a mj.sent.c mj.sent.xs])
 have : mj.target.xs.length ≤ 9223372036854775807 := (S.row 1 rfl).len_le
 have : mj.known.xs.length ≤ 9223372036854775807 := (S.row 2 rfl).len_le
 have : mj.waiting.xs.length ≤ 9223372036854775807 := (S.row 3 rfl).len_le
 have : mj.sent.xs.length ≤ 9223372036854775807 := (S.row 4 rfl).len_le
 have : mj.rounds.xs.length ≤ 9223372036854775807 := ((S.u 2 rfl)).1.len
 have : mj.states.xs.length ≤ 9223372036854775807 := ((S.u 3 rfl)).1.len
 obtain ⟨_, _⟩ : inI64 mj.round := hk_mj.1
 obtain ⟨_, _⟩ : inI64 mj.seq := hk_mj.2
 refine lza3 (P := Try.prog) (s := .tmp 85) (x := .tmp 90) intE Unit S 10 0 81 (pT m_b 0) [] [(81, .is _), (82, .is _), (83, .is _), (84, .is _), (85, .is _), (86, .is _), (87, .is _), (88, .is _), (89, .is _), (90, .is _)] [[], [], [82], [83], [84], [], [86], [87], [88], [89]] [85, 90] 4 rfl (fun g => [(85, sV mj.sent), (90, sV mj.waiting)]) (fun g => True) (fun g => mj.waiting.xs) ⟨qd (mv rfl), qd (mv rfl), qd (ov fun S=>x_nilck (S.e rfl)), qd (fldi 0 8 rfl uT166), qd (ldk 0 sC22 rfl rfl rfl), qd (mv rfl), qd (ov fun S=>x_nilck (S.e rfl)), qd (fldi 0 2 rfl uT166), qd (fldi (0 + 2) 5 rfl uT57), qd (ldk 0 sC22 rfl rfl rfl), trivial⟩ (fun a w S => (x_move (S.e rfl))) ?_ ?_ uT22 iZ3
 ·intro a u S G hE
  exact ⟨(), _, _, _, S.s.sub (subM rfl), trivial, rfl, rfl, ((S.row 3 rfl).lat (by first | decide | exact Nat.one_pos)), (S.row 3 rfl).cap_le.2, (S.row 3 rfl).wf, ⟨by unfold maxLen; (try simp only [List.length_cons, List.length_nil, List.length_append, List.length_map]); omega, by (try simp only [List.length_cons, List.length_nil, List.length_append, List.length_map]); omega⟩⟩
 clear S; intro g ad91 cap91 a u S hR
 refine en S (tr (ov fun S=>x_nilck (S.e rfl))<|tr (fldi 0 8 rfl uT166)<|la (stk 0 rfl rfl rfl)) ?_; clear S; intro a u S
 replace S := S.oda (E := slE (slE chgE)) (x := mj.rounds) (S.u 2 rfl)
 replace S := S.oda (E := slE (slE intE)) (x := mj.states) (S.u 3 rfl)
 have hk27 : machK (⟨mj.rounds, mj.states, mj.round, mj.back, mj.seq, (Sl.mk mj.target.a mj.target.c mj.target.xs), (Sl.mk mj.known.a mj.known.c mj.known.xs), (Sl.mk mj.waiting.a mj.waiting.c mj.waiting.xs), (Sl.mk ad91 cap91 (mj.sent.xs ++ mj.waiting.xs))⟩ : Mach) := ⟨hk_mj.1, hk_mj.2⟩
 replace S := (show St _ _ _ _ _ _ ([] ++ machF m_b (⟨mj.rounds, mj.states, mj.round, mj.back, mj.seq, (Sl.mk mj.target.a mj.target.c mj.target.xs), (Sl.mk mj.known.a mj.known.c mj.known.xs), (Sl.mk mj.waiting.a mj.waiting.c mj.waiting.xs), (Sl.mk ad91 cap91 (mj.sent.xs ++ mj.waiting.xs))⟩ : Mach)) _ _ from S).cls
 replace S := (show St _ _ _ _ _ _ [bnO (machF m_b (⟨mj.rounds, mj.states, mj.round, mj.back, mj.seq, (Sl.mk mj.target.a mj.target.c mj.target.xs), (Sl.mk mj.known.a mj.known.c mj.known.xs), (Sl.mk mj.waiting.a mj.waiting.c mj.waiting.xs), (Sl.mk ad91 cap91 (mj.sent.xs ++ mj.waiting.xs))⟩ : Mach))] _ _ from S)
 refine end0 rfl S.s ?_
 refine ⟨(⟨mj.rounds, mj.states, mj.round, mj.back, mj.seq, (Sl.mk mj.target.a mj.target.c mj.target.xs), (Sl.mk mj.known.a mj.known.c mj.known.xs), (Sl.mk mj.waiting.a mj.waiting.c mj.waiting.xs), (Sl.mk ad91 cap91 (mj.sent.xs ++ mj.waiting.xs))⟩ : Mach), rfl, hk27, (S.m.o _ (nth_mem (i := 0) rfl)), ?_, S.m.c⟩
 refine ⟨⟨hKm.1, hKm.2⟩, ?_⟩
 unfold startC
 rw [if_neg (by rw [hRl]; exact hc1), rds_at]
 have e := hfold
 rw [show j1 = (m.rounds.xs.getD (m.round).toNat (slE chgE).dflt).xs.length from by omega, List.take_length] at e
 simp only [absM] at e ⊢
 rw [← e]
end Go.Proofs.Ytobggnpnochnnaa.V
