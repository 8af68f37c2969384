/- the controller: advance -/
import Derived.Test.YtobggnpnochnnaaJ2
import Derived.Test.YtobggnpnochnnaaCtlN
namespace Go.Proofs.Ytobggnpnochnnaa.V
open Go.RowKit Go.Proofs.Ytobggnpnochnnaa
set_option linter.unusedVariables false
set_option linter.unusedSimpArgs false
set_option maxHeartbeats 2000000 in
set_option maxRecDepth 20000 in
theorem cAdvance (w : World) (F : Nat → Prop) (hF : Old F w) (m_b : Nat) (m : Mach) (M : MS [In (ow (machF m_b m))] w) (hD : ∀ k, In [In (ow (machF m_b m))] k → ¬ F k) (m_k : machK m) (m_K : (bnO (machF m_b m)).p F (In [In (ow (machF m_b m))]) w) (ok : MachOK m ∧ m.sent.xs.length ≤ 500000) :
 Calls Try.prog 117 #[pT m_b 0] w fun e w' => ∃ (m_1 : Mach), e = .returned (.tuple #[]) ∧ machK m_1 ∧ (bnO (machF m_b m_1)).p F (In [In (ow (machF m_b m_1))]) w' ∧ (KeepM m m_1 ∧ absM m_1 = advA (rdsM m) (stsM m) (absM m)) ∧ Tr [In (ow (machF m_b m))] w [In (ow (machF m_b m_1))] w' := by
 obtain ⟨hMo, hsent⟩ := ok
 refine go Try.func117 rfl 63 rfl [] [bnO (machF m_b m)] hF M trivial ⟨m_K, trivial⟩ ?_
 intro a S
 refine wp_block ?_
 refine lp2 (fun (f : Nat) (mj : Mach) => [(0, pT m_b 0)]) (fun (f : Nat) (mj : Mach) => [bnO (machF m_b mj)]) (fun (f : Nat) (mj : Mach) => machK mj ∧ (KeepM m mj ∧ advC (rdsM m) (stsM m) f (absM mj) = advA (rdsM m) (stsM m) (absM m) ∧ measC (rdsM m).length (absM mj) < f ∧ MachOK mj ∧ mj.sent.xs.length + 1000 * f ≤ 540000)) (fun (f : Nat) (mj : Mach) => f) S 40 m (subM rfl) rfl ?_ ?_
 ·refine ⟨m_k, ?_⟩
  exact ⟨⟨rfl, rfl⟩, rfl, by have := meas_le hMo.2 hMo.1.r1; show measC _ (absM m) < _; omega, hMo, by show m.sent.xs.length + _ ≤ _; omega⟩
 clear S; intro f mj a u S hR
 obtain ⟨hk_mj, hR⟩ := hR
 obtain ⟨hKm, hadv, hme, hMj, hsl⟩ := hR
 have hrl := rds_len mj
 have hP1 := hMj.1.r1
 have hC1 : -1 ≤ mj.round ∧ mj.round ≤ _ := hMj.2.rd
 have hkr := keep_rds hKm
 have hks := keep_sts hKm
 have hmp := meas_pos hMj.2
 rw [hkr] at hmp
 obtain ⟨fu, rfl⟩ : ∃ g, f = g + 1 := ⟨f - 1, by omega⟩
 rw [advC] at hadv
 refine wp_seq (rs0 ?_)
 refine sp S (tr (mv rfl)<|la (ov fun S=>x_nilck (S.e rfl))) ?_; clear S; intro a u S
 replace S := (show St _ _ _ _ _ _ [blO m_b [sV mj.rounds, sV mj.states, iI mj.round, bD (mj.back = true), iI mj.seq, sV mj.target, sV mj.known, sV mj.waiting, sV mj.sent] 166, rwO intE 3 0 mj.target.a mj.target.c mj.target.xs, rwO intE 3 0 mj.known.a mj.known.c mj.known.xs, rwO intE 3 0 mj.waiting.a mj.waiting.c mj.waiting.xs, rwO intE 3 0 mj.sent.a mj.sent.c mj.sent.xs, daO (slE (slE chgE)) mj.rounds, daO (slE (slE intE)) mj.states] _ _ from S.opn (ks := []))
 replace S := S.ar (wfF (slE (slE chgE)) mj.rounds) (S.da 5 rfl)
 replace S := S.ar (wfF (slE (slE intE)) mj.states) (S.da 6 rfl)
 replace S := S.pk [0, 1, 2, 3, 4] (os' := [blO m_b [sV mj.rounds, sV mj.states, iI mj.round, bD (mj.back = true), iI mj.seq, sV mj.target, sV mj.known, sV mj.waiting, sV mj.sent] 166, rwO intE 3 0 mj.target.a mj.target.c mj.target.xs, rwO intE 3 0 mj.known.a mj.known.c mj.known.xs, rwO intE 3 0 mj.waiting.a mj.waiting.c mj.waiting.xs, rwO intE 3 0 mj.sent.a mj.sent.c mj.sent.xs])
 have : mj.target.xs.length ≤ 9223372036854775807 := (S.row 1 rfl).len_le
 have : mj.known.xs.length ≤ 9223372036854775807 := (S.row 2 rfl).len_le
 have : mj.waiting.xs.length ≤ 9223372036854775807 := (S.row 3 rfl).len_le
 have : mj.sent.xs.length ≤ 9223372036854775807 := (S.row 4 rfl).len_le
 have : mj.rounds.xs.length ≤ 9223372036854775807 := ((S.u 0 rfl)).1.len
 have : mj.states.xs.length ≤ 9223372036854775807 := ((S.u 1 rfl)).1.len
 obtain ⟨_, _⟩ : inI64 mj.round := hk_mj.1
 obtain ⟨_, _⟩ : inI64 mj.seq := hk_mj.2
 refine ens S (tr (fldi 0 2 rfl uT166)<|tr (fldi (0 + 2) 5 rfl uT57)<|tr (ldk 0 sC22 rfl rfl rfl)<|tr (leni uT22 rfl)<|la (eqli rfl rfl)) ?_; clear S; intro a u S
 refine cd S rfl ?_ ?_
 ·intro hc0
  refine wp_skip (then_n (wp_block (wp_seq (wp_block ?_))))
  refine rs S (tr (mv rfl)<|tr (ov fun S=>x_nilck (S.e rfl))<|tr (fldi 0 2 rfl uT166)<|tr (fldi (0 + 2) 1 rfl uT57)<|tr (ldk 0 sC4 rfl rfl rfl)<|tr (mv rfl)<|tr (og 15 rfl gt fun S hg=>x_move (S.e rfl))<|tr (og 15 rfl gt fun S hg=>x_nilck (S.p rfl hg))<|tr (og 15 rfl gt fun S hg=>xf (0) 2 uT166 (S.p rfl hg))<|tr (og 15 rfl gt fun S hg=>xf (0 + 2) 0 uT57 (S.p rfl hg))<|tr (og 15 rfl gt fun S hg=>x_load sC3 (S.p rfl hg) ((S.k 0 rfl).cell (j := 2) rfl))<|tr (og 15 rfl gt fun S hg=>x_geq (S.p rfl hg) (S.e rfl))<|tr (andi rfl rfl rfl)<|la (av rfl)) ?_; clear S; intro a u S
  refine cd S rfl ?_ ?_
  ·intro hc1
   have hOK : MachOK {mj with round := mj.round - 1} := machOK_of hMj ⟨rfl, rfl⟩ (hMj.2.down hc1.1 hc1.2)
   refine rg S (tr (mv rfl)<|tr (ov fun S=>x_nilck (S.e rfl))<|tr (fldi 0 2 rfl uT166)<|tr (fldi (0 + 2) 0 rfl uT57)<|tr (ldk 0 sC3 rfl rfl rfl)<|tr (subi (mj.round - 1) rfl rfl (w_i64 (by omega)))<|tr (ov fun S=>x_nilck (S.e rfl))<|tr (fldi 0 2 rfl uT166)<|tr (fldi (0 + 2) 0 rfl uT57)<|la (stk 0 rfl rfl rfl)) ?_; clear S; intro a u S
   refine blk_n (then_n (r0 ?_))
   refine sp S (la (mv rfl)) ?_; clear S; intro a u S
   replace S := S.oda (E := slE (slE chgE)) (x := mj.rounds) (S.u 0 rfl)
   replace S := S.oda (E := slE (slE intE)) (x := mj.states) (S.u 1 rfl)
   have hk5 : machK (⟨mj.rounds, mj.states, (mj.round - 1), mj.back, mj.seq, (Sl.mk mj.target.a mj.target.c mj.target.xs), (Sl.mk mj.known.a mj.known.c mj.known.xs), (Sl.mk mj.waiting.a mj.waiting.c mj.waiting.xs), (Sl.mk mj.sent.a mj.sent.c mj.sent.xs)⟩ : Mach) := ⟨(show inI64 (mj.round - 1) from ⟨by omega, by omega⟩), hk_mj.2⟩
   replace S := (show St _ _ _ _ _ _ ([] ++ machF m_b (⟨mj.rounds, mj.states, (mj.round - 1), mj.back, mj.seq, (Sl.mk mj.target.a mj.target.c mj.target.xs), (Sl.mk mj.known.a mj.known.c mj.known.xs), (Sl.mk mj.waiting.a mj.waiting.c mj.waiting.xs), (Sl.mk mj.sent.a mj.sent.c mj.sent.xs)⟩ : Mach)) _ _ from S).cls
   replace S := (show St _ _ _ _ _ _ [bnO (machF m_b (⟨mj.rounds, mj.states, (mj.round - 1), mj.back, mj.seq, (Sl.mk mj.target.a mj.target.c mj.target.xs), (Sl.mk mj.known.a mj.known.c mj.known.xs), (Sl.mk mj.waiting.a mj.waiting.c mj.waiting.xs), (Sl.mk mj.sent.a mj.sent.c mj.sent.xs)⟩ : Mach))] _ _ from S)
   obtain ⟨y6, hy6⟩ : ∃ y : Mach, (⟨mj.rounds, mj.states, (mj.round - 1), mj.back, mj.seq, (Sl.mk mj.target.a mj.target.c mj.target.xs), (Sl.mk mj.known.a mj.known.c mj.known.xs), (Sl.mk mj.waiting.a mj.waiting.c mj.waiting.xs), (Sl.mk mj.sent.a mj.sent.c mj.sent.xs)⟩ : Mach) = y := ⟨_, rfl⟩; rw [hy6] at S hk5
   refine cl S (cStart _ _ (S.xx (ow [bnO (machF m_b y6)])) m_b y6 (S.mF (ks := []) (fs := [bnO (machF m_b y6)])) (S.nfF (ks := []) (fs := [bnO (machF m_b y6)]) hD) hk5 (S.dF (ks := []) (fs := [bnO (machF m_b y6)]) 0 rfl (mo_bn (mo_mach _ _))) (by subst hy6; exact (⟨by first | assumption | exact hOK, by first | omega | (dsimp only; omega) | simp⟩))) cB105 ?_
   rintro e u ⟨m_t62, rfl, hk_m_t62, hK_m_t62, hq_m_t62, T0⟩; refine ⟨_, rfl, fun a s => ?_⟩
   have S2 := S.kF (ks := []) (fs := [bnO (machF m_b y6)]) [bnO (machF m_b m_t62)] s T0 ⟨hK_m_t62, trivial⟩ ⟨(mo_bn (mo_mach _ _)), trivial⟩
   replace S2 := (show St _ _ _ _ _ _ [bnO (machF m_b m_t62)] _ _ from S2)
   clear S; have S := S2; clear S2 s T0 hK_m_t62
   subst hy6
   refine nn (blk_n (then_n ?_))
   refine ⟨fu, m_t62, S.re (subM rfl) rfl rfl, ?_, ?_⟩
   ·refine ⟨hk_m_t62, ?_⟩
    have hq := hq_m_t62
    have hX : CtlOK mj.target.xs.length (rdsM mj).length (absM m_t62) ∧ measC (rdsM mj).length (absM m_t62) = measC (rdsM mj).length (absM mj) - 1 ∧ m_t62.sent.xs.length ≤ mj.sent.xs.length + 1000 := by
     show CtlOK _ _ _ ∧ _ ∧ (absM m_t62).sent.length ≤ _
     rw [hq.2]
     first
     | exact step_down hMj.1 hMj.2 hc1.1 hc1.2
     | exact step_up hMj.1 hMj.2 hc3.1 (by rw [rds_len]; exact hc3.2)
    have hK2 : KeepM mj m_t62 := ⟨hq.1.1, hq.1.2⟩
    refine ⟨hKm.trans hK2, ?_, ?_, machOK_of hMj hK2 hX.1, ?_⟩
    ·show advC _ _ _ (absM m_t62) = _
     rw [hq.2, ← hadv, if_neg (by show ¬ 0 < mj.waiting.xs.length; omega)]
     show advC _ _ _ (startC (rdsM mj) (stsM mj) _) = _
     rw [hkr, hks]
     first
     | (rw [if_pos ⟨hc1.1, hc1.2⟩]; rfl)
     | (rw [if_neg (show ¬ ((absM mj).back = true ∧ 0 ≤ (absM mj).round) from hc2), if_pos ⟨hc3.1, by rw [← hkr, rds_len]; exact hc3.2⟩]; rfl)
    ·have := hX.2.1
     rw [hkr] at this
     show measC _ (absM m_t62) < _
     omega
    have := hX.2.2
    show m_t62.sent.xs.length + 1000 * fu ≤ _
    omega
   omega
  intro hc2
  refine wp_seq ?_
  refine dr (P := Try.prog) S 20 [] [(33, .is _), (34, .is _), (35, .is _), (36, .is _), (37, .is _), (38, .is _), (39, .is _), (40, .is _), (41, .is _), (42, .is _), (43, .is _), (44, .is _), (45, .is _), (46, .is _), (47, .is _), (48, .is _), (49, .is _), (50, .is _), (51, .is _), (32, .is _)] [[], [33], [34], [35], [36], [37], [38], [39], [39, 40], [39, 41], [39, 42], [39, 43], [39], [39, 45], [39, 46], [39, 47], [39, 48], [39, 44, 49], [39, 50], [51]] [32] _ ⟨qd (mv rfl), qd (ov fun S=>x_nilck (S.e rfl)), qd (fldi 0 2 rfl uT166), qd (fldi (0 + 2) 1 rfl uT57), qd (ldk 0 sC4 rfl rfl rfl), qd (noti rfl), qd (mv rfl), qd (og 39 rfl gt fun S hg=>x_move (S.e rfl)), qd (og 39 rfl gt fun S hg=>x_nilck (S.p rfl hg)), qd (og 39 rfl gt fun S hg=>xf (0) 2 uT166 (S.p rfl hg)), qd (og 39 rfl gt fun S hg=>xf (0 + 2) 0 uT57 (S.p rfl hg)), qd (og 39 rfl gt fun S hg=>x_load sC3 (S.p rfl hg) ((S.k 0 rfl).cell (j := 2) rfl)), qd (og 39 rfl gt fun S hg=>x_move (S.e rfl)), qd (og 39 rfl gt fun S hg=>x_nilck (S.p rfl hg)), qd (og 39 rfl gt fun S hg=>xf (0) 0 uT166 (S.p rfl hg)), qd (og 39 rfl gt fun S hg=>x_load sC45 (S.p rfl hg) ((S.k 0 rfl).cell (j := 0) rfl)), qd (og 39 rfl gt fun S hg=>x_len uT45 (S.p rfl hg)), qd (og 39 rfl gt fun S hg=>x_lss (S.p rfl hg) (S.p rfl hg)), qd (andi rfl rfl rfl), qd (av rfl), trivial⟩ ?_
  clear S; intro a u S G hE
  refine ent ?_
  refine cd S rfl ?_ ?_
  ·intro hc3
   have hOK : MachOK {mj with round := mj.round + 1} := machOK_of hMj ⟨rfl, rfl⟩ (hMj.2.up hc3.1 (by rw [rds_len]; exact hc3.2))
   refine rg S (tr (mv rfl)<|tr (ov fun S=>x_nilck (S.e rfl))<|tr (fldi 0 2 rfl uT166)<|tr (fldi (0 + 2) 0 rfl uT57)<|tr (ldk 0 sC3 rfl rfl rfl)<|tr (addi (mj.round + 1) rfl rfl (w_i64 (by omega)))<|tr (ov fun S=>x_nilck (S.e rfl))<|tr (fldi 0 2 rfl uT166)<|tr (fldi (0 + 2) 0 rfl uT57)<|la (stk 0 rfl rfl rfl)) ?_; clear S; intro a u S
   refine blk_n (then_n (r0 ?_))
   refine sp S (la (mv rfl)) ?_; clear S; intro a u S
   replace S := S.oda (E := slE (slE chgE)) (x := mj.rounds) (S.u 0 rfl)
   replace S := S.oda (E := slE (slE intE)) (x := mj.states) (S.u 1 rfl)
   have hk9 : machK (⟨mj.rounds, mj.states, (mj.round + 1), mj.back, mj.seq, (Sl.mk mj.target.a mj.target.c mj.target.xs), (Sl.mk mj.known.a mj.known.c mj.known.xs), (Sl.mk mj.waiting.a mj.waiting.c mj.waiting.xs), (Sl.mk mj.sent.a mj.sent.c mj.sent.xs)⟩ : Mach) := ⟨(show inI64 (mj.round + 1) from ⟨by omega, by omega⟩), hk_mj.2⟩
   replace S := (show St _ _ _ _ _ _ ([] ++ machF m_b (⟨mj.rounds, mj.states, (mj.round + 1), mj.back, mj.seq, (Sl.mk mj.target.a mj.target.c mj.target.xs), (Sl.mk mj.known.a mj.known.c mj.known.xs), (Sl.mk mj.waiting.a mj.waiting.c mj.waiting.xs), (Sl.mk mj.sent.a mj.sent.c mj.sent.xs)⟩ : Mach)) _ _ from S).cls
   replace S := (show St _ _ _ _ _ _ [bnO (machF m_b (⟨mj.rounds, mj.states, (mj.round + 1), mj.back, mj.seq, (Sl.mk mj.target.a mj.target.c mj.target.xs), (Sl.mk mj.known.a mj.known.c mj.known.xs), (Sl.mk mj.waiting.a mj.waiting.c mj.waiting.xs), (Sl.mk mj.sent.a mj.sent.c mj.sent.xs)⟩ : Mach))] _ _ from S)
   obtain ⟨y10, hy10⟩ : ∃ y : Mach, (⟨mj.rounds, mj.states, (mj.round + 1), mj.back, mj.seq, (Sl.mk mj.target.a mj.target.c mj.target.xs), (Sl.mk mj.known.a mj.known.c mj.known.xs), (Sl.mk mj.waiting.a mj.waiting.c mj.waiting.xs), (Sl.mk mj.sent.a mj.sent.c mj.sent.xs)⟩ : Mach) = y := ⟨_, rfl⟩; rw [hy10] at S hk9
   refine cl S (cStart _ _ (S.xx (ow [bnO (machF m_b y10)])) m_b y10 (S.mF (ks := []) (fs := [bnO (machF m_b y10)])) (S.nfF (ks := []) (fs := [bnO (machF m_b y10)]) hD) hk9 (S.dF (ks := []) (fs := [bnO (machF m_b y10)]) 0 rfl (mo_bn (mo_mach _ _))) (by subst hy10; exact (⟨by first | assumption | exact hOK, by first | omega | (dsimp only; omega) | simp⟩))) cB105 ?_
   rintro e u ⟨m_t62, rfl, hk_m_t62, hK_m_t62, hq_m_t62, T0⟩; refine ⟨_, rfl, fun a s => ?_⟩
   have S2 := S.kF (ks := []) (fs := [bnO (machF m_b y10)]) [bnO (machF m_b m_t62)] s T0 ⟨hK_m_t62, trivial⟩ ⟨(mo_bn (mo_mach _ _)), trivial⟩
   replace S2 := (show St _ _ _ _ _ _ [bnO (machF m_b m_t62)] _ _ from S2)
   clear S; have S := S2; clear S2 s T0 hK_m_t62
   subst hy10
   refine nn (blk_n (then_n ?_))
   refine ⟨fu, m_t62, S.re (subM rfl) rfl rfl, ?_, ?_⟩
   ·refine ⟨hk_m_t62, ?_⟩
    have hq := hq_m_t62
    have hX : CtlOK mj.target.xs.length (rdsM mj).length (absM m_t62) ∧ measC (rdsM mj).length (absM m_t62) = measC (rdsM mj).length (absM mj) - 1 ∧ m_t62.sent.xs.length ≤ mj.sent.xs.length + 1000 := by
     show CtlOK _ _ _ ∧ _ ∧ (absM m_t62).sent.length ≤ _
     rw [hq.2]
     first
     | exact step_down hMj.1 hMj.2 hc1.1 hc1.2
     | exact step_up hMj.1 hMj.2 hc3.1 (by rw [rds_len]; exact hc3.2)
    have hK2 : KeepM mj m_t62 := ⟨hq.1.1, hq.1.2⟩
    refine ⟨hKm.trans hK2, ?_, ?_, machOK_of hMj hK2 hX.1, ?_⟩
    ·show advC _ _ _ (absM m_t62) = _
     rw [hq.2, ← hadv, if_neg (by show ¬ 0 < mj.waiting.xs.length; omega)]
     show advC _ _ _ (startC (rdsM mj) (stsM mj) _) = _
     rw [hkr, hks]
     first
     | (rw [if_pos ⟨hc1.1, hc1.2⟩]; rfl)
     | (rw [if_neg (show ¬ ((absM mj).back = true ∧ 0 ≤ (absM mj).round) from hc2), if_pos ⟨hc3.1, by rw [← hkr, rds_len]; exact hc3.2⟩]; rfl)
    ·have := hX.2.1
     rw [hkr] at this
     show measC _ (absM m_t62) < _
     omega
    have := hX.2.2
    show m_t62.sent.xs.length + 1000 * fu ≤ _
    omega
   omega
  intro hc4
  refine wp_ret (blk_r (then_r (blk_r (then_r (blk_r ?_)))))
  replace S := S.oda (E := slE (slE chgE)) (x := mj.rounds) (S.u 0 rfl)
  replace S := S.oda (E := slE (slE intE)) (x := mj.states) (S.u 1 rfl)
  have hk11 : machK (⟨mj.rounds, mj.states, mj.round, mj.back, mj.seq, (Sl.mk mj.target.a mj.target.c mj.target.xs), (Sl.mk mj.known.a mj.known.c mj.known.xs), (Sl.mk mj.waiting.a mj.waiting.c mj.waiting.xs), (Sl.mk mj.sent.a mj.sent.c mj.sent.xs)⟩ : Mach) := ⟨hk_mj.1, hk_mj.2⟩
  replace S := (show St _ _ _ _ _ _ ([] ++ machF m_b (⟨mj.rounds, mj.states, mj.round, mj.back, mj.seq, (Sl.mk mj.target.a mj.target.c mj.target.xs), (Sl.mk mj.known.a mj.known.c mj.known.xs), (Sl.mk mj.waiting.a mj.waiting.c mj.waiting.xs), (Sl.mk mj.sent.a mj.sent.c mj.sent.xs)⟩ : Mach)) _ _ from S).cls
  replace S := (show St _ _ _ _ _ _ [bnO (machF m_b (⟨mj.rounds, mj.states, mj.round, mj.back, mj.seq, (Sl.mk mj.target.a mj.target.c mj.target.xs), (Sl.mk mj.known.a mj.known.c mj.known.xs), (Sl.mk mj.waiting.a mj.waiting.c mj.waiting.xs), (Sl.mk mj.sent.a mj.sent.c mj.sent.xs)⟩ : Mach))] _ _ from S)
  refine ret0 rfl S.s  ?_
  refine ⟨(⟨mj.rounds, mj.states, mj.round, mj.back, mj.seq, (Sl.mk mj.target.a mj.target.c mj.target.xs), (Sl.mk mj.known.a mj.known.c mj.known.xs), (Sl.mk mj.waiting.a mj.waiting.c mj.waiting.xs), (Sl.mk mj.sent.a mj.sent.c mj.sent.xs)⟩ : Mach), rfl, hk11, (S.m.o _ (nth_mem (i := 0) rfl)), ?_, S.m.c⟩
  refine ⟨hKm, ?_⟩
  rw [← hadv, if_neg (by show ¬ 0 < mj.waiting.xs.length; omega), if_neg (show ¬ ((absM mj).back = true ∧ 0 ≤ (absM mj).round) from hc2), if_neg (by rw [← hkr, rds_len]; exact hc4)] <;> rfl
 intro hc5
 refine wp_exit (then_e (then_e (blk_e ?_)))
 replace S := S.oda (E := slE (slE chgE)) (x := mj.rounds) (S.u 0 rfl)
 replace S := S.oda (E := slE (slE intE)) (x := mj.states) (S.u 1 rfl)
 have hk12 : machK (⟨mj.rounds, mj.states, mj.round, mj.back, mj.seq, (Sl.mk mj.target.a mj.target.c mj.target.xs), (Sl.mk mj.known.a mj.known.c mj.known.xs), (Sl.mk mj.waiting.a mj.waiting.c mj.waiting.xs), (Sl.mk mj.sent.a mj.sent.c mj.sent.xs)⟩ : Mach) := ⟨hk_mj.1, hk_mj.2⟩
 replace S := (show St _ _ _ _ _ _ ([] ++ machF m_b (⟨mj.rounds, mj.states, mj.round, mj.back, mj.seq, (Sl.mk mj.target.a mj.target.c mj.target.xs), (Sl.mk mj.known.a mj.known.c mj.known.xs), (Sl.mk mj.waiting.a mj.waiting.c mj.waiting.xs), (Sl.mk mj.sent.a mj.sent.c mj.sent.xs)⟩ : Mach)) _ _ from S).cls
 replace S := (show St _ _ _ _ _ _ [bnO (machF m_b (⟨mj.rounds, mj.states, mj.round, mj.back, mj.seq, (Sl.mk mj.target.a mj.target.c mj.target.xs), (Sl.mk mj.known.a mj.known.c mj.known.xs), (Sl.mk mj.waiting.a mj.waiting.c mj.waiting.xs), (Sl.mk mj.sent.a mj.sent.c mj.sent.xs)⟩ : Mach))] _ _ from S)
 refine end0 rfl S.s ?_
 refine ⟨(⟨mj.rounds, mj.states, mj.round, mj.back, mj.seq, (Sl.mk mj.target.a mj.target.c mj.target.xs), (Sl.mk mj.known.a mj.known.c mj.known.xs), (Sl.mk mj.waiting.a mj.waiting.c mj.waiting.xs), (Sl.mk mj.sent.a mj.sent.c mj.sent.xs)⟩ : Mach), rfl, hk12, (S.m.o _ (nth_mem (i := 0) rfl)), ?_, S.m.c⟩
 refine ⟨hKm, ?_⟩
 rw [← hadv, if_pos (by show 0 < mj.waiting.xs.length; omega)] <;> rfl
end Go.Proofs.Ytobggnpnochnnaa.V
