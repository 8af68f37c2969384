/- the controller -/
import Derived.Test.YtobggnpnochnnaaJ0
namespace Go.Proofs.Ytobggnpnochnnaa.V
open Go.RowKit Go.Proofs.Ytobggnpnochnnaa
set_option linter.unusedVariables false
set_option linter.unusedSimpArgs false
set_option maxHeartbeats 2000000 in
set_option maxRecDepth 20000 in
theorem cWait (w : World) (F : Nat → Prop) (hF : Old F w) (m_b : Nat) (m : Mach) (M : MS [In (ow (machF m_b m))] w) (hD : ∀ k, In [In (ow (machF m_b m))] k → ¬ F k) (m_k : machK m) (m_K : (bnO (machF m_b m)).p F (In [In (ow (machF m_b m))]) w) (d : Int) (d_h : inI64 d) (hs : m.waiting.xs.Pairwise (· < ·) ∧ m.waiting.xs.length ≤ 1000) :
 Calls Try.prog 122 #[pT m_b 0, iI d] w fun e w' => ∃ (m_1 : Mach), e = .returned (.tuple #[]) ∧ machK m_1 ∧ (bnO (machF m_b m_1)).p F (In [In (ow (machF m_b m_1))]) w' ∧ (KeepM m m_1 ∧ absM m_1 = {absM m with waiting := insW m.waiting.xs d}) ∧ Tr [In (ow (machF m_b m))] w [In (ow (machF m_b m_1))] w' := by
 obtain ⟨d_hl, d_hu⟩ : inI64 d := id d_h
 obtain ⟨hs, hsl⟩ := hs
 refine go Try.func122 rfl 31 rfl [] [bnO (machF m_b m)] hF M trivial ⟨m_K, trivial⟩ ?_
 intro a S
 refine rs0 ?_
 refine sp S (tr (mv rfl)<|la (ov fun S=>x_nilck (S.e rfl))) ?_; clear S; intro a u S
 replace S := (show St _ _ _ _ _ _ [blO m_b [sV m.rounds, sV m.states, iI m.round, bD (m.back = true), iI m.seq, sV m.target, sV m.known, sV m.waiting, sV m.sent] 166, rwO intE 3 0 m.target.a m.target.c m.target.xs, rwO intE 3 0 m.known.a m.known.c m.known.xs, rwO intE 3 0 m.waiting.a m.waiting.c m.waiting.xs, rwO intE 3 0 m.sent.a m.sent.c m.sent.xs, daO (slE (slE chgE)) m.rounds, daO (slE (slE intE)) m.states] _ _ from S.opn (ks := []))
 replace S := S.ar (wfF (slE (slE chgE)) m.rounds) (S.da 5 rfl)
 replace S := S.ar (wfF (slE (slE intE)) m.states) (S.da 6 rfl)
 replace S := S.pk [0, 1, 2, 3, 4] (os' := [blO m_b [sV m.rounds, sV m.states, iI m.round, bD (m.back = true), iI m.seq, sV m.target, sV m.known, sV m.waiting, sV m.sent] 166, rwO intE 3 0 m.target.a m.target.c m.target.xs, rwO intE 3 0 m.known.a m.known.c m.known.xs, rwO intE 3 0 m.waiting.a m.waiting.c m.waiting.xs, rwO intE 3 0 m.sent.a m.sent.c m.sent.xs])
 have : m.target.xs.length ≤ 9223372036854775807 := (S.row 1 rfl).len_le
 have : m.known.xs.length ≤ 9223372036854775807 := (S.row 2 rfl).len_le
 have : m.waiting.xs.length ≤ 9223372036854775807 := (S.row 3 rfl).len_le
 have : m.sent.xs.length ≤ 9223372036854775807 := (S.row 4 rfl).len_le
 have : m.rounds.xs.length ≤ 9223372036854775807 := ((S.u 0 rfl)).1.len
 have : m.states.xs.length ≤ 9223372036854775807 := ((S.u 1 rfl)).1.len
 obtain ⟨_, _⟩ : inI64 m.round := m_k.1
 obtain ⟨_, _⟩ : inI64 m.seq := m_k.2
 refine sp S (tr (fldi 0 2 rfl uT166)<|tr (fldi (0 + 2) 5 rfl uT57)<|tr (ldk 0 sC22 rfl rfl rfl)<|la (mv rfl)) ?_; clear S; intro a u S
 refine cl S (sSearch _ _ (S.xx [abk m.waiting.a]) (.nil _) (Sl.mk m.waiting.a m.waiting.c m.waiting.xs) (S.rargD hD 3 rfl (by first | decide | exact Nat.one_pos) _ (by simp)) d d_h (⟨by assumption, by omega⟩)) cB126 ?_
 rintro e u ⟨r_t130, rfl, hr_t130, T0⟩; refine ⟨_, rfl, fun a s => ?_⟩
 replace S := S.k0 s T0; clear s T0
 dsimp only at hr_t130
 refine ens S (tr (mv rfl)<|tr (exi rfl rfl)<|tr (exi rfl rfl)<|tr (av rfl)<|la (av rfl)) ?_; clear S; intro a u S
 refine rs S (tr (mv rfl)<|la (noti rfl)) ?_; clear S; intro a u S
 refine cd S rfl ?_ ?_
 ·intro hc0
  refine r0 ?_
  refine sp S (tr (mv rfl)<|tr (mv rfl)<|tr (ov fun S=>x_nilck (S.e rfl))<|tr (fldi 0 2 rfl uT166)<|tr (fldi (0 + 2) 5 rfl uT57)<|tr (ldk 0 sC22 rfl rfl rfl)<|tr (mv rfl)<|la (mv rfl)) ?_; clear S; intro a u S
  refine nbr intE S [d] (x_bs S [(0, iI d)] uT22 iZ3) (fun x hx => by simp only [List.mem_cons, List.not_mem_nil, or_false] at hx; rw [hx]; exact (show intE.wf _ _ d from d_h)) ?_; clear S; intro a u b26 S
  replace S := (show St _ _ _ _ _ _ [blO m_b [sV m.rounds, sV m.states, iI m.round, bD (m.back = true), iI m.seq, sV m.target, sV m.known, sV m.waiting, sV m.sent] 166, rwO intE 3 0 m.target.a m.target.c m.target.xs, rwO intE 3 0 m.known.a m.known.c m.known.xs, rwO intE 3 0 m.waiting.a m.waiting.c m.waiting.xs, rwO intE 3 0 m.sent.a m.sent.c m.sent.xs, rwO intE 3 0 (some ⟨b26, 0, none⟩) 1 ([d])] _ _ from S.b0 5 rfl)
  replace S := S.pk [0, 1, 2, 4, 3, 5] (os' := [blO m_b [sV m.rounds, sV m.states, iI m.round, bD (m.back = true), iI m.seq, sV m.target, sV m.known, sV m.waiting, sV m.sent] 166, rwO intE 3 0 m.target.a m.target.c m.target.xs, rwO intE 3 0 m.known.a m.known.c m.known.xs, rwO intE 3 0 m.sent.a m.sent.c m.sent.xs, rwO intE 3 0 m.waiting.a m.waiting.c m.waiting.xs, rwO intE 3 0 (some ⟨b26, 0, none⟩) 1 ([d])])
  refine cl S (sInsert _ _ (S.xx (ow [rwO intE 3 0 m.waiting.a m.waiting.c m.waiting.xs, rwO intE 3 0 (some ⟨b26, 0, none⟩) 1 ([d])])) m.waiting.a (some ⟨b26, 0, none⟩) (S.mF (ks := [blO m_b [sV m.rounds, sV m.states, iI m.round, bD (m.back = true), iI m.seq, sV m.target, sV m.known, sV m.waiting, sV m.sent] 166, rwO intE 3 0 m.target.a m.target.c m.target.xs, rwO intE 3 0 m.known.a m.known.c m.known.xs, rwO intE 3 0 m.sent.a m.sent.c m.sent.xs]) (fs := [rwO intE 3 0 m.waiting.a m.waiting.c m.waiting.xs, rwO intE 3 0 (some ⟨b26, 0, none⟩) 1 ([d])])) (S.nfF (ks := [blO m_b [sV m.rounds, sV m.states, iI m.round, bD (m.back = true), iI m.seq, sV m.target, sV m.known, sV m.waiting, sV m.sent] 166, rwO intE 3 0 m.target.a m.target.c m.target.xs, rwO intE 3 0 m.known.a m.known.c m.known.xs, rwO intE 3 0 m.sent.a m.sent.c m.sent.xs]) (fs := [rwO intE 3 0 m.waiting.a m.waiting.c m.waiting.xs, rwO intE 3 0 (some ⟨b26, 0, none⟩) 1 ([d])]) hD) m.waiting.c m.waiting.xs ⟨(S.dF (ks := [blO m_b [sV m.rounds, sV m.states, iI m.round, bD (m.back = true), iI m.seq, sV m.target, sV m.known, sV m.waiting, sV m.sent] 166, rwO intE 3 0 m.target.a m.target.c m.target.xs, rwO intE 3 0 m.known.a m.known.c m.known.xs, rwO intE 3 0 m.sent.a m.sent.c m.sent.xs]) (fs := [rwO intE 3 0 m.waiting.a m.waiting.c m.waiting.xs, rwO intE 3 0 (some ⟨b26, 0, none⟩) 1 ([d])]) 0 rfl mo_rw).1, (S.dF (ks := [blO m_b [sV m.rounds, sV m.states, iI m.round, bD (m.back = true), iI m.seq, sV m.target, sV m.known, sV m.waiting, sV m.sent] 166, rwO intE 3 0 m.target.a m.target.c m.target.xs, rwO intE 3 0 m.known.a m.known.c m.known.xs, rwO intE 3 0 m.sent.a m.sent.c m.sent.xs]) (fs := [rwO intE 3 0 m.waiting.a m.waiting.c m.waiting.xs, rwO intE 3 0 (some ⟨b26, 0, none⟩) 1 ([d])]) 0 rfl mo_rw).2⟩ ((r_t130 : Nat) : Int) ⟨by omega, by omega⟩ 1 ([d]) ⟨(S.dF (ks := [blO m_b [sV m.rounds, sV m.states, iI m.round, bD (m.back = true), iI m.seq, sV m.target, sV m.known, sV m.waiting, sV m.sent] 166, rwO intE 3 0 m.target.a m.target.c m.target.xs, rwO intE 3 0 m.known.a m.known.c m.known.xs, rwO intE 3 0 m.sent.a m.sent.c m.sent.xs]) (fs := [rwO intE 3 0 m.waiting.a m.waiting.c m.waiting.xs, rwO intE 3 0 (some ⟨b26, 0, none⟩) 1 ([d])]) 1 rfl mo_rw).1, (S.dF (ks := [blO m_b [sV m.rounds, sV m.states, iI m.round, bD (m.back = true), iI m.seq, sV m.target, sV m.known, sV m.waiting, sV m.sent] 166, rwO intE 3 0 m.target.a m.target.c m.target.xs, rwO intE 3 0 m.known.a m.known.c m.known.xs, rwO intE 3 0 m.sent.a m.sent.c m.sent.xs]) (fs := [rwO intE 3 0 m.waiting.a m.waiting.c m.waiting.xs, rwO intE 3 0 (some ⟨b26, 0, none⟩) 1 ([d])]) 1 rfl mo_rw).2⟩ (⟨⟨by omega, by omega⟩, by first | rfl | simp, by omega⟩)) cB127 ?_
  rintro e u ⟨ra_t27, rc_t27, rfl, R_t27, T0⟩; refine ⟨_, rfl, fun a s => ?_⟩
  have S2 := S.kF (ks := [blO m_b [sV m.rounds, sV m.states, iI m.round, bD (m.back = true), iI m.seq, sV m.target, sV m.known, sV m.waiting, sV m.sent] 166, rwO intE 3 0 m.target.a m.target.c m.target.xs, rwO intE 3 0 m.known.a m.known.c m.known.xs, rwO intE 3 0 m.sent.a m.sent.c m.sent.xs]) (fs := [rwO intE 3 0 m.waiting.a m.waiting.c m.waiting.xs, rwO intE 3 0 (some ⟨b26, 0, none⟩) 1 ([d])]) [rwO intE 3 0 ra_t27 rc_t27 (m.waiting.xs.take (((r_t130 : Nat) : Int)).toNat ++ ([d]) ++ m.waiting.xs.drop (((r_t130 : Nat) : Int)).toNat)] s T0 ⟨⟨R_t27.b0.own, R_t27.wf⟩, trivial⟩ ⟨mo_rw, trivial⟩
  replace S2 := (show St _ _ _ _ _ _ [blO m_b [sV m.rounds, sV m.states, iI m.round, bD (m.back = true), iI m.seq, sV m.target, sV m.known, sV m.waiting, sV m.sent] 166, rwO intE 3 0 m.target.a m.target.c m.target.xs, rwO intE 3 0 m.known.a m.known.c m.known.xs, rwO intE 3 0 m.sent.a m.sent.c m.sent.xs, rwO intE 3 0 ra_t27 rc_t27 (m.waiting.xs.take (((r_t130 : Nat) : Int)).toNat ++ ([d]) ++ m.waiting.xs.drop (((r_t130 : Nat) : Int)).toNat)] _ _ from S2)
  clear S; have S := S2; clear S2 s T0 R_t27
  refine en S (tr (ov fun S=>x_nilck (S.e rfl))<|tr (fldi 0 2 rfl uT166)<|tr (fldi (0 + 2) 5 rfl uT57)<|la (stk 0 rfl rfl rfl)) ?_; clear S; intro a u S
  replace S := S.pk [0, 1, 2, 4, 3] (os' := [blO m_b [sV m.rounds, sV m.states, iI m.round, bD (m.back = true), iI m.seq, sV m.target, sV m.known, .slice ra_t27 ((m.waiting.xs.take (((r_t130 : Nat) : Int)).toNat ++ ([d]) ++ m.waiting.xs.drop (((r_t130 : Nat) : Int)).toNat).length) rc_t27, sV m.sent] 166, rwO intE 3 0 m.target.a m.target.c m.target.xs, rwO intE 3 0 m.known.a m.known.c m.known.xs, rwO intE 3 0 ra_t27 rc_t27 (m.waiting.xs.take (((r_t130 : Nat) : Int)).toNat ++ ([d]) ++ m.waiting.xs.drop (((r_t130 : Nat) : Int)).toNat), rwO intE 3 0 m.sent.a m.sent.c m.sent.xs])
  replace S := S.oda (E := slE (slE chgE)) (x := m.rounds) (S.u 0 rfl)
  replace S := S.oda (E := slE (slE intE)) (x := m.states) (S.u 1 rfl)
  have hk4 : machK (⟨m.rounds, m.states, m.round, m.back, m.seq, (Sl.mk m.target.a m.target.c m.target.xs), (Sl.mk m.known.a m.known.c m.known.xs), (Sl.mk ra_t27 rc_t27 (m.waiting.xs.take (((r_t130 : Nat) : Int)).toNat ++ ([d]) ++ m.waiting.xs.drop (((r_t130 : Nat) : Int)).toNat)), (Sl.mk m.sent.a m.sent.c m.sent.xs)⟩ : Mach) := ⟨m_k.1, m_k.2⟩
  replace S := (show St _ _ _ _ _ _ ([] ++ machF m_b (⟨m.rounds, m.states, m.round, m.back, m.seq, (Sl.mk m.target.a m.target.c m.target.xs), (Sl.mk m.known.a m.known.c m.known.xs), (Sl.mk ra_t27 rc_t27 (m.waiting.xs.take (((r_t130 : Nat) : Int)).toNat ++ ([d]) ++ m.waiting.xs.drop (((r_t130 : Nat) : Int)).toNat)), (Sl.mk m.sent.a m.sent.c m.sent.xs)⟩ : Mach)) _ _ from S).cls
  replace S := (show St _ _ _ _ _ _ [bnO (machF m_b (⟨m.rounds, m.states, m.round, m.back, m.seq, (Sl.mk m.target.a m.target.c m.target.xs), (Sl.mk m.known.a m.known.c m.known.xs), (Sl.mk ra_t27 rc_t27 (m.waiting.xs.take (((r_t130 : Nat) : Int)).toNat ++ ([d]) ++ m.waiting.xs.drop (((r_t130 : Nat) : Int)).toNat)), (Sl.mk m.sent.a m.sent.c m.sent.xs)⟩ : Mach))] _ _ from S)
  refine end0 rfl S.s ?_
  refine ⟨(⟨m.rounds, m.states, m.round, m.back, m.seq, (Sl.mk m.target.a m.target.c m.target.xs), (Sl.mk m.known.a m.known.c m.known.xs), (Sl.mk ra_t27 rc_t27 (m.waiting.xs.take (((r_t130 : Nat) : Int)).toNat ++ ([d]) ++ m.waiting.xs.drop (((r_t130 : Nat) : Int)).toNat)), (Sl.mk m.sent.a m.sent.c m.sent.xs)⟩ : Mach), rfl, hk4, (S.m.o _ (nth_mem (i := 0) rfl)), ?_, S.m.c⟩
  refine ⟨⟨rfl, rfl⟩, ?_⟩
  have hw := insW_new hr_t130.1 hr_t130.2.1 hr_t130.2.2 hc0
  unfold absM
  simp only [hw, Int.toNat_natCast]
 intro hc1
 refine wp_skip ?_
 replace S := S.oda (E := slE (slE chgE)) (x := m.rounds) (S.u 0 rfl)
 replace S := S.oda (E := slE (slE intE)) (x := m.states) (S.u 1 rfl)
 have hk5 : machK (⟨m.rounds, m.states, m.round, m.back, m.seq, (Sl.mk m.target.a m.target.c m.target.xs), (Sl.mk m.known.a m.known.c m.known.xs), (Sl.mk m.waiting.a m.waiting.c m.waiting.xs), (Sl.mk m.sent.a m.sent.c m.sent.xs)⟩ : Mach) := ⟨m_k.1, m_k.2⟩
 replace S := (show St _ _ _ _ _ _ ([] ++ machF m_b (⟨m.rounds, m.states, m.round, m.back, m.seq, (Sl.mk m.target.a m.target.c m.target.xs), (Sl.mk m.known.a m.known.c m.known.xs), (Sl.mk m.waiting.a m.waiting.c m.waiting.xs), (Sl.mk m.sent.a m.sent.c m.sent.xs)⟩ : Mach)) _ _ from S).cls
 replace S := (show St _ _ _ _ _ _ [bnO (machF m_b (⟨m.rounds, m.states, m.round, m.back, m.seq, (Sl.mk m.target.a m.target.c m.target.xs), (Sl.mk m.known.a m.known.c m.known.xs), (Sl.mk m.waiting.a m.waiting.c m.waiting.xs), (Sl.mk m.sent.a m.sent.c m.sent.xs)⟩ : Mach))] _ _ from S)
 refine end0 rfl S.s ?_
 refine ⟨(⟨m.rounds, m.states, m.round, m.back, m.seq, (Sl.mk m.target.a m.target.c m.target.xs), (Sl.mk m.known.a m.known.c m.known.xs), (Sl.mk m.waiting.a m.waiting.c m.waiting.xs), (Sl.mk m.sent.a m.sent.c m.sent.xs)⟩ : Mach), rfl, hk5, (S.m.o _ (nth_mem (i := 0) rfl)), ?_, S.m.c⟩
 refine ⟨⟨rfl, rfl⟩, ?_⟩
 have hw := insW_mem hs (Classical.not_not.1 hc1)
 unfold absM
 simp only [hw]
end Go.Proofs.Ytobggnpnochnnaa.V
