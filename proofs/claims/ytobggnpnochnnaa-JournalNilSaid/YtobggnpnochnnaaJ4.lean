/- the controller: a device is removed -/
import Derived.Test.YtobggnpnochnnaaJ3
import Derived.Test.YtobggnpnochnnaaDfl
namespace Go.Proofs.Ytobggnpnochnnaa.V
open Go.RowKit Go.Proofs.Ytobggnpnochnnaa
set_option linter.unusedVariables false
set_option linter.unusedSimpArgs false
theorem sDel (w : World) (F : Nat → Prop) (hF : Old F w) (x_a : Option Addr) (M : MS [abk x_a] w) (hD : ∀ k, In [abk x_a] k → ¬ F k) (x_c : Nat) (x : List Int) (x_R : Row intE 3 0 F [abk x_a] w x_a x_c x) (d : Int) (d_b : Nat) (d_K : Blk w.heap d_b [.int .i64 d] 3) (d_n : ¬ In [abk x_a] d_b) :
 Calls Try.prog 124 #[.slice x_a x.length x_c, .func (.func 125) #[] #[pT d_b 0]] w fun e w' => ∃ (ra : Option Addr) (rc : Nat), e = .returned (.slice ra ((x.filter fun y => !(y == d)).length) rc) ∧ Row intE 3 0 F [abk ra] w' ra rc (x.filter fun y => !(y == d)) ∧ Tr [abk x_a] w [abk ra] w' := del_row M x_R d_b d d_K d_n
set_option maxHeartbeats 2000000 in
set_option maxRecDepth 20000 in
theorem cRemove (w : World) (F : Nat → Prop) (hF : Old F w) (m_b : Nat) (m : Mach) (M : MS [In (ow (machF m_b m))] w) (hD : ∀ k, In [In (ow (machF m_b m))] k → ¬ F k) (m_k : machK m) (m_K : (bnO (machF m_b m)).p F (In [In (ow (machF m_b m))]) w) (d : Int) (d_h : inI64 d) (ok : MachOK m ∧ m.sent.xs.length ≤ 400000) :
 Calls Try.prog 116 #[pT m_b 0, iI d] w fun e w' => ∃ (m_1 : Mach), e = .returned (.tuple #[]) ∧ machK m_1 ∧ (bnO (machF m_b m_1)).p F (In [In (ow (machF m_b m_1))]) w' ∧ (KeepM m m_1 ∧ absM m_1 = advA (rdsM m) (stsM m) {absM m with waiting := m.waiting.xs.filter fun y => !(y == d)}) ∧ Tr [In (ow (machF m_b m))] w [In (ow (machF m_b m_1))] w' := by
 obtain ⟨d_hl, d_hu⟩ : inI64 d := id d_h
 obtain ⟨⟨PO, CO⟩, hsent⟩ := ok
 have hRl := rds_len m
 have hSl := sts_len m
 have hP1 := PO.r1
 have hP2 := PO.s1
 have hPn := PO.n1
 have hC1 : -1 ≤ m.round ∧ m.round ≤ _ := CO.rd
 have hsq : 0 ≤ m.seq ∧ m.seq ≤ 40 := CO.sqb hP1
 have hkn : m.known.xs.length = _ := CO.kn
 have hwt : Asc _ m.waiting.xs := CO.wt
 have hwl := hwt.len
 refine go Try.func116 rfl 17 rfl [] [bnO (machF m_b m)] hF M trivial ⟨m_K, trivial⟩ ?_
 intro a S
 refine rs0 ?_
 refine nbp S (x_box _ (S.e rfl) rfl) ?_; clear S; intro a u b3 S
 refine ent (rs0 ?_)
 refine sp S (tr (mv rfl)<|tr (mv rfl)<|la (ov fun S=>x_nilck (S.e rfl))) ?_; clear S; intro a u S
 replace S := S.pk [1, 0] (os' := [blO b3 [iI d] 3, bnO (machF m_b m)])
 replace S := (show St _ _ _ _ _ _ [blO b3 [iI d] 3, blO m_b [sV m.rounds, sV m.states, iI m.round, bD (m.back = true), iI m.seq, sV m.target, sV m.known, sV m.waiting, sV m.sent] 166, rwO intE 3 0 m.target.a m.target.c m.target.xs, rwO intE 3 0 m.known.a m.known.c m.known.xs, rwO intE 3 0 m.waiting.a m.waiting.c m.waiting.xs, rwO intE 3 0 m.sent.a m.sent.c m.sent.xs, daO (slE (slE chgE)) m.rounds, daO (slE (slE intE)) m.states] _ _ from S.opn (ks := [blO b3 [iI d] 3]))
 replace S := S.ar (wfF (slE (slE chgE)) m.rounds) (S.da 6 rfl)
 replace S := S.ar (wfF (slE (slE intE)) m.states) (S.da 7 rfl)
 replace S := S.pk [0, 1, 2, 3, 4, 5] (os' := [blO b3 [iI d] 3, blO m_b [sV m.rounds, sV m.states, iI m.round, bD (m.back = true), iI m.seq, sV m.target, sV m.known, sV m.waiting, sV m.sent] 166, rwO intE 3 0 m.target.a m.target.c m.target.xs, rwO intE 3 0 m.known.a m.known.c m.known.xs, rwO intE 3 0 m.waiting.a m.waiting.c m.waiting.xs, rwO intE 3 0 m.sent.a m.sent.c m.sent.xs])
 have : m.target.xs.length ≤ 9223372036854775807 := (S.row 2 rfl).len_le
 have : m.known.xs.length ≤ 9223372036854775807 := (S.row 3 rfl).len_le
 have : m.waiting.xs.length ≤ 9223372036854775807 := (S.row 4 rfl).len_le
 have : m.sent.xs.length ≤ 9223372036854775807 := (S.row 5 rfl).len_le
 have : m.rounds.xs.length ≤ 9223372036854775807 := ((S.u 0 rfl)).1.len
 have : m.states.xs.length ≤ 9223372036854775807 := ((S.u 1 rfl)).1.len
 obtain ⟨_, _⟩ : inI64 m.round := m_k.1
 obtain ⟨_, _⟩ : inI64 m.seq := m_k.2
 refine sp S (tr (fldi 0 2 rfl uT166)<|tr (fldi (0 + 2) 5 rfl uT57)<|tr (ldk 1 sC22 rfl rfl rfl)<|la (ov fun S=>x_mkfn (cs := #[pT b3 0]) (by simp only [List.map_toArray, List.map_cons, List.map_nil, S.e (x := .tmp 3) (v := pT b3 0) rfl]))) ?_; clear S; intro a u S
 replace S := S.pk [0, 1, 2, 3, 5, 4] (os' := [blO b3 [iI d] 3, blO m_b [sV m.rounds, sV m.states, iI m.round, bD (m.back = true), iI m.seq, sV m.target, sV m.known, sV m.waiting, sV m.sent] 166, rwO intE 3 0 m.target.a m.target.c m.target.xs, rwO intE 3 0 m.known.a m.known.c m.known.xs, rwO intE 3 0 m.sent.a m.sent.c m.sent.xs, rwO intE 3 0 m.waiting.a m.waiting.c m.waiting.xs])
 refine cl S (sDel _ _ (S.xx (ow [rwO intE 3 0 m.waiting.a m.waiting.c m.waiting.xs])) m.waiting.a (S.mF (ks := [blO b3 [iI d] 3, blO m_b [sV m.rounds, sV m.states, iI m.round, bD (m.back = true), iI m.seq, sV m.target, sV m.known, sV m.waiting, sV m.sent] 166, rwO intE 3 0 m.target.a m.target.c m.target.xs, rwO intE 3 0 m.known.a m.known.c m.known.xs, rwO intE 3 0 m.sent.a m.sent.c m.sent.xs]) (fs := [rwO intE 3 0 m.waiting.a m.waiting.c m.waiting.xs])) (S.nfF (ks := [blO b3 [iI d] 3, blO m_b [sV m.rounds, sV m.states, iI m.round, bD (m.back = true), iI m.seq, sV m.target, sV m.known, sV m.waiting, sV m.sent] 166, rwO intE 3 0 m.target.a m.target.c m.target.xs, rwO intE 3 0 m.known.a m.known.c m.known.xs, rwO intE 3 0 m.sent.a m.sent.c m.sent.xs]) (fs := [rwO intE 3 0 m.waiting.a m.waiting.c m.waiting.xs]) hD) m.waiting.c m.waiting.xs ⟨(S.dF (ks := [blO b3 [iI d] 3, blO m_b [sV m.rounds, sV m.states, iI m.round, bD (m.back = true), iI m.seq, sV m.target, sV m.known, sV m.waiting, sV m.sent] 166, rwO intE 3 0 m.target.a m.target.c m.target.xs, rwO intE 3 0 m.known.a m.known.c m.known.xs, rwO intE 3 0 m.sent.a m.sent.c m.sent.xs]) (fs := [rwO intE 3 0 m.waiting.a m.waiting.c m.waiting.xs]) 0 rfl mo_rw).1, (S.dF (ks := [blO b3 [iI d] 3, blO m_b [sV m.rounds, sV m.states, iI m.round, bD (m.back = true), iI m.seq, sV m.target, sV m.known, sV m.waiting, sV m.sent] 166, rwO intE 3 0 m.target.a m.target.c m.target.xs, rwO intE 3 0 m.known.a m.known.c m.known.xs, rwO intE 3 0 m.sent.a m.sent.c m.sent.xs]) (fs := [rwO intE 3 0 m.waiting.a m.waiting.c m.waiting.xs]) 0 rfl mo_rw).2⟩ d b3 (S.k 0 rfl) (S.m.sep (i := 0) rfl [5] rfl rfl)) cB124 ?_
 rintro e u ⟨ra_t11, rc_t11, rfl, R_t11, T0⟩; refine ⟨_, rfl, fun a s => ?_⟩
 have S2 := S.kF (ks := [blO b3 [iI d] 3, blO m_b [sV m.rounds, sV m.states, iI m.round, bD (m.back = true), iI m.seq, sV m.target, sV m.known, sV m.waiting, sV m.sent] 166, rwO intE 3 0 m.target.a m.target.c m.target.xs, rwO intE 3 0 m.known.a m.known.c m.known.xs, rwO intE 3 0 m.sent.a m.sent.c m.sent.xs]) (fs := [rwO intE 3 0 m.waiting.a m.waiting.c m.waiting.xs]) [rwO intE 3 0 ra_t11 rc_t11 (m.waiting.xs.filter fun y => !(y == d))] s T0 ⟨⟨R_t11.b0.own, R_t11.wf⟩, trivial⟩ ⟨mo_rw, trivial⟩
 replace S2 := (show St _ _ _ _ _ _ [blO b3 [iI d] 3, blO m_b [sV m.rounds, sV m.states, iI m.round, bD (m.back = true), iI m.seq, sV m.target, sV m.known, sV m.waiting, sV m.sent] 166, rwO intE 3 0 m.target.a m.target.c m.target.xs, rwO intE 3 0 m.known.a m.known.c m.known.xs, rwO intE 3 0 m.sent.a m.sent.c m.sent.xs, rwO intE 3 0 ra_t11 rc_t11 (m.waiting.xs.filter fun y => !(y == d))] _ _ from S2)
 clear S; have S := S2; clear S2 s T0 R_t11
 have hOK : MachOK {m with waiting := Sl.mk ra_t11 rc_t11 (m.waiting.xs.filter fun y => !(y == d))} := machOK_of ⟨PO, CO⟩ ⟨rfl, rfl⟩ ⟨CO.tg, CO.kn, Asc.filt hwt _, CO.rd, CO.sq⟩
 refine ens S (tr (ov fun S=>x_nilck (S.e rfl))<|tr (fldi 0 2 rfl uT166)<|tr (fldi (0 + 2) 5 rfl uT57)<|la (stk 1 rfl rfl rfl)) ?_; clear S; intro a u S
 refine r0 ?_
 refine sp S (la (mv rfl)) ?_; clear S; intro a u S
 replace S := S.pk [0, 1, 2, 3, 5, 4] (os' := [blO b3 [iI d] 3, blO m_b [sV m.rounds, sV m.states, iI m.round, bD (m.back = true), iI m.seq, sV m.target, sV m.known, .slice ra_t11 ((m.waiting.xs.filter fun y => !(y == d)).length) rc_t11, sV m.sent] 166, rwO intE 3 0 m.target.a m.target.c m.target.xs, rwO intE 3 0 m.known.a m.known.c m.known.xs, rwO intE 3 0 ra_t11 rc_t11 (m.waiting.xs.filter fun y => !(y == d)), rwO intE 3 0 m.sent.a m.sent.c m.sent.xs])
 replace S := S.oda (E := slE (slE chgE)) (x := m.rounds) (S.u 0 rfl)
 replace S := S.oda (E := slE (slE intE)) (x := m.states) (S.u 1 rfl)
 have hk4 : machK (⟨m.rounds, m.states, m.round, m.back, m.seq, (Sl.mk m.target.a m.target.c m.target.xs), (Sl.mk m.known.a m.known.c m.known.xs), (Sl.mk ra_t11 rc_t11 (m.waiting.xs.filter fun y => !(y == d))), (Sl.mk m.sent.a m.sent.c m.sent.xs)⟩ : Mach) := ⟨m_k.1, m_k.2⟩
 replace S := (show St _ _ _ _ _ _ ([blO b3 [iI d] 3] ++ machF m_b (⟨m.rounds, m.states, m.round, m.back, m.seq, (Sl.mk m.target.a m.target.c m.target.xs), (Sl.mk m.known.a m.known.c m.known.xs), (Sl.mk ra_t11 rc_t11 (m.waiting.xs.filter fun y => !(y == d))), (Sl.mk m.sent.a m.sent.c m.sent.xs)⟩ : Mach)) _ _ from S).cls
 replace S := (show St _ _ _ _ _ _ [blO b3 [iI d] 3, bnO (machF m_b (⟨m.rounds, m.states, m.round, m.back, m.seq, (Sl.mk m.target.a m.target.c m.target.xs), (Sl.mk m.known.a m.known.c m.known.xs), (Sl.mk ra_t11 rc_t11 (m.waiting.xs.filter fun y => !(y == d))), (Sl.mk m.sent.a m.sent.c m.sent.xs)⟩ : Mach))] _ _ from S)
 obtain ⟨y5, hy5⟩ : ∃ y : Mach, (⟨m.rounds, m.states, m.round, m.back, m.seq, (Sl.mk m.target.a m.target.c m.target.xs), (Sl.mk m.known.a m.known.c m.known.xs), (Sl.mk ra_t11 rc_t11 (m.waiting.xs.filter fun y => !(y == d))), (Sl.mk m.sent.a m.sent.c m.sent.xs)⟩ : Mach) = y := ⟨_, rfl⟩; rw [hy5] at S hk4
 refine cl S (cAdvance _ _ (S.xx (ow [bnO (machF m_b y5)])) m_b y5 (S.mF (ks := [blO b3 [iI d] 3]) (fs := [bnO (machF m_b y5)])) (S.nfF (ks := [blO b3 [iI d] 3]) (fs := [bnO (machF m_b y5)]) hD) hk4 (S.dF (ks := [blO b3 [iI d] 3]) (fs := [bnO (machF m_b y5)]) 0 rfl (mo_bn (mo_mach _ _))) (by subst hy5; exact (⟨by first | assumption | exact hOK, by first | omega | (dsimp only; omega)⟩))) cB117 ?_
 rintro e u ⟨m_t16, rfl, hk_m_t16, hK_m_t16, hq_m_t16, T0⟩; refine ⟨_, rfl, fun a s => ?_⟩
 have S2 := S.kF (ks := [blO b3 [iI d] 3]) (fs := [bnO (machF m_b y5)]) [bnO (machF m_b m_t16)] s T0 ⟨hK_m_t16, trivial⟩ ⟨(mo_bn (mo_mach _ _)), trivial⟩
 replace S2 := (show St _ _ _ _ _ _ [blO b3 [iI d] 3, bnO (machF m_b m_t16)] _ _ from S2)
 clear S; have S := S2; clear S2 s T0 hK_m_t16
 subst hy5
 refine nn ?_
 refine end0 rfl S.s ?_
 replace S := S.pk [1] (os' := [bnO (machF m_b m_t16)])
 refine ⟨m_t16, rfl, hk_m_t16, (S.m.o _ (nth_mem (i := 0) rfl)), ?_, S.m.c⟩
 first | assumption | trivial | rfl
end Go.Proofs.Ytobggnpnochnnaa.V
