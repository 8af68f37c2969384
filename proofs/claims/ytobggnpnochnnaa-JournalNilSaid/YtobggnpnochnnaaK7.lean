/- the log -/
import Derived.Test.YtobggnpnochnnaaK6
import Derived.Test.YtobggnpnochnnaaLogM
namespace Go.Proofs.Ytobggnpnochnnaa.V
open Go.RowKit Go.Proofs.Ytobggnpnochnnaa
set_option linter.unusedVariables false
set_option linter.unusedSimpArgs false
set_option maxHeartbeats 2000000 in
set_option maxRecDepth 20000 in
theorem jAppend (w : World) (F : Nat → Prop) (hF : Old F w) (jl_b : Nat) (jl : Lg) (M : MS [In (ow (lgF jl_b jl))] w) (hD : ∀ k, In [In (ow (lgF jl_b jl))] k → ¬ F k) (jl_k : lgK jl) (jl_K : (bnO (lgF jl_b jl)).p F (In [In (ow (lgF jl_b jl))]) w) (r : Rec) (r_w : recE.wf (Fr F [In (ow (lgF jl_b jl))]) w.heap r) (ok : MachOK jl.m.2 ∧ jl.m.2.sent.xs.length ≤ 300000 ∧ jl.l.xs.length ≤ 10000) :
 Calls Try.prog 34 #[pT jl_b 0, .agg (recE.cells r).toArray] w fun e w' => ∃ (jl_1 : Lg), e = .returned (iI (appE ((jl.m.2.target.xs.length : Nat) : Int) jl.l.xs.length r)) ∧ lgK jl_1 ∧ (bnO (lgF jl_b jl_1)).p F (In [In (ow (lgF jl_b jl_1))]) w' ∧ ((appE ((jl.m.2.target.xs.length : Nat) : Int) jl.l.xs.length r = 0 → KeepM jl.m.2 jl_1.m.2 ∧ absM jl_1.m.2 = stepJ (rdsM jl.m.2) (stsM jl.m.2) (absM jl.m.2) r ∧ jl_1.l.xs = jl.l.xs ++ [r]) ∧ (¬ appE ((jl.m.2.target.xs.length : Nat) : Int) jl.l.xs.length r = 0 → jl_1 = jl)) ∧ Tr [In (ow (lgF jl_b jl))] w [In (ow (lgF jl_b jl_1))] w' := by
 obtain ⟨_, _⟩ : inI64 r.kind := r_w.1
 obtain ⟨_, _⟩ : inI64 r.dev := r_w.2.1
 obtain ⟨_, _⟩ : inI64 r.inc := r_w.2.2.1
 obtain ⟨_, _⟩ : inI64 r.seq := r_w.2.2.2
 obtain ⟨hOK, hsent, hll⟩ := ok
 refine go Try.func34 rfl 53 rfl [wfF recE r] [bnO (lgF jl_b jl)] hF M ⟨r_w, trivial⟩ ⟨jl_K, trivial⟩ ?_
 intro a S
 refine rs0 ?_
 refine nbp S (x_box _ (S.e rfl) rfl) ?_; clear S; intro a u b3 S
 refine ens S (la (av rfl)) ?_; clear S; intro a u S
 refine wp_seq (wp_block (wp_seq ?_))
 replace S := S.pk [1, 0] (os' := [blO b3 (recE.cells r) 24, bnO (lgF jl_b jl)])
 replace S := (show St _ _ _ _ _ _ [blO b3 (recE.cells r) 24, blO jl_b [pT jl.m.1 0, sV jl.l] 129, rwO recE 24 0 jl.l.a jl.l.c jl.l.xs, bnO (machF jl.m.1 jl.m.2)] _ _ from S.opn (ks := [blO b3 (recE.cells r) 24]))
 have : jl.l.xs.length ≤ 9223372036854775807 := (S.row 2 rfl).len_le
 refine dr (P := Try.prog) S 25 [] [(6, .is _), (7, .is _), (8, .is _), (9, .is _), (10, .is _), (11, .is _), (12, .is _), (13, .is _), (14, .is _), (15, .is _), (16, .is _), (17, .is _), (18, .is _), (19, .is _), (20, .is _), (21, .is _), (22, .is _), (23, .is _), (24, .is _), (25, .is _), (26, .is _), (27, .is _), (28, .is _), (29, .is _), (5, .is _)] [[], [6], [7], [8], [8, 9], [8, 10], [8, 11], [8, 12], [8, 13], [14], [15], [15, 16], [15, 17], [15, 18], [19], [20], [20, 21], [20], [20, 23], [20, 24], [20, 25], [20, 26], [20, 22, 27], [20, 28], [29]] [5] _ ⟨qd (mv rfl), qd (ov fun S=>x_peqN uT52 (S.e rfl) (S.e rfl)), qd (mv rfl), qd (gon 8 rfl fun S=>x_move (S.e rfl)), qd (gon 8 rfl fun S=>x_nilck (S.e rfl)), qd (gon 8 rfl fun S=>x_fld (z := 0) (0) 0 uT129 rfl rfl (by kernel_rfl) (S.e rfl)), qd (gon 8 rfl fun S=>x_load sC125 (S.e rfl) ((S.k 1 rfl).cell (j := 0) rfl)), qd (gon 8 rfl fun S=>x_peqN uT125 (S.e rfl) (S.e rfl)), qd (ov fun S=>x_pickf (S.e rfl) (S.e rfl)), qd (mv rfl), qd (gon 15 rfl fun S=>x_ldw (S.e rfl) (S.k 0 rfl).all wD24), qd (ocon 15 rfl (fun S=>jValid _ _ S.x (.nil _) r (dn0 (S.u 0 rfl))) cB61), qd (gon 15 rfl fun S=>x_notp (S.e rfl)), qd (ov fun S=>x_pickf (S.e rfl) (S.e rfl)), qd (mv rfl), qd (og 20 rfl gf fun S hg=>xf (0) 1 uT24 (S.e rfl)), qd (og 20 rfl gf fun S hg=>x_load sC3 (S.p rfl hg) ((S.k 0 rfl).cell (j := 1) rfl)), qd (og 20 rfl gf fun S hg=>x_move (S.e rfl)), qd (og 20 rfl gf fun S hg=>x_nilck (S.p rfl hg)), qd (og 20 rfl gf fun S hg=>xf (0) 0 uT129 (S.p rfl hg)), qd (og 20 rfl gf fun S hg=>x_load sC125 (S.p rfl hg) ((S.k 1 rfl).cell (j := 0) rfl)), qd (ocg 20 rfl gf (fun S hg=>cDevices _ _ (S.xx [In (ow (machF jl.m.1 jl.m.2))]) (.nil _) (jl.m.1, jl.m.2) (S.rob hD 3 rfl (X := fun D => (ptE machE 166).wf D _ (jl.m.1, jl.m.2)) (rd_mach jl_k) _ (by simp))) cB72 fun S=>⟨fun hg=>(S.p rfl hg), trivial⟩), qd (og 20 rfl gf fun S hg=>x_geq (S.p rfl hg) (S.p rfl hg)), qd (ori rfl rfl rfl), qd (av rfl), trivial⟩ ?_
 clear S; intro a u S G hE
 refine ent ?_
 refine cd S rfl ?_ ?_
 ·intro hc0
  refine rs S (la (av rfl)) ?_; clear S; intro a u S
  refine wp_ret (blk_r (then_r ?_))
  have hk3 : lgK (⟨(jl.m.1, jl.m.2), (Sl.mk jl.l.a jl.l.c jl.l.xs)⟩ : Lg) := jl_k
  replace S := (show St _ _ _ _ _ _ ([blO b3 (recE.cells r) 24] ++ lgF jl_b (⟨(jl.m.1, jl.m.2), (Sl.mk jl.l.a jl.l.c jl.l.xs)⟩ : Lg)) _ _ from S).cls
  replace S := (show St _ _ _ _ _ _ [blO b3 (recE.cells r) 24, bnO (lgF jl_b (⟨(jl.m.1, jl.m.2), (Sl.mk jl.l.a jl.l.c jl.l.xs)⟩ : Lg))] _ _ from S)
  refine ret1 rfl S.s rfl ?_
  replace S := S.pk [1] (os' := [bnO (lgF jl_b (⟨(jl.m.1, jl.m.2), (Sl.mk jl.l.a jl.l.c jl.l.xs)⟩ : Lg))])
  refine ⟨(⟨(jl.m.1, jl.m.2), (Sl.mk jl.l.a jl.l.c jl.l.xs)⟩ : Lg), (r1 (vi ?_)), hk3, (S.m.o _ (nth_mem (i := 0) rfl)), ?_, S.m.c⟩
  ·unfold appE; rw [if_pos hc0]
  have e : appE ((jl.m.2.target.xs.length : Nat) : Int) jl.l.xs.length r = 1 := by unfold appE; rw [if_pos hc0]
  exact ⟨fun h => (by rw [e] at h; cases h), fun _ => rfl⟩
 intro hc1
 obtain ⟨hv0, hdv0⟩ := not_or.1 hc1
 have hdv : r.dev < ((jl.m.2.target.xs.length : Nat) : Int) := Int.not_le.1 hdv0
 have hv : recOK r := Classical.not_not.1 hv0
 have hv2 := hv
 unfold recOK at hv2
 refine rs S (tr (mv rfl)<|tr (ov fun S=>x_nilck (S.e rfl))<|tr (fldi 0 1 rfl uT129)<|tr (ldk 1 sC32 rfl rfl rfl)<|tr (leni uT32 rfl)<|tr (geqi rfl rfl)<|la (av rfl)) ?_; clear S; intro a u S
 refine cd S rfl ?_ ?_
 ·intro hc2
  refine rs S (la (av rfl)) ?_; clear S; intro a u S
  refine wp_ret (blk_r (then_r ?_))
  have hk6 : lgK (⟨(jl.m.1, jl.m.2), (Sl.mk jl.l.a jl.l.c jl.l.xs)⟩ : Lg) := jl_k
  replace S := (show St _ _ _ _ _ _ ([blO b3 (recE.cells r) 24] ++ lgF jl_b (⟨(jl.m.1, jl.m.2), (Sl.mk jl.l.a jl.l.c jl.l.xs)⟩ : Lg)) _ _ from S).cls
  replace S := (show St _ _ _ _ _ _ [blO b3 (recE.cells r) 24, bnO (lgF jl_b (⟨(jl.m.1, jl.m.2), (Sl.mk jl.l.a jl.l.c jl.l.xs)⟩ : Lg))] _ _ from S)
  refine ret1 rfl S.s rfl ?_
  replace S := S.pk [1] (os' := [bnO (lgF jl_b (⟨(jl.m.1, jl.m.2), (Sl.mk jl.l.a jl.l.c jl.l.xs)⟩ : Lg))])
  refine ⟨(⟨(jl.m.1, jl.m.2), (Sl.mk jl.l.a jl.l.c jl.l.xs)⟩ : Lg), (r1 (vi ?_)), hk6, (S.m.o _ (nth_mem (i := 0) rfl)), ?_, S.m.c⟩
  ·unfold appE; rw [if_neg hc1, if_pos (by omega)]
  have e : appE ((jl.m.2.target.xs.length : Nat) : Int) jl.l.xs.length r = 3 := by unfold appE; rw [if_neg hc1, if_pos (by omega)]
  exact ⟨fun h => (by rw [e] at h; cases h), fun _ => rfl⟩
 intro hc3
 refine wp_skip (blk_n (then_n (wp_seq ?_)))
 refine lza3 (P := Try.prog) (s := .tmp 41) (x := .tmp 43) recE Nat S 7 0 37 (pT jl_b 0) [] [(37, .is _), (38, .is _), (39, .is _), (40, .is _), (41, .is _), (42, .is _), (43, .of (fun z w => ∃ (x43a : Nat), z = .slice (some ⟨x43a, 0, none⟩) 1 1 ∧ (slE recE).wf (Fr F [one b3, one jl_b, abk jl.l.a, In (ow (machF jl.m.1 jl.m.2))]) w.heap (Sl.mk (some ⟨x43a, 0, none⟩) 1 ([r]))) (fun v w w' c h => let ⟨x43a, hv, h0⟩ := h; ⟨x43a, hv, Enc.kp (slE recE) h0 c (fun _ h => by simp at h)⟩))] [[], [], [38], [39], [40], [], [42]] [41, 43] 2 rfl (fun g => [(41, sV jl.l), (43, .slice (some ⟨g, 0, none⟩) 1 1)]) (fun g => True) (fun g => [r]) ⟨qd (mv rfl), qd (mv rfl), qd (ov fun S=>x_nilck (S.e rfl)), qd (fldi 0 1 rfl uT129), qd (ldk 1 sC32 rfl rfl rfl), qd (ldkw 0 rfl rfl wD24), ?_, trivial⟩ (fun a w S => (x_move (S.e rfl))) ?_ ?_ uT32 iZ24
 ·skip
  intro a u S G hE
  refine hnb 43 S.m (x_bsl [(0, .agg (recE.cells r).toArray)] [iI r.kind, iI r.dev, iI r.inc, iI r.seq] uT32 iZ24 (by decide) (by decide) (by simp only [List.map_cons, List.map_nil, S.e (x := .tmp 42) (v := .agg (recE.cells r).toArray) rfl]) (by kernel_rfl)) fun g => (show ∃ _, _ from ⟨_, rfl, sl_of_blk (Blk.new _ [iI r.kind, iI r.dev, iI r.inc, iI r.seq] 24) [r] 1 rfl (by decide) (by decide) rfl (fr_fresh S.m.c S.m.f rfl) ?_⟩)
  intro x hx; simp only [List.mem_cons, List.not_mem_nil, or_false] at hx; rw [hx] <;> first | exact Enc.tr (recE) (show recE.wf (Fr F _) _ r from ⟨(S.u 0 rfl).1, (S.u 0 rfl).2.1, (S.u 0 rfl).2.2.1, (S.u 0 rfl).2.2.2⟩) (Tr.of_ch0 S.M g)
 ·intro a u S G hE
  obtain ⟨e43, -⟩ := hE
  obtain ⟨x43_7, e43, X7⟩ := e43
  replace S := S.ext e43
  have hn8 : ([r]).length ≤ 9223372036854775807 := (X7).1.len
  exact ⟨x43_7, _, _, _, S.s.sub (subM rfl), trivial, rfl, rfl, (show LAt recE _ _ (some ⟨x43_7, 0, none⟩) ([r]) from (X7).1), (X7).2.2, (LAt.mem (show LAt recE _ _ (some ⟨x43_7, 0, none⟩) ([r]) from (X7).1)), ⟨by unfold maxLen; (try simp only [List.length_cons, List.length_nil, List.length_append, List.length_map]); omega, by (try simp only [List.length_cons, List.length_nil, List.length_append, List.length_map]); omega⟩⟩
 clear S; intro g ad44 cap44 a u S hR
 revert S hR; revert a u ad44 cap44; revert g; intro x43_7 ad44 cap44 a u S hR
 refine ens S (tr (ov fun S=>x_nilck (S.e rfl))<|tr (fldi 0 1 rfl uT129)<|la (stk 1 rfl rfl rfl)) ?_; clear S; intro a u S
 refine wp_seq ?_
 refine dr (P := Try.prog) S 5 [] [(47, .is _), (48, .is _), (49, .is _), (50, .is _), (51, .is _)] [[], [47], [48], [49], []] [50, 51] _ ⟨qd (mv rfl), qd (ov fun S=>x_nilck (S.e rfl)), qd (fldi 0 0 rfl uT129), qd (ldk 1 sC125 rfl rfl rfl), qd (ldkw 0 rfl rfl wD24), trivial⟩ ?_
 clear S; intro a u S G hE
 obtain ⟨hl9, hu9⟩ : inI64 r.kind := id ((S.u 0 rfl).1)
 obtain ⟨hl10, hu10⟩ : inI64 r.dev := id ((S.u 0 rfl).2.1)
 obtain ⟨hl11, hu11⟩ : inI64 r.inc := id ((S.u 0 rfl).2.2.1)
 obtain ⟨hl12, hu12⟩ : inI64 r.seq := id ((S.u 0 rfl).2.2.2)
 refine cl S (jApply _ _ (S.xx (ow [bnO (machF jl.m.1 jl.m.2)])) jl.m.1 jl.m.2 (S.mF (ks := [blO b3 (recE.cells r) 24, blO jl_b [pT jl.m.1 0, .slice ad44 ((jl.l.xs ++ [r]).length) cap44] 129, rwO recE 24 0 ad44 cap44 (jl.l.xs ++ [r])]) (fs := [bnO (machF jl.m.1 jl.m.2)])) (S.nfF (ks := [blO b3 (recE.cells r) 24, blO jl_b [pT jl.m.1 0, .slice ad44 ((jl.l.xs ++ [r]).length) cap44] 129, rwO recE 24 0 ad44 cap44 (jl.l.xs ++ [r])]) (fs := [bnO (machF jl.m.1 jl.m.2)]) hD) jl_k (S.dF (ks := [blO b3 (recE.cells r) 24, blO jl_b [pT jl.m.1 0, .slice ad44 ((jl.l.xs ++ [r]).length) cap44] 129, rwO recE 24 0 ad44 cap44 (jl.l.xs ++ [r])]) (fs := [bnO (machF jl.m.1 jl.m.2)]) 0 rfl (mo_bn (mo_mach _ _))) r (dnF (ks := [blO b3 (recE.cells r) 24, blO jl_b [pT jl.m.1 0, .slice ad44 ((jl.l.xs ++ [r]).length) cap44] 129, rwO recE 24 0 ad44 cap44 (jl.l.xs ++ [r])]) (fs := [bnO (machF jl.m.1 jl.m.2)]) (S.u 0 rfl)) (⟨by first | assumption | exact hOK, by first | omega | (dsimp only; omega), by first | omega | assumption, by first | omega | assumption⟩)) cB73 ?_
 rintro e u ⟨m_t52, rfl, hk_m_t52, hK_m_t52, hq_m_t52, T0⟩; refine ⟨_, rfl, fun a s => ?_⟩
 have S2 := S.kF (ks := [blO b3 (recE.cells r) 24, blO jl_b [pT jl.m.1 0, .slice ad44 ((jl.l.xs ++ [r]).length) cap44] 129, rwO recE 24 0 ad44 cap44 (jl.l.xs ++ [r])]) (fs := [bnO (machF jl.m.1 jl.m.2)]) [bnO (machF jl.m.1 m_t52)] s T0 ⟨hK_m_t52, trivial⟩ ⟨(mo_bn (mo_mach _ _)), trivial⟩
 replace S2 := (show St _ _ _ _ _ _ [blO b3 (recE.cells r) 24, blO jl_b [pT jl.m.1 0, .slice ad44 ((jl.l.xs ++ [r]).length) cap44] 129, rwO recE 24 0 ad44 cap44 (jl.l.xs ++ [r]), bnO (machF jl.m.1 m_t52)] _ _ from S2)
 clear S; have S := S2; clear S2 s T0 hK_m_t52
 refine ent ?_
 refine rs S (la (av rfl)) ?_; clear S; intro a u S
 refine wp_ret ?_
 have hk14 : lgK (⟨(jl.m.1, m_t52), (Sl.mk ad44 cap44 (jl.l.xs ++ [r]))⟩ : Lg) := hk_m_t52
 replace S := (show St _ _ _ _ _ _ ([blO b3 (recE.cells r) 24] ++ lgF jl_b (⟨(jl.m.1, m_t52), (Sl.mk ad44 cap44 (jl.l.xs ++ [r]))⟩ : Lg)) _ _ from S).cls
 replace S := (show St _ _ _ _ _ _ [blO b3 (recE.cells r) 24, bnO (lgF jl_b (⟨(jl.m.1, m_t52), (Sl.mk ad44 cap44 (jl.l.xs ++ [r]))⟩ : Lg))] _ _ from S)
 refine ret1 rfl S.s rfl ?_
 replace S := S.pk [1] (os' := [bnO (lgF jl_b (⟨(jl.m.1, m_t52), (Sl.mk ad44 cap44 (jl.l.xs ++ [r]))⟩ : Lg))])
 refine ⟨(⟨(jl.m.1, m_t52), (Sl.mk ad44 cap44 (jl.l.xs ++ [r]))⟩ : Lg), (r1 (vi ?_)), hk14, (S.m.o _ (nth_mem (i := 0) rfl)), ?_, S.m.c⟩
 ·unfold appE; rw [if_neg hc1, if_neg (by omega)]
 have e : appE ((jl.m.2.target.xs.length : Nat) : Int) jl.l.xs.length r = 0 := by unfold appE; rw [if_neg hc1, if_neg (by omega)]
 exact ⟨fun _ => ⟨⟨hq_m_t52.1.1, hq_m_t52.1.2⟩, hq_m_t52.2, rfl⟩, fun h => absurd e h⟩
set_option maxHeartbeats 2000000 in
set_option maxRecDepth 20000 in
theorem jNew (w : World) (F : Nat → Prop) (hF : Old F w) (M : MS [] w) (hD : ∀ k, In [] k → ¬ F k) (p : Plan) (p_w : planE.wf (Fr F []) w.heap p) (n : Int) (n_h : inI64 n) (hb : p.rounds.xs.length ≤ 100) :
 Calls Try.prog 33 #[.agg (planE.cells p).toArray, iI n] w fun e w' => ∃ (q : Option (Nat × Lg)), e = .returned (.tuple #[optP q, iI (errQ q)]) ∧ lgQK q ∧ (bnO (lgQ q)).p F (In [In (ow (lgQ q))]) w' ∧ ((q.isSome = true ↔ ((statesP p.staged (rdsP p) n).isSome = true ∧ p.rounds.xs.length ≤ 16)) ∧ ∀ x, q = some x → LogAt (rdsP p) (stsD (statesP p.staged (rdsP p) n)) n x.2 []) ∧ Tr [] w [In (ow (lgQ q))] w' := by
 have : p.rounds.xs.length ≤ 9223372036854775807 := (p_w.2).1.len
 obtain ⟨n_hl, n_hu⟩ : inI64 n := id n_h
 refine go Try.func33 rfl 20 rfl [wfF planE p] [] hF M ⟨p_w, trivial⟩ trivial ?_
 intro a S
 have hD : ∀ k, In ([] : List BS) k → ¬ F k := fun _ h => h.elim
 refine rs0 ?_
 refine nbp S (x_box _ (S.e rfl) rfl) ?_; clear S; intro a u b2 S
 refine ens S (tr (av rfl)<|la (av rfl)) ?_; clear S; intro a u S
 refine rs0 ?_
 refine sp S (tr (ldkw 0 rfl rfl wD47)<|la (mv rfl)) ?_; clear S; intro a u S
 refine cl S (cNew _ _ (S.xx (ow []))  (S.mF (ks := [blO b2 (planE.cells p) 47]) (fs := [])) (S.nfF (ks := [blO b2 (planE.cells p) 47]) (fs := []) hD) p (dnF (ks := [blO b2 (planE.cells p) 47]) (fs := []) (S.u 0 rfl)) n n_h (by first | omega | (dsimp only; omega))) cB71 ?_
 rintro e u ⟨q_t11, rfl, qK_t11, qB_t11, hr_t11, T0⟩; refine ⟨_, rfl, fun a s => ?_⟩
 have S2 := S.kF (ks := [blO b2 (planE.cells p) 47]) (fs := []) [bnO (machQ q_t11)] s T0 ⟨qB_t11, trivial⟩ ⟨(mo_bn (mo_machQ _)), trivial⟩
 replace S2 := (show St _ _ _ _ _ _ [blO b2 (planE.cells p) 47, bnO (machQ q_t11)] _ _ from S2)
 clear S; have S := S2; clear S2 s T0 qB_t11
 rcases q_t11 with _ | ⟨B_t11, x_t11⟩
 ·skip
  replace S := S.pk [0] (os' := [blO b2 (planE.cells p) 47])
  refine ens S (tr (mv rfl)<|tr (exi rfl rfl)<|tr (exi rfl rfl)<|tr (av rfl)<|la (av rfl)) ?_; clear S; intro a u S
  refine wp_seq ?_
  refine rs S (tr (mv rfl)<|la (neqi rfl rfl)) ?_; clear S; intro a u S
  refine cdt S rfl ?_
  refine rs S (tr (mv rfl)<|tr (av rfl)<|la (av rfl)) ?_; clear S; intro a u S
  refine wp_ret (then_r ?_)
  replace S := S.emp
  refine ret2 rfl S.s rfl rfl ?_
  replace S := S.pk [1] (os' := [bnO []])
  refine ⟨none, (r2 rfl (vi ?_)), trivial, (S.m.o _ (nth_mem (i := 0) rfl)), ?_, S.m.c⟩
  ·rfl
  exact ⟨⟨fun h => (by cases h), fun h => (by have := hr_t11.1.2 h; cases this)⟩, fun x h => by cases h⟩
 skip
 replace S := (show St _ _ _ _ _ _ [blO b2 (planE.cells p) 47, bnO (machF B_t11 x_t11)] _ _ from S)
 refine ens S (tr (mv rfl)<|tr (exi rfl rfl)<|tr (exi rfl rfl)<|tr (av rfl)<|la (av rfl)) ?_; clear S; intro a u S
 refine wp_seq ?_
 refine rs S (tr (mv rfl)<|la (neqi rfl rfl)) ?_; clear S; intro a u S
 refine cdf S rfl ?_
 refine wp_skip (then_n (rs0 ?_))
 refine sp S (tr (mv rfl)<|la (ov fun S=>x_bd S [(0, pT B_t11 0)] [pT B_t11 0, .slice none 0 0])) ?_; clear S; intro a u S
 refine nbp S (x_box _ (S.e rfl) rfl) ?_; clear S; intro a u b19 S
 refine ens S (tr (av rfl)<|la (av rfl)) ?_; clear S; intro a u S
 refine wp_ret ?_
 replace S := S.nr recE 24
 replace S := (show St _ _ _ _ _ _ [blO b2 (planE.cells p) 47, bnO (machF B_t11 x_t11), blO b19 [pT B_t11 0, .slice none 0 0] 129, rwO recE 24 0 none 0 ([])] _ _ from (S.b0 3 rfl))
 replace S := S.pk [0, 2, 3, 1] (os' := [blO b2 (planE.cells p) 47, blO b19 [pT B_t11 0, .slice none 0 0] 129, rwO recE 24 0 none 0 ([]), bnO (machF B_t11 x_t11)])
 have hk7 : lgK (⟨(B_t11, x_t11), (Sl.mk none 0 ([]))⟩ : Lg) := qK_t11
 replace S := (show St _ _ _ _ _ _ ([blO b2 (planE.cells p) 47] ++ lgF b19 (⟨(B_t11, x_t11), (Sl.mk none 0 ([]))⟩ : Lg)) _ _ from S).cls
 replace S := (show St _ _ _ _ _ _ [blO b2 (planE.cells p) 47, bnO (lgF b19 (⟨(B_t11, x_t11), (Sl.mk none 0 ([]))⟩ : Lg))] _ _ from S)
 refine ret2 rfl S.s rfl rfl ?_
 replace S := S.pk [1] (os' := [bnO (lgF b19 (⟨(B_t11, x_t11), (Sl.mk none 0 ([]))⟩ : Lg))])
 refine ⟨(some (b19, (⟨(B_t11, x_t11), (Sl.mk none 0 ([]))⟩ : Lg))), (r2 rfl (vi ?_)), hk7, (S.m.o _ (nth_mem (i := 0) rfl)), ?_, S.m.c⟩
 ·rfl
 obtain ⟨hg, hx⟩ := hr_t11
 obtain ⟨hOK, hr, hs, ha⟩ := hx _ rfl
 have hgd := hg.1 rfl
 have hn0 : 0 ≤ n := by obtain ⟨sts, hst⟩ := Option.isSome_iff_exists.1 hgd.1; have := (statesP_ok hst (by rw [rdsP_len]; exact hgd.2)).1; omega
 refine ⟨⟨fun _ => hgd, fun _ => rfl⟩, fun x h => ?_⟩
 obtain rfl := (Option.some.inj h).symm
 exact LogAt.new (MachAt.new hn0 hOK hr hs ha) rfl
set_option maxHeartbeats 2000000 in
set_option maxRecDepth 20000 in
theorem jBytes (w : World) (F : Nat → Prop) (hF : Old F w) (M : MS [] w) (jl : Nat × Lg) (jl_w : (ptE lgE 129).wf (Fr F []) w.heap jl) (hb : jl.2.l.xs.length ≤ 10000) :
 Calls Try.prog 37 #[pT jl.1 0] w fun e w' => ∃ (ra : Option Addr) (rc : Nat), e = .returned (.slice ra ((bytesJ jl.2.l.xs).length) rc) ∧ Row u8E 5 w.heap.size F [abk ra] w' ra rc (bytesJ jl.2.l.xs) ∧ Tr [] w [abk ra] w' := by
 have : jl.2.m.2.rounds.xs.length ≤ 9223372036854775807 := (jl_w.2.2.1.2.2.1).1.len
 have : jl.2.m.2.states.xs.length ≤ 9223372036854775807 := (jl_w.2.2.1.2.2.2.1).1.len
 obtain ⟨_, _⟩ : inI64 jl.2.m.2.round := jl_w.2.2.1.2.2.2.2.1
 obtain ⟨_, _⟩ : inI64 jl.2.m.2.seq := jl_w.2.2.1.2.2.2.2.2.2.1
 have : jl.2.m.2.target.xs.length ≤ 9223372036854775807 := (jl_w.2.2.1.2.2.2.2.2.2.2.1).1.len
 have : jl.2.m.2.known.xs.length ≤ 9223372036854775807 := (jl_w.2.2.1.2.2.2.2.2.2.2.2.1).1.len
 have : jl.2.m.2.waiting.xs.length ≤ 9223372036854775807 := (jl_w.2.2.1.2.2.2.2.2.2.2.2.2.1).1.len
 have : jl.2.m.2.sent.xs.length ≤ 9223372036854775807 := (jl_w.2.2.1.2.2.2.2.2.2.2.2.2.2).1.len
 have : jl.2.l.xs.length ≤ 9223372036854775807 := (jl_w.2.2.2).1.len
 refine go Try.func37 rfl 36 rfl [wfF (ptE lgE 129) jl] [] hF M ⟨jl_w, trivial⟩ trivial ?_
 intro a S
 have hD : ∀ k, In ([] : List BS) k → ¬ F k := fun _ h => h.elim
 refine rs S (la (av rfl)) ?_; clear S; intro a u S
 refine wp_seq ?_
 refine rs S (tr (mv rfl)<|tr (ov fun S=>x_peqN uT52 (S.e rfl) (S.e rfl))<|tr (mv rfl)<|tr (gon 10 rfl fun S=>x_move (S.e rfl))<|tr (gon 10 rfl fun S=>x_nilck (S.e rfl))<|tr (gon 10 rfl fun S=>x_fld (z := 0) (0) 0 uT129 rfl rfl (by kernel_rfl) (S.e rfl))<|tr (gon 10 rfl fun S=>x_load sC125 (S.e rfl) ((S.u 0 rfl).1.cell (j := 0) rfl))<|tr (gon 10 rfl fun S=>x_peqN uT125 (S.e rfl) (S.e rfl))<|la (ov fun S=>x_pickf (S.e rfl) (S.e rfl))) ?_; clear S; intro a u S
 refine cdf S rfl ?_
 refine wp_skip (then_n ?_)
 refine rs S (la (av rfl)) ?_; clear S; intro a u S
 refine wp_seq ?_
 have hn5 : jl.2.l.xs.length ≤ 9223372036854775807 := (((S.u 0 rfl).2.2).2).1.len
 refine rs S (tr (mv rfl)<|tr (ov fun S=>x_nilck (S.e rfl))<|tr (fldi 0 1 rfl uT129)<|tr (ov fun S=>x_load sC32 (S.e rfl) ((S.u 0 rfl).1.cell (j := 1) rfl))<|tr (leni uT32 rfl)<|la (mv rfl)) ?_; clear S; intro a u S
 refine wp_block ?_
 replace S := S.nr u8E 5
 refine lp4 (fun (k : Nat) (out_a : Option Addr) (out_c : Nat) (out : List Int) => [(2, .slice none 0 0), (20, sV jl.2.l), (21, iN jl.2.l.xs.length), (22, iN k), (3, .slice out_a out.length out_c)]) (fun (k : Nat) (out_a : Option Addr) (out_c : Nat) (out : List Int) => [rwO u8E 5 w.heap.size out_a out_c out]) (fun (k : Nat) (out_a : Option Addr) (out_c : Nat) (out : List Int) => k ≤ jl.2.l.xs.length ∧ out = bytesJ (jl.2.l.xs.take k)) (fun (k : Nat) (out_a : Option Addr) (out_c : Nat) (out : List Int) => jl.2.l.xs.length - k) S 0 none 0 ([]) (subM rfl) rfl ?_ ?_
 ·exact ⟨Nat.zero_le _, rfl⟩
 clear S; intro k out_a out_c out a u S hR
 have out_len := (S.row 0 rfl).len_le; simp only [maxLen] at out_len
 obtain ⟨hk, hout⟩ := hR
 have hol : out.length ≤ 14 * k := by rw [hout]; exact Nat.le_trans (bytesJ_len _) (by rw [List.length_take]; omega)
 refine rs S (la (lssi rfl rfl)) ?_; clear S; intro a u S
 refine wp_seq ?_
 refine cd S rfl ?_ ?_
 ·intro hc0
  refine wp_skip (then_n (wp_seq (wp_block (rs0 ?_))))
  obtain ⟨hl8, hu8⟩ : inI64 ((jl.2.l.xs.getD k recE.dflt).kind) := id (((((S.u 0 rfl).2.2).2).1.wf k (by omega)).1)
  obtain ⟨hl9, hu9⟩ : inI64 ((jl.2.l.xs.getD k recE.dflt).dev) := id (((((S.u 0 rfl).2.2).2).1.wf k (by omega)).2.1)
  obtain ⟨hl10, hu10⟩ : inI64 ((jl.2.l.xs.getD k recE.dflt).inc) := id (((((S.u 0 rfl).2.2).2).1.wf k (by omega)).2.2.1)
  obtain ⟨hl11, hu11⟩ : inI64 ((jl.2.l.xs.getD k recE.dflt).seq) := id (((((S.u 0 rfl).2.2).2).1.wf k (by omega)).2.2.2)
  refine sp S (tr (idxi uT32 sZ24 rfl rfl k rfl (by omega) ((((S.u 0 rfl).2.2).2).1.adr (i := k) (by omega)))<|la (ov fun S=>x_ldw (S.e rfl) ((((S.u 0 rfl).2.2).2).1.wcell k (by omega) _ rfl _ rfl) wD24)) ?_; clear S; intro a u S
  refine nbp S (x_allocz _ iZ24 rfl) ?_; clear S; intro a u b5 S
  refine ens S (la (stkw 1 rfl rfl rfl)) ?_; clear S; intro a u S
  refine rs0 ?_
  refine sp S (la (ldkw 1 rfl rfl wD24)) ?_; clear S; intro a u S
  refine cl S (jEncode _ _ S.x (.nil _) (jl.2.l.xs.getD k recE.dflt) (dn0 ((((S.u 0 rfl).2.2).2).1.wf k (by omega)))) cB21 ?_
  rintro e u ⟨ra_t280, rc_t280, rfl, R_t280, T0⟩; refine ⟨_, rfl, fun a s => ?_⟩
  replace S := S.kr [⟨_, u8E, 5, ra_t280, rc_t280, (if recOK (jl.2.l.xs.getD k recE.dflt) then encR (jl.2.l.xs.getD k recE.dflt) else [])⟩] s T0 ⟨R_t280, trivial⟩; clear s T0 R_t280
  have hel := enc_len (jl.2.l.xs.getD k recE.dflt)
  refine ens S (tr (mv rfl)<|tr (exi rfl rfl)<|tr (exi rfl rfl)<|tr (av rfl)<|la (av rfl)) ?_; clear S; intro a u S
  refine r0 ?_
  refine sp S (tr (mv rfl)<|la (mv rfl)) ?_; clear S; intro a u S
  refine ap (E := u8E) (ys := (if recOK (jl.2.l.xs.getD k recE.dflt) then encR (jl.2.l.xs.getD k recE.dflt) else [])) S 0 rfl uT28 iZ5 rfl rfl ((S.row 2 rfl).lat (by first | decide | exact Nat.one_pos)) (S.row 2 rfl).cap_le.2 (S.row 2 rfl).wf ⟨by unfold maxLen; (try simp only [List.length_cons, List.length_nil, List.length_append, List.length_map]); omega, by (try simp only [List.length_cons, List.length_nil, List.length_append, List.length_map]); omega⟩ ?_; clear S; intro a u ad33 cap33 S
  refine en S (la (av rfl)) ?_; clear S; intro a u S
  refine blk_n (then_n ?_)
  refine rg S (tr (addi ((k + 1 : Nat) : Int) rfl rfl (w_i64 (by omega)))<|la (mv rfl)) ?_; clear S; intro a u S
  refine then_n ?_
  refine ⟨(k + 1), ad33, cap33, (out ++ (if recOK (jl.2.l.xs.getD k recE.dflt) then encR (jl.2.l.xs.getD k recE.dflt) else [])), S.re (subM rfl) rfl rfl, ?_, ?_⟩
  ·refine ⟨by omega, ?_⟩
   rw [bytesJ_up (by omega) recE.dflt, hout]
  omega
 intro hc1
 refine wp_exit (then_e (then_e (blk_e (then_n ?_))))
 refine rs S (tr (mv rfl)<|la (av rfl)) ?_; clear S; intro a u S
 refine wp_ret ?_
 refine ret1 rfl S.s rfl ?_
 have hx16 : bytesJ jl.2.l.xs = out := by
  rw [hout, List.take_of_length_le (by omega)]
 rw [hx16]
 refine ⟨out_a, out_c, rfl, (S.row 0 rfl), S.m.c⟩
set_option maxHeartbeats 2000000 in
set_option maxRecDepth 20000 in
theorem jCtl (w : World) (F : Nat → Prop) (hF : Old F w) (M : MS [] w) (jl : Nat × Lg) (jl_w : (ptE lgE 129).wf (Fr F []) w.heap jl) (hb : jl.2.m.2.target.xs.length ≤ 1000 ∧ jl.2.m.2.known.xs.length ≤ 1000 ∧ jl.2.m.2.waiting.xs.length ≤ 1000) :
 Calls Try.prog 39 #[pT jl.1 0] w fun e w' => ∃ (ra_3 : Option Addr) (rc_3 : Nat) (ra_4 : Option Addr) (rc_4 : Nat) (ra_5 : Option Addr) (rc_5 : Nat), e = .returned (.agg #[iI jl.2.m.2.round, bD (jl.2.m.2.back = true), iI jl.2.m.2.seq, .slice ra_3 jl.2.m.2.target.xs.length rc_3, .slice ra_4 jl.2.m.2.known.xs.length rc_4, .slice ra_5 jl.2.m.2.waiting.xs.length rc_5]) ∧ Row intE 3 w.heap.size F [abk ra_5, abk ra_4, abk ra_3] w' ra_3 rc_3 jl.2.m.2.target.xs ∧ Row intE 3 w.heap.size F [abk ra_5, abk ra_4, abk ra_3] w' ra_4 rc_4 jl.2.m.2.known.xs ∧ Row intE 3 w.heap.size F [abk ra_5, abk ra_4, abk ra_3] w' ra_5 rc_5 jl.2.m.2.waiting.xs ∧ Tr [] w [abk ra_5, abk ra_4, abk ra_3] w' := by
 have : jl.2.m.2.rounds.xs.length ≤ 9223372036854775807 := (jl_w.2.2.1.2.2.1).1.len
 have : jl.2.m.2.states.xs.length ≤ 9223372036854775807 := (jl_w.2.2.1.2.2.2.1).1.len
 obtain ⟨_, _⟩ : inI64 jl.2.m.2.round := jl_w.2.2.1.2.2.2.2.1
 obtain ⟨_, _⟩ : inI64 jl.2.m.2.seq := jl_w.2.2.1.2.2.2.2.2.2.1
 have : jl.2.m.2.target.xs.length ≤ 9223372036854775807 := (jl_w.2.2.1.2.2.2.2.2.2.2.1).1.len
 have : jl.2.m.2.known.xs.length ≤ 9223372036854775807 := (jl_w.2.2.1.2.2.2.2.2.2.2.2.1).1.len
 have : jl.2.m.2.waiting.xs.length ≤ 9223372036854775807 := (jl_w.2.2.1.2.2.2.2.2.2.2.2.2.1).1.len
 have : jl.2.m.2.sent.xs.length ≤ 9223372036854775807 := (jl_w.2.2.1.2.2.2.2.2.2.2.2.2.2).1.len
 have : jl.2.l.xs.length ≤ 9223372036854775807 := (jl_w.2.2.2).1.len
 refine go Try.func39 rfl 18 rfl [wfF (ptE lgE 129) jl] [] hF M ⟨jl_w, trivial⟩ trivial ?_
 intro a S
 have hD : ∀ k, In ([] : List BS) k → ¬ F k := fun _ h => h.elim
 refine rs0 ?_
 refine nbp S (x_allocz _ iZ57 rfl) ?_; clear S; intro a u b2 S
 refine ent (wp_seq ?_)
 refine rs S (tr (mv rfl)<|tr (ov fun S=>x_peqN uT52 (S.e rfl) (S.e rfl))<|tr (mv rfl)<|tr (gon 5 rfl fun S=>x_move (S.e rfl))<|tr (gon 5 rfl fun S=>x_nilck (S.e rfl))<|tr (gon 5 rfl fun S=>x_fld (z := 0) (0) 0 uT129 rfl rfl (by kernel_rfl) (S.e rfl))<|tr (gon 5 rfl fun S=>x_load sC125 (S.e rfl) ((S.u 0 rfl).1.cell (j := 0) rfl))<|tr (gon 5 rfl fun S=>x_peqN uT125 (S.e rfl) (S.e rfl))<|la (ov fun S=>x_pickf (S.e rfl) (S.e rfl))) ?_; clear S; intro a u S
 refine cdf S rfl ?_
 refine wp_skip (then_n (rs0 ?_))
 refine sp S (tr (mv rfl)<|tr (ov fun S=>x_nilck (S.e rfl))<|tr (fldi 0 0 rfl uT129)<|la (ov fun S=>x_load sC125 (S.e rfl) ((S.u 0 rfl).1.cell (j := 0) rfl))) ?_; clear S; intro a u S
 refine cl S (cControl _ _ S.x (.nil _) jl.2.m (dn0 (((S.u 0 rfl).2.2).1)) (⟨by first | omega | (dsimp only; omega), by first | omega | (dsimp only; omega), by first | omega | (dsimp only; omega)⟩)) cB77 ?_
 rintro e u ⟨ra_t17_3, rc_t17_3, ra_t17_4, rc_t17_4, ra_t17_5, rc_t17_5, rfl, R_t17_3, R_t17_4, R_t17_5, T0⟩; refine ⟨_, rfl, fun a s => ?_⟩
 replace S := S.kr [⟨_, intE, 3, ra_t17_5, rc_t17_5, jl.2.m.2.waiting.xs⟩, ⟨_, intE, 3, ra_t17_4, rc_t17_4, jl.2.m.2.known.xs⟩, ⟨_, intE, 3, ra_t17_3, rc_t17_3, jl.2.m.2.target.xs⟩] s T0 ⟨R_t17_5, R_t17_4, R_t17_3, trivial⟩; clear s T0 R_t17_5 R_t17_4 R_t17_3
 replace S := S.pk [0, 1, 2, 3] (os' := [blO b2 [iI 0, .bool false, iI 0, .slice none 0 0, .slice none 0 0, .slice none 0 0] 57, rwO intE 3 w.heap.size ra_t17_5 rc_t17_5 jl.2.m.2.waiting.xs, rwO intE 3 w.heap.size ra_t17_4 rc_t17_4 jl.2.m.2.known.xs, rwO intE 3 w.heap.size ra_t17_3 rc_t17_3 jl.2.m.2.target.xs])
 refine ens S (la (stkw 0 rfl rfl rfl)) ?_; clear S; intro a u S
 refine wp_ret ?_
 refine retcw rfl S.s rfl [iI jl.2.m.2.round, bD (jl.2.m.2.back = true), iI jl.2.m.2.seq, .slice ra_t17_3 jl.2.m.2.target.xs.length rc_t17_3, .slice ra_t17_4 jl.2.m.2.known.xs.length rc_t17_4, .slice ra_t17_5 jl.2.m.2.waiting.xs.length rc_t17_5] wD57 (fun j v hv => by rw [Nat.zero_add]; exact (S.k 0 rfl).cell hv) ?_
 replace S := S.pk [1, 2, 3] (os' := [rwO intE 3 w.heap.size ra_t17_5 rc_t17_5 jl.2.m.2.waiting.xs, rwO intE 3 w.heap.size ra_t17_4 rc_t17_4 jl.2.m.2.known.xs, rwO intE 3 w.heap.size ra_t17_3 rc_t17_3 jl.2.m.2.target.xs])
 refine ⟨ra_t17_3, rc_t17_3, ra_t17_4, rc_t17_4, ra_t17_5, rc_t17_5, rfl, (S.row 2 rfl), (S.row 1 rfl), (S.row 0 rfl), S.m.c⟩
end Go.Proofs.Ytobggnpnochnnaa.V
