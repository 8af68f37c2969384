/- the generator: choices, failure states -/
import Derived.Test.YtfanmniaolncbaaW12
import Derived.Test.YtfanmniaolncbaaGrpE
namespace Go.Proofs.Ytfanmniaolncbaa.V
open Go.RowKit Go.Proofs.Ytfanmniaolncbaa
set_option linter.unusedVariables false
set_option linter.unusedSimpArgs false
set_option maxHeartbeats 2000000 in
set_option maxRecDepth 20000 in
theorem gNew (w : World) (F : Nat → Prop) (hF : Old F w) (M : MS [] w) (l : Sl Int) (l_w : (slE intE).wf (Fr F []) w.heap l) :
 Calls Try.prog 14 #[sV l] w fun e w' => ∃ (rT : Nat), e = .returned (pT rT 0) ∧ TpB 62 rT l w' ∧ Tr [] w [one rT] w' := by
 have : l.xs.length ≤ 9223372036854775807 := (l_w).1.len
 refine go Try.func14 rfl 6 rfl [wfF (slE intE) l] [] hF M ⟨l_w, trivial⟩ trivial ?_
 intro a S
 refine rs S (la (av rfl)) ?_; clear S; intro a u S
 refine rs0 ?_
 refine sp S (tr (mv rfl)<|la (ov fun S=>x_bd S [(0, sV l)] [sV l, iI 0])) ?_; clear S; intro a u S
 refine nbp S (x_box _ (S.e rfl) rfl) ?_; clear S; intro a u b5 S
 refine ens S (la (av rfl)) ?_; clear S; intro a u S
 refine wp_ret ?_
 refine ret1 rfl S.s rfl ?_
 replace S := S.pk [0]
 exact ⟨_, rfl, ⟨0, Nat.zero_le _, (S.k 0 rfl)⟩, S.m.c⟩
set_option maxHeartbeats 2000000 in
set_option maxRecDepth 20000 in
theorem gMod (w : World) (F : Nat → Prop) (hF : Old F w) (M : MS [] w) (v : Int) (v_h : inI64 v) (n : Int) (n_h : inI64 n) (hn : 1 ≤ n) :
 Calls Try.prog 32 #[iI v, iI n] w fun e w' => e = .returned (iI (v % 18446744073709551616 % n)) ∧ Tr [] w [] w' := by
 obtain ⟨v_hl, v_hu⟩ : inI64 v := id v_h
 obtain ⟨n_hl, n_hu⟩ : inI64 n := id n_h
 have hu : IntKind.u64.wrap v = v % 18446744073709551616 := by simp [IntKind.wrap, IntKind.bits, IntKind.signed]
 have hw : 0 ≤ v % 18446744073709551616 ∧ v % 18446744073709551616 ≤ 18446744073709551615 := ⟨by omega, by omega⟩
 have hm1 : 0 ≤ v % 18446744073709551616 % n := Int.emod_nonneg _ (by omega)
 have hm2 : v % 18446744073709551616 % n < n := Int.emod_lt_of_pos _ (by omega)
 refine go Try.func32 rfl 11 rfl [] [] hF M trivial trivial ?_
 intro a S
 refine rs S (la (av rfl)) ?_; clear S; intro a u S
 refine rs S (tr (mv rfl)<|tr (ov fun S=>x_conv uT3 uT78 (S.e rfl) (r := (v % 18446744073709551616)) hu)<|tr (mv rfl)<|tr (ov fun S=>x_conv uT3 uT78 (S.e rfl) (r := n) (w_u64 (by omega)))<|tr (ov fun S=>x_rem (S.e rfl) (S.e rfl) (by omega) (r := ((v % 18446744073709551616) % n)) (by first | rfl | (rw [Int.tmod_eq_emod_of_nonneg (by omega)]) | (rw [Int.tmod_eq_emod_of_nonneg (by omega)]; omega)))<|tr (ov fun S=>x_conv uT78 uT3 (S.e rfl) (r := ((v % 18446744073709551616) % n)) (w_i64 (by omega)))<|la (av rfl)) ?_; clear S; intro a u S
 refine wp_ret ?_
 refine ret1 rfl S.s rfl ?_
 refine ⟨(r1 (vi ?_)), S.m.c⟩
 first | rfl | omega | assumption
set_option maxHeartbeats 2000000 in
set_option maxRecDepth 20000 in
theorem gNext (w : World) (F : Nat → Prop) (hF : Old F w) (T : Nat) (M : MS [one T] w) (T_l : Sl Int) (T_w : (slE intE).wf (Fr F [one T]) w.heap T_l) (T_K : TpB 62 T T_l w) (n : Int) (n_h : inI64 n) :
 Calls Try.prog 23 #[pT T 0, iI n] w fun e w' => ∃ (r : Int), e = .returned (iI r) ∧ (0 ≤ r ∧ (r < n ∨ r = 0)) ∧ TpB 62 T T_l w' ∧ Tr [one T] w [one T] w' := by
 obtain ⟨ti, hti, T_K⟩ := T_K
 have T_len : T_l.xs.length ≤ 9223372036854775807 := T_w.1.len
 obtain ⟨n_hl, n_hu⟩ : inI64 n := id n_h
 refine go Try.func23 rfl 39 rfl [wfF (slE intE) T_l] [blO T [sV T_l, iN ti] 62] hF M ⟨T_w, trivial⟩ ⟨T_K, trivial⟩ ?_
 intro a S
 refine rs S (la (av rfl)) ?_; clear S; intro a u S
 refine wp_seq (wp_seq ?_)
 refine dr (P := Try.prog) S 14 [] [(5, .is _), (6, .is _), (7, .is _), (8, .is _), (9, .is _), (10, .is _), (11, .is _), (12, .is _), (13, .is _), (14, .is _), (15, .is _), (16, .is _), (17, .is _), (18, .is _)] [[], [5], [6], [7], [7, 8], [7, 9], [7, 10], [7], [7, 12], [7, 13], [7, 14], [7, 15], [7, 11, 16], [7, 17]] [18] _ ⟨qd (mv rfl), qd (leqi rfl rfl), qd (mv rfl), qd (og 7 rfl gf fun S hg=>x_move (S.e rfl)), qd (og 7 rfl gf fun S hg=>x_nilck (S.p rfl hg)), qd (og 7 rfl gf fun S hg=>xf (0) 1 uT62 (S.p rfl hg)), qd (og 7 rfl gf fun S hg=>x_load sC3 (S.p rfl hg) ((S.k 0 rfl).cell (j := 1) rfl)), qd (og 7 rfl gf fun S hg=>x_move (S.e rfl)), qd (og 7 rfl gf fun S hg=>x_nilck (S.p rfl hg)), qd (og 7 rfl gf fun S hg=>xf (0) 0 uT62 (S.p rfl hg)), qd (og 7 rfl gf fun S hg=>x_load sC22 (S.p rfl hg) ((S.k 0 rfl).cell (j := 0) rfl)), qd (og 7 rfl gf fun S hg=>x_len uT22 (S.p rfl hg)), qd (og 7 rfl gf fun S hg=>x_geq (S.p rfl hg) (S.p rfl hg)), qd (ori rfl rfl rfl), trivial⟩ ?_
 clear S; intro a u S G hE
 obtain ⟨hl2, hu2⟩ : inI64 n := id n_h
 refine ent ?_
 refine cd S rfl ?_ ?_
 ·intro hc0
  refine rs S (la (av rfl)) ?_; clear S; intro a u S
  refine wp_ret (then_r ?_)
  refine ret1 rfl S.s rfl ?_
  refine ⟨0, rfl, ?_, ⟨_, (by omega), (S.k 0 rfl)⟩, S.m.c⟩
  exact ⟨Int.le_refl _, .inr rfl⟩
 intro hc1
 refine wp_skip (then_n ?_)
 refine rs S (tr (mv rfl)<|tr (ov fun S=>x_nilck (S.e rfl))<|tr (fldi 0 1 rfl uT62)<|tr (ldk 0 sC3 rfl rfl rfl)<|tr (addi ((ti + 1 : Nat) : Int) rfl rfl (w_i64 (by omega)))<|tr (ov fun S=>x_nilck (S.e rfl))<|tr (fldi 0 1 rfl uT62)<|la (stk 0 rfl rfl rfl)) ?_; clear S; intro a u S
 refine wp_seq ?_
 obtain ⟨hl5, hu5⟩ : inI64 (T_l.xs.getD (((((ti + 1 : Nat) : Int) - 1)).toNat) intE.dflt) := id (((S.u 0 rfl)).1.wf ((((ti + 1 : Nat) : Int) - 1)).toNat (by omega))
 replace S := S.l [(0, pT T 0), (1, iI n)] (subM rfl)
 refine dr (P := Try.prog) S 14 [] [(26, .is _), (27, .is _), (28, .is _), (29, .is _), (30, .is _), (31, .is _), (32, .is _), (33, .is _), (34, .is _), (35, .is _), (36, .is _), (37, .is _), (38, .is _), (4, .is _)] [[], [26], [27], [28], [], [30], [31], [32], [33], [29, 34], [35], [], [36, 37], [38]] [4] _ ⟨qd (mv rfl), qd (ov fun S=>x_nilck (S.e rfl)), qd (fldi 0 0 rfl uT62), qd (ldk 0 sC22 rfl rfl rfl), qd (mv rfl), qd (ov fun S=>x_nilck (S.e rfl)), qd (fldi 0 1 rfl uT62), qd (ldk 0 sC3 rfl rfl rfl), qd (subi (((ti + 1 : Nat) : Int) - 1) rfl rfl (w_i64 (by omega))), qd (idxi uT22 sZ3 rfl rfl ((((ti + 1 : Nat) : Int) - 1)).toNat (by omega) (by omega) (((S.u 0 rfl)).1.adr (i := ((((ti + 1 : Nat) : Int) - 1)).toNat) (by omega))), qd (ov fun S=>x_load sC3 (S.e rfl) (((S.u 0 rfl)).1.cell ((((ti + 1 : Nat) : Int) - 1)).toNat (by omega) 0 _ rfl)), qd (mv rfl), qd (oc (fun S=>gMod _ _ S.x (.nil _) (T_l.xs.getD (((((ti + 1 : Nat) : Int) - 1)).toNat) intE.dflt) (((S.u 0 rfl)).1.wf ((((ti + 1 : Nat) : Int) - 1)).toNat (by omega)) n n_h (by omega)) cB32), qd (av rfl), trivial⟩ ?_
 clear S; intro a u S G hE
 obtain ⟨hl6, hu6⟩ : inI64 (T_l.xs.getD (((((ti + 1 : Nat) : Int) - 1)).toNat) intE.dflt) := id (((S.u 0 rfl)).1.wf ((((ti + 1 : Nat) : Int) - 1)).toNat (by omega))
 refine ent (wp_ret ?_)
 refine ret1 rfl S.s rfl ?_
 refine ⟨((T_l.xs.getD (((((ti + 1 : Nat) : Int) - 1)).toNat) intE.dflt) % 18446744073709551616 % n), rfl, ?_, ⟨_, (by omega), (S.k 0 rfl)⟩, S.m.c⟩
 have h1 := Int.emod_nonneg (T_l.xs.getD (((ti + 1 : Nat) : Int) - 1).toNat intE.dflt % 18446744073709551616) (b := n) (by omega); have h2 := Int.emod_lt_of_pos (T_l.xs.getD (((ti + 1 : Nat) : Int) - 1).toNat intE.dflt % 18446744073709551616) (b := n) (by omega); exact ⟨h1, .inl h2⟩
set_option maxHeartbeats 2000000 in
set_option maxRecDepth 20000 in
theorem gHuge (w : World) (F : Nat → Prop) (hF : Old F w) (M : MS [] w) (t : Topo) (t_w : topoE.wf (Fr F []) w.heap t) :
 Calls Try.prog 20 #[.agg (topoE.cells t).toArray] w fun e w' => e = .returned (bD (hugeT t)) ∧ Tr [] w [] w' := by
 have : t.devs.xs.length ≤ 9223372036854775807 := (t_w.1).1.len
 have : t.links.xs.length ≤ 9223372036854775807 := (t_w.2.1).1.len
 have : t.edges.xs.length ≤ 9223372036854775807 := (t_w.2.2.1).1.len
 have : t.pools.xs.length ≤ 9223372036854775807 := (t_w.2.2.2.1).1.len
 obtain ⟨_, _⟩ : inI64 t.tol := t_w.2.2.2.2
 refine go Try.func20 rfl 25 rfl [wfF topoE t] [] hF M ⟨t_w, trivial⟩ trivial ?_
 intro a S
 refine rs0 ?_
 refine nbp S (x_box _ (S.e rfl) rfl) ?_; clear S; intro a u b1 S
 refine ens S (la (av rfl)) ?_; clear S; intro a u S
 have hn3 : t.devs.xs.length ≤ 9223372036854775807 := ((S.u 0 rfl).1).1.len
 refine rs S (tr (fldi 0 0 rfl uT28)<|tr (ldk 0 sC23 rfl rfl rfl)<|tr (leni uT23 rfl)<|tr (gtri rfl rfl)<|tr (mv rfl)<|tr (og 7 rfl gf fun S hg=>xf (0) 1 uT28 (S.e rfl))<|tr (og 7 rfl gf fun S hg=>x_load sC24 (S.p rfl hg) ((S.k 0 rfl).cell (j := 1) rfl))<|tr (og 7 rfl gf fun S hg=>x_len uT24 (S.p rfl hg))<|tr (og 7 rfl gf fun S hg=>x_gtr (S.p rfl hg) (S.e rfl))<|tr (ori rfl rfl rfl)<|tr (mv rfl)<|tr (og 13 rfl gf fun S hg=>xf (0) 2 uT28 (S.e rfl))<|tr (og 13 rfl gf fun S hg=>x_load sC25 (S.p rfl hg) ((S.k 0 rfl).cell (j := 2) rfl))<|tr (og 13 rfl gf fun S hg=>x_len uT25 (S.p rfl hg))<|tr (og 13 rfl gf fun S hg=>x_gtr (S.p rfl hg) (S.e rfl))<|tr (ori rfl rfl rfl)<|tr (mv rfl)<|tr (og 19 rfl gf fun S hg=>xf (0) 3 uT28 (S.e rfl))<|tr (og 19 rfl gf fun S hg=>x_load sC26 (S.p rfl hg) ((S.k 0 rfl).cell (j := 3) rfl))<|tr (og 19 rfl gf fun S hg=>x_len uT26 (S.p rfl hg))<|tr (og 19 rfl gf fun S hg=>x_gtr (S.p rfl hg) (S.e rfl))<|tr (ori rfl rfl rfl)<|la (av rfl)) ?_; clear S; intro a u S
 refine wp_ret ?_
 refine ret1 rfl S.s rfl ?_
 replace S := S.pk []
 refine ⟨(r1 (vb ?_)), S.m.c⟩
 unfold hugeT; omega
set_option maxHeartbeats 2000000 in
set_option maxRecDepth 20000 in
theorem gSubnet (w : World) (F : Nat → Prop) (hF : Old F w) (M : MS [] w) (n : Int) (n_h : inI64 n) (hn : 0 ≤ n ∧ n < 6) :
 Calls Try.prog 46 #[iI n] w fun e w' => ∃ (r : Pfx), e = .returned (.agg (pfxE.cells r).toArray) ∧ pfxE.wf (Fr F []) w'.heap r ∧ r = subnet n ∧ Tr [] w [] w' := by
 obtain ⟨n_hl, n_hu⟩ : inI64 n := id n_h
 refine go Try.func46 rfl 14 rfl [] [] hF M trivial trivial ?_
 intro a S
 refine rs0 ?_
 refine nbp S (x_allocz _ iZ68 rfl) ?_; clear S; intro a u b2 S
 refine ent (rs0 ?_)
 refine sp S (tr (ov fun S=>x_bd S [(0, .int .u32 167772160), (1, iI 24)] [.int .u32 167772160, iI 24])<|tr (ov fun S=>x_bd S [(0, .int .u32 167772416), (1, iI 24)] [.int .u32 167772416, iI 24])<|tr (ov fun S=>x_bd S [(0, .int .u32 167772672), (1, iI 25)] [.int .u32 167772672, iI 25])<|tr (ov fun S=>x_bd S [(0, .int .u32 167772800), (1, iI 26)] [.int .u32 167772800, iI 26])<|tr (ov fun S=>x_bd S [(0, .int .u32 2886729728), (1, iI 16)] [.int .u32 2886729728, iI 16])<|la (ov fun S=>x_bd S [(0, .int .u32 3232237321), (1, iI 32)] [.int .u32 3232237321, iI 32])) ?_; clear S; intro a u S
 refine nbs pfxE S [(⟨167772160, 24⟩ : Pfx), (⟨167772416, 24⟩ : Pfx), (⟨167772672, 25⟩ : Pfx), (⟨167772800, 26⟩ : Pfx), (⟨2886729728, 16⟩ : Pfx), (⟨3232237321, 32⟩ : Pfx)] (x_bs S [(0, .agg #[.int .u32 167772160, iI 24]), (1, .agg #[.int .u32 167772416, iI 24]), (2, .agg #[.int .u32 167772672, iI 25]), (3, .agg #[.int .u32 167772800, iI 26]), (4, .agg #[.int .u32 2886729728, iI 16]), (5, .agg #[.int .u32 3232237321, iI 32])] uT26 iZ68) (fun x hx => by simp only [List.mem_cons, List.not_mem_nil, or_false] at hx; rcases hx with hx | hx | hx | hx | hx | hx <;> rw [hx] <;> first | exact (show pfxE.wf _ _ (⟨167772160, 24⟩ : Pfx) from ⟨(show inU32 167772160 from ⟨by omega, by omega⟩), (show inI64 24 from ⟨by omega, by omega⟩)⟩) | exact (show pfxE.wf _ _ (⟨167772416, 24⟩ : Pfx) from ⟨(show inU32 167772416 from ⟨by omega, by omega⟩), (show inI64 24 from ⟨by omega, by omega⟩)⟩) | exact (show pfxE.wf _ _ (⟨167772672, 25⟩ : Pfx) from ⟨(show inU32 167772672 from ⟨by omega, by omega⟩), (show inI64 25 from ⟨by omega, by omega⟩)⟩) | exact (show pfxE.wf _ _ (⟨167772800, 26⟩ : Pfx) from ⟨(show inU32 167772800 from ⟨by omega, by omega⟩), (show inI64 26 from ⟨by omega, by omega⟩)⟩) | exact (show pfxE.wf _ _ (⟨2886729728, 16⟩ : Pfx) from ⟨(show inU32 2886729728 from ⟨by omega, by omega⟩), (show inI64 16 from ⟨by omega, by omega⟩)⟩) | exact (show pfxE.wf _ _ (⟨3232237321, 32⟩ : Pfx) from ⟨(show inU32 3232237321 from ⟨by omega, by omega⟩), (show inI64 32 from ⟨by omega, by omega⟩)⟩)) ?_; clear S; intro a u b9 S
 refine sp S (tr (mv rfl)<|la (oc (fun S=>gMod _ _ S.x (.nil _) n n_h 6 ⟨by omega, by omega⟩ (by omega)) cB32)) ?_; clear S; intro a u S
 have hm : n % 18446744073709551616 % 6 = n := by omega
 rw [hm] at S; clear hm
 obtain ⟨hl3, hu3⟩ : inU32 ((([(⟨167772160, 24⟩ : Pfx), (⟨167772416, 24⟩ : Pfx), (⟨167772672, 25⟩ : Pfx), (⟨167772800, 26⟩ : Pfx), (⟨2886729728, 16⟩ : Pfx), (⟨3232237321, 32⟩ : Pfx)]).getD ((n).toNat) pfxE.dflt).addr) := id (((show LAt pfxE _ _ (some ⟨b9, 0, none⟩) ([(⟨167772160, 24⟩ : Pfx), (⟨167772416, 24⟩ : Pfx), (⟨167772672, 25⟩ : Pfx), (⟨167772800, 26⟩ : Pfx), (⟨2886729728, 16⟩ : Pfx), (⟨3232237321, 32⟩ : Pfx)]) from ((S.u 0 rfl)).1).wf (n).toNat (by first | omega | (simp only [List.length_cons, List.length_nil]; omega))).1)
 obtain ⟨hl4, hu4⟩ : inI64 ((([(⟨167772160, 24⟩ : Pfx), (⟨167772416, 24⟩ : Pfx), (⟨167772672, 25⟩ : Pfx), (⟨167772800, 26⟩ : Pfx), (⟨2886729728, 16⟩ : Pfx), (⟨3232237321, 32⟩ : Pfx)]).getD ((n).toNat) pfxE.dflt).bits) := id (((show LAt pfxE _ _ (some ⟨b9, 0, none⟩) ([(⟨167772160, 24⟩ : Pfx), (⟨167772416, 24⟩ : Pfx), (⟨167772672, 25⟩ : Pfx), (⟨167772800, 26⟩ : Pfx), (⟨2886729728, 16⟩ : Pfx), (⟨3232237321, 32⟩ : Pfx)]) from ((S.u 0 rfl)).1).wf (n).toNat (by first | omega | (simp only [List.length_cons, List.length_nil]; omega))).2)
 refine ens S (tr (idxi uT26 sZ68 rfl rfl (n).toNat (by omega) (by first | omega | (simp only [List.length_cons, List.length_nil]; omega)) ((show LAt pfxE _ _ (some ⟨b9, 0, none⟩) ([(⟨167772160, 24⟩ : Pfx), (⟨167772416, 24⟩ : Pfx), (⟨167772672, 25⟩ : Pfx), (⟨167772800, 26⟩ : Pfx), (⟨2886729728, 16⟩ : Pfx), (⟨3232237321, 32⟩ : Pfx)]) from ((S.u 0 rfl)).1).adr (i := (n).toNat) (by first | omega | (simp only [List.length_cons, List.length_nil]; omega))))<|tr (ov fun S=>x_ldw (S.e rfl) ((show LAt pfxE _ _ (some ⟨b9, 0, none⟩) ([(⟨167772160, 24⟩ : Pfx), (⟨167772416, 24⟩ : Pfx), (⟨167772672, 25⟩ : Pfx), (⟨167772800, 26⟩ : Pfx), (⟨2886729728, 16⟩ : Pfx), (⟨3232237321, 32⟩ : Pfx)]) from ((S.u 0 rfl)).1).wcell (n).toNat (by first | omega | (simp only [List.length_cons, List.length_nil]; omega)) _ rfl _ rfl) wD68)<|la (stkw 0 rfl rfl rfl)) ?_; clear S; intro a u S
 refine wp_ret ?_
 refine retcw rfl S.s rfl [.int .u32 ((([(⟨167772160, 24⟩ : Pfx), (⟨167772416, 24⟩ : Pfx), (⟨167772672, 25⟩ : Pfx), (⟨167772800, 26⟩ : Pfx), (⟨2886729728, 16⟩ : Pfx), (⟨3232237321, 32⟩ : Pfx)]).getD ((n).toNat) pfxE.dflt).addr), iI ((([(⟨167772160, 24⟩ : Pfx), (⟨167772416, 24⟩ : Pfx), (⟨167772672, 25⟩ : Pfx), (⟨167772800, 26⟩ : Pfx), (⟨2886729728, 16⟩ : Pfx), (⟨3232237321, 32⟩ : Pfx)]).getD ((n).toNat) pfxE.dflt).bits)] wD68 (fun j v hv => by rw [Nat.zero_add]; exact (S.k 0 rfl).cell hv) ?_
 replace S := S.pk []
 refine ⟨(([(⟨167772160, 24⟩ : Pfx), (⟨167772416, 24⟩ : Pfx), (⟨167772672, 25⟩ : Pfx), (⟨167772800, 26⟩ : Pfx), (⟨2886729728, 16⟩ : Pfx), (⟨3232237321, 32⟩ : Pfx)]).getD ((n).toNat) pfxE.dflt), rfl, ((show LAt pfxE _ _ (some ⟨b9, 0, none⟩) ([(⟨167772160, 24⟩ : Pfx), (⟨167772416, 24⟩ : Pfx), (⟨167772672, 25⟩ : Pfx), (⟨167772800, 26⟩ : Pfx), (⟨2886729728, 16⟩ : Pfx), (⟨3232237321, 32⟩ : Pfx)]) from ((S.u 0 rfl)).1).wf (n).toNat (by first | omega | (simp only [List.length_cons, List.length_nil]; omega))), ?_, S.m.c⟩
 rfl
set_option maxHeartbeats 2000000 in
set_option maxRecDepth 20000 in
theorem gFailure (w : World) (F : Nat → Prop) (hF : Old F w) (T : Nat) (M : MS [one T] w) (T_l : Sl Int) (T_w : (slE intE).wf (Fr F [one T]) w.heap T_l) (T_K : TpB 62 T T_l w) (t : Topo) (t_w : topoE.wf (Fr F [one T]) w.heap t) (hb : t.devs.xs.length ≤ 13 ∧ t.links.xs.length ≤ 25) :
 Calls Try.prog 25 #[pT T 0, .agg (topoE.cells t).toArray] w fun e w' => ∃ (r : Fail), e = .returned (.agg (failE.cells r).toArray) ∧ failE.wf (Fr F [one T]) w'.heap r ∧ failR t r ∧ TpB 62 T T_l w' ∧ Tr [one T] w [one T] w' := by
 have : t.devs.xs.length ≤ 9223372036854775807 := (t_w.1).1.len
 have : t.links.xs.length ≤ 9223372036854775807 := (t_w.2.1).1.len
 have : t.edges.xs.length ≤ 9223372036854775807 := (t_w.2.2.1).1.len
 have : t.pools.xs.length ≤ 9223372036854775807 := (t_w.2.2.2.1).1.len
 obtain ⟨_, _⟩ : inI64 t.tol := t_w.2.2.2.2
 refine go Try.func25 rfl 41 rfl [wfF (slE intE) T_l, wfF topoE t] [tpO 62 T T_l] hF M ⟨T_w, t_w, trivial⟩ ⟨T_K, trivial⟩ ?_
 intro a S
 refine rs0 ?_
 refine nbp S (x_box _ (S.e rfl) rfl) ?_; clear S; intro a u b3 S
 refine nbp S (x_allocz _ iZ41 rfl) ?_; clear S; intro a u b4 S
 refine ent (rs0 ?_)
 refine nbp S (x_allocz _ iZ41 rfl) ?_; clear S; intro a u b5 S
 refine ent (wp_seq ?_)
 refine rs S (la (av rfl)) ?_; clear S; intro a u S
 refine wp_block ?_
 replace S := S.nr intE 3
 refine lp4 (fun (k : Nat) (ls_a : Option Addr) (ls_c : Nat) (ls : List Int) => [(0, pT T 0), (3, pT b3 0), (4, pT b4 0), (5, pT b5 0), (6, iN k)]) (fun (k : Nat) (ls_a : Option Addr) (ls_c : Nat) (ls : List Int) => [tpO 62 T T_l, blO b3 (topoE.cells t) 28, blO b4 [.slice none 0 0, .slice none 0 0] 41, blO b5 [.slice ls_a ls.length ls_c, .slice none 0 0] 41, rwO intE 3 w.heap.size ls_a ls_c ls]) (fun (k : Nat) (ls_a : Option Addr) (ls_c : Nat) (ls : List Int) => k ≤ t.links.xs.length ∧ upTo k ls) (fun (k : Nat) (ls_a : Option Addr) (ls_c : Nat) (ls : List Int) => t.links.xs.length - k) S 0 none 0 ([]) (subM rfl) rfl ?_ ?_
 ·exact ⟨Nat.zero_le _, upTo_nil⟩
 clear S; intro k ls_a ls_c ls a u S hR
 have ls_len := (S.row 4 rfl).len_le; simp only [maxLen] at ls_len
 obtain ⟨hk, hu⟩ := hR
 have hul := upTo_len hu
 refine wp_seq ?_
 have hn5 : t.links.xs.length ≤ 9223372036854775807 := ((S.u 1 rfl).2.1).1.len
 refine rs S (tr (mv rfl)<|tr (fldi 0 1 rfl uT28)<|tr (ldk 1 sC24 rfl rfl rfl)<|tr (leni uT24 rfl)<|la (lssi rfl rfl)) ?_; clear S; intro a u S
 refine cd S rfl ?_ ?_
 ·intro hc0
  refine wp_skip (then_n (wp_seq (wp_block (rs0 ?_))))
  refine sp S (la (mv rfl)) ?_; clear S; intro a u S
  refine cl S (gNext _ _ S.x T (S.M.pick [0] (by decide)) T_l (dn1 (js := [0]) (S.u 0 rfl)) (S.t 0 rfl) 5 ⟨by omega, by omega⟩) cB23 ?_
  rintro e u ⟨r_t16, rfl, hr_t16, tK, T0⟩; refine ⟨_, rfl, fun a s => ?_⟩
  replace S := S.k1 0 rfl s T0 tK; clear s T0 tK
  refine ens S (la (eqli rfl rfl)) ?_; clear S; intro a u S
  refine cd S rfl ?_ ?_
  ·intro hc1
   refine r0 ?_
   refine sp S (tr (fldi 0 0 rfl uT41)<|tr (ldk 3 sC22 rfl rfl rfl)<|la (mv rfl)) ?_; clear S; intro a u S
   refine nbs intE S [((k : Nat) : Int)] (x_bs S [(0, iN k)] uT22 iZ3) (fun x hx => by simp only [List.mem_cons, List.not_mem_nil, or_false] at hx; rw [hx]; exact (show intE.wf _ _ ((k : Nat) : Int) from (show inI64 ((k : Nat) : Int) from ⟨by omega, by omega⟩))) ?_; clear S; intro a u b21 S
   refine ap (E := intE) (ys := [((k : Nat) : Int)]) S 4 rfl uT22 iZ3 rfl rfl (show LAt intE _ _ (some ⟨b21, 0, none⟩) ([((k : Nat) : Int)]) from ((S.u 2 rfl)).1) ((S.u 2 rfl)).2.2 (LAt.mem (show LAt intE _ _ (some ⟨b21, 0, none⟩) ([((k : Nat) : Int)]) from ((S.u 2 rfl)).1)) ⟨by unfold maxLen; (try simp only [List.length_cons, List.length_nil, List.length_append, List.length_map]); omega, by (try simp only [List.length_cons, List.length_nil, List.length_append, List.length_map]); omega⟩ ?_; clear S; intro a u ad22 cap22 S
   refine en S (tr (fldi 0 0 rfl uT41)<|la (stk 3 rfl rfl rfl)) ?_; clear S; intro a u S
   refine blk_n (then_n ?_)
   refine rg S (tr (mv rfl)<|tr (addi ((k + 1 : Nat) : Int) rfl rfl (w_i64 (by omega)))<|la (av rfl)) ?_; clear S; intro a u S
   refine then_n ?_
   refine ⟨(k + 1), ad22, cap22, (ls ++ [((k : Nat) : Int)]), S.re (subM rfl) rfl rfl, ?_, ?_⟩
   ·refine ⟨by omega, ?_⟩
    first | exact upTo_snoc hu | exact upTo_up hu
   omega
  intro hc2
  refine wp_skip (blk_n (then_n ?_))
  refine rg S (tr (mv rfl)<|tr (addi ((k + 1 : Nat) : Int) rfl rfl (w_i64 (by omega)))<|la (av rfl)) ?_; clear S; intro a u S
  refine then_n ?_
  refine ⟨(k + 1), ls_a, ls_c, ls, S.re (subM rfl) rfl rfl, ?_, ?_⟩
  ·refine ⟨by omega, ?_⟩
   first | exact upTo_snoc hu | exact upTo_up hu
  omega
 intro hc3
 refine wp_exit (then_e (then_e (blk_e (then_n (wp_seq ?_)))))
 refine rs S (la (av rfl)) ?_; clear S; intro a u S
 refine wp_block ?_
 replace S := S.nr intE 3
 refine lp4 (fun (k2 : Nat) (ds_a : Option Addr) (ds_c : Nat) (ds : List Int) => [(0, pT T 0), (3, pT b3 0), (4, pT b4 0), (5, pT b5 0), (7, iN k2)]) (fun (k2 : Nat) (ds_a : Option Addr) (ds_c : Nat) (ds : List Int) => [tpO 62 T T_l, blO b3 (topoE.cells t) 28, blO b4 [.slice none 0 0, .slice none 0 0] 41, blO b5 [.slice ls_a ls.length ls_c, .slice ds_a ds.length ds_c] 41, rwO intE 3 w.heap.size ls_a ls_c ls, rwO intE 3 w.heap.size ds_a ds_c ds]) (fun (k2 : Nat) (ds_a : Option Addr) (ds_c : Nat) (ds : List Int) => k2 ≤ t.devs.xs.length ∧ upTo k2 ds) (fun (k2 : Nat) (ds_a : Option Addr) (ds_c : Nat) (ds : List Int) => t.devs.xs.length - k2) S 0 none 0 ([]) (subM rfl) rfl ?_ ?_
 ·exact ⟨Nat.zero_le _, upTo_nil⟩
 clear S; intro k2 ds_a ds_c ds a u S hR
 have ds_len := (S.row 5 rfl).len_le; simp only [maxLen] at ds_len
 obtain ⟨hk2, hu2⟩ := hR
 have hul2 := upTo_len hu2
 refine wp_seq ?_
 have hn12 : t.devs.xs.length ≤ 9223372036854775807 := ((S.u 1 rfl).1).1.len
 refine rs S (tr (mv rfl)<|tr (fldi 0 0 rfl uT28)<|tr (ldk 1 sC23 rfl rfl rfl)<|tr (leni uT23 rfl)<|la (lssi rfl rfl)) ?_; clear S; intro a u S
 refine cd S rfl ?_ ?_
 ·intro hc4
  refine wp_skip (then_n (wp_seq (wp_block (rs0 ?_))))
  refine sp S (la (mv rfl)) ?_; clear S; intro a u S
  refine cl S (gNext _ _ S.x T (S.M.pick [0] (by decide)) T_l (dn1 (js := [0]) (S.u 0 rfl)) (S.t 0 rfl) 8 ⟨by omega, by omega⟩) cB23 ?_
  rintro e u ⟨r_t32, rfl, hr_t32, tK, T0⟩; refine ⟨_, rfl, fun a s => ?_⟩
  replace S := S.k1 0 rfl s T0 tK; clear s T0 tK
  refine ens S (la (eqli rfl rfl)) ?_; clear S; intro a u S
  refine cd S rfl ?_ ?_
  ·intro hc5
   refine r0 ?_
   refine sp S (tr (fldi 0 1 rfl uT41)<|tr (ldk 3 sC22 rfl rfl rfl)<|la (mv rfl)) ?_; clear S; intro a u S
   refine nbs intE S [((k2 : Nat) : Int)] (x_bs S [(0, iN k2)] uT22 iZ3) (fun x hx => by simp only [List.mem_cons, List.not_mem_nil, or_false] at hx; rw [hx]; exact (show intE.wf _ _ ((k2 : Nat) : Int) from (show inI64 ((k2 : Nat) : Int) from ⟨by omega, by omega⟩))) ?_; clear S; intro a u b37 S
   refine ap (E := intE) (ys := [((k2 : Nat) : Int)]) S 5 rfl uT22 iZ3 rfl rfl (show LAt intE _ _ (some ⟨b37, 0, none⟩) ([((k2 : Nat) : Int)]) from ((S.u 2 rfl)).1) ((S.u 2 rfl)).2.2 (LAt.mem (show LAt intE _ _ (some ⟨b37, 0, none⟩) ([((k2 : Nat) : Int)]) from ((S.u 2 rfl)).1)) ⟨by unfold maxLen; (try simp only [List.length_cons, List.length_nil, List.length_append, List.length_map]); omega, by (try simp only [List.length_cons, List.length_nil, List.length_append, List.length_map]); omega⟩ ?_; clear S; intro a u ad38 cap38 S
   refine en S (tr (fldi 0 1 rfl uT41)<|la (stk 3 rfl rfl rfl)) ?_; clear S; intro a u S
   refine blk_n (then_n ?_)
   refine rg S (tr (mv rfl)<|tr (addi ((k2 + 1 : Nat) : Int) rfl rfl (w_i64 (by omega)))<|la (av rfl)) ?_; clear S; intro a u S
   refine then_n ?_
   refine ⟨(k2 + 1), ad38, cap38, (ds ++ [((k2 : Nat) : Int)]), S.re (subM rfl) rfl rfl, ?_, ?_⟩
   ·refine ⟨by omega, ?_⟩
    first | exact upTo_snoc hu2 | exact upTo_up hu2
   omega
  intro hc6
  refine wp_skip (blk_n (then_n ?_))
  refine rg S (tr (mv rfl)<|tr (addi ((k2 + 1 : Nat) : Int) rfl rfl (w_i64 (by omega)))<|la (av rfl)) ?_; clear S; intro a u S
  refine then_n ?_
  refine ⟨(k2 + 1), ds_a, ds_c, ds, S.re (subM rfl) rfl rfl, ?_, ?_⟩
  ·refine ⟨by omega, ?_⟩
   first | exact upTo_snoc hu2 | exact upTo_up hu2
  omega
 intro hc7
 refine wp_exit (then_e (then_e (blk_e (then_n ?_))))
 refine rs S (tr (ldkw 3 rfl rfl wD41)<|la (stkw 2 rfl rfl rfl)) ?_; clear S; intro a u S
 refine wp_ret ?_
 replace S := S.fz 4 rfl
 replace S := S.fz 5 rfl
 refine retcw rfl S.s rfl [.slice ls_a ls.length ls_c, .slice ds_a ds.length ds_c] wD41 (fun j v hv => by rw [Nat.zero_add]; exact (S.k 2 rfl).cell hv) ?_
 replace S := S.pk [0] (os' := [tpO 62 T T_l])
 refine ⟨(⟨(Sl.mk ls_a ls_c ls), (Sl.mk ds_a ds_c ds)⟩ : Fail), rfl, ⟨(S.u 2 rfl), (S.u 3 rfl)⟩, ?_, (S.t 0 rfl), S.m.c⟩
 exact ⟨upTo_rising hu (by omega), upTo_rising hu2 (by omega)⟩
end Go.Proofs.Ytfanmniaolncbaa.V
