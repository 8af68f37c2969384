/- the generator: choices, records -/
import Derived.Test.YtobggnpnochnnaaL4
namespace Go.Proofs.Ytobggnpnochnnaa.V
open Go.RowKit Go.Proofs.Ytobggnpnochnnaa
set_option linter.unusedVariables false
set_option linter.unusedSimpArgs false
set_option maxHeartbeats 2000000 in
set_option maxRecDepth 20000 in
theorem gNew (w : World) (F : Nat → Prop) (hF : Old F w) (M : MS [] w) (l : Sl Int) (l_w : (slE intE).wf (Fr F []) w.heap l) :
 Calls Try.prog 19 #[sV l] w fun e w' => ∃ (rT : Nat), e = .returned (pT rT 0) ∧ TpB 112 rT l w' ∧ Tr [] w [one rT] w' := by
 have : l.xs.length ≤ 9223372036854775807 := (l_w).1.len
 refine go Try.func19 rfl 6 rfl [wfF (slE intE) l] [] hF M ⟨l_w, trivial⟩ trivial ?_
 intro a S
 have hD : ∀ k, In ([] : List BS) k → ¬ F k := fun _ h => h.elim
 refine rs S (la (av rfl)) ?_; clear S; intro a u S
 refine rs0 ?_
 refine sp S (tr (mv rfl)<|la (ov fun S=>x_bd S [(0, sV l)] [sV l, iI 0])) ?_; clear S; intro a u S
 refine nbp S (x_box _ (S.e rfl) rfl) ?_; clear S; intro a u b5 S
 refine ens S (la (av rfl)) ?_; clear S; intro a u S
 refine wp_ret ?_
 refine ret1 rfl S.s rfl ?_
 replace S := S.pk [0]
 exact ⟨_, rfl, ⟨0, Nat.zero_le _, (S.k 0 rfl)⟩, S.m.c⟩
set_option maxHeartbeats 2000000 in
set_option maxRecDepth 20000 in
theorem gMod (w : World) (F : Nat → Prop) (hF : Old F w) (M : MS [] w) (v : Int) (v_h : inI64 v) (n : Int) (n_h : inI64 n) (hn : 1 ≤ n) :
 Calls Try.prog 29 #[iI v, iI n] w fun e w' => e = .returned (iI (v % 18446744073709551616 % n)) ∧ Tr [] w [] w' := by
 obtain ⟨v_hl, v_hu⟩ : inI64 v := id v_h
 obtain ⟨n_hl, n_hu⟩ : inI64 n := id n_h
 have hu : IntKind.u64.wrap v = v % 18446744073709551616 := by simp [IntKind.wrap, IntKind.bits, IntKind.signed]
 have hw : 0 ≤ v % 18446744073709551616 ∧ v % 18446744073709551616 ≤ 18446744073709551615 := ⟨by omega, by omega⟩
 have hm1 : 0 ≤ v % 18446744073709551616 % n := Int.emod_nonneg _ (by omega)
 have hm2 : v % 18446744073709551616 % n < n := Int.emod_lt_of_pos _ (by omega)
 refine go Try.func29 rfl 11 rfl [] [] hF M trivial trivial ?_
 intro a S
 have hD : ∀ k, In ([] : List BS) k → ¬ F k := fun _ h => h.elim
 refine rs S (la (av rfl)) ?_; clear S; intro a u S
 refine rs S (tr (mv rfl)<|tr (ov fun S=>x_conv uT3 uT40 (S.e rfl) (r := (v % 18446744073709551616)) hu)<|tr (mv rfl)<|tr (ov fun S=>x_conv uT3 uT40 (S.e rfl) (r := n) (w_u64 (by omega)))<|tr (ov fun S=>x_rem (S.e rfl) (S.e rfl) (by omega) (r := ((v % 18446744073709551616) % n)) (by first | rfl | (rw [Int.tmod_eq_emod_of_nonneg (by omega)]) | (rw [Int.tmod_eq_emod_of_nonneg (by omega)]; omega)))<|tr (ov fun S=>x_conv uT40 uT3 (S.e rfl) (r := ((v % 18446744073709551616) % n)) (w_i64 (by omega)))<|la (av rfl)) ?_; clear S; intro a u S
 refine wp_ret ?_
 refine ret1 rfl S.s rfl ?_
 refine ⟨(r1 (vi ?_)), S.m.c⟩
 first | rfl | omega | assumption
set_option maxHeartbeats 2000000 in
set_option maxRecDepth 20000 in
theorem gNext (w : World) (F : Nat → Prop) (hF : Old F w) (T : Nat) (M : MS [one T] w) (T_l : Sl Int) (T_w : (slE intE).wf (Fr F [one T]) w.heap T_l) (T_K : TpB 112 T T_l w) (n : Int) (n_h : inI64 n) :
 Calls Try.prog 26 #[pT T 0, iI n] w fun e w' => ∃ (r : Int), e = .returned (iI r) ∧ (0 ≤ r ∧ (r < n ∨ r = 0)) ∧ TpB 112 T T_l w' ∧ Tr [one T] w [one T] w' := by
 obtain ⟨ti, hti, T_K⟩ := T_K
 have T_len : T_l.xs.length ≤ 9223372036854775807 := T_w.1.len
 obtain ⟨n_hl, n_hu⟩ : inI64 n := id n_h
 refine go Try.func26 rfl 39 rfl [wfF (slE intE) T_l] [blO T [sV T_l, iN ti] 112] hF M ⟨T_w, trivial⟩ ⟨T_K, trivial⟩ ?_
 intro a S
 refine rs S (la (av rfl)) ?_; clear S; intro a u S
 refine wp_seq (wp_seq ?_)
 refine dr (P := Try.prog) S 14 [] [(5, .is _), (6, .is _), (7, .is _), (8, .is _), (9, .is _), (10, .is _), (11, .is _), (12, .is _), (13, .is _), (14, .is _), (15, .is _), (16, .is _), (17, .is _), (18, .is _)] [[], [5], [6], [7], [7, 8], [7, 9], [7, 10], [7], [7, 12], [7, 13], [7, 14], [7, 15], [7, 11, 16], [7, 17]] [18] _ ⟨qd (mv rfl), qd (leqi rfl rfl), qd (mv rfl), qd (og 7 rfl gf fun S hg=>x_move (S.e rfl)), qd (og 7 rfl gf fun S hg=>x_nilck (S.p rfl hg)), qd (og 7 rfl gf fun S hg=>xf (0) 1 uT112 (S.p rfl hg)), qd (og 7 rfl gf fun S hg=>x_load sC3 (S.p rfl hg) ((S.k 0 rfl).cell (j := 1) rfl)), qd (og 7 rfl gf fun S hg=>x_move (S.e rfl)), qd (og 7 rfl gf fun S hg=>x_nilck (S.p rfl hg)), qd (og 7 rfl gf fun S hg=>xf (0) 0 uT112 (S.p rfl hg)), qd (og 7 rfl gf fun S hg=>x_load sC22 (S.p rfl hg) ((S.k 0 rfl).cell (j := 0) rfl)), qd (og 7 rfl gf fun S hg=>x_len uT22 (S.p rfl hg)), qd (og 7 rfl gf fun S hg=>x_geq (S.p rfl hg) (S.p rfl hg)), qd (ori rfl rfl rfl), trivial⟩ ?_
 clear S; intro a u S G hE
 obtain ⟨hl2, hu2⟩ : inI64 n := id n_h
 refine ent ?_
 refine cd S rfl ?_ ?_
 ·intro hc0
  refine rs S (la (av rfl)) ?_; clear S; intro a u S
  refine wp_ret (then_r ?_)
  refine ret1 rfl S.s rfl ?_
  refine ⟨0, rfl, ?_, ⟨_, (by omega), (S.k 0 rfl)⟩, S.m.c⟩
  exact ⟨Int.le_refl _, .inr rfl⟩
 intro hc1
 refine wp_skip (then_n ?_)
 refine rs S (tr (mv rfl)<|tr (ov fun S=>x_nilck (S.e rfl))<|tr (fldi 0 1 rfl uT112)<|tr (ldk 0 sC3 rfl rfl rfl)<|tr (addi ((ti + 1 : Nat) : Int) rfl rfl (w_i64 (by omega)))<|tr (ov fun S=>x_nilck (S.e rfl))<|tr (fldi 0 1 rfl uT112)<|la (stk 0 rfl rfl rfl)) ?_; clear S; intro a u S
 refine wp_seq ?_
 obtain ⟨hl5, hu5⟩ : inI64 (T_l.xs.getD (((((ti + 1 : Nat) : Int) - 1)).toNat) intE.dflt) := id (((S.u 0 rfl)).1.wf ((((ti + 1 : Nat) : Int) - 1)).toNat (by omega))
 replace S := S.l [(0, pT T 0), (1, iI n)] (subM rfl)
 refine dr (P := Try.prog) S 14 [] [(26, .is _), (27, .is _), (28, .is _), (29, .is _), (30, .is _), (31, .is _), (32, .is _), (33, .is _), (34, .is _), (35, .is _), (36, .is _), (37, .is _), (38, .is _), (4, .is _)] [[], [26], [27], [28], [], [30], [31], [32], [33], [29, 34], [35], [], [36, 37], [38]] [4] _ ⟨qd (mv rfl), qd (ov fun S=>x_nilck (S.e rfl)), qd (fldi 0 0 rfl uT112), qd (ldk 0 sC22 rfl rfl rfl), qd (mv rfl), qd (ov fun S=>x_nilck (S.e rfl)), qd (fldi 0 1 rfl uT112), qd (ldk 0 sC3 rfl rfl rfl), qd (subi (((ti + 1 : Nat) : Int) - 1) rfl rfl (w_i64 (by omega))), qd (idxi uT22 sZ3 rfl rfl ((((ti + 1 : Nat) : Int) - 1)).toNat (by omega) (by omega) (((S.u 0 rfl)).1.adr (i := ((((ti + 1 : Nat) : Int) - 1)).toNat) (by omega))), qd (ov fun S=>x_load sC3 (S.e rfl) (((S.u 0 rfl)).1.cell ((((ti + 1 : Nat) : Int) - 1)).toNat (by omega) 0 _ rfl)), qd (mv rfl), qd (oc (fun S=>gMod _ _ S.x (.nil _) (T_l.xs.getD (((((ti + 1 : Nat) : Int) - 1)).toNat) intE.dflt) (((S.u 0 rfl)).1.wf ((((ti + 1 : Nat) : Int) - 1)).toNat (by omega)) n n_h (by omega)) cB29), qd (av rfl), trivial⟩ ?_
 clear S; intro a u S G hE
 obtain ⟨hl6, hu6⟩ : inI64 (T_l.xs.getD (((((ti + 1 : Nat) : Int) - 1)).toNat) intE.dflt) := id (((S.u 0 rfl)).1.wf ((((ti + 1 : Nat) : Int) - 1)).toNat (by omega))
 refine ent (wp_ret ?_)
 refine ret1 rfl S.s rfl ?_
 refine ⟨((T_l.xs.getD (((((ti + 1 : Nat) : Int) - 1)).toNat) intE.dflt) % 18446744073709551616 % n), rfl, ?_, ⟨_, (by omega), (S.k 0 rfl)⟩, S.m.c⟩
 have h1 := Int.emod_nonneg (T_l.xs.getD (((ti + 1 : Nat) : Int) - 1).toNat intE.dflt % 18446744073709551616) (b := n) (by omega); have h2 := Int.emod_lt_of_pos (T_l.xs.getD (((ti + 1 : Nat) : Int) - 1).toNat intE.dflt % 18446744073709551616) (b := n) (by omega); exact ⟨h1, .inl h2⟩
set_option maxHeartbeats 2000000 in
set_option maxRecDepth 20000 in
theorem lRecord (w : World) (F : Nat → Prop) (hF : Old F w) (T : Nat) (M : MS [one T] w) (T_l : Sl Int) (T_w : (slE intE).wf (Fr F [one T]) w.heap T_l) (T_K : TpB 112 T T_l w) (n : Int) (n_h : inI64 n) :
 Calls Try.prog 20 #[pT T 0, iI n] w fun e w' => ∃ (r : Rec), e = .returned (.agg (recE.cells r).toArray) ∧ recE.wf (Fr F [one T]) w'.heap r ∧ TpB 112 T T_l w' ∧ Tr [one T] w [one T] w' := by
 obtain ⟨n_hl, n_hu⟩ : inI64 n := id n_h
 refine go Try.func20 rfl 66 rfl [wfF (slE intE) T_l] [tpO 112 T T_l] hF M ⟨T_w, trivial⟩ ⟨T_K, trivial⟩ ?_
 intro a S
 refine rs0 ?_
 refine nbp S (x_allocz _ iZ24 rfl) ?_; clear S; intro a u b4 S
 refine ent (rs0 ?_)
 refine nbs intE S [1, 1, 1, 2, 3, 4] (x_bs S [(0, iI 1), (1, iI 1), (2, iI 1), (3, iI 2), (4, iI 3), (5, iI 4)] uT22 iZ3) (fun x hx => by simp only [List.mem_cons, List.not_mem_nil, or_false] at hx; rcases hx with hx | hx | hx | hx | hx | hx <;> rw [hx] <;> first | exact (show intE.wf _ _ 1 from (show inI64 1 from ⟨by omega, by omega⟩)) | exact (show intE.wf _ _ 2 from (show inI64 2 from ⟨by omega, by omega⟩)) | exact (show intE.wf _ _ 3 from (show inI64 3 from ⟨by omega, by omega⟩)) | exact (show intE.wf _ _ 4 from (show inI64 4 from ⟨by omega, by omega⟩))) ?_; clear S; intro a u b6 S
 refine sp S (la (mv rfl)) ?_; clear S; intro a u S
 refine cl S (gNext _ _ S.x T (S.M.pick [0] (by decide)) T_l (dn1 (js := [0]) (S.u 0 rfl)) (S.t 0 rfl) 6 ⟨by omega, by omega⟩) cB26 ?_
 rintro e u ⟨r_t8, rfl, hr_t8, tK, T0⟩; refine ⟨_, rfl, fun a s => ?_⟩
 replace S := S.k1 0 rfl s T0 tK; clear s T0 tK
 obtain ⟨hl3, hu3⟩ : inI64 (([1, 1, 1, 2, 3, 4]).getD ((r_t8).toNat) intE.dflt) := id ((show LAt intE _ _ (some ⟨b6, 0, none⟩) ([1, 1, 1, 2, 3, 4]) from ((S.u 1 rfl)).1).wf (r_t8).toNat (by first | omega | (simp only [List.length_cons, List.length_nil]; omega)))
 refine sp S (tr (idxi uT22 sZ3 rfl rfl (r_t8).toNat (by omega) (by first | omega | (simp only [List.length_cons, List.length_nil]; omega)) ((show LAt intE _ _ (some ⟨b6, 0, none⟩) ([1, 1, 1, 2, 3, 4]) from ((S.u 1 rfl)).1).adr (i := (r_t8).toNat) (by first | omega | (simp only [List.length_cons, List.length_nil]; omega))))<|tr (ov fun S=>x_load sC3 (S.e rfl) ((show LAt intE _ _ (some ⟨b6, 0, none⟩) ([1, 1, 1, 2, 3, 4]) from ((S.u 1 rfl)).1).cell (r_t8).toNat (by first | omega | (simp only [List.length_cons, List.length_nil]; omega)) 0 _ rfl))<|la (ov fun S=>x_bd S [(0, iI (([1, 1, 1, 2, 3, 4]).getD ((r_t8).toNat) intE.dflt))] [iI (([1, 1, 1, 2, 3, 4]).getD ((r_t8).toNat) intE.dflt), iI 0, iI 0, iI 0])) ?_; clear S; intro a u S
 refine nbp S (x_allocz _ iZ24 rfl) ?_; clear S; intro a u b5 S
 refine ens S (la (stkw 2 rfl rfl rfl)) ?_; clear S; intro a u S
 refine wp_seq ?_
 refine rs S (tr (fldi 0 0 rfl uT24)<|la (ldk 2 sC3 rfl rfl rfl)) ?_; clear S; intro a u S
 refine wp_block ?_
 refine rs S (tr (eqli rfl rfl)<|la (av rfl)) ?_; clear S; intro a u S
 refine cd S rfl ?_ ?_
 ·intro hc0
  refine r0 ?_
  refine sp S (tr (mv rfl)<|la (mv rfl)) ?_; clear S; intro a u S
  refine cl S (gNext _ _ S.x T (S.M.pick [0] (by decide)) T_l (dn1 (js := [0]) (S.u 0 rfl)) (S.t 0 rfl) n n_h) cB26 ?_
  rintro e u ⟨r_t18, rfl, hr_t18, tK, T0⟩; refine ⟨_, rfl, fun a s => ?_⟩
  replace S := S.k1 0 rfl s T0 tK; clear s T0 tK
  refine sp S (la (mv rfl)) ?_; clear S; intro a u S
  refine cl S (gNext _ _ S.x T (S.M.pick [0] (by decide)) T_l (dn1 (js := [0]) (S.u 0 rfl)) (S.t 0 rfl) 2 ⟨by omega, by omega⟩) cB26 ?_
  rintro e u ⟨r_t20, rfl, hr_t20, tK, T0⟩; refine ⟨_, rfl, fun a s => ?_⟩
  replace S := S.k1 0 rfl s T0 tK; clear s T0 tK
  refine sp S (la (mv rfl)) ?_; clear S; intro a u S
  refine cl S (gNext _ _ S.x T (S.M.pick [0] (by decide)) T_l (dn1 (js := [0]) (S.u 0 rfl)) (S.t 0 rfl) 2 ⟨by omega, by omega⟩) cB26 ?_
  rintro e u ⟨r_t22, rfl, hr_t22, tK, T0⟩; refine ⟨_, rfl, fun a s => ?_⟩
  replace S := S.k1 0 rfl s T0 tK; clear s T0 tK
  have hmul : 0 ≤ r_t20 * r_t22 ∧ r_t20 * r_t22 ≤ 1 := by
   rcases (by omega : r_t20 = 0 ∨ r_t20 = 1) with h | h <;> rw [h] <;> omega
  refine sp S (tr (muli (r_t20 * r_t22) rfl rfl (w_i64 (by omega)))<|la (mv rfl)) ?_; clear S; intro a u S
  refine cl S (gNext _ _ S.x T (S.M.pick [0] (by decide)) T_l (dn1 (js := [0]) (S.u 0 rfl)) (S.t 0 rfl) 4 ⟨by omega, by omega⟩) cB26 ?_
  rintro e u ⟨r_t25, rfl, hr_t25, tK, T0⟩; refine ⟨_, rfl, fun a s => ?_⟩
  replace S := S.k1 0 rfl s T0 tK; clear s T0 tK
  refine en S (tr (addi (1 + r_t25) rfl rfl (w_i64 (by omega)))<|tr (fldi 0 1 rfl uT24)<|tr (stk 2 rfl rfl rfl)<|tr (fldi 0 2 rfl uT24)<|tr (stk 2 rfl rfl rfl)<|tr (fldi 0 3 rfl uT24)<|la (stk 2 rfl rfl rfl)) ?_; clear S; intro a u S
  refine blk_n (then_n (wp_seq (rs0 ?_)))
  refine sp S (la (mv rfl)) ?_; clear S; intro a u S
  refine cl S (gNext _ _ S.x T (S.M.pick [0] (by decide)) T_l (dn1 (js := [0]) (S.u 0 rfl)) (S.t 0 rfl) 14 ⟨by omega, by omega⟩) cB26 ?_
  rintro e u ⟨r_t46, rfl, hr_t46, tK, T0⟩; refine ⟨_, rfl, fun a s => ?_⟩
  replace S := S.k1 0 rfl s T0 tK; clear s T0 tK
  refine ent (wp_block ?_)
  refine rs S (tr (eqli rfl rfl)<|la (av rfl)) ?_; clear S; intro a u S
  refine cd S rfl ?_ ?_
  ·intro hc1
   refine r0 ?_
   refine sp S (la (mv rfl)) ?_; clear S; intro a u S
   refine cl S (gNext _ _ S.x T (S.M.pick [0] (by decide)) T_l (dn1 (js := [0]) (S.u 0 rfl)) (S.t 0 rfl) 16 ⟨by omega, by omega⟩) cB26 ?_
   rintro e u ⟨r_t50, rfl, hr_t50, tK, T0⟩; refine ⟨_, rfl, fun a s => ?_⟩
   replace S := S.k1 0 rfl s T0 tK; clear s T0 tK
   refine en S (tr (subi (r_t50 - 2) rfl rfl (w_i64 (by omega)))<|tr (fldi 0 1 rfl uT24)<|la (stk 2 rfl rfl rfl)) ?_; clear S; intro a u S
   refine blk_n (then_n ?_)
   refine rs S (tr (ldkw 2 rfl rfl wD24)<|la (stkw 1 rfl rfl rfl)) ?_; clear S; intro a u S
   refine wp_ret ?_
   refine retcw rfl S.s rfl [iI (([1, 1, 1, 2, 3, 4]).getD ((r_t8).toNat) intE.dflt), iI (r_t50 - 2), iI (r_t20 * r_t22), iI (1 + r_t25)] wD24 (fun j v hv => by rw [Nat.zero_add]; exact (S.k 1 rfl).cell hv) ?_
   replace S := S.pk [0] (os' := [tpO 112 T T_l])
   refine ⟨(⟨(([1, 1, 1, 2, 3, 4]).getD ((r_t8).toNat) intE.dflt), (r_t50 - 2), (r_t20 * r_t22), (1 + r_t25)⟩ : Rec), rfl, ⟨((show LAt intE _ _ (some ⟨b6, 0, none⟩) ([1, 1, 1, 2, 3, 4]) from ((S.u 1 rfl)).1).wf (r_t8).toNat (by first | omega | (simp only [List.length_cons, List.length_nil]; omega))), (show inI64 (r_t50 - 2) from ⟨by omega, by omega⟩), (show inI64 (r_t20 * r_t22) from ⟨by omega, by omega⟩), (show inI64 (1 + r_t25) from ⟨by omega, by omega⟩)⟩, (S.t 0 rfl), S.m.c⟩
  intro hc2
  refine rs S (tr (eqli rfl rfl)<|la (av rfl)) ?_; clear S; intro a u S
  refine cd S rfl ?_ ?_
  ·intro hc3
   refine r0 ?_
   refine sp S (la (mv rfl)) ?_; clear S; intro a u S
   refine cl S (gNext _ _ S.x T (S.M.pick [0] (by decide)) T_l (dn1 (js := [0]) (S.u 0 rfl)) (S.t 0 rfl) 8 ⟨by omega, by omega⟩) cB26 ?_
   rintro e u ⟨r_t56, rfl, hr_t56, tK, T0⟩; refine ⟨_, rfl, fun a s => ?_⟩
   replace S := S.k1 0 rfl s T0 tK; clear s T0 tK
   refine en S (tr (subi (r_t56 - 1) rfl rfl (w_i64 (by omega)))<|tr (fldi 0 0 rfl uT24)<|la (stk 2 rfl rfl rfl)) ?_; clear S; intro a u S
   refine blk_n (then_n ?_)
   refine rs S (tr (ldkw 2 rfl rfl wD24)<|la (stkw 1 rfl rfl rfl)) ?_; clear S; intro a u S
   refine wp_ret ?_
   refine retcw rfl S.s rfl [iI (r_t56 - 1), iI r_t18, iI (r_t20 * r_t22), iI (1 + r_t25)] wD24 (fun j v hv => by rw [Nat.zero_add]; exact (S.k 1 rfl).cell hv) ?_
   replace S := S.pk [0] (os' := [tpO 112 T T_l])
   refine ⟨(⟨(r_t56 - 1), r_t18, (r_t20 * r_t22), (1 + r_t25)⟩ : Rec), rfl, ⟨(show inI64 (r_t56 - 1) from ⟨by omega, by omega⟩), (show inI64 r_t18 from ⟨by omega, by omega⟩), (show inI64 (r_t20 * r_t22) from ⟨by omega, by omega⟩), (show inI64 (1 + r_t25) from ⟨by omega, by omega⟩)⟩, (S.t 0 rfl), S.m.c⟩
  intro hc4
  refine rs S (tr (eqli rfl rfl)<|la (av rfl)) ?_; clear S; intro a u S
  refine cd S rfl ?_ ?_
  ·intro hc5
   refine r0 ?_
   refine sp S (la (mv rfl)) ?_; clear S; intro a u S
   refine cl S (gNext _ _ S.x T (S.M.pick [0] (by decide)) T_l (dn1 (js := [0]) (S.u 0 rfl)) (S.t 0 rfl) 2 ⟨by omega, by omega⟩) cB26 ?_
   rintro e u ⟨r_t62, rfl, hr_t62, tK, T0⟩; refine ⟨_, rfl, fun a s => ?_⟩
   replace S := S.k1 0 rfl s T0 tK; clear s T0 tK
   refine en S (tr (subi (2147483648 - r_t62) rfl rfl (w_i64 (by omega)))<|tr (fldi 0 2 rfl uT24)<|la (stk 2 rfl rfl rfl)) ?_; clear S; intro a u S
   refine blk_n (then_n ?_)
   refine rs S (tr (ldkw 2 rfl rfl wD24)<|la (stkw 1 rfl rfl rfl)) ?_; clear S; intro a u S
   refine wp_ret ?_
   refine retcw rfl S.s rfl [iI (([1, 1, 1, 2, 3, 4]).getD ((r_t8).toNat) intE.dflt), iI r_t18, iI (2147483648 - r_t62), iI (1 + r_t25)] wD24 (fun j v hv => by rw [Nat.zero_add]; exact (S.k 1 rfl).cell hv) ?_
   replace S := S.pk [0] (os' := [tpO 112 T T_l])
   refine ⟨(⟨(([1, 1, 1, 2, 3, 4]).getD ((r_t8).toNat) intE.dflt), r_t18, (2147483648 - r_t62), (1 + r_t25)⟩ : Rec), rfl, ⟨((show LAt intE _ _ (some ⟨b6, 0, none⟩) ([1, 1, 1, 2, 3, 4]) from ((S.u 1 rfl)).1).wf (r_t8).toNat (by first | omega | (simp only [List.length_cons, List.length_nil]; omega))), (show inI64 r_t18 from ⟨by omega, by omega⟩), (show inI64 (2147483648 - r_t62) from ⟨by omega, by omega⟩), (show inI64 (1 + r_t25) from ⟨by omega, by omega⟩)⟩, (S.t 0 rfl), S.m.c⟩
  intro hc6
  refine wp_skip (blk_n (then_n ?_))
  refine rs S (tr (ldkw 2 rfl rfl wD24)<|la (stkw 1 rfl rfl rfl)) ?_; clear S; intro a u S
  refine wp_ret ?_
  refine retcw rfl S.s rfl [iI (([1, 1, 1, 2, 3, 4]).getD ((r_t8).toNat) intE.dflt), iI r_t18, iI (r_t20 * r_t22), iI (1 + r_t25)] wD24 (fun j v hv => by rw [Nat.zero_add]; exact (S.k 1 rfl).cell hv) ?_
  replace S := S.pk [0] (os' := [tpO 112 T T_l])
  refine ⟨(⟨(([1, 1, 1, 2, 3, 4]).getD ((r_t8).toNat) intE.dflt), r_t18, (r_t20 * r_t22), (1 + r_t25)⟩ : Rec), rfl, ⟨((show LAt intE _ _ (some ⟨b6, 0, none⟩) ([1, 1, 1, 2, 3, 4]) from ((S.u 1 rfl)).1).wf (r_t8).toNat (by first | omega | (simp only [List.length_cons, List.length_nil]; omega))), (show inI64 r_t18 from ⟨by omega, by omega⟩), (show inI64 (r_t20 * r_t22) from ⟨by omega, by omega⟩), (show inI64 (1 + r_t25) from ⟨by omega, by omega⟩)⟩, (S.t 0 rfl), S.m.c⟩
 intro hc7
 refine rs S (tr (eqli rfl rfl)<|la (av rfl)) ?_; clear S; intro a u S
 refine cd S rfl ?_ ?_
 ·intro hc8
  refine r0 ?_
  refine sp S (tr (mv rfl)<|la (mv rfl)) ?_; clear S; intro a u S
  refine cl S (gNext _ _ S.x T (S.M.pick [0] (by decide)) T_l (dn1 (js := [0]) (S.u 0 rfl)) (S.t 0 rfl) n n_h) cB26 ?_
  rintro e u ⟨r_t34, rfl, hr_t34, tK, T0⟩; refine ⟨_, rfl, fun a s => ?_⟩
  replace S := S.k1 0 rfl s T0 tK; clear s T0 tK
  refine sp S (la (mv rfl)) ?_; clear S; intro a u S
  refine cl S (gNext _ _ S.x T (S.M.pick [0] (by decide)) T_l (dn1 (js := [0]) (S.u 0 rfl)) (S.t 0 rfl) 3 ⟨by omega, by omega⟩) cB26 ?_
  rintro e u ⟨r_t36, rfl, hr_t36, tK, T0⟩; refine ⟨_, rfl, fun a s => ?_⟩
  replace S := S.k1 0 rfl s T0 tK; clear s T0 tK
  refine en S (tr (fldi 0 1 rfl uT24)<|tr (stk 2 rfl rfl rfl)<|tr (fldi 0 2 rfl uT24)<|la (stk 2 rfl rfl rfl)) ?_; clear S; intro a u S
  refine blk_n (then_n (wp_seq (rs0 ?_)))
  refine sp S (la (mv rfl)) ?_; clear S; intro a u S
  refine cl S (gNext _ _ S.x T (S.M.pick [0] (by decide)) T_l (dn1 (js := [0]) (S.u 0 rfl)) (S.t 0 rfl) 14 ⟨by omega, by omega⟩) cB26 ?_
  rintro e u ⟨r_t46, rfl, hr_t46, tK, T0⟩; refine ⟨_, rfl, fun a s => ?_⟩
  replace S := S.k1 0 rfl s T0 tK; clear s T0 tK
  refine ent (wp_block ?_)
  refine rs S (tr (eqli rfl rfl)<|la (av rfl)) ?_; clear S; intro a u S
  refine cd S rfl ?_ ?_
  ·intro hc9
   refine r0 ?_
   refine sp S (la (mv rfl)) ?_; clear S; intro a u S
   refine cl S (gNext _ _ S.x T (S.M.pick [0] (by decide)) T_l (dn1 (js := [0]) (S.u 0 rfl)) (S.t 0 rfl) 16 ⟨by omega, by omega⟩) cB26 ?_
   rintro e u ⟨r_t50, rfl, hr_t50, tK, T0⟩; refine ⟨_, rfl, fun a s => ?_⟩
   replace S := S.k1 0 rfl s T0 tK; clear s T0 tK
   refine en S (tr (subi (r_t50 - 2) rfl rfl (w_i64 (by omega)))<|tr (fldi 0 1 rfl uT24)<|la (stk 2 rfl rfl rfl)) ?_; clear S; intro a u S
   refine blk_n (then_n ?_)
   refine rs S (tr (ldkw 2 rfl rfl wD24)<|la (stkw 1 rfl rfl rfl)) ?_; clear S; intro a u S
   refine wp_ret ?_
   refine retcw rfl S.s rfl [iI (([1, 1, 1, 2, 3, 4]).getD ((r_t8).toNat) intE.dflt), iI (r_t50 - 2), iI r_t36, iI 0] wD24 (fun j v hv => by rw [Nat.zero_add]; exact (S.k 1 rfl).cell hv) ?_
   replace S := S.pk [0] (os' := [tpO 112 T T_l])
   refine ⟨(⟨(([1, 1, 1, 2, 3, 4]).getD ((r_t8).toNat) intE.dflt), (r_t50 - 2), r_t36, 0⟩ : Rec), rfl, ⟨((show LAt intE _ _ (some ⟨b6, 0, none⟩) ([1, 1, 1, 2, 3, 4]) from ((S.u 1 rfl)).1).wf (r_t8).toNat (by first | omega | (simp only [List.length_cons, List.length_nil]; omega))), (show inI64 (r_t50 - 2) from ⟨by omega, by omega⟩), (show inI64 r_t36 from ⟨by omega, by omega⟩), (show inI64 0 from ⟨by omega, by omega⟩)⟩, (S.t 0 rfl), S.m.c⟩
  intro hc10
  refine rs S (tr (eqli rfl rfl)<|la (av rfl)) ?_; clear S; intro a u S
  refine cd S rfl ?_ ?_
  ·intro hc11
   refine r0 ?_
   refine sp S (la (mv rfl)) ?_; clear S; intro a u S
   refine cl S (gNext _ _ S.x T (S.M.pick [0] (by decide)) T_l (dn1 (js := [0]) (S.u 0 rfl)) (S.t 0 rfl) 8 ⟨by omega, by omega⟩) cB26 ?_
   rintro e u ⟨r_t56, rfl, hr_t56, tK, T0⟩; refine ⟨_, rfl, fun a s => ?_⟩
   replace S := S.k1 0 rfl s T0 tK; clear s T0 tK
   refine en S (tr (subi (r_t56 - 1) rfl rfl (w_i64 (by omega)))<|tr (fldi 0 0 rfl uT24)<|la (stk 2 rfl rfl rfl)) ?_; clear S; intro a u S
   refine blk_n (then_n ?_)
   refine rs S (tr (ldkw 2 rfl rfl wD24)<|la (stkw 1 rfl rfl rfl)) ?_; clear S; intro a u S
   refine wp_ret ?_
   refine retcw rfl S.s rfl [iI (r_t56 - 1), iI r_t34, iI r_t36, iI 0] wD24 (fun j v hv => by rw [Nat.zero_add]; exact (S.k 1 rfl).cell hv) ?_
   replace S := S.pk [0] (os' := [tpO 112 T T_l])
   refine ⟨(⟨(r_t56 - 1), r_t34, r_t36, 0⟩ : Rec), rfl, ⟨(show inI64 (r_t56 - 1) from ⟨by omega, by omega⟩), (show inI64 r_t34 from ⟨by omega, by omega⟩), (show inI64 r_t36 from ⟨by omega, by omega⟩), (show inI64 0 from ⟨by omega, by omega⟩)⟩, (S.t 0 rfl), S.m.c⟩
  intro hc12
  refine rs S (tr (eqli rfl rfl)<|la (av rfl)) ?_; clear S; intro a u S
  refine cd S rfl ?_ ?_
  ·intro hc13
   refine r0 ?_
   refine sp S (la (mv rfl)) ?_; clear S; intro a u S
   refine cl S (gNext _ _ S.x T (S.M.pick [0] (by decide)) T_l (dn1 (js := [0]) (S.u 0 rfl)) (S.t 0 rfl) 2 ⟨by omega, by omega⟩) cB26 ?_
   rintro e u ⟨r_t62, rfl, hr_t62, tK, T0⟩; refine ⟨_, rfl, fun a s => ?_⟩
   replace S := S.k1 0 rfl s T0 tK; clear s T0 tK
   refine en S (tr (subi (2147483648 - r_t62) rfl rfl (w_i64 (by omega)))<|tr (fldi 0 2 rfl uT24)<|la (stk 2 rfl rfl rfl)) ?_; clear S; intro a u S
   refine blk_n (then_n ?_)
   refine rs S (tr (ldkw 2 rfl rfl wD24)<|la (stkw 1 rfl rfl rfl)) ?_; clear S; intro a u S
   refine wp_ret ?_
   refine retcw rfl S.s rfl [iI (([1, 1, 1, 2, 3, 4]).getD ((r_t8).toNat) intE.dflt), iI r_t34, iI (2147483648 - r_t62), iI 0] wD24 (fun j v hv => by rw [Nat.zero_add]; exact (S.k 1 rfl).cell hv) ?_
   replace S := S.pk [0] (os' := [tpO 112 T T_l])
   refine ⟨(⟨(([1, 1, 1, 2, 3, 4]).getD ((r_t8).toNat) intE.dflt), r_t34, (2147483648 - r_t62), 0⟩ : Rec), rfl, ⟨((show LAt intE _ _ (some ⟨b6, 0, none⟩) ([1, 1, 1, 2, 3, 4]) from ((S.u 1 rfl)).1).wf (r_t8).toNat (by first | omega | (simp only [List.length_cons, List.length_nil]; omega))), (show inI64 r_t34 from ⟨by omega, by omega⟩), (show inI64 (2147483648 - r_t62) from ⟨by omega, by omega⟩), (show inI64 0 from ⟨by omega, by omega⟩)⟩, (S.t 0 rfl), S.m.c⟩
  intro hc14
  refine wp_skip (blk_n (then_n ?_))
  refine rs S (tr (ldkw 2 rfl rfl wD24)<|la (stkw 1 rfl rfl rfl)) ?_; clear S; intro a u S
  refine wp_ret ?_
  refine retcw rfl S.s rfl [iI (([1, 1, 1, 2, 3, 4]).getD ((r_t8).toNat) intE.dflt), iI r_t34, iI r_t36, iI 0] wD24 (fun j v hv => by rw [Nat.zero_add]; exact (S.k 1 rfl).cell hv) ?_
  replace S := S.pk [0] (os' := [tpO 112 T T_l])
  refine ⟨(⟨(([1, 1, 1, 2, 3, 4]).getD ((r_t8).toNat) intE.dflt), r_t34, r_t36, 0⟩ : Rec), rfl, ⟨((show LAt intE _ _ (some ⟨b6, 0, none⟩) ([1, 1, 1, 2, 3, 4]) from ((S.u 1 rfl)).1).wf (r_t8).toNat (by first | omega | (simp only [List.length_cons, List.length_nil]; omega))), (show inI64 r_t34 from ⟨by omega, by omega⟩), (show inI64 r_t36 from ⟨by omega, by omega⟩), (show inI64 0 from ⟨by omega, by omega⟩)⟩, (S.t 0 rfl), S.m.c⟩
 intro hc15
 refine rs S (tr (eqli rfl rfl)<|la (av rfl)) ?_; clear S; intro a u S
 refine cd S rfl ?_ ?_
 ·intro hc16
  refine r0 ?_
  refine sp S (tr (mv rfl)<|la (mv rfl)) ?_; clear S; intro a u S
  refine cl S (gNext _ _ S.x T (S.M.pick [0] (by decide)) T_l (dn1 (js := [0]) (S.u 0 rfl)) (S.t 0 rfl) n n_h) cB26 ?_
  rintro e u ⟨r_t43, rfl, hr_t43, tK, T0⟩; refine ⟨_, rfl, fun a s => ?_⟩
  replace S := S.k1 0 rfl s T0 tK; clear s T0 tK
  refine en S (tr (fldi 0 1 rfl uT24)<|la (stk 2 rfl rfl rfl)) ?_; clear S; intro a u S
  refine blk_n (then_n (wp_seq (rs0 ?_)))
  refine sp S (la (mv rfl)) ?_; clear S; intro a u S
  refine cl S (gNext _ _ S.x T (S.M.pick [0] (by decide)) T_l (dn1 (js := [0]) (S.u 0 rfl)) (S.t 0 rfl) 14 ⟨by omega, by omega⟩) cB26 ?_
  rintro e u ⟨r_t46, rfl, hr_t46, tK, T0⟩; refine ⟨_, rfl, fun a s => ?_⟩
  replace S := S.k1 0 rfl s T0 tK; clear s T0 tK
  refine ent (wp_block ?_)
  refine rs S (tr (eqli rfl rfl)<|la (av rfl)) ?_; clear S; intro a u S
  refine cd S rfl ?_ ?_
  ·intro hc17
   refine r0 ?_
   refine sp S (la (mv rfl)) ?_; clear S; intro a u S
   refine cl S (gNext _ _ S.x T (S.M.pick [0] (by decide)) T_l (dn1 (js := [0]) (S.u 0 rfl)) (S.t 0 rfl) 16 ⟨by omega, by omega⟩) cB26 ?_
   rintro e u ⟨r_t50, rfl, hr_t50, tK, T0⟩; refine ⟨_, rfl, fun a s => ?_⟩
   replace S := S.k1 0 rfl s T0 tK; clear s T0 tK
   refine en S (tr (subi (r_t50 - 2) rfl rfl (w_i64 (by omega)))<|tr (fldi 0 1 rfl uT24)<|la (stk 2 rfl rfl rfl)) ?_; clear S; intro a u S
   refine blk_n (then_n ?_)
   refine rs S (tr (ldkw 2 rfl rfl wD24)<|la (stkw 1 rfl rfl rfl)) ?_; clear S; intro a u S
   refine wp_ret ?_
   refine retcw rfl S.s rfl [iI (([1, 1, 1, 2, 3, 4]).getD ((r_t8).toNat) intE.dflt), iI (r_t50 - 2), iI 0, iI 0] wD24 (fun j v hv => by rw [Nat.zero_add]; exact (S.k 1 rfl).cell hv) ?_
   replace S := S.pk [0] (os' := [tpO 112 T T_l])
   refine ⟨(⟨(([1, 1, 1, 2, 3, 4]).getD ((r_t8).toNat) intE.dflt), (r_t50 - 2), 0, 0⟩ : Rec), rfl, ⟨((show LAt intE _ _ (some ⟨b6, 0, none⟩) ([1, 1, 1, 2, 3, 4]) from ((S.u 1 rfl)).1).wf (r_t8).toNat (by first | omega | (simp only [List.length_cons, List.length_nil]; omega))), (show inI64 (r_t50 - 2) from ⟨by omega, by omega⟩), (show inI64 0 from ⟨by omega, by omega⟩), (show inI64 0 from ⟨by omega, by omega⟩)⟩, (S.t 0 rfl), S.m.c⟩
  intro hc18
  refine rs S (tr (eqli rfl rfl)<|la (av rfl)) ?_; clear S; intro a u S
  refine cd S rfl ?_ ?_
  ·intro hc19
   refine r0 ?_
   refine sp S (la (mv rfl)) ?_; clear S; intro a u S
   refine cl S (gNext _ _ S.x T (S.M.pick [0] (by decide)) T_l (dn1 (js := [0]) (S.u 0 rfl)) (S.t 0 rfl) 8 ⟨by omega, by omega⟩) cB26 ?_
   rintro e u ⟨r_t56, rfl, hr_t56, tK, T0⟩; refine ⟨_, rfl, fun a s => ?_⟩
   replace S := S.k1 0 rfl s T0 tK; clear s T0 tK
   refine en S (tr (subi (r_t56 - 1) rfl rfl (w_i64 (by omega)))<|tr (fldi 0 0 rfl uT24)<|la (stk 2 rfl rfl rfl)) ?_; clear S; intro a u S
   refine blk_n (then_n ?_)
   refine rs S (tr (ldkw 2 rfl rfl wD24)<|la (stkw 1 rfl rfl rfl)) ?_; clear S; intro a u S
   refine wp_ret ?_
   refine retcw rfl S.s rfl [iI (r_t56 - 1), iI r_t43, iI 0, iI 0] wD24 (fun j v hv => by rw [Nat.zero_add]; exact (S.k 1 rfl).cell hv) ?_
   replace S := S.pk [0] (os' := [tpO 112 T T_l])
   refine ⟨(⟨(r_t56 - 1), r_t43, 0, 0⟩ : Rec), rfl, ⟨(show inI64 (r_t56 - 1) from ⟨by omega, by omega⟩), (show inI64 r_t43 from ⟨by omega, by omega⟩), (show inI64 0 from ⟨by omega, by omega⟩), (show inI64 0 from ⟨by omega, by omega⟩)⟩, (S.t 0 rfl), S.m.c⟩
  intro hc20
  refine rs S (tr (eqli rfl rfl)<|la (av rfl)) ?_; clear S; intro a u S
  refine cd S rfl ?_ ?_
  ·intro hc21
   refine r0 ?_
   refine sp S (la (mv rfl)) ?_; clear S; intro a u S
   refine cl S (gNext _ _ S.x T (S.M.pick [0] (by decide)) T_l (dn1 (js := [0]) (S.u 0 rfl)) (S.t 0 rfl) 2 ⟨by omega, by omega⟩) cB26 ?_
   rintro e u ⟨r_t62, rfl, hr_t62, tK, T0⟩; refine ⟨_, rfl, fun a s => ?_⟩
   replace S := S.k1 0 rfl s T0 tK; clear s T0 tK
   refine en S (tr (subi (2147483648 - r_t62) rfl rfl (w_i64 (by omega)))<|tr (fldi 0 2 rfl uT24)<|la (stk 2 rfl rfl rfl)) ?_; clear S; intro a u S
   refine blk_n (then_n ?_)
   refine rs S (tr (ldkw 2 rfl rfl wD24)<|la (stkw 1 rfl rfl rfl)) ?_; clear S; intro a u S
   refine wp_ret ?_
   refine retcw rfl S.s rfl [iI (([1, 1, 1, 2, 3, 4]).getD ((r_t8).toNat) intE.dflt), iI r_t43, iI (2147483648 - r_t62), iI 0] wD24 (fun j v hv => by rw [Nat.zero_add]; exact (S.k 1 rfl).cell hv) ?_
   replace S := S.pk [0] (os' := [tpO 112 T T_l])
   refine ⟨(⟨(([1, 1, 1, 2, 3, 4]).getD ((r_t8).toNat) intE.dflt), r_t43, (2147483648 - r_t62), 0⟩ : Rec), rfl, ⟨((show LAt intE _ _ (some ⟨b6, 0, none⟩) ([1, 1, 1, 2, 3, 4]) from ((S.u 1 rfl)).1).wf (r_t8).toNat (by first | omega | (simp only [List.length_cons, List.length_nil]; omega))), (show inI64 r_t43 from ⟨by omega, by omega⟩), (show inI64 (2147483648 - r_t62) from ⟨by omega, by omega⟩), (show inI64 0 from ⟨by omega, by omega⟩)⟩, (S.t 0 rfl), S.m.c⟩
  intro hc22
  refine wp_skip (blk_n (then_n ?_))
  refine rs S (tr (ldkw 2 rfl rfl wD24)<|la (stkw 1 rfl rfl rfl)) ?_; clear S; intro a u S
  refine wp_ret ?_
  refine retcw rfl S.s rfl [iI (([1, 1, 1, 2, 3, 4]).getD ((r_t8).toNat) intE.dflt), iI r_t43, iI 0, iI 0] wD24 (fun j v hv => by rw [Nat.zero_add]; exact (S.k 1 rfl).cell hv) ?_
  replace S := S.pk [0] (os' := [tpO 112 T T_l])
  refine ⟨(⟨(([1, 1, 1, 2, 3, 4]).getD ((r_t8).toNat) intE.dflt), r_t43, 0, 0⟩ : Rec), rfl, ⟨((show LAt intE _ _ (some ⟨b6, 0, none⟩) ([1, 1, 1, 2, 3, 4]) from ((S.u 1 rfl)).1).wf (r_t8).toNat (by first | omega | (simp only [List.length_cons, List.length_nil]; omega))), (show inI64 r_t43 from ⟨by omega, by omega⟩), (show inI64 0 from ⟨by omega, by omega⟩), (show inI64 0 from ⟨by omega, by omega⟩)⟩, (S.t 0 rfl), S.m.c⟩
 intro hc23
 refine wp_skip (blk_n (then_n (wp_seq (rs0 ?_))))
 refine sp S (la (mv rfl)) ?_; clear S; intro a u S
 refine cl S (gNext _ _ S.x T (S.M.pick [0] (by decide)) T_l (dn1 (js := [0]) (S.u 0 rfl)) (S.t 0 rfl) 14 ⟨by omega, by omega⟩) cB26 ?_
 rintro e u ⟨r_t46, rfl, hr_t46, tK, T0⟩; refine ⟨_, rfl, fun a s => ?_⟩
 replace S := S.k1 0 rfl s T0 tK; clear s T0 tK
 refine ent (wp_block ?_)
 refine rs S (tr (eqli rfl rfl)<|la (av rfl)) ?_; clear S; intro a u S
 refine cd S rfl ?_ ?_
 ·intro hc24
  refine r0 ?_
  refine sp S (la (mv rfl)) ?_; clear S; intro a u S
  refine cl S (gNext _ _ S.x T (S.M.pick [0] (by decide)) T_l (dn1 (js := [0]) (S.u 0 rfl)) (S.t 0 rfl) 16 ⟨by omega, by omega⟩) cB26 ?_
  rintro e u ⟨r_t50, rfl, hr_t50, tK, T0⟩; refine ⟨_, rfl, fun a s => ?_⟩
  replace S := S.k1 0 rfl s T0 tK; clear s T0 tK
  refine en S (tr (subi (r_t50 - 2) rfl rfl (w_i64 (by omega)))<|tr (fldi 0 1 rfl uT24)<|la (stk 2 rfl rfl rfl)) ?_; clear S; intro a u S
  refine blk_n (then_n ?_)
  refine rs S (tr (ldkw 2 rfl rfl wD24)<|la (stkw 1 rfl rfl rfl)) ?_; clear S; intro a u S
  refine wp_ret ?_
  refine retcw rfl S.s rfl [iI (([1, 1, 1, 2, 3, 4]).getD ((r_t8).toNat) intE.dflt), iI (r_t50 - 2), iI 0, iI 0] wD24 (fun j v hv => by rw [Nat.zero_add]; exact (S.k 1 rfl).cell hv) ?_
  replace S := S.pk [0] (os' := [tpO 112 T T_l])
  refine ⟨(⟨(([1, 1, 1, 2, 3, 4]).getD ((r_t8).toNat) intE.dflt), (r_t50 - 2), 0, 0⟩ : Rec), rfl, ⟨((show LAt intE _ _ (some ⟨b6, 0, none⟩) ([1, 1, 1, 2, 3, 4]) from ((S.u 1 rfl)).1).wf (r_t8).toNat (by first | omega | (simp only [List.length_cons, List.length_nil]; omega))), (show inI64 (r_t50 - 2) from ⟨by omega, by omega⟩), (show inI64 0 from ⟨by omega, by omega⟩), (show inI64 0 from ⟨by omega, by omega⟩)⟩, (S.t 0 rfl), S.m.c⟩
 intro hc25
 refine rs S (tr (eqli rfl rfl)<|la (av rfl)) ?_; clear S; intro a u S
 refine cd S rfl ?_ ?_
 ·intro hc26
  refine r0 ?_
  refine sp S (la (mv rfl)) ?_; clear S; intro a u S
  refine cl S (gNext _ _ S.x T (S.M.pick [0] (by decide)) T_l (dn1 (js := [0]) (S.u 0 rfl)) (S.t 0 rfl) 8 ⟨by omega, by omega⟩) cB26 ?_
  rintro e u ⟨r_t56, rfl, hr_t56, tK, T0⟩; refine ⟨_, rfl, fun a s => ?_⟩
  replace S := S.k1 0 rfl s T0 tK; clear s T0 tK
  refine en S (tr (subi (r_t56 - 1) rfl rfl (w_i64 (by omega)))<|tr (fldi 0 0 rfl uT24)<|la (stk 2 rfl rfl rfl)) ?_; clear S; intro a u S
  refine blk_n (then_n ?_)
  refine rs S (tr (ldkw 2 rfl rfl wD24)<|la (stkw 1 rfl rfl rfl)) ?_; clear S; intro a u S
  refine wp_ret ?_
  refine retcw rfl S.s rfl [iI (r_t56 - 1), iI 0, iI 0, iI 0] wD24 (fun j v hv => by rw [Nat.zero_add]; exact (S.k 1 rfl).cell hv) ?_
  replace S := S.pk [0] (os' := [tpO 112 T T_l])
  refine ⟨(⟨(r_t56 - 1), 0, 0, 0⟩ : Rec), rfl, ⟨(show inI64 (r_t56 - 1) from ⟨by omega, by omega⟩), (show inI64 0 from ⟨by omega, by omega⟩), (show inI64 0 from ⟨by omega, by omega⟩), (show inI64 0 from ⟨by omega, by omega⟩)⟩, (S.t 0 rfl), S.m.c⟩
 intro hc27
 refine rs S (tr (eqli rfl rfl)<|la (av rfl)) ?_; clear S; intro a u S
 refine cd S rfl ?_ ?_
 ·intro hc28
  refine r0 ?_
  refine sp S (la (mv rfl)) ?_; clear S; intro a u S
  refine cl S (gNext _ _ S.x T (S.M.pick [0] (by decide)) T_l (dn1 (js := [0]) (S.u 0 rfl)) (S.t 0 rfl) 2 ⟨by omega, by omega⟩) cB26 ?_
  rintro e u ⟨r_t62, rfl, hr_t62, tK, T0⟩; refine ⟨_, rfl, fun a s => ?_⟩
  replace S := S.k1 0 rfl s T0 tK; clear s T0 tK
  refine en S (tr (subi (2147483648 - r_t62) rfl rfl (w_i64 (by omega)))<|tr (fldi 0 2 rfl uT24)<|la (stk 2 rfl rfl rfl)) ?_; clear S; intro a u S
  refine blk_n (then_n ?_)
  refine rs S (tr (ldkw 2 rfl rfl wD24)<|la (stkw 1 rfl rfl rfl)) ?_; clear S; intro a u S
  refine wp_ret ?_
  refine retcw rfl S.s rfl [iI (([1, 1, 1, 2, 3, 4]).getD ((r_t8).toNat) intE.dflt), iI 0, iI (2147483648 - r_t62), iI 0] wD24 (fun j v hv => by rw [Nat.zero_add]; exact (S.k 1 rfl).cell hv) ?_
  replace S := S.pk [0] (os' := [tpO 112 T T_l])
  refine ⟨(⟨(([1, 1, 1, 2, 3, 4]).getD ((r_t8).toNat) intE.dflt), 0, (2147483648 - r_t62), 0⟩ : Rec), rfl, ⟨((show LAt intE _ _ (some ⟨b6, 0, none⟩) ([1, 1, 1, 2, 3, 4]) from ((S.u 1 rfl)).1).wf (r_t8).toNat (by first | omega | (simp only [List.length_cons, List.length_nil]; omega))), (show inI64 0 from ⟨by omega, by omega⟩), (show inI64 (2147483648 - r_t62) from ⟨by omega, by omega⟩), (show inI64 0 from ⟨by omega, by omega⟩)⟩, (S.t 0 rfl), S.m.c⟩
 intro hc29
 refine wp_skip (blk_n (then_n ?_))
 refine rs S (tr (ldkw 2 rfl rfl wD24)<|la (stkw 1 rfl rfl rfl)) ?_; clear S; intro a u S
 refine wp_ret ?_
 refine retcw rfl S.s rfl [iI (([1, 1, 1, 2, 3, 4]).getD ((r_t8).toNat) intE.dflt), iI 0, iI 0, iI 0] wD24 (fun j v hv => by rw [Nat.zero_add]; exact (S.k 1 rfl).cell hv) ?_
 replace S := S.pk [0] (os' := [tpO 112 T T_l])
 refine ⟨(⟨(([1, 1, 1, 2, 3, 4]).getD ((r_t8).toNat) intE.dflt), 0, 0, 0⟩ : Rec), rfl, ⟨((show LAt intE _ _ (some ⟨b6, 0, none⟩) ([1, 1, 1, 2, 3, 4]) from ((S.u 1 rfl)).1).wf (r_t8).toNat (by first | omega | (simp only [List.length_cons, List.length_nil]; omega))), (show inI64 0 from ⟨by omega, by omega⟩), (show inI64 0 from ⟨by omega, by omega⟩), (show inI64 0 from ⟨by omega, by omega⟩)⟩, (S.t 0 rfl), S.m.c⟩
end Go.Proofs.Ytobggnpnochnnaa.V
