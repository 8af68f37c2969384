/- the generator: addresses, prefixes -/
import Derived.Test.YtfanmniaolncbaaW13
import Derived.Test.YtfanmniaolncbaaTD2
namespace Go.Proofs.Ytfanmniaolncbaa.V
open Go.RowKit Go.Proofs.Ytfanmniaolncbaa
set_option linter.unusedVariables false
set_option linter.unusedSimpArgs false
theorem getD_ok {l : List Int} {P : Int → Prop} (h : ∀ x ∈ l, P x) (h0 : P 0) (n : Nat) : P (l.getD n intE.dflt) := by
 rw [List.getD_eq_getElem?_getD]
 cases hc : l[n]? with
 | none => exact h0
 | some x => exact h x (List.mem_of_getElem? hc)
set_option maxHeartbeats 2000000 in
set_option maxRecDepth 20000 in
theorem r1Size (w : World) (F : Nat → Prop) (hF : Old F w) (M : MS [] w) (n : Int) (n_h : inI64 n) (hb : 0 ≤ n ∧ n ≤ 32) :
 Calls Try.prog 110 #[iI n] w fun e w' => ∃ (r : Int), e = .returned (.int .u64 r) ∧ (0 ≤ r ∧ r ≤ 18446744073709551615) ∧ Tr [] w [] w' := by
 obtain ⟨n_hl, n_hu⟩ : inI64 n := id n_h
 refine go Try.func110 rfl 7 rfl [] [] hF M trivial trivial ?_
 intro a S
 refine rs S (la (av rfl)) ?_; clear S; intro a u S
 refine rs S (tr (mv rfl)<|tr (subi (32 - n) rfl rfl (w_i64 (by omega)))<|tr (ov fun S=>x_conv uT3 uT78 (S.e rfl) (r := (32 - n)) (w_u64 (by omega)))<|tr (ov fun S=>x_shl (S.e rfl) (S.e rfl) (by omega))<|la (av rfl)) ?_; clear S; intro a u S
 refine wp_ret ?_
 refine ret1 rfl S.s rfl ?_
 refine ⟨(sHl .u64 1 (32 - n)), rfl, ?_, S.m.c⟩
 exact wu64 _
set_option maxHeartbeats 2000000 in
set_option maxRecDepth 20000 in
theorem r1Of (w : World) (F : Nat → Prop) (hF : Old F w) (M : MS [] w) (p : Pfx) (p_w : pfxE.wf (Fr F []) w.heap p) :
 Calls Try.prog 98 #[.agg (pfxE.cells p).toArray] w fun e w' => ∃ (r0 : Rng), e = .returned (.tuple #[.agg (rngE.cells r0).toArray, bD (pfxV p)]) ∧ rngE.wf (Fr F []) w'.heap r0 ∧ Tr [] w [] w' := by
 obtain ⟨_, _⟩ : inU32 p.addr := p_w.1
 obtain ⟨_, _⟩ : inI64 p.bits := p_w.2
 refine go Try.func98 rfl 20 rfl [wfF pfxE p] [] hF M ⟨p_w, trivial⟩ trivial ?_
 intro a S
 refine rs0 ?_
 refine nbp S (x_box _ (S.e rfl) rfl) ?_; clear S; intro a u b1 S
 refine nbp S (x_allocz _ iZ116 rfl) ?_; clear S; intro a u b2 S
 refine ens S (la (av rfl)) ?_; clear S; intro a u S
 refine wp_seq ?_
 refine rs S (tr (ldkw 0 rfl rfl wD68)<|tr (oc (fun S=>rValid _ _ S.x (.nil _) p (dn0 (S.u 0 rfl))) cB91)<|la (noti rfl)) ?_; clear S; intro a u S
 refine cd S rfl ?_ ?_
 ·intro hc0
  refine rs S (tr (ov fun S=>x_bd S [] [.int .u32 0, .int .u32 0])<|tr (stkw 1 rfl rfl rfl)<|la (av rfl)) ?_; clear S; intro a u S
  refine wp_ret (then_r ?_)
  refine retcw2 rfl S.s rfl rfl (S.k 1 rfl).all wD116 ?_
  replace S := S.pk []
  refine ⟨(⟨0, 0⟩ : Rng), (r2 rfl (vf ?_)), ⟨(show inU32 0 from ⟨by omega, by omega⟩), (show inU32 0 from ⟨by omega, by omega⟩)⟩, S.m.c⟩
  exact hc0
 intro hc1
 have hv := Classical.not_not.1 hc1
 obtain ⟨hv1, hv2, -⟩ := (valB_iff _ _).1 (show valB p.addr p.bits = true from hv)
 refine wp_skip (then_n (wp_seq ?_))
 refine dr (P := Try.prog) S 12 [] [(8, .is _), (9, .is _), (10, .is _), (11, .is _), (12, .is _), (13, .is _), (14, .is _), (15, .of (fun z w => ∃ (x15a : Int), z = .int .u64 x15a ∧ (0 ≤ x15a ∧ x15a ≤ 18446744073709551615)) (fun v w w' c h => let ⟨x15a, hv, h0⟩ := h; ⟨x15a, hv, h0⟩)), (16, .of (fun z w => ∃ (x15a : Int), z = .int .u64 (IntKind.u64.wrap (p.addr + x15a)) ∧ (0 ≤ x15a ∧ x15a ≤ 18446744073709551615)) (fun v w w' c h => let ⟨x15a, hv, h0⟩ := h; ⟨x15a, hv, h0⟩)), (17, .of (fun z w => ∃ (x15a : Int), z = .int .u64 (IntKind.u64.wrap (IntKind.u64.wrap (p.addr + x15a) - 1)) ∧ (0 ≤ x15a ∧ x15a ≤ 18446744073709551615)) (fun v w w' c h => let ⟨x15a, hv, h0⟩ := h; ⟨x15a, hv, h0⟩)), (18, .of (fun z w => ∃ (x15a : Int), z = .int .u32 (IntKind.u32.wrap (IntKind.u64.wrap (IntKind.u64.wrap (p.addr + x15a) - 1))) ∧ (0 ≤ x15a ∧ x15a ≤ 18446744073709551615)) (fun v w w' c h => let ⟨x15a, hv, h0⟩ := h; ⟨x15a, hv, h0⟩)), (19, .of (fun z w => ∃ (x15a : Int), z = .agg #[.int .u32 p.addr, .int .u32 (IntKind.u32.wrap (IntKind.u64.wrap (IntKind.u64.wrap (p.addr + x15a) - 1)))] ∧ (0 ≤ x15a ∧ x15a ≤ 18446744073709551615)) (fun v w w' c h => let ⟨x15a, hv, h0⟩ := h; ⟨x15a, hv, h0⟩))] [[], [8], [], [10], [11], [], [13], [14], [12, 15], [16], [17], [9, 18]] [19] _ ⟨qd (fldi 0 0 rfl uT68), qd (ldk 0 sC66 rfl rfl rfl), qd (fldi 0 0 rfl uT68), qd (ldk 0 sC66 rfl rfl rfl), qd (ov fun S=>x_conv uT66 uT125 (S.e rfl) (r := p.addr) (w_u64 (by omega))), qd (fldi 0 1 rfl uT68), qd (ldk 0 sC3 rfl rfl rfl), ?_, ?_, ?_, ?_, ?_, trivial⟩ ?_
 ·skip
  intro a u S G hE
  refine hcl S (r1Size _ _ S.x (.nil _) p.bits (S.u 0 rfl).2 (by omega)) cB110 ?_
  rintro e w2 ⟨r_h15, rfl, hr_h15, T0⟩; refine ⟨_, rfl, (show ∃ _, _ from ?_), T0.ch, (S.k0 S.s T0).m⟩
  exact ⟨r_h15, rfl, hr_h15⟩
 ·skip
  intro a u S G hE
  obtain ⟨e15, -⟩ := hE
  have M0 := S.m
  obtain ⟨x15_4, e15, hr4⟩ := e15
  replace S := S.ext e15
  exact hvl 16 S M0 (v := .int .u64 (IntKind.u64.wrap (p.addr + x15_4))) (x_add (S.e rfl) (S.e rfl) rfl) (show ∃ _, _ from ⟨x15_4, rfl, hr4⟩)
 ·skip
  intro a u S G hE
  obtain ⟨e16, -⟩ := hE
  have M0 := S.m
  obtain ⟨x15_5, e16, hr5⟩ := e16
  replace S := S.ext e16
  exact hvl 17 S M0 (v := .int .u64 (IntKind.u64.wrap (IntKind.u64.wrap (p.addr + x15_5) - 1))) (x_sub (S.e rfl) (S.e rfl) rfl) (show ∃ _, _ from ⟨x15_5, rfl, hr5⟩)
 ·skip
  intro a u S G hE
  obtain ⟨e17, -⟩ := hE
  have M0 := S.m
  obtain ⟨x15_6, e17, hr6⟩ := e17
  replace S := S.ext e17
  exact hvl 18 S M0 (v := .int .u32 (IntKind.u32.wrap (IntKind.u64.wrap (IntKind.u64.wrap (p.addr + x15_6) - 1)))) (x_conv uT125 uT66 (S.e rfl) (r := (IntKind.u32.wrap (IntKind.u64.wrap (IntKind.u64.wrap (p.addr + x15_6) - 1)))) rfl) (show ∃ _, _ from ⟨x15_6, rfl, hr6⟩)
 ·skip
  intro a u S G hE
  obtain ⟨e18, -⟩ := hE
  have M0 := S.m
  obtain ⟨x15_7, e18, hr7⟩ := e18
  replace S := S.ext e18
  exact hvl 19 S M0 (v := .agg #[.int .u32 p.addr, .int .u32 (IntKind.u32.wrap (IntKind.u64.wrap (IntKind.u64.wrap (p.addr + x15_7) - 1)))]) (x_bd S [(0, .int .u32 p.addr), (1, .int .u32 (IntKind.u32.wrap (IntKind.u64.wrap (IntKind.u64.wrap (p.addr + x15_7) - 1))))] [.int .u32 p.addr, .int .u32 (IntKind.u32.wrap (IntKind.u64.wrap (IntKind.u64.wrap (p.addr + x15_7) - 1)))]) (show ∃ _, _ from ⟨x15_7, rfl, hr7⟩)
 clear S; intro a u S G hE
 obtain ⟨e19, -⟩ := hE
 obtain ⟨x15_8, e19, hr8⟩ := e19
 replace S := S.ext e19
 clear e19
 obtain ⟨hl9, hu9⟩ : inU32 p.addr := id ((S.u 0 rfl).1)
 obtain ⟨hl10, hu10⟩ : inU32 (IntKind.u32.wrap (IntKind.u64.wrap (IntKind.u64.wrap (p.addr + x15_8) - 1))) := id (wu32 _)
 obtain ⟨hl11, hu11⟩ : inI64 p.bits := id ((S.u 0 rfl).2)
 refine ens S (tr (stkw 1 rfl rfl rfl)<|la (av rfl)) ?_; clear S; intro a u S
 refine wp_ret ?_
 refine retcw2 rfl S.s rfl rfl (S.k 1 rfl).all wD116 ?_
 replace S := S.pk []
 refine ⟨(⟨p.addr, (IntKind.u32.wrap (IntKind.u64.wrap (IntKind.u64.wrap (p.addr + x15_8) - 1)))⟩ : Rng), (r2 rfl (vt ?_)), ⟨(S.u 0 rfl).1, (wu32 _)⟩, S.m.c⟩
 exact hv
set_option maxHeartbeats 2000000 in
set_option maxRecDepth 20000 in
theorem gAddr (w : World) (F : Nat → Prop) (hF : Old F w) (T : Nat) (M : MS [one T] w) (T_l : Sl Int) (T_w : (slE intE).wf (Fr F [one T]) w.heap T_l) (T_K : TpB 62 T T_l w) :
 Calls Try.prog 77 #[pT T 0] w fun e w' => ∃ (r : Int), e = .returned (.int .u32 r) ∧ (0 ≤ r ∧ r ≤ 4294967295) ∧ TpB 62 T T_l w' ∧ Tr [one T] w [one T] w' := by
 refine go Try.func77 rfl 40 rfl [wfF (slE intE) T_l] [tpO 62 T T_l] hF M ⟨T_w, trivial⟩ ⟨T_K, trivial⟩ ?_
 intro a S
 refine rs S (la (av rfl)) ?_; clear S; intro a u S
 refine wp_seq (rs0 ?_)
 refine sp S (la (mv rfl)) ?_; clear S; intro a u S
 refine cl S (gNext _ _ S.x T (S.M.pick [0] (by decide)) T_l (dn1 (js := [0]) (S.u 0 rfl)) (S.t 0 rfl) 5 ⟨by omega, by omega⟩) cB23 ?_
 rintro e u ⟨r_t7, rfl, hr_t7, tK, T0⟩; refine ⟨_, rfl, fun a s => ?_⟩
 replace S := S.k1 0 rfl s T0 tK; clear s T0 tK
 refine ens S (la (eqli rfl rfl)) ?_; clear S; intro a u S
 refine cd S rfl ?_ ?_
 ·intro hc0
  refine rs0 ?_
  refine nbs u32E S [0, 4294967295, 3405803781, 3325256705, 168296448, 2130706433] (x_bs S [(0, .int .u32 0), (1, .int .u32 4294967295), (2, .int .u32 3405803781), (3, .int .u32 3325256705), (4, .int .u32 168296448), (5, .int .u32 2130706433)] uT114 iZ66) (fun x hx => by simp only [List.mem_cons, List.not_mem_nil, or_false] at hx; rcases hx with hx | hx | hx | hx | hx | hx <;> rw [hx] <;> first | exact (show u32E.wf _ _ 0 from (show inU32 0 from ⟨by omega, by omega⟩)) | exact (show u32E.wf _ _ 4294967295 from (show inU32 4294967295 from ⟨by omega, by omega⟩)) | exact (show u32E.wf _ _ 3405803781 from (show inU32 3405803781 from ⟨by omega, by omega⟩)) | exact (show u32E.wf _ _ 3325256705 from (show inU32 3325256705 from ⟨by omega, by omega⟩)) | exact (show u32E.wf _ _ 168296448 from (show inU32 168296448 from ⟨by omega, by omega⟩)) | exact (show u32E.wf _ _ 2130706433 from (show inU32 2130706433 from ⟨by omega, by omega⟩))) ?_; clear S; intro a u b9 S
  refine sp S (la (mv rfl)) ?_; clear S; intro a u S
  refine cl S (gNext _ _ S.x T (S.M.pick [0] (by decide)) T_l (dn1 (js := [0]) (S.u 0 rfl)) (S.t 0 rfl) 6 ⟨by omega, by omega⟩) cB23 ?_
  rintro e u ⟨r_t11, rfl, hr_t11, tK, T0⟩; refine ⟨_, rfl, fun a s => ?_⟩
  replace S := S.k1 0 rfl s T0 tK; clear s T0 tK
  obtain ⟨hl4, hu4⟩ : inU32 (([0, 4294967295, 3405803781, 3325256705, 168296448, 2130706433]).getD ((r_t11).toNat) u32E.dflt) := id ((show LAt u32E _ _ (some ⟨b9, 0, none⟩) ([0, 4294967295, 3405803781, 3325256705, 168296448, 2130706433]) from ((S.u 1 rfl)).1).wf (r_t11).toNat (by first | omega | (simp only [List.length_cons, List.length_nil]; omega)))
  refine ens S (tr (idxi uT114 sZ66 rfl rfl (r_t11).toNat (by omega) (by first | omega | (simp only [List.length_cons, List.length_nil]; omega)) ((show LAt u32E _ _ (some ⟨b9, 0, none⟩) ([0, 4294967295, 3405803781, 3325256705, 168296448, 2130706433]) from ((S.u 1 rfl)).1).adr (i := (r_t11).toNat) (by first | omega | (simp only [List.length_cons, List.length_nil]; omega))))<|tr (ov fun S=>x_load sC66 (S.e rfl) ((show LAt u32E _ _ (some ⟨b9, 0, none⟩) ([0, 4294967295, 3405803781, 3325256705, 168296448, 2130706433]) from ((S.u 1 rfl)).1).cell (r_t11).toNat (by first | omega | (simp only [List.length_cons, List.length_nil]; omega)) 0 _ rfl))<|la (av rfl)) ?_; clear S; intro a u S
  refine wp_ret (then_r ?_)
  refine ret1 rfl S.s rfl ?_
  refine ⟨(([0, 4294967295, 3405803781, 3325256705, 168296448, 2130706433]).getD ((r_t11).toNat) u32E.dflt), rfl, ?_, (S.t 0 rfl), S.m.c⟩
  first | assumption | omega
 intro hc1
 refine wp_skip (then_n (rs0 ?_))
 refine sp S (la (mv rfl)) ?_; clear S; intro a u S
 refine cl S (gNext _ _ S.x T (S.M.pick [0] (by decide)) T_l (dn1 (js := [0]) (S.u 0 rfl)) (S.t 0 rfl) 6 ⟨by omega, by omega⟩) cB23 ?_
 rintro e u ⟨r_t15, rfl, hr_t15, tK, T0⟩; refine ⟨_, rfl, fun a s => ?_⟩
 replace S := S.k1 0 rfl s T0 tK; clear s T0 tK
 refine cl S (gSubnet _ _ S.x (.nil _) r_t15 ⟨by omega, by omega⟩ (by omega)) cB46 ?_
 rintro e u ⟨r_t16, rfl, R_t16, hr_t16, T0⟩; refine ⟨_, rfl, fun a s => ?_⟩
 replace S := (S.k0 s T0).ar (wfF pfxE r_t16) (Enc.up _ R_t16); clear s T0 R_t16
 obtain ⟨hl6, hu6⟩ : inU32 r_t16.addr := id ((S.u 1 rfl).1)
 obtain ⟨hl7, hu7⟩ : inI64 r_t16.bits := id ((S.u 1 rfl).2)
 refine nbp S (x_allocz _ iZ68 rfl) ?_; clear S; intro a u b3 S
 refine ens S (la (stkw 1 rfl rfl rfl)) ?_; clear S; intro a u S
 refine rs0 ?_
 refine sp S (la (ldkw 1 rfl rfl wD68)) ?_; clear S; intro a u S
 refine cl S (r1Of _ _ S.x (.nil _) r_t16 (dn0 (S.u 1 rfl))) cB98 ?_
 rintro e u ⟨r_t190, rfl, R_t190, T0⟩; refine ⟨_, rfl, fun a s => ?_⟩
 replace S := (S.k0 s T0).ar (wfF rngE r_t190) (Enc.up _ R_t190); clear s T0 R_t190
 obtain ⟨hl9, hu9⟩ : inU32 r_t190.lo := id ((S.u 2 rfl).1)
 obtain ⟨hl10, hu10⟩ : inU32 r_t190.hi := id ((S.u 2 rfl).2)
 refine sp S (tr (mv rfl)<|tr (exi rfl rfl)<|la (exi rfl rfl)) ?_; clear S; intro a u S
 refine nbp S (x_allocz _ iZ116 rfl) ?_; clear S; intro a u b4 S
 refine ens S (tr (stkw 2 rfl rfl rfl)<|la (av rfl)) ?_; clear S; intro a u S
 refine wp_seq ?_
 replace S := S.l [(0, pT T 0), (4, pT b4 0)] (subM rfl)
 refine dr (P := Try.prog) S 19 [one T] [(22, .is _), (23, .is _), (24, .is _), (25, .is _), (26, .is _), (27, .is _), (28, .is _), (29, .is _), (30, .is _), (31, .is _), (32, .is _), (33, .is _), (34, .is _), (35, .of (fun z w => ∃ (x35a : Nat), z = .slice (some ⟨x35a, 0, none⟩) 5 5 ∧ (slE u32E).wf (Fr F [one T, one b3, one b4]) w.heap (Sl.mk (some ⟨x35a, 0, none⟩) 5 ([r_t190.lo, r_t190.hi, IntKind.u32.wrap (r_t190.lo + 5), IntKind.u32.wrap (r_t190.hi + 1), IntKind.u32.wrap (r_t190.lo - 1)]))) (fun v w w' c h => let ⟨x35a, hv, h0⟩ := h; ⟨x35a, hv, Enc.kp (slE u32E) h0 c (by intro o h; simp at h ⊢; first | exact .inl h | simp [h])⟩)), (36, .is _), (37, .of (fun z w => ∃ (x37a : Int), z = iI x37a ∧ (0 ≤ x37a ∧ (x37a < 5 ∨ x37a = 0))) (fun v w w' c h => let ⟨x37a, hv, h0⟩ := h; ⟨x37a, hv, h0⟩)), (38, .of (fun z w => ∃ (x35a : Nat) (x37b : Int), z = pT (blk (some ⟨x35a, 0, none⟩)) (off (some ⟨x35a, 0, none⟩) + (x37b).toNat * 1) ∧ (slE u32E).wf (Fr F [one T, one b3, one b4]) w.heap (Sl.mk (some ⟨x35a, 0, none⟩) 5 ([r_t190.lo, r_t190.hi, IntKind.u32.wrap (r_t190.lo + 5), IntKind.u32.wrap (r_t190.hi + 1), IntKind.u32.wrap (r_t190.lo - 1)])) ∧ (0 ≤ x37b ∧ (x37b < 5 ∨ x37b = 0))) (fun v w w' c h => let ⟨x35a, x37b, hv, h0, h1⟩ := h; ⟨x35a, x37b, hv, Enc.kp (slE u32E) h0 c (by intro o h; simp at h ⊢; first | exact .inl h | simp [h]), h1⟩)), (39, .of (fun z w => ∃ (x35a : Nat) (x37b : Int), z = .int .u32 (([r_t190.lo, r_t190.hi, IntKind.u32.wrap (r_t190.lo + 5), IntKind.u32.wrap (r_t190.hi + 1), IntKind.u32.wrap (r_t190.lo - 1)]).getD ((x37b).toNat) u32E.dflt) ∧ (slE u32E).wf (Fr F [one T, one b3, one b4]) w.heap (Sl.mk (some ⟨x35a, 0, none⟩) 5 ([r_t190.lo, r_t190.hi, IntKind.u32.wrap (r_t190.lo + 5), IntKind.u32.wrap (r_t190.hi + 1), IntKind.u32.wrap (r_t190.lo - 1)])) ∧ (0 ≤ x37b ∧ (x37b < 5 ∨ x37b = 0))) (fun v w w' c h => let ⟨x35a, x37b, hv, h0, h1⟩ := h; ⟨x35a, x37b, hv, Enc.kp (slE u32E) h0 c (by intro o h; simp at h ⊢; first | exact .inl h | simp [h]), h1⟩)), (2, .of (fun z w => ∃ (x35a : Nat) (x37b : Int), z = .int .u32 (([r_t190.lo, r_t190.hi, IntKind.u32.wrap (r_t190.lo + 5), IntKind.u32.wrap (r_t190.hi + 1), IntKind.u32.wrap (r_t190.lo - 1)]).getD ((x37b).toNat) u32E.dflt) ∧ (slE u32E).wf (Fr F [one T, one b3, one b4]) w.heap (Sl.mk (some ⟨x35a, 0, none⟩) 5 ([r_t190.lo, r_t190.hi, IntKind.u32.wrap (r_t190.lo + 5), IntKind.u32.wrap (r_t190.hi + 1), IntKind.u32.wrap (r_t190.lo - 1)])) ∧ (0 ≤ x37b ∧ (x37b < 5 ∨ x37b = 0))) (fun v w w' c h => let ⟨x35a, x37b, hv, h0, h1⟩ := h; ⟨x35a, x37b, hv, Enc.kp (slE u32E) h0 c (by intro o h; simp at h ⊢; first | exact .inl h | simp [h]), h1⟩))] [[], [22], [], [24], [], [26], [27], [], [29], [30], [], [32], [33], [23, 25, 28, 31, 34], [], [36], [35, 37], [38], [39]] [2] _ ⟨qd (fldi 0 0 rfl uT116), qd (ldk 2 sC66 rfl rfl rfl), qd (fldi 0 1 rfl uT116), qd (ldk 2 sC66 rfl rfl rfl), qd (fldi 0 0 rfl uT116), qd (ldk 2 sC66 rfl rfl rfl), qd (ov fun S=>x_add (S.e rfl) (S.e rfl) rfl), qd (fldi 0 1 rfl uT116), qd (ldk 2 sC66 rfl rfl rfl), qd (ov fun S=>x_add (S.e rfl) (S.e rfl) rfl), qd (fldi 0 0 rfl uT116), qd (ldk 2 sC66 rfl rfl rfl), qd (ov fun S=>x_sub (S.e rfl) (S.e rfl) rfl), ?_, qd (mv rfl), ?_, ?_, ?_, ?_, trivial⟩ ?_
 ·skip
  intro a u S G hE
  refine hnb 35 S.m (x_bsl [(0, .int .u32 r_t190.lo), (1, .int .u32 r_t190.hi), (2, .int .u32 (IntKind.u32.wrap (r_t190.lo + 5))), (3, .int .u32 (IntKind.u32.wrap (r_t190.hi + 1))), (4, .int .u32 (IntKind.u32.wrap (r_t190.lo - 1)))] [.int .u32 r_t190.lo, .int .u32 r_t190.hi, .int .u32 (IntKind.u32.wrap (r_t190.lo + 5)), .int .u32 (IntKind.u32.wrap (r_t190.hi + 1)), .int .u32 (IntKind.u32.wrap (r_t190.lo - 1))] uT114 iZ66 (by decide) (by decide) (by simp only [List.map_cons, List.map_nil, S.e (x := .tmp 23) (v := .int .u32 r_t190.lo) rfl, S.e (x := .tmp 25) (v := .int .u32 r_t190.hi) rfl, S.e (x := .tmp 28) (v := .int .u32 (IntKind.u32.wrap (r_t190.lo + 5))) rfl, S.e (x := .tmp 31) (v := .int .u32 (IntKind.u32.wrap (r_t190.hi + 1))) rfl, S.e (x := .tmp 34) (v := .int .u32 (IntKind.u32.wrap (r_t190.lo - 1))) rfl]) (by kernel_rfl)) fun g => (show ∃ _, _ from ⟨_, rfl, sl_of_blk (Blk.new _ [.int .u32 r_t190.lo, .int .u32 r_t190.hi, .int .u32 (IntKind.u32.wrap (r_t190.lo + 5)), .int .u32 (IntKind.u32.wrap (r_t190.hi + 1)), .int .u32 (IntKind.u32.wrap (r_t190.lo - 1))] 66) [r_t190.lo, r_t190.hi, IntKind.u32.wrap (r_t190.lo + 5), IntKind.u32.wrap (r_t190.hi + 1), IntKind.u32.wrap (r_t190.lo - 1)] 5 rfl (by decide) (by decide) rfl (fr_fresh S.m.c S.m.f rfl) ?_⟩)
  intro x hx; simp only [List.mem_cons, List.not_mem_nil, or_false] at hx; rcases hx with hx | hx | hx | hx | hx <;> rw [hx] <;> first | exact Enc.tr (u32E) (show u32E.wf (Fr F (ow _)) _ r_t190.lo from (S.u 2 rfl).1) (Tr.of_ch0 S.M g) | exact Enc.tr (u32E) (show u32E.wf (Fr F (ow _)) _ r_t190.hi from (S.u 2 rfl).2) (Tr.of_ch0 S.M g) | exact Enc.tr (u32E) (show u32E.wf (Fr F (ow _)) _ (IntKind.u32.wrap (r_t190.lo + 5)) from (wu32 _)) (Tr.of_ch0 S.M g) | exact Enc.tr (u32E) (show u32E.wf (Fr F (ow _)) _ (IntKind.u32.wrap (r_t190.hi + 1)) from (wu32 _)) (Tr.of_ch0 S.M g) | exact Enc.tr (u32E) (show u32E.wf (Fr F (ow _)) _ (IntKind.u32.wrap (r_t190.lo - 1)) from (wu32 _)) (Tr.of_ch0 S.M g)
 ·skip
  intro a u S G hE
  refine hcl S (gNext _ _ S.x T (S.M.pick [0] (by decide)) T_l (dn1 (js := [0]) (S.u 0 rfl)) (S.t 0 rfl) 5 ⟨by omega, by omega⟩) cB23 ?_
  rintro e w2 ⟨r_h37, rfl, hr_h37, tK, T0⟩; refine ⟨_, rfl, (show ∃ _, _ from ?_), T0.ch, (S.k1 0 rfl S.s T0 tK).m⟩
  exact ⟨r_h37, rfl, hr_h37⟩
 ·skip
  intro a u S G hE
  obtain ⟨e35, e37, -⟩ := hE
  have M0 := S.m
  obtain ⟨x35_11, e35, X11⟩ := e35
  replace S := S.ext e35
  obtain ⟨x37_12, e37, hr12⟩ := e37
  replace S := S.ext e37
  exact hvl 38 S M0 (v := pT (blk (some ⟨x35_11, 0, none⟩)) (off (some ⟨x35_11, 0, none⟩) + (x37_12).toNat * 1)) (x_idx uT114 sZ66 (S.e rfl) (S.e rfl) (x37_12).toNat (by omega) (by first | omega | (simp only [List.length_cons, List.length_nil]; omega)) ((show LAt u32E _ _ (some ⟨x35_11, 0, none⟩) ([r_t190.lo, r_t190.hi, IntKind.u32.wrap (r_t190.lo + 5), IntKind.u32.wrap (r_t190.hi + 1), IntKind.u32.wrap (r_t190.lo - 1)]) from (X11).1).adr (i := (x37_12).toNat) (by first | omega | (simp only [List.length_cons, List.length_nil]; omega)))) (show ∃ _, _ from ⟨x35_11, x37_12, rfl, X11, hr12⟩)
 ·skip
  intro a u S G hE
  obtain ⟨e38, -⟩ := hE
  have M0 := S.m
  obtain ⟨x35_13, x37_14, e38, X13, hr14⟩ := e38
  replace S := S.ext e38
  obtain ⟨hl15, hu15⟩ : inU32 (([r_t190.lo, r_t190.hi, IntKind.u32.wrap (r_t190.lo + 5), IntKind.u32.wrap (r_t190.hi + 1), IntKind.u32.wrap (r_t190.lo - 1)]).getD ((x37_14).toNat) u32E.dflt) := id ((show LAt u32E _ _ (some ⟨x35_13, 0, none⟩) ([r_t190.lo, r_t190.hi, IntKind.u32.wrap (r_t190.lo + 5), IntKind.u32.wrap (r_t190.hi + 1), IntKind.u32.wrap (r_t190.lo - 1)]) from (X13).1).wf (x37_14).toNat (by first | omega | (simp only [List.length_cons, List.length_nil]; omega)))
  exact hvl 39 S M0 (v := .int .u32 (([r_t190.lo, r_t190.hi, IntKind.u32.wrap (r_t190.lo + 5), IntKind.u32.wrap (r_t190.hi + 1), IntKind.u32.wrap (r_t190.lo - 1)]).getD ((x37_14).toNat) u32E.dflt)) (x_load sC66 (S.e rfl) ((show LAt u32E _ _ (some ⟨x35_13, 0, none⟩) ([r_t190.lo, r_t190.hi, IntKind.u32.wrap (r_t190.lo + 5), IntKind.u32.wrap (r_t190.hi + 1), IntKind.u32.wrap (r_t190.lo - 1)]) from (X13).1).cell (x37_14).toNat (by first | omega | (simp only [List.length_cons, List.length_nil]; omega)) 0 _ rfl)) (show ∃ _, _ from ⟨x35_13, x37_14, rfl, X13, hr14⟩)
 ·skip
  intro a u S G hE
  obtain ⟨e39, -⟩ := hE
  have M0 := S.m
  obtain ⟨x35_16, x37_17, e39, X16, hr17⟩ := e39
  replace S := S.ext e39
  exact hvl 2 S M0 (v := .int .u32 (([r_t190.lo, r_t190.hi, IntKind.u32.wrap (r_t190.lo + 5), IntKind.u32.wrap (r_t190.hi + 1), IntKind.u32.wrap (r_t190.lo - 1)]).getD ((x37_17).toNat) u32E.dflt)) (x_assign (S.e rfl)) (show ∃ _, _ from ⟨x35_16, x37_17, rfl, X16, hr17⟩)
 clear S; intro a u S G hE
 obtain ⟨e2, -⟩ := hE
 obtain ⟨x35_18, x37_19, e2, X18, hr19⟩ := e2
 replace S := S.ext e2
 clear e2
 replace S := S.ar (wfF (slE u32E) (Sl.mk (some ⟨x35_18, 0, none⟩) 5 ([r_t190.lo, r_t190.hi, IntKind.u32.wrap (r_t190.lo + 5), IntKind.u32.wrap (r_t190.hi + 1), IntKind.u32.wrap (r_t190.lo - 1)]))) X18
 obtain ⟨hl20, hu20⟩ : inU32 (([r_t190.lo, r_t190.hi, IntKind.u32.wrap (r_t190.lo + 5), IntKind.u32.wrap (r_t190.hi + 1), IntKind.u32.wrap (r_t190.lo - 1)]).getD ((x37_19).toNat) u32E.dflt) := id ((show LAt u32E _ _ (some ⟨x35_18, 0, none⟩) ([r_t190.lo, r_t190.hi, IntKind.u32.wrap (r_t190.lo + 5), IntKind.u32.wrap (r_t190.hi + 1), IntKind.u32.wrap (r_t190.lo - 1)]) from ((S.u 3 rfl)).1).wf (x37_19).toNat (by first | omega | (simp only [List.length_cons, List.length_nil]; omega)))
 obtain ⟨hl21, hu21⟩ : inU32 (IntKind.u32.wrap (r_t190.lo + 5)) := id (wu32 _)
 obtain ⟨hl22, hu22⟩ : inU32 (IntKind.u32.wrap (r_t190.hi + 1)) := id (wu32 _)
 obtain ⟨hl23, hu23⟩ : inU32 (IntKind.u32.wrap (r_t190.lo - 1)) := id (wu32 _)
 refine ent (wp_ret ?_)
 refine ret1 rfl S.s rfl ?_
 replace S := S.pk [0] (os' := [tpO 62 T T_l])
 refine ⟨(([r_t190.lo, r_t190.hi, IntKind.u32.wrap (r_t190.lo + 5), IntKind.u32.wrap (r_t190.hi + 1), IntKind.u32.wrap (r_t190.lo - 1)]).getD ((x37_19).toNat) u32E.dflt), rfl, ?_, (S.t 0 rfl), S.m.c⟩
 first | assumption | omega
set_option maxHeartbeats 2000000 in
set_option maxRecDepth 20000 in
theorem gPrefix (w : World) (F : Nat → Prop) (hF : Old F w) (T : Nat) (M : MS [one T] w) (T_l : Sl Int) (T_w : (slE intE).wf (Fr F [one T]) w.heap T_l) (T_K : TpB 62 T T_l w) :
 Calls Try.prog 49 #[pT T 0] w fun e w' => ∃ (r : Pfx), e = .returned (.agg (pfxE.cells r).toArray) ∧ pfxE.wf (Fr F [one T]) w'.heap r ∧ TpB 62 T T_l w' ∧ Tr [one T] w [one T] w' := by
 refine go Try.func49 rfl 34 rfl [wfF (slE intE) T_l] [tpO 62 T T_l] hF M ⟨T_w, trivial⟩ ⟨T_K, trivial⟩ ?_
 intro a S
 refine rs0 ?_
 refine nbp S (x_allocz _ iZ68 rfl) ?_; clear S; intro a u b2 S
 refine ent (wp_seq (rs0 ?_))
 refine sp S (la (mv rfl)) ?_; clear S; intro a u S
 refine cl S (gNext _ _ S.x T (S.M.pick [0] (by decide)) T_l (dn1 (js := [0]) (S.u 0 rfl)) (S.t 0 rfl) 3 ⟨by omega, by omega⟩) cB23 ?_
 rintro e u ⟨r_t6, rfl, hr_t6, tK, T0⟩; refine ⟨_, rfl, fun a s => ?_⟩
 replace S := S.k1 0 rfl s T0 tK; clear s T0 tK
 refine ens S (la (eqli rfl rfl)) ?_; clear S; intro a u S
 refine cd S rfl ?_ ?_
 ·intro hc0
  refine rs0 ?_
  refine sp S (la (mv rfl)) ?_; clear S; intro a u S
  refine cl S (gNext _ _ S.x T (S.M.pick [0] (by decide)) T_l (dn1 (js := [0]) (S.u 0 rfl)) (S.t 0 rfl) 6 ⟨by omega, by omega⟩) cB23 ?_
  rintro e u ⟨r_t9, rfl, hr_t9, tK, T0⟩; refine ⟨_, rfl, fun a s => ?_⟩
  replace S := S.k1 0 rfl s T0 tK; clear s T0 tK
  refine cl S (gSubnet _ _ S.x (.nil _) r_t9 ⟨by omega, by omega⟩ (by omega)) cB46 ?_
  rintro e u ⟨r_t10, rfl, R_t10, hr_t10, T0⟩; refine ⟨_, rfl, fun a s => ?_⟩
  replace S := (S.k0 s T0).ar (wfF pfxE r_t10) (Enc.up _ R_t10); clear s T0 R_t10
  obtain ⟨hl4, hu4⟩ : inU32 r_t10.addr := id ((S.u 1 rfl).1)
  obtain ⟨hl5, hu5⟩ : inI64 r_t10.bits := id ((S.u 1 rfl).2)
  refine ens S (la (stkw 1 rfl rfl rfl)) ?_; clear S; intro a u S
  refine wp_ret (then_r ?_)
  refine retcw rfl S.s rfl [.int .u32 r_t10.addr, iI r_t10.bits] wD68 (fun j v hv => by rw [Nat.zero_add]; exact (S.k 1 rfl).cell hv) ?_
  replace S := S.pk [0] (os' := [tpO 62 T T_l])
  refine ⟨r_t10, rfl, (S.u 1 rfl), (S.t 0 rfl), S.m.c⟩
 intro hc1
 refine wp_skip (then_n (rs0 ?_))
 refine nbs intE S [32, 31, 24, 25, 8, 1, 0, 16, 30, 23] (x_bs S [(0, iI 32), (1, iI 31), (2, iI 24), (3, iI 25), (4, iI 8), (5, iI 1), (6, iI 0), (7, iI 16), (8, iI 30), (9, iI 23)] uT22 iZ3) (fun x hx => by simp only [List.mem_cons, List.not_mem_nil, or_false] at hx; rcases hx with hx | hx | hx | hx | hx | hx | hx | hx | hx | hx <;> rw [hx] <;> first | exact (show intE.wf _ _ 32 from (show inI64 32 from ⟨by omega, by omega⟩)) | exact (show intE.wf _ _ 31 from (show inI64 31 from ⟨by omega, by omega⟩)) | exact (show intE.wf _ _ 24 from (show inI64 24 from ⟨by omega, by omega⟩)) | exact (show intE.wf _ _ 25 from (show inI64 25 from ⟨by omega, by omega⟩)) | exact (show intE.wf _ _ 8 from (show inI64 8 from ⟨by omega, by omega⟩)) | exact (show intE.wf _ _ 1 from (show inI64 1 from ⟨by omega, by omega⟩)) | exact (show intE.wf _ _ 0 from (show inI64 0 from ⟨by omega, by omega⟩)) | exact (show intE.wf _ _ 16 from (show inI64 16 from ⟨by omega, by omega⟩)) | exact (show intE.wf _ _ 30 from (show inI64 30 from ⟨by omega, by omega⟩)) | exact (show intE.wf _ _ 23 from (show inI64 23 from ⟨by omega, by omega⟩))) ?_; clear S; intro a u b11 S
 refine sp S (la (mv rfl)) ?_; clear S; intro a u S
 refine cl S (gNext _ _ S.x T (S.M.pick [0] (by decide)) T_l (dn1 (js := [0]) (S.u 0 rfl)) (S.t 0 rfl) 10 ⟨by omega, by omega⟩) cB23 ?_
 rintro e u ⟨r_t13, rfl, hr_t13, tK, T0⟩; refine ⟨_, rfl, fun a s => ?_⟩
 replace S := S.k1 0 rfl s T0 tK; clear s T0 tK
 obtain ⟨hl7, hu7⟩ : inI64 (([32, 31, 24, 25, 8, 1, 0, 16, 30, 23]).getD ((r_t13).toNat) intE.dflt) := id ((show LAt intE _ _ (some ⟨b11, 0, none⟩) ([32, 31, 24, 25, 8, 1, 0, 16, 30, 23]) from ((S.u 1 rfl)).1).wf (r_t13).toNat (by first | omega | (simp only [List.length_cons, List.length_nil]; omega)))
 refine sp S (tr (idxi uT22 sZ3 rfl rfl (r_t13).toNat (by omega) (by first | omega | (simp only [List.length_cons, List.length_nil]; omega)) ((show LAt intE _ _ (some ⟨b11, 0, none⟩) ([32, 31, 24, 25, 8, 1, 0, 16, 30, 23]) from ((S.u 1 rfl)).1).adr (i := (r_t13).toNat) (by first | omega | (simp only [List.length_cons, List.length_nil]; omega))))<|la (ov fun S=>x_load sC3 (S.e rfl) ((show LAt intE _ _ (some ⟨b11, 0, none⟩) ([32, 31, 24, 25, 8, 1, 0, 16, 30, 23]) from ((S.u 1 rfl)).1).cell (r_t13).toNat (by first | omega | (simp only [List.length_cons, List.length_nil]; omega)) 0 _ rfl))) ?_; clear S; intro a u S
 have hb14 : 0 ≤ (([32, 31, 24, 25, 8, 1, 0, 16, 30, 23]).getD ((r_t13).toNat) intE.dflt) ∧ (([32, 31, 24, 25, 8, 1, 0, 16, 30, 23]).getD ((r_t13).toNat) intE.dflt) ≤ 32 := getD_ok (P := fun x : Int => 0 ≤ x ∧ x ≤ 32) (by decide) (by decide) _
 refine ens S (la (av rfl)) ?_; clear S; intro a u S
 refine rs0 ?_
 refine sp S (la (mv rfl)) ?_; clear S; intro a u S
 refine cl S (gAddr _ _ S.x T (S.M.pick [0] (by decide)) T_l (dn1 (js := [0]) (S.u 0 rfl)) (S.t 0 rfl)) cB77 ?_
 rintro e u ⟨r_t17, rfl, hr_t17, tK, T0⟩; refine ⟨_, rfl, fun a s => ?_⟩
 replace S := S.k1 0 rfl s T0 tK; clear s T0 tK
 refine sp S (tr (mv rfl)<|la (ov fun S=>x_bd S [(0, .int .u32 r_t17), (1, iI (([32, 31, 24, 25, 8, 1, 0, 16, 30, 23]).getD ((r_t13).toNat) intE.dflt))] [.int .u32 r_t17, iI (([32, 31, 24, 25, 8, 1, 0, 16, 30, 23]).getD ((r_t13).toNat) intE.dflt)])) ?_; clear S; intro a u S
 refine nbp S (x_allocz _ iZ68 rfl) ?_; clear S; intro a u b4 S
 refine ens S (la (stkw 2 rfl rfl rfl)) ?_; clear S; intro a u S
 refine wp_seq ?_
 refine rs S (tr (mv rfl)<|la (lssi rfl rfl)) ?_; clear S; intro a u S
 refine cd S rfl ?_ ?_
 ·intro hc2
  refine rg S (tr (fldi 0 0 rfl uT68)<|tr (ldk 2 sC66 rfl rfl rfl)<|tr (mv rfl)<|tr (subi (32 - (([32, 31, 24, 25, 8, 1, 0, 16, 30, 23]).getD ((r_t13).toNat) intE.dflt)) rfl rfl (w_i64 (by omega)))<|tr (ov fun S=>x_conv uT3 uT78 (S.e rfl) (r := (32 - (([32, 31, 24, 25, 8, 1, 0, 16, 30, 23]).getD ((r_t13).toNat) intE.dflt))) (w_u64 (by omega)))<|tr (ov fun S=>x_shr (S.e rfl) (S.e rfl) (by omega))<|tr (mv rfl)<|tr (subi (32 - (([32, 31, 24, 25, 8, 1, 0, 16, 30, 23]).getD ((r_t13).toNat) intE.dflt)) rfl rfl (w_i64 (by omega)))<|tr (ov fun S=>x_conv uT3 uT78 (S.e rfl) (r := (32 - (([32, 31, 24, 25, 8, 1, 0, 16, 30, 23]).getD ((r_t13).toNat) intE.dflt))) (w_u64 (by omega)))<|tr (ov fun S=>x_shl (S.e rfl) (S.e rfl) (by omega))<|tr (fldi 0 0 rfl uT68)<|la (stk 2 rfl rfl rfl)) ?_; clear S; intro a u S
  refine then_n ?_
  refine rs S (tr (ldkw 2 rfl rfl wD68)<|la (stkw 1 rfl rfl rfl)) ?_; clear S; intro a u S
  refine wp_ret ?_
  refine retcw rfl S.s rfl [.int .u32 (sHl .u32 (sHr .u32 r_t17 (32 - (([32, 31, 24, 25, 8, 1, 0, 16, 30, 23]).getD ((r_t13).toNat) intE.dflt))) (32 - (([32, 31, 24, 25, 8, 1, 0, 16, 30, 23]).getD ((r_t13).toNat) intE.dflt))), iI (([32, 31, 24, 25, 8, 1, 0, 16, 30, 23]).getD ((r_t13).toNat) intE.dflt)] wD68 (fun j v hv => by rw [Nat.zero_add]; exact (S.k 1 rfl).cell hv) ?_
  replace S := S.pk [0] (os' := [tpO 62 T T_l])
  refine ⟨(⟨(sHl .u32 (sHr .u32 r_t17 (32 - (([32, 31, 24, 25, 8, 1, 0, 16, 30, 23]).getD ((r_t13).toNat) intE.dflt))) (32 - (([32, 31, 24, 25, 8, 1, 0, 16, 30, 23]).getD ((r_t13).toNat) intE.dflt))), (([32, 31, 24, 25, 8, 1, 0, 16, 30, 23]).getD ((r_t13).toNat) intE.dflt)⟩ : Pfx), rfl, ⟨(wu32 _), ((show LAt intE _ _ (some ⟨b11, 0, none⟩) ([32, 31, 24, 25, 8, 1, 0, 16, 30, 23]) from ((S.u 1 rfl)).1).wf (r_t13).toNat (by first | omega | (simp only [List.length_cons, List.length_nil]; omega)))⟩, (S.t 0 rfl), S.m.c⟩
 intro hc3
 refine wp_skip (then_n ?_)
 refine rs S (tr (ldkw 2 rfl rfl wD68)<|la (stkw 1 rfl rfl rfl)) ?_; clear S; intro a u S
 refine wp_ret ?_
 refine retcw rfl S.s rfl [.int .u32 r_t17, iI (([32, 31, 24, 25, 8, 1, 0, 16, 30, 23]).getD ((r_t13).toNat) intE.dflt)] wD68 (fun j v hv => by rw [Nat.zero_add]; exact (S.k 1 rfl).cell hv) ?_
 replace S := S.pk [0] (os' := [tpO 62 T T_l])
 refine ⟨(⟨r_t17, (([32, 31, 24, 25, 8, 1, 0, 16, 30, 23]).getD ((r_t13).toNat) intE.dflt)⟩ : Pfx), rfl, ⟨(show inU32 r_t17 from ⟨by omega, by omega⟩), ((show LAt intE _ _ (some ⟨b11, 0, none⟩) ([32, 31, 24, 25, 8, 1, 0, 16, 30, 23]) from ((S.u 1 rfl)).1).wf (r_t13).toNat (by first | omega | (simp only [List.length_cons, List.length_nil]; omega)))⟩, (S.t 0 rfl), S.m.c⟩
set_option maxHeartbeats 2000000 in
set_option maxRecDepth 20000 in
theorem gSpoilP (w : World) (F : Nat → Prop) (hF : Old F w) (T : Nat) (M : MS [one T] w) (T_l : Sl Int) (T_w : (slE intE).wf (Fr F [one T]) w.heap T_l) (T_K : TpB 62 T T_l w) (p : Pfx) (p_w : pfxE.wf (Fr F [one T]) w.heap p) :
 Calls Try.prog 48 #[pT T 0, .agg (pfxE.cells p).toArray] w fun e w' => ∃ (r : Pfx), e = .returned (.agg (pfxE.cells r).toArray) ∧ pfxE.wf (Fr F [one T]) w'.heap r ∧ TpB 62 T T_l w' ∧ Tr [one T] w [one T] w' := by
 obtain ⟨_, _⟩ : inU32 p.addr := p_w.1
 obtain ⟨_, _⟩ : inI64 p.bits := p_w.2
 refine go Try.func48 rfl 36 rfl [wfF (slE intE) T_l, wfF pfxE p] [tpO 62 T T_l] hF M ⟨T_w, p_w, trivial⟩ ⟨T_K, trivial⟩ ?_
 intro a S
 refine rs0 ?_
 refine nbp S (x_box _ (S.e rfl) rfl) ?_; clear S; intro a u b3 S
 refine nbp S (x_allocz _ iZ68 rfl) ?_; clear S; intro a u b4 S
 refine ent (wp_seq (rs0 ?_))
 refine sp S (la (mv rfl)) ?_; clear S; intro a u S
 refine cl S (gNext _ _ S.x T (S.M.pick [0] (by decide)) T_l (dn1 (js := [0]) (S.u 0 rfl)) (S.t 0 rfl) 4 ⟨by omega, by omega⟩) cB23 ?_
 rintro e u ⟨r_t6, rfl, hr_t6, tK, T0⟩; refine ⟨_, rfl, fun a s => ?_⟩
 replace S := S.k1 0 rfl s T0 tK; clear s T0 tK
 refine ent (wp_block ?_)
 refine rs S (tr (eqli rfl rfl)<|la (av rfl)) ?_; clear S; intro a u S
 refine cd S rfl ?_ ?_
 ·intro hc0
  refine r0 ?_
  refine nbs intE S [(-1), 33, 0, 32] (x_bs S [(0, iI (-1)), (1, iI 33), (2, iI 0), (3, iI 32)] uT22 iZ3) (fun x hx => by simp only [List.mem_cons, List.not_mem_nil, or_false] at hx; rcases hx with hx | hx | hx | hx <;> rw [hx] <;> first | exact (show intE.wf _ _ (-1) from (show inI64 (-1) from ⟨by omega, by omega⟩)) | exact (show intE.wf _ _ 33 from (show inI64 33 from ⟨by omega, by omega⟩)) | exact (show intE.wf _ _ 0 from (show inI64 0 from ⟨by omega, by omega⟩)) | exact (show intE.wf _ _ 32 from (show inI64 32 from ⟨by omega, by omega⟩))) ?_; clear S; intro a u b17 S
  refine sp S (la (mv rfl)) ?_; clear S; intro a u S
  refine cl S (gNext _ _ S.x T (S.M.pick [0] (by decide)) T_l (dn1 (js := [0]) (S.u 0 rfl)) (S.t 0 rfl) 4 ⟨by omega, by omega⟩) cB23 ?_
  rintro e u ⟨r_t19, rfl, hr_t19, tK, T0⟩; refine ⟨_, rfl, fun a s => ?_⟩
  replace S := S.k1 0 rfl s T0 tK; clear s T0 tK
  obtain ⟨hl5, hu5⟩ : inI64 (([(-1), 33, 0, 32]).getD ((r_t19).toNat) intE.dflt) := id ((show LAt intE _ _ (some ⟨b17, 0, none⟩) ([(-1), 33, 0, 32]) from ((S.u 2 rfl)).1).wf (r_t19).toNat (by first | omega | (simp only [List.length_cons, List.length_nil]; omega)))
  refine en S (tr (idxi uT22 sZ3 rfl rfl (r_t19).toNat (by omega) (by first | omega | (simp only [List.length_cons, List.length_nil]; omega)) ((show LAt intE _ _ (some ⟨b17, 0, none⟩) ([(-1), 33, 0, 32]) from ((S.u 2 rfl)).1).adr (i := (r_t19).toNat) (by first | omega | (simp only [List.length_cons, List.length_nil]; omega))))<|tr (ov fun S=>x_load sC3 (S.e rfl) ((show LAt intE _ _ (some ⟨b17, 0, none⟩) ([(-1), 33, 0, 32]) from ((S.u 2 rfl)).1).cell (r_t19).toNat (by first | omega | (simp only [List.length_cons, List.length_nil]; omega)) 0 _ rfl))<|tr (fldi 0 1 rfl uT68)<|la (stk 1 rfl rfl rfl)) ?_; clear S; intro a u S
  refine blk_n (then_n ?_)
  refine rs S (tr (ldkw 1 rfl rfl wD68)<|la (stkw 2 rfl rfl rfl)) ?_; clear S; intro a u S
  refine wp_ret ?_
  refine retcw rfl S.s rfl [.int .u32 p.addr, iI (([(-1), 33, 0, 32]).getD ((r_t19).toNat) intE.dflt)] wD68 (fun j v hv => by rw [Nat.zero_add]; exact (S.k 2 rfl).cell hv) ?_
  replace S := S.pk [0] (os' := [tpO 62 T T_l])
  refine ⟨(⟨p.addr, (([(-1), 33, 0, 32]).getD ((r_t19).toNat) intE.dflt)⟩ : Pfx), rfl, ⟨(S.u 1 rfl).1, ((show LAt intE _ _ (some ⟨b17, 0, none⟩) ([(-1), 33, 0, 32]) from ((S.u 2 rfl)).1).wf (r_t19).toNat (by first | omega | (simp only [List.length_cons, List.length_nil]; omega)))⟩, (S.t 0 rfl), S.m.c⟩
 intro hc1
 refine rs S (tr (eqli rfl rfl)<|la (av rfl)) ?_; clear S; intro a u S
 refine cd S rfl ?_ ?_
 ·intro hc2
  refine rg S (tr (fldi 0 0 rfl uT68)<|tr (ldk 1 sC66 rfl rfl rfl)<|tr (ov fun S=>x_bor (S.e rfl) (S.e rfl))<|tr (fldi 0 0 rfl uT68)<|la (stk 1 rfl rfl rfl)) ?_; clear S; intro a u S
  refine blk_n (then_n ?_)
  refine rs S (tr (ldkw 1 rfl rfl wD68)<|la (stkw 2 rfl rfl rfl)) ?_; clear S; intro a u S
  refine wp_ret ?_
  refine retcw rfl S.s rfl [.int .u32 (bOr .u32 p.addr 1), iI p.bits] wD68 (fun j v hv => by rw [Nat.zero_add]; exact (S.k 2 rfl).cell hv) ?_
  replace S := S.pk [0] (os' := [tpO 62 T T_l])
  refine ⟨(⟨(bOr .u32 p.addr 1), p.bits⟩ : Pfx), rfl, ⟨(wu32 _), (S.u 1 rfl).2⟩, (S.t 0 rfl), S.m.c⟩
 intro hc3
 refine rs S (tr (eqli rfl rfl)<|la (av rfl)) ?_; clear S; intro a u S
 refine cd S rfl ?_ ?_
 ·intro hc4
  refine rg S (tr (fldi 0 1 rfl uT68)<|tr (ldk 1 sC3 rfl rfl rfl)<|tr (ov fun S=>x_add (S.e rfl) (S.e rfl) rfl)<|tr (fldi 0 1 rfl uT68)<|la (stk 1 rfl rfl rfl)) ?_; clear S; intro a u S
  refine blk_n (then_n ?_)
  refine rs S (tr (ldkw 1 rfl rfl wD68)<|la (stkw 2 rfl rfl rfl)) ?_; clear S; intro a u S
  refine wp_ret ?_
  refine retcw rfl S.s rfl [.int .u32 p.addr, iI (IntKind.i64.wrap (p.bits + 1))] wD68 (fun j v hv => by rw [Nat.zero_add]; exact (S.k 2 rfl).cell hv) ?_
  replace S := S.pk [0] (os' := [tpO 62 T T_l])
  refine ⟨(⟨p.addr, IntKind.i64.wrap (p.bits + 1)⟩ : Pfx), rfl, ⟨(S.u 1 rfl).1, (wi64 _)⟩, (S.t 0 rfl), S.m.c⟩
 intro hc5
 refine dr (P := Try.prog) S 8 [one T] [(7, .is _), (8, .is _), (9, .is _), (10, .of (fun z w => ∃ (x10a : Int), z = iI x10a ∧ (0 ≤ x10a ∧ (x10a < 32 ∨ x10a = 0))) (fun v w w' c h => let ⟨x10a, hv, h0⟩ := h; ⟨x10a, hv, h0⟩)), (11, .of (fun z w => ∃ (x10a : Int), z = .int .u64 x10a ∧ (0 ≤ x10a ∧ (x10a < 32 ∨ x10a = 0))) (fun v w w' c h => let ⟨x10a, hv, h0⟩ := h; ⟨x10a, hv, h0⟩)), (12, .of (fun z w => ∃ (x10a : Int), z = .int .u32 (sHl .u32 1 x10a) ∧ (0 ≤ x10a ∧ (x10a < 32 ∨ x10a = 0))) (fun v w w' c h => let ⟨x10a, hv, h0⟩ := h; ⟨x10a, hv, h0⟩)), (13, .of (fun z w => ∃ (x10a : Int), z = .int .u32 (bXor .u32 p.addr (sHl .u32 1 x10a)) ∧ (0 ≤ x10a ∧ (x10a < 32 ∨ x10a = 0))) (fun v w w' c h => let ⟨x10a, hv, h0⟩ := h; ⟨x10a, hv, h0⟩)), (14, .is _)] [[], [7], [], [9], [10], [11], [8, 12], []] [13, 14] _ ⟨qd (fldi 0 0 rfl uT68), qd (ldk 1 sC66 rfl rfl rfl), qd (mv rfl), ?_, ?_, ?_, ?_, qd (fldi 0 0 rfl uT68), trivial⟩ ?_
 ·skip
  intro a u S G hE
  refine hcl S (gNext _ _ S.x T (S.M.pick [0] (by decide)) T_l (dn1 (js := [0]) (S.u 0 rfl)) (S.t 0 rfl) 32 ⟨by omega, by omega⟩) cB23 ?_
  rintro e w2 ⟨r_h10, rfl, hr_h10, tK, T0⟩; refine ⟨_, rfl, (show ∃ _, _ from ?_), T0.ch, (S.k1 0 rfl S.s T0 tK).m⟩
  exact ⟨r_h10, rfl, hr_h10⟩
 ·skip
  intro a u S G hE
  obtain ⟨e10, -⟩ := hE
  have M0 := S.m
  obtain ⟨x10_13, e10, hr13⟩ := e10
  replace S := S.ext e10
  exact hvl 11 S M0 (v := .int .u64 x10_13) (x_conv uT3 uT78 (S.e rfl) (r := x10_13) (w_u64 (by omega))) (show ∃ _, _ from ⟨x10_13, rfl, hr13⟩)
 ·skip
  intro a u S G hE
  obtain ⟨e11, -⟩ := hE
  have M0 := S.m
  obtain ⟨x10_14, e11, hr14⟩ := e11
  replace S := S.ext e11
  exact hvl 12 S M0 (v := .int .u32 (sHl .u32 1 x10_14)) (x_shl (S.e rfl) (S.e rfl) (by omega)) (show ∃ _, _ from ⟨x10_14, rfl, hr14⟩)
 ·skip
  intro a u S G hE
  obtain ⟨e12, -⟩ := hE
  have M0 := S.m
  obtain ⟨x10_15, e12, hr15⟩ := e12
  replace S := S.ext e12
  exact hvl 13 S M0 (v := .int .u32 (bXor .u32 p.addr (sHl .u32 1 x10_15))) (x_bxor (S.e rfl) (S.e rfl)) (show ∃ _, _ from ⟨x10_15, rfl, hr15⟩)
 clear S; intro a u S G hE
 obtain ⟨e13, -⟩ := hE
 obtain ⟨x10_16, e13, hr16⟩ := e13
 replace S := S.ext e13
 clear e13
 obtain ⟨hl17, hu17⟩ : inU32 (bXor .u32 p.addr (sHl .u32 1 x10_16)) := id (wu32 _)
 obtain ⟨hl18, hu18⟩ : inU32 p.addr := id ((S.u 1 rfl).1)
 refine en S (la (stk 1 rfl rfl rfl)) ?_; clear S; intro a u S
 refine blk_n (then_n ?_)
 refine rs S (tr (ldkw 1 rfl rfl wD68)<|la (stkw 2 rfl rfl rfl)) ?_; clear S; intro a u S
 refine wp_ret ?_
 refine retcw rfl S.s rfl [.int .u32 (bXor .u32 p.addr (sHl .u32 1 x10_16)), iI p.bits] wD68 (fun j v hv => by rw [Nat.zero_add]; exact (S.k 2 rfl).cell hv) ?_
 replace S := S.pk [0] (os' := [tpO 62 T T_l])
 refine ⟨(⟨(bXor .u32 p.addr (sHl .u32 1 x10_16)), p.bits⟩ : Pfx), rfl, ⟨(wu32 _), (S.u 1 rfl).2⟩, (S.t 0 rfl), S.m.c⟩
end Go.Proofs.Ytfanmniaolncbaa.V
