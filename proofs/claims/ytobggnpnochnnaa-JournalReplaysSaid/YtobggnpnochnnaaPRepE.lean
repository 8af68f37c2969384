/- Texts of this claim in one: part E. -/
import Derived.Test.YtobggnpnochnnaaPRepD
import Derived.Test.YtobggnpnochnnaaPRepC
import Derived.Test.YtobggnpnochnnaaPRepB
namespace Go.Proofs.Ytobggnpnochnnaa.V
open Go.RowKit Go.Proofs.Ytobggnpnochnnaa
set_option linter.unusedVariables false
set_option linter.unusedSimpArgs false
set_option maxHeartbeats 2000000 in
set_option maxRecDepth 20000 in
theorem rNewB (w : World) (F : Nat → Prop) (hF : Old F w) (M : MS [] w) (hD : ∀ k, In [] k → ¬ F k) (p : Plan) (p_w : planE.wf (Fr F []) w.heap p) (n : Int) (n_h : inI64 n) (hb : p.rounds.xs.length ≤ 100) :
 Calls Try.prog 74 #[.agg (planE.cells p).toArray, iI n] w fun e w' => ∃ (q : Option (Nat × Brn)) (ra1 : Option Addr) (rc1 : Nat), e = .returned (.tuple #[optP q, .slice ra1 ((newS p n).length) rc1, bD (okQ q)]) ∧ brQK q ∧ (bnO (brQ q)).p F (In [In (ow (brQ q)), abk ra1]) w' ∧ Row intE 3 0 F [In (ow (brQ q)), abk ra1] w' ra1 rc1 (newS p n) ∧ ((q.isSome = true ↔ goodP p n) ∧ ∀ x, q = some x → BrOK x.2 ∧ rdB x.2 = rdsP p ∧ stB x.2 = stsD (statesP p.staged (rdsP p) n) ∧ cB x.2 = noS (startC (rdsP p) (stsD (statesP p.staged (rdsP p) n)) (newC n))) ∧ Tr [] w [In (ow (brQ q)), abk ra1] w' := by
 have : p.rounds.xs.length ≤ 9223372036854775807 := (p_w.2).1.len
 obtain ⟨n_hl, n_hu⟩ : inI64 n := id n_h
 have hR0 := rdsP_len p
 refine go Try.func74 rfl 48 rfl [wfF planE p] [] hF M ⟨p_w, trivial⟩ trivial ?_
 intro a S
 have hD : ∀ k, In ([] : List BS) k → ¬ F k := fun _ h => h.elim
 refine rs0 ?_
 refine nbp S (x_box _ (S.e rfl) rfl) ?_; clear S; intro a u b2 S
 refine ens S (tr (av rfl)<|tr (av rfl)<|la (av rfl)) ?_; clear S; intro a u S
 refine rs0 ?_
 refine sp S (tr (ldkw 0 rfl rfl wD47)<|la (mv rfl)) ?_; clear S; intro a u S
 refine cl S (rStates _ _ S.x (.nil _) p (dn0 (S.u 0 rfl)) n n_h (by first | omega | (dsimp only; omega))) cB40 ?_
 rintro e u ⟨r_t130, rfl, R_t130, hr_t130, T0⟩; refine ⟨_, rfl, fun a s => ?_⟩
 replace S := (S.k0 s T0).ar (wfF (slE (slE intE)) r_t130) (Enc.up _ R_t130); clear s T0 R_t130
 have hn3 : r_t130.xs.length ≤ 9223372036854775807 := ((S.u 1 rfl)).1.len
 refine ens S (tr (mv rfl)<|tr (exi rfl rfl)<|tr (exi rfl rfl)<|tr (av rfl)<|la (av rfl)) ?_; clear S; intro a u S
 refine wp_seq ?_
 refine rs S (tr (mv rfl)<|tr (neqi rfl rfl)<|tr (mv rfl)<|tr (og 18 rfl gf fun S hg=>xf (0) 1 uT47 (S.e rfl))<|tr (og 18 rfl gf fun S hg=>x_load sC45 (S.p rfl hg) ((S.k 0 rfl).cell (j := 1) rfl))<|tr (og 18 rfl gf fun S hg=>x_len uT45 (S.p rfl hg))<|tr (og 18 rfl gf fun S hg=>x_gtr (S.p rfl hg) (S.e rfl))<|la (ori rfl rfl rfl)) ?_; clear S; intro a u S
 refine cd S rfl ?_ ?_
 ·intro hc0
  refine rs S (tr (av rfl)<|tr (av rfl)<|la (av rfl)) ?_; clear S; intro a u S
  refine wp_ret (then_r ?_)
  replace S := S.emp
  replace S := S.nr intE 3
  replace S := (show St _ _ _ _ _ _ [blO b2 (planE.cells p) 47, bnO [], rwO intE 3 0 none 0 ([])] _ _ from S.b0 2 rfl)
  refine ret3 rfl S.s rfl rfl rfl ?_
  replace S := S.pk [1, 2] (os' := [bnO [], rwO intE 3 0 none 0 ([])])
  have hx6 : newS p n = [] := by
   unfold newS; exact if_neg fun h => hc0.elim (fun q => q (stsE_0.2 h.1)) (fun q => by have := h.2; omega)
  rw [hx6]
  refine ⟨none, none, 0, (r3 rfl rfl (vf ?_)), trivial, (S.m.o _ (nth_mem (i := 0) rfl)), (S.row 1 rfl), ?_, S.m.c⟩
  ·exact fun h => Bool.false_ne_true h
  exact ⟨⟨fun h => (by cases h), fun h => (hc0.elim (fun q => (q (stsE_0.2 h.1)).elim) fun q => by have := h.2; omega)⟩, fun x h => by cases h⟩
 intro hc1
 obtain ⟨hst0, hst1⟩ := not_or.1 hc1
 have hst2 := stsE_0.1 (Classical.not_not.1 hst0)
 obtain ⟨sts, hst⟩ := Option.isSome_iff_exists.1 hst2
 obtain ⟨hn, hPO, hne⟩ := statesP_ok hst (by omega)
 refine wp_skip (then_n (rs0 ?_))
 refine sp S (tr (ldkw 0 rfl rfl wD47)<|tr (mv rfl)<|la (ov fun S=>x_bd S [(0, .agg (planE.cells p).toArray), (1, sV r_t130)] [bD (p.staged = true), sV p.rounds, sV r_t130, iI 0, .bool false, iI 0, .slice none 0 0, .slice none 0 0, .slice none 0 0])) ?_; clear S; intro a u S
 refine nbp S (x_box _ (S.e rfl) rfl) ?_; clear S; intro a u b27 S
 refine ens S (la (av rfl)) ?_; clear S; intro a u S
 refine wp_seq ?_
 have SW := S
 refine mk2 (P := Try.prog) (E := intE) (q := (n).toNat) (f1 := 6) (f2 := 7) S [⟨0, 28, pT b27 0, []⟩, ⟨1, 29, pT b27 0, []⟩, ⟨2, 30, iI n, []⟩, ⟨4, 32, iI n, []⟩, ⟨6, 34, pT b27 0, [28]⟩, ⟨7, 35, pT b27 (0 + 3), [34]⟩, ⟨8, 36, pT b27 (0 + 3 + 3), [35]⟩, ⟨10, 37, pT b27 0, [29]⟩, ⟨11, 38, pT b27 (0 + 3), [37]⟩, ⟨12, 39, pT b27 (0 + 3 + 4), [38]⟩] 3 5 9 13 31 33 36 39 (0 : Int) ⟨⟨⟨_, rfl, rfl, rfl, fun a w S => (x_move (S.e rfl))⟩, (show 28 < 48 from by decide), rfl⟩, ⟨⟨_, rfl, rfl, rfl, fun a w S => (x_move (S.e rfl))⟩, (show 29 < 48 from by decide), rfl⟩, ⟨⟨_, rfl, rfl, rfl, fun a w S => (x_move (S.e rfl))⟩, (show 30 < 48 from by decide), rfl⟩, ⟨⟨_, rfl, rfl, rfl, fun a w S => (x_move (S.e rfl))⟩, (show 32 < 48 from by decide), rfl⟩, ⟨⟨_, rfl, rfl, rfl, fun a w S => x_nilck (S.e rfl)⟩, (show 34 < 48 from by decide), rfl⟩, ⟨⟨_, rfl, rfl, rfl, fun a w S => (x_fld (z := 5) (0) 3 uT89 rfl rfl (by kernel_rfl) (S.e rfl))⟩, (show 35 < 48 from by decide), rfl⟩, ⟨⟨_, rfl, rfl, rfl, fun a w S => (x_fld (z := 0) (0 + 3) 3 uT57 rfl rfl (by kernel_rfl) (S.e rfl))⟩, (show 36 < 48 from by decide), rfl⟩, ⟨⟨_, rfl, rfl, rfl, fun a w S => x_nilck (S.e rfl)⟩, (show 37 < 48 from by decide), rfl⟩, ⟨⟨_, rfl, rfl, rfl, fun a w S => (x_fld (z := 5) (0) 3 uT89 rfl rfl (by kernel_rfl) (S.e rfl))⟩, (show 38 < 48 from by decide), rfl⟩, ⟨⟨_, rfl, rfl, rfl, fun a w S => (x_fld (z := 0) (0 + 3) 4 uT57 rfl rfl (by kernel_rfl) (S.e rfl))⟩, (show 39 < 48 from by decide), rfl⟩, trivial⟩ uT22 iZ3 (by omega) (by unfold maxLen; omega) (fun _ _ => by first | exact ⟨by omega, by omega⟩ | trivial | exact sl_nil) rfl rfl rfl rfl (by kernel_rfl) ⟨_, _, _, _, (List.mem_of_getElem? (i := 2) rfl), (List.mem_of_getElem? (i := 2) rfl), (List.mem_of_getElem? (i := 3) rfl), (List.mem_of_getElem? (i := 3) rfl), rfl, rfl, rfl, rfl, rfl, rfl, rfl, rfl, fun o h => (by obtain rfl := Option.some.inj h; exact ⟨by kernel_rfl, by kernel_rfl⟩), fun o h => (by obtain rfl := Option.some.inj h; exact ⟨by kernel_rfl, by kernel_rfl⟩)⟩ (by omega) ⟨_, _, (List.mem_of_getElem? (i := 6) rfl), (List.mem_of_getElem? (i := 9) rfl), rfl, rfl, rfl, rfl, fun o h => (by obtain rfl := Option.some.inj h; exact ⟨by kernel_rfl, by kernel_rfl⟩), fun o h => (by obtain rfl := Option.some.inj h; exact ⟨by kernel_rfl, by kernel_rfl, by kernel_rfl⟩)⟩ ⟨rfl, rfl, by decide⟩ (by kernel_rfl) (by kernel_rfl) ⟨by decide, by decide⟩ ⟨rfl, rfl, rfl⟩ mixed (fun _ _ _ _ _ h => h) ?_; clear S SW; intro a u ad31 ad33 S
 have hrl31 : (List.replicate (n).toNat (0 : Int)).length = (n).toNat := List.length_replicate
 replace S := (show St _ _ _ _ _ _ [blO b2 (planE.cells p) 47, blO b27 [bD (p.staged = true), sV p.rounds, sV r_t130, iI 0, .bool false, iI 0, .slice ad31 ((List.replicate (n).toNat (0 : Int)).length) ((n).toNat), .slice ad33 ((List.replicate (n).toNat (0 : Int)).length) ((n).toNat), .slice none 0 0] 89, rwO intE 3 w.heap.size ad31 ((n).toNat) (List.replicate (n).toNat (0 : Int)), rwO intE 3 w.heap.size ad33 ((n).toNat) (List.replicate (n).toNat (0 : Int))] _ _ from (by simpa only [List.set, List.length_replicate] using S))
 refine then_n (wp_seq ?_)
 have hn9 : p.rounds.xs.length ≤ 9223372036854775807 := ((S.u 0 rfl).2).1.len
 refine rs S (tr (fldi 0 1 rfl uT47)<|tr (ldk 0 sC45 rfl rfl rfl)<|tr (leni uT45 rfl)<|la (eqli rfl rfl)) ?_; clear S; intro a u S
 refine cd S rfl ?_ ?_
 ·intro hc2
  refine rs S (tr (mv rfl)<|tr (av rfl)<|tr (av rfl)<|la (av rfl)) ?_; clear S; intro a u S
  refine wp_ret (then_r ?_)
  replace S := S.fz 2 rfl
  replace S := S.fz 3 rfl
  replace S := S.pk [0, 1] (os' := [blO b2 (planE.cells p) 47, blO b27 [bD (p.staged = true), sV p.rounds, sV r_t130, iI 0, .bool false, iI 0, .slice ad31 ((List.replicate (n).toNat (0 : Int)).length) ((n).toNat), .slice ad33 ((List.replicate (n).toNat (0 : Int)).length) ((n).toNat), .slice none 0 0] 89])
  replace S := S.oda (E := slE (slE chgE)) (x := p.rounds) (S.u 0 rfl).2
  replace S := S.oda (E := slE (slE intE)) (x := r_t130) (S.u 1 rfl)
  replace S := S.oda (E := slE intE) (x := (Sl.mk ad31 ((n).toNat) (List.replicate (n).toNat (0 : Int)))) (S.u 2 rfl)
  replace S := S.oda (E := slE intE) (x := (Sl.mk ad33 ((n).toNat) (List.replicate (n).toNat (0 : Int)))) (S.u 3 rfl)
  replace S := S.oda (E := slE intE) (x := ⟨none, 0, []⟩) sl_nil
  have hk11 : brK (⟨p.staged, p.rounds, r_t130, 0, false, 0, (Sl.mk ad31 ((n).toNat) (List.replicate (n).toNat (0 : Int))), (Sl.mk ad33 ((n).toNat) (List.replicate (n).toNat (0 : Int))), (Sl.mk none 0 ([]))⟩ : Brn) := ⟨(show inI64 0 from ⟨by omega, by omega⟩), (show inI64 0 from ⟨by omega, by omega⟩)⟩
  replace S := (show St _ _ _ _ _ _ ([blO b2 (planE.cells p) 47] ++ brF b27 (⟨p.staged, p.rounds, r_t130, 0, false, 0, (Sl.mk ad31 ((n).toNat) (List.replicate (n).toNat (0 : Int))), (Sl.mk ad33 ((n).toNat) (List.replicate (n).toNat (0 : Int))), (Sl.mk none 0 ([]))⟩ : Brn)) _ _ from S).cls
  replace S := (show St _ _ _ _ _ _ [blO b2 (planE.cells p) 47, bnO (brF b27 (⟨p.staged, p.rounds, r_t130, 0, false, 0, (Sl.mk ad31 ((n).toNat) (List.replicate (n).toNat (0 : Int))), (Sl.mk ad33 ((n).toNat) (List.replicate (n).toNat (0 : Int))), (Sl.mk none 0 ([]))⟩ : Brn))] _ _ from S)
  replace S := S.nr intE 3
  replace S := (show St _ _ _ _ _ _ [blO b2 (planE.cells p) 47, bnO (brF b27 (⟨p.staged, p.rounds, r_t130, 0, false, 0, (Sl.mk ad31 ((n).toNat) (List.replicate (n).toNat (0 : Int))), (Sl.mk ad33 ((n).toNat) (List.replicate (n).toNat (0 : Int))), (Sl.mk none 0 ([]))⟩ : Brn)), rwO intE 3 0 none 0 ([])] _ _ from S.b0 2 rfl)
  refine ret3 rfl S.s rfl rfl rfl ?_
  replace S := S.pk [1, 2] (os' := [bnO (brF b27 (⟨p.staged, p.rounds, r_t130, 0, false, 0, (Sl.mk ad31 ((n).toNat) (List.replicate (n).toNat (0 : Int))), (Sl.mk ad33 ((n).toNat) (List.replicate (n).toNat (0 : Int))), (Sl.mk none 0 ([]))⟩ : Brn)), rwO intE 3 0 none 0 ([])])
  have hx12 : newS p n = [] := by
   unfold newS; rw [if_pos ⟨hst2, by omega⟩, startC_out (by show (0 : Int) < 0 ∨ ((rdsP p).length : Int) ≤ 0; omega)]; rfl
  rw [hx12]
  refine ⟨(some (b27, (⟨p.staged, p.rounds, r_t130, 0, false, 0, (Sl.mk ad31 ((n).toNat) (List.replicate (n).toNat (0 : Int))), (Sl.mk ad33 ((n).toNat) (List.replicate (n).toNat (0 : Int))), (Sl.mk none 0 ([]))⟩ : Brn))), none, 0, (r3 rfl rfl (vt ?_)), hk11, (S.m.o _ (nth_mem (i := 0) rfl)), (S.row 1 rfl), ?_, S.m.c⟩
  ·rfl
  refine ⟨⟨fun _ => ⟨hst2, by omega⟩, fun _ => rfl⟩, fun x h => ?_⟩
  obtain rfl := (Option.some.inj h).symm
  have hz : (zerosP n).length = n.toNat := by unfold zerosP; simp
  have hr13 : r_t130.xs.map (fun l => l.xs) = sts := by rw [hr_t130, hst]; rfl
  refine ⟨⟨?_, ?_⟩, rfl, hr_t130, ?_⟩
  ·show PlanOK (zerosP n).length (rdsP p) (r_t130.xs.map fun l => l.xs)
   rw [hr13, hz]; exact hPO
  ·show CtlOK (zerosP n).length (rdsP p).length (newC n)
   rw [hz, show n = (n.toNat : Int) from by omega]; exact newC_ok
  rw [startC_out (by show (0 : Int) < 0 ∨ ((rdsP p).length : Int) ≤ 0; omega)]; rfl
 intro hc3
 refine wp_skip (then_n (rs0 ?_))
 refine sp S (tr (mv rfl)<|la (mv rfl)) ?_; clear S; intro a u S
 replace S := S.fz 2 rfl
 replace S := S.fz 3 rfl
 replace S := S.pk [0, 1] (os' := [blO b2 (planE.cells p) 47, blO b27 [bD (p.staged = true), sV p.rounds, sV r_t130, iI 0, .bool false, iI 0, .slice ad31 ((List.replicate (n).toNat (0 : Int)).length) ((n).toNat), .slice ad33 ((List.replicate (n).toNat (0 : Int)).length) ((n).toNat), .slice none 0 0] 89])
 replace S := S.oda (E := slE (slE chgE)) (x := p.rounds) (S.u 0 rfl).2
 replace S := S.oda (E := slE (slE intE)) (x := r_t130) (S.u 1 rfl)
 replace S := S.oda (E := slE intE) (x := (Sl.mk ad31 ((n).toNat) (List.replicate (n).toNat (0 : Int)))) (S.u 2 rfl)
 replace S := S.oda (E := slE intE) (x := (Sl.mk ad33 ((n).toNat) (List.replicate (n).toNat (0 : Int)))) (S.u 3 rfl)
 replace S := S.oda (E := slE intE) (x := ⟨none, 0, []⟩) sl_nil
 have hk14 : brK (⟨p.staged, p.rounds, r_t130, 0, false, 0, (Sl.mk ad31 ((n).toNat) (List.replicate (n).toNat (0 : Int))), (Sl.mk ad33 ((n).toNat) (List.replicate (n).toNat (0 : Int))), (Sl.mk none 0 ([]))⟩ : Brn) := ⟨(show inI64 0 from ⟨by omega, by omega⟩), (show inI64 0 from ⟨by omega, by omega⟩)⟩
 replace S := (show St _ _ _ _ _ _ ([blO b2 (planE.cells p) 47] ++ brF b27 (⟨p.staged, p.rounds, r_t130, 0, false, 0, (Sl.mk ad31 ((n).toNat) (List.replicate (n).toNat (0 : Int))), (Sl.mk ad33 ((n).toNat) (List.replicate (n).toNat (0 : Int))), (Sl.mk none 0 ([]))⟩ : Brn)) _ _ from S).cls
 replace S := (show St _ _ _ _ _ _ [blO b2 (planE.cells p) 47, bnO (brF b27 (⟨p.staged, p.rounds, r_t130, 0, false, 0, (Sl.mk ad31 ((n).toNat) (List.replicate (n).toNat (0 : Int))), (Sl.mk ad33 ((n).toNat) (List.replicate (n).toNat (0 : Int))), (Sl.mk none 0 ([]))⟩ : Brn))] _ _ from S)
 obtain ⟨y15, hy15⟩ : ∃ y : Brn, (⟨p.staged, p.rounds, r_t130, 0, false, 0, (Sl.mk ad31 ((n).toNat) (List.replicate (n).toNat (0 : Int))), (Sl.mk ad33 ((n).toNat) (List.replicate (n).toNat (0 : Int))), (Sl.mk none 0 ([]))⟩ : Brn) = y := ⟨_, rfl⟩; rw [hy15] at S hk14
 have hz : (zerosP n).length = n.toNat := by unfold zerosP; simp
 have hr13 : r_t130.xs.map (fun l => l.xs) = sts := by rw [hr_t130, hst]; rfl
 have hOK : BrOK y15 := by
  subst hy15
  refine ⟨?_, ?_⟩
  ·show PlanOK (zerosP n).length (rdsP p) (r_t130.xs.map fun l => l.xs)
   rw [hr13, hz]; exact hPO
  show CtlOK (zerosP n).length (rdsP p).length (newC n)
  rw [hz, show n = (n.toNat : Int) from by omega]; exact newC_ok
 have hOKy := hOK
 refine cl S (rStart _ _ (S.xx (ow [bnO (brF b27 y15)])) b27 y15 (S.mF (ks := [blO b2 (planE.cells p) 47]) (fs := [bnO (brF b27 y15)])) (S.nfF (ks := [blO b2 (planE.cells p) 47]) (fs := [bnO (brF b27 y15)]) hD) hk14 (S.dF (ks := [blO b2 (planE.cells p) 47]) (fs := [bnO (brF b27 y15)]) 0 rfl (mo_bn (mo_br _ _))) (by subst hy15; exact (⟨by first | assumption | exact hOK, by first | omega | (dsimp only; omega), by first | omega | (dsimp only; omega)⟩))) cB109 ?_
 rintro e u ⟨ra_t47, rc_t47, b_t47, rfl, R_t47, hk_b_t47, hK_b_t47, hq_b_t47, T0⟩; refine ⟨_, rfl, fun a s => ?_⟩
 have S2 := S.kF (ks := [blO b2 (planE.cells p) 47]) (fs := [bnO (brF b27 y15)]) [rwO intE 3 0 ra_t47 rc_t47 ((startC (rdB y15) (stB y15) (cB y15)).sent), bnO (brF b27 b_t47)] s T0 ⟨⟨R_t47.b0.own, R_t47.wf⟩, hK_b_t47, trivial⟩ ⟨mo_rw, (mo_bn (mo_br _ _)), trivial⟩
 replace S2 := (show St _ _ _ _ _ _ [blO b2 (planE.cells p) 47, rwO intE 3 0 ra_t47 rc_t47 ((startC (rdB y15) (stB y15) (cB y15)).sent), bnO (brF b27 b_t47)] _ _ from S2)
 clear S; have S := S2; clear S2 s T0 hK_b_t47 R_t47
 subst hy15
 refine ens S (tr (av rfl)<|tr (av rfl)<|la (av rfl)) ?_; clear S; intro a u S
 refine wp_ret ?_
 replace S := (show St _ _ _ _ _ _ [blO b2 (planE.cells p) 47, rwO intE 3 w.heap.size ra_t47 rc_t47 ((startC (rdB (⟨p.staged, p.rounds, r_t130, 0, false, 0, (Sl.mk ad31 ((n).toNat) (List.replicate (n).toNat (0 : Int))), (Sl.mk ad33 ((n).toNat) (List.replicate (n).toNat (0 : Int))), (Sl.mk none 0 ([]))⟩ : Brn)) (stB (⟨p.staged, p.rounds, r_t130, 0, false, 0, (Sl.mk ad31 ((n).toNat) (List.replicate (n).toNat (0 : Int))), (Sl.mk ad33 ((n).toNat) (List.replicate (n).toNat (0 : Int))), (Sl.mk none 0 ([]))⟩ : Brn)) (cB (⟨p.staged, p.rounds, r_t130, 0, false, 0, (Sl.mk ad31 ((n).toNat) (List.replicate (n).toNat (0 : Int))), (Sl.mk ad33 ((n).toNat) (List.replicate (n).toNat (0 : Int))), (Sl.mk none 0 ([]))⟩ : Brn))).sent), bnO (brF b27 b_t47)] _ _ from S.raise 1 rfl)
 replace S := (show St _ _ _ _ _ _ [blO b2 (planE.cells p) 47, rwO intE 3 0 ra_t47 rc_t47 ((startC (rdB (⟨p.staged, p.rounds, r_t130, 0, false, 0, (Sl.mk ad31 ((n).toNat) (List.replicate (n).toNat (0 : Int))), (Sl.mk ad33 ((n).toNat) (List.replicate (n).toNat (0 : Int))), (Sl.mk none 0 ([]))⟩ : Brn)) (stB (⟨p.staged, p.rounds, r_t130, 0, false, 0, (Sl.mk ad31 ((n).toNat) (List.replicate (n).toNat (0 : Int))), (Sl.mk ad33 ((n).toNat) (List.replicate (n).toNat (0 : Int))), (Sl.mk none 0 ([]))⟩ : Brn)) (cB (⟨p.staged, p.rounds, r_t130, 0, false, 0, (Sl.mk ad31 ((n).toNat) (List.replicate (n).toNat (0 : Int))), (Sl.mk ad33 ((n).toNat) (List.replicate (n).toNat (0 : Int))), (Sl.mk none 0 ([]))⟩ : Brn))).sent), bnO (brF b27 b_t47)] _ _ from S.b0 1 rfl)
 refine ret3 rfl S.s rfl rfl rfl ?_
 replace S := S.pk [2, 1] (os' := [bnO (brF b27 b_t47), rwO intE 3 0 ra_t47 rc_t47 ((startC (rdB (⟨p.staged, p.rounds, r_t130, 0, false, 0, (Sl.mk ad31 ((n).toNat) (List.replicate (n).toNat (0 : Int))), (Sl.mk ad33 ((n).toNat) (List.replicate (n).toNat (0 : Int))), (Sl.mk none 0 ([]))⟩ : Brn)) (stB (⟨p.staged, p.rounds, r_t130, 0, false, 0, (Sl.mk ad31 ((n).toNat) (List.replicate (n).toNat (0 : Int))), (Sl.mk ad33 ((n).toNat) (List.replicate (n).toNat (0 : Int))), (Sl.mk none 0 ([]))⟩ : Brn)) (cB (⟨p.staged, p.rounds, r_t130, 0, false, 0, (Sl.mk ad31 ((n).toNat) (List.replicate (n).toNat (0 : Int))), (Sl.mk ad33 ((n).toNat) (List.replicate (n).toNat (0 : Int))), (Sl.mk none 0 ([]))⟩ : Brn))).sent)])
 have hx16 : newS p n = (startC (rdB (⟨p.staged, p.rounds, r_t130, 0, false, 0, (Sl.mk ad31 ((n).toNat) (List.replicate (n).toNat (0 : Int))), (Sl.mk ad33 ((n).toNat) (List.replicate (n).toNat (0 : Int))), (Sl.mk none 0 ([]))⟩ : Brn)) (stB (⟨p.staged, p.rounds, r_t130, 0, false, 0, (Sl.mk ad31 ((n).toNat) (List.replicate (n).toNat (0 : Int))), (Sl.mk ad33 ((n).toNat) (List.replicate (n).toNat (0 : Int))), (Sl.mk none 0 ([]))⟩ : Brn)) (cB (⟨p.staged, p.rounds, r_t130, 0, false, 0, (Sl.mk ad31 ((n).toNat) (List.replicate (n).toNat (0 : Int))), (Sl.mk ad33 ((n).toNat) (List.replicate (n).toNat (0 : Int))), (Sl.mk none 0 ([]))⟩ : Brn))).sent := by
  unfold newS; rw [if_pos ⟨hst2, by omega⟩, ← hr_t130]; rfl
 rw [hx16]
 refine ⟨(some (b27, b_t47)), ra_t47, rc_t47, (r3 rfl rfl (vt ?_)), hk_b_t47, (S.m.o _ (nth_mem (i := 0) rfl)), (S.row 1 rfl), ?_, S.m.c⟩
 ·rfl
 refine ⟨⟨fun _ => ⟨hst2, by omega⟩, fun _ => rfl⟩, fun x h => ?_⟩
 obtain rfl := (Option.some.inj h).symm
 have hq := hq_b_t47
 refine ⟨machOK_of hOKy ⟨hq.1.2.1, hq.1.2.2⟩ ?_, ?_, ?_, ?_⟩
 ·show CtlOK _ _ (cB b_t47)
  rw [hq.2]
  exact (startC_ok hOKy.1 hOKy.2 fun _ _ => ⟨fun _ => Int.le_refl 0, fun h => by cases h⟩).1.sent []
 ·show rdB b_t47 = _
  rw [keepB_rd hq.1]; rfl
 ·show stB b_t47 = _
  rw [keepB_st hq.1]; exact hr_t130
 show cB b_t47 = _
 rw [hq.2, ← hr_t130]; rfl
end Go.Proofs.Ytobggnpnochnnaa.V
namespace Go.Proofs.Ytobggnpnochnnaa.V
open Go.RowKit Go.Proofs.Ytobggnpnochnnaa
set_option linter.unusedVariables false
set_option linter.unusedSimpArgs false
set_option maxHeartbeats 2000000 in
set_option maxRecDepth 20000 in
theorem cSum (w : World) (F : Nat → Prop) (hF : Old F w) (M : MS [] w) (b : Sl Int) (b_w : (slE u8E).wf (Fr F []) w.heap b) :
 Calls Try.prog 63 #[sV b] w fun e w' => e = .returned (.int .u32 (crcL b.xs)) ∧ Tr [] w [] w' := by
 have : b.xs.length ≤ 9223372036854775807 := (b_w).1.len
 refine go Try.func63 rfl 31 rfl [wfF (slE u8E) b] [] hF M ⟨b_w, trivial⟩ trivial ?_
 intro a S
 have hD : ∀ k, In ([] : List BS) k → ¬ F k := fun _ h => h.elim
 refine rs S (la (av rfl)) ?_; clear S; intro a u S
 refine rs S (la (av rfl)) ?_; clear S; intro a u S
 refine wp_seq ?_
 have hn4 : b.xs.length ≤ 9223372036854775807 := ((S.u 0 rfl)).1.len
 refine rs S (tr (mv rfl)<|tr (leni uT28 rfl)<|la (mv rfl)) ?_; clear S; intro a u S
 refine wp_block ?_
 refine lp2 (fun (i : Nat) (r : Int) => [(2, .int .u32 0), (7, sV b), (8, iN b.xs.length), (9, iN i), (3, .int .u32 r)]) (fun (i : Nat) (r : Int) => []) (fun (i : Nat) (r : Int) => i ≤ b.xs.length ∧ inU32 r ∧ r = crcReg (b.xs.take i)) (fun (i : Nat) (r : Int) => b.xs.length - i) S 0 4294967295 (subM rfl) rfl ?_ ?_
 ·exact ⟨Nat.zero_le _, ⟨by decide, by decide⟩, rfl⟩
 clear S; intro i r a u S hR
 obtain ⟨hi, hr32, hr⟩ := hR
 refine rs S (la (lssi rfl rfl)) ?_; clear S; intro a u S
 refine wp_seq ?_
 refine cd S rfl ?_ ?_
 ·intro hc0
  refine wp_skip (then_n (wp_seq (wp_block ?_)))
  obtain ⟨hl7, hu7⟩ : inU8 (b.xs.getD i u8E.dflt) := id (((S.u 0 rfl)).1.wf i (by omega))
  refine rs S (tr (idxi uT28 sZ5 rfl rfl i rfl (by omega) (((S.u 0 rfl)).1.adr (i := i) (by omega)))<|tr (ov fun S=>x_load sC5 (S.e rfl) (((S.u 0 rfl)).1.cell i (by omega) 0 _ rfl))<|la (av rfl)) ?_; clear S; intro a u S
  refine rs S (tr (mv rfl)<|tr (mv rfl)<|tr (ov fun S=>x_conv uT5 uT115 (S.e rfl) (r := (b.xs.getD i u8E.dflt)) (w_u32 (by omega)))<|tr (ov fun S=>x_bxor (S.e rfl) (S.e rfl))<|la (av rfl)) ?_; clear S; intro a u S
  refine rs S (la (mv rfl)) ?_; clear S; intro a u S
  refine wp_block ?_
  refine lp2 (fun (k : Nat) (q : Int) => [(2, .int .u32 0), (7, sV b), (8, iN b.xs.length), (9, iN i), (10, bD (((i : Nat) : Int) < ((b.xs.length : Nat) : Int))), (11, pT (blk b.a) (off b.a + i * 1)), (12, .int .u8 (b.xs.getD i u8E.dflt)), (5, .int .u8 (b.xs.getD i u8E.dflt)), (13, .int .u32 r), (14, .int .u8 (b.xs.getD i u8E.dflt)), (15, .int .u32 (b.xs.getD i u8E.dflt)), (16, .int .u32 (bXor .u32 r (b.xs.getD i u8E.dflt))), (17, iN k), (3, .int .u32 q)]) (fun (k : Nat) (q : Int) => []) (fun (k : Nat) (q : Int) => k ≤ 8 ∧ inU32 q ∧ q = crcRep k (bXor .u32 r (b.xs.getD i u8E.dflt))) (fun (k : Nat) (q : Int) => 8 - k) S 0 (bXor .u32 r (b.xs.getD i u8E.dflt)) (subM rfl) rfl ?_ ?_
  ·exact ⟨Nat.zero_le _, wu32 _, rfl⟩
  clear S; intro k q a u S hR
  obtain ⟨hk, hq32, hq⟩ := hR
  refine rs S (la (lssi rfl rfl)) ?_; clear S; intro a u S
  refine wp_seq ?_
  refine cd S rfl ?_ ?_
  ·intro hc1
   refine wp_skip (then_n (wp_seq (wp_block ?_)))
   refine rs S (tr (mv rfl)<|tr (ov fun S=>x_band (S.e rfl) (S.e rfl))<|la (av rfl)) ?_; clear S; intro a u S
   refine rs S (tr (mv rfl)<|tr (ov fun S=>x_shr (S.e rfl) (S.e rfl) (by omega))<|la (av rfl)) ?_; clear S; intro a u S
   refine rs S (tr (mv rfl)<|la (eqli rfl rfl)) ?_; clear S; intro a u S
   refine cd S rfl ?_ ?_
   ·intro hc2
    refine rg S (tr (mv rfl)<|tr (ov fun S=>x_bxor (S.e rfl) (S.e rfl))<|la (av rfl)) ?_; clear S; intro a u S
    refine blk_n (then_n ?_)
    refine rg S (tr (addi ((k + 1 : Nat) : Int) rfl rfl (w_i64 (by omega)))<|la (mv rfl)) ?_; clear S; intro a u S
    refine then_n ?_
    refine ⟨(k + 1), (bXor .u32 (sHr .u32 q 1) 3988292384), S.re (subM rfl) rfl rfl, ?_, ?_⟩
    ·refine ⟨by omega, by first | exact wu32 _ | exact sHr_in hq32, ?_⟩
     rw [crcRep, ← hq]
     unfold crcBit
     first
     | (rw [if_pos (by assumption)]; done)
     | (rw [if_neg (by assumption)]; done)
     | (rw [if_pos (by assumption)]; rfl)
     | (rw [if_neg (by assumption)]; rfl)
    omega
   intro hc3
   refine wp_skip (blk_n (then_n ?_))
   refine rg S (tr (addi ((k + 1 : Nat) : Int) rfl rfl (w_i64 (by omega)))<|la (mv rfl)) ?_; clear S; intro a u S
   refine then_n ?_
   refine ⟨(k + 1), (sHr .u32 q 1), S.re (subM rfl) rfl rfl, ?_, ?_⟩
   ·refine ⟨by omega, by first | exact wu32 _ | exact sHr_in hq32, ?_⟩
    rw [crcRep, ← hq]
    unfold crcBit
    first
    | (rw [if_pos (by assumption)]; done)
    | (rw [if_neg (by assumption)]; done)
    | (rw [if_pos (by assumption)]; rfl)
    | (rw [if_neg (by assumption)]; rfl)
   omega
  intro hc4
  refine wp_exit (then_e (then_e (blk_e (blk_n (then_n ?_)))))
  refine rg S (tr (addi ((i + 1 : Nat) : Int) rfl rfl (w_i64 (by omega)))<|la (mv rfl)) ?_; clear S; intro a u S
  refine then_n ?_
  refine ⟨(i + 1), q, S.re (subM rfl) rfl rfl, ?_, ?_⟩
  ·refine ⟨by omega, hq32, ?_⟩
   rw [hq, crcReg_up (by omega), ← hr, show k = 8 from by omega]; rfl
  omega
 intro hc5
 refine wp_exit (then_e (then_e (blk_e (then_n ?_))))
 refine rs S (tr (mv rfl)<|tr (ov fun S=>x_cplu32 (S.e rfl))<|la (av rfl)) ?_; clear S; intro a u S
 refine wp_ret ?_
 refine ret1 rfl S.s rfl ?_
 refine ⟨(r1 (vi ?_)), S.m.c⟩
 rw [hr, List.take_of_length_le (by omega)]; rfl
set_option maxHeartbeats 2000000 in
set_option maxRecDepth 20000 in
theorem rCRC (w : World) (F : Nat → Prop) (hF : Old F w) (M : MS [] w) (b : Sl Int) (b_w : (slE u8E).wf (Fr F []) w.heap b) :
 Calls Try.prog 66 #[sV b] w fun e w' => e = .returned (.int .u32 (crcL b.xs)) ∧ Tr [] w [] w' := by
 have : b.xs.length ≤ 9223372036854775807 := (b_w).1.len
 refine go Try.func66 rfl 34 rfl [wfF (slE u8E) b] [] hF M ⟨b_w, trivial⟩ trivial ?_
 intro a S
 have hD : ∀ k, In ([] : List BS) k → ¬ F k := fun _ h => h.elim
 refine rs S (la (av rfl)) ?_; clear S; intro a u S
 refine rs S (la (av rfl)) ?_; clear S; intro a u S
 refine wp_seq ?_
 refine rs S (la (av rfl)) ?_; clear S; intro a u S
 refine wp_block ?_
 refine lp2 (fun (i : Nat) (r : Int) => [(0, sV b), (2, .int .u32 0), (4, iN i), (3, .int .u32 r)]) (fun (i : Nat) (r : Int) => []) (fun (i : Nat) (r : Int) => i ≤ b.xs.length ∧ inU32 r ∧ r = crcReg (b.xs.take i)) (fun (i : Nat) (r : Int) => b.xs.length - i) S 0 4294967295 (subM rfl) rfl ?_ ?_
 ·exact ⟨Nat.zero_le _, ⟨by decide, by decide⟩, rfl⟩
 clear S; intro i r a u S hR
 obtain ⟨hi, hr32, hr⟩ := hR
 refine wp_seq ?_
 have hn5 : b.xs.length ≤ 9223372036854775807 := ((S.u 0 rfl)).1.len
 refine rs S (tr (mv rfl)<|tr (mv rfl)<|tr (leni uT28 rfl)<|la (lssi rfl rfl)) ?_; clear S; intro a u S
 refine cd S rfl ?_ ?_
 ·intro hc0
  refine wp_skip (then_n (wp_seq (wp_block ?_)))
  obtain ⟨hl7, hu7⟩ : inU8 (b.xs.getD i u8E.dflt) := id (((S.u 0 rfl)).1.wf i (by omega))
  refine rs S (tr (mv rfl)<|tr (mv rfl)<|tr (mv rfl)<|tr (idxi uT28 sZ5 rfl rfl i rfl (by omega) (((S.u 0 rfl)).1.adr (i := i) (by omega)))<|tr (ov fun S=>x_load sC5 (S.e rfl) (((S.u 0 rfl)).1.cell i (by omega) 0 _ rfl))<|tr (ov fun S=>x_conv uT5 uT115 (S.e rfl) (r := (b.xs.getD i u8E.dflt)) (w_u32 (by omega)))<|tr (ov fun S=>x_bxor (S.e rfl) (S.e rfl))<|la (av rfl)) ?_; clear S; intro a u S
  refine rs S (la (av rfl)) ?_; clear S; intro a u S
  refine wp_block ?_
  refine lp2 (fun (k : Nat) (q : Int) => [(0, sV b), (2, .int .u32 0), (4, iN i), (7, iN i), (8, sV b), (9, iN b.xs.length), (10, bD (((i : Nat) : Int) < ((b.xs.length : Nat) : Int))), (13, .int .u32 r), (14, sV b), (15, iN i), (16, pT (blk b.a) (off b.a + i * 1)), (17, .int .u8 (b.xs.getD i u8E.dflt)), (18, .int .u32 (b.xs.getD i u8E.dflt)), (19, .int .u32 (bXor .u32 r (b.xs.getD i u8E.dflt))), (5, iN k), (3, .int .u32 q)]) (fun (k : Nat) (q : Int) => []) (fun (k : Nat) (q : Int) => k ≤ 8 ∧ inU32 q ∧ q = crcRep k (bXor .u32 r (b.xs.getD i u8E.dflt))) (fun (k : Nat) (q : Int) => 8 - k) S 0 (bXor .u32 r (b.xs.getD i u8E.dflt)) (subM rfl) rfl ?_ ?_
  ·exact ⟨Nat.zero_le _, wu32 _, rfl⟩
  clear S; intro k q a u S hR
  obtain ⟨hk, hq32, hq⟩ := hR
  refine wp_seq ?_
  refine rs S (tr (mv rfl)<|la (lssi rfl rfl)) ?_; clear S; intro a u S
  refine cd S rfl ?_ ?_
  ·intro hc1
   refine wp_skip (then_n (wp_seq (wp_block ?_)))
   refine rs S (tr (mv rfl)<|tr (ov fun S=>x_band (S.e rfl) (S.e rfl))<|la (av rfl)) ?_; clear S; intro a u S
   refine rs S (tr (mv rfl)<|tr (ov fun S=>x_shr (S.e rfl) (S.e rfl) (by omega))<|la (av rfl)) ?_; clear S; intro a u S
   refine rs S (tr (mv rfl)<|la (eqli rfl rfl)) ?_; clear S; intro a u S
   refine cd S rfl ?_ ?_
   ·intro hc2
    refine rg S (tr (mv rfl)<|tr (ov fun S=>x_bxor (S.e rfl) (S.e rfl))<|la (av rfl)) ?_; clear S; intro a u S
    refine blk_n (then_n ?_)
    refine rg S (tr (mv rfl)<|tr (addi ((k + 1 : Nat) : Int) rfl rfl (w_i64 (by omega)))<|la (av rfl)) ?_; clear S; intro a u S
    refine then_n ?_
    refine ⟨(k + 1), (bXor .u32 (sHr .u32 q 1) 3988292384), S.re (subM rfl) rfl rfl, ?_, ?_⟩
    ·refine ⟨by omega, by first | exact wu32 _ | exact sHr_in hq32, ?_⟩
     rw [crcRep, ← hq]
     unfold crcBit
     first
     | (rw [if_pos (by assumption)]; done)
     | (rw [if_neg (by assumption)]; done)
     | (rw [if_pos (by assumption)]; rfl)
     | (rw [if_neg (by assumption)]; rfl)
    omega
   intro hc3
   refine wp_skip (blk_n (then_n ?_))
   refine rg S (tr (mv rfl)<|tr (addi ((k + 1 : Nat) : Int) rfl rfl (w_i64 (by omega)))<|la (av rfl)) ?_; clear S; intro a u S
   refine then_n ?_
   refine ⟨(k + 1), (sHr .u32 q 1), S.re (subM rfl) rfl rfl, ?_, ?_⟩
   ·refine ⟨by omega, by first | exact wu32 _ | exact sHr_in hq32, ?_⟩
    rw [crcRep, ← hq]
    unfold crcBit
    first
    | (rw [if_pos (by assumption)]; done)
    | (rw [if_neg (by assumption)]; done)
    | (rw [if_pos (by assumption)]; rfl)
    | (rw [if_neg (by assumption)]; rfl)
   omega
  intro hc4
  refine wp_exit (then_e (then_e (blk_e (blk_n (then_n ?_)))))
  refine rg S (tr (mv rfl)<|tr (addi ((i + 1 : Nat) : Int) rfl rfl (w_i64 (by omega)))<|la (av rfl)) ?_; clear S; intro a u S
  refine then_n ?_
  refine ⟨(i + 1), q, S.re (subM rfl) rfl rfl, ?_, ?_⟩
  ·refine ⟨by omega, hq32, ?_⟩
   rw [hq, crcReg_up (by omega), ← hr, show k = 8 from by omega]; rfl
  omega
 intro hc5
 refine wp_exit (then_e (then_e (blk_e (then_n ?_))))
 refine rs S (tr (mv rfl)<|tr (ov fun S=>x_cplu32 (S.e rfl))<|la (av rfl)) ?_; clear S; intro a u S
 refine wp_ret ?_
 refine ret1 rfl S.s rfl ?_
 refine ⟨(r1 (vi ?_)), S.m.c⟩
 rw [hr, List.take_of_length_le (by omega)]; rfl
end Go.Proofs.Ytobggnpnochnnaa.V
namespace Go.Proofs.Ytobggnpnochnnaa.V
open Go.RowKit Go.Proofs.Ytobggnpnochnnaa
set_option linter.unusedVariables false
set_option linter.unusedSimpArgs false
set_option maxHeartbeats 2000000 in
set_option maxRecDepth 20000 in
theorem jPut (w : World) (F : Nat → Prop) (hF : Old F w) (b_a : Option Addr) (M : MS [abk b_a] w) (hD : ∀ k, In [abk b_a] k → ¬ F k) (b_c : Nat) (b : List Int) (b_R : Row u8E 5 0 F [abk b_a] w b_a b_c b) (v : Int) (v_h : inU32 v) (hb : b.length ≤ 1000000) :
 Calls Try.prog 62 #[.slice b_a b.length b_c, .int .u32 v] w fun e w' => ∃ (ra : Option Addr) (rc : Nat), e = .returned (.slice ra ((b ++ be4 v).length) rc) ∧ Row u8E 5 0 F [abk ra] w' ra rc (b ++ be4 v) ∧ Tr [abk b_a] w [abk ra] w' := by
 obtain ⟨v_hl, v_hu⟩ : inU32 v := id v_h
 refine go Try.func62 rfl 19 rfl [] [rwO u8E 5 0 b_a b_c b] hF M trivial ⟨⟨b_R.own, b_R.wf⟩, trivial⟩ ?_
 intro a S
 refine rs S (la (av rfl)) ?_; clear S; intro a u S
 refine rs0 ?_
 refine sp S (tr (mv rfl)<|tr (mv rfl)<|tr (ov fun S=>x_shr (S.e rfl) (S.e rfl) (by omega))<|tr (ov fun S=>x_conv uT115 uT5 (S.e rfl) (r := (IntKind.u8.wrap (sHr .u32 v 24))) rfl)<|tr (mv rfl)<|tr (ov fun S=>x_shr (S.e rfl) (S.e rfl) (by omega))<|tr (ov fun S=>x_conv uT115 uT5 (S.e rfl) (r := (IntKind.u8.wrap (sHr .u32 v 16))) rfl)<|tr (mv rfl)<|tr (ov fun S=>x_shr (S.e rfl) (S.e rfl) (by omega))<|tr (ov fun S=>x_conv uT115 uT5 (S.e rfl) (r := (IntKind.u8.wrap (sHr .u32 v 8))) rfl)<|tr (mv rfl)<|la (ov fun S=>x_conv uT115 uT5 (S.e rfl) (r := (IntKind.u8.wrap v)) rfl)) ?_; clear S; intro a u S
 refine nbs u8E S [(IntKind.u8.wrap (sHr .u32 v 24)), (IntKind.u8.wrap (sHr .u32 v 16)), (IntKind.u8.wrap (sHr .u32 v 8)), (IntKind.u8.wrap v)] (x_bs S [(0, .int .u8 (IntKind.u8.wrap (sHr .u32 v 24))), (1, .int .u8 (IntKind.u8.wrap (sHr .u32 v 16))), (2, .int .u8 (IntKind.u8.wrap (sHr .u32 v 8))), (3, .int .u8 (IntKind.u8.wrap v))] uT28 iZ5) (fun x hx => by simp only [List.mem_cons, List.not_mem_nil, or_false] at hx; rcases hx with hx | hx | hx | hx <;> rw [hx] <;> first | exact (show u8E.wf _ _ (IntKind.u8.wrap (sHr .u32 v 24)) from (wu8 _)) | exact (show u8E.wf _ _ (IntKind.u8.wrap (sHr .u32 v 16)) from (wu8 _)) | exact (show u8E.wf _ _ (IntKind.u8.wrap (sHr .u32 v 8)) from (wu8 _)) | exact (show u8E.wf _ _ (IntKind.u8.wrap v) from (wu8 _))) ?_; clear S; intro a u b17 S
 refine ap (E := u8E) (ys := [(IntKind.u8.wrap (sHr .u32 v 24)), (IntKind.u8.wrap (sHr .u32 v 16)), (IntKind.u8.wrap (sHr .u32 v 8)), (IntKind.u8.wrap v)]) S 0 rfl uT28 iZ5 rfl rfl (show LAt u8E _ _ (some ⟨b17, 0, none⟩) ([(IntKind.u8.wrap (sHr .u32 v 24)), (IntKind.u8.wrap (sHr .u32 v 16)), (IntKind.u8.wrap (sHr .u32 v 8)), (IntKind.u8.wrap v)]) from ((S.u 0 rfl)).1) ((S.u 0 rfl)).2.2 (LAt.mem (show LAt u8E _ _ (some ⟨b17, 0, none⟩) ([(IntKind.u8.wrap (sHr .u32 v 24)), (IntKind.u8.wrap (sHr .u32 v 16)), (IntKind.u8.wrap (sHr .u32 v 8)), (IntKind.u8.wrap v)]) from ((S.u 0 rfl)).1)) ⟨by unfold maxLen; (try simp only [List.length_cons, List.length_nil, List.length_append, List.length_map]); omega, by (try simp only [List.length_cons, List.length_nil, List.length_append, List.length_map]); omega⟩ ?_; clear S; intro a u ad18 cap18 S
 refine ens S (la (av rfl)) ?_; clear S; intro a u S
 refine wp_ret ?_
 refine ret1 rfl S.s rfl ?_
 have hx3 : b ++ be4 v = (b ++ [(IntKind.u8.wrap (sHr .u32 v 24)), (IntKind.u8.wrap (sHr .u32 v 16)), (IntKind.u8.wrap (sHr .u32 v 8)), (IntKind.u8.wrap v)]) := by
  unfold be4
  rw [wrap8, wrap8, wrap8, wrap8, sHr_q (p := 24) (q := 16777216) rfl (by decide), sHr_q (p := 16) (q := 65536) rfl (by decide), sHr_q (p := 8) (q := 256) rfl (by decide)]
 rw [hx3]
 refine ⟨ad18, cap18, rfl, (S.row 0 rfl), S.m.c⟩
set_option maxHeartbeats 2000000 in
set_option maxRecDepth 20000 in
theorem jTake (w : World) (F : Nat → Prop) (hF : Old F w) (M : MS [] w) (b : Sl Int) (b_w : (slE u8E).wf (Fr F []) w.heap b) (k : Int) (k_h : inI64 k) (hk : 0 ≤ k ∧ k + 4 ≤ b.xs.length) :
 Calls Try.prog 67 #[sV b, iI k] w fun e w' => e = .returned (.int .u32 (num4 b.xs (k : Int).toNat)) ∧ Tr [] w [] w' := by
 have : b.xs.length ≤ 9223372036854775807 := (b_w).1.len
 obtain ⟨k_hl, k_hu⟩ : inI64 k := id k_h
 refine go Try.func67 rfl 34 rfl [wfF (slE u8E) b] [] hF M ⟨b_w, trivial⟩ trivial ?_
 intro a S
 have hD : ∀ k, In ([] : List BS) k → ¬ F k := fun _ h => h.elim
 refine rs S (la (av rfl)) ?_; clear S; intro a u S
 refine wp_seq ?_
 obtain ⟨hl2, hu2⟩ : inU8 (b.xs.getD ((k).toNat) u8E.dflt) := id (((S.u 0 rfl)).1.wf (k).toNat (by omega))
 obtain ⟨hl3, hu3⟩ : inU8 (b.xs.getD (((k + 1)).toNat) u8E.dflt) := id (((S.u 0 rfl)).1.wf ((k + 1)).toNat (by omega))
 obtain ⟨hl4, hu4⟩ : inU8 (b.xs.getD (((k + 2)).toNat) u8E.dflt) := id (((S.u 0 rfl)).1.wf ((k + 2)).toNat (by omega))
 obtain ⟨hl5, hu5⟩ : inU8 (b.xs.getD (((k + 3)).toNat) u8E.dflt) := id (((S.u 0 rfl)).1.wf ((k + 3)).toNat (by omega))
 replace S := S.l [(0, sV b), (1, iI k)] (subM rfl)
 refine dr (P := Try.prog) S 30 [] ((5, .is _) :: (6, .is _) :: (7, .is _) :: (8, .is _) :: (9, .is _) :: (10, .is _) :: (11, .is _) :: (12, .is _) :: (13, .is _) :: (14, .is _) :: (15, .is _) :: (16, .is _) :: (17, .is _) :: (18, .is _) :: (19, .is _) :: (20, .is _) :: (21, .is _) :: (22, .is _) :: (23, .is _) :: (24, .is _) :: (25, .is _) :: (26, .is _) :: (27, .is _) :: (28, .is _) :: (29, .is _) :: (30, .is _) :: (31, .is _) :: (32, .is _) :: (33, .is _) :: (4, .is _) :: []) ([] :: [] :: [5, 6] :: [7] :: [8] :: [9] :: [] :: [] :: [12] :: [11, 13] :: [14] :: [15] :: [16] :: [10, 17] :: [] :: [] :: [20] :: [19, 21] :: [22] :: [23] :: [24] :: [18, 25] :: [] :: [] :: [28] :: [27, 29] :: [30] :: [31] :: [26, 32] :: [33] :: []) [4] _ ⟨qd (mv rfl), qd (mv rfl), qd (idxi uT28 sZ5 rfl rfl (k).toNat (by omega) (by omega) (((S.u 0 rfl)).1.adr (i := (k).toNat) (by omega))), qd (ov fun S=>x_load sC5 (S.e rfl) (((S.u 0 rfl)).1.cell (k).toNat (by omega) 0 _ rfl)), qd (ov fun S=>x_conv uT5 uT115 (S.e rfl) (r := (b.xs.getD ((k).toNat) u8E.dflt)) (w_u32 (by omega))), qd (ov fun S=>x_shl (S.e rfl) (S.e rfl) (by omega)), qd (mv rfl), qd (mv rfl), qd (addi (k + 1) rfl rfl (w_i64 (by omega))), qd (idxi uT28 sZ5 rfl rfl ((k + 1)).toNat (by omega) (by omega) (((S.u 0 rfl)).1.adr (i := ((k + 1)).toNat) (by omega))), qd (ov fun S=>x_load sC5 (S.e rfl) (((S.u 0 rfl)).1.cell ((k + 1)).toNat (by omega) 0 _ rfl)), qd (ov fun S=>x_conv uT5 uT115 (S.e rfl) (r := (b.xs.getD (((k + 1)).toNat) u8E.dflt)) (w_u32 (by omega))), qd (ov fun S=>x_shl (S.e rfl) (S.e rfl) (by omega)), qd (ov fun S=>x_bor (S.e rfl) (S.e rfl)), qd (mv rfl), qd (mv rfl), qd (addi (k + 2) rfl rfl (w_i64 (by omega))), qd (idxi uT28 sZ5 rfl rfl ((k + 2)).toNat (by omega) (by omega) (((S.u 0 rfl)).1.adr (i := ((k + 2)).toNat) (by omega))), qd (ov fun S=>x_load sC5 (S.e rfl) (((S.u 0 rfl)).1.cell ((k + 2)).toNat (by omega) 0 _ rfl)), qd (ov fun S=>x_conv uT5 uT115 (S.e rfl) (r := (b.xs.getD (((k + 2)).toNat) u8E.dflt)) (w_u32 (by omega))), qd (ov fun S=>x_shl (S.e rfl) (S.e rfl) (by omega)), qd (ov fun S=>x_bor (S.e rfl) (S.e rfl)), qd (mv rfl), qd (mv rfl), qd (addi (k + 3) rfl rfl (w_i64 (by omega))), qd (idxi uT28 sZ5 rfl rfl ((k + 3)).toNat (by omega) (by omega) (((S.u 0 rfl)).1.adr (i := ((k + 3)).toNat) (by omega))), qd (ov fun S=>x_load sC5 (S.e rfl) (((S.u 0 rfl)).1.cell ((k + 3)).toNat (by omega) 0 _ rfl)), qd (ov fun S=>x_conv uT5 uT115 (S.e rfl) (r := (b.xs.getD (((k + 3)).toNat) u8E.dflt)) (w_u32 (by omega))), qd (ov fun S=>x_bor (S.e rfl) (S.e rfl)), qd (av rfl), trivial⟩ ?_
 clear S; intro a u S G hE
 obtain ⟨hl6, hu6⟩ : inU32 (bOr .u32 (bOr .u32 (bOr .u32 (sHl .u32 (b.xs.getD ((k).toNat) u8E.dflt) 24) (sHl .u32 (b.xs.getD (((k + 1)).toNat) u8E.dflt) 16)) (sHl .u32 (b.xs.getD (((k + 2)).toNat) u8E.dflt) 8)) (b.xs.getD (((k + 3)).toNat) u8E.dflt)) := id (wu32 _)
 obtain ⟨hl7, hu7⟩ : inI64 k := id k_h
 obtain ⟨hl8, hu8⟩ : inU8 (b.xs.getD ((k).toNat) u8E.dflt) := id (((S.u 0 rfl)).1.wf (k).toNat (by omega))
 obtain ⟨hl9, hu9⟩ : inU32 (sHl .u32 (b.xs.getD ((k).toNat) u8E.dflt) 24) := id (wu32 _)
 obtain ⟨hl10, hu10⟩ : inU8 (b.xs.getD (((k + 1)).toNat) u8E.dflt) := id (((S.u 0 rfl)).1.wf ((k + 1)).toNat (by omega))
 obtain ⟨hl11, hu11⟩ : inU32 (sHl .u32 (b.xs.getD (((k + 1)).toNat) u8E.dflt) 16) := id (wu32 _)
 obtain ⟨hl12, hu12⟩ : inU32 (bOr .u32 (sHl .u32 (b.xs.getD ((k).toNat) u8E.dflt) 24) (sHl .u32 (b.xs.getD (((k + 1)).toNat) u8E.dflt) 16)) := id (wu32 _)
 obtain ⟨hl13, hu13⟩ : inU8 (b.xs.getD (((k + 2)).toNat) u8E.dflt) := id (((S.u 0 rfl)).1.wf ((k + 2)).toNat (by omega))
 obtain ⟨hl14, hu14⟩ : inU32 (sHl .u32 (b.xs.getD (((k + 2)).toNat) u8E.dflt) 8) := id (wu32 _)
 obtain ⟨hl15, hu15⟩ : inU32 (bOr .u32 (bOr .u32 (sHl .u32 (b.xs.getD ((k).toNat) u8E.dflt) 24) (sHl .u32 (b.xs.getD (((k + 1)).toNat) u8E.dflt) 16)) (sHl .u32 (b.xs.getD (((k + 2)).toNat) u8E.dflt) 8)) := id (wu32 _)
 obtain ⟨hl16, hu16⟩ : inU8 (b.xs.getD (((k + 3)).toNat) u8E.dflt) := id (((S.u 0 rfl)).1.wf ((k + 3)).toNat (by omega))
 refine ent (wp_ret ?_)
 refine ret1 rfl S.s rfl ?_
 refine ⟨(r1 (vi ?_)), S.m.c⟩
 have e := or4_u32 (a := b.xs.getD k.toNat u8E.dflt) (b := b.xs.getD (k + 1).toNat u8E.dflt) (c := b.xs.getD (k + 2).toNat u8E.dflt) (d := b.xs.getD (k + 3).toNat u8E.dflt) ⟨by assumption, by assumption⟩ ⟨by assumption, by assumption⟩ ⟨by assumption, by assumption⟩ ⟨by assumption, by assumption⟩
 rw [e, show (k + 1).toNat = k.toNat + 1 from by omega, show (k + 2).toNat = k.toNat + 2 from by omega, show (k + 3).toNat = k.toNat + 3 from by omega]; rfl
set_option maxHeartbeats 2000000 in
set_option maxRecDepth 20000 in
theorem jValid (w : World) (F : Nat → Prop) (hF : Old F w) (M : MS [] w) (r : Rec) (r_w : recE.wf (Fr F []) w.heap r) :
 Calls Try.prog 61 #[.agg (recE.cells r).toArray] w fun e w' => e = .returned (bD (recOK r)) ∧ Tr [] w [] w' := by
 obtain ⟨_, _⟩ : inI64 r.kind := r_w.1
 obtain ⟨_, _⟩ : inI64 r.dev := r_w.2.1
 obtain ⟨_, _⟩ : inI64 r.inc := r_w.2.2.1
 obtain ⟨_, _⟩ : inI64 r.seq := r_w.2.2.2
 refine go Try.func61 rfl 55 rfl [wfF recE r] [] hF M ⟨r_w, trivial⟩ trivial ?_
 intro a S
 have hD : ∀ k, In ([] : List BS) k → ¬ F k := fun _ h => h.elim
 refine rs0 ?_
 refine nbp S (x_box _ (S.e rfl) rfl) ?_; clear S; intro a u b1 S
 refine ens S (la (av rfl)) ?_; clear S; intro a u S
 refine wp_seq ?_
 refine rs S (tr (fldi 0 1 rfl uT24)<|tr (ldk 0 sC3 rfl rfl rfl)<|tr (lssi rfl rfl)<|tr (mv rfl)<|tr (og 6 rfl gf fun S hg=>xf (0) 1 uT24 (S.e rfl))<|tr (og 6 rfl gf fun S hg=>x_load sC3 (S.p rfl hg) ((S.k 0 rfl).cell (j := 1) rfl))<|tr (og 6 rfl gf fun S hg=>x_geq (S.p rfl hg) (S.e rfl))<|tr (ori rfl rfl rfl)<|tr (mv rfl)<|tr (og 11 rfl gf fun S hg=>xf (0) 2 uT24 (S.e rfl))<|tr (og 11 rfl gf fun S hg=>x_load sC3 (S.p rfl hg) ((S.k 0 rfl).cell (j := 2) rfl))<|tr (og 11 rfl gf fun S hg=>x_lss (S.p rfl hg) (S.e rfl))<|tr (ori rfl rfl rfl)<|tr (mv rfl)<|tr (og 16 rfl gf fun S hg=>xf (0) 2 uT24 (S.e rfl))<|tr (og 16 rfl gf fun S hg=>x_load sC3 (S.p rfl hg) ((S.k 0 rfl).cell (j := 2) rfl))<|tr (og 16 rfl gf fun S hg=>x_gtr (S.p rfl hg) (S.e rfl))<|tr (ori rfl rfl rfl)<|tr (mv rfl)<|tr (og 21 rfl gf fun S hg=>xf (0) 3 uT24 (S.e rfl))<|tr (og 21 rfl gf fun S hg=>x_load sC3 (S.p rfl hg) ((S.k 0 rfl).cell (j := 3) rfl))<|tr (og 21 rfl gf fun S hg=>x_lss (S.p rfl hg) (S.e rfl))<|tr (ori rfl rfl rfl)<|tr (mv rfl)<|tr (og 26 rfl gf fun S hg=>xf (0) 3 uT24 (S.e rfl))<|tr (og 26 rfl gf fun S hg=>x_load sC3 (S.p rfl hg) ((S.k 0 rfl).cell (j := 3) rfl))<|tr (og 26 rfl gf fun S hg=>x_gtr (S.p rfl hg) (S.e rfl))<|la (ori rfl rfl rfl)) ?_; clear S; intro a u S
 refine cd S rfl ?_ ?_
 ·intro hc0
  refine rs S (la (av rfl)) ?_; clear S; intro a u S
  refine wp_ret (then_r ?_)
  refine ret1 rfl S.s rfl ?_
  replace S := S.pk []
  refine ⟨(r1 (vf ?_)), S.m.c⟩
  unfold recOK
  omega
 intro hc1
 refine wp_skip (then_n (wp_seq ?_))
 refine rs S (tr (fldi 0 0 rfl uT24)<|la (ldk 0 sC3 rfl rfl rfl)) ?_; clear S; intro a u S
 refine wp_block ?_
 refine rs S (tr (eqli rfl rfl)<|la (av rfl)) ?_; clear S; intro a u S
 refine cd S rfl ?_ ?_
 ·intro hc2
  refine rs S (la (av rfl)) ?_; clear S; intro a u S
  refine wp_ret (blk_r (then_r ?_))
  refine ret1 rfl S.s rfl ?_
  replace S := S.pk []
  refine ⟨(r1 (vt ?_)), S.m.c⟩
  unfold recOK
  omega
 intro hc3
 refine rs S (tr (eqli rfl rfl)<|la (av rfl)) ?_; clear S; intro a u S
 refine cd S rfl ?_ ?_
 ·intro hc4
  refine rs S (tr (fldi 0 3 rfl uT24)<|tr (ldk 0 sC3 rfl rfl rfl)<|tr (eqli rfl rfl)<|la (av rfl)) ?_; clear S; intro a u S
  refine wp_ret (blk_r (then_r ?_))
  refine ret1 rfl S.s rfl ?_
  replace S := S.pk []
  refine ⟨(r1 (vb ?_)), S.m.c⟩
  unfold recOK
  omega
 intro hc5
 refine rs S (tr (eqli rfl rfl)<|la (av rfl)) ?_; clear S; intro a u S
 refine cd S rfl ?_ ?_
 ·intro hc6
  refine rs S (tr (fldi 0 3 rfl uT24)<|tr (ldk 0 sC3 rfl rfl rfl)<|tr (eqli rfl rfl)<|tr (mv rfl)<|tr (og 45 rfl gt fun S hg=>xf (0) 2 uT24 (S.e rfl))<|tr (og 45 rfl gt fun S hg=>x_load sC3 (S.p rfl hg) ((S.k 0 rfl).cell (j := 2) rfl))<|tr (og 45 rfl gt fun S hg=>x_eql (S.p rfl hg) (S.e rfl))<|tr (andi rfl rfl rfl)<|la (av rfl)) ?_; clear S; intro a u S
  refine wp_ret (blk_r (then_r ?_))
  refine ret1 rfl S.s rfl ?_
  replace S := S.pk []
  refine ⟨(r1 (vb ?_)), S.m.c⟩
  unfold recOK
  omega
 intro hc7
 refine rs S (tr (eqli rfl rfl)<|la (av rfl)) ?_; clear S; intro a u S
 refine cd S rfl ?_ ?_
 ·intro hc8
  refine rs S (tr (ldkw 0 rfl rfl wD24)<|tr (ov fun S=>x_bd S [(0, iI 4)] [iI 4, iI 0, iI 0, iI 0])<|tr (ov fun S=>x_ageql uT24 (by kernel_rfl) (by kernel_rfl) (S.e rfl) (S.e rfl) (.cons rfl rfl rfl rfl (.int uT3) (.cons rfl rfl rfl rfl (.int uT3) (.cons rfl rfl rfl rfl (.int uT3) (.one rfl rfl rfl rfl (.int uT3))))))<|la (av rfl)) ?_; clear S; intro a u S
  refine wp_ret (blk_r (then_r ?_))
  refine ret1 rfl S.s rfl ?_
  replace S := S.pk []
  refine ⟨(r1 (vb ?_)), S.m.c⟩
  unfold recOK
  omega
 intro hc9
 refine wp_skip (blk_n (then_n ?_))
 refine rs S (la (av rfl)) ?_; clear S; intro a u S
 refine wp_ret ?_
 refine ret1 rfl S.s rfl ?_
 replace S := S.pk []
 refine ⟨(r1 (vf ?_)), S.m.c⟩
 unfold recOK
 omega
set_option maxHeartbeats 2000000 in
set_option maxRecDepth 20000 in
theorem rValid (w : World) (F : Nat → Prop) (hF : Old F w) (M : MS [] w) (r : Rec) (r_w : recE.wf (Fr F []) w.heap r) :
 Calls Try.prog 64 #[.agg (recE.cells r).toArray] w fun e w' => e = .returned (bD (recOK r)) ∧ Tr [] w [] w' := by
 obtain ⟨_, _⟩ : inI64 r.kind := r_w.1
 obtain ⟨_, _⟩ : inI64 r.dev := r_w.2.1
 obtain ⟨_, _⟩ : inI64 r.inc := r_w.2.2.1
 obtain ⟨_, _⟩ : inI64 r.seq := r_w.2.2.2
 refine go Try.func64 rfl 73 rfl [wfF recE r] [] hF M ⟨r_w, trivial⟩ trivial ?_
 intro a S
 have hD : ∀ k, In ([] : List BS) k → ¬ F k := fun _ h => h.elim
 refine rs0 ?_
 refine nbp S (x_box _ (S.e rfl) rfl) ?_; clear S; intro a u b1 S
 refine ens S (la (av rfl)) ?_; clear S; intro a u S
 refine wp_seq ?_
 refine rs S (tr (fldi 0 0 rfl uT24)<|tr (ldk 0 sC3 rfl rfl rfl)<|tr (lssi rfl rfl)<|tr (mv rfl)<|tr (og 6 rfl gf fun S hg=>xf (0) 0 uT24 (S.e rfl))<|tr (og 6 rfl gf fun S hg=>x_load sC3 (S.p rfl hg) ((S.k 0 rfl).cell (j := 0) rfl))<|tr (og 6 rfl gf fun S hg=>x_gtr (S.p rfl hg) (S.e rfl))<|tr (ori rfl rfl rfl)<|tr (mv rfl)<|tr (og 11 rfl gf fun S hg=>xf (0) 1 uT24 (S.e rfl))<|tr (og 11 rfl gf fun S hg=>x_load sC3 (S.p rfl hg) ((S.k 0 rfl).cell (j := 1) rfl))<|tr (og 11 rfl gf fun S hg=>x_lss (S.p rfl hg) (S.e rfl))<|tr (ori rfl rfl rfl)<|tr (mv rfl)<|tr (og 16 rfl gf fun S hg=>xf (0) 1 uT24 (S.e rfl))<|tr (og 16 rfl gf fun S hg=>x_load sC3 (S.p rfl hg) ((S.k 0 rfl).cell (j := 1) rfl))<|tr (og 16 rfl gf fun S hg=>x_geq (S.p rfl hg) (S.e rfl))<|tr (ori rfl rfl rfl)<|tr (mv rfl)<|tr (og 21 rfl gf fun S hg=>xf (0) 2 uT24 (S.e rfl))<|tr (og 21 rfl gf fun S hg=>x_load sC3 (S.p rfl hg) ((S.k 0 rfl).cell (j := 2) rfl))<|tr (og 21 rfl gf fun S hg=>x_lss (S.p rfl hg) (S.e rfl))<|tr (ori rfl rfl rfl)<|tr (mv rfl)<|tr (og 26 rfl gf fun S hg=>xf (0) 2 uT24 (S.e rfl))<|tr (og 26 rfl gf fun S hg=>x_load sC3 (S.p rfl hg) ((S.k 0 rfl).cell (j := 2) rfl))<|tr (og 26 rfl gf fun S hg=>x_gtr (S.p rfl hg) (S.e rfl))<|tr (ori rfl rfl rfl)<|tr (mv rfl)<|tr (og 31 rfl gf fun S hg=>xf (0) 3 uT24 (S.e rfl))<|tr (og 31 rfl gf fun S hg=>x_load sC3 (S.p rfl hg) ((S.k 0 rfl).cell (j := 3) rfl))<|tr (og 31 rfl gf fun S hg=>x_lss (S.p rfl hg) (S.e rfl))<|tr (ori rfl rfl rfl)<|tr (mv rfl)<|tr (og 36 rfl gf fun S hg=>xf (0) 3 uT24 (S.e rfl))<|tr (og 36 rfl gf fun S hg=>x_load sC3 (S.p rfl hg) ((S.k 0 rfl).cell (j := 3) rfl))<|tr (og 36 rfl gf fun S hg=>x_gtr (S.p rfl hg) (S.e rfl))<|la (ori rfl rfl rfl)) ?_; clear S; intro a u S
 refine cd S rfl ?_ ?_
 ·intro hc0
  refine rs S (la (av rfl)) ?_; clear S; intro a u S
  refine wp_ret (then_r ?_)
  refine ret1 rfl S.s rfl ?_
  replace S := S.pk []
  refine ⟨(r1 (vf ?_)), S.m.c⟩
  unfold recOK
  omega
 intro hc1
 refine wp_skip (then_n (wp_seq ?_))
 refine rs S (tr (fldi 0 0 rfl uT24)<|la (ldk 0 sC3 rfl rfl rfl)) ?_; clear S; intro a u S
 refine wp_block ?_
 refine rs S (tr (eqli rfl rfl)<|la (av rfl)) ?_; clear S; intro a u S
 refine cd S rfl ?_ ?_
 ·intro hc2
  refine rs S (tr (fldi 0 3 rfl uT24)<|tr (ldk 0 sC3 rfl rfl rfl)<|tr (eqli rfl rfl)<|la (av rfl)) ?_; clear S; intro a u S
  refine wp_ret (blk_r (then_r ?_))
  refine ret1 rfl S.s rfl ?_
  replace S := S.pk []
  refine ⟨(r1 (vb ?_)), S.m.c⟩
  unfold recOK
  omega
 intro hc3
 refine rs S (tr (eqli rfl rfl)<|la (av rfl)) ?_; clear S; intro a u S
 refine cd S rfl ?_ ?_
 ·intro hc4
  refine rs S (tr (fldi 0 2 rfl uT24)<|tr (ldk 0 sC3 rfl rfl rfl)<|tr (eqli rfl rfl)<|tr (mv rfl)<|tr (og 53 rfl gt fun S hg=>xf (0) 3 uT24 (S.e rfl))<|tr (og 53 rfl gt fun S hg=>x_load sC3 (S.p rfl hg) ((S.k 0 rfl).cell (j := 3) rfl))<|tr (og 53 rfl gt fun S hg=>x_eql (S.p rfl hg) (S.e rfl))<|tr (andi rfl rfl rfl)<|la (av rfl)) ?_; clear S; intro a u S
  refine wp_ret (blk_r (then_r ?_))
  refine ret1 rfl S.s rfl ?_
  replace S := S.pk []
  refine ⟨(r1 (vb ?_)), S.m.c⟩
  unfold recOK
  omega
 intro hc5
 refine rs S (tr (eqli rfl rfl)<|la (av rfl)) ?_; clear S; intro a u S
 refine cd S rfl ?_ ?_
 ·intro hc6
  refine rs S (tr (fldi 0 1 rfl uT24)<|tr (ldk 0 sC3 rfl rfl rfl)<|tr (eqli rfl rfl)<|tr (mv rfl)<|tr (og 63 rfl gt fun S hg=>xf (0) 2 uT24 (S.e rfl))<|tr (og 63 rfl gt fun S hg=>x_load sC3 (S.p rfl hg) ((S.k 0 rfl).cell (j := 2) rfl))<|tr (og 63 rfl gt fun S hg=>x_eql (S.p rfl hg) (S.e rfl))<|tr (andi rfl rfl rfl)<|tr (mv rfl)<|tr (og 68 rfl gt fun S hg=>xf (0) 3 uT24 (S.e rfl))<|tr (og 68 rfl gt fun S hg=>x_load sC3 (S.p rfl hg) ((S.k 0 rfl).cell (j := 3) rfl))<|tr (og 68 rfl gt fun S hg=>x_eql (S.p rfl hg) (S.e rfl))<|tr (andi rfl rfl rfl)<|la (av rfl)) ?_; clear S; intro a u S
  refine wp_ret (blk_r (then_r ?_))
  refine ret1 rfl S.s rfl ?_
  replace S := S.pk []
  refine ⟨(r1 (vb ?_)), S.m.c⟩
  unfold recOK
  omega
 intro hc7
 refine wp_skip (blk_n (then_n ?_))
 refine rs S (la (av rfl)) ?_; clear S; intro a u S
 refine wp_ret ?_
 refine ret1 rfl S.s rfl ?_
 replace S := S.pk []
 refine ⟨(r1 (vt ?_)), S.m.c⟩
 unfold recOK
 omega
set_option maxHeartbeats 2000000 in
set_option maxRecDepth 20000 in
theorem rPut (w : World) (F : Nat → Prop) (hF : Old F w) (b_a : Option Addr) (M : MS [abk b_a] w) (hD : ∀ k, In [abk b_a] k → ¬ F k) (b_c : Nat) (b : List Int) (b_R : Row u8E 5 0 F [abk b_a] w b_a b_c b) (v : Int) (v_h : inU64 v) (c : Int) (c_h : inI64 c) (hb : b.length ≤ 1000000 ∧ c = 4) :
 Calls Try.prog 65 #[.slice b_a b.length b_c, .int .u64 v, iI c] w fun e w' => ∃ (ra : Option Addr) (rc : Nat), e = .returned (.slice ra ((b ++ be4 v).length) rc) ∧ Row u8E 5 0 F [abk ra] w' ra rc (b ++ be4 v) ∧ Tr [abk b_a] w [abk ra] w' := by
 obtain ⟨v_hl, v_hu⟩ : inU64 v := id v_h
 obtain ⟨c_hl, c_hu⟩ : inI64 c := id c_h
 refine go Try.func65 rfl 24 rfl [] [rwO u8E 5 0 b_a b_c b] hF M trivial ⟨⟨b_R.own, b_R.wf⟩, trivial⟩ ?_
 intro a S
 refine rs S (la (av rfl)) ?_; clear S; intro a u S
 refine wp_seq ?_
 refine rs S (tr (mv rfl)<|tr (subi (c - 1) rfl rfl (w_i64 (by omega)))<|la (av rfl)) ?_; clear S; intro a u S
 refine wp_block ?_
 refine lp4 (fun (k : Int) (bb_a : Option Addr) (bb_c : Nat) (bb : List Int) => [(1, .int .u64 v), (6, .slice none 0 0), (7, iI k), (0, .slice bb_a bb.length bb_c)]) (fun (k : Int) (bb_a : Option Addr) (bb_c : Nat) (bb : List Int) => [rwO u8E 5 0 bb_a bb_c bb]) (fun (k : Int) (bb_a : Option Addr) (bb_c : Nat) (bb : List Int) => -1 ≤ k ∧ k ≤ 3 ∧ bb = b ++ (be4 v).take (3 - k).toNat) (fun (k : Int) (bb_a : Option Addr) (bb_c : Nat) (bb : List Int) => (k + 1).toNat) S (c - 1) b_a b_c b (subM rfl) rfl ?_ ?_
 ·refine ⟨by omega, by omega, ?_⟩
  rw [show (3 - (c - 1)).toNat = 0 from by omega]; simp
 clear S; intro k bb_a bb_c bb a u S hR
 have bb_len := (S.row 0 rfl).len_le; simp only [maxLen] at bb_len
 obtain ⟨hk0, hk1, hbb⟩ := hR
 have hbl : bb.length = b.length + (3 - k).toNat := by rw [hbb, List.length_append, List.length_take, be4_len]; omega
 refine wp_seq ?_
 refine rs S (tr (mv rfl)<|la (geqi rfl rfl)) ?_; clear S; intro a u S
 refine cd S rfl ?_ ?_
 ·intro hc0
  refine wp_skip (then_n (wp_seq (wp_block (r0 ?_))))
  refine sp S (tr (mv rfl)<|tr (mv rfl)<|tr (mv rfl)<|tr (muli (8 * k) rfl rfl (w_i64 (by omega)))<|tr (ov fun S=>x_conv uT3 uT40 (S.e rfl) (r := (8 * k)) (w_u64 (by omega)))<|tr (ov fun S=>x_shr (S.e rfl) (S.e rfl) (by omega))<|la (ov fun S=>x_conv uT118 uT5 (S.e rfl) (r := (IntKind.u8.wrap (sHr .u64 v (8 * k)))) rfl)) ?_; clear S; intro a u S
  refine nbs u8E S [(IntKind.u8.wrap (sHr .u64 v (8 * k)))] (x_bs S [(0, .int .u8 (IntKind.u8.wrap (sHr .u64 v (8 * k))))] uT28 iZ5) (fun x hx => by simp only [List.mem_cons, List.not_mem_nil, or_false] at hx; rw [hx]; exact (show u8E.wf _ _ (IntKind.u8.wrap (sHr .u64 v (8 * k))) from (wu8 _))) ?_; clear S; intro a u b21 S
  refine ap (E := u8E) (ys := [(IntKind.u8.wrap (sHr .u64 v (8 * k)))]) S 0 rfl uT28 iZ5 rfl rfl (show LAt u8E _ _ (some ⟨b21, 0, none⟩) ([(IntKind.u8.wrap (sHr .u64 v (8 * k)))]) from ((S.u 0 rfl)).1) ((S.u 0 rfl)).2.2 (LAt.mem (show LAt u8E _ _ (some ⟨b21, 0, none⟩) ([(IntKind.u8.wrap (sHr .u64 v (8 * k)))]) from ((S.u 0 rfl)).1)) ⟨by unfold maxLen; (try simp only [List.length_cons, List.length_nil, List.length_append, List.length_map]); omega, by (try simp only [List.length_cons, List.length_nil, List.length_append, List.length_map]); omega⟩ ?_; clear S; intro a u ad22 cap22 S
  refine en S (la (av rfl)) ?_; clear S; intro a u S
  refine blk_n (then_n ?_)
  refine rg S (tr (mv rfl)<|tr (subi (k - 1) rfl rfl (w_i64 (by omega)))<|la (av rfl)) ?_; clear S; intro a u S
  refine then_n ?_
  refine ⟨(k - 1), ad22, cap22, (bb ++ [(IntKind.u8.wrap (sHr .u64 v (8 * k)))]), S.re (subM rfl) rfl rfl, ?_, ?_⟩
  ·refine ⟨by omega, by omega, ?_⟩
   rw [hbb, List.append_assoc]
   congr 1
   rcases (by omega : k = 0 ∨ k = 1 ∨ k = 2 ∨ k = 3) with h | h | h | h <;> subst h
   ·rw [wrap8, sHr_q (q := 1) rfl (by decide)]; simp [be4]
   ·rw [wrap8, sHr_q (q := 256) rfl (by decide)]; simp [be4]
   ·rw [wrap8, sHr_q (q := 65536) rfl (by decide)]; simp [be4]
   rw [wrap8, sHr_q (q := 16777216) rfl (by decide)]; simp [be4]
  omega
 intro hc1
 refine wp_exit (then_e (then_e (blk_e (then_n ?_))))
 refine rs S (tr (mv rfl)<|la (av rfl)) ?_; clear S; intro a u S
 refine wp_ret ?_
 refine ret1 rfl S.s rfl ?_
 have hx7 : b ++ be4 v = bb := by
  rw [hbb, List.take_of_length_le (by rw [be4_len]; omega)]
 rw [hx7]
 refine ⟨bb_a, bb_c, rfl, (S.row 0 rfl), S.m.c⟩
end Go.Proofs.Ytobggnpnochnnaa.V
namespace Go.Proofs.Ytobggnpnochnnaa.V
open Go.RowKit Go.Proofs.Ytobggnpnochnnaa
set_option linter.unusedVariables false
set_option linter.unusedSimpArgs false
set_option maxHeartbeats 2000000 in
set_option maxRecDepth 20000 in
theorem jEncode (w : World) (F : Nat → Prop) (hF : Old F w) (M : MS [] w) (r : Rec) (r_w : recE.wf (Fr F []) w.heap r) :
 Calls Try.prog 21 #[.agg (recE.cells r).toArray] w fun e w' => ∃ (ra0 : Option Addr) (rc0 : Nat), e = .returned (.tuple #[.slice ra0 ((if recOK r then encR r else []).length) rc0, iI (if recOK r then 0 else 1 : Int)]) ∧ Row u8E 5 w.heap.size F [abk ra0] w' ra0 rc0 (if recOK r then encR r else []) ∧ Tr [] w [abk ra0] w' := by
 obtain ⟨_, _⟩ : inI64 r.kind := r_w.1
 obtain ⟨_, _⟩ : inI64 r.dev := r_w.2.1
 obtain ⟨_, _⟩ : inI64 r.inc := r_w.2.2.1
 obtain ⟨_, _⟩ : inI64 r.seq := r_w.2.2.2
 refine go Try.func21 rfl 28 rfl [wfF recE r] [] hF M ⟨r_w, trivial⟩ trivial ?_
 intro a S
 have hD : ∀ k, In ([] : List BS) k → ¬ F k := fun _ h => h.elim
 refine rs0 ?_
 refine nbp S (x_box _ (S.e rfl) rfl) ?_; clear S; intro a u b1 S
 refine ens S (tr (av rfl)<|la (av rfl)) ?_; clear S; intro a u S
 refine wp_seq ?_
 refine rs S (tr (ldkw 0 rfl rfl wD24)<|tr (oc (fun S=>jValid _ _ S.x (.nil _) r (dn0 (S.u 0 rfl))) cB61)<|la (noti rfl)) ?_; clear S; intro a u S
 refine cd S rfl ?_ ?_
 ·intro hc0
  refine rs S (tr (av rfl)<|la (av rfl)) ?_; clear S; intro a u S
  refine wp_ret (then_r ?_)
  replace S := S.nr u8E 5
  refine ret2 rfl S.s rfl rfl ?_
  replace S := S.pk [1] (os' := [rwO u8E 5 w.heap.size none 0 ([])])
  have hx4 : (if recOK r then encR r else []) = [] := by
   rw [if_neg hc0]
  rw [hx4]
  refine ⟨none, 0, (r2 rfl (vi ?_)), (S.row 0 rfl), S.m.c⟩
  rw [if_neg hc0]
 intro hc1
 refine wp_skip (then_n (rs0 ?_))
 refine sp S (tr (fldi 0 0 rfl uT24)<|tr (ldk 0 sC3 rfl rfl rfl)<|tr (ov fun S=>x_conv uT3 uT5 (S.e rfl) (r := (IntKind.u8.wrap r.kind)) rfl)<|tr (fldi 0 1 rfl uT24)<|tr (ldk 0 sC3 rfl rfl rfl)<|la (ov fun S=>x_conv uT3 uT5 (S.e rfl) (r := (IntKind.u8.wrap r.dev)) rfl)) ?_; clear S; intro a u S
 refine nbr u8E S [(IntKind.u8.wrap r.kind), (IntKind.u8.wrap r.dev)] (x_bs S [(0, .int .u8 (IntKind.u8.wrap r.kind)), (1, .int .u8 (IntKind.u8.wrap r.dev))] uT28 iZ5) (fun x hx => by simp only [List.mem_cons, List.not_mem_nil, or_false] at hx; rcases hx with hx | hx <;> rw [hx] <;> first | exact (show u8E.wf _ _ (IntKind.u8.wrap r.kind) from (wu8 _)) | exact (show u8E.wf _ _ (IntKind.u8.wrap r.dev) from (wu8 _))) ?_; clear S; intro a u b14 S
 refine ens S (la (av rfl)) ?_; clear S; intro a u S
 refine wp_seq ?_
 refine lzc (P := Try.prog) S 4 3 [] [(15, .is _), (16, .is _), (17, .is _), (18, .is _)] [[], [], [16], [17]] [15, 18] [(20, pT b1 (0 + 3)), (21, iI r.seq), (22, .int .u32 (IntKind.u32.wrap r.seq))] [[], [0], [1]] 19 _ [blO b1 (recE.cells r) 24] [rwO u8E 5 w.heap.size (some ⟨b14, 0, none⟩) 2 ([(IntKind.u8.wrap r.kind), (IntKind.u8.wrap r.dev)])] (fun g : Option Addr × Nat => .slice g.1 ((([(IntKind.u8.wrap r.kind), (IntKind.u8.wrap r.dev)]) ++ be4 (IntKind.u32.wrap r.inc)).length) g.2) (fun g => [rwO u8E 5 0 g.1 g.2 (([(IntKind.u8.wrap r.kind), (IntKind.u8.wrap r.dev)]) ++ be4 (IntKind.u32.wrap r.inc))]) (fun _ => True) ⟨qd (mv rfl), qd (fldi 0 2 rfl uT24), qd (ldk 0 sC3 rfl rfl rfl), qd (ov fun S=>x_conv uT3 uT115 (S.e rfl) (r := (IntKind.u32.wrap r.inc)) rfl), trivial⟩ ⟨⟨⟨(show 20 < 28 from by decide), by kernel_rfl⟩, fun fs a w S => x_fld (z := 0) (0) 3 uT24 rfl rfl (by kernel_rfl) (S.e rfl)⟩, ⟨⟨(show 21 < 28 from by decide), by kernel_rfl⟩, fun fs a w S => x_load sC3 (S.e rfl) ((S.k 0 rfl).cell (j := 3) rfl)⟩, ⟨⟨(show 22 < 28 from by decide), by kernel_rfl⟩, fun fs a w S => x_conv uT3 uT115 (S.e rfl) (r := (IntKind.u32.wrap r.seq)) rfl⟩, trivial⟩ ?_ ?_
 ·skip
  clear S; intro a u S G hE
  obtain ⟨hl6, hu6⟩ : inU32 (IntKind.u32.wrap r.inc) := id (wu32 _)
  intro K hK
  replace S := (show St _ _ _ _ _ _ [blO b1 (recE.cells r) 24, rwO u8E 5 0 (some ⟨b14, 0, none⟩) 2 ([(IntKind.u8.wrap r.kind), (IntKind.u8.wrap r.dev)])] _ _ from S.b0 1 rfl)
  refine clw S (jPut _ _ (S.xx (ow [rwO u8E 5 0 (some ⟨b14, 0, none⟩) 2 ([(IntKind.u8.wrap r.kind), (IntKind.u8.wrap r.dev)])])) (some ⟨b14, 0, none⟩) (S.mF (ks := [blO b1 (recE.cells r) 24]) (fs := [rwO u8E 5 0 (some ⟨b14, 0, none⟩) 2 ([(IntKind.u8.wrap r.kind), (IntKind.u8.wrap r.dev)])])) (S.nfF (ks := [blO b1 (recE.cells r) 24]) (fs := [rwO u8E 5 0 (some ⟨b14, 0, none⟩) 2 ([(IntKind.u8.wrap r.kind), (IntKind.u8.wrap r.dev)])]) hD) 2 ([(IntKind.u8.wrap r.kind), (IntKind.u8.wrap r.dev)]) ⟨(S.dF (ks := [blO b1 (recE.cells r) 24]) (fs := [rwO u8E 5 0 (some ⟨b14, 0, none⟩) 2 ([(IntKind.u8.wrap r.kind), (IntKind.u8.wrap r.dev)])]) 0 rfl mo_rw).1, (S.dF (ks := [blO b1 (recE.cells r) 24]) (fs := [rwO u8E 5 0 (some ⟨b14, 0, none⟩) 2 ([(IntKind.u8.wrap r.kind), (IntKind.u8.wrap r.dev)])]) 0 rfl mo_rw).2⟩ (IntKind.u32.wrap r.inc) (wu32 _) (by first | omega | (simp only [List.length_append, be4_len, List.length_cons, List.length_nil]; omega))) cB62 ?_
  rintro e u ⟨ra_t19, rc_t19, rfl, R_t19, T0⟩; refine ⟨_, rfl, fun a s => ?_⟩
  have S2 := S.kF (ks := [blO b1 (recE.cells r) 24]) (fs := [rwO u8E 5 0 (some ⟨b14, 0, none⟩) 2 ([(IntKind.u8.wrap r.kind), (IntKind.u8.wrap r.dev)])]) [rwO u8E 5 0 ra_t19 rc_t19 (([(IntKind.u8.wrap r.kind), (IntKind.u8.wrap r.dev)]) ++ be4 (IntKind.u32.wrap r.inc))] s T0 ⟨⟨R_t19.b0.own, R_t19.wf⟩, trivial⟩ ⟨mo_rw, trivial⟩
  replace S2 := (show St _ _ _ _ _ _ [blO b1 (recE.cells r) 24, rwO u8E 5 0 ra_t19 rc_t19 (([(IntKind.u8.wrap r.kind), (IntKind.u8.wrap r.dev)]) ++ be4 (IntKind.u32.wrap r.inc))] _ _ from S2)
  clear S; have S := S2; clear S2 s T0 R_t19
  exact hK (ra_t19, rc_t19) _ _ ⟨S.s.sub (subM rfl), S.m⟩ trivial
 clear S; intro ⟨ra_t19, rc_t19⟩ a u S _; dsimp only at S
 replace S := (show St _ _ _ _ _ _ [blO b1 (recE.cells r) 24, rwO u8E 5 0 ra_t19 rc_t19 (([(IntKind.u8.wrap r.kind), (IntKind.u8.wrap r.dev)]) ++ be4 (IntKind.u32.wrap r.inc))] _ _ from ⟨S.s, S.m⟩)
 refine cl S (jPut _ _ (S.xx (ow [rwO u8E 5 0 ra_t19 rc_t19 (([(IntKind.u8.wrap r.kind), (IntKind.u8.wrap r.dev)]) ++ be4 (IntKind.u32.wrap r.inc))])) ra_t19 (S.mF (ks := [blO b1 (recE.cells r) 24]) (fs := [rwO u8E 5 0 ra_t19 rc_t19 (([(IntKind.u8.wrap r.kind), (IntKind.u8.wrap r.dev)]) ++ be4 (IntKind.u32.wrap r.inc))])) (S.nfF (ks := [blO b1 (recE.cells r) 24]) (fs := [rwO u8E 5 0 ra_t19 rc_t19 (([(IntKind.u8.wrap r.kind), (IntKind.u8.wrap r.dev)]) ++ be4 (IntKind.u32.wrap r.inc))]) hD) rc_t19 (([(IntKind.u8.wrap r.kind), (IntKind.u8.wrap r.dev)]) ++ be4 (IntKind.u32.wrap r.inc)) ⟨(S.dF (ks := [blO b1 (recE.cells r) 24]) (fs := [rwO u8E 5 0 ra_t19 rc_t19 (([(IntKind.u8.wrap r.kind), (IntKind.u8.wrap r.dev)]) ++ be4 (IntKind.u32.wrap r.inc))]) 0 rfl mo_rw).1, (S.dF (ks := [blO b1 (recE.cells r) 24]) (fs := [rwO u8E 5 0 ra_t19 rc_t19 (([(IntKind.u8.wrap r.kind), (IntKind.u8.wrap r.dev)]) ++ be4 (IntKind.u32.wrap r.inc))]) 0 rfl mo_rw).2⟩ (IntKind.u32.wrap r.seq) (wu32 _) (by first | omega | (simp only [List.length_append, be4_len, List.length_cons, List.length_nil]; omega))) cB62 ?_
 rintro e u ⟨ra_t23, rc_t23, rfl, R_t23, T0⟩; refine ⟨_, rfl, fun a s => ?_⟩
 have S2 := S.kF (ks := [blO b1 (recE.cells r) 24]) (fs := [rwO u8E 5 0 ra_t19 rc_t19 (([(IntKind.u8.wrap r.kind), (IntKind.u8.wrap r.dev)]) ++ be4 (IntKind.u32.wrap r.inc))]) [rwO u8E 5 0 ra_t23 rc_t23 ((([(IntKind.u8.wrap r.kind), (IntKind.u8.wrap r.dev)]) ++ be4 (IntKind.u32.wrap r.inc)) ++ be4 (IntKind.u32.wrap r.seq))] s T0 ⟨⟨R_t23.b0.own, R_t23.wf⟩, trivial⟩ ⟨mo_rw, trivial⟩
 replace S2 := (show St _ _ _ _ _ _ [blO b1 (recE.cells r) 24, rwO u8E 5 0 ra_t23 rc_t23 ((([(IntKind.u8.wrap r.kind), (IntKind.u8.wrap r.dev)]) ++ be4 (IntKind.u32.wrap r.inc)) ++ be4 (IntKind.u32.wrap r.seq))] _ _ from S2)
 clear S; have S := S2; clear S2 s T0 R_t23
 refine ens S (la (av rfl)) ?_; clear S; intro a u S
 refine rs0 ?_
 refine sp S (tr (mv rfl)<|la (mv rfl)) ?_; clear S; intro a u S
 obtain ⟨hl8, hu8⟩ : inU32 (crcL ((([(IntKind.u8.wrap r.kind), (IntKind.u8.wrap r.dev)]) ++ be4 (IntKind.u32.wrap r.inc)) ++ be4 (IntKind.u32.wrap r.seq))) := id (crcL_in _)
 refine sp S (la (oc (fun S=>cSum _ _ (S.xx [abk ra_t23]) (.nil _) (Sl.mk ra_t23 rc_t23 ((([(IntKind.u8.wrap r.kind), (IntKind.u8.wrap r.dev)]) ++ be4 (IntKind.u32.wrap r.inc)) ++ be4 (IntKind.u32.wrap r.seq))) (S.rargD hD 1 rfl (by first | decide | exact Nat.one_pos | exact Nat.succ_pos _) _ (by simp))) cB63)) ?_; clear S; intro a u S
 refine cl S (jPut _ _ (S.xx (ow [rwO u8E 5 0 ra_t23 rc_t23 ((([(IntKind.u8.wrap r.kind), (IntKind.u8.wrap r.dev)]) ++ be4 (IntKind.u32.wrap r.inc)) ++ be4 (IntKind.u32.wrap r.seq))])) ra_t23 (S.mF (ks := [blO b1 (recE.cells r) 24]) (fs := [rwO u8E 5 0 ra_t23 rc_t23 ((([(IntKind.u8.wrap r.kind), (IntKind.u8.wrap r.dev)]) ++ be4 (IntKind.u32.wrap r.inc)) ++ be4 (IntKind.u32.wrap r.seq))])) (S.nfF (ks := [blO b1 (recE.cells r) 24]) (fs := [rwO u8E 5 0 ra_t23 rc_t23 ((([(IntKind.u8.wrap r.kind), (IntKind.u8.wrap r.dev)]) ++ be4 (IntKind.u32.wrap r.inc)) ++ be4 (IntKind.u32.wrap r.seq))]) hD) rc_t23 ((([(IntKind.u8.wrap r.kind), (IntKind.u8.wrap r.dev)]) ++ be4 (IntKind.u32.wrap r.inc)) ++ be4 (IntKind.u32.wrap r.seq)) ⟨(S.dF (ks := [blO b1 (recE.cells r) 24]) (fs := [rwO u8E 5 0 ra_t23 rc_t23 ((([(IntKind.u8.wrap r.kind), (IntKind.u8.wrap r.dev)]) ++ be4 (IntKind.u32.wrap r.inc)) ++ be4 (IntKind.u32.wrap r.seq))]) 0 rfl mo_rw).1, (S.dF (ks := [blO b1 (recE.cells r) 24]) (fs := [rwO u8E 5 0 ra_t23 rc_t23 ((([(IntKind.u8.wrap r.kind), (IntKind.u8.wrap r.dev)]) ++ be4 (IntKind.u32.wrap r.inc)) ++ be4 (IntKind.u32.wrap r.seq))]) 0 rfl mo_rw).2⟩ (crcL ((([(IntKind.u8.wrap r.kind), (IntKind.u8.wrap r.dev)]) ++ be4 (IntKind.u32.wrap r.inc)) ++ be4 (IntKind.u32.wrap r.seq))) (crcL_in _) (by first | omega | (simp only [List.length_append, be4_len, List.length_cons, List.length_nil]; omega))) cB62 ?_
 rintro e u ⟨ra_t27, rc_t27, rfl, R_t27, T0⟩; refine ⟨_, rfl, fun a s => ?_⟩
 have S2 := S.kF (ks := [blO b1 (recE.cells r) 24]) (fs := [rwO u8E 5 0 ra_t23 rc_t23 ((([(IntKind.u8.wrap r.kind), (IntKind.u8.wrap r.dev)]) ++ be4 (IntKind.u32.wrap r.inc)) ++ be4 (IntKind.u32.wrap r.seq))]) [rwO u8E 5 0 ra_t27 rc_t27 (((([(IntKind.u8.wrap r.kind), (IntKind.u8.wrap r.dev)]) ++ be4 (IntKind.u32.wrap r.inc)) ++ be4 (IntKind.u32.wrap r.seq)) ++ be4 (crcL ((([(IntKind.u8.wrap r.kind), (IntKind.u8.wrap r.dev)]) ++ be4 (IntKind.u32.wrap r.inc)) ++ be4 (IntKind.u32.wrap r.seq))))] s T0 ⟨⟨R_t27.b0.own, R_t27.wf⟩, trivial⟩ ⟨mo_rw, trivial⟩
 replace S2 := (show St _ _ _ _ _ _ [blO b1 (recE.cells r) 24, rwO u8E 5 0 ra_t27 rc_t27 (((([(IntKind.u8.wrap r.kind), (IntKind.u8.wrap r.dev)]) ++ be4 (IntKind.u32.wrap r.inc)) ++ be4 (IntKind.u32.wrap r.seq)) ++ be4 (crcL ((([(IntKind.u8.wrap r.kind), (IntKind.u8.wrap r.dev)]) ++ be4 (IntKind.u32.wrap r.inc)) ++ be4 (IntKind.u32.wrap r.seq))))] _ _ from S2)
 clear S; have S := S2; clear S2 s T0 R_t27
 refine ens S (tr (av rfl)<|la (av rfl)) ?_; clear S; intro a u S
 refine wp_ret ?_
 replace S := (show St _ _ _ _ _ _ [blO b1 (recE.cells r) 24, rwO u8E 5 w.heap.size ra_t27 rc_t27 (((([(IntKind.u8.wrap r.kind), (IntKind.u8.wrap r.dev)]) ++ be4 (IntKind.u32.wrap r.inc)) ++ be4 (IntKind.u32.wrap r.seq)) ++ be4 (crcL ((([(IntKind.u8.wrap r.kind), (IntKind.u8.wrap r.dev)]) ++ be4 (IntKind.u32.wrap r.inc)) ++ be4 (IntKind.u32.wrap r.seq))))] _ _ from S.raise 1 rfl)
 refine ret2 rfl S.s rfl rfl ?_
 replace S := S.pk [1] (os' := [rwO u8E 5 w.heap.size ra_t27 rc_t27 (((([(IntKind.u8.wrap r.kind), (IntKind.u8.wrap r.dev)]) ++ be4 (IntKind.u32.wrap r.inc)) ++ be4 (IntKind.u32.wrap r.seq)) ++ be4 (crcL ((([(IntKind.u8.wrap r.kind), (IntKind.u8.wrap r.dev)]) ++ be4 (IntKind.u32.wrap r.inc)) ++ be4 (IntKind.u32.wrap r.seq))))])
 have hx9 : (if recOK r then encR r else []) = ((([(IntKind.u8.wrap r.kind), (IntKind.u8.wrap r.dev)]) ++ be4 (IntKind.u32.wrap r.inc)) ++ be4 (IntKind.u32.wrap r.seq)) ++ be4 (crcL ((([(IntKind.u8.wrap r.kind), (IntKind.u8.wrap r.dev)]) ++ be4 (IntKind.u32.wrap r.inc)) ++ be4 (IntKind.u32.wrap r.seq))) := by
  have hv := Classical.not_not.1 hc1
  have hv2 := hv
  unfold recOK at hv2
  have e1 : IntKind.u8.wrap r.kind = r.kind := by rw [wrap8]; omega
  have e2 : IntKind.u8.wrap r.dev = r.dev := by rw [wrap8]; omega
  have e3 : IntKind.u32.wrap r.inc = r.inc := w_u32 (by omega)
  have e4 : IntKind.u32.wrap r.seq = r.seq := w_u32 (by omega)
  rw [if_pos hv, e1, e2, e3, e4]; rfl
 rw [hx9]
 refine ⟨ra_t27, rc_t27, (r2 rfl (vi ?_)), (S.row 0 rfl), S.m.c⟩
 rw [if_pos (Classical.not_not.1 hc1)]
set_option maxHeartbeats 2000000 in
set_option maxRecDepth 20000 in
theorem rEncode (w : World) (F : Nat → Prop) (hF : Old F w) (M : MS [] w) (r : Rec) (r_w : recE.wf (Fr F []) w.heap r) :
 Calls Try.prog 22 #[.agg (recE.cells r).toArray] w fun e w' => ∃ (ra0 : Option Addr) (rc0 : Nat), e = .returned (.tuple #[.slice ra0 ((if recOK r then encR r else []).length) rc0, iI (if recOK r then 0 else 1 : Int)]) ∧ Row u8E 5 w.heap.size F [abk ra0] w' ra0 rc0 (if recOK r then encR r else []) ∧ Tr [] w [abk ra0] w' := by
 obtain ⟨_, _⟩ : inI64 r.kind := r_w.1
 obtain ⟨_, _⟩ : inI64 r.dev := r_w.2.1
 obtain ⟨_, _⟩ : inI64 r.inc := r_w.2.2.1
 obtain ⟨_, _⟩ : inI64 r.seq := r_w.2.2.2
 refine go Try.func22 rfl 28 rfl [wfF recE r] [] hF M ⟨r_w, trivial⟩ trivial ?_
 intro a S
 have hD : ∀ k, In ([] : List BS) k → ¬ F k := fun _ h => h.elim
 refine rs0 ?_
 refine nbp S (x_box _ (S.e rfl) rfl) ?_; clear S; intro a u b1 S
 refine ens S (tr (av rfl)<|la (av rfl)) ?_; clear S; intro a u S
 refine wp_seq ?_
 refine rs S (tr (ldkw 0 rfl rfl wD24)<|tr (oc (fun S=>rValid _ _ S.x (.nil _) r (dn0 (S.u 0 rfl))) cB64)<|la (noti rfl)) ?_; clear S; intro a u S
 refine cd S rfl ?_ ?_
 ·intro hc0
  refine rs S (tr (av rfl)<|la (av rfl)) ?_; clear S; intro a u S
  refine wp_ret (then_r ?_)
  replace S := S.nr u8E 5
  refine ret2 rfl S.s rfl rfl ?_
  replace S := S.pk [1] (os' := [rwO u8E 5 w.heap.size none 0 ([])])
  have hx4 : (if recOK r then encR r else []) = [] := by
   rw [if_neg hc0]
  rw [hx4]
  refine ⟨none, 0, (r2 rfl (vi ?_)), (S.row 0 rfl), S.m.c⟩
  rw [if_neg hc0]
 intro hc1
 refine wp_skip (then_n (wp_seq ?_))
 obtain ⟨z0, hz0⟩ := S.z
 have SW := S
 refine lzc (P := Try.prog) S 10 3 [] [(8, .is _), (9, .is _), (10, .is _), (11, .is _), (12, .is _), (13, .is _), (14, .of (fun z w => ∃ (x14a : Nat), z = .slice (some ⟨x14a, 0, none⟩) 2 2 ∧ (Blk w.heap x14a [.int .u8 (IntKind.u8.wrap r.kind), .int .u8 (IntKind.u8.wrap r.dev)] 5 ∧ z0 ≤ x14a ∧ ¬ In [] x14a)) (fun v w w' c h => let ⟨x14a, hv, h0⟩ := h; ⟨x14a, hv, ⟨Blk.tr h0.1 c h0.2.2, h0.2⟩⟩)), (15, .is _), (16, .is _), (17, .is _)] [[], [8], [9], [], [11], [12], [10, 13], [], [15], [16]] [14, 17] [(19, pT b1 (0 + 3)), (20, iI r.seq), (21, .int .u64 (IntKind.u64.wrap r.seq))] [[], [0], [1]] 18 _ [blO b1 (recE.cells r) 24] [] (fun g : Option Addr × Nat => .slice g.1 ((([(IntKind.u8.wrap r.kind), (IntKind.u8.wrap r.dev)]) ++ be4 (IntKind.u64.wrap r.inc)).length) g.2) (fun g => [rwO u8E 5 0 g.1 g.2 (([(IntKind.u8.wrap r.kind), (IntKind.u8.wrap r.dev)]) ++ be4 (IntKind.u64.wrap r.inc))]) (fun _ => True) ⟨qd (fldi 0 0 rfl uT24), qd (ldk 0 sC3 rfl rfl rfl), qd (ov fun S=>x_conv uT3 uT5 (S.e rfl) (r := (IntKind.u8.wrap r.kind)) rfl), qd (fldi 0 1 rfl uT24), qd (ldk 0 sC3 rfl rfl rfl), qd (ov fun S=>x_conv uT3 uT5 (S.e rfl) (r := (IntKind.u8.wrap r.dev)) rfl), ?_, qd (fldi 0 2 rfl uT24), qd (ldk 0 sC3 rfl rfl rfl), qd (ov fun S=>x_conv uT3 uT118 (S.e rfl) (r := (IntKind.u64.wrap r.inc)) rfl), trivial⟩ ⟨⟨⟨(show 19 < 28 from by decide), by kernel_rfl⟩, fun fs a w S => x_fld (z := 0) (0) 3 uT24 rfl rfl (by kernel_rfl) (S.e rfl)⟩, ⟨⟨(show 20 < 28 from by decide), by kernel_rfl⟩, fun fs a w S => x_load sC3 (S.e rfl) ((S.k 0 rfl).cell (j := 3) rfl)⟩, ⟨⟨(show 21 < 28 from by decide), by kernel_rfl⟩, fun fs a w S => x_conv uT3 uT118 (S.e rfl) (r := (IntKind.u64.wrap r.seq)) rfl⟩, trivial⟩ ?_ ?_
 ·skip
  intro a u S G hE
  exact hnb 14 S.m (x_bsl [(0, .int .u8 (IntKind.u8.wrap r.kind)), (1, .int .u8 (IntKind.u8.wrap r.dev))] [.int .u8 (IntKind.u8.wrap r.kind), .int .u8 (IntKind.u8.wrap r.dev)] uT28 iZ5 (by decide) (by decide) (by simp only [List.map_cons, List.map_nil, S.e (x := .tmp 10) (v := .int .u8 (IntKind.u8.wrap r.kind)) rfl, S.e (x := .tmp 13) (v := .int .u8 (IntKind.u8.wrap r.dev)) rfl]) (by kernel_rfl)) fun g => (show ∃ _, _ from ⟨_, rfl, Blk.new _ [.int .u8 (IntKind.u8.wrap r.kind), .int .u8 (IntKind.u8.wrap r.dev)] 5, hz0 ▸ G.size, fun h => absurd (S.M.lt _ (in_sub (fun _ h => by simp at h) h)) (Nat.lt_irrefl _)⟩)
 ·skip
  have S0 := SW
  have S0 := S
  clear S; intro a u S G hE
  obtain ⟨e14, -⟩ := hE
  obtain ⟨x14_5, e14, X5⟩ := e14
  replace S := S.ext e14
  clear e14
  have hltx14_5 : x14_5 < u.heap.size := X5.1.lt; have hgex14_5 := X5.2.1
  replace S := S0.own S [] G (by intro j f hj; simp at hj) [rwO u8E 5 w.heap.size (some ⟨x14_5, 0, none⟩) 2 [(IntKind.u8.wrap r.kind), (IntKind.u8.wrap r.dev)]] (⟨fun _ _ h => h, trivial⟩) (fun k hk => by simp only [ow, rwO, blO, abk_one, In, one, or_false] at hk; omega) (by intro f hf V; simp only [List.mem_cons, List.not_mem_nil, or_false] at hf; subst hf <;> first | exact (let R := row_of_blk (E := u8E) (F := F) (ms := []) X5.1 [(IntKind.u8.wrap r.kind), (IntKind.u8.wrap r.dev)] 2 rfl (by decide) (by decide) rfl (by have := S0.m.c.size; omega) (fun x hx => by simp only [List.mem_cons, List.not_mem_nil, or_false] at hx; rcases hx with hx | hx <;> rw [hx] <;> first | exact (wu8 _) | exact (wu8 _)); ⟨R.own, fun x hx => R.wf x hx⟩))
  clear S0
  obtain ⟨hl6, hu6⟩ : inU64 (IntKind.u64.wrap r.inc) := id (wu64 _)
  intro K hK
  replace S := (show St _ _ _ _ _ _ [blO b1 (recE.cells r) 24, rwO u8E 5 0 (some ⟨x14_5, 0, none⟩) 2 ([(IntKind.u8.wrap r.kind), (IntKind.u8.wrap r.dev)])] _ _ from S.b0 1 rfl)
  refine clw S (rPut _ _ (S.xx (ow [rwO u8E 5 0 (some ⟨x14_5, 0, none⟩) 2 ([(IntKind.u8.wrap r.kind), (IntKind.u8.wrap r.dev)])])) (some ⟨x14_5, 0, none⟩) (S.mF (ks := [blO b1 (recE.cells r) 24]) (fs := [rwO u8E 5 0 (some ⟨x14_5, 0, none⟩) 2 ([(IntKind.u8.wrap r.kind), (IntKind.u8.wrap r.dev)])])) (S.nfF (ks := [blO b1 (recE.cells r) 24]) (fs := [rwO u8E 5 0 (some ⟨x14_5, 0, none⟩) 2 ([(IntKind.u8.wrap r.kind), (IntKind.u8.wrap r.dev)])]) hD) 2 ([(IntKind.u8.wrap r.kind), (IntKind.u8.wrap r.dev)]) ⟨(S.dF (ks := [blO b1 (recE.cells r) 24]) (fs := [rwO u8E 5 0 (some ⟨x14_5, 0, none⟩) 2 ([(IntKind.u8.wrap r.kind), (IntKind.u8.wrap r.dev)])]) 0 rfl mo_rw).1, (S.dF (ks := [blO b1 (recE.cells r) 24]) (fs := [rwO u8E 5 0 (some ⟨x14_5, 0, none⟩) 2 ([(IntKind.u8.wrap r.kind), (IntKind.u8.wrap r.dev)])]) 0 rfl mo_rw).2⟩ (IntKind.u64.wrap r.inc) (wu64 _) 4 ⟨by omega, by omega⟩ (⟨by first | omega | (simp only [List.length_append, be4_len, List.length_cons, List.length_nil]; omega), by first | rfl | omega⟩)) cB65 ?_
  rintro e u ⟨ra_t18, rc_t18, rfl, R_t18, T0⟩; refine ⟨_, rfl, fun a s => ?_⟩
  have S2 := S.kF (ks := [blO b1 (recE.cells r) 24]) (fs := [rwO u8E 5 0 (some ⟨x14_5, 0, none⟩) 2 ([(IntKind.u8.wrap r.kind), (IntKind.u8.wrap r.dev)])]) [rwO u8E 5 0 ra_t18 rc_t18 (([(IntKind.u8.wrap r.kind), (IntKind.u8.wrap r.dev)]) ++ be4 (IntKind.u64.wrap r.inc))] s T0 ⟨⟨R_t18.b0.own, R_t18.wf⟩, trivial⟩ ⟨mo_rw, trivial⟩
  replace S2 := (show St _ _ _ _ _ _ [blO b1 (recE.cells r) 24, rwO u8E 5 0 ra_t18 rc_t18 (([(IntKind.u8.wrap r.kind), (IntKind.u8.wrap r.dev)]) ++ be4 (IntKind.u64.wrap r.inc))] _ _ from S2)
  clear S; have S := S2; clear S2 s T0 R_t18
  exact hK (ra_t18, rc_t18) _ _ ⟨S.s.sub (subM rfl), S.m⟩ trivial
 clear S SW; intro ⟨ra_t18, rc_t18⟩ a u S _; dsimp only at S
 replace S := (show St _ _ _ _ _ _ [blO b1 (recE.cells r) 24, rwO u8E 5 0 ra_t18 rc_t18 (([(IntKind.u8.wrap r.kind), (IntKind.u8.wrap r.dev)]) ++ be4 (IntKind.u64.wrap r.inc))] _ _ from ⟨S.s, S.m⟩)
 refine cl S (rPut _ _ (S.xx (ow [rwO u8E 5 0 ra_t18 rc_t18 (([(IntKind.u8.wrap r.kind), (IntKind.u8.wrap r.dev)]) ++ be4 (IntKind.u64.wrap r.inc))])) ra_t18 (S.mF (ks := [blO b1 (recE.cells r) 24]) (fs := [rwO u8E 5 0 ra_t18 rc_t18 (([(IntKind.u8.wrap r.kind), (IntKind.u8.wrap r.dev)]) ++ be4 (IntKind.u64.wrap r.inc))])) (S.nfF (ks := [blO b1 (recE.cells r) 24]) (fs := [rwO u8E 5 0 ra_t18 rc_t18 (([(IntKind.u8.wrap r.kind), (IntKind.u8.wrap r.dev)]) ++ be4 (IntKind.u64.wrap r.inc))]) hD) rc_t18 (([(IntKind.u8.wrap r.kind), (IntKind.u8.wrap r.dev)]) ++ be4 (IntKind.u64.wrap r.inc)) ⟨(S.dF (ks := [blO b1 (recE.cells r) 24]) (fs := [rwO u8E 5 0 ra_t18 rc_t18 (([(IntKind.u8.wrap r.kind), (IntKind.u8.wrap r.dev)]) ++ be4 (IntKind.u64.wrap r.inc))]) 0 rfl mo_rw).1, (S.dF (ks := [blO b1 (recE.cells r) 24]) (fs := [rwO u8E 5 0 ra_t18 rc_t18 (([(IntKind.u8.wrap r.kind), (IntKind.u8.wrap r.dev)]) ++ be4 (IntKind.u64.wrap r.inc))]) 0 rfl mo_rw).2⟩ (IntKind.u64.wrap r.seq) (wu64 _) 4 ⟨by omega, by omega⟩ (⟨by first | omega | (simp only [List.length_append, be4_len, List.length_cons, List.length_nil]; omega), by first | rfl | omega⟩)) cB65 ?_
 rintro e u ⟨ra_t22, rc_t22, rfl, R_t22, T0⟩; refine ⟨_, rfl, fun a s => ?_⟩
 have S2 := S.kF (ks := [blO b1 (recE.cells r) 24]) (fs := [rwO u8E 5 0 ra_t18 rc_t18 (([(IntKind.u8.wrap r.kind), (IntKind.u8.wrap r.dev)]) ++ be4 (IntKind.u64.wrap r.inc))]) [rwO u8E 5 0 ra_t22 rc_t22 ((([(IntKind.u8.wrap r.kind), (IntKind.u8.wrap r.dev)]) ++ be4 (IntKind.u64.wrap r.inc)) ++ be4 (IntKind.u64.wrap r.seq))] s T0 ⟨⟨R_t22.b0.own, R_t22.wf⟩, trivial⟩ ⟨mo_rw, trivial⟩
 replace S2 := (show St _ _ _ _ _ _ [blO b1 (recE.cells r) 24, rwO u8E 5 0 ra_t22 rc_t22 ((([(IntKind.u8.wrap r.kind), (IntKind.u8.wrap r.dev)]) ++ be4 (IntKind.u64.wrap r.inc)) ++ be4 (IntKind.u64.wrap r.seq))] _ _ from S2)
 clear S; have S := S2; clear S2 s T0 R_t22
 refine ens S (la (av rfl)) ?_; clear S; intro a u S
 refine rs0 ?_
 refine sp S (tr (mv rfl)<|la (mv rfl)) ?_; clear S; intro a u S
 obtain ⟨hl8, hu8⟩ : inU32 (crcL ((([(IntKind.u8.wrap r.kind), (IntKind.u8.wrap r.dev)]) ++ be4 (IntKind.u64.wrap r.inc)) ++ be4 (IntKind.u64.wrap r.seq))) := id (crcL_in _)
 refine sp S (tr (oc (fun S=>rCRC _ _ (S.xx [abk ra_t22]) (.nil _) (Sl.mk ra_t22 rc_t22 ((([(IntKind.u8.wrap r.kind), (IntKind.u8.wrap r.dev)]) ++ be4 (IntKind.u64.wrap r.inc)) ++ be4 (IntKind.u64.wrap r.seq))) (S.rargD hD 1 rfl (by first | decide | exact Nat.one_pos | exact Nat.succ_pos _) _ (by simp))) cB66)<|la (ov fun S=>x_conv uT115 uT118 (S.e rfl) (r := (IntKind.u64.wrap (crcL ((([(IntKind.u8.wrap r.kind), (IntKind.u8.wrap r.dev)]) ++ be4 (IntKind.u64.wrap r.inc)) ++ be4 (IntKind.u64.wrap r.seq))))) rfl)) ?_; clear S; intro a u S
 refine cl S (rPut _ _ (S.xx (ow [rwO u8E 5 0 ra_t22 rc_t22 ((([(IntKind.u8.wrap r.kind), (IntKind.u8.wrap r.dev)]) ++ be4 (IntKind.u64.wrap r.inc)) ++ be4 (IntKind.u64.wrap r.seq))])) ra_t22 (S.mF (ks := [blO b1 (recE.cells r) 24]) (fs := [rwO u8E 5 0 ra_t22 rc_t22 ((([(IntKind.u8.wrap r.kind), (IntKind.u8.wrap r.dev)]) ++ be4 (IntKind.u64.wrap r.inc)) ++ be4 (IntKind.u64.wrap r.seq))])) (S.nfF (ks := [blO b1 (recE.cells r) 24]) (fs := [rwO u8E 5 0 ra_t22 rc_t22 ((([(IntKind.u8.wrap r.kind), (IntKind.u8.wrap r.dev)]) ++ be4 (IntKind.u64.wrap r.inc)) ++ be4 (IntKind.u64.wrap r.seq))]) hD) rc_t22 ((([(IntKind.u8.wrap r.kind), (IntKind.u8.wrap r.dev)]) ++ be4 (IntKind.u64.wrap r.inc)) ++ be4 (IntKind.u64.wrap r.seq)) ⟨(S.dF (ks := [blO b1 (recE.cells r) 24]) (fs := [rwO u8E 5 0 ra_t22 rc_t22 ((([(IntKind.u8.wrap r.kind), (IntKind.u8.wrap r.dev)]) ++ be4 (IntKind.u64.wrap r.inc)) ++ be4 (IntKind.u64.wrap r.seq))]) 0 rfl mo_rw).1, (S.dF (ks := [blO b1 (recE.cells r) 24]) (fs := [rwO u8E 5 0 ra_t22 rc_t22 ((([(IntKind.u8.wrap r.kind), (IntKind.u8.wrap r.dev)]) ++ be4 (IntKind.u64.wrap r.inc)) ++ be4 (IntKind.u64.wrap r.seq))]) 0 rfl mo_rw).2⟩ (IntKind.u64.wrap (crcL ((([(IntKind.u8.wrap r.kind), (IntKind.u8.wrap r.dev)]) ++ be4 (IntKind.u64.wrap r.inc)) ++ be4 (IntKind.u64.wrap r.seq)))) (wu64 _) 4 ⟨by omega, by omega⟩ (⟨by first | omega | (simp only [List.length_append, be4_len, List.length_cons, List.length_nil]; omega), by first | rfl | omega⟩)) cB65 ?_
 rintro e u ⟨ra_t27, rc_t27, rfl, R_t27, T0⟩; refine ⟨_, rfl, fun a s => ?_⟩
 have S2 := S.kF (ks := [blO b1 (recE.cells r) 24]) (fs := [rwO u8E 5 0 ra_t22 rc_t22 ((([(IntKind.u8.wrap r.kind), (IntKind.u8.wrap r.dev)]) ++ be4 (IntKind.u64.wrap r.inc)) ++ be4 (IntKind.u64.wrap r.seq))]) [rwO u8E 5 0 ra_t27 rc_t27 (((([(IntKind.u8.wrap r.kind), (IntKind.u8.wrap r.dev)]) ++ be4 (IntKind.u64.wrap r.inc)) ++ be4 (IntKind.u64.wrap r.seq)) ++ be4 (IntKind.u64.wrap (crcL ((([(IntKind.u8.wrap r.kind), (IntKind.u8.wrap r.dev)]) ++ be4 (IntKind.u64.wrap r.inc)) ++ be4 (IntKind.u64.wrap r.seq)))))] s T0 ⟨⟨R_t27.b0.own, R_t27.wf⟩, trivial⟩ ⟨mo_rw, trivial⟩
 replace S2 := (show St _ _ _ _ _ _ [blO b1 (recE.cells r) 24, rwO u8E 5 0 ra_t27 rc_t27 (((([(IntKind.u8.wrap r.kind), (IntKind.u8.wrap r.dev)]) ++ be4 (IntKind.u64.wrap r.inc)) ++ be4 (IntKind.u64.wrap r.seq)) ++ be4 (IntKind.u64.wrap (crcL ((([(IntKind.u8.wrap r.kind), (IntKind.u8.wrap r.dev)]) ++ be4 (IntKind.u64.wrap r.inc)) ++ be4 (IntKind.u64.wrap r.seq)))))] _ _ from S2)
 clear S; have S := S2; clear S2 s T0 R_t27
 refine ens S (tr (av rfl)<|la (av rfl)) ?_; clear S; intro a u S
 refine wp_ret ?_
 replace S := (show St _ _ _ _ _ _ [blO b1 (recE.cells r) 24, rwO u8E 5 w.heap.size ra_t27 rc_t27 (((([(IntKind.u8.wrap r.kind), (IntKind.u8.wrap r.dev)]) ++ be4 (IntKind.u64.wrap r.inc)) ++ be4 (IntKind.u64.wrap r.seq)) ++ be4 (IntKind.u64.wrap (crcL ((([(IntKind.u8.wrap r.kind), (IntKind.u8.wrap r.dev)]) ++ be4 (IntKind.u64.wrap r.inc)) ++ be4 (IntKind.u64.wrap r.seq)))))] _ _ from S.raise 1 rfl)
 refine ret2 rfl S.s rfl rfl ?_
 replace S := S.pk [1] (os' := [rwO u8E 5 w.heap.size ra_t27 rc_t27 (((([(IntKind.u8.wrap r.kind), (IntKind.u8.wrap r.dev)]) ++ be4 (IntKind.u64.wrap r.inc)) ++ be4 (IntKind.u64.wrap r.seq)) ++ be4 (IntKind.u64.wrap (crcL ((([(IntKind.u8.wrap r.kind), (IntKind.u8.wrap r.dev)]) ++ be4 (IntKind.u64.wrap r.inc)) ++ be4 (IntKind.u64.wrap r.seq)))))])
 have hx9 : (if recOK r then encR r else []) = ((([(IntKind.u8.wrap r.kind), (IntKind.u8.wrap r.dev)]) ++ be4 (IntKind.u64.wrap r.inc)) ++ be4 (IntKind.u64.wrap r.seq)) ++ be4 (IntKind.u64.wrap (crcL ((([(IntKind.u8.wrap r.kind), (IntKind.u8.wrap r.dev)]) ++ be4 (IntKind.u64.wrap r.inc)) ++ be4 (IntKind.u64.wrap r.seq)))) := by
  have hv := Classical.not_not.1 hc1
  have hv2 := hv
  unfold recOK at hv2
  have e1 : IntKind.u8.wrap r.kind = r.kind := by rw [wrap8]; omega
  have e2 : IntKind.u8.wrap r.dev = r.dev := by rw [wrap8]; omega
  have e3 : IntKind.u64.wrap r.inc = r.inc := w_u64 (by omega)
  have e4 : IntKind.u64.wrap r.seq = r.seq := w_u64 (by omega)
  rw [if_pos hv, e1, e2, e3, e4]
  show encR r = encB r ++ be4 (IntKind.u64.wrap (crcL (encB r)))
  rw [show IntKind.u64.wrap (crcL (encB r)) = crcL (encB r) from w_u64 (by have := crcL_in (encB r); omega)]; rfl
 rw [hx9]
 refine ⟨ra_t27, rc_t27, (r2 rfl (vi ?_)), (S.row 0 rfl), S.m.c⟩
 rw [if_pos (Classical.not_not.1 hc1)]
end Go.Proofs.Ytobggnpnochnnaa.V
namespace Go.Proofs.Ytobggnpnochnnaa.V
open Go.RowKit Go.Proofs.Ytobggnpnochnnaa
set_option linter.unusedVariables false
set_option linter.unusedSimpArgs false
set_option maxHeartbeats 2000000 in
set_option maxRecDepth 20000 in
theorem jDecode (w : World) (F : Nat → Prop) (hF : Old F w) (M : MS [] w) (b : Sl Int) (b_w : (slE u8E).wf (Fr F []) w.heap b) :
 Calls Try.prog 23 #[sV b] w fun e w' => ∃ (ra0 : Option Addr) (rc0 : Nat), e = .returned (.tuple #[.slice ra0 ((recsP b.xs (decN b.xs)).length) rc0, iN (14 * decN b.xs)]) ∧ Row recE 24 w.heap.size F [abk ra0] w' ra0 rc0 (recsP b.xs (decN b.xs)) ∧ Tr [] w [abk ra0] w' := by
 have : b.xs.length ≤ 9223372036854775807 := (b_w).1.len
 refine go Try.func23 rfl 57 rfl [wfF (slE u8E) b] [] hF M ⟨b_w, trivial⟩ trivial ?_
 intro a S
 have hD : ∀ k, In ([] : List BS) k → ¬ F k := fun _ h => h.elim
 refine rs S (tr (av rfl)<|la (av rfl)) ?_; clear S; intro a u S
 refine rs S (la (av rfl)) ?_; clear S; intro a u S
 refine rs S (la (av rfl)) ?_; clear S; intro a u S
 refine wp_seq (wp_block ?_)
 replace S := S.nr recE 24
 refine lp4 (fun (k : Nat) (out_a : Option Addr) (out_c : Nat) (out : List Rec) => [(0, sV b), (2, .slice none 0 0), (3, iI 0), (5, iN (14 * k)), (4, .slice out_a out.length out_c)]) (fun (k : Nat) (out_a : Option Addr) (out_c : Nat) (out : List Rec) => [rwO recE 24 w.heap.size out_a out_c out]) (fun (k : Nat) (out_a : Option Addr) (out_c : Nat) (out : List Rec) => k ≤ 4096 ∧ 14 * k ≤ b.xs.length ∧ out = recsP b.xs k ∧ decF b.xs (4096 - k) k = decN b.xs) (fun (k : Nat) (out_a : Option Addr) (out_c : Nat) (out : List Rec) => 4096 - k) S 0 none 0 ([]) (subM rfl) rfl ?_ ?_
 ·exact ⟨by decide, Nat.zero_le _, rfl, rfl⟩
 clear S; intro k out_a out_c out a u S hR
 have out_len := (S.row 0 rfl).len_le; simp only [maxLen] at out_len
 obtain ⟨hk, hkb, hout, hI⟩ := hR
 have hol : out.length = k := by rw [hout, recsP_len]
 refine wp_seq ?_
 refine rs S (tr (mv rfl)<|tr (leni uT32 rfl)<|tr (lssi rfl rfl)<|tr (mv rfl)<|tr (og 11 rfl gt fun S hg=>x_move (S.e rfl))<|tr (og 11 rfl gt fun S hg=>x_len uT28 (S.p rfl hg))<|tr (og 11 rfl gt fun S hg=>x_move (S.e rfl))<|tr (og 11 rfl gt fun S hg=>x_sub (S.p rfl hg) (S.p rfl hg) (r := (((b.xs.length : Nat) : Int) - (((14 * k) : Nat) : Int))) (w_i64 (by omega)))<|tr (og 11 rfl gt fun S hg=>x_geq (S.p rfl hg) (S.e rfl))<|la (andi rfl rfl rfl)) ?_; clear S; intro a u S
 refine cd S rfl ?_ ?_
 ·intro hc0
  refine wp_skip (then_n (wp_block (rs0 ?_)))
  have hk6 : (slSub u8E b (14 * k) ((14 * k) + 14)).xs.length = ((14 * k) + 14) - (14 * k) := by show ((b.xs.take ((14 * k) + 14)).drop (14 * k)).length = _; rw [List.length_drop, List.length_take]; omega
  refine sp S (tr (mv rfl)<|tr (mv rfl)<|tr (mv rfl)<|tr (addi (((14 * k) + 14 : Nat) : Int) rfl rfl (w_i64 (by omega)))<|tr (ov (v := sV (slSub u8E b (14 * k) ((14 * k) + 14))) fun S=>x_slsub u8E (s := b) uT28 iZ5 (S.e rfl) (S.e rfl) (S.e rfl) (14 * k) ((14 * k) + 14) rfl rfl (by omega) (by omega) ((S.u 0 rfl)).2.1)<|la (av rfl)) ?_; clear S; intro a u S
  have hx6 : ∀ i, i < (slSub u8E b (14 * k) ((14 * k) + 14)).xs.length → inU8 ((slSub u8E b (14 * k) ((14 * k) + 14)).xs.getD i 0) := fun i hi => ((sl_sub (E := u8E) (S.u 0 rfl) (14 * k) ((14 * k) + 14) (by omega) (by omega))).1.wf i hi
  have hl6 : (slSub u8E b (14 * k) ((14 * k) + 14)).xs.length = 14 := by show ((b.xs.take (14 * k + 14)).drop (14 * k)).length = _; rw [List.length_drop, List.length_take]; omega
  have hn2 : inU32 (num4 (slSub u8E b (14 * k) ((14 * k) + 14)).xs (2 : Int).toNat) := num4_in hx6 (by rw [hl6]; decide)
  have hn6 : inU32 (num4 (slSub u8E b (14 * k) ((14 * k) + 14)).xs (6 : Int).toNat) := num4_in hx6 (by rw [hl6]; decide)
  have hn10 : inU32 (num4 (slSub u8E b (14 * k) ((14 * k) + 14)).xs (10 : Int).toNat) := num4_in hx6 (by rw [hl6]; decide)
  refine ent (wp_seq ?_)
  obtain ⟨hl7, hu7⟩ : inU8 (((slSub u8E b (14 * k) ((14 * k) + 14)).xs).getD 0 u8E.dflt) := id (((sl_sub (E := u8E) (S.u 0 rfl) (14 * k) ((14 * k) + 14) (by omega) (by omega))).1.wf 0 (by omega))
  obtain ⟨hl8, hu8⟩ : inU8 (((slSub u8E b (14 * k) ((14 * k) + 14)).xs).getD 1 u8E.dflt) := id (((sl_sub (E := u8E) (S.u 0 rfl) (14 * k) ((14 * k) + 14) (by omega) (by omega))).1.wf 1 (by omega))
  obtain ⟨z0, hz0⟩ := S.z
  refine dr (P := Try.prog) S 16 [] [(23, .is _), (24, .is _), (25, .is _), (26, .is _), (27, .is _), (28, .is _), (29, .is _), (30, .is _), (31, .is _), (32, .is _), (33, .is _), (34, .is _), (35, .is _), (36, .is _), (37, .is _), (7, .of (fun z w => ∃ (x7a : Nat), z = pT x7a 0 ∧ (Blk w.heap x7a [iI 0, iI 0, iI 0, iI 0] 24 ∧ z0 ≤ x7a ∧ ¬ In [] x7a)) (fun v w w' c h => let ⟨x7a, hv, h0⟩ := h; ⟨x7a, hv, ⟨Blk.tr h0.1 c h0.2.2, h0.2⟩⟩))] [[], [23], [24], [25], [], [27], [28], [29], [], [31], [32], [], [34], [35], [26, 30, 33, 36], []] [37, 7] _ ⟨qd (mv rfl), qd (idxi uT28 sZ5 rfl rfl 0 rfl (by omega) (((sl_sub (E := u8E) (S.u 0 rfl) (14 * k) ((14 * k) + 14) (by omega) (by omega))).1.adr (i := 0) (by omega))), qd (ov fun S=>x_load sC5 (S.e rfl) (((sl_sub (E := u8E) (S.u 0 rfl) (14 * k) ((14 * k) + 14) (by omega) (by omega))).1.cell 0 (by omega) 0 _ rfl)), qd (ov fun S=>x_conv uT5 uT3 (S.e rfl) (r := (((slSub u8E b (14 * k) ((14 * k) + 14)).xs).getD 0 u8E.dflt)) (w_i64 (by omega))), qd (mv rfl), qd (idxi uT28 sZ5 rfl rfl 1 rfl (by omega) (((sl_sub (E := u8E) (S.u 0 rfl) (14 * k) ((14 * k) + 14) (by omega) (by omega))).1.adr (i := 1) (by omega))), qd (ov fun S=>x_load sC5 (S.e rfl) (((sl_sub (E := u8E) (S.u 0 rfl) (14 * k) ((14 * k) + 14) (by omega) (by omega))).1.cell 1 (by omega) 0 _ rfl)), qd (ov fun S=>x_conv uT5 uT3 (S.e rfl) (r := (((slSub u8E b (14 * k) ((14 * k) + 14)).xs).getD 1 u8E.dflt)) (w_i64 (by omega))), qd (mv rfl), qd (oc (fun S=>jTake _ _ S.x (.nil _) (slSub u8E b (14 * k) ((14 * k) + 14)) (dn0 (sl_sub (E := u8E) (S.u 0 rfl) (14 * k) ((14 * k) + 14) (by omega) (by omega))) 2 ⟨by omega, by omega⟩ (⟨by omega, by omega⟩)) cB67), qd (ov fun S=>x_conv uT115 uT3 (S.e rfl) (r := num4 (slSub u8E b (14 * k) ((14 * k) + 14)).xs (2 : Int).toNat) (w_i64 (by omega))), qd (mv rfl), qd (oc (fun S=>jTake _ _ S.x (.nil _) (slSub u8E b (14 * k) ((14 * k) + 14)) (dn0 (sl_sub (E := u8E) (S.u 0 rfl) (14 * k) ((14 * k) + 14) (by omega) (by omega))) 6 ⟨by omega, by omega⟩ (⟨by omega, by omega⟩)) cB67), qd (ov fun S=>x_conv uT115 uT3 (S.e rfl) (r := num4 (slSub u8E b (14 * k) ((14 * k) + 14)).xs (6 : Int).toNat) (w_i64 (by omega))), qd (ov fun S=>x_bd S [(0, iI (((slSub u8E b (14 * k) ((14 * k) + 14)).xs).getD 0 u8E.dflt)), (1, iI (((slSub u8E b (14 * k) ((14 * k) + 14)).xs).getD 1 u8E.dflt)), (2, iI (num4 (slSub u8E b (14 * k) ((14 * k) + 14)).xs (2 : Int).toNat)), (3, iI (num4 (slSub u8E b (14 * k) ((14 * k) + 14)).xs (6 : Int).toNat))] [iI (((slSub u8E b (14 * k) ((14 * k) + 14)).xs).getD 0 u8E.dflt), iI (((slSub u8E b (14 * k) ((14 * k) + 14)).xs).getD 1 u8E.dflt), iI (num4 (slSub u8E b (14 * k) ((14 * k) + 14)).xs (2 : Int).toNat), iI (num4 (slSub u8E b (14 * k) ((14 * k) + 14)).xs (6 : Int).toNat)]), ?_, trivial⟩ ?_
  ·skip
   intro a u S G hE
   exact hnb 7 S.m (x_allocz [iI 0, iI 0, iI 0, iI 0] iZ24 rfl) fun g => (show ∃ _, _ from ⟨_, rfl, Blk.new _ [iI 0, iI 0, iI 0, iI 0] 24, hz0 ▸ G.size, fun h => absurd (S.M.lt _ (in_sub (fun _ h => by simp at h) h)) (Nat.lt_irrefl _)⟩)
  have S0 := S
  clear S; intro a u S G hE
  obtain ⟨e7, -⟩ := hE
  obtain ⟨x7_9, e7, X9⟩ := e7
  replace S := S.ext e7
  clear e7
  have hltx7_9 : x7_9 < u.heap.size := X9.1.lt; have hgex7_9 := X9.2.1
  replace S := S0.own S [] G (by intro j f hj; simp at hj) [blO x7_9 [iI 0, iI 0, iI 0, iI 0] 24] (⟨fun _ _ h => h, trivial⟩) (fun k hk => by simp only [ow, rwO, blO, abk_one, In, one, or_false] at hk; omega) (by intro f hf V; simp only [List.mem_cons, List.not_mem_nil, or_false] at hf; subst hf <;> first | exact X9.1)
  clear S0
  obtain ⟨hl10, hu10⟩ : inU8 (((slSub u8E b (14 * k) ((14 * k) + 14)).xs).getD 0 u8E.dflt) := id (((sl_sub (E := u8E) (S.u 0 rfl) (14 * k) ((14 * k) + 14) (by omega) (by omega))).1.wf 0 (by omega))
  obtain ⟨hl11, hu11⟩ : inU8 (((slSub u8E b (14 * k) ((14 * k) + 14)).xs).getD 1 u8E.dflt) := id (((sl_sub (E := u8E) (S.u 0 rfl) (14 * k) ((14 * k) + 14) (by omega) (by omega))).1.wf 1 (by omega))
  refine ens S (la (stkw 1 rfl rfl rfl)) ?_; clear S; intro a u S
  refine wp_seq (wp_seq ?_)
  have hk12 : (((slSub u8E b (14 * k) ((14 * k) + 14)).xs).take 10).length = 10 := by rw [List.length_take]; first | omega | (simp only [List.length_cons, List.length_nil]; omega)
  obtain ⟨hl13, hu13⟩ : inU32 (crcL (((slSub u8E b (14 * k) ((14 * k) + 14)).xs).take 10)) := id (crcL_in _)
  refine dr (P := Try.prog) S 11 [] [(38, .is _), (39, .is _), (40, .is _), (41, .is _), (42, .is _), (43, .is _), (44, .is _), (45, .is _), (46, .is _), (47, .is _), (48, .is _)] [[], [38], [], [40], [41], [39, 42], [43], [44], [44, 45], [44, 46], [44, 47]] [48] _ ⟨qd (mv rfl), qd (oc (fun S=>jTake _ _ S.x (.nil _) (slSub u8E b (14 * k) ((14 * k) + 14)) (dn0 (sl_sub (E := u8E) (S.u 0 rfl) (14 * k) ((14 * k) + 14) (by omega) (by omega))) 10 ⟨by omega, by omega⟩ (⟨by omega, by omega⟩)) cB67), qd (mv rfl), qd (ov (v := .slice ((slSub u8E b (14 * k) ((14 * k) + 14)).a) ((((slSub u8E b (14 * k) ((14 * k) + 14)).xs).take 10).length) ((slSub u8E b (14 * k) ((14 * k) + 14)).c)) fun S=>x_slhn uT28 iZ5 (S.e rfl) (S.e rfl) 10 rfl (Nat.le_trans (by omega) ((sl_sub (E := u8E) (S.u 0 rfl) (14 * k) ((14 * k) + 14) (by omega) (by omega))).2.1) ((sl_sub (E := u8E) (S.u 0 rfl) (14 * k) ((14 * k) + 14) (by omega) (by omega))).2.2 _ (by rw [List.length_take]; first | omega | (simp only [List.length_cons, List.length_nil]; omega))), qd (oc (fun S=>cSum _ _ S.x (.nil _) (Sl.mk ((slSub u8E b (14 * k) ((14 * k) + 14)).a) ((slSub u8E b (14 * k) ((14 * k) + 14)).c) (((slSub u8E b (14 * k) ((14 * k) + 14)).xs).take 10)) (dn0 (sl_take (sl_sub (E := u8E) (S.u 0 rfl) (14 * k) ((14 * k) + 14) (by omega) (by omega)) 10 (by omega)))) cB63), qd (neqi rfl rfl), qd (mv rfl), qd (og 44 rfl gf fun S hg=>x_ldw (S.e rfl) (S.k 1 rfl).all wD24), qd (ocg 44 rfl gf (fun S hg=>jValid _ _ S.x (.nil _) (⟨(((slSub u8E b (14 * k) ((14 * k) + 14)).xs).getD 0 u8E.dflt), (((slSub u8E b (14 * k) ((14 * k) + 14)).xs).getD 1 u8E.dflt), num4 (slSub u8E b (14 * k) ((14 * k) + 14)).xs (2 : Int).toNat, num4 (slSub u8E b (14 * k) ((14 * k) + 14)).xs (6 : Int).toNat⟩ : Rec) ⟨(show inI64 (((slSub u8E b (14 * k) ((14 * k) + 14)).xs).getD 0 u8E.dflt) from ⟨by omega, by omega⟩), (show inI64 (((slSub u8E b (14 * k) ((14 * k) + 14)).xs).getD 1 u8E.dflt) from ⟨by omega, by omega⟩), (show inI64 (num4 (slSub u8E b (14 * k) ((14 * k) + 14)).xs (2 : Int).toNat) from ⟨by omega, by omega⟩), (show inI64 (num4 (slSub u8E b (14 * k) ((14 * k) + 14)).xs (6 : Int).toNat) from ⟨by omega, by omega⟩)⟩) cB61 fun S=>⟨fun hg=>(S.p rfl hg), trivial⟩), qd (og 44 rfl gf fun S hg=>x_notp (S.p rfl hg)), qd (ori rfl rfl rfl), trivial⟩ ?_
  clear S; intro a u S G hE
  obtain ⟨hl14, hu14⟩ : inU32 (crcL (((slSub u8E b (14 * k) ((14 * k) + 14)).xs).take 10)) := id (crcL_in _)
  refine ent ?_
  refine cd S rfl ?_ ?_
  ·intro hc1
   refine wp_exit (then_e (blk_o (by decide) ?_))
   refine then_e (blk_e (then_n ?_))
   refine rs S (tr (mv rfl)<|tr (mv rfl)<|tr (av rfl)<|la (av rfl)) ?_; clear S; intro a u S
   refine wp_ret ?_
   refine ret2 rfl S.s rfl rfl ?_
   replace S := S.pk [0] (os' := [rwO recE 24 w.heap.size out_a out_c out])
   have hx16 : recsP b.xs (decN b.xs) = out := by
    have hg : ¬ goodX (subB b.xs k) := fun h => hc1.elim (fun q => q h.2) (fun q => q h.1)
    have hd : decN b.xs = k := by rw [← hI, decF_no (.inr fun h => hg h.2)]
    rw [hd, hout]
   rw [hx16]
   refine ⟨out_a, out_c, (r2 rfl (vi ?_)), (S.row 0 rfl), S.m.c⟩
   have hg : ¬ goodX (subB b.xs k) := fun h => hc1.elim (fun q => q h.2) (fun q => q h.1)
   have hd : decN b.xs = k := by rw [← hI, decF_no (.inr fun h => hg h.2)]
   rw [hd]
  intro hc2
  refine wp_skip (then_n (rs0 ?_))
  refine sp S (tr (mv rfl)<|la (ldkw 1 rfl rfl wD24)) ?_; clear S; intro a u S
  refine nbs recE S [(⟨(((slSub u8E b (14 * k) ((14 * k) + 14)).xs).getD 0 u8E.dflt), (((slSub u8E b (14 * k) ((14 * k) + 14)).xs).getD 1 u8E.dflt), num4 (slSub u8E b (14 * k) ((14 * k) + 14)).xs (2 : Int).toNat, num4 (slSub u8E b (14 * k) ((14 * k) + 14)).xs (6 : Int).toNat⟩ : Rec)] (x_bs S [(0, .agg #[iI (((slSub u8E b (14 * k) ((14 * k) + 14)).xs).getD 0 u8E.dflt), iI (((slSub u8E b (14 * k) ((14 * k) + 14)).xs).getD 1 u8E.dflt), iI (num4 (slSub u8E b (14 * k) ((14 * k) + 14)).xs (2 : Int).toNat), iI (num4 (slSub u8E b (14 * k) ((14 * k) + 14)).xs (6 : Int).toNat)])] uT32 iZ24) (fun x hx => by simp only [List.mem_cons, List.not_mem_nil, or_false] at hx; rw [hx]; exact (show recE.wf _ _ (⟨(((slSub u8E b (14 * k) ((14 * k) + 14)).xs).getD 0 u8E.dflt), (((slSub u8E b (14 * k) ((14 * k) + 14)).xs).getD 1 u8E.dflt), num4 (slSub u8E b (14 * k) ((14 * k) + 14)).xs (2 : Int).toNat, num4 (slSub u8E b (14 * k) ((14 * k) + 14)).xs (6 : Int).toNat⟩ : Rec) from ⟨(show inI64 (((slSub u8E b (14 * k) ((14 * k) + 14)).xs).getD 0 u8E.dflt) from ⟨by omega, by omega⟩), (show inI64 (((slSub u8E b (14 * k) ((14 * k) + 14)).xs).getD 1 u8E.dflt) from ⟨by omega, by omega⟩), (show inI64 (num4 (slSub u8E b (14 * k) ((14 * k) + 14)).xs (2 : Int).toNat) from ⟨by omega, by omega⟩), (show inI64 (num4 (slSub u8E b (14 * k) ((14 * k) + 14)).xs (6 : Int).toNat) from ⟨by omega, by omega⟩)⟩)) ?_; clear S; intro a u b51 S
  refine ap (E := recE) (ys := [(⟨(((slSub u8E b (14 * k) ((14 * k) + 14)).xs).getD 0 u8E.dflt), (((slSub u8E b (14 * k) ((14 * k) + 14)).xs).getD 1 u8E.dflt), num4 (slSub u8E b (14 * k) ((14 * k) + 14)).xs (2 : Int).toNat, num4 (slSub u8E b (14 * k) ((14 * k) + 14)).xs (6 : Int).toNat⟩ : Rec)]) S 0 rfl uT32 iZ24 rfl rfl (show LAt recE _ _ (some ⟨b51, 0, none⟩) ([(⟨(((slSub u8E b (14 * k) ((14 * k) + 14)).xs).getD 0 u8E.dflt), (((slSub u8E b (14 * k) ((14 * k) + 14)).xs).getD 1 u8E.dflt), num4 (slSub u8E b (14 * k) ((14 * k) + 14)).xs (2 : Int).toNat, num4 (slSub u8E b (14 * k) ((14 * k) + 14)).xs (6 : Int).toNat⟩ : Rec)]) from ((S.u 1 rfl)).1) ((S.u 1 rfl)).2.2 (LAt.mem (show LAt recE _ _ (some ⟨b51, 0, none⟩) ([(⟨(((slSub u8E b (14 * k) ((14 * k) + 14)).xs).getD 0 u8E.dflt), (((slSub u8E b (14 * k) ((14 * k) + 14)).xs).getD 1 u8E.dflt), num4 (slSub u8E b (14 * k) ((14 * k) + 14)).xs (2 : Int).toNat, num4 (slSub u8E b (14 * k) ((14 * k) + 14)).xs (6 : Int).toNat⟩ : Rec)]) from ((S.u 1 rfl)).1)) ⟨by unfold maxLen; (try simp only [List.length_cons, List.length_nil, List.length_append, List.length_map]); omega, by (try simp only [List.length_cons, List.length_nil, List.length_append, List.length_map]); omega⟩ ?_; clear S; intro a u ad52 cap52 S
  refine ens S (la (av rfl)) ?_; clear S; intro a u S
  refine rg S (tr (mv rfl)<|tr (addi (((14 * k) + 14 : Nat) : Int) rfl rfl (w_i64 (by omega)))<|la (av rfl)) ?_; clear S; intro a u S
  refine blk_n (then_n ?_)
  refine ⟨(k + 1), ad52, cap52, (out ++ [(⟨(((slSub u8E b (14 * k) ((14 * k) + 14)).xs).getD 0 u8E.dflt), (((slSub u8E b (14 * k) ((14 * k) + 14)).xs).getD 1 u8E.dflt), num4 (slSub u8E b (14 * k) ((14 * k) + 14)).xs (2 : Int).toNat, num4 (slSub u8E b (14 * k) ((14 * k) + 14)).xs (6 : Int).toNat⟩ : Rec)]), S.re (subM rfl) rfl rfl, ?_, ?_⟩
  ·have hg : goodX (subB b.xs k) := ⟨Classical.not_not.1 fun q => hc2 (.inr q), Classical.not_not.1 fun q => hc2 (.inl q)⟩
   refine ⟨by omega, by omega, ?_, ?_⟩
   ·rw [recsP_up, ← hout]; rfl
   rw [← hI, show 4096 - (k + 1) = 4096 - k - 1 from by omega]; exact decF_go (by omega) hg (by omega)
  omega
 intro hc3
 refine wp_exit (then_e (then_e (blk_e (then_n ?_))))
 refine rs S (tr (mv rfl)<|tr (mv rfl)<|tr (av rfl)<|la (av rfl)) ?_; clear S; intro a u S
 refine wp_ret ?_
 refine ret2 rfl S.s rfl rfl ?_
 have hx20 : recsP b.xs (decN b.xs) = out := by
  have hd : decN b.xs = k := by
   rw [← hI]
   exact decF_no (if h : k = 4096 then .inl (by omega) else .inr fun q => by have := q.1; omega)
  rw [hd, hout]
 rw [hx20]
 refine ⟨out_a, out_c, (r2 rfl (vi ?_)), (S.row 0 rfl), S.m.c⟩
 have hd : decN b.xs = k := by
  rw [← hI]
  exact decF_no (if h : k = 4096 then .inl (by omega) else .inr fun q => by have := q.1; omega)
 rw [hd]
end Go.Proofs.Ytobggnpnochnnaa.V
namespace Go.Proofs.Ytobggnpnochnnaa.V
open Go.RowKit Go.Proofs.Ytobggnpnochnnaa
set_option linter.unusedVariables false
set_option linter.unusedSimpArgs false
set_option maxHeartbeats 2000000 in
set_option maxRecDepth 20000 in
theorem rInts (w : World) (F : Nat → Prop) (hF : Old F w) (M : MS [] w) (x : Sl Int) (x_w : (slE intE).wf (Fr F []) w.heap x) (y : Sl Int) (y_w : (slE intE).wf (Fr F []) w.heap y) :
 Calls Try.prog 76 #[sV x, sV y] w fun e w' => e = .returned (bD (x.xs = y.xs)) ∧ Tr [] w [] w' := by
 have : x.xs.length ≤ 9223372036854775807 := (x_w).1.len
 have : y.xs.length ≤ 9223372036854775807 := (y_w).1.len
 refine go Try.func76 rfl 26 rfl [wfF (slE intE) x, wfF (slE intE) y] [] hF M ⟨x_w, y_w, trivial⟩ trivial ?_
 intro a S
 have hD : ∀ k, In ([] : List BS) k → ¬ F k := fun _ h => h.elim
 refine rs S (la (av rfl)) ?_; clear S; intro a u S
 refine wp_seq ?_
 have hn3 : x.xs.length ≤ 9223372036854775807 := ((S.u 0 rfl)).1.len
 have hn4 : y.xs.length ≤ 9223372036854775807 := ((S.u 1 rfl)).1.len
 refine rs S (tr (mv rfl)<|tr (leni uT22 rfl)<|tr (mv rfl)<|tr (leni uT22 rfl)<|la (neqi rfl rfl)) ?_; clear S; intro a u S
 refine cd S rfl ?_ ?_
 ·intro hc0
  refine rs S (la (av rfl)) ?_; clear S; intro a u S
  refine wp_ret (then_r ?_)
  refine ret1 rfl S.s rfl ?_
  refine ⟨(r1 (vf ?_)), S.m.c⟩
  exact fun h => by rw [h] at hc0; exact hc0 rfl
 intro hc1
 refine wp_skip (then_n (wp_seq ?_))
 refine rs S (la (av rfl)) ?_; clear S; intro a u S
 refine wp_block ?_
 refine lp1 (fun (k : Nat) => [(0, sV x), (1, sV y), (5, iN k)]) (fun (k : Nat) => []) (fun (k : Nat) => k ≤ x.xs.length ∧ ∀ j, j < k → x.xs.getD j intE.dflt = y.xs.getD j intE.dflt) (fun (k : Nat) => x.xs.length - k) S 0 (subM rfl) rfl ?_ ?_
 ·exact ⟨Nat.zero_le _, fun j hj => by omega⟩
 clear S; intro k a u S hR
 obtain ⟨hk, hn⟩ := hR
 have hle : x.xs.length = y.xs.length := by omega
 refine wp_seq ?_
 refine rs S (tr (mv rfl)<|tr (mv rfl)<|tr (leni uT22 rfl)<|la (lssi rfl rfl)) ?_; clear S; intro a u S
 refine cd S rfl ?_ ?_
 ·intro hc2
  refine wp_skip (then_n (wp_seq (wp_block (wp_seq ?_))))
  obtain ⟨hl8, hu8⟩ : inI64 (x.xs.getD k intE.dflt) := id (((S.u 0 rfl)).1.wf k (by omega))
  obtain ⟨hl9, hu9⟩ : inI64 (y.xs.getD k intE.dflt) := id (((S.u 1 rfl)).1.wf k (by omega))
  refine dr (P := Try.prog) S 9 [] [(17, .is _), (18, .is _), (19, .is _), (20, .is _), (21, .is _), (22, .is _), (23, .is _), (24, .is _), (25, .is _)] [[], [], [17, 18], [19], [], [], [21, 22], [23], [20, 24]] [25] _ ⟨qd (mv rfl), qd (mv rfl), qd (idxi uT22 sZ3 rfl rfl k rfl (by omega) (((S.u 0 rfl)).1.adr (i := k) (by omega))), qd (ov fun S=>x_load sC3 (S.e rfl) (((S.u 0 rfl)).1.cell k (by omega) 0 _ rfl)), qd (mv rfl), qd (mv rfl), qd (idxi uT22 sZ3 rfl rfl k rfl (by omega) (((S.u 1 rfl)).1.adr (i := k) (by omega))), qd (ov fun S=>x_load sC3 (S.e rfl) (((S.u 1 rfl)).1.cell k (by omega) 0 _ rfl)), qd (neqi rfl rfl), trivial⟩ ?_
  clear S; intro a u S G hE
  obtain ⟨hl10, hu10⟩ : inI64 (x.xs.getD k intE.dflt) := id (((S.u 0 rfl)).1.wf k (by omega))
  obtain ⟨hl11, hu11⟩ : inI64 (y.xs.getD k intE.dflt) := id (((S.u 1 rfl)).1.wf k (by omega))
  refine ent ?_
  refine cd S rfl ?_ ?_
  ·intro hc3
   refine rs S (la (av rfl)) ?_; clear S; intro a u S
   refine wp_ret (blk_r (then_r (then_r (blk_r (then_r ?_)))))
   refine ret1 rfl S.s rfl ?_
   refine ⟨(r1 (vf ?_)), S.m.c⟩
   exact fun h => by rw [h] at hc3; first | exact hc3 rfl | exact hc3 ⟨rfl, rfl, rfl, rfl⟩
  intro hc4
  refine wp_skip (blk_n (then_n ?_))
  refine rg S (tr (mv rfl)<|tr (addi ((k + 1 : Nat) : Int) rfl rfl (w_i64 (by omega)))<|la (av rfl)) ?_; clear S; intro a u S
  refine then_n ?_
  refine ⟨(k + 1), S.re (subM rfl) rfl rfl, ?_, ?_⟩
  ·refine ⟨by omega, fun j hj => ?_⟩
   rcases Nat.lt_succ_iff_lt_or_eq.1 hj with h | h
   ·exact hn j h
   subst h; omega
  omega
 intro hc5
 refine wp_exit (then_e (then_e (blk_e (then_n ?_))))
 refine rs S (la (av rfl)) ?_; clear S; intro a u S
 refine wp_ret ?_
 refine ret1 rfl S.s rfl ?_
 refine ⟨(r1 (vt ?_)), S.m.c⟩
 exact eq_of_all intE.dflt (by omega) fun i hi => hn i (by omega)
set_option maxHeartbeats 2000000 in
set_option maxRecDepth 20000 in
theorem rSameC (w : World) (F : Nat → Prop) (hF : Old F w) (M : MS [] w) (x : Ctrl) (x_w : ctrlE.wf (Fr F []) w.heap x) (y : Ctrl) (y_w : ctrlE.wf (Fr F []) w.heap y) :
 Calls Try.prog 38 #[.agg (ctrlE.cells x).toArray, .agg (ctrlE.cells y).toArray] w fun e w' => e = .returned (bD (sameC x y)) ∧ Tr [] w [] w' := by
 obtain ⟨_, _⟩ : inI64 x.round := x_w.1
 obtain ⟨_, _⟩ : inI64 x.seq := x_w.2.2.1
 have : x.target.xs.length ≤ 9223372036854775807 := (x_w.2.2.2.1).1.len
 have : x.known.xs.length ≤ 9223372036854775807 := (x_w.2.2.2.2.1).1.len
 have : x.waiting.xs.length ≤ 9223372036854775807 := (x_w.2.2.2.2.2).1.len
 obtain ⟨_, _⟩ : inI64 y.round := y_w.1
 obtain ⟨_, _⟩ : inI64 y.seq := y_w.2.2.1
 have : y.target.xs.length ≤ 9223372036854775807 := (y_w.2.2.2.1).1.len
 have : y.known.xs.length ≤ 9223372036854775807 := (y_w.2.2.2.2.1).1.len
 have : y.waiting.xs.length ≤ 9223372036854775807 := (y_w.2.2.2.2.2).1.len
 refine go Try.func38 rfl 45 rfl [wfF ctrlE x, wfF ctrlE y] [] hF M ⟨x_w, y_w, trivial⟩ trivial ?_
 intro a S
 have hD : ∀ k, In ([] : List BS) k → ¬ F k := fun _ h => h.elim
 refine rs0 ?_
 refine nbp S (x_box _ (S.e rfl) rfl) ?_; clear S; intro a u b2 S
 refine nbp S (x_box _ (S.e rfl) rfl) ?_; clear S; intro a u b3 S
 refine ens S (la (av rfl)) ?_; clear S; intro a u S
 refine rs S (tr (fldi 0 0 rfl uT57)<|tr (ldk 0 sC3 rfl rfl rfl)<|tr (fldi 0 0 rfl uT57)<|tr (ldk 1 sC3 rfl rfl rfl)<|tr (eqli rfl rfl)<|tr (mv rfl)<|tr (og 10 rfl gt fun S hg=>xf (0) 1 uT57 (S.e rfl))<|tr (og 10 rfl gt fun S hg=>x_load sC4 (S.p rfl hg) ((S.k 0 rfl).cell (j := 1) rfl))<|tr (og 10 rfl gt fun S hg=>xf (0) 1 uT57 (S.e rfl))<|tr (og 10 rfl gt fun S hg=>x_load sC4 (S.p rfl hg) ((S.k 1 rfl).cell (j := 1) rfl))<|tr (og 10 rfl gt fun S hg=>x_bpeql uT4 (S.p rfl hg) (S.p rfl hg))<|tr (andi rfl rfl rfl)<|tr (mv rfl)<|tr (og 17 rfl gt fun S hg=>xf (0) 2 uT57 (S.e rfl))<|tr (og 17 rfl gt fun S hg=>x_load sC3 (S.p rfl hg) ((S.k 0 rfl).cell (j := 2) rfl))<|tr (og 17 rfl gt fun S hg=>xf (0) 2 uT57 (S.e rfl))<|tr (og 17 rfl gt fun S hg=>x_load sC3 (S.p rfl hg) ((S.k 1 rfl).cell (j := 2) rfl))<|tr (og 17 rfl gt fun S hg=>x_eql (S.p rfl hg) (S.p rfl hg))<|tr (andi rfl rfl rfl)<|tr (mv rfl)<|tr (og 24 rfl gt fun S hg=>xf (0) 3 uT57 (S.e rfl))<|tr (og 24 rfl gt fun S hg=>x_load sC22 (S.p rfl hg) ((S.k 0 rfl).cell (j := 3) rfl))<|tr (og 24 rfl gt fun S hg=>xf (0) 3 uT57 (S.e rfl))<|tr (og 24 rfl gt fun S hg=>x_load sC22 (S.p rfl hg) ((S.k 1 rfl).cell (j := 3) rfl))<|tr (ocg 24 rfl gt (fun S hg=>rInts _ _ S.x (.nil _) x.target (dn0 ((S.u 0 rfl).2.2.2.1)) y.target (dn0 ((S.u 1 rfl).2.2.2.1))) cB76 fun S=>⟨fun hg=>(S.p rfl hg), fun hg=>(S.p rfl hg), trivial⟩)<|tr (andi rfl rfl rfl)<|tr (mv rfl)<|tr (og 31 rfl gt fun S hg=>xf (0) 4 uT57 (S.e rfl))<|tr (og 31 rfl gt fun S hg=>x_load sC22 (S.p rfl hg) ((S.k 0 rfl).cell (j := 4) rfl))<|tr (og 31 rfl gt fun S hg=>xf (0) 4 uT57 (S.e rfl))<|tr (og 31 rfl gt fun S hg=>x_load sC22 (S.p rfl hg) ((S.k 1 rfl).cell (j := 4) rfl))<|tr (ocg 31 rfl gt (fun S hg=>rInts _ _ S.x (.nil _) x.known (dn0 ((S.u 0 rfl).2.2.2.2.1)) y.known (dn0 ((S.u 1 rfl).2.2.2.2.1))) cB76 fun S=>⟨fun hg=>(S.p rfl hg), fun hg=>(S.p rfl hg), trivial⟩)<|tr (andi rfl rfl rfl)<|tr (mv rfl)<|tr (og 38 rfl gt fun S hg=>xf (0) 5 uT57 (S.e rfl))<|tr (og 38 rfl gt fun S hg=>x_load sC22 (S.p rfl hg) ((S.k 0 rfl).cell (j := 5) rfl))<|tr (og 38 rfl gt fun S hg=>xf (0) 5 uT57 (S.e rfl))<|tr (og 38 rfl gt fun S hg=>x_load sC22 (S.p rfl hg) ((S.k 1 rfl).cell (j := 5) rfl))<|tr (ocg 38 rfl gt (fun S hg=>rInts _ _ S.x (.nil _) x.waiting (dn0 ((S.u 0 rfl).2.2.2.2.2)) y.waiting (dn0 ((S.u 1 rfl).2.2.2.2.2))) cB76 fun S=>⟨fun hg=>(S.p rfl hg), fun hg=>(S.p rfl hg), trivial⟩)<|tr (andi rfl rfl rfl)<|la (av rfl)) ?_; clear S; intro a u S
 refine wp_ret ?_
 refine ret1 rfl S.s rfl ?_
 replace S := S.pk []
 refine ⟨(r1 (vb ?_)), S.m.c⟩
 unfold sameC
 simp only [and_assoc]
end Go.Proofs.Ytobggnpnochnnaa.V
namespace Go.Proofs.Ytobggnpnochnnaa.V
open Go.RowKit Go.Proofs.Ytobggnpnochnnaa
set_option linter.unusedVariables false
set_option linter.unusedSimpArgs false
set_option maxHeartbeats 2000000 in
set_option maxRecDepth 20000 in
theorem sCloneG (w : World) (F : Nat → Prop) (hF : Old F w) (M : MS [] w) (x : Sl Chg) (x_w : (slE chgE).wf (Fr F []) w.heap x) (hb : x.xs.length ≤ 10000000) :
 Calls Try.prog 104 #[sV x] w fun e w' => ∃ (ra : Option Addr) (rc : Nat), e = .returned (.slice ra x.xs.length rc) ∧ Row chgE 124 w.heap.size F [abk ra] w' ra rc x.xs ∧ Tr [] w [abk ra] w' := by
 have : x.xs.length ≤ 9223372036854775807 := (x_w).1.len
 refine go Try.func104 rfl 8 rfl [wfF (slE chgE) x] [] hF M ⟨x_w, trivial⟩ trivial ?_
 intro a S
 have hD : ∀ k, In ([] : List BS) k → ¬ F k := fun _ h => h.elim
 refine rs S (la (av rfl)) ?_; clear S; intro a u S
 refine wp_seq ?_
 refine rs S (tr (mv rfl)<|la (ov fun S=>x_sleql uT122 (S.e rfl) (S.e rfl))) ?_; clear S; intro a u S
 refine cd S rfl ?_ ?_
 ·intro hc0
  refine rs S (la (av rfl)) ?_; clear S; intro a u S
  refine wp_ret (then_r ?_)
  replace S := S.nr chgE 124
  refine ret1 rfl S.s rfl ?_
  have hx4 : x.xs = [] := by
   exact (S.u 0 rfl).1.nil_xs hc0
  rw [hx4]
  refine ⟨none, 0, rfl, (S.row 0 rfl), S.m.c⟩
 intro hc1
 refine wp_skip (then_n (rs0 ?_))
 refine nbr (q := 0) chgE S [] (x_bsl0 uT122 iZ124) (fun _ h => by simp at h) ?_; clear S; intro a u b5 S
 refine sp S (la (mv rfl)) ?_; clear S; intro a u S
 refine ap (E := chgE) (ys := x.xs) S 0 rfl uT122 iZ124 rfl rfl ((S.u 0 rfl)).1 ((S.u 0 rfl)).2.2 (LAt.mem ((S.u 0 rfl)).1) ⟨by unfold maxLen; (try simp only [List.length_cons, List.length_nil, List.length_append, List.length_map]); omega, by (try simp only [List.length_cons, List.length_nil, List.length_append, List.length_map]); omega⟩ ?_; clear S; intro a u ad7 cap7 S
 refine ens S (la (av rfl)) ?_; clear S; intro a u S
 refine wp_ret ?_
 refine ret1 rfl S.s rfl ?_
 have hx6 : x.xs = ([] ++ x.xs) := by
  first | rfl | simp
 rw [hx6]
 refine ⟨ad7, cap7, rfl, (S.row 0 rfl), S.m.c⟩
set_option maxHeartbeats 2000000 in
set_option maxRecDepth 20000 in
theorem cNew (w : World) (F : Nat → Prop) (hF : Old F w) (M : MS [] w) (hD : ∀ k, In [] k → ¬ F k) (p : Plan) (p_w : planE.wf (Fr F []) w.heap p) (n : Int) (n_h : inI64 n) (hb : p.rounds.xs.length ≤ 100) :
 Calls Try.prog 71 #[.agg (planE.cells p).toArray, iI n] w fun e w' => ∃ (q : Option (Nat × Mach)), e = .returned (.tuple #[optP q, iI (errQ q)]) ∧ machQK q ∧ (bnO (machQ q)).p F (In [In (ow (machQ q))]) w' ∧ ((q.isSome = true ↔ ((statesP p.staged (rdsP p) n).isSome = true ∧ p.rounds.xs.length ≤ 16)) ∧ ∀ x, q = some x → MachOK x.2 ∧ rdsM x.2 = rdsP p ∧ stsM x.2 = stsD (statesP p.staged (rdsP p) n) ∧ absM x.2 = startC (rdsP p) (stsD (statesP p.staged (rdsP p) n)) (newC n)) ∧ Tr [] w [In (ow (machQ q))] w' := by
 have : p.rounds.xs.length ≤ 9223372036854775807 := (p_w.2).1.len
 obtain ⟨n_hl, n_hu⟩ : inI64 n := id n_h
 have hR0 := rdsP_len p
 refine go Try.func71 rfl 62 rfl [wfF planE p] [] hF M ⟨p_w, trivial⟩ trivial ?_
 intro a S
 have hD : ∀ k, In ([] : List BS) k → ¬ F k := fun _ h => h.elim
 refine rs0 ?_
 refine nbp S (x_box _ (S.e rfl) rfl) ?_; clear S; intro a u b2 S
 refine ens S (tr (av rfl)<|la (av rfl)) ?_; clear S; intro a u S
 refine rs0 ?_
 refine sp S (tr (ldkw 0 rfl rfl wD47)<|la (mv rfl)) ?_; clear S; intro a u S
 refine cl S (pStates _ _ S.x (.nil _) p (dn0 (S.u 0 rfl)) n n_h (by first | omega | (dsimp only; omega))) cB103 ?_
 rintro e u ⟨r_t140, rfl, R_t140, hr_t140, T0⟩; refine ⟨_, rfl, fun a s => ?_⟩
 replace S := (S.k0 s T0).ar (wfF (slE (slE intE)) r_t140) (Enc.up _ R_t140); clear s T0 R_t140
 have hn3 : r_t140.xs.length ≤ 9223372036854775807 := ((S.u 1 rfl)).1.len
 refine ens S (tr (mv rfl)<|tr (exi rfl rfl)<|tr (exi rfl rfl)<|tr (av rfl)<|la (av rfl)) ?_; clear S; intro a u S
 refine wp_seq ?_
 refine rs S (tr (mv rfl)<|tr (neqi rfl rfl)<|tr (mv rfl)<|tr (og 19 rfl gf fun S hg=>xf (0) 1 uT47 (S.e rfl))<|tr (og 19 rfl gf fun S hg=>x_load sC45 (S.p rfl hg) ((S.k 0 rfl).cell (j := 1) rfl))<|tr (og 19 rfl gf fun S hg=>x_len uT45 (S.p rfl hg))<|tr (og 19 rfl gf fun S hg=>x_gtr (S.p rfl hg) (S.e rfl))<|la (ori rfl rfl rfl)) ?_; clear S; intro a u S
 refine cd S rfl ?_ ?_
 ·intro hc0
  refine rs S (tr (av rfl)<|la (av rfl)) ?_; clear S; intro a u S
  refine wp_ret (then_r ?_)
  replace S := S.emp
  refine ret2 rfl S.s rfl rfl ?_
  replace S := S.pk [1] (os' := [bnO []])
  refine ⟨none, (r2 rfl (vi ?_)), trivial, (S.m.o _ (nth_mem (i := 0) rfl)), ?_, S.m.c⟩
  ·rfl
  exact ⟨⟨fun h => (by cases h), fun h => by rcases hc0 with g | g; exact absurd (stsE_0.2 h.1) g; omega⟩, fun x h => by cases h⟩
 intro hc1
 obtain ⟨hst0, hst1⟩ := not_or.1 hc1
 have hst2 := stsE_0.1 (Classical.not_not.1 hst0)
 obtain ⟨sts, hst⟩ := Option.isSome_iff_exists.1 hst2
 obtain ⟨hn, hPO, hne⟩ := statesP_ok hst (by omega)
 refine wp_skip (then_n (rs0 ?_))
 refine sp S (tr (mv rfl)<|la (ov fun S=>x_bd S [(1, sV r_t140)] [.slice none 0 0, sV r_t140, iI 0, .bool false, iI 0, .slice none 0 0, .slice none 0 0, .slice none 0 0, .slice none 0 0])) ?_; clear S; intro a u S
 refine nbp S (x_box _ (S.e rfl) rfl) ?_; clear S; intro a u b27 S
 refine ens S (la (av rfl)) ?_; clear S; intro a u S
 refine wp_seq ?_
 have hn8 : p.rounds.xs.length ≤ 9223372036854775807 := ((S.u 0 rfl).2).1.len
 refine rs S (tr (fldi 0 1 rfl uT47)<|tr (ldk 0 sC45 rfl rfl rfl)<|tr (leni uT45 rfl)<|la (mv rfl)) ?_; clear S; intro a u S
 refine wp_block ?_
 replace S := S.nr (slE chgE) 122
 refine lp4 (fun (k : Nat) (rd_a : Option Addr) (rd_c : Nat) (rd : List (Sl Chg)) => [(1, iI n), (4, .pointer none), (5, iI 0), (8, pT b27 0), (29, sV p.rounds), (30, iN p.rounds.xs.length), (31, iN k)]) (fun (k : Nat) (rd_a : Option Addr) (rd_c : Nat) (rd : List (Sl Chg)) => [blO b2 (planE.cells p) 47, blO b27 [.slice rd_a rd.length rd_c, sV r_t140, iI 0, .bool false, iI 0, .slice none 0 0, .slice none 0 0, .slice none 0 0, .slice none 0 0] 166, rwO (slE chgE) 122 w.heap.size rd_a rd_c rd]) (fun (k : Nat) (rd_a : Option Addr) (rd_c : Nat) (rd : List (Sl Chg)) => k ≤ p.rounds.xs.length ∧ rd.map (fun l => l.xs) = (rdsP p).take k) (fun (k : Nat) (rd_a : Option Addr) (rd_c : Nat) (rd : List (Sl Chg)) => p.rounds.xs.length - k) S 0 none 0 ([]) (subM rfl) rfl ?_ ?_
 ·exact ⟨Nat.zero_le _, rfl⟩
 clear S; intro k rd_a rd_c rd a u S hR
 have rd_len := (S.row 2 rfl).len_le; simp only [maxLen] at rd_len
 obtain ⟨hk, hrd⟩ := hR
 have hrl : rd.length = k := by have := congrArg List.length hrd; rw [List.length_map, List.length_take] at this; omega
 refine rs S (la (lssi rfl rfl)) ?_; clear S; intro a u S
 refine wp_seq ?_
 refine cd S rfl ?_ ?_
 ·intro hc2
  have hcl0 := hPO.rd _ (getD_mem (d := []) (i := k) (by omega))
  rw [rdsP_at] at hcl0
  have hcs := Nat.le_trans hcl0.1 (by decide : 1000 ≤ 10000000)
  refine wp_skip (then_n (wp_seq (wp_block ?_)))
  have hn11 : ((p.rounds.xs.getD k (slE chgE).dflt).xs).length ≤ 9223372036854775807 := ((((S.u 0 rfl).2).1.wf k (by omega))).1.len
  refine rs S (tr (idxi uT45 sZ122 rfl rfl k rfl (by omega) (((S.u 0 rfl).2).1.adr (i := k) (by omega)))<|tr (ov fun S=>x_load sC122 (S.e rfl) (((S.u 0 rfl).2).1.cell k (by omega) 0 _ rfl))<|la (av rfl)) ?_; clear S; intro a u S
  refine lza3 (P := Try.prog) (s := .tmp 39) (x := .tmp 42) (slE chgE) (Nat × (Option Addr) × Nat) S 8 0 35 (pT b27 0) [] [(35, .is _), (36, .is _), (37, .is _), (38, .is _), (39, .is _), (40, .is _), (41, .of (fun z w => ∃ (x41aa : Option Addr) (x41ba : Nat), z = .slice x41aa (((p.rounds.xs.getD k (slE chgE).dflt).xs).length) x41ba ∧ (slE chgE).wf (Fr F [one b2, one b27, abk rd_a]) w.heap (Sl.mk x41aa x41ba ((p.rounds.xs.getD k (slE chgE).dflt).xs))) (fun v w w' c h => let ⟨x41aa, x41ba, hv, h0⟩ := h; ⟨x41aa, x41ba, hv, Enc.kp (slE chgE) h0 c (fun _ h => by simp at h)⟩)), (42, .of (fun z w => ∃ (x42a : Nat) (x41ab : Option Addr) (x41bb : Nat), z = .slice (some ⟨x42a, 0, none⟩) 1 1 ∧ (slE (slE chgE)).wf (Fr F [one b2, one b27, abk rd_a]) w.heap (Sl.mk (some ⟨x42a, 0, none⟩) 1 ([(Sl.mk x41ab x41bb ((p.rounds.xs.getD k (slE chgE).dflt).xs))])) ∧ (slE chgE).wf (Fr F [one b2, one b27, abk rd_a]) w.heap (Sl.mk x41ab x41bb ((p.rounds.xs.getD k (slE chgE).dflt).xs))) (fun v w w' c h => let ⟨x42a, x41ab, x41bb, hv, h0, h1⟩ := h; ⟨x42a, x41ab, x41bb, hv, Enc.kp (slE (slE chgE)) h0 c (fun _ h => by simp at h), Enc.kp (slE chgE) h1 c (fun _ h => by simp at h)⟩))] [[], [], [36], [37], [38], [], [40], [41]] [39, 42] 2 rfl (fun g => [(39, .slice rd_a rd.length rd_c), (42, .slice (some ⟨g.1, 0, none⟩) 1 1)]) (fun g => True) (fun g => [(Sl.mk g.2.1 g.2.2 ((p.rounds.xs.getD k (slE chgE).dflt).xs))]) ⟨qd (mv rfl), qd (mv rfl), qd (ov fun S=>x_nilck (S.e rfl)), qd (fldi 0 0 rfl uT166), qd (ldk 1 sC45 rfl rfl rfl), qd (mv rfl), ?_, ?_, trivial⟩ (fun a w S => (x_move (S.e rfl))) ?_ ?_ uT45 iZ122
  ·skip
   intro a u S G hE
   refine hcl S (sCloneG _ _ S.x (.nil _) (p.rounds.xs.getD k (slE chgE).dflt) (dn0 (((S.u 0 rfl).2).1.wf k (by omega))) (by first | omega | (dsimp only; omega) | exact hcs)) cB104 ?_
   rintro e w2 ⟨x41a, x41b, rfl, R0, T0⟩; refine ⟨_, rfl, (show ∃ _ _, _ from ?_), T0.ch, (S.m.k0 T0.ch)⟩
   exact ⟨x41a, x41b, rfl, (S.frz R0 (by decide) (fun _ h => h))⟩
  ·skip
   intro a u S G hE
   obtain ⟨e41, -⟩ := hE
   have M0 := S.m
   obtain ⟨x41a_12, x41b_12, e41, X12⟩ := e41
   replace S := S.ext e41
   refine hnb 42 M0 (x_bsl [(0, .slice x41a_12 (((p.rounds.xs.getD k (slE chgE).dflt).xs).length) x41b_12)] [.slice x41a_12 (((p.rounds.xs.getD k (slE chgE).dflt).xs).length) x41b_12] uT45 iZ122 (by decide) (by decide) (by simp only [List.map_cons, List.map_nil, S.e (x := .tmp 41) (v := .slice x41a_12 (((p.rounds.xs.getD k (slE chgE).dflt).xs).length) x41b_12) rfl]) (by kernel_rfl)) fun g => (show ∃ _, _ from ⟨_, x41a_12, x41b_12, rfl, sl_of_blk (Blk.new _ [.slice x41a_12 (((p.rounds.xs.getD k (slE chgE).dflt).xs).length) x41b_12] 122) [(Sl.mk x41a_12 x41b_12 ((p.rounds.xs.getD k (slE chgE).dflt).xs))] 1 rfl (by decide) (by decide) rfl (fr_fresh S.m.c S.m.f rfl) ?_, Enc.tr (slE chgE) X12 (Tr.of_ch0 S.M g)⟩)
   intro x hx; simp only [List.mem_cons, List.not_mem_nil, or_false] at hx; rw [hx] <;> first | exact Enc.tr (slE chgE) (show (slE chgE).wf (Fr F _) _ (Sl.mk x41a_12 x41b_12 ((p.rounds.xs.getD k (slE chgE).dflt).xs)) from X12) (Tr.of_ch0 S.M g)
  ·intro a u S G hE
   obtain ⟨e42, -⟩ := hE
   obtain ⟨x42_13, x41a_14, x41b_14, e42, X13, X14⟩ := e42
   replace S := S.ext e42
   have hn15 : ([(Sl.mk x41a_14 x41b_14 ((p.rounds.xs.getD k (slE chgE).dflt).xs))]).length ≤ 9223372036854775807 := (X13).1.len
   exact ⟨(x42_13, x41a_14, x41b_14), _, _, _, S.s.sub (subM rfl), trivial, rfl, rfl, (show LAt (slE chgE) _ _ (some ⟨x42_13, 0, none⟩) ([(Sl.mk x41a_14 x41b_14 ((p.rounds.xs.getD k (slE chgE).dflt).xs))]) from (X13).1), (X13).2.2, (LAt.mem (show LAt (slE chgE) _ _ (some ⟨x42_13, 0, none⟩) ([(Sl.mk x41a_14 x41b_14 ((p.rounds.xs.getD k (slE chgE).dflt).xs))]) from (X13).1)), ⟨by unfold maxLen; (try simp only [List.length_cons, List.length_nil, List.length_append, List.length_map]); omega, by (try simp only [List.length_cons, List.length_nil, List.length_append, List.length_map]); omega⟩⟩
  clear S; intro g ad43 cap43 a u S hR
  obtain ⟨x42_13, x41a_14, x41b_14⟩ := g; dsimp only at S hR
  refine en S (tr (ov fun S=>x_nilck (S.e rfl))<|tr (fldi 0 0 rfl uT166)<|la (stk 1 rfl rfl rfl)) ?_; clear S; intro a u S
  refine blk_n (then_n ?_)
  refine rg S (tr (addi ((k + 1 : Nat) : Int) rfl rfl (w_i64 (by omega)))<|la (mv rfl)) ?_; clear S; intro a u S
  refine then_n ?_
  refine ⟨(k + 1), ad43, cap43, (rd ++ [(Sl.mk x41a_14 x41b_14 ((p.rounds.xs.getD k (slE chgE).dflt).xs))]), S.re (subM rfl) rfl rfl, ?_, ?_⟩
  ·refine ⟨by omega, ?_⟩
   rw [List.map_append, hrd, take_up (l := rdsP p) (k := k) (m := k + 1) (by omega) rfl [], rdsP_at]; rfl
  omega
 intro hc3
 refine wp_exit (then_e (then_e (blk_e (then_n (rs0 ?_)))))
 refine sp S (tr (mv rfl)<|la (mv rfl)) ?_; clear S; intro a u S
 refine mk (E := intE) S (0 : Int) (n).toNat uT22 iZ3 rfl rfl (by omega) (by omega) (by omega) (by unfold maxLen; omega) (fun _ _ => by first | exact ⟨by omega, by omega⟩ | trivial | exact sl_nil) ?_; clear S; intro a u ad49 S
 have hrl49 : (List.replicate (n).toNat (0 : Int)).length = (n).toNat := List.length_replicate
 refine ens S (tr (ov fun S=>x_nilck (S.e rfl))<|tr (fldi 0 2 rfl uT166)<|tr (fldi (0 + 2) 3 rfl uT57)<|la (stk 1 rfl rfl rfl)) ?_; clear S; intro a u S
 refine rs0 ?_
 refine sp S (tr (mv rfl)<|la (mv rfl)) ?_; clear S; intro a u S
 refine mk (E := intE) S (0 : Int) (n).toNat uT22 iZ3 rfl rfl (by omega) (by omega) (by omega) (by unfold maxLen; omega) (fun _ _ => by first | exact ⟨by omega, by omega⟩ | trivial | exact sl_nil) ?_; clear S; intro a u ad55 S
 have hrl55 : (List.replicate (n).toNat (0 : Int)).length = (n).toNat := List.length_replicate
 refine ens S (tr (ov fun S=>x_nilck (S.e rfl))<|tr (fldi 0 2 rfl uT166)<|tr (fldi (0 + 2) 4 rfl uT57)<|la (stk 1 rfl rfl rfl)) ?_; clear S; intro a u S
 refine rs0 ?_
 refine sp S (la (mv rfl)) ?_; clear S; intro a u S
 replace S := S.fz 2 rfl
 replace S := S.nr intE 3
 replace S := S.nr intE 3
 replace S := (show St _ _ _ _ _ _ [blO b2 (planE.cells p) 47, blO b27 [.slice rd_a rd.length rd_c, sV r_t140, iI 0, .bool false, iI 0, .slice ad49 ((List.replicate (n).toNat (0 : Int)).length) ((n).toNat), .slice ad55 ((List.replicate (n).toNat (0 : Int)).length) ((n).toNat), .slice none 0 0, .slice none 0 0] 166, noO, rwO intE 3 0 ad49 ((n).toNat) (List.replicate (n).toNat (0 : Int)), rwO intE 3 0 ad55 ((n).toNat) (List.replicate (n).toNat (0 : Int)), rwO intE 3 0 none 0 ([]), rwO intE 3 0 none 0 ([])] _ _ from ((((S.b0 3 rfl).b0 4 rfl).b0 5 rfl).b0 6 rfl))
 replace S := S.pk [0, 1, 3, 4, 5, 6] (os' := [blO b2 (planE.cells p) 47, blO b27 [.slice rd_a rd.length rd_c, sV r_t140, iI 0, .bool false, iI 0, .slice ad49 ((List.replicate (n).toNat (0 : Int)).length) ((n).toNat), .slice ad55 ((List.replicate (n).toNat (0 : Int)).length) ((n).toNat), .slice none 0 0, .slice none 0 0] 166, rwO intE 3 0 ad49 ((n).toNat) (List.replicate (n).toNat (0 : Int)), rwO intE 3 0 ad55 ((n).toNat) (List.replicate (n).toNat (0 : Int)), rwO intE 3 0 none 0 ([]), rwO intE 3 0 none 0 ([])])
 replace S := S.oda (E := slE (slE chgE)) (x := (Sl.mk rd_a rd_c rd)) (S.u 2 rfl)
 replace S := S.oda (E := slE (slE intE)) (x := r_t140) (S.u 1 rfl)
 have hk20 : machK (⟨(Sl.mk rd_a rd_c rd), r_t140, 0, false, 0, (Sl.mk ad49 ((n).toNat) (List.replicate (n).toNat (0 : Int))), (Sl.mk ad55 ((n).toNat) (List.replicate (n).toNat (0 : Int))), (Sl.mk none 0 ([])), (Sl.mk none 0 ([]))⟩ : Mach) := ⟨(show inI64 0 from ⟨by omega, by omega⟩), (show inI64 0 from ⟨by omega, by omega⟩)⟩
 replace S := (show St _ _ _ _ _ _ ([blO b2 (planE.cells p) 47] ++ machF b27 (⟨(Sl.mk rd_a rd_c rd), r_t140, 0, false, 0, (Sl.mk ad49 ((n).toNat) (List.replicate (n).toNat (0 : Int))), (Sl.mk ad55 ((n).toNat) (List.replicate (n).toNat (0 : Int))), (Sl.mk none 0 ([])), (Sl.mk none 0 ([]))⟩ : Mach)) _ _ from S).cls
 replace S := (show St _ _ _ _ _ _ [blO b2 (planE.cells p) 47, bnO (machF b27 (⟨(Sl.mk rd_a rd_c rd), r_t140, 0, false, 0, (Sl.mk ad49 ((n).toNat) (List.replicate (n).toNat (0 : Int))), (Sl.mk ad55 ((n).toNat) (List.replicate (n).toNat (0 : Int))), (Sl.mk none 0 ([])), (Sl.mk none 0 ([]))⟩ : Mach))] _ _ from S)
 obtain ⟨y21, hy21⟩ : ∃ y : Mach, (⟨(Sl.mk rd_a rd_c rd), r_t140, 0, false, 0, (Sl.mk ad49 ((n).toNat) (List.replicate (n).toNat (0 : Int))), (Sl.mk ad55 ((n).toNat) (List.replicate (n).toNat (0 : Int))), (Sl.mk none 0 ([])), (Sl.mk none 0 ([]))⟩ : Mach) = y := ⟨_, rfl⟩; rw [hy21] at S hk20
 have hz : (zerosP n).length = n.toNat := by unfold zerosP; simp
 have hrd2 : rd.map (fun l => l.xs) = rdsP p := by rw [hrd, List.take_of_length_le (by omega)]
 have hr14 : r_t140.xs.map (fun l => l.xs) = sts := by rw [hr_t140, hst]; rfl
 have hOK : MachOK y21 := by
  subst hy21
  refine ⟨?_, ?_⟩
  ·show PlanOK (zerosP n).length (rd.map fun l => l.xs) (r_t140.xs.map fun l => l.xs)
   rw [hrd2, hr14, hz]; exact hPO
  show CtlOK (zerosP n).length (rd.map fun l => l.xs).length (newC n)
  rw [hz, show n = (n.toNat : Int) from by omega]; exact newC_ok
 have hOKy := hOK
 refine cl S (cStart _ _ (S.xx (ow [bnO (machF b27 y21)])) b27 y21 (S.mF (ks := [blO b2 (planE.cells p) 47]) (fs := [bnO (machF b27 y21)])) (S.nfF (ks := [blO b2 (planE.cells p) 47]) (fs := [bnO (machF b27 y21)]) hD) hk20 (S.dF (ks := [blO b2 (planE.cells p) 47]) (fs := [bnO (machF b27 y21)]) 0 rfl (mo_bn (mo_mach _ _))) (by subst hy21; exact (⟨by first | assumption | exact hOK, by first | omega | (dsimp only; omega) | simp⟩))) cB105 ?_
 rintro e u ⟨m_t60, rfl, hk_m_t60, hK_m_t60, hq_m_t60, T0⟩; refine ⟨_, rfl, fun a s => ?_⟩
 have S2 := S.kF (ks := [blO b2 (planE.cells p) 47]) (fs := [bnO (machF b27 y21)]) [bnO (machF b27 m_t60)] s T0 ⟨hK_m_t60, trivial⟩ ⟨(mo_bn (mo_mach _ _)), trivial⟩
 replace S2 := (show St _ _ _ _ _ _ [blO b2 (planE.cells p) 47, bnO (machF b27 m_t60)] _ _ from S2)
 clear S; have S := S2; clear S2 s T0 hK_m_t60
 subst hy21
 skip
 refine ent ?_
 refine rs S (tr (mv rfl)<|tr (av rfl)<|la (av rfl)) ?_; clear S; intro a u S
 refine wp_ret ?_
 refine ret2 rfl S.s rfl rfl ?_
 replace S := S.pk [1] (os' := [bnO (machF b27 m_t60)])
 refine ⟨(some (b27, m_t60)), (r2 rfl (vi ?_)), hk_m_t60, (S.m.o _ (nth_mem (i := 0) rfl)), ?_, S.m.c⟩
 ·rfl
 refine ⟨⟨fun _ => ⟨hst2, by omega⟩, fun _ => rfl⟩, ?_⟩
 intro x h
 obtain rfl := (Option.some.inj h).symm
 have hq := hq_m_t60
 have hK : KeepM _ m_t60 := ⟨hq.1.1, hq.1.2⟩
 refine ⟨machOK_of hOKy hK ?_, ?_, ?_, ?_⟩
 ·rw [hq.2]; exact (startC_ok hOKy.1 hOKy.2 fun _ _ => ⟨fun _ => Int.le_refl 0, fun h => by cases h⟩).1
 ·rw [keep_rds hK]; exact hrd2
 ·rw [keep_sts hK]; exact hr_t140
 rw [hq.2]
 show startC (rd.map fun l => l.xs) (r_t140.xs.map fun l => l.xs) (newC n) = _
 rw [hrd2, hr_t140]
end Go.Proofs.Ytobggnpnochnnaa.V
namespace Go.Proofs.Ytobggnpnochnnaa.V
open Go.RowKit Go.Proofs.Ytobggnpnochnnaa
set_option linter.unusedVariables false
set_option linter.unusedSimpArgs false
set_option maxHeartbeats 2000000 in
set_option maxRecDepth 20000 in
theorem jApply (w : World) (F : Nat → Prop) (hF : Old F w) (m_b : Nat) (m : Mach) (M : MS [In (ow (machF m_b m))] w) (hD : ∀ k, In [In (ow (machF m_b m))] k → ¬ F k) (m_k : machK m) (m_K : (bnO (machF m_b m)).p F (In [In (ow (machF m_b m))]) w) (r : Rec) (r_w : recE.wf (Fr F [In (ow (machF m_b m))]) w.heap r) (ok : MachOK m ∧ m.sent.xs.length ≤ 300000 ∧ 0 ≤ r.dev ∧ r.dev < m.target.xs.length) :
 Calls Try.prog 73 #[pT m_b 0, .agg (recE.cells r).toArray] w fun e w' => ∃ (m_1 : Mach), e = .returned (.tuple #[]) ∧ machK m_1 ∧ (bnO (machF m_b m_1)).p F (In [In (ow (machF m_b m_1))]) w' ∧ (KeepM m m_1 ∧ absM m_1 = stepJ (rdsM m) (stsM m) (absM m) r) ∧ Tr [In (ow (machF m_b m))] w [In (ow (machF m_b m_1))] w' := by
 obtain ⟨_, _⟩ : inI64 r.kind := r_w.1
 obtain ⟨_, _⟩ : inI64 r.dev := r_w.2.1
 obtain ⟨_, _⟩ : inI64 r.inc := r_w.2.2.1
 obtain ⟨_, _⟩ : inI64 r.seq := r_w.2.2.2
 obtain ⟨hOK, hsent, hd0, hd1⟩ := ok
 refine go Try.func73 rfl 36 rfl [wfF recE r] [bnO (machF m_b m)] hF M ⟨r_w, trivial⟩ ⟨m_K, trivial⟩ ?_
 intro a S
 refine rs0 ?_
 refine nbp S (x_box _ (S.e rfl) rfl) ?_; clear S; intro a u b3 S
 refine ent (wp_seq ?_)
 refine rs S (tr (fldi 0 0 rfl uT24)<|la (ldk 1 sC3 rfl rfl rfl)) ?_; clear S; intro a u S
 refine wp_block ?_
 refine rs S (tr (eqli rfl rfl)<|la (av rfl)) ?_; clear S; intro a u S
 refine cd S rfl ?_ ?_
 ·intro hc0
  refine r0 ?_
  refine sp S (tr (mv rfl)<|tr (fldi 0 1 rfl uT24)<|tr (ldk 1 sC3 rfl rfl rfl)<|tr (fldi 0 2 rfl uT24)<|tr (ldk 1 sC3 rfl rfl rfl)<|tr (fldi 0 3 rfl uT24)<|la (ldk 1 sC3 rfl rfl rfl)) ?_; clear S; intro a u S
  replace S := S.pk [1, 0] (os' := [blO b3 (recE.cells r) 24, bnO (machF m_b m)])
  refine cl S (cAck _ _ (S.xx (ow [bnO (machF m_b m)])) m_b m (S.mF (ks := [blO b3 (recE.cells r) 24]) (fs := [bnO (machF m_b m)])) (S.nfF (ks := [blO b3 (recE.cells r) 24]) (fs := [bnO (machF m_b m)]) hD) m_k (S.dF (ks := [blO b3 (recE.cells r) 24]) (fs := [bnO (machF m_b m)]) 0 rfl (mo_bn (mo_mach _ _))) r.dev (S.u 0 rfl).2.1 r.inc (S.u 0 rfl).2.2.1 r.seq (S.u 0 rfl).2.2.2 (⟨by first | assumption | exact hOK, by first | omega | (dsimp only; omega), by omega, by first | omega | (dsimp only; omega)⟩)) cB106 ?_
  rintro e u ⟨m_t15, rfl, hk_m_t15, hK_m_t15, hq_m_t15, T0⟩; refine ⟨_, rfl, fun a s => ?_⟩
  have S2 := S.kF (ks := [blO b3 (recE.cells r) 24]) (fs := [bnO (machF m_b m)]) [bnO (machF m_b m_t15)] s T0 ⟨hK_m_t15, trivial⟩ ⟨(mo_bn (mo_mach _ _)), trivial⟩
  replace S2 := (show St _ _ _ _ _ _ [blO b3 (recE.cells r) 24, bnO (machF m_b m_t15)] _ _ from S2)
  clear S; have S := S2; clear S2 s T0 hK_m_t15
  refine nn (blk_n (then_n (r0 ?_)))
  refine sp S (la (mv rfl)) ?_; clear S; intro a u S
  refine cl S (cSent _ _ (S.xx (ow [bnO (machF m_b m_t15)])) m_b m_t15 (S.mF (ks := [blO b3 (recE.cells r) 24]) (fs := [bnO (machF m_b m_t15)])) (S.nfF (ks := [blO b3 (recE.cells r) 24]) (fs := [bnO (machF m_b m_t15)]) hD) hk_m_t15 (S.dF (ks := [blO b3 (recE.cells r) 24]) (fs := [bnO (machF m_b m_t15)]) 0 rfl (mo_bn (mo_mach _ _)))) cB108 ?_
  rintro e u ⟨ra_t35, rc_t35, m_t35, rfl, R_t35, hk_m_t35, hK_m_t35, hq_m_t35, T0⟩; refine ⟨_, rfl, fun a s => ?_⟩
  have S2 := S.kF (ks := [blO b3 (recE.cells r) 24]) (fs := [bnO (machF m_b m_t15)]) [bnO (machF m_b m_t35)] s T0 ⟨hK_m_t35, trivial⟩ ⟨(mo_bn (mo_mach _ _)), trivial⟩
  replace S2 := S2.ar (wfF (slE intE) (Sl.mk ra_t35 rc_t35 m_t15.sent.xs)) (S.upF (ks := [blO b3 (recE.cells r) 24]) (fs := [bnO (machF m_b m_t15)]) (fs' := [bnO (machF m_b m_t35)]) R_t35)
  replace S2 := (show St _ _ _ _ _ _ [blO b3 (recE.cells r) 24, bnO (machF m_b m_t35)] _ _ from S2)
  clear S; have S := S2; clear S2 s T0 hK_m_t35 R_t35
  have hn6 : m_t15.sent.xs.length ≤ 9223372036854775807 := ((S.u 1 rfl)).1.len
  refine nn ?_
  refine end0 rfl S.s ?_
  replace S := S.pk [1] (os' := [bnO (machF m_b m_t35)])
  refine ⟨m_t35, rfl, hk_m_t35, (S.m.o _ (nth_mem (i := 0) rfl)), ?_, S.m.c⟩
  have e1 : absM m_t15 = ackC (rdsM m) (stsM m) (absM m) r.dev r.inc r.seq := hq_m_t15.2
  have e2 : absM m_t35 = {absM m_t15 with sent := []} := hq_m_t35.2
  refine ⟨KeepM.trans ⟨hq_m_t15.1.1, hq_m_t15.1.2⟩ ⟨hq_m_t35.1.1, hq_m_t35.1.2⟩, ?_⟩
  rw [e2, e1]
  unfold stepJ stepK
  rw [if_pos (by assumption)]
 intro hc1
 refine rs S (tr (eqli rfl rfl)<|la (av rfl)) ?_; clear S; intro a u S
 refine cd S rfl ?_ ?_
 ·intro hc2
  refine r0 ?_
  refine sp S (tr (mv rfl)<|tr (fldi 0 1 rfl uT24)<|tr (ldk 1 sC3 rfl rfl rfl)<|tr (fldi 0 2 rfl uT24)<|la (ldk 1 sC3 rfl rfl rfl)) ?_; clear S; intro a u S
  replace S := S.pk [1, 0] (os' := [blO b3 (recE.cells r) 24, bnO (machF m_b m)])
  refine cl S (cHello _ _ (S.xx (ow [bnO (machF m_b m)])) m_b m (S.mF (ks := [blO b3 (recE.cells r) 24]) (fs := [bnO (machF m_b m)])) (S.nfF (ks := [blO b3 (recE.cells r) 24]) (fs := [bnO (machF m_b m)]) hD) m_k (S.dF (ks := [blO b3 (recE.cells r) 24]) (fs := [bnO (machF m_b m)]) 0 rfl (mo_bn (mo_mach _ _))) r.dev (S.u 0 rfl).2.1 r.inc (S.u 0 rfl).2.2.1 (⟨by first | assumption | exact hOK, by first | omega | (dsimp only; omega), by omega, by first | omega | (dsimp only; omega)⟩)) cB107 ?_
  rintro e u ⟨m_t23, rfl, hk_m_t23, hK_m_t23, hq_m_t23, T0⟩; refine ⟨_, rfl, fun a s => ?_⟩
  have S2 := S.kF (ks := [blO b3 (recE.cells r) 24]) (fs := [bnO (machF m_b m)]) [bnO (machF m_b m_t23)] s T0 ⟨hK_m_t23, trivial⟩ ⟨(mo_bn (mo_mach _ _)), trivial⟩
  replace S2 := (show St _ _ _ _ _ _ [blO b3 (recE.cells r) 24, bnO (machF m_b m_t23)] _ _ from S2)
  clear S; have S := S2; clear S2 s T0 hK_m_t23
  refine nn (blk_n (then_n (r0 ?_)))
  refine sp S (la (mv rfl)) ?_; clear S; intro a u S
  refine cl S (cSent _ _ (S.xx (ow [bnO (machF m_b m_t23)])) m_b m_t23 (S.mF (ks := [blO b3 (recE.cells r) 24]) (fs := [bnO (machF m_b m_t23)])) (S.nfF (ks := [blO b3 (recE.cells r) 24]) (fs := [bnO (machF m_b m_t23)]) hD) hk_m_t23 (S.dF (ks := [blO b3 (recE.cells r) 24]) (fs := [bnO (machF m_b m_t23)]) 0 rfl (mo_bn (mo_mach _ _)))) cB108 ?_
  rintro e u ⟨ra_t35, rc_t35, m_t35, rfl, R_t35, hk_m_t35, hK_m_t35, hq_m_t35, T0⟩; refine ⟨_, rfl, fun a s => ?_⟩
  have S2 := S.kF (ks := [blO b3 (recE.cells r) 24]) (fs := [bnO (machF m_b m_t23)]) [bnO (machF m_b m_t35)] s T0 ⟨hK_m_t35, trivial⟩ ⟨(mo_bn (mo_mach _ _)), trivial⟩
  replace S2 := S2.ar (wfF (slE intE) (Sl.mk ra_t35 rc_t35 m_t23.sent.xs)) (S.upF (ks := [blO b3 (recE.cells r) 24]) (fs := [bnO (machF m_b m_t23)]) (fs' := [bnO (machF m_b m_t35)]) R_t35)
  replace S2 := (show St _ _ _ _ _ _ [blO b3 (recE.cells r) 24, bnO (machF m_b m_t35)] _ _ from S2)
  clear S; have S := S2; clear S2 s T0 hK_m_t35 R_t35
  have hn10 : m_t23.sent.xs.length ≤ 9223372036854775807 := ((S.u 1 rfl)).1.len
  refine nn ?_
  refine end0 rfl S.s ?_
  replace S := S.pk [1] (os' := [bnO (machF m_b m_t35)])
  refine ⟨m_t35, rfl, hk_m_t35, (S.m.o _ (nth_mem (i := 0) rfl)), ?_, S.m.c⟩
  have e1 : absM m_t23 = helloC (absM m) r.dev r.inc := hq_m_t23.2
  have e2 : absM m_t35 = {absM m_t23 with sent := []} := hq_m_t35.2
  refine ⟨KeepM.trans ⟨hq_m_t23.1.1, hq_m_t23.1.2⟩ ⟨hq_m_t35.1.1, hq_m_t35.1.2⟩, ?_⟩
  rw [e2, e1]
  unfold stepJ stepK
  rw [if_neg (by assumption), if_pos (by assumption)]
 intro hc3
 refine rs S (tr (eqli rfl rfl)<|la (av rfl)) ?_; clear S; intro a u S
 refine cd S rfl ?_ ?_
 ·intro hc4
  refine r0 ?_
  refine sp S (tr (mv rfl)<|tr (fldi 0 1 rfl uT24)<|la (ldk 1 sC3 rfl rfl rfl)) ?_; clear S; intro a u S
  replace S := S.pk [1, 0] (os' := [blO b3 (recE.cells r) 24, bnO (machF m_b m)])
  refine cl S (cSkip _ _ (S.xx (ow [bnO (machF m_b m)])) m_b m (S.mF (ks := [blO b3 (recE.cells r) 24]) (fs := [bnO (machF m_b m)])) (S.nfF (ks := [blO b3 (recE.cells r) 24]) (fs := [bnO (machF m_b m)]) hD) m_k (S.dF (ks := [blO b3 (recE.cells r) 24]) (fs := [bnO (machF m_b m)]) 0 rfl (mo_bn (mo_mach _ _))) r.dev (S.u 0 rfl).2.1 (⟨by first | assumption | exact hOK, by first | omega | (dsimp only; omega)⟩)) cB86 ?_
  rintro e u ⟨m_t29, rfl, hk_m_t29, hK_m_t29, hq_m_t29, T0⟩; refine ⟨_, rfl, fun a s => ?_⟩
  have S2 := S.kF (ks := [blO b3 (recE.cells r) 24]) (fs := [bnO (machF m_b m)]) [bnO (machF m_b m_t29)] s T0 ⟨hK_m_t29, trivial⟩ ⟨(mo_bn (mo_mach _ _)), trivial⟩
  replace S2 := (show St _ _ _ _ _ _ [blO b3 (recE.cells r) 24, bnO (machF m_b m_t29)] _ _ from S2)
  clear S; have S := S2; clear S2 s T0 hK_m_t29
  refine nn (blk_n (then_n (r0 ?_)))
  refine sp S (la (mv rfl)) ?_; clear S; intro a u S
  refine cl S (cSent _ _ (S.xx (ow [bnO (machF m_b m_t29)])) m_b m_t29 (S.mF (ks := [blO b3 (recE.cells r) 24]) (fs := [bnO (machF m_b m_t29)])) (S.nfF (ks := [blO b3 (recE.cells r) 24]) (fs := [bnO (machF m_b m_t29)]) hD) hk_m_t29 (S.dF (ks := [blO b3 (recE.cells r) 24]) (fs := [bnO (machF m_b m_t29)]) 0 rfl (mo_bn (mo_mach _ _)))) cB108 ?_
  rintro e u ⟨ra_t35, rc_t35, m_t35, rfl, R_t35, hk_m_t35, hK_m_t35, hq_m_t35, T0⟩; refine ⟨_, rfl, fun a s => ?_⟩
  have S2 := S.kF (ks := [blO b3 (recE.cells r) 24]) (fs := [bnO (machF m_b m_t29)]) [bnO (machF m_b m_t35)] s T0 ⟨hK_m_t35, trivial⟩ ⟨(mo_bn (mo_mach _ _)), trivial⟩
  replace S2 := S2.ar (wfF (slE intE) (Sl.mk ra_t35 rc_t35 m_t29.sent.xs)) (S.upF (ks := [blO b3 (recE.cells r) 24]) (fs := [bnO (machF m_b m_t29)]) (fs' := [bnO (machF m_b m_t35)]) R_t35)
  replace S2 := (show St _ _ _ _ _ _ [blO b3 (recE.cells r) 24, bnO (machF m_b m_t35)] _ _ from S2)
  clear S; have S := S2; clear S2 s T0 hK_m_t35 R_t35
  have hn14 : m_t29.sent.xs.length ≤ 9223372036854775807 := ((S.u 1 rfl)).1.len
  refine nn ?_
  refine end0 rfl S.s ?_
  replace S := S.pk [1] (os' := [bnO (machF m_b m_t35)])
  refine ⟨m_t35, rfl, hk_m_t35, (S.m.o _ (nth_mem (i := 0) rfl)), ?_, S.m.c⟩
  have e1 : absM m_t29 = rmC (rdsM m) (stsM m) (absM m) r.dev := hq_m_t29.2
  have e2 : absM m_t35 = {absM m_t29 with sent := []} := hq_m_t35.2
  refine ⟨KeepM.trans ⟨hq_m_t29.1.1, hq_m_t29.1.2⟩ ⟨hq_m_t35.1.1, hq_m_t35.1.2⟩, ?_⟩
  rw [e2, e1]
  unfold stepJ stepK
  rw [if_neg (by assumption), if_neg (by assumption), if_pos (by assumption)]
 intro hc5
 refine rs S (tr (eqli rfl rfl)<|la (av rfl)) ?_; clear S; intro a u S
 refine cd S rfl ?_ ?_
 ·intro hc6
  refine r0 ?_
  refine sp S (la (mv rfl)) ?_; clear S; intro a u S
  replace S := S.pk [1, 0] (os' := [blO b3 (recE.cells r) 24, bnO (machF m_b m)])
  refine cl S (cAbort _ _ (S.xx (ow [bnO (machF m_b m)])) m_b m (S.mF (ks := [blO b3 (recE.cells r) 24]) (fs := [bnO (machF m_b m)])) (S.nfF (ks := [blO b3 (recE.cells r) 24]) (fs := [bnO (machF m_b m)]) hD) m_k (S.dF (ks := [blO b3 (recE.cells r) 24]) (fs := [bnO (machF m_b m)]) 0 rfl (mo_bn (mo_mach _ _))) (⟨by first | assumption | exact hOK, by first | omega | (dsimp only; omega)⟩)) cB87 ?_
  rintro e u ⟨m_t33, rfl, hk_m_t33, hK_m_t33, hq_m_t33, T0⟩; refine ⟨_, rfl, fun a s => ?_⟩
  have S2 := S.kF (ks := [blO b3 (recE.cells r) 24]) (fs := [bnO (machF m_b m)]) [bnO (machF m_b m_t33)] s T0 ⟨hK_m_t33, trivial⟩ ⟨(mo_bn (mo_mach _ _)), trivial⟩
  replace S2 := (show St _ _ _ _ _ _ [blO b3 (recE.cells r) 24, bnO (machF m_b m_t33)] _ _ from S2)
  clear S; have S := S2; clear S2 s T0 hK_m_t33
  refine nn (blk_n (then_n (r0 ?_)))
  refine sp S (la (mv rfl)) ?_; clear S; intro a u S
  refine cl S (cSent _ _ (S.xx (ow [bnO (machF m_b m_t33)])) m_b m_t33 (S.mF (ks := [blO b3 (recE.cells r) 24]) (fs := [bnO (machF m_b m_t33)])) (S.nfF (ks := [blO b3 (recE.cells r) 24]) (fs := [bnO (machF m_b m_t33)]) hD) hk_m_t33 (S.dF (ks := [blO b3 (recE.cells r) 24]) (fs := [bnO (machF m_b m_t33)]) 0 rfl (mo_bn (mo_mach _ _)))) cB108 ?_
  rintro e u ⟨ra_t35, rc_t35, m_t35, rfl, R_t35, hk_m_t35, hK_m_t35, hq_m_t35, T0⟩; refine ⟨_, rfl, fun a s => ?_⟩
  have S2 := S.kF (ks := [blO b3 (recE.cells r) 24]) (fs := [bnO (machF m_b m_t33)]) [bnO (machF m_b m_t35)] s T0 ⟨hK_m_t35, trivial⟩ ⟨(mo_bn (mo_mach _ _)), trivial⟩
  replace S2 := S2.ar (wfF (slE intE) (Sl.mk ra_t35 rc_t35 m_t33.sent.xs)) (S.upF (ks := [blO b3 (recE.cells r) 24]) (fs := [bnO (machF m_b m_t33)]) (fs' := [bnO (machF m_b m_t35)]) R_t35)
  replace S2 := (show St _ _ _ _ _ _ [blO b3 (recE.cells r) 24, bnO (machF m_b m_t35)] _ _ from S2)
  clear S; have S := S2; clear S2 s T0 hK_m_t35 R_t35
  have hn18 : m_t33.sent.xs.length ≤ 9223372036854775807 := ((S.u 1 rfl)).1.len
  refine nn ?_
  refine end0 rfl S.s ?_
  replace S := S.pk [1] (os' := [bnO (machF m_b m_t35)])
  refine ⟨m_t35, rfl, hk_m_t35, (S.m.o _ (nth_mem (i := 0) rfl)), ?_, S.m.c⟩
  have e1 : absM m_t33 = abortC (rdsM m) (stsM m) (absM m) := hq_m_t33.2
  have e2 : absM m_t35 = {absM m_t33 with sent := []} := hq_m_t35.2
  refine ⟨KeepM.trans ⟨hq_m_t33.1.1, hq_m_t33.1.2⟩ ⟨hq_m_t35.1.1, hq_m_t35.1.2⟩, ?_⟩
  rw [e2, e1]
  unfold stepJ stepK
  rw [if_neg (by assumption), if_neg (by assumption), if_neg (by assumption), if_pos (by assumption)]
 intro hc7
 refine wp_skip (blk_n (then_n (r0 ?_)))
 refine sp S (la (mv rfl)) ?_; clear S; intro a u S
 replace S := S.pk [1, 0] (os' := [blO b3 (recE.cells r) 24, bnO (machF m_b m)])
 refine cl S (cSent _ _ (S.xx (ow [bnO (machF m_b m)])) m_b m (S.mF (ks := [blO b3 (recE.cells r) 24]) (fs := [bnO (machF m_b m)])) (S.nfF (ks := [blO b3 (recE.cells r) 24]) (fs := [bnO (machF m_b m)]) hD) m_k (S.dF (ks := [blO b3 (recE.cells r) 24]) (fs := [bnO (machF m_b m)]) 0 rfl (mo_bn (mo_mach _ _)))) cB108 ?_
 rintro e u ⟨ra_t35, rc_t35, m_t35, rfl, R_t35, hk_m_t35, hK_m_t35, hq_m_t35, T0⟩; refine ⟨_, rfl, fun a s => ?_⟩
 have S2 := S.kF (ks := [blO b3 (recE.cells r) 24]) (fs := [bnO (machF m_b m)]) [bnO (machF m_b m_t35)] s T0 ⟨hK_m_t35, trivial⟩ ⟨(mo_bn (mo_mach _ _)), trivial⟩
 replace S2 := S2.ar (wfF (slE intE) (Sl.mk ra_t35 rc_t35 m.sent.xs)) (S.upF (ks := [blO b3 (recE.cells r) 24]) (fs := [bnO (machF m_b m)]) (fs' := [bnO (machF m_b m_t35)]) R_t35)
 replace S2 := (show St _ _ _ _ _ _ [blO b3 (recE.cells r) 24, bnO (machF m_b m_t35)] _ _ from S2)
 clear S; have S := S2; clear S2 s T0 hK_m_t35 R_t35
 have hn20 : m.sent.xs.length ≤ 9223372036854775807 := ((S.u 1 rfl)).1.len
 refine nn ?_
 refine end0 rfl S.s ?_
 replace S := S.pk [1] (os' := [bnO (machF m_b m_t35)])
 refine ⟨m_t35, rfl, hk_m_t35, (S.m.o _ (nth_mem (i := 0) rfl)), ?_, S.m.c⟩
 have e2 : absM m_t35 = {absM m with sent := []} := hq_m_t35.2
 refine ⟨⟨hq_m_t35.1.1, hq_m_t35.1.2⟩, ?_⟩
 rw [e2]
 unfold stepJ stepK
 rw [if_neg (by assumption), if_neg (by assumption), if_neg (by assumption), if_neg (by assumption)]
end Go.Proofs.Ytobggnpnochnnaa.V
namespace Go.Proofs.Ytobggnpnochnnaa.V
open Go.RowKit Go.Proofs.Ytobggnpnochnnaa
set_option linter.unusedVariables false
set_option linter.unusedSimpArgs false
set_option maxHeartbeats 2000000 in
set_option maxRecDepth 20000 in
theorem jAppend (w : World) (F : Nat → Prop) (hF : Old F w) (jl_b : Nat) (jl : Lg) (M : MS [In (ow (lgF jl_b jl))] w) (hD : ∀ k, In [In (ow (lgF jl_b jl))] k → ¬ F k) (jl_k : lgK jl) (jl_K : (bnO (lgF jl_b jl)).p F (In [In (ow (lgF jl_b jl))]) w) (r : Rec) (r_w : recE.wf (Fr F [In (ow (lgF jl_b jl))]) w.heap r) (ok : MachOK jl.m.2 ∧ jl.m.2.sent.xs.length ≤ 300000 ∧ jl.l.xs.length ≤ 10000) :
 Calls Try.prog 34 #[pT jl_b 0, .agg (recE.cells r).toArray] w fun e w' => ∃ (jl_1 : Lg), e = .returned (iI (appE ((jl.m.2.target.xs.length : Nat) : Int) jl.l.xs.length r)) ∧ lgK jl_1 ∧ (bnO (lgF jl_b jl_1)).p F (In [In (ow (lgF jl_b jl_1))]) w' ∧ ((appE ((jl.m.2.target.xs.length : Nat) : Int) jl.l.xs.length r = 0 → KeepM jl.m.2 jl_1.m.2 ∧ absM jl_1.m.2 = stepJ (rdsM jl.m.2) (stsM jl.m.2) (absM jl.m.2) r ∧ jl_1.l.xs = jl.l.xs ++ [r]) ∧ (¬ appE ((jl.m.2.target.xs.length : Nat) : Int) jl.l.xs.length r = 0 → jl_1 = jl)) ∧ Tr [In (ow (lgF jl_b jl))] w [In (ow (lgF jl_b jl_1))] w' := by
 obtain ⟨_, _⟩ : inI64 r.kind := r_w.1
 obtain ⟨_, _⟩ : inI64 r.dev := r_w.2.1
 obtain ⟨_, _⟩ : inI64 r.inc := r_w.2.2.1
 obtain ⟨_, _⟩ : inI64 r.seq := r_w.2.2.2
 obtain ⟨hOK, hsent, hll⟩ := ok
 refine go Try.func34 rfl 53 rfl [wfF recE r] [bnO (lgF jl_b jl)] hF M ⟨r_w, trivial⟩ ⟨jl_K, trivial⟩ ?_
 intro a S
 refine rs0 ?_
 refine nbp S (x_box _ (S.e rfl) rfl) ?_; clear S; intro a u b3 S
 refine ens S (la (av rfl)) ?_; clear S; intro a u S
 refine wp_seq (wp_block (wp_seq ?_))
 replace S := S.pk [1, 0] (os' := [blO b3 (recE.cells r) 24, bnO (lgF jl_b jl)])
 replace S := (show St _ _ _ _ _ _ [blO b3 (recE.cells r) 24, blO jl_b [pT jl.m.1 0, sV jl.l] 129, rwO recE 24 0 jl.l.a jl.l.c jl.l.xs, bnO (machF jl.m.1 jl.m.2)] _ _ from S.opn (ks := [blO b3 (recE.cells r) 24]))
 have : jl.l.xs.length ≤ 9223372036854775807 := (S.row 2 rfl).len_le
 refine dr (P := Try.prog) S 25 [] [(6, .is _), (7, .is _), (8, .is _), (9, .is _), (10, .is _), (11, .is _), (12, .is _), (13, .is _), (14, .is _), (15, .is _), (16, .is _), (17, .is _), (18, .is _), (19, .is _), (20, .is _), (21, .is _), (22, .is _), (23, .is _), (24, .is _), (25, .is _), (26, .is _), (27, .is _), (28, .is _), (29, .is _), (5, .is _)] [[], [6], [7], [8], [8, 9], [8, 10], [8, 11], [8, 12], [8, 13], [14], [15], [15, 16], [15, 17], [15, 18], [19], [20], [20, 21], [20], [20, 23], [20, 24], [20, 25], [20, 26], [20, 22, 27], [20, 28], [29]] [5] _ ⟨qd (mv rfl), qd (ov fun S=>x_peqN uT52 (S.e rfl) (S.e rfl)), qd (mv rfl), qd (gon 8 rfl fun S=>x_move (S.e rfl)), qd (gon 8 rfl fun S=>x_nilck (S.e rfl)), qd (gon 8 rfl fun S=>x_fld (z := 0) (0) 0 uT129 rfl rfl (by kernel_rfl) (S.e rfl)), qd (gon 8 rfl fun S=>x_load sC125 (S.e rfl) ((S.k 1 rfl).cell (j := 0) rfl)), qd (gon 8 rfl fun S=>x_peqN uT125 (S.e rfl) (S.e rfl)), qd (ov fun S=>x_pickf (S.e rfl) (S.e rfl)), qd (mv rfl), qd (gon 15 rfl fun S=>x_ldw (S.e rfl) (S.k 0 rfl).all wD24), qd (ocon 15 rfl (fun S=>jValid _ _ S.x (.nil _) r (dn0 (S.u 0 rfl))) cB61), qd (gon 15 rfl fun S=>x_notp (S.e rfl)), qd (ov fun S=>x_pickf (S.e rfl) (S.e rfl)), qd (mv rfl), qd (og 20 rfl gf fun S hg=>xf (0) 1 uT24 (S.e rfl)), qd (og 20 rfl gf fun S hg=>x_load sC3 (S.p rfl hg) ((S.k 0 rfl).cell (j := 1) rfl)), qd (og 20 rfl gf fun S hg=>x_move (S.e rfl)), qd (og 20 rfl gf fun S hg=>x_nilck (S.p rfl hg)), qd (og 20 rfl gf fun S hg=>xf (0) 0 uT129 (S.p rfl hg)), qd (og 20 rfl gf fun S hg=>x_load sC125 (S.p rfl hg) ((S.k 1 rfl).cell (j := 0) rfl)), qd (ocg 20 rfl gf (fun S hg=>cDevices _ _ (S.xx [In (ow (machF jl.m.1 jl.m.2))]) (.nil _) (jl.m.1, jl.m.2) (S.rob hD 3 rfl (X := fun D => (ptE machE 166).wf D _ (jl.m.1, jl.m.2)) (rd_mach jl_k) _ (by simp))) cB72 fun S=>⟨fun hg=>(S.p rfl hg), trivial⟩), qd (og 20 rfl gf fun S hg=>x_geq (S.p rfl hg) (S.p rfl hg)), qd (ori rfl rfl rfl), qd (av rfl), trivial⟩ ?_
 clear S; intro a u S G hE
 refine ent ?_
 refine cd S rfl ?_ ?_
 ·intro hc0
  refine rs S (la (av rfl)) ?_; clear S; intro a u S
  refine wp_ret (blk_r (then_r ?_))
  have hk3 : lgK (⟨(jl.m.1, jl.m.2), (Sl.mk jl.l.a jl.l.c jl.l.xs)⟩ : Lg) := jl_k
  replace S := (show St _ _ _ _ _ _ ([blO b3 (recE.cells r) 24] ++ lgF jl_b (⟨(jl.m.1, jl.m.2), (Sl.mk jl.l.a jl.l.c jl.l.xs)⟩ : Lg)) _ _ from S).cls
  replace S := (show St _ _ _ _ _ _ [blO b3 (recE.cells r) 24, bnO (lgF jl_b (⟨(jl.m.1, jl.m.2), (Sl.mk jl.l.a jl.l.c jl.l.xs)⟩ : Lg))] _ _ from S)
  refine ret1 rfl S.s rfl ?_
  replace S := S.pk [1] (os' := [bnO (lgF jl_b (⟨(jl.m.1, jl.m.2), (Sl.mk jl.l.a jl.l.c jl.l.xs)⟩ : Lg))])
  refine ⟨(⟨(jl.m.1, jl.m.2), (Sl.mk jl.l.a jl.l.c jl.l.xs)⟩ : Lg), (r1 (vi ?_)), hk3, (S.m.o _ (nth_mem (i := 0) rfl)), ?_, S.m.c⟩
  ·unfold appE; rw [if_pos hc0]
  have e : appE ((jl.m.2.target.xs.length : Nat) : Int) jl.l.xs.length r = 1 := by unfold appE; rw [if_pos hc0]
  exact ⟨fun h => (by rw [e] at h; cases h), fun _ => rfl⟩
 intro hc1
 obtain ⟨hv0, hdv0⟩ := not_or.1 hc1
 have hdv : r.dev < ((jl.m.2.target.xs.length : Nat) : Int) := Int.not_le.1 hdv0
 have hv : recOK r := Classical.not_not.1 hv0
 have hv2 := hv
 unfold recOK at hv2
 refine rs S (tr (mv rfl)<|tr (ov fun S=>x_nilck (S.e rfl))<|tr (fldi 0 1 rfl uT129)<|tr (ldk 1 sC32 rfl rfl rfl)<|tr (leni uT32 rfl)<|tr (geqi rfl rfl)<|la (av rfl)) ?_; clear S; intro a u S
 refine cd S rfl ?_ ?_
 ·intro hc2
  refine rs S (la (av rfl)) ?_; clear S; intro a u S
  refine wp_ret (blk_r (then_r ?_))
  have hk6 : lgK (⟨(jl.m.1, jl.m.2), (Sl.mk jl.l.a jl.l.c jl.l.xs)⟩ : Lg) := jl_k
  replace S := (show St _ _ _ _ _ _ ([blO b3 (recE.cells r) 24] ++ lgF jl_b (⟨(jl.m.1, jl.m.2), (Sl.mk jl.l.a jl.l.c jl.l.xs)⟩ : Lg)) _ _ from S).cls
  replace S := (show St _ _ _ _ _ _ [blO b3 (recE.cells r) 24, bnO (lgF jl_b (⟨(jl.m.1, jl.m.2), (Sl.mk jl.l.a jl.l.c jl.l.xs)⟩ : Lg))] _ _ from S)
  refine ret1 rfl S.s rfl ?_
  replace S := S.pk [1] (os' := [bnO (lgF jl_b (⟨(jl.m.1, jl.m.2), (Sl.mk jl.l.a jl.l.c jl.l.xs)⟩ : Lg))])
  refine ⟨(⟨(jl.m.1, jl.m.2), (Sl.mk jl.l.a jl.l.c jl.l.xs)⟩ : Lg), (r1 (vi ?_)), hk6, (S.m.o _ (nth_mem (i := 0) rfl)), ?_, S.m.c⟩
  ·unfold appE; rw [if_neg hc1, if_pos (by omega)]
  have e : appE ((jl.m.2.target.xs.length : Nat) : Int) jl.l.xs.length r = 3 := by unfold appE; rw [if_neg hc1, if_pos (by omega)]
  exact ⟨fun h => (by rw [e] at h; cases h), fun _ => rfl⟩
 intro hc3
 refine wp_skip (blk_n (then_n (wp_seq ?_)))
 refine lza3 (P := Try.prog) (s := .tmp 41) (x := .tmp 43) recE Nat S 7 0 37 (pT jl_b 0) [] [(37, .is _), (38, .is _), (39, .is _), (40, .is _), (41, .is _), (42, .is _), (43, .of (fun z w => ∃ (x43a : Nat), z = .slice (some ⟨x43a, 0, none⟩) 1 1 ∧ (slE recE).wf (Fr F [one b3, one jl_b, abk jl.l.a, In (ow (machF jl.m.1 jl.m.2))]) w.heap (Sl.mk (some ⟨x43a, 0, none⟩) 1 ([r]))) (fun v w w' c h => let ⟨x43a, hv, h0⟩ := h; ⟨x43a, hv, Enc.kp (slE recE) h0 c (fun _ h => by simp at h)⟩))] [[], [], [38], [39], [40], [], [42]] [41, 43] 2 rfl (fun g => [(41, sV jl.l), (43, .slice (some ⟨g, 0, none⟩) 1 1)]) (fun g => True) (fun g => [r]) ⟨qd (mv rfl), qd (mv rfl), qd (ov fun S=>x_nilck (S.e rfl)), qd (fldi 0 1 rfl uT129), qd (ldk 1 sC32 rfl rfl rfl), qd (ldkw 0 rfl rfl wD24), ?_, trivial⟩ (fun a w S => (x_move (S.e rfl))) ?_ ?_ uT32 iZ24
 ·skip
  intro a u S G hE
  refine hnb 43 S.m (x_bsl [(0, .agg (recE.cells r).toArray)] [iI r.kind, iI r.dev, iI r.inc, iI r.seq] uT32 iZ24 (by decide) (by decide) (by simp only [List.map_cons, List.map_nil, S.e (x := .tmp 42) (v := .agg (recE.cells r).toArray) rfl]) (by kernel_rfl)) fun g => (show ∃ _, _ from ⟨_, rfl, sl_of_blk (Blk.new _ [iI r.kind, iI r.dev, iI r.inc, iI r.seq] 24) [r] 1 rfl (by decide) (by decide) rfl (fr_fresh S.m.c S.m.f rfl) ?_⟩)
  intro x hx; simp only [List.mem_cons, List.not_mem_nil, or_false] at hx; rw [hx] <;> first | exact Enc.tr (recE) (show recE.wf (Fr F _) _ r from ⟨(S.u 0 rfl).1, (S.u 0 rfl).2.1, (S.u 0 rfl).2.2.1, (S.u 0 rfl).2.2.2⟩) (Tr.of_ch0 S.M g)
 ·intro a u S G hE
  obtain ⟨e43, -⟩ := hE
  obtain ⟨x43_7, e43, X7⟩ := e43
  replace S := S.ext e43
  have hn8 : ([r]).length ≤ 9223372036854775807 := (X7).1.len
  exact ⟨x43_7, _, _, _, S.s.sub (subM rfl), trivial, rfl, rfl, (show LAt recE _ _ (some ⟨x43_7, 0, none⟩) ([r]) from (X7).1), (X7).2.2, (LAt.mem (show LAt recE _ _ (some ⟨x43_7, 0, none⟩) ([r]) from (X7).1)), ⟨by unfold maxLen; (try simp only [List.length_cons, List.length_nil, List.length_append, List.length_map]); omega, by (try simp only [List.length_cons, List.length_nil, List.length_append, List.length_map]); omega⟩⟩
 clear S; intro g ad44 cap44 a u S hR
 revert S hR; revert a u ad44 cap44; revert g; intro x43_7 ad44 cap44 a u S hR
 refine ens S (tr (ov fun S=>x_nilck (S.e rfl))<|tr (fldi 0 1 rfl uT129)<|la (stk 1 rfl rfl rfl)) ?_; clear S; intro a u S
 refine wp_seq ?_
 refine dr (P := Try.prog) S 5 [] [(47, .is _), (48, .is _), (49, .is _), (50, .is _), (51, .is _)] [[], [47], [48], [49], []] [50, 51] _ ⟨qd (mv rfl), qd (ov fun S=>x_nilck (S.e rfl)), qd (fldi 0 0 rfl uT129), qd (ldk 1 sC125 rfl rfl rfl), qd (ldkw 0 rfl rfl wD24), trivial⟩ ?_
 clear S; intro a u S G hE
 obtain ⟨hl9, hu9⟩ : inI64 r.kind := id ((S.u 0 rfl).1)
 obtain ⟨hl10, hu10⟩ : inI64 r.dev := id ((S.u 0 rfl).2.1)
 obtain ⟨hl11, hu11⟩ : inI64 r.inc := id ((S.u 0 rfl).2.2.1)
 obtain ⟨hl12, hu12⟩ : inI64 r.seq := id ((S.u 0 rfl).2.2.2)
 refine cl S (jApply _ _ (S.xx (ow [bnO (machF jl.m.1 jl.m.2)])) jl.m.1 jl.m.2 (S.mF (ks := [blO b3 (recE.cells r) 24, blO jl_b [pT jl.m.1 0, .slice ad44 ((jl.l.xs ++ [r]).length) cap44] 129, rwO recE 24 0 ad44 cap44 (jl.l.xs ++ [r])]) (fs := [bnO (machF jl.m.1 jl.m.2)])) (S.nfF (ks := [blO b3 (recE.cells r) 24, blO jl_b [pT jl.m.1 0, .slice ad44 ((jl.l.xs ++ [r]).length) cap44] 129, rwO recE 24 0 ad44 cap44 (jl.l.xs ++ [r])]) (fs := [bnO (machF jl.m.1 jl.m.2)]) hD) jl_k (S.dF (ks := [blO b3 (recE.cells r) 24, blO jl_b [pT jl.m.1 0, .slice ad44 ((jl.l.xs ++ [r]).length) cap44] 129, rwO recE 24 0 ad44 cap44 (jl.l.xs ++ [r])]) (fs := [bnO (machF jl.m.1 jl.m.2)]) 0 rfl (mo_bn (mo_mach _ _))) r (dnF (ks := [blO b3 (recE.cells r) 24, blO jl_b [pT jl.m.1 0, .slice ad44 ((jl.l.xs ++ [r]).length) cap44] 129, rwO recE 24 0 ad44 cap44 (jl.l.xs ++ [r])]) (fs := [bnO (machF jl.m.1 jl.m.2)]) (S.u 0 rfl)) (⟨by first | assumption | exact hOK, by first | omega | (dsimp only; omega), by first | omega | assumption, by first | omega | assumption⟩)) cB73 ?_
 rintro e u ⟨m_t52, rfl, hk_m_t52, hK_m_t52, hq_m_t52, T0⟩; refine ⟨_, rfl, fun a s => ?_⟩
 have S2 := S.kF (ks := [blO b3 (recE.cells r) 24, blO jl_b [pT jl.m.1 0, .slice ad44 ((jl.l.xs ++ [r]).length) cap44] 129, rwO recE 24 0 ad44 cap44 (jl.l.xs ++ [r])]) (fs := [bnO (machF jl.m.1 jl.m.2)]) [bnO (machF jl.m.1 m_t52)] s T0 ⟨hK_m_t52, trivial⟩ ⟨(mo_bn (mo_mach _ _)), trivial⟩
 replace S2 := (show St _ _ _ _ _ _ [blO b3 (recE.cells r) 24, blO jl_b [pT jl.m.1 0, .slice ad44 ((jl.l.xs ++ [r]).length) cap44] 129, rwO recE 24 0 ad44 cap44 (jl.l.xs ++ [r]), bnO (machF jl.m.1 m_t52)] _ _ from S2)
 clear S; have S := S2; clear S2 s T0 hK_m_t52
 refine ent ?_
 refine rs S (la (av rfl)) ?_; clear S; intro a u S
 refine wp_ret ?_
 have hk14 : lgK (⟨(jl.m.1, m_t52), (Sl.mk ad44 cap44 (jl.l.xs ++ [r]))⟩ : Lg) := hk_m_t52
 replace S := (show St _ _ _ _ _ _ ([blO b3 (recE.cells r) 24] ++ lgF jl_b (⟨(jl.m.1, m_t52), (Sl.mk ad44 cap44 (jl.l.xs ++ [r]))⟩ : Lg)) _ _ from S).cls
 replace S := (show St _ _ _ _ _ _ [blO b3 (recE.cells r) 24, bnO (lgF jl_b (⟨(jl.m.1, m_t52), (Sl.mk ad44 cap44 (jl.l.xs ++ [r]))⟩ : Lg))] _ _ from S)
 refine ret1 rfl S.s rfl ?_
 replace S := S.pk [1] (os' := [bnO (lgF jl_b (⟨(jl.m.1, m_t52), (Sl.mk ad44 cap44 (jl.l.xs ++ [r]))⟩ : Lg))])
 refine ⟨(⟨(jl.m.1, m_t52), (Sl.mk ad44 cap44 (jl.l.xs ++ [r]))⟩ : Lg), (r1 (vi ?_)), hk14, (S.m.o _ (nth_mem (i := 0) rfl)), ?_, S.m.c⟩
 ·unfold appE; rw [if_neg hc1, if_neg (by omega)]
 have e : appE ((jl.m.2.target.xs.length : Nat) : Int) jl.l.xs.length r = 0 := by unfold appE; rw [if_neg hc1, if_neg (by omega)]
 exact ⟨fun _ => ⟨⟨hq_m_t52.1.1, hq_m_t52.1.2⟩, hq_m_t52.2, rfl⟩, fun h => absurd e h⟩
set_option maxHeartbeats 2000000 in
set_option maxRecDepth 20000 in
theorem jNew (w : World) (F : Nat → Prop) (hF : Old F w) (M : MS [] w) (hD : ∀ k, In [] k → ¬ F k) (p : Plan) (p_w : planE.wf (Fr F []) w.heap p) (n : Int) (n_h : inI64 n) (hb : p.rounds.xs.length ≤ 100) :
 Calls Try.prog 33 #[.agg (planE.cells p).toArray, iI n] w fun e w' => ∃ (q : Option (Nat × Lg)), e = .returned (.tuple #[optP q, iI (errQ q)]) ∧ lgQK q ∧ (bnO (lgQ q)).p F (In [In (ow (lgQ q))]) w' ∧ ((q.isSome = true ↔ ((statesP p.staged (rdsP p) n).isSome = true ∧ p.rounds.xs.length ≤ 16)) ∧ ∀ x, q = some x → LogAt (rdsP p) (stsD (statesP p.staged (rdsP p) n)) n x.2 []) ∧ Tr [] w [In (ow (lgQ q))] w' := by
 have : p.rounds.xs.length ≤ 9223372036854775807 := (p_w.2).1.len
 obtain ⟨n_hl, n_hu⟩ : inI64 n := id n_h
 refine go Try.func33 rfl 20 rfl [wfF planE p] [] hF M ⟨p_w, trivial⟩ trivial ?_
 intro a S
 have hD : ∀ k, In ([] : List BS) k → ¬ F k := fun _ h => h.elim
 refine rs0 ?_
 refine nbp S (x_box _ (S.e rfl) rfl) ?_; clear S; intro a u b2 S
 refine ens S (tr (av rfl)<|la (av rfl)) ?_; clear S; intro a u S
 refine rs0 ?_
 refine sp S (tr (ldkw 0 rfl rfl wD47)<|la (mv rfl)) ?_; clear S; intro a u S
 refine cl S (cNew _ _ (S.xx (ow []))  (S.mF (ks := [blO b2 (planE.cells p) 47]) (fs := [])) (S.nfF (ks := [blO b2 (planE.cells p) 47]) (fs := []) hD) p (dnF (ks := [blO b2 (planE.cells p) 47]) (fs := []) (S.u 0 rfl)) n n_h (by first | omega | (dsimp only; omega))) cB71 ?_
 rintro e u ⟨q_t11, rfl, qK_t11, qB_t11, hr_t11, T0⟩; refine ⟨_, rfl, fun a s => ?_⟩
 have S2 := S.kF (ks := [blO b2 (planE.cells p) 47]) (fs := []) [bnO (machQ q_t11)] s T0 ⟨qB_t11, trivial⟩ ⟨(mo_bn (mo_machQ _)), trivial⟩
 replace S2 := (show St _ _ _ _ _ _ [blO b2 (planE.cells p) 47, bnO (machQ q_t11)] _ _ from S2)
 clear S; have S := S2; clear S2 s T0 qB_t11
 rcases q_t11 with _ | ⟨B_t11, x_t11⟩
 ·skip
  replace S := S.pk [0] (os' := [blO b2 (planE.cells p) 47])
  refine ens S (tr (mv rfl)<|tr (exi rfl rfl)<|tr (exi rfl rfl)<|tr (av rfl)<|la (av rfl)) ?_; clear S; intro a u S
  refine wp_seq ?_
  refine rs S (tr (mv rfl)<|la (neqi rfl rfl)) ?_; clear S; intro a u S
  refine cdt S rfl ?_
  refine rs S (tr (mv rfl)<|tr (av rfl)<|la (av rfl)) ?_; clear S; intro a u S
  refine wp_ret (then_r ?_)
  replace S := S.emp
  refine ret2 rfl S.s rfl rfl ?_
  replace S := S.pk [1] (os' := [bnO []])
  refine ⟨none, (r2 rfl (vi ?_)), trivial, (S.m.o _ (nth_mem (i := 0) rfl)), ?_, S.m.c⟩
  ·rfl
  exact ⟨⟨fun h => (by cases h), fun h => (by have := hr_t11.1.2 h; cases this)⟩, fun x h => by cases h⟩
 skip
 replace S := (show St _ _ _ _ _ _ [blO b2 (planE.cells p) 47, bnO (machF B_t11 x_t11)] _ _ from S)
 refine ens S (tr (mv rfl)<|tr (exi rfl rfl)<|tr (exi rfl rfl)<|tr (av rfl)<|la (av rfl)) ?_; clear S; intro a u S
 refine wp_seq ?_
 refine rs S (tr (mv rfl)<|la (neqi rfl rfl)) ?_; clear S; intro a u S
 refine cdf S rfl ?_
 refine wp_skip (then_n (rs0 ?_))
 refine sp S (tr (mv rfl)<|la (ov fun S=>x_bd S [(0, pT B_t11 0)] [pT B_t11 0, .slice none 0 0])) ?_; clear S; intro a u S
 refine nbp S (x_box _ (S.e rfl) rfl) ?_; clear S; intro a u b19 S
 refine ens S (tr (av rfl)<|la (av rfl)) ?_; clear S; intro a u S
 refine wp_ret ?_
 replace S := S.nr recE 24
 replace S := (show St _ _ _ _ _ _ [blO b2 (planE.cells p) 47, bnO (machF B_t11 x_t11), blO b19 [pT B_t11 0, .slice none 0 0] 129, rwO recE 24 0 none 0 ([])] _ _ from (S.b0 3 rfl))
 replace S := S.pk [0, 2, 3, 1] (os' := [blO b2 (planE.cells p) 47, blO b19 [pT B_t11 0, .slice none 0 0] 129, rwO recE 24 0 none 0 ([]), bnO (machF B_t11 x_t11)])
 have hk7 : lgK (⟨(B_t11, x_t11), (Sl.mk none 0 ([]))⟩ : Lg) := qK_t11
 replace S := (show St _ _ _ _ _ _ ([blO b2 (planE.cells p) 47] ++ lgF b19 (⟨(B_t11, x_t11), (Sl.mk none 0 ([]))⟩ : Lg)) _ _ from S).cls
 replace S := (show St _ _ _ _ _ _ [blO b2 (planE.cells p) 47, bnO (lgF b19 (⟨(B_t11, x_t11), (Sl.mk none 0 ([]))⟩ : Lg))] _ _ from S)
 refine ret2 rfl S.s rfl rfl ?_
 replace S := S.pk [1] (os' := [bnO (lgF b19 (⟨(B_t11, x_t11), (Sl.mk none 0 ([]))⟩ : Lg))])
 refine ⟨(some (b19, (⟨(B_t11, x_t11), (Sl.mk none 0 ([]))⟩ : Lg))), (r2 rfl (vi ?_)), hk7, (S.m.o _ (nth_mem (i := 0) rfl)), ?_, S.m.c⟩
 ·rfl
 obtain ⟨hg, hx⟩ := hr_t11
 obtain ⟨hOK, hr, hs, ha⟩ := hx _ rfl
 have hgd := hg.1 rfl
 have hn0 : 0 ≤ n := by obtain ⟨sts, hst⟩ := Option.isSome_iff_exists.1 hgd.1; have := (statesP_ok hst (by rw [rdsP_len]; exact hgd.2)).1; omega
 refine ⟨⟨fun _ => hgd, fun _ => rfl⟩, fun x h => ?_⟩
 obtain rfl := (Option.some.inj h).symm
 exact LogAt.new (MachAt.new hn0 hOK hr hs ha) rfl
set_option maxHeartbeats 2000000 in
set_option maxRecDepth 20000 in
theorem jBytes (w : World) (F : Nat → Prop) (hF : Old F w) (M : MS [] w) (jl : Nat × Lg) (jl_w : (ptE lgE 129).wf (Fr F []) w.heap jl) (hb : jl.2.l.xs.length ≤ 10000) :
 Calls Try.prog 37 #[pT jl.1 0] w fun e w' => ∃ (ra : Option Addr) (rc : Nat), e = .returned (.slice ra ((bytesJ jl.2.l.xs).length) rc) ∧ Row u8E 5 w.heap.size F [abk ra] w' ra rc (bytesJ jl.2.l.xs) ∧ Tr [] w [abk ra] w' := by
 have : jl.2.m.2.rounds.xs.length ≤ 9223372036854775807 := (jl_w.2.2.1.2.2.1).1.len
 have : jl.2.m.2.states.xs.length ≤ 9223372036854775807 := (jl_w.2.2.1.2.2.2.1).1.len
 obtain ⟨_, _⟩ : inI64 jl.2.m.2.round := jl_w.2.2.1.2.2.2.2.1
 obtain ⟨_, _⟩ : inI64 jl.2.m.2.seq := jl_w.2.2.1.2.2.2.2.2.2.1
 have : jl.2.m.2.target.xs.length ≤ 9223372036854775807 := (jl_w.2.2.1.2.2.2.2.2.2.2.1).1.len
 have : jl.2.m.2.known.xs.length ≤ 9223372036854775807 := (jl_w.2.2.1.2.2.2.2.2.2.2.2.1).1.len
 have : jl.2.m.2.waiting.xs.length ≤ 9223372036854775807 := (jl_w.2.2.1.2.2.2.2.2.2.2.2.2.1).1.len
 have : jl.2.m.2.sent.xs.length ≤ 9223372036854775807 := (jl_w.2.2.1.2.2.2.2.2.2.2.2.2.2).1.len
 have : jl.2.l.xs.length ≤ 9223372036854775807 := (jl_w.2.2.2).1.len
 refine go Try.func37 rfl 36 rfl [wfF (ptE lgE 129) jl] [] hF M ⟨jl_w, trivial⟩ trivial ?_
 intro a S
 have hD : ∀ k, In ([] : List BS) k → ¬ F k := fun _ h => h.elim
 refine rs S (la (av rfl)) ?_; clear S; intro a u S
 refine wp_seq ?_
 refine rs S (tr (mv rfl)<|tr (ov fun S=>x_peqN uT52 (S.e rfl) (S.e rfl))<|tr (mv rfl)<|tr (gon 10 rfl fun S=>x_move (S.e rfl))<|tr (gon 10 rfl fun S=>x_nilck (S.e rfl))<|tr (gon 10 rfl fun S=>x_fld (z := 0) (0) 0 uT129 rfl rfl (by kernel_rfl) (S.e rfl))<|tr (gon 10 rfl fun S=>x_load sC125 (S.e rfl) ((S.u 0 rfl).1.cell (j := 0) rfl))<|tr (gon 10 rfl fun S=>x_peqN uT125 (S.e rfl) (S.e rfl))<|la (ov fun S=>x_pickf (S.e rfl) (S.e rfl))) ?_; clear S; intro a u S
 refine cdf S rfl ?_
 refine wp_skip (then_n ?_)
 refine rs S (la (av rfl)) ?_; clear S; intro a u S
 refine wp_seq ?_
 have hn5 : jl.2.l.xs.length ≤ 9223372036854775807 := (((S.u 0 rfl).2.2).2).1.len
 refine rs S (tr (mv rfl)<|tr (ov fun S=>x_nilck (S.e rfl))<|tr (fldi 0 1 rfl uT129)<|tr (ov fun S=>x_load sC32 (S.e rfl) ((S.u 0 rfl).1.cell (j := 1) rfl))<|tr (leni uT32 rfl)<|la (mv rfl)) ?_; clear S; intro a u S
 refine wp_block ?_
 replace S := S.nr u8E 5
 refine lp4 (fun (k : Nat) (out_a : Option Addr) (out_c : Nat) (out : List Int) => [(2, .slice none 0 0), (20, sV jl.2.l), (21, iN jl.2.l.xs.length), (22, iN k), (3, .slice out_a out.length out_c)]) (fun (k : Nat) (out_a : Option Addr) (out_c : Nat) (out : List Int) => [rwO u8E 5 w.heap.size out_a out_c out]) (fun (k : Nat) (out_a : Option Addr) (out_c : Nat) (out : List Int) => k ≤ jl.2.l.xs.length ∧ out = bytesJ (jl.2.l.xs.take k)) (fun (k : Nat) (out_a : Option Addr) (out_c : Nat) (out : List Int) => jl.2.l.xs.length - k) S 0 none 0 ([]) (subM rfl) rfl ?_ ?_
 ·exact ⟨Nat.zero_le _, rfl⟩
 clear S; intro k out_a out_c out a u S hR
 have out_len := (S.row 0 rfl).len_le; simp only [maxLen] at out_len
 obtain ⟨hk, hout⟩ := hR
 have hol : out.length ≤ 14 * k := by rw [hout]; exact Nat.le_trans (bytesJ_len _) (by rw [List.length_take]; omega)
 refine rs S (la (lssi rfl rfl)) ?_; clear S; intro a u S
 refine wp_seq ?_
 refine cd S rfl ?_ ?_
 ·intro hc0
  refine wp_skip (then_n (wp_seq (wp_block (rs0 ?_))))
  obtain ⟨hl8, hu8⟩ : inI64 ((jl.2.l.xs.getD k recE.dflt).kind) := id (((((S.u 0 rfl).2.2).2).1.wf k (by omega)).1)
  obtain ⟨hl9, hu9⟩ : inI64 ((jl.2.l.xs.getD k recE.dflt).dev) := id (((((S.u 0 rfl).2.2).2).1.wf k (by omega)).2.1)
  obtain ⟨hl10, hu10⟩ : inI64 ((jl.2.l.xs.getD k recE.dflt).inc) := id (((((S.u 0 rfl).2.2).2).1.wf k (by omega)).2.2.1)
  obtain ⟨hl11, hu11⟩ : inI64 ((jl.2.l.xs.getD k recE.dflt).seq) := id (((((S.u 0 rfl).2.2).2).1.wf k (by omega)).2.2.2)
  refine sp S (tr (idxi uT32 sZ24 rfl rfl k rfl (by omega) ((((S.u 0 rfl).2.2).2).1.adr (i := k) (by omega)))<|la (ov fun S=>x_ldw (S.e rfl) ((((S.u 0 rfl).2.2).2).1.wcell k (by omega) _ rfl _ rfl) wD24)) ?_; clear S; intro a u S
  refine nbp S (x_allocz _ iZ24 rfl) ?_; clear S; intro a u b5 S
  refine ens S (la (stkw 1 rfl rfl rfl)) ?_; clear S; intro a u S
  refine rs0 ?_
  refine sp S (la (ldkw 1 rfl rfl wD24)) ?_; clear S; intro a u S
  refine cl S (jEncode _ _ S.x (.nil _) (jl.2.l.xs.getD k recE.dflt) (dn0 ((((S.u 0 rfl).2.2).2).1.wf k (by omega)))) cB21 ?_
  rintro e u ⟨ra_t280, rc_t280, rfl, R_t280, T0⟩; refine ⟨_, rfl, fun a s => ?_⟩
  replace S := S.kr [⟨_, u8E, 5, ra_t280, rc_t280, (if recOK (jl.2.l.xs.getD k recE.dflt) then encR (jl.2.l.xs.getD k recE.dflt) else [])⟩] s T0 ⟨R_t280, trivial⟩; clear s T0 R_t280
  have hel := enc_len (jl.2.l.xs.getD k recE.dflt)
  refine ens S (tr (mv rfl)<|tr (exi rfl rfl)<|tr (exi rfl rfl)<|tr (av rfl)<|la (av rfl)) ?_; clear S; intro a u S
  refine r0 ?_
  refine sp S (tr (mv rfl)<|la (mv rfl)) ?_; clear S; intro a u S
  refine ap (E := u8E) (ys := (if recOK (jl.2.l.xs.getD k recE.dflt) then encR (jl.2.l.xs.getD k recE.dflt) else [])) S 0 rfl uT28 iZ5 rfl rfl ((S.row 2 rfl).lat (by first | decide | exact Nat.one_pos | exact Nat.succ_pos _)) (S.row 2 rfl).cap_le.2 (S.row 2 rfl).wf ⟨by unfold maxLen; (try simp only [List.length_cons, List.length_nil, List.length_append, List.length_map]); omega, by (try simp only [List.length_cons, List.length_nil, List.length_append, List.length_map]); omega⟩ ?_; clear S; intro a u ad33 cap33 S
  refine en S (la (av rfl)) ?_; clear S; intro a u S
  refine blk_n (then_n ?_)
  refine rg S (tr (addi ((k + 1 : Nat) : Int) rfl rfl (w_i64 (by omega)))<|la (mv rfl)) ?_; clear S; intro a u S
  refine then_n ?_
  refine ⟨(k + 1), ad33, cap33, (out ++ (if recOK (jl.2.l.xs.getD k recE.dflt) then encR (jl.2.l.xs.getD k recE.dflt) else [])), S.re (subM rfl) rfl rfl, ?_, ?_⟩
  ·refine ⟨by omega, ?_⟩
   rw [bytesJ_up (by omega) recE.dflt, hout]
  omega
 intro hc1
 refine wp_exit (then_e (then_e (blk_e (then_n ?_))))
 refine rs S (tr (mv rfl)<|la (av rfl)) ?_; clear S; intro a u S
 refine wp_ret ?_
 refine ret1 rfl S.s rfl ?_
 have hx16 : bytesJ jl.2.l.xs = out := by
  rw [hout, List.take_of_length_le (by omega)]
 rw [hx16]
 refine ⟨out_a, out_c, rfl, (S.row 0 rfl), S.m.c⟩
set_option maxHeartbeats 2000000 in
set_option maxRecDepth 20000 in
theorem jCtl (w : World) (F : Nat → Prop) (hF : Old F w) (M : MS [] w) (jl : Nat × Lg) (jl_w : (ptE lgE 129).wf (Fr F []) w.heap jl) (hb : jl.2.m.2.target.xs.length ≤ 1000 ∧ jl.2.m.2.known.xs.length ≤ 1000 ∧ jl.2.m.2.waiting.xs.length ≤ 1000) :
 Calls Try.prog 39 #[pT jl.1 0] w fun e w' => ∃ (ra_3 : Option Addr) (rc_3 : Nat) (ra_4 : Option Addr) (rc_4 : Nat) (ra_5 : Option Addr) (rc_5 : Nat), e = .returned (.agg #[iI jl.2.m.2.round, bD (jl.2.m.2.back = true), iI jl.2.m.2.seq, .slice ra_3 jl.2.m.2.target.xs.length rc_3, .slice ra_4 jl.2.m.2.known.xs.length rc_4, .slice ra_5 jl.2.m.2.waiting.xs.length rc_5]) ∧ Row intE 3 w.heap.size F [abk ra_5, abk ra_4, abk ra_3] w' ra_3 rc_3 jl.2.m.2.target.xs ∧ Row intE 3 w.heap.size F [abk ra_5, abk ra_4, abk ra_3] w' ra_4 rc_4 jl.2.m.2.known.xs ∧ Row intE 3 w.heap.size F [abk ra_5, abk ra_4, abk ra_3] w' ra_5 rc_5 jl.2.m.2.waiting.xs ∧ Tr [] w [abk ra_5, abk ra_4, abk ra_3] w' := by
 have : jl.2.m.2.rounds.xs.length ≤ 9223372036854775807 := (jl_w.2.2.1.2.2.1).1.len
 have : jl.2.m.2.states.xs.length ≤ 9223372036854775807 := (jl_w.2.2.1.2.2.2.1).1.len
 obtain ⟨_, _⟩ : inI64 jl.2.m.2.round := jl_w.2.2.1.2.2.2.2.1
 obtain ⟨_, _⟩ : inI64 jl.2.m.2.seq := jl_w.2.2.1.2.2.2.2.2.2.1
 have : jl.2.m.2.target.xs.length ≤ 9223372036854775807 := (jl_w.2.2.1.2.2.2.2.2.2.2.1).1.len
 have : jl.2.m.2.known.xs.length ≤ 9223372036854775807 := (jl_w.2.2.1.2.2.2.2.2.2.2.2.1).1.len
 have : jl.2.m.2.waiting.xs.length ≤ 9223372036854775807 := (jl_w.2.2.1.2.2.2.2.2.2.2.2.2.1).1.len
 have : jl.2.m.2.sent.xs.length ≤ 9223372036854775807 := (jl_w.2.2.1.2.2.2.2.2.2.2.2.2.2).1.len
 have : jl.2.l.xs.length ≤ 9223372036854775807 := (jl_w.2.2.2).1.len
 refine go Try.func39 rfl 18 rfl [wfF (ptE lgE 129) jl] [] hF M ⟨jl_w, trivial⟩ trivial ?_
 intro a S
 have hD : ∀ k, In ([] : List BS) k → ¬ F k := fun _ h => h.elim
 refine rs0 ?_
 refine nbp S (x_allocz _ iZ57 rfl) ?_; clear S; intro a u b2 S
 refine ent (wp_seq ?_)
 refine rs S (tr (mv rfl)<|tr (ov fun S=>x_peqN uT52 (S.e rfl) (S.e rfl))<|tr (mv rfl)<|tr (gon 5 rfl fun S=>x_move (S.e rfl))<|tr (gon 5 rfl fun S=>x_nilck (S.e rfl))<|tr (gon 5 rfl fun S=>x_fld (z := 0) (0) 0 uT129 rfl rfl (by kernel_rfl) (S.e rfl))<|tr (gon 5 rfl fun S=>x_load sC125 (S.e rfl) ((S.u 0 rfl).1.cell (j := 0) rfl))<|tr (gon 5 rfl fun S=>x_peqN uT125 (S.e rfl) (S.e rfl))<|la (ov fun S=>x_pickf (S.e rfl) (S.e rfl))) ?_; clear S; intro a u S
 refine cdf S rfl ?_
 refine wp_skip (then_n (rs0 ?_))
 refine sp S (tr (mv rfl)<|tr (ov fun S=>x_nilck (S.e rfl))<|tr (fldi 0 0 rfl uT129)<|la (ov fun S=>x_load sC125 (S.e rfl) ((S.u 0 rfl).1.cell (j := 0) rfl))) ?_; clear S; intro a u S
 refine cl S (cControl _ _ S.x (.nil _) jl.2.m (dn0 (((S.u 0 rfl).2.2).1)) (⟨by first | omega | (dsimp only; omega), by first | omega | (dsimp only; omega), by first | omega | (dsimp only; omega)⟩)) cB77 ?_
 rintro e u ⟨ra_t17_3, rc_t17_3, ra_t17_4, rc_t17_4, ra_t17_5, rc_t17_5, rfl, R_t17_3, R_t17_4, R_t17_5, T0⟩; refine ⟨_, rfl, fun a s => ?_⟩
 replace S := S.kr [⟨_, intE, 3, ra_t17_5, rc_t17_5, jl.2.m.2.waiting.xs⟩, ⟨_, intE, 3, ra_t17_4, rc_t17_4, jl.2.m.2.known.xs⟩, ⟨_, intE, 3, ra_t17_3, rc_t17_3, jl.2.m.2.target.xs⟩] s T0 ⟨R_t17_5, R_t17_4, R_t17_3, trivial⟩; clear s T0 R_t17_5 R_t17_4 R_t17_3
 replace S := S.pk [0, 1, 2, 3] (os' := [blO b2 [iI 0, .bool false, iI 0, .slice none 0 0, .slice none 0 0, .slice none 0 0] 57, rwO intE 3 w.heap.size ra_t17_5 rc_t17_5 jl.2.m.2.waiting.xs, rwO intE 3 w.heap.size ra_t17_4 rc_t17_4 jl.2.m.2.known.xs, rwO intE 3 w.heap.size ra_t17_3 rc_t17_3 jl.2.m.2.target.xs])
 refine ens S (la (stkw 0 rfl rfl rfl)) ?_; clear S; intro a u S
 refine wp_ret ?_
 refine retcw rfl S.s rfl [iI jl.2.m.2.round, bD (jl.2.m.2.back = true), iI jl.2.m.2.seq, .slice ra_t17_3 jl.2.m.2.target.xs.length rc_t17_3, .slice ra_t17_4 jl.2.m.2.known.xs.length rc_t17_4, .slice ra_t17_5 jl.2.m.2.waiting.xs.length rc_t17_5] wD57 (fun j v hv => by rw [Nat.zero_add]; exact (S.k 0 rfl).cell hv) ?_
 replace S := S.pk [1, 2, 3] (os' := [rwO intE 3 w.heap.size ra_t17_5 rc_t17_5 jl.2.m.2.waiting.xs, rwO intE 3 w.heap.size ra_t17_4 rc_t17_4 jl.2.m.2.known.xs, rwO intE 3 w.heap.size ra_t17_3 rc_t17_3 jl.2.m.2.target.xs])
 refine ⟨ra_t17_3, rc_t17_3, ra_t17_4, rc_t17_4, ra_t17_5, rc_t17_5, rfl, (S.row 2 rfl), (S.row 1 rfl), (S.row 0 rfl), S.m.c⟩
end Go.Proofs.Ytobggnpnochnnaa.V
namespace Go.Proofs.Ytobggnpnochnnaa.V
open Go.RowKit Go.Proofs.Ytobggnpnochnnaa
set_option linter.unusedVariables false
set_option linter.unusedSimpArgs false
set_option maxHeartbeats 2000000 in
set_option maxRecDepth 20000 in
theorem jReplay (w : World) (F : Nat → Prop) (hF : Old F w) (M : MS [] w) (p : Plan) (p_w : planE.wf (Fr F []) w.heap p) (n : Int) (n_h : inI64 n) (l : Sl Rec) (l_w : (slE recE).wf (Fr F []) w.heap l) (hb : p.rounds.xs.length ≤ 100) :
 Calls Try.prog 68 #[.agg (planE.cells p).toArray, iI n, sV l] w fun e w' => ∃ (r0 : Ctrl), e = .returned (.tuple #[.agg (ctrlE.cells r0).toArray, iI (replE p n l.xs)]) ∧ ctrlE.wf (Fr F []) w'.heap r0 ∧ ctlR r0 (replC p n l.xs) ∧ Tr [] w [] w' := by
 have : p.rounds.xs.length ≤ 9223372036854775807 := (p_w.2).1.len
 obtain ⟨n_hl, n_hu⟩ : inI64 n := id n_h
 have : l.xs.length ≤ 9223372036854775807 := (l_w).1.len
 refine go Try.func68 rfl 48 rfl [wfF planE p, wfF (slE recE) l] [] hF M ⟨p_w, l_w, trivial⟩ trivial ?_
 intro a S
 have hD : ∀ k, In ([] : List BS) k → ¬ F k := fun _ h => h.elim
 refine rs0 ?_
 refine nbp S (x_box _ (S.e rfl) rfl) ?_; clear S; intro a u b3 S
 refine nbp S (x_allocz _ iZ57 rfl) ?_; clear S; intro a u b6 S
 refine ens S (la (av rfl)) ?_; clear S; intro a u S
 refine rs0 ?_
 refine sp S (tr (ldkw 0 rfl rfl wD47)<|la (mv rfl)) ?_; clear S; intro a u S
 refine cl S (cNew _ _ (S.xx (ow []))  (S.mF (ks := [blO b3 (planE.cells p) 47, blO b6 [iI 0, .bool false, iI 0, .slice none 0 0, .slice none 0 0, .slice none 0 0] 57]) (fs := [])) (S.nfF (ks := [blO b3 (planE.cells p) 47, blO b6 [iI 0, .bool false, iI 0, .slice none 0 0, .slice none 0 0, .slice none 0 0] 57]) (fs := []) hD) p (dnF (ks := [blO b3 (planE.cells p) 47, blO b6 [iI 0, .bool false, iI 0, .slice none 0 0, .slice none 0 0, .slice none 0 0] 57]) (fs := []) (S.u 0 rfl)) n n_h (by first | omega | (dsimp only; omega))) cB71 ?_
 rintro e u ⟨q_t15, rfl, qK_t15, qB_t15, hr_t15, T0⟩; refine ⟨_, rfl, fun a s => ?_⟩
 have S2 := S.kF (ks := [blO b3 (planE.cells p) 47, blO b6 [iI 0, .bool false, iI 0, .slice none 0 0, .slice none 0 0, .slice none 0 0] 57]) (fs := []) [bnO (machQ q_t15)] s T0 ⟨qB_t15, trivial⟩ ⟨(mo_bn (mo_machQ _)), trivial⟩
 replace S2 := (show St _ _ _ _ _ _ [blO b3 (planE.cells p) 47, blO b6 [iI 0, .bool false, iI 0, .slice none 0 0, .slice none 0 0, .slice none 0 0] 57, bnO (machQ q_t15)] _ _ from S2)
 clear S; have S := S2; clear S2 s T0 qB_t15
 rcases q_t15 with _ | ⟨B_t15, x_t15⟩
 ·skip
  replace S := S.pk [0, 1] (os' := [blO b3 (planE.cells p) 47, blO b6 [iI 0, .bool false, iI 0, .slice none 0 0, .slice none 0 0, .slice none 0 0] 57])
  have hng : ¬ ((statesP p.staged (rdsP p) n).isSome = true ∧ p.rounds.xs.length ≤ 16) := fun h => (by have := hr_t15.1.2 h; cases this)
  refine ens S (tr (mv rfl)<|tr (exi rfl rfl)<|tr (exi rfl rfl)<|tr (av rfl)<|la (av rfl)) ?_; clear S; intro a u S
  refine wp_seq ?_
  refine rs S (tr (mv rfl)<|la (neqi rfl rfl)) ?_; clear S; intro a u S
  refine cdt S rfl ?_
  refine rs S (tr (ov fun S=>x_bd S [] [iI 0, .bool false, iI 0, .slice none 0 0, .slice none 0 0, .slice none 0 0])<|tr (mv rfl)<|tr (stkw 1 rfl rfl rfl)<|la (av rfl)) ?_; clear S; intro a u S
  refine wp_ret (then_r ?_)
  refine retcw2 rfl S.s rfl rfl (S.k 1 rfl).all wD57 ?_
  replace S := S.pk []
  refine ⟨(⟨0, false, 0, (Sl.mk none 0 ([])), (Sl.mk none 0 ([])), (Sl.mk none 0 ([]))⟩ : Ctrl), (r2 rfl (vi ?_)), ⟨(show inI64 0 from ⟨by omega, by omega⟩), trivial, (show inI64 0 from ⟨by omega, by omega⟩), sl_nil, sl_nil, sl_nil⟩, ?_, S.m.c⟩
  ·have e : replE p n l.xs = 1 := by unfold replE; rw [if_pos hng]
   exact e.symm
  have e : replE p n l.xs = 1 := by unfold replE; rw [if_pos hng]
  rw [replC_z (by rw [e]; decide)]
  exact ⟨rfl, rfl, rfl, rfl, rfl, rfl⟩
 skip
 replace S := (show St _ _ _ _ _ _ [blO b3 (planE.cells p) 47, blO b6 [iI 0, .bool false, iI 0, .slice none 0 0, .slice none 0 0, .slice none 0 0] 57, bnO (machF B_t15 x_t15)] _ _ from S)
 obtain ⟨hg, hx⟩ := hr_t15
 have hgd := hg.1 rfl
 have hx0 := hx _ rfl
 have hn0 : 0 ≤ n := by obtain ⟨sts, hst⟩ := Option.isSome_iff_exists.1 hgd.1; have := (statesP_ok hst (by rw [rdsP_len]; exact hgd.2)).1; omega
 have hMA := MachAt.new hn0 hx0.1 hx0.2.1 hx0.2.2.1 hx0.2.2.2
 refine ens S (tr (mv rfl)<|tr (exi rfl rfl)<|tr (exi rfl rfl)<|tr (av rfl)<|la (av rfl)) ?_; clear S; intro a u S
 refine wp_seq ?_
 refine rs S (tr (mv rfl)<|la (neqi rfl rfl)) ?_; clear S; intro a u S
 refine cdf S rfl ?_
 refine wp_skip (then_n (wp_seq ?_))
 have hn7 : l.xs.length ≤ 9223372036854775807 := ((S.u 1 rfl)).1.len
 refine rs S (tr (mv rfl)<|tr (leni uT32 rfl)<|la (gtri rfl rfl)) ?_; clear S; intro a u S
 refine cd S rfl ?_ ?_
 ·intro hc0
  refine rs S (tr (ov fun S=>x_bd S [] [iI 0, .bool false, iI 0, .slice none 0 0, .slice none 0 0, .slice none 0 0])<|tr (stkw 1 rfl rfl rfl)<|la (av rfl)) ?_; clear S; intro a u S
  refine wp_ret (then_r ?_)
  refine retcw2 rfl S.s rfl rfl (S.k 1 rfl).all wD57 ?_
  replace S := S.pk []
  refine ⟨(⟨0, false, 0, (Sl.mk none 0 ([])), (Sl.mk none 0 ([])), (Sl.mk none 0 ([]))⟩ : Ctrl), (r2 rfl (vi ?_)), ⟨(show inI64 0 from ⟨by omega, by omega⟩), trivial, (show inI64 0 from ⟨by omega, by omega⟩), sl_nil, sl_nil, sl_nil⟩, ?_, S.m.c⟩
  ·have e : replE p n l.xs = 3 := by unfold replE; rw [if_neg (fun h => h hgd), if_pos (by omega)]
   exact e.symm
  have e : replE p n l.xs = 3 := by unfold replE; rw [if_neg (fun h => h hgd), if_pos (by omega)]
  rw [replC_z (by rw [e]; decide)]
  exact ⟨rfl, rfl, rfl, rfl, rfl, rfl⟩
 intro hc1
 refine wp_skip (then_n (wp_seq ?_))
 refine rs S (tr (mv rfl)<|tr (leni uT32 rfl)<|la (mv rfl)) ?_; clear S; intro a u S
 refine wp_block ?_
 refine lp2 (fun (k : Nat) (mj : Mach) => [(1, iI n), (6, pT b6 0), (8, pT B_t15 0), (26, sV l), (27, iN l.xs.length), (28, iN k)]) (fun (k : Nat) (mj : Mach) => [blO b3 (planE.cells p) 47, blO b6 [iI 0, .bool false, iI 0, .slice none 0 0, .slice none 0 0, .slice none 0 0] 57, bnO (machF B_t15 mj)]) (fun (k : Nat) (mj : Mach) => machK mj ∧ (k ≤ l.xs.length ∧ MachAt (rdsP p) (stsD (statesP p.staged (rdsP p) n)) n mj (l.xs.take k))) (fun (k : Nat) (mj : Mach) => l.xs.length - k) S 0 x_t15 (subM rfl) rfl ?_ ?_
 ·refine ⟨qK_t15, ?_⟩
  exact ⟨Nat.zero_le _, hMA⟩
 clear S; intro k mj a u S hR
 obtain ⟨hk_mj, hR⟩ := hR
 obtain ⟨hk, hA⟩ := hR
 have hOK := hA.ok
 have hsn := hA.sn
 have htg := hA.tg
 have hkn : mj.known.xs.length = mj.target.xs.length := hA.ok.2.kn
 have hwt := hA.ok.2.wt.len
 have hwt2 : mj.waiting.xs.length ≤ _ := hwt
 have hn12 := hA.ok.1.n1
 obtain ⟨⟨_, _⟩, ⟨_, _⟩⟩ : inI64 mj.round ∧ inI64 mj.seq := id hk_mj
 refine rs S (la (lssi rfl rfl)) ?_; clear S; intro a u S
 refine wp_seq ?_
 refine cd S rfl ?_ ?_
 ·intro hc2
  refine wp_skip (then_n (wp_seq (wp_block (rs0 ?_))))
  obtain ⟨hl12, hu12⟩ : inI64 ((l.xs.getD k recE.dflt).kind) := id ((((S.u 1 rfl)).1.wf k (by omega)).1)
  obtain ⟨hl13, hu13⟩ : inI64 ((l.xs.getD k recE.dflt).dev) := id ((((S.u 1 rfl)).1.wf k (by omega)).2.1)
  obtain ⟨hl14, hu14⟩ : inI64 ((l.xs.getD k recE.dflt).inc) := id ((((S.u 1 rfl)).1.wf k (by omega)).2.2.1)
  obtain ⟨hl15, hu15⟩ : inI64 ((l.xs.getD k recE.dflt).seq) := id ((((S.u 1 rfl)).1.wf k (by omega)).2.2.2)
  refine sp S (tr (idxi uT32 sZ24 rfl rfl k rfl (by omega) (((S.u 1 rfl)).1.adr (i := k) (by omega)))<|la (ov fun S=>x_ldw (S.e rfl) (((S.u 1 rfl)).1.wcell k (by omega) _ rfl _ rfl) wD24)) ?_; clear S; intro a u S
  refine nbp S (x_allocz _ iZ24 rfl) ?_; clear S; intro a u b11 S
  refine ens S (la (stkw 3 rfl rfl rfl)) ?_; clear S; intro a u S
  refine wp_seq ?_
  refine rs S (tr (ldkw 3 rfl rfl wD24)<|tr (oc (fun S=>jValid _ _ S.x (.nil _) (l.xs.getD k recE.dflt) (dn0 (((S.u 1 rfl)).1.wf k (by omega)))) cB61)<|tr (noti rfl)<|tr (mv rfl)<|tr (og 35 rfl gf fun S hg=>xf (0) 1 uT24 (S.e rfl))<|tr (og 35 rfl gf fun S hg=>x_load sC3 (S.p rfl hg) ((S.k 3 rfl).cell (j := 1) rfl))<|tr (og 35 rfl gf fun S hg=>x_move (S.e rfl))<|tr (og 35 rfl gf fun S hg=>x_geq (S.p rfl hg) (S.p rfl hg))<|la (ori rfl rfl rfl)) ?_; clear S; intro a u S
  refine cd S rfl ?_ ?_
  ·intro hc3
   refine rs S (tr (ov fun S=>x_bd S [] [iI 0, .bool false, iI 0, .slice none 0 0, .slice none 0 0, .slice none 0 0])<|tr (stkw 1 rfl rfl rfl)<|la (av rfl)) ?_; clear S; intro a u S
   refine wp_ret (then_r (blk_r (then_r (then_r (blk_r (then_r ?_))))))
   refine retcw2 rfl S.s rfl rfl (S.k 1 rfl).all wD57 ?_
   replace S := S.pk []
   refine ⟨(⟨0, false, 0, (Sl.mk none 0 ([])), (Sl.mk none 0 ([])), (Sl.mk none 0 ([]))⟩ : Ctrl), (r2 rfl (vi ?_)), ⟨(show inI64 0 from ⟨by omega, by omega⟩), trivial, (show inI64 0 from ⟨by omega, by omega⟩), sl_nil, sl_nil, sl_nil⟩, ?_, S.m.c⟩
   ·have e : replE p n l.xs = 1 := by unfold replE; rw [if_neg (fun h => h hgd), if_neg (by omega), if_neg (fun h => by have := h _ (getD_mem (d := recE.dflt) (i := k) (by omega)); rcases hc3 with q | q; exact q this.1; omega)]
    exact e.symm
   have e : replE p n l.xs = 1 := by unfold replE; rw [if_neg (fun h => h hgd), if_neg (by omega), if_neg (fun h => by have := h _ (getD_mem (d := recE.dflt) (i := k) (by omega)); rcases hc3 with q | q; exact q this.1; omega)]
   rw [replC_z (by rw [e]; decide)]
   exact ⟨rfl, rfl, rfl, rfl, rfl, rfl⟩
  intro hc4
  obtain ⟨hv0, hdv0⟩ := not_or.1 hc4
  have hv := Classical.not_not.1 hv0
  have hv2 := hv
  unfold recOK at hv2
  refine wp_skip (then_n (r0 ?_))
  refine sp S (tr (mv rfl)<|la (ldkw 3 rfl rfl wD24)) ?_; clear S; intro a u S
  replace S := S.pk [0, 1, 3, 2] (os' := [blO b3 (planE.cells p) 47, blO b6 [iI 0, .bool false, iI 0, .slice none 0 0, .slice none 0 0, .slice none 0 0] 57, blO b11 (recE.cells (l.xs.getD k recE.dflt)) 24, bnO (machF B_t15 mj)])
  refine cl S (jApply _ _ (S.xx (ow [bnO (machF B_t15 mj)])) B_t15 mj (S.mF (ks := [blO b3 (planE.cells p) 47, blO b6 [iI 0, .bool false, iI 0, .slice none 0 0, .slice none 0 0, .slice none 0 0] 57, blO b11 (recE.cells (l.xs.getD k recE.dflt)) 24]) (fs := [bnO (machF B_t15 mj)])) (S.nfF (ks := [blO b3 (planE.cells p) 47, blO b6 [iI 0, .bool false, iI 0, .slice none 0 0, .slice none 0 0, .slice none 0 0] 57, blO b11 (recE.cells (l.xs.getD k recE.dflt)) 24]) (fs := [bnO (machF B_t15 mj)]) hD) hk_mj (S.dF (ks := [blO b3 (planE.cells p) 47, blO b6 [iI 0, .bool false, iI 0, .slice none 0 0, .slice none 0 0, .slice none 0 0] 57, blO b11 (recE.cells (l.xs.getD k recE.dflt)) 24]) (fs := [bnO (machF B_t15 mj)]) 0 rfl (mo_bn (mo_mach _ _))) (l.xs.getD k recE.dflt) (dnF (ks := [blO b3 (planE.cells p) 47, blO b6 [iI 0, .bool false, iI 0, .slice none 0 0, .slice none 0 0, .slice none 0 0] 57, blO b11 (recE.cells (l.xs.getD k recE.dflt)) 24]) (fs := [bnO (machF B_t15 mj)]) (((S.u 1 rfl)).1.wf k (by omega))) (⟨by first | assumption | exact hOK, by first | omega | (dsimp only; omega), by first | omega | assumption, by first | omega | assumption⟩)) cB73 ?_
  rintro e u ⟨m_t44, rfl, hk_m_t44, hK_m_t44, hq_m_t44, T0⟩; refine ⟨_, rfl, fun a s => ?_⟩
  have S2 := S.kF (ks := [blO b3 (planE.cells p) 47, blO b6 [iI 0, .bool false, iI 0, .slice none 0 0, .slice none 0 0, .slice none 0 0] 57, blO b11 (recE.cells (l.xs.getD k recE.dflt)) 24]) (fs := [bnO (machF B_t15 mj)]) [bnO (machF B_t15 m_t44)] s T0 ⟨hK_m_t44, trivial⟩ ⟨(mo_bn (mo_mach _ _)), trivial⟩
  replace S2 := (show St _ _ _ _ _ _ [blO b3 (planE.cells p) 47, blO b6 [iI 0, .bool false, iI 0, .slice none 0 0, .slice none 0 0, .slice none 0 0] 57, blO b11 (recE.cells (l.xs.getD k recE.dflt)) 24, bnO (machF B_t15 m_t44)] _ _ from S2)
  clear S; have S := S2; clear S2 s T0 hK_m_t44
  refine nn (blk_n (then_n ?_))
  refine rg S (tr (addi ((k + 1 : Nat) : Int) rfl rfl (w_i64 (by omega)))<|la (mv rfl)) ?_; clear S; intro a u S
  replace S := S.pk [0, 1, 3]
  refine then_n ?_
  refine ⟨(k + 1), m_t44, S.re (subM rfl) rfl rfl, ?_, ?_⟩
  ·refine ⟨hk_m_t44, ?_⟩
   refine ⟨by omega, ?_⟩
   rw [take_up (l := l.xs) (k := k) (m := k + 1) (by omega) rfl recE.dflt]
   exact hA.step ⟨hq_m_t44.1.1, hq_m_t44.1.2⟩ hq_m_t44.2 hv (by omega)
  omega
 intro hc5
 refine wp_exit (then_e (then_e (blk_e (then_n (rs0 ?_)))))
 refine sp S (la (mv rfl)) ?_; clear S; intro a u S
 refine cl S (cControl _ _ (S.xx [In (ow (machF B_t15 mj))]) (.nil _) (B_t15, mj) (S.rob hD 2 rfl (X := fun D => (ptE machE 166).wf D _ (B_t15, mj)) (rd_mach hk_mj) _ (by simp)) (⟨by first | omega | (dsimp only; omega), by first | omega | (dsimp only; omega), by first | omega | (dsimp only; omega)⟩)) cB77 ?_
 rintro e u ⟨ra_t47_3, rc_t47_3, ra_t47_4, rc_t47_4, ra_t47_5, rc_t47_5, rfl, R_t47_3, R_t47_4, R_t47_5, T0⟩; refine ⟨_, rfl, fun a s => ?_⟩
 replace S := S.krx [⟨_, intE, 3, ra_t47_5, rc_t47_5, mj.waiting.xs⟩, ⟨_, intE, 3, ra_t47_4, rc_t47_4, mj.known.xs⟩, ⟨_, intE, 3, ra_t47_3, rc_t47_3, mj.target.xs⟩] s T0 ⟨R_t47_5, R_t47_4, R_t47_3, trivial⟩ ⟨fun _ _ _ _ h => h, fun _ _ _ _ h => h, fun _ _ _ _ h => h, trivial⟩; clear s T0 R_t47_5 R_t47_4 R_t47_3
 replace S := S.pk [0, 1, 2, 3, 4, 5] (os' := [blO b3 (planE.cells p) 47, blO b6 [iI 0, .bool false, iI 0, .slice none 0 0, .slice none 0 0, .slice none 0 0] 57, bnO (machF B_t15 mj), rwO intE 3 w.heap.size ra_t47_5 rc_t47_5 mj.waiting.xs, rwO intE 3 w.heap.size ra_t47_4 rc_t47_4 mj.known.xs, rwO intE 3 w.heap.size ra_t47_3 rc_t47_3 mj.target.xs])
 refine ens S (tr (stkw 1 rfl rfl rfl)<|la (av rfl)) ?_; clear S; intro a u S
 refine wp_ret ?_
 replace S := S.fz 5 rfl
 replace S := S.fz 4 rfl
 replace S := S.fz 3 rfl
 refine retcw2 rfl S.s rfl rfl (S.k 1 rfl).all wD57 ?_
 replace S := S.pk []
 refine ⟨(⟨mj.round, mj.back, mj.seq, (Sl.mk ra_t47_3 rc_t47_3 mj.target.xs), (Sl.mk ra_t47_4 rc_t47_4 mj.known.xs), (Sl.mk ra_t47_5 rc_t47_5 mj.waiting.xs)⟩ : Ctrl), (r2 rfl (vi ?_)), ⟨(show inI64 mj.round from ⟨by omega, by omega⟩), trivial, (show inI64 mj.seq from ⟨by omega, by omega⟩), (S.u 2 rfl), (S.u 3 rfl), (S.u 4 rfl)⟩, ?_, S.m.c⟩
 ·have e : replE p n l.xs = 0 := by
   unfold replE
   rw [if_neg (fun h => h hgd), if_neg (by omega), if_pos (by have := hA.al; rwa [List.take_of_length_le (by omega)] at this)]
  rw [e]
 have e : replE p n l.xs = 0 := by
  unfold replE
  rw [if_neg (fun h => h hgd), if_neg (by omega), if_pos (by have := hA.al; rwa [List.take_of_length_le (by omega)] at this)]
 unfold replC
 rw [if_pos e]
 have hab := hA.ab
 rw [List.take_of_length_le (by omega)] at hab
 rw [← hab]
 exact ⟨rfl, rfl, rfl, rfl, rfl, rfl⟩
end Go.Proofs.Ytobggnpnochnnaa.V
namespace Go.Proofs.Ytobggnpnochnnaa.V
open Go.RowKit Go.Proofs.Ytobggnpnochnnaa
set_option linter.unusedVariables false
set_option linter.unusedSimpArgs false
set_option maxHeartbeats 2000000 in
set_option maxRecDepth 20000 in
theorem jOpen (w : World) (F : Nat → Prop) (hF : Old F w) (M : MS [] w) (hD : ∀ k, In [] k → ¬ F k) (p : Plan) (p_w : planE.wf (Fr F []) w.heap p) (n : Int) (n_h : inI64 n) (b : Sl Int) (b_w : (slE u8E).wf (Fr F []) w.heap b) (hb : p.rounds.xs.length ≤ 100) :
 Calls Try.prog 36 #[.agg (planE.cells p).toArray, iI n, sV b] w fun e w' => ∃ (q : Option (Nat × Lg)), e = .returned (.tuple #[optP q, iI (openN q b.xs), iI (errQ q)]) ∧ lgQK q ∧ (bnO (lgQ q)).p F (In [In (ow (lgQ q))]) w' ∧ ((q.isSome = true ↔ (((statesP p.staged (rdsP p) n).isSome = true ∧ p.rounds.xs.length ≤ 16) ∧ allJ n (recsJ b.xs))) ∧ ∀ x, q = some x → LogAt (rdsP p) (stsD (statesP p.staged (rdsP p) n)) n x.2 (recsJ b.xs)) ∧ Tr [] w [In (ow (lgQ q))] w' := by
 have : p.rounds.xs.length ≤ 9223372036854775807 := (p_w.2).1.len
 obtain ⟨n_hl, n_hu⟩ : inI64 n := id n_h
 have : b.xs.length ≤ 9223372036854775807 := (b_w).1.len
 refine go Try.func36 rfl 42 rfl [wfF planE p, wfF (slE u8E) b] [] hF M ⟨p_w, b_w, trivial⟩ trivial ?_
 intro a S
 have hD : ∀ k, In ([] : List BS) k → ¬ F k := fun _ h => h.elim
 refine rs0 ?_
 refine nbp S (x_box _ (S.e rfl) rfl) ?_; clear S; intro a u b3 S
 refine ens S (tr (av rfl)<|tr (av rfl)<|la (av rfl)) ?_; clear S; intro a u S
 refine rs0 ?_
 refine sp S (tr (ldkw 0 rfl rfl wD47)<|la (mv rfl)) ?_; clear S; intro a u S
 refine cl S (jNew _ _ (S.xx (ow []))  (S.mF (ks := [blO b3 (planE.cells p) 47]) (fs := [])) (S.nfF (ks := [blO b3 (planE.cells p) 47]) (fs := []) hD) p (dnF (ks := [blO b3 (planE.cells p) 47]) (fs := []) (S.u 0 rfl)) n n_h (by first | omega | (dsimp only; omega))) cB33 ?_
 rintro e u ⟨q_t18, rfl, qK_t18, qB_t18, hr_t18, T0⟩; refine ⟨_, rfl, fun a s => ?_⟩
 have S2 := S.kF (ks := [blO b3 (planE.cells p) 47]) (fs := []) [bnO (lgQ q_t18)] s T0 ⟨qB_t18, trivial⟩ ⟨(mo_bn (mo_lgQ _)), trivial⟩
 replace S2 := (show St _ _ _ _ _ _ [blO b3 (planE.cells p) 47, bnO (lgQ q_t18)] _ _ from S2)
 clear S; have S := S2; clear S2 s T0 qB_t18
 rcases q_t18 with _ | ⟨B_t18, x_t18⟩
 ·skip
  replace S := S.pk [0] (os' := [blO b3 (planE.cells p) 47])
  have hng : ¬ ((statesP p.staged (rdsP p) n).isSome = true ∧ p.rounds.xs.length ≤ 16) := fun h => (by have := hr_t18.1.2 h; cases this)
  refine ens S (tr (mv rfl)<|tr (exi rfl rfl)<|tr (exi rfl rfl)<|tr (av rfl)<|la (av rfl)) ?_; clear S; intro a u S
  refine wp_seq ?_
  refine rs S (tr (mv rfl)<|la (neqi rfl rfl)) ?_; clear S; intro a u S
  refine cdt S rfl ?_
  refine rs S (tr (mv rfl)<|tr (av rfl)<|tr (av rfl)<|la (av rfl)) ?_; clear S; intro a u S
  refine wp_ret (then_r ?_)
  replace S := S.emp
  refine ret3 rfl S.s rfl rfl rfl ?_
  replace S := S.pk [1] (os' := [bnO []])
  refine ⟨none, (r3 rfl (vi ?_) (vi ?_)), trivial, (S.m.o _ (nth_mem (i := 0) rfl)), ?_, S.m.c⟩
  ·rfl
  ·rfl
  exact ⟨⟨fun h => (by cases h), fun h => absurd h.1 hng⟩, fun x h => by cases h⟩
 skip
 replace S := (show St _ _ _ _ _ _ [blO b3 (planE.cells p) 47, bnO (lgF B_t18 x_t18)] _ _ from S)
 obtain ⟨hg, hx⟩ := hr_t18
 have hgd := hg.1 rfl
 have hLA := hx _ rfl
 refine ens S (tr (mv rfl)<|tr (exi rfl rfl)<|tr (exi rfl rfl)<|tr (av rfl)<|la (av rfl)) ?_; clear S; intro a u S
 refine wp_seq ?_
 refine rs S (tr (mv rfl)<|la (neqi rfl rfl)) ?_; clear S; intro a u S
 refine cdf S rfl ?_
 refine wp_skip (then_n (rs0 ?_))
 refine sp S (la (mv rfl)) ?_; clear S; intro a u S
 refine cl S (jDecode _ _ S.x (.nil _) b (dn0 (S.u 1 rfl))) cB23 ?_
 rintro e u ⟨ra_t260, rc_t260, rfl, R_t260, T0⟩; refine ⟨_, rfl, fun a s => ?_⟩
 replace S := S.kr [⟨_, recE, 24, ra_t260, rc_t260, recsP b.xs (decN b.xs)⟩] s T0 ⟨R_t260, trivial⟩; clear s T0 R_t260
 refine ens S (tr (mv rfl)<|tr (exi rfl rfl)<|tr (exi rfl rfl)<|tr (av rfl)<|la (av rfl)) ?_; clear S; intro a u S
 refine wp_seq ?_
 refine rs S (tr (mv rfl)<|tr (leni uT32 rfl)<|la (mv rfl)) ?_; clear S; intro a u S
 refine wp_block ?_
 refine lp2 (fun (k : Nat) (lj : Lg) => [(9, pT B_t18 0), (12, iN (14 * decN b.xs)), (29, .slice ra_t260 ((recsP b.xs (decN b.xs)).length) rc_t260), (30, iN (recsP b.xs (decN b.xs)).length), (31, iN k)]) (fun (k : Nat) (lj : Lg) => [blO b3 (planE.cells p) 47, bnO (lgF B_t18 lj), rwO recE 24 w.heap.size ra_t260 rc_t260 (recsP b.xs (decN b.xs))]) (fun (k : Nat) (lj : Lg) => lgK lj ∧ (k ≤ decN b.xs ∧ LogAt (rdsP p) (stsD (statesP p.staged (rdsP p) n)) n lj ((recsJ b.xs).take k))) (fun (k : Nat) (lj : Lg) => decN b.xs - k) S 0 x_t18 (subM rfl) rfl ?_ ?_
 ·refine ⟨qK_t18, ?_⟩
  exact ⟨Nat.zero_le _, hLA⟩
 clear S; intro k lj a u S hR
 obtain ⟨hk_lj, hR⟩ := hR
 obtain ⟨hk, hA⟩ := hR
 have hOK := hA.ma.ok
 have hsn := hA.ma.sn
 have htg := hA.ma.tg
 have hll : lj.l.xs.length ≤ 10000 := by rw [hA.ls]; exact Nat.le_trans hA.le (by decide)
 have hrl : (recsP b.xs (decN b.xs)).length = decN b.xs := recsP_len _ _
 refine rs S (la (lssi rfl rfl)) ?_; clear S; intro a u S
 refine wp_seq ?_
 refine cd S rfl ?_ ?_
 ·intro hc0
  have hrl : (recsP b.xs (decN b.xs)).length = decN b.xs := recsP_len _ _
  have hdl := decN_le b.xs
  have hvr : recOK ((recsP b.xs (decN b.xs)).getD k recE.dflt) := recsP_ok (getD_mem (d := recE.dflt) (i := k) (by omega))
  refine wp_skip (then_n (wp_seq (wp_block (rs0 ?_))))
  obtain ⟨hl10, hu10⟩ : inI64 (((recsP b.xs (decN b.xs)).getD k recE.dflt).kind) := id (((S.row 2 rfl).wfi k (by omega)).1)
  obtain ⟨hl11, hu11⟩ : inI64 (((recsP b.xs (decN b.xs)).getD k recE.dflt).dev) := id (((S.row 2 rfl).wfi k (by omega)).2.1)
  obtain ⟨hl12, hu12⟩ : inI64 (((recsP b.xs (decN b.xs)).getD k recE.dflt).inc) := id (((S.row 2 rfl).wfi k (by omega)).2.2.1)
  obtain ⟨hl13, hu13⟩ : inI64 (((recsP b.xs (decN b.xs)).getD k recE.dflt).seq) := id (((S.row 2 rfl).wfi k (by omega)).2.2.2)
  refine sp S (tr (ov fun S=>x_idx uT32 sZ24 (S.e rfl) (S.e rfl) k rfl (by omega) (row_off (S.row 2 rfl) (m := k) (by omega)))<|la (ov fun S=>x_ldw (S.e rfl) (((S.row 2 rfl).latz (by first | decide | exact Nat.one_pos | exact Nat.succ_pos _)).wcell k (by omega) _ rfl _ rfl) wD24)) ?_; clear S; intro a u S
  refine nbp S (x_allocz _ iZ24 rfl) ?_; clear S; intro a u b14 S
  refine ens S (la (stkw 3 rfl rfl rfl)) ?_; clear S; intro a u S
  refine rs0 ?_
  refine sp S (tr (mv rfl)<|la (ldkw 3 rfl rfl wD24)) ?_; clear S; intro a u S
  replace S := S.pk [0, 2, 3, 1] (os' := [blO b3 (planE.cells p) 47, rwO recE 24 w.heap.size ra_t260 rc_t260 (recsP b.xs (decN b.xs)), blO b14 (recE.cells ((recsP b.xs (decN b.xs)).getD k recE.dflt)) 24, bnO (lgF B_t18 lj)])
  refine cl S (jAppend _ _ (S.xx (ow [bnO (lgF B_t18 lj)])) B_t18 lj (S.mF (ks := [blO b3 (planE.cells p) 47, rwO recE 24 w.heap.size ra_t260 rc_t260 (recsP b.xs (decN b.xs)), blO b14 (recE.cells ((recsP b.xs (decN b.xs)).getD k recE.dflt)) 24]) (fs := [bnO (lgF B_t18 lj)])) (S.nfF (ks := [blO b3 (planE.cells p) 47, rwO recE 24 w.heap.size ra_t260 rc_t260 (recsP b.xs (decN b.xs)), blO b14 (recE.cells ((recsP b.xs (decN b.xs)).getD k recE.dflt)) 24]) (fs := [bnO (lgF B_t18 lj)]) hD) hk_lj (S.dF (ks := [blO b3 (planE.cells p) 47, rwO recE 24 w.heap.size ra_t260 rc_t260 (recsP b.xs (decN b.xs)), blO b14 (recE.cells ((recsP b.xs (decN b.xs)).getD k recE.dflt)) 24]) (fs := [bnO (lgF B_t18 lj)]) 0 rfl (mo_bn (mo_lg _ _))) ((recsP b.xs (decN b.xs)).getD k recE.dflt) (dnF (ks := [blO b3 (planE.cells p) 47, rwO recE 24 w.heap.size ra_t260 rc_t260 (recsP b.xs (decN b.xs)), blO b14 (recE.cells ((recsP b.xs (decN b.xs)).getD k recE.dflt)) 24]) (fs := [bnO (lgF B_t18 lj)]) ((S.row 1 rfl).wfi k (by omega))) (⟨by first | assumption | exact hOK, by first | omega | assumption, by first | omega | assumption⟩)) cB34 ?_
  rintro e u ⟨jl_t37, rfl, hk_jl_t37, hK_jl_t37, hq_jl_t37, T0⟩; refine ⟨_, rfl, fun a s => ?_⟩
  have S2 := S.kF (ks := [blO b3 (planE.cells p) 47, rwO recE 24 w.heap.size ra_t260 rc_t260 (recsP b.xs (decN b.xs)), blO b14 (recE.cells ((recsP b.xs (decN b.xs)).getD k recE.dflt)) 24]) (fs := [bnO (lgF B_t18 lj)]) [bnO (lgF B_t18 jl_t37)] s T0 ⟨hK_jl_t37, trivial⟩ ⟨(mo_bn (mo_lg _ _)), trivial⟩
  replace S2 := (show St _ _ _ _ _ _ [blO b3 (planE.cells p) 47, rwO recE 24 w.heap.size ra_t260 rc_t260 (recsP b.xs (decN b.xs)), blO b14 (recE.cells ((recsP b.xs (decN b.xs)).getD k recE.dflt)) 24, bnO (lgF B_t18 jl_t37)] _ _ from S2)
  clear S; have S := S2; clear S2 s T0 hK_jl_t37
  refine ens S (la (neqi rfl rfl)) ?_; clear S; intro a u S
  refine cd S rfl ?_ ?_
  ·intro hc1
   refine rs S (tr (av rfl)<|tr (av rfl)<|la (av rfl)) ?_; clear S; intro a u S
   refine wp_ret (blk_r (then_r (then_r (blk_r (then_r ?_)))))
   replace S := S.emp
   refine ret3 rfl S.s rfl rfl rfl ?_
   replace S := S.pk [4] (os' := [bnO []])
   refine ⟨none, (r3 rfl (vi ?_) (vi ?_)), trivial, (S.m.o _ (nth_mem (i := 0) rfl)), ?_, S.m.c⟩
   ·rfl
   ·rfl
   have hdn : n ≤ ((recsP b.xs (decN b.xs)).getD k recE.dflt).dev := by
    apply Classical.byContradiction; intro hq
    apply hc1
    unfold appE
    rw [if_neg (fun q => q.elim (fun q => q hvr) (fun q => by omega)), if_neg (by rw [hA.ls, List.length_take]; omega)]
   exact ⟨⟨fun h => (by cases h), fun h => (by have := (h.2 _ (getD_mem (d := recE.dflt) (i := k) (by omega) : ((recsP b.xs (decN b.xs)).getD k recE.dflt) ∈ recsP b.xs (decN b.xs))).2; omega)⟩, fun x h => by cases h⟩
  intro hc2
  refine wp_skip (blk_n (then_n ?_))
  refine rg S (tr (addi ((k + 1 : Nat) : Int) rfl rfl (w_i64 (by omega)))<|la (mv rfl)) ?_; clear S; intro a u S
  replace S := S.pk [0, 3, 1]
  refine then_n ?_
  refine ⟨(k + 1), jl_t37, S.re (subM rfl) rfl rfl, ?_, ?_⟩
  ·refine ⟨hk_jl_t37, ?_⟩
   have he0 := Classical.not_not.1 hc2
   have hq := hq_jl_t37.1 he0
   refine ⟨by omega, ?_⟩
   rw [take_up (l := recsJ b.xs) (k := k) (m := k + 1) (by unfold recsJ; omega) rfl recE.dflt]
   exact hA.app (by have h := he0; rw [htg, hA.ls] at h; exact h) hq.1 hq.2.1 hq.2.2
  omega
 intro hc3
 refine wp_exit (then_e (then_e (blk_e (then_n ?_))))
 refine rs S (tr (mv rfl)<|tr (mv rfl)<|tr (av rfl)<|tr (av rfl)<|la (av rfl)) ?_; clear S; intro a u S
 refine wp_ret ?_
 refine ret3 rfl S.s rfl rfl rfl ?_
 replace S := S.pk [1] (os' := [bnO (lgF B_t18 lj)])
 refine ⟨(some (B_t18, lj)), (r3 rfl (vi ?_) (vi ?_)), hk_lj, (S.m.o _ (nth_mem (i := 0) rfl)), ?_, S.m.c⟩
 ·rfl
 ·rfl
 have hB := hA
 rw [List.take_of_length_le (by unfold recsJ; omega)] at hB
 refine ⟨⟨fun _ => ⟨hgd, hB.ma.al⟩, fun _ => rfl⟩, fun x h => ?_⟩
 obtain rfl := (Option.some.inj h).symm
 exact hB
end Go.Proofs.Ytobggnpnochnnaa.V
set_option linter.unusedVariables false
set_option linter.unusedSimpArgs false
namespace Go.Proofs.Ytobggnpnochnnaa.V
open Go.RowKit
theorem num_be {v : Int} (h0 : 0 ≤ v) (h1 : v ≤ 4294967295) (a b c d : Int) (ha : a = v / 16777216 % 256) (hb : b = v / 65536 % 256) (hc : c = v / 256 % 256) (hd : d = v % 256) : a * 16777216 + b * 65536 + c * 256 + d = v := by omega
theorem crcL_rng (l : List Int) : 0 ≤ crcL l ∧ crcL l ≤ 4294967295 := crcL_in l
theorem recX_enc {r : Rec} (h : recOK r) (x : List Int) : recX (encR r ++ x) = r := by
  have e3 : num4 (encR r ++ x) 2 = r.inc := num_be h.2.2.1.1 (by have := h.2.2.1.2; omega) _ _ _ _ rfl rfl rfl rfl
  have e4 : num4 (encR r ++ x) 6 = r.seq := num_be h.2.2.2.1.1 (by have := h.2.2.2.1.2; omega) _ _ _ _ rfl rfl rfl rfl
  unfold recX
  rw [e3, e4]
  rfl
theorem good_enc {r : Rec} (h : recOK r) : goodX (encR r) := by
  have e := recX_enc h []
  rw [List.append_nil] at e
  refine ⟨by rw [e]; exact h, ?_⟩
  show num4 (encR r) 10 = crcL (encB r)
  exact num_be (crcL_rng _).1 (crcL_rng _).2 _ _ _ _ rfl rfl rfl rfl
theorem bytesJ_nil : bytesJ [] = [] := rfl
theorem bytesJ_cons {r : Rec} (h : recOK r) (l : List Rec) : bytesJ (r :: l) = encR r ++ bytesJ l := by unfold bytesJ; rw [List.flatMap_cons, if_pos h]
theorem bytesJ_app (l m : List Rec) : bytesJ (l ++ m) = bytesJ l ++ bytesJ m := List.flatMap_append
theorem bytesJ_one {r : Rec} (h : recOK r) : bytesJ [r] = encR r := by rw [bytesJ_cons h, bytesJ_nil, List.append_nil]
theorem bytesJ_lenOK : ∀ {l : List Rec}, (∀ r ∈ l, recOK r) → (bytesJ l).length = 14 * l.length
  | [], _ => rfl
  | r :: t, h => by
    rw [bytesJ_cons (h r (.head _)), List.length_append, encR_len, bytesJ_lenOK fun r hr => h r (.tail _ hr), List.length_cons]
    omega
theorem subB_at {l : List Rec} (h : ∀ r ∈ l, recOK r) (x : List Int) {k : Nat} (hk : k < l.length) : subB (bytesJ l ++ x) k = encR l[k] := by
  have e : bytesJ l = bytesJ (l.take k) ++ (encR l[k] ++ bytesJ (l.drop (k + 1))) := by
    rw [← bytesJ_cons (h _ (List.getElem_mem hk)), ← bytesJ_app]
    congr 1
    rw [List.getElem_cons_drop, List.take_append_drop]
  have hl : (bytesJ (l.take k)).length = 14 * k := by rw [bytesJ_lenOK fun r hr => h r (List.mem_of_mem_take hr), List.length_take]; congr 1; omega
  have hn : (encR l[k]).length = 14 := encR_len _
  unfold subB
  rw [e, List.append_assoc, List.append_assoc, List.take_append, hl, List.take_of_length_le (by omega), List.drop_append, List.drop_of_length_le (by omega), hl, List.nil_append, Nat.sub_self, List.drop_zero, show 14 * k + 14 - 14 * k = 14 from by omega, List.take_append, hn, List.take_of_length_le (by omega), Nat.sub_self, List.take_zero, List.append_nil]
theorem decF_up {b : List Int} {n : Nat} (h1 : ∀ j, j < n → 14 * j + 14 ≤ b.length ∧ goodX (subB b j)) (h2 : ¬ (14 * n + 14 ≤ b.length ∧ goodX (subB b n))) : ∀ (f k : Nat), k ≤ n → n - k ≤ f → decF b f k = n
  | f, k, hk, hf => by
    rcases Nat.eq_or_lt_of_le hk with e | e
    · subst e; exact decF_no (.inr h2)
    · cases f with
      | zero => omega
      | succ f =>
        rw [decF, if_pos (h1 k e)]
        exact decF_up h1 h2 f (k + 1) (by omega) (by omega)
theorem dec_bytes {l : List Rec} (h : ∀ r ∈ l, recOK r) (hl : l.length ≤ 4096) (x : List Int) (hx : ¬ (14 ≤ x.length ∧ goodX (x.take 14))) : decN (bytesJ l ++ x) = l.length ∧ recsP (bytesJ l ++ x) l.length = l := by
  have hb := bytesJ_lenOK h
  constructor
  · refine decF_up (fun j hj => ⟨by rw [List.length_append, hb]; omega, by rw [subB_at h x hj]; exact good_enc (h _ (List.getElem_mem hj))⟩) (fun q => hx ?_) _ _ (Nat.zero_le _) (by omega)
    have e : subB (bytesJ l ++ x) l.length = x.take 14 := by
      unfold subB
      rw [List.take_append, hb, List.take_of_length_le (by omega), List.drop_append, hb, List.drop_of_length_le (by omega), Nat.sub_self, List.drop_zero, List.nil_append, Nat.add_sub_cancel_left]
    rw [e] at q
    exact ⟨by have := q.1; rw [List.length_append, hb] at this; omega, q.2⟩
  · unfold recsP
    apply List.ext_getElem (by simp)
    intro i h1 h2
    rw [List.getElem_map, List.getElem_range, subB_at h x h2]
    have e := recX_enc (h _ (List.getElem_mem h2)) []
    rwa [List.append_nil] at e
theorem dec_one {r : Rec} (h : recOK r) (x : List Int) (hx : x.length < 14) : decN (encR r ++ x) = 1 ∧ recsP (encR r ++ x) 1 = [r] := by
  have := dec_bytes (l := [r]) (fun q hq => by rw [List.mem_singleton.1 hq]; exact h) (by show 1 ≤ 4096; decide) x (fun q => by omega)
  rwa [bytesJ_one h] at this
def r1J : Rec := ⟨1, 0, 0, 1⟩
theorem r1_ok : recOK r1J := by decide
def R1 : List (List Chg) := [[⟨0, 3⟩]]
theorem fold1 : (foldJ R1 [[0], [3]] 1 [r1J]).round = 1 ∧ (foldJ R1 [[0], [3]] 1 [r1J]).waiting = [] := ⟨rfl, rfl⟩
theorem all1 : allJ 1 [r1J] := fun r h => by rw [List.mem_singleton.1 h]; decide
def isOne (p : Plan) : Prop := p.staged = false ∧ rdsP p = R1
theorem one_len {p : Plan} (h : isOne p) : p.rounds.xs.length = 1 := by rw [← rdsP_len, h.2]; rfl
theorem one_st {p : Plan} (h : isOne p) : statesP p.staged (rdsP p) 1 = some [[0], [3]] := by rw [h.1, h.2]; rfl
theorem one_good {p : Plan} (h : isOne p) : (statesP p.staged (rdsP p) 1).isSome = true ∧ p.rounds.xs.length ≤ 16 := ⟨by rw [one_st h]; rfl, by rw [one_len h]; decide⟩
theorem one_bad {p : Plan} (h : isOne p) : ¬ ((statesP p.staged (rdsP p) 0).isSome = true ∧ p.rounds.xs.length ≤ 16) := fun q => by rw [h.1, h.2] at q; exact absurd q.1 (by decide)
theorem one_rep {p : Plan} (h : isOne p) : replE p 1 [r1J] = 0 ∧ (replC p 1 [r1J]).round = 1 ∧ (replC p 1 [r1J]).waiting = [] := by
  have e : replE p 1 [r1J] = 0 := by unfold replE; rw [if_neg (fun q => q (one_good h)), if_neg (by decide), if_pos all1]
  refine ⟨e, ?_⟩
  unfold replC
  rw [if_pos e, one_st h, h.2]
  exact fold1
theorem rec1 : recsJ (bytesJ [r1J]) = [r1J] ∧ decN (bytesJ [r1J]) = 1 := by
  have h := dec_bytes (l := [r1J]) (fun q hq => by rw [List.mem_singleton.1 hq]; exact r1_ok) (by decide) [] (fun q => absurd q.1 (by decide))
  rw [List.append_nil] at h
  refine ⟨?_, h.1⟩
  unfold recsJ
  rw [h.1]
  exact h.2
theorem ap1 : appE 1 0 r1J = 0 := rfl
theorem LogAt.lb {R : List (List Chg)} {S : List (List Int)} {n : Int} {g : Lg} {l : List Rec} (h : LogAt R S n g l) : g.l.xs.length ≤ 10000 := by rw [h.ls]; exact Nat.le_trans h.le (by decide)
end Go.Proofs.Ytobggnpnochnnaa.V
namespace Go.Proofs.Ytobggnpnochnnaa.V
open Go.RowKit Go.Proofs.Ytobggnpnochnnaa
set_option linter.unusedVariables false
set_option linter.unusedSimpArgs false
set_option maxHeartbeats 2000000 in
set_option maxRecDepth 20000 in
theorem lOne (w : World) (F : Nat → Prop) (hF : Old F w) (M : MS [] w) :
 Calls Try.prog 69 #[] w fun e w' => ∃ (r : Plan), e = .returned (.agg (planE.cells r).toArray) ∧ planE.wf (Fr F []) w'.heap r ∧ (r.staged = false ∧ rdsP r = [[⟨0, 3⟩]]) ∧ Tr [] w [] w' := by
 refine go Try.func69 rfl 5 rfl [] [] hF M trivial trivial ?_
 intro a S
 have hD : ∀ k, In ([] : List BS) k → ¬ F k := fun _ h => h.elim
 refine rs0 ?_
 refine nbp S (x_allocz _ iZ47 rfl) ?_; clear S; intro a u b0 S
 refine ent (rs0 ?_)
 refine sp S (la (ov fun S=>x_bd S [(0, iI 0), (1, iI 3)] [iI 0, iI 3])) ?_; clear S; intro a u S
 refine nbs chgE S [(⟨0, 3⟩ : Chg)] (x_bs S [(0, .agg #[iI 0, iI 3])] uT122 iZ124) (fun x hx => by simp only [List.mem_cons, List.not_mem_nil, or_false] at hx; rw [hx]; exact (show chgE.wf _ _ (⟨0, 3⟩ : Chg) from ⟨(show inI64 0 from ⟨by omega, by omega⟩), (show inI64 3 from ⟨by omega, by omega⟩)⟩)) ?_; clear S; intro a u b2 S
 refine nbs (slE chgE) S [(Sl.mk (some ⟨b2, 0, none⟩) 1 ([(⟨0, 3⟩ : Chg)]))] (x_bs S [(0, .slice (some ⟨b2, 0, none⟩) 1 1)] uT45 iZ122) (fun x hx => by simp only [List.mem_cons, List.not_mem_nil, or_false] at hx; rw [hx]; exact (show (slE chgE).wf _ _ (Sl.mk (some ⟨b2, 0, none⟩) 1 ([(⟨0, 3⟩ : Chg)])) from (S.u 0 rfl))) ?_; clear S; intro a u b3 S
 refine ens S (tr (ov fun S=>x_bd S [(1, .slice (some ⟨b3, 0, none⟩) 1 1)] [.bool false, .slice (some ⟨b3, 0, none⟩) 1 1])<|la (stkw 0 rfl rfl rfl)) ?_; clear S; intro a u S
 refine wp_ret ?_
 refine retcw rfl S.s rfl [.bool false, .slice (some ⟨b3, 0, none⟩) 1 1] wD47 (fun j v hv => by rw [Nat.zero_add]; exact (S.k 0 rfl).cell hv) ?_
 replace S := S.pk []
 refine ⟨(⟨false, (Sl.mk (some ⟨b3, 0, none⟩) 1 ([(Sl.mk (some ⟨b2, 0, none⟩) 1 ([(⟨0, 3⟩ : Chg)]))]))⟩ : Plan), rfl, ⟨trivial, (S.u 1 rfl)⟩, ?_, S.m.c⟩
 exact ⟨rfl, rfl⟩
end Go.Proofs.Ytobggnpnochnnaa.V
