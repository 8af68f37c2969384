/- the law: the nil log -/
import Derived.Test.YtobggnpnochnnaaL6
import Derived.Test.YtobggnpnochnnaaL2
import Derived.Test.YtobggnpnochnnaaU16
namespace Go.Proofs.Ytobggnpnochnnaa.V
open Go.RowKit Go.Proofs.Ytobggnpnochnnaa
set_option linter.unusedVariables false
set_option linter.unusedSimpArgs false
set_option maxHeartbeats 2000000 in
set_option maxRecDepth 20000 in
theorem jAppend0 (w : World) (F : Nat → Prop) (hF : Old F w) (M : MS [] w)  (r : Rec) (r_w : recE.wf (Fr F []) w.heap r) :
 Calls Try.prog 34 #[.pointer none, .agg (recE.cells r).toArray] w fun e w' => e = .returned (iI 1) ∧ Tr [] w [] w' := by
 obtain ⟨_, _⟩ : inI64 r.kind := r_w.1
 obtain ⟨_, _⟩ : inI64 r.dev := r_w.2.1
 obtain ⟨_, _⟩ : inI64 r.inc := r_w.2.2.1
 obtain ⟨_, _⟩ : inI64 r.seq := r_w.2.2.2
 refine go Try.func34 rfl 53 rfl [wfF recE r] [] hF M ⟨r_w, trivial⟩ trivial ?_
 intro a S
 have hD : ∀ k, In ([] : List BS) k → ¬ F k := fun _ h => h.elim
 refine rs0 ?_
 refine nbp S (x_box _ (S.e rfl) rfl) ?_; clear S; intro a u b3 S
 refine ens S (la (av rfl)) ?_; clear S; intro a u S
 refine wp_seq (wp_block (wp_seq ?_))
 refine dr (P := Try.prog) S 25 [] [(6, .is _), (7, .is _), (8, .is _), (9, .is _), (10, .is _), (11, .is _), (12, .is _), (13, .is _), (14, .is _), (15, .is _), (16, .is _), (17, .is _), (18, .is _), (19, .is _), (20, .is _), (21, .is _), (22, .is _), (23, .is _), (24, .is _), (25, .is _), (26, .is _), (27, .is _), (28, .is _), (29, .is _), (5, .is _)] [[], [6], [7], [8], [8, 9], [8, 10], [8, 11], [8, 12], [8, 13], [14], [15], [15, 16], [15, 17], [15, 18], [19], [20], [20, 21], [20], [20, 23], [20, 24], [20, 25], [20, 26], [20, 22, 27], [20, 28], [29]] [5] _ ⟨qd (mv rfl), qd (ov fun S=>x_peqN uT52 (S.e rfl) (S.e rfl)), qd (mv rfl), qd (goff 8 rfl), qd (goff 8 rfl), qd (goff 8 rfl), qd (goff 8 rfl), qd (goff 8 rfl), qd (ov fun S=>x_pickt (S.e rfl) (S.e rfl)), qd (mv rfl), qd (goff 15 rfl), qd (goff 15 rfl), qd (goff 15 rfl), qd (ov fun S=>x_pickt (S.e rfl) (S.e rfl)), qd (mv rfl), qd (goff 20 rfl), qd (goff 20 rfl), qd (goff 20 rfl), qd (goff 20 rfl), qd (goff 20 rfl), qd (goff 20 rfl), qd (goff 20 rfl), qd (goff 20 rfl), qd (ov fun S=>x_pickt (S.e rfl) (S.e rfl)), qd (av rfl), trivial⟩ ?_
 clear S; intro a u S G hE
 refine ent ?_
 refine cdt S rfl ?_
 refine rs S (la (av rfl)) ?_; clear S; intro a u S
 refine wp_ret (blk_r (then_r ?_))
 refine ret1 rfl S.s rfl ?_
 replace S := S.pk []
 refine ⟨(r1 (vi ?_)), S.m.c⟩
 first | rfl | omega | assumption
set_option maxHeartbeats 2000000 in
set_option maxRecDepth 20000 in
theorem jBytes0 (w : World) (F : Nat → Prop) (hF : Old F w) (M : MS [] w)  :
 Calls Try.prog 37 #[.pointer none] w fun e w' => e = .returned (.slice none 0 0) ∧ Tr [] w [] w' := by
 refine go Try.func37 rfl 36 rfl [] [] hF M trivial trivial ?_
 intro a S
 have hD : ∀ k, In ([] : List BS) k → ¬ F k := fun _ h => h.elim
 refine rs S (la (av rfl)) ?_; clear S; intro a u S
 refine wp_seq ?_
 refine rs S (tr (mv rfl)<|tr (ov fun S=>x_peqN uT52 (S.e rfl) (S.e rfl))<|tr (mv rfl)<|tr (goff 10 rfl)<|tr (goff 10 rfl)<|tr (goff 10 rfl)<|tr (goff 10 rfl)<|tr (goff 10 rfl)<|la (ov fun S=>x_pickt (S.e rfl) (S.e rfl))) ?_; clear S; intro a u S
 refine cdt S rfl ?_
 refine rs S (la (av rfl)) ?_; clear S; intro a u S
 refine wp_ret (then_r ?_)
 refine ret1 rfl S.s rfl ?_
 refine ⟨rfl, S.m.c⟩
set_option maxHeartbeats 2000000 in
set_option maxRecDepth 20000 in
theorem jCtl0 (w : World) (F : Nat → Prop) (hF : Old F w) (M : MS [] w)  :
 Calls Try.prog 39 #[.pointer none] w fun e w' => e = .returned (.agg #[iI 0, .bool false, iI 0, .slice none 0 0, .slice none 0 0, .slice none 0 0]) ∧ Tr [] w [] w' := by
 refine go Try.func39 rfl 18 rfl [] [] hF M trivial trivial ?_
 intro a S
 have hD : ∀ k, In ([] : List BS) k → ¬ F k := fun _ h => h.elim
 refine rs0 ?_
 refine nbp S (x_allocz _ iZ57 rfl) ?_; clear S; intro a u b2 S
 refine ent (wp_seq ?_)
 refine rs S (tr (mv rfl)<|tr (ov fun S=>x_peqN uT52 (S.e rfl) (S.e rfl))<|tr (mv rfl)<|tr (goff 5 rfl)<|tr (goff 5 rfl)<|tr (goff 5 rfl)<|tr (goff 5 rfl)<|tr (goff 5 rfl)<|la (ov fun S=>x_pickt (S.e rfl) (S.e rfl))) ?_; clear S; intro a u S
 refine cdt S rfl ?_
 refine rs S (tr (ov fun S=>x_bd S [] [iI 0, .bool false, iI 0, .slice none 0 0, .slice none 0 0, .slice none 0 0])<|la (stkw 0 rfl rfl rfl)) ?_; clear S; intro a u S
 refine wp_ret (then_r ?_)
 refine retcw rfl S.s rfl [iI 0, .bool false, iI 0, .slice none 0 0, .slice none 0 0, .slice none 0 0] wD57 (fun j v hv => by rw [Nat.zero_add]; exact (S.k 0 rfl).cell hv) ?_
 replace S := S.pk []
 refine ⟨rfl, S.m.c⟩
set_option maxHeartbeats 2000000 in
set_option maxRecDepth 20000 in
theorem lNil (w : World) (F : Nat → Prop) (hF : Old F w) (M : MS [] w) (r : Rec) (r_w : recE.wf (Fr F []) w.heap r) (p : Plan) (p_w : planE.wf (Fr F []) w.heap p) (n : Int) (n_h : inI64 n) :
 Calls Try.prog 9 #[.agg (recE.cells r).toArray, .agg (planE.cells p).toArray, iI n] w fun e w' => e = .returned (bD (True)) ∧ Tr [] w [] w' := by
 obtain ⟨_, _⟩ : inI64 r.kind := r_w.1
 obtain ⟨_, _⟩ : inI64 r.dev := r_w.2.1
 obtain ⟨_, _⟩ : inI64 r.inc := r_w.2.2.1
 obtain ⟨_, _⟩ : inI64 r.seq := r_w.2.2.2
 have : p.rounds.xs.length ≤ 9223372036854775807 := (p_w.2).1.len
 obtain ⟨n_hl, n_hu⟩ : inI64 n := id n_h
 refine go Try.func9 rfl 75 rfl [wfF recE r, wfF planE p] [] hF M ⟨r_w, p_w, trivial⟩ trivial ?_
 intro a S
 have hD : ∀ k, In ([] : List BS) k → ¬ F k := fun _ h => h.elim
 refine rs0 ?_
 refine nbp S (x_box _ (S.e rfl) rfl) ?_; clear S; intro a u b3 S
 refine nbp S (x_box _ (S.e rfl) rfl) ?_; clear S; intro a u b4 S
 refine ens S (la (av rfl)) ?_; clear S; intro a u S
 refine rs S (la (av rfl)) ?_; clear S; intro a u S
 refine wp_seq ?_
 refine rs S (tr (mv rfl)<|tr (ldkw 0 rfl rfl wD24)<|tr (oc (fun S=>jAppend0 _ _ S.x (.nil _) r (dn0 (S.u 0 rfl))) cB34)<|tr (neqi rfl rfl)<|tr (mv rfl)<|tr (gon 17 rfl fun S=>x_move (S.e rfl))<|tr (ocon 17 rfl (fun S=>jBytes0 _ _ S.x (.nil _)) cB37)<|tr (gon 17 rfl fun S=>x_len uT28 (S.e rfl))<|tr (gon 17 rfl fun S=>x_neq (S.e rfl) (S.e rfl))<|tr (ov fun S=>x_pickf (S.e rfl) (S.e rfl))<|tr (mv rfl)<|tr (og 23 rfl gf fun S hg=>x_move (S.e rfl))<|tr (ocg 23 rfl gf (fun S hg=>jCtl0 _ _ S.x (.nil _)) cB39 fun S=>⟨fun hg=>(S.p rfl hg), trivial⟩)<|tr (og 23 rfl gf fun S hg=>x_build [] [iI 0, .bool false, iI 0, .slice none 0 0, .slice none 0 0, .slice none 0 0] (by simp only [List.map_cons, List.map_nil]) (by kernel_rfl))<|tr (ocg 23 rfl gf (fun S hg=>rSameC _ _ S.x (.nil _) (⟨0, false, 0, (Sl.mk none 0 ([])), (Sl.mk none 0 ([])), (Sl.mk none 0 ([]))⟩ : Ctrl) ⟨(show inI64 0 from ⟨by omega, by omega⟩), trivial, (show inI64 0 from ⟨by omega, by omega⟩), sl_nil, sl_nil, sl_nil⟩ (⟨0, false, 0, (Sl.mk none 0 ([])), (Sl.mk none 0 ([])), (Sl.mk none 0 ([]))⟩ : Ctrl) ⟨(show inI64 0 from ⟨by omega, by omega⟩), trivial, (show inI64 0 from ⟨by omega, by omega⟩), sl_nil, sl_nil, sl_nil⟩) cB38 fun S=>⟨fun hg=>(S.p rfl hg), fun hg=>(S.p rfl hg), trivial⟩)<|tr (og 23 rfl gf fun S hg=>x_notp (S.p rfl hg))<|la (ori rfl rfl rfl)) ?_; clear S; intro a u S
 refine cd S rfl ?_ ?_
 ·intro hc0
  refine rs S (la (av rfl)) ?_; clear S; intro a u S
  refine wp_ret (then_r ?_)
  refine ret1 rfl S.s rfl ?_
  replace S := S.pk []
  refine ⟨(r1 (vf ?_)), S.m.c⟩
  first
  | exact Iff.rfl
  | exact fun _ => hc0 (by unfold sameC; exact ⟨rfl, Iff.rfl, rfl, rfl, rfl, rfl⟩)
  | exact fun _ => hng ⟨stsE_0.1 (by assumption), by omega⟩
  | (intro _; have h1 := stsE_0.2 hgd.1; have h2 := hgd.2; first | omega | (simp_all; done) | (simp_all; omega))
  | (intro _; first | (simp_all [stsE_0]; done) | (simp_all [stsE_0]; omega))
  | (exact fun _ => hng ⟨stsE_0.1 (by assumption), by have hq := hc0; simp at hq; omega⟩)
  | (exact fun _ => hc0 (by simp [sameC]))
  | (intro _; rcases hc0 with h | h; exact h rfl; apply h; unfold sameC; exact ⟨rfl, Iff.rfl, rfl, rfl, rfl, rfl⟩)
 intro hc1
 refine wp_skip (then_n (wp_seq ?_))
 have hn6 : p.rounds.xs.length ≤ 9223372036854775807 := ((S.u 1 rfl).2).1.len
 refine rs S (tr (fldi 0 1 rfl uT47)<|tr (ldk 1 sC45 rfl rfl rfl)<|tr (leni uT45 rfl)<|la (gtri rfl rfl)) ?_; clear S; intro a u S
 refine cd S rfl ?_ ?_
 ·intro hc2
  refine rs S (tr (oc (fun S=>lSane _ _ S.x (.nil _)) cB24)<|la (av rfl)) ?_; clear S; intro a u S
  refine wp_ret (then_r ?_)
  refine ret1 rfl S.s rfl ?_
  replace S := S.pk []
  refine ⟨(r1 (vb ?_)), S.m.c⟩
  first
  | exact Iff.rfl
  | exact fun _ => hc2 (by unfold sameC; exact ⟨rfl, Iff.rfl, rfl, rfl, rfl, rfl⟩)
  | exact fun _ => hng ⟨stsE_0.1 (by assumption), by omega⟩
  | (intro _; have h1 := stsE_0.2 hgd.1; have h2 := hgd.2; first | omega | (simp_all; done) | (simp_all; omega))
  | (intro _; first | (simp_all [stsE_0]; done) | (simp_all [stsE_0]; omega))
  | (exact fun _ => hng ⟨stsE_0.1 (by assumption), by have hq := hc2; simp at hq; omega⟩)
  | (exact fun _ => hc2 (by simp [sameC]))
  | (intro _; rcases hc2 with h | h; exact h rfl; apply h; unfold sameC; exact ⟨rfl, Iff.rfl, rfl, rfl, rfl, rfl⟩)
 intro hc3
 refine wp_skip (then_n (rs0 ?_))
 refine sp S (tr (ldkw 1 rfl rfl wD47)<|la (mv rfl)) ?_; clear S; intro a u S
 refine cl S (jNew _ _ (S.xx (ow []))  (S.mF (ks := [blO b3 (recE.cells r) 24, blO b4 (planE.cells p) 47]) (fs := [])) (S.nfF (ks := [blO b3 (recE.cells r) 24, blO b4 (planE.cells p) 47]) (fs := []) hD) p (dnF (ks := [blO b3 (recE.cells r) 24, blO b4 (planE.cells p) 47]) (fs := []) (S.u 1 rfl)) n n_h (by first | omega | (dsimp only; omega))) cB33 ?_
 rintro e u ⟨q_t38, rfl, qK_t38, qB_t38, hr_t38, T0⟩; refine ⟨_, rfl, fun a s => ?_⟩
 have S2 := S.kF (ks := [blO b3 (recE.cells r) 24, blO b4 (planE.cells p) 47]) (fs := []) [bnO (lgQ q_t38)] s T0 ⟨qB_t38, trivial⟩ ⟨(mo_bn (mo_lgQ _)), trivial⟩
 replace S2 := (show St _ _ _ _ _ _ [blO b3 (recE.cells r) 24, blO b4 (planE.cells p) 47, bnO (lgQ q_t38)] _ _ from S2)
 clear S; have S := S2; clear S2 s T0 qB_t38
 rcases q_t38 with _ | ⟨B_t38, x_t38⟩
 ·skip
  replace S := S.pk [0, 1] (os' := [blO b3 (recE.cells r) 24, blO b4 (planE.cells p) 47])
  replace S := S.l ((0, .agg (recE.cells r).toArray) :: (1, .agg (planE.cells p).toArray) :: (2, iI n) :: (3, pT b3 0) :: (4, pT b4 0) :: (6, .bool false) :: (7, .pointer none) :: (13, .pointer none) :: (14, .agg (recE.cells r).toArray) :: (15, iI 1) :: (16, .bool false) :: (17, .bool false) :: (18, .pointer none) :: (19, .slice none 0 0) :: (20, iN 0) :: (21, bD (¬ ((0 : Nat) : Int) = 0)) :: (22, bD (¬ ((0 : Nat) : Int) = 0)) :: (23, bD (¬ ((0 : Nat) : Int) = 0)) :: (24, (if (¬ (¬ ((0 : Nat) : Int) = 0)) then .pointer none else undef)) :: (25, (if (¬ (¬ ((0 : Nat) : Int) = 0)) then .agg #[iI 0, .bool false, iI 0, .slice none 0 0, .slice none 0 0, .slice none 0 0] else undef)) :: (26, (if (¬ (¬ ((0 : Nat) : Int) = 0)) then .agg #[iI 0, .bool false, iI 0, .slice none 0 0, .slice none 0 0, .slice none 0 0] else undef)) :: (27, (if (¬ (¬ ((0 : Nat) : Int) = 0)) then bD (sameC (⟨0, false, 0, (Sl.mk none 0 ([])), (Sl.mk none 0 ([])), (Sl.mk none 0 ([]))⟩ : Ctrl) (⟨0, false, 0, (Sl.mk none 0 ([])), (Sl.mk none 0 ([])), (Sl.mk none 0 ([]))⟩ : Ctrl)) else undef)) :: (28, (if (¬ (¬ ((0 : Nat) : Int) = 0)) then bD (¬ (sameC (⟨0, false, 0, (Sl.mk none 0 ([])), (Sl.mk none 0 ([])), (Sl.mk none 0 ([]))⟩ : Ctrl) (⟨0, false, 0, (Sl.mk none 0 ([])), (Sl.mk none 0 ([])), (Sl.mk none 0 ([]))⟩ : Ctrl))) else undef)) :: (29, bD ((¬ ((0 : Nat) : Int) = 0) ∨ (¬ (sameC (⟨0, false, 0, (Sl.mk none 0 ([])), (Sl.mk none 0 ([])), (Sl.mk none 0 ([]))⟩ : Ctrl) (⟨0, false, 0, (Sl.mk none 0 ([])), (Sl.mk none 0 ([])), (Sl.mk none 0 ([]))⟩ : Ctrl))))) :: (30, pT b4 (0 + 1)) :: (31, sV p.rounds) :: (32, iN p.rounds.xs.length) :: (33, bD (20 < ((p.rounds.xs.length : Nat) : Int))) :: (36, .agg (planE.cells p).toArray) :: (37, iI n) :: (38, .tuple #[.pointer none, iI 1]) :: []) (subM rfl)
  have hng : ¬ ((statesP p.staged (rdsP p) n).isSome = true ∧ p.rounds.xs.length ≤ 16) := fun h => (by have := hr_t38.1.2 h; cases this)
  refine ens S (tr (mv rfl)<|tr (exi rfl rfl)<|tr (exi rfl rfl)<|tr (av rfl)<|la (av rfl)) ?_; clear S; intro a u S
  refine rs0 ?_
  refine sp S (tr (ldkw 1 rfl rfl wD47)<|la (mv rfl)) ?_; clear S; intro a u S
  refine cl S (rStates _ _ S.x (.nil _) p (dn0 (S.u 1 rfl)) n n_h (by first | omega | (dsimp only; omega))) cB40 ?_
  rintro e u ⟨r_t440, rfl, R_t440, hr_t440, T0⟩; refine ⟨_, rfl, fun a s => ?_⟩
  replace S := (S.k0 s T0).ar (wfF (slE (slE intE)) r_t440) (Enc.up _ R_t440); clear s T0 R_t440
  have hn10 : r_t440.xs.length ≤ 9223372036854775807 := ((S.u 2 rfl)).1.len
  refine ens S (tr (mv rfl)<|tr (exi rfl rfl)<|tr (exi rfl rfl)<|tr (av rfl)<|la (av rfl)) ?_; clear S; intro a u S
  refine rs0 ?_
  refine sp S (tr (mv rfl)<|tr (eqli rfl rfl)<|la (mv rfl)) ?_; clear S; intro a u S
  refine (Classical.em (stsE (statesP p.staged (rdsP p) n) = 0)).elim (fun hs12 => ?_) (fun hs12 => ?_)
  ·replace S := S.ext (d := 49) (v := .bool true) ((S.get 49 rfl).trans (congrArg Value.bool (decide_eq_true hs12)))
   refine ens S (tr (gon 49 rfl fun S=>x_fld (z := 0) (0) 1 uT47 rfl rfl (by kernel_rfl) (S.e rfl))<|tr (gon 49 rfl fun S=>x_load sC45 (S.e rfl) ((S.k 1 rfl).cell (j := 1) rfl))<|tr (gon 49 rfl fun S=>x_len uT45 (S.e rfl))<|tr (gon 49 rfl fun S=>x_leq (S.e rfl) (S.e rfl))<|tr (ov fun S=>x_pickt (S.e rfl) (S.e rfl))<|la (av rfl)) ?_; clear S; intro a u S
   refine rs0 ?_
   refine sp S (tr (mv rfl)<|tr (mv rfl)<|tr (eqli rfl rfl)<|tr (ov fun S=>x_beql uT4 (S.e rfl) (S.e rfl))<|la (mv rfl)) ?_; clear S; intro a u S
   refine (Classical.em (decide (((p.rounds.xs.length : Nat) : Int) ≤ 16) = false)).elim (fun hs14 => ?_) (fun hs14 => ?_)
   ·replace S := S.ext (d := 59) (v := .bool true) ((S.get 59 rfl).trans (congrArg Value.bool (decide_eq_true hs14)))
    refine sp S (tr (gon 59 rfl fun S=>x_move (S.e rfl))<|tr (gon 59 rfl fun S=>x_move (S.e rfl))<|tr (gon 59 rfl fun S=>x_pneN uT52 (S.e rfl) (S.e rfl))<|tr (gon 59 rfl fun S=>x_beql uT4 (S.e rfl) (S.e rfl))<|tr (ov fun S=>x_pickt (S.e rfl) (S.e rfl))<|la (mv rfl)) ?_; clear S; intro a u S
    refine (Classical.em (decide (((p.rounds.xs.length : Nat) : Int) ≤ 16) = false)).elim (fun hs15 => ?_) (fun hs15 => ?_)
    ·replace S := S.ext (d := 65) (v := .bool true) ((S.get 65 rfl).trans (congrArg Value.bool (decide_eq_true hs15)))
     refine sp S (tr (gon 65 rfl fun S=>x_move (S.e rfl))<|la (gon 65 rfl fun S=>x_move (S.e rfl))) ?_; clear S; intro a u S
     refine (Classical.em (((p.rounds.xs.length : Nat) : Int) ≤ 16)).elim (fun hs16 => ?_) (fun hs16 => ?_)
     ·replace S := S.ext (d := 67) (v := .bool true) ((S.get 67 rfl).trans (congrArg Value.bool (decide_eq_true hs16)))
      refine ens S (tr (goff 67 rfl)<|tr (goff 67 rfl)<|tr (gon 65 rfl fun S=>x_pickt (S.e rfl) (S.e rfl))<|tr (ov fun S=>x_pickt (S.e rfl) (S.e rfl))<|tr (mv rfl)<|tr (ocon 72 rfl (fun S=>lSane _ _ S.x (.nil _)) cB24)<|tr (ov fun S=>x_pickt (S.e rfl) (S.e rfl))<|la (av rfl)) ?_; clear S; intro a u S
      refine wp_ret ?_
      refine ret1 rfl S.s rfl ?_
      replace S := S.pk []
      refine ⟨(r1 (vb ?_)), S.m.c⟩
      first
      | exact Iff.rfl
      | exact fun _ => hs16 (by unfold sameC; exact ⟨rfl, Iff.rfl, rfl, rfl, rfl, rfl⟩)
      | exact fun _ => hng ⟨stsE_0.1 (by assumption), by omega⟩
      | (intro _; have h1 := stsE_0.2 hgd.1; have h2 := hgd.2; first | omega | (simp_all; done) | (simp_all; omega))
      | (intro _; first | (simp_all [stsE_0]; done) | (simp_all [stsE_0]; omega))
      | (exact fun _ => hng ⟨stsE_0.1 (by assumption), by have hq := hs16; simp at hq; omega⟩)
      | (exact fun _ => hs16 (by simp [sameC]))
      | (intro _; rcases hs16 with h | h; exact h rfl; apply h; unfold sameC; exact ⟨rfl, Iff.rfl, rfl, rfl, rfl, rfl⟩)
     replace S := S.ext (d := 67) (v := .bool false) ((S.get 67 rfl).trans (congrArg Value.bool (decide_eq_false hs16)))
     refine ens S (tr (gon 67 rfl fun S=>x_move (S.e rfl))<|tr (gon 67 rfl fun S=>x_eql (S.e rfl) (S.e rfl))<|tr (gon 65 rfl fun S=>x_pickf (S.e rfl) (S.e rfl))<|tr (ov fun S=>x_pickt (S.e rfl) (S.e rfl))<|tr (mv rfl)<|tr (ocon 72 rfl (fun S=>lSane _ _ S.x (.nil _)) cB24)<|tr (ov fun S=>x_pickt (S.e rfl) (S.e rfl))<|la (av rfl)) ?_; clear S; intro a u S
     refine wp_ret ?_
     refine ret1 rfl S.s rfl ?_
     replace S := S.pk []
     refine ⟨(r1 (vb ?_)), S.m.c⟩
     first
     | exact Iff.rfl
     | exact fun _ => hs16 (by unfold sameC; exact ⟨rfl, Iff.rfl, rfl, rfl, rfl, rfl⟩)
     | exact fun _ => hng ⟨stsE_0.1 (by assumption), by omega⟩
     | (intro _; have h1 := stsE_0.2 hgd.1; have h2 := hgd.2; first | omega | (simp_all; done) | (simp_all; omega))
     | (intro _; first | (simp_all [stsE_0]; done) | (simp_all [stsE_0]; omega))
     | (exact fun _ => hng ⟨stsE_0.1 (by assumption), by have hq := hs16; simp at hq; omega⟩)
     | (exact fun _ => hs16 (by simp [sameC]))
     | (intro _; rcases hs16 with h | h; exact h rfl; apply h; unfold sameC; exact ⟨rfl, Iff.rfl, rfl, rfl, rfl, rfl⟩)
    replace S := S.ext (d := 65) (v := .bool false) ((S.get 65 rfl).trans (congrArg Value.bool (decide_eq_false hs15)))
    refine ens S (tr (goff 65 rfl)<|tr (goff 65 rfl)<|tr (goffu 67 rfl)<|tr (goffu 67 rfl)<|tr (goff 65 rfl)<|tr (ov fun S=>x_pickf (S.e rfl) (S.e rfl))<|tr (mv rfl)<|tr (goff 72 rfl)<|tr (ov fun S=>x_pickf (S.e rfl) (S.e rfl))<|la (av rfl)) ?_; clear S; intro a u S
    refine wp_ret ?_
    refine ret1 rfl S.s rfl ?_
    replace S := S.pk []
    refine ⟨(r1 (vf ?_)), S.m.c⟩
    first
    | exact Iff.rfl
    | exact fun _ => hs15 (by unfold sameC; exact ⟨rfl, Iff.rfl, rfl, rfl, rfl, rfl⟩)
    | exact fun _ => hng ⟨stsE_0.1 (by assumption), by omega⟩
    | (intro _; have h1 := stsE_0.2 hgd.1; have h2 := hgd.2; first | omega | (simp_all; done) | (simp_all; omega))
    | (intro _; first | (simp_all [stsE_0]; done) | (simp_all [stsE_0]; omega))
    | (exact fun _ => hng ⟨stsE_0.1 (by assumption), by have hq := hs15; simp at hq; omega⟩)
    | (exact fun _ => hs15 (by simp [sameC]))
    | (intro _; rcases hs15 with h | h; exact h rfl; apply h; unfold sameC; exact ⟨rfl, Iff.rfl, rfl, rfl, rfl, rfl⟩)
   replace S := S.ext (d := 59) (v := .bool false) ((S.get 59 rfl).trans (congrArg Value.bool (decide_eq_false hs14)))
   refine ens S (tr (goff 59 rfl)<|tr (goff 59 rfl)<|tr (goff 59 rfl)<|tr (goff 59 rfl)<|tr (ov fun S=>x_pickf (S.e rfl) (S.e rfl))<|tr (mv rfl)<|tr (goff 65 rfl)<|tr (goff 65 rfl)<|tr (goffu 67 rfl)<|tr (goffu 67 rfl)<|tr (goff 65 rfl)<|tr (ov fun S=>x_pickf (S.e rfl) (S.e rfl))<|tr (mv rfl)<|tr (goff 72 rfl)<|tr (ov fun S=>x_pickf (S.e rfl) (S.e rfl))<|la (av rfl)) ?_; clear S; intro a u S
   refine wp_ret ?_
   refine ret1 rfl S.s rfl ?_
   replace S := S.pk []
   refine ⟨(r1 (vf ?_)), S.m.c⟩
   first
   | exact Iff.rfl
   | exact fun _ => hs14 (by unfold sameC; exact ⟨rfl, Iff.rfl, rfl, rfl, rfl, rfl⟩)
   | exact fun _ => hng ⟨stsE_0.1 (by assumption), by omega⟩
   | (intro _; have h1 := stsE_0.2 hgd.1; have h2 := hgd.2; first | omega | (simp_all; done) | (simp_all; omega))
   | (intro _; first | (simp_all [stsE_0]; done) | (simp_all [stsE_0]; omega))
   | (exact fun _ => hng ⟨stsE_0.1 (by assumption), by have hq := hs14; simp at hq; omega⟩)
   | (exact fun _ => hs14 (by simp [sameC]))
   | (intro _; rcases hs14 with h | h; exact h rfl; apply h; unfold sameC; exact ⟨rfl, Iff.rfl, rfl, rfl, rfl, rfl⟩)
  replace S := S.ext (d := 49) (v := .bool false) ((S.get 49 rfl).trans (congrArg Value.bool (decide_eq_false hs12)))
  refine ens S (tr (goff 49 rfl)<|tr (goff 49 rfl)<|tr (goff 49 rfl)<|tr (goff 49 rfl)<|tr (ov fun S=>x_pickf (S.e rfl) (S.e rfl))<|la (av rfl)) ?_; clear S; intro a u S
  refine rs0 ?_
  refine sp S (tr (mv rfl)<|tr (mv rfl)<|tr (eqli rfl rfl)<|tr (ov fun S=>x_beql uT4 (S.e rfl) (S.e rfl))<|la (mv rfl)) ?_; clear S; intro a u S
  refine (Classical.em (false = false)).elim (fun hs18 => ?_) (fun hs18 => ?_)
  ·replace S := S.ext (d := 59) (v := .bool true) ((S.get 59 rfl).trans (congrArg Value.bool (decide_eq_true hs18)))
   refine sp S (tr (gon 59 rfl fun S=>x_move (S.e rfl))<|tr (gon 59 rfl fun S=>x_move (S.e rfl))<|tr (gon 59 rfl fun S=>x_pneN uT52 (S.e rfl) (S.e rfl))<|tr (gon 59 rfl fun S=>x_beql uT4 (S.e rfl) (S.e rfl))<|tr (ov fun S=>x_pickt (S.e rfl) (S.e rfl))<|la (mv rfl)) ?_; clear S; intro a u S
   refine (Classical.em (false = false)).elim (fun hs19 => ?_) (fun hs19 => ?_)
   ·replace S := S.ext (d := 65) (v := .bool true) ((S.get 65 rfl).trans (congrArg Value.bool (decide_eq_true hs19)))
    refine ens S (tr (gon 65 rfl fun S=>x_move (S.e rfl))<|tr (gon 65 rfl fun S=>x_move (S.e rfl))<|tr (gon 67 rfl fun S=>x_move (S.e rfl))<|tr (gon 67 rfl fun S=>x_eql (S.e rfl) (S.e rfl))<|tr (gon 65 rfl fun S=>x_pickf (S.e rfl) (S.e rfl))<|tr (ov fun S=>x_pickt (S.e rfl) (S.e rfl))<|tr (mv rfl)<|tr (ocon 72 rfl (fun S=>lSane _ _ S.x (.nil _)) cB24)<|tr (ov fun S=>x_pickt (S.e rfl) (S.e rfl))<|la (av rfl)) ?_; clear S; intro a u S
    refine wp_ret ?_
    refine ret1 rfl S.s rfl ?_
    replace S := S.pk []
    refine ⟨(r1 (vb ?_)), S.m.c⟩
    first
    | exact Iff.rfl
    | exact fun _ => hs19 (by unfold sameC; exact ⟨rfl, Iff.rfl, rfl, rfl, rfl, rfl⟩)
    | exact fun _ => hng ⟨stsE_0.1 (by assumption), by omega⟩
    | (intro _; have h1 := stsE_0.2 hgd.1; have h2 := hgd.2; first | omega | (simp_all; done) | (simp_all; omega))
    | (intro _; first | (simp_all [stsE_0]; done) | (simp_all [stsE_0]; omega))
    | (exact fun _ => hng ⟨stsE_0.1 (by assumption), by have hq := hs19; simp at hq; omega⟩)
    | (exact fun _ => hs19 (by simp [sameC]))
    | (intro _; rcases hs19 with h | h; exact h rfl; apply h; unfold sameC; exact ⟨rfl, Iff.rfl, rfl, rfl, rfl, rfl⟩)
   replace S := S.ext (d := 65) (v := .bool false) ((S.get 65 rfl).trans (congrArg Value.bool (decide_eq_false hs19)))
   refine ens S (tr (goff 65 rfl)<|tr (goff 65 rfl)<|tr (goffu 67 rfl)<|tr (goffu 67 rfl)<|tr (goff 65 rfl)<|tr (ov fun S=>x_pickf (S.e rfl) (S.e rfl))<|tr (mv rfl)<|tr (goff 72 rfl)<|tr (ov fun S=>x_pickf (S.e rfl) (S.e rfl))<|la (av rfl)) ?_; clear S; intro a u S
   refine wp_ret ?_
   refine ret1 rfl S.s rfl ?_
   replace S := S.pk []
   refine ⟨(r1 (vf ?_)), S.m.c⟩
   first
   | exact Iff.rfl
   | exact fun _ => hs19 (by unfold sameC; exact ⟨rfl, Iff.rfl, rfl, rfl, rfl, rfl⟩)
   | exact fun _ => hng ⟨stsE_0.1 (by assumption), by omega⟩
   | (intro _; have h1 := stsE_0.2 hgd.1; have h2 := hgd.2; first | omega | (simp_all; done) | (simp_all; omega))
   | (intro _; first | (simp_all [stsE_0]; done) | (simp_all [stsE_0]; omega))
   | (exact fun _ => hng ⟨stsE_0.1 (by assumption), by have hq := hs19; simp at hq; omega⟩)
   | (exact fun _ => hs19 (by simp [sameC]))
   | (intro _; rcases hs19 with h | h; exact h rfl; apply h; unfold sameC; exact ⟨rfl, Iff.rfl, rfl, rfl, rfl, rfl⟩)
  replace S := S.ext (d := 59) (v := .bool false) ((S.get 59 rfl).trans (congrArg Value.bool (decide_eq_false hs18)))
  refine ens S (tr (goff 59 rfl)<|tr (goff 59 rfl)<|tr (goff 59 rfl)<|tr (goff 59 rfl)<|tr (ov fun S=>x_pickf (S.e rfl) (S.e rfl))<|tr (mv rfl)<|tr (goff 65 rfl)<|tr (goff 65 rfl)<|tr (goffu 67 rfl)<|tr (goffu 67 rfl)<|tr (goff 65 rfl)<|tr (ov fun S=>x_pickf (S.e rfl) (S.e rfl))<|tr (mv rfl)<|tr (goff 72 rfl)<|tr (ov fun S=>x_pickf (S.e rfl) (S.e rfl))<|la (av rfl)) ?_; clear S; intro a u S
  refine wp_ret ?_
  refine ret1 rfl S.s rfl ?_
  replace S := S.pk []
  refine ⟨(r1 (vf ?_)), S.m.c⟩
  first
  | exact Iff.rfl
  | exact fun _ => hs18 (by unfold sameC; exact ⟨rfl, Iff.rfl, rfl, rfl, rfl, rfl⟩)
  | exact fun _ => hng ⟨stsE_0.1 (by assumption), by omega⟩
  | (intro _; have h1 := stsE_0.2 hgd.1; have h2 := hgd.2; first | omega | (simp_all; done) | (simp_all; omega))
  | (intro _; first | (simp_all [stsE_0]; done) | (simp_all [stsE_0]; omega))
  | (exact fun _ => hng ⟨stsE_0.1 (by assumption), by have hq := hs18; simp at hq; omega⟩)
  | (exact fun _ => hs18 (by simp [sameC]))
  | (intro _; rcases hs18 with h | h; exact h rfl; apply h; unfold sameC; exact ⟨rfl, Iff.rfl, rfl, rfl, rfl, rfl⟩)
 skip
 replace S := (show St _ _ _ _ _ _ [blO b3 (recE.cells r) 24, blO b4 (planE.cells p) 47, bnO (lgF B_t38 x_t38)] _ _ from S)
 replace S := S.l ((0, .agg (recE.cells r).toArray) :: (1, .agg (planE.cells p).toArray) :: (2, iI n) :: (3, pT b3 0) :: (4, pT b4 0) :: (6, .bool false) :: (7, .pointer none) :: (13, .pointer none) :: (14, .agg (recE.cells r).toArray) :: (15, iI 1) :: (16, .bool false) :: (17, .bool false) :: (18, .pointer none) :: (19, .slice none 0 0) :: (20, iN 0) :: (21, bD (¬ ((0 : Nat) : Int) = 0)) :: (22, bD (¬ ((0 : Nat) : Int) = 0)) :: (23, bD (¬ ((0 : Nat) : Int) = 0)) :: (24, (if (¬ (¬ ((0 : Nat) : Int) = 0)) then .pointer none else undef)) :: (25, (if (¬ (¬ ((0 : Nat) : Int) = 0)) then .agg #[iI 0, .bool false, iI 0, .slice none 0 0, .slice none 0 0, .slice none 0 0] else undef)) :: (26, (if (¬ (¬ ((0 : Nat) : Int) = 0)) then .agg #[iI 0, .bool false, iI 0, .slice none 0 0, .slice none 0 0, .slice none 0 0] else undef)) :: (27, (if (¬ (¬ ((0 : Nat) : Int) = 0)) then bD (sameC (⟨0, false, 0, (Sl.mk none 0 ([])), (Sl.mk none 0 ([])), (Sl.mk none 0 ([]))⟩ : Ctrl) (⟨0, false, 0, (Sl.mk none 0 ([])), (Sl.mk none 0 ([])), (Sl.mk none 0 ([]))⟩ : Ctrl)) else undef)) :: (28, (if (¬ (¬ ((0 : Nat) : Int) = 0)) then bD (¬ (sameC (⟨0, false, 0, (Sl.mk none 0 ([])), (Sl.mk none 0 ([])), (Sl.mk none 0 ([]))⟩ : Ctrl) (⟨0, false, 0, (Sl.mk none 0 ([])), (Sl.mk none 0 ([])), (Sl.mk none 0 ([]))⟩ : Ctrl))) else undef)) :: (29, bD ((¬ ((0 : Nat) : Int) = 0) ∨ (¬ (sameC (⟨0, false, 0, (Sl.mk none 0 ([])), (Sl.mk none 0 ([])), (Sl.mk none 0 ([]))⟩ : Ctrl) (⟨0, false, 0, (Sl.mk none 0 ([])), (Sl.mk none 0 ([])), (Sl.mk none 0 ([]))⟩ : Ctrl))))) :: (30, pT b4 (0 + 1)) :: (31, sV p.rounds) :: (32, iN p.rounds.xs.length) :: (33, bD (20 < ((p.rounds.xs.length : Nat) : Int))) :: (36, .agg (planE.cells p).toArray) :: (37, iI n) :: (38, .tuple #[pT B_t38 0, iI 0]) :: []) (subM rfl)
 have hgd := hr_t38.1.1 rfl
 refine ens S (tr (mv rfl)<|tr (exi rfl rfl)<|tr (exi rfl rfl)<|tr (av rfl)<|la (av rfl)) ?_; clear S; intro a u S
 refine rs0 ?_
 refine sp S (tr (ldkw 1 rfl rfl wD47)<|la (mv rfl)) ?_; clear S; intro a u S
 refine cl S (rStates _ _ S.x (.nil _) p (dn0 (S.u 1 rfl)) n n_h (by first | omega | (dsimp only; omega))) cB40 ?_
 rintro e u ⟨r_t440, rfl, R_t440, hr_t440, T0⟩; refine ⟨_, rfl, fun a s => ?_⟩
 replace S := (S.k0 s T0).ar (wfF (slE (slE intE)) r_t440) (Enc.up _ R_t440); clear s T0 R_t440
 have hn21 : r_t440.xs.length ≤ 9223372036854775807 := ((S.u 2 rfl)).1.len
 refine ens S (tr (mv rfl)<|tr (exi rfl rfl)<|tr (exi rfl rfl)<|tr (av rfl)<|la (av rfl)) ?_; clear S; intro a u S
 refine rs0 ?_
 refine sp S (tr (mv rfl)<|tr (eqli rfl rfl)<|la (mv rfl)) ?_; clear S; intro a u S
 refine (Classical.em (stsE (statesP p.staged (rdsP p) n) = 0)).elim (fun hs23 => ?_) (fun hs23 => ?_)
 ·replace S := S.ext (d := 49) (v := .bool true) ((S.get 49 rfl).trans (congrArg Value.bool (decide_eq_true hs23)))
  refine ens S (tr (gon 49 rfl fun S=>x_fld (z := 0) (0) 1 uT47 rfl rfl (by kernel_rfl) (S.e rfl))<|tr (gon 49 rfl fun S=>x_load sC45 (S.e rfl) ((S.k 1 rfl).cell (j := 1) rfl))<|tr (gon 49 rfl fun S=>x_len uT45 (S.e rfl))<|tr (gon 49 rfl fun S=>x_leq (S.e rfl) (S.e rfl))<|tr (ov fun S=>x_pickt (S.e rfl) (S.e rfl))<|la (av rfl)) ?_; clear S; intro a u S
  refine rs0 ?_
  refine sp S (tr (mv rfl)<|tr (mv rfl)<|tr (eqli rfl rfl)<|tr (ov fun S=>x_beql uT4 (S.e rfl) (S.e rfl))<|la (mv rfl)) ?_; clear S; intro a u S
  refine (Classical.em (decide (((p.rounds.xs.length : Nat) : Int) ≤ 16) = true)).elim (fun hs25 => ?_) (fun hs25 => ?_)
  ·replace S := S.ext (d := 59) (v := .bool true) ((S.get 59 rfl).trans (congrArg Value.bool (decide_eq_true hs25)))
   refine sp S (tr (gon 59 rfl fun S=>x_move (S.e rfl))<|tr (gon 59 rfl fun S=>x_move (S.e rfl))<|tr (gon 59 rfl fun S=>x_pneN uT52 (S.e rfl) (S.e rfl))<|tr (gon 59 rfl fun S=>x_beql uT4 (S.e rfl) (S.e rfl))<|tr (ov fun S=>x_pickt (S.e rfl) (S.e rfl))<|la (mv rfl)) ?_; clear S; intro a u S
   refine (Classical.em (decide (((p.rounds.xs.length : Nat) : Int) ≤ 16) = true)).elim (fun hs26 => ?_) (fun hs26 => ?_)
   ·replace S := S.ext (d := 65) (v := .bool true) ((S.get 65 rfl).trans (congrArg Value.bool (decide_eq_true hs26)))
    refine sp S (tr (gon 65 rfl fun S=>x_move (S.e rfl))<|la (gon 65 rfl fun S=>x_move (S.e rfl))) ?_; clear S; intro a u S
    refine (Classical.em (((p.rounds.xs.length : Nat) : Int) ≤ 16)).elim (fun hs27 => ?_) (fun hs27 => ?_)
    ·replace S := S.ext (d := 67) (v := .bool true) ((S.get 67 rfl).trans (congrArg Value.bool (decide_eq_true hs27)))
     refine ens S (tr (goff 67 rfl)<|tr (goff 67 rfl)<|tr (gon 65 rfl fun S=>x_pickt (S.e rfl) (S.e rfl))<|tr (ov fun S=>x_pickt (S.e rfl) (S.e rfl))<|tr (mv rfl)<|tr (ocon 72 rfl (fun S=>lSane _ _ S.x (.nil _)) cB24)<|tr (ov fun S=>x_pickt (S.e rfl) (S.e rfl))<|la (av rfl)) ?_; clear S; intro a u S
     refine wp_ret ?_
     refine ret1 rfl S.s rfl ?_
     replace S := S.pk []
     refine ⟨(r1 (vb ?_)), S.m.c⟩
     first
     | exact Iff.rfl
     | exact fun _ => hs27 (by unfold sameC; exact ⟨rfl, Iff.rfl, rfl, rfl, rfl, rfl⟩)
     | exact fun _ => hng ⟨stsE_0.1 (by assumption), by omega⟩
     | (intro _; have h1 := stsE_0.2 hgd.1; have h2 := hgd.2; first | omega | (simp_all; done) | (simp_all; omega))
     | (intro _; first | (simp_all [stsE_0]; done) | (simp_all [stsE_0]; omega))
     | (exact fun _ => hng ⟨stsE_0.1 (by assumption), by have hq := hs27; simp at hq; omega⟩)
     | (exact fun _ => hs27 (by simp [sameC]))
     | (intro _; rcases hs27 with h | h; exact h rfl; apply h; unfold sameC; exact ⟨rfl, Iff.rfl, rfl, rfl, rfl, rfl⟩)
    replace S := S.ext (d := 67) (v := .bool false) ((S.get 67 rfl).trans (congrArg Value.bool (decide_eq_false hs27)))
    refine ens S (tr (gon 67 rfl fun S=>x_move (S.e rfl))<|tr (gon 67 rfl fun S=>x_eql (S.e rfl) (S.e rfl))<|tr (gon 65 rfl fun S=>x_pickf (S.e rfl) (S.e rfl))<|tr (ov fun S=>x_pickt (S.e rfl) (S.e rfl))<|tr (mv rfl)<|tr (goff 72 rfl)<|tr (ov fun S=>x_pickf (S.e rfl) (S.e rfl))<|la (av rfl)) ?_; clear S; intro a u S
    refine wp_ret ?_
    refine ret1 rfl S.s rfl ?_
    replace S := S.pk []
    refine ⟨(r1 (vf ?_)), S.m.c⟩
    first
    | exact Iff.rfl
    | exact fun _ => hs27 (by unfold sameC; exact ⟨rfl, Iff.rfl, rfl, rfl, rfl, rfl⟩)
    | exact fun _ => hng ⟨stsE_0.1 (by assumption), by omega⟩
    | (intro _; have h1 := stsE_0.2 hgd.1; have h2 := hgd.2; first | omega | (simp_all; done) | (simp_all; omega))
    | (intro _; first | (simp_all [stsE_0]; done) | (simp_all [stsE_0]; omega))
    | (exact fun _ => hng ⟨stsE_0.1 (by assumption), by have hq := hs27; simp at hq; omega⟩)
    | (exact fun _ => hs27 (by simp [sameC]))
    | (intro _; rcases hs27 with h | h; exact h rfl; apply h; unfold sameC; exact ⟨rfl, Iff.rfl, rfl, rfl, rfl, rfl⟩)
   replace S := S.ext (d := 65) (v := .bool false) ((S.get 65 rfl).trans (congrArg Value.bool (decide_eq_false hs26)))
   refine ens S (tr (goff 65 rfl)<|tr (goff 65 rfl)<|tr (goffu 67 rfl)<|tr (goffu 67 rfl)<|tr (goff 65 rfl)<|tr (ov fun S=>x_pickf (S.e rfl) (S.e rfl))<|tr (mv rfl)<|tr (goff 72 rfl)<|tr (ov fun S=>x_pickf (S.e rfl) (S.e rfl))<|la (av rfl)) ?_; clear S; intro a u S
   refine wp_ret ?_
   refine ret1 rfl S.s rfl ?_
   replace S := S.pk []
   refine ⟨(r1 (vf ?_)), S.m.c⟩
   first
   | exact Iff.rfl
   | exact fun _ => hs26 (by unfold sameC; exact ⟨rfl, Iff.rfl, rfl, rfl, rfl, rfl⟩)
   | exact fun _ => hng ⟨stsE_0.1 (by assumption), by omega⟩
   | (intro _; have h1 := stsE_0.2 hgd.1; have h2 := hgd.2; first | omega | (simp_all; done) | (simp_all; omega))
   | (intro _; first | (simp_all [stsE_0]; done) | (simp_all [stsE_0]; omega))
   | (exact fun _ => hng ⟨stsE_0.1 (by assumption), by have hq := hs26; simp at hq; omega⟩)
   | (exact fun _ => hs26 (by simp [sameC]))
   | (intro _; rcases hs26 with h | h; exact h rfl; apply h; unfold sameC; exact ⟨rfl, Iff.rfl, rfl, rfl, rfl, rfl⟩)
  replace S := S.ext (d := 59) (v := .bool false) ((S.get 59 rfl).trans (congrArg Value.bool (decide_eq_false hs25)))
  refine ens S (tr (goff 59 rfl)<|tr (goff 59 rfl)<|tr (goff 59 rfl)<|tr (goff 59 rfl)<|tr (ov fun S=>x_pickf (S.e rfl) (S.e rfl))<|tr (mv rfl)<|tr (goff 65 rfl)<|tr (goff 65 rfl)<|tr (goffu 67 rfl)<|tr (goffu 67 rfl)<|tr (goff 65 rfl)<|tr (ov fun S=>x_pickf (S.e rfl) (S.e rfl))<|tr (mv rfl)<|tr (goff 72 rfl)<|tr (ov fun S=>x_pickf (S.e rfl) (S.e rfl))<|la (av rfl)) ?_; clear S; intro a u S
  refine wp_ret ?_
  refine ret1 rfl S.s rfl ?_
  replace S := S.pk []
  refine ⟨(r1 (vf ?_)), S.m.c⟩
  first
  | exact Iff.rfl
  | exact fun _ => hs25 (by unfold sameC; exact ⟨rfl, Iff.rfl, rfl, rfl, rfl, rfl⟩)
  | exact fun _ => hng ⟨stsE_0.1 (by assumption), by omega⟩
  | (intro _; have h1 := stsE_0.2 hgd.1; have h2 := hgd.2; first | omega | (simp_all; done) | (simp_all; omega))
  | (intro _; first | (simp_all [stsE_0]; done) | (simp_all [stsE_0]; omega))
  | (exact fun _ => hng ⟨stsE_0.1 (by assumption), by have hq := hs25; simp at hq; omega⟩)
  | (exact fun _ => hs25 (by simp [sameC]))
  | (intro _; rcases hs25 with h | h; exact h rfl; apply h; unfold sameC; exact ⟨rfl, Iff.rfl, rfl, rfl, rfl, rfl⟩)
 replace S := S.ext (d := 49) (v := .bool false) ((S.get 49 rfl).trans (congrArg Value.bool (decide_eq_false hs23)))
 refine ens S (tr (goff 49 rfl)<|tr (goff 49 rfl)<|tr (goff 49 rfl)<|tr (goff 49 rfl)<|tr (ov fun S=>x_pickf (S.e rfl) (S.e rfl))<|la (av rfl)) ?_; clear S; intro a u S
 refine rs0 ?_
 refine sp S (tr (mv rfl)<|tr (mv rfl)<|tr (eqli rfl rfl)<|tr (ov fun S=>x_beql uT4 (S.e rfl) (S.e rfl))<|la (mv rfl)) ?_; clear S; intro a u S
 refine (Classical.em (false = true)).elim (fun hs29 => ?_) (fun hs29 => ?_)
 ·replace S := S.ext (d := 59) (v := .bool true) ((S.get 59 rfl).trans (congrArg Value.bool (decide_eq_true hs29)))
  refine sp S (tr (gon 59 rfl fun S=>x_move (S.e rfl))<|tr (gon 59 rfl fun S=>x_move (S.e rfl))<|tr (gon 59 rfl fun S=>x_pneN uT52 (S.e rfl) (S.e rfl))<|tr (gon 59 rfl fun S=>x_beql uT4 (S.e rfl) (S.e rfl))<|tr (ov fun S=>x_pickt (S.e rfl) (S.e rfl))<|la (mv rfl)) ?_; clear S; intro a u S
  refine (Classical.em (false = true)).elim (fun hs30 => ?_) (fun hs30 => ?_)
  ·replace S := S.ext (d := 65) (v := .bool true) ((S.get 65 rfl).trans (congrArg Value.bool (decide_eq_true hs30)))
   refine ens S (tr (gon 65 rfl fun S=>x_move (S.e rfl))<|tr (gon 65 rfl fun S=>x_move (S.e rfl))<|tr (gon 67 rfl fun S=>x_move (S.e rfl))<|tr (gon 67 rfl fun S=>x_eql (S.e rfl) (S.e rfl))<|tr (gon 65 rfl fun S=>x_pickf (S.e rfl) (S.e rfl))<|tr (ov fun S=>x_pickt (S.e rfl) (S.e rfl))<|tr (mv rfl)<|tr (goff 72 rfl)<|tr (ov fun S=>x_pickf (S.e rfl) (S.e rfl))<|la (av rfl)) ?_; clear S; intro a u S
   refine wp_ret ?_
   refine ret1 rfl S.s rfl ?_
   replace S := S.pk []
   refine ⟨(r1 (vf ?_)), S.m.c⟩
   first
   | exact Iff.rfl
   | exact fun _ => hs30 (by unfold sameC; exact ⟨rfl, Iff.rfl, rfl, rfl, rfl, rfl⟩)
   | exact fun _ => hng ⟨stsE_0.1 (by assumption), by omega⟩
   | (intro _; have h1 := stsE_0.2 hgd.1; have h2 := hgd.2; first | omega | (simp_all; done) | (simp_all; omega))
   | (intro _; first | (simp_all [stsE_0]; done) | (simp_all [stsE_0]; omega))
   | (exact fun _ => hng ⟨stsE_0.1 (by assumption), by have hq := hs30; simp at hq; omega⟩)
   | (exact fun _ => hs30 (by simp [sameC]))
   | (intro _; rcases hs30 with h | h; exact h rfl; apply h; unfold sameC; exact ⟨rfl, Iff.rfl, rfl, rfl, rfl, rfl⟩)
  replace S := S.ext (d := 65) (v := .bool false) ((S.get 65 rfl).trans (congrArg Value.bool (decide_eq_false hs30)))
  refine ens S (tr (goff 65 rfl)<|tr (goff 65 rfl)<|tr (goffu 67 rfl)<|tr (goffu 67 rfl)<|tr (goff 65 rfl)<|tr (ov fun S=>x_pickf (S.e rfl) (S.e rfl))<|tr (mv rfl)<|tr (goff 72 rfl)<|tr (ov fun S=>x_pickf (S.e rfl) (S.e rfl))<|la (av rfl)) ?_; clear S; intro a u S
  refine wp_ret ?_
  refine ret1 rfl S.s rfl ?_
  replace S := S.pk []
  refine ⟨(r1 (vf ?_)), S.m.c⟩
  first
  | exact Iff.rfl
  | exact fun _ => hs30 (by unfold sameC; exact ⟨rfl, Iff.rfl, rfl, rfl, rfl, rfl⟩)
  | exact fun _ => hng ⟨stsE_0.1 (by assumption), by omega⟩
  | (intro _; have h1 := stsE_0.2 hgd.1; have h2 := hgd.2; first | omega | (simp_all; done) | (simp_all; omega))
  | (intro _; first | (simp_all [stsE_0]; done) | (simp_all [stsE_0]; omega))
  | (exact fun _ => hng ⟨stsE_0.1 (by assumption), by have hq := hs30; simp at hq; omega⟩)
  | (exact fun _ => hs30 (by simp [sameC]))
  | (intro _; rcases hs30 with h | h; exact h rfl; apply h; unfold sameC; exact ⟨rfl, Iff.rfl, rfl, rfl, rfl, rfl⟩)
 replace S := S.ext (d := 59) (v := .bool false) ((S.get 59 rfl).trans (congrArg Value.bool (decide_eq_false hs29)))
 refine ens S (tr (goff 59 rfl)<|tr (goff 59 rfl)<|tr (goff 59 rfl)<|tr (goff 59 rfl)<|tr (ov fun S=>x_pickf (S.e rfl) (S.e rfl))<|tr (mv rfl)<|tr (goff 65 rfl)<|tr (goff 65 rfl)<|tr (goffu 67 rfl)<|tr (goffu 67 rfl)<|tr (goff 65 rfl)<|tr (ov fun S=>x_pickf (S.e rfl) (S.e rfl))<|tr (mv rfl)<|tr (goff 72 rfl)<|tr (ov fun S=>x_pickf (S.e rfl) (S.e rfl))<|la (av rfl)) ?_; clear S; intro a u S
 refine wp_ret ?_
 refine ret1 rfl S.s rfl ?_
 replace S := S.pk []
 refine ⟨(r1 (vf ?_)), S.m.c⟩
 first
 | exact Iff.rfl
 | exact fun _ => hs29 (by unfold sameC; exact ⟨rfl, Iff.rfl, rfl, rfl, rfl, rfl⟩)
 | exact fun _ => hng ⟨stsE_0.1 (by assumption), by omega⟩
 | (intro _; have h1 := stsE_0.2 hgd.1; have h2 := hgd.2; first | omega | (simp_all; done) | (simp_all; omega))
 | (intro _; first | (simp_all [stsE_0]; done) | (simp_all [stsE_0]; omega))
 | (exact fun _ => hng ⟨stsE_0.1 (by assumption), by have hq := hs29; simp at hq; omega⟩)
 | (exact fun _ => hs29 (by simp [sameC]))
 | (intro _; rcases hs29 with h | h; exact h rfl; apply h; unfold sameC; exact ⟨rfl, Iff.rfl, rfl, rfl, rfl, rfl⟩)
end Go.Proofs.Ytobggnpnochnnaa.V
