/- the law: encodings -/
import Derived.Test.YtobggnpnochnnaaL6
namespace Go.Proofs.Ytobggnpnochnnaa.V
open Go.RowKit Go.Proofs.Ytobggnpnochnnaa
set_option linter.unusedVariables false
set_option linter.unusedSimpArgs false
set_option maxHeartbeats 2000000 in
set_option maxRecDepth 20000 in
theorem lEnc (w : World) (F : Nat → Prop) (hF : Old F w) (M : MS [] w) (l : Sl Int) (l_w : (slE intE).wf (Fr F []) w.heap l) (r : Rec) (r_w : recE.wf (Fr F []) w.heap r) :
 Calls Try.prog 3 #[sV l, .agg (recE.cells r).toArray] w fun e w' => e = .returned (bD (True)) ∧ Tr [] w [] w' := by
 have : l.xs.length ≤ 9223372036854775807 := (l_w).1.len
 obtain ⟨_, _⟩ : inI64 r.kind := r_w.1
 obtain ⟨_, _⟩ : inI64 r.dev := r_w.2.1
 obtain ⟨_, _⟩ : inI64 r.inc := r_w.2.2.1
 obtain ⟨_, _⟩ : inI64 r.seq := r_w.2.2.2
 refine go Try.func3 rfl 69 rfl [wfF (slE intE) l, wfF recE r] [] hF M ⟨l_w, r_w, trivial⟩ trivial ?_
 intro a S
 have hD : ∀ k, In ([] : List BS) k → ¬ F k := fun _ h => h.elim
 refine rs0 ?_
 refine nbp S (x_box _ (S.e rfl) rfl) ?_; clear S; intro a u b3 S
 refine ens S (la (av rfl)) ?_; clear S; intro a u S
 refine rs0 ?_
 refine sp S (la (mv rfl)) ?_; clear S; intro a u S
 refine cl S (gNew _ _ S.x (.nil _) l (dn0 (S.u 0 rfl))) cB19 ?_
 rintro e u ⟨T15, rfl, TK, T0⟩; refine ⟨_, rfl, fun a s => ?_⟩; replace S := S.kt s T0 TK; clear s T0 TK
 refine ens S (la (av rfl)) ?_; clear S; intro a u S
 refine wp_seq ?_
 refine rs S (la (av rfl)) ?_; clear S; intro a u S
 refine wp_block ?_
 refine lp1 (fun (i : Nat) => [(3, pT b3 0), (5, pT T15 0), (6, iN i)]) (fun (i : Nat) => [blO b3 (recE.cells r) 24, tpO 112 T15 l]) (fun (i : Nat) => i ≤ 6) (fun (i : Nat) => 6 - i) S 0 (subM rfl) rfl ?_ ?_
 ·exact Nat.zero_le _
 clear S; intro i a u S hR
 have hi := hR
 refine wp_seq ?_
 refine rs S (tr (mv rfl)<|la (lssi rfl rfl)) ?_; clear S; intro a u S
 refine cd S rfl ?_ ?_
 ·intro hc0
  refine wp_skip (then_n (wp_seq (wp_block (rs0 ?_))))
  refine sp S (la (mv rfl)) ?_; clear S; intro a u S
  refine cl S (lRecord _ _ S.x T15 (S.M.pick [1] (by decide)) l (dn1 (js := [1]) (S.u 0 rfl)) (S.t 1 rfl) 3 ⟨by omega, by omega⟩) cB20 ?_
  rintro e u ⟨r_t21, rfl, R_t21, tK, T0⟩; refine ⟨_, rfl, fun a s => ?_⟩
  replace S := (S.k1 1 rfl s T0 tK).ar (wfF recE r_t21) (Enc.up _ R_t21); clear s T0 tK R_t21
  obtain ⟨hl6, hu6⟩ : inI64 r_t21.kind := id ((S.u 2 rfl).1)
  obtain ⟨hl7, hu7⟩ : inI64 r_t21.dev := id ((S.u 2 rfl).2.1)
  obtain ⟨hl8, hu8⟩ : inI64 r_t21.inc := id ((S.u 2 rfl).2.2.1)
  obtain ⟨hl9, hu9⟩ : inI64 r_t21.seq := id ((S.u 2 rfl).2.2.2)
  refine nbp S (x_allocz _ iZ24 rfl) ?_; clear S; intro a u b7 S
  refine ens S (la (stkw 2 rfl rfl rfl)) ?_; clear S; intro a u S
  refine wp_seq ?_
  refine rs S (tr (mv rfl)<|la (eqli rfl rfl)) ?_; clear S; intro a u S
  refine cd S rfl ?_ ?_
  ·intro hc1
   refine rg S (tr (ldkw 0 rfl rfl wD24)<|la (stkw 2 rfl rfl rfl)) ?_; clear S; intro a u S
   refine then_n (rs0 ?_)
   refine sp S (la (ldkw 2 rfl rfl wD24)) ?_; clear S; intro a u S
   refine cl S (jEncode _ _ S.x (.nil _) r (dn0 (S.u 1 rfl))) cB21 ?_
   rintro e u ⟨ra_t270, rc_t270, rfl, R_t270, T0⟩; refine ⟨_, rfl, fun a s => ?_⟩
   replace S := S.kr [⟨_, u8E, 5, ra_t270, rc_t270, (if recOK r then encR r else [])⟩] s T0 ⟨R_t270, trivial⟩; clear s T0 R_t270
   refine ens S (tr (mv rfl)<|tr (exi rfl rfl)<|tr (exi rfl rfl)<|tr (av rfl)<|la (av rfl)) ?_; clear S; intro a u S
   refine rs0 ?_
   refine sp S (la (ldkw 2 rfl rfl wD24)) ?_; clear S; intro a u S
   refine cl S (rEncode _ _ S.x (.nil _) r (dn0 (S.u 1 rfl))) cB22 ?_
   rintro e u ⟨ra_t320, rc_t320, rfl, R_t320, T0⟩; refine ⟨_, rfl, fun a s => ?_⟩
   replace S := S.kr [⟨_, u8E, 5, ra_t320, rc_t320, (if recOK r then encR r else [])⟩] s T0 ⟨R_t320, trivial⟩; clear s T0 R_t320
   refine ens S (tr (mv rfl)<|tr (exi rfl rfl)<|tr (exi rfl rfl)<|tr (av rfl)<|la (av rfl)) ?_; clear S; intro a u S
   refine wp_seq (rs0 ?_)
   refine sp S (la (mv rfl)) ?_; clear S; intro a u S
   replace S := S.fz 3 rfl
   refine sp S (tr (ov fun S=>x_bstr (Sl.mk ra_t270 rc_t270 (if recOK r then encR r else [])) ((S.u 3 rfl)) uT28 uT5 uT9 (S.e rfl))<|la (mv rfl)) ?_; clear S; intro a u S
   replace S := S.fz 4 rfl
   refine ens S (tr (ov fun S=>x_bstr (Sl.mk ra_t320 rc_t320 (if recOK r then encR r else [])) ((S.u 4 rfl)) uT28 uT5 uT9 (S.e rfl))<|tr (snei rfl rfl)<|tr (mv rfl)<|tr (og 40 rfl gf fun S hg=>x_move (S.e rfl))<|tr (og 40 rfl gf fun S hg=>x_move (S.e rfl))<|tr (og 40 rfl gf fun S hg=>x_neq (S.p rfl hg) (S.p rfl hg))<|la (ori rfl rfl rfl)) ?_; clear S; intro a u S
   refine cd S rfl ?_ ?_
   ·intro hc2
    refine rs S (la (av rfl)) ?_; clear S; intro a u S
    refine wp_ret (then_r (blk_r (then_r (then_r (blk_r (then_r ?_))))))
    refine ret1 rfl S.s rfl ?_
    replace S := S.pk []
    refine ⟨(r1 (vf ?_)), S.m.c⟩
    first
    | exact Iff.rfl
    | (exact fun _ => hc2.elim (fun h => h rfl) (fun h => h rfl))
    | (intro _; rcases hc2 with (h | h) | h; exact h rfl; exact h ⟨rfl, rfl, rfl, rfl⟩; first | omega | (dsimp only at h; omega) | exact h (by dsimp only; omega))
   intro hc3
   refine wp_skip (then_n (wp_seq ?_))
   refine rs S (tr (mv rfl)<|la (neqi rfl rfl)) ?_; clear S; intro a u S
   refine cd S rfl ?_ ?_
   ·intro hc4
    refine wp_exit (then_e (blk_e (then_n ?_)))
    refine rg S (tr (mv rfl)<|tr (addi ((i + 1 : Nat) : Int) rfl rfl (w_i64 (by omega)))<|la (av rfl)) ?_; clear S; intro a u S
    refine then_n ?_
    refine ⟨(i + 1), S.re (subM rfl) rfl rfl, ?_, ?_⟩
    ·omega
    omega
   intro hc5
   refine wp_skip (then_n (rs0 ?_))
   refine sp S (la (mv rfl)) ?_; clear S; intro a u S
   refine cl S (jDecode _ _ S.x (.nil _) (Sl.mk ra_t270 rc_t270 (if recOK r then encR r else [])) (dn0 (S.u 3 rfl))) cB23 ?_
   rintro e u ⟨ra_t490, rc_t490, rfl, R_t490, T0⟩; refine ⟨_, rfl, fun a s => ?_⟩
   replace S := S.kr [⟨_, recE, 24, ra_t490, rc_t490, recsP (if recOK r then encR r else []) (decN (if recOK r then encR r else []))⟩] s T0 ⟨R_t490, trivial⟩; clear s T0 R_t490
   have hv : recOK r := by
    apply Classical.byContradiction; intro q
    apply hc5; rw [if_neg q]; decide
   have he : (if recOK r then encR r else []) = encR r := if_pos hv
   have hd := dec_one hv [] (by decide)
   rw [List.append_nil] at hd
   have hd1 : decN (if recOK r then encR r else []) = 1 := by rw [he]; exact hd.1
   have hl1 : (if recOK r then encR r else []).length = 14 := by rw [he]; rfl
   have e_49 : recsP (if recOK r then encR r else []) (decN (if recOK r then encR r else [])) = [r] := by rw [he, hd.1]; exact hd.2
   rw [e_49] at S
   refine ens S (tr (mv rfl)<|tr (exi rfl rfl)<|tr (exi rfl rfl)<|tr (av rfl)<|la (av rfl)) ?_; clear S; intro a u S
   refine wp_seq ?_
   refine dr (P := Try.prog) S 16 [] [(52, .is _), (53, .is _), (54, .is _), (55, .is _), (56, .is _), (57, .is _), (58, .is _), (59, .is _), (60, .is _), (61, .is _), (62, .is _), (63, .is _), (64, .is _), (65, .is _), (66, .is _), (67, .is _)] [[], [52], [53], [54], [55], [55, 56], [55, 57], [55], [55, 58, 59], [55, 60], [61], [62], [62], [62, 64], [62, 63, 65], [62, 66]] [67] _ ⟨qd (mv rfl), qd (leni uT32 rfl), qd (neqi rfl rfl), qd (mv rfl), qd (og 55 rfl gf fun S hg=>x_move (S.e rfl)), qd (og 55 rfl gf fun S hg=>x_idx uT32 sZ24 (S.p rfl hg) (S.e rfl) 0 rfl (by first | omega | (simp only [List.length_cons, List.length_nil]; omega)) (row_off (S.row 5 rfl) (m := 0) (by first | omega | (simp only [List.length_cons, List.length_nil]; omega)))), qd (og 55 rfl gf fun S hg=>x_ldw (S.p rfl hg) (((S.row 5 rfl).latz (by first | decide | exact Nat.one_pos | exact Nat.succ_pos _)).wcell 0 (by first | omega | (simp only [List.length_cons, List.length_nil]; omega)) _ rfl _ rfl) wD24), qd (og 55 rfl gf fun S hg=>x_ldw (S.e rfl) (S.k 2 rfl).all wD24), qd (og 55 rfl gf fun S hg=>x_agneq uT24 (by kernel_rfl) (by kernel_rfl) (S.p rfl hg) (S.p rfl hg) (.cons rfl rfl rfl rfl (.int uT3) (.cons rfl rfl rfl rfl (.int uT3) (.cons rfl rfl rfl rfl (.int uT3) (.one rfl rfl rfl rfl (.int uT3)))))), qd (ori rfl rfl rfl), qd (mv rfl), qd (og 62 rfl gf fun S hg=>x_move (S.e rfl)), qd (og 62 rfl gf fun S hg=>x_move (S.e rfl)), qd (og 62 rfl gf fun S hg=>x_len uT28 (S.p rfl hg)), qd (og 62 rfl gf fun S hg=>x_neq (S.p rfl hg) (S.p rfl hg)), qd (ori rfl rfl rfl), trivial⟩ ?_
   clear S; intro a u S G hE
   refine ent ?_
   refine cd S rfl ?_ ?_
   ·intro hc6
    refine rs S (la (av rfl)) ?_; clear S; intro a u S
    refine wp_ret (blk_r (then_r (then_r (blk_r (then_r ?_)))))
    refine ret1 rfl S.s rfl ?_
    replace S := S.pk []
    refine ⟨(r1 (vf ?_)), S.m.c⟩
    first
    | exact Iff.rfl
    | (exact fun _ => hc6.elim (fun h => h rfl) (fun h => h rfl))
    | (intro _; rcases hc6 with (h | h) | h; exact h rfl; exact h ⟨rfl, rfl, rfl, rfl⟩; first | omega | (dsimp only at h; omega) | exact h (by dsimp only; omega))
   intro hc7
   refine wp_skip (blk_n (then_n ?_))
   refine rg S (tr (mv rfl)<|tr (addi ((i + 1 : Nat) : Int) rfl rfl (w_i64 (by omega)))<|la (av rfl)) ?_; clear S; intro a u S
   refine then_n ?_
   refine ⟨(i + 1), S.re (subM rfl) rfl rfl, ?_, ?_⟩
   ·omega
   omega
  intro hc8
  refine wp_skip (then_n (rs0 ?_))
  refine sp S (la (ldkw 2 rfl rfl wD24)) ?_; clear S; intro a u S
  refine cl S (jEncode _ _ S.x (.nil _) r_t21 (dn0 (S.u 2 rfl))) cB21 ?_
  rintro e u ⟨ra_t270, rc_t270, rfl, R_t270, T0⟩; refine ⟨_, rfl, fun a s => ?_⟩
  replace S := S.kr [⟨_, u8E, 5, ra_t270, rc_t270, (if recOK r_t21 then encR r_t21 else [])⟩] s T0 ⟨R_t270, trivial⟩; clear s T0 R_t270
  refine ens S (tr (mv rfl)<|tr (exi rfl rfl)<|tr (exi rfl rfl)<|tr (av rfl)<|la (av rfl)) ?_; clear S; intro a u S
  refine rs0 ?_
  refine sp S (la (ldkw 2 rfl rfl wD24)) ?_; clear S; intro a u S
  refine cl S (rEncode _ _ S.x (.nil _) r_t21 (dn0 (S.u 2 rfl))) cB22 ?_
  rintro e u ⟨ra_t320, rc_t320, rfl, R_t320, T0⟩; refine ⟨_, rfl, fun a s => ?_⟩
  replace S := S.kr [⟨_, u8E, 5, ra_t320, rc_t320, (if recOK r_t21 then encR r_t21 else [])⟩] s T0 ⟨R_t320, trivial⟩; clear s T0 R_t320
  refine ens S (tr (mv rfl)<|tr (exi rfl rfl)<|tr (exi rfl rfl)<|tr (av rfl)<|la (av rfl)) ?_; clear S; intro a u S
  refine wp_seq (rs0 ?_)
  refine sp S (la (mv rfl)) ?_; clear S; intro a u S
  replace S := S.fz 3 rfl
  refine sp S (tr (ov fun S=>x_bstr (Sl.mk ra_t270 rc_t270 (if recOK r_t21 then encR r_t21 else [])) ((S.u 3 rfl)) uT28 uT5 uT9 (S.e rfl))<|la (mv rfl)) ?_; clear S; intro a u S
  replace S := S.fz 4 rfl
  refine ens S (tr (ov fun S=>x_bstr (Sl.mk ra_t320 rc_t320 (if recOK r_t21 then encR r_t21 else [])) ((S.u 4 rfl)) uT28 uT5 uT9 (S.e rfl))<|tr (snei rfl rfl)<|tr (mv rfl)<|tr (og 40 rfl gf fun S hg=>x_move (S.e rfl))<|tr (og 40 rfl gf fun S hg=>x_move (S.e rfl))<|tr (og 40 rfl gf fun S hg=>x_neq (S.p rfl hg) (S.p rfl hg))<|la (ori rfl rfl rfl)) ?_; clear S; intro a u S
  refine cd S rfl ?_ ?_
  ·intro hc9
   refine rs S (la (av rfl)) ?_; clear S; intro a u S
   refine wp_ret (then_r (blk_r (then_r (then_r (blk_r (then_r ?_))))))
   refine ret1 rfl S.s rfl ?_
   replace S := S.pk []
   refine ⟨(r1 (vf ?_)), S.m.c⟩
   first
   | exact Iff.rfl
   | (exact fun _ => hc9.elim (fun h => h rfl) (fun h => h rfl))
   | (intro _; rcases hc9 with (h | h) | h; exact h rfl; exact h ⟨rfl, rfl, rfl, rfl⟩; first | omega | (dsimp only at h; omega) | exact h (by dsimp only; omega))
  intro hc10
  refine wp_skip (then_n (wp_seq ?_))
  refine rs S (tr (mv rfl)<|la (neqi rfl rfl)) ?_; clear S; intro a u S
  refine cd S rfl ?_ ?_
  ·intro hc11
   refine wp_exit (then_e (blk_e (then_n ?_)))
   refine rg S (tr (mv rfl)<|tr (addi ((i + 1 : Nat) : Int) rfl rfl (w_i64 (by omega)))<|la (av rfl)) ?_; clear S; intro a u S
   refine then_n ?_
   refine ⟨(i + 1), S.re (subM rfl) rfl rfl, ?_, ?_⟩
   ·omega
   omega
  intro hc12
  refine wp_skip (then_n (rs0 ?_))
  refine sp S (la (mv rfl)) ?_; clear S; intro a u S
  refine cl S (jDecode _ _ S.x (.nil _) (Sl.mk ra_t270 rc_t270 (if recOK r_t21 then encR r_t21 else [])) (dn0 (S.u 3 rfl))) cB23 ?_
  rintro e u ⟨ra_t490, rc_t490, rfl, R_t490, T0⟩; refine ⟨_, rfl, fun a s => ?_⟩
  replace S := S.kr [⟨_, recE, 24, ra_t490, rc_t490, recsP (if recOK r_t21 then encR r_t21 else []) (decN (if recOK r_t21 then encR r_t21 else []))⟩] s T0 ⟨R_t490, trivial⟩; clear s T0 R_t490
  have hv : recOK r_t21 := by
   apply Classical.byContradiction; intro q
   apply hc12; rw [if_neg q]; decide
  have he : (if recOK r_t21 then encR r_t21 else []) = encR r_t21 := if_pos hv
  have hd := dec_one hv [] (by decide)
  rw [List.append_nil] at hd
  have hd1 : decN (if recOK r_t21 then encR r_t21 else []) = 1 := by rw [he]; exact hd.1
  have hl1 : (if recOK r_t21 then encR r_t21 else []).length = 14 := by rw [he]; rfl
  have e_49 : recsP (if recOK r_t21 then encR r_t21 else []) (decN (if recOK r_t21 then encR r_t21 else [])) = [r_t21] := by rw [he, hd.1]; exact hd.2
  rw [e_49] at S
  refine ens S (tr (mv rfl)<|tr (exi rfl rfl)<|tr (exi rfl rfl)<|tr (av rfl)<|la (av rfl)) ?_; clear S; intro a u S
  refine wp_seq ?_
  refine dr (P := Try.prog) S 16 [] [(52, .is _), (53, .is _), (54, .is _), (55, .is _), (56, .is _), (57, .is _), (58, .is _), (59, .is _), (60, .is _), (61, .is _), (62, .is _), (63, .is _), (64, .is _), (65, .is _), (66, .is _), (67, .is _)] [[], [52], [53], [54], [55], [55, 56], [55, 57], [55], [55, 58, 59], [55, 60], [61], [62], [62], [62, 64], [62, 63, 65], [62, 66]] [67] _ ⟨qd (mv rfl), qd (leni uT32 rfl), qd (neqi rfl rfl), qd (mv rfl), qd (og 55 rfl gf fun S hg=>x_move (S.e rfl)), qd (og 55 rfl gf fun S hg=>x_idx uT32 sZ24 (S.p rfl hg) (S.e rfl) 0 rfl (by first | omega | (simp only [List.length_cons, List.length_nil]; omega)) (row_off (S.row 5 rfl) (m := 0) (by first | omega | (simp only [List.length_cons, List.length_nil]; omega)))), qd (og 55 rfl gf fun S hg=>x_ldw (S.p rfl hg) (((S.row 5 rfl).latz (by first | decide | exact Nat.one_pos | exact Nat.succ_pos _)).wcell 0 (by first | omega | (simp only [List.length_cons, List.length_nil]; omega)) _ rfl _ rfl) wD24), qd (og 55 rfl gf fun S hg=>x_ldw (S.e rfl) (S.k 2 rfl).all wD24), qd (og 55 rfl gf fun S hg=>x_agneq uT24 (by kernel_rfl) (by kernel_rfl) (S.p rfl hg) (S.p rfl hg) (.cons rfl rfl rfl rfl (.int uT3) (.cons rfl rfl rfl rfl (.int uT3) (.cons rfl rfl rfl rfl (.int uT3) (.one rfl rfl rfl rfl (.int uT3)))))), qd (ori rfl rfl rfl), qd (mv rfl), qd (og 62 rfl gf fun S hg=>x_move (S.e rfl)), qd (og 62 rfl gf fun S hg=>x_move (S.e rfl)), qd (og 62 rfl gf fun S hg=>x_len uT28 (S.p rfl hg)), qd (og 62 rfl gf fun S hg=>x_neq (S.p rfl hg) (S.p rfl hg)), qd (ori rfl rfl rfl), trivial⟩ ?_
  clear S; intro a u S G hE
  refine ent ?_
  refine cd S rfl ?_ ?_
  ·intro hc13
   refine rs S (la (av rfl)) ?_; clear S; intro a u S
   refine wp_ret (blk_r (then_r (then_r (blk_r (then_r ?_)))))
   refine ret1 rfl S.s rfl ?_
   replace S := S.pk []
   refine ⟨(r1 (vf ?_)), S.m.c⟩
   first
   | exact Iff.rfl
   | (exact fun _ => hc13.elim (fun h => h rfl) (fun h => h rfl))
   | (intro _; rcases hc13 with (h | h) | h; exact h rfl; exact h ⟨rfl, rfl, rfl, rfl⟩; first | omega | (dsimp only at h; omega) | exact h (by dsimp only; omega))
  intro hc14
  refine wp_skip (blk_n (then_n ?_))
  refine rg S (tr (mv rfl)<|tr (addi ((i + 1 : Nat) : Int) rfl rfl (w_i64 (by omega)))<|la (av rfl)) ?_; clear S; intro a u S
  refine then_n ?_
  refine ⟨(i + 1), S.re (subM rfl) rfl rfl, ?_, ?_⟩
  ·omega
  omega
 intro hc15
 refine wp_exit (then_e (then_e (blk_e (then_n ?_))))
 refine rs S (tr (oc (fun S=>lSane _ _ S.x (.nil _)) cB24)<|la (av rfl)) ?_; clear S; intro a u S
 refine wp_ret ?_
 refine ret1 rfl S.s rfl ?_
 replace S := S.pk []
 refine ⟨(r1 (vb ?_)), S.m.c⟩
 first
 | exact Iff.rfl
 | (exact fun _ => hc15.elim (fun h => h rfl) (fun h => h rfl))
 | (intro _; rcases hc15 with (h | h) | h; exact h rfl; exact h ⟨rfl, rfl, rfl, rfl⟩; first | omega | (dsimp only at h; omega) | exact h (by dsimp only; omega))
end Go.Proofs.Ytobggnpnochnnaa.V
