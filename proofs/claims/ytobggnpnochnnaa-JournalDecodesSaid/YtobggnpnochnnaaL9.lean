/- the law: decoding -/
import Derived.Test.YtobggnpnochnnaaL8
namespace Go.Proofs.Ytobggnpnochnnaa.V
open Go.RowKit Go.Proofs.Ytobggnpnochnnaa
set_option linter.unusedVariables false
set_option linter.unusedSimpArgs false
set_option maxHeartbeats 2000000 in
set_option maxRecDepth 20000 in
theorem lDec (w : World) (F : Nat → Prop) (hF : Old F w) (M : MS [] w) (l : Sl Int) (l_w : (slE intE).wf (Fr F []) w.heap l) (b : Sl Int) (b_w : (slE u8E).wf (Fr F []) w.heap b) :
 Calls Try.prog 4 #[sV l, sV b] w fun e w' => e = .returned (bD (True)) ∧ Tr [] w [] w' := by
 have : l.xs.length ≤ 9223372036854775807 := (l_w).1.len
 have : b.xs.length ≤ 9223372036854775807 := (b_w).1.len
 refine go Try.func4 rfl 85 rfl [wfF (slE intE) l, wfF (slE u8E) b] [] hF M ⟨l_w, b_w, trivial⟩ trivial ?_
 intro a S
 have hD : ∀ k, In ([] : List BS) k → ¬ F k := fun _ h => h.elim
 refine rs S (la (av rfl)) ?_; clear S; intro a u S
 refine rs0 ?_
 refine sp S (la (mv rfl)) ?_; clear S; intro a u S
 refine cl S (gNew _ _ S.x (.nil _) l (dn0 (S.u 0 rfl))) cB19 ?_
 rintro e u ⟨T14, rfl, TK, T0⟩; refine ⟨_, rfl, fun a s => ?_⟩; replace S := S.kt s T0 TK; clear s T0 TK
 refine ens S (la (av rfl)) ?_; clear S; intro a u S
 refine rs0 ?_
 refine sp S (la (mv rfl)) ?_; clear S; intro a u S
 refine cl S (lLog _ _ S.x T14 (S.M.pick [0] (by decide)) l (dn1 (js := [0]) (S.u 0 rfl)) (S.t 0 rfl) 3 ⟨by omega, by omega⟩) cB25 ?_
 rintro e u ⟨rx_t170, ra_t170, rc_t170, ra_t171, rc_t171, rfl, R_t170, R_t171, hr_t170, tK, T0⟩; refine ⟨_, rfl, fun a s => ?_⟩
 replace S := S.kr1 0 rfl [⟨_, recE, 24, ra_t170, rc_t170, rx_t170⟩, ⟨_, u8E, 5, ra_t171, rc_t171, bytesJ rx_t170⟩] s T0 ⟨R_t170, R_t171, trivial⟩ (fun _ => tK); clear s T0 tK R_t170 R_t171
 replace S := S.pk [0, 1, 2] (os' := [tpO 112 T14 l, rwO recE 24 w.heap.size ra_t170 rc_t170 rx_t170, rwO u8E 5 w.heap.size ra_t171 rc_t171 (bytesJ rx_t170)])
 obtain ⟨hrl, hra⟩ := hr_t170
 have hbl0 : (bytesJ rx_t170).length = 14 * rx_t170.length := bytesJ_lenOK (allJ_ok hra)
 refine ens S (tr (mv rfl)<|tr (exi rfl rfl)<|tr (exi rfl rfl)<|tr (av rfl)<|la (av rfl)) ?_; clear S; intro a u S
 refine wp_seq ?_
 refine rs S (tr (mv rfl)<|tr (leni uT28 rfl)<|la (gtri rfl rfl)) ?_; clear S; intro a u S
 refine cd S rfl ?_ ?_
 ·intro hc0
  refine rs0 ?_
  refine sp S (la (mv rfl)) ?_; clear S; intro a u S
  refine cl S (gNext _ _ S.x T14 (S.M.pick [0] (by decide)) l (dn1 (js := [0]) (S.u 0 rfl)) (S.t 0 rfl) 3 ⟨by omega, by omega⟩) cB26 ?_
  rintro e u ⟨r_t24, rfl, hr_t24, tK, T0⟩; refine ⟨_, rfl, fun a s => ?_⟩
  replace S := S.k1 0 rfl s T0 tK; clear s T0 tK
  refine ent (wp_block ?_)
  refine rs S (tr (eqli rfl rfl)<|la (av rfl)) ?_; clear S; intro a u S
  refine cd S rfl ?_ ?_
  ·intro hc1
   refine r0 ?_
   refine sp S (tr (mv rfl)<|tr (mv rfl)<|tr (mv rfl)<|la (leni uT28 rfl)) ?_; clear S; intro a u S
   refine cl S (gNext _ _ S.x T14 (S.M.pick [0] (by decide)) l (dn1 (js := [0]) (S.u 0 rfl)) (S.t 0 rfl) (((bytesJ rx_t170).length : Nat) : Int) ⟨by omega, by omega⟩) cB26 ?_
   rintro e u ⟨r_t31, rfl, hr_t31, tK, T0⟩; refine ⟨_, rfl, fun a s => ?_⟩
   replace S := S.k1 0 rfl s T0 tK; clear s T0 tK
   replace S := S.fz 2 rfl
   have hk8 : ((bytesJ rx_t170).take (r_t31).toNat).length = (r_t31).toNat := by rw [List.length_take]; first | omega | (simp only [List.length_cons, List.length_nil]; omega)
   refine en S (tr (ov (v := .slice ra_t171 (((bytesJ rx_t170).take (r_t31).toNat).length) rc_t171) fun S=>x_slhn uT28 iZ5 (S.e rfl) (S.e rfl) (r_t31).toNat (by omega) (Nat.le_trans (by first | omega | (dsimp only; omega) | (show _ ≤ List.length _; omega)) ((S.u 2 rfl)).2.1) ((S.u 2 rfl)).2.2 _ (by rw [List.length_take]; first | omega | (simp only [List.length_cons, List.length_nil]; omega)))<|la (av rfl)) ?_; clear S; intro a u S
   refine blk_n (then_n (wp_seq ?_))
   have hn10 : b.xs.length ≤ 9223372036854775807 := ((S.u 1 rfl)).1.len
   refine rs S (tr (mv rfl)<|tr (leni uT28 rfl)<|la (gtri rfl rfl)) ?_; clear S; intro a u S
   refine cd S rfl ?_ ?_
   ·intro hc2
    have hk12 : (b.xs.take 5000).length = 5000 := by rw [List.length_take]; first | omega | (simp only [List.length_cons, List.length_nil]; omega)
    refine rg S (tr (mv rfl)<|tr (ov (v := .slice b.a ((b.xs.take 5000).length) b.c) fun S=>x_slhn uT28 iZ5 (S.e rfl) (S.e rfl) 5000 rfl (Nat.le_trans (by omega) ((S.u 1 rfl)).2.1) ((S.u 1 rfl)).2.2 _ (by rw [List.length_take]; first | omega | (simp only [List.length_cons, List.length_nil]; omega)))<|la (av rfl)) ?_; clear S; intro a u S
    refine then_n (wp_seq ?_)
    refine rs S (la (av rfl)) ?_; clear S; intro a u S
    refine wp_block ?_
    have hfr14 := (sl_take (S.u 2 rfl) (r_t31).toNat (by first | omega | (dsimp only; omega) | (show _ ≤ List.length _; omega)))
    have hfr15 := (sl_take (S.u 1 rfl) 5000 (by omega))
    replace S := (S.ar (wfF (slE u8E) (Sl.mk ra_t171 rc_t171 ((bytesJ rx_t170).take (r_t31).toNat))) hfr14).ar (wfF (slE u8E) (Sl.mk b.a b.c (b.xs.take 5000))) hfr15
    refine lq3 (fun (i : Nat) (xx : Sl Int) (bb : Sl Int) => [(8, iN i), (7, sV xx), (1, sV bb)]) (fun (i : Nat) (xx : Sl Int) (bb : Sl Int) => [wfF (slE intE) l, wfF (slE u8E) b, wfF (slE u8E) (Sl.mk ra_t171 rc_t171 (bytesJ rx_t170)), wfF (slE u8E) xx, wfF (slE u8E) bb]) (fun (i : Nat) (xx : Sl Int) (bb : Sl Int) => [tpO 112 T14 l, rwO recE 24 w.heap.size ra_t170 rc_t170 rx_t170, noO]) (fun (i : Nat) (xx : Sl Int) (bb : Sl Int) => i ≤ 3 ∧ xx.xs.length ≤ 20000 ∧ bb.xs.length ≤ 20000 ∧ (i ≤ 1 → xx.xs.length ≤ 5112 ∧ bb.xs.length ≤ 5000)) (fun (i : Nat) (xx : Sl Int) (bb : Sl Int) => 3 - i) S 0 (Sl.mk ra_t171 rc_t171 ((bytesJ rx_t170).take (r_t31).toNat)) (Sl.mk b.a b.c (b.xs.take 5000)) (subM rfl) rfl rfl ?_ ?_
    ·exact ⟨Nat.zero_le _, by (first | omega | (dsimp only; omega) | (simp only [List.length_take, List.length_append, List.length_set, List.length_nil, List.nil_append]; omega) | (dsimp only; simp only [List.length_take, List.length_append, List.length_set, List.length_nil, List.nil_append]; omega)), by (first | omega | (dsimp only; omega) | (simp only [List.length_take, List.length_append, List.length_set, List.length_nil, List.nil_append]; omega) | (dsimp only; simp only [List.length_take, List.length_append, List.length_set, List.length_nil, List.nil_append]; omega)), fun _ => ⟨by (first | omega | (dsimp only; omega) | (simp only [List.length_take, List.length_append, List.length_set, List.length_nil, List.nil_append]; omega) | (dsimp only; simp only [List.length_take, List.length_append, List.length_set, List.length_nil, List.nil_append]; omega)), by (first | omega | (dsimp only; omega) | (simp only [List.length_take, List.length_append, List.length_set, List.length_nil, List.nil_append]; omega) | (dsimp only; simp only [List.length_take, List.length_append, List.length_set, List.length_nil, List.nil_append]; omega))⟩⟩
    clear S; intro i xx bb a u S hR
    obtain ⟨hi, hxl, hbl, hi1⟩ := hR
    refine wp_seq ?_
    refine rs S (tr (mv rfl)<|la (lssi rfl rfl)) ?_; clear S; intro a u S
    refine cd S rfl ?_ ?_
    ·intro hc3
     refine wp_skip (then_n (wp_seq (wp_block (rs0 ?_))))
     refine sp S (la (mv rfl)) ?_; clear S; intro a u S
     refine cl S (jDecode _ _ S.x (.nil _) xx (dn0 (S.u 3 rfl))) cB23 ?_
     rintro e u ⟨ra_t590, rc_t590, rfl, R_t590, T0⟩; refine ⟨_, rfl, fun a s => ?_⟩
     replace S := S.kr [⟨_, recE, 24, ra_t590, rc_t590, recsP xx.xs (decN xx.xs)⟩] s T0 ⟨R_t590, trivial⟩; clear s T0 R_t590
     refine ens S (tr (mv rfl)<|tr (exi rfl rfl)<|tr (exi rfl rfl)<|tr (av rfl)<|la (av rfl)) ?_; clear S; intro a u S
     refine rs0 ?_
     refine sp S (la (mv rfl)) ?_; clear S; intro a u S
     refine cl S (rDecode _ _ S.x (.nil _) xx (dn0 (S.u 3 rfl))) cB27 ?_
     rintro e u ⟨ra_t640, rc_t640, rfl, R_t640, T0⟩; refine ⟨_, rfl, fun a s => ?_⟩
     replace S := S.kr [⟨_, recE, 24, ra_t640, rc_t640, recsP xx.xs (decN xx.xs)⟩] s T0 ⟨R_t640, trivial⟩; clear s T0 R_t640
     refine ens S (tr (mv rfl)<|tr (exi rfl rfl)<|tr (exi rfl rfl)<|tr (av rfl)<|la (av rfl)) ?_; clear S; intro a u S
     refine wp_seq (rs0 ?_)
     refine sp S (tr (mv rfl)<|tr (mv rfl)<|tr (neqi rfl rfl)<|la (mv rfl)) ?_; clear S; intro a u S
     refine (Classical.em (¬ ((14 * decN xx.xs : Nat) : Int) = ((14 * decN xx.xs : Nat) : Int))).elim (fun hs20 => ?_) (fun hs20 => ?_)
     ·replace S := S.ext (d := 70) (v := .bool true) ((S.get 70 rfl).trans (congrArg Value.bool (decide_eq_true hs20)))
      refine ens S (tr (goff 70 rfl)<|tr (goff 70 rfl)<|tr (goff 70 rfl)<|tr (goff 70 rfl)<|la (ov fun S=>x_pickt (S.e rfl) (S.e rfl))) ?_; clear S; intro a u S
      refine cdt S rfl ?_
      refine rs S (la (av rfl)) ?_; clear S; intro a u S
      refine wp_ret (then_r (blk_r (then_r (then_r (blk_r (then_r ?_))))))
      refine ret1 rfl S.s rfl ?_
      replace S := S.pk []
      refine ⟨(r1 (vf ?_)), S.m.c⟩
      first
      | exact Iff.rfl
      | (exact fun _ => absurd rfl hs20)
     replace S := S.ext (d := 70) (v := .bool false) ((S.get 70 rfl).trans (congrArg Value.bool (decide_eq_false hs20)))
     refine ens S (tr (gon 70 rfl fun S=>x_move (S.e rfl))<|tr (gon 70 rfl fun S=>x_move (S.e rfl))<|tr (ocon 70 rfl (fun S=>rSameL _ _ (S.xx [abk ra_t590, abk ra_t640]) (.nil _) (Sl.mk ra_t590 rc_t590 (recsP xx.xs (decN xx.xs))) (S.rargD hD 3 rfl (by first | decide | exact Nat.one_pos | exact Nat.succ_pos _) _ (by simp)) (Sl.mk ra_t640 rc_t640 (recsP xx.xs (decN xx.xs))) (S.rargD hD 4 rfl (by first | decide | exact Nat.one_pos | exact Nat.succ_pos _) _ (by simp))) cB28)<|tr (gon 70 rfl fun S=>x_notp (S.e rfl))<|la (ov fun S=>x_pickf (S.e rfl) (S.e rfl))) ?_; clear S; intro a u S
     refine cd S rfl ?_ ?_
     ·intro hc4
      refine rs S (la (av rfl)) ?_; clear S; intro a u S
      refine wp_ret (then_r (blk_r (then_r (then_r (blk_r (then_r ?_))))))
      refine ret1 rfl S.s rfl ?_
      replace S := S.pk []
      refine ⟨(r1 (vf ?_)), S.m.c⟩
      first
      | exact Iff.rfl
      | (exact fun _ => absurd rfl hc4)
     intro hc5
     refine wp_skip (then_n (wp_seq ?_))
     refine rs S (tr (mv rfl)<|la (eqli rfl rfl)) ?_; clear S; intro a u S
     refine cd S rfl ?_ ?_
     ·intro hc6
      refine r0 ?_
      refine nbr (q := 0) u8E S [] (x_bsl0 uT28 iZ5) (fun _ h => by simp at h) ?_; clear S; intro a u b78 S
      refine sp S (la (mv rfl)) ?_; clear S; intro a u S
      refine ap (E := u8E) (ys := xx.xs) S 5 rfl uT28 iZ5 rfl rfl ((S.u 3 rfl)).1 ((S.u 3 rfl)).2.2 (LAt.mem ((S.u 3 rfl)).1) ⟨by unfold maxLen; (try simp only [List.length_cons, List.length_nil, List.length_append, List.length_map]); omega, by (try simp only [List.length_cons, List.length_nil, List.length_append, List.length_map]); omega⟩ ?_; clear S; intro a u ad80 cap80 S
      refine sp S (la (mv rfl)) ?_; clear S; intro a u S
      refine ap (E := u8E) (ys := bb.xs) S 5 rfl uT28 iZ5 rfl rfl ((S.u 4 rfl)).1 ((S.u 4 rfl)).2.2 (LAt.mem ((S.u 4 rfl)).1) ⟨by unfold maxLen; (try simp only [List.length_cons, List.length_nil, List.length_append, List.length_map]); omega, by (try simp only [List.length_cons, List.length_nil, List.length_append, List.length_map]); omega⟩ ?_; clear S; intro a u ad82 cap82 S
      refine ens S (la (av rfl)) ?_; clear S; intro a u S
      refine rg S (tr (mv rfl)<|la (av rfl)) ?_; clear S; intro a u S
      refine blk_n (then_n ?_)
      refine rg S (tr (mv rfl)<|tr (addi ((i + 1 : Nat) : Int) rfl rfl (w_i64 (by omega)))<|la (av rfl)) ?_; clear S; intro a u S
      replace S := S.fz 5 rfl
      have hfr27 := (S.u 5 rfl)
      have hfr28 := (S.u 5 rfl)
      have hfr29 := (S.u 5 rfl)
      have hfr30 := (S.u 5 rfl)
      replace S := S.rt 3
      replace S := S.ar (wfF (slE u8E) (Sl.mk ad82 cap82 (([] ++ xx.xs) ++ bb.xs))) hfr29
      replace S := S.ar (wfF (slE u8E) (Sl.mk ad82 cap82 (([] ++ xx.xs) ++ bb.xs))) hfr30
      refine then_n ?_
      refine ⟨(i + 1), (Sl.mk ad82 cap82 (([] ++ xx.xs) ++ bb.xs)), (Sl.mk ad82 cap82 (([] ++ xx.xs) ++ bb.xs)), S.re (subM rfl) rfl rfl, ?_, ?_⟩
      ·refine ⟨by omega, by (first | omega | (dsimp only; omega) | (simp only [List.length_take, List.length_append, List.length_set, List.length_nil, List.nil_append]; omega) | (dsimp only; simp only [List.length_take, List.length_append, List.length_set, List.length_nil, List.nil_append]; omega)), by (first | omega | (dsimp only; omega) | (simp only [List.length_take, List.length_append, List.length_set, List.length_nil, List.nil_append]; omega) | (dsimp only; simp only [List.length_take, List.length_append, List.length_set, List.length_nil, List.nil_append]; omega)), fun hq => ?_⟩
       have := hi1 (by omega)
       exact ⟨by (first | omega | (dsimp only; omega) | (simp only [List.length_take, List.length_append, List.length_set, List.length_nil, List.nil_append]; omega) | (dsimp only; simp only [List.length_take, List.length_append, List.length_set, List.length_nil, List.nil_append]; omega)), by (first | omega | (dsimp only; omega) | (simp only [List.length_take, List.length_append, List.length_set, List.length_nil, List.nil_append]; omega) | (dsimp only; simp only [List.length_take, List.length_append, List.length_set, List.length_nil, List.nil_append]; omega))⟩
      omega
     intro hc7
     refine wp_skip (then_n ?_)
     refine rg S (tr (mv rfl)<|la (av rfl)) ?_; clear S; intro a u S
     refine blk_n (then_n ?_)
     refine rg S (tr (mv rfl)<|tr (addi ((i + 1 : Nat) : Int) rfl rfl (w_i64 (by omega)))<|la (av rfl)) ?_; clear S; intro a u S
     have hfr33 := (S.u 4 rfl)
     have hfr34 := (S.u 4 rfl)
     have hfr35 := (S.u 4 rfl)
     have hfr36 := (S.u 4 rfl)
     replace S := S.rt 3
     replace S := S.ar (wfF (slE u8E) bb) hfr35
     replace S := S.ar (wfF (slE u8E) bb) hfr36
     refine then_n ?_
     refine ⟨(i + 1), bb, bb, S.re (subM rfl) rfl rfl, ?_, ?_⟩
     ·refine ⟨by omega, by (first | omega | (dsimp only; omega) | (simp only [List.length_take, List.length_append, List.length_set, List.length_nil, List.nil_append]; omega) | (dsimp only; simp only [List.length_take, List.length_append, List.length_set, List.length_nil, List.nil_append]; omega)), by (first | omega | (dsimp only; omega) | (simp only [List.length_take, List.length_append, List.length_set, List.length_nil, List.nil_append]; omega) | (dsimp only; simp only [List.length_take, List.length_append, List.length_set, List.length_nil, List.nil_append]; omega)), fun hq => ?_⟩
      have := hi1 (by omega)
      exact ⟨by (first | omega | (dsimp only; omega) | (simp only [List.length_take, List.length_append, List.length_set, List.length_nil, List.nil_append]; omega) | (dsimp only; simp only [List.length_take, List.length_append, List.length_set, List.length_nil, List.nil_append]; omega)), by (first | omega | (dsimp only; omega) | (simp only [List.length_take, List.length_append, List.length_set, List.length_nil, List.nil_append]; omega) | (dsimp only; simp only [List.length_take, List.length_append, List.length_set, List.length_nil, List.nil_append]; omega))⟩
     omega
    intro hc8
    refine wp_exit (then_e (then_e (blk_e (then_n ?_))))
    refine rs S (tr (oc (fun S=>lSane _ _ S.x (.nil _)) cB24)<|la (av rfl)) ?_; clear S; intro a u S
    refine wp_ret ?_
    refine ret1 rfl S.s rfl ?_
    replace S := S.pk []
    refine ⟨(r1 (vb ?_)), S.m.c⟩
    first
    | exact Iff.rfl
    | (exact fun _ => absurd rfl hc8)
   intro hc9
   refine wp_skip (then_n (wp_seq ?_))
   refine rs S (la (av rfl)) ?_; clear S; intro a u S
   refine wp_block ?_
   have hfr39 := (sl_take (S.u 2 rfl) (r_t31).toNat (by first | omega | (dsimp only; omega) | (show _ ≤ List.length _; omega)))
   have hfr40 := (S.u 1 rfl)
   replace S := (S.ar (wfF (slE u8E) (Sl.mk ra_t171 rc_t171 ((bytesJ rx_t170).take (r_t31).toNat))) hfr39).ar (wfF (slE u8E) b) hfr40
   refine lq3 (fun (i : Nat) (xx : Sl Int) (bb : Sl Int) => [(8, iN i), (7, sV xx), (1, sV bb)]) (fun (i : Nat) (xx : Sl Int) (bb : Sl Int) => [wfF (slE intE) l, wfF (slE u8E) b, wfF (slE u8E) (Sl.mk ra_t171 rc_t171 (bytesJ rx_t170)), wfF (slE u8E) xx, wfF (slE u8E) bb]) (fun (i : Nat) (xx : Sl Int) (bb : Sl Int) => [tpO 112 T14 l, rwO recE 24 w.heap.size ra_t170 rc_t170 rx_t170, noO]) (fun (i : Nat) (xx : Sl Int) (bb : Sl Int) => i ≤ 3 ∧ xx.xs.length ≤ 20000 ∧ bb.xs.length ≤ 20000 ∧ (i ≤ 1 → xx.xs.length ≤ 5112 ∧ bb.xs.length ≤ 5000)) (fun (i : Nat) (xx : Sl Int) (bb : Sl Int) => 3 - i) S 0 (Sl.mk ra_t171 rc_t171 ((bytesJ rx_t170).take (r_t31).toNat)) b (subM rfl) rfl rfl ?_ ?_
   ·exact ⟨Nat.zero_le _, by (first | omega | (dsimp only; omega) | (simp only [List.length_take, List.length_append, List.length_set, List.length_nil, List.nil_append]; omega) | (dsimp only; simp only [List.length_take, List.length_append, List.length_set, List.length_nil, List.nil_append]; omega)), by (first | omega | (dsimp only; omega) | (simp only [List.length_take, List.length_append, List.length_set, List.length_nil, List.nil_append]; omega) | (dsimp only; simp only [List.length_take, List.length_append, List.length_set, List.length_nil, List.nil_append]; omega)), fun _ => ⟨by (first | omega | (dsimp only; omega) | (simp only [List.length_take, List.length_append, List.length_set, List.length_nil, List.nil_append]; omega) | (dsimp only; simp only [List.length_take, List.length_append, List.length_set, List.length_nil, List.nil_append]; omega)), by (first | omega | (dsimp only; omega) | (simp only [List.length_take, List.length_append, List.length_set, List.length_nil, List.nil_append]; omega) | (dsimp only; simp only [List.length_take, List.length_append, List.length_set, List.length_nil, List.nil_append]; omega))⟩⟩
   clear S; intro i xx bb a u S hR
   obtain ⟨hi, hxl, hbl, hi1⟩ := hR
   refine wp_seq ?_
   refine rs S (tr (mv rfl)<|la (lssi rfl rfl)) ?_; clear S; intro a u S
   refine cd S rfl ?_ ?_
   ·intro hc10
    refine wp_skip (then_n (wp_seq (wp_block (rs0 ?_))))
    refine sp S (la (mv rfl)) ?_; clear S; intro a u S
    refine cl S (jDecode _ _ S.x (.nil _) xx (dn0 (S.u 3 rfl))) cB23 ?_
    rintro e u ⟨ra_t590, rc_t590, rfl, R_t590, T0⟩; refine ⟨_, rfl, fun a s => ?_⟩
    replace S := S.kr [⟨_, recE, 24, ra_t590, rc_t590, recsP xx.xs (decN xx.xs)⟩] s T0 ⟨R_t590, trivial⟩; clear s T0 R_t590
    refine ens S (tr (mv rfl)<|tr (exi rfl rfl)<|tr (exi rfl rfl)<|tr (av rfl)<|la (av rfl)) ?_; clear S; intro a u S
    refine rs0 ?_
    refine sp S (la (mv rfl)) ?_; clear S; intro a u S
    refine cl S (rDecode _ _ S.x (.nil _) xx (dn0 (S.u 3 rfl))) cB27 ?_
    rintro e u ⟨ra_t640, rc_t640, rfl, R_t640, T0⟩; refine ⟨_, rfl, fun a s => ?_⟩
    replace S := S.kr [⟨_, recE, 24, ra_t640, rc_t640, recsP xx.xs (decN xx.xs)⟩] s T0 ⟨R_t640, trivial⟩; clear s T0 R_t640
    refine ens S (tr (mv rfl)<|tr (exi rfl rfl)<|tr (exi rfl rfl)<|tr (av rfl)<|la (av rfl)) ?_; clear S; intro a u S
    refine wp_seq (rs0 ?_)
    refine sp S (tr (mv rfl)<|tr (mv rfl)<|tr (neqi rfl rfl)<|la (mv rfl)) ?_; clear S; intro a u S
    refine (Classical.em (¬ ((14 * decN xx.xs : Nat) : Int) = ((14 * decN xx.xs : Nat) : Int))).elim (fun hs45 => ?_) (fun hs45 => ?_)
    ·replace S := S.ext (d := 70) (v := .bool true) ((S.get 70 rfl).trans (congrArg Value.bool (decide_eq_true hs45)))
     refine ens S (tr (goff 70 rfl)<|tr (goff 70 rfl)<|tr (goff 70 rfl)<|tr (goff 70 rfl)<|la (ov fun S=>x_pickt (S.e rfl) (S.e rfl))) ?_; clear S; intro a u S
     refine cdt S rfl ?_
     refine rs S (la (av rfl)) ?_; clear S; intro a u S
     refine wp_ret (then_r (blk_r (then_r (then_r (blk_r (then_r ?_))))))
     refine ret1 rfl S.s rfl ?_
     replace S := S.pk []
     refine ⟨(r1 (vf ?_)), S.m.c⟩
     first
     | exact Iff.rfl
     | (exact fun _ => absurd rfl hs45)
    replace S := S.ext (d := 70) (v := .bool false) ((S.get 70 rfl).trans (congrArg Value.bool (decide_eq_false hs45)))
    refine ens S (tr (gon 70 rfl fun S=>x_move (S.e rfl))<|tr (gon 70 rfl fun S=>x_move (S.e rfl))<|tr (ocon 70 rfl (fun S=>rSameL _ _ (S.xx [abk ra_t590, abk ra_t640]) (.nil _) (Sl.mk ra_t590 rc_t590 (recsP xx.xs (decN xx.xs))) (S.rargD hD 3 rfl (by first | decide | exact Nat.one_pos | exact Nat.succ_pos _) _ (by simp)) (Sl.mk ra_t640 rc_t640 (recsP xx.xs (decN xx.xs))) (S.rargD hD 4 rfl (by first | decide | exact Nat.one_pos | exact Nat.succ_pos _) _ (by simp))) cB28)<|tr (gon 70 rfl fun S=>x_notp (S.e rfl))<|la (ov fun S=>x_pickf (S.e rfl) (S.e rfl))) ?_; clear S; intro a u S
    refine cd S rfl ?_ ?_
    ·intro hc11
     refine rs S (la (av rfl)) ?_; clear S; intro a u S
     refine wp_ret (then_r (blk_r (then_r (then_r (blk_r (then_r ?_))))))
     refine ret1 rfl S.s rfl ?_
     replace S := S.pk []
     refine ⟨(r1 (vf ?_)), S.m.c⟩
     first
     | exact Iff.rfl
     | (exact fun _ => absurd rfl hc11)
    intro hc12
    refine wp_skip (then_n (wp_seq ?_))
    refine rs S (tr (mv rfl)<|la (eqli rfl rfl)) ?_; clear S; intro a u S
    refine cd S rfl ?_ ?_
    ·intro hc13
     refine r0 ?_
     refine nbr (q := 0) u8E S [] (x_bsl0 uT28 iZ5) (fun _ h => by simp at h) ?_; clear S; intro a u b78 S
     refine sp S (la (mv rfl)) ?_; clear S; intro a u S
     refine ap (E := u8E) (ys := xx.xs) S 5 rfl uT28 iZ5 rfl rfl ((S.u 3 rfl)).1 ((S.u 3 rfl)).2.2 (LAt.mem ((S.u 3 rfl)).1) ⟨by unfold maxLen; (try simp only [List.length_cons, List.length_nil, List.length_append, List.length_map]); omega, by (try simp only [List.length_cons, List.length_nil, List.length_append, List.length_map]); omega⟩ ?_; clear S; intro a u ad80 cap80 S
     refine sp S (la (mv rfl)) ?_; clear S; intro a u S
     refine ap (E := u8E) (ys := bb.xs) S 5 rfl uT28 iZ5 rfl rfl ((S.u 4 rfl)).1 ((S.u 4 rfl)).2.2 (LAt.mem ((S.u 4 rfl)).1) ⟨by unfold maxLen; (try simp only [List.length_cons, List.length_nil, List.length_append, List.length_map]); omega, by (try simp only [List.length_cons, List.length_nil, List.length_append, List.length_map]); omega⟩ ?_; clear S; intro a u ad82 cap82 S
     refine ens S (la (av rfl)) ?_; clear S; intro a u S
     refine rg S (tr (mv rfl)<|la (av rfl)) ?_; clear S; intro a u S
     refine blk_n (then_n ?_)
     refine rg S (tr (mv rfl)<|tr (addi ((i + 1 : Nat) : Int) rfl rfl (w_i64 (by omega)))<|la (av rfl)) ?_; clear S; intro a u S
     replace S := S.fz 5 rfl
     have hfr52 := (S.u 5 rfl)
     have hfr53 := (S.u 5 rfl)
     have hfr54 := (S.u 5 rfl)
     have hfr55 := (S.u 5 rfl)
     replace S := S.rt 3
     replace S := S.ar (wfF (slE u8E) (Sl.mk ad82 cap82 (([] ++ xx.xs) ++ bb.xs))) hfr54
     replace S := S.ar (wfF (slE u8E) (Sl.mk ad82 cap82 (([] ++ xx.xs) ++ bb.xs))) hfr55
     refine then_n ?_
     refine ⟨(i + 1), (Sl.mk ad82 cap82 (([] ++ xx.xs) ++ bb.xs)), (Sl.mk ad82 cap82 (([] ++ xx.xs) ++ bb.xs)), S.re (subM rfl) rfl rfl, ?_, ?_⟩
     ·refine ⟨by omega, by (first | omega | (dsimp only; omega) | (simp only [List.length_take, List.length_append, List.length_set, List.length_nil, List.nil_append]; omega) | (dsimp only; simp only [List.length_take, List.length_append, List.length_set, List.length_nil, List.nil_append]; omega)), by (first | omega | (dsimp only; omega) | (simp only [List.length_take, List.length_append, List.length_set, List.length_nil, List.nil_append]; omega) | (dsimp only; simp only [List.length_take, List.length_append, List.length_set, List.length_nil, List.nil_append]; omega)), fun hq => ?_⟩
      have := hi1 (by omega)
      exact ⟨by (first | omega | (dsimp only; omega) | (simp only [List.length_take, List.length_append, List.length_set, List.length_nil, List.nil_append]; omega) | (dsimp only; simp only [List.length_take, List.length_append, List.length_set, List.length_nil, List.nil_append]; omega)), by (first | omega | (dsimp only; omega) | (simp only [List.length_take, List.length_append, List.length_set, List.length_nil, List.nil_append]; omega) | (dsimp only; simp only [List.length_take, List.length_append, List.length_set, List.length_nil, List.nil_append]; omega))⟩
     omega
    intro hc14
    refine wp_skip (then_n ?_)
    refine rg S (tr (mv rfl)<|la (av rfl)) ?_; clear S; intro a u S
    refine blk_n (then_n ?_)
    refine rg S (tr (mv rfl)<|tr (addi ((i + 1 : Nat) : Int) rfl rfl (w_i64 (by omega)))<|la (av rfl)) ?_; clear S; intro a u S
    have hfr58 := (S.u 4 rfl)
    have hfr59 := (S.u 4 rfl)
    have hfr60 := (S.u 4 rfl)
    have hfr61 := (S.u 4 rfl)
    replace S := S.rt 3
    replace S := S.ar (wfF (slE u8E) bb) hfr60
    replace S := S.ar (wfF (slE u8E) bb) hfr61
    refine then_n ?_
    refine ⟨(i + 1), bb, bb, S.re (subM rfl) rfl rfl, ?_, ?_⟩
    ·refine ⟨by omega, by (first | omega | (dsimp only; omega) | (simp only [List.length_take, List.length_append, List.length_set, List.length_nil, List.nil_append]; omega) | (dsimp only; simp only [List.length_take, List.length_append, List.length_set, List.length_nil, List.nil_append]; omega)), by (first | omega | (dsimp only; omega) | (simp only [List.length_take, List.length_append, List.length_set, List.length_nil, List.nil_append]; omega) | (dsimp only; simp only [List.length_take, List.length_append, List.length_set, List.length_nil, List.nil_append]; omega)), fun hq => ?_⟩
     have := hi1 (by omega)
     exact ⟨by (first | omega | (dsimp only; omega) | (simp only [List.length_take, List.length_append, List.length_set, List.length_nil, List.nil_append]; omega) | (dsimp only; simp only [List.length_take, List.length_append, List.length_set, List.length_nil, List.nil_append]; omega)), by (first | omega | (dsimp only; omega) | (simp only [List.length_take, List.length_append, List.length_set, List.length_nil, List.nil_append]; omega) | (dsimp only; simp only [List.length_take, List.length_append, List.length_set, List.length_nil, List.nil_append]; omega))⟩
    omega
   intro hc15
   refine wp_exit (then_e (then_e (blk_e (then_n ?_))))
   refine rs S (tr (oc (fun S=>lSane _ _ S.x (.nil _)) cB24)<|la (av rfl)) ?_; clear S; intro a u S
   refine wp_ret ?_
   refine ret1 rfl S.s rfl ?_
   replace S := S.pk []
   refine ⟨(r1 (vb ?_)), S.m.c⟩
   first
   | exact Iff.rfl
   | (exact fun _ => absurd rfl hc15)
  intro hc16
  refine rs S (tr (eqli rfl rfl)<|la (av rfl)) ?_; clear S; intro a u S
  refine cd S rfl ?_ ?_
  ·intro hc17
   refine dr (P := Try.prog) S 13 [one T14] [(35, .is _), (36, .is _), (37, .is _), (38, .is _), (39, .of (fun z w => ∃ (x39a : Int), z = iI x39a ∧ (0 ≤ x39a ∧ (x39a < (((bytesJ rx_t170).length : Nat) : Int) ∨ x39a = 0))) (fun v w w' c h => let ⟨x39a, hv, h0⟩ := h; ⟨x39a, hv, h0⟩)), (40, .of (fun z w => ∃ (x39a : Int), z = pT (blk ra_t171) (0 + (x39a).toNat * 1) ∧ (0 ≤ x39a ∧ (x39a < (((bytesJ rx_t170).length : Nat) : Int) ∨ x39a = 0))) (fun v w w' c h => let ⟨x39a, hv, h0⟩ := h; ⟨x39a, hv, h0⟩)), (41, .of (fun z w => ∃ (x39a : Int), z = .int .u8 ((bytesJ rx_t170).getD ((x39a).toNat) u8E.dflt) ∧ (0 ≤ x39a ∧ (x39a < (((bytesJ rx_t170).length : Nat) : Int) ∨ x39a = 0))) (fun v w w' c h => let ⟨x39a, hv, h0⟩ := h; ⟨x39a, hv, h0⟩)), (42, .is _), (43, .of (fun z w => ∃ (x43a : Int), z = iI x43a ∧ (0 ≤ x43a ∧ (x43a < 8 ∨ x43a = 0))) (fun v w w' c h => let ⟨x43a, hv, h0⟩ := h; ⟨x43a, hv, h0⟩)), (44, .of (fun z w => ∃ (x43a : Int), z = .int .u64 x43a ∧ (0 ≤ x43a ∧ (x43a < 8 ∨ x43a = 0))) (fun v w w' c h => let ⟨x43a, hv, h0⟩ := h; ⟨x43a, hv, h0⟩)), (45, .of (fun z w => ∃ (x43a : Int), z = .int .u8 (sHl .u8 1 x43a) ∧ (0 ≤ x43a ∧ (x43a < 8 ∨ x43a = 0))) (fun v w w' c h => let ⟨x43a, hv, h0⟩ := h; ⟨x43a, hv, h0⟩)), (46, .of (fun z w => ∃ (x39a : Int) (x43b : Int), z = .int .u8 (bXor .u8 ((bytesJ rx_t170).getD ((x39a).toNat) u8E.dflt) (sHl .u8 1 x43b)) ∧ (0 ≤ x39a ∧ (x39a < (((bytesJ rx_t170).length : Nat) : Int) ∨ x39a = 0)) ∧ (0 ≤ x43b ∧ (x43b < 8 ∨ x43b = 0))) (fun v w w' c h => let ⟨x39a, x43b, hv, h0, h1⟩ := h; ⟨x39a, x43b, hv, h0, h1⟩)), (47, .of (fun z w => ∃ (x39a : Int), z = pT (blk ra_t171) (0 + (x39a).toNat * 1) ∧ (0 ≤ x39a ∧ (x39a < (((bytesJ rx_t170).length : Nat) : Int) ∨ x39a = 0))) (fun v w w' c h => let ⟨x39a, hv, h0⟩ := h; ⟨x39a, hv, h0⟩))] [[], [], [], [37], [36, 38], [35, 39], [40], [], [42], [43], [44], [41, 45], [35, 39]] [46, 47] _ ⟨qd (mv rfl), qd (mv rfl), qd (mv rfl), qd (leni uT28 rfl), ?_, ?_, ?_, qd (mv rfl), ?_, ?_, ?_, ?_, ?_, trivial⟩ ?_
   ·skip
    intro a u S G hE
    refine hcl S (gNext _ _ S.x T14 (S.M.pick [0] (by decide)) l (dn1 (js := [0]) (S.u 0 rfl)) (S.t 0 rfl) (((bytesJ rx_t170).length : Nat) : Int) ⟨by omega, by omega⟩) cB26 ?_
    rintro e w2 ⟨r_h39, rfl, hr_h39, tK, T0⟩; refine ⟨_, rfl, (show ∃ _, _ from ?_), T0.ch, (S.k1 0 rfl S.s T0 tK).m⟩
    exact ⟨r_h39, rfl, hr_h39⟩
   ·skip
    intro a u S G hE
    obtain ⟨e39, -⟩ := hE
    have M0 := S.m
    obtain ⟨x39_64, e39, hr64⟩ := e39
    replace S := S.ext e39
    exact hvl 40 S M0 (v := pT (blk ra_t171) (0 + (x39_64).toNat * 1)) (x_idx uT28 sZ5 (S.e rfl) (S.e rfl) (x39_64).toNat (by omega) (by omega) (row_off (S.row 2 rfl) (m := (x39_64).toNat) (by omega))) (show ∃ _, _ from ⟨x39_64, rfl, hr64⟩)
   ·skip
    intro a u S G hE
    obtain ⟨e40, -⟩ := hE
    have M0 := S.m
    obtain ⟨x39_65, e40, hr65⟩ := e40
    replace S := S.ext e40
    obtain ⟨hl66, hu66⟩ : inU8 ((bytesJ rx_t170).getD ((x39_65).toNat) u8E.dflt) := id ((S.row 2 rfl).wfi (x39_65).toNat (by omega))
    exact hvl 41 S M0 (v := .int .u8 ((bytesJ rx_t170).getD ((x39_65).toNat) u8E.dflt)) (x_load sC5 (S.e rfl) (((S.row 2 rfl).latz (by first | decide | exact Nat.one_pos | exact Nat.succ_pos _)).cell (x39_65).toNat (by omega) 0 _ rfl)) (show ∃ _, _ from ⟨x39_65, rfl, hr65⟩)
   ·skip
    intro a u S G hE
    refine hcl S (gNext _ _ S.x T14 (S.M.pick [0] (by decide)) l (dn1 (js := [0]) (S.u 0 rfl)) (S.t 0 rfl) 8 ⟨by omega, by omega⟩) cB26 ?_
    rintro e w2 ⟨r_h43, rfl, hr_h43, tK, T0⟩; refine ⟨_, rfl, (show ∃ _, _ from ?_), T0.ch, (S.k1 0 rfl S.s T0 tK).m⟩
    exact ⟨r_h43, rfl, hr_h43⟩
   ·skip
    intro a u S G hE
    obtain ⟨e43, -⟩ := hE
    have M0 := S.m
    obtain ⟨x43_67, e43, hr67⟩ := e43
    replace S := S.ext e43
    exact hvl 44 S M0 (v := .int .u64 x43_67) (x_conv uT3 uT40 (S.e rfl) (r := x43_67) (w_u64 (by omega))) (show ∃ _, _ from ⟨x43_67, rfl, hr67⟩)
   ·skip
    intro a u S G hE
    obtain ⟨e44, -⟩ := hE
    have M0 := S.m
    obtain ⟨x43_68, e44, hr68⟩ := e44
    replace S := S.ext e44
    exact hvl 45 S M0 (v := .int .u8 (sHl .u8 1 x43_68)) (x_shl (S.e rfl) (S.e rfl) (by omega)) (show ∃ _, _ from ⟨x43_68, rfl, hr68⟩)
   ·skip
    intro a u S G hE
    obtain ⟨e41, e45, -⟩ := hE
    have M0 := S.m
    obtain ⟨x39_69, e41, hr69⟩ := e41
    replace S := S.ext e41
    obtain ⟨x43_70, e45, hr70⟩ := e45
    replace S := S.ext e45
    exact hvl 46 S M0 (v := .int .u8 (bXor .u8 ((bytesJ rx_t170).getD ((x39_69).toNat) u8E.dflt) (sHl .u8 1 x43_70))) (x_bxor (S.e rfl) (S.e rfl)) (show ∃ _, _ from ⟨x39_69, x43_70, rfl, hr69, hr70⟩)
   ·skip
    intro a u S G hE
    obtain ⟨e39, -⟩ := hE
    have M0 := S.m
    obtain ⟨x39_71, e39, hr71⟩ := e39
    replace S := S.ext e39
    exact hvl 47 S M0 (v := pT (blk ra_t171) (0 + (x39_71).toNat * 1)) (x_idx uT28 sZ5 (S.e rfl) (S.e rfl) (x39_71).toNat (by omega) (by omega) (row_off (S.row 2 rfl) (m := (x39_71).toNat) (by omega))) (show ∃ _, _ from ⟨x39_71, rfl, hr71⟩)
   clear S; intro a u S G hE
   obtain ⟨e46, e47, -⟩ := hE
   obtain ⟨x39_72, x43_73, e46, hr72, hr73⟩ := e46
   replace S := S.ext e46
   obtain ⟨x39_74, e47, hr74⟩ := e47
   replace S := S.ext e47
   clear e46 e47
   obtain ⟨hl75, hu75⟩ : inU8 (bXor .u8 ((bytesJ rx_t170).getD ((x39_72).toNat) u8E.dflt) (sHl .u8 1 x43_73)) := id (wu8 _)
   refine sp S (la (str (E := u8E) 2 (by kernel_rfl) rfl rfl rfl (x39_74).toNat 0 (by omega) (by first | decide | exact Nat.one_pos | exact Nat.succ_pos _) (bXor .u8 ((bytesJ rx_t170).getD ((x39_72).toNat) u8E.dflt) (sHl .u8 1 x43_73)) (fun S=>(wu8 _)) rfl (by first | rfl | (show _ = _ * 1 + 0; omega) | (simp [u8E]; omega) | simp [u8E]) rfl)) ?_; clear S; intro a u S
   have hls76 : ((bytesJ rx_t170).set (x39_74).toNat (bXor .u8 ((bytesJ rx_t170).getD ((x39_72).toNat) u8E.dflt) (sHl .u8 1 x43_73))).length = (bytesJ rx_t170).length := by simp
   refine nn (blk_n (then_n (wp_seq ?_)))
   have hn78 : b.xs.length ≤ 9223372036854775807 := ((S.u 1 rfl)).1.len
   refine rs S (tr (mv rfl)<|tr (leni uT28 rfl)<|la (gtri rfl rfl)) ?_; clear S; intro a u S
   refine cd S rfl ?_ ?_
   ·intro hc18
    have hk80 : (b.xs.take 5000).length = 5000 := by rw [List.length_take]; first | omega | (simp only [List.length_cons, List.length_nil]; omega)
    refine rg S (tr (mv rfl)<|tr (ov (v := .slice b.a ((b.xs.take 5000).length) b.c) fun S=>x_slhn uT28 iZ5 (S.e rfl) (S.e rfl) 5000 rfl (Nat.le_trans (by omega) ((S.u 1 rfl)).2.1) ((S.u 1 rfl)).2.2 _ (by rw [List.length_take]; first | omega | (simp only [List.length_cons, List.length_nil]; omega)))<|la (av rfl)) ?_; clear S; intro a u S
    refine then_n (wp_seq ?_)
    refine rs S (la (av rfl)) ?_; clear S; intro a u S
    refine wp_block ?_
    replace S := S.fz 2 rfl
    rw [show (Value.slice ra_t171 ((bytesJ rx_t170).length) rc_t171) = .slice ra_t171 (((bytesJ rx_t170).set (x39_74).toNat (bXor .u8 ((bytesJ rx_t170).getD ((x39_72).toNat) u8E.dflt) (sHl .u8 1 x43_73))).length) rc_t171 from by rw [List.length_set]] at S
    have hfr82 := (S.u 2 rfl)
    have hfr83 := (sl_take (S.u 1 rfl) 5000 (by omega))
    replace S := (S.ar (wfF (slE u8E) (Sl.mk ra_t171 rc_t171 ((bytesJ rx_t170).set (x39_74).toNat (bXor .u8 ((bytesJ rx_t170).getD ((x39_72).toNat) u8E.dflt) (sHl .u8 1 x43_73))))) hfr82).ar (wfF (slE u8E) (Sl.mk b.a b.c (b.xs.take 5000))) hfr83
    refine lq3 (fun (i : Nat) (xx : Sl Int) (bb : Sl Int) => [(8, iN i), (7, sV xx), (1, sV bb)]) (fun (i : Nat) (xx : Sl Int) (bb : Sl Int) => [wfF (slE intE) l, wfF (slE u8E) b, wfF (slE u8E) (Sl.mk ra_t171 rc_t171 ((bytesJ rx_t170).set (x39_74).toNat (bXor .u8 ((bytesJ rx_t170).getD ((x39_72).toNat) u8E.dflt) (sHl .u8 1 x43_73)))), wfF (slE u8E) xx, wfF (slE u8E) bb]) (fun (i : Nat) (xx : Sl Int) (bb : Sl Int) => [tpO 112 T14 l, rwO recE 24 w.heap.size ra_t170 rc_t170 rx_t170, noO]) (fun (i : Nat) (xx : Sl Int) (bb : Sl Int) => i ≤ 3 ∧ xx.xs.length ≤ 20000 ∧ bb.xs.length ≤ 20000 ∧ (i ≤ 1 → xx.xs.length ≤ 5112 ∧ bb.xs.length ≤ 5000)) (fun (i : Nat) (xx : Sl Int) (bb : Sl Int) => 3 - i) S 0 (Sl.mk ra_t171 rc_t171 ((bytesJ rx_t170).set (x39_74).toNat (bXor .u8 ((bytesJ rx_t170).getD ((x39_72).toNat) u8E.dflt) (sHl .u8 1 x43_73)))) (Sl.mk b.a b.c (b.xs.take 5000)) (subM rfl) rfl rfl ?_ ?_
    ·exact ⟨Nat.zero_le _, by (first | omega | (dsimp only; omega) | (simp only [List.length_take, List.length_append, List.length_set, List.length_nil, List.nil_append]; omega) | (dsimp only; simp only [List.length_take, List.length_append, List.length_set, List.length_nil, List.nil_append]; omega)), by (first | omega | (dsimp only; omega) | (simp only [List.length_take, List.length_append, List.length_set, List.length_nil, List.nil_append]; omega) | (dsimp only; simp only [List.length_take, List.length_append, List.length_set, List.length_nil, List.nil_append]; omega)), fun _ => ⟨by (first | omega | (dsimp only; omega) | (simp only [List.length_take, List.length_append, List.length_set, List.length_nil, List.nil_append]; omega) | (dsimp only; simp only [List.length_take, List.length_append, List.length_set, List.length_nil, List.nil_append]; omega)), by (first | omega | (dsimp only; omega) | (simp only [List.length_take, List.length_append, List.length_set, List.length_nil, List.nil_append]; omega) | (dsimp only; simp only [List.length_take, List.length_append, List.length_set, List.length_nil, List.nil_append]; omega))⟩⟩
    clear S; intro i xx bb a u S hR
    obtain ⟨hi, hxl, hbl, hi1⟩ := hR
    refine wp_seq ?_
    refine rs S (tr (mv rfl)<|la (lssi rfl rfl)) ?_; clear S; intro a u S
    refine cd S rfl ?_ ?_
    ·intro hc19
     refine wp_skip (then_n (wp_seq (wp_block (rs0 ?_))))
     refine sp S (la (mv rfl)) ?_; clear S; intro a u S
     refine cl S (jDecode _ _ S.x (.nil _) xx (dn0 (S.u 3 rfl))) cB23 ?_
     rintro e u ⟨ra_t590, rc_t590, rfl, R_t590, T0⟩; refine ⟨_, rfl, fun a s => ?_⟩
     replace S := S.kr [⟨_, recE, 24, ra_t590, rc_t590, recsP xx.xs (decN xx.xs)⟩] s T0 ⟨R_t590, trivial⟩; clear s T0 R_t590
     refine ens S (tr (mv rfl)<|tr (exi rfl rfl)<|tr (exi rfl rfl)<|tr (av rfl)<|la (av rfl)) ?_; clear S; intro a u S
     refine rs0 ?_
     refine sp S (la (mv rfl)) ?_; clear S; intro a u S
     refine cl S (rDecode _ _ S.x (.nil _) xx (dn0 (S.u 3 rfl))) cB27 ?_
     rintro e u ⟨ra_t640, rc_t640, rfl, R_t640, T0⟩; refine ⟨_, rfl, fun a s => ?_⟩
     replace S := S.kr [⟨_, recE, 24, ra_t640, rc_t640, recsP xx.xs (decN xx.xs)⟩] s T0 ⟨R_t640, trivial⟩; clear s T0 R_t640
     refine ens S (tr (mv rfl)<|tr (exi rfl rfl)<|tr (exi rfl rfl)<|tr (av rfl)<|la (av rfl)) ?_; clear S; intro a u S
     refine wp_seq (rs0 ?_)
     refine sp S (tr (mv rfl)<|tr (mv rfl)<|tr (neqi rfl rfl)<|la (mv rfl)) ?_; clear S; intro a u S
     refine (Classical.em (¬ ((14 * decN xx.xs : Nat) : Int) = ((14 * decN xx.xs : Nat) : Int))).elim (fun hs88 => ?_) (fun hs88 => ?_)
     ·replace S := S.ext (d := 70) (v := .bool true) ((S.get 70 rfl).trans (congrArg Value.bool (decide_eq_true hs88)))
      refine ens S (tr (goff 70 rfl)<|tr (goff 70 rfl)<|tr (goff 70 rfl)<|tr (goff 70 rfl)<|la (ov fun S=>x_pickt (S.e rfl) (S.e rfl))) ?_; clear S; intro a u S
      refine cdt S rfl ?_
      refine rs S (la (av rfl)) ?_; clear S; intro a u S
      refine wp_ret (then_r (blk_r (then_r (then_r (blk_r (then_r ?_))))))
      refine ret1 rfl S.s rfl ?_
      replace S := S.pk []
      refine ⟨(r1 (vf ?_)), S.m.c⟩
      first
      | exact Iff.rfl
      | (exact fun _ => absurd rfl hs88)
     replace S := S.ext (d := 70) (v := .bool false) ((S.get 70 rfl).trans (congrArg Value.bool (decide_eq_false hs88)))
     refine ens S (tr (gon 70 rfl fun S=>x_move (S.e rfl))<|tr (gon 70 rfl fun S=>x_move (S.e rfl))<|tr (ocon 70 rfl (fun S=>rSameL _ _ (S.xx [abk ra_t590, abk ra_t640]) (.nil _) (Sl.mk ra_t590 rc_t590 (recsP xx.xs (decN xx.xs))) (S.rargD hD 3 rfl (by first | decide | exact Nat.one_pos | exact Nat.succ_pos _) _ (by simp)) (Sl.mk ra_t640 rc_t640 (recsP xx.xs (decN xx.xs))) (S.rargD hD 4 rfl (by first | decide | exact Nat.one_pos | exact Nat.succ_pos _) _ (by simp))) cB28)<|tr (gon 70 rfl fun S=>x_notp (S.e rfl))<|la (ov fun S=>x_pickf (S.e rfl) (S.e rfl))) ?_; clear S; intro a u S
     refine cd S rfl ?_ ?_
     ·intro hc20
      refine rs S (la (av rfl)) ?_; clear S; intro a u S
      refine wp_ret (then_r (blk_r (then_r (then_r (blk_r (then_r ?_))))))
      refine ret1 rfl S.s rfl ?_
      replace S := S.pk []
      refine ⟨(r1 (vf ?_)), S.m.c⟩
      first
      | exact Iff.rfl
      | (exact fun _ => absurd rfl hc20)
     intro hc21
     refine wp_skip (then_n (wp_seq ?_))
     refine rs S (tr (mv rfl)<|la (eqli rfl rfl)) ?_; clear S; intro a u S
     refine cd S rfl ?_ ?_
     ·intro hc22
      refine r0 ?_
      refine nbr (q := 0) u8E S [] (x_bsl0 uT28 iZ5) (fun _ h => by simp at h) ?_; clear S; intro a u b78 S
      refine sp S (la (mv rfl)) ?_; clear S; intro a u S
      refine ap (E := u8E) (ys := xx.xs) S 5 rfl uT28 iZ5 rfl rfl ((S.u 3 rfl)).1 ((S.u 3 rfl)).2.2 (LAt.mem ((S.u 3 rfl)).1) ⟨by unfold maxLen; (try simp only [List.length_cons, List.length_nil, List.length_append, List.length_map]); omega, by (try simp only [List.length_cons, List.length_nil, List.length_append, List.length_map]); omega⟩ ?_; clear S; intro a u ad80 cap80 S
      refine sp S (la (mv rfl)) ?_; clear S; intro a u S
      refine ap (E := u8E) (ys := bb.xs) S 5 rfl uT28 iZ5 rfl rfl ((S.u 4 rfl)).1 ((S.u 4 rfl)).2.2 (LAt.mem ((S.u 4 rfl)).1) ⟨by unfold maxLen; (try simp only [List.length_cons, List.length_nil, List.length_append, List.length_map]); omega, by (try simp only [List.length_cons, List.length_nil, List.length_append, List.length_map]); omega⟩ ?_; clear S; intro a u ad82 cap82 S
      refine ens S (la (av rfl)) ?_; clear S; intro a u S
      refine rg S (tr (mv rfl)<|la (av rfl)) ?_; clear S; intro a u S
      refine blk_n (then_n ?_)
      refine rg S (tr (mv rfl)<|tr (addi ((i + 1 : Nat) : Int) rfl rfl (w_i64 (by omega)))<|la (av rfl)) ?_; clear S; intro a u S
      replace S := S.fz 5 rfl
      have hfr95 := (S.u 5 rfl)
      have hfr96 := (S.u 5 rfl)
      have hfr97 := (S.u 5 rfl)
      have hfr98 := (S.u 5 rfl)
      replace S := S.rt 3
      replace S := S.ar (wfF (slE u8E) (Sl.mk ad82 cap82 (([] ++ xx.xs) ++ bb.xs))) hfr97
      replace S := S.ar (wfF (slE u8E) (Sl.mk ad82 cap82 (([] ++ xx.xs) ++ bb.xs))) hfr98
      refine then_n ?_
      refine ⟨(i + 1), (Sl.mk ad82 cap82 (([] ++ xx.xs) ++ bb.xs)), (Sl.mk ad82 cap82 (([] ++ xx.xs) ++ bb.xs)), S.re (subM rfl) rfl rfl, ?_, ?_⟩
      ·refine ⟨by omega, by (first | omega | (dsimp only; omega) | (simp only [List.length_take, List.length_append, List.length_set, List.length_nil, List.nil_append]; omega) | (dsimp only; simp only [List.length_take, List.length_append, List.length_set, List.length_nil, List.nil_append]; omega)), by (first | omega | (dsimp only; omega) | (simp only [List.length_take, List.length_append, List.length_set, List.length_nil, List.nil_append]; omega) | (dsimp only; simp only [List.length_take, List.length_append, List.length_set, List.length_nil, List.nil_append]; omega)), fun hq => ?_⟩
       have := hi1 (by omega)
       exact ⟨by (first | omega | (dsimp only; omega) | (simp only [List.length_take, List.length_append, List.length_set, List.length_nil, List.nil_append]; omega) | (dsimp only; simp only [List.length_take, List.length_append, List.length_set, List.length_nil, List.nil_append]; omega)), by (first | omega | (dsimp only; omega) | (simp only [List.length_take, List.length_append, List.length_set, List.length_nil, List.nil_append]; omega) | (dsimp only; simp only [List.length_take, List.length_append, List.length_set, List.length_nil, List.nil_append]; omega))⟩
      omega
     intro hc23
     refine wp_skip (then_n ?_)
     refine rg S (tr (mv rfl)<|la (av rfl)) ?_; clear S; intro a u S
     refine blk_n (then_n ?_)
     refine rg S (tr (mv rfl)<|tr (addi ((i + 1 : Nat) : Int) rfl rfl (w_i64 (by omega)))<|la (av rfl)) ?_; clear S; intro a u S
     have hfr101 := (S.u 4 rfl)
     have hfr102 := (S.u 4 rfl)
     have hfr103 := (S.u 4 rfl)
     have hfr104 := (S.u 4 rfl)
     replace S := S.rt 3
     replace S := S.ar (wfF (slE u8E) bb) hfr103
     replace S := S.ar (wfF (slE u8E) bb) hfr104
     refine then_n ?_
     refine ⟨(i + 1), bb, bb, S.re (subM rfl) rfl rfl, ?_, ?_⟩
     ·refine ⟨by omega, by (first | omega | (dsimp only; omega) | (simp only [List.length_take, List.length_append, List.length_set, List.length_nil, List.nil_append]; omega) | (dsimp only; simp only [List.length_take, List.length_append, List.length_set, List.length_nil, List.nil_append]; omega)), by (first | omega | (dsimp only; omega) | (simp only [List.length_take, List.length_append, List.length_set, List.length_nil, List.nil_append]; omega) | (dsimp only; simp only [List.length_take, List.length_append, List.length_set, List.length_nil, List.nil_append]; omega)), fun hq => ?_⟩
      have := hi1 (by omega)
      exact ⟨by (first | omega | (dsimp only; omega) | (simp only [List.length_take, List.length_append, List.length_set, List.length_nil, List.nil_append]; omega) | (dsimp only; simp only [List.length_take, List.length_append, List.length_set, List.length_nil, List.nil_append]; omega)), by (first | omega | (dsimp only; omega) | (simp only [List.length_take, List.length_append, List.length_set, List.length_nil, List.nil_append]; omega) | (dsimp only; simp only [List.length_take, List.length_append, List.length_set, List.length_nil, List.nil_append]; omega))⟩
     omega
    intro hc24
    refine wp_exit (then_e (then_e (blk_e (then_n ?_))))
    refine rs S (tr (oc (fun S=>lSane _ _ S.x (.nil _)) cB24)<|la (av rfl)) ?_; clear S; intro a u S
    refine wp_ret ?_
    refine ret1 rfl S.s rfl ?_
    replace S := S.pk []
    refine ⟨(r1 (vb ?_)), S.m.c⟩
    first
    | exact Iff.rfl
    | (exact fun _ => absurd rfl hc24)
   intro hc25
   refine wp_skip (then_n (wp_seq ?_))
   refine rs S (la (av rfl)) ?_; clear S; intro a u S
   refine wp_block ?_
   replace S := S.fz 2 rfl
   rw [show (Value.slice ra_t171 ((bytesJ rx_t170).length) rc_t171) = .slice ra_t171 (((bytesJ rx_t170).set (x39_74).toNat (bXor .u8 ((bytesJ rx_t170).getD ((x39_72).toNat) u8E.dflt) (sHl .u8 1 x43_73))).length) rc_t171 from by rw [List.length_set]] at S
   have hfr107 := (S.u 2 rfl)
   have hfr108 := (S.u 1 rfl)
   replace S := (S.ar (wfF (slE u8E) (Sl.mk ra_t171 rc_t171 ((bytesJ rx_t170).set (x39_74).toNat (bXor .u8 ((bytesJ rx_t170).getD ((x39_72).toNat) u8E.dflt) (sHl .u8 1 x43_73))))) hfr107).ar (wfF (slE u8E) b) hfr108
   refine lq3 (fun (i : Nat) (xx : Sl Int) (bb : Sl Int) => [(8, iN i), (7, sV xx), (1, sV bb)]) (fun (i : Nat) (xx : Sl Int) (bb : Sl Int) => [wfF (slE intE) l, wfF (slE u8E) b, wfF (slE u8E) (Sl.mk ra_t171 rc_t171 ((bytesJ rx_t170).set (x39_74).toNat (bXor .u8 ((bytesJ rx_t170).getD ((x39_72).toNat) u8E.dflt) (sHl .u8 1 x43_73)))), wfF (slE u8E) xx, wfF (slE u8E) bb]) (fun (i : Nat) (xx : Sl Int) (bb : Sl Int) => [tpO 112 T14 l, rwO recE 24 w.heap.size ra_t170 rc_t170 rx_t170, noO]) (fun (i : Nat) (xx : Sl Int) (bb : Sl Int) => i ≤ 3 ∧ xx.xs.length ≤ 20000 ∧ bb.xs.length ≤ 20000 ∧ (i ≤ 1 → xx.xs.length ≤ 5112 ∧ bb.xs.length ≤ 5000)) (fun (i : Nat) (xx : Sl Int) (bb : Sl Int) => 3 - i) S 0 (Sl.mk ra_t171 rc_t171 ((bytesJ rx_t170).set (x39_74).toNat (bXor .u8 ((bytesJ rx_t170).getD ((x39_72).toNat) u8E.dflt) (sHl .u8 1 x43_73)))) b (subM rfl) rfl rfl ?_ ?_
   ·exact ⟨Nat.zero_le _, by (first | omega | (dsimp only; omega) | (simp only [List.length_take, List.length_append, List.length_set, List.length_nil, List.nil_append]; omega) | (dsimp only; simp only [List.length_take, List.length_append, List.length_set, List.length_nil, List.nil_append]; omega)), by (first | omega | (dsimp only; omega) | (simp only [List.length_take, List.length_append, List.length_set, List.length_nil, List.nil_append]; omega) | (dsimp only; simp only [List.length_take, List.length_append, List.length_set, List.length_nil, List.nil_append]; omega)), fun _ => ⟨by (first | omega | (dsimp only; omega) | (simp only [List.length_take, List.length_append, List.length_set, List.length_nil, List.nil_append]; omega) | (dsimp only; simp only [List.length_take, List.length_append, List.length_set, List.length_nil, List.nil_append]; omega)), by (first | omega | (dsimp only; omega) | (simp only [List.length_take, List.length_append, List.length_set, List.length_nil, List.nil_append]; omega) | (dsimp only; simp only [List.length_take, List.length_append, List.length_set, List.length_nil, List.nil_append]; omega))⟩⟩
   clear S; intro i xx bb a u S hR
   obtain ⟨hi, hxl, hbl, hi1⟩ := hR
   refine wp_seq ?_
   refine rs S (tr (mv rfl)<|la (lssi rfl rfl)) ?_; clear S; intro a u S
   refine cd S rfl ?_ ?_
   ·intro hc26
    refine wp_skip (then_n (wp_seq (wp_block (rs0 ?_))))
    refine sp S (la (mv rfl)) ?_; clear S; intro a u S
    refine cl S (jDecode _ _ S.x (.nil _) xx (dn0 (S.u 3 rfl))) cB23 ?_
    rintro e u ⟨ra_t590, rc_t590, rfl, R_t590, T0⟩; refine ⟨_, rfl, fun a s => ?_⟩
    replace S := S.kr [⟨_, recE, 24, ra_t590, rc_t590, recsP xx.xs (decN xx.xs)⟩] s T0 ⟨R_t590, trivial⟩; clear s T0 R_t590
    refine ens S (tr (mv rfl)<|tr (exi rfl rfl)<|tr (exi rfl rfl)<|tr (av rfl)<|la (av rfl)) ?_; clear S; intro a u S
    refine rs0 ?_
    refine sp S (la (mv rfl)) ?_; clear S; intro a u S
    refine cl S (rDecode _ _ S.x (.nil _) xx (dn0 (S.u 3 rfl))) cB27 ?_
    rintro e u ⟨ra_t640, rc_t640, rfl, R_t640, T0⟩; refine ⟨_, rfl, fun a s => ?_⟩
    replace S := S.kr [⟨_, recE, 24, ra_t640, rc_t640, recsP xx.xs (decN xx.xs)⟩] s T0 ⟨R_t640, trivial⟩; clear s T0 R_t640
    refine ens S (tr (mv rfl)<|tr (exi rfl rfl)<|tr (exi rfl rfl)<|tr (av rfl)<|la (av rfl)) ?_; clear S; intro a u S
    refine wp_seq (rs0 ?_)
    refine sp S (tr (mv rfl)<|tr (mv rfl)<|tr (neqi rfl rfl)<|la (mv rfl)) ?_; clear S; intro a u S
    refine (Classical.em (¬ ((14 * decN xx.xs : Nat) : Int) = ((14 * decN xx.xs : Nat) : Int))).elim (fun hs113 => ?_) (fun hs113 => ?_)
    ·replace S := S.ext (d := 70) (v := .bool true) ((S.get 70 rfl).trans (congrArg Value.bool (decide_eq_true hs113)))
     refine ens S (tr (goff 70 rfl)<|tr (goff 70 rfl)<|tr (goff 70 rfl)<|tr (goff 70 rfl)<|la (ov fun S=>x_pickt (S.e rfl) (S.e rfl))) ?_; clear S; intro a u S
     refine cdt S rfl ?_
     refine rs S (la (av rfl)) ?_; clear S; intro a u S
     refine wp_ret (then_r (blk_r (then_r (then_r (blk_r (then_r ?_))))))
     refine ret1 rfl S.s rfl ?_
     replace S := S.pk []
     refine ⟨(r1 (vf ?_)), S.m.c⟩
     first
     | exact Iff.rfl
     | (exact fun _ => absurd rfl hs113)
    replace S := S.ext (d := 70) (v := .bool false) ((S.get 70 rfl).trans (congrArg Value.bool (decide_eq_false hs113)))
    refine ens S (tr (gon 70 rfl fun S=>x_move (S.e rfl))<|tr (gon 70 rfl fun S=>x_move (S.e rfl))<|tr (ocon 70 rfl (fun S=>rSameL _ _ (S.xx [abk ra_t590, abk ra_t640]) (.nil _) (Sl.mk ra_t590 rc_t590 (recsP xx.xs (decN xx.xs))) (S.rargD hD 3 rfl (by first | decide | exact Nat.one_pos | exact Nat.succ_pos _) _ (by simp)) (Sl.mk ra_t640 rc_t640 (recsP xx.xs (decN xx.xs))) (S.rargD hD 4 rfl (by first | decide | exact Nat.one_pos | exact Nat.succ_pos _) _ (by simp))) cB28)<|tr (gon 70 rfl fun S=>x_notp (S.e rfl))<|la (ov fun S=>x_pickf (S.e rfl) (S.e rfl))) ?_; clear S; intro a u S
    refine cd S rfl ?_ ?_
    ·intro hc27
     refine rs S (la (av rfl)) ?_; clear S; intro a u S
     refine wp_ret (then_r (blk_r (then_r (then_r (blk_r (then_r ?_))))))
     refine ret1 rfl S.s rfl ?_
     replace S := S.pk []
     refine ⟨(r1 (vf ?_)), S.m.c⟩
     first
     | exact Iff.rfl
     | (exact fun _ => absurd rfl hc27)
    intro hc28
    refine wp_skip (then_n (wp_seq ?_))
    refine rs S (tr (mv rfl)<|la (eqli rfl rfl)) ?_; clear S; intro a u S
    refine cd S rfl ?_ ?_
    ·intro hc29
     refine r0 ?_
     refine nbr (q := 0) u8E S [] (x_bsl0 uT28 iZ5) (fun _ h => by simp at h) ?_; clear S; intro a u b78 S
     refine sp S (la (mv rfl)) ?_; clear S; intro a u S
     refine ap (E := u8E) (ys := xx.xs) S 5 rfl uT28 iZ5 rfl rfl ((S.u 3 rfl)).1 ((S.u 3 rfl)).2.2 (LAt.mem ((S.u 3 rfl)).1) ⟨by unfold maxLen; (try simp only [List.length_cons, List.length_nil, List.length_append, List.length_map]); omega, by (try simp only [List.length_cons, List.length_nil, List.length_append, List.length_map]); omega⟩ ?_; clear S; intro a u ad80 cap80 S
     refine sp S (la (mv rfl)) ?_; clear S; intro a u S
     refine ap (E := u8E) (ys := bb.xs) S 5 rfl uT28 iZ5 rfl rfl ((S.u 4 rfl)).1 ((S.u 4 rfl)).2.2 (LAt.mem ((S.u 4 rfl)).1) ⟨by unfold maxLen; (try simp only [List.length_cons, List.length_nil, List.length_append, List.length_map]); omega, by (try simp only [List.length_cons, List.length_nil, List.length_append, List.length_map]); omega⟩ ?_; clear S; intro a u ad82 cap82 S
     refine ens S (la (av rfl)) ?_; clear S; intro a u S
     refine rg S (tr (mv rfl)<|la (av rfl)) ?_; clear S; intro a u S
     refine blk_n (then_n ?_)
     refine rg S (tr (mv rfl)<|tr (addi ((i + 1 : Nat) : Int) rfl rfl (w_i64 (by omega)))<|la (av rfl)) ?_; clear S; intro a u S
     replace S := S.fz 5 rfl
     have hfr120 := (S.u 5 rfl)
     have hfr121 := (S.u 5 rfl)
     have hfr122 := (S.u 5 rfl)
     have hfr123 := (S.u 5 rfl)
     replace S := S.rt 3
     replace S := S.ar (wfF (slE u8E) (Sl.mk ad82 cap82 (([] ++ xx.xs) ++ bb.xs))) hfr122
     replace S := S.ar (wfF (slE u8E) (Sl.mk ad82 cap82 (([] ++ xx.xs) ++ bb.xs))) hfr123
     refine then_n ?_
     refine ⟨(i + 1), (Sl.mk ad82 cap82 (([] ++ xx.xs) ++ bb.xs)), (Sl.mk ad82 cap82 (([] ++ xx.xs) ++ bb.xs)), S.re (subM rfl) rfl rfl, ?_, ?_⟩
     ·refine ⟨by omega, by (first | omega | (dsimp only; omega) | (simp only [List.length_take, List.length_append, List.length_set, List.length_nil, List.nil_append]; omega) | (dsimp only; simp only [List.length_take, List.length_append, List.length_set, List.length_nil, List.nil_append]; omega)), by (first | omega | (dsimp only; omega) | (simp only [List.length_take, List.length_append, List.length_set, List.length_nil, List.nil_append]; omega) | (dsimp only; simp only [List.length_take, List.length_append, List.length_set, List.length_nil, List.nil_append]; omega)), fun hq => ?_⟩
      have := hi1 (by omega)
      exact ⟨by (first | omega | (dsimp only; omega) | (simp only [List.length_take, List.length_append, List.length_set, List.length_nil, List.nil_append]; omega) | (dsimp only; simp only [List.length_take, List.length_append, List.length_set, List.length_nil, List.nil_append]; omega)), by (first | omega | (dsimp only; omega) | (simp only [List.length_take, List.length_append, List.length_set, List.length_nil, List.nil_append]; omega) | (dsimp only; simp only [List.length_take, List.length_append, List.length_set, List.length_nil, List.nil_append]; omega))⟩
     omega
    intro hc30
    refine wp_skip (then_n ?_)
    refine rg S (tr (mv rfl)<|la (av rfl)) ?_; clear S; intro a u S
    refine blk_n (then_n ?_)
    refine rg S (tr (mv rfl)<|tr (addi ((i + 1 : Nat) : Int) rfl rfl (w_i64 (by omega)))<|la (av rfl)) ?_; clear S; intro a u S
    have hfr126 := (S.u 4 rfl)
    have hfr127 := (S.u 4 rfl)
    have hfr128 := (S.u 4 rfl)
    have hfr129 := (S.u 4 rfl)
    replace S := S.rt 3
    replace S := S.ar (wfF (slE u8E) bb) hfr128
    replace S := S.ar (wfF (slE u8E) bb) hfr129
    refine then_n ?_
    refine ⟨(i + 1), bb, bb, S.re (subM rfl) rfl rfl, ?_, ?_⟩
    ·refine ⟨by omega, by (first | omega | (dsimp only; omega) | (simp only [List.length_take, List.length_append, List.length_set, List.length_nil, List.nil_append]; omega) | (dsimp only; simp only [List.length_take, List.length_append, List.length_set, List.length_nil, List.nil_append]; omega)), by (first | omega | (dsimp only; omega) | (simp only [List.length_take, List.length_append, List.length_set, List.length_nil, List.nil_append]; omega) | (dsimp only; simp only [List.length_take, List.length_append, List.length_set, List.length_nil, List.nil_append]; omega)), fun hq => ?_⟩
     have := hi1 (by omega)
     exact ⟨by (first | omega | (dsimp only; omega) | (simp only [List.length_take, List.length_append, List.length_set, List.length_nil, List.nil_append]; omega) | (dsimp only; simp only [List.length_take, List.length_append, List.length_set, List.length_nil, List.nil_append]; omega)), by (first | omega | (dsimp only; omega) | (simp only [List.length_take, List.length_append, List.length_set, List.length_nil, List.nil_append]; omega) | (dsimp only; simp only [List.length_take, List.length_append, List.length_set, List.length_nil, List.nil_append]; omega))⟩
    omega
   intro hc31
   refine wp_exit (then_e (then_e (blk_e (then_n ?_))))
   refine rs S (tr (oc (fun S=>lSane _ _ S.x (.nil _)) cB24)<|la (av rfl)) ?_; clear S; intro a u S
   refine wp_ret ?_
   refine ret1 rfl S.s rfl ?_
   replace S := S.pk []
   refine ⟨(r1 (vb ?_)), S.m.c⟩
   first
   | exact Iff.rfl
   | (exact fun _ => absurd rfl hc31)
  intro hc32
  refine wp_skip (blk_n (then_n (wp_seq ?_)))
  have hn132 : b.xs.length ≤ 9223372036854775807 := ((S.u 1 rfl)).1.len
  refine rs S (tr (mv rfl)<|tr (leni uT28 rfl)<|la (gtri rfl rfl)) ?_; clear S; intro a u S
  refine cd S rfl ?_ ?_
  ·intro hc33
   have hk134 : (b.xs.take 5000).length = 5000 := by rw [List.length_take]; first | omega | (simp only [List.length_cons, List.length_nil]; omega)
   refine rg S (tr (mv rfl)<|tr (ov (v := .slice b.a ((b.xs.take 5000).length) b.c) fun S=>x_slhn uT28 iZ5 (S.e rfl) (S.e rfl) 5000 rfl (Nat.le_trans (by omega) ((S.u 1 rfl)).2.1) ((S.u 1 rfl)).2.2 _ (by rw [List.length_take]; first | omega | (simp only [List.length_cons, List.length_nil]; omega)))<|la (av rfl)) ?_; clear S; intro a u S
   refine then_n (wp_seq ?_)
   refine rs S (la (av rfl)) ?_; clear S; intro a u S
   refine wp_block ?_
   replace S := S.fz 2 rfl
   have hfr136 := (S.u 2 rfl)
   have hfr137 := (sl_take (S.u 1 rfl) 5000 (by omega))
   replace S := (S.ar (wfF (slE u8E) (Sl.mk ra_t171 rc_t171 (bytesJ rx_t170))) hfr136).ar (wfF (slE u8E) (Sl.mk b.a b.c (b.xs.take 5000))) hfr137
   refine lq3 (fun (i : Nat) (xx : Sl Int) (bb : Sl Int) => [(8, iN i), (7, sV xx), (1, sV bb)]) (fun (i : Nat) (xx : Sl Int) (bb : Sl Int) => [wfF (slE intE) l, wfF (slE u8E) b, wfF (slE u8E) (Sl.mk ra_t171 rc_t171 (bytesJ rx_t170)), wfF (slE u8E) xx, wfF (slE u8E) bb]) (fun (i : Nat) (xx : Sl Int) (bb : Sl Int) => [tpO 112 T14 l, rwO recE 24 w.heap.size ra_t170 rc_t170 rx_t170, noO]) (fun (i : Nat) (xx : Sl Int) (bb : Sl Int) => i ≤ 3 ∧ xx.xs.length ≤ 20000 ∧ bb.xs.length ≤ 20000 ∧ (i ≤ 1 → xx.xs.length ≤ 5112 ∧ bb.xs.length ≤ 5000)) (fun (i : Nat) (xx : Sl Int) (bb : Sl Int) => 3 - i) S 0 (Sl.mk ra_t171 rc_t171 (bytesJ rx_t170)) (Sl.mk b.a b.c (b.xs.take 5000)) (subM rfl) rfl rfl ?_ ?_
   ·exact ⟨Nat.zero_le _, by (first | omega | (dsimp only; omega) | (simp only [List.length_take, List.length_append, List.length_set, List.length_nil, List.nil_append]; omega) | (dsimp only; simp only [List.length_take, List.length_append, List.length_set, List.length_nil, List.nil_append]; omega)), by (first | omega | (dsimp only; omega) | (simp only [List.length_take, List.length_append, List.length_set, List.length_nil, List.nil_append]; omega) | (dsimp only; simp only [List.length_take, List.length_append, List.length_set, List.length_nil, List.nil_append]; omega)), fun _ => ⟨by (first | omega | (dsimp only; omega) | (simp only [List.length_take, List.length_append, List.length_set, List.length_nil, List.nil_append]; omega) | (dsimp only; simp only [List.length_take, List.length_append, List.length_set, List.length_nil, List.nil_append]; omega)), by (first | omega | (dsimp only; omega) | (simp only [List.length_take, List.length_append, List.length_set, List.length_nil, List.nil_append]; omega) | (dsimp only; simp only [List.length_take, List.length_append, List.length_set, List.length_nil, List.nil_append]; omega))⟩⟩
   clear S; intro i xx bb a u S hR
   obtain ⟨hi, hxl, hbl, hi1⟩ := hR
   refine wp_seq ?_
   refine rs S (tr (mv rfl)<|la (lssi rfl rfl)) ?_; clear S; intro a u S
   refine cd S rfl ?_ ?_
   ·intro hc34
    refine wp_skip (then_n (wp_seq (wp_block (rs0 ?_))))
    refine sp S (la (mv rfl)) ?_; clear S; intro a u S
    refine cl S (jDecode _ _ S.x (.nil _) xx (dn0 (S.u 3 rfl))) cB23 ?_
    rintro e u ⟨ra_t590, rc_t590, rfl, R_t590, T0⟩; refine ⟨_, rfl, fun a s => ?_⟩
    replace S := S.kr [⟨_, recE, 24, ra_t590, rc_t590, recsP xx.xs (decN xx.xs)⟩] s T0 ⟨R_t590, trivial⟩; clear s T0 R_t590
    refine ens S (tr (mv rfl)<|tr (exi rfl rfl)<|tr (exi rfl rfl)<|tr (av rfl)<|la (av rfl)) ?_; clear S; intro a u S
    refine rs0 ?_
    refine sp S (la (mv rfl)) ?_; clear S; intro a u S
    refine cl S (rDecode _ _ S.x (.nil _) xx (dn0 (S.u 3 rfl))) cB27 ?_
    rintro e u ⟨ra_t640, rc_t640, rfl, R_t640, T0⟩; refine ⟨_, rfl, fun a s => ?_⟩
    replace S := S.kr [⟨_, recE, 24, ra_t640, rc_t640, recsP xx.xs (decN xx.xs)⟩] s T0 ⟨R_t640, trivial⟩; clear s T0 R_t640
    refine ens S (tr (mv rfl)<|tr (exi rfl rfl)<|tr (exi rfl rfl)<|tr (av rfl)<|la (av rfl)) ?_; clear S; intro a u S
    refine wp_seq (rs0 ?_)
    refine sp S (tr (mv rfl)<|tr (mv rfl)<|tr (neqi rfl rfl)<|la (mv rfl)) ?_; clear S; intro a u S
    refine (Classical.em (¬ ((14 * decN xx.xs : Nat) : Int) = ((14 * decN xx.xs : Nat) : Int))).elim (fun hs142 => ?_) (fun hs142 => ?_)
    ·replace S := S.ext (d := 70) (v := .bool true) ((S.get 70 rfl).trans (congrArg Value.bool (decide_eq_true hs142)))
     refine ens S (tr (goff 70 rfl)<|tr (goff 70 rfl)<|tr (goff 70 rfl)<|tr (goff 70 rfl)<|la (ov fun S=>x_pickt (S.e rfl) (S.e rfl))) ?_; clear S; intro a u S
     refine cdt S rfl ?_
     refine rs S (la (av rfl)) ?_; clear S; intro a u S
     refine wp_ret (then_r (blk_r (then_r (then_r (blk_r (then_r ?_))))))
     refine ret1 rfl S.s rfl ?_
     replace S := S.pk []
     refine ⟨(r1 (vf ?_)), S.m.c⟩
     first
     | exact Iff.rfl
     | (exact fun _ => absurd rfl hs142)
    replace S := S.ext (d := 70) (v := .bool false) ((S.get 70 rfl).trans (congrArg Value.bool (decide_eq_false hs142)))
    refine ens S (tr (gon 70 rfl fun S=>x_move (S.e rfl))<|tr (gon 70 rfl fun S=>x_move (S.e rfl))<|tr (ocon 70 rfl (fun S=>rSameL _ _ (S.xx [abk ra_t590, abk ra_t640]) (.nil _) (Sl.mk ra_t590 rc_t590 (recsP xx.xs (decN xx.xs))) (S.rargD hD 3 rfl (by first | decide | exact Nat.one_pos | exact Nat.succ_pos _) _ (by simp)) (Sl.mk ra_t640 rc_t640 (recsP xx.xs (decN xx.xs))) (S.rargD hD 4 rfl (by first | decide | exact Nat.one_pos | exact Nat.succ_pos _) _ (by simp))) cB28)<|tr (gon 70 rfl fun S=>x_notp (S.e rfl))<|la (ov fun S=>x_pickf (S.e rfl) (S.e rfl))) ?_; clear S; intro a u S
    refine cd S rfl ?_ ?_
    ·intro hc35
     refine rs S (la (av rfl)) ?_; clear S; intro a u S
     refine wp_ret (then_r (blk_r (then_r (then_r (blk_r (then_r ?_))))))
     refine ret1 rfl S.s rfl ?_
     replace S := S.pk []
     refine ⟨(r1 (vf ?_)), S.m.c⟩
     first
     | exact Iff.rfl
     | (exact fun _ => absurd rfl hc35)
    intro hc36
    refine wp_skip (then_n (wp_seq ?_))
    refine rs S (tr (mv rfl)<|la (eqli rfl rfl)) ?_; clear S; intro a u S
    refine cd S rfl ?_ ?_
    ·intro hc37
     refine r0 ?_
     refine nbr (q := 0) u8E S [] (x_bsl0 uT28 iZ5) (fun _ h => by simp at h) ?_; clear S; intro a u b78 S
     refine sp S (la (mv rfl)) ?_; clear S; intro a u S
     refine ap (E := u8E) (ys := xx.xs) S 5 rfl uT28 iZ5 rfl rfl ((S.u 3 rfl)).1 ((S.u 3 rfl)).2.2 (LAt.mem ((S.u 3 rfl)).1) ⟨by unfold maxLen; (try simp only [List.length_cons, List.length_nil, List.length_append, List.length_map]); omega, by (try simp only [List.length_cons, List.length_nil, List.length_append, List.length_map]); omega⟩ ?_; clear S; intro a u ad80 cap80 S
     refine sp S (la (mv rfl)) ?_; clear S; intro a u S
     refine ap (E := u8E) (ys := bb.xs) S 5 rfl uT28 iZ5 rfl rfl ((S.u 4 rfl)).1 ((S.u 4 rfl)).2.2 (LAt.mem ((S.u 4 rfl)).1) ⟨by unfold maxLen; (try simp only [List.length_cons, List.length_nil, List.length_append, List.length_map]); omega, by (try simp only [List.length_cons, List.length_nil, List.length_append, List.length_map]); omega⟩ ?_; clear S; intro a u ad82 cap82 S
     refine ens S (la (av rfl)) ?_; clear S; intro a u S
     refine rg S (tr (mv rfl)<|la (av rfl)) ?_; clear S; intro a u S
     refine blk_n (then_n ?_)
     refine rg S (tr (mv rfl)<|tr (addi ((i + 1 : Nat) : Int) rfl rfl (w_i64 (by omega)))<|la (av rfl)) ?_; clear S; intro a u S
     replace S := S.fz 5 rfl
     have hfr149 := (S.u 5 rfl)
     have hfr150 := (S.u 5 rfl)
     have hfr151 := (S.u 5 rfl)
     have hfr152 := (S.u 5 rfl)
     replace S := S.rt 3
     replace S := S.ar (wfF (slE u8E) (Sl.mk ad82 cap82 (([] ++ xx.xs) ++ bb.xs))) hfr151
     replace S := S.ar (wfF (slE u8E) (Sl.mk ad82 cap82 (([] ++ xx.xs) ++ bb.xs))) hfr152
     refine then_n ?_
     refine ⟨(i + 1), (Sl.mk ad82 cap82 (([] ++ xx.xs) ++ bb.xs)), (Sl.mk ad82 cap82 (([] ++ xx.xs) ++ bb.xs)), S.re (subM rfl) rfl rfl, ?_, ?_⟩
     ·refine ⟨by omega, by (first | omega | (dsimp only; omega) | (simp only [List.length_take, List.length_append, List.length_set, List.length_nil, List.nil_append]; omega) | (dsimp only; simp only [List.length_take, List.length_append, List.length_set, List.length_nil, List.nil_append]; omega)), by (first | omega | (dsimp only; omega) | (simp only [List.length_take, List.length_append, List.length_set, List.length_nil, List.nil_append]; omega) | (dsimp only; simp only [List.length_take, List.length_append, List.length_set, List.length_nil, List.nil_append]; omega)), fun hq => ?_⟩
      have := hi1 (by omega)
      exact ⟨by (first | omega | (dsimp only; omega) | (simp only [List.length_take, List.length_append, List.length_set, List.length_nil, List.nil_append]; omega) | (dsimp only; simp only [List.length_take, List.length_append, List.length_set, List.length_nil, List.nil_append]; omega)), by (first | omega | (dsimp only; omega) | (simp only [List.length_take, List.length_append, List.length_set, List.length_nil, List.nil_append]; omega) | (dsimp only; simp only [List.length_take, List.length_append, List.length_set, List.length_nil, List.nil_append]; omega))⟩
     omega
    intro hc38
    refine wp_skip (then_n ?_)
    refine rg S (tr (mv rfl)<|la (av rfl)) ?_; clear S; intro a u S
    refine blk_n (then_n ?_)
    refine rg S (tr (mv rfl)<|tr (addi ((i + 1 : Nat) : Int) rfl rfl (w_i64 (by omega)))<|la (av rfl)) ?_; clear S; intro a u S
    have hfr155 := (S.u 4 rfl)
    have hfr156 := (S.u 4 rfl)
    have hfr157 := (S.u 4 rfl)
    have hfr158 := (S.u 4 rfl)
    replace S := S.rt 3
    replace S := S.ar (wfF (slE u8E) bb) hfr157
    replace S := S.ar (wfF (slE u8E) bb) hfr158
    refine then_n ?_
    refine ⟨(i + 1), bb, bb, S.re (subM rfl) rfl rfl, ?_, ?_⟩
    ·refine ⟨by omega, by (first | omega | (dsimp only; omega) | (simp only [List.length_take, List.length_append, List.length_set, List.length_nil, List.nil_append]; omega) | (dsimp only; simp only [List.length_take, List.length_append, List.length_set, List.length_nil, List.nil_append]; omega)), by (first | omega | (dsimp only; omega) | (simp only [List.length_take, List.length_append, List.length_set, List.length_nil, List.nil_append]; omega) | (dsimp only; simp only [List.length_take, List.length_append, List.length_set, List.length_nil, List.nil_append]; omega)), fun hq => ?_⟩
     have := hi1 (by omega)
     exact ⟨by (first | omega | (dsimp only; omega) | (simp only [List.length_take, List.length_append, List.length_set, List.length_nil, List.nil_append]; omega) | (dsimp only; simp only [List.length_take, List.length_append, List.length_set, List.length_nil, List.nil_append]; omega)), by (first | omega | (dsimp only; omega) | (simp only [List.length_take, List.length_append, List.length_set, List.length_nil, List.nil_append]; omega) | (dsimp only; simp only [List.length_take, List.length_append, List.length_set, List.length_nil, List.nil_append]; omega))⟩
    omega
   intro hc39
   refine wp_exit (then_e (then_e (blk_e (then_n ?_))))
   refine rs S (tr (oc (fun S=>lSane _ _ S.x (.nil _)) cB24)<|la (av rfl)) ?_; clear S; intro a u S
   refine wp_ret ?_
   refine ret1 rfl S.s rfl ?_
   replace S := S.pk []
   refine ⟨(r1 (vb ?_)), S.m.c⟩
   first
   | exact Iff.rfl
   | (exact fun _ => absurd rfl hc39)
  intro hc40
  refine wp_skip (then_n (wp_seq ?_))
  refine rs S (la (av rfl)) ?_; clear S; intro a u S
  refine wp_block ?_
  replace S := S.fz 2 rfl
  have hfr161 := (S.u 2 rfl)
  have hfr162 := (S.u 1 rfl)
  replace S := (S.ar (wfF (slE u8E) (Sl.mk ra_t171 rc_t171 (bytesJ rx_t170))) hfr161).ar (wfF (slE u8E) b) hfr162
  refine lq3 (fun (i : Nat) (xx : Sl Int) (bb : Sl Int) => [(8, iN i), (7, sV xx), (1, sV bb)]) (fun (i : Nat) (xx : Sl Int) (bb : Sl Int) => [wfF (slE intE) l, wfF (slE u8E) b, wfF (slE u8E) (Sl.mk ra_t171 rc_t171 (bytesJ rx_t170)), wfF (slE u8E) xx, wfF (slE u8E) bb]) (fun (i : Nat) (xx : Sl Int) (bb : Sl Int) => [tpO 112 T14 l, rwO recE 24 w.heap.size ra_t170 rc_t170 rx_t170, noO]) (fun (i : Nat) (xx : Sl Int) (bb : Sl Int) => i ≤ 3 ∧ xx.xs.length ≤ 20000 ∧ bb.xs.length ≤ 20000 ∧ (i ≤ 1 → xx.xs.length ≤ 5112 ∧ bb.xs.length ≤ 5000)) (fun (i : Nat) (xx : Sl Int) (bb : Sl Int) => 3 - i) S 0 (Sl.mk ra_t171 rc_t171 (bytesJ rx_t170)) b (subM rfl) rfl rfl ?_ ?_
  ·exact ⟨Nat.zero_le _, by (first | omega | (dsimp only; omega) | (simp only [List.length_take, List.length_append, List.length_set, List.length_nil, List.nil_append]; omega) | (dsimp only; simp only [List.length_take, List.length_append, List.length_set, List.length_nil, List.nil_append]; omega)), by (first | omega | (dsimp only; omega) | (simp only [List.length_take, List.length_append, List.length_set, List.length_nil, List.nil_append]; omega) | (dsimp only; simp only [List.length_take, List.length_append, List.length_set, List.length_nil, List.nil_append]; omega)), fun _ => ⟨by (first | omega | (dsimp only; omega) | (simp only [List.length_take, List.length_append, List.length_set, List.length_nil, List.nil_append]; omega) | (dsimp only; simp only [List.length_take, List.length_append, List.length_set, List.length_nil, List.nil_append]; omega)), by (first | omega | (dsimp only; omega) | (simp only [List.length_take, List.length_append, List.length_set, List.length_nil, List.nil_append]; omega) | (dsimp only; simp only [List.length_take, List.length_append, List.length_set, List.length_nil, List.nil_append]; omega))⟩⟩
  clear S; intro i xx bb a u S hR
  obtain ⟨hi, hxl, hbl, hi1⟩ := hR
  refine wp_seq ?_
  refine rs S (tr (mv rfl)<|la (lssi rfl rfl)) ?_; clear S; intro a u S
  refine cd S rfl ?_ ?_
  ·intro hc41
   refine wp_skip (then_n (wp_seq (wp_block (rs0 ?_))))
   refine sp S (la (mv rfl)) ?_; clear S; intro a u S
   refine cl S (jDecode _ _ S.x (.nil _) xx (dn0 (S.u 3 rfl))) cB23 ?_
   rintro e u ⟨ra_t590, rc_t590, rfl, R_t590, T0⟩; refine ⟨_, rfl, fun a s => ?_⟩
   replace S := S.kr [⟨_, recE, 24, ra_t590, rc_t590, recsP xx.xs (decN xx.xs)⟩] s T0 ⟨R_t590, trivial⟩; clear s T0 R_t590
   refine ens S (tr (mv rfl)<|tr (exi rfl rfl)<|tr (exi rfl rfl)<|tr (av rfl)<|la (av rfl)) ?_; clear S; intro a u S
   refine rs0 ?_
   refine sp S (la (mv rfl)) ?_; clear S; intro a u S
   refine cl S (rDecode _ _ S.x (.nil _) xx (dn0 (S.u 3 rfl))) cB27 ?_
   rintro e u ⟨ra_t640, rc_t640, rfl, R_t640, T0⟩; refine ⟨_, rfl, fun a s => ?_⟩
   replace S := S.kr [⟨_, recE, 24, ra_t640, rc_t640, recsP xx.xs (decN xx.xs)⟩] s T0 ⟨R_t640, trivial⟩; clear s T0 R_t640
   refine ens S (tr (mv rfl)<|tr (exi rfl rfl)<|tr (exi rfl rfl)<|tr (av rfl)<|la (av rfl)) ?_; clear S; intro a u S
   refine wp_seq (rs0 ?_)
   refine sp S (tr (mv rfl)<|tr (mv rfl)<|tr (neqi rfl rfl)<|la (mv rfl)) ?_; clear S; intro a u S
   refine (Classical.em (¬ ((14 * decN xx.xs : Nat) : Int) = ((14 * decN xx.xs : Nat) : Int))).elim (fun hs167 => ?_) (fun hs167 => ?_)
   ·replace S := S.ext (d := 70) (v := .bool true) ((S.get 70 rfl).trans (congrArg Value.bool (decide_eq_true hs167)))
    refine ens S (tr (goff 70 rfl)<|tr (goff 70 rfl)<|tr (goff 70 rfl)<|tr (goff 70 rfl)<|la (ov fun S=>x_pickt (S.e rfl) (S.e rfl))) ?_; clear S; intro a u S
    refine cdt S rfl ?_
    refine rs S (la (av rfl)) ?_; clear S; intro a u S
    refine wp_ret (then_r (blk_r (then_r (then_r (blk_r (then_r ?_))))))
    refine ret1 rfl S.s rfl ?_
    replace S := S.pk []
    refine ⟨(r1 (vf ?_)), S.m.c⟩
    first
    | exact Iff.rfl
    | (exact fun _ => absurd rfl hs167)
   replace S := S.ext (d := 70) (v := .bool false) ((S.get 70 rfl).trans (congrArg Value.bool (decide_eq_false hs167)))
   refine ens S (tr (gon 70 rfl fun S=>x_move (S.e rfl))<|tr (gon 70 rfl fun S=>x_move (S.e rfl))<|tr (ocon 70 rfl (fun S=>rSameL _ _ (S.xx [abk ra_t590, abk ra_t640]) (.nil _) (Sl.mk ra_t590 rc_t590 (recsP xx.xs (decN xx.xs))) (S.rargD hD 3 rfl (by first | decide | exact Nat.one_pos | exact Nat.succ_pos _) _ (by simp)) (Sl.mk ra_t640 rc_t640 (recsP xx.xs (decN xx.xs))) (S.rargD hD 4 rfl (by first | decide | exact Nat.one_pos | exact Nat.succ_pos _) _ (by simp))) cB28)<|tr (gon 70 rfl fun S=>x_notp (S.e rfl))<|la (ov fun S=>x_pickf (S.e rfl) (S.e rfl))) ?_; clear S; intro a u S
   refine cd S rfl ?_ ?_
   ·intro hc42
    refine rs S (la (av rfl)) ?_; clear S; intro a u S
    refine wp_ret (then_r (blk_r (then_r (then_r (blk_r (then_r ?_))))))
    refine ret1 rfl S.s rfl ?_
    replace S := S.pk []
    refine ⟨(r1 (vf ?_)), S.m.c⟩
    first
    | exact Iff.rfl
    | (exact fun _ => absurd rfl hc42)
   intro hc43
   refine wp_skip (then_n (wp_seq ?_))
   refine rs S (tr (mv rfl)<|la (eqli rfl rfl)) ?_; clear S; intro a u S
   refine cd S rfl ?_ ?_
   ·intro hc44
    refine r0 ?_
    refine nbr (q := 0) u8E S [] (x_bsl0 uT28 iZ5) (fun _ h => by simp at h) ?_; clear S; intro a u b78 S
    refine sp S (la (mv rfl)) ?_; clear S; intro a u S
    refine ap (E := u8E) (ys := xx.xs) S 5 rfl uT28 iZ5 rfl rfl ((S.u 3 rfl)).1 ((S.u 3 rfl)).2.2 (LAt.mem ((S.u 3 rfl)).1) ⟨by unfold maxLen; (try simp only [List.length_cons, List.length_nil, List.length_append, List.length_map]); omega, by (try simp only [List.length_cons, List.length_nil, List.length_append, List.length_map]); omega⟩ ?_; clear S; intro a u ad80 cap80 S
    refine sp S (la (mv rfl)) ?_; clear S; intro a u S
    refine ap (E := u8E) (ys := bb.xs) S 5 rfl uT28 iZ5 rfl rfl ((S.u 4 rfl)).1 ((S.u 4 rfl)).2.2 (LAt.mem ((S.u 4 rfl)).1) ⟨by unfold maxLen; (try simp only [List.length_cons, List.length_nil, List.length_append, List.length_map]); omega, by (try simp only [List.length_cons, List.length_nil, List.length_append, List.length_map]); omega⟩ ?_; clear S; intro a u ad82 cap82 S
    refine ens S (la (av rfl)) ?_; clear S; intro a u S
    refine rg S (tr (mv rfl)<|la (av rfl)) ?_; clear S; intro a u S
    refine blk_n (then_n ?_)
    refine rg S (tr (mv rfl)<|tr (addi ((i + 1 : Nat) : Int) rfl rfl (w_i64 (by omega)))<|la (av rfl)) ?_; clear S; intro a u S
    replace S := S.fz 5 rfl
    have hfr174 := (S.u 5 rfl)
    have hfr175 := (S.u 5 rfl)
    have hfr176 := (S.u 5 rfl)
    have hfr177 := (S.u 5 rfl)
    replace S := S.rt 3
    replace S := S.ar (wfF (slE u8E) (Sl.mk ad82 cap82 (([] ++ xx.xs) ++ bb.xs))) hfr176
    replace S := S.ar (wfF (slE u8E) (Sl.mk ad82 cap82 (([] ++ xx.xs) ++ bb.xs))) hfr177
    refine then_n ?_
    refine ⟨(i + 1), (Sl.mk ad82 cap82 (([] ++ xx.xs) ++ bb.xs)), (Sl.mk ad82 cap82 (([] ++ xx.xs) ++ bb.xs)), S.re (subM rfl) rfl rfl, ?_, ?_⟩
    ·refine ⟨by omega, by (first | omega | (dsimp only; omega) | (simp only [List.length_take, List.length_append, List.length_set, List.length_nil, List.nil_append]; omega) | (dsimp only; simp only [List.length_take, List.length_append, List.length_set, List.length_nil, List.nil_append]; omega)), by (first | omega | (dsimp only; omega) | (simp only [List.length_take, List.length_append, List.length_set, List.length_nil, List.nil_append]; omega) | (dsimp only; simp only [List.length_take, List.length_append, List.length_set, List.length_nil, List.nil_append]; omega)), fun hq => ?_⟩
     have := hi1 (by omega)
     exact ⟨by (first | omega | (dsimp only; omega) | (simp only [List.length_take, List.length_append, List.length_set, List.length_nil, List.nil_append]; omega) | (dsimp only; simp only [List.length_take, List.length_append, List.length_set, List.length_nil, List.nil_append]; omega)), by (first | omega | (dsimp only; omega) | (simp only [List.length_take, List.length_append, List.length_set, List.length_nil, List.nil_append]; omega) | (dsimp only; simp only [List.length_take, List.length_append, List.length_set, List.length_nil, List.nil_append]; omega))⟩
    omega
   intro hc45
   refine wp_skip (then_n ?_)
   refine rg S (tr (mv rfl)<|la (av rfl)) ?_; clear S; intro a u S
   refine blk_n (then_n ?_)
   refine rg S (tr (mv rfl)<|tr (addi ((i + 1 : Nat) : Int) rfl rfl (w_i64 (by omega)))<|la (av rfl)) ?_; clear S; intro a u S
   have hfr180 := (S.u 4 rfl)
   have hfr181 := (S.u 4 rfl)
   have hfr182 := (S.u 4 rfl)
   have hfr183 := (S.u 4 rfl)
   replace S := S.rt 3
   replace S := S.ar (wfF (slE u8E) bb) hfr182
   replace S := S.ar (wfF (slE u8E) bb) hfr183
   refine then_n ?_
   refine ⟨(i + 1), bb, bb, S.re (subM rfl) rfl rfl, ?_, ?_⟩
   ·refine ⟨by omega, by (first | omega | (dsimp only; omega) | (simp only [List.length_take, List.length_append, List.length_set, List.length_nil, List.nil_append]; omega) | (dsimp only; simp only [List.length_take, List.length_append, List.length_set, List.length_nil, List.nil_append]; omega)), by (first | omega | (dsimp only; omega) | (simp only [List.length_take, List.length_append, List.length_set, List.length_nil, List.nil_append]; omega) | (dsimp only; simp only [List.length_take, List.length_append, List.length_set, List.length_nil, List.nil_append]; omega)), fun hq => ?_⟩
    have := hi1 (by omega)
    exact ⟨by (first | omega | (dsimp only; omega) | (simp only [List.length_take, List.length_append, List.length_set, List.length_nil, List.nil_append]; omega) | (dsimp only; simp only [List.length_take, List.length_append, List.length_set, List.length_nil, List.nil_append]; omega)), by (first | omega | (dsimp only; omega) | (simp only [List.length_take, List.length_append, List.length_set, List.length_nil, List.nil_append]; omega) | (dsimp only; simp only [List.length_take, List.length_append, List.length_set, List.length_nil, List.nil_append]; omega))⟩
   omega
  intro hc46
  refine wp_exit (then_e (then_e (blk_e (then_n ?_))))
  refine rs S (tr (oc (fun S=>lSane _ _ S.x (.nil _)) cB24)<|la (av rfl)) ?_; clear S; intro a u S
  refine wp_ret ?_
  refine ret1 rfl S.s rfl ?_
  replace S := S.pk []
  refine ⟨(r1 (vb ?_)), S.m.c⟩
  first
  | exact Iff.rfl
  | (exact fun _ => absurd rfl hc46)
 intro hc47
 refine wp_skip (then_n (wp_seq ?_))
 have hn186 : b.xs.length ≤ 9223372036854775807 := ((S.u 1 rfl)).1.len
 refine rs S (tr (mv rfl)<|tr (leni uT28 rfl)<|la (gtri rfl rfl)) ?_; clear S; intro a u S
 refine cd S rfl ?_ ?_
 ·intro hc48
  have hk188 : (b.xs.take 5000).length = 5000 := by rw [List.length_take]; first | omega | (simp only [List.length_cons, List.length_nil]; omega)
  refine rg S (tr (mv rfl)<|tr (ov (v := .slice b.a ((b.xs.take 5000).length) b.c) fun S=>x_slhn uT28 iZ5 (S.e rfl) (S.e rfl) 5000 rfl (Nat.le_trans (by omega) ((S.u 1 rfl)).2.1) ((S.u 1 rfl)).2.2 _ (by rw [List.length_take]; first | omega | (simp only [List.length_cons, List.length_nil]; omega)))<|la (av rfl)) ?_; clear S; intro a u S
  refine then_n (wp_seq ?_)
  refine rs S (la (av rfl)) ?_; clear S; intro a u S
  refine wp_block ?_
  replace S := S.fz 2 rfl
  have hfr190 := (S.u 2 rfl)
  have hfr191 := (sl_take (S.u 1 rfl) 5000 (by omega))
  replace S := (S.ar (wfF (slE u8E) (Sl.mk ra_t171 rc_t171 (bytesJ rx_t170))) hfr190).ar (wfF (slE u8E) (Sl.mk b.a b.c (b.xs.take 5000))) hfr191
  refine lq3 (fun (i : Nat) (xx : Sl Int) (bb : Sl Int) => [(8, iN i), (7, sV xx), (1, sV bb)]) (fun (i : Nat) (xx : Sl Int) (bb : Sl Int) => [wfF (slE intE) l, wfF (slE u8E) b, wfF (slE u8E) (Sl.mk ra_t171 rc_t171 (bytesJ rx_t170)), wfF (slE u8E) xx, wfF (slE u8E) bb]) (fun (i : Nat) (xx : Sl Int) (bb : Sl Int) => [tpO 112 T14 l, rwO recE 24 w.heap.size ra_t170 rc_t170 rx_t170, noO]) (fun (i : Nat) (xx : Sl Int) (bb : Sl Int) => i ≤ 3 ∧ xx.xs.length ≤ 20000 ∧ bb.xs.length ≤ 20000 ∧ (i ≤ 1 → xx.xs.length ≤ 5112 ∧ bb.xs.length ≤ 5000)) (fun (i : Nat) (xx : Sl Int) (bb : Sl Int) => 3 - i) S 0 (Sl.mk ra_t171 rc_t171 (bytesJ rx_t170)) (Sl.mk b.a b.c (b.xs.take 5000)) (subM rfl) rfl rfl ?_ ?_
  ·exact ⟨Nat.zero_le _, by (first | omega | (dsimp only; omega) | (simp only [List.length_take, List.length_append, List.length_set, List.length_nil, List.nil_append]; omega) | (dsimp only; simp only [List.length_take, List.length_append, List.length_set, List.length_nil, List.nil_append]; omega)), by (first | omega | (dsimp only; omega) | (simp only [List.length_take, List.length_append, List.length_set, List.length_nil, List.nil_append]; omega) | (dsimp only; simp only [List.length_take, List.length_append, List.length_set, List.length_nil, List.nil_append]; omega)), fun _ => ⟨by (first | omega | (dsimp only; omega) | (simp only [List.length_take, List.length_append, List.length_set, List.length_nil, List.nil_append]; omega) | (dsimp only; simp only [List.length_take, List.length_append, List.length_set, List.length_nil, List.nil_append]; omega)), by (first | omega | (dsimp only; omega) | (simp only [List.length_take, List.length_append, List.length_set, List.length_nil, List.nil_append]; omega) | (dsimp only; simp only [List.length_take, List.length_append, List.length_set, List.length_nil, List.nil_append]; omega))⟩⟩
  clear S; intro i xx bb a u S hR
  obtain ⟨hi, hxl, hbl, hi1⟩ := hR
  refine wp_seq ?_
  refine rs S (tr (mv rfl)<|la (lssi rfl rfl)) ?_; clear S; intro a u S
  refine cd S rfl ?_ ?_
  ·intro hc49
   refine wp_skip (then_n (wp_seq (wp_block (rs0 ?_))))
   refine sp S (la (mv rfl)) ?_; clear S; intro a u S
   refine cl S (jDecode _ _ S.x (.nil _) xx (dn0 (S.u 3 rfl))) cB23 ?_
   rintro e u ⟨ra_t590, rc_t590, rfl, R_t590, T0⟩; refine ⟨_, rfl, fun a s => ?_⟩
   replace S := S.kr [⟨_, recE, 24, ra_t590, rc_t590, recsP xx.xs (decN xx.xs)⟩] s T0 ⟨R_t590, trivial⟩; clear s T0 R_t590
   refine ens S (tr (mv rfl)<|tr (exi rfl rfl)<|tr (exi rfl rfl)<|tr (av rfl)<|la (av rfl)) ?_; clear S; intro a u S
   refine rs0 ?_
   refine sp S (la (mv rfl)) ?_; clear S; intro a u S
   refine cl S (rDecode _ _ S.x (.nil _) xx (dn0 (S.u 3 rfl))) cB27 ?_
   rintro e u ⟨ra_t640, rc_t640, rfl, R_t640, T0⟩; refine ⟨_, rfl, fun a s => ?_⟩
   replace S := S.kr [⟨_, recE, 24, ra_t640, rc_t640, recsP xx.xs (decN xx.xs)⟩] s T0 ⟨R_t640, trivial⟩; clear s T0 R_t640
   refine ens S (tr (mv rfl)<|tr (exi rfl rfl)<|tr (exi rfl rfl)<|tr (av rfl)<|la (av rfl)) ?_; clear S; intro a u S
   refine wp_seq (rs0 ?_)
   refine sp S (tr (mv rfl)<|tr (mv rfl)<|tr (neqi rfl rfl)<|la (mv rfl)) ?_; clear S; intro a u S
   refine (Classical.em (¬ ((14 * decN xx.xs : Nat) : Int) = ((14 * decN xx.xs : Nat) : Int))).elim (fun hs196 => ?_) (fun hs196 => ?_)
   ·replace S := S.ext (d := 70) (v := .bool true) ((S.get 70 rfl).trans (congrArg Value.bool (decide_eq_true hs196)))
    refine ens S (tr (goff 70 rfl)<|tr (goff 70 rfl)<|tr (goff 70 rfl)<|tr (goff 70 rfl)<|la (ov fun S=>x_pickt (S.e rfl) (S.e rfl))) ?_; clear S; intro a u S
    refine cdt S rfl ?_
    refine rs S (la (av rfl)) ?_; clear S; intro a u S
    refine wp_ret (then_r (blk_r (then_r (then_r (blk_r (then_r ?_))))))
    refine ret1 rfl S.s rfl ?_
    replace S := S.pk []
    refine ⟨(r1 (vf ?_)), S.m.c⟩
    first
    | exact Iff.rfl
    | (exact fun _ => absurd rfl hs196)
   replace S := S.ext (d := 70) (v := .bool false) ((S.get 70 rfl).trans (congrArg Value.bool (decide_eq_false hs196)))
   refine ens S (tr (gon 70 rfl fun S=>x_move (S.e rfl))<|tr (gon 70 rfl fun S=>x_move (S.e rfl))<|tr (ocon 70 rfl (fun S=>rSameL _ _ (S.xx [abk ra_t590, abk ra_t640]) (.nil _) (Sl.mk ra_t590 rc_t590 (recsP xx.xs (decN xx.xs))) (S.rargD hD 3 rfl (by first | decide | exact Nat.one_pos | exact Nat.succ_pos _) _ (by simp)) (Sl.mk ra_t640 rc_t640 (recsP xx.xs (decN xx.xs))) (S.rargD hD 4 rfl (by first | decide | exact Nat.one_pos | exact Nat.succ_pos _) _ (by simp))) cB28)<|tr (gon 70 rfl fun S=>x_notp (S.e rfl))<|la (ov fun S=>x_pickf (S.e rfl) (S.e rfl))) ?_; clear S; intro a u S
   refine cd S rfl ?_ ?_
   ·intro hc50
    refine rs S (la (av rfl)) ?_; clear S; intro a u S
    refine wp_ret (then_r (blk_r (then_r (then_r (blk_r (then_r ?_))))))
    refine ret1 rfl S.s rfl ?_
    replace S := S.pk []
    refine ⟨(r1 (vf ?_)), S.m.c⟩
    first
    | exact Iff.rfl
    | (exact fun _ => absurd rfl hc50)
   intro hc51
   refine wp_skip (then_n (wp_seq ?_))
   refine rs S (tr (mv rfl)<|la (eqli rfl rfl)) ?_; clear S; intro a u S
   refine cd S rfl ?_ ?_
   ·intro hc52
    refine r0 ?_
    refine nbr (q := 0) u8E S [] (x_bsl0 uT28 iZ5) (fun _ h => by simp at h) ?_; clear S; intro a u b78 S
    refine sp S (la (mv rfl)) ?_; clear S; intro a u S
    refine ap (E := u8E) (ys := xx.xs) S 5 rfl uT28 iZ5 rfl rfl ((S.u 3 rfl)).1 ((S.u 3 rfl)).2.2 (LAt.mem ((S.u 3 rfl)).1) ⟨by unfold maxLen; (try simp only [List.length_cons, List.length_nil, List.length_append, List.length_map]); omega, by (try simp only [List.length_cons, List.length_nil, List.length_append, List.length_map]); omega⟩ ?_; clear S; intro a u ad80 cap80 S
    refine sp S (la (mv rfl)) ?_; clear S; intro a u S
    refine ap (E := u8E) (ys := bb.xs) S 5 rfl uT28 iZ5 rfl rfl ((S.u 4 rfl)).1 ((S.u 4 rfl)).2.2 (LAt.mem ((S.u 4 rfl)).1) ⟨by unfold maxLen; (try simp only [List.length_cons, List.length_nil, List.length_append, List.length_map]); omega, by (try simp only [List.length_cons, List.length_nil, List.length_append, List.length_map]); omega⟩ ?_; clear S; intro a u ad82 cap82 S
    refine ens S (la (av rfl)) ?_; clear S; intro a u S
    refine rg S (tr (mv rfl)<|la (av rfl)) ?_; clear S; intro a u S
    refine blk_n (then_n ?_)
    refine rg S (tr (mv rfl)<|tr (addi ((i + 1 : Nat) : Int) rfl rfl (w_i64 (by omega)))<|la (av rfl)) ?_; clear S; intro a u S
    replace S := S.fz 5 rfl
    have hfr203 := (S.u 5 rfl)
    have hfr204 := (S.u 5 rfl)
    have hfr205 := (S.u 5 rfl)
    have hfr206 := (S.u 5 rfl)
    replace S := S.rt 3
    replace S := S.ar (wfF (slE u8E) (Sl.mk ad82 cap82 (([] ++ xx.xs) ++ bb.xs))) hfr205
    replace S := S.ar (wfF (slE u8E) (Sl.mk ad82 cap82 (([] ++ xx.xs) ++ bb.xs))) hfr206
    refine then_n ?_
    refine ⟨(i + 1), (Sl.mk ad82 cap82 (([] ++ xx.xs) ++ bb.xs)), (Sl.mk ad82 cap82 (([] ++ xx.xs) ++ bb.xs)), S.re (subM rfl) rfl rfl, ?_, ?_⟩
    ·refine ⟨by omega, by (first | omega | (dsimp only; omega) | (simp only [List.length_take, List.length_append, List.length_set, List.length_nil, List.nil_append]; omega) | (dsimp only; simp only [List.length_take, List.length_append, List.length_set, List.length_nil, List.nil_append]; omega)), by (first | omega | (dsimp only; omega) | (simp only [List.length_take, List.length_append, List.length_set, List.length_nil, List.nil_append]; omega) | (dsimp only; simp only [List.length_take, List.length_append, List.length_set, List.length_nil, List.nil_append]; omega)), fun hq => ?_⟩
     have := hi1 (by omega)
     exact ⟨by (first | omega | (dsimp only; omega) | (simp only [List.length_take, List.length_append, List.length_set, List.length_nil, List.nil_append]; omega) | (dsimp only; simp only [List.length_take, List.length_append, List.length_set, List.length_nil, List.nil_append]; omega)), by (first | omega | (dsimp only; omega) | (simp only [List.length_take, List.length_append, List.length_set, List.length_nil, List.nil_append]; omega) | (dsimp only; simp only [List.length_take, List.length_append, List.length_set, List.length_nil, List.nil_append]; omega))⟩
    omega
   intro hc53
   refine wp_skip (then_n ?_)
   refine rg S (tr (mv rfl)<|la (av rfl)) ?_; clear S; intro a u S
   refine blk_n (then_n ?_)
   refine rg S (tr (mv rfl)<|tr (addi ((i + 1 : Nat) : Int) rfl rfl (w_i64 (by omega)))<|la (av rfl)) ?_; clear S; intro a u S
   have hfr209 := (S.u 4 rfl)
   have hfr210 := (S.u 4 rfl)
   have hfr211 := (S.u 4 rfl)
   have hfr212 := (S.u 4 rfl)
   replace S := S.rt 3
   replace S := S.ar (wfF (slE u8E) bb) hfr211
   replace S := S.ar (wfF (slE u8E) bb) hfr212
   refine then_n ?_
   refine ⟨(i + 1), bb, bb, S.re (subM rfl) rfl rfl, ?_, ?_⟩
   ·refine ⟨by omega, by (first | omega | (dsimp only; omega) | (simp only [List.length_take, List.length_append, List.length_set, List.length_nil, List.nil_append]; omega) | (dsimp only; simp only [List.length_take, List.length_append, List.length_set, List.length_nil, List.nil_append]; omega)), by (first | omega | (dsimp only; omega) | (simp only [List.length_take, List.length_append, List.length_set, List.length_nil, List.nil_append]; omega) | (dsimp only; simp only [List.length_take, List.length_append, List.length_set, List.length_nil, List.nil_append]; omega)), fun hq => ?_⟩
    have := hi1 (by omega)
    exact ⟨by (first | omega | (dsimp only; omega) | (simp only [List.length_take, List.length_append, List.length_set, List.length_nil, List.nil_append]; omega) | (dsimp only; simp only [List.length_take, List.length_append, List.length_set, List.length_nil, List.nil_append]; omega)), by (first | omega | (dsimp only; omega) | (simp only [List.length_take, List.length_append, List.length_set, List.length_nil, List.nil_append]; omega) | (dsimp only; simp only [List.length_take, List.length_append, List.length_set, List.length_nil, List.nil_append]; omega))⟩
   omega
  intro hc54
  refine wp_exit (then_e (then_e (blk_e (then_n ?_))))
  refine rs S (tr (oc (fun S=>lSane _ _ S.x (.nil _)) cB24)<|la (av rfl)) ?_; clear S; intro a u S
  refine wp_ret ?_
  refine ret1 rfl S.s rfl ?_
  replace S := S.pk []
  refine ⟨(r1 (vb ?_)), S.m.c⟩
  first
  | exact Iff.rfl
  | (exact fun _ => absurd rfl hc54)
 intro hc55
 refine wp_skip (then_n (wp_seq ?_))
 refine rs S (la (av rfl)) ?_; clear S; intro a u S
 refine wp_block ?_
 replace S := S.fz 2 rfl
 have hfr215 := (S.u 2 rfl)
 have hfr216 := (S.u 1 rfl)
 replace S := (S.ar (wfF (slE u8E) (Sl.mk ra_t171 rc_t171 (bytesJ rx_t170))) hfr215).ar (wfF (slE u8E) b) hfr216
 refine lq3 (fun (i : Nat) (xx : Sl Int) (bb : Sl Int) => [(8, iN i), (7, sV xx), (1, sV bb)]) (fun (i : Nat) (xx : Sl Int) (bb : Sl Int) => [wfF (slE intE) l, wfF (slE u8E) b, wfF (slE u8E) (Sl.mk ra_t171 rc_t171 (bytesJ rx_t170)), wfF (slE u8E) xx, wfF (slE u8E) bb]) (fun (i : Nat) (xx : Sl Int) (bb : Sl Int) => [tpO 112 T14 l, rwO recE 24 w.heap.size ra_t170 rc_t170 rx_t170, noO]) (fun (i : Nat) (xx : Sl Int) (bb : Sl Int) => i ≤ 3 ∧ xx.xs.length ≤ 20000 ∧ bb.xs.length ≤ 20000 ∧ (i ≤ 1 → xx.xs.length ≤ 5112 ∧ bb.xs.length ≤ 5000)) (fun (i : Nat) (xx : Sl Int) (bb : Sl Int) => 3 - i) S 0 (Sl.mk ra_t171 rc_t171 (bytesJ rx_t170)) b (subM rfl) rfl rfl ?_ ?_
 ·exact ⟨Nat.zero_le _, by (first | omega | (dsimp only; omega) | (simp only [List.length_take, List.length_append, List.length_set, List.length_nil, List.nil_append]; omega) | (dsimp only; simp only [List.length_take, List.length_append, List.length_set, List.length_nil, List.nil_append]; omega)), by (first | omega | (dsimp only; omega) | (simp only [List.length_take, List.length_append, List.length_set, List.length_nil, List.nil_append]; omega) | (dsimp only; simp only [List.length_take, List.length_append, List.length_set, List.length_nil, List.nil_append]; omega)), fun _ => ⟨by (first | omega | (dsimp only; omega) | (simp only [List.length_take, List.length_append, List.length_set, List.length_nil, List.nil_append]; omega) | (dsimp only; simp only [List.length_take, List.length_append, List.length_set, List.length_nil, List.nil_append]; omega)), by (first | omega | (dsimp only; omega) | (simp only [List.length_take, List.length_append, List.length_set, List.length_nil, List.nil_append]; omega) | (dsimp only; simp only [List.length_take, List.length_append, List.length_set, List.length_nil, List.nil_append]; omega))⟩⟩
 clear S; intro i xx bb a u S hR
 obtain ⟨hi, hxl, hbl, hi1⟩ := hR
 refine wp_seq ?_
 refine rs S (tr (mv rfl)<|la (lssi rfl rfl)) ?_; clear S; intro a u S
 refine cd S rfl ?_ ?_
 ·intro hc56
  refine wp_skip (then_n (wp_seq (wp_block (rs0 ?_))))
  refine sp S (la (mv rfl)) ?_; clear S; intro a u S
  refine cl S (jDecode _ _ S.x (.nil _) xx (dn0 (S.u 3 rfl))) cB23 ?_
  rintro e u ⟨ra_t590, rc_t590, rfl, R_t590, T0⟩; refine ⟨_, rfl, fun a s => ?_⟩
  replace S := S.kr [⟨_, recE, 24, ra_t590, rc_t590, recsP xx.xs (decN xx.xs)⟩] s T0 ⟨R_t590, trivial⟩; clear s T0 R_t590
  refine ens S (tr (mv rfl)<|tr (exi rfl rfl)<|tr (exi rfl rfl)<|tr (av rfl)<|la (av rfl)) ?_; clear S; intro a u S
  refine rs0 ?_
  refine sp S (la (mv rfl)) ?_; clear S; intro a u S
  refine cl S (rDecode _ _ S.x (.nil _) xx (dn0 (S.u 3 rfl))) cB27 ?_
  rintro e u ⟨ra_t640, rc_t640, rfl, R_t640, T0⟩; refine ⟨_, rfl, fun a s => ?_⟩
  replace S := S.kr [⟨_, recE, 24, ra_t640, rc_t640, recsP xx.xs (decN xx.xs)⟩] s T0 ⟨R_t640, trivial⟩; clear s T0 R_t640
  refine ens S (tr (mv rfl)<|tr (exi rfl rfl)<|tr (exi rfl rfl)<|tr (av rfl)<|la (av rfl)) ?_; clear S; intro a u S
  refine wp_seq (rs0 ?_)
  refine sp S (tr (mv rfl)<|tr (mv rfl)<|tr (neqi rfl rfl)<|la (mv rfl)) ?_; clear S; intro a u S
  refine (Classical.em (¬ ((14 * decN xx.xs : Nat) : Int) = ((14 * decN xx.xs : Nat) : Int))).elim (fun hs221 => ?_) (fun hs221 => ?_)
  ·replace S := S.ext (d := 70) (v := .bool true) ((S.get 70 rfl).trans (congrArg Value.bool (decide_eq_true hs221)))
   refine ens S (tr (goff 70 rfl)<|tr (goff 70 rfl)<|tr (goff 70 rfl)<|tr (goff 70 rfl)<|la (ov fun S=>x_pickt (S.e rfl) (S.e rfl))) ?_; clear S; intro a u S
   refine cdt S rfl ?_
   refine rs S (la (av rfl)) ?_; clear S; intro a u S
   refine wp_ret (then_r (blk_r (then_r (then_r (blk_r (then_r ?_))))))
   refine ret1 rfl S.s rfl ?_
   replace S := S.pk []
   refine ⟨(r1 (vf ?_)), S.m.c⟩
   first
   | exact Iff.rfl
   | (exact fun _ => absurd rfl hs221)
  replace S := S.ext (d := 70) (v := .bool false) ((S.get 70 rfl).trans (congrArg Value.bool (decide_eq_false hs221)))
  refine ens S (tr (gon 70 rfl fun S=>x_move (S.e rfl))<|tr (gon 70 rfl fun S=>x_move (S.e rfl))<|tr (ocon 70 rfl (fun S=>rSameL _ _ (S.xx [abk ra_t590, abk ra_t640]) (.nil _) (Sl.mk ra_t590 rc_t590 (recsP xx.xs (decN xx.xs))) (S.rargD hD 3 rfl (by first | decide | exact Nat.one_pos | exact Nat.succ_pos _) _ (by simp)) (Sl.mk ra_t640 rc_t640 (recsP xx.xs (decN xx.xs))) (S.rargD hD 4 rfl (by first | decide | exact Nat.one_pos | exact Nat.succ_pos _) _ (by simp))) cB28)<|tr (gon 70 rfl fun S=>x_notp (S.e rfl))<|la (ov fun S=>x_pickf (S.e rfl) (S.e rfl))) ?_; clear S; intro a u S
  refine cd S rfl ?_ ?_
  ·intro hc57
   refine rs S (la (av rfl)) ?_; clear S; intro a u S
   refine wp_ret (then_r (blk_r (then_r (then_r (blk_r (then_r ?_))))))
   refine ret1 rfl S.s rfl ?_
   replace S := S.pk []
   refine ⟨(r1 (vf ?_)), S.m.c⟩
   first
   | exact Iff.rfl
   | (exact fun _ => absurd rfl hc57)
  intro hc58
  refine wp_skip (then_n (wp_seq ?_))
  refine rs S (tr (mv rfl)<|la (eqli rfl rfl)) ?_; clear S; intro a u S
  refine cd S rfl ?_ ?_
  ·intro hc59
   refine r0 ?_
   refine nbr (q := 0) u8E S [] (x_bsl0 uT28 iZ5) (fun _ h => by simp at h) ?_; clear S; intro a u b78 S
   refine sp S (la (mv rfl)) ?_; clear S; intro a u S
   refine ap (E := u8E) (ys := xx.xs) S 5 rfl uT28 iZ5 rfl rfl ((S.u 3 rfl)).1 ((S.u 3 rfl)).2.2 (LAt.mem ((S.u 3 rfl)).1) ⟨by unfold maxLen; (try simp only [List.length_cons, List.length_nil, List.length_append, List.length_map]); omega, by (try simp only [List.length_cons, List.length_nil, List.length_append, List.length_map]); omega⟩ ?_; clear S; intro a u ad80 cap80 S
   refine sp S (la (mv rfl)) ?_; clear S; intro a u S
   refine ap (E := u8E) (ys := bb.xs) S 5 rfl uT28 iZ5 rfl rfl ((S.u 4 rfl)).1 ((S.u 4 rfl)).2.2 (LAt.mem ((S.u 4 rfl)).1) ⟨by unfold maxLen; (try simp only [List.length_cons, List.length_nil, List.length_append, List.length_map]); omega, by (try simp only [List.length_cons, List.length_nil, List.length_append, List.length_map]); omega⟩ ?_; clear S; intro a u ad82 cap82 S
   refine ens S (la (av rfl)) ?_; clear S; intro a u S
   refine rg S (tr (mv rfl)<|la (av rfl)) ?_; clear S; intro a u S
   refine blk_n (then_n ?_)
   refine rg S (tr (mv rfl)<|tr (addi ((i + 1 : Nat) : Int) rfl rfl (w_i64 (by omega)))<|la (av rfl)) ?_; clear S; intro a u S
   replace S := S.fz 5 rfl
   have hfr228 := (S.u 5 rfl)
   have hfr229 := (S.u 5 rfl)
   have hfr230 := (S.u 5 rfl)
   have hfr231 := (S.u 5 rfl)
   replace S := S.rt 3
   replace S := S.ar (wfF (slE u8E) (Sl.mk ad82 cap82 (([] ++ xx.xs) ++ bb.xs))) hfr230
   replace S := S.ar (wfF (slE u8E) (Sl.mk ad82 cap82 (([] ++ xx.xs) ++ bb.xs))) hfr231
   refine then_n ?_
   refine ⟨(i + 1), (Sl.mk ad82 cap82 (([] ++ xx.xs) ++ bb.xs)), (Sl.mk ad82 cap82 (([] ++ xx.xs) ++ bb.xs)), S.re (subM rfl) rfl rfl, ?_, ?_⟩
   ·refine ⟨by omega, by (first | omega | (dsimp only; omega) | (simp only [List.length_take, List.length_append, List.length_set, List.length_nil, List.nil_append]; omega) | (dsimp only; simp only [List.length_take, List.length_append, List.length_set, List.length_nil, List.nil_append]; omega)), by (first | omega | (dsimp only; omega) | (simp only [List.length_take, List.length_append, List.length_set, List.length_nil, List.nil_append]; omega) | (dsimp only; simp only [List.length_take, List.length_append, List.length_set, List.length_nil, List.nil_append]; omega)), fun hq => ?_⟩
    have := hi1 (by omega)
    exact ⟨by (first | omega | (dsimp only; omega) | (simp only [List.length_take, List.length_append, List.length_set, List.length_nil, List.nil_append]; omega) | (dsimp only; simp only [List.length_take, List.length_append, List.length_set, List.length_nil, List.nil_append]; omega)), by (first | omega | (dsimp only; omega) | (simp only [List.length_take, List.length_append, List.length_set, List.length_nil, List.nil_append]; omega) | (dsimp only; simp only [List.length_take, List.length_append, List.length_set, List.length_nil, List.nil_append]; omega))⟩
   omega
  intro hc60
  refine wp_skip (then_n ?_)
  refine rg S (tr (mv rfl)<|la (av rfl)) ?_; clear S; intro a u S
  refine blk_n (then_n ?_)
  refine rg S (tr (mv rfl)<|tr (addi ((i + 1 : Nat) : Int) rfl rfl (w_i64 (by omega)))<|la (av rfl)) ?_; clear S; intro a u S
  have hfr234 := (S.u 4 rfl)
  have hfr235 := (S.u 4 rfl)
  have hfr236 := (S.u 4 rfl)
  have hfr237 := (S.u 4 rfl)
  replace S := S.rt 3
  replace S := S.ar (wfF (slE u8E) bb) hfr236
  replace S := S.ar (wfF (slE u8E) bb) hfr237
  refine then_n ?_
  refine ⟨(i + 1), bb, bb, S.re (subM rfl) rfl rfl, ?_, ?_⟩
  ·refine ⟨by omega, by (first | omega | (dsimp only; omega) | (simp only [List.length_take, List.length_append, List.length_set, List.length_nil, List.nil_append]; omega) | (dsimp only; simp only [List.length_take, List.length_append, List.length_set, List.length_nil, List.nil_append]; omega)), by (first | omega | (dsimp only; omega) | (simp only [List.length_take, List.length_append, List.length_set, List.length_nil, List.nil_append]; omega) | (dsimp only; simp only [List.length_take, List.length_append, List.length_set, List.length_nil, List.nil_append]; omega)), fun hq => ?_⟩
   have := hi1 (by omega)
   exact ⟨by (first | omega | (dsimp only; omega) | (simp only [List.length_take, List.length_append, List.length_set, List.length_nil, List.nil_append]; omega) | (dsimp only; simp only [List.length_take, List.length_append, List.length_set, List.length_nil, List.nil_append]; omega)), by (first | omega | (dsimp only; omega) | (simp only [List.length_take, List.length_append, List.length_set, List.length_nil, List.nil_append]; omega) | (dsimp only; simp only [List.length_take, List.length_append, List.length_set, List.length_nil, List.nil_append]; omega))⟩
  omega
 intro hc61
 refine wp_exit (then_e (then_e (blk_e (then_n ?_))))
 refine rs S (tr (oc (fun S=>lSane _ _ S.x (.nil _)) cB24)<|la (av rfl)) ?_; clear S; intro a u S
 refine wp_ret ?_
 refine ret1 rfl S.s rfl ?_
 replace S := S.pk []
 refine ⟨(r1 (vb ?_)), S.m.c⟩
 first
 | exact Iff.rfl
 | (exact fun _ => absurd rfl hc61)
end Go.Proofs.Ytobggnpnochnnaa.V
