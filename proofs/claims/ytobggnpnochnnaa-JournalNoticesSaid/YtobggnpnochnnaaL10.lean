/- the law: changed bytes are noticed -/
import Derived.Test.YtobggnpnochnnaaL8
import Derived.Test.YtobggnpnochnnaaNotM
namespace Go.Proofs.Ytobggnpnochnnaa.V
open Go.RowKit Go.Proofs.Ytobggnpnochnnaa
set_option linter.unusedVariables false
set_option linter.unusedSimpArgs false
set_option maxHeartbeats 2000000 in
set_option maxRecDepth 20000 in
theorem lNot (w : World) (F : Nat → Prop) (hF : Old F w) (M : MS [] w) (l : Sl Int) (l_w : (slE intE).wf (Fr F []) w.heap l) (at_ : Int) (at__h : inI64 at_) (by_ : Int) (by__h : inU8 by_) (keep : Int) (keep_h : inI64 keep) :
 Calls Try.prog 5 #[sV l, iI at_, .int .u8 by_, iI keep] w fun e w' => e = .returned (bD (True)) ∧ Tr [] w [] w' := by
 have : l.xs.length ≤ 9223372036854775807 := (l_w).1.len
 obtain ⟨at__hl, at__hu⟩ : inI64 at_ := id at__h
 obtain ⟨by__hl, by__hu⟩ : inU8 by_ := id by__h
 obtain ⟨keep_hl, keep_hu⟩ : inI64 keep := id keep_h
 refine go Try.func5 rfl 93 rfl [wfF (slE intE) l] [] hF M ⟨l_w, trivial⟩ trivial ?_
 intro a S
 have hD : ∀ k, In ([] : List BS) k → ¬ F k := fun _ h => h.elim
 refine rs S (la (av rfl)) ?_; clear S; intro a u S
 refine rs0 ?_
 refine sp S (la (mv rfl)) ?_; clear S; intro a u S
 refine cl S (gNew _ _ S.x (.nil _) l (dn0 (S.u 0 rfl))) cB19 ?_
 rintro e u ⟨T20, rfl, TK, T0⟩; refine ⟨_, rfl, fun a s => ?_⟩; replace S := S.kt s T0 TK; clear s T0 TK
 refine ens S (la (av rfl)) ?_; clear S; intro a u S
 refine rs0 ?_
 refine sp S (la (mv rfl)) ?_; clear S; intro a u S
 refine cl S (lLog _ _ S.x T20 (S.M.pick [0] (by decide)) l (dn1 (js := [0]) (S.u 0 rfl)) (S.t 0 rfl) 3 ⟨by omega, by omega⟩) cB25 ?_
 rintro e u ⟨rx_t230, ra_t230, rc_t230, ra_t231, rc_t231, rfl, R_t230, R_t231, hr_t230, tK, T0⟩; refine ⟨_, rfl, fun a s => ?_⟩
 replace S := S.kr1 0 rfl [⟨_, recE, 24, ra_t230, rc_t230, rx_t230⟩, ⟨_, u8E, 5, ra_t231, rc_t231, bytesJ rx_t230⟩] s T0 ⟨R_t230, R_t231, trivial⟩ (fun _ => tK); clear s T0 tK R_t230 R_t231
 replace S := S.pk [0, 1, 2] (os' := [tpO 112 T20 l, rwO recE 24 w.heap.size ra_t230 rc_t230 rx_t230, rwO u8E 5 w.heap.size ra_t231 rc_t231 (bytesJ rx_t230)])
 obtain ⟨hrl, hra⟩ := hr_t230
 have hbl0 : (bytesJ rx_t230).length = 14 * rx_t230.length := bytesJ_lenOK (allJ_ok hra)
 refine ens S (tr (mv rfl)<|tr (exi rfl rfl)<|tr (exi rfl rfl)<|tr (av rfl)<|la (av rfl)) ?_; clear S; intro a u S
 refine wp_seq ?_
 refine rs S (tr (mv rfl)<|tr (leni uT28 rfl)<|la (eqli rfl rfl)) ?_; clear S; intro a u S
 refine cd S rfl ?_ ?_
 ·intro hc0
  refine rs S (tr (oc (fun S=>lSane _ _ S.x (.nil _)) cB24)<|la (av rfl)) ?_; clear S; intro a u S
  refine wp_ret (then_r ?_)
  refine ret1 rfl S.s rfl ?_
  replace S := S.pk []
  refine ⟨(r1 (vb ?_)), S.m.c⟩
  first
  | exact Iff.rfl
  | exact fun _ => absurd rfl hc0
  | exact fun _ => hc0 (by rw [hd.1]; omega)
  | exact fun _ => hc0 (by rw [hdc.1]; omega)
 intro hc1
 refine wp_skip (then_n (rs0 ?_))
 refine sp S (tr (mv rfl)<|tr (mv rfl)<|tr (leni uT28 rfl)<|tr (oc (fun S=>gMod _ _ S.x (.nil _) at_ at__h (((bytesJ rx_t230).length : Nat) : Int) ⟨by omega, by omega⟩ (by omega)) cB29)<|la (av rfl)) ?_; clear S; intro a u S
 obtain ⟨ii, hii, hiib⟩ := modk (x := at_) (m := (((bytesJ rx_t230).length : Nat) : Int)) (by omega)
 rw [← hii] at S
 refine ent (rs0 ?_)
 refine nbr (q := 0) u8E S [] (x_bsl0 uT28 iZ5) (fun _ h => by simp at h) ?_; clear S; intro a u b34 S
 refine sp S (la (mv rfl)) ?_; clear S; intro a u S
 refine ap (E := u8E) (ys := bytesJ rx_t230) S 3 rfl uT28 iZ5 rfl rfl ((S.row 2 rfl).lat (by first | decide | exact Nat.one_pos | exact Nat.succ_pos _)) (S.row 2 rfl).cap_le.2 (S.row 2 rfl).wf ⟨by unfold maxLen; (try simp only [List.length_cons, List.length_nil, List.length_append, List.length_map]); omega, by (try simp only [List.length_cons, List.length_nil, List.length_append, List.length_map]); omega⟩ ?_; clear S; intro a u ad36 cap36 S
 refine sp S (la (av rfl)) ?_; clear S; intro a u S
 have e_13 : ([] ++ bytesJ rx_t230) = (bytesJ rx_t230) := rfl
 rw [e_13] at S
 refine ent (rs0 ?_)
 obtain ⟨hl9, hu9⟩ : inU8 ((bytesJ rx_t230).getD ii u8E.dflt) := id ((S.row 3 rfl).wfi ii (by omega))
 refine sp S (tr (mv rfl)<|tr (mv rfl)<|tr (ov fun S=>x_idx uT28 sZ5 (S.e rfl) (S.e rfl) ii rfl (by omega) (row_off (S.row 3 rfl) (m := ii) (by omega)))<|tr (ov fun S=>x_load sC5 (S.e rfl) (((S.row 3 rfl).latz (by first | decide | exact Nat.one_pos | exact Nat.succ_pos _)).cell ii (by omega) 0 _ rfl))<|tr (mv rfl)<|tr (ov fun S=>x_bor (S.e rfl) (S.e rfl))<|tr (ov fun S=>x_bxor (S.e rfl) (S.e rfl))<|la (ov fun S=>x_idx uT28 sZ5 (S.e rfl) (S.e rfl) ii rfl (by omega) (row_off (S.row 3 rfl) (m := ii) (by omega)))) ?_; clear S; intro a u S
 refine sp S (la (str (E := u8E) 3 (by kernel_rfl) rfl rfl rfl ii 0 (by omega) (by first | decide | exact Nat.one_pos | exact Nat.succ_pos _) (bXor .u8 ((bytesJ rx_t230).getD ii u8E.dflt) (bOr .u8 by_ 1)) (fun S=>(wu8 _)) rfl (by first | rfl | (show _ = _ * 1 + 0; omega) | (simp [u8E]; omega) | simp [u8E]) rfl)) ?_; clear S; intro a u S
 have hls10 : ((bytesJ rx_t230).set ii (bXor .u8 ((bytesJ rx_t230).getD ii u8E.dflt) (bOr .u8 by_ 1))).length = (bytesJ rx_t230).length := by simp
 refine ent (rs0 ?_)
 refine sp S (la (mv rfl)) ?_; clear S; intro a u S
 rw [show (Value.slice ad36 ((bytesJ rx_t230).length) cap36) = .slice ad36 (((bytesJ rx_t230).set ii (bXor .u8 ((bytesJ rx_t230).getD ii u8E.dflt) (bOr .u8 by_ 1))).length) cap36 from by rw [List.length_set]] at S
 refine cl S (jDecode _ _ (S.xx [abk ad36]) (.nil _) (Sl.mk ad36 cap36 ((bytesJ rx_t230).set ii (bXor .u8 ((bytesJ rx_t230).getD ii u8E.dflt) (bOr .u8 by_ 1)))) (S.rargD hD 3 rfl (by first | decide | exact Nat.one_pos | exact Nat.succ_pos _) _ (by simp))) cB23 ?_
 rintro e u ⟨ra_t470, rc_t470, rfl, R_t470, T0⟩; refine ⟨_, rfl, fun a s => ?_⟩
 replace S := S.krx [⟨_, recE, 24, ra_t470, rc_t470, recsP ((bytesJ rx_t230).set ii (bXor .u8 ((bytesJ rx_t230).getD ii u8E.dflt) (bOr .u8 by_ 1))) (decN ((bytesJ rx_t230).set ii (bXor .u8 ((bytesJ rx_t230).getD ii u8E.dflt) (bOr .u8 by_ 1))))⟩] s T0 ⟨R_t470, trivial⟩ ⟨fun _ _ _ _ h => h, trivial⟩; clear s T0 R_t470
 have hby := bytesJ_u8 (allJ_ok hra)
 have hz := flip8 (x := (bytesJ rx_t230).getD ii u8E.dflt) (y := by_) (hby _ (getD_mem (d := u8E.dflt) (by omega))) (by assumption)
 have hd := dec_chg (allJ_ok hra) (by omega) (i := ii) (by omega) hz.1 hz.2
 have e_47 : recsP ((bytesJ rx_t230).set ii (bXor .u8 ((bytesJ rx_t230).getD ii u8E.dflt) (bOr .u8 by_ 1))) (decN ((bytesJ rx_t230).set ii (bXor .u8 ((bytesJ rx_t230).getD ii u8E.dflt) (bOr .u8 by_ 1)))) = (rx_t230.take (ii / 14)) := (congrArg (recsP _) hd.1).trans hd.2
 rw [e_47] at S
 refine ens S (tr (mv rfl)<|tr (exi rfl rfl)<|tr (exi rfl rfl)<|tr (av rfl)<|la (av rfl)) ?_; clear S; intro a u S
 refine rs0 ?_
 refine sp S (tr (mv rfl)<|tr (mv rfl)<|tr (leni uT28 rfl)<|tr (addi (((bytesJ rx_t230).length + 1 : Nat) : Int) rfl rfl (w_i64 (by omega)))<|tr (oc (fun S=>gMod _ _ S.x (.nil _) keep keep_h (((bytesJ rx_t230).length + 1 : Nat) : Int) ⟨by omega, by omega⟩ (by omega)) cB29)<|la (av rfl)) ?_; clear S; intro a u S
 obtain ⟨cc, hcc, hccb⟩ := modk (x := keep) (m := (((bytesJ rx_t230).length + 1 : Nat) : Int)) (by omega)
 rw [← hcc] at S
 refine ent (rs0 ?_)
 refine sp S (tr (mv rfl)<|la (mv rfl)) ?_; clear S; intro a u S
 replace S := S.fz 2 rfl
 have hk14 : ((bytesJ rx_t230).take cc).length = cc := by rw [List.length_take]; first | omega | (simp only [List.length_cons, List.length_nil]; omega)
 refine sp S (la (ov (v := .slice ra_t231 (((bytesJ rx_t230).take cc).length) rc_t231) fun S=>x_slhn uT28 iZ5 (S.e rfl) (S.e rfl) cc rfl (Nat.le_trans (by first | omega | (dsimp only; omega) | (show _ ≤ List.length _; omega)) ((S.u 1 rfl)).2.1) ((S.u 1 rfl)).2.2 _ (by rw [List.length_take]; first | omega | (simp only [List.length_cons, List.length_nil]; omega)))) ?_; clear S; intro a u S
 refine cl S (jDecode _ _ S.x (.nil _) (Sl.mk ra_t231 rc_t231 ((bytesJ rx_t230).take cc)) (dn0 (sl_take (S.u 1 rfl) cc (by first | omega | (dsimp only; omega) | (show _ ≤ List.length _; omega))))) cB23 ?_
 rintro e u ⟨ra_t590, rc_t590, rfl, R_t590, T0⟩; refine ⟨_, rfl, fun a s => ?_⟩
 replace S := S.kr [⟨_, recE, 24, ra_t590, rc_t590, recsP ((bytesJ rx_t230).take cc) (decN ((bytesJ rx_t230).take cc))⟩] s T0 ⟨R_t590, trivial⟩; clear s T0 R_t590
 have hdc := dec_cut (allJ_ok hra) (by omega) (c := cc) (by omega)
 have e_59 : recsP ((bytesJ rx_t230).take cc) (decN ((bytesJ rx_t230).take cc)) = (rx_t230.take (cc / 14)) := (congrArg (recsP _) hdc.1).trans hdc.2
 rw [e_59] at S
 refine ens S (tr (mv rfl)<|tr (exi rfl rfl)<|tr (exi rfl rfl)<|tr (av rfl)<|la (av rfl)) ?_; clear S; intro a u S
 refine rs0 ?_
 refine sp S (tr (mv rfl)<|tr (mv rfl)<|tr (ov fun S=>x_quo (S.e rfl) (S.e rfl) (by omega) (r := ((ii / 14 : Nat) : Int)) (w_i64 (by rw [Int.tdiv_eq_ediv_of_nonneg (by omega)]; omega)))<|tr (muli ((ii / 14 * 14 : Nat) : Int) rfl rfl (w_i64 (by omega)))<|tr (eqli rfl rfl)<|la (mv rfl)) ?_; clear S; intro a u S
 refine (Classical.em (((14 * decN ((bytesJ rx_t230).set ii (bXor .u8 ((bytesJ rx_t230).getD ii u8E.dflt) (bOr .u8 by_ 1))) : Nat) : Int) = ((ii / 14 * 14 : Nat) : Int))).elim (fun hs16 => ?_) (fun hs16 => ?_)
 ·replace S := S.ext (d := 67) (v := .bool true) ((S.get 67 rfl).trans (congrArg Value.bool (decide_eq_true hs16)))
  refine sp S (tr (gon 67 rfl fun S=>x_move (S.e rfl))<|tr (gon 67 rfl fun S=>x_move (S.e rfl))<|tr (gon 67 rfl fun S=>x_move (S.e rfl))<|la (gon 67 rfl fun S=>x_quo (S.e rfl) (S.e rfl) (by omega) (r := ((ii / 14 : Nat) : Int)) (w_i64 (by rw [Int.tdiv_eq_ediv_of_nonneg (by omega)]; omega)))) ?_; clear S; intro a u S
  replace S := S.fz 1 rfl (by show 0 < recE.n; decide)
  have hk17 : (rx_t230.take (ii / 14)).length = (ii / 14) := by rw [List.length_take]; first | omega | (simp only [List.length_cons, List.length_nil]; omega)
  refine sp S (tr (gon 67 (v := .slice ra_t230 ((rx_t230.take (ii / 14)).length) rc_t230) rfl fun S=>x_slhn uT32 iZ24 (S.e rfl) (S.e rfl) (ii / 14) rfl (Nat.le_trans (by first | omega | (dsimp only; omega) | (show _ ≤ List.length _; omega)) ((S.u 2 rfl)).2.1) ((S.u 2 rfl)).2.2 _ (by rw [List.length_take]; first | omega | (simp only [List.length_cons, List.length_nil]; omega)))<|tr (ocon 67 rfl (fun S=>rSameL _ _ (S.xx [abk ra_t470]) (.nil _) (Sl.mk ra_t470 rc_t470 (rx_t230.take (ii / 14))) (S.rargD hD 4 rfl (by first | decide | exact Nat.one_pos | exact Nat.succ_pos _) _ (by simp)) (Sl.mk ra_t230 rc_t230 (rx_t230.take (ii / 14))) (dnx (sl_take (S.u 2 rfl) (ii / 14) (by first | omega | (dsimp only; omega) | (show _ ≤ List.length _; omega))))) cB28)<|tr (ov fun S=>x_pickt (S.e rfl) (S.e rfl))<|la (mv rfl)) ?_; clear S; intro a u S
  refine (Classical.em ((rx_t230.take (ii / 14)) = (rx_t230.take (ii / 14)))).elim (fun hs18 => ?_) (fun hs18 => ?_)
  ·replace S := S.ext (d := 75) (v := .bool true) ((S.get 75 rfl).trans (congrArg Value.bool (decide_eq_true hs18)))
   refine sp S (tr (gon 75 rfl fun S=>x_move (S.e rfl))<|tr (gon 75 rfl fun S=>x_move (S.e rfl))<|tr (gon 75 rfl fun S=>x_quo (S.e rfl) (S.e rfl) (by omega) (r := ((cc / 14 : Nat) : Int)) (w_i64 (by rw [Int.tdiv_eq_ediv_of_nonneg (by omega)]; omega)))<|tr (gon 75 rfl fun S=>x_mul (S.e rfl) (S.e rfl) (r := ((cc / 14 * 14 : Nat) : Int)) (w_i64 (by omega)))<|tr (gon 75 rfl fun S=>x_eql (S.e rfl) (S.e rfl))<|tr (ov fun S=>x_pickt (S.e rfl) (S.e rfl))<|la (mv rfl)) ?_; clear S; intro a u S
   refine (Classical.em (((14 * decN ((bytesJ rx_t230).take cc) : Nat) : Int) = ((cc / 14 * 14 : Nat) : Int))).elim (fun hs19 => ?_) (fun hs19 => ?_)
   ·replace S := S.ext (d := 82) (v := .bool true) ((S.get 82 rfl).trans (congrArg Value.bool (decide_eq_true hs19)))
    have hk20 : (rx_t230.take (cc / 14)).length = (cc / 14) := by rw [List.length_take]; first | omega | (simp only [List.length_cons, List.length_nil]; omega)
    refine sp S (tr (gon 82 rfl fun S=>x_move (S.e rfl))<|tr (gon 82 rfl fun S=>x_move (S.e rfl))<|tr (gon 82 rfl fun S=>x_move (S.e rfl))<|tr (gon 82 rfl fun S=>x_quo (S.e rfl) (S.e rfl) (by omega) (r := ((cc / 14 : Nat) : Int)) (w_i64 (by rw [Int.tdiv_eq_ediv_of_nonneg (by omega)]; omega)))<|tr (gon 82 (v := .slice ra_t230 ((rx_t230.take (cc / 14)).length) rc_t230) rfl fun S=>x_slhn uT32 iZ24 (S.e rfl) (S.e rfl) (cc / 14) rfl (Nat.le_trans (by first | omega | (dsimp only; omega) | (show _ ≤ List.length _; omega)) ((S.u 2 rfl)).2.1) ((S.u 2 rfl)).2.2 _ (by rw [List.length_take]; first | omega | (simp only [List.length_cons, List.length_nil]; omega)))<|tr (ocon 82 rfl (fun S=>rSameL _ _ (S.xx [abk ra_t590]) (.nil _) (Sl.mk ra_t590 rc_t590 (rx_t230.take (cc / 14))) (S.rargD hD 5 rfl (by first | decide | exact Nat.one_pos | exact Nat.succ_pos _) _ (by simp)) (Sl.mk ra_t230 rc_t230 (rx_t230.take (cc / 14))) (dnx (sl_take (S.u 2 rfl) (cc / 14) (by first | omega | (dsimp only; omega) | (show _ ≤ List.length _; omega))))) cB28)<|tr (ov fun S=>x_pickt (S.e rfl) (S.e rfl))<|la (mv rfl)) ?_; clear S; intro a u S
    refine (Classical.em ((rx_t230.take (cc / 14)) = (rx_t230.take (cc / 14)))).elim (fun hs21 => ?_) (fun hs21 => ?_)
    ·replace S := S.ext (d := 90) (v := .bool true) ((S.get 90 rfl).trans (congrArg Value.bool (decide_eq_true hs21)))
     refine ens S (tr (ocon 90 rfl (fun S=>lSane _ _ S.x (.nil _)) cB24)<|tr (ov fun S=>x_pickt (S.e rfl) (S.e rfl))<|la (av rfl)) ?_; clear S; intro a u S
     refine wp_ret ?_
     refine ret1 rfl S.s rfl ?_
     replace S := S.pk []
     refine ⟨(r1 (vb ?_)), S.m.c⟩
     first
     | exact Iff.rfl
     | exact fun _ => absurd rfl hs21
     | exact fun _ => hs21 (by rw [hd.1]; omega)
     | exact fun _ => hs21 (by rw [hdc.1]; omega)
    replace S := S.ext (d := 90) (v := .bool false) ((S.get 90 rfl).trans (congrArg Value.bool (decide_eq_false hs21)))
    refine ens S (tr (goff 90 rfl)<|tr (ov fun S=>x_pickf (S.e rfl) (S.e rfl))<|la (av rfl)) ?_; clear S; intro a u S
    refine wp_ret ?_
    refine ret1 rfl S.s rfl ?_
    replace S := S.pk []
    refine ⟨(r1 (vf ?_)), S.m.c⟩
    first
    | exact Iff.rfl
    | exact fun _ => absurd rfl hs21
    | exact fun _ => hs21 (by rw [hd.1]; omega)
    | exact fun _ => hs21 (by rw [hdc.1]; omega)
   replace S := S.ext (d := 82) (v := .bool false) ((S.get 82 rfl).trans (congrArg Value.bool (decide_eq_false hs19)))
   refine ens S (tr (goff 82 rfl)<|tr (goff 82 rfl)<|tr (goff 82 rfl)<|tr (goff 82 rfl)<|tr (goff 82 rfl)<|tr (goff 82 rfl)<|tr (ov fun S=>x_pickf (S.e rfl) (S.e rfl))<|tr (mv rfl)<|tr (goff 90 rfl)<|tr (ov fun S=>x_pickf (S.e rfl) (S.e rfl))<|la (av rfl)) ?_; clear S; intro a u S
   refine wp_ret ?_
   refine ret1 rfl S.s rfl ?_
   replace S := S.pk []
   refine ⟨(r1 (vf ?_)), S.m.c⟩
   first
   | exact Iff.rfl
   | exact fun _ => absurd rfl hs19
   | exact fun _ => hs19 (by rw [hd.1]; omega)
   | exact fun _ => hs19 (by rw [hdc.1]; omega)
  replace S := S.ext (d := 75) (v := .bool false) ((S.get 75 rfl).trans (congrArg Value.bool (decide_eq_false hs18)))
  refine ens S (tr (goff 75 rfl)<|tr (goff 75 rfl)<|tr (goff 75 rfl)<|tr (goff 75 rfl)<|tr (goff 75 rfl)<|tr (ov fun S=>x_pickf (S.e rfl) (S.e rfl))<|tr (mv rfl)<|tr (goff 82 rfl)<|tr (goff 82 rfl)<|tr (goff 82 rfl)<|tr (goff 82 rfl)<|tr (goff 82 rfl)<|tr (goff 82 rfl)<|tr (ov fun S=>x_pickf (S.e rfl) (S.e rfl))<|tr (mv rfl)<|tr (goff 90 rfl)<|tr (ov fun S=>x_pickf (S.e rfl) (S.e rfl))<|la (av rfl)) ?_; clear S; intro a u S
  refine wp_ret ?_
  refine ret1 rfl S.s rfl ?_
  replace S := S.pk []
  refine ⟨(r1 (vf ?_)), S.m.c⟩
  first
  | exact Iff.rfl
  | exact fun _ => absurd rfl hs18
  | exact fun _ => hs18 (by rw [hd.1]; omega)
  | exact fun _ => hs18 (by rw [hdc.1]; omega)
 replace S := S.ext (d := 67) (v := .bool false) ((S.get 67 rfl).trans (congrArg Value.bool (decide_eq_false hs16)))
 refine ens S (tr (goff 67 rfl)<|tr (goff 67 rfl)<|tr (goff 67 rfl)<|tr (goff 67 rfl)<|tr (goff 67 rfl)<|tr (goff 67 rfl)<|tr (ov fun S=>x_pickf (S.e rfl) (S.e rfl))<|tr (mv rfl)<|tr (goff 75 rfl)<|tr (goff 75 rfl)<|tr (goff 75 rfl)<|tr (goff 75 rfl)<|tr (goff 75 rfl)<|tr (ov fun S=>x_pickf (S.e rfl) (S.e rfl))<|tr (mv rfl)<|tr (goff 82 rfl)<|tr (goff 82 rfl)<|tr (goff 82 rfl)<|tr (goff 82 rfl)<|tr (goff 82 rfl)<|tr (goff 82 rfl)<|tr (ov fun S=>x_pickf (S.e rfl) (S.e rfl))<|tr (mv rfl)<|tr (goff 90 rfl)<|tr (ov fun S=>x_pickf (S.e rfl) (S.e rfl))<|la (av rfl)) ?_; clear S; intro a u S
 refine wp_ret ?_
 refine ret1 rfl S.s rfl ?_
 replace S := S.pk []
 refine ⟨(r1 (vf ?_)), S.m.c⟩
 first
 | exact Iff.rfl
 | exact fun _ => absurd rfl hs16
 | exact fun _ => hs16 (by rw [hd.1]; omega)
 | exact fun _ => hs16 (by rw [hdc.1]; omega)
end Go.Proofs.Ytobggnpnochnnaa.V
