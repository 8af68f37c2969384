/- connected; one more failure -/
import Derived.Test.YtfanmniaolncbaaW8
import Derived.Test.YtfanmniaolncbaaW9
import Derived.Test.YtfanmniaolncbaaBriM
namespace Go.Proofs.Ytfanmniaolncbaa.V
open Go.RowKit Go.Proofs.Ytfanmniaolncbaa
set_option linter.unusedVariables false
set_option linter.unusedSimpArgs false
set_option maxHeartbeats 2000000 in
set_option maxRecDepth 20000 in
theorem rConn (w : World) (F : Nat → Prop) (hF : Old F w) (M : MS [] w) (t : Topo) (t_w : topoE.wf (Fr F []) w.heap t) (f : Fail) (f_w : failE.wf (Fr F []) w.heap f) (da : Int) (da_h : inI64 da) (db : Int) (db_h : inI64 db) :
 Calls Try.prog 39 #[tV t, fV f, iI da, iI db] w fun e w' => e = .returned (bD (connV t f da db)) ∧ Tr [] w [] w' := by
 have C : Tr [] w [] w := Tr.refl M
 have : t.devs.xs.length ≤ 9223372036854775807 := (t_w.1).1.len
 have : t.links.xs.length ≤ 9223372036854775807 := (t_w.2.1).1.len
 have : t.edges.xs.length ≤ 9223372036854775807 := (t_w.2.2.1).1.len
 have : t.pools.xs.length ≤ 9223372036854775807 := (t_w.2.2.2.1).1.len
 obtain ⟨_, _⟩ : inI64 t.tol := t_w.2.2.2.2
 have : f.links.xs.length ≤ 9223372036854775807 := (f_w.1).1.len
 have : f.devs.xs.length ≤ 9223372036854775807 := (f_w.2).1.len
 obtain ⟨da_hl, da_hu⟩ : inI64 da := id da_h
 obtain ⟨db_hl, db_hu⟩ : inI64 db := id db_h
 refine enter Try.func39 rfl 34 rfl (Nat.le_of_ble_eq_true rfl) ?_
 intro a S
 refine qs ?_
 refine seq_new S rfl rfl (by decide) (fun b => pT b 0) (cs := (tL t)) (x_box (tL t) (S.e rfl) rfl) ?_
 clear S a; intro a w1 b1 hb1 hbs1 G K1 S; have hbl1 : b1 < w1.heap.size := by omega
 have TT := Tr.fresh C.ms hb1 hbl1 G
 replace t_w := Enc.tr (topoE) t_w TT
 replace f_w := Enc.tr (failE) f_w TT
 replace C := C.trans TT
 clear TT G
 refine seq_new S rfl rfl (by decide) (fun b => pT b 0) (cs := (fL f)) (x_box (fL f) (S.e rfl) rfl) ?_
 clear S a; intro a w2 b2 hb2 hbs2 G K2 S; have hbl2 : b2 < w2.heap.size := by omega
 have TT := Tr.fresh C.ms hb2 hbl2 G
 replace t_w := Enc.tr (topoE) t_w TT
 replace f_w := Enc.tr (failE) f_w TT
 replace K1 := Blk.tr0 K1 G
 replace C := C.trans TT
 clear TT G
 refine qa S rfl ?_; clear S a; intro a S
 refine qt ?_
 refine qs ?_
 refine qv S _ (x_loadw (tL t) ⟨_, Try.underlying28, rfl, by kernel_rfl⟩ (S.e rfl) (K1.mid [] _ [] rfl _ rfl)) ?_; clear S a; intro a S
 refine qv S _ (x_loadw (fL f) ⟨_, Try.underlying41, rfl, by kernel_rfl⟩ (S.e rfl) (K2.mid [] _ [] rfl _ rfl)) ?_; clear S a; intro a S
 refine seq_call S (by decide) (vs := #[tV t, fV f]) rfl callable_61 (rComps _ (Ex F _) (C.old hF)  (MS.nil _) t ((topoE).down0 t_w) f ((failE).down0 f_w)) ?_
 rintro e w3 ⟨ra_3, rc_3, rfl, R_3, T0⟩; refine ⟨_, rfl, ?_⟩; clear S a; intro a S
 have TT := Tr.framed0 C.ms T0; have G := T0.ch
 replace t_w := Enc.tr (topoE) t_w TT
 replace f_w := Enc.tr (failE) f_w TT
 replace K1 := Blk.tr0 K1 G
 replace K2 := Blk.tr0 K2 G
 replace C := C.trans TT
 replace R_3 := Enc.up (slE intE) R_3
 clear T0 G TT
 have hn4 : (compsV t f).length ≤ 9223372036854775807 := (R_3).1.len
 refine qa S rfl ?_; clear S a; intro a S
 refine qt ?_
 refine wp_seq ?_
 replace S := S.sub (L' := [(0, tV t), (1, fV f), (2, iI da), (3, iI db), (4, pT b1 0), (5, pT b2 0), (10, tV t), (11, fV f), (12, .slice ra_3 ((compsV t f).length) rc_3), (9, .slice ra_3 ((compsV t f).length) rc_3)]) ⟨rfl, rfl, rfl, rfl, rfl, rfl, rfl, rfl, rfl, rfl, trivial⟩
 refine wp_heads (M := In []) S 22 [(13, iV (tV t)), (14, iV (fV f)), (15, iV (iI da)), (16, iV (bD (aliveV t f da))), (17, iV (bD (aliveV t f da))), (18, iV ((if (aliveV t f da) then tV t else undef))), (19, iV ((if (aliveV t f da) then fV f else undef))), (20, iV ((if (aliveV t f da) then iI db else undef))), (21, iV ((if (aliveV t f da) then bD (aliveV t f db) else undef))), (22, iV (bD ((aliveV t f da) ∧ (aliveV t f db)))), (23, iV (bD ((aliveV t f da) ∧ (aliveV t f db)))), (24, iV ((if ((aliveV t f da) ∧ (aliveV t f db)) then .slice ra_3 ((compsV t f).length) rc_3 else undef))), (25, iV ((if ((aliveV t f da) ∧ (aliveV t f db)) then iI da else undef))), (26, iV ((if ((aliveV t f da) ∧ (aliveV t f db)) then pT (blk ra_3) (off ra_3 + (da).toNat * 1) else undef))), (27, iV ((if ((aliveV t f da) ∧ (aliveV t f db)) then iI ((compsV t f).getD ((da).toNat) intE.dflt) else undef))), (28, iV ((if ((aliveV t f da) ∧ (aliveV t f db)) then .slice ra_3 ((compsV t f).length) rc_3 else undef))), (29, iV ((if ((aliveV t f da) ∧ (aliveV t f db)) then iI db else undef))), (30, iV ((if ((aliveV t f da) ∧ (aliveV t f db)) then pT (blk ra_3) (off ra_3 + (db).toNat * 1) else undef))), (31, iV ((if ((aliveV t f da) ∧ (aliveV t f db)) then iI ((compsV t f).getD ((db).toNat) intE.dflt) else undef))), (32, iV ((if ((aliveV t f da) ∧ (aliveV t f db)) then bD (((compsV t f).getD ((da).toNat) intE.dflt) = ((compsV t f).getD ((db).toNat) intE.dflt)) else undef))), (33, iV (bD (((aliveV t f da) ∧ (aliveV t f db)) ∧ (((compsV t f).getD ((da).toNat) intE.dflt) = ((compsV t f).getD ((db).toNat) intE.dflt))))), (8, iV (bD (((aliveV t f da) ∧ (aliveV t f db)) ∧ (((compsV t f).getD ((da).toNat) intE.dflt) = ((compsV t f).getD ((db).toNat) intE.dflt)))))] (fun w => True) [[], [], [], [13, 14, 15], [16], [17], [17], [17], [17, 18, 19, 20], [17, 21], [22], [23], [23], [23, 24, 25], [23, 26], [23], [23], [23, 28, 29], [23, 30], [23, 27, 31], [23, 32], [33]] [8] _ rfl mixed (by kernel_rfl) rfl trivial ?_ ?_
 ·refine ⟨?_, ?_, ?_, ?_, ?_, ?_, ?_, ?_, ?_, ?_, ?_, ?_, ?_, ?_, ?_, ?_, ?_, ?_, ?_, ?_, ?_, ?_, trivial⟩
  ·intro a w4 G I S hE
   have TT := Tr.of_ch C.ms G (fun _ h => by simp at h)
   replace t_w := Enc.tr (topoE) t_w TT
   replace K1 := Blk.tr0 K1 G
   replace C := C.trans TT
   exact qo (tV t) (x_loadw (tL t) ⟨_, Try.underlying28, rfl, by kernel_rfl⟩ (S.e rfl) (K1.mid [] (tL t) [] rfl _ rfl)) I
  ·intro a w5 G I S hE
   have TT := Tr.of_ch C.ms G (fun _ h => by simp at h)
   replace f_w := Enc.tr (failE) f_w TT
   replace K2 := Blk.tr0 K2 G
   replace C := C.trans TT
   exact qo (fV f) (x_loadw (fL f) ⟨_, Try.underlying41, rfl, by kernel_rfl⟩ (S.e rfl) (K2.mid [] (fL f) [] rfl _ rfl)) I
  ·intro a w6 G I S hE
   have TT := Tr.of_ch C.ms G (fun _ h => by simp at h)
   replace C := C.trans TT
   exact qo (iI da) (x_move (S.e rfl)) I
  ·intro a w7 G I S hE
   have TT := Tr.of_ch C.ms G (fun _ h => by simp at h)
   replace t_w := Enc.tr (topoE) t_w TT
   replace f_w := Enc.tr (failE) f_w TT
   replace C := C.trans TT
   obtain ⟨e13, e14, e15, _⟩ := hE
   replace S := S.ext e13
   replace S := S.ext e14
   replace S := S.ext e15
   refine head_op rfl rfl (op_call (vs := #[tV t, fV f, iI da]) (by simp only [List.map_toArray, List.map_cons, List.map_nil, show a.eval (.tmp 13) = tV t from (S.e rfl), show a.eval (.tmp 14) = fV f from (S.e rfl), show a.eval (.tmp 15) = iI da from (S.e rfl)]) callable_60 (rAlive _ (Ex F _) (C.old hF)  (MS.nil _) t ((topoE).down0 t_w) f ((failE).down0 f_w) da da_h) ?_)
   rintro e w2 ⟨rfl, T0⟩; exact ⟨_, rfl, Done.mk' rfl (by decide) (show _ = _ from rfl) T0.ch trivial⟩
  ·intro a w8 G I S hE
   have TT := Tr.of_ch C.ms G (fun _ h => by simp at h)
   replace C := C.trans TT
   obtain ⟨e16, _⟩ := hE
   replace S := S.ext e16
   exact qo (bD (aliveV t f da)) (x_move (S.e rfl)) I
  ·intro a w9 G I S hE
   have TT := Tr.of_ch C.ms G (fun _ h => by simp at h)
   replace t_w := Enc.tr (topoE) t_w TT
   replace K1 := Blk.tr0 K1 G
   replace C := C.trans TT
   obtain ⟨e17, _⟩ := hE
   replace S := S.ext e17
   refine (Classical.em (aliveV t f da)).symm.elim (fun hg => ?_) fun hg => ?_
   ·exact qn S 17 rfl (fun h => hg (gt.2 h)) I
   exact qy S 17 rfl (gt.1 hg) (tV t) (x_loadw (tL t) ⟨_, Try.underlying28, rfl, by kernel_rfl⟩ (S.e rfl) (K1.mid [] (tL t) [] rfl _ rfl)) I
  ·intro a w10 G I S hE
   have TT := Tr.of_ch C.ms G (fun _ h => by simp at h)
   replace f_w := Enc.tr (failE) f_w TT
   replace K2 := Blk.tr0 K2 G
   replace C := C.trans TT
   obtain ⟨e17, _⟩ := hE
   replace S := S.ext e17
   refine (Classical.em (aliveV t f da)).symm.elim (fun hg => ?_) fun hg => ?_
   ·exact qn S 17 rfl (fun h => hg (gt.2 h)) I
   exact qy S 17 rfl (gt.1 hg) (fV f) (x_loadw (fL f) ⟨_, Try.underlying41, rfl, by kernel_rfl⟩ (S.e rfl) (K2.mid [] (fL f) [] rfl _ rfl)) I
  ·intro a w11 G I S hE
   have TT := Tr.of_ch C.ms G (fun _ h => by simp at h)
   replace C := C.trans TT
   obtain ⟨e17, _⟩ := hE
   replace S := S.ext e17
   refine (Classical.em (aliveV t f da)).symm.elim (fun hg => ?_) fun hg => ?_
   ·exact qn S 17 rfl (fun h => hg (gt.2 h)) I
   exact qy S 17 rfl (gt.1 hg) (iI db) (x_move (S.e rfl)) I
  ·intro a w12 G I S hE
   have TT := Tr.of_ch C.ms G (fun _ h => by simp at h)
   replace t_w := Enc.tr (topoE) t_w TT
   replace f_w := Enc.tr (failE) f_w TT
   replace C := C.trans TT
   obtain ⟨e17, e18, e19, e20, _⟩ := hE
   replace S := S.ext e17
   replace S := S.ext e18
   replace S := S.ext e19
   replace S := S.ext e20
   refine (Classical.em (aliveV t f da)).symm.elim (fun hg => ?_) fun hg => ?_
   ·exact qn S 17 rfl (fun h => hg (gt.2 h)) I
   refine head_yes rfl rfl rfl rfl (by rw [S.size]; decide) (gv := bD (aliveV t f da)) (S.get 17 _ rfl) (gt.1 hg) (op_call (vs := #[tV t, fV f, iI db]) (by simp only [List.map_toArray, List.map_cons, List.map_nil, show a.eval (.tmp 18) = tV t from (S.p rfl hg), show a.eval (.tmp 19) = fV f from (S.p rfl hg), show a.eval (.tmp 20) = iI db from (S.p rfl hg)]) callable_60 (rAlive _ (Ex F _) (C.old hF)  (MS.nil _) t ((topoE).down0 t_w) f ((failE).down0 f_w) db db_h) ?_)
   rintro e w2 ⟨rfl, T0⟩; exact ⟨_, rfl, Done.mk' rfl (by decide) (show _ = _ from (if_pos hg).symm) T0.ch trivial⟩
  ·intro a w13 G I S hE
   have TT := Tr.of_ch C.ms G (fun _ h => by simp at h)
   replace C := C.trans TT
   obtain ⟨e17, e21, _⟩ := hE
   replace S := S.ext e17
   replace S := S.ext e21
   exact qo (bD ((aliveV t f da) ∧ (aliveV t f db))) (x_and (S.e rfl) (S.p rfl) (S.e rfl)) I
  ·intro a w14 G I S hE
   have TT := Tr.of_ch C.ms G (fun _ h => by simp at h)
   replace C := C.trans TT
   obtain ⟨e22, _⟩ := hE
   replace S := S.ext e22
   exact qo (bD ((aliveV t f da) ∧ (aliveV t f db))) (x_move (S.e rfl)) I
  ·intro a w15 G I S hE
   have TT := Tr.of_ch C.ms G (fun _ h => by simp at h)
   replace R_3 := Enc.tr (slE intE) R_3 TT
   replace C := C.trans TT
   obtain ⟨e23, _⟩ := hE
   replace S := S.ext e23
   refine (Classical.em ((aliveV t f da) ∧ (aliveV t f db))).symm.elim (fun hg => ?_) fun hg => ?_
   ·exact qn S 23 rfl (fun h => hg (gt.2 h)) I
   exact qy S 23 rfl (gt.1 hg) (.slice ra_3 ((compsV t f).length) rc_3) (x_move (S.e rfl)) I
  ·intro a w16 G I S hE
   have TT := Tr.of_ch C.ms G (fun _ h => by simp at h)
   replace C := C.trans TT
   obtain ⟨e23, _⟩ := hE
   replace S := S.ext e23
   refine (Classical.em ((aliveV t f da) ∧ (aliveV t f db))).symm.elim (fun hg => ?_) fun hg => ?_
   ·exact qn S 23 rfl (fun h => hg (gt.2 h)) I
   exact qy S 23 rfl (gt.1 hg) (iI da) (x_move (S.e rfl)) I
  ·intro a w17 G I S hE
   have TT := Tr.of_ch C.ms G (fun _ h => by simp at h)
   replace R_3 := Enc.tr (slE intE) R_3 TT
   replace C := C.trans TT
   obtain ⟨e23, e24, e25, _⟩ := hE
   replace S := S.ext e23
   replace S := S.ext e24
   replace S := S.ext e25
   refine (Classical.em ((aliveV t f da) ∧ (aliveV t f db))).symm.elim (fun hg => ?_) fun hg => ?_
   ·exact qn S 23 rfl (fun h => hg (gt.2 h)) I
   exact qy S 23 rfl (gt.1 hg) (pT (blk ra_3) (off ra_3 + (da).toNat * 1)) (x_idx Try.underlying22 (by kernel_rfl) (S.p rfl hg) (S.p rfl hg) (da).toNat (by have := (aliveV_nat hg.1).1; omega) (by exact compsV_lt hg.1) ((show LAt intE _ _ ra_3 (compsV t f) from (R_3).1).adr (i := (da).toNat) (by exact compsV_lt hg.1))) I
  ·intro a w18 G I S hE
   have TT := Tr.of_ch C.ms G (fun _ h => by simp at h)
   replace R_3 := Enc.tr (slE intE) R_3 TT
   replace C := C.trans TT
   obtain ⟨e23, e26, _⟩ := hE
   replace S := S.ext e23
   replace S := S.ext e26
   refine (Classical.em ((aliveV t f da) ∧ (aliveV t f db))).symm.elim (fun hg => ?_) fun hg => ?_
   ·exact qn S 23 rfl (fun h => hg (gt.2 h)) I
   exact qy S 23 rfl (gt.1 hg) (iI ((compsV t f).getD ((da).toNat) intE.dflt)) (x_load ⟨_, Try.underlying3, rfl⟩ (S.p rfl hg) ((show LAt intE _ _ ra_3 (compsV t f) from (R_3).1).cell (da).toNat (by exact compsV_lt hg.1) 0 _ rfl)) I
  ·intro a w19 G I S hE
   have TT := Tr.of_ch C.ms G (fun _ h => by simp at h)
   replace R_3 := Enc.tr (slE intE) R_3 TT
   replace C := C.trans TT
   obtain ⟨e23, _⟩ := hE
   replace S := S.ext e23
   refine (Classical.em ((aliveV t f da) ∧ (aliveV t f db))).symm.elim (fun hg => ?_) fun hg => ?_
   ·exact qn S 23 rfl (fun h => hg (gt.2 h)) I
   exact qy S 23 rfl (gt.1 hg) (.slice ra_3 ((compsV t f).length) rc_3) (x_move (S.e rfl)) I
  ·intro a w20 G I S hE
   have TT := Tr.of_ch C.ms G (fun _ h => by simp at h)
   replace C := C.trans TT
   obtain ⟨e23, _⟩ := hE
   replace S := S.ext e23
   refine (Classical.em ((aliveV t f da) ∧ (aliveV t f db))).symm.elim (fun hg => ?_) fun hg => ?_
   ·exact qn S 23 rfl (fun h => hg (gt.2 h)) I
   exact qy S 23 rfl (gt.1 hg) (iI db) (x_move (S.e rfl)) I
  ·intro a w21 G I S hE
   have TT := Tr.of_ch C.ms G (fun _ h => by simp at h)
   replace R_3 := Enc.tr (slE intE) R_3 TT
   replace C := C.trans TT
   obtain ⟨e23, e28, e29, _⟩ := hE
   replace S := S.ext e23
   replace S := S.ext e28
   replace S := S.ext e29
   refine (Classical.em ((aliveV t f da) ∧ (aliveV t f db))).symm.elim (fun hg => ?_) fun hg => ?_
   ·exact qn S 23 rfl (fun h => hg (gt.2 h)) I
   exact qy S 23 rfl (gt.1 hg) (pT (blk ra_3) (off ra_3 + (db).toNat * 1)) (x_idx Try.underlying22 (by kernel_rfl) (S.p rfl hg) (S.p rfl hg) (db).toNat (by have := (aliveV_nat hg.2).1; omega) (by exact compsV_lt hg.2) ((show LAt intE _ _ ra_3 (compsV t f) from (R_3).1).adr (i := (db).toNat) (by exact compsV_lt hg.2))) I
  ·intro a w22 G I S hE
   have TT := Tr.of_ch C.ms G (fun _ h => by simp at h)
   replace R_3 := Enc.tr (slE intE) R_3 TT
   replace C := C.trans TT
   obtain ⟨e23, e30, _⟩ := hE
   replace S := S.ext e23
   replace S := S.ext e30
   refine (Classical.em ((aliveV t f da) ∧ (aliveV t f db))).symm.elim (fun hg => ?_) fun hg => ?_
   ·exact qn S 23 rfl (fun h => hg (gt.2 h)) I
   exact qy S 23 rfl (gt.1 hg) (iI ((compsV t f).getD ((db).toNat) intE.dflt)) (x_load ⟨_, Try.underlying3, rfl⟩ (S.p rfl hg) ((show LAt intE _ _ ra_3 (compsV t f) from (R_3).1).cell (db).toNat (by exact compsV_lt hg.2) 0 _ rfl)) I
  ·intro a w23 G I S hE
   have TT := Tr.of_ch C.ms G (fun _ h => by simp at h)
   replace R_3 := Enc.tr (slE intE) R_3 TT
   replace C := C.trans TT
   obtain ⟨e23, e27, e31, _⟩ := hE
   replace S := S.ext e23
   replace S := S.ext e27
   replace S := S.ext e31
   refine (Classical.em ((aliveV t f da) ∧ (aliveV t f db))).symm.elim (fun hg => ?_) fun hg => ?_
   ·exact qn S 23 rfl (fun h => hg (gt.2 h)) I
   exact qy S 23 rfl (gt.1 hg) (bD (((compsV t f).getD ((da).toNat) intE.dflt) = ((compsV t f).getD ((db).toNat) intE.dflt))) (x_eql (S.p rfl hg) (S.p rfl hg)) I
  ·intro a w24 G I S hE
   have TT := Tr.of_ch C.ms G (fun _ h => by simp at h)
   replace C := C.trans TT
   obtain ⟨e23, e32, _⟩ := hE
   replace S := S.ext e23
   replace S := S.ext e32
   exact qo (bD (((aliveV t f da) ∧ (aliveV t f db)) ∧ (((compsV t f).getD ((da).toNat) intE.dflt) = ((compsV t f).getD ((db).toNat) intE.dflt)))) (x_and (S.e rfl) (S.p rfl) (S.e rfl)) I
  intro a w25 G I S hE
  have TT := Tr.of_ch C.ms G (fun _ h => by simp at h)
  replace C := C.trans TT
  obtain ⟨e33, _⟩ := hE
  replace S := S.ext e33
  exact qo (bD (((aliveV t f da) ∧ (aliveV t f db)) ∧ (((compsV t f).getD ((da).toNat) intE.dflt) = ((compsV t f).getD ((db).toNat) intE.dflt)))) (x_assign (S.e rfl)) I
 clear S a; intro a w26 G I S hE; have TT := Tr.of_ch C.ms G (fun _ h => by simp at h)
 replace t_w := Enc.tr (topoE) t_w TT
 replace f_w := Enc.tr (failE) f_w TT
 replace K1 := Blk.tr0 K1 G
 replace K2 := Blk.tr0 K2 G
 replace R_3 := Enc.tr (slE intE) R_3 TT
 replace C := C.trans TT
 clear TT G
 obtain ⟨e8, -⟩ := hE
 replace S := S.ext e8
 clear e8
 obtain ⟨hl5, hu5⟩ : inI64 da := id da_h
 refine qt ?_
 refine wp_ret ?_
 refine ret1 rfl S rfl ?_
 have TD : Tr [one b2, one b1] w26 [] w26 := Tr.drop C.ms [] (by decide)
 have GD : Ch (In []) w26 w26 := Ch.refl _
 clear K1
 clear K2
 replace t_w := Enc.tr (topoE) t_w TD
 replace f_w := Enc.tr (failE) f_w TD
 replace R_3 := Enc.tr (slE intE) R_3 TD
 replace C := C.trans TD
 clear TD GD
 refine ⟨(r1 (vb ?_)), C⟩
 exact compsV_conn.symm
set_option maxHeartbeats 2000000 in
set_option maxRecDepth 20000 in
theorem rWithout (w : World) (F : Nat → Prop) (hF : Old F w) (M : MS [] w) (f : Fail) (f_w : failE.wf (Fr F []) w.heap f) (v : Int) (v_h : inI64 v) (hl : f.links.xs.length ≤ 1024) :
 Calls Try.prog 26 #[fV f, iI v] w fun e w' => ∃ (r : Fail), e = .returned (fV r) ∧ failE.wf (Fr F []) w'.heap r ∧ OneMore r f v ∧ Tr [] w [] w' := by
 have C : Tr [] w [] w := Tr.refl M
 have : f.links.xs.length ≤ 9223372036854775807 := (f_w.1).1.len
 have : f.devs.xs.length ≤ 9223372036854775807 := (f_w.2).1.len
 obtain ⟨v_hl, v_hu⟩ : inI64 v := id v_h
 refine enter Try.func26 rfl 55 rfl (Nat.le_of_ble_eq_true rfl) ?_
 intro a S
 refine qs ?_
 refine seq_new S rfl rfl (by decide) (fun b => pT b 0) (cs := (fL f)) (x_box (fL f) (S.e rfl) rfl) ?_
 clear S a; intro a w1 b1 hb1 hbs1 G K1 S; have hbl1 : b1 < w1.heap.size := by omega
 have TT := Tr.fresh C.ms hb1 hbl1 G
 replace f_w := Enc.tr (failE) f_w TT
 replace C := C.trans TT
 clear TT G
 refine seq_new S rfl rfl (by decide) (fun b => pT b 0) (cs := [.slice none 0 0, .slice none 0 0]) (x_allocz [.slice none 0 0, .slice none 0 0] infoz_41 rfl) ?_
 clear S a; intro a w2 b2 hb2 hbs2 G K2 S; have hbl2 : b2 < w2.heap.size := by omega
 have TT := Tr.fresh C.ms hb2 hbl2 G
 replace f_w := Enc.tr (failE) f_w TT
 replace K1 := Blk.tr0 K1 G
 replace C := C.trans TT
 clear TT G
 refine qt ?_
 refine qs ?_
 refine qa S rfl ?_; clear S a; intro a S
 refine qt ?_
 refine qs ?_
 refine qa S rfl ?_; clear S a; intro a S
 refine qt ?_
 refine wp_seq ?_
 refine qs ?_
 refine qa S rfl ?_; clear S a; intro a S
 refine qt ?_
 refine wp_block ?_
 have W3 := Row.nil intE 3 w.heap.size F [abk none, one b2, one b1] w2
 have TT : Tr [one b2, one b1] w2 [abk none, one b2, one b1] w2 := (Tr.refl C.ms).cons (b := abk none) (fun k e => absurd e abk_none); have G : Ch (In []) w2 w2 := Ch.refl _
 replace f_w := Enc.tr (failE) f_w TT
 replace K1 := Blk.tr0 K1 G
 replace K2 := Blk.tr0 K2 G
 replace C := C.trans TT
 clear TT G
 refine wp_loop_ghost (fun m a wr => ∃ k : Nat, ∃ dn : Bool, ∃ out_a : Option Addr, ∃ out_c : Nat, ∃ out : List Int, Slots 55 [(1, iI v), (2, pT b1 0), (4, pT b2 0), (7, iN k), (6, bD (dn = true)), (5, .slice out_a out.length out_c)] a ∧ Tr [abk none, one b2, one b1] w2 [abk out_a, one b2, one b1] wr ∧ (k ≤ f.links.xs.length ∧ (out, dn) = woFold (f.links.xs.take k) v ∧ out.length ≤ 2 * k) ∧ Blk wr.heap b1 (fL f) 41 ∧ Blk wr.heap b2 [.slice none 0 0, .slice none 0 0] 41 ∧ Row intE 3 w.heap.size F [abk out_a, one b2, one b1] wr out_a out_c out ∧ (f.links.xs.length - k) = m) (f.links.xs.length - 0) ?_ ?_
 ·refine ⟨0, false, none, 0, [], S.sub ⟨rfl, rfl, rfl, rfl, rfl, rfl, trivial⟩, Tr.refl C.ms, ?_, K1, K2, W3, rfl⟩
  exact ⟨Nat.zero_le _, rfl, Nat.zero_le _⟩
 rintro m a w3 ⟨k, dn, out_a, out_c, out, S, G, hR, K1', K2', W3', rfl⟩
 clear K1; have K1 := K1'; clear K1'
 clear K2; have K2 := K2'; clear K2'
 clear W3; have W3 := W3'; clear W3'
 replace f_w := Enc.tr (failE) f_w G
 replace C := C.trans G
 have GL0 := G; clear G
 have out_len := W3.len_le; simp only [maxLen] at out_len
 obtain ⟨hk, ho, hol⟩ := hR
 refine wp_seq ?_
 refine qs ?_
 refine qm S rfl ?_; clear S a; intro a S
 refine qv S (pT b1 (0 + 0)) (x_fld (z := 0) (0) 0 Try.underlying41 rfl rfl (by kernel_rfl) (S.e rfl)) ?_; clear S a; intro a S
 refine qv S (sV f.links) (x_load ⟨_, Try.underlying22, rfl⟩ (S.e rfl) (K1.cell (j := 0) rfl)) ?_; clear S a; intro a S
 have hn4 : f.links.xs.length ≤ 9223372036854775807 := (f_w.1).1.len
 refine qv S (iN f.links.xs.length) (x_len Try.underlying22 (S.e rfl)) ?_; clear S a; intro a S
 refine qv S (bD (((k : Nat) : Int) < ((f.links.xs.length : Nat) : Int))) (x_lss (S.e rfl) (S.e rfl)) ?_; clear S a; intro a S
 refine qt ?_
 refine cond_dec S rfl ?_ ?_
 ·intro hc0
  refine wp_skip ?_
  refine then_n ?_
  refine wp_seq ?_
  refine wp_block ?_
  refine wp_seq ?_
  refine qs ?_
  refine qm S rfl ?_; clear S a; intro a S
  refine qv S (bD (¬ (dn = true))) (x_notp (S.e rfl)) ?_; clear S a; intro a S
  refine qm S rfl ?_; clear S a; intro a S
  refine qg S 17 rfl (¬ (dn = true)) gt (pT b1 (0 + 0)) (fun hg => (x_fld (z := 0) (0) 0 Try.underlying41 rfl rfl (by kernel_rfl) (S.e rfl))) ?_; clear S a; intro a S
  refine qg S 17 rfl (¬ (dn = true)) gt (sV f.links) (fun hg => (x_load ⟨_, Try.underlying22, rfl⟩ (S.p rfl hg) (K1.cell (j := 0) rfl))) ?_; clear S a; intro a S
  refine qg S 17 rfl (¬ (dn = true)) gt (iN k) (fun hg => (x_move (S.e rfl))) ?_; clear S a; intro a S
  refine qg S 17 rfl (¬ (dn = true)) gt (pT (blk f.links.a) (off f.links.a + k * 1)) (fun hg => (x_idx Try.underlying22 (by kernel_rfl) (S.p rfl hg) (S.p rfl hg) k rfl (by omega) ((f_w.1).1.adr (i := k) (by omega)))) ?_; clear S a; intro a S
  refine qg S 17 rfl (¬ (dn = true)) gt (iI (f.links.xs.getD k intE.dflt)) (fun hg => (x_load ⟨_, Try.underlying3, rfl⟩ (S.p rfl hg) ((f_w.1).1.cell k (by omega) 0 _ rfl))) ?_; clear S a; intro a S
  refine qg S 17 rfl (¬ (dn = true)) gt (iI v) (fun hg => (x_move (S.e rfl))) ?_; clear S a; intro a S
  refine qg S 17 rfl (¬ (dn = true)) gt (bD (v ≤ (f.links.xs.getD k intE.dflt))) (fun hg => (x_geq (S.p rfl hg) (S.p rfl hg))) ?_; clear S a; intro a S
  refine qv S (bD ((¬ (dn = true)) ∧ (v ≤ (f.links.xs.getD k intE.dflt)))) (x_and (S.e rfl) (S.p rfl) (S.e rfl)) ?_; clear S a; intro a S
  refine qt ?_
  refine cond_dec S rfl ?_ ?_
  ·intro hc1
   refine wp_region_lit ?_
   refine qm S rfl ?_; clear S a; intro a S
   refine qm S rfl ?_; clear S a; intro a S
   refine seq_new S rfl rfl (by decide) (fun b => .slice (some ⟨b, 0, none⟩) 1 1) (cs := [iI v]) (x_bsl [(0, iI v)] [iI v] Try.underlying22 infoz_3 (by decide) (by decide) (by simp only [List.map_cons, List.map_nil, show a.eval (.tmp 27) = iI v from (S.e rfl)]) (by kernel_rfl)) ?_
   clear S a; intro a w4 b5 hb5 hbs5 G K5 S; have hbl5 : b5 < w4.heap.size := by omega
   have we5_0 : intE.wf (Fr F [abk out_a, one b2, one b1]) w3.heap v := v_h
   have hfr5 := fr_fresh C hF hb5; have TT := Tr.of_ch0 C.ms G
   replace f_w := Enc.tr (failE) f_w TT
   replace K1 := Blk.tr0 K1 G
   replace K2 := Blk.tr0 K2 G
   replace W3 := Row.tr0 W3 TT G
   replace GL0 := GL0.trans TT
   replace C := C.trans TT
   have KS5 : (slE intE).wf (Fr F [abk out_a, one b2, one b1]) w4.heap ⟨some ⟨b5, 0, none⟩, 1, [v]⟩ := sl_of_blk K5 [v] 1 rfl (by decide) (by decide) rfl hfr5 (by intro x hx; simp only [List.mem_cons, List.not_mem_nil, or_false] at hx; subst hx; exact Enc.tr (intE) we5_0 TT)
   clear K5 hfr5 TT G we5_0
   refine seq_op rfl (op_append (E := intE) [] [one b2, one b1] (.tmp 26) (.tmp 28) 22 rfl zero_3 8 Try.underlying22 infoz_3 rfl (by decide) rfl C.ms (S.e rfl) W3 ([v]) (some ⟨b5, 0, none⟩) 1 (S.e rfl) (show LAt intE _ _ (some ⟨b5, 0, none⟩) ([v]) from (KS5).1) (KS5).2.2 (LAt.mem (show LAt intE _ _ (some ⟨b5, 0, none⟩) ([v]) from (KS5).1)) (by unfold maxLen; (try simp only [List.length_cons, List.length_nil, List.length_append, List.length_map]); omega) (by (try simp only [List.length_cons, List.length_nil, List.length_append, List.length_map]); omega) (C.size) ?_)
   intro ad6 cap6 w5 Rn TT G
   have S1 := S.put (d := 29) (v := .slice ad6 (out ++ [v]).length cap6) (by decide); clear S; revert S1; generalize Act.put a _ _ = a1; intro S; clear a; rename Act => a
   replace TT : Tr [abk out_a, one b2, one b1] w4 [abk ad6, one b2, one b1] w5 := TT; replace Rn : Row intE 3 w.heap.size F [abk ad6, one b2, one b1] w5 ad6 cap6 (out ++ [v]) := Rn
   replace f_w := Enc.tr (failE) f_w TT
   replace K1 := Blk.tr K1 G (C.ms.sep.out 2 [0] rfl rfl rfl)
   replace K2 := Blk.tr K2 G (C.ms.sep.out 1 [0] rfl rfl rfl)
   replace KS5 := Enc.tr (slE intE) KS5 TT
   replace GL0 := GL0.trans TT
   replace C := C.trans TT
   clear W3; have W3 := Rn; clear Rn TT G
   refine qa S rfl ?_; clear S a; intro a S
   refine qa S rfl ?_; clear S a; intro a S
   refine qt ?_
   refine qs ?_
   refine qv S (pT b1 (0 + 0)) (x_fld (z := 0) (0) 0 Try.underlying41 rfl rfl (by kernel_rfl) (S.e rfl)) ?_; clear S a; intro a S
   refine qv S (sV f.links) (x_load ⟨_, Try.underlying22, rfl⟩ (S.e rfl) (K1.cell (j := 0) rfl)) ?_; clear S a; intro a S
   refine qm S rfl ?_; clear S a; intro a S
   refine qv S (pT (blk f.links.a) (off f.links.a + k * 1)) (x_idx Try.underlying22 (by kernel_rfl) (S.e rfl) (S.e rfl) k rfl (by omega) ((f_w.1).1.adr (i := k) (by omega))) ?_; clear S a; intro a S
   obtain ⟨hl7, hu7⟩ : inI64 (f.links.xs.getD k intE.dflt) := id ((f_w.1).1.wf k (by omega))
   refine qv S (iI (f.links.xs.getD k intE.dflt)) (x_load ⟨_, Try.underlying3, rfl⟩ (S.e rfl) ((f_w.1).1.cell k (by omega) 0 _ rfl)) ?_; clear S a; intro a S
   refine qm S rfl ?_; clear S a; intro a S
   refine qv S (bD (¬ (f.links.xs.getD k intE.dflt) = v)) (x_neq (S.e rfl) (S.e rfl)) ?_; clear S a; intro a S
   refine qt ?_
   refine cond_dec S rfl ?_ ?_
   ·intro hc2
    refine wp_region_lit ?_
    refine qm S rfl ?_; clear S a; intro a S
    refine qv S (pT b1 (0 + 0)) (x_fld (z := 0) (0) 0 Try.underlying41 rfl rfl (by kernel_rfl) (S.e rfl)) ?_; clear S a; intro a S
    refine qv S (sV f.links) (x_load ⟨_, Try.underlying22, rfl⟩ (S.e rfl) (K1.cell (j := 0) rfl)) ?_; clear S a; intro a S
    refine qm S rfl ?_; clear S a; intro a S
    refine qv S (pT (blk f.links.a) (off f.links.a + k * 1)) (x_idx Try.underlying22 (by kernel_rfl) (S.e rfl) (S.e rfl) k rfl (by omega) ((f_w.1).1.adr (i := k) (by omega))) ?_; clear S a; intro a S
    refine qv S (iI (f.links.xs.getD k intE.dflt)) (x_load ⟨_, Try.underlying3, rfl⟩ (S.e rfl) ((f_w.1).1.cell k (by omega) 0 _ rfl)) ?_; clear S a; intro a S
    refine seq_new S rfl rfl (by decide) (fun b => .slice (some ⟨b, 0, none⟩) 1 1) (cs := [iI (f.links.xs.getD k intE.dflt)]) (x_bsl [(0, iI (f.links.xs.getD k intE.dflt))] [iI (f.links.xs.getD k intE.dflt)] Try.underlying22 infoz_3 (by decide) (by decide) (by simp only [List.map_cons, List.map_nil, show a.eval (.tmp 42) = iI (f.links.xs.getD k intE.dflt) from (S.e rfl)]) (by kernel_rfl)) ?_
    clear S a; intro a w6 b8 hb8 hbs8 G K8 S; have hbl8 : b8 < w6.heap.size := by omega
    have we8_0 : intE.wf (Fr F [abk ad6, one b2, one b1]) w5.heap (f.links.xs.getD k intE.dflt) := ((f_w.1).1.wf k (by omega))
    have hfr8 := fr_fresh C hF hb8; have TT := Tr.of_ch0 C.ms G
    replace f_w := Enc.tr (failE) f_w TT
    replace K1 := Blk.tr0 K1 G
    replace K2 := Blk.tr0 K2 G
    replace W3 := Row.tr0 W3 TT G
    replace KS5 := Enc.tr (slE intE) KS5 TT
    replace GL0 := GL0.trans TT
    replace C := C.trans TT
    have KS8 : (slE intE).wf (Fr F [abk ad6, one b2, one b1]) w6.heap ⟨some ⟨b8, 0, none⟩, 1, [(f.links.xs.getD k intE.dflt)]⟩ := sl_of_blk K8 [(f.links.xs.getD k intE.dflt)] 1 rfl (by decide) (by decide) rfl hfr8 (by intro x hx; simp only [List.mem_cons, List.not_mem_nil, or_false] at hx; subst hx; exact Enc.tr (intE) we8_0 TT)
    clear K8 hfr8 TT G we8_0
    refine seq_op rfl (op_append (E := intE) [] [one b2, one b1] (.tmp 37) (.tmp 43) 22 rfl zero_3 8 Try.underlying22 infoz_3 rfl (by decide) rfl C.ms (S.e rfl) W3 ([(f.links.xs.getD k intE.dflt)]) (some ⟨b8, 0, none⟩) 1 (S.e rfl) (show LAt intE _ _ (some ⟨b8, 0, none⟩) ([(f.links.xs.getD k intE.dflt)]) from (KS8).1) (KS8).2.2 (LAt.mem (show LAt intE _ _ (some ⟨b8, 0, none⟩) ([(f.links.xs.getD k intE.dflt)]) from (KS8).1)) (by unfold maxLen; (try simp only [List.length_cons, List.length_nil, List.length_append, List.length_map]); omega) (by (try simp only [List.length_cons, List.length_nil, List.length_append, List.length_map]); omega) (C.size) ?_)
    intro ad9 cap9 w7 Rn TT G
    have S1 := S.put (d := 44) (v := .slice ad9 ((out ++ [v]) ++ [(f.links.xs.getD k intE.dflt)]).length cap9) (by decide); clear S; revert S1; generalize Act.put a _ _ = a1; intro S; clear a; rename Act => a
    replace TT : Tr [abk ad6, one b2, one b1] w6 [abk ad9, one b2, one b1] w7 := TT; replace Rn : Row intE 3 w.heap.size F [abk ad9, one b2, one b1] w7 ad9 cap9 ((out ++ [v]) ++ [(f.links.xs.getD k intE.dflt)]) := Rn
    replace f_w := Enc.tr (failE) f_w TT
    replace K1 := Blk.tr K1 G (C.ms.sep.out 2 [0] rfl rfl rfl)
    replace K2 := Blk.tr K2 G (C.ms.sep.out 1 [0] rfl rfl rfl)
    replace KS5 := Enc.tr (slE intE) KS5 TT
    replace KS8 := Enc.tr (slE intE) KS8 TT
    replace GL0 := GL0.trans TT
    replace C := C.trans TT
    clear W3; have W3 := Rn; clear Rn TT G
    refine qa S rfl ?_; clear S a; intro a S
    refine wpList_nil ?_
    refine blk_n ?_
    refine then_n ?_
    refine wp_region_lit ?_
    refine qm S rfl ?_; clear S a; intro a S
    refine qv S (iN (k + 1)) (x_add (S.e rfl) (S.e rfl) (r := ((k + 1 : Nat) : Int)) (w_i64 (by omega))) ?_; clear S a; intro a S
    refine qa S rfl ?_; clear S a; intro a S
    refine qt ?_
    refine ⟨f.links.xs.length - (k + 1), ?_, (k + 1), true, ad9, cap9, ((out ++ [v]) ++ [(f.links.xs.getD k intE.dflt)]), S.sub ⟨rfl, rfl, rfl, rfl, rfl, (by first | rfl | (simp only [List.length_set]; rfl)), trivial⟩, GL0, ?_, K1, K2, W3, rfl⟩
    ·omega
    refine ⟨by omega, ?_, by first | omega | (simp only [List.length_append, List.length_cons, List.length_nil]; omega)⟩
    rw [woFold_snoc (by omega), ← ho]
    unfold woStep
    have e0 : intE.dflt = 0 := rfl
    rw [e0] at hc2 hc1
    first | rw [if_pos hc1] | rw [if_neg hc1]
    first | rw [if_pos hc2] | rw [if_neg hc2]
    try rfl
   intro hc3
   refine wp_skip ?_
   refine blk_n ?_
   refine then_n ?_
   refine wp_region_lit ?_
   refine qm S rfl ?_; clear S a; intro a S
   refine qv S (iN (k + 1)) (x_add (S.e rfl) (S.e rfl) (r := ((k + 1 : Nat) : Int)) (w_i64 (by omega))) ?_; clear S a; intro a S
   refine qa S rfl ?_; clear S a; intro a S
   refine qt ?_
   refine ⟨f.links.xs.length - (k + 1), ?_, (k + 1), true, ad6, cap6, (out ++ [v]), S.sub ⟨rfl, rfl, rfl, rfl, rfl, (by first | rfl | (simp only [List.length_set]; rfl)), trivial⟩, GL0, ?_, K1, K2, W3, rfl⟩
   ·omega
   refine ⟨by omega, ?_, by first | omega | (simp only [List.length_append, List.length_cons, List.length_nil]; omega)⟩
   rw [woFold_snoc (by omega), ← ho]
   unfold woStep
   have e0 : intE.dflt = 0 := rfl
   rw [e0] at hc3 hc1
   first | rw [if_pos hc1] | rw [if_neg hc1]
   first | rw [if_pos hc3] | rw [if_neg hc3]
   try rfl
  intro hc4
  refine wp_skip ?_
  refine then_n ?_
  refine qs ?_
  refine qv S (pT b1 (0 + 0)) (x_fld (z := 0) (0) 0 Try.underlying41 rfl rfl (by kernel_rfl) (S.e rfl)) ?_; clear S a; intro a S
  refine qv S (sV f.links) (x_load ⟨_, Try.underlying22, rfl⟩ (S.e rfl) (K1.cell (j := 0) rfl)) ?_; clear S a; intro a S
  refine qm S rfl ?_; clear S a; intro a S
  refine qv S (pT (blk f.links.a) (off f.links.a + k * 1)) (x_idx Try.underlying22 (by kernel_rfl) (S.e rfl) (S.e rfl) k rfl (by omega) ((f_w.1).1.adr (i := k) (by omega))) ?_; clear S a; intro a S
  obtain ⟨hl10, hu10⟩ : inI64 (f.links.xs.getD k intE.dflt) := id ((f_w.1).1.wf k (by omega))
  refine qv S (iI (f.links.xs.getD k intE.dflt)) (x_load ⟨_, Try.underlying3, rfl⟩ (S.e rfl) ((f_w.1).1.cell k (by omega) 0 _ rfl)) ?_; clear S a; intro a S
  refine qm S rfl ?_; clear S a; intro a S
  refine qv S (bD (¬ (f.links.xs.getD k intE.dflt) = v)) (x_neq (S.e rfl) (S.e rfl)) ?_; clear S a; intro a S
  refine qt ?_
  refine cond_dec S rfl ?_ ?_
  ·intro hc5
   refine wp_region_lit ?_
   refine qm S rfl ?_; clear S a; intro a S
   refine qv S (pT b1 (0 + 0)) (x_fld (z := 0) (0) 0 Try.underlying41 rfl rfl (by kernel_rfl) (S.e rfl)) ?_; clear S a; intro a S
   refine qv S (sV f.links) (x_load ⟨_, Try.underlying22, rfl⟩ (S.e rfl) (K1.cell (j := 0) rfl)) ?_; clear S a; intro a S
   refine qm S rfl ?_; clear S a; intro a S
   refine qv S (pT (blk f.links.a) (off f.links.a + k * 1)) (x_idx Try.underlying22 (by kernel_rfl) (S.e rfl) (S.e rfl) k rfl (by omega) ((f_w.1).1.adr (i := k) (by omega))) ?_; clear S a; intro a S
   refine qv S (iI (f.links.xs.getD k intE.dflt)) (x_load ⟨_, Try.underlying3, rfl⟩ (S.e rfl) ((f_w.1).1.cell k (by omega) 0 _ rfl)) ?_; clear S a; intro a S
   refine seq_new S rfl rfl (by decide) (fun b => .slice (some ⟨b, 0, none⟩) 1 1) (cs := [iI (f.links.xs.getD k intE.dflt)]) (x_bsl [(0, iI (f.links.xs.getD k intE.dflt))] [iI (f.links.xs.getD k intE.dflt)] Try.underlying22 infoz_3 (by decide) (by decide) (by simp only [List.map_cons, List.map_nil, show a.eval (.tmp 42) = iI (f.links.xs.getD k intE.dflt) from (S.e rfl)]) (by kernel_rfl)) ?_
   clear S a; intro a w8 b11 hb11 hbs11 G K11 S; have hbl11 : b11 < w8.heap.size := by omega
   have we11_0 : intE.wf (Fr F [abk out_a, one b2, one b1]) w3.heap (f.links.xs.getD k intE.dflt) := ((f_w.1).1.wf k (by omega))
   have hfr11 := fr_fresh C hF hb11; have TT := Tr.of_ch0 C.ms G
   replace f_w := Enc.tr (failE) f_w TT
   replace K1 := Blk.tr0 K1 G
   replace K2 := Blk.tr0 K2 G
   replace W3 := Row.tr0 W3 TT G
   replace GL0 := GL0.trans TT
   replace C := C.trans TT
   have KS11 : (slE intE).wf (Fr F [abk out_a, one b2, one b1]) w8.heap ⟨some ⟨b11, 0, none⟩, 1, [(f.links.xs.getD k intE.dflt)]⟩ := sl_of_blk K11 [(f.links.xs.getD k intE.dflt)] 1 rfl (by decide) (by decide) rfl hfr11 (by intro x hx; simp only [List.mem_cons, List.not_mem_nil, or_false] at hx; subst hx; exact Enc.tr (intE) we11_0 TT)
   clear K11 hfr11 TT G we11_0
   refine seq_op rfl (op_append (E := intE) [] [one b2, one b1] (.tmp 37) (.tmp 43) 22 rfl zero_3 8 Try.underlying22 infoz_3 rfl (by decide) rfl C.ms (S.e rfl) W3 ([(f.links.xs.getD k intE.dflt)]) (some ⟨b11, 0, none⟩) 1 (S.e rfl) (show LAt intE _ _ (some ⟨b11, 0, none⟩) ([(f.links.xs.getD k intE.dflt)]) from (KS11).1) (KS11).2.2 (LAt.mem (show LAt intE _ _ (some ⟨b11, 0, none⟩) ([(f.links.xs.getD k intE.dflt)]) from (KS11).1)) (by unfold maxLen; (try simp only [List.length_cons, List.length_nil, List.length_append, List.length_map]); omega) (by (try simp only [List.length_cons, List.length_nil, List.length_append, List.length_map]); omega) (C.size) ?_)
   intro ad12 cap12 w9 Rn TT G
   have S1 := S.put (d := 44) (v := .slice ad12 (out ++ [(f.links.xs.getD k intE.dflt)]).length cap12) (by decide); clear S; revert S1; generalize Act.put a _ _ = a1; intro S; clear a; rename Act => a
   replace TT : Tr [abk out_a, one b2, one b1] w8 [abk ad12, one b2, one b1] w9 := TT; replace Rn : Row intE 3 w.heap.size F [abk ad12, one b2, one b1] w9 ad12 cap12 (out ++ [(f.links.xs.getD k intE.dflt)]) := Rn
   replace f_w := Enc.tr (failE) f_w TT
   replace K1 := Blk.tr K1 G (C.ms.sep.out 2 [0] rfl rfl rfl)
   replace K2 := Blk.tr K2 G (C.ms.sep.out 1 [0] rfl rfl rfl)
   replace KS11 := Enc.tr (slE intE) KS11 TT
   replace GL0 := GL0.trans TT
   replace C := C.trans TT
   clear W3; have W3 := Rn; clear Rn TT G
   refine qa S rfl ?_; clear S a; intro a S
   refine wpList_nil ?_
   refine blk_n ?_
   refine then_n ?_
   refine wp_region_lit ?_
   refine qm S rfl ?_; clear S a; intro a S
   refine qv S (iN (k + 1)) (x_add (S.e rfl) (S.e rfl) (r := ((k + 1 : Nat) : Int)) (w_i64 (by omega))) ?_; clear S a; intro a S
   refine qa S rfl ?_; clear S a; intro a S
   refine qt ?_
   refine ⟨f.links.xs.length - (k + 1), ?_, (k + 1), dn, ad12, cap12, (out ++ [(f.links.xs.getD k intE.dflt)]), S.sub ⟨rfl, rfl, rfl, rfl, rfl, (by first | rfl | (simp only [List.length_set]; rfl)), trivial⟩, GL0, ?_, K1, K2, W3, rfl⟩
   ·omega
   refine ⟨by omega, ?_, by first | omega | (simp only [List.length_append, List.length_cons, List.length_nil]; omega)⟩
   rw [woFold_snoc (by omega), ← ho]
   unfold woStep
   have e0 : intE.dflt = 0 := rfl
   rw [e0] at hc5 hc4
   first | rw [if_pos hc4] | rw [if_neg hc4]
   first | rw [if_pos hc5] | rw [if_neg hc5]
   try rfl
  intro hc6
  refine wp_skip ?_
  refine blk_n ?_
  refine then_n ?_
  refine wp_region_lit ?_
  refine qm S rfl ?_; clear S a; intro a S
  refine qv S (iN (k + 1)) (x_add (S.e rfl) (S.e rfl) (r := ((k + 1 : Nat) : Int)) (w_i64 (by omega))) ?_; clear S a; intro a S
  refine qa S rfl ?_; clear S a; intro a S
  refine qt ?_
  refine ⟨f.links.xs.length - (k + 1), ?_, (k + 1), dn, out_a, out_c, out, S.sub ⟨rfl, rfl, rfl, rfl, rfl, (by first | rfl | (simp only [List.length_set]; rfl)), trivial⟩, GL0, ?_, K1, K2, W3, rfl⟩
  ·omega
  refine ⟨by omega, ?_, by first | omega | (simp only [List.length_append, List.length_cons, List.length_nil]; omega)⟩
  rw [woFold_snoc (by omega), ← ho]
  unfold woStep
  have e0 : intE.dflt = 0 := rfl
  rw [e0] at hc6 hc4
  first | rw [if_pos hc4] | rw [if_neg hc4]
  first | rw [if_pos hc6] | rw [if_neg hc6]
  try rfl
 intro hc7
 refine wp_exit ?_
 refine then_e ?_
 refine then_e ?_
 refine blk_e ?_
 refine then_n ?_
 refine wp_seq ?_
 refine qs ?_
 refine qm S rfl ?_; clear S a; intro a S
 refine qv S (bD (¬ (dn = true))) (x_notp (S.e rfl)) ?_; clear S a; intro a S
 refine qt ?_
 refine cond_dec S rfl ?_ ?_
 ·intro hc8
  refine wp_region_lit ?_
  refine qm S rfl ?_; clear S a; intro a S
  refine qm S rfl ?_; clear S a; intro a S
  refine seq_new S rfl rfl (by decide) (fun b => .slice (some ⟨b, 0, none⟩) 1 1) (cs := [iI v]) (x_bsl [(0, iI v)] [iI v] Try.underlying22 infoz_3 (by decide) (by decide) (by simp only [List.map_cons, List.map_nil, show a.eval (.tmp 48) = iI v from (S.e rfl)]) (by kernel_rfl)) ?_
  clear S a; intro a w10 b13 hb13 hbs13 G K13 S; have hbl13 : b13 < w10.heap.size := by omega
  have we13_0 : intE.wf (Fr F [abk out_a, one b2, one b1]) w3.heap v := v_h
  have hfr13 := fr_fresh C hF hb13; have TT := Tr.of_ch0 C.ms G
  replace f_w := Enc.tr (failE) f_w TT
  replace K1 := Blk.tr0 K1 G
  replace K2 := Blk.tr0 K2 G
  replace W3 := Row.tr0 W3 TT G
  replace GL0 := GL0.trans TT
  replace C := C.trans TT
  have KS13 : (slE intE).wf (Fr F [abk out_a, one b2, one b1]) w10.heap ⟨some ⟨b13, 0, none⟩, 1, [v]⟩ := sl_of_blk K13 [v] 1 rfl (by decide) (by decide) rfl hfr13 (by intro x hx; simp only [List.mem_cons, List.not_mem_nil, or_false] at hx; subst hx; exact Enc.tr (intE) we13_0 TT)
  clear K13 hfr13 TT G we13_0
  refine seq_op rfl (op_append (E := intE) [] [one b2, one b1] (.tmp 47) (.tmp 49) 22 rfl zero_3 8 Try.underlying22 infoz_3 rfl (by decide) rfl C.ms (S.e rfl) W3 ([v]) (some ⟨b13, 0, none⟩) 1 (S.e rfl) (show LAt intE _ _ (some ⟨b13, 0, none⟩) ([v]) from (KS13).1) (KS13).2.2 (LAt.mem (show LAt intE _ _ (some ⟨b13, 0, none⟩) ([v]) from (KS13).1)) (by unfold maxLen; (try simp only [List.length_cons, List.length_nil, List.length_append, List.length_map]); omega) (by (try simp only [List.length_cons, List.length_nil, List.length_append, List.length_map]); omega) (C.size) ?_)
  intro ad14 cap14 w11 Rn TT G
  have S1 := S.put (d := 50) (v := .slice ad14 (out ++ [v]).length cap14) (by decide); clear S; revert S1; generalize Act.put a _ _ = a1; intro S; clear a; rename Act => a
  replace TT : Tr [abk out_a, one b2, one b1] w10 [abk ad14, one b2, one b1] w11 := TT; replace Rn : Row intE 3 w.heap.size F [abk ad14, one b2, one b1] w11 ad14 cap14 (out ++ [v]) := Rn
  replace f_w := Enc.tr (failE) f_w TT
  replace K1 := Blk.tr K1 G (C.ms.sep.out 2 [0] rfl rfl rfl)
  replace K2 := Blk.tr K2 G (C.ms.sep.out 1 [0] rfl rfl rfl)
  replace KS13 := Enc.tr (slE intE) KS13 TT
  replace GL0 := GL0.trans TT
  replace C := C.trans TT
  clear W3; have W3 := Rn; clear Rn TT G
  refine qa S rfl ?_; clear S a; intro a S
  refine qt ?_
  refine qs ?_
  refine qm S rfl ?_; clear S a; intro a S
  refine qv S (pT b1 (0 + 1)) (x_fld (z := 0) (0) 1 Try.underlying41 rfl rfl (by kernel_rfl) (S.e rfl)) ?_; clear S a; intro a S
  refine qv S (sV f.devs) (x_load ⟨_, Try.underlying22, rfl⟩ (S.e rfl) (K1.cell (j := 1) rfl)) ?_; clear S a; intro a S
  refine qv S (.agg #[.slice ad14 ((out ++ [v]).length) cap14, sV f.devs]) (x_build [(0, .slice ad14 ((out ++ [v]).length) cap14), (1, sV f.devs)] [.slice ad14 ((out ++ [v]).length) cap14, sV f.devs] (by simp only [List.map_cons, List.map_nil, show a.eval (.tmp 51) = .slice ad14 ((out ++ [v]).length) cap14 from (S.e rfl), show a.eval (.tmp 53) = sV f.devs from (S.e rfl)]) (by kernel_rfl)) ?_; clear S a; intro a S
  refine seq_storew S rfl rfl (vs := [.slice ad14 ((out ++ [v]).length) cap14, sV f.devs]) (x_storew (by kernel_rfl) (S.e rfl) (S.e rfl) rfl K2 rfl) K2 ?_
  clear S a; intro a w12 G hz K S; clear hz; have TT := Tr.och C.ms G
  replace f_w := Enc.tr (failE) f_w TT
  replace K1 := Blk.tr K1 G (C.ms.sep.out 2 [1] rfl rfl rfl)
  replace W3 := Row.tr W3 TT G (fun k e => C.ms.sep.out 0 [1] rfl rfl e)
  replace KS13 := Enc.tr (slE intE) KS13 TT
  replace GL0 := GL0.trans TT
  replace C := C.trans TT
  clear K2; have K2 := K; clear K TT G
  refine qt ?_
  refine wp_ret ?_
  have FW3 := Row.freeze (pre := []) (post := [one b2, one b1]) rfl C.ms W3 (by first | decide | exact Nat.one_pos) (W3.notF hF (Nat.le_refl _))
  have TF := Tr.leave (pre := []) (o := abk ad14) (post := [one b2, one b1]) C.ms
  have GF : Ch (In []) w12 w12 := Ch.refl _
  replace f_w := Enc.tr (failE) f_w TF
  replace K1 := Blk.tr0 K1 GF
  replace K2 := Blk.tr0 K2 GF
  replace KS13 := Enc.tr (slE intE) KS13 TF
  replace GL0 := GL0.trans TF
  replace C := C.trans TF
  replace FW3 : (slE intE).wf (Fr F [one b2, one b1]) w12.heap ⟨ad14, cap14, (out ++ [v])⟩ := FW3; clear W3
  refine retcw rfl S rfl [.slice ad14 ((out ++ [v]).length) cap14, sV f.devs] ⟨_, Try.underlying41, rfl, by kernel_rfl⟩ (fun j v hv => by rw [Nat.zero_add]; exact K2.cell hv) ?_
  have TD : Tr [one b2, one b1] w12 [] w12 := Tr.drop C.ms [] (by decide)
  have GD : Ch (In []) w12 w12 := Ch.refl _
  clear K1
  clear K2
  replace f_w := Enc.tr (failE) f_w TD
  replace KS13 := Enc.tr (slE intE) KS13 TD
  replace FW3 := Enc.tr (slE intE) FW3 TD
  replace GL0 := GL0.trans TD
  replace C := C.trans TD
  clear TD GD
  refine ⟨(⟨(Sl.mk ad14 cap14 (out ++ [v])), f.devs⟩ : Fail), rfl, ⟨FW3, f_w.2⟩, ?_, C⟩
  refine ⟨?_, rfl⟩
  have ho2 : (out, dn) = woFold f.links.xs v := by rw [ho, show k = f.links.xs.length from by omega, List.take_length]
  unfold withoutL; rw [← ho2]; exact (if_neg hc8).symm
 intro hc9
 refine wp_skip ?_
 refine then_n ?_
 refine qs ?_
 refine qm S rfl ?_; clear S a; intro a S
 refine qv S (pT b1 (0 + 1)) (x_fld (z := 0) (0) 1 Try.underlying41 rfl rfl (by kernel_rfl) (S.e rfl)) ?_; clear S a; intro a S
 refine qv S (sV f.devs) (x_load ⟨_, Try.underlying22, rfl⟩ (S.e rfl) (K1.cell (j := 1) rfl)) ?_; clear S a; intro a S
 refine qv S (.agg #[.slice out_a out.length out_c, sV f.devs]) (x_build [(0, .slice out_a out.length out_c), (1, sV f.devs)] [.slice out_a out.length out_c, sV f.devs] (by simp only [List.map_cons, List.map_nil, show a.eval (.tmp 51) = .slice out_a out.length out_c from (S.e rfl), show a.eval (.tmp 53) = sV f.devs from (S.e rfl)]) (by kernel_rfl)) ?_; clear S a; intro a S
 refine seq_storew S rfl rfl (vs := [.slice out_a out.length out_c, sV f.devs]) (x_storew (by kernel_rfl) (S.e rfl) (S.e rfl) rfl K2 rfl) K2 ?_
 clear S a; intro a w13 G hz K S; clear hz; have TT := Tr.och C.ms G
 replace f_w := Enc.tr (failE) f_w TT
 replace K1 := Blk.tr K1 G (C.ms.sep.out 2 [1] rfl rfl rfl)
 replace W3 := Row.tr W3 TT G (fun k e => C.ms.sep.out 0 [1] rfl rfl e)
 replace GL0 := GL0.trans TT
 replace C := C.trans TT
 clear K2; have K2 := K; clear K TT G
 refine qt ?_
 refine wp_ret ?_
 have FW3 := Row.freeze (pre := []) (post := [one b2, one b1]) rfl C.ms W3 (by first | decide | exact Nat.one_pos) (W3.notF hF (Nat.le_refl _))
 have TF := Tr.leave (pre := []) (o := abk out_a) (post := [one b2, one b1]) C.ms
 have GF : Ch (In []) w13 w13 := Ch.refl _
 replace f_w := Enc.tr (failE) f_w TF
 replace K1 := Blk.tr0 K1 GF
 replace K2 := Blk.tr0 K2 GF
 replace GL0 := GL0.trans TF
 replace C := C.trans TF
 replace FW3 : (slE intE).wf (Fr F [one b2, one b1]) w13.heap ⟨out_a, out_c, out⟩ := FW3; clear W3
 refine retcw rfl S rfl [.slice out_a out.length out_c, sV f.devs] ⟨_, Try.underlying41, rfl, by kernel_rfl⟩ (fun j v hv => by rw [Nat.zero_add]; exact K2.cell hv) ?_
 have TD : Tr [one b2, one b1] w13 [] w13 := Tr.drop C.ms [] (by decide)
 have GD : Ch (In []) w13 w13 := Ch.refl _
 clear K1
 clear K2
 replace f_w := Enc.tr (failE) f_w TD
 replace FW3 := Enc.tr (slE intE) FW3 TD
 replace GL0 := GL0.trans TD
 replace C := C.trans TD
 clear TD GD
 refine ⟨(⟨(Sl.mk out_a out_c out), f.devs⟩ : Fail), rfl, ⟨FW3, f_w.2⟩, ?_, C⟩
 refine ⟨?_, rfl⟩
 have ho2 : (out, dn) = woFold f.links.xs v := by rw [ho, show k = f.links.xs.length from by omega, List.take_length]
 unfold withoutL; rw [← ho2]; exact (if_pos (Classical.not_not.1 hc9)).symm
set_option maxHeartbeats 2000000 in
set_option maxRecDepth 20000 in
theorem fComps (w : World) (F : Nat → Prop) (hF : Old F w) (M : MS [] w) (t : Topo) (t_w : topoE.wf (Fr F []) w.heap t) (f : Fail) (f_w : failE.wf (Fr F []) w.heap f) :
 Calls Try.prog 33 #[tV t, fV f] w fun e w' => ∃ (ra : Option Addr) (rc : Nat), e = .returned (.slice ra ((compsV t f).length) rc) ∧ (slE intE).wf (Fr F []) w'.heap (Sl.mk ra rc (compsV t f)) ∧ Tr [] w [] w' := by
 have C : Tr [] w [] w := Tr.refl M
 have : t.devs.xs.length ≤ 9223372036854775807 := (t_w.1).1.len
 have : t.links.xs.length ≤ 9223372036854775807 := (t_w.2.1).1.len
 have : t.edges.xs.length ≤ 9223372036854775807 := (t_w.2.2.1).1.len
 have : t.pools.xs.length ≤ 9223372036854775807 := (t_w.2.2.2.1).1.len
 obtain ⟨_, _⟩ : inI64 t.tol := t_w.2.2.2.2
 have : f.links.xs.length ≤ 9223372036854775807 := (f_w.1).1.len
 have : f.devs.xs.length ≤ 9223372036854775807 := (f_w.2).1.len
 refine enter Try.func33 rfl 12 rfl (Nat.le_of_ble_eq_true rfl) ?_
 intro a S
 refine qs ?_
 refine seq_new S rfl rfl (by decide) (fun b => pT b 0) (cs := (tL t)) (x_box (tL t) (S.e rfl) rfl) ?_
 clear S a; intro a w1 b1 hb1 hbs1 G K1 S; have hbl1 : b1 < w1.heap.size := by omega
 have TT := Tr.fresh C.ms hb1 hbl1 G
 replace t_w := Enc.tr (topoE) t_w TT
 replace f_w := Enc.tr (failE) f_w TT
 replace C := C.trans TT
 clear TT G
 refine seq_new S rfl rfl (by decide) (fun b => pT b 0) (cs := (fL f)) (x_box (fL f) (S.e rfl) rfl) ?_
 clear S a; intro a w2 b2 hb2 hbs2 G K2 S; have hbl2 : b2 < w2.heap.size := by omega
 have TT := Tr.fresh C.ms hb2 hbl2 G
 replace t_w := Enc.tr (topoE) t_w TT
 replace f_w := Enc.tr (failE) f_w TT
 replace K1 := Blk.tr0 K1 G
 replace C := C.trans TT
 clear TT G
 refine qa S rfl ?_; clear S a; intro a S
 refine qt ?_
 refine wp_seq ?_
 refine qs ?_
 refine qv S _ (x_loadw (tL t) ⟨_, Try.underlying28, rfl, by kernel_rfl⟩ (S.e rfl) (K1.mid [] _ [] rfl _ rfl)) ?_; clear S a; intro a S
 refine qv S _ (x_loadw (fL f) ⟨_, Try.underlying41, rfl, by kernel_rfl⟩ (S.e rfl) (K2.mid [] _ [] rfl _ rfl)) ?_; clear S a; intro a S
 refine seq_call S (by decide) (vs := #[tV t, fV f]) rfl callable_22 (fValid _ (Ex F _) (C.old hF)  (MS.nil _) t ((topoE).down0 t_w) f ((failE).down0 f_w)) ?_
 rintro e w3 ⟨rfl, T0⟩; refine ⟨_, rfl, ?_⟩; clear S a; intro a S
 have TT := Tr.framed0 C.ms T0; have G := T0.ch
 replace t_w := Enc.tr (topoE) t_w TT
 replace f_w := Enc.tr (failE) f_w TT
 replace K1 := Blk.tr0 K1 G
 replace K2 := Blk.tr0 K2 G
 replace C := C.trans TT
 clear T0 G TT
 refine qv S (bD (¬ (failV t f))) (x_notp (S.e rfl)) ?_; clear S a; intro a S
 refine qt ?_
 refine cond_dec S rfl ?_ ?_
 ·intro hc0
  refine qs ?_
  refine qa S rfl ?_; clear S a; intro a S
  refine qt ?_
  refine wp_ret ?_
  refine then_r ?_
  refine ret1 rfl S rfl ?_
  have TD : Tr [one b2, one b1] w3 [] w3 := Tr.drop C.ms [] (by decide)
  have GD : Ch (In []) w3 w3 := Ch.refl _
  clear K1
  clear K2
  replace t_w := Enc.tr (topoE) t_w TD
  replace f_w := Enc.tr (failE) f_w TD
  replace C := C.trans TD
  clear TD GD
  have hx4 : compsV t f = [] := by
   unfold compsV; exact if_neg hc0
  rw [hx4]
  refine ⟨none, 0, rfl, sl_nil, C⟩
 intro hc1
 have HV := Classical.not_not.1 hc1
 refine wp_skip ?_
 refine then_n ?_
 refine qs ?_
 refine qv S _ (x_loadw (tL t) ⟨_, Try.underlying28, rfl, by kernel_rfl⟩ (S.e rfl) (K1.mid [] _ [] rfl _ rfl)) ?_; clear S a; intro a S
 refine qv S _ (x_loadw (fL f) ⟨_, Try.underlying41, rfl, by kernel_rfl⟩ (S.e rfl) (K2.mid [] _ [] rfl _ rfl)) ?_; clear S a; intro a S
 refine seq_call S (by decide) (vs := #[tV t, fV f, iI (-1)]) rfl callable_57 (fComps0 _ (Ex F _) (C.old hF)  (MS.nil _) t ((topoE).down0 t_w) f ((failE).down0 f_w) (-1) ⟨by omega, by omega⟩ (by first | assumption | exact HV.1.1)) ?_
 rintro e w4 ⟨ra_5, rc_5, rfl, R_5, T0⟩; refine ⟨_, rfl, ?_⟩; clear S a; intro a S
 have TT := Tr.framed0 C.ms T0; have G := T0.ch
 replace t_w := Enc.tr (topoE) t_w TT
 replace f_w := Enc.tr (failE) f_w TT
 replace K1 := Blk.tr0 K1 G
 replace K2 := Blk.tr0 K2 G
 replace C := C.trans TT
 replace R_5 := Enc.up (slE intE) R_5
 clear T0 G TT
 have hn6 : (compsOf t f (-1)).length ≤ 9223372036854775807 := (R_5).1.len
 refine qa S rfl ?_; clear S a; intro a S
 refine qt ?_
 refine wp_ret ?_
 refine ret1 rfl S rfl ?_
 have TD : Tr [one b2, one b1] w4 [] w4 := Tr.drop C.ms [] (by decide)
 have GD : Ch (In []) w4 w4 := Ch.refl _
 clear K1
 clear K2
 replace t_w := Enc.tr (topoE) t_w TD
 replace f_w := Enc.tr (failE) f_w TD
 replace R_5 := Enc.tr (slE intE) R_5 TD
 replace C := C.trans TD
 clear TD GD
 have hx7 : compsV t f = compsOf t f (-1) := by
  unfold compsV; exact if_pos HV
 rw [hx7]
 refine ⟨ra_5, rc_5, rfl, R_5, C⟩
set_option maxHeartbeats 2000000 in
set_option maxRecDepth 20000 in
theorem fConn (w : World) (F : Nat → Prop) (hF : Old F w) (M : MS [] w) (t : Topo) (t_w : topoE.wf (Fr F []) w.heap t) (f : Fail) (f_w : failE.wf (Fr F []) w.heap f) (da : Int) (da_h : inI64 da) (db : Int) (db_h : inI64 db) :
 Calls Try.prog 27 #[tV t, fV f, iI da, iI db] w fun e w' => e = .returned (bD (connV t f da db)) ∧ Tr [] w [] w' := by
 have C : Tr [] w [] w := Tr.refl M
 have : t.devs.xs.length ≤ 9223372036854775807 := (t_w.1).1.len
 have : t.links.xs.length ≤ 9223372036854775807 := (t_w.2.1).1.len
 have : t.edges.xs.length ≤ 9223372036854775807 := (t_w.2.2.1).1.len
 have : t.pools.xs.length ≤ 9223372036854775807 := (t_w.2.2.2.1).1.len
 obtain ⟨_, _⟩ : inI64 t.tol := t_w.2.2.2.2
 have : f.links.xs.length ≤ 9223372036854775807 := (f_w.1).1.len
 have : f.devs.xs.length ≤ 9223372036854775807 := (f_w.2).1.len
 obtain ⟨da_hl, da_hu⟩ : inI64 da := id da_h
 obtain ⟨db_hl, db_hu⟩ : inI64 db := id db_h
 refine enter Try.func27 rfl 34 rfl (Nat.le_of_ble_eq_true rfl) ?_
 intro a S
 refine qs ?_
 refine seq_new S rfl rfl (by decide) (fun b => pT b 0) (cs := (tL t)) (x_box (tL t) (S.e rfl) rfl) ?_
 clear S a; intro a w1 b1 hb1 hbs1 G K1 S; have hbl1 : b1 < w1.heap.size := by omega
 have TT := Tr.fresh C.ms hb1 hbl1 G
 replace t_w := Enc.tr (topoE) t_w TT
 replace f_w := Enc.tr (failE) f_w TT
 replace C := C.trans TT
 clear TT G
 refine seq_new S rfl rfl (by decide) (fun b => pT b 0) (cs := (fL f)) (x_box (fL f) (S.e rfl) rfl) ?_
 clear S a; intro a w2 b2 hb2 hbs2 G K2 S; have hbl2 : b2 < w2.heap.size := by omega
 have TT := Tr.fresh C.ms hb2 hbl2 G
 replace t_w := Enc.tr (topoE) t_w TT
 replace f_w := Enc.tr (failE) f_w TT
 replace K1 := Blk.tr0 K1 G
 replace C := C.trans TT
 clear TT G
 refine qa S rfl ?_; clear S a; intro a S
 refine qt ?_
 refine wp_seq ?_
 refine qs ?_
 refine qv S _ (x_loadw (tL t) ⟨_, Try.underlying28, rfl, by kernel_rfl⟩ (S.e rfl) (K1.mid [] _ [] rfl _ rfl)) ?_; clear S a; intro a S
 refine qv S _ (x_loadw (fL f) ⟨_, Try.underlying41, rfl, by kernel_rfl⟩ (S.e rfl) (K2.mid [] _ [] rfl _ rfl)) ?_; clear S a; intro a S
 refine qm S rfl ?_; clear S a; intro a S
 refine seq_call S (by decide) (vs := #[tV t, fV f, iI da]) rfl callable_34 (fAlive _ (Ex F _) (C.old hF)  (MS.nil _) t ((topoE).down0 t_w) f ((failE).down0 f_w) da da_h) ?_
 rintro e w3 ⟨rfl, T0⟩; refine ⟨_, rfl, ?_⟩; clear S a; intro a S
 have TT := Tr.framed0 C.ms T0; have G := T0.ch
 replace t_w := Enc.tr (topoE) t_w TT
 replace f_w := Enc.tr (failE) f_w TT
 replace K1 := Blk.tr0 K1 G
 replace K2 := Blk.tr0 K2 G
 replace C := C.trans TT
 clear T0 G TT
 refine qv S (bD (¬ (aliveV t f da))) (x_notp (S.e rfl)) ?_; clear S a; intro a S
 refine qm S rfl ?_; clear S a; intro a S
 refine qg S 15 rfl (¬ (¬ (aliveV t f da))) gf _ (fun hg => (x_loadw (tL t) ⟨_, Try.underlying28, rfl, by kernel_rfl⟩ (S.e rfl) (K1.mid [] _ [] rfl _ rfl))) ?_; clear S a; intro a S
 refine qg S 15 rfl (¬ (¬ (aliveV t f da))) gf _ (fun hg => (x_loadw (fL f) ⟨_, Try.underlying41, rfl, by kernel_rfl⟩ (S.e rfl) (K2.mid [] _ [] rfl _ rfl))) ?_; clear S a; intro a S
 refine qg S 15 rfl (¬ (¬ (aliveV t f da))) gf (iI db) (fun hg => (x_move (S.e rfl))) ?_; clear S a; intro a S
 refine seq_gcall S (by decide) (gd := 15) (vs := #[tV t, fV f, iI db]) (v := bD (aliveV t f db)) rfl rfl (by decide) rfl (c := (¬ (¬ (aliveV t f da)))) gf (fun hg => by simp only [List.map_toArray, List.map_cons, List.map_nil, show a.eval (.tmp 16) = tV t from (S.p rfl hg), show a.eval (.tmp 17) = fV f from (S.p rfl hg), show a.eval (.tmp 18) = iI db from (S.p rfl hg)]) callable_34 (fun hg => ((fAlive _ (Ex F _) (C.old hF)  (MS.nil _) t ((topoE).down0 t_w) f ((failE).down0 f_w) db db_h)).mono (fun _ _ h => ⟨h.1, h.2.ch⟩)) ?_
 clear S a; intro a w4 G S; have TT := Tr.of_ch0 C.ms G
 replace t_w := Enc.tr (topoE) t_w TT
 replace f_w := Enc.tr (failE) f_w TT
 replace K1 := Blk.tr0 K1 G
 replace K2 := Blk.tr0 K2 G
 replace C := C.trans TT
 refine qg S 15 rfl (¬ (¬ (aliveV t f da))) gf (bD (¬ (aliveV t f db))) (fun hg => (x_notp (S.p rfl hg))) ?_; clear S a; intro a S
 refine qv S (bD ((¬ (aliveV t f da)) ∨ (¬ (aliveV t f db)))) (x_or (S.e rfl) (S.e rfl) (S.p rfl)) ?_; clear S a; intro a S
 refine qt ?_
 refine cond_dec S rfl ?_ ?_
 ·intro hc0
  refine qs ?_
  refine qa S rfl ?_; clear S a; intro a S
  refine qt ?_
  refine wp_ret ?_
  refine then_r ?_
  refine ret1 rfl S rfl ?_
  have TD : Tr [one b2, one b1] w4 [] w4 := Tr.drop C.ms [] (by decide)
  have GD : Ch (In []) w4 w4 := Ch.refl _
  clear K1
  clear K2
  replace t_w := Enc.tr (topoE) t_w TD
  replace f_w := Enc.tr (failE) f_w TD
  replace C := C.trans TD
  clear TD GD
  refine ⟨(r1 (vf ?_)), C⟩
  rintro ⟨⟨h1, h2⟩, _⟩; exact hc0.elim (fun e => e h1) (fun e => e h2)
 intro hc1
 have HA : aliveV t f da ∧ aliveV t f db := ⟨Classical.not_not.1 fun e => hc1 (.inl e), Classical.not_not.1 fun e => hc1 (.inr e)⟩
 have HV := HA.1.1.1.1
 have hA1 := aliveV_nat HA.1
 have hA2 := aliveV_nat HA.2
 have hcl := comps_len t f (-1)
 refine wp_skip ?_
 refine then_n ?_
 refine qs ?_
 refine qv S _ (x_loadw (tL t) ⟨_, Try.underlying28, rfl, by kernel_rfl⟩ (S.e rfl) (K1.mid [] _ [] rfl _ rfl)) ?_; clear S a; intro a S
 refine qv S _ (x_loadw (fL f) ⟨_, Try.underlying41, rfl, by kernel_rfl⟩ (S.e rfl) (K2.mid [] _ [] rfl _ rfl)) ?_; clear S a; intro a S
 refine seq_call S (by decide) (vs := #[tV t, fV f, iI (-1)]) rfl callable_57 (fComps0 _ (Ex F _) (C.old hF)  (MS.nil _) t ((topoE).down0 t_w) f ((failE).down0 f_w) (-1) ⟨by omega, by omega⟩ (by first | assumption | exact HV.1.1)) ?_
 rintro e w5 ⟨ra_4, rc_4, rfl, R_4, T0⟩; refine ⟨_, rfl, ?_⟩; clear S a; intro a S
 have TT := Tr.framed0 C.ms T0; have G := T0.ch
 replace t_w := Enc.tr (topoE) t_w TT
 replace f_w := Enc.tr (failE) f_w TT
 replace K1 := Blk.tr0 K1 G
 replace K2 := Blk.tr0 K2 G
 replace C := C.trans TT
 replace R_4 := Enc.up (slE intE) R_4
 clear T0 G TT
 have hn5 : (compsOf t f (-1)).length ≤ 9223372036854775807 := (R_4).1.len
 refine qa S rfl ?_; clear S a; intro a S
 refine qt ?_
 refine wp_seq ?_
 replace S := S.sub (L' := [(0, tV t), (1, fV f), (2, iI da), (3, iI db), (4, pT b1 0), (5, pT b2 0), (10, tV t), (11, fV f), (12, iI da), (13, bD (aliveV t f da)), (14, bD (¬ (aliveV t f da))), (15, bD (¬ (aliveV t f da))), (16, (if (¬ (¬ (aliveV t f da))) then tV t else undef)), (17, (if (¬ (¬ (aliveV t f da))) then fV f else undef)), (18, (if (¬ (¬ (aliveV t f da))) then iI db else undef)), (19, (if (¬ (¬ (aliveV t f da))) then bD (aliveV t f db) else undef)), (20, (if (¬ (¬ (aliveV t f da))) then bD (¬ (aliveV t f db)) else undef)), (21, bD ((¬ (aliveV t f da)) ∨ (¬ (aliveV t f db)))), (22, tV t), (23, fV f), (24, .slice ra_4 ((compsOf t f (-1)).length) rc_4), (9, .slice ra_4 ((compsOf t f (-1)).length) rc_4)]) ⟨rfl, rfl, rfl, rfl, rfl, rfl, rfl, rfl, rfl, rfl, rfl, rfl, rfl, rfl, rfl, rfl, rfl, rfl, rfl, rfl, rfl, rfl, trivial⟩
 refine wp_heads (M := In []) S 10 [(25, iV (.slice ra_4 ((compsOf t f (-1)).length) rc_4)), (26, iV (iI da)), (27, iV (pT (blk ra_4) (off ra_4 + (da).toNat * 1))), (28, iV (iI ((compsOf t f (-1)).getD ((da).toNat) intE.dflt))), (29, iV (.slice ra_4 ((compsOf t f (-1)).length) rc_4)), (30, iV (iI db)), (31, iV (pT (blk ra_4) (off ra_4 + (db).toNat * 1))), (32, iV (iI ((compsOf t f (-1)).getD ((db).toNat) intE.dflt))), (33, iV (bD (((compsOf t f (-1)).getD ((da).toNat) intE.dflt) = ((compsOf t f (-1)).getD ((db).toNat) intE.dflt)))), (8, iV (bD (((compsOf t f (-1)).getD ((da).toNat) intE.dflt) = ((compsOf t f (-1)).getD ((db).toNat) intE.dflt))))] (fun w => True) [[], [], [25, 26], [27], [], [], [29, 30], [31], [28, 32], [33]] [8] _ rfl mixed (by kernel_rfl) rfl trivial ?_ ?_
 ·refine ⟨?_, ?_, ?_, ?_, ?_, ?_, ?_, ?_, ?_, ?_, trivial⟩
  ·intro a w6 G I S hE
   have TT := Tr.of_ch C.ms G (fun _ h => by simp at h)
   replace R_4 := Enc.tr (slE intE) R_4 TT
   replace C := C.trans TT
   exact qo (.slice ra_4 ((compsOf t f (-1)).length) rc_4) (x_move (S.e rfl)) I
  ·intro a w7 G I S hE
   have TT := Tr.of_ch C.ms G (fun _ h => by simp at h)
   replace C := C.trans TT
   exact qo (iI da) (x_move (S.e rfl)) I
  ·intro a w8 G I S hE
   have TT := Tr.of_ch C.ms G (fun _ h => by simp at h)
   replace R_4 := Enc.tr (slE intE) R_4 TT
   replace C := C.trans TT
   obtain ⟨e25, e26, _⟩ := hE
   replace S := S.ext e25
   replace S := S.ext e26
   exact qo (pT (blk ra_4) (off ra_4 + (da).toNat * 1)) (x_idx Try.underlying22 (by kernel_rfl) (S.e rfl) (S.e rfl) (da).toNat (by omega) (by omega) ((show LAt intE _ _ ra_4 (compsOf t f (-1)) from (R_4).1).adr (i := (da).toNat) (by omega))) I
  ·intro a w9 G I S hE
   have TT := Tr.of_ch C.ms G (fun _ h => by simp at h)
   replace R_4 := Enc.tr (slE intE) R_4 TT
   replace C := C.trans TT
   obtain ⟨e27, _⟩ := hE
   replace S := S.ext e27
   obtain ⟨hl6, hu6⟩ : inI64 ((compsOf t f (-1)).getD ((da).toNat) intE.dflt) := id ((show LAt intE _ _ ra_4 (compsOf t f (-1)) from (R_4).1).wf (da).toNat (by omega))
   exact qo (iI ((compsOf t f (-1)).getD ((da).toNat) intE.dflt)) (x_load ⟨_, Try.underlying3, rfl⟩ (S.e rfl) ((show LAt intE _ _ ra_4 (compsOf t f (-1)) from (R_4).1).cell (da).toNat (by omega) 0 _ rfl)) I
  ·intro a w10 G I S hE
   have TT := Tr.of_ch C.ms G (fun _ h => by simp at h)
   replace R_4 := Enc.tr (slE intE) R_4 TT
   replace C := C.trans TT
   exact qo (.slice ra_4 ((compsOf t f (-1)).length) rc_4) (x_move (S.e rfl)) I
  ·intro a w11 G I S hE
   have TT := Tr.of_ch C.ms G (fun _ h => by simp at h)
   replace C := C.trans TT
   exact qo (iI db) (x_move (S.e rfl)) I
  ·intro a w12 G I S hE
   have TT := Tr.of_ch C.ms G (fun _ h => by simp at h)
   replace R_4 := Enc.tr (slE intE) R_4 TT
   replace C := C.trans TT
   obtain ⟨e29, e30, _⟩ := hE
   replace S := S.ext e29
   replace S := S.ext e30
   exact qo (pT (blk ra_4) (off ra_4 + (db).toNat * 1)) (x_idx Try.underlying22 (by kernel_rfl) (S.e rfl) (S.e rfl) (db).toNat (by omega) (by omega) ((show LAt intE _ _ ra_4 (compsOf t f (-1)) from (R_4).1).adr (i := (db).toNat) (by omega))) I
  ·intro a w13 G I S hE
   have TT := Tr.of_ch C.ms G (fun _ h => by simp at h)
   replace R_4 := Enc.tr (slE intE) R_4 TT
   replace C := C.trans TT
   obtain ⟨e31, _⟩ := hE
   replace S := S.ext e31
   obtain ⟨hl7, hu7⟩ : inI64 ((compsOf t f (-1)).getD ((db).toNat) intE.dflt) := id ((show LAt intE _ _ ra_4 (compsOf t f (-1)) from (R_4).1).wf (db).toNat (by omega))
   exact qo (iI ((compsOf t f (-1)).getD ((db).toNat) intE.dflt)) (x_load ⟨_, Try.underlying3, rfl⟩ (S.e rfl) ((show LAt intE _ _ ra_4 (compsOf t f (-1)) from (R_4).1).cell (db).toNat (by omega) 0 _ rfl)) I
  ·intro a w14 G I S hE
   have TT := Tr.of_ch C.ms G (fun _ h => by simp at h)
   replace R_4 := Enc.tr (slE intE) R_4 TT
   replace C := C.trans TT
   obtain ⟨e28, e32, _⟩ := hE
   replace S := S.ext e28
   replace S := S.ext e32
   exact qo (bD (((compsOf t f (-1)).getD ((da).toNat) intE.dflt) = ((compsOf t f (-1)).getD ((db).toNat) intE.dflt))) (x_eql (S.e rfl) (S.e rfl)) I
  intro a w15 G I S hE
  have TT := Tr.of_ch C.ms G (fun _ h => by simp at h)
  replace C := C.trans TT
  obtain ⟨e33, _⟩ := hE
  replace S := S.ext e33
  exact qo (bD (((compsOf t f (-1)).getD ((da).toNat) intE.dflt) = ((compsOf t f (-1)).getD ((db).toNat) intE.dflt))) (x_assign (S.e rfl)) I
 clear S a; intro a w16 G I S hE; have TT := Tr.of_ch C.ms G (fun _ h => by simp at h)
 replace t_w := Enc.tr (topoE) t_w TT
 replace f_w := Enc.tr (failE) f_w TT
 replace K1 := Blk.tr0 K1 G
 replace K2 := Blk.tr0 K2 G
 replace R_4 := Enc.tr (slE intE) R_4 TT
 replace C := C.trans TT
 clear TT G
 obtain ⟨e8, -⟩ := hE
 replace S := S.ext e8
 clear e8
 obtain ⟨hl8, hu8⟩ : inI64 da := id da_h
 obtain ⟨hl9, hu9⟩ : inI64 ((compsOf t f (-1)).getD ((da).toNat) intE.dflt) := id ((show LAt intE _ _ ra_4 (compsOf t f (-1)) from (R_4).1).wf (da).toNat (by omega))
 obtain ⟨hl10, hu10⟩ : inI64 db := id db_h
 obtain ⟨hl11, hu11⟩ : inI64 ((compsOf t f (-1)).getD ((db).toNat) intE.dflt) := id ((show LAt intE _ _ ra_4 (compsOf t f (-1)) from (R_4).1).wf (db).toNat (by omega))
 refine qt ?_
 refine wp_ret ?_
 refine ret1 rfl S rfl ?_
 have TD : Tr [one b2, one b1] w16 [] w16 := Tr.drop C.ms [] (by decide)
 have GD : Ch (In []) w16 w16 := Ch.refl _
 clear K1
 clear K2
 replace t_w := Enc.tr (topoE) t_w TD
 replace f_w := Enc.tr (failE) f_w TD
 replace R_4 := Enc.tr (slE intE) R_4 TD
 replace C := C.trans TD
 clear TD GD
 refine ⟨(r1 (vb ?_)), C⟩
 unfold connV; have e1 := comps_at (f := f) (s := -1) hA1.2; have e2 := comps_at (f := f) (s := -1) hA2.2; exact ⟨fun h => ⟨HA, e1.symm.trans (h.trans e2)⟩, fun h => e1.trans (h.2.trans e2.symm)⟩
set_option maxHeartbeats 2000000 in
set_option maxRecDepth 20000 in
theorem fBridges (w : World) (F : Nat → Prop) (hF : Old F w) (M : MS [] w) (t : Topo) (t_w : topoE.wf (Fr F []) w.heap t) (f : Fail) (f_w : failE.wf (Fr F []) w.heap f) :
 Calls Try.prog 35 #[tV t, fV f] w fun e w' => ∃ (ra : Option Addr) (rc : Nat), e = .returned (.slice ra ((bridgesOf t f).length) rc) ∧ (slE intE).wf (Fr F []) w'.heap (Sl.mk ra rc (bridgesOf t f)) ∧ Tr [] w [] w' := by
 have C : Tr [] w [] w := Tr.refl M
 have : t.devs.xs.length ≤ 9223372036854775807 := (t_w.1).1.len
 have : t.links.xs.length ≤ 9223372036854775807 := (t_w.2.1).1.len
 have : t.edges.xs.length ≤ 9223372036854775807 := (t_w.2.2.1).1.len
 have : t.pools.xs.length ≤ 9223372036854775807 := (t_w.2.2.2.1).1.len
 obtain ⟨_, _⟩ : inI64 t.tol := t_w.2.2.2.2
 have : f.links.xs.length ≤ 9223372036854775807 := (f_w.1).1.len
 have : f.devs.xs.length ≤ 9223372036854775807 := (f_w.2).1.len
 refine enter Try.func35 rfl 47 rfl (Nat.le_of_ble_eq_true rfl) ?_
 intro a S
 refine qs ?_
 refine seq_new S rfl rfl (by decide) (fun b => pT b 0) (cs := (tL t)) (x_box (tL t) (S.e rfl) rfl) ?_
 clear S a; intro a w1 b1 hb1 hbs1 G K1 S; have hbl1 : b1 < w1.heap.size := by omega
 have TT := Tr.fresh C.ms hb1 hbl1 G
 replace t_w := Enc.tr (topoE) t_w TT
 replace f_w := Enc.tr (failE) f_w TT
 replace C := C.trans TT
 clear TT G
 refine seq_new S rfl rfl (by decide) (fun b => pT b 0) (cs := (fL f)) (x_box (fL f) (S.e rfl) rfl) ?_
 clear S a; intro a w2 b2 hb2 hbs2 G K2 S; have hbl2 : b2 < w2.heap.size := by omega
 have TT := Tr.fresh C.ms hb2 hbl2 G
 replace t_w := Enc.tr (topoE) t_w TT
 replace f_w := Enc.tr (failE) f_w TT
 replace K1 := Blk.tr0 K1 G
 replace C := C.trans TT
 clear TT G
 refine qa S rfl ?_; clear S a; intro a S
 refine qt ?_
 refine wp_seq ?_
 refine qs ?_
 refine qv S _ (x_loadw (tL t) ⟨_, Try.underlying28, rfl, by kernel_rfl⟩ (S.e rfl) (K1.mid [] _ [] rfl _ rfl)) ?_; clear S a; intro a S
 refine qv S _ (x_loadw (fL f) ⟨_, Try.underlying41, rfl, by kernel_rfl⟩ (S.e rfl) (K2.mid [] _ [] rfl _ rfl)) ?_; clear S a; intro a S
 refine seq_call S (by decide) (vs := #[tV t, fV f]) rfl callable_22 (fValid _ (Ex F _) (C.old hF)  (MS.nil _) t ((topoE).down0 t_w) f ((failE).down0 f_w)) ?_
 rintro e w3 ⟨rfl, T0⟩; refine ⟨_, rfl, ?_⟩; clear S a; intro a S
 have TT := Tr.framed0 C.ms T0; have G := T0.ch
 replace t_w := Enc.tr (topoE) t_w TT
 replace f_w := Enc.tr (failE) f_w TT
 replace K1 := Blk.tr0 K1 G
 replace K2 := Blk.tr0 K2 G
 replace C := C.trans TT
 clear T0 G TT
 refine qv S (bD (¬ (failV t f))) (x_notp (S.e rfl)) ?_; clear S a; intro a S
 refine qt ?_
 refine cond_dec S rfl ?_ ?_
 ·intro hc0
  refine qs ?_
  refine qa S rfl ?_; clear S a; intro a S
  refine qt ?_
  refine wp_ret ?_
  refine then_r ?_
  refine ret1 rfl S rfl ?_
  have TD : Tr [one b2, one b1] w3 [] w3 := Tr.drop C.ms [] (by decide)
  have GD : Ch (In []) w3 w3 := Ch.refl _
  clear K1
  clear K2
  replace t_w := Enc.tr (topoE) t_w TD
  replace f_w := Enc.tr (failE) f_w TD
  replace C := C.trans TD
  clear TD GD
  have hx4 : bridgesOf t f = [] := by
   unfold bridgesOf; exact bridges_no hc0
  rw [hx4]
  refine ⟨none, 0, rfl, sl_nil, C⟩
 intro hc1
 have HV := Classical.not_not.1 hc1
 have hB : topB t := HV.1.1.1
 unfold topB at hB
 refine wp_skip ?_
 refine then_n ?_
 refine qs ?_
 refine qa S rfl ?_; clear S a; intro a S
 refine qt ?_
 refine wp_seq ?_
 refine qs ?_
 refine qv S (pT b1 (0 + 1)) (x_fld (z := 0) (0) 1 Try.underlying28 rfl rfl (by kernel_rfl) (S.e rfl)) ?_; clear S a; intro a S
 refine qv S (sV t.links) (x_load ⟨_, Try.underlying24, rfl⟩ (S.e rfl) (K1.cell (j := 1) rfl)) ?_; clear S a; intro a S
 have hn5 : t.links.xs.length ≤ 9223372036854775807 := (t_w.2.1).1.len
 refine qv S (iN t.links.xs.length) (x_len Try.underlying24 (S.e rfl)) ?_; clear S a; intro a S
 refine qm S rfl ?_; clear S a; intro a S
 refine qt ?_
 refine wp_block ?_
 have W6 := Row.nil intE 3 w.heap.size F [abk none, one b2, one b1] w3
 have TT : Tr [one b2, one b1] w3 [abk none, one b2, one b1] w3 := (Tr.refl C.ms).cons (b := abk none) (fun k e => absurd e abk_none); have G : Ch (In []) w3 w3 := Ch.refl _
 replace t_w := Enc.tr (topoE) t_w TT
 replace f_w := Enc.tr (failE) f_w TT
 replace K1 := Blk.tr0 K1 G
 replace K2 := Blk.tr0 K2 G
 replace C := C.trans TT
 clear TT G
 refine wp_loop_ghost (fun m a wr => ∃ k : Nat, ∃ out_a : Option Addr, ∃ out_c : Nat, ∃ out : List Int, Slots 47 [(2, pT b1 0), (3, pT b2 0), (4, .slice none 0 0), (14, sV t.links), (15, iN t.links.xs.length), (16, iN k), (5, .slice out_a out.length out_c)] a ∧ Tr [abk none, one b2, one b1] w3 [abk out_a, one b2, one b1] wr ∧ (k ≤ t.links.xs.length ∧ out = bridgesTo t f k) ∧ Blk wr.heap b1 (tL t) 28 ∧ Blk wr.heap b2 (fL f) 41 ∧ Row intE 3 w.heap.size F [abk out_a, one b2, one b1] wr out_a out_c out ∧ (t.links.xs.length - k) = m) (t.links.xs.length - 0) ?_ ?_
 ·refine ⟨0, none, 0, [], S.sub ⟨rfl, rfl, rfl, rfl, rfl, rfl, rfl, trivial⟩, Tr.refl C.ms, ?_, K1, K2, W6, rfl⟩
  exact ⟨Nat.zero_le _, bridges_zero.symm⟩
 rintro m a w4 ⟨k, out_a, out_c, out, S, G, hR, K1', K2', W6', rfl⟩
 clear K1; have K1 := K1'; clear K1'
 clear K2; have K2 := K2'; clear K2'
 clear W6; have W6 := W6'; clear W6'
 replace t_w := Enc.tr (topoE) t_w G
 replace f_w := Enc.tr (failE) f_w G
 replace C := C.trans G
 have GL0 := G; clear G
 have out_len := W6.len_le; simp only [maxLen] at out_len
 obtain ⟨hk, ho⟩ := hR
 have hob := bridges_len (t := t) (f := f) (k := k)
 rw [← ho] at hob
 refine qs ?_
 refine qv S (bD (((k : Nat) : Int) < ((t.links.xs.length : Nat) : Int))) (x_lss (S.e rfl) (S.e rfl)) ?_; clear S a; intro a S
 refine qt ?_
 refine wp_seq ?_
 refine cond_dec S rfl ?_ ?_
 ·intro hc2
  have hl := topV_link HV.1.1 (i := k) (by omega)
  unfold lnkV at hl
  have hcl := comps_len t f (k : Nat)
  have e1 := comps_at (t := t) (f := f) (s := (k : Nat)) (j := (t.links.xs.getD k lnkE.dflt).a.toNat) (by omega)
  have e2 := comps_at (t := t) (f := f) (s := (k : Nat)) (j := (t.links.xs.getD k lnkE.dflt).b.toNat) (by omega)
  refine wp_skip ?_
  refine then_n ?_
  refine wp_seq ?_
  refine wp_block ?_
  refine qs ?_
  refine qm S rfl ?_; clear S a; intro a S
  refine qv S (pT (blk t.links.a) (off t.links.a + k * 3)) (x_idx Try.underlying24 (by kernel_rfl) (S.e rfl) (S.e rfl) k rfl (by omega) ((t_w.2.1).1.adr (i := k) (by omega))) ?_; clear S a; intro a S
  obtain ⟨hl7, hu7⟩ : inI64 ((t.links.xs.getD k lnkE.dflt).a) := id (((t_w.2.1).1.wf k (by omega)).1)
  obtain ⟨hl8, hu8⟩ : inI64 ((t.links.xs.getD k lnkE.dflt).b) := id (((t_w.2.1).1.wf k (by omega)).2.1)
  obtain ⟨hl9, hu9⟩ : inI64 ((t.links.xs.getD k lnkE.dflt).cost) := id (((t_w.2.1).1.wf k (by omega)).2.2)
  refine qv S _ (x_loadw [iI ((t.links.xs.getD k lnkE.dflt).a), iI ((t.links.xs.getD k lnkE.dflt).b), iI ((t.links.xs.getD k lnkE.dflt).cost)] ⟨_, Try.underlying54, rfl, by kernel_rfl⟩ (S.e rfl) ((t_w.2.1).1.wcell k (by omega) _ rfl _ rfl)) ?_; clear S a; intro a S
  refine seq_new S rfl rfl (by decide) (fun b => pT b 0) (cs := [iI 0, iI 0, iI 0]) (x_allocz [iI 0, iI 0, iI 0] infoz_54 rfl) ?_
  clear S a; intro a w5 b10 hb10 hbs10 G K10 S; have hbl10 : b10 < w5.heap.size := by omega
  have TT := Tr.fresh C.ms hb10 hbl10 G
  replace t_w := Enc.tr (topoE) t_w TT
  replace f_w := Enc.tr (failE) f_w TT
  replace K1 := Blk.tr0 K1 G
  replace K2 := Blk.tr0 K2 G
  replace W6 := Row.tr0 W6 TT G
  replace GL0 := GL0.trans TT
  replace C := C.trans TT
  clear TT G
  refine qa S rfl ?_; clear S a; intro a S
  refine seq_storew S rfl rfl (vs := [iI ((t.links.xs.getD k lnkE.dflt).a), iI ((t.links.xs.getD k lnkE.dflt).b), iI ((t.links.xs.getD k lnkE.dflt).cost)]) (x_storew (by kernel_rfl) (S.e rfl) (S.e rfl) rfl K10 rfl) K10 ?_
  clear S a; intro a w6 G hz K S; clear hz; have TT := Tr.och C.ms G
  replace t_w := Enc.tr (topoE) t_w TT
  replace f_w := Enc.tr (failE) f_w TT
  replace K1 := Blk.tr K1 G (C.ms.sep.out 3 [0] rfl rfl rfl)
  replace K2 := Blk.tr K2 G (C.ms.sep.out 2 [0] rfl rfl rfl)
  replace W6 := Row.tr W6 TT G (fun k e => C.ms.sep.out 1 [0] rfl rfl e)
  replace GL0 := GL0.trans TT
  replace C := C.trans TT
  clear K10; have K10 := K; clear K TT G
  refine qt ?_
  refine wp_seq ?_
  refine qs ?_
  refine qv S _ (x_loadw (tL t) ⟨_, Try.underlying28, rfl, by kernel_rfl⟩ (S.e rfl) (K1.mid [] _ [] rfl _ rfl)) ?_; clear S a; intro a S
  refine qv S _ (x_loadw (fL f) ⟨_, Try.underlying41, rfl, by kernel_rfl⟩ (S.e rfl) (K2.mid [] _ [] rfl _ rfl)) ?_; clear S a; intro a S
  refine qm S rfl ?_; clear S a; intro a S
  refine seq_call S (by decide) (vs := #[tV t, fV f, iN k]) rfl callable_58 (fUsable0 _ (Ex F _) (C.old hF)  (MS.nil _) t ((topoE).down0 t_w) f ((failE).down0 f_w) ((k : Nat) : Int) ⟨by omega, by omega⟩ (⟨by omega, by omega⟩)) ?_
  rintro e w7 ⟨rfl, T0⟩; refine ⟨_, rfl, ?_⟩; clear S a; intro a S
  have TT := Tr.framed0 C.ms T0; have G := T0.ch
  replace t_w := Enc.tr (topoE) t_w TT
  replace f_w := Enc.tr (failE) f_w TT
  replace K1 := Blk.tr0 K1 G
  replace K2 := Blk.tr0 K2 G
  replace W6 := Row.tr0 W6 TT G
  replace K10 := Blk.tr0 K10 G
  replace GL0 := GL0.trans TT
  replace C := C.trans TT
  clear T0 G TT
  refine qv S (bD (¬ (usableR t f ((k : Nat) : Int)))) (x_notp (S.e rfl)) ?_; clear S a; intro a S
  refine qt ?_
  refine cond_dec S rfl ?_ ?_
  ·intro hc3
   refine wp_exit ?_
   refine then_e ?_
   refine blk_e ?_
   refine then_n ?_
   refine wp_region_lit ?_
   refine qv S (iN (k + 1)) (x_add (S.e rfl) (S.e rfl) (r := ((k + 1 : Nat) : Int)) (w_i64 (by omega))) ?_; clear S a; intro a S
   refine qm S rfl ?_; clear S a; intro a S
   refine wpList_nil ?_
   have TD : Tr [one b10, abk out_a, one b2, one b1] w7 [abk out_a, one b2, one b1] w7 := Tr.drop C.ms [1, 2, 3] (by decide)
   have GD : Ch (In []) w7 w7 := Ch.refl _
   clear K10
   replace t_w := Enc.tr (topoE) t_w TD
   replace f_w := Enc.tr (failE) f_w TD
   replace K1 := Blk.tr0 K1 GD
   replace K2 := Blk.tr0 K2 GD
   replace W6 := Row.tr0 W6 TD GD
   replace GL0 := GL0.trans TD
   replace C := C.trans TD
   clear TD GD
   refine then_n ?_
   refine ⟨t.links.xs.length - (k + 1), ?_, (k + 1), out_a, out_c, out, S.sub ⟨rfl, rfl, rfl, rfl, rfl, rfl, (by first | rfl | (simp only [List.length_set]; rfl)), trivial⟩, GL0, ?_, K1, K2, W6, rfl⟩
   ·omega
   refine ⟨by omega, ?_⟩
   have e0 : intE.dflt = 0 := rfl
   first
   | (rw [bridges_not HV (fun e => hc3 e.1)]; exact ho)
   | (rw [e0, e1, e2] at hc3
      first
      | (rw [bridges_yes HV ⟨Classical.not_not.1 hc2, hc3⟩, ← ho])
      | (rw [bridges_not HV (fun e => hc3 e.2)]; exact ho))
  intro hc4
  refine wp_skip ?_
  refine then_n ?_
  refine qs ?_
  refine qv S _ (x_loadw (tL t) ⟨_, Try.underlying28, rfl, by kernel_rfl⟩ (S.e rfl) (K1.mid [] _ [] rfl _ rfl)) ?_; clear S a; intro a S
  refine qv S _ (x_loadw (fL f) ⟨_, Try.underlying41, rfl, by kernel_rfl⟩ (S.e rfl) (K2.mid [] _ [] rfl _ rfl)) ?_; clear S a; intro a S
  refine qm S rfl ?_; clear S a; intro a S
  refine seq_call S (by decide) (vs := #[tV t, fV f, iN k]) rfl callable_57 (fComps0 _ (Ex F _) (C.old hF)  (MS.nil _) t ((topoE).down0 t_w) f ((failE).down0 f_w) ((k : Nat) : Int) ⟨by omega, by omega⟩ (by first | assumption | exact HV.1.1)) ?_
  rintro e w8 ⟨ra_12, rc_12, rfl, R_12, T0⟩; refine ⟨_, rfl, ?_⟩; clear S a; intro a S
  have TT := Tr.framed0 C.ms T0; have G := T0.ch
  replace t_w := Enc.tr (topoE) t_w TT
  replace f_w := Enc.tr (failE) f_w TT
  replace K1 := Blk.tr0 K1 G
  replace K2 := Blk.tr0 K2 G
  replace W6 := Row.tr0 W6 TT G
  replace K10 := Blk.tr0 K10 G
  replace GL0 := GL0.trans TT
  replace C := C.trans TT
  replace R_12 := Enc.up (slE intE) R_12
  clear T0 G TT
  have hn13 : (compsOf t f ((k : Nat) : Int)).length ≤ 9223372036854775807 := (R_12).1.len
  refine qa S rfl ?_; clear S a; intro a S
  refine qt ?_
  refine wp_seq ?_
  replace S := S.sub (L' := [(2, pT b1 0), (3, pT b2 0), (4, .slice none 0 0), (14, sV t.links), (15, iN t.links.xs.length), (16, iN k), (5, .slice out_a out.length out_c), (17, bD (((k : Nat) : Int) < ((t.links.xs.length : Nat) : Int))), (18, iN k), (19, pT (blk t.links.a) (off t.links.a + k * 3)), (20, .agg #[iI ((t.links.xs.getD k lnkE.dflt).a), iI ((t.links.xs.getD k lnkE.dflt).b), iI ((t.links.xs.getD k lnkE.dflt).cost)]), (7, pT b10 0), (6, iN k), (21, tV t), (22, fV f), (23, iN k), (24, bD (usableR t f ((k : Nat) : Int))), (25, bD (¬ (usableR t f ((k : Nat) : Int)))), (26, tV t), (27, fV f), (28, iN k), (29, .slice ra_12 ((compsOf t f ((k : Nat) : Int)).length) rc_12), (8, .slice ra_12 ((compsOf t f ((k : Nat) : Int)).length) rc_12)]) ⟨rfl, rfl, rfl, rfl, rfl, rfl, rfl, rfl, rfl, rfl, rfl, rfl, rfl, rfl, rfl, rfl, rfl, rfl, rfl, rfl, rfl, rfl, rfl, trivial⟩
  refine wp_heads (M := In []) S 11 [(30, iV (.slice ra_12 ((compsOf t f ((k : Nat) : Int)).length) rc_12)), (31, iV (pT b10 (0 + 0))), (32, iV (iI ((t.links.xs.getD k lnkE.dflt).a))), (33, iV (pT (blk ra_12) (off ra_12 + ((t.links.xs.getD k lnkE.dflt).a).toNat * 1))), (34, iV (iI ((compsOf t f ((k : Nat) : Int)).getD (((t.links.xs.getD k lnkE.dflt).a).toNat) intE.dflt))), (35, iV (.slice ra_12 ((compsOf t f ((k : Nat) : Int)).length) rc_12)), (36, iV (pT b10 (0 + 1))), (37, iV (iI ((t.links.xs.getD k lnkE.dflt).b))), (38, iV (pT (blk ra_12) (off ra_12 + ((t.links.xs.getD k lnkE.dflt).b).toNat * 1))), (39, iV (iI ((compsOf t f ((k : Nat) : Int)).getD (((t.links.xs.getD k lnkE.dflt).b).toNat) intE.dflt))), (40, iV (bD (¬ ((compsOf t f ((k : Nat) : Int)).getD (((t.links.xs.getD k lnkE.dflt).a).toNat) intE.dflt) = ((compsOf t f ((k : Nat) : Int)).getD (((t.links.xs.getD k lnkE.dflt).b).toNat) intE.dflt))))] (fun w => True) [[], [], [31], [30, 32], [33], [], [], [36], [35, 37], [38], [34, 39]] [40] _ rfl mixed (by kernel_rfl) rfl trivial ?_ ?_
  ·refine ⟨?_, ?_, ?_, ?_, ?_, ?_, ?_, ?_, ?_, ?_, ?_, trivial⟩
   ·intro a w9 G I S hE
    have TT := Tr.of_ch C.ms G (fun _ h => by simp at h)
    replace R_12 := Enc.tr (slE intE) R_12 TT
    replace C := C.trans TT
    exact qo (.slice ra_12 ((compsOf t f ((k : Nat) : Int)).length) rc_12) (x_move (S.e rfl)) I
   ·intro a w10 G I S hE
    have TT := Tr.of_ch C.ms G (fun _ h => by simp at h)
    replace t_w := Enc.tr (topoE) t_w TT
    replace K10 := Blk.tr0 K10 G
    replace C := C.trans TT
    exact qo (pT b10 (0 + 0)) (x_fld (z := 0) (0) 0 Try.underlying54 rfl rfl (by kernel_rfl) (S.e rfl)) I
   ·intro a w11 G I S hE
    have TT := Tr.of_ch C.ms G (fun _ h => by simp at h)
    replace t_w := Enc.tr (topoE) t_w TT
    replace K10 := Blk.tr0 K10 G
    replace C := C.trans TT
    obtain ⟨e31, _⟩ := hE
    replace S := S.ext e31
    exact qo (iI ((t.links.xs.getD k lnkE.dflt).a)) (x_load ⟨_, Try.underlying3, rfl⟩ (S.e rfl) (K10.cell (j := 0) rfl)) I
   ·intro a w12 G I S hE
    have TT := Tr.of_ch C.ms G (fun _ h => by simp at h)
    replace t_w := Enc.tr (topoE) t_w TT
    replace R_12 := Enc.tr (slE intE) R_12 TT
    replace C := C.trans TT
    obtain ⟨e30, e32, _⟩ := hE
    replace S := S.ext e30
    replace S := S.ext e32
    exact qo (pT (blk ra_12) (off ra_12 + ((t.links.xs.getD k lnkE.dflt).a).toNat * 1)) (x_idx Try.underlying22 (by kernel_rfl) (S.e rfl) (S.e rfl) ((t.links.xs.getD k lnkE.dflt).a).toNat (by omega) (by omega) ((show LAt intE _ _ ra_12 (compsOf t f ((k : Nat) : Int)) from (R_12).1).adr (i := ((t.links.xs.getD k lnkE.dflt).a).toNat) (by omega))) I
   ·intro a w13 G I S hE
    have TT := Tr.of_ch C.ms G (fun _ h => by simp at h)
    replace R_12 := Enc.tr (slE intE) R_12 TT
    replace C := C.trans TT
    obtain ⟨e33, _⟩ := hE
    replace S := S.ext e33
    obtain ⟨hl14, hu14⟩ : inI64 ((compsOf t f ((k : Nat) : Int)).getD (((t.links.xs.getD k lnkE.dflt).a).toNat) intE.dflt) := id ((show LAt intE _ _ ra_12 (compsOf t f ((k : Nat) : Int)) from (R_12).1).wf ((t.links.xs.getD k lnkE.dflt).a).toNat (by omega))
    exact qo (iI ((compsOf t f ((k : Nat) : Int)).getD (((t.links.xs.getD k lnkE.dflt).a).toNat) intE.dflt)) (x_load ⟨_, Try.underlying3, rfl⟩ (S.e rfl) ((show LAt intE _ _ ra_12 (compsOf t f ((k : Nat) : Int)) from (R_12).1).cell ((t.links.xs.getD k lnkE.dflt).a).toNat (by omega) 0 _ rfl)) I
   ·intro a w14 G I S hE
    have TT := Tr.of_ch C.ms G (fun _ h => by simp at h)
    replace R_12 := Enc.tr (slE intE) R_12 TT
    replace C := C.trans TT
    exact qo (.slice ra_12 ((compsOf t f ((k : Nat) : Int)).length) rc_12) (x_move (S.e rfl)) I
   ·intro a w15 G I S hE
    have TT := Tr.of_ch C.ms G (fun _ h => by simp at h)
    replace t_w := Enc.tr (topoE) t_w TT
    replace K10 := Blk.tr0 K10 G
    replace C := C.trans TT
    exact qo (pT b10 (0 + 1)) (x_fld (z := 0) (0) 1 Try.underlying54 rfl rfl (by kernel_rfl) (S.e rfl)) I
   ·intro a w16 G I S hE
    have TT := Tr.of_ch C.ms G (fun _ h => by simp at h)
    replace t_w := Enc.tr (topoE) t_w TT
    replace K10 := Blk.tr0 K10 G
    replace C := C.trans TT
    obtain ⟨e36, _⟩ := hE
    replace S := S.ext e36
    exact qo (iI ((t.links.xs.getD k lnkE.dflt).b)) (x_load ⟨_, Try.underlying3, rfl⟩ (S.e rfl) (K10.cell (j := 1) rfl)) I
   ·intro a w17 G I S hE
    have TT := Tr.of_ch C.ms G (fun _ h => by simp at h)
    replace t_w := Enc.tr (topoE) t_w TT
    replace R_12 := Enc.tr (slE intE) R_12 TT
    replace C := C.trans TT
    obtain ⟨e35, e37, _⟩ := hE
    replace S := S.ext e35
    replace S := S.ext e37
    exact qo (pT (blk ra_12) (off ra_12 + ((t.links.xs.getD k lnkE.dflt).b).toNat * 1)) (x_idx Try.underlying22 (by kernel_rfl) (S.e rfl) (S.e rfl) ((t.links.xs.getD k lnkE.dflt).b).toNat (by omega) (by omega) ((show LAt intE _ _ ra_12 (compsOf t f ((k : Nat) : Int)) from (R_12).1).adr (i := ((t.links.xs.getD k lnkE.dflt).b).toNat) (by omega))) I
   ·intro a w18 G I S hE
    have TT := Tr.of_ch C.ms G (fun _ h => by simp at h)
    replace R_12 := Enc.tr (slE intE) R_12 TT
    replace C := C.trans TT
    obtain ⟨e38, _⟩ := hE
    replace S := S.ext e38
    obtain ⟨hl15, hu15⟩ : inI64 ((compsOf t f ((k : Nat) : Int)).getD (((t.links.xs.getD k lnkE.dflt).b).toNat) intE.dflt) := id ((show LAt intE _ _ ra_12 (compsOf t f ((k : Nat) : Int)) from (R_12).1).wf ((t.links.xs.getD k lnkE.dflt).b).toNat (by omega))
    exact qo (iI ((compsOf t f ((k : Nat) : Int)).getD (((t.links.xs.getD k lnkE.dflt).b).toNat) intE.dflt)) (x_load ⟨_, Try.underlying3, rfl⟩ (S.e rfl) ((show LAt intE _ _ ra_12 (compsOf t f ((k : Nat) : Int)) from (R_12).1).cell ((t.links.xs.getD k lnkE.dflt).b).toNat (by omega) 0 _ rfl)) I
   intro a w19 G I S hE
   have TT := Tr.of_ch C.ms G (fun _ h => by simp at h)
   replace R_12 := Enc.tr (slE intE) R_12 TT
   replace C := C.trans TT
   obtain ⟨e34, e39, _⟩ := hE
   replace S := S.ext e34
   replace S := S.ext e39
   exact qo (bD (¬ ((compsOf t f ((k : Nat) : Int)).getD (((t.links.xs.getD k lnkE.dflt).a).toNat) intE.dflt) = ((compsOf t f ((k : Nat) : Int)).getD (((t.links.xs.getD k lnkE.dflt).b).toNat) intE.dflt))) (x_neq (S.e rfl) (S.e rfl)) I
  clear S a; intro a w20 G I S hE; have TT := Tr.of_ch C.ms G (fun _ h => by simp at h)
  replace t_w := Enc.tr (topoE) t_w TT
  replace f_w := Enc.tr (failE) f_w TT
  replace K1 := Blk.tr0 K1 G
  replace K2 := Blk.tr0 K2 G
  replace W6 := Row.tr0 W6 TT G
  replace K10 := Blk.tr0 K10 G
  replace R_12 := Enc.tr (slE intE) R_12 TT
  replace GL0 := GL0.trans TT
  replace C := C.trans TT
  clear TT G
  obtain ⟨e40, -⟩ := hE
  replace S := S.ext e40
  clear e40
  obtain ⟨hl16, hu16⟩ : inI64 ((compsOf t f ((k : Nat) : Int)).getD (((t.links.xs.getD k lnkE.dflt).a).toNat) intE.dflt) := id ((show LAt intE _ _ ra_12 (compsOf t f ((k : Nat) : Int)) from (R_12).1).wf ((t.links.xs.getD k lnkE.dflt).a).toNat (by omega))
  obtain ⟨hl17, hu17⟩ : inI64 ((compsOf t f ((k : Nat) : Int)).getD (((t.links.xs.getD k lnkE.dflt).b).toNat) intE.dflt) := id ((show LAt intE _ _ ra_12 (compsOf t f ((k : Nat) : Int)) from (R_12).1).wf ((t.links.xs.getD k lnkE.dflt).b).toNat (by omega))
  refine qt ?_
  refine cond_dec S rfl ?_ ?_
  ·intro hc5
   refine wp_region_lit ?_
   refine qm S rfl ?_; clear S a; intro a S
   refine qm S rfl ?_; clear S a; intro a S
   refine seq_new S rfl rfl (by decide) (fun b => .slice (some ⟨b, 0, none⟩) 1 1) (cs := [iN k]) (x_bsl [(0, iN k)] [iN k] Try.underlying22 infoz_3 (by decide) (by decide) (by simp only [List.map_cons, List.map_nil, show a.eval (.tmp 42) = iN k from (S.e rfl)]) (by kernel_rfl)) ?_
   clear S a; intro a w21 b18 hb18 hbs18 G K18 S; have hbl18 : b18 < w21.heap.size := by omega
   have we18_0 : intE.wf (Fr F [one b10, abk out_a, one b2, one b1]) w20.heap ((k : Nat) : Int) := (show inI64 ((k : Nat) : Int) from ⟨by omega, by omega⟩)
   have hfr18 := fr_fresh C hF hb18; have TT := Tr.of_ch0 C.ms G
   replace t_w := Enc.tr (topoE) t_w TT
   replace f_w := Enc.tr (failE) f_w TT
   replace K1 := Blk.tr0 K1 G
   replace K2 := Blk.tr0 K2 G
   replace W6 := Row.tr0 W6 TT G
   replace K10 := Blk.tr0 K10 G
   replace R_12 := Enc.tr (slE intE) R_12 TT
   replace GL0 := GL0.trans TT
   replace C := C.trans TT
   have KS18 : (slE intE).wf (Fr F [one b10, abk out_a, one b2, one b1]) w21.heap ⟨some ⟨b18, 0, none⟩, 1, [((k : Nat) : Int)]⟩ := sl_of_blk K18 [((k : Nat) : Int)] 1 rfl (by decide) (by decide) rfl hfr18 (by intro x hx; simp only [List.mem_cons, List.not_mem_nil, or_false] at hx; subst hx; exact Enc.tr (intE) we18_0 TT)
   clear K18 hfr18 TT G we18_0
   refine seq_op rfl (op_append (E := intE) [one b10] [one b2, one b1] (.tmp 41) (.tmp 43) 22 rfl zero_3 8 Try.underlying22 infoz_3 rfl (by decide) rfl C.ms (S.e rfl) W6 ([((k : Nat) : Int)]) (some ⟨b18, 0, none⟩) 1 (S.e rfl) (show LAt intE _ _ (some ⟨b18, 0, none⟩) ([((k : Nat) : Int)]) from (KS18).1) (KS18).2.2 (LAt.mem (show LAt intE _ _ (some ⟨b18, 0, none⟩) ([((k : Nat) : Int)]) from (KS18).1)) (by unfold maxLen; (try simp only [List.length_cons, List.length_nil, List.length_append, List.length_map]); omega) (by (try simp only [List.length_cons, List.length_nil, List.length_append, List.length_map]); omega) (C.size) ?_)
   intro ad19 cap19 w22 Rn TT G
   have S1 := S.put (d := 44) (v := .slice ad19 (out ++ [((k : Nat) : Int)]).length cap19) (by decide); clear S; revert S1; generalize Act.put a _ _ = a1; intro S; clear a; rename Act => a
   replace TT : Tr [one b10, abk out_a, one b2, one b1] w21 [one b10, abk ad19, one b2, one b1] w22 := TT; replace Rn : Row intE 3 w.heap.size F [one b10, abk ad19, one b2, one b1] w22 ad19 cap19 (out ++ [((k : Nat) : Int)]) := Rn
   replace t_w := Enc.tr (topoE) t_w TT
   replace f_w := Enc.tr (failE) f_w TT
   replace K1 := Blk.tr K1 G (C.ms.sep.out 3 [1] rfl rfl rfl)
   replace K2 := Blk.tr K2 G (C.ms.sep.out 2 [1] rfl rfl rfl)
   replace K10 := Blk.tr K10 G (C.ms.sep.out 0 [1] rfl rfl rfl)
   replace R_12 := Enc.tr (slE intE) R_12 TT
   replace KS18 := Enc.tr (slE intE) KS18 TT
   replace GL0 := GL0.trans TT
   replace C := C.trans TT
   clear W6; have W6 := Rn; clear Rn TT G
   refine qa S rfl ?_; clear S a; intro a S
   refine wpList_nil ?_
   refine blk_n ?_
   refine then_n ?_
   refine wp_region_lit ?_
   refine qv S (iN (k + 1)) (x_add (S.e rfl) (S.e rfl) (r := ((k + 1 : Nat) : Int)) (w_i64 (by omega))) ?_; clear S a; intro a S
   refine qm S rfl ?_; clear S a; intro a S
   refine wpList_nil ?_
   have TD : Tr [one b10, abk ad19, one b2, one b1] w22 [abk ad19, one b2, one b1] w22 := Tr.drop C.ms [1, 2, 3] (by decide)
   have GD : Ch (In []) w22 w22 := Ch.refl _
   clear K10
   replace t_w := Enc.tr (topoE) t_w TD
   replace f_w := Enc.tr (failE) f_w TD
   replace K1 := Blk.tr0 K1 GD
   replace K2 := Blk.tr0 K2 GD
   replace W6 := Row.tr0 W6 TD GD
   replace R_12 := Enc.tr (slE intE) R_12 TD
   replace KS18 := Enc.tr (slE intE) KS18 TD
   replace GL0 := GL0.trans TD
   replace C := C.trans TD
   clear TD GD
   refine then_n ?_
   refine ⟨t.links.xs.length - (k + 1), ?_, (k + 1), ad19, cap19, (out ++ [((k : Nat) : Int)]), S.sub ⟨rfl, rfl, rfl, rfl, rfl, rfl, (by first | rfl | (simp only [List.length_set]; rfl)), trivial⟩, GL0, ?_, K1, K2, W6, rfl⟩
   ·omega
   refine ⟨by omega, ?_⟩
   have e0 : intE.dflt = 0 := rfl
   first
   | (rw [bridges_not HV (fun e => hc5 e.1)]; exact ho)
   | (rw [e0, e1, e2] at hc5
      first
      | (rw [bridges_yes HV ⟨Classical.not_not.1 hc4, hc5⟩, ← ho])
      | (rw [bridges_not HV (fun e => hc5 e.2)]; exact ho))
  intro hc6
  refine wp_skip ?_
  refine blk_n ?_
  refine then_n ?_
  refine wp_region_lit ?_
  refine qv S (iN (k + 1)) (x_add (S.e rfl) (S.e rfl) (r := ((k + 1 : Nat) : Int)) (w_i64 (by omega))) ?_; clear S a; intro a S
  refine qm S rfl ?_; clear S a; intro a S
  refine wpList_nil ?_
  have TD : Tr [one b10, abk out_a, one b2, one b1] w20 [abk out_a, one b2, one b1] w20 := Tr.drop C.ms [1, 2, 3] (by decide)
  have GD : Ch (In []) w20 w20 := Ch.refl _
  clear K10
  replace t_w := Enc.tr (topoE) t_w TD
  replace f_w := Enc.tr (failE) f_w TD
  replace K1 := Blk.tr0 K1 GD
  replace K2 := Blk.tr0 K2 GD
  replace W6 := Row.tr0 W6 TD GD
  replace R_12 := Enc.tr (slE intE) R_12 TD
  replace GL0 := GL0.trans TD
  replace C := C.trans TD
  clear TD GD
  refine then_n ?_
  refine ⟨t.links.xs.length - (k + 1), ?_, (k + 1), out_a, out_c, out, S.sub ⟨rfl, rfl, rfl, rfl, rfl, rfl, (by first | rfl | (simp only [List.length_set]; rfl)), trivial⟩, GL0, ?_, K1, K2, W6, rfl⟩
  ·omega
  refine ⟨by omega, ?_⟩
  have e0 : intE.dflt = 0 := rfl
  first
  | (rw [bridges_not HV (fun e => hc6 e.1)]; exact ho)
  | (rw [e0, e1, e2] at hc6
     first
     | (rw [bridges_yes HV ⟨Classical.not_not.1 hc4, hc6⟩, ← ho])
     | (rw [bridges_not HV (fun e => hc6 e.2)]; exact ho))
 intro hc7
 refine wp_exit ?_
 refine then_e ?_
 refine then_e ?_
 refine blk_e ?_
 refine then_n ?_
 refine qs ?_
 refine qm S rfl ?_; clear S a; intro a S
 refine qa S rfl ?_; clear S a; intro a S
 refine qt ?_
 refine wp_ret ?_
 have FW6 := Row.freeze (pre := []) (post := [one b2, one b1]) rfl C.ms W6 (by first | decide | exact Nat.one_pos) (W6.notF hF (Nat.le_refl _))
 have TF := Tr.leave (pre := []) (o := abk out_a) (post := [one b2, one b1]) C.ms
 have GF : Ch (In []) w4 w4 := Ch.refl _
 replace t_w := Enc.tr (topoE) t_w TF
 replace f_w := Enc.tr (failE) f_w TF
 replace K1 := Blk.tr0 K1 GF
 replace K2 := Blk.tr0 K2 GF
 replace GL0 := GL0.trans TF
 replace C := C.trans TF
 replace FW6 : (slE intE).wf (Fr F [one b2, one b1]) w4.heap ⟨out_a, out_c, out⟩ := FW6; clear W6
 refine ret1 rfl S rfl ?_
 have TD : Tr [one b2, one b1] w4 [] w4 := Tr.drop C.ms [] (by decide)
 have GD : Ch (In []) w4 w4 := Ch.refl _
 clear K1
 clear K2
 replace t_w := Enc.tr (topoE) t_w TD
 replace f_w := Enc.tr (failE) f_w TD
 replace FW6 := Enc.tr (slE intE) FW6 TD
 replace GL0 := GL0.trans TD
 replace C := C.trans TD
 clear TD GD
 have hx20 : bridgesOf t f = out := by
  unfold bridgesOf; rw [ho, show k = t.links.xs.length from by omega]
 rw [hx20]
 refine ⟨out_a, out_c, rfl, FW6, C⟩
set_option maxHeartbeats 2000000 in
set_option maxRecDepth 20000 in
theorem rBridges (w : World) (F : Nat → Prop) (hF : Old F w) (M : MS [] w) (t : Topo) (t_w : topoE.wf (Fr F []) w.heap t) (f : Fail) (f_w : failE.wf (Fr F []) w.heap f) :
 Calls Try.prog 62 #[tV t, fV f] w fun e w' => ∃ (ra : Option Addr) (rc : Nat), e = .returned (.slice ra ((bridgesOf t f).length) rc) ∧ (slE intE).wf (Fr F []) w'.heap (Sl.mk ra rc (bridgesOf t f)) ∧ Tr [] w [] w' := by
 have C : Tr [] w [] w := Tr.refl M
 have : t.devs.xs.length ≤ 9223372036854775807 := (t_w.1).1.len
 have : t.links.xs.length ≤ 9223372036854775807 := (t_w.2.1).1.len
 have : t.edges.xs.length ≤ 9223372036854775807 := (t_w.2.2.1).1.len
 have : t.pools.xs.length ≤ 9223372036854775807 := (t_w.2.2.2.1).1.len
 obtain ⟨_, _⟩ : inI64 t.tol := t_w.2.2.2.2
 have : f.links.xs.length ≤ 9223372036854775807 := (f_w.1).1.len
 have : f.devs.xs.length ≤ 9223372036854775807 := (f_w.2).1.len
 refine enter Try.func62 rfl 43 rfl (Nat.le_of_ble_eq_true rfl) ?_
 intro a S
 refine qs ?_
 refine seq_new S rfl rfl (by decide) (fun b => pT b 0) (cs := (tL t)) (x_box (tL t) (S.e rfl) rfl) ?_
 clear S a; intro a w1 b1 hb1 hbs1 G K1 S; have hbl1 : b1 < w1.heap.size := by omega
 have TT := Tr.fresh C.ms hb1 hbl1 G
 replace t_w := Enc.tr (topoE) t_w TT
 replace f_w := Enc.tr (failE) f_w TT
 replace C := C.trans TT
 clear TT G
 refine seq_new S rfl rfl (by decide) (fun b => pT b 0) (cs := (fL f)) (x_box (fL f) (S.e rfl) rfl) ?_
 clear S a; intro a w2 b2 hb2 hbs2 G K2 S; have hbl2 : b2 < w2.heap.size := by omega
 have TT := Tr.fresh C.ms hb2 hbl2 G
 replace t_w := Enc.tr (topoE) t_w TT
 replace f_w := Enc.tr (failE) f_w TT
 replace K1 := Blk.tr0 K1 G
 replace C := C.trans TT
 clear TT G
 refine qa S rfl ?_; clear S a; intro a S
 refine qt ?_
 refine qs ?_
 refine qa S rfl ?_; clear S a; intro a S
 refine qt ?_
 refine wp_seq ?_
 refine qs ?_
 refine qa S rfl ?_; clear S a; intro a S
 refine qt ?_
 refine wp_block ?_
 have W3 := Row.nil intE 3 w.heap.size F [abk none, one b2, one b1] w2
 have TT : Tr [one b2, one b1] w2 [abk none, one b2, one b1] w2 := (Tr.refl C.ms).cons (b := abk none) (fun k e => absurd e abk_none); have G : Ch (In []) w2 w2 := Ch.refl _
 replace t_w := Enc.tr (topoE) t_w TT
 replace f_w := Enc.tr (failE) f_w TT
 replace K1 := Blk.tr0 K1 G
 replace K2 := Blk.tr0 K2 G
 replace C := C.trans TT
 clear TT G
 refine wp_loop_ghost (fun m a wr => ∃ k : Nat, ∃ out_a : Option Addr, ∃ out_c : Nat, ∃ out : List Int, Slots 43 [(2, pT b1 0), (3, pT b2 0), (4, .slice none 0 0), (6, iN k), (5, .slice out_a out.length out_c)] a ∧ Tr [abk none, one b2, one b1] w2 [abk out_a, one b2, one b1] wr ∧ (k ≤ t.links.xs.length ∧ out = bridgesTo t f k) ∧ Blk wr.heap b1 (tL t) 28 ∧ Blk wr.heap b2 (fL f) 41 ∧ Row intE 3 w.heap.size F [abk out_a, one b2, one b1] wr out_a out_c out ∧ (t.links.xs.length - k) = m) (t.links.xs.length - 0) ?_ ?_
 ·refine ⟨0, none, 0, [], S.sub ⟨rfl, rfl, rfl, rfl, rfl, trivial⟩, Tr.refl C.ms, ?_, K1, K2, W3, rfl⟩
  exact ⟨Nat.zero_le _, bridges_zero.symm⟩
 rintro m a w3 ⟨k, out_a, out_c, out, S, G, hR, K1', K2', W3', rfl⟩
 clear K1; have K1 := K1'; clear K1'
 clear K2; have K2 := K2'; clear K2'
 clear W3; have W3 := W3'; clear W3'
 replace t_w := Enc.tr (topoE) t_w G
 replace f_w := Enc.tr (failE) f_w G
 replace C := C.trans G
 have GL0 := G; clear G
 have out_len := W3.len_le; simp only [maxLen] at out_len
 obtain ⟨hk, ho⟩ := hR
 have hob := bridges_len (t := t) (f := f) (k := k)
 rw [← ho] at hob
 refine wp_seq ?_
 refine qs ?_
 refine qm S rfl ?_; clear S a; intro a S
 refine qv S (pT b1 (0 + 1)) (x_fld (z := 0) (0) 1 Try.underlying28 rfl rfl (by kernel_rfl) (S.e rfl)) ?_; clear S a; intro a S
 refine qv S (sV t.links) (x_load ⟨_, Try.underlying24, rfl⟩ (S.e rfl) (K1.cell (j := 1) rfl)) ?_; clear S a; intro a S
 have hn4 : t.links.xs.length ≤ 9223372036854775807 := (t_w.2.1).1.len
 refine qv S (iN t.links.xs.length) (x_len Try.underlying24 (S.e rfl)) ?_; clear S a; intro a S
 refine qv S (bD (((k : Nat) : Int) < ((t.links.xs.length : Nat) : Int))) (x_lss (S.e rfl) (S.e rfl)) ?_; clear S a; intro a S
 refine qt ?_
 refine cond_dec S rfl ?_ ?_
 ·intro hc0
  refine wp_skip ?_
  refine then_n ?_
  refine wp_seq ?_
  refine wp_block ?_
  refine wp_seq ?_
  replace S := S.sub (L' := [(2, pT b1 0), (3, pT b2 0), (4, .slice none 0 0), (6, iN k), (5, .slice out_a out.length out_c), (7, iN k), (8, pT b1 (0 + 1)), (9, sV t.links), (10, iN t.links.xs.length), (11, bD (((k : Nat) : Int) < ((t.links.xs.length : Nat) : Int)))]) ⟨rfl, rfl, rfl, rfl, rfl, rfl, rfl, rfl, rfl, rfl, trivial⟩
  refine wp_heads (M := In []) S 24 [(14, iV (tV t)), (15, iV (fV f)), (16, iV (iN k)), (17, iV (bD (usableV t f ((k : Nat) : Int)))), (18, iV (bD (usableV t f ((k : Nat) : Int)))), (19, iV ((if (usableV t f ((k : Nat) : Int)) then tV t else undef))), (20, iV ((if (usableV t f ((k : Nat) : Int)) then fV f else undef))), (21, iV ((if (usableV t f ((k : Nat) : Int)) then iN k else undef))), (22, ⟨fun u w => (usableV t f ((k : Nat) : Int)) → ∃ (x22a : Fail), u = fV x22a ∧ (failE).wf (Fr F [abk out_a, one b2, one b1]) w.heap x22a ∧ OneMore x22a f ((k : Nat) : Int), fun v w w' c h hg => let ⟨x22a, hv, h0, h1⟩ := h hg; ⟨x22a, hv, Enc.kp (failE) h0 c (fun _ h => by simp at h), h1⟩⟩), (23, iV ((if (usableV t f ((k : Nat) : Int)) then pT b1 (0 + 1) else undef))), (24, iV ((if (usableV t f ((k : Nat) : Int)) then sV t.links else undef))), (25, iV ((if (usableV t f ((k : Nat) : Int)) then iN k else undef))), (26, iV ((if (usableV t f ((k : Nat) : Int)) then pT (blk t.links.a) (off t.links.a + k * 3) else undef))), (27, iV ((if (usableV t f ((k : Nat) : Int)) then pT (blk t.links.a) (off t.links.a + k * 3 + 0) else undef))), (28, iV ((if (usableV t f ((k : Nat) : Int)) then iI ((t.links.xs.getD k lnkE.dflt).a) else undef))), (29, iV ((if (usableV t f ((k : Nat) : Int)) then pT b1 (0 + 1) else undef))), (30, iV ((if (usableV t f ((k : Nat) : Int)) then sV t.links else undef))), (31, iV ((if (usableV t f ((k : Nat) : Int)) then iN k else undef))), (32, iV ((if (usableV t f ((k : Nat) : Int)) then pT (blk t.links.a) (off t.links.a + k * 3) else undef))), (33, iV ((if (usableV t f ((k : Nat) : Int)) then pT (blk t.links.a) (off t.links.a + k * 3 + 1) else undef))), (34, iV ((if (usableV t f ((k : Nat) : Int)) then iI ((t.links.xs.getD k lnkE.dflt).b) else undef))), (35, iV ((if (usableV t f ((k : Nat) : Int)) then bD (¬ bridge t f k) else undef))), (36, iV ((if (usableV t f ((k : Nat) : Int)) then bD (¬ (¬ bridge t f k)) else undef))), (37, iV (bD ((usableV t f ((k : Nat) : Int)) ∧ (¬ (¬ bridge t f k)))))] (fun w => True) [[], [], [], [14, 15, 16], [17], [18], [18], [18], [18, 20, 21], [18], [18, 23], [18], [18, 24, 25], [18, 26], [18, 27], [18], [18, 29], [18], [18, 30, 31], [18, 32], [18, 33], [18, 19, 22, 28, 34], [18, 35], [18, 36]] [37] _ rfl mixed (by kernel_rfl) rfl trivial ?_ ?_
  ·refine ⟨?_, ?_, ?_, ?_, ?_, ?_, ?_, ?_, ?_, ?_, ?_, ?_, ?_, ?_, ?_, ?_, ?_, ?_, ?_, ?_, ?_, ?_, ?_, ?_, trivial⟩
   ·intro a w4 G I S hE
    have TT := Tr.of_ch C.ms G (fun _ h => by simp at h)
    replace t_w := Enc.tr (topoE) t_w TT
    replace K1 := Blk.tr0 K1 G
    replace C := C.trans TT
    exact qo (tV t) (x_loadw (tL t) ⟨_, Try.underlying28, rfl, by kernel_rfl⟩ (S.e rfl) (K1.mid [] (tL t) [] rfl _ rfl)) I
   ·intro a w5 G I S hE
    have TT := Tr.of_ch C.ms G (fun _ h => by simp at h)
    replace f_w := Enc.tr (failE) f_w TT
    replace K2 := Blk.tr0 K2 G
    replace C := C.trans TT
    exact qo (fV f) (x_loadw (fL f) ⟨_, Try.underlying41, rfl, by kernel_rfl⟩ (S.e rfl) (K2.mid [] (fL f) [] rfl _ rfl)) I
   ·intro a w6 G I S hE
    have TT := Tr.of_ch C.ms G (fun _ h => by simp at h)
    replace C := C.trans TT
    exact qo (iN k) (x_move (S.e rfl)) I
   ·intro a w7 G I S hE
    have TT := Tr.of_ch C.ms G (fun _ h => by simp at h)
    replace t_w := Enc.tr (topoE) t_w TT
    replace f_w := Enc.tr (failE) f_w TT
    replace C := C.trans TT
    obtain ⟨e14, e15, e16, _⟩ := hE
    replace S := S.ext e14
    replace S := S.ext e15
    replace S := S.ext e16
    refine head_op rfl rfl (op_call (vs := #[tV t, fV f, iN k]) (by simp only [List.map_toArray, List.map_cons, List.map_nil, show a.eval (.tmp 14) = tV t from (S.e rfl), show a.eval (.tmp 15) = fV f from (S.e rfl), show a.eval (.tmp 16) = iN k from (S.e rfl)]) callable_40 (rUsable _ (Ex F _) (C.old hF)  (MS.nil _) t ((topoE).down0 t_w) f ((failE).down0 f_w) ((k : Nat) : Int) ⟨by omega, by omega⟩) ?_)
    rintro e w2 ⟨rfl, T0⟩; exact ⟨_, rfl, Done.mk' rfl (by decide) (show _ = _ from rfl) T0.ch trivial⟩
   ·intro a w8 G I S hE
    have TT := Tr.of_ch C.ms G (fun _ h => by simp at h)
    replace C := C.trans TT
    obtain ⟨e17, _⟩ := hE
    replace S := S.ext e17
    exact qo (bD (usableV t f ((k : Nat) : Int))) (x_move (S.e rfl)) I
   ·intro a w9 G I S hE
    have TT := Tr.of_ch C.ms G (fun _ h => by simp at h)
    replace t_w := Enc.tr (topoE) t_w TT
    replace K1 := Blk.tr0 K1 G
    replace C := C.trans TT
    obtain ⟨e18, _⟩ := hE
    replace S := S.ext e18
    refine (Classical.em (usableV t f ((k : Nat) : Int))).symm.elim (fun hg => ?_) fun hg => ?_
    ·exact qn S 18 rfl (fun h => hg (gt.2 h)) I
    exact qy S 18 rfl (gt.1 hg) (tV t) (x_loadw (tL t) ⟨_, Try.underlying28, rfl, by kernel_rfl⟩ (S.e rfl) (K1.mid [] (tL t) [] rfl _ rfl)) I
   ·intro a w10 G I S hE
    have TT := Tr.of_ch C.ms G (fun _ h => by simp at h)
    replace f_w := Enc.tr (failE) f_w TT
    replace K2 := Blk.tr0 K2 G
    replace C := C.trans TT
    obtain ⟨e18, _⟩ := hE
    replace S := S.ext e18
    refine (Classical.em (usableV t f ((k : Nat) : Int))).symm.elim (fun hg => ?_) fun hg => ?_
    ·exact qn S 18 rfl (fun h => hg (gt.2 h)) I
    exact qy S 18 rfl (gt.1 hg) (fV f) (x_loadw (fL f) ⟨_, Try.underlying41, rfl, by kernel_rfl⟩ (S.e rfl) (K2.mid [] (fL f) [] rfl _ rfl)) I
   ·intro a w11 G I S hE
    have TT := Tr.of_ch C.ms G (fun _ h => by simp at h)
    replace C := C.trans TT
    obtain ⟨e18, _⟩ := hE
    replace S := S.ext e18
    refine (Classical.em (usableV t f ((k : Nat) : Int))).symm.elim (fun hg => ?_) fun hg => ?_
    ·exact qn S 18 rfl (fun h => hg (gt.2 h)) I
    exact qy S 18 rfl (gt.1 hg) (iN k) (x_move (S.e rfl)) I
   ·intro a w12 G I S hE
    have TT := Tr.of_ch C.ms G (fun _ h => by simp at h)
    replace f_w := Enc.tr (failE) f_w TT
    replace C := C.trans TT
    obtain ⟨e18, e20, e21, _⟩ := hE
    replace S := S.ext e18
    replace S := S.ext e20
    replace S := S.ext e21
    refine (Classical.em (usableV t f ((k : Nat) : Int))).symm.elim (fun hg => ?_) fun hg => ?_
    ·refine head_no rfl rfl rfl rfl (by rw [S.size]; decide) (gv := bD (usableV t f ((k : Nat) : Int))) (S.get 18 _ rfl) (fun h => hg (gt.2 h)) ?_
     exact Done.same rfl (by decide) (show (usableV t f ((k : Nat) : Int)) → _ from fun h => absurd h hg) I
    refine head_yes rfl rfl rfl rfl (by rw [S.size]; decide) (gv := bD (usableV t f ((k : Nat) : Int))) (S.get 18 _ rfl) (gt.1 hg) (op_call (vs := #[fV f, iN k]) (by simp only [List.map_toArray, List.map_cons, List.map_nil, show a.eval (.tmp 20) = fV f from (S.p rfl hg), show a.eval (.tmp 21) = iN k from (S.p rfl hg)]) callable_26 (rWithout _ (Ex F _) (C.old hF)  (MS.nil _) f ((failE).down0 f_w) ((k : Nat) : Int) ⟨by omega, by omega⟩ (by first | omega | exact Nat.le_trans (failV_len hg.1.1.1).1 (by decide) | exact Nat.le_trans (failV_len HV).1 (by decide))) ?_)
    rintro e w2 ⟨r_h22, rfl, R_h22, hr_h22, T0⟩; refine ⟨_, rfl, Done.mk' rfl (by decide) (fun _ => ?_) T0.ch trivial⟩
    exact ⟨r_h22, rfl, (Enc.up (failE) R_h22), hr_h22⟩
   ·intro a w13 G I S hE
    have TT := Tr.of_ch C.ms G (fun _ h => by simp at h)
    replace t_w := Enc.tr (topoE) t_w TT
    replace K1 := Blk.tr0 K1 G
    replace C := C.trans TT
    obtain ⟨e18, _⟩ := hE
    replace S := S.ext e18
    refine (Classical.em (usableV t f ((k : Nat) : Int))).symm.elim (fun hg => ?_) fun hg => ?_
    ·exact qn S 18 rfl (fun h => hg (gt.2 h)) I
    exact qy S 18 rfl (gt.1 hg) (pT b1 (0 + 1)) (x_fld (z := 0) (0) 1 Try.underlying28 rfl rfl (by kernel_rfl) (S.e rfl)) I
   ·intro a w14 G I S hE
    have TT := Tr.of_ch C.ms G (fun _ h => by simp at h)
    replace t_w := Enc.tr (topoE) t_w TT
    replace K1 := Blk.tr0 K1 G
    replace C := C.trans TT
    obtain ⟨e18, e23, _⟩ := hE
    replace S := S.ext e18
    replace S := S.ext e23
    refine (Classical.em (usableV t f ((k : Nat) : Int))).symm.elim (fun hg => ?_) fun hg => ?_
    ·exact qn S 18 rfl (fun h => hg (gt.2 h)) I
    exact qy S 18 rfl (gt.1 hg) (sV t.links) (x_load ⟨_, Try.underlying24, rfl⟩ (S.p rfl hg) (K1.cell (j := 1) rfl)) I
   ·intro a w15 G I S hE
    have TT := Tr.of_ch C.ms G (fun _ h => by simp at h)
    replace C := C.trans TT
    obtain ⟨e18, _⟩ := hE
    replace S := S.ext e18
    refine (Classical.em (usableV t f ((k : Nat) : Int))).symm.elim (fun hg => ?_) fun hg => ?_
    ·exact qn S 18 rfl (fun h => hg (gt.2 h)) I
    exact qy S 18 rfl (gt.1 hg) (iN k) (x_move (S.e rfl)) I
   ·intro a w16 G I S hE
    have TT := Tr.of_ch C.ms G (fun _ h => by simp at h)
    replace t_w := Enc.tr (topoE) t_w TT
    replace C := C.trans TT
    obtain ⟨e18, e24, e25, _⟩ := hE
    replace S := S.ext e18
    replace S := S.ext e24
    replace S := S.ext e25
    refine (Classical.em (usableV t f ((k : Nat) : Int))).symm.elim (fun hg => ?_) fun hg => ?_
    ·exact qn S 18 rfl (fun h => hg (gt.2 h)) I
    exact qy S 18 rfl (gt.1 hg) (pT (blk t.links.a) (off t.links.a + k * 3)) (x_idx Try.underlying24 (by kernel_rfl) (S.p rfl hg) (S.p rfl hg) k rfl (by omega) ((t_w.2.1).1.adr (i := k) (by omega))) I
   ·intro a w17 G I S hE
    have TT := Tr.of_ch C.ms G (fun _ h => by simp at h)
    replace t_w := Enc.tr (topoE) t_w TT
    replace C := C.trans TT
    obtain ⟨e18, e26, _⟩ := hE
    replace S := S.ext e18
    replace S := S.ext e26
    refine (Classical.em (usableV t f ((k : Nat) : Int))).symm.elim (fun hg => ?_) fun hg => ?_
    ·exact qn S 18 rfl (fun h => hg (gt.2 h)) I
    exact qy S 18 rfl (gt.1 hg) (pT (blk t.links.a) (off t.links.a + k * 3 + 0)) (x_fld (z := 0) (off t.links.a + k * 3) 0 Try.underlying54 rfl rfl (by kernel_rfl) (S.p rfl hg)) I
   ·intro a w18 G I S hE
    have TT := Tr.of_ch C.ms G (fun _ h => by simp at h)
    replace t_w := Enc.tr (topoE) t_w TT
    replace C := C.trans TT
    obtain ⟨e18, e27, _⟩ := hE
    replace S := S.ext e18
    replace S := S.ext e27
    refine (Classical.em (usableV t f ((k : Nat) : Int))).symm.elim (fun hg => ?_) fun hg => ?_
    ·exact qn S 18 rfl (fun h => hg (gt.2 h)) I
    exact qy S 18 rfl (gt.1 hg) (iI ((t.links.xs.getD k lnkE.dflt).a)) (x_load ⟨_, Try.underlying3, rfl⟩ (S.p rfl hg) ((t_w.2.1).1.cell k (by omega) 0 _ rfl)) I
   ·intro a w19 G I S hE
    have TT := Tr.of_ch C.ms G (fun _ h => by simp at h)
    replace t_w := Enc.tr (topoE) t_w TT
    replace K1 := Blk.tr0 K1 G
    replace C := C.trans TT
    obtain ⟨e18, _⟩ := hE
    replace S := S.ext e18
    refine (Classical.em (usableV t f ((k : Nat) : Int))).symm.elim (fun hg => ?_) fun hg => ?_
    ·exact qn S 18 rfl (fun h => hg (gt.2 h)) I
    exact qy S 18 rfl (gt.1 hg) (pT b1 (0 + 1)) (x_fld (z := 0) (0) 1 Try.underlying28 rfl rfl (by kernel_rfl) (S.e rfl)) I
   ·intro a w20 G I S hE
    have TT := Tr.of_ch C.ms G (fun _ h => by simp at h)
    replace t_w := Enc.tr (topoE) t_w TT
    replace K1 := Blk.tr0 K1 G
    replace C := C.trans TT
    obtain ⟨e18, e29, _⟩ := hE
    replace S := S.ext e18
    replace S := S.ext e29
    refine (Classical.em (usableV t f ((k : Nat) : Int))).symm.elim (fun hg => ?_) fun hg => ?_
    ·exact qn S 18 rfl (fun h => hg (gt.2 h)) I
    exact qy S 18 rfl (gt.1 hg) (sV t.links) (x_load ⟨_, Try.underlying24, rfl⟩ (S.p rfl hg) (K1.cell (j := 1) rfl)) I
   ·intro a w21 G I S hE
    have TT := Tr.of_ch C.ms G (fun _ h => by simp at h)
    replace C := C.trans TT
    obtain ⟨e18, _⟩ := hE
    replace S := S.ext e18
    refine (Classical.em (usableV t f ((k : Nat) : Int))).symm.elim (fun hg => ?_) fun hg => ?_
    ·exact qn S 18 rfl (fun h => hg (gt.2 h)) I
    exact qy S 18 rfl (gt.1 hg) (iN k) (x_move (S.e rfl)) I
   ·intro a w22 G I S hE
    have TT := Tr.of_ch C.ms G (fun _ h => by simp at h)
    replace t_w := Enc.tr (topoE) t_w TT
    replace C := C.trans TT
    obtain ⟨e18, e30, e31, _⟩ := hE
    replace S := S.ext e18
    replace S := S.ext e30
    replace S := S.ext e31
    refine (Classical.em (usableV t f ((k : Nat) : Int))).symm.elim (fun hg => ?_) fun hg => ?_
    ·exact qn S 18 rfl (fun h => hg (gt.2 h)) I
    exact qy S 18 rfl (gt.1 hg) (pT (blk t.links.a) (off t.links.a + k * 3)) (x_idx Try.underlying24 (by kernel_rfl) (S.p rfl hg) (S.p rfl hg) k rfl (by omega) ((t_w.2.1).1.adr (i := k) (by omega))) I
   ·intro a w23 G I S hE
    have TT := Tr.of_ch C.ms G (fun _ h => by simp at h)
    replace t_w := Enc.tr (topoE) t_w TT
    replace C := C.trans TT
    obtain ⟨e18, e32, _⟩ := hE
    replace S := S.ext e18
    replace S := S.ext e32
    refine (Classical.em (usableV t f ((k : Nat) : Int))).symm.elim (fun hg => ?_) fun hg => ?_
    ·exact qn S 18 rfl (fun h => hg (gt.2 h)) I
    exact qy S 18 rfl (gt.1 hg) (pT (blk t.links.a) (off t.links.a + k * 3 + 1)) (x_fld (z := 0) (off t.links.a + k * 3) 1 Try.underlying54 rfl rfl (by kernel_rfl) (S.p rfl hg)) I
   ·intro a w24 G I S hE
    have TT := Tr.of_ch C.ms G (fun _ h => by simp at h)
    replace t_w := Enc.tr (topoE) t_w TT
    replace C := C.trans TT
    obtain ⟨e18, e33, _⟩ := hE
    replace S := S.ext e18
    replace S := S.ext e33
    refine (Classical.em (usableV t f ((k : Nat) : Int))).symm.elim (fun hg => ?_) fun hg => ?_
    ·exact qn S 18 rfl (fun h => hg (gt.2 h)) I
    exact qy S 18 rfl (gt.1 hg) (iI ((t.links.xs.getD k lnkE.dflt).b)) (x_load ⟨_, Try.underlying3, rfl⟩ (S.p rfl hg) ((t_w.2.1).1.cell k (by omega) 1 _ rfl)) I
   ·intro a w25 G I S hE
    have TT := Tr.of_ch C.ms G (fun _ h => by simp at h)
    replace t_w := Enc.tr (topoE) t_w TT
    replace C := C.trans TT
    obtain ⟨e18, e19, e22, e28, e34, _⟩ := hE
    replace S := S.ext e18
    replace S := S.ext e19
    replace S := S.ext e28
    replace S := S.ext e34
    refine (Classical.em (usableV t f ((k : Nat) : Int))).symm.elim (fun hg => ?_) fun hg => ?_
    ·exact qn S 18 rfl (fun h => hg (gt.2 h)) I
    replace e22 := e22 hg
    obtain ⟨x22_5, e22, X5, hr5⟩ := e22
    replace S := S.ext e22
    refine head_yes rfl rfl rfl rfl (by rw [S.size]; decide) (gv := bD (usableV t f ((k : Nat) : Int))) (S.get 18 _ rfl) (gt.1 hg) (op_call (vs := #[tV t, fV x22_5, iI ((t.links.xs.getD k lnkE.dflt).a), iI ((t.links.xs.getD k lnkE.dflt).b)]) (by simp only [List.map_toArray, List.map_cons, List.map_nil, show a.eval (.tmp 19) = tV t from (S.p rfl hg), show a.eval (.tmp 22) = fV x22_5 from (S.e rfl), show a.eval (.tmp 28) = iI ((t.links.xs.getD k lnkE.dflt).a) from (S.p rfl hg), show a.eval (.tmp 34) = iI ((t.links.xs.getD k lnkE.dflt).b) from (S.p rfl hg)]) callable_39 (rConn _ (Ex F _) (C.old hF)  (MS.nil _) t ((topoE).down0 t_w) x22_5 ((failE).down0 X5) ((t.links.xs.getD k lnkE.dflt).a) ((t_w.2.1).1.wf k (by omega)).1 ((t.links.xs.getD k lnkE.dflt).b) ((t_w.2.1).1.wf k (by omega)).2.1) ?_)
    rintro e w2 ⟨rfl, T0⟩; exact ⟨_, rfl, Done.mk' rfl (by decide) (show _ = _ from ((vb (bridge_dual hg (by omega) (by assumption))).trans (if_pos hg).symm)) T0.ch trivial⟩
   ·intro a w26 G I S hE
    have TT := Tr.of_ch C.ms G (fun _ h => by simp at h)
    replace C := C.trans TT
    obtain ⟨e18, e35, _⟩ := hE
    replace S := S.ext e18
    replace S := S.ext e35
    refine (Classical.em (usableV t f ((k : Nat) : Int))).symm.elim (fun hg => ?_) fun hg => ?_
    ·exact qn S 18 rfl (fun h => hg (gt.2 h)) I
    exact qy S 18 rfl (gt.1 hg) (bD (¬ (¬ bridge t f k))) (x_notp (S.p rfl hg)) I
   intro a w27 G I S hE
   have TT := Tr.of_ch C.ms G (fun _ h => by simp at h)
   replace C := C.trans TT
   obtain ⟨e18, e36, _⟩ := hE
   replace S := S.ext e18
   replace S := S.ext e36
   exact qo (bD ((usableV t f ((k : Nat) : Int)) ∧ (¬ (¬ bridge t f k)))) (x_and (S.e rfl) (S.p rfl) (S.e rfl)) I
  clear S a; intro a w28 G I S hE; have TT := Tr.of_ch C.ms G (fun _ h => by simp at h)
  replace t_w := Enc.tr (topoE) t_w TT
  replace f_w := Enc.tr (failE) f_w TT
  replace K1 := Blk.tr0 K1 G
  replace K2 := Blk.tr0 K2 G
  replace W3 := Row.tr0 W3 TT G
  replace GL0 := GL0.trans TT
  replace C := C.trans TT
  clear TT G
  obtain ⟨e37, -⟩ := hE
  replace S := S.ext e37
  clear e37
  refine qt ?_
  refine cond_dec S rfl ?_ ?_
  ·intro hc1
   have HV := hc1.1.1.1.1
   have hB : topB t := HV.1.1.1
   unfold topB at hB
   refine wp_region_lit ?_
   refine qm S rfl ?_; clear S a; intro a S
   refine qm S rfl ?_; clear S a; intro a S
   refine seq_new S rfl rfl (by decide) (fun b => .slice (some ⟨b, 0, none⟩) 1 1) (cs := [iN k]) (x_bsl [(0, iN k)] [iN k] Try.underlying22 infoz_3 (by decide) (by decide) (by simp only [List.map_cons, List.map_nil, show a.eval (.tmp 39) = iN k from (S.e rfl)]) (by kernel_rfl)) ?_
   clear S a; intro a w29 b6 hb6 hbs6 G K6 S; have hbl6 : b6 < w29.heap.size := by omega
   have we6_0 : intE.wf (Fr F [abk out_a, one b2, one b1]) w28.heap ((k : Nat) : Int) := (show inI64 ((k : Nat) : Int) from ⟨by omega, by omega⟩)
   have hfr6 := fr_fresh C hF hb6; have TT := Tr.of_ch0 C.ms G
   replace t_w := Enc.tr (topoE) t_w TT
   replace f_w := Enc.tr (failE) f_w TT
   replace K1 := Blk.tr0 K1 G
   replace K2 := Blk.tr0 K2 G
   replace W3 := Row.tr0 W3 TT G
   replace GL0 := GL0.trans TT
   replace C := C.trans TT
   have KS6 : (slE intE).wf (Fr F [abk out_a, one b2, one b1]) w29.heap ⟨some ⟨b6, 0, none⟩, 1, [((k : Nat) : Int)]⟩ := sl_of_blk K6 [((k : Nat) : Int)] 1 rfl (by decide) (by decide) rfl hfr6 (by intro x hx; simp only [List.mem_cons, List.not_mem_nil, or_false] at hx; subst hx; exact Enc.tr (intE) we6_0 TT)
   clear K6 hfr6 TT G we6_0
   refine seq_op rfl (op_append (E := intE) [] [one b2, one b1] (.tmp 38) (.tmp 40) 22 rfl zero_3 8 Try.underlying22 infoz_3 rfl (by decide) rfl C.ms (S.e rfl) W3 ([((k : Nat) : Int)]) (some ⟨b6, 0, none⟩) 1 (S.e rfl) (show LAt intE _ _ (some ⟨b6, 0, none⟩) ([((k : Nat) : Int)]) from (KS6).1) (KS6).2.2 (LAt.mem (show LAt intE _ _ (some ⟨b6, 0, none⟩) ([((k : Nat) : Int)]) from (KS6).1)) (by unfold maxLen; (try simp only [List.length_cons, List.length_nil, List.length_append, List.length_map]); omega) (by (try simp only [List.length_cons, List.length_nil, List.length_append, List.length_map]); omega) (C.size) ?_)
   intro ad7 cap7 w30 Rn TT G
   have S1 := S.put (d := 41) (v := .slice ad7 (out ++ [((k : Nat) : Int)]).length cap7) (by decide); clear S; revert S1; generalize Act.put a _ _ = a1; intro S; clear a; rename Act => a
   replace TT : Tr [abk out_a, one b2, one b1] w29 [abk ad7, one b2, one b1] w30 := TT; replace Rn : Row intE 3 w.heap.size F [abk ad7, one b2, one b1] w30 ad7 cap7 (out ++ [((k : Nat) : Int)]) := Rn
   replace t_w := Enc.tr (topoE) t_w TT
   replace f_w := Enc.tr (failE) f_w TT
   replace K1 := Blk.tr K1 G (C.ms.sep.out 2 [0] rfl rfl rfl)
   replace K2 := Blk.tr K2 G (C.ms.sep.out 1 [0] rfl rfl rfl)
   replace KS6 := Enc.tr (slE intE) KS6 TT
   replace GL0 := GL0.trans TT
   replace C := C.trans TT
   clear W3; have W3 := Rn; clear Rn TT G
   refine qa S rfl ?_; clear S a; intro a S
   refine wpList_nil ?_
   refine blk_n ?_
   refine then_n ?_
   refine wp_region_lit ?_
   refine qm S rfl ?_; clear S a; intro a S
   refine qv S (iN (k + 1)) (x_add (S.e rfl) (S.e rfl) (r := ((k + 1 : Nat) : Int)) (w_i64 (by omega))) ?_; clear S a; intro a S
   refine qa S rfl ?_; clear S a; intro a S
   refine qt ?_
   refine ⟨t.links.xs.length - (k + 1), ?_, (k + 1), ad7, cap7, (out ++ [((k : Nat) : Int)]), S.sub ⟨rfl, rfl, rfl, rfl, (by first | rfl | (simp only [List.length_set]; rfl)), trivial⟩, GL0, ?_, K1, K2, W3, rfl⟩
   ·omega
   refine ⟨by omega, ?_⟩
   by_cases hV : failV t f
   ·first
    | (rw [bridges_yes hV (Classical.not_not.1 hc1.2), ← ho])
    | (rw [bridges_not hV (fun e => hc1 ⟨(usable_iff hV (by omega)).2 e.1, fun h => h e⟩)]; exact ho)
   first
   | exact absurd hc1.1.1.1.1 hV
   | (rw [bridges_no hV] at ho ⊢; exact ho)
  intro hc2
  refine wp_skip ?_
  refine blk_n ?_
  refine then_n ?_
  refine wp_region_lit ?_
  refine qm S rfl ?_; clear S a; intro a S
  refine qv S (iN (k + 1)) (x_add (S.e rfl) (S.e rfl) (r := ((k + 1 : Nat) : Int)) (w_i64 (by omega))) ?_; clear S a; intro a S
  refine qa S rfl ?_; clear S a; intro a S
  refine qt ?_
  refine ⟨t.links.xs.length - (k + 1), ?_, (k + 1), out_a, out_c, out, S.sub ⟨rfl, rfl, rfl, rfl, (by first | rfl | (simp only [List.length_set]; rfl)), trivial⟩, GL0, ?_, K1, K2, W3, rfl⟩
  ·omega
  refine ⟨by omega, ?_⟩
  by_cases hV : failV t f
  ·first
   | (rw [bridges_yes hV (Classical.not_not.1 hc2.2), ← ho])
   | (rw [bridges_not hV (fun e => hc2 ⟨(usable_iff hV (by omega)).2 e.1, fun h => h e⟩)]; exact ho)
  first
  | exact absurd hc2.1.1.1.1 hV
  | (rw [bridges_no hV] at ho ⊢; exact ho)
 intro hc3
 refine wp_exit ?_
 refine then_e ?_
 refine then_e ?_
 refine blk_e ?_
 refine then_n ?_
 refine qs ?_
 refine qm S rfl ?_; clear S a; intro a S
 refine qa S rfl ?_; clear S a; intro a S
 refine qt ?_
 refine wp_ret ?_
 have FW3 := Row.freeze (pre := []) (post := [one b2, one b1]) rfl C.ms W3 (by first | decide | exact Nat.one_pos) (W3.notF hF (Nat.le_refl _))
 have TF := Tr.leave (pre := []) (o := abk out_a) (post := [one b2, one b1]) C.ms
 have GF : Ch (In []) w3 w3 := Ch.refl _
 replace t_w := Enc.tr (topoE) t_w TF
 replace f_w := Enc.tr (failE) f_w TF
 replace K1 := Blk.tr0 K1 GF
 replace K2 := Blk.tr0 K2 GF
 replace GL0 := GL0.trans TF
 replace C := C.trans TF
 replace FW3 : (slE intE).wf (Fr F [one b2, one b1]) w3.heap ⟨out_a, out_c, out⟩ := FW3; clear W3
 refine ret1 rfl S rfl ?_
 have TD : Tr [one b2, one b1] w3 [] w3 := Tr.drop C.ms [] (by decide)
 have GD : Ch (In []) w3 w3 := Ch.refl _
 clear K1
 clear K2
 replace t_w := Enc.tr (topoE) t_w TD
 replace f_w := Enc.tr (failE) f_w TD
 replace FW3 := Enc.tr (slE intE) FW3 TD
 replace GL0 := GL0.trans TD
 replace C := C.trans TD
 clear TD GD
 have hx8 : bridgesOf t f = out := by
  unfold bridgesOf; rw [ho, show k = t.links.xs.length from by omega]
 rw [hx8]
 refine ⟨out_a, out_c, rfl, FW3, C⟩
end Go.Proofs.Ytfanmniaolncbaa.V
