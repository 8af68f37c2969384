/- paths: relaxing -/
import Derived.Test.YtfanmniaolncbaaU5
import Derived.Test.YtfanmniaolncbaaU3
import Derived.Test.YtfanmniaolncbaaPathM
import Derived.Test.YtfanmniaolncbaaW12
import Derived.Test.YtfanmniaolncbaaW13
namespace Go.Proofs.Ytfanmniaolncbaa.V
open Go.RowKit Go.Proofs.Ytfanmniaolncbaa
set_option linter.unusedVariables false
set_option linter.unusedSimpArgs false
theorem relax_len {o : List Int} {a b : Nat} {c : Int} : (relaxL o a b c).length = o.length := by unfold relaxL; split <;> simp
set_option maxHeartbeats 2000000 in
set_option maxRecDepth 20000 in
theorem r14relax (w : World) (F : Nat → Prop) (hF : Old F w) (o_a : Option Addr) (M : MS [abk o_a] w) (o_c o_s o_l : Nat) (o : List Int) (o_sh : o_s ≤ w.heap.size) (o_lh : o.length = o_l) (o_R : Row intE 3 o_s F [abk o_a] w o_a o_c o) (da : Int) (da_h : inI64 da) (db : Int) (db_h : inI64 db) (c : Int) (c_h : inI64 c) (hx : (0 ≤ da ∧ da < o.length) ∧ (0 ≤ db ∧ db < o.length) ∧ (0 ≤ c ∧ c ≤ 1000)) (hv : ∀ d, o.getD d 0 ≤ 1000000) :
 Calls Try.prog 97 #[.slice o_a o_l o_c, iI da, iI db, iI c] w fun e w' => e = .returned (.tuple #[]) ∧ Row intE 3 o_s F [abk o_a] w' o_a o_c (relaxL o (da).toNat (db).toNat c) ∧ Tr [abk o_a] w [abk o_a] w' := by
 subst o_lh
 obtain ⟨da_hl, da_hu⟩ : inI64 da := id da_h
 obtain ⟨db_hl, db_hu⟩ : inI64 db := id db_h
 obtain ⟨c_hl, c_hu⟩ : inI64 c := id c_h
 have hvb : o.getD db.toNat intE.dflt ≤ 1000000 := hv db.toNat
 have hva : o.getD da.toNat intE.dflt ≤ 1000000 := hv da.toNat
 refine go Try.func97 rfl 42 rfl [] [rwO intE 3 o_s o_a o_c o] hF M trivial ⟨⟨o_R.own, o_R.wf⟩, trivial⟩ ?_
 intro a S
 refine wp_seq ?_
 obtain ⟨hl1, hu1⟩ : inI64 (o.getD ((db).toNat) intE.dflt) := id ((S.row 0 rfl).wfi (db).toNat (by omega))
 refine dr (P := Try.prog) S 25 [] [(8, .is _), (9, .is _), (10, .is _), (11, .is _), (12, .is _), (13, .is _), (14, .is _), (15, .is _), (16, .is _), (17, .is _), (18, .is _), (19, .is _), (20, .is _), (21, .is _), (22, .is _), (23, .is _), (24, .is _), (25, .is _), (26, .is _), (27, .is _), (28, .is _), (29, .is _), (30, .is _), (31, .is _), (32, .is _)] [[], [], [8, 9], [10], [11], [12], [13], [13], [13, 14, 15], [13, 16], [13, 17], [13, 18], [19], [19], [19, 20, 21], [19, 22], [19], [19, 23, 24], [19], [19], [19, 26, 27], [19, 28], [19, 25, 29], [13, 19, 30], [13, 31]] [32] _ ⟨qd (mv rfl), qd (mv rfl), qd (ov fun S=>x_idx uT22 sZ3 (S.e rfl) (S.e rfl) (db).toNat (by omega) (by omega) (row_off (S.row 0 rfl) (m := (db).toNat) (by omega))), qd (ov fun S=>x_load sC3 (S.e rfl) (((S.row 0 rfl).latz (by first | decide | exact Nat.one_pos)).cell (db).toNat (by omega) 0 _ rfl)), qd (geqi rfl rfl), qd (mv rfl), qd (og 13 rfl gt fun S hg=>x_move (S.e rfl)), qd (og 13 rfl gt fun S hg=>x_move (S.e rfl)), qd (og 13 rfl gt fun S hg=>x_idx uT22 sZ3 (S.p rfl hg) (S.p rfl hg) (da).toNat (by omega) (by omega) (row_off (S.row 0 rfl) (m := (da).toNat) (by omega))), qd (og 13 rfl gt fun S hg=>x_load sC3 (S.p rfl hg) (((S.row 0 rfl).latz (by first | decide | exact Nat.one_pos)).cell (da).toNat (by omega) 0 _ rfl)), qd (og 13 rfl gt fun S hg=>x_lss (S.p rfl hg) (S.e rfl)), qd (og 13 rfl gt fun S hg=>x_move (S.p rfl hg)), qd (og 19 rfl ggf fun S hg=>x_move (S.e rfl)), qd (og 19 rfl ggf fun S hg=>x_move (S.e rfl)), qd (og 19 rfl ggf fun S hg=>x_idx uT22 sZ3 (S.p rfl hg) (S.p rfl hg) (db).toNat (by omega) (by omega) (row_off (S.row 0 rfl) (m := (db).toNat) (by omega))), qd (og 19 rfl ggf fun S hg=>x_load sC3 (S.p rfl hg) (((S.row 0 rfl).latz (by first | decide | exact Nat.one_pos)).cell (db).toNat (by omega) 0 _ rfl)), qd (og 19 rfl ggf fun S hg=>x_move (S.e rfl)), qd (og 19 rfl ggf fun S hg=>x_add (S.p rfl hg) (S.p rfl hg) (r := ((o.getD ((db).toNat) intE.dflt) + c)) (w_i64 (by omega))), qd (og 19 rfl ggf fun S hg=>x_move (S.e rfl)), qd (og 19 rfl ggf fun S hg=>x_move (S.e rfl)), qd (og 19 rfl ggf fun S hg=>x_idx uT22 sZ3 (S.p rfl hg) (S.p rfl hg) (da).toNat (by omega) (by omega) (row_off (S.row 0 rfl) (m := (da).toNat) (by omega))), qd (og 19 rfl ggf fun S hg=>x_load sC3 (S.p rfl hg) (((S.row 0 rfl).latz (by first | decide | exact Nat.one_pos)).cell (da).toNat (by omega) 0 _ rfl)), qd (og 19 rfl ggf fun S hg=>x_lss (S.p rfl hg) (S.p rfl hg)), qd (og 13 rfl gt fun S hg=>x_or (S.p rfl hg) (S.e rfl) (fun hl => (S.p rfl (And.intro hg hl)))), qd (andi rfl rfl rfl), trivial⟩ ?_
 clear S; intro a u S G hE
 obtain ⟨hl2, hu2⟩ : inI64 db := id db_h
 obtain ⟨hl3, hu3⟩ : inI64 (o.getD ((db).toNat) intE.dflt) := id ((S.row 0 rfl).wfi (db).toNat (by omega))
 refine ent ?_
 refine cd S rfl ?_ ?_
 ·intro hc0
  refine r0 ?_
  refine sp S (tr (mv rfl)<|tr (mv rfl)<|tr (mv rfl)<|tr (mv rfl)<|tr (ov fun S=>x_idx uT22 sZ3 (S.e rfl) (S.e rfl) (db).toNat (by omega) (by omega) (row_off (S.row 0 rfl) (m := (db).toNat) (by omega)))<|tr (ov fun S=>x_load sC3 (S.e rfl) (((S.row 0 rfl).latz (by first | decide | exact Nat.one_pos)).cell (db).toNat (by omega) 0 _ rfl))<|tr (mv rfl)<|tr (addi ((o.getD ((db).toNat) intE.dflt) + c) rfl rfl (w_i64 (by omega)))<|la (ov fun S=>x_idx uT22 sZ3 (S.e rfl) (S.e rfl) (da).toNat (by omega) (by omega) (row_off (S.row 0 rfl) (m := (da).toNat) (by omega)))) ?_; clear S; intro a u S
  refine sp S (la (str (E := intE) 0 (by kernel_rfl) rfl rfl rfl (da).toNat 0 (by omega) (by first | decide | exact Nat.one_pos) ((o.getD ((db).toNat) intE.dflt) + c) (fun S=>(show inI64 ((o.getD ((db).toNat) intE.dflt) + c) from ⟨by omega, by omega⟩)) rfl (by first | rfl | (show _ = _ * 1 + 0; omega) | (simp [intE]; omega) | simp [intE]) rfl)) ?_; clear S; intro a u S
  have hls5 : (o.set (da).toNat ((o.getD ((db).toNat) intE.dflt) + c)).length = o.length := by simp
  refine nn ?_
  refine end0 rfl S.s ?_
  have hx6 : relaxL o (da).toNat (db).toNat c = (o.set (da).toNat ((o.getD ((db).toNat) intE.dflt) + c)) := by
   clear S; have e0 : intE.dflt = 0 := rfl
   rw [e0] at hvb hva hc0
   unfold relaxL
   split <;> first | rfl | (exfalso; omega)
  rw [hx6]
  refine ⟨rfl, (S.row 0 rfl), S.m.c⟩
 intro hc1
 refine wp_skip ?_
 refine end0 rfl S.s ?_
 have hx7 : relaxL o (da).toNat (db).toNat c = o := by
  clear S; have e0 : intE.dflt = 0 := rfl
  rw [e0] at hvb hva hc1
  unfold relaxL
  split <;> first | rfl | (exfalso; omega)
 rw [hx7]
 refine ⟨rfl, (S.row 0 rfl), S.m.c⟩
set_option maxHeartbeats 2000000 in
set_option maxRecDepth 20000 in
theorem r14device (w : World) (F : Nat → Prop) (hF : Old F w) (M : MS [] w) (t : Topo) (t_w : topoE.wf (Fr F []) w.heap t) (f : Fail) (f_w : failE.wf (Fr F []) w.heap f) (d : Int) (d_h : inI64 d) :
 Calls Try.prog 96 #[.agg (topoE.cells t).toArray, .agg (failE.cells f).toArray, iI d] w fun e w' => e = .returned (bD (((failV t f ∧ 0 ≤ d) ∧ d < t.devs.xs.length))) ∧ Tr [] w [] w' := by
 have : t.devs.xs.length ≤ 9223372036854775807 := (t_w.1).1.len
 have : t.links.xs.length ≤ 9223372036854775807 := (t_w.2.1).1.len
 have : t.edges.xs.length ≤ 9223372036854775807 := (t_w.2.2.1).1.len
 have : t.pools.xs.length ≤ 9223372036854775807 := (t_w.2.2.2.1).1.len
 obtain ⟨_, _⟩ : inI64 t.tol := t_w.2.2.2.2
 have : f.links.xs.length ≤ 9223372036854775807 := (f_w.1).1.len
 have : f.devs.xs.length ≤ 9223372036854775807 := (f_w.2).1.len
 obtain ⟨d_hl, d_hu⟩ : inI64 d := id d_h
 refine go Try.func96 rfl 21 rfl [wfF topoE t, wfF failE f] [] hF M ⟨t_w, f_w, trivial⟩ trivial ?_
 intro a S
 refine rs0 ?_
 refine nbp S (x_box _ (S.e rfl) rfl) ?_; clear S; intro a u b3 S
 refine nbp S (x_box _ (S.e rfl) rfl) ?_; clear S; intro a u b4 S
 refine ens S (la (av rfl)) ?_; clear S; intro a u S
 refine rs S (tr (ldkw 0 rfl rfl wD28)<|tr (ldkw 1 rfl rfl wD41)<|tr (oc (fun S=>rValidF _ _ S.x (.nil _) t (dn0 (S.u 0 rfl)) f (dn0 (S.u 1 rfl))) cB59)<|tr (mv rfl)<|tr (og 10 rfl gt fun S hg=>x_move (S.e rfl))<|tr (og 10 rfl gt fun S hg=>x_geq (S.p rfl hg) (S.e rfl))<|tr (andi rfl rfl rfl)<|tr (mv rfl)<|tr (og 14 rfl gt fun S hg=>x_move (S.e rfl))<|tr (og 14 rfl gt fun S hg=>xf (0) 0 uT28 (S.e rfl))<|tr (og 14 rfl gt fun S hg=>x_load sC23 (S.p rfl hg) ((S.k 0 rfl).cell (j := 0) rfl))<|tr (og 14 rfl gt fun S hg=>x_len uT23 (S.p rfl hg))<|tr (og 14 rfl gt fun S hg=>x_lss (S.p rfl hg) (S.p rfl hg))<|tr (andi rfl rfl rfl)<|la (av rfl)) ?_; clear S; intro a u S
 refine wp_ret ?_
 refine ret1 rfl S.s rfl ?_
 replace S := S.pk []
 refine ⟨(r1 (vb ?_)), S.m.c⟩
 first | exact Iff.rfl | assumption | omega | simp_all
set_option maxHeartbeats 2000000 in
set_option maxRecDepth 20000 in
theorem r14Other (w : World) (F : Nat → Prop) (hF : Old F w) (M : MS [] w) (l : Lnk) (l_w : lnkE.wf (Fr F []) w.heap l) (d : Int) (d_h : inI64 d) :
 Calls Try.prog 44 #[.agg (lnkE.cells l).toArray, iI d] w fun e w' => e = .returned (iI (otherOf l d)) ∧ Tr [] w [] w' := by
 obtain ⟨_, _⟩ : inI64 l.a := l_w.1
 obtain ⟨_, _⟩ : inI64 l.b := l_w.2.1
 obtain ⟨_, _⟩ : inI64 l.cost := l_w.2.2
 obtain ⟨d_hl, d_hu⟩ : inI64 d := id d_h
 refine go Try.func44 rfl 18 rfl [wfF lnkE l] [] hF M ⟨l_w, trivial⟩ trivial ?_
 intro a S
 refine rs0 ?_
 refine nbp S (x_box _ (S.e rfl) rfl) ?_; clear S; intro a u b2 S
 refine ens S (la (av rfl)) ?_; clear S; intro a u S
 refine wp_seq ?_
 refine rs S (la (mv rfl)) ?_; clear S; intro a u S
 refine wp_block ?_
 refine rs S (tr (fldi 0 0 rfl uT54)<|tr (ldk 0 sC3 rfl rfl rfl)<|tr (eqli rfl rfl)<|la (av rfl)) ?_; clear S; intro a u S
 refine cd S rfl ?_ ?_
 ·intro hc0
  refine rs S (tr (fldi 0 1 rfl uT54)<|tr (ldk 0 sC3 rfl rfl rfl)<|la (av rfl)) ?_; clear S; intro a u S
  refine wp_ret (blk_r (then_r ?_))
  refine ret1 rfl S.s rfl ?_
  replace S := S.pk []
  refine ⟨(r1 (vi ?_)), S.m.c⟩
  unfold otherOf; split <;> (try split) <;> first | rfl | omega
 intro hc1
 refine rs S (tr (fldi 0 1 rfl uT54)<|tr (ldk 0 sC3 rfl rfl rfl)<|tr (eqli rfl rfl)<|la (av rfl)) ?_; clear S; intro a u S
 refine cd S rfl ?_ ?_
 ·intro hc2
  refine rs S (tr (fldi 0 0 rfl uT54)<|tr (ldk 0 sC3 rfl rfl rfl)<|la (av rfl)) ?_; clear S; intro a u S
  refine wp_ret (blk_r (then_r ?_))
  refine ret1 rfl S.s rfl ?_
  replace S := S.pk []
  refine ⟨(r1 (vi ?_)), S.m.c⟩
  unfold otherOf; split <;> (try split) <;> first | rfl | omega
 intro hc3
 refine wp_skip (blk_n (then_n ?_))
 refine rs S (la (av rfl)) ?_; clear S; intro a u S
 refine wp_ret ?_
 refine ret1 rfl S.s rfl ?_
 replace S := S.pk []
 refine ⟨(r1 (vi ?_)), S.m.c⟩
 unfold otherOf; split <;> (try split) <;> first | rfl | omega
set_option maxHeartbeats 2000000 in
set_option maxRecDepth 20000 in
theorem pOther (w : World) (F : Nat → Prop) (hF : Old F w) (M : MS [] w) (l : Lnk) (l_w : lnkE.wf (Fr F []) w.heap l) (d : Int) (d_h : inI64 d) :
 Calls Try.prog 72 #[.agg (lnkE.cells l).toArray, iI d] w fun e w' => e = .returned (.tuple #[iI (otherTo l d), bD ((l.a = d ∨ l.b = d))]) ∧ Tr [] w [] w' := by
 obtain ⟨_, _⟩ : inI64 l.a := l_w.1
 obtain ⟨_, _⟩ : inI64 l.b := l_w.2.1
 obtain ⟨_, _⟩ : inI64 l.cost := l_w.2.2
 obtain ⟨d_hl, d_hu⟩ : inI64 d := id d_h
 refine go Try.func72 rfl 19 rfl [wfF lnkE l] [] hF M ⟨l_w, trivial⟩ trivial ?_
 intro a S
 refine rs0 ?_
 refine nbp S (x_box _ (S.e rfl) rfl) ?_; clear S; intro a u b2 S
 refine ens S (tr (av rfl)<|la (av rfl)) ?_; clear S; intro a u S
 refine wp_seq ?_
 refine rs S (la (mv rfl)) ?_; clear S; intro a u S
 refine wp_block ?_
 refine rs S (tr (fldi 0 0 rfl uT54)<|tr (ldk 0 sC3 rfl rfl rfl)<|tr (eqli rfl rfl)<|la (av rfl)) ?_; clear S; intro a u S
 refine cd S rfl ?_ ?_
 ·intro hc0
  refine rs S (tr (fldi 0 1 rfl uT54)<|tr (ldk 0 sC3 rfl rfl rfl)<|tr (av rfl)<|la (av rfl)) ?_; clear S; intro a u S
  refine wp_ret (blk_r (then_r ?_))
  refine ret2 rfl S.s rfl rfl ?_
  replace S := S.pk []
  refine ⟨(r2 (vi ?_) (vt ?_)), S.m.c⟩
  ·unfold otherTo; split <;> (try split) <;> first | rfl | omega
  omega
 intro hc1
 refine rs S (tr (fldi 0 1 rfl uT54)<|tr (ldk 0 sC3 rfl rfl rfl)<|tr (eqli rfl rfl)<|la (av rfl)) ?_; clear S; intro a u S
 refine cd S rfl ?_ ?_
 ·intro hc2
  refine rs S (tr (fldi 0 0 rfl uT54)<|tr (ldk 0 sC3 rfl rfl rfl)<|tr (av rfl)<|la (av rfl)) ?_; clear S; intro a u S
  refine wp_ret (blk_r (then_r ?_))
  refine ret2 rfl S.s rfl rfl ?_
  replace S := S.pk []
  refine ⟨(r2 (vi ?_) (vt ?_)), S.m.c⟩
  ·unfold otherTo; split <;> (try split) <;> first | rfl | omega
  omega
 intro hc3
 refine wp_skip (blk_n (then_n ?_))
 refine rs S (tr (av rfl)<|la (av rfl)) ?_; clear S; intro a u S
 refine wp_ret ?_
 refine ret2 rfl S.s rfl rfl ?_
 replace S := S.pk []
 refine ⟨(r2 (vi ?_) (vf ?_)), S.m.c⟩
 ·unfold otherTo; split <;> (try split) <;> first | rfl | omega
 omega
end Go.Proofs.Ytfanmniaolncbaa.V
