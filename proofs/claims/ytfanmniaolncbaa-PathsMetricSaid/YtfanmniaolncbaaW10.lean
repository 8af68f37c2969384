/- connected; one more failure -/
import Derived.Test.YtfanmniaolncbaaW8
import Derived.Test.YtfanmniaolncbaaW9
import Derived.Test.YtfanmniaolncbaaGrpE
namespace Go.Proofs.Ytfanmniaolncbaa.V
open Go.RowKit Go.Proofs.Ytfanmniaolncbaa
set_option linter.unusedVariables false
set_option linter.unusedSimpArgs false
set_option maxHeartbeats 2000000 in
set_option maxRecDepth 20000 in
theorem rConn (w : World) (F : Nat → Prop) (hF : Old F w) (M : MS [] w) (t : Topo) (t_w : topoE.wf (Fr F []) w.heap t) (f : Fail) (f_w : failE.wf (Fr F []) w.heap f) (da : Int) (da_h : inI64 da) (db : Int) (db_h : inI64 db) :
 Calls Try.prog 39 #[.agg (topoE.cells t).toArray, .agg (failE.cells f).toArray, iI da, iI db] w fun e w' => e = .returned (bD (connV t f da db)) ∧ Tr [] w [] w' := by
 have : t.devs.xs.length ≤ 9223372036854775807 := (t_w.1).1.len
 have : t.links.xs.length ≤ 9223372036854775807 := (t_w.2.1).1.len
 have : t.edges.xs.length ≤ 9223372036854775807 := (t_w.2.2.1).1.len
 have : t.pools.xs.length ≤ 9223372036854775807 := (t_w.2.2.2.1).1.len
 obtain ⟨_, _⟩ : inI64 t.tol := t_w.2.2.2.2
 have : f.links.xs.length ≤ 9223372036854775807 := (f_w.1).1.len
 have : f.devs.xs.length ≤ 9223372036854775807 := (f_w.2).1.len
 obtain ⟨da_hl, da_hu⟩ : inI64 da := id da_h
 obtain ⟨db_hl, db_hu⟩ : inI64 db := id db_h
 refine go Try.func39 rfl 34 rfl [wfF topoE t, wfF failE f] [] hF M ⟨t_w, f_w, trivial⟩ trivial ?_
 intro a S
 refine rs0 ?_
 refine nbp S (x_box _ (S.e rfl) rfl) ?_; clear S; intro a u b4 S
 refine nbp S (x_box _ (S.e rfl) rfl) ?_; clear S; intro a u b5 S
 refine ens S (la (av rfl)) ?_; clear S; intro a u S
 refine rs0 ?_
 refine sp S (tr (ldkw 0 rfl rfl wD28)<|la (ldkw 1 rfl rfl wD41)) ?_; clear S; intro a u S
 refine cl S (rComps _ _ S.x (.nil _) t (dn0 (S.u 0 rfl)) f (dn0 (S.u 1 rfl))) cB61 ?_
 rintro e u ⟨ra_t12, rc_t12, rfl, R_t12, T0⟩; refine ⟨_, rfl, fun a s => ?_⟩
 replace S := (S.k0 s T0).ar (wfF (slE intE) (Sl.mk ra_t12 rc_t12 (compsV t f))) (Enc.up _ R_t12); clear s T0 R_t12
 have hn3 : (compsV t f).length ≤ 9223372036854775807 := ((S.u 2 rfl)).1.len
 refine ens S (la (av rfl)) ?_; clear S; intro a u S
 refine wp_seq ?_
 replace S := S.l [(2, iI da), (3, iI db), (4, pT b4 0), (5, pT b5 0), (9, .slice ra_t12 ((compsV t f).length) rc_t12)] (subM rfl)
 refine dr (P := Try.prog) S 22 [] [(13, .is _), (14, .is _), (15, .is _), (16, .is _), (17, .is _), (18, .is _), (19, .is _), (20, .is _), (21, .is _), (22, .is _), (23, .is _), (24, .is _), (25, .is _), (26, .is _), (27, .is _), (28, .is _), (29, .is _), (30, .is _), (31, .is _), (32, .is _), (33, .is _), (8, .is _)] [[], [], [], [13, 14, 15], [16], [17], [17], [17], [17, 18, 19, 20], [17, 21], [22], [23], [23], [23, 24, 25], [23, 26], [23], [23], [23, 28, 29], [23, 30], [23, 27, 31], [23, 32], [33]] [8] _ ⟨qd (ldkw 0 rfl rfl wD28), qd (ldkw 1 rfl rfl wD41), qd (mv rfl), qd (oc (fun S=>rAlive _ _ S.x (.nil _) t (dn0 (S.u 0 rfl)) f (dn0 (S.u 1 rfl)) da da_h) cB60), qd (mv rfl), qd (og 17 rfl gt fun S hg=>x_ldw (S.e rfl) (S.k 0 rfl).all wD28), qd (og 17 rfl gt fun S hg=>x_ldw (S.e rfl) (S.k 1 rfl).all wD41), qd (og 17 rfl gt fun S hg=>x_move (S.e rfl)), qd (ocg 17 rfl gt (fun S hg=>rAlive _ _ S.x (.nil _) t (dn0 (S.u 0 rfl)) f (dn0 (S.u 1 rfl)) db db_h) cB60 fun S=>⟨fun hg=>(S.p rfl hg), fun hg=>(S.p rfl hg), fun hg=>(S.p rfl hg), trivial⟩), qd (andi rfl rfl rfl), qd (mv rfl), qd (og 23 rfl gt fun S hg=>x_move (S.e rfl)), qd (og 23 rfl gt fun S hg=>x_move (S.e rfl)), qd (og 23 rfl gt fun S hg=>x_idx uT22 sZ3 (S.p rfl hg) (S.p rfl hg) (da).toNat (by have := (aliveV_nat hg.1).1; omega) (by exact compsV_lt hg.1) ((show LAt intE _ _ ra_t12 (compsV t f) from ((S.u 2 rfl)).1).adr (i := (da).toNat) (by exact compsV_lt hg.1))), qd (og 23 rfl gt fun S hg=>x_load sC3 (S.p rfl hg) ((show LAt intE _ _ ra_t12 (compsV t f) from ((S.u 2 rfl)).1).cell (da).toNat (by exact compsV_lt hg.1) 0 _ rfl)), qd (og 23 rfl gt fun S hg=>x_move (S.e rfl)), qd (og 23 rfl gt fun S hg=>x_move (S.e rfl)), qd (og 23 rfl gt fun S hg=>x_idx uT22 sZ3 (S.p rfl hg) (S.p rfl hg) (db).toNat (by have := (aliveV_nat hg.2).1; omega) (by exact compsV_lt hg.2) ((show LAt intE _ _ ra_t12 (compsV t f) from ((S.u 2 rfl)).1).adr (i := (db).toNat) (by exact compsV_lt hg.2))), qd (og 23 rfl gt fun S hg=>x_load sC3 (S.p rfl hg) ((show LAt intE _ _ ra_t12 (compsV t f) from ((S.u 2 rfl)).1).cell (db).toNat (by exact compsV_lt hg.2) 0 _ rfl)), qd (og 23 rfl gt fun S hg=>x_eql (S.p rfl hg) (S.p rfl hg)), qd (andi rfl rfl rfl), qd (av rfl), trivial⟩ ?_
 clear S; intro a u S G hE
 obtain ⟨hl4, hu4⟩ : inI64 da := id da_h
 refine ent (wp_ret ?_)
 refine ret1 rfl S.s rfl ?_
 replace S := S.pk []
 refine ⟨(r1 (vb ?_)), S.m.c⟩
 exact compsV_conn.symm
set_option maxHeartbeats 2000000 in
set_option maxRecDepth 20000 in
theorem rWithout (w : World) (F : Nat → Prop) (hF : Old F w) (M : MS [] w) (f : Fail) (f_w : failE.wf (Fr F []) w.heap f) (v : Int) (v_h : inI64 v) (hl : f.links.xs.length ≤ 1024) :
 Calls Try.prog 26 #[.agg (failE.cells f).toArray, iI v] w fun e w' => ∃ (r : Fail), e = .returned (.agg (failE.cells r).toArray) ∧ failE.wf (Fr F []) w'.heap r ∧ OneMore r f v ∧ Tr [] w [] w' := by
 have : f.links.xs.length ≤ 9223372036854775807 := (f_w.1).1.len
 have : f.devs.xs.length ≤ 9223372036854775807 := (f_w.2).1.len
 obtain ⟨v_hl, v_hu⟩ : inI64 v := id v_h
 refine go Try.func26 rfl 55 rfl [wfF failE f] [] hF M ⟨f_w, trivial⟩ trivial ?_
 intro a S
 refine rs0 ?_
 refine nbp S (x_box _ (S.e rfl) rfl) ?_; clear S; intro a u b2 S
 refine nbp S (x_allocz _ iZ41 rfl) ?_; clear S; intro a u b4 S
 refine ent ?_
 refine rs S (la (av rfl)) ?_; clear S; intro a u S
 refine rs S (la (av rfl)) ?_; clear S; intro a u S
 refine wp_seq ?_
 refine rs S (la (av rfl)) ?_; clear S; intro a u S
 refine wp_block ?_
 replace S := S.nr intE 3
 refine lp5 (fun (k : Nat) (dn : Bool) (out_a : Option Addr) (out_c : Nat) (out : List Int) => [(1, iI v), (2, pT b2 0), (4, pT b4 0), (7, iN k), (6, bD (dn = true)), (5, .slice out_a out.length out_c)]) (fun (k : Nat) (dn : Bool) (out_a : Option Addr) (out_c : Nat) (out : List Int) => [blO b2 (failE.cells f) 41, blO b4 [.slice none 0 0, .slice none 0 0] 41, rwO intE 3 w.heap.size out_a out_c out]) (fun (k : Nat) (dn : Bool) (out_a : Option Addr) (out_c : Nat) (out : List Int) => k ≤ f.links.xs.length ∧ (out, dn) = woFold (f.links.xs.take k) v ∧ out.length ≤ 2 * k) (fun (k : Nat) (dn : Bool) (out_a : Option Addr) (out_c : Nat) (out : List Int) => f.links.xs.length - k) S 0 false none 0 ([]) (subM rfl) rfl ?_ ?_
 ·exact ⟨Nat.zero_le _, rfl, Nat.zero_le _⟩
 clear S; intro k dn out_a out_c out a u S hR
 have out_len := (S.row 2 rfl).len_le; simp only [maxLen] at out_len
 obtain ⟨hk, ho, hol⟩ := hR
 refine wp_seq ?_
 have hn6 : f.links.xs.length ≤ 9223372036854775807 := ((S.u 0 rfl).1).1.len
 refine rs S (tr (mv rfl)<|tr (fldi 0 0 rfl uT41)<|tr (ldk 0 sC22 rfl rfl rfl)<|tr (leni uT22 rfl)<|la (lssi rfl rfl)) ?_; clear S; intro a u S
 refine cd S rfl ?_ ?_
 ·intro hc0
  refine wp_skip (then_n (wp_seq (wp_block (wp_seq ?_))))
  refine rs S (tr (mv rfl)<|tr (noti rfl)<|tr (mv rfl)<|tr (og 17 rfl gt fun S hg=>xf (0) 0 uT41 (S.e rfl))<|tr (og 17 rfl gt fun S hg=>x_load sC22 (S.p rfl hg) ((S.k 0 rfl).cell (j := 0) rfl))<|tr (og 17 rfl gt fun S hg=>x_move (S.e rfl))<|tr (og 17 rfl gt fun S hg=>x_idx uT22 sZ3 (S.p rfl hg) (S.p rfl hg) k rfl (by omega) (((S.u 0 rfl).1).1.adr (i := k) (by omega)))<|tr (og 17 rfl gt fun S hg=>x_load sC3 (S.p rfl hg) (((S.u 0 rfl).1).1.cell k (by omega) 0 _ rfl))<|tr (og 17 rfl gt fun S hg=>x_move (S.e rfl))<|tr (og 17 rfl gt fun S hg=>x_geq (S.p rfl hg) (S.p rfl hg))<|la (andi rfl rfl rfl)) ?_; clear S; intro a u S
  refine cd S rfl ?_ ?_
  ·intro hc1
   refine r0 ?_
   refine sp S (tr (mv rfl)<|la (mv rfl)) ?_; clear S; intro a u S
   refine nbs intE S [v] (x_bs S [(0, iI v)] uT22 iZ3) (fun x hx => by simp only [List.mem_cons, List.not_mem_nil, or_false] at hx; rw [hx]; exact (show intE.wf _ _ v from v_h)) ?_; clear S; intro a u b28 S
   refine ap (E := intE) (ys := [v]) S 2 rfl uT22 iZ3 rfl rfl (show LAt intE _ _ (some ⟨b28, 0, none⟩) ([v]) from ((S.u 1 rfl)).1) ((S.u 1 rfl)).2.2 (LAt.mem (show LAt intE _ _ (some ⟨b28, 0, none⟩) ([v]) from ((S.u 1 rfl)).1)) ⟨by unfold maxLen; (try simp only [List.length_cons, List.length_nil, List.length_append, List.length_map]); omega, by (try simp only [List.length_cons, List.length_nil, List.length_append, List.length_map]); omega⟩ ?_; clear S; intro a u ad29 cap29 S
   refine ens S (tr (av rfl)<|la (av rfl)) ?_; clear S; intro a u S
   obtain ⟨hl10, hu10⟩ : inI64 (f.links.xs.getD k intE.dflt) := id (((S.u 0 rfl).1).1.wf k (by omega))
   refine rs S (tr (fldi 0 0 rfl uT41)<|tr (ldk 0 sC22 rfl rfl rfl)<|tr (mv rfl)<|tr (idxi uT22 sZ3 rfl rfl k rfl (by omega) (((S.u 0 rfl).1).1.adr (i := k) (by omega)))<|tr (ov fun S=>x_load sC3 (S.e rfl) (((S.u 0 rfl).1).1.cell k (by omega) 0 _ rfl))<|tr (mv rfl)<|la (neqi rfl rfl)) ?_; clear S; intro a u S
   refine cd S rfl ?_ ?_
   ·intro hc2
    refine r0 ?_
    refine sp S (tr (mv rfl)<|tr (fldi 0 0 rfl uT41)<|tr (ldk 0 sC22 rfl rfl rfl)<|tr (mv rfl)<|tr (idxi uT22 sZ3 rfl rfl k rfl (by omega) (((S.u 0 rfl).1).1.adr (i := k) (by omega)))<|la (ov fun S=>x_load sC3 (S.e rfl) (((S.u 0 rfl).1).1.cell k (by omega) 0 _ rfl))) ?_; clear S; intro a u S
    refine nbs intE S [(f.links.xs.getD k intE.dflt)] (x_bs S [(0, iI (f.links.xs.getD k intE.dflt))] uT22 iZ3) (fun x hx => by simp only [List.mem_cons, List.not_mem_nil, or_false] at hx; rw [hx]; exact (show intE.wf _ _ (f.links.xs.getD k intE.dflt) from (((S.u 0 rfl).1).1.wf k (by omega)))) ?_; clear S; intro a u b43 S
    refine ap (E := intE) (ys := [(f.links.xs.getD k intE.dflt)]) S 2 rfl uT22 iZ3 rfl rfl (show LAt intE _ _ (some ⟨b43, 0, none⟩) ([(f.links.xs.getD k intE.dflt)]) from ((S.u 2 rfl)).1) ((S.u 2 rfl)).2.2 (LAt.mem (show LAt intE _ _ (some ⟨b43, 0, none⟩) ([(f.links.xs.getD k intE.dflt)]) from ((S.u 2 rfl)).1)) ⟨by unfold maxLen; (try simp only [List.length_cons, List.length_nil, List.length_append, List.length_map]); omega, by (try simp only [List.length_cons, List.length_nil, List.length_append, List.length_map]); omega⟩ ?_; clear S; intro a u ad44 cap44 S
    refine en S (la (av rfl)) ?_; clear S; intro a u S
    refine blk_n (then_n ?_)
    refine rg S (tr (mv rfl)<|tr (addi ((k + 1 : Nat) : Int) rfl rfl (w_i64 (by omega)))<|la (av rfl)) ?_; clear S; intro a u S
    refine then_n ?_
    refine ⟨(k + 1), true, ad44, cap44, ((out ++ [v]) ++ [(f.links.xs.getD k intE.dflt)]), S.re (subM rfl) rfl rfl, ?_, ?_⟩
    ·refine ⟨by omega, ?_, by first | omega | (simp only [List.length_append, List.length_cons, List.length_nil]; omega)⟩
     rw [woFold_snoc (by omega), ← ho]
     unfold woStep
     have e0 : intE.dflt = 0 := rfl
     rw [e0] at hc2 hc1
     first | rw [if_pos hc1] | rw [if_neg hc1]
     first | rw [if_pos hc2] | rw [if_neg hc2]
     try rfl
    omega
   intro hc3
   refine wp_skip (blk_n (then_n ?_))
   refine rg S (tr (mv rfl)<|tr (addi ((k + 1 : Nat) : Int) rfl rfl (w_i64 (by omega)))<|la (av rfl)) ?_; clear S; intro a u S
   refine then_n ?_
   refine ⟨(k + 1), true, ad29, cap29, (out ++ [v]), S.re (subM rfl) rfl rfl, ?_, ?_⟩
   ·refine ⟨by omega, ?_, by first | omega | (simp only [List.length_append, List.length_cons, List.length_nil]; omega)⟩
    rw [woFold_snoc (by omega), ← ho]
    unfold woStep
    have e0 : intE.dflt = 0 := rfl
    rw [e0] at hc3 hc1
    first | rw [if_pos hc1] | rw [if_neg hc1]
    first | rw [if_pos hc3] | rw [if_neg hc3]
    try rfl
   omega
  intro hc4
  refine wp_skip (then_n ?_)
  obtain ⟨hl15, hu15⟩ : inI64 (f.links.xs.getD k intE.dflt) := id (((S.u 0 rfl).1).1.wf k (by omega))
  refine rs S (tr (fldi 0 0 rfl uT41)<|tr (ldk 0 sC22 rfl rfl rfl)<|tr (mv rfl)<|tr (idxi uT22 sZ3 rfl rfl k rfl (by omega) (((S.u 0 rfl).1).1.adr (i := k) (by omega)))<|tr (ov fun S=>x_load sC3 (S.e rfl) (((S.u 0 rfl).1).1.cell k (by omega) 0 _ rfl))<|tr (mv rfl)<|la (neqi rfl rfl)) ?_; clear S; intro a u S
  refine cd S rfl ?_ ?_
  ·intro hc5
   refine r0 ?_
   refine sp S (tr (mv rfl)<|tr (fldi 0 0 rfl uT41)<|tr (ldk 0 sC22 rfl rfl rfl)<|tr (mv rfl)<|tr (idxi uT22 sZ3 rfl rfl k rfl (by omega) (((S.u 0 rfl).1).1.adr (i := k) (by omega)))<|la (ov fun S=>x_load sC3 (S.e rfl) (((S.u 0 rfl).1).1.cell k (by omega) 0 _ rfl))) ?_; clear S; intro a u S
   refine nbs intE S [(f.links.xs.getD k intE.dflt)] (x_bs S [(0, iI (f.links.xs.getD k intE.dflt))] uT22 iZ3) (fun x hx => by simp only [List.mem_cons, List.not_mem_nil, or_false] at hx; rw [hx]; exact (show intE.wf _ _ (f.links.xs.getD k intE.dflt) from (((S.u 0 rfl).1).1.wf k (by omega)))) ?_; clear S; intro a u b43 S
   refine ap (E := intE) (ys := [(f.links.xs.getD k intE.dflt)]) S 2 rfl uT22 iZ3 rfl rfl (show LAt intE _ _ (some ⟨b43, 0, none⟩) ([(f.links.xs.getD k intE.dflt)]) from ((S.u 1 rfl)).1) ((S.u 1 rfl)).2.2 (LAt.mem (show LAt intE _ _ (some ⟨b43, 0, none⟩) ([(f.links.xs.getD k intE.dflt)]) from ((S.u 1 rfl)).1)) ⟨by unfold maxLen; (try simp only [List.length_cons, List.length_nil, List.length_append, List.length_map]); omega, by (try simp only [List.length_cons, List.length_nil, List.length_append, List.length_map]); omega⟩ ?_; clear S; intro a u ad44 cap44 S
   refine en S (la (av rfl)) ?_; clear S; intro a u S
   refine blk_n (then_n ?_)
   refine rg S (tr (mv rfl)<|tr (addi ((k + 1 : Nat) : Int) rfl rfl (w_i64 (by omega)))<|la (av rfl)) ?_; clear S; intro a u S
   refine then_n ?_
   refine ⟨(k + 1), dn, ad44, cap44, (out ++ [(f.links.xs.getD k intE.dflt)]), S.re (subM rfl) rfl rfl, ?_, ?_⟩
   ·refine ⟨by omega, ?_, by first | omega | (simp only [List.length_append, List.length_cons, List.length_nil]; omega)⟩
    rw [woFold_snoc (by omega), ← ho]
    unfold woStep
    have e0 : intE.dflt = 0 := rfl
    rw [e0] at hc5 hc4
    first | rw [if_pos hc4] | rw [if_neg hc4]
    first | rw [if_pos hc5] | rw [if_neg hc5]
    try rfl
   omega
  intro hc6
  refine wp_skip (blk_n (then_n ?_))
  refine rg S (tr (mv rfl)<|tr (addi ((k + 1 : Nat) : Int) rfl rfl (w_i64 (by omega)))<|la (av rfl)) ?_; clear S; intro a u S
  refine then_n ?_
  refine ⟨(k + 1), dn, out_a, out_c, out, S.re (subM rfl) rfl rfl, ?_, ?_⟩
  ·refine ⟨by omega, ?_, by first | omega | (simp only [List.length_append, List.length_cons, List.length_nil]; omega)⟩
   rw [woFold_snoc (by omega), ← ho]
   unfold woStep
   have e0 : intE.dflt = 0 := rfl
   rw [e0] at hc6 hc4
   first | rw [if_pos hc4] | rw [if_neg hc4]
   first | rw [if_pos hc6] | rw [if_neg hc6]
   try rfl
  omega
 intro hc7
 refine wp_exit (then_e (then_e (blk_e (then_n (wp_seq ?_)))))
 refine rs S (tr (mv rfl)<|la (noti rfl)) ?_; clear S; intro a u S
 refine cd S rfl ?_ ?_
 ·intro hc8
  refine r0 ?_
  refine sp S (tr (mv rfl)<|la (mv rfl)) ?_; clear S; intro a u S
  refine nbs intE S [v] (x_bs S [(0, iI v)] uT22 iZ3) (fun x hx => by simp only [List.mem_cons, List.not_mem_nil, or_false] at hx; rw [hx]; exact (show intE.wf _ _ v from v_h)) ?_; clear S; intro a u b49 S
  refine ap (E := intE) (ys := [v]) S 2 rfl uT22 iZ3 rfl rfl (show LAt intE _ _ (some ⟨b49, 0, none⟩) ([v]) from ((S.u 1 rfl)).1) ((S.u 1 rfl)).2.2 (LAt.mem (show LAt intE _ _ (some ⟨b49, 0, none⟩) ([v]) from ((S.u 1 rfl)).1)) ⟨by unfold maxLen; (try simp only [List.length_cons, List.length_nil, List.length_append, List.length_map]); omega, by (try simp only [List.length_cons, List.length_nil, List.length_append, List.length_map]); omega⟩ ?_; clear S; intro a u ad50 cap50 S
  refine ens S (la (av rfl)) ?_; clear S; intro a u S
  refine rs S (tr (mv rfl)<|tr (fldi 0 1 rfl uT41)<|tr (ldk 0 sC22 rfl rfl rfl)<|tr (ov fun S=>x_bd S [(0, .slice ad50 ((out ++ [v]).length) cap50), (1, sV f.devs)] [.slice ad50 ((out ++ [v]).length) cap50, sV f.devs])<|la (stkw 1 rfl rfl rfl)) ?_; clear S; intro a u S
  refine wp_ret ?_
  replace S := S.fz 2 rfl
  refine retcw rfl S.s rfl [.slice ad50 ((out ++ [v]).length) cap50, sV f.devs] wD41 (fun j v hv => by rw [Nat.zero_add]; exact (S.k 1 rfl).cell hv) ?_
  replace S := S.pk []
  refine ⟨(⟨(Sl.mk ad50 cap50 (out ++ [v])), f.devs⟩ : Fail), rfl, ⟨(S.u 2 rfl), (S.u 0 rfl).2⟩, ?_, S.m.c⟩
  refine ⟨?_, rfl⟩
  have ho2 : (out, dn) = woFold f.links.xs v := by rw [ho, show k = f.links.xs.length from by omega, List.take_length]
  unfold withoutL; rw [← ho2]; exact (if_neg hc8).symm
 intro hc9
 refine wp_skip (then_n ?_)
 refine rs S (tr (mv rfl)<|tr (fldi 0 1 rfl uT41)<|tr (ldk 0 sC22 rfl rfl rfl)<|tr (ov fun S=>x_bd S [(0, .slice out_a out.length out_c), (1, sV f.devs)] [.slice out_a out.length out_c, sV f.devs])<|la (stkw 1 rfl rfl rfl)) ?_; clear S; intro a u S
 refine wp_ret ?_
 replace S := S.fz 2 rfl
 refine retcw rfl S.s rfl [.slice out_a out.length out_c, sV f.devs] wD41 (fun j v hv => by rw [Nat.zero_add]; exact (S.k 1 rfl).cell hv) ?_
 replace S := S.pk []
 refine ⟨(⟨(Sl.mk out_a out_c out), f.devs⟩ : Fail), rfl, ⟨(S.u 1 rfl), (S.u 0 rfl).2⟩, ?_, S.m.c⟩
 refine ⟨?_, rfl⟩
 have ho2 : (out, dn) = woFold f.links.xs v := by rw [ho, show k = f.links.xs.length from by omega, List.take_length]
 unfold withoutL; rw [← ho2]; exact (if_pos (Classical.not_not.1 hc9)).symm
set_option maxHeartbeats 2000000 in
set_option maxRecDepth 20000 in
theorem fComps (w : World) (F : Nat → Prop) (hF : Old F w) (M : MS [] w) (t : Topo) (t_w : topoE.wf (Fr F []) w.heap t) (f : Fail) (f_w : failE.wf (Fr F []) w.heap f) :
 Calls Try.prog 33 #[.agg (topoE.cells t).toArray, .agg (failE.cells f).toArray] w fun e w' => ∃ (ra : Option Addr) (rc : Nat), e = .returned (.slice ra ((compsV t f).length) rc) ∧ (slE intE).wf (Fr F []) w'.heap (Sl.mk ra rc (compsV t f)) ∧ Tr [] w [] w' := by
 have : t.devs.xs.length ≤ 9223372036854775807 := (t_w.1).1.len
 have : t.links.xs.length ≤ 9223372036854775807 := (t_w.2.1).1.len
 have : t.edges.xs.length ≤ 9223372036854775807 := (t_w.2.2.1).1.len
 have : t.pools.xs.length ≤ 9223372036854775807 := (t_w.2.2.2.1).1.len
 obtain ⟨_, _⟩ : inI64 t.tol := t_w.2.2.2.2
 have : f.links.xs.length ≤ 9223372036854775807 := (f_w.1).1.len
 have : f.devs.xs.length ≤ 9223372036854775807 := (f_w.2).1.len
 refine go Try.func33 rfl 12 rfl [wfF topoE t, wfF failE f] [] hF M ⟨t_w, f_w, trivial⟩ trivial ?_
 intro a S
 refine rs0 ?_
 refine nbp S (x_box _ (S.e rfl) rfl) ?_; clear S; intro a u b2 S
 refine nbp S (x_box _ (S.e rfl) rfl) ?_; clear S; intro a u b3 S
 refine ens S (la (av rfl)) ?_; clear S; intro a u S
 refine wp_seq ?_
 refine rs S (tr (ldkw 0 rfl rfl wD28)<|tr (ldkw 1 rfl rfl wD41)<|tr (oc (fun S=>fValid _ _ S.x (.nil _) t (dn0 (S.u 0 rfl)) f (dn0 (S.u 1 rfl))) cB22)<|la (noti rfl)) ?_; clear S; intro a u S
 refine cd S rfl ?_ ?_
 ·intro hc0
  refine rs S (la (av rfl)) ?_; clear S; intro a u S
  refine wp_ret (then_r ?_)
  refine ret1 rfl S.s rfl ?_
  replace S := S.pk []
  have hx4 : compsV t f = [] := by
   unfold compsV; exact if_neg hc0
  rw [hx4]
  refine ⟨none, 0, rfl, sl_nil, S.m.c⟩
 intro hc1
 have HV := Classical.not_not.1 hc1
 refine wp_skip (then_n (rs0 ?_))
 refine sp S (tr (ldkw 0 rfl rfl wD28)<|la (ldkw 1 rfl rfl wD41)) ?_; clear S; intro a u S
 refine cl S (fComps0 _ _ S.x (.nil _) t (dn0 (S.u 0 rfl)) f (dn0 (S.u 1 rfl)) (-1) ⟨by omega, by omega⟩ (by first | assumption | exact HV.1.1)) cB57 ?_
 rintro e u ⟨ra_t11, rc_t11, rfl, R_t11, T0⟩; refine ⟨_, rfl, fun a s => ?_⟩
 replace S := (S.k0 s T0).ar (wfF (slE intE) (Sl.mk ra_t11 rc_t11 (compsOf t f (-1)))) (Enc.up _ R_t11); clear s T0 R_t11
 have hn6 : (compsOf t f (-1)).length ≤ 9223372036854775807 := ((S.u 2 rfl)).1.len
 refine ens S (la (av rfl)) ?_; clear S; intro a u S
 refine wp_ret ?_
 refine ret1 rfl S.s rfl ?_
 replace S := S.pk []
 have hx7 : compsV t f = compsOf t f (-1) := by
  unfold compsV; exact if_pos HV
 rw [hx7]
 refine ⟨ra_t11, rc_t11, rfl, (S.u 2 rfl), S.m.c⟩
set_option maxHeartbeats 2000000 in
set_option maxRecDepth 20000 in
theorem fConn (w : World) (F : Nat → Prop) (hF : Old F w) (M : MS [] w) (t : Topo) (t_w : topoE.wf (Fr F []) w.heap t) (f : Fail) (f_w : failE.wf (Fr F []) w.heap f) (da : Int) (da_h : inI64 da) (db : Int) (db_h : inI64 db) :
 Calls Try.prog 27 #[.agg (topoE.cells t).toArray, .agg (failE.cells f).toArray, iI da, iI db] w fun e w' => e = .returned (bD (connV t f da db)) ∧ Tr [] w [] w' := by
 have : t.devs.xs.length ≤ 9223372036854775807 := (t_w.1).1.len
 have : t.links.xs.length ≤ 9223372036854775807 := (t_w.2.1).1.len
 have : t.edges.xs.length ≤ 9223372036854775807 := (t_w.2.2.1).1.len
 have : t.pools.xs.length ≤ 9223372036854775807 := (t_w.2.2.2.1).1.len
 obtain ⟨_, _⟩ : inI64 t.tol := t_w.2.2.2.2
 have : f.links.xs.length ≤ 9223372036854775807 := (f_w.1).1.len
 have : f.devs.xs.length ≤ 9223372036854775807 := (f_w.2).1.len
 obtain ⟨da_hl, da_hu⟩ : inI64 da := id da_h
 obtain ⟨db_hl, db_hu⟩ : inI64 db := id db_h
 refine go Try.func27 rfl 34 rfl [wfF topoE t, wfF failE f] [] hF M ⟨t_w, f_w, trivial⟩ trivial ?_
 intro a S
 refine rs0 ?_
 refine nbp S (x_box _ (S.e rfl) rfl) ?_; clear S; intro a u b4 S
 refine nbp S (x_box _ (S.e rfl) rfl) ?_; clear S; intro a u b5 S
 refine ens S (la (av rfl)) ?_; clear S; intro a u S
 refine wp_seq ?_
 refine rs S (tr (ldkw 0 rfl rfl wD28)<|tr (ldkw 1 rfl rfl wD41)<|tr (mv rfl)<|tr (oc (fun S=>fAlive _ _ S.x (.nil _) t (dn0 (S.u 0 rfl)) f (dn0 (S.u 1 rfl)) da da_h) cB34)<|tr (noti rfl)<|tr (mv rfl)<|tr (og 15 rfl gf fun S hg=>x_ldw (S.e rfl) (S.k 0 rfl).all wD28)<|tr (og 15 rfl gf fun S hg=>x_ldw (S.e rfl) (S.k 1 rfl).all wD41)<|tr (og 15 rfl gf fun S hg=>x_move (S.e rfl))<|tr (ocg 15 rfl gf (fun S hg=>fAlive _ _ S.x (.nil _) t (dn0 (S.u 0 rfl)) f (dn0 (S.u 1 rfl)) db db_h) cB34 fun S=>⟨fun hg=>(S.p rfl hg), fun hg=>(S.p rfl hg), fun hg=>(S.p rfl hg), trivial⟩)<|tr (og 15 rfl gf fun S hg=>x_notp (S.p rfl hg))<|la (ori rfl rfl rfl)) ?_; clear S; intro a u S
 refine cd S rfl ?_ ?_
 ·intro hc0
  refine rs S (la (av rfl)) ?_; clear S; intro a u S
  refine wp_ret (then_r ?_)
  refine ret1 rfl S.s rfl ?_
  replace S := S.pk []
  refine ⟨(r1 (vf ?_)), S.m.c⟩
  rintro ⟨⟨h1, h2⟩, _⟩; exact hc0.elim (fun e => e h1) (fun e => e h2)
 intro hc1
 have HA : aliveV t f da ∧ aliveV t f db := ⟨Classical.not_not.1 fun e => hc1 (.inl e), Classical.not_not.1 fun e => hc1 (.inr e)⟩
 have HV := HA.1.1.1.1
 have hA1 := aliveV_nat HA.1
 have hA2 := aliveV_nat HA.2
 have hcl := comps_len t f (-1)
 refine wp_skip (then_n (rs0 ?_))
 refine sp S (tr (ldkw 0 rfl rfl wD28)<|la (ldkw 1 rfl rfl wD41)) ?_; clear S; intro a u S
 refine cl S (fComps0 _ _ S.x (.nil _) t (dn0 (S.u 0 rfl)) f (dn0 (S.u 1 rfl)) (-1) ⟨by omega, by omega⟩ (by first | assumption | exact HV.1.1)) cB57 ?_
 rintro e u ⟨ra_t24, rc_t24, rfl, R_t24, T0⟩; refine ⟨_, rfl, fun a s => ?_⟩
 replace S := (S.k0 s T0).ar (wfF (slE intE) (Sl.mk ra_t24 rc_t24 (compsOf t f (-1)))) (Enc.up _ R_t24); clear s T0 R_t24
 have hn5 : (compsOf t f (-1)).length ≤ 9223372036854775807 := ((S.u 2 rfl)).1.len
 refine ens S (la (av rfl)) ?_; clear S; intro a u S
 refine wp_seq ?_
 obtain ⟨hl6, hu6⟩ : inI64 ((compsOf t f (-1)).getD ((da).toNat) intE.dflt) := id ((show LAt intE _ _ ra_t24 (compsOf t f (-1)) from ((S.u 2 rfl)).1).wf (da).toNat (by omega))
 obtain ⟨hl7, hu7⟩ : inI64 ((compsOf t f (-1)).getD ((db).toNat) intE.dflt) := id ((show LAt intE _ _ ra_t24 (compsOf t f (-1)) from ((S.u 2 rfl)).1).wf (db).toNat (by omega))
 replace S := S.l [(2, iI da), (3, iI db), (9, .slice ra_t24 ((compsOf t f (-1)).length) rc_t24)] (subM rfl)
 refine dr (P := Try.prog) S 10 [] [(25, .is _), (26, .is _), (27, .is _), (28, .is _), (29, .is _), (30, .is _), (31, .is _), (32, .is _), (33, .is _), (8, .is _)] [[], [], [25, 26], [27], [], [], [29, 30], [31], [28, 32], [33]] [8] _ ⟨qd (mv rfl), qd (mv rfl), qd (idxi uT22 sZ3 rfl rfl (da).toNat (by omega) (by omega) ((show LAt intE _ _ ra_t24 (compsOf t f (-1)) from ((S.u 2 rfl)).1).adr (i := (da).toNat) (by omega))), qd (ov fun S=>x_load sC3 (S.e rfl) ((show LAt intE _ _ ra_t24 (compsOf t f (-1)) from ((S.u 2 rfl)).1).cell (da).toNat (by omega) 0 _ rfl)), qd (mv rfl), qd (mv rfl), qd (idxi uT22 sZ3 rfl rfl (db).toNat (by omega) (by omega) ((show LAt intE _ _ ra_t24 (compsOf t f (-1)) from ((S.u 2 rfl)).1).adr (i := (db).toNat) (by omega))), qd (ov fun S=>x_load sC3 (S.e rfl) ((show LAt intE _ _ ra_t24 (compsOf t f (-1)) from ((S.u 2 rfl)).1).cell (db).toNat (by omega) 0 _ rfl)), qd (eqli rfl rfl), qd (av rfl), trivial⟩ ?_
 clear S; intro a u S G hE
 obtain ⟨hl8, hu8⟩ : inI64 da := id da_h
 obtain ⟨hl9, hu9⟩ : inI64 ((compsOf t f (-1)).getD ((da).toNat) intE.dflt) := id ((show LAt intE _ _ ra_t24 (compsOf t f (-1)) from ((S.u 2 rfl)).1).wf (da).toNat (by omega))
 obtain ⟨hl10, hu10⟩ : inI64 db := id db_h
 obtain ⟨hl11, hu11⟩ : inI64 ((compsOf t f (-1)).getD ((db).toNat) intE.dflt) := id ((show LAt intE _ _ ra_t24 (compsOf t f (-1)) from ((S.u 2 rfl)).1).wf (db).toNat (by omega))
 refine ent (wp_ret ?_)
 refine ret1 rfl S.s rfl ?_
 replace S := S.pk []
 refine ⟨(r1 (vb ?_)), S.m.c⟩
 unfold connV; have e1 := comps_at (f := f) (s := -1) hA1.2; have e2 := comps_at (f := f) (s := -1) hA2.2; exact ⟨fun h => ⟨HA, e1.symm.trans (h.trans e2)⟩, fun h => e1.trans (h.2.trans e2.symm)⟩
set_option maxHeartbeats 2000000 in
set_option maxRecDepth 20000 in
theorem fBridges (w : World) (F : Nat → Prop) (hF : Old F w) (M : MS [] w) (t : Topo) (t_w : topoE.wf (Fr F []) w.heap t) (f : Fail) (f_w : failE.wf (Fr F []) w.heap f) :
 Calls Try.prog 35 #[.agg (topoE.cells t).toArray, .agg (failE.cells f).toArray] w fun e w' => ∃ (ra : Option Addr) (rc : Nat), e = .returned (.slice ra ((bridgesOf t f).length) rc) ∧ (slE intE).wf (Fr F []) w'.heap (Sl.mk ra rc (bridgesOf t f)) ∧ Tr [] w [] w' := by
 have : t.devs.xs.length ≤ 9223372036854775807 := (t_w.1).1.len
 have : t.links.xs.length ≤ 9223372036854775807 := (t_w.2.1).1.len
 have : t.edges.xs.length ≤ 9223372036854775807 := (t_w.2.2.1).1.len
 have : t.pools.xs.length ≤ 9223372036854775807 := (t_w.2.2.2.1).1.len
 obtain ⟨_, _⟩ : inI64 t.tol := t_w.2.2.2.2
 have : f.links.xs.length ≤ 9223372036854775807 := (f_w.1).1.len
 have : f.devs.xs.length ≤ 9223372036854775807 := (f_w.2).1.len
 refine go Try.func35 rfl 47 rfl [wfF topoE t, wfF failE f] [] hF M ⟨t_w, f_w, trivial⟩ trivial ?_
 intro a S
 refine rs0 ?_
 refine nbp S (x_box _ (S.e rfl) rfl) ?_; clear S; intro a u b2 S
 refine nbp S (x_box _ (S.e rfl) rfl) ?_; clear S; intro a u b3 S
 refine ens S (la (av rfl)) ?_; clear S; intro a u S
 refine wp_seq ?_
 refine rs S (tr (ldkw 0 rfl rfl wD28)<|tr (ldkw 1 rfl rfl wD41)<|tr (oc (fun S=>fValid _ _ S.x (.nil _) t (dn0 (S.u 0 rfl)) f (dn0 (S.u 1 rfl))) cB22)<|la (noti rfl)) ?_; clear S; intro a u S
 refine cd S rfl ?_ ?_
 ·intro hc0
  refine rs S (la (av rfl)) ?_; clear S; intro a u S
  refine wp_ret (then_r ?_)
  refine ret1 rfl S.s rfl ?_
  replace S := S.pk []
  have hx4 : bridgesOf t f = [] := by
   unfold bridgesOf; exact bridges_no hc0
  rw [hx4]
  refine ⟨none, 0, rfl, sl_nil, S.m.c⟩
 intro hc1
 have HV := Classical.not_not.1 hc1
 have hB : topB t := HV.1.1.1
 unfold topB at hB
 refine wp_skip (then_n ?_)
 refine rs S (la (av rfl)) ?_; clear S; intro a u S
 refine wp_seq ?_
 have hn7 : t.links.xs.length ≤ 9223372036854775807 := ((S.u 0 rfl).2.1).1.len
 refine rs S (tr (fldi 0 1 rfl uT28)<|tr (ldk 0 sC24 rfl rfl rfl)<|tr (leni uT24 rfl)<|la (mv rfl)) ?_; clear S; intro a u S
 refine wp_block ?_
 replace S := S.nr intE 3
 refine lp4 (fun (k : Nat) (out_a : Option Addr) (out_c : Nat) (out : List Int) => [(2, pT b2 0), (3, pT b3 0), (4, .slice none 0 0), (14, sV t.links), (15, iN t.links.xs.length), (16, iN k), (5, .slice out_a out.length out_c)]) (fun (k : Nat) (out_a : Option Addr) (out_c : Nat) (out : List Int) => [blO b2 (topoE.cells t) 28, blO b3 (failE.cells f) 41, rwO intE 3 w.heap.size out_a out_c out]) (fun (k : Nat) (out_a : Option Addr) (out_c : Nat) (out : List Int) => k ≤ t.links.xs.length ∧ out = bridgesTo t f k) (fun (k : Nat) (out_a : Option Addr) (out_c : Nat) (out : List Int) => t.links.xs.length - k) S 0 none 0 ([]) (subM rfl) rfl ?_ ?_
 ·exact ⟨Nat.zero_le _, bridges_zero.symm⟩
 clear S; intro k out_a out_c out a u S hR
 have out_len := (S.row 2 rfl).len_le; simp only [maxLen] at out_len
 obtain ⟨hk, ho⟩ := hR
 have hob := bridges_len (t := t) (f := f) (k := k)
 rw [← ho] at hob
 refine rs S (la (lssi rfl rfl)) ?_; clear S; intro a u S
 refine wp_seq ?_
 refine cd S rfl ?_ ?_
 ·intro hc2
  have hl := topV_link HV.1.1 (i := k) (by omega)
  unfold lnkV at hl
  have hcl := comps_len t f (k : Nat)
  have e1 := comps_at (t := t) (f := f) (s := (k : Nat)) (j := (t.links.xs.getD k lnkE.dflt).a.toNat) (by omega)
  have e2 := comps_at (t := t) (f := f) (s := (k : Nat)) (j := (t.links.xs.getD k lnkE.dflt).b.toNat) (by omega)
  refine wp_skip (then_n (wp_seq (wp_block (rs0 ?_))))
  obtain ⟨hl10, hu10⟩ : inI64 ((t.links.xs.getD k lnkE.dflt).a) := id ((((S.u 0 rfl).2.1).1.wf k (by omega)).1)
  obtain ⟨hl11, hu11⟩ : inI64 ((t.links.xs.getD k lnkE.dflt).b) := id ((((S.u 0 rfl).2.1).1.wf k (by omega)).2.1)
  obtain ⟨hl12, hu12⟩ : inI64 ((t.links.xs.getD k lnkE.dflt).cost) := id ((((S.u 0 rfl).2.1).1.wf k (by omega)).2.2)
  refine sp S (tr (mv rfl)<|tr (idxi uT24 sZ54 rfl rfl k rfl (by omega) (((S.u 0 rfl).2.1).1.adr (i := k) (by omega)))<|la (ov fun S=>x_ldw (S.e rfl) (((S.u 0 rfl).2.1).1.wcell k (by omega) _ rfl _ rfl) wD54)) ?_; clear S; intro a u S
  refine nbp S (x_allocz _ iZ54 rfl) ?_; clear S; intro a u b7 S
  refine ens S (tr (av rfl)<|la (stkw 3 rfl rfl rfl)) ?_; clear S; intro a u S
  refine wp_seq ?_
  refine rs S (tr (ldkw 0 rfl rfl wD28)<|tr (ldkw 1 rfl rfl wD41)<|tr (mv rfl)<|tr (oc (fun S=>fUsable0 _ _ S.x (.nil _) t (dn0 (S.u 0 rfl)) f (dn0 (S.u 1 rfl)) ((k : Nat) : Int) ⟨by omega, by omega⟩ (⟨by omega, by omega⟩)) cB58)<|la (noti rfl)) ?_; clear S; intro a u S
  refine cd S rfl ?_ ?_
  ·intro hc3
   refine wp_exit (then_e (blk_e (then_n ?_)))
   refine rg S (tr (addi ((k + 1 : Nat) : Int) rfl rfl (w_i64 (by omega)))<|la (mv rfl)) ?_; clear S; intro a u S
   refine then_n ?_
   refine ⟨(k + 1), out_a, out_c, out, S.re (subM rfl) rfl rfl, ?_, ?_⟩
   ·refine ⟨by omega, ?_⟩
    have e0 : intE.dflt = 0 := rfl
    first
    | (rw [bridges_not HV (fun e => hc3 e.1)]; exact ho)
    | (rw [e0, e1, e2] at hc3
       first
       | (rw [bridges_yes HV ⟨Classical.not_not.1 hc2, hc3⟩, ← ho])
       | (rw [bridges_not HV (fun e => hc3 e.2)]; exact ho))
   omega
  intro hc4
  refine wp_skip (then_n (rs0 ?_))
  refine sp S (tr (ldkw 0 rfl rfl wD28)<|tr (ldkw 1 rfl rfl wD41)<|la (mv rfl)) ?_; clear S; intro a u S
  refine cl S (fComps0 _ _ S.x (.nil _) t (dn0 (S.u 0 rfl)) f (dn0 (S.u 1 rfl)) ((k : Nat) : Int) ⟨by omega, by omega⟩ (by first | assumption | exact HV.1.1)) cB57 ?_
  rintro e u ⟨ra_t29, rc_t29, rfl, R_t29, T0⟩; refine ⟨_, rfl, fun a s => ?_⟩
  replace S := (S.k0 s T0).ar (wfF (slE intE) (Sl.mk ra_t29 rc_t29 (compsOf t f ((k : Nat) : Int)))) (Enc.up _ R_t29); clear s T0 R_t29
  have hn16 : (compsOf t f ((k : Nat) : Int)).length ≤ 9223372036854775807 := ((S.u 2 rfl)).1.len
  refine ens S (la (av rfl)) ?_; clear S; intro a u S
  refine wp_seq ?_
  obtain ⟨hl17, hu17⟩ : inI64 ((compsOf t f ((k : Nat) : Int)).getD (((t.links.xs.getD k lnkE.dflt).a).toNat) intE.dflt) := id ((show LAt intE _ _ ra_t29 (compsOf t f ((k : Nat) : Int)) from ((S.u 2 rfl)).1).wf ((t.links.xs.getD k lnkE.dflt).a).toNat (by omega))
  obtain ⟨hl18, hu18⟩ : inI64 ((compsOf t f ((k : Nat) : Int)).getD (((t.links.xs.getD k lnkE.dflt).b).toNat) intE.dflt) := id ((show LAt intE _ _ ra_t29 (compsOf t f ((k : Nat) : Int)) from ((S.u 2 rfl)).1).wf ((t.links.xs.getD k lnkE.dflt).b).toNat (by omega))
  refine dr (P := Try.prog) S 11 [] [(30, .is _), (31, .is _), (32, .is _), (33, .is _), (34, .is _), (35, .is _), (36, .is _), (37, .is _), (38, .is _), (39, .is _), (40, .is _)] [[], [], [31], [30, 32], [33], [], [], [36], [35, 37], [38], [34, 39]] [40] _ ⟨qd (mv rfl), qd (fldi 0 0 rfl uT54), qd (ldk 3 sC3 rfl rfl rfl), qd (idxi uT22 sZ3 rfl rfl ((t.links.xs.getD k lnkE.dflt).a).toNat (by omega) (by omega) ((show LAt intE _ _ ra_t29 (compsOf t f ((k : Nat) : Int)) from ((S.u 2 rfl)).1).adr (i := ((t.links.xs.getD k lnkE.dflt).a).toNat) (by omega))), qd (ov fun S=>x_load sC3 (S.e rfl) ((show LAt intE _ _ ra_t29 (compsOf t f ((k : Nat) : Int)) from ((S.u 2 rfl)).1).cell ((t.links.xs.getD k lnkE.dflt).a).toNat (by omega) 0 _ rfl)), qd (mv rfl), qd (fldi 0 1 rfl uT54), qd (ldk 3 sC3 rfl rfl rfl), qd (idxi uT22 sZ3 rfl rfl ((t.links.xs.getD k lnkE.dflt).b).toNat (by omega) (by omega) ((show LAt intE _ _ ra_t29 (compsOf t f ((k : Nat) : Int)) from ((S.u 2 rfl)).1).adr (i := ((t.links.xs.getD k lnkE.dflt).b).toNat) (by omega))), qd (ov fun S=>x_load sC3 (S.e rfl) ((show LAt intE _ _ ra_t29 (compsOf t f ((k : Nat) : Int)) from ((S.u 2 rfl)).1).cell ((t.links.xs.getD k lnkE.dflt).b).toNat (by omega) 0 _ rfl)), qd (neqi rfl rfl), trivial⟩ ?_
  clear S; intro a u S G hE
  obtain ⟨hl19, hu19⟩ : inI64 ((compsOf t f ((k : Nat) : Int)).getD (((t.links.xs.getD k lnkE.dflt).a).toNat) intE.dflt) := id ((show LAt intE _ _ ra_t29 (compsOf t f ((k : Nat) : Int)) from ((S.u 2 rfl)).1).wf ((t.links.xs.getD k lnkE.dflt).a).toNat (by omega))
  obtain ⟨hl20, hu20⟩ : inI64 ((compsOf t f ((k : Nat) : Int)).getD (((t.links.xs.getD k lnkE.dflt).b).toNat) intE.dflt) := id ((show LAt intE _ _ ra_t29 (compsOf t f ((k : Nat) : Int)) from ((S.u 2 rfl)).1).wf ((t.links.xs.getD k lnkE.dflt).b).toNat (by omega))
  refine ent ?_
  refine cd S rfl ?_ ?_
  ·intro hc5
   refine r0 ?_
   refine sp S (tr (mv rfl)<|la (mv rfl)) ?_; clear S; intro a u S
   refine nbs intE S [((k : Nat) : Int)] (x_bs S [(0, iN k)] uT22 iZ3) (fun x hx => by simp only [List.mem_cons, List.not_mem_nil, or_false] at hx; rw [hx]; exact (show intE.wf _ _ ((k : Nat) : Int) from (show inI64 ((k : Nat) : Int) from ⟨by omega, by omega⟩))) ?_; clear S; intro a u b43 S
   refine ap (E := intE) (ys := [((k : Nat) : Int)]) S 2 rfl uT22 iZ3 rfl rfl (show LAt intE _ _ (some ⟨b43, 0, none⟩) ([((k : Nat) : Int)]) from ((S.u 3 rfl)).1) ((S.u 3 rfl)).2.2 (LAt.mem (show LAt intE _ _ (some ⟨b43, 0, none⟩) ([((k : Nat) : Int)]) from ((S.u 3 rfl)).1)) ⟨by unfold maxLen; (try simp only [List.length_cons, List.length_nil, List.length_append, List.length_map]); omega, by (try simp only [List.length_cons, List.length_nil, List.length_append, List.length_map]); omega⟩ ?_; clear S; intro a u ad44 cap44 S
   refine en S (la (av rfl)) ?_; clear S; intro a u S
   refine blk_n (then_n ?_)
   refine rg S (tr (addi ((k + 1 : Nat) : Int) rfl rfl (w_i64 (by omega)))<|la (mv rfl)) ?_; clear S; intro a u S
   refine then_n ?_
   refine ⟨(k + 1), ad44, cap44, (out ++ [((k : Nat) : Int)]), S.re (subM rfl) rfl rfl, ?_, ?_⟩
   ·refine ⟨by omega, ?_⟩
    have e0 : intE.dflt = 0 := rfl
    first
    | (rw [bridges_not HV (fun e => hc5 e.1)]; exact ho)
    | (rw [e0, e1, e2] at hc5
       first
       | (rw [bridges_yes HV ⟨Classical.not_not.1 hc4, hc5⟩, ← ho])
       | (rw [bridges_not HV (fun e => hc5 e.2)]; exact ho))
   omega
  intro hc6
  refine wp_skip (blk_n (then_n ?_))
  refine rg S (tr (addi ((k + 1 : Nat) : Int) rfl rfl (w_i64 (by omega)))<|la (mv rfl)) ?_; clear S; intro a u S
  refine then_n ?_
  refine ⟨(k + 1), out_a, out_c, out, S.re (subM rfl) rfl rfl, ?_, ?_⟩
  ·refine ⟨by omega, ?_⟩
   have e0 : intE.dflt = 0 := rfl
   first
   | (rw [bridges_not HV (fun e => hc6 e.1)]; exact ho)
   | (rw [e0, e1, e2] at hc6
      first
      | (rw [bridges_yes HV ⟨Classical.not_not.1 hc4, hc6⟩, ← ho])
      | (rw [bridges_not HV (fun e => hc6 e.2)]; exact ho))
  omega
 intro hc7
 refine wp_exit (then_e (then_e (blk_e (then_n ?_))))
 refine rs S (tr (mv rfl)<|la (av rfl)) ?_; clear S; intro a u S
 refine wp_ret ?_
 replace S := S.fz 2 rfl
 refine ret1 rfl S.s rfl ?_
 replace S := S.pk []
 have hx25 : bridgesOf t f = out := by
  unfold bridgesOf; rw [ho, show k = t.links.xs.length from by omega]
 rw [hx25]
 refine ⟨out_a, out_c, rfl, (S.u 2 rfl), S.m.c⟩
set_option maxHeartbeats 2000000 in
set_option maxRecDepth 20000 in
theorem rBridges (w : World) (F : Nat → Prop) (hF : Old F w) (M : MS [] w) (t : Topo) (t_w : topoE.wf (Fr F []) w.heap t) (f : Fail) (f_w : failE.wf (Fr F []) w.heap f) :
 Calls Try.prog 62 #[.agg (topoE.cells t).toArray, .agg (failE.cells f).toArray] w fun e w' => ∃ (ra : Option Addr) (rc : Nat), e = .returned (.slice ra ((bridgesOf t f).length) rc) ∧ (slE intE).wf (Fr F []) w'.heap (Sl.mk ra rc (bridgesOf t f)) ∧ Tr [] w [] w' := by
 have : t.devs.xs.length ≤ 9223372036854775807 := (t_w.1).1.len
 have : t.links.xs.length ≤ 9223372036854775807 := (t_w.2.1).1.len
 have : t.edges.xs.length ≤ 9223372036854775807 := (t_w.2.2.1).1.len
 have : t.pools.xs.length ≤ 9223372036854775807 := (t_w.2.2.2.1).1.len
 obtain ⟨_, _⟩ : inI64 t.tol := t_w.2.2.2.2
 have : f.links.xs.length ≤ 9223372036854775807 := (f_w.1).1.len
 have : f.devs.xs.length ≤ 9223372036854775807 := (f_w.2).1.len
 refine go Try.func62 rfl 43 rfl [wfF topoE t, wfF failE f] [] hF M ⟨t_w, f_w, trivial⟩ trivial ?_
 intro a S
 refine rs0 ?_
 refine nbp S (x_box _ (S.e rfl) rfl) ?_; clear S; intro a u b2 S
 refine nbp S (x_box _ (S.e rfl) rfl) ?_; clear S; intro a u b3 S
 refine ens S (la (av rfl)) ?_; clear S; intro a u S
 refine rs S (la (av rfl)) ?_; clear S; intro a u S
 refine wp_seq ?_
 refine rs S (la (av rfl)) ?_; clear S; intro a u S
 refine wp_block ?_
 replace S := S.nr intE 3
 refine lp4 (fun (k : Nat) (out_a : Option Addr) (out_c : Nat) (out : List Int) => [(2, pT b2 0), (3, pT b3 0), (4, .slice none 0 0), (6, iN k), (5, .slice out_a out.length out_c)]) (fun (k : Nat) (out_a : Option Addr) (out_c : Nat) (out : List Int) => [blO b2 (topoE.cells t) 28, blO b3 (failE.cells f) 41, rwO intE 3 w.heap.size out_a out_c out]) (fun (k : Nat) (out_a : Option Addr) (out_c : Nat) (out : List Int) => k ≤ t.links.xs.length ∧ out = bridgesTo t f k) (fun (k : Nat) (out_a : Option Addr) (out_c : Nat) (out : List Int) => t.links.xs.length - k) S 0 none 0 ([]) (subM rfl) rfl ?_ ?_
 ·exact ⟨Nat.zero_le _, bridges_zero.symm⟩
 clear S; intro k out_a out_c out a u S hR
 have out_len := (S.row 2 rfl).len_le; simp only [maxLen] at out_len
 obtain ⟨hk, ho⟩ := hR
 have hob := bridges_len (t := t) (f := f) (k := k)
 rw [← ho] at hob
 refine wp_seq ?_
 have hn5 : t.links.xs.length ≤ 9223372036854775807 := ((S.u 0 rfl).2.1).1.len
 refine rs S (tr (mv rfl)<|tr (fldi 0 1 rfl uT28)<|tr (ldk 0 sC24 rfl rfl rfl)<|tr (leni uT24 rfl)<|la (lssi rfl rfl)) ?_; clear S; intro a u S
 refine cd S rfl ?_ ?_
 ·intro hc0
  refine wp_skip (then_n (wp_seq (wp_block (wp_seq ?_))))
  refine dr (P := Try.prog) S 24 [] [(14, .is _), (15, .is _), (16, .is _), (17, .is _), (18, .is _), (19, .is _), (20, .is _), (21, .is _), (22, .of (fun z w => (usableV t f ((k : Nat) : Int)) → ∃ (x22a : Fail), z = .agg (failE.cells x22a).toArray ∧ (failE).wf (Fr F [one b2, one b3, abk out_a]) w.heap x22a ∧ OneMore x22a f ((k : Nat) : Int)) (fun v w w' c h hg => let ⟨x22a, hv, h0, h1⟩ := h hg; ⟨x22a, hv, Enc.kp (failE) h0 c (fun _ h => by simp at h), h1⟩)), (23, .is _), (24, .is _), (25, .is _), (26, .is _), (27, .is _), (28, .is _), (29, .is _), (30, .is _), (31, .is _), (32, .is _), (33, .is _), (34, .is _), (35, .is ((if (usableV t f ((k : Nat) : Int)) then bD (¬ bridge t f k) else undef))), (36, .is _), (37, .is _)] [[], [], [], [14, 15, 16], [17], [18], [18], [18], [18, 20, 21], [18], [18, 23], [18], [18, 24, 25], [18, 26], [18, 27], [18], [18, 29], [18], [18, 30, 31], [18, 32], [18, 33], [18, 19, 22, 28, 34], [18, 35], [18, 36]] [37] _ ⟨qd (ldkw 0 rfl rfl wD28), qd (ldkw 1 rfl rfl wD41), qd (mv rfl), qd (oc (fun S=>rUsable _ _ S.x (.nil _) t (dn0 (S.u 0 rfl)) f (dn0 (S.u 1 rfl)) ((k : Nat) : Int) ⟨by omega, by omega⟩) cB40), qd (mv rfl), qd (og 18 rfl gt fun S hg=>x_ldw (S.e rfl) (S.k 0 rfl).all wD28), qd (og 18 rfl gt fun S hg=>x_ldw (S.e rfl) (S.k 1 rfl).all wD41), qd (og 18 rfl gt fun S hg=>x_move (S.e rfl)), ?_, qd (og 18 rfl gt fun S hg=>xf (0) 1 uT28 (S.e rfl)), qd (og 18 rfl gt fun S hg=>x_load sC24 (S.p rfl hg) ((S.k 0 rfl).cell (j := 1) rfl)), qd (og 18 rfl gt fun S hg=>x_move (S.e rfl)), qd (og 18 rfl gt fun S hg=>x_idx uT24 sZ54 (S.p rfl hg) (S.p rfl hg) k rfl (by omega) (((S.u 0 rfl).2.1).1.adr (i := k) (by omega))), qd (og 18 rfl gt fun S hg=>xf (off t.links.a + k * 3) 0 uT54 (S.p rfl hg)), qd (og 18 rfl gt fun S hg=>x_load sC3 (S.p rfl hg) (((S.u 0 rfl).2.1).1.cell k (by omega) 0 _ rfl)), qd (og 18 rfl gt fun S hg=>xf (0) 1 uT28 (S.e rfl)), qd (og 18 rfl gt fun S hg=>x_load sC24 (S.p rfl hg) ((S.k 0 rfl).cell (j := 1) rfl)), qd (og 18 rfl gt fun S hg=>x_move (S.e rfl)), qd (og 18 rfl gt fun S hg=>x_idx uT24 sZ54 (S.p rfl hg) (S.p rfl hg) k rfl (by omega) (((S.u 0 rfl).2.1).1.adr (i := k) (by omega))), qd (og 18 rfl gt fun S hg=>xf (off t.links.a + k * 3) 1 uT54 (S.p rfl hg)), qd (og 18 rfl gt fun S hg=>x_load sC3 (S.p rfl hg) (((S.u 0 rfl).2.1).1.cell k (by omega) 1 _ rfl)), ?_, qd (og 18 rfl gt fun S hg=>x_notp (S.p rfl hg)), qd (andi rfl rfl rfl), trivial⟩ ?_
  ·skip
   intro a u S G hE
   refine (Classical.em (usableV t f ((k : Nat) : Int))).symm.elim (fun hg => ?_) fun hg => ?_
   ·exact hng 22 18 S S.m rfl (fun h => hg (gt.2 h)) (show (usableV t f ((k : Nat) : Int)) → _ from fun h => absurd h hg)
   refine hcg 18 S rfl (gt.1 hg) (rWithout _ _ S.x (.nil _) f (dn0 (S.u 1 rfl)) ((k : Nat) : Int) ⟨by omega, by omega⟩ (by first | omega | exact Nat.le_trans (failV_len hg.1.1.1).1 (by decide) | exact Nat.le_trans (failV_len HV).1 (by decide))) cB26 ⟨fun _=>(S.p rfl hg), fun _=>(S.p rfl hg), trivial⟩ ?_
   rintro e w2 ⟨r_h22, rfl, R_h22, hr_h22, T0⟩; refine ⟨_, rfl, (fun _ => ?_), T0.ch, (S.k0 S.s T0).m⟩
   exact ⟨r_h22, rfl, (Enc.up _ R_h22), hr_h22⟩
  ·skip
   intro a u S G hE
   obtain ⟨e22, -⟩ := hE
   have M0 := S.m
   refine (Classical.em (usableV t f ((k : Nat) : Int))).symm.elim (fun hg => ?_) fun hg => ?_
   ·exact hng 35 18 S M0 rfl (fun h => hg (gt.2 h)) (show _ = _ from (if_neg hg).symm)
   replace e22 := e22 hg
   obtain ⟨x22_6, e22, X6, hr6⟩ := e22
   replace S := S.ext e22
   refine hcg 18 S rfl (gt.1 hg) (rConn _ _ S.x (.nil _) t (dn0 (S.u 0 rfl)) x22_6 (dn0 X6) ((t.links.xs.getD k lnkE.dflt).a) (((S.u 0 rfl).2.1).1.wf k (by omega)).1 ((t.links.xs.getD k lnkE.dflt).b) (((S.u 0 rfl).2.1).1.wf k (by omega)).2.1) cB39 ⟨fun _=>(S.p rfl hg), (fun _=>S.e rfl), fun _=>(S.p rfl hg), fun _=>(S.p rfl hg), trivial⟩ ?_
   rintro e w2 ⟨rfl, T0⟩; exact ⟨_, rfl, (show _ = _ from ((vb (bridge_dual hg (by omega) (by assumption))).trans (if_pos hg).symm)), T0.ch, (M0.k0 T0.ch)⟩
  clear S; intro a u S G hE
  refine ent ?_
  refine cd S rfl ?_ ?_
  ·intro hc1
   have HV := hc1.1.1.1.1
   have hB : topB t := HV.1.1.1
   unfold topB at hB
   refine r0 ?_
   refine sp S (tr (mv rfl)<|la (mv rfl)) ?_; clear S; intro a u S
   refine nbs intE S [((k : Nat) : Int)] (x_bs S [(0, iN k)] uT22 iZ3) (fun x hx => by simp only [List.mem_cons, List.not_mem_nil, or_false] at hx; rw [hx]; exact (show intE.wf _ _ ((k : Nat) : Int) from (show inI64 ((k : Nat) : Int) from ⟨by omega, by omega⟩))) ?_; clear S; intro a u b40 S
   refine ap (E := intE) (ys := [((k : Nat) : Int)]) S 2 rfl uT22 iZ3 rfl rfl (show LAt intE _ _ (some ⟨b40, 0, none⟩) ([((k : Nat) : Int)]) from ((S.u 2 rfl)).1) ((S.u 2 rfl)).2.2 (LAt.mem (show LAt intE _ _ (some ⟨b40, 0, none⟩) ([((k : Nat) : Int)]) from ((S.u 2 rfl)).1)) ⟨by unfold maxLen; (try simp only [List.length_cons, List.length_nil, List.length_append, List.length_map]); omega, by (try simp only [List.length_cons, List.length_nil, List.length_append, List.length_map]); omega⟩ ?_; clear S; intro a u ad41 cap41 S
   refine en S (la (av rfl)) ?_; clear S; intro a u S
   refine blk_n (then_n ?_)
   refine rg S (tr (mv rfl)<|tr (addi ((k + 1 : Nat) : Int) rfl rfl (w_i64 (by omega)))<|la (av rfl)) ?_; clear S; intro a u S
   refine then_n ?_
   refine ⟨(k + 1), ad41, cap41, (out ++ [((k : Nat) : Int)]), S.re (subM rfl) rfl rfl, ?_, ?_⟩
   ·refine ⟨by omega, ?_⟩
    by_cases hV : failV t f
    ·first
     | (rw [bridges_yes hV (Classical.not_not.1 hc1.2), ← ho])
     | (rw [bridges_not hV (fun e => hc1 ⟨(usable_iff hV (by omega)).2 e.1, fun h => h e⟩)]; exact ho)
    first
    | exact absurd hc1.1.1.1.1 hV
    | (rw [bridges_no hV] at ho ⊢; exact ho)
   omega
  intro hc2
  refine wp_skip (blk_n (then_n ?_))
  refine rg S (tr (mv rfl)<|tr (addi ((k + 1 : Nat) : Int) rfl rfl (w_i64 (by omega)))<|la (av rfl)) ?_; clear S; intro a u S
  refine then_n ?_
  refine ⟨(k + 1), out_a, out_c, out, S.re (subM rfl) rfl rfl, ?_, ?_⟩
  ·refine ⟨by omega, ?_⟩
   by_cases hV : failV t f
   ·first
    | (rw [bridges_yes hV (Classical.not_not.1 hc2.2), ← ho])
    | (rw [bridges_not hV (fun e => hc2 ⟨(usable_iff hV (by omega)).2 e.1, fun h => h e⟩)]; exact ho)
   first
   | exact absurd hc2.1.1.1.1 hV
   | (rw [bridges_no hV] at ho ⊢; exact ho)
  omega
 intro hc3
 refine wp_exit (then_e (then_e (blk_e (then_n ?_))))
 refine rs S (tr (mv rfl)<|la (av rfl)) ?_; clear S; intro a u S
 refine wp_ret ?_
 replace S := S.fz 2 rfl
 refine ret1 rfl S.s rfl ?_
 replace S := S.pk []
 have hx11 : bridgesOf t f = out := by
  unfold bridgesOf; rw [ho, show k = t.links.xs.length from by omega]
 rw [hx11]
 refine ⟨out_a, out_c, rfl, (S.u 2 rfl), S.m.c⟩
end Go.Proofs.Ytfanmniaolncbaa.V
