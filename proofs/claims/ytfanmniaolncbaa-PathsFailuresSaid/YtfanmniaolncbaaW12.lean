/- the tolerated failure states -/
import Derived.Test.YtfanmniaolncbaaW11
namespace Go.Proofs.Ytfanmniaolncbaa.V
open Go.RowKit Go.Proofs.Ytfanmniaolncbaa
set_option linter.unusedVariables false
set_option linter.unusedSimpArgs false
set_option maxHeartbeats 2000000 in
set_option maxRecDepth 20000 in
theorem sClone (w : World) (F : Nat → Prop) (hF : Old F w) (M : MS [] w) (l : Sl Int) (l_w : (slE intE).wf (Fr F []) w.heap l) (hl : l.xs.length ≤ 1024) :
 Calls Try.prog 51 #[sV l] w fun e w' => ∃ (ra : Option Addr) (rc : Nat), e = .returned (.slice ra l.xs.length rc) ∧ Row intE 3 w.heap.size F [abk ra] w' ra rc l.xs ∧ Tr [] w [abk ra] w' := by
 have : l.xs.length ≤ 9223372036854775807 := (l_w).1.len
 refine go Try.func51 rfl 8 rfl [wfF (slE intE) l] [] hF M ⟨l_w, trivial⟩ trivial ?_
 intro a S
 refine rs S (la (av rfl)) ?_; clear S; intro a u S
 refine wp_seq ?_
 refine rs S (tr (mv rfl)<|la (ov fun S=>x_sleql uT22 (S.e rfl) (S.e rfl))) ?_; clear S; intro a u S
 refine cd S rfl ?_ ?_
 ·intro hc0
  refine rs S (la (av rfl)) ?_; clear S; intro a u S
  refine wp_ret (then_r ?_)
  replace S := S.nr intE 3
  refine ret1 rfl S.s rfl ?_
  have hx4 : l.xs = [] := by
   have h := l_w.1.ad; rcases Nat.eq_zero_or_pos l.xs.length with e | e
   ·exact List.length_eq_zero_iff.1 e
   have := (h e).1; rw [hc0] at this; cases this
  rw [hx4]
  refine ⟨none, 0, rfl, (S.row 0 rfl), S.m.c⟩
 intro hc1
 refine wp_skip (then_n (rs0 ?_))
 refine nbr (q := 0) intE S [] (x_bsl0 uT22 iZ3) (fun _ h => by simp at h) ?_; clear S; intro a u b5 S
 refine sp S (la (mv rfl)) ?_; clear S; intro a u S
 refine ap (E := intE) (ys := l.xs) S 0 rfl uT22 iZ3 rfl rfl ((S.u 0 rfl)).1 ((S.u 0 rfl)).2.2 (LAt.mem ((S.u 0 rfl)).1) ⟨by unfold maxLen; (try simp only [List.length_cons, List.length_nil, List.length_append, List.length_map]); omega, by (try simp only [List.length_cons, List.length_nil, List.length_append, List.length_map]); omega⟩ ?_; clear S; intro a u ad7 cap7 S
 refine ens S (la (av rfl)) ?_; clear S; intro a u S
 refine wp_ret ?_
 refine ret1 rfl S.s rfl ?_
 have hx6 : l.xs = ([] ++ l.xs) := by
  simp
 rw [hx6]
 refine ⟨ad7, cap7, rfl, (S.row 0 rfl), S.m.c⟩
set_option maxHeartbeats 2000000 in
set_option maxRecDepth 20000 in
theorem rEqual (w : World) (F : Nat → Prop) (hF : Old F w) (M : MS [] w) (x : Fail) (x_w : failE.wf (Fr F []) w.heap x) (y : Fail) (y_w : failE.wf (Fr F []) w.heap y) :
 Calls Try.prog 24 #[.agg (failE.cells x).toArray, .agg (failE.cells y).toArray] w fun e w' => e = .returned (bD (keyF x = keyF y)) ∧ Tr [] w [] w' := by
 have : x.links.xs.length ≤ 9223372036854775807 := (x_w.1).1.len
 have : x.devs.xs.length ≤ 9223372036854775807 := (x_w.2).1.len
 have : y.links.xs.length ≤ 9223372036854775807 := (y_w.1).1.len
 have : y.devs.xs.length ≤ 9223372036854775807 := (y_w.2).1.len
 refine go Try.func24 rfl 17 rfl [wfF failE x, wfF failE y] [] hF M ⟨x_w, y_w, trivial⟩ trivial ?_
 intro a S
 refine rs0 ?_
 refine nbp S (x_box _ (S.e rfl) rfl) ?_; clear S; intro a u b2 S
 refine nbp S (x_box _ (S.e rfl) rfl) ?_; clear S; intro a u b3 S
 refine ens S (la (av rfl)) ?_; clear S; intro a u S
 refine rs S (tr (fldi 0 0 rfl uT41)<|tr (ldk 0 sC22 rfl rfl rfl)<|tr (fldi 0 0 rfl uT41)<|tr (ldk 1 sC22 rfl rfl rfl)<|tr (oc (fun S=>sameIdx _ _ S.x (.nil _) x.links (dn0 ((S.u 0 rfl).1)) y.links (dn0 ((S.u 1 rfl).1))) cB45)<|tr (mv rfl)<|tr (og 10 rfl gt fun S hg=>xf (0) 1 uT41 (S.e rfl))<|tr (og 10 rfl gt fun S hg=>x_load sC22 (S.p rfl hg) ((S.k 0 rfl).cell (j := 1) rfl))<|tr (og 10 rfl gt fun S hg=>xf (0) 1 uT41 (S.e rfl))<|tr (og 10 rfl gt fun S hg=>x_load sC22 (S.p rfl hg) ((S.k 1 rfl).cell (j := 1) rfl))<|tr (ocg 10 rfl gt (fun S hg=>sameIdx _ _ S.x (.nil _) x.devs (dn0 ((S.u 0 rfl).2)) y.devs (dn0 ((S.u 1 rfl).2))) cB45 fun S=>⟨fun hg=>(S.p rfl hg), fun hg=>(S.p rfl hg), trivial⟩)<|tr (andi rfl rfl rfl)<|la (av rfl)) ?_; clear S; intro a u S
 refine wp_ret ?_
 refine ret1 rfl S.s rfl ?_
 replace S := S.pk []
 refine ⟨(r1 (vb ?_)), S.m.c⟩
 unfold keyF; simp only [Prod.mk.injEq]
set_option maxHeartbeats 2000000 in
set_option maxRecDepth 20000 in
theorem rSame (w : World) (F : Nat → Prop) (hF : Old F w) (M : MS [] w) (x : Sl Fail) (x_w : (slE failE).wf (Fr F []) w.heap x) (y : Sl Fail) (y_w : (slE failE).wf (Fr F []) w.heap y) :
 Calls Try.prog 17 #[sV x, sV y] w fun e w' => e = .returned (bD (x.xs.map keyF = y.xs.map keyF)) ∧ Tr [] w [] w' := by
 have : x.xs.length ≤ 9223372036854775807 := (x_w).1.len
 have : y.xs.length ≤ 9223372036854775807 := (y_w).1.len
 refine go Try.func17 rfl 27 rfl [wfF (slE failE) x, wfF (slE failE) y] [] hF M ⟨x_w, y_w, trivial⟩ trivial ?_
 intro a S
 refine rs S (la (av rfl)) ?_; clear S; intro a u S
 refine wp_seq ?_
 have hn3 : x.xs.length ≤ 9223372036854775807 := ((S.u 0 rfl)).1.len
 have hn4 : y.xs.length ≤ 9223372036854775807 := ((S.u 1 rfl)).1.len
 refine rs S (tr (mv rfl)<|tr (leni uT34 rfl)<|tr (mv rfl)<|tr (leni uT34 rfl)<|la (neqi rfl rfl)) ?_; clear S; intro a u S
 refine cd S rfl ?_ ?_
 ·intro hc0
  refine rs S (la (av rfl)) ?_; clear S; intro a u S
  refine wp_ret (then_r ?_)
  refine ret1 rfl S.s rfl ?_
  refine ⟨(r1 (vf ?_)), S.m.c⟩
  intro h; have := congrArg List.length h; simp at this; omega
 intro hc1
 refine wp_skip (then_n (wp_seq ?_))
 refine rs S (la (av rfl)) ?_; clear S; intro a u S
 refine wp_block ?_
 refine lp1 (fun (k : Nat) => [(0, sV x), (1, sV y), (5, iN k)]) (fun (k : Nat) => []) (fun (k : Nat) => k ≤ x.xs.length ∧ ∀ j, j < k → keyF (x.xs.getD j failE.dflt) = keyF (y.xs.getD j failE.dflt)) (fun (k : Nat) => x.xs.length - k) S 0 (subM rfl) rfl ?_ ?_
 ·exact ⟨Nat.zero_le _, fun j hj => by omega⟩
 clear S; intro k a u S hR
 obtain ⟨hk, hn⟩ := hR
 refine wp_seq ?_
 refine rs S (tr (mv rfl)<|tr (mv rfl)<|tr (leni uT34 rfl)<|la (lssi rfl rfl)) ?_; clear S; intro a u S
 refine cd S rfl ?_ ?_
 ·intro hc2
  refine wp_skip (then_n (wp_seq (wp_block (wp_seq ?_))))
  have hn8 : ((x.xs.getD k failE.dflt).links.xs).length ≤ 9223372036854775807 := ((((S.u 0 rfl)).1.wf k (by omega)).1).1.len
  have hn9 : ((x.xs.getD k failE.dflt).devs.xs).length ≤ 9223372036854775807 := ((((S.u 0 rfl)).1.wf k (by omega)).2).1.len
  have hn10 : ((y.xs.getD k failE.dflt).links.xs).length ≤ 9223372036854775807 := ((((S.u 1 rfl)).1.wf k (by omega)).1).1.len
  have hn11 : ((y.xs.getD k failE.dflt).devs.xs).length ≤ 9223372036854775807 := ((((S.u 1 rfl)).1.wf k (by omega)).2).1.len
  refine dr (P := Try.prog) S 10 [] [(17, .is _), (18, .is _), (19, .is _), (20, .is _), (21, .is _), (22, .is _), (23, .is _), (24, .is _), (25, .is _), (26, .is _)] [[], [], [17, 18], [19], [], [], [21, 22], [23], [20, 24], [25]] [26] _ ⟨qd (mv rfl), qd (mv rfl), qd (idxi uT34 sZ41 rfl rfl k rfl (by omega) (((S.u 0 rfl)).1.adr (i := k) (by omega))), qd (ov fun S=>x_ldw (S.e rfl) (((S.u 0 rfl)).1.wcell k (by omega) _ rfl _ rfl) wD41), qd (mv rfl), qd (mv rfl), qd (idxi uT34 sZ41 rfl rfl k rfl (by omega) (((S.u 1 rfl)).1.adr (i := k) (by omega))), qd (ov fun S=>x_ldw (S.e rfl) (((S.u 1 rfl)).1.wcell k (by omega) _ rfl _ rfl) wD41), qd (oc (fun S=>rEqual _ _ S.x (.nil _) (x.xs.getD k failE.dflt) (dn0 (((S.u 0 rfl)).1.wf k (by omega))) (y.xs.getD k failE.dflt) (dn0 (((S.u 1 rfl)).1.wf k (by omega)))) cB24), qd (noti rfl), trivial⟩ ?_
  clear S; intro a u S G hE
  refine ent ?_
  refine cd S rfl ?_ ?_
  ·intro hc3
   refine rs S (la (av rfl)) ?_; clear S; intro a u S
   refine wp_ret (blk_r (then_r (then_r (blk_r (then_r ?_)))))
   refine ret1 rfl S.s rfl ?_
   refine ⟨(r1 (vf ?_)), S.m.c⟩
   intro h; have h1 := getD_map (f := keyF) (l := x.xs) (d := failE.dflt) (k := k) (by omega) ([], []); have h2 := getD_map (f := keyF) (l := y.xs) (d := failE.dflt) (k := k) (by omega) ([], []); rw [h] at h1; exact hc3 (h1.symm.trans h2)
  intro hc4
  refine wp_skip (blk_n (then_n ?_))
  refine rg S (tr (mv rfl)<|tr (addi ((k + 1 : Nat) : Int) rfl rfl (w_i64 (by omega)))<|la (av rfl)) ?_; clear S; intro a u S
  refine then_n ?_
  refine ⟨k + 1, S.re (subM rfl) rfl rfl, ?_, ?_⟩
  ·refine ⟨by omega, fun j hj => ?_⟩
   rcases Nat.lt_succ_iff_lt_or_eq.1 hj with h | h
   ·exact hn j h
   subst h; exact Classical.not_not.1 hc4
  omega
 intro hc5
 refine wp_exit (then_e (then_e (blk_e (then_n ?_))))
 refine rs S (la (av rfl)) ?_; clear S; intro a u S
 refine wp_ret ?_
 refine ret1 rfl S.s rfl ?_
 refine ⟨(r1 (vt ?_)), S.m.c⟩
 refine list_ext ([], []) (by simp; omega) fun i hi => ?_; simp at hi; rw [getD_map (d := failE.dflt) (by omega), getD_map (d := failE.dflt) (by omega)]; exact hn i (by omega)
set_option maxHeartbeats 2000000 in
set_option maxRecDepth 20000 in
theorem rAll (w : World) (F : Nat → Prop) (hF : Old F w) (M : MS [] w) (t : Topo) (t_w : topoE.wf (Fr F []) w.heap t) :
 Calls Try.prog 19 #[.agg (topoE.cells t).toArray] w fun e w' => ∃ (r : Sl Fail), e = .returned (sV r) ∧ (slE failE).wf (Fr F []) w'.heap r ∧ r.xs.map keyF = allOf t ∧ Tr [] w [] w' := by
 have : t.devs.xs.length ≤ 9223372036854775807 := (t_w.1).1.len
 have : t.links.xs.length ≤ 9223372036854775807 := (t_w.2.1).1.len
 have : t.edges.xs.length ≤ 9223372036854775807 := (t_w.2.2.1).1.len
 have : t.pools.xs.length ≤ 9223372036854775807 := (t_w.2.2.2.1).1.len
 obtain ⟨_, _⟩ : inI64 t.tol := t_w.2.2.2.2
 refine go Try.func19 rfl 63 rfl [wfF topoE t] [] hF M ⟨t_w, trivial⟩ trivial ?_
 intro a S
 refine rs0 ?_
 refine nbp S (x_box _ (S.e rfl) rfl) ?_; clear S; intro a u b1 S
 refine ens S (la (av rfl)) ?_; clear S; intro a u S
 refine wp_seq ?_
 refine rs S (tr (ldkw 0 rfl rfl wD28)<|tr (oc (fun S=>r11Valid _ _ S.x (.nil _) t (dn0 (S.u 0 rfl))) cB53)<|la (noti rfl)) ?_; clear S; intro a u S
 refine cd S rfl ?_ ?_
 ·intro hc0
  refine rs S (la (av rfl)) ?_; clear S; intro a u S
  refine wp_ret (then_r ?_)
  refine ret1 rfl S.s rfl ?_
  replace S := S.pk []
  refine ⟨(Sl.mk none 0 ([] : List Fail)), rfl, sl_nil, ?_, S.m.c⟩
  unfold allOf; rw [if_neg hc0]; rfl
 intro hc1
 have hV := Classical.not_not.1 hc1
 have hB : topB t := hV.1
 unfold topB at hB
 have hE : elems t = t.devs.xs.length + t.links.xs.length := rfl
 refine wp_skip (then_n ?_)
 have hn5 : t.devs.xs.length ≤ 9223372036854775807 := ((S.u 0 rfl).1).1.len
 have hn6 : t.links.xs.length ≤ 9223372036854775807 := ((S.u 0 rfl).2.1).1.len
 refine rs S (tr (fldi 0 0 rfl uT28)<|tr (ldk 0 sC23 rfl rfl rfl)<|tr (leni uT23 rfl)<|tr (fldi 0 1 rfl uT28)<|tr (ldk 0 sC24 rfl rfl rfl)<|tr (leni uT24 rfl)<|tr (addi ((t.devs.xs.length + t.links.xs.length : Nat) : Int) rfl rfl (w_i64 (by omega)))<|la (av rfl)) ?_; clear S; intro a u S
 refine rs0 ?_
 refine sp S (la (ov fun S=>x_bd S [] [.slice none 0 0, .slice none 0 0])) ?_; clear S; intro a u S
 refine nbr failE S [(⟨(Sl.mk none 0 ([])), (Sl.mk none 0 ([]))⟩ : Fail)] (x_bs S [(0, .agg #[.slice none 0 0, .slice none 0 0])] uT34 iZ41) (fun x hx => by simp only [List.mem_cons, List.not_mem_nil, or_false] at hx; rw [hx]; exact (show failE.wf _ _ (⟨(Sl.mk none 0 ([])), (Sl.mk none 0 ([]))⟩ : Fail) from ⟨sl_nil, sl_nil⟩)) ?_; clear S; intro a u b19 S
 refine ens S (la (av rfl)) ?_; clear S; intro a u S
 refine wp_seq ?_
 refine rs S (la (av rfl)) ?_; clear S; intro a u S
 refine wp_block ?_
 refine lp4 (fun (i : Nat) (o1_a : Option Addr) (o1_c : Nat) (o1 : List Fail) => [(1, pT b1 0), (2, .slice none 0 0), (3, iN (t.devs.xs.length + t.links.xs.length)), (5, iN i), (4, .slice o1_a o1.length o1_c)]) (fun (i : Nat) (o1_a : Option Addr) (o1_c : Nat) (o1 : List Fail) => [blO b1 (topoE.cells t) 28, rwO failE 41 w.heap.size o1_a o1_c o1]) (fun (i : Nat) (o1_a : Option Addr) (o1_c : Nat) (o1 : List Fail) => i ≤ elems t ∧ (i = 0 ∨ 1 ≤ t.tol) ∧ o1.map keyF = (([] : List Int) :: singles i).map (keyOf t.devs.xs.length)) (fun (i : Nat) (o1_a : Option Addr) (o1_c : Nat) (o1 : List Fail) => elems t - i) S 0 (some ⟨b19, 0, none⟩) 1 ([(⟨(Sl.mk none 0 ([])), (Sl.mk none 0 ([]))⟩ : Fail)]) (subM rfl) rfl ?_ ?_
 ·exact ⟨Nat.zero_le _, .inl rfl, rfl⟩
 clear S; intro i o1_a o1_c o1 a u S hR
 have o1_len := (S.row 1 rfl).len_le; simp only [maxLen] at o1_len
 obtain ⟨hi, hi1, ho⟩ := hR
 have hol := congrArg List.length ho; rw [List.length_map, List.length_map, List.length_cons, singles_len] at hol
 refine wp_seq ?_
 refine rs S (tr (mv rfl)<|tr (mv rfl)<|tr (lssi rfl rfl)<|tr (mv rfl)<|tr (og 23 rfl gt fun S hg=>xf (0) 4 uT28 (S.e rfl))<|tr (og 23 rfl gt fun S hg=>x_load sC3 (S.p rfl hg) ((S.k 0 rfl).cell (j := 4) rfl))<|tr (og 23 rfl gt fun S hg=>x_geq (S.p rfl hg) (S.e rfl))<|la (andi rfl rfl rfl)) ?_; clear S; intro a u S
 refine cd S rfl ?_ ?_
 ·intro hc2
  refine wp_skip (then_n (wp_seq (wp_block (r0 ?_))))
  refine sp S (tr (mv rfl)<|tr (ldkw 0 rfl rfl wD28)<|la (mv rfl)) ?_; clear S; intro a u S
  refine nbs intE S [((i : Nat) : Int)] (x_bs S [(0, iN i)] uT22 iZ3) (fun x hx => by simp only [List.mem_cons, List.not_mem_nil, or_false] at hx; rw [hx]; exact (show intE.wf _ _ ((i : Nat) : Int) from (show inI64 ((i : Nat) : Int) from ⟨by omega, by omega⟩))) ?_; clear S; intro a u b33 S
  refine cl S (rOf _ _ S.x (.nil _) t (dn0 (S.u 0 rfl)) (Sl.mk (some ⟨b33, 0, none⟩) 1 ([((i : Nat) : Int)])) (dn0 (S.u 1 rfl)) (by first | omega | (simp only [List.length_cons, List.length_nil]; omega)) (by omega)) cB54 ?_
  rintro e u ⟨r_t34, rfl, R_t34, hr_t34, T0⟩; refine ⟨_, rfl, fun a s => ?_⟩
  replace S := (S.k0 s T0).ar (wfF failE r_t34) (Enc.up _ R_t34); clear s T0 R_t34
  have hn11 : r_t34.links.xs.length ≤ 9223372036854775807 := ((S.u 2 rfl).1).1.len
  have hn12 : r_t34.devs.xs.length ≤ 9223372036854775807 := ((S.u 2 rfl).2).1.len
  refine nbs failE S [r_t34] (x_bs S [(0, .agg (failE.cells r_t34).toArray)] uT34 iZ41) (fun x hx => by simp only [List.mem_cons, List.not_mem_nil, or_false] at hx; rw [hx]; exact (show failE.wf _ _ r_t34 from ⟨(S.u 2 rfl).1, (S.u 2 rfl).2⟩)) ?_; clear S; intro a u b35 S
  refine ap (E := failE) (ys := [r_t34]) S 1 rfl uT34 iZ41 rfl rfl (show LAt failE _ _ (some ⟨b35, 0, none⟩) ([r_t34]) from ((S.u 3 rfl)).1) ((S.u 3 rfl)).2.2 (LAt.mem (show LAt failE _ _ (some ⟨b35, 0, none⟩) ([r_t34]) from ((S.u 3 rfl)).1)) ⟨by unfold maxLen; (try simp only [List.length_cons, List.length_nil, List.length_append, List.length_map]); omega, by (try simp only [List.length_cons, List.length_nil, List.length_append, List.length_map]); omega⟩ ?_; clear S; intro a u ad36 cap36 S
  refine en S (la (av rfl)) ?_; clear S; intro a u S
  refine blk_n (then_n ?_)
  refine rg S (tr (mv rfl)<|tr (addi ((i + 1 : Nat) : Int) rfl rfl (w_i64 (by omega)))<|la (av rfl)) ?_; clear S; intro a u S
  refine then_n ?_
  refine ⟨(i + 1), ad36, cap36, (o1 ++ [r_t34]), S.re (subM rfl) rfl rfl, ?_, ?_⟩
  ·refine ⟨by omega, .inr (by omega), ?_⟩
   rw [List.map_append, ho, singles_snoc, ← List.cons_append, List.map_append]; congr 1; exact congrArg (· :: []) (by assumption)
  omega
 intro hc3
 refine wp_exit (then_e (then_e (blk_e (then_n (wp_seq ?_)))))
 refine rs S (la (av rfl)) ?_; clear S; intro a u S
 refine wp_block ?_
 refine lp4 (fun (i2 : Nat) (o2_a : Option Addr) (o2_c : Nat) (o2 : List Fail) => [(1, pT b1 0), (2, .slice none 0 0), (3, iN (t.devs.xs.length + t.links.xs.length)), (6, iN i2), (4, .slice o2_a o2.length o2_c)]) (fun (i2 : Nat) (o2_a : Option Addr) (o2_c : Nat) (o2 : List Fail) => [blO b1 (topoE.cells t) 28, rwO failE 41 w.heap.size o2_a o2_c o2]) (fun (i2 : Nat) (o2_a : Option Addr) (o2_c : Nat) (o2 : List Fail) => i2 ≤ elems t ∧ (i2 = 0 ∨ 2 ≤ t.tol) ∧ o2.map keyF = (([] : List Int) :: (singles i ++ pairs (elems t) i2)).map (keyOf t.devs.xs.length)) (fun (i2 : Nat) (o2_a : Option Addr) (o2_c : Nat) (o2 : List Fail) => elems t - i2) S 0 o1_a o1_c o1 (subM rfl) rfl ?_ ?_
 ·exact ⟨Nat.zero_le _, .inl rfl, by rw [ho]; simp [pairs]⟩
 clear S; intro i2 o2_a o2_c o2 a u S hR
 have o2_len := (S.row 1 rfl).len_le; simp only [maxLen] at o2_len
 obtain ⟨hi2, hi3, ho2⟩ := hR
 refine wp_seq ?_
 refine rs S (tr (mv rfl)<|tr (mv rfl)<|tr (lssi rfl rfl)<|tr (mv rfl)<|tr (og 40 rfl gt fun S hg=>xf (0) 4 uT28 (S.e rfl))<|tr (og 40 rfl gt fun S hg=>x_load sC3 (S.p rfl hg) ((S.k 0 rfl).cell (j := 4) rfl))<|tr (og 40 rfl gt fun S hg=>x_geq (S.p rfl hg) (S.e rfl))<|la (andi rfl rfl rfl)) ?_; clear S; intro a u S
 refine cd S rfl ?_ ?_
 ·intro hc4
  refine wp_skip (then_n (wp_seq (wp_block ?_)))
  refine rs S (tr (mv rfl)<|tr (addi ((i2 + 1 : Nat) : Int) rfl rfl (w_i64 (by omega)))<|la (av rfl)) ?_; clear S; intro a u S
  refine wp_block ?_
  refine lp4 (fun (k : Nat) (o3_a : Option Addr) (o3_c : Nat) (o3 : List Fail) => [(1, pT b1 0), (2, .slice none 0 0), (3, iN (t.devs.xs.length + t.links.xs.length)), (6, iN i2), (37, iN i2), (38, iN (t.devs.xs.length + t.links.xs.length)), (39, bD (((i2 : Nat) : Int) < ((t.devs.xs.length + t.links.xs.length : Nat) : Int))), (40, bD (((i2 : Nat) : Int) < ((t.devs.xs.length + t.links.xs.length : Nat) : Int))), (41, (if (((i2 : Nat) : Int) < ((t.devs.xs.length + t.links.xs.length : Nat) : Int)) then pT b1 (0 + 4) else undef)), (42, (if (((i2 : Nat) : Int) < ((t.devs.xs.length + t.links.xs.length : Nat) : Int)) then iI t.tol else undef)), (43, (if (((i2 : Nat) : Int) < ((t.devs.xs.length + t.links.xs.length : Nat) : Int)) then bD (2 ≤ t.tol) else undef)), (44, bD ((((i2 : Nat) : Int) < ((t.devs.xs.length + t.links.xs.length : Nat) : Int)) ∧ (2 ≤ t.tol))), (47, iN i2), (48, iN (i2 + 1)), (7, iN k), (4, .slice o3_a o3.length o3_c)]) (fun (k : Nat) (o3_a : Option Addr) (o3_c : Nat) (o3 : List Fail) => [blO b1 (topoE.cells t) 28, rwO failE 41 w.heap.size o3_a o3_c o3]) (fun (k : Nat) (o3_a : Option Addr) (o3_c : Nat) (o3 : List Fail) => i2 < k ∧ k ≤ elems t ∧ o3.map keyF = (([] : List Int) :: (singles i ++ (pairs (elems t) i2 ++ pairsRow i2 k))).map (keyOf t.devs.xs.length)) (fun (k : Nat) (o3_a : Option Addr) (o3_c : Nat) (o3 : List Fail) => elems t - k) S (i2 + 1) o2_a o2_c o2 (subM rfl) rfl ?_ ?_
  ·exact ⟨Nat.lt_succ_self _, by omega, by rw [ho2, pairsRow_nil, List.append_nil]⟩
  clear S; intro k o3_a o3_c o3 a u S hR
  have o3_len := (S.row 1 rfl).len_le; simp only [maxLen] at o3_len
  obtain ⟨hk, hk2, ho3⟩ := hR
  have hol3 := congrArg List.length ho3; simp only [List.length_map, List.length_cons, List.length_append, singles_len] at hol3
  have hp2 := pairs_bd (n := elems t) (m := i2) (by omega) (by omega)
  have hp3 := pairsRow_len i2 k
  refine wp_seq ?_
  refine rs S (tr (mv rfl)<|tr (mv rfl)<|la (lssi rfl rfl)) ?_; clear S; intro a u S
  refine cd S rfl ?_ ?_
  ·intro hc5
   refine wp_skip (then_n (wp_seq (wp_block (r0 ?_))))
   refine sp S (tr (mv rfl)<|tr (ldkw 0 rfl rfl wD28)<|tr (mv rfl)<|la (mv rfl)) ?_; clear S; intro a u S
   refine nbs intE S [((i2 : Nat) : Int), ((k : Nat) : Int)] (x_bs S [(0, iN i2), (1, iN k)] uT22 iZ3) (fun x hx => by simp only [List.mem_cons, List.not_mem_nil, or_false] at hx; rcases hx with hx | hx <;> rw [hx] <;> first | exact (show intE.wf _ _ ((i2 : Nat) : Int) from (show inI64 ((i2 : Nat) : Int) from ⟨by omega, by omega⟩)) | exact (show intE.wf _ _ ((k : Nat) : Int) from (show inI64 ((k : Nat) : Int) from ⟨by omega, by omega⟩))) ?_; clear S; intro a u b58 S
   refine cl S (rOf _ _ S.x (.nil _) t (dn0 (S.u 0 rfl)) (Sl.mk (some ⟨b58, 0, none⟩) 2 ([((i2 : Nat) : Int), ((k : Nat) : Int)])) (dn0 (S.u 1 rfl)) (by first | omega | (simp only [List.length_cons, List.length_nil]; omega)) (by omega)) cB54 ?_
   rintro e u ⟨r_t59, rfl, R_t59, hr_t59, T0⟩; refine ⟨_, rfl, fun a s => ?_⟩
   replace S := (S.k0 s T0).ar (wfF failE r_t59) (Enc.up _ R_t59); clear s T0 R_t59
   have hr := hr_t59
   have hn19 : r_t59.links.xs.length ≤ 9223372036854775807 := ((S.u 2 rfl).1).1.len
   have hn20 : r_t59.devs.xs.length ≤ 9223372036854775807 := ((S.u 2 rfl).2).1.len
   refine nbs failE S [r_t59] (x_bs S [(0, .agg (failE.cells r_t59).toArray)] uT34 iZ41) (fun x hx => by simp only [List.mem_cons, List.not_mem_nil, or_false] at hx; rw [hx]; exact (show failE.wf _ _ r_t59 from ⟨(S.u 2 rfl).1, (S.u 2 rfl).2⟩)) ?_; clear S; intro a u b60 S
   refine ap (E := failE) (ys := [r_t59]) S 1 rfl uT34 iZ41 rfl rfl (show LAt failE _ _ (some ⟨b60, 0, none⟩) ([r_t59]) from ((S.u 3 rfl)).1) ((S.u 3 rfl)).2.2 (LAt.mem (show LAt failE _ _ (some ⟨b60, 0, none⟩) ([r_t59]) from ((S.u 3 rfl)).1)) ⟨by unfold maxLen; (try simp only [List.length_cons, List.length_nil, List.length_append, List.length_map]); omega, by (try simp only [List.length_cons, List.length_nil, List.length_append, List.length_map]); omega⟩ ?_; clear S; intro a u ad61 cap61 S
   refine en S (la (av rfl)) ?_; clear S; intro a u S
   refine blk_n (then_n ?_)
   refine rg S (tr (mv rfl)<|tr (addi ((k + 1 : Nat) : Int) rfl rfl (w_i64 (by omega)))<|la (av rfl)) ?_; clear S; intro a u S
   refine then_n ?_
   refine ⟨(k + 1), ad61, cap61, (o3 ++ [r_t59]), S.re (subM rfl) rfl rfl, ?_, ?_⟩
   ·refine ⟨by omega, by omega, ?_⟩
    rw [List.map_append, ho3, pairsRow_snoc hk]
    simp only [List.map_cons, List.map_append, List.map_nil, List.cons_append, List.append_assoc, hr]
   omega
  intro hc6
  refine wp_exit (then_e (then_e (blk_e (blk_n (then_n ?_)))))
  refine rg S (tr (mv rfl)<|tr (addi ((i2 + 1 : Nat) : Int) rfl rfl (w_i64 (by omega)))<|la (av rfl)) ?_; clear S; intro a u S
  refine then_n ?_
  refine ⟨(i2 + 1), o3_a, o3_c, o3, S.re (subM rfl) rfl rfl, ?_, ?_⟩
  ·refine ⟨by omega, .inr (by omega), ?_⟩
   rw [ho3, pairs_snoc, show k = elems t from by omega]
  omega
 intro hc7
 refine wp_exit (then_e (then_e (blk_e (then_n ?_))))
 refine rs S (tr (mv rfl)<|la (av rfl)) ?_; clear S; intro a u S
 refine wp_ret ?_
 replace S := S.fz 1 rfl
 refine ret1 rfl S.s rfl ?_
 replace S := S.pk []
 refine ⟨(Sl.mk o2_a o2_c o2), rfl, (S.u 1 rfl), ?_, S.m.c⟩
 have e1 : singles i = if 1 ≤ t.tol then singles (elems t) else [] := by
  split
  ·rw [show i = elems t from by omega]
  rw [show i = 0 from by omega]; rfl
 have e2 : pairs (elems t) i2 = if 2 ≤ t.tol then pairs (elems t) (elems t) else [] := by
  split
  ·rw [show i2 = elems t from by omega]
  rw [show i2 = 0 from by omega]; rfl
 unfold allOf; rw [if_pos hV, ho2, e1, e2]
set_option maxHeartbeats 2000000 in
set_option maxRecDepth 20000 in
theorem fAll (w : World) (F : Nat → Prop) (hF : Old F w) (M : MS [] w) (t : Topo) (t_w : topoE.wf (Fr F []) w.heap t) :
 Calls Try.prog 18 #[.agg (topoE.cells t).toArray] w fun e w' => ∃ (r : Sl Fail), e = .returned (sV r) ∧ (slE failE).wf (Fr F []) w'.heap r ∧ r.xs.map keyF = allOf t ∧ Tr [] w [] w' := by
 have : t.devs.xs.length ≤ 9223372036854775807 := (t_w.1).1.len
 have : t.links.xs.length ≤ 9223372036854775807 := (t_w.2.1).1.len
 have : t.edges.xs.length ≤ 9223372036854775807 := (t_w.2.2.1).1.len
 have : t.pools.xs.length ≤ 9223372036854775807 := (t_w.2.2.2.1).1.len
 obtain ⟨_, _⟩ : inI64 t.tol := t_w.2.2.2.2
 refine go Try.func18 rfl 79 rfl [wfF topoE t] [] hF M ⟨t_w, trivial⟩ trivial ?_
 intro a S
 refine rs0 ?_
 refine nbp S (x_box _ (S.e rfl) rfl) ?_; clear S; intro a u b1 S
 refine ens S (la (av rfl)) ?_; clear S; intro a u S
 refine wp_seq ?_
 refine rs S (tr (ldkw 0 rfl rfl wD28)<|tr (oc (fun S=>tValid _ _ S.x (.nil _) t (dn0 (S.u 0 rfl))) cB50)<|la (noti rfl)) ?_; clear S; intro a u S
 refine cd S rfl ?_ ?_
 ·intro hc0
  refine rs S (la (av rfl)) ?_; clear S; intro a u S
  refine wp_ret (then_r ?_)
  refine ret1 rfl S.s rfl ?_
  replace S := S.pk []
  refine ⟨(Sl.mk none 0 ([] : List Fail)), rfl, sl_nil, ?_, S.m.c⟩
  unfold allOf; rw [if_neg hc0]; rfl
 intro hc1
 have hV := Classical.not_not.1 hc1
 have hB : topB t := hV.1
 unfold topB at hB
 have hE : elems t = t.devs.xs.length + t.links.xs.length := rfl
 refine wp_skip (then_n ?_)
 have hn5 : t.devs.xs.length ≤ 9223372036854775807 := ((S.u 0 rfl).1).1.len
 have hn6 : t.links.xs.length ≤ 9223372036854775807 := ((S.u 0 rfl).2.1).1.len
 refine rs S (tr (fldi 0 0 rfl uT28)<|tr (ldk 0 sC23 rfl rfl rfl)<|tr (leni uT23 rfl)<|tr (fldi 0 1 rfl uT28)<|tr (ldk 0 sC24 rfl rfl rfl)<|tr (leni uT24 rfl)<|tr (addi ((t.devs.xs.length + t.links.xs.length : Nat) : Int) rfl rfl (w_i64 (by omega)))<|la (av rfl)) ?_; clear S; intro a u S
 refine rs0 ?_
 refine sp S (la (ov fun S=>x_bd S [] [.slice none 0 0, .slice none 0 0])) ?_; clear S; intro a u S
 refine nbr failE S [(⟨(Sl.mk none 0 ([])), (Sl.mk none 0 ([]))⟩ : Fail)] (x_bs S [(0, .agg #[.slice none 0 0, .slice none 0 0])] uT34 iZ41) (fun x hx => by simp only [List.mem_cons, List.not_mem_nil, or_false] at hx; rw [hx]; exact (show failE.wf _ _ (⟨(Sl.mk none 0 ([])), (Sl.mk none 0 ([]))⟩ : Fail) from ⟨sl_nil, sl_nil⟩)) ?_; clear S; intro a u b25 S
 refine ens S (la (av rfl)) ?_; clear S; intro a u S
 refine rs0 ?_
 refine nbr (slE intE) S [(Sl.mk none 0 ([] : List Int))] (x_bs S [(0, .slice none 0 0)] uT55 iZ22) (fun x hx => by simp only [List.mem_cons, List.not_mem_nil, or_false] at hx; rw [hx]; exact (show (slE intE).wf _ _ (Sl.mk none 0 ([] : List Int)) from sl_nil)) ?_; clear S; intro a u b26 S
 refine ens S (la (av rfl)) ?_; clear S; intro a u S
 refine wp_seq ?_
 refine rs S (la (av rfl)) ?_; clear S; intro a u S
 refine wp_block ?_
 refine lp7 (fun (z : Nat) (o1_a : Option Addr) (o1_c : Nat) (o1 : List Fail) (lv_a : Option Addr) (lv_c : Nat) (lv : List (Sl Int)) => [(1, pT b1 0), (2, .slice none 0 0), (3, iN (t.devs.xs.length + t.links.xs.length)), (6, iN (z + 1)), (4, .slice o1_a o1.length o1_c), (5, .slice lv_a lv.length lv_c)]) (fun (z : Nat) (o1_a : Option Addr) (o1_c : Nat) (o1 : List Fail) (lv_a : Option Addr) (lv_c : Nat) (lv : List (Sl Int)) => [blO b1 (topoE.cells t) 28, rwO failE 41 w.heap.size o1_a o1_c o1, rwO (slE intE) 22 w.heap.size lv_a lv_c lv]) (fun (z : Nat) (o1_a : Option Addr) (o1_c : Nat) (o1 : List Fail) (lv_a : Option Addr) (lv_c : Nat) (lv : List (Sl Int)) => (z : Int) ≤ t.tol ∧ lv.map (fun l => l.xs) = lev (elems t) z ∧ o1.map keyF = (outTo (elems t) z).map (keyOf t.devs.xs.length)) (fun (z : Nat) (o1_a : Option Addr) (o1_c : Nat) (o1 : List Fail) (lv_a : Option Addr) (lv_c : Nat) (lv : List (Sl Int)) => 2 - z) S 0 (some ⟨b25, 0, none⟩) 1 ([(⟨(Sl.mk none 0 ([])), (Sl.mk none 0 ([]))⟩ : Fail)]) (some ⟨b26, 0, none⟩) 1 ([(Sl.mk none 0 ([] : List Int))]) (subM rfl) rfl ?_ ?_
 ·exact ⟨by omega, rfl, rfl⟩
 clear S; intro z o1_a o1_c o1 lv_a lv_c lv a u S hR
 have o1_len := (S.row 1 rfl).len_le; simp only [maxLen] at o1_len
 have lv_len := (S.row 2 rfl).len_le; simp only [maxLen] at lv_len
 obtain ⟨hz, hlv, ho⟩ := hR
 have hlvl := congrArg List.length hlv; rw [List.length_map] at hlvl
 have hol := congrArg List.length ho; rw [List.length_map, List.length_map] at hol
 have hob := outTo_len (n := elems t) (s := z) (by omega) (by omega)
 refine wp_seq ?_
 refine rs S (tr (mv rfl)<|tr (fldi 0 4 rfl uT28)<|tr (ldk 0 sC3 rfl rfl rfl)<|la (leqi rfl rfl)) ?_; clear S; intro a u S
 refine cd S rfl ?_ ?_
 ·intro hc2
  refine wp_skip (then_n (wp_seq (wp_block ?_)))
  refine rs S (la (av rfl)) ?_; clear S; intro a u S
  refine wp_seq ?_
  refine rs S (tr (mv rfl)<|tr (leni uT55 rfl)<|la (mv rfl)) ?_; clear S; intro a u S
  refine wp_block ?_
  replace S := S.nr (slE intE) 22
  refine lp4 (fun (j : Nat) (nx_a : Option Addr) (nx_c : Nat) (nx : List (Sl Int)) => [(1, pT b1 0), (2, .slice none 0 0), (3, iN (t.devs.xs.length + t.links.xs.length)), (6, iN (z + 1)), (4, .slice o1_a o1.length o1_c), (5, .slice lv_a lv.length lv_c), (27, iN (z + 1)), (28, pT b1 (0 + 4)), (29, iI t.tol), (30, bD ((((z + 1) : Nat) : Int) ≤ t.tol)), (33, .slice lv_a lv.length lv_c), (34, iN lv.length), (35, iN j), (7, .slice nx_a nx.length nx_c)]) (fun (j : Nat) (nx_a : Option Addr) (nx_c : Nat) (nx : List (Sl Int)) => [blO b1 (topoE.cells t) 28, rwO failE 41 w.heap.size o1_a o1_c o1, rwO (slE intE) 22 w.heap.size lv_a lv_c lv, rwO (slE intE) 22 w.heap.size nx_a nx_c nx]) (fun (j : Nat) (nx_a : Option Addr) (nx_c : Nat) (nx : List (Sl Int)) => j ≤ (lev (elems t) z).length ∧ nx.map (fun l => l.xs) = ((lev (elems t) z).take j).flatMap (fun l => nxTo l (elems t))) (fun (j : Nat) (nx_a : Option Addr) (nx_c : Nat) (nx : List (Sl Int)) => (lev (elems t) z).length - j) S 0 none 0 ([]) (subM rfl) rfl ?_ ?_
  ·exact ⟨Nat.zero_le _, rfl⟩
  clear S; intro j nx_a nx_c nx a u S hR
  have nx_len := (S.row 3 rfl).len_le; simp only [maxLen] at nx_len
  obtain ⟨hj, hnx⟩ := hR
  have hnl := congrArg List.length hnx; rw [List.length_map] at hnl
  have hnb := levnx_len (n := elems t) (s := z) (j := j) (by omega) (by omega)
  refine rs S (la (lssi rfl rfl)) ?_; clear S; intro a u S
  refine wp_seq ?_
  refine cd S rfl ?_ ?_
  ·intro hc3
   have hLL : (lv.getD j (slE intE).dflt).xs = (lev (elems t) z).getD j [] := by rw [← hlv]; exact (getD_map (f := fun l : Sl Int => l.xs) (by omega) []).symm
   have hLm : (lev (elems t) z).getD j [] ∈ lev (elems t) z := getD_mem (by omega)
   rw [← hLL] at hLm
   have hLl := lev_mem hLm
   have hLf := firstOf_le hLm
   refine wp_skip (then_n (wp_seq (wp_block ?_)))
   have hn15 : ((lv.getD j (slE intE).dflt).xs).length ≤ 9223372036854775807 := (((S.row 2 rfl).wfi j (by omega))).1.len
   refine rs S (tr (ov fun S=>x_idx uT55 sZ22 (S.e rfl) (S.e rfl) j rfl (by omega) (row_off (S.row 2 rfl) (m := j) (by omega)))<|tr (ov fun S=>x_load sC22 (S.e rfl) (((S.row 2 rfl).latz (by first | decide | exact Nat.one_pos)).cell j (by omega) 0 _ rfl))<|la (av rfl)) ?_; clear S; intro a u S
   refine rs S (la (av rfl)) ?_; clear S; intro a u S
   refine wp_seq ?_
   refine rs S (tr (mv rfl)<|tr (leni uT22 rfl)<|la (gtri rfl rfl)) ?_; clear S; intro a u S
   refine cd S rfl ?_ ?_
   ·intro hc4
    have hx := hLl.2 _ (getD_mem (d := intE.dflt) (i := ((((lv.getD j (slE intE).dflt).xs.length : Nat) : Int) - 1).toNat) (by omega))
    obtain ⟨hl19, hu19⟩ : inI64 (((lv.getD j (slE intE).dflt).xs).getD ((((((lv.getD j (slE intE).dflt).xs.length : Nat) : Int) - 1)).toNat) intE.dflt) := id ((((S.row 2 rfl).wfi j (by omega))).1.wf (((((lv.getD j (slE intE).dflt).xs.length : Nat) : Int) - 1)).toNat (by omega))
    refine rg S (tr (mv rfl)<|tr (mv rfl)<|tr (leni uT22 rfl)<|tr (subi ((((lv.getD j (slE intE).dflt).xs.length : Nat) : Int) - 1) rfl rfl (w_i64 (by omega)))<|tr (idxi uT22 sZ3 rfl rfl (((((lv.getD j (slE intE).dflt).xs.length : Nat) : Int) - 1)).toNat (by omega) (by omega) ((((S.row 2 rfl).wfi j (by omega))).1.adr (i := (((((lv.getD j (slE intE).dflt).xs.length : Nat) : Int) - 1)).toNat) (by omega)))<|tr (ov fun S=>x_load sC3 (S.e rfl) ((((S.row 2 rfl).wfi j (by omega))).1.cell (((((lv.getD j (slE intE).dflt).xs.length : Nat) : Int) - 1)).toNat (by omega) 0 _ rfl))<|tr (addi ((((lv.getD j (slE intE).dflt).xs).getD ((((((lv.getD j (slE intE).dflt).xs.length : Nat) : Int) - 1)).toNat) intE.dflt) + 1) rfl rfl (w_i64 (by omega)))<|la (av rfl)) ?_; clear S; intro a u S
    refine then_n ?_
    refine rs S (tr (mv rfl)<|la (av rfl)) ?_; clear S; intro a u S
    refine wp_block ?_
    have hf := firstOf_pos (l := (lv.getD j (slE intE).dflt).xs) (by omega) (fun x hx => (hLl.2 x hx).1)
    have hf2 : ((((lv.getD j (slE intE).dflt).xs).getD ((((((lv.getD j (slE intE).dflt).xs.length : Nat) : Int) - 1)).toNat) intE.dflt) + 1) = ((firstOf (lv.getD j (slE intE).dflt).xs : Nat) : Int) := by
     rw [hf, show ((((lv.getD j (slE intE).dflt).xs.length : Nat) : Int) - 1).toNat = (lv.getD j (slE intE).dflt).xs.length - 1 from by omega]; rfl
    refine lp4 (fun (e : Int) (n2_a : Option Addr) (n2_c : Nat) (n2 : List (Sl Int)) => [(1, pT b1 0), (2, .slice none 0 0), (3, iN (t.devs.xs.length + t.links.xs.length)), (6, iN (z + 1)), (4, .slice o1_a o1.length o1_c), (5, .slice lv_a lv.length lv_c), (27, iN (z + 1)), (28, pT b1 (0 + 4)), (29, iI t.tol), (30, bD ((((z + 1) : Nat) : Int) ≤ t.tol)), (33, .slice lv_a lv.length lv_c), (34, iN lv.length), (35, iN j), (36, bD (((j : Nat) : Int) < ((lv.length : Nat) : Int))), (37, pT (blk lv_a) (0 + j * 1)), (38, sV (lv.getD j (slE intE).dflt)), (9, sV (lv.getD j (slE intE).dflt)), (10, iI ((((lv.getD j (slE intE).dflt).xs).getD ((((((lv.getD j (slE intE).dflt).xs.length : Nat) : Int) - 1)).toNat) intE.dflt) + 1)), (39, sV (lv.getD j (slE intE).dflt)), (40, iN (lv.getD j (slE intE).dflt).xs.length), (41, bD (0 < (((lv.getD j (slE intE).dflt).xs.length : Nat) : Int))), (42, sV (lv.getD j (slE intE).dflt)), (43, sV (lv.getD j (slE intE).dflt)), (44, iN (lv.getD j (slE intE).dflt).xs.length), (45, iI ((((lv.getD j (slE intE).dflt).xs.length : Nat) : Int) - 1)), (46, pT (blk ((lv.getD j (slE intE).dflt).a)) (off ((lv.getD j (slE intE).dflt).a) + (((((lv.getD j (slE intE).dflt).xs.length : Nat) : Int) - 1)).toNat * 1)), (47, iI (((lv.getD j (slE intE).dflt).xs).getD ((((((lv.getD j (slE intE).dflt).xs.length : Nat) : Int) - 1)).toNat) intE.dflt)), (48, iI ((((lv.getD j (slE intE).dflt).xs).getD ((((((lv.getD j (slE intE).dflt).xs.length : Nat) : Int) - 1)).toNat) intE.dflt) + 1)), (49, iI ((((lv.getD j (slE intE).dflt).xs).getD ((((((lv.getD j (slE intE).dflt).xs.length : Nat) : Int) - 1)).toNat) intE.dflt) + 1)), (11, iI e), (7, .slice n2_a n2.length n2_c)]) (fun (e : Int) (n2_a : Option Addr) (n2_c : Nat) (n2 : List (Sl Int)) => [blO b1 (topoE.cells t) 28, rwO failE 41 w.heap.size o1_a o1_c o1, rwO (slE intE) 22 w.heap.size lv_a lv_c lv, rwO (slE intE) 22 w.heap.size n2_a n2_c n2]) (fun (e : Int) (n2_a : Option Addr) (n2_c : Nat) (n2 : List (Sl Int)) => ((firstOf (lv.getD j (slE intE).dflt).xs : Nat) : Int) ≤ e ∧ e ≤ elems t ∧ n2.map (fun l => l.xs) = ((lev (elems t) z).take j).flatMap (fun l => nxTo l (elems t)) ++ nxTo (lv.getD j (slE intE).dflt).xs e.toNat) (fun (e : Int) (n2_a : Option Addr) (n2_c : Nat) (n2 : List (Sl Int)) => ((elems t : Int) - e).toNat) S ((((lv.getD j (slE intE).dflt).xs).getD ((((((lv.getD j (slE intE).dflt).xs.length : Nat) : Int) - 1)).toNat) intE.dflt) + 1) nx_a nx_c nx (subM rfl) rfl ?_ ?_
    ·refine ⟨by omega, by omega, ?_⟩
     rw [show (((((lv.getD j (slE intE).dflt).xs).getD ((((((lv.getD j (slE intE).dflt).xs.length : Nat) : Int) - 1)).toNat) intE.dflt) + 1) : Int).toNat = firstOf (lv.getD j (slE intE).dflt).xs from by omega, nxTo_nil, List.append_nil]; exact hnx
    clear S; intro e n2_a n2_c n2 a u S hR
    have n2_len := (S.row 3 rfl).len_le; simp only [maxLen] at n2_len
    obtain ⟨he, he2, hn2⟩ := hR
    have hn2l := congrArg List.length hn2; rw [List.length_map, List.length_append] at hn2l
    have hn2b := nxTo_len (lv.getD j (slE intE).dflt).xs e.toNat
    refine wp_seq ?_
    refine rs S (tr (mv rfl)<|tr (mv rfl)<|la (lssi rfl rfl)) ?_; clear S; intro a u S
    refine cd S rfl ?_ ?_
    ·intro hc5
     refine wp_skip (then_n (wp_seq (wp_block (r0 ?_))))
     refine sp S (tr (mv rfl)<|la (mv rfl)) ?_; clear S; intro a u S
     refine cl S (sClone _ _ S.x (.nil _) (lv.getD j (slE intE).dflt) (dn0 ((S.row 2 rfl).wfi j (by omega))) (by first | omega | (simp only [List.length_cons, List.length_nil]; omega))) cB51 ?_
     rintro e u ⟨ra_t57, rc_t57, rfl, R_t57, T0⟩; refine ⟨_, rfl, fun a s => ?_⟩
     replace S := S.kr [⟨_, intE, 3, ra_t57, rc_t57, (lv.getD j (slE intE).dflt).xs⟩] s T0 ⟨R_t57, trivial⟩; clear s T0 R_t57
     refine sp S (la (mv rfl)) ?_; clear S; intro a u S
     refine nbs intE S [e] (x_bs S [(0, iI e)] uT22 iZ3) (fun x hx => by simp only [List.mem_cons, List.not_mem_nil, or_false] at hx; rw [hx]; exact (show intE.wf _ _ e from (show inI64 e from ⟨by omega, by omega⟩))) ?_; clear S; intro a u b59 S
     refine ap (E := intE) (ys := [e]) S 4 rfl uT22 iZ3 rfl rfl (show LAt intE _ _ (some ⟨b59, 0, none⟩) ([e]) from ((S.u 1 rfl)).1) ((S.u 1 rfl)).2.2 (LAt.mem (show LAt intE _ _ (some ⟨b59, 0, none⟩) ([e]) from ((S.u 1 rfl)).1)) ⟨by unfold maxLen; (try simp only [List.length_cons, List.length_nil, List.length_append, List.length_map]); omega, by (try simp only [List.length_cons, List.length_nil, List.length_append, List.length_map]); omega⟩ ?_; clear S; intro a u ad60 cap60 S
     replace S := S.fz 4 rfl
     refine nbs (slE intE) S [(Sl.mk ad60 cap60 ((lv.getD j (slE intE).dflt).xs ++ [e]))] (x_bs S [(0, .slice ad60 (((lv.getD j (slE intE).dflt).xs ++ [e]).length) cap60)] uT55 iZ22) (fun x hx => by simp only [List.mem_cons, List.not_mem_nil, or_false] at hx; rw [hx]; exact (show (slE intE).wf _ _ (Sl.mk ad60 cap60 ((lv.getD j (slE intE).dflt).xs ++ [e])) from (S.u 2 rfl))) ?_; clear S; intro a u b61 S
     refine ap (E := (slE intE)) (ys := [(Sl.mk ad60 cap60 ((lv.getD j (slE intE).dflt).xs ++ [e]))]) S 3 rfl uT55 iZ22 rfl rfl (show LAt (slE intE) _ _ (some ⟨b61, 0, none⟩) ([(Sl.mk ad60 cap60 ((lv.getD j (slE intE).dflt).xs ++ [e]))]) from ((S.u 3 rfl)).1) ((S.u 3 rfl)).2.2 (LAt.mem (show LAt (slE intE) _ _ (some ⟨b61, 0, none⟩) ([(Sl.mk ad60 cap60 ((lv.getD j (slE intE).dflt).xs ++ [e]))]) from ((S.u 3 rfl)).1)) ⟨by unfold maxLen; (try simp only [List.length_cons, List.length_nil, List.length_append, List.length_map]); omega, by (try simp only [List.length_cons, List.length_nil, List.length_append, List.length_map]); omega⟩ ?_; clear S; intro a u ad62 cap62 S
     refine en S (la (av rfl)) ?_; clear S; intro a u S
     refine blk_n (then_n ?_)
     refine rg S (tr (mv rfl)<|tr (addi (e + 1) rfl rfl (w_i64 (by omega)))<|la (av rfl)) ?_; clear S; intro a u S
     refine then_n ?_
     refine ⟨(e + 1), ad62, cap62, (n2 ++ [(Sl.mk ad60 cap60 ((lv.getD j (slE intE).dflt).xs ++ [e]))]), S.re (subM rfl) rfl rfl, ?_, ?_⟩
     ·refine ⟨by omega, by omega, ?_⟩
      rw [List.map_append, hn2, show (e + 1).toNat = e.toNat + 1 from by omega, nxTo_snoc (by omega), ← List.append_assoc, show ((e.toNat : Nat) : Int) = e from by omega]; rfl
     omega
    intro hc6
    refine wp_exit (then_e (then_e (blk_e (blk_n (then_n ?_)))))
    refine rg S (tr (addi ((j + 1 : Nat) : Int) rfl rfl (w_i64 (by omega)))<|la (mv rfl)) ?_; clear S; intro a u S
    refine then_n ?_
    refine ⟨(j + 1), n2_a, n2_c, n2, S.re (subM rfl) rfl rfl, ?_, ?_⟩
    ·refine ⟨by omega, ?_⟩
     rw [hn2, flat_snocD [] (by omega), ← hLL, show e.toNat = elems t from by omega]
    omega
   intro hc7
   refine wp_skip (then_n ?_)
   refine rs S (tr (mv rfl)<|la (av rfl)) ?_; clear S; intro a u S
   refine wp_block ?_
   have hf2 : (0 : Int) = ((firstOf (lv.getD j (slE intE).dflt).xs : Nat) : Int) := by
    rw [show (lv.getD j (slE intE).dflt).xs = [] from List.length_eq_zero_iff.1 (by omega)]; rfl
   refine lp4 (fun (e : Int) (n2_a : Option Addr) (n2_c : Nat) (n2 : List (Sl Int)) => [(1, pT b1 0), (2, .slice none 0 0), (3, iN (t.devs.xs.length + t.links.xs.length)), (6, iN (z + 1)), (4, .slice o1_a o1.length o1_c), (5, .slice lv_a lv.length lv_c), (27, iN (z + 1)), (28, pT b1 (0 + 4)), (29, iI t.tol), (30, bD ((((z + 1) : Nat) : Int) ≤ t.tol)), (33, .slice lv_a lv.length lv_c), (34, iN lv.length), (35, iN j), (36, bD (((j : Nat) : Int) < ((lv.length : Nat) : Int))), (37, pT (blk lv_a) (0 + j * 1)), (38, sV (lv.getD j (slE intE).dflt)), (9, sV (lv.getD j (slE intE).dflt)), (10, iI 0), (39, sV (lv.getD j (slE intE).dflt)), (40, iN (lv.getD j (slE intE).dflt).xs.length), (41, bD (0 < (((lv.getD j (slE intE).dflt).xs.length : Nat) : Int))), (49, iI 0), (11, iI e), (7, .slice n2_a n2.length n2_c)]) (fun (e : Int) (n2_a : Option Addr) (n2_c : Nat) (n2 : List (Sl Int)) => [blO b1 (topoE.cells t) 28, rwO failE 41 w.heap.size o1_a o1_c o1, rwO (slE intE) 22 w.heap.size lv_a lv_c lv, rwO (slE intE) 22 w.heap.size n2_a n2_c n2]) (fun (e : Int) (n2_a : Option Addr) (n2_c : Nat) (n2 : List (Sl Int)) => ((firstOf (lv.getD j (slE intE).dflt).xs : Nat) : Int) ≤ e ∧ e ≤ elems t ∧ n2.map (fun l => l.xs) = ((lev (elems t) z).take j).flatMap (fun l => nxTo l (elems t)) ++ nxTo (lv.getD j (slE intE).dflt).xs e.toNat) (fun (e : Int) (n2_a : Option Addr) (n2_c : Nat) (n2 : List (Sl Int)) => ((elems t : Int) - e).toNat) S 0 nx_a nx_c nx (subM rfl) rfl ?_ ?_
   ·refine ⟨by omega, by omega, ?_⟩
    rw [show (0 : Int).toNat = firstOf (lv.getD j (slE intE).dflt).xs from by omega, nxTo_nil, List.append_nil]; exact hnx
   clear S; intro e n2_a n2_c n2 a u S hR
   have n2_len := (S.row 3 rfl).len_le; simp only [maxLen] at n2_len
   obtain ⟨he, he2, hn2⟩ := hR
   have hn2l := congrArg List.length hn2; rw [List.length_map, List.length_append] at hn2l
   have hn2b := nxTo_len (lv.getD j (slE intE).dflt).xs e.toNat
   refine wp_seq ?_
   refine rs S (tr (mv rfl)<|tr (mv rfl)<|la (lssi rfl rfl)) ?_; clear S; intro a u S
   refine cd S rfl ?_ ?_
   ·intro hc8
    refine wp_skip (then_n (wp_seq (wp_block (r0 ?_))))
    refine sp S (tr (mv rfl)<|la (mv rfl)) ?_; clear S; intro a u S
    refine cl S (sClone _ _ S.x (.nil _) (lv.getD j (slE intE).dflt) (dn0 ((S.row 2 rfl).wfi j (by omega))) (by first | omega | (simp only [List.length_cons, List.length_nil]; omega))) cB51 ?_
    rintro e u ⟨ra_t57, rc_t57, rfl, R_t57, T0⟩; refine ⟨_, rfl, fun a s => ?_⟩
    replace S := S.kr [⟨_, intE, 3, ra_t57, rc_t57, (lv.getD j (slE intE).dflt).xs⟩] s T0 ⟨R_t57, trivial⟩; clear s T0 R_t57
    refine sp S (la (mv rfl)) ?_; clear S; intro a u S
    refine nbs intE S [e] (x_bs S [(0, iI e)] uT22 iZ3) (fun x hx => by simp only [List.mem_cons, List.not_mem_nil, or_false] at hx; rw [hx]; exact (show intE.wf _ _ e from (show inI64 e from ⟨by omega, by omega⟩))) ?_; clear S; intro a u b59 S
    refine ap (E := intE) (ys := [e]) S 4 rfl uT22 iZ3 rfl rfl (show LAt intE _ _ (some ⟨b59, 0, none⟩) ([e]) from ((S.u 1 rfl)).1) ((S.u 1 rfl)).2.2 (LAt.mem (show LAt intE _ _ (some ⟨b59, 0, none⟩) ([e]) from ((S.u 1 rfl)).1)) ⟨by unfold maxLen; (try simp only [List.length_cons, List.length_nil, List.length_append, List.length_map]); omega, by (try simp only [List.length_cons, List.length_nil, List.length_append, List.length_map]); omega⟩ ?_; clear S; intro a u ad60 cap60 S
    replace S := S.fz 4 rfl
    refine nbs (slE intE) S [(Sl.mk ad60 cap60 ((lv.getD j (slE intE).dflt).xs ++ [e]))] (x_bs S [(0, .slice ad60 (((lv.getD j (slE intE).dflt).xs ++ [e]).length) cap60)] uT55 iZ22) (fun x hx => by simp only [List.mem_cons, List.not_mem_nil, or_false] at hx; rw [hx]; exact (show (slE intE).wf _ _ (Sl.mk ad60 cap60 ((lv.getD j (slE intE).dflt).xs ++ [e])) from (S.u 2 rfl))) ?_; clear S; intro a u b61 S
    refine ap (E := (slE intE)) (ys := [(Sl.mk ad60 cap60 ((lv.getD j (slE intE).dflt).xs ++ [e]))]) S 3 rfl uT55 iZ22 rfl rfl (show LAt (slE intE) _ _ (some ⟨b61, 0, none⟩) ([(Sl.mk ad60 cap60 ((lv.getD j (slE intE).dflt).xs ++ [e]))]) from ((S.u 3 rfl)).1) ((S.u 3 rfl)).2.2 (LAt.mem (show LAt (slE intE) _ _ (some ⟨b61, 0, none⟩) ([(Sl.mk ad60 cap60 ((lv.getD j (slE intE).dflt).xs ++ [e]))]) from ((S.u 3 rfl)).1)) ⟨by unfold maxLen; (try simp only [List.length_cons, List.length_nil, List.length_append, List.length_map]); omega, by (try simp only [List.length_cons, List.length_nil, List.length_append, List.length_map]); omega⟩ ?_; clear S; intro a u ad62 cap62 S
    refine en S (la (av rfl)) ?_; clear S; intro a u S
    refine blk_n (then_n ?_)
    refine rg S (tr (mv rfl)<|tr (addi (e + 1) rfl rfl (w_i64 (by omega)))<|la (av rfl)) ?_; clear S; intro a u S
    refine then_n ?_
    refine ⟨(e + 1), ad62, cap62, (n2 ++ [(Sl.mk ad60 cap60 ((lv.getD j (slE intE).dflt).xs ++ [e]))]), S.re (subM rfl) rfl rfl, ?_, ?_⟩
    ·refine ⟨by omega, by omega, ?_⟩
     rw [List.map_append, hn2, show (e + 1).toNat = e.toNat + 1 from by omega, nxTo_snoc (by omega), ← List.append_assoc, show ((e.toNat : Nat) : Int) = e from by omega]; rfl
    omega
   intro hc9
   refine wp_exit (then_e (then_e (blk_e (blk_n (then_n ?_)))))
   refine rg S (tr (addi ((j + 1 : Nat) : Int) rfl rfl (w_i64 (by omega)))<|la (mv rfl)) ?_; clear S; intro a u S
   refine then_n ?_
   refine ⟨(j + 1), n2_a, n2_c, n2, S.re (subM rfl) rfl rfl, ?_, ?_⟩
   ·refine ⟨by omega, ?_⟩
    rw [hn2, flat_snocD [] (by omega), ← hLL, show e.toNat = elems t from by omega]
   omega
  intro hc10
  refine wp_exit (then_e (then_e (blk_e (then_n ?_))))
  refine rs S (tr (mv rfl)<|la (av rfl)) ?_; clear S; intro a u S
  refine rs S (tr (mv rfl)<|tr (leni uT55 rfl)<|la (mv rfl)) ?_; clear S; intro a u S
  refine wp_block ?_
  refine lp4 (fun (j2 : Nat) (o2_a : Option Addr) (o2_c : Nat) (o2 : List Fail) => [(1, pT b1 0), (2, .slice none 0 0), (3, iN (t.devs.xs.length + t.links.xs.length)), (6, iN (z + 1)), (5, .slice nx_a nx.length nx_c), (27, iN (z + 1)), (28, pT b1 (0 + 4)), (29, iI t.tol), (30, bD ((((z + 1) : Nat) : Int) ≤ t.tol)), (33, .slice lv_a lv.length lv_c), (34, iN lv.length), (35, iN j), (7, .slice nx_a nx.length nx_c), (36, bD (((j : Nat) : Int) < ((lv.length : Nat) : Int))), (64, .slice nx_a nx.length nx_c), (65, .slice nx_a nx.length nx_c), (66, iN nx.length), (67, iN j2), (4, .slice o2_a o2.length o2_c)]) (fun (j2 : Nat) (o2_a : Option Addr) (o2_c : Nat) (o2 : List Fail) => [blO b1 (topoE.cells t) 28, rwO failE 41 w.heap.size o2_a o2_c o2, rwO (slE intE) 22 w.heap.size lv_a lv_c lv, rwO (slE intE) 22 w.heap.size nx_a nx_c nx]) (fun (j2 : Nat) (o2_a : Option Addr) (o2_c : Nat) (o2 : List Fail) => j2 ≤ (lev (elems t) (z + 1)).length ∧ o2.map keyF = (outTo (elems t) z ++ (lev (elems t) (z + 1)).take j2).map (keyOf t.devs.xs.length)) (fun (j2 : Nat) (o2_a : Option Addr) (o2_c : Nat) (o2 : List Fail) => (lev (elems t) (z + 1)).length - j2) S 0 o1_a o1_c o1 (subM rfl) rfl ?_ ?_
  ·exact ⟨Nat.zero_le _, by rw [List.take_zero, List.append_nil]; exact ho⟩
  clear S; intro j2 o2_a o2_c o2 a u S hR
  have o2_len := (S.row 1 rfl).len_le; simp only [maxLen] at o2_len
  obtain ⟨hj2, ho2⟩ := hR
  have hol2 := congrArg List.length ho2; rw [List.length_map, List.length_map, List.length_append, List.length_take] at hol2
  have hnx2 : nx.map (fun l => l.xs) = lev (elems t) (z + 1) := by rw [hnx, List.take_of_length_le (by omega)]; rfl
  have hnl2 := congrArg List.length hnx2; rw [List.length_map] at hnl2
  have hlb := (lev_len (n := elems t) (s := z + 1) (by omega) (by omega)).1
  refine rs S (la (lssi rfl rfl)) ?_; clear S; intro a u S
  refine wp_seq ?_
  refine cd S rfl ?_ ?_
  ·intro hc11
   have hq := (lev_mem (getD_mem (d := []) (show j2 < (lev (elems t) (z + 1)).length by omega))).1
   rw [← hnx2, getD_map (f := fun l : Sl Int => l.xs) (d := (slE intE).dflt) (by omega) []] at hq
   refine wp_skip (then_n (wp_seq (wp_block ?_)))
   have hn34 : ((nx.getD j2 (slE intE).dflt).xs).length ≤ 9223372036854775807 := (((S.row 3 rfl).wfi j2 (by omega))).1.len
   refine rs S (tr (ov fun S=>x_idx uT55 sZ22 (S.e rfl) (S.e rfl) j2 rfl (by omega) (row_off (S.row 3 rfl) (m := j2) (by omega)))<|tr (ov fun S=>x_load sC22 (S.e rfl) (((S.row 3 rfl).latz (by first | decide | exact Nat.one_pos)).cell j2 (by omega) 0 _ rfl))<|la (av rfl)) ?_; clear S; intro a u S
   refine r0 ?_
   refine sp S (tr (mv rfl)<|tr (ldkw 0 rfl rfl wD28)<|la (mv rfl)) ?_; clear S; intro a u S
   refine cl S (fState _ _ S.x (.nil _) t (dn0 (S.u 0 rfl)) (nx.getD j2 (slE intE).dflt) (dn0 ((S.row 3 rfl).wfi j2 (by omega))) (by first | omega | (simp only [List.length_cons, List.length_nil]; omega)) (by omega)) cB52 ?_
   rintro e u ⟨r_t74, rfl, R_t74, hr_t74, T0⟩; refine ⟨_, rfl, fun a s => ?_⟩
   replace S := (S.k0 s T0).ar (wfF failE r_t74) (Enc.up _ R_t74); clear s T0 R_t74
   have hr := hr_t74
   have hn36 : r_t74.links.xs.length ≤ 9223372036854775807 := ((S.u 1 rfl).1).1.len
   have hn37 : r_t74.devs.xs.length ≤ 9223372036854775807 := ((S.u 1 rfl).2).1.len
   refine nbs failE S [r_t74] (x_bs S [(0, .agg (failE.cells r_t74).toArray)] uT34 iZ41) (fun x hx => by simp only [List.mem_cons, List.not_mem_nil, or_false] at hx; rw [hx]; exact (show failE.wf _ _ r_t74 from ⟨(S.u 1 rfl).1, (S.u 1 rfl).2⟩)) ?_; clear S; intro a u b75 S
   refine ap (E := failE) (ys := [r_t74]) S 1 rfl uT34 iZ41 rfl rfl (show LAt failE _ _ (some ⟨b75, 0, none⟩) ([r_t74]) from ((S.u 2 rfl)).1) ((S.u 2 rfl)).2.2 (LAt.mem (show LAt failE _ _ (some ⟨b75, 0, none⟩) ([r_t74]) from ((S.u 2 rfl)).1)) ⟨by unfold maxLen; (try simp only [List.length_cons, List.length_nil, List.length_append, List.length_map]); omega, by (try simp only [List.length_cons, List.length_nil, List.length_append, List.length_map]); omega⟩ ?_; clear S; intro a u ad76 cap76 S
   refine en S (la (av rfl)) ?_; clear S; intro a u S
   refine blk_n (then_n ?_)
   refine rg S (tr (addi ((j2 + 1 : Nat) : Int) rfl rfl (w_i64 (by omega)))<|la (mv rfl)) ?_; clear S; intro a u S
   refine then_n ?_
   refine ⟨(j2 + 1), ad76, cap76, (o2 ++ [r_t74]), S.re (subM rfl) rfl rfl, ?_, ?_⟩
   ·refine ⟨by omega, ?_⟩
    rw [List.map_append, ho2, take_snocD [] (by omega), ← hnx2, getD_map (f := fun l : Sl Int => l.xs) (d := (slE intE).dflt) (by omega) []]
    simp only [List.map_append, List.append_assoc, List.map_cons, List.map_nil, hr]
   omega
  intro hc12
  refine wp_exit (then_e (then_e (blk_e (blk_n (then_n ?_)))))
  refine rg S (tr (mv rfl)<|tr (addi (((z + 1) + 1 : Nat) : Int) rfl rfl (w_i64 (by omega)))<|la (av rfl)) ?_; clear S; intro a u S
  replace S := S.pk [0, 1, 3]
  refine then_n ?_
  refine ⟨(z + 1), o2_a, o2_c, o2, nx_a, nx_c, nx, S.re (subM rfl) rfl rfl, ?_, ?_⟩
  ·refine ⟨by omega, ?_, by rw [ho2, outTo_snoc, List.take_of_length_le (by omega)]⟩
   rw [hnx, List.take_of_length_le (by omega)]; rfl
  omega
 intro hc13
 refine wp_exit (then_e (then_e (blk_e (then_n ?_))))
 refine rs S (tr (mv rfl)<|la (av rfl)) ?_; clear S; intro a u S
 refine wp_ret ?_
 replace S := S.fz 1 rfl
 refine ret1 rfl S.s rfl ?_
 replace S := S.pk []
 refine ⟨(Sl.mk o1_a o1_c o1), rfl, (S.u 1 rfl), ?_, S.m.c⟩
 rw [all_prog hV (s := z) (by omega)]; exact ho
end Go.Proofs.Ytfanmniaolncbaa.V
