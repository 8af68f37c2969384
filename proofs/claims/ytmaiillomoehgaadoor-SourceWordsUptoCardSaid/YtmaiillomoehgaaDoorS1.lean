/- lists of texts and of lines are compared -/
import Derived.Test.YtmaiillomoehgaaDoorSB
namespace Go.Proofs.YtmaiillomoehgaaDoor.V
open Go.RowKit Go.Proofs.YtmaiillomoehgaaDoor
set_option linter.unusedVariables false
set_option linter.unusedSimpArgs false
theorem getD_mapL {xs : List Line} {k : Nat} (hk : k < xs.length) : (xs.map keyL).getD k (0, []) = keyL (xs.getD k lineE.dflt) := by
 rw [List.getD_eq_getElem?_getD, List.getD_eq_getElem?_getD, List.getElem?_map, List.getElem?_eq_getElem hk]; rfl
theorem list_ext' {α : Type} {l m : List α} (d : α) (hl : l.length = m.length) (h : ∀ i, i < l.length → l.getD i d = m.getD i d) : l = m := by
 apply List.ext_getElem hl
 intro i h1 h2
 have := h i h1
 rwa [List.getD_eq_getElem?_getD, List.getD_eq_getElem?_getD, List.getElem?_eq_getElem h1, List.getElem?_eq_getElem h2] at this
set_option maxHeartbeats 2000000 in
set_option maxRecDepth 20000 in
theorem same9 (w : World) (F : Nat → Prop) (hF : Old F w) (M : MS [] w) (x : Sl ByteArray) (x_w : (slE strE).wf (Fr F []) w.heap x) (y : Sl ByteArray) (y_w : (slE strE).wf (Fr F []) w.heap y) :
 Calls Tryd.prog 19 #[sV x, sV y] w fun e w' => e = .returned (bD (x.xs = y.xs)) ∧ Tr [] w [] w' := by
 have : x.xs.length ≤ 9223372036854775807 := (x_w).1.len
 have : y.xs.length ≤ 9223372036854775807 := (y_w).1.len
 refine go Tryd.func19 rfl 26 rfl [wfF (slE strE) x, wfF (slE strE) y] [] hF M ⟨x_w, y_w, trivial⟩ trivial ?_
 intro a S
 refine rs S (la (av rfl)) ?_; clear S; intro a u S
 refine wp_seq ?_
 have hn3 : x.xs.length ≤ 9223372036854775807 := ((S.u 0 rfl)).1.len
 have hn4 : y.xs.length ≤ 9223372036854775807 := ((S.u 1 rfl)).1.len
 refine rs S (tr (mv rfl)<|tr (leni uT29 rfl)<|tr (mv rfl)<|tr (leni uT29 rfl)<|la (neqi rfl rfl)) ?_; clear S; intro a u S
 refine cd S rfl ?_ ?_
 ·intro hc0
  refine rs S (la (av rfl)) ?_; clear S; intro a u S
  refine wp_ret (then_r ?_)
  refine ret1 rfl S.s rfl ?_
  refine ⟨(r1 (vf ?_)), S.m.c⟩
  intro h; rw [h] at hc0; exact hc0 rfl
 intro hc1
 refine wp_skip (then_n (wp_seq ?_))
 refine rs S (la (av rfl)) ?_; clear S; intro a u S
 refine wp_block ?_
 refine lp1 (fun (k : Nat) => [(0, sV x), (1, sV y), (5, iN k)]) (fun (k : Nat) => []) (fun (k : Nat) => k ≤ x.xs.length ∧ ∀ j, j < k → x.xs.getD j strE.dflt = y.xs.getD j strE.dflt) (fun (k : Nat) => x.xs.length - k) S 0 (subM rfl) rfl ?_ ?_
 ·exact ⟨Nat.zero_le _, fun j hj => by omega⟩
 clear S; intro k a u S hR
 obtain ⟨hk, hn⟩ := hR
 refine wp_seq ?_
 refine rs S (tr (mv rfl)<|tr (mv rfl)<|tr (leni uT29 rfl)<|la (lssi rfl rfl)) ?_; clear S; intro a u S
 refine cd S rfl ?_ ?_
 ·intro hc2
  refine wp_skip (then_n (wp_seq (wp_block (wp_seq ?_))))
  refine dr (P := Tryd.prog) S 9 [] [(17, .is _), (18, .is _), (19, .is _), (20, .is _), (21, .is _), (22, .is _), (23, .is _), (24, .is _), (25, .is _)] [[], [], [17, 18], [19], [], [], [21, 22], [23], [20, 24]] [25] _ ⟨qd (mv rfl), qd (mv rfl), qd (idxi uT29 sZ9 rfl rfl k rfl (by omega) (((S.u 0 rfl)).1.adr (i := k) (by omega))), qd (ov fun S=>x_load sC9 (S.e rfl) (((S.u 0 rfl)).1.cell k (by omega) 0 _ rfl)), qd (mv rfl), qd (mv rfl), qd (idxi uT29 sZ9 rfl rfl k rfl (by omega) (((S.u 1 rfl)).1.adr (i := k) (by omega))), qd (ov fun S=>x_load sC9 (S.e rfl) (((S.u 1 rfl)).1.cell k (by omega) 0 _ rfl)), qd (snei rfl rfl), trivial⟩ ?_
  clear S; intro a u S G hE
  refine ent ?_
  refine cd S rfl ?_ ?_
  ·intro hc3
   refine rs S (la (av rfl)) ?_; clear S; intro a u S
   refine wp_ret (blk_r (then_r (then_r (blk_r (then_r ?_)))))
   refine ret1 rfl S.s rfl ?_
   refine ⟨(r1 (vf ?_)), S.m.c⟩
   intro h; rw [h] at hc3; exact hc3 rfl
  intro hc4
  refine wp_skip (blk_n (then_n ?_))
  refine rg S (tr (mv rfl)<|tr (addi ((k + 1 : Nat) : Int) rfl rfl (w_i64 (by omega)))<|la (av rfl)) ?_; clear S; intro a u S
  refine then_n ?_
  refine ⟨k + 1, S.re (subM rfl) rfl rfl, ?_, ?_⟩
  ·refine ⟨by omega, fun j hj => ?_⟩
   rcases Nat.lt_succ_iff_lt_or_eq.1 hj with h | h
   ·exact hn j h
   subst h; exact Classical.not_not.1 hc4
  omega
 intro hc5
 refine wp_exit (then_e (then_e (blk_e (then_n ?_))))
 refine rs S (la (av rfl)) ?_; clear S; intro a u S
 refine wp_ret ?_
 refine ret1 rfl S.s rfl ?_
 refine ⟨(r1 (vt ?_)), S.m.c⟩
 exact list_ext' strE.dflt (by omega) fun i hi => hn i (by omega)
set_option maxHeartbeats 2000000 in
set_option maxRecDepth 20000 in
theorem same10 (w : World) (F : Nat → Prop) (hF : Old F w) (M : MS [] w) (x : Sl Line) (x_w : (slE lineE).wf (Fr F []) w.heap x) (y : Sl Line) (y_w : (slE lineE).wf (Fr F []) w.heap y) :
 Calls Tryd.prog 18 #[sV x, sV y] w fun e w' => e = .returned (bD (x.xs.map keyL = y.xs.map keyL)) ∧ Tr [] w [] w' := by
 have : x.xs.length ≤ 9223372036854775807 := (x_w).1.len
 have : y.xs.length ≤ 9223372036854775807 := (y_w).1.len
 refine go Tryd.func18 rfl 42 rfl [wfF (slE lineE) x, wfF (slE lineE) y] [] hF M ⟨x_w, y_w, trivial⟩ trivial ?_
 intro a S
 refine rs S (la (av rfl)) ?_; clear S; intro a u S
 refine wp_seq ?_
 have hn3 : x.xs.length ≤ 9223372036854775807 := ((S.u 0 rfl)).1.len
 have hn4 : y.xs.length ≤ 9223372036854775807 := ((S.u 1 rfl)).1.len
 refine rs S (tr (mv rfl)<|tr (leni uT36 rfl)<|tr (mv rfl)<|tr (leni uT36 rfl)<|la (neqi rfl rfl)) ?_; clear S; intro a u S
 refine cd S rfl ?_ ?_
 ·intro hc0
  refine rs S (la (av rfl)) ?_; clear S; intro a u S
  refine wp_ret (then_r ?_)
  refine ret1 rfl S.s rfl ?_
  refine ⟨(r1 (vf ?_)), S.m.c⟩
  intro h; have := congrArg List.length h; simp at this; omega
 intro hc1
 refine wp_skip (then_n (wp_seq ?_))
 refine rs S (la (av rfl)) ?_; clear S; intro a u S
 refine wp_block ?_
 refine lp1 (fun (k : Nat) => [(0, sV x), (1, sV y), (5, iN k)]) (fun (k : Nat) => []) (fun (k : Nat) => k ≤ x.xs.length ∧ ∀ j, j < k → keyL (x.xs.getD j lineE.dflt) = keyL (y.xs.getD j lineE.dflt)) (fun (k : Nat) => x.xs.length - k) S 0 (subM rfl) rfl ?_ ?_
 ·exact ⟨Nat.zero_le _, fun j hj => by omega⟩
 clear S; intro k a u S hR
 obtain ⟨hk, hn⟩ := hR
 refine wp_seq ?_
 refine rs S (tr (mv rfl)<|tr (mv rfl)<|tr (leni uT36 rfl)<|la (lssi rfl rfl)) ?_; clear S; intro a u S
 refine cd S rfl ?_ ?_
 ·intro hc2
  refine wp_skip (then_n (wp_seq (wp_block (wp_seq ?_))))
  obtain ⟨hl8, hu8⟩ : inI64 ((x.xs.getD k lineE.dflt).num) := id ((((S.u 0 rfl)).1.wf k (by omega)).1)
  obtain ⟨hl9, hu9⟩ : inI64 ((y.xs.getD k lineE.dflt).num) := id ((((S.u 1 rfl)).1.wf k (by omega)).1)
  refine dr (P := Tryd.prog) S 25 [] [(17, .is _), (18, .is _), (19, .is _), (20, .is _), (21, .is _), (22, .is _), (23, .is _), (24, .is _), (25, .is _), (26, .is _), (27, .is _), (28, .is _), (29, .is _), (30, .is _), (31, .is _), (32, .is _), (33, .is _), (34, .is _), (35, .is _), (36, .is _), (37, .is _), (38, .is _), (39, .is _), (40, .is _), (41, .is _)] [[], [], [17, 18], [19], [20], [], [], [22, 23], [24], [25], [21, 26], [27], [28], [28], [28, 29, 30], [28, 31], [28, 32], [28], [28], [28, 34, 35], [28, 36], [28, 37], [28, 33, 38], [28, 39], [28, 40]] [41] _ ⟨qd (mv rfl), qd (mv rfl), qd (idxi uT36 sZ35 rfl rfl k rfl (by omega) (((S.u 0 rfl)).1.adr (i := k) (by omega))), qd (fldi (off x.a + k * 2) 0 rfl uT35), qd (ov fun S=>x_load sC3 (S.e rfl) (((S.u 0 rfl)).1.cell k (by omega) 0 _ rfl)), qd (mv rfl), qd (mv rfl), qd (idxi uT36 sZ35 rfl rfl k rfl (by omega) (((S.u 1 rfl)).1.adr (i := k) (by omega))), qd (fldi (off y.a + k * 2) 0 rfl uT35), qd (ov fun S=>x_load sC3 (S.e rfl) (((S.u 1 rfl)).1.cell k (by omega) 0 _ rfl)), qd (neqi rfl rfl), qd (mv rfl), qd (og 28 rfl gf fun S hg=>x_move (S.e rfl)), qd (og 28 rfl gf fun S hg=>x_move (S.e rfl)), qd (og 28 rfl gf fun S hg=>x_idx uT36 sZ35 (S.p rfl hg) (S.p rfl hg) k rfl (by omega) (((S.u 0 rfl)).1.adr (i := k) (by omega))), qd (og 28 rfl gf fun S hg=>xf (off x.a + k * 2) 1 uT35 (S.p rfl hg)), qd (og 28 rfl gf fun S hg=>x_load sC29 (S.p rfl hg) (((S.u 0 rfl)).1.cell k (by omega) 1 _ rfl)), qd (og 28 rfl gf fun S hg=>x_move (S.e rfl)), qd (og 28 rfl gf fun S hg=>x_move (S.e rfl)), qd (og 28 rfl gf fun S hg=>x_idx uT36 sZ35 (S.p rfl hg) (S.p rfl hg) k rfl (by omega) (((S.u 1 rfl)).1.adr (i := k) (by omega))), qd (og 28 rfl gf fun S hg=>xf (off y.a + k * 2) 1 uT35 (S.p rfl hg)), qd (og 28 rfl gf fun S hg=>x_load sC29 (S.p rfl hg) (((S.u 1 rfl)).1.cell k (by omega) 1 _ rfl)), qd (ocg 28 rfl gf (fun S hg=>same9 _ _ S.x (.nil _) ((x.xs.getD k lineE.dflt).words) (dn0 ((((S.u 0 rfl)).1.wf k (by omega)).2)) ((y.xs.getD k lineE.dflt).words) (dn0 ((((S.u 1 rfl)).1.wf k (by omega)).2))) cB19 fun S=>⟨fun hg=>(S.p rfl hg), fun hg=>(S.p rfl hg), trivial⟩), qd (og 28 rfl gf fun S hg=>x_notp (S.p rfl hg)), qd (ori rfl rfl rfl), trivial⟩ ?_
  clear S; intro a u S G hE
  obtain ⟨hl10, hu10⟩ : inI64 ((x.xs.getD k lineE.dflt).num) := id ((((S.u 0 rfl)).1.wf k (by omega)).1)
  obtain ⟨hl11, hu11⟩ : inI64 ((y.xs.getD k lineE.dflt).num) := id ((((S.u 1 rfl)).1.wf k (by omega)).1)
  refine ent ?_
  refine cd S rfl ?_ ?_
  ·intro hc3
   refine rs S (la (av rfl)) ?_; clear S; intro a u S
   refine wp_ret (blk_r (then_r (then_r (blk_r (then_r ?_)))))
   refine ret1 rfl S.s rfl ?_
   refine ⟨(r1 (vf ?_)), S.m.c⟩
   intro h; have h1 := getD_mapL (xs := x.xs) (k := k) (by omega); have h2 := getD_mapL (xs := y.xs) (k := k) (by omega); rw [h] at h1; have h3 := h1.symm.trans h2; rcases hc3 with q | q
   ·exact q (congrArg Prod.fst h3)
   exact q (congrArg Prod.snd h3)
  intro hc4
  refine wp_skip (blk_n (then_n ?_))
  refine rg S (tr (mv rfl)<|tr (addi ((k + 1 : Nat) : Int) rfl rfl (w_i64 (by omega)))<|la (av rfl)) ?_; clear S; intro a u S
  refine then_n ?_
  refine ⟨k + 1, S.re (subM rfl) rfl rfl, ?_, ?_⟩
  ·refine ⟨by omega, fun j hj => ?_⟩
   rcases Nat.lt_succ_iff_lt_or_eq.1 hj with h | h
   ·exact hn j h
   subst h; have hq := hc4; simp only [not_or, Classical.not_not] at hq; exact Prod.ext hq.1 hq.2
  omega
 intro hc5
 refine wp_exit (then_e (then_e (blk_e (then_n ?_))))
 refine rs S (la (av rfl)) ?_; clear S; intro a u S
 refine wp_ret ?_
 refine ret1 rfl S.s rfl ?_
 refine ⟨(r1 (vt ?_)), S.m.c⟩
 refine list_ext' (0, []) (by simp; omega) fun i hi => ?_; simp at hi; rw [getD_mapL (by omega), getD_mapL (by omega)]; exact hn i (by omega)
end Go.Proofs.YtmaiillomoehgaaDoor.V
