/- lists of failure states -/
import Derived.Test.YtfanmniaolncbaaW10
import Derived.Test.YtfanmniaolncbaaGrpE
namespace Go.Proofs.Ytfanmniaolncbaa.V
open Go.RowKit Go.Proofs.Ytfanmniaolncbaa
set_option linter.unusedVariables false
set_option linter.unusedSimpArgs false
set_option maxHeartbeats 2000000 in
set_option maxRecDepth 20000 in
theorem rOf (w : World) (F : Nat → Prop) (hF : Old F w) (M : MS [] w) (t : Topo) (t_w : topoE.wf (Fr F []) w.heap t) (l : Sl Int) (l_w : (slE intE).wf (Fr F []) w.heap l) (hl : l.xs.length ≤ 1024) (hb : t.devs.xs.length ≤ 12) :
 Calls Try.prog 54 #[.agg (topoE.cells t).toArray, sV l] w fun e w' => ∃ (r : Fail), e = .returned (.agg (failE.cells r).toArray) ∧ failE.wf (Fr F []) w'.heap r ∧ keyF r = keyOf t.devs.xs.length l.xs ∧ Tr [] w [] w' := by
 have : t.devs.xs.length ≤ 9223372036854775807 := (t_w.1).1.len
 have : t.links.xs.length ≤ 9223372036854775807 := (t_w.2.1).1.len
 have : t.edges.xs.length ≤ 9223372036854775807 := (t_w.2.2.1).1.len
 have : t.pools.xs.length ≤ 9223372036854775807 := (t_w.2.2.2.1).1.len
 obtain ⟨_, _⟩ : inI64 t.tol := t_w.2.2.2.2
 have : l.xs.length ≤ 9223372036854775807 := (l_w).1.len
 refine go Try.func54 rfl 44 rfl [wfF topoE t, wfF (slE intE) l] [] hF M ⟨t_w, l_w, trivial⟩ trivial ?_
 intro a S
 refine rs0 ?_
 refine nbp S (x_box _ (S.e rfl) rfl) ?_; clear S; intro a u b2 S
 refine nbp S (x_allocz _ iZ41 rfl) ?_; clear S; intro a u b4 S
 refine ent (rs0 ?_)
 refine nbp S (x_allocz _ iZ41 rfl) ?_; clear S; intro a u b5 S
 refine ent (wp_seq ?_)
 refine rs S (la (av rfl)) ?_; clear S; intro a u S
 refine wp_block ?_
 replace S := S.nr intE 3
 replace S := S.nr intE 3
 refine lp7 (fun (k : Nat) (ls_a : Option Addr) (ls_c : Nat) (ls : List Int) (ds_a : Option Addr) (ds_c : Nat) (ds : List Int) => [(1, sV l), (2, pT b2 0), (4, pT b4 0), (5, pT b5 0), (6, iN k)]) (fun (k : Nat) (ls_a : Option Addr) (ls_c : Nat) (ls : List Int) (ds_a : Option Addr) (ds_c : Nat) (ds : List Int) => [blO b2 (topoE.cells t) 28, blO b4 [.slice none 0 0, .slice none 0 0] 41, blO b5 [.slice ls_a ls.length ls_c, .slice ds_a ds.length ds_c] 41, rwO intE 3 w.heap.size ls_a ls_c ls, rwO intE 3 w.heap.size ds_a ds_c ds]) (fun (k : Nat) (ls_a : Option Addr) (ls_c : Nat) (ls : List Int) (ds_a : Option Addr) (ds_c : Nat) (ds : List Int) => k ≤ l.xs.length ∧ (ls, ds) = keyOf t.devs.xs.length (l.xs.take k) ∧ ls.length + ds.length ≤ k) (fun (k : Nat) (ls_a : Option Addr) (ls_c : Nat) (ls : List Int) (ds_a : Option Addr) (ds_c : Nat) (ds : List Int) => l.xs.length - k) S 0 none 0 ([]) none 0 ([]) (subM rfl) rfl ?_ ?_
 ·exact ⟨Nat.zero_le _, rfl, Nat.zero_le _⟩
 clear S; intro k ls_a ls_c ls ds_a ds_c ds a u S hR
 have ls_len := (S.row 3 rfl).len_le; simp only [maxLen] at ls_len
 have ds_len := (S.row 4 rfl).len_le; simp only [maxLen] at ds_len
 obtain ⟨hk, ho, hol⟩ := hR
 refine wp_seq ?_
 have hn5 : l.xs.length ≤ 9223372036854775807 := ((S.u 1 rfl)).1.len
 refine rs S (tr (mv rfl)<|tr (mv rfl)<|tr (leni uT22 rfl)<|la (lssi rfl rfl)) ?_; clear S; intro a u S
 refine cd S rfl ?_ ?_
 ·intro hc0
  refine wp_skip (then_n (wp_seq (wp_block (wp_seq ?_))))
  obtain ⟨hl6, hu6⟩ : inI64 (l.xs.getD k intE.dflt) := id (((S.u 1 rfl)).1.wf k (by omega))
  have hn7 : t.devs.xs.length ≤ 9223372036854775807 := ((S.u 0 rfl).1).1.len
  refine dr (P := Try.prog) S 8 [] [(13, .is _), (14, .is _), (15, .is _), (16, .is _), (17, .is _), (18, .is _), (19, .is _), (20, .is _)] [[], [], [13, 14], [15], [], [17], [18], [16, 19]] [20] _ ⟨qd (mv rfl), qd (mv rfl), qd (idxi uT22 sZ3 rfl rfl k rfl (by omega) (((S.u 1 rfl)).1.adr (i := k) (by omega))), qd (ov fun S=>x_load sC3 (S.e rfl) (((S.u 1 rfl)).1.cell k (by omega) 0 _ rfl)), qd (fldi 0 0 rfl uT28), qd (ldk 0 sC23 rfl rfl rfl), qd (leni uT23 rfl), qd (lssi rfl rfl), trivial⟩ ?_
  clear S; intro a u S G hE
  obtain ⟨hl8, hu8⟩ : inI64 (l.xs.getD k intE.dflt) := id (((S.u 1 rfl)).1.wf k (by omega))
  refine ent ?_
  refine cd S rfl ?_ ?_
  ·intro hc1
   refine dr (P := Try.prog) S 7 [] [(21, .is _), (22, .is _), (23, .is _), (24, .is _), (25, .is _), (26, .is _), (27, .of (fun z w => ∃ (x27a : Nat), z = .slice (some ⟨x27a, 0, none⟩) 1 1 ∧ (slE intE).wf (Fr F [one b2, one b4, one b5, abk ls_a, abk ds_a]) w.heap (Sl.mk (some ⟨x27a, 0, none⟩) 1 ([(l.xs.getD k intE.dflt)]))) (fun v w w' c h => let ⟨x27a, hv, h0⟩ := h; ⟨x27a, hv, Enc.kp (slE intE) h0 c (fun _ h => by simp at h)⟩))] [[], [21], [], [], [23, 24], [25], [26]] [22, 27] _ ⟨qd (fldi 0 1 rfl uT41), qd (ldk 2 sC22 rfl rfl rfl), qd (mv rfl), qd (mv rfl), qd (idxi uT22 sZ3 rfl rfl k rfl (by omega) (((S.u 1 rfl)).1.adr (i := k) (by omega))), qd (ov fun S=>x_load sC3 (S.e rfl) (((S.u 1 rfl)).1.cell k (by omega) 0 _ rfl)), ?_, trivial⟩ ?_
   ·skip
    intro a u S G hE
    refine hnb 27 S.m (x_bsl [(0, iI (l.xs.getD k intE.dflt))] [iI (l.xs.getD k intE.dflt)] uT22 iZ3 (by decide) (by decide) (by simp only [List.map_cons, List.map_nil, S.e (x := .tmp 26) (v := iI (l.xs.getD k intE.dflt)) rfl]) (by kernel_rfl)) fun g => (show ∃ _, _ from ⟨_, rfl, sl_of_blk (Blk.new _ [iI (l.xs.getD k intE.dflt)] 3) [(l.xs.getD k intE.dflt)] 1 rfl (by decide) (by decide) rfl (fr_fresh S.m.c S.m.f rfl) ?_⟩)
    intro x hx; simp only [List.mem_cons, List.not_mem_nil, or_false] at hx; rw [hx] <;> first | exact Enc.tr (intE) (show intE.wf (Fr F (ow _)) _ (l.xs.getD k intE.dflt) from (((S.u 1 rfl)).1.wf k (by omega))) (Tr.of_ch0 S.M g)
   clear S; intro a u S G hE
   obtain ⟨e27, -⟩ := hE
   obtain ⟨x27_9, e27, X9⟩ := e27
   replace S := S.ext e27
   clear e27
   replace S := S.ar (wfF (slE intE) (Sl.mk (some ⟨x27_9, 0, none⟩) 1 ([(l.xs.getD k intE.dflt)]))) X9
   have hn10 : ([(l.xs.getD k intE.dflt)]).length ≤ 9223372036854775807 := ((S.u 2 rfl)).1.len
   refine ap (E := intE) (ys := [(l.xs.getD k intE.dflt)]) S 4 rfl uT22 iZ3 rfl rfl (show LAt intE _ _ (some ⟨x27_9, 0, none⟩) ([(l.xs.getD k intE.dflt)]) from ((S.u 2 rfl)).1) ((S.u 2 rfl)).2.2 (LAt.mem (show LAt intE _ _ (some ⟨x27_9, 0, none⟩) ([(l.xs.getD k intE.dflt)]) from ((S.u 2 rfl)).1)) ⟨by unfold maxLen; (try simp only [List.length_cons, List.length_nil, List.length_append, List.length_map]); omega, by (try simp only [List.length_cons, List.length_nil, List.length_append, List.length_map]); omega⟩ ?_; clear S; intro a u ad28 cap28 S
   refine en S (tr (fldi 0 1 rfl uT41)<|la (stk 2 rfl rfl rfl)) ?_; clear S; intro a u S
   refine blk_n (then_n ?_)
   refine rg S (tr (mv rfl)<|tr (addi ((k + 1 : Nat) : Int) rfl rfl (w_i64 (by omega)))<|la (av rfl)) ?_; clear S; intro a u S
   refine then_n ?_
   refine ⟨(k + 1), ls_a, ls_c, ls, ad28, cap28, (ds ++ [(l.xs.getD k intE.dflt)]), S.re (subM rfl) rfl rfl, ?_, ?_⟩
   ·refine ⟨by omega, ?_, by simp only [List.length_append, List.length_cons, List.length_nil]; omega⟩
    have e0 : intE.dflt = 0 := rfl
    rw [e0] at hc1 ⊢
    rw [keyOf_snoc (by omega), ← ho]
    first | rw [if_pos hc1] | rw [if_neg hc1]
   omega
  intro hc2
  have hn12 : t.devs.xs.length ≤ 9223372036854775807 := ((S.u 0 rfl).1).1.len
  refine dr (P := Try.prog) S 11 [] [(30, .is _), (31, .is _), (32, .is _), (33, .is _), (34, .is _), (35, .is _), (36, .is _), (37, .is _), (38, .is _), (39, .is _), (40, .of (fun z w => ∃ (x40a : Nat), z = .slice (some ⟨x40a, 0, none⟩) 1 1 ∧ (slE intE).wf (Fr F [one b2, one b4, one b5, abk ls_a, abk ds_a]) w.heap (Sl.mk (some ⟨x40a, 0, none⟩) 1 ([((l.xs.getD k intE.dflt) - ((t.devs.xs.length : Nat) : Int))]))) (fun v w w' c h => let ⟨x40a, hv, h0⟩ := h; ⟨x40a, hv, Enc.kp (slE intE) h0 c (fun _ h => by simp at h)⟩))] [[], [30], [], [], [32, 33], [34], [], [36], [37], [35, 38], [39]] [31, 40] _ ⟨qd (fldi 0 0 rfl uT41), qd (ldk 2 sC22 rfl rfl rfl), qd (mv rfl), qd (mv rfl), qd (idxi uT22 sZ3 rfl rfl k rfl (by omega) (((S.u 1 rfl)).1.adr (i := k) (by omega))), qd (ov fun S=>x_load sC3 (S.e rfl) (((S.u 1 rfl)).1.cell k (by omega) 0 _ rfl)), qd (fldi 0 0 rfl uT28), qd (ldk 0 sC23 rfl rfl rfl), qd (leni uT23 rfl), qd (subi ((l.xs.getD k intE.dflt) - ((t.devs.xs.length : Nat) : Int)) rfl rfl (w_i64 (by omega))), ?_, trivial⟩ ?_
  ·skip
   intro a u S G hE
   refine hnb 40 S.m (x_bsl [(0, iI ((l.xs.getD k intE.dflt) - ((t.devs.xs.length : Nat) : Int)))] [iI ((l.xs.getD k intE.dflt) - ((t.devs.xs.length : Nat) : Int))] uT22 iZ3 (by decide) (by decide) (by simp only [List.map_cons, List.map_nil, S.e (x := .tmp 39) (v := iI ((l.xs.getD k intE.dflt) - ((t.devs.xs.length : Nat) : Int))) rfl]) (by kernel_rfl)) fun g => (show ∃ _, _ from ⟨_, rfl, sl_of_blk (Blk.new _ [iI ((l.xs.getD k intE.dflt) - ((t.devs.xs.length : Nat) : Int))] 3) [((l.xs.getD k intE.dflt) - ((t.devs.xs.length : Nat) : Int))] 1 rfl (by decide) (by decide) rfl (fr_fresh S.m.c S.m.f rfl) ?_⟩)
   intro x hx; simp only [List.mem_cons, List.not_mem_nil, or_false] at hx; rw [hx] <;> first | exact Enc.tr (intE) (show intE.wf (Fr F (ow _)) _ ((l.xs.getD k intE.dflt) - ((t.devs.xs.length : Nat) : Int)) from (show inI64 ((l.xs.getD k intE.dflt) - ((t.devs.xs.length : Nat) : Int)) from ⟨by omega, by omega⟩)) (Tr.of_ch0 S.M g)
  clear S; intro a u S G hE
  obtain ⟨e40, -⟩ := hE
  obtain ⟨x40_13, e40, X13⟩ := e40
  replace S := S.ext e40
  clear e40
  replace S := S.ar (wfF (slE intE) (Sl.mk (some ⟨x40_13, 0, none⟩) 1 ([((l.xs.getD k intE.dflt) - ((t.devs.xs.length : Nat) : Int))]))) X13
  have hn14 : ([((l.xs.getD k intE.dflt) - ((t.devs.xs.length : Nat) : Int))]).length ≤ 9223372036854775807 := ((S.u 2 rfl)).1.len
  refine ap (E := intE) (ys := [((l.xs.getD k intE.dflt) - ((t.devs.xs.length : Nat) : Int))]) S 3 rfl uT22 iZ3 rfl rfl (show LAt intE _ _ (some ⟨x40_13, 0, none⟩) ([((l.xs.getD k intE.dflt) - ((t.devs.xs.length : Nat) : Int))]) from ((S.u 2 rfl)).1) ((S.u 2 rfl)).2.2 (LAt.mem (show LAt intE _ _ (some ⟨x40_13, 0, none⟩) ([((l.xs.getD k intE.dflt) - ((t.devs.xs.length : Nat) : Int))]) from ((S.u 2 rfl)).1)) ⟨by unfold maxLen; (try simp only [List.length_cons, List.length_nil, List.length_append, List.length_map]); omega, by (try simp only [List.length_cons, List.length_nil, List.length_append, List.length_map]); omega⟩ ?_; clear S; intro a u ad41 cap41 S
  refine en S (tr (fldi 0 0 rfl uT41)<|la (stk 2 rfl rfl rfl)) ?_; clear S; intro a u S
  refine blk_n (then_n ?_)
  refine rg S (tr (mv rfl)<|tr (addi ((k + 1 : Nat) : Int) rfl rfl (w_i64 (by omega)))<|la (av rfl)) ?_; clear S; intro a u S
  refine then_n ?_
  refine ⟨(k + 1), ad41, cap41, (ls ++ [((l.xs.getD k intE.dflt) - ((t.devs.xs.length : Nat) : Int))]), ds_a, ds_c, ds, S.re (subM rfl) rfl rfl, ?_, ?_⟩
  ·refine ⟨by omega, ?_, by simp only [List.length_append, List.length_cons, List.length_nil]; omega⟩
   have e0 : intE.dflt = 0 := rfl
   rw [e0] at hc2 ⊢
   rw [keyOf_snoc (by omega), ← ho]
   first | rw [if_pos hc2] | rw [if_neg hc2]
  omega
 intro hc3
 refine wp_exit (then_e (then_e (blk_e (then_n ?_))))
 refine rs S (tr (ldkw 2 rfl rfl wD41)<|la (stkw 1 rfl rfl rfl)) ?_; clear S; intro a u S
 refine wp_ret ?_
 replace S := S.fz 3 rfl
 replace S := S.fz 4 rfl
 refine retcw rfl S.s rfl [.slice ls_a ls.length ls_c, .slice ds_a ds.length ds_c] wD41 (fun j v hv => by rw [Nat.zero_add]; exact (S.k 1 rfl).cell hv) ?_
 replace S := S.pk []
 refine ⟨(⟨(Sl.mk ls_a ls_c ls), (Sl.mk ds_a ds_c ds)⟩ : Fail), rfl, ⟨(S.u 2 rfl), (S.u 3 rfl)⟩, ?_, S.m.c⟩
 show (ls, ds) = _; rw [ho, show k = l.xs.length from by omega, List.take_length]
set_option maxHeartbeats 2000000 in
set_option maxRecDepth 20000 in
theorem fState (w : World) (F : Nat → Prop) (hF : Old F w) (M : MS [] w) (t : Topo) (t_w : topoE.wf (Fr F []) w.heap t) (l : Sl Int) (l_w : (slE intE).wf (Fr F []) w.heap l) (hl : l.xs.length ≤ 1024) (hb : t.devs.xs.length ≤ 12) :
 Calls Try.prog 52 #[.agg (topoE.cells t).toArray, sV l] w fun e w' => ∃ (r : Fail), e = .returned (.agg (failE.cells r).toArray) ∧ failE.wf (Fr F []) w'.heap r ∧ keyF r = keyOf t.devs.xs.length l.xs ∧ Tr [] w [] w' := by
 have : t.devs.xs.length ≤ 9223372036854775807 := (t_w.1).1.len
 have : t.links.xs.length ≤ 9223372036854775807 := (t_w.2.1).1.len
 have : t.edges.xs.length ≤ 9223372036854775807 := (t_w.2.2.1).1.len
 have : t.pools.xs.length ≤ 9223372036854775807 := (t_w.2.2.2.1).1.len
 obtain ⟨_, _⟩ : inI64 t.tol := t_w.2.2.2.2
 have : l.xs.length ≤ 9223372036854775807 := (l_w).1.len
 refine go Try.func52 rfl 37 rfl [wfF topoE t, wfF (slE intE) l] [] hF M ⟨t_w, l_w, trivial⟩ trivial ?_
 intro a S
 refine rs0 ?_
 refine nbp S (x_box _ (S.e rfl) rfl) ?_; clear S; intro a u b2 S
 refine nbp S (x_allocz _ iZ41 rfl) ?_; clear S; intro a u b4 S
 refine ent (rs0 ?_)
 refine nbp S (x_allocz _ iZ41 rfl) ?_; clear S; intro a u b5 S
 refine ent (wp_seq ?_)
 have hn4 : l.xs.length ≤ 9223372036854775807 := ((S.u 1 rfl)).1.len
 refine rs S (tr (mv rfl)<|tr (leni uT22 rfl)<|la (mv rfl)) ?_; clear S; intro a u S
 refine wp_block ?_
 replace S := S.nr intE 3
 replace S := S.nr intE 3
 refine lp7 (fun (k : Nat) (ls_a : Option Addr) (ls_c : Nat) (ls : List Int) (ds_a : Option Addr) (ds_c : Nat) (ds : List Int) => [(2, pT b2 0), (4, pT b4 0), (5, pT b5 0), (8, sV l), (9, iN l.xs.length), (10, iN k)]) (fun (k : Nat) (ls_a : Option Addr) (ls_c : Nat) (ls : List Int) (ds_a : Option Addr) (ds_c : Nat) (ds : List Int) => [blO b2 (topoE.cells t) 28, blO b4 [.slice none 0 0, .slice none 0 0] 41, blO b5 [.slice ls_a ls.length ls_c, .slice ds_a ds.length ds_c] 41, rwO intE 3 w.heap.size ls_a ls_c ls, rwO intE 3 w.heap.size ds_a ds_c ds]) (fun (k : Nat) (ls_a : Option Addr) (ls_c : Nat) (ls : List Int) (ds_a : Option Addr) (ds_c : Nat) (ds : List Int) => k ≤ l.xs.length ∧ (ls, ds) = keyOf t.devs.xs.length (l.xs.take k) ∧ ls.length + ds.length ≤ k) (fun (k : Nat) (ls_a : Option Addr) (ls_c : Nat) (ls : List Int) (ds_a : Option Addr) (ds_c : Nat) (ds : List Int) => l.xs.length - k) S 0 none 0 ([]) none 0 ([]) (subM rfl) rfl ?_ ?_
 ·exact ⟨Nat.zero_le _, rfl, Nat.zero_le _⟩
 clear S; intro k ls_a ls_c ls ds_a ds_c ds a u S hR
 have ls_len := (S.row 3 rfl).len_le; simp only [maxLen] at ls_len
 have ds_len := (S.row 4 rfl).len_le; simp only [maxLen] at ds_len
 obtain ⟨hk, ho, hol⟩ := hR
 refine rs S (la (lssi rfl rfl)) ?_; clear S; intro a u S
 refine wp_seq ?_
 refine cd S rfl ?_ ?_
 ·intro hc0
  refine wp_skip (then_n (wp_seq (wp_block ?_)))
  obtain ⟨hl7, hu7⟩ : inI64 (l.xs.getD k intE.dflt) := id (((S.u 1 rfl)).1.wf k (by omega))
  refine rs S (tr (idxi uT22 sZ3 rfl rfl k rfl (by omega) (((S.u 1 rfl)).1.adr (i := k) (by omega)))<|tr (ov fun S=>x_load sC3 (S.e rfl) (((S.u 1 rfl)).1.cell k (by omega) 0 _ rfl))<|la (av rfl)) ?_; clear S; intro a u S
  have hn9 : t.devs.xs.length ≤ 9223372036854775807 := ((S.u 0 rfl).1).1.len
  refine rs S (tr (mv rfl)<|tr (fldi 0 0 rfl uT28)<|tr (ldk 0 sC23 rfl rfl rfl)<|tr (leni uT23 rfl)<|la (lssi rfl rfl)) ?_; clear S; intro a u S
  refine cd S rfl ?_ ?_
  ·intro hc1
   refine r0 ?_
   refine sp S (tr (fldi 0 1 rfl uT41)<|tr (ldk 2 sC22 rfl rfl rfl)<|la (mv rfl)) ?_; clear S; intro a u S
   refine nbs intE S [(l.xs.getD k intE.dflt)] (x_bs S [(0, iI (l.xs.getD k intE.dflt))] uT22 iZ3) (fun x hx => by simp only [List.mem_cons, List.not_mem_nil, or_false] at hx; rw [hx]; exact (show intE.wf _ _ (l.xs.getD k intE.dflt) from (((S.u 1 rfl)).1.wf k (by omega)))) ?_; clear S; intro a u b22 S
   refine ap (E := intE) (ys := [(l.xs.getD k intE.dflt)]) S 4 rfl uT22 iZ3 rfl rfl (show LAt intE _ _ (some ⟨b22, 0, none⟩) ([(l.xs.getD k intE.dflt)]) from ((S.u 2 rfl)).1) ((S.u 2 rfl)).2.2 (LAt.mem (show LAt intE _ _ (some ⟨b22, 0, none⟩) ([(l.xs.getD k intE.dflt)]) from ((S.u 2 rfl)).1)) ⟨by unfold maxLen; (try simp only [List.length_cons, List.length_nil, List.length_append, List.length_map]); omega, by (try simp only [List.length_cons, List.length_nil, List.length_append, List.length_map]); omega⟩ ?_; clear S; intro a u ad23 cap23 S
   refine en S (tr (fldi 0 1 rfl uT41)<|la (stk 2 rfl rfl rfl)) ?_; clear S; intro a u S
   refine blk_n (then_n ?_)
   refine rg S (tr (addi ((k + 1 : Nat) : Int) rfl rfl (w_i64 (by omega)))<|la (mv rfl)) ?_; clear S; intro a u S
   refine then_n ?_
   refine ⟨(k + 1), ls_a, ls_c, ls, ad23, cap23, (ds ++ [(l.xs.getD k intE.dflt)]), S.re (subM rfl) rfl rfl, ?_, ?_⟩
   ·refine ⟨by omega, ?_, by simp only [List.length_append, List.length_cons, List.length_nil]; omega⟩
    have e0 : intE.dflt = 0 := rfl
    rw [e0] at hc1 ⊢
    rw [keyOf_snoc (by omega), ← ho]
    first | rw [if_pos hc1] | rw [if_neg hc1]
   omega
  intro hc2
  refine r0 ?_
  refine sp S (tr (fldi 0 0 rfl uT41)<|tr (ldk 2 sC22 rfl rfl rfl)<|tr (mv rfl)<|tr (fldi 0 0 rfl uT28)<|tr (ldk 0 sC23 rfl rfl rfl)<|tr (leni uT23 rfl)<|la (subi ((l.xs.getD k intE.dflt) - ((t.devs.xs.length : Nat) : Int)) rfl rfl (w_i64 (by omega)))) ?_; clear S; intro a u S
  refine nbs intE S [((l.xs.getD k intE.dflt) - ((t.devs.xs.length : Nat) : Int))] (x_bs S [(0, iI ((l.xs.getD k intE.dflt) - ((t.devs.xs.length : Nat) : Int)))] uT22 iZ3) (fun x hx => by simp only [List.mem_cons, List.not_mem_nil, or_false] at hx; rw [hx]; exact (show intE.wf _ _ ((l.xs.getD k intE.dflt) - ((t.devs.xs.length : Nat) : Int)) from (show inI64 ((l.xs.getD k intE.dflt) - ((t.devs.xs.length : Nat) : Int)) from ⟨by omega, by omega⟩))) ?_; clear S; intro a u b32 S
  refine ap (E := intE) (ys := [((l.xs.getD k intE.dflt) - ((t.devs.xs.length : Nat) : Int))]) S 3 rfl uT22 iZ3 rfl rfl (show LAt intE _ _ (some ⟨b32, 0, none⟩) ([((l.xs.getD k intE.dflt) - ((t.devs.xs.length : Nat) : Int))]) from ((S.u 2 rfl)).1) ((S.u 2 rfl)).2.2 (LAt.mem (show LAt intE _ _ (some ⟨b32, 0, none⟩) ([((l.xs.getD k intE.dflt) - ((t.devs.xs.length : Nat) : Int))]) from ((S.u 2 rfl)).1)) ⟨by unfold maxLen; (try simp only [List.length_cons, List.length_nil, List.length_append, List.length_map]); omega, by (try simp only [List.length_cons, List.length_nil, List.length_append, List.length_map]); omega⟩ ?_; clear S; intro a u ad33 cap33 S
  refine en S (tr (fldi 0 0 rfl uT41)<|la (stk 2 rfl rfl rfl)) ?_; clear S; intro a u S
  refine blk_n (then_n ?_)
  refine rg S (tr (addi ((k + 1 : Nat) : Int) rfl rfl (w_i64 (by omega)))<|la (mv rfl)) ?_; clear S; intro a u S
  refine then_n ?_
  refine ⟨(k + 1), ad33, cap33, (ls ++ [((l.xs.getD k intE.dflt) - ((t.devs.xs.length : Nat) : Int))]), ds_a, ds_c, ds, S.re (subM rfl) rfl rfl, ?_, ?_⟩
  ·refine ⟨by omega, ?_, by simp only [List.length_append, List.length_cons, List.length_nil]; omega⟩
   have e0 : intE.dflt = 0 := rfl
   rw [e0] at hc2 ⊢
   rw [keyOf_snoc (by omega), ← ho]
   first | rw [if_pos hc2] | rw [if_neg hc2]
  omega
 intro hc3
 refine wp_exit (then_e (then_e (blk_e (then_n ?_))))
 refine rs S (tr (ldkw 2 rfl rfl wD41)<|la (stkw 1 rfl rfl rfl)) ?_; clear S; intro a u S
 refine wp_ret ?_
 replace S := S.fz 3 rfl
 replace S := S.fz 4 rfl
 refine retcw rfl S.s rfl [.slice ls_a ls.length ls_c, .slice ds_a ds.length ds_c] wD41 (fun j v hv => by rw [Nat.zero_add]; exact (S.k 1 rfl).cell hv) ?_
 replace S := S.pk []
 refine ⟨(⟨(Sl.mk ls_a ls_c ls), (Sl.mk ds_a ds_c ds)⟩ : Fail), rfl, ⟨(S.u 2 rfl), (S.u 3 rfl)⟩, ?_, S.m.c⟩
 show (ls, ds) = _; rw [ho, show k = l.xs.length from by omega, List.take_length]
end Go.Proofs.Ytfanmniaolncbaa.V
