/- valid topologies: the reference -/
import Derived.Test.YtfanmniaolncbaaW4
namespace Go.Proofs.Ytfanmniaolncbaa.V
open Go.RowKit Go.Proofs.Ytfanmniaolncbaa
set_option linter.unusedVariables false
set_option linter.unusedSimpArgs false
set_option maxHeartbeats 2000000 in
set_option maxRecDepth 20000 in
theorem r11Device (w : World) (F : Nat → Prop) (hF : Old F w) (M : MS [] w) (t : Topo) (t_w : topoE.wf (Fr F []) w.heap t) (nm : ByteArray) (nm_h : inStr nm) :
 Calls Try.prog 108 #[.agg (topoE.cells t).toArray, .string nm] w fun e w' => e = .returned (iI (idxOf (fun x => decide (x.name = nm)) t.devs.xs)) ∧ Tr [] w [] w' := by
 have : t.devs.xs.length ≤ 9223372036854775807 := (t_w.1).1.len
 have : t.links.xs.length ≤ 9223372036854775807 := (t_w.2.1).1.len
 have : t.edges.xs.length ≤ 9223372036854775807 := (t_w.2.2.1).1.len
 have : t.pools.xs.length ≤ 9223372036854775807 := (t_w.2.2.2.1).1.len
 obtain ⟨_, _⟩ : inI64 t.tol := t_w.2.2.2.2
 refine go Try.func108 rfl 22 rfl [wfF topoE t] [] hF M ⟨t_w, trivial⟩ trivial ?_
 intro a S
 refine rs0 ?_
 refine nbp S (x_box _ (S.e rfl) rfl) ?_; clear S; intro a u b2 S
 refine ens S (la (av rfl)) ?_; clear S; intro a u S
 refine wp_seq ?_
 refine rs S (la (av rfl)) ?_; clear S; intro a u S
 refine wp_block ?_
 refine lp1 (fun (k : Nat) => [(1, .string nm), (2, pT b2 0), (5, iN k)]) (fun (k : Nat) => [blO b2 (topoE.cells t) 28]) (fun (k : Nat) => k ≤ t.devs.xs.length ∧ ∀ j, j < k → decide ((t.devs.xs.getD j devE.dflt).name = nm) = false) (fun (k : Nat) => t.devs.xs.length - k) S 0 (subM rfl) rfl ?_ ?_
 ·exact ⟨Nat.zero_le _, fun j hj => by omega⟩
 clear S; intro k a u S hR
 obtain ⟨hk, hn⟩ := hR
 refine wp_seq ?_
 have hn4 : t.devs.xs.length ≤ 9223372036854775807 := ((S.u 0 rfl).1).1.len
 refine rs S (tr (mv rfl)<|tr (fldi 0 0 rfl uT28)<|tr (ldk 0 sC23 rfl rfl rfl)<|tr (leni uT23 rfl)<|la (lssi rfl rfl)) ?_; clear S; intro a u S
 refine cd S rfl ?_ ?_
 ·intro hc0
  refine wp_skip (then_n (wp_seq (wp_block ?_)))
  refine rs S (tr (fldi 0 0 rfl uT28)<|tr (ldk 0 sC23 rfl rfl rfl)<|tr (mv rfl)<|tr (idxi uT23 sZ65 rfl rfl k rfl (by omega) (((S.u 0 rfl).1).1.adr (i := k) (by omega)))<|tr (fldi (off t.devs.a + k * 5) 0 rfl uT65)<|tr (ov fun S=>x_load sC9 (S.e rfl) (((S.u 0 rfl).1).1.cell k (by omega) 0 _ rfl))<|tr (mv rfl)<|la (seqi rfl rfl)) ?_; clear S; intro a u S
  refine cd S rfl ?_ ?_
  ·intro hc1
   refine rs S (tr (mv rfl)<|la (av rfl)) ?_; clear S; intro a u S
   refine wp_ret (blk_r (then_r (then_r (blk_r (then_r ?_)))))
   refine ret1 rfl S.s rfl ?_
   replace S := S.pk []
   refine ⟨(r1 (vi ?_)), S.m.c⟩
   exact (idxOf_some (d := devE.dflt) (by omega) (decide_eq_true (by assumption)) hn).symm
  intro hc2
  refine wp_skip (blk_n (then_n ?_))
  refine rg S (tr (mv rfl)<|tr (addi ((k + 1 : Nat) : Int) rfl rfl (w_i64 (by omega)))<|la (av rfl)) ?_; clear S; intro a u S
  refine then_n ?_
  refine ⟨k + 1, S.re (subM rfl) rfl rfl, ?_, ?_⟩
  ·refine ⟨by omega, fun j hj => ?_⟩
   rcases Nat.lt_succ_iff_lt_or_eq.1 hj with h | h
   ·exact hn j h
   subst h; exact decide_eq_false (by assumption)
  omega
 intro hc3
 refine wp_exit (then_e (then_e (blk_e (then_n ?_))))
 refine rs S (la (av rfl)) ?_; clear S; intro a u S
 refine wp_ret ?_
 refine ret1 rfl S.s rfl ?_
 replace S := S.pk []
 refine ⟨(r1 (vi ?_)), S.m.c⟩
 exact (idxOf_none (d := devE.dflt) (fun j hj => hn j (by omega))).symm
set_option maxHeartbeats 2000000 in
set_option maxRecDepth 20000 in
theorem r11Edge (w : World) (F : Nat → Prop) (hF : Old F w) (M : MS [] w) (t : Topo) (t_w : topoE.wf (Fr F []) w.heap t) (nm : ByteArray) (nm_h : inStr nm) :
 Calls Try.prog 88 #[.agg (topoE.cells t).toArray, .string nm] w fun e w' => e = .returned (iI (idxOf (fun x => decide (x.name = nm)) t.edges.xs)) ∧ Tr [] w [] w' := by
 have : t.devs.xs.length ≤ 9223372036854775807 := (t_w.1).1.len
 have : t.links.xs.length ≤ 9223372036854775807 := (t_w.2.1).1.len
 have : t.edges.xs.length ≤ 9223372036854775807 := (t_w.2.2.1).1.len
 have : t.pools.xs.length ≤ 9223372036854775807 := (t_w.2.2.2.1).1.len
 obtain ⟨_, _⟩ : inI64 t.tol := t_w.2.2.2.2
 refine go Try.func88 rfl 22 rfl [wfF topoE t] [] hF M ⟨t_w, trivial⟩ trivial ?_
 intro a S
 refine rs0 ?_
 refine nbp S (x_box _ (S.e rfl) rfl) ?_; clear S; intro a u b2 S
 refine ens S (la (av rfl)) ?_; clear S; intro a u S
 refine wp_seq ?_
 refine rs S (la (av rfl)) ?_; clear S; intro a u S
 refine wp_block ?_
 refine lp1 (fun (k : Nat) => [(1, .string nm), (2, pT b2 0), (5, iN k)]) (fun (k : Nat) => [blO b2 (topoE.cells t) 28]) (fun (k : Nat) => k ≤ t.edges.xs.length ∧ ∀ j, j < k → decide ((t.edges.xs.getD j edgE.dflt).name = nm) = false) (fun (k : Nat) => t.edges.xs.length - k) S 0 (subM rfl) rfl ?_ ?_
 ·exact ⟨Nat.zero_le _, fun j hj => by omega⟩
 clear S; intro k a u S hR
 obtain ⟨hk, hn⟩ := hR
 refine wp_seq ?_
 have hn4 : t.edges.xs.length ≤ 9223372036854775807 := ((S.u 0 rfl).2.2.1).1.len
 refine rs S (tr (mv rfl)<|tr (fldi 0 2 rfl uT28)<|tr (ldk 0 sC25 rfl rfl rfl)<|tr (leni uT25 rfl)<|la (lssi rfl rfl)) ?_; clear S; intro a u S
 refine cd S rfl ?_ ?_
 ·intro hc0
  refine wp_skip (then_n (wp_seq (wp_block ?_)))
  refine rs S (tr (fldi 0 2 rfl uT28)<|tr (ldk 0 sC25 rfl rfl rfl)<|tr (mv rfl)<|tr (idxi uT25 sZ71 rfl rfl k rfl (by omega) (((S.u 0 rfl).2.2.1).1.adr (i := k) (by omega)))<|tr (fldi (off t.edges.a + k * 6) 0 rfl uT71)<|tr (ov fun S=>x_load sC9 (S.e rfl) (((S.u 0 rfl).2.2.1).1.cell k (by omega) 0 _ rfl))<|tr (mv rfl)<|la (seqi rfl rfl)) ?_; clear S; intro a u S
  refine cd S rfl ?_ ?_
  ·intro hc1
   refine rs S (tr (mv rfl)<|la (av rfl)) ?_; clear S; intro a u S
   refine wp_ret (blk_r (then_r (then_r (blk_r (then_r ?_)))))
   refine ret1 rfl S.s rfl ?_
   replace S := S.pk []
   refine ⟨(r1 (vi ?_)), S.m.c⟩
   exact (idxOf_some (d := edgE.dflt) (by omega) (decide_eq_true (by assumption)) hn).symm
  intro hc2
  refine wp_skip (blk_n (then_n ?_))
  refine rg S (tr (mv rfl)<|tr (addi ((k + 1 : Nat) : Int) rfl rfl (w_i64 (by omega)))<|la (av rfl)) ?_; clear S; intro a u S
  refine then_n ?_
  refine ⟨k + 1, S.re (subM rfl) rfl rfl, ?_, ?_⟩
  ·refine ⟨by omega, fun j hj => ?_⟩
   rcases Nat.lt_succ_iff_lt_or_eq.1 hj with h | h
   ·exact hn j h
   subst h; exact decide_eq_false (by assumption)
  omega
 intro hc3
 refine wp_exit (then_e (then_e (blk_e (then_n ?_))))
 refine rs S (la (av rfl)) ?_; clear S; intro a u S
 refine wp_ret ?_
 refine ret1 rfl S.s rfl ?_
 replace S := S.pk []
 refine ⟨(r1 (vi ?_)), S.m.c⟩
 exact (idxOf_none (d := edgE.dflt) (fun j hj => hn j (by omega))).symm
set_option maxHeartbeats 2000000 in
set_option maxRecDepth 20000 in
theorem r11Fixed (w : World) (F : Nat → Prop) (hF : Old F w) (M : MS [] w) (t : Topo) (t_w : topoE.wf (Fr F []) w.heap t) (hle : t.edges.xs.length ≤ 12) :
 Calls Try.prog 89 #[.agg (topoE.cells t).toArray] w fun e w' => ∃ (ra : Option Addr) (rc : Nat), e = .returned (.slice ra ((fixedOf t.edges.xs).length) rc) ∧ (slE pfxE).wf (Fr F []) w'.heap (Sl.mk ra rc (fixedOf t.edges.xs)) ∧ Tr [] w [] w' := by
 have : t.devs.xs.length ≤ 9223372036854775807 := (t_w.1).1.len
 have : t.links.xs.length ≤ 9223372036854775807 := (t_w.2.1).1.len
 have : t.edges.xs.length ≤ 9223372036854775807 := (t_w.2.2.1).1.len
 have : t.pools.xs.length ≤ 9223372036854775807 := (t_w.2.2.2.1).1.len
 obtain ⟨_, _⟩ : inI64 t.tol := t_w.2.2.2.2
 refine go Try.func89 rfl 29 rfl [wfF topoE t] [] hF M ⟨t_w, trivial⟩ trivial ?_
 intro a S
 refine rs0 ?_
 refine nbp S (x_box _ (S.e rfl) rfl) ?_; clear S; intro a u b1 S
 refine ens S (la (av rfl)) ?_; clear S; intro a u S
 refine rs S (la (av rfl)) ?_; clear S; intro a u S
 refine wp_seq ?_
 refine rs S (la (av rfl)) ?_; clear S; intro a u S
 refine wp_block ?_
 replace S := S.nr pfxE 68
 refine lp4 (fun (k : Nat) (out_a : Option Addr) (out_c : Nat) (out : List Pfx) => [(1, pT b1 0), (2, .slice none 0 0), (4, iN k), (3, .slice out_a out.length out_c)]) (fun (k : Nat) (out_a : Option Addr) (out_c : Nat) (out : List Pfx) => [blO b1 (topoE.cells t) 28, rwO pfxE 68 w.heap.size out_a out_c out]) (fun (k : Nat) (out_a : Option Addr) (out_c : Nat) (out : List Pfx) => k ≤ t.edges.xs.length ∧ out = fixedOf (t.edges.xs.take k)) (fun (k : Nat) (out_a : Option Addr) (out_c : Nat) (out : List Pfx) => t.edges.xs.length - k) S 0 none 0 ([]) (subM rfl) rfl ?_ ?_
 ·exact ⟨Nat.zero_le _, rfl⟩
 clear S; intro k out_a out_c out a u S hR
 have out_len := (S.row 1 rfl).len_le; simp only [maxLen] at out_len
 obtain ⟨hk, ho⟩ := hR
 have hol : out.length ≤ 12 := by (rw [ho]; have := fixed_len (t.edges.xs.take k); rw [List.length_take] at this; omega)
 refine wp_seq ?_
 have hn5 : t.edges.xs.length ≤ 9223372036854775807 := ((S.u 0 rfl).2.2.1).1.len
 refine rs S (tr (mv rfl)<|tr (fldi 0 2 rfl uT28)<|tr (ldk 0 sC25 rfl rfl rfl)<|tr (leni uT25 rfl)<|la (lssi rfl rfl)) ?_; clear S; intro a u S
 refine cd S rfl ?_ ?_
 ·intro hc0
  refine wp_skip (then_n (wp_seq (wp_block ?_)))
  refine rs S (tr (fldi 0 2 rfl uT28)<|tr (ldk 0 sC25 rfl rfl rfl)<|tr (mv rfl)<|tr (idxi uT25 sZ71 rfl rfl k rfl (by omega) (((S.u 0 rfl).2.2.1).1.adr (i := k) (by omega)))<|tr (fldi (off t.edges.a + k * 6) 5 rfl uT71)<|tr (ov fun S=>x_load sC4 (S.e rfl) (((S.u 0 rfl).2.2.1).1.cell k (by omega) 5 _ rfl))<|la (noti rfl)) ?_; clear S; intro a u S
  refine cd S rfl ?_ ?_
  ·intro hc1
   refine r0 ?_
   obtain ⟨hl8, hu8⟩ : inU32 ((t.edges.xs.getD k edgE.dflt).pfx.addr) := id ((((S.u 0 rfl).2.2.1).1.wf k (by omega)).2.2.2.1.1)
   obtain ⟨hl9, hu9⟩ : inI64 ((t.edges.xs.getD k edgE.dflt).pfx.bits) := id ((((S.u 0 rfl).2.2.1).1.wf k (by omega)).2.2.2.1.2)
   refine sp S (tr (mv rfl)<|tr (fldi 0 2 rfl uT28)<|tr (ldk 0 sC25 rfl rfl rfl)<|tr (mv rfl)<|tr (idxi uT25 sZ71 rfl rfl k rfl (by omega) (((S.u 0 rfl).2.2.1).1.adr (i := k) (by omega)))<|tr (fldi (off t.edges.a + k * 6) 3 rfl uT71)<|la (ov fun S=>x_loadw [.int .u32 ((t.edges.xs.getD k edgE.dflt).pfx.addr), iI ((t.edges.xs.getD k edgE.dflt).pfx.bits)] wD68 (S.e rfl) (((S.u 0 rfl).2.2.1).1.mcell k (by omega) [.string ((t.edges.xs.getD k edgE.dflt).name), iI ((t.edges.xs.getD k edgE.dflt).dev), .string ((t.edges.xs.getD k edgE.dflt).zone)] [.int .u32 ((t.edges.xs.getD k edgE.dflt).pfx.addr), iI ((t.edges.xs.getD k edgE.dflt).pfx.bits)] [bD ((t.edges.xs.getD k edgE.dflt).planned = true)] rfl _ rfl))) ?_; clear S; intro a u S
   refine nbs pfxE S [(t.edges.xs.getD k edgE.dflt).pfx] (x_bs S [(0, .agg #[.int .u32 ((t.edges.xs.getD k edgE.dflt).pfx.addr), iI ((t.edges.xs.getD k edgE.dflt).pfx.bits)])] uT26 iZ68) (fun x hx => by simp only [List.mem_cons, List.not_mem_nil, or_false] at hx; rw [hx]; exact (show pfxE.wf _ _ ((t.edges.xs.getD k edgE.dflt).pfx) from ⟨(((S.u 0 rfl).2.2.1).1.wf k (by omega)).2.2.2.1.1, (((S.u 0 rfl).2.2.1).1.wf k (by omega)).2.2.2.1.2⟩)) ?_; clear S; intro a u b26 S
   refine ap (E := pfxE) (ys := [(t.edges.xs.getD k edgE.dflt).pfx]) S 1 rfl uT26 iZ68 rfl rfl (show LAt pfxE _ _ (some ⟨b26, 0, none⟩) ([(t.edges.xs.getD k edgE.dflt).pfx]) from ((S.u 1 rfl)).1) ((S.u 1 rfl)).2.2 (LAt.mem (show LAt pfxE _ _ (some ⟨b26, 0, none⟩) ([(t.edges.xs.getD k edgE.dflt).pfx]) from ((S.u 1 rfl)).1)) ⟨by unfold maxLen; (try simp only [List.length_cons, List.length_nil, List.length_append, List.length_map]); omega, by (try simp only [List.length_cons, List.length_nil, List.length_append, List.length_map]); omega⟩ ?_; clear S; intro a u ad27 cap27 S
   refine en S (la (av rfl)) ?_; clear S; intro a u S
   refine blk_n (then_n ?_)
   refine rg S (tr (mv rfl)<|tr (addi ((k + 1 : Nat) : Int) rfl rfl (w_i64 (by omega)))<|la (av rfl)) ?_; clear S; intro a u S
   refine then_n ?_
   refine ⟨k + 1, ad27, cap27, (out ++ [(t.edges.xs.getD k edgE.dflt).pfx]), S.re (subM rfl) rfl rfl, ?_, ?_⟩
   ·refine ⟨by omega, ?_⟩
    rw [fixed_snoc _ _ (by omega), ← ho]; first | rw [if_neg hc1] | (rw [if_pos (Classical.not_not.1 hc1)])
   omega
  intro hc2
  refine wp_skip (blk_n (then_n ?_))
  refine rg S (tr (mv rfl)<|tr (addi ((k + 1 : Nat) : Int) rfl rfl (w_i64 (by omega)))<|la (av rfl)) ?_; clear S; intro a u S
  refine then_n ?_
  refine ⟨k + 1, out_a, out_c, out, S.re (subM rfl) rfl rfl, ?_, ?_⟩
  ·refine ⟨by omega, ?_⟩
   rw [fixed_snoc _ _ (by omega), ← ho]; first | rw [if_neg hc2] | (rw [if_pos (Classical.not_not.1 hc2)])
  omega
 intro hc3
 refine wp_exit (then_e (then_e (blk_e (then_n ?_))))
 refine rs S (tr (mv rfl)<|la (av rfl)) ?_; clear S; intro a u S
 refine wp_ret ?_
 replace S := S.fz 1 rfl
 refine ret1 rfl S.s rfl ?_
 replace S := S.pk []
 have hx13 : fixedOf t.edges.xs = out := by
  rw [ho, show k = t.edges.xs.length from by omega, List.take_length]
 rw [hx13]
 refine ⟨out_a, out_c, rfl, (S.u 1 rfl), S.m.c⟩
set_option maxHeartbeats 2000000 in
set_option maxRecDepth 20000 in
theorem r11meets (w : World) (F : Nat → Prop) (hF : Old F w) (M : MS [] w) (p : Pfx) (p_w : pfxE.wf (Fr F []) w.heap p) (l : Sl Pfx) (l_w : (slE pfxE).wf (Fr F []) w.heap l) :
 Calls Try.prog 90 #[.agg (pfxE.cells p).toArray, sV l] w fun e w' => e = .returned (bD (∃ q ∈ l.xs, meets p q)) ∧ Tr [] w [] w' := by
 obtain ⟨_, _⟩ : inU32 p.addr := p_w.1
 obtain ⟨_, _⟩ : inI64 p.bits := p_w.2
 have : l.xs.length ≤ 9223372036854775807 := (l_w).1.len
 refine go Try.func90 rfl 18 rfl [wfF pfxE p, wfF (slE pfxE) l] [] hF M ⟨p_w, l_w, trivial⟩ trivial ?_
 intro a S
 refine rs0 ?_
 refine nbp S (x_box _ (S.e rfl) rfl) ?_; clear S; intro a u b2 S
 refine ens S (la (av rfl)) ?_; clear S; intro a u S
 refine wp_seq ?_
 refine rs S (la (av rfl)) ?_; clear S; intro a u S
 refine wp_block ?_
 refine lp1 (fun (k : Nat) => [(1, sV l), (2, pT b2 0), (5, iN k)]) (fun (k : Nat) => [blO b2 (pfxE.cells p) 68]) (fun (k : Nat) => k ≤ l.xs.length ∧ ∀ j, j < k → ¬ meets p (l.xs.getD j pfxE.dflt)) (fun (k : Nat) => l.xs.length - k) S 0 (subM rfl) rfl ?_ ?_
 ·exact ⟨Nat.zero_le _, fun j hj => by omega⟩
 clear S; intro k a u S hR
 obtain ⟨hk, hn⟩ := hR
 refine wp_seq ?_
 have hn4 : l.xs.length ≤ 9223372036854775807 := ((S.u 1 rfl)).1.len
 refine rs S (tr (mv rfl)<|tr (mv rfl)<|tr (leni uT26 rfl)<|la (lssi rfl rfl)) ?_; clear S; intro a u S
 refine cd S rfl ?_ ?_
 ·intro hc0
  refine wp_skip (then_n (wp_seq (wp_block (wp_seq ?_))))
  obtain ⟨hl5, hu5⟩ : inU32 ((l.xs.getD k pfxE.dflt).addr) := id ((((S.u 1 rfl)).1.wf k (by omega)).1)
  obtain ⟨hl6, hu6⟩ : inI64 ((l.xs.getD k pfxE.dflt).bits) := id ((((S.u 1 rfl)).1.wf k (by omega)).2)
  refine dr (P := Try.prog) S 6 [] [(12, .is _), (13, .is _), (14, .is _), (15, .is _), (16, .is _), (17, .is _)] [[], [], [], [13, 14], [15], [12, 16]] [17] _ ⟨qd (ldkw 0 rfl rfl wD68), qd (mv rfl), qd (mv rfl), qd (idxi uT26 sZ68 rfl rfl k rfl (by omega) (((S.u 1 rfl)).1.adr (i := k) (by omega))), qd (ov fun S=>x_ldw (S.e rfl) (((S.u 1 rfl)).1.wcell k (by omega) _ rfl _ rfl) wD68), qd (oc (fun S=>rMeet _ _ S.x (.nil _) p (dn0 (S.u 0 rfl)) (l.xs.getD k pfxE.dflt) (dn0 (((S.u 1 rfl)).1.wf k (by omega)))) cB109), trivial⟩ ?_
  clear S; intro a u S G hE
  refine ent ?_
  refine cd S rfl ?_ ?_
  ·intro hc1
   refine rs S (la (av rfl)) ?_; clear S; intro a u S
   refine wp_ret (blk_r (then_r (then_r (blk_r (then_r ?_)))))
   refine ret1 rfl S.s rfl ?_
   replace S := S.pk []
   refine ⟨(r1 (vt ?_)), S.m.c⟩
   exact (ex_getD pfxE.dflt _ _).2 ⟨k, by omega, by assumption⟩
  intro hc2
  refine wp_skip (blk_n (then_n ?_))
  refine rg S (tr (mv rfl)<|tr (addi ((k + 1 : Nat) : Int) rfl rfl (w_i64 (by omega)))<|la (av rfl)) ?_; clear S; intro a u S
  refine then_n ?_
  refine ⟨k + 1, S.re (subM rfl) rfl rfl, ?_, ?_⟩
  ·refine ⟨by omega, fun j hj => ?_⟩
   rcases Nat.lt_succ_iff_lt_or_eq.1 hj with h | h
   ·exact hn j h
   subst h; assumption
  omega
 intro hc3
 refine wp_exit (then_e (then_e (blk_e (then_n ?_))))
 refine rs S (la (av rfl)) ?_; clear S; intro a u S
 refine wp_ret ?_
 refine ret1 rfl S.s rfl ?_
 replace S := S.pk []
 refine ⟨(r1 (vf ?_)), S.m.c⟩
 intro h; obtain ⟨j, hj, hm⟩ := (ex_getD pfxE.dflt _ _).1 h; exact hn j (by omega) hm
set_option maxHeartbeats 2000000 in
set_option maxRecDepth 20000 in
theorem r11vDevs (w : World) (F : Nat → Prop) (hF : Old F w) (M : MS [] w) (l : Sl Dev) (l_w : (slE devE).wf (Fr F []) w.heap l) :
 Calls Try.prog 86 #[sV l] w fun e w' => e = .returned (bD (devsOk l.xs)) ∧ Tr [] w [] w' := by
 have : l.xs.length ≤ 9223372036854775807 := (l_w).1.len
 refine go Try.func86 rfl 70 rfl [wfF (slE devE) l] [] hF M ⟨l_w, trivial⟩ trivial ?_
 intro a S
 refine rs S (la (av rfl)) ?_; clear S; intro a u S
 refine wp_seq ?_
 have hn3 : l.xs.length ≤ 9223372036854775807 := ((S.u 0 rfl)).1.len
 refine rs S (tr (mv rfl)<|tr (leni uT23 rfl)<|tr (lssi rfl rfl)<|tr (mv rfl)<|tr (og 7 rfl gf fun S hg=>x_move (S.e rfl))<|tr (og 7 rfl gf fun S hg=>x_len uT23 (S.p rfl hg))<|tr (og 7 rfl gf fun S hg=>x_gtr (S.p rfl hg) (S.e rfl))<|la (ori rfl rfl rfl)) ?_; clear S; intro a u S
 refine cd S rfl ?_ ?_
 ·intro hc0
  refine rs S (la (av rfl)) ?_; clear S; intro a u S
  refine wp_ret (then_r ?_)
  refine ret1 rfl S.s rfl ?_
  refine ⟨(r1 (vf ?_)), S.m.c⟩
  unfold devsOk; rintro ⟨h, _⟩; omega
 intro hc1
 refine wp_skip (then_n (wp_seq ?_))
 refine rs S (la (av rfl)) ?_; clear S; intro a u S
 refine wp_block ?_
 refine lp1 (fun (k : Nat) => [(0, sV l), (3, iN k)]) (fun (k : Nat) => []) (fun (k : Nat) => k ≤ l.xs.length ∧ ∀ j, j < k → devAt l.xs j) (fun (k : Nat) => l.xs.length - k) S 0 (subM rfl) rfl ?_ ?_
 ·exact ⟨Nat.zero_le _, fun j hj => by omega⟩
 clear S; intro k a u S hR
 obtain ⟨hk, hn⟩ := hR
 refine wp_seq ?_
 refine rs S (tr (mv rfl)<|tr (mv rfl)<|tr (leni uT23 rfl)<|la (lssi rfl rfl)) ?_; clear S; intro a u S
 refine cd S rfl ?_ ?_
 ·intro hc2
  refine wp_skip (then_n (wp_seq (wp_block ?_)))
  refine rs S (tr (mv rfl)<|tr (mv rfl)<|tr (idxi uT23 sZ65 rfl rfl k rfl (by omega) (((S.u 0 rfl)).1.adr (i := k) (by omega)))<|tr (fldi (off l.a + k * 5) 0 rfl uT65)<|tr (ov fun S=>x_load sC9 (S.e rfl) (((S.u 0 rfl)).1.cell k (by omega) 0 _ rfl))<|tr (oc (fun S=>rName _ _ S.x (.nil _) ((l.xs.getD k devE.dflt).name) (((S.u 0 rfl)).1.wf k (by omega)).1) cB107)<|tr (noti rfl)<|tr (mv rfl)<|tr (og 25 rfl gf fun S hg=>x_move (S.e rfl))<|tr (og 25 rfl gf fun S hg=>x_build [(0, sV l)] [sV l, .slice none 0 0, .slice none 0 0, .slice none 0 0, iI 0] (by simp only [List.map_cons, List.map_nil, show Act.eval _ (.tmp 26) = sV l from (S.p rfl hg)]) (by kernel_rfl))<|tr (og 25 rfl gf fun S hg=>x_move (S.e rfl))<|tr (og 25 rfl gf fun S hg=>x_move (S.e rfl))<|tr (og 25 rfl gf fun S hg=>x_idx uT23 sZ65 (S.p rfl hg) (S.p rfl hg) k rfl (by omega) (((S.u 0 rfl)).1.adr (i := k) (by omega)))<|tr (og 25 rfl gf fun S hg=>xf (off l.a + k * 5) 0 uT65 (S.p rfl hg))<|tr (og 25 rfl gf fun S hg=>x_load sC9 (S.p rfl hg) (((S.u 0 rfl)).1.cell k (by omega) 0 _ rfl))<|tr (ocg 25 rfl gf (fun S hg=>r11Device _ _ S.x (.nil _) (⟨l, (Sl.mk none 0 ([])), (Sl.mk none 0 ([])), (Sl.mk none 0 ([])), 0⟩ : Topo) ⟨(dn0 (S.u 0 rfl)), sl_nil, sl_nil, sl_nil, (show inI64 0 from ⟨by omega, by omega⟩)⟩ ((l.xs.getD k devE.dflt).name) (((S.u 0 rfl)).1.wf k (by omega)).1) cB108 fun S=>⟨fun hg=>(S.p rfl hg), fun hg=>(S.p rfl hg), trivial⟩)<|tr (og 25 rfl gf fun S hg=>x_move (S.e rfl))<|tr (og 25 rfl gf fun S hg=>x_neq (S.p rfl hg) (S.p rfl hg))<|tr (ori rfl rfl rfl)<|tr (mv rfl)<|tr (og 37 rfl gf fun S hg=>x_move (S.e rfl))<|tr (og 37 rfl gf fun S hg=>x_move (S.e rfl))<|tr (og 37 rfl gf fun S hg=>x_idx uT23 sZ65 (S.p rfl hg) (S.p rfl hg) k rfl (by omega) (((S.u 0 rfl)).1.adr (i := k) (by omega)))<|tr (og 37 rfl gf fun S hg=>xf (off l.a + k * 5) 1 uT65 (S.p rfl hg))<|tr (og 37 rfl gf fun S hg=>x_load sC3 (S.p rfl hg) (((S.u 0 rfl)).1.cell k (by omega) 1 _ rfl))<|tr (og 37 rfl gf fun S hg=>x_lss (S.p rfl hg) (S.e rfl))<|tr (ori rfl rfl rfl)<|tr (mv rfl)<|tr (og 45 rfl gf fun S hg=>x_move (S.e rfl))<|tr (og 45 rfl gf fun S hg=>x_move (S.e rfl))<|tr (og 45 rfl gf fun S hg=>x_idx uT23 sZ65 (S.p rfl hg) (S.p rfl hg) k rfl (by omega) (((S.u 0 rfl)).1.adr (i := k) (by omega)))<|tr (og 45 rfl gf fun S hg=>xf (off l.a + k * 5) 1 uT65 (S.p rfl hg))<|tr (og 45 rfl gf fun S hg=>x_load sC3 (S.p rfl hg) (((S.u 0 rfl)).1.cell k (by omega) 1 _ rfl))<|tr (og 45 rfl gf fun S hg=>x_gtr (S.p rfl hg) (S.e rfl))<|tr (ori rfl rfl rfl)<|tr (mv rfl)<|tr (og 53 rfl gf fun S hg=>x_move (S.e rfl))<|tr (og 53 rfl gf fun S hg=>x_move (S.e rfl))<|tr (og 53 rfl gf fun S hg=>x_idx uT23 sZ65 (S.p rfl hg) (S.p rfl hg) k rfl (by omega) (((S.u 0 rfl)).1.adr (i := k) (by omega)))<|tr (og 53 rfl gf fun S hg=>xf (off l.a + k * 5) 4 uT65 (S.p rfl hg))<|tr (og 53 rfl gf fun S hg=>x_load sC9 (S.p rfl hg) (((S.u 0 rfl)).1.cell k (by omega) 4 _ rfl))<|tr (og 53 rfl gf fun S hg=>x_sneq (S.p rfl hg) (S.e rfl))<|tr (og 53 rfl gf fun S hg=>x_move (S.p rfl hg))<|tr (og 60 rfl ggt fun S hg=>x_move (S.e rfl))<|tr (og 60 rfl ggt fun S hg=>x_move (S.e rfl))<|tr (og 60 rfl ggt fun S hg=>x_idx uT23 sZ65 (S.p rfl hg) (S.p rfl hg) k rfl (by omega) (((S.u 0 rfl)).1.adr (i := k) (by omega)))<|tr (og 60 rfl ggt fun S hg=>xf (off l.a + k * 5) 4 uT65 (S.p rfl hg))<|tr (og 60 rfl ggt fun S hg=>x_load sC9 (S.p rfl hg) (((S.u 0 rfl)).1.cell k (by omega) 4 _ rfl))<|tr (ocg 60 rfl ggt (fun S hg=>rName _ _ S.x (.nil _) ((l.xs.getD k devE.dflt).cls) (((S.u 0 rfl)).1.wf k (by omega)).2.2.2.2) cB107 fun S=>⟨fun hg=>(S.p rfl hg), trivial⟩)<|tr (og 60 rfl ggt fun S hg=>x_notp (S.p rfl hg))<|tr (og 53 rfl gf fun S hg=>x_and (S.p rfl hg) (fun hl => (S.p rfl (And.intro hg hl))) (S.e rfl))<|la (ori rfl rfl rfl)) ?_; clear S; intro a u S
  refine cd S rfl ?_ ?_
  ·intro hc3
   refine rs S (la (av rfl)) ?_; clear S; intro a u S
   refine wp_ret (blk_r (then_r (then_r (blk_r (then_r ?_)))))
   refine ret1 rfl S.s rfl ?_
   refine ⟨(r1 (vf ?_)), S.m.c⟩
   unfold devsOk; rintro ⟨_, h⟩; have h2 := h k (by omega); unfold devAt devV at h2; obtain ⟨⟨g1, g2, g3, g4⟩, g5⟩ := h2; rcases hc3 with (((h1 | h1) | h1) | h1) | h1
   ·exact h1 g1
   ·exact h1 g5
   ·omega
   ·omega
   rcases g4 with g4 | g4
   ·exact h1.1 g4
   exact h1.2 g4
  intro hc4
  refine wp_skip (blk_n (then_n ?_))
  refine rg S (tr (mv rfl)<|tr (addi ((k + 1 : Nat) : Int) rfl rfl (w_i64 (by omega)))<|la (av rfl)) ?_; clear S; intro a u S
  refine then_n ?_
  refine ⟨k + 1, S.re (subM rfl) rfl rfl, ?_, ?_⟩
  ·refine ⟨by omega, fun j hj => ?_⟩
   rcases Nat.lt_succ_iff_lt_or_eq.1 hj with h | h
   ·exact hn j h
   subst h; unfold devAt devV; have hq := hc4; clear hc4; simp only [not_or, not_and, Classical.not_not, Int.not_lt] at hq; refine ⟨⟨hq.1.1.1.1, by omega, by omega, ?_⟩, hq.1.1.1.2⟩; exact (Classical.em _).elim .inl fun e => .inr (hq.2 e)
  omega
 intro hc5
 refine wp_exit (then_e (then_e (blk_e (then_n ?_))))
 refine rs S (la (av rfl)) ?_; clear S; intro a u S
 refine wp_ret ?_
 refine ret1 rfl S.s rfl ?_
 refine ⟨(r1 (vt ?_)), S.m.c⟩
 unfold devsOk; exact ⟨by omega, fun i hi => hn i (by omega)⟩
set_option maxHeartbeats 2000000 in
set_option maxRecDepth 20000 in
theorem r11Valid (w : World) (F : Nat → Prop) (hF : Old F w) (M : MS [] w) (t : Topo) (t_w : topoE.wf (Fr F []) w.heap t) :
 Calls Try.prog 53 #[.agg (topoE.cells t).toArray] w fun e w' => e = .returned (bD (topV t)) ∧ Tr [] w [] w' := by
 have : t.devs.xs.length ≤ 9223372036854775807 := (t_w.1).1.len
 have : t.links.xs.length ≤ 9223372036854775807 := (t_w.2.1).1.len
 have : t.edges.xs.length ≤ 9223372036854775807 := (t_w.2.2.1).1.len
 have : t.pools.xs.length ≤ 9223372036854775807 := (t_w.2.2.2.1).1.len
 obtain ⟨_, _⟩ : inI64 t.tol := t_w.2.2.2.2
 refine go Try.func53 rfl 152 rfl [wfF topoE t] [] hF M ⟨t_w, trivial⟩ trivial ?_
 intro a S
 refine rs0 ?_
 refine nbp S (x_box _ (S.e rfl) rfl) ?_; clear S; intro a u b1 S
 refine ens S (la (av rfl)) ?_; clear S; intro a u S
 refine wp_seq ?_
 refine rs S (tr (fldi 0 0 rfl uT28)<|tr (ldk 0 sC23 rfl rfl rfl)<|tr (oc (fun S=>r11vDevs _ _ S.x (.nil _) t.devs (dn0 ((S.u 0 rfl).1))) cB86)<|tr (noti rfl)<|tr (mv rfl)<|tr (og 13 rfl gf fun S hg=>xf (0) 1 uT28 (S.e rfl))<|tr (og 13 rfl gf fun S hg=>x_load sC24 (S.p rfl hg) ((S.k 0 rfl).cell (j := 1) rfl))<|tr (og 13 rfl gf fun S hg=>x_len uT24 (S.p rfl hg))<|tr (og 13 rfl gf fun S hg=>x_gtr (S.p rfl hg) (S.e rfl))<|tr (ori rfl rfl rfl)<|tr (mv rfl)<|tr (og 19 rfl gf fun S hg=>xf (0) 2 uT28 (S.e rfl))<|tr (og 19 rfl gf fun S hg=>x_load sC25 (S.p rfl hg) ((S.k 0 rfl).cell (j := 2) rfl))<|tr (og 19 rfl gf fun S hg=>x_len uT25 (S.p rfl hg))<|tr (og 19 rfl gf fun S hg=>x_gtr (S.p rfl hg) (S.e rfl))<|tr (ori rfl rfl rfl)<|tr (mv rfl)<|tr (og 25 rfl gf fun S hg=>xf (0) 3 uT28 (S.e rfl))<|tr (og 25 rfl gf fun S hg=>x_load sC26 (S.p rfl hg) ((S.k 0 rfl).cell (j := 3) rfl))<|tr (og 25 rfl gf fun S hg=>x_len uT26 (S.p rfl hg))<|tr (og 25 rfl gf fun S hg=>x_gtr (S.p rfl hg) (S.e rfl))<|tr (ori rfl rfl rfl)<|tr (mv rfl)<|tr (og 31 rfl gf fun S hg=>xf (0) 4 uT28 (S.e rfl))<|tr (og 31 rfl gf fun S hg=>x_load sC3 (S.p rfl hg) ((S.k 0 rfl).cell (j := 4) rfl))<|tr (og 31 rfl gf fun S hg=>x_lss (S.p rfl hg) (S.e rfl))<|tr (ori rfl rfl rfl)<|tr (mv rfl)<|tr (og 36 rfl gf fun S hg=>xf (0) 4 uT28 (S.e rfl))<|tr (og 36 rfl gf fun S hg=>x_load sC3 (S.p rfl hg) ((S.k 0 rfl).cell (j := 4) rfl))<|tr (og 36 rfl gf fun S hg=>x_gtr (S.p rfl hg) (S.e rfl))<|la (ori rfl rfl rfl)) ?_; clear S; intro a u S
 refine cd S rfl ?_ ?_
 ·intro hc0
  refine rs S (la (av rfl)) ?_; clear S; intro a u S
  refine wp_ret (then_r ?_)
  refine ret1 rfl S.s rfl ?_
  replace S := S.pk []
  refine ⟨(r1 (vf ?_)), S.m.c⟩
  rintro ⟨h, h2, _⟩; unfold topB at h; rcases hc0 with ((((h1 | h1) | h1) | h1) | h1) | h1
  ·exact h1 ⟨⟨h.1, h.2.1⟩, h2⟩
  all_goals omega
 intro hc1
 refine wp_skip (then_n (wp_seq ?_))
 refine rs S (la (av rfl)) ?_; clear S; intro a u S
 refine wp_block ?_
 refine lp1 (fun (k : Nat) => [(1, pT b1 0), (3, iN k)]) (fun (k : Nat) => [blO b1 (topoE.cells t) 28]) (fun (k : Nat) => k ≤ t.links.xs.length ∧ ∀ j, j < k → lnkV t.devs.xs.length (t.links.xs.getD j lnkE.dflt)) (fun (k : Nat) => t.links.xs.length - k) S 0 (subM rfl) rfl ?_ ?_
 ·exact ⟨Nat.zero_le _, fun j hj => by omega⟩
 clear S; intro k a u S hR
 obtain ⟨hkb, hnb⟩ := hR
 refine wp_seq ?_
 have hn6 : t.links.xs.length ≤ 9223372036854775807 := ((S.u 0 rfl).2.1).1.len
 refine rs S (tr (mv rfl)<|tr (fldi 0 1 rfl uT28)<|tr (ldk 0 sC24 rfl rfl rfl)<|tr (leni uT24 rfl)<|la (lssi rfl rfl)) ?_; clear S; intro a u S
 refine cd S rfl ?_ ?_
 ·intro hc2
  refine wp_skip (then_n (wp_seq (wp_block (rs0 ?_))))
  obtain ⟨hl8, hu8⟩ : inI64 ((t.links.xs.getD k lnkE.dflt).a) := id ((((S.u 0 rfl).2.1).1.wf k (by omega)).1)
  obtain ⟨hl9, hu9⟩ : inI64 ((t.links.xs.getD k lnkE.dflt).b) := id ((((S.u 0 rfl).2.1).1.wf k (by omega)).2.1)
  obtain ⟨hl10, hu10⟩ : inI64 ((t.links.xs.getD k lnkE.dflt).cost) := id ((((S.u 0 rfl).2.1).1.wf k (by omega)).2.2)
  refine sp S (tr (fldi 0 1 rfl uT28)<|tr (ldk 0 sC24 rfl rfl rfl)<|tr (mv rfl)<|tr (idxi uT24 sZ54 rfl rfl k rfl (by omega) (((S.u 0 rfl).2.1).1.adr (i := k) (by omega)))<|la (ov fun S=>x_ldw (S.e rfl) (((S.u 0 rfl).2.1).1.wcell k (by omega) _ rfl _ rfl) wD54)) ?_; clear S; intro a u S
  refine nbp S (x_allocz _ iZ54 rfl) ?_; clear S; intro a u b4 S
  refine ens S (la (stkw 1 rfl rfl rfl)) ?_; clear S; intro a u S
  refine rs S (tr (fldi 0 0 rfl uT54)<|tr (ldk 1 sC3 rfl rfl rfl)<|tr (lssi rfl rfl)<|tr (mv rfl)<|tr (og 56 rfl gf fun S hg=>xf (0) 1 uT54 (S.e rfl))<|tr (og 56 rfl gf fun S hg=>x_load sC3 (S.p rfl hg) ((S.k 1 rfl).cell (j := 1) rfl))<|tr (og 56 rfl gf fun S hg=>xf (0) 0 uT54 (S.e rfl))<|tr (og 56 rfl gf fun S hg=>x_load sC3 (S.p rfl hg) ((S.k 1 rfl).cell (j := 0) rfl))<|tr (og 56 rfl gf fun S hg=>x_leq (S.p rfl hg) (S.p rfl hg))<|tr (ori rfl rfl rfl)<|tr (mv rfl)<|tr (og 63 rfl gf fun S hg=>xf (0) 1 uT54 (S.e rfl))<|tr (og 63 rfl gf fun S hg=>x_load sC3 (S.p rfl hg) ((S.k 1 rfl).cell (j := 1) rfl))<|tr (og 63 rfl gf fun S hg=>xf (0) 0 uT28 (S.e rfl))<|tr (og 63 rfl gf fun S hg=>x_load sC23 (S.p rfl hg) ((S.k 0 rfl).cell (j := 0) rfl))<|tr (og 63 rfl gf fun S hg=>x_len uT23 (S.p rfl hg))<|tr (og 63 rfl gf fun S hg=>x_geq (S.p rfl hg) (S.p rfl hg))<|tr (ori rfl rfl rfl)<|tr (mv rfl)<|tr (og 71 rfl gf fun S hg=>xf (0) 2 uT54 (S.e rfl))<|tr (og 71 rfl gf fun S hg=>x_load sC3 (S.p rfl hg) ((S.k 1 rfl).cell (j := 2) rfl))<|tr (og 71 rfl gf fun S hg=>x_lss (S.p rfl hg) (S.e rfl))<|tr (ori rfl rfl rfl)<|tr (mv rfl)<|tr (og 76 rfl gf fun S hg=>xf (0) 2 uT54 (S.e rfl))<|tr (og 76 rfl gf fun S hg=>x_load sC3 (S.p rfl hg) ((S.k 1 rfl).cell (j := 2) rfl))<|tr (og 76 rfl gf fun S hg=>x_gtr (S.p rfl hg) (S.e rfl))<|la (ori rfl rfl rfl)) ?_; clear S; intro a u S
  refine cd S rfl ?_ ?_
  ·intro hc3
   refine rs S (la (av rfl)) ?_; clear S; intro a u S
   refine wp_ret (blk_r (then_r (then_r (blk_r (then_r ?_)))))
   refine ret1 rfl S.s rfl ?_
   replace S := S.pk []
   refine ⟨(r1 (vf ?_)), S.m.c⟩
   rintro ⟨_, _, h, _⟩; have := h k (by omega); unfold lnkV at this; omega
  intro hc4
  refine wp_skip (blk_n (then_n ?_))
  refine rg S (tr (mv rfl)<|tr (addi ((k + 1 : Nat) : Int) rfl rfl (w_i64 (by omega)))<|la (av rfl)) ?_; clear S; intro a u S
  refine then_n ?_
  refine ⟨k + 1, S.re (subM rfl) rfl rfl, ?_, ?_⟩
  ·refine ⟨by omega, fun j hj => ?_⟩
   rcases Nat.lt_succ_iff_lt_or_eq.1 hj with h | h
   ·exact hnb j h
   subst h; unfold lnkV; omega
  omega
 intro hc5
 refine wp_exit (then_e (then_e (blk_e (then_n (wp_seq ?_)))))
 refine rs S (la (av rfl)) ?_; clear S; intro a u S
 refine wp_block ?_
 refine lp1 (fun (k : Nat) => [(1, pT b1 0), (5, iN k)]) (fun (k : Nat) => [blO b1 (topoE.cells t) 28]) (fun (k : Nat) => k ≤ t.edges.xs.length ∧ ∀ j, j < k → edgAt t j) (fun (k : Nat) => t.edges.xs.length - k) S 0 (subM rfl) rfl ?_ ?_
 ·exact ⟨Nat.zero_le _, fun j hj => by omega⟩
 clear S; intro k a u S hR
 obtain ⟨hkc, hnc⟩ := hR
 refine wp_seq ?_
 have hn16 : t.edges.xs.length ≤ 9223372036854775807 := ((S.u 0 rfl).2.2.1).1.len
 refine rs S (tr (mv rfl)<|tr (fldi 0 2 rfl uT28)<|tr (ldk 0 sC25 rfl rfl rfl)<|tr (leni uT25 rfl)<|la (lssi rfl rfl)) ?_; clear S; intro a u S
 refine cd S rfl ?_ ?_
 ·intro hc6
  refine wp_skip (then_n (wp_seq (wp_block (wp_seq ?_))))
  obtain ⟨hl17, hu17⟩ : inI64 ((t.edges.xs.getD k edgE.dflt).dev) := id ((((S.u 0 rfl).2.2.1).1.wf k (by omega)).2.1)
  obtain ⟨hl18, hu18⟩ : inU32 ((t.edges.xs.getD k edgE.dflt).pfx.addr) := id ((((S.u 0 rfl).2.2.1).1.wf k (by omega)).2.2.2.1.1)
  obtain ⟨hl19, hu19⟩ : inI64 ((t.edges.xs.getD k edgE.dflt).pfx.bits) := id ((((S.u 0 rfl).2.2.1).1.wf k (by omega)).2.2.2.1.2)
  have hn20 : t.devs.xs.length ≤ 9223372036854775807 := ((S.u 0 rfl).1).1.len
  refine dr (P := Try.prog) S 22 [] [(88, .is _), (89, .is _), (90, .is _), (91, .is _), (92, .is _), (93, .is _), (94, .is _), (95, .is _), (96, .is _), (97, .is _), (98, .is _), (99, .is _), (100, .is _), (101, .is _), (102, .is _), (103, .is _), (104, .is _), (105, .is _), (106, .is _), (107, .is _), (108, .is _), (109, .is _)] [[], [88], [], [89, 90], [91], [], [93], [94], [92, 95], [96], [97], [98], [98], [98, 100], [98], [98, 101, 102], [98, 103], [98, 104], [98, 99, 105], [98], [98, 106, 107], [98, 108]] [109] _ ⟨qd (fldi 0 2 rfl uT28), qd (ldk 0 sC25 rfl rfl rfl), qd (mv rfl), qd (idxi uT25 sZ71 rfl rfl k rfl (by omega) (((S.u 0 rfl).2.2.1).1.adr (i := k) (by omega))), qd (ov fun S=>x_ldw (S.e rfl) (((S.u 0 rfl).2.2.1).1.wcell k (by omega) _ rfl _ rfl) wD71), qd (fldi 0 0 rfl uT28), qd (ldk 0 sC23 rfl rfl rfl), qd (leni uT23 rfl), qd (oc (fun S=>rValidEdge _ _ S.x (.nil _) (t.edges.xs.getD k edgE.dflt) (dn0 (((S.u 0 rfl).2.2.1).1.wf k (by omega))) ((t.devs.xs.length : Nat) : Int) ⟨by omega, by omega⟩ (by omega)) cB87), qd (noti rfl), qd (mv rfl), qd (og 98 rfl gf fun S hg=>x_ldw (S.e rfl) (S.k 0 rfl).all wD28), qd (og 98 rfl gf fun S hg=>xf (0) 2 uT28 (S.e rfl)), qd (og 98 rfl gf fun S hg=>x_load sC25 (S.p rfl hg) ((S.k 0 rfl).cell (j := 2) rfl)), qd (og 98 rfl gf fun S hg=>x_move (S.e rfl)), qd (og 98 rfl gf fun S hg=>x_idx uT25 sZ71 (S.p rfl hg) (S.p rfl hg) k rfl (by omega) (((S.u 0 rfl).2.2.1).1.adr (i := k) (by omega))), qd (og 98 rfl gf fun S hg=>xf (off t.edges.a + k * 6) 0 uT71 (S.p rfl hg)), qd (og 98 rfl gf fun S hg=>x_load sC9 (S.p rfl hg) (((S.u 0 rfl).2.2.1).1.cell k (by omega) 0 _ rfl)), qd (ocg 98 rfl gf (fun S hg=>r11Edge _ _ S.x (.nil _) t (dn0 (S.u 0 rfl)) ((t.edges.xs.getD k edgE.dflt).name) (((S.u 0 rfl).2.2.1).1.wf k (by omega)).1) cB88 fun S=>⟨fun hg=>(S.p rfl hg), fun hg=>(S.p rfl hg), trivial⟩), qd (og 98 rfl gf fun S hg=>x_move (S.e rfl)), qd (og 98 rfl gf fun S hg=>x_neq (S.p rfl hg) (S.p rfl hg)), qd (ori rfl rfl rfl), trivial⟩ ?_
  clear S; intro a u S G hE
  refine ent ?_
  refine cd S rfl ?_ ?_
  ·intro hc7
   refine rs S (la (av rfl)) ?_; clear S; intro a u S
   refine wp_ret (blk_r (then_r (then_r (blk_r (then_r ?_)))))
   refine ret1 rfl S.s rfl ?_
   replace S := S.pk []
   refine ⟨(r1 (vf ?_)), S.m.c⟩
   rintro ⟨_, _, _, h, _⟩; have := h k (by omega); unfold edgAt at this; simp only [Int.toNat_natCast] at hc7; rcases hc7 with h1 | h1
   ·exact h1 this.1
   exact h1 this.2
  intro hc8
  refine wp_skip (blk_n (then_n ?_))
  refine rg S (tr (mv rfl)<|tr (addi ((k + 1 : Nat) : Int) rfl rfl (w_i64 (by omega)))<|la (av rfl)) ?_; clear S; intro a u S
  refine then_n ?_
  refine ⟨k + 1, S.re (subM rfl) rfl rfl, ?_, ?_⟩
  ·refine ⟨by omega, fun j hj => ?_⟩
   rcases Nat.lt_succ_iff_lt_or_eq.1 hj with h | h
   ·exact hnc j h
   subst h; have hq := hc8; simp only [not_or, Classical.not_not, Int.toNat_natCast] at hq; exact ⟨hq.1, hq.2⟩
  omega
 intro hc9
 refine wp_exit (then_e (then_e (blk_e (then_n (rs0 ?_)))))
 refine sp S (la (ldkw 0 rfl rfl wD28)) ?_; clear S; intro a u S
 refine cl S (r11Fixed _ _ S.x (.nil _) t (dn0 (S.u 0 rfl)) (by omega)) cB89 ?_
 rintro e u ⟨ra_t111, rc_t111, rfl, R_t111, T0⟩; refine ⟨_, rfl, fun a s => ?_⟩
 replace S := (S.k0 s T0).ar (wfF (slE pfxE) (Sl.mk ra_t111 rc_t111 (fixedOf t.edges.xs))) (Enc.up _ R_t111); clear s T0 R_t111
 have hn24 : (fixedOf t.edges.xs).length ≤ 9223372036854775807 := ((S.u 1 rfl)).1.len
 refine ens S (la (av rfl)) ?_; clear S; intro a u S
 refine wp_seq ?_
 refine rs S (la (av rfl)) ?_; clear S; intro a u S
 refine wp_block ?_
 refine lp1 (fun (k : Nat) => [(1, pT b1 0), (6, .slice ra_t111 ((fixedOf t.edges.xs).length) rc_t111), (7, iN k)]) (fun (k : Nat) => [blO b1 (topoE.cells t) 28]) (fun (k : Nat) => k ≤ (fixedOf t.edges.xs).length ∧ ∀ j, j < k → ∀ i, i < j → ¬ meets ((fixedOf t.edges.xs).getD j pfxE.dflt) ((fixedOf t.edges.xs).getD i pfxE.dflt)) (fun (k : Nat) => (fixedOf t.edges.xs).length - k) S 0 (subM rfl) rfl ?_ ?_
 ·exact ⟨Nat.zero_le _, fun j hj => by omega⟩
 clear S; intro k a u S hR
 obtain ⟨hkd, hnd⟩ := hR
 refine wp_seq ?_
 refine rs S (tr (mv rfl)<|tr (mv rfl)<|tr (leni uT26 rfl)<|la (lssi rfl rfl)) ?_; clear S; intro a u S
 refine cd S rfl ?_ ?_
 ·intro hc10
  refine wp_skip (then_n (wp_seq (wp_block (wp_seq ?_))))
  obtain ⟨hl27, hu27⟩ : inU32 (((fixedOf t.edges.xs).getD k pfxE.dflt).addr) := id (((show LAt pfxE _ _ ra_t111 (fixedOf t.edges.xs) from ((S.u 1 rfl)).1).wf k (by omega)).1)
  obtain ⟨hl28, hu28⟩ : inI64 (((fixedOf t.edges.xs).getD k pfxE.dflt).bits) := id (((show LAt pfxE _ _ ra_t111 (fixedOf t.edges.xs) from ((S.u 1 rfl)).1).wf k (by omega)).2)
  have hk29 : ((fixedOf t.edges.xs).take k).length = k := by rw [List.length_take]; omega
  refine dr (P := Try.prog) S 8 [] [(118, .is _), (119, .is _), (120, .is _), (121, .is _), (122, .is _), (123, .is _), (124, .is _), (125, .is _)] [[], [], [118, 119], [120], [], [], [122, 123], [121, 124]] [125] _ ⟨qd (mv rfl), qd (mv rfl), qd (idxi uT26 sZ68 rfl rfl k rfl (by omega) ((show LAt pfxE _ _ ra_t111 (fixedOf t.edges.xs) from ((S.u 1 rfl)).1).adr (i := k) (by omega))), qd (ov fun S=>x_ldw (S.e rfl) ((show LAt pfxE _ _ ra_t111 (fixedOf t.edges.xs) from ((S.u 1 rfl)).1).wcell k (by omega) _ rfl _ rfl) wD68), qd (mv rfl), qd (mv rfl), qd (ov (v := .slice ra_t111 (((fixedOf t.edges.xs).take k).length) rc_t111) fun S=>x_slhn uT26 iZ68 (S.e rfl) (S.e rfl) k rfl (Nat.le_trans (by omega) ((S.u 1 rfl)).2.1) ((S.u 1 rfl)).2.2 _ (by rw [List.length_take]; omega)), qd (oc (fun S=>r11meets _ _ S.x (.nil _) ((fixedOf t.edges.xs).getD k pfxE.dflt) (dn0 ((show LAt pfxE _ _ ra_t111 (fixedOf t.edges.xs) from ((S.u 1 rfl)).1).wf k (by omega))) (Sl.mk ra_t111 rc_t111 ((fixedOf t.edges.xs).take k)) (dn0 (sl_take (S.u 1 rfl) k (by omega)))) cB90), trivial⟩ ?_
  clear S; intro a u S G hE
  refine ent ?_
  refine cd S rfl ?_ ?_
  ·intro hc11
   refine rs S (la (av rfl)) ?_; clear S; intro a u S
   refine wp_ret (blk_r (then_r (then_r (blk_r (then_r ?_)))))
   refine ret1 rfl S.s rfl ?_
   replace S := S.pk []
   refine ⟨(r1 (vf ?_)), S.m.c⟩
   rintro ⟨_, _, _, _, h, _⟩; obtain ⟨j, hj, hm⟩ := (ex_take pfxE.dflt _ _ _ (by omega)).1 hc11; exact (fixed_iff _).1 h k (by omega) j hj hm
  intro hc12
  refine wp_skip (blk_n (then_n ?_))
  refine rg S (tr (mv rfl)<|tr (addi ((k + 1 : Nat) : Int) rfl rfl (w_i64 (by omega)))<|la (av rfl)) ?_; clear S; intro a u S
  refine then_n ?_
  refine ⟨k + 1, S.re (subM rfl) rfl rfl, ?_, ?_⟩
  ·refine ⟨by omega, fun j hj => ?_⟩
   rcases Nat.lt_succ_iff_lt_or_eq.1 hj with h | h
   ·exact hnd j h
   subst h; intro i hi hm; exact hc12 ((ex_take pfxE.dflt _ _ _ (by omega)).2 ⟨i, hi, hm⟩)
  omega
 intro hc13
 refine wp_exit (then_e (then_e (blk_e (then_n (wp_seq ?_)))))
 refine rs S (la (av rfl)) ?_; clear S; intro a u S
 refine wp_block ?_
 refine lp1 (fun (k : Nat) => [(1, pT b1 0), (8, iN k)]) (fun (k : Nat) => [blO b1 (topoE.cells t) 28]) (fun (k : Nat) => k ≤ t.pools.xs.length ∧ ∀ j, j < k → polAt t.pools.xs j) (fun (k : Nat) => t.pools.xs.length - k) S 0 (subM rfl) rfl ?_ ?_
 ·exact ⟨Nat.zero_le _, fun j hj => by omega⟩
 clear S; intro k a u S hR
 obtain ⟨hke, hne⟩ := hR
 refine wp_seq ?_
 have hn34 : t.pools.xs.length ≤ 9223372036854775807 := ((S.u 0 rfl).2.2.2.1).1.len
 refine rs S (tr (mv rfl)<|tr (fldi 0 3 rfl uT28)<|tr (ldk 0 sC26 rfl rfl rfl)<|tr (leni uT26 rfl)<|la (lssi rfl rfl)) ?_; clear S; intro a u S
 refine cd S rfl ?_ ?_
 ·intro hc14
  refine wp_skip (then_n (wp_seq (wp_block (wp_seq ?_))))
  obtain ⟨hl35, hu35⟩ : inU32 ((t.pools.xs.getD k pfxE.dflt).addr) := id ((((S.u 0 rfl).2.2.2.1).1.wf k (by omega)).1)
  obtain ⟨hl36, hu36⟩ : inI64 ((t.pools.xs.getD k pfxE.dflt).bits) := id ((((S.u 0 rfl).2.2.2.1).1.wf k (by omega)).2)
  refine dr (P := Try.prog) S 19 [] [(133, .is _), (134, .is _), (135, .is _), (136, .is _), (137, .is _), (138, .is _), (139, .is _), (140, .is _), (141, .is _), (142, .is _), (143, .is _), (144, .is _), (145, .is _), (146, .is _), (147, .is _), (148, .is _), (149, .is _), (150, .is _), (151, .is _)] [[], [133], [], [134, 135], [136], [137], [138], [139], [140], [140, 141], [140], [140, 142, 143], [140, 144], [140], [140, 146], [140], [140, 147, 148], [140, 145, 149], [140, 150]] [151] _ ⟨qd (fldi 0 3 rfl uT28), qd (ldk 0 sC26 rfl rfl rfl), qd (mv rfl), qd (idxi uT26 sZ68 rfl rfl k rfl (by omega) (((S.u 0 rfl).2.2.2.1).1.adr (i := k) (by omega))), qd (ov fun S=>x_ldw (S.e rfl) (((S.u 0 rfl).2.2.2.1).1.wcell k (by omega) _ rfl _ rfl) wD68), qd (oc (fun S=>rValid _ _ S.x (.nil _) (t.pools.xs.getD k pfxE.dflt) (dn0 (((S.u 0 rfl).2.2.2.1).1.wf k (by omega)))) cB91), qd (noti rfl), qd (mv rfl), qd (og 140 rfl gf fun S hg=>xf (0) 3 uT28 (S.e rfl)), qd (og 140 rfl gf fun S hg=>x_load sC26 (S.p rfl hg) ((S.k 0 rfl).cell (j := 3) rfl)), qd (og 140 rfl gf fun S hg=>x_move (S.e rfl)), qd (og 140 rfl gf fun S hg=>x_idx uT26 sZ68 (S.p rfl hg) (S.p rfl hg) k rfl (by omega) (((S.u 0 rfl).2.2.2.1).1.adr (i := k) (by omega))), qd (og 140 rfl gf fun S hg=>x_ldw (S.p rfl hg) (((S.u 0 rfl).2.2.2.1).1.wcell k (by omega) _ rfl _ rfl) wD68), qd (og 140 rfl gf fun S hg=>xf (0) 3 uT28 (S.e rfl)), qd (og 140 rfl gf fun S hg=>x_load sC26 (S.p rfl hg) ((S.k 0 rfl).cell (j := 3) rfl)), qd (og 140 rfl gf fun S hg=>x_move (S.e rfl)), qd (og 140 (v := .slice t.pools.a ((t.pools.xs.take k).length) t.pools.c) rfl gf fun S hg=>x_slhn uT26 iZ68 (S.p rfl hg) (S.p rfl hg) k rfl (Nat.le_trans (by omega) ((S.u 0 rfl).2.2.2.1).2.1) ((S.u 0 rfl).2.2.2.1).2.2 _ (by rw [List.length_take]; omega)), qd (ocg 140 rfl gf (fun S hg=>r11meets _ _ S.x (.nil _) (t.pools.xs.getD k pfxE.dflt) (dn0 (((S.u 0 rfl).2.2.2.1).1.wf k (by omega))) (Sl.mk t.pools.a t.pools.c (t.pools.xs.take k)) (dn0 (sl_take ((S.u 0 rfl).2.2.2.1) k (by omega)))) cB90 fun S=>⟨fun hg=>(S.p rfl hg), fun hg=>(S.p rfl hg), trivial⟩), qd (ori rfl rfl rfl), trivial⟩ ?_
  clear S; intro a u S G hE
  refine ent ?_
  refine cd S rfl ?_ ?_
  ·intro hc15
   refine rs S (la (av rfl)) ?_; clear S; intro a u S
   refine wp_ret (blk_r (then_r (then_r (blk_r (then_r ?_)))))
   refine ret1 rfl S.s rfl ?_
   replace S := S.pk []
   refine ⟨(r1 (vf ?_)), S.m.c⟩
   rintro ⟨_, _, _, _, _, h⟩; have := h k (by omega); unfold polAt at this; rcases hc15 with h1 | h1
   ·exact h1 this.1
   obtain ⟨j, hj, hm⟩ := (ex_take pfxE.dflt _ _ _ (by omega)).1 h1; exact this.2 j hj hm
  intro hc16
  refine wp_skip (blk_n (then_n ?_))
  refine rg S (tr (mv rfl)<|tr (addi ((k + 1 : Nat) : Int) rfl rfl (w_i64 (by omega)))<|la (av rfl)) ?_; clear S; intro a u S
  refine then_n ?_
  refine ⟨k + 1, S.re (subM rfl) rfl rfl, ?_, ?_⟩
  ·refine ⟨by omega, fun j hj => ?_⟩
   rcases Nat.lt_succ_iff_lt_or_eq.1 hj with h | h
   ·exact hne j h
   subst h; have hq := hc16; simp only [not_or, Classical.not_not] at hq; exact ⟨hq.1, fun i hi hm => hq.2 ((ex_take pfxE.dflt _ _ _ (by omega)).2 ⟨i, hi, hm⟩)⟩
  omega
 intro hc17
 refine wp_exit (then_e (then_e (blk_e (then_n ?_))))
 refine rs S (la (av rfl)) ?_; clear S; intro a u S
 refine wp_ret ?_
 refine ret1 rfl S.s rfl ?_
 replace S := S.pk []
 refine ⟨(r1 (vt ?_)), S.m.c⟩
 simp only [not_or, Classical.not_not] at hc1; exact ⟨by (unfold topB; have := hc1.1.1.1.1.1.1; omega), hc1.1.1.1.1.1.2, fun i hi => hnb i (by omega), fun i hi => hnc i (by omega), (fixed_iff _).2 fun i hi => hnd i (by omega), fun i hi => hne i (by omega)⟩
end Go.Proofs.Ytfanmniaolncbaa.V
