/- the controller is made -/
import Derived.Test.YtobggnpnochnnaaJ7
namespace Go.Proofs.Ytobggnpnochnnaa.V
open Go.RowKit Go.Proofs.Ytobggnpnochnnaa
set_option linter.unusedVariables false
set_option linter.unusedSimpArgs false
set_option maxHeartbeats 2000000 in
set_option maxRecDepth 20000 in
theorem sCloneG (w : World) (F : Nat → Prop) (hF : Old F w) (M : MS [] w) (x : Sl Chg) (x_w : (slE chgE).wf (Fr F []) w.heap x) (hb : x.xs.length ≤ 10000000) :
 Calls Try.prog 104 #[sV x] w fun e w' => ∃ (ra : Option Addr) (rc : Nat), e = .returned (.slice ra x.xs.length rc) ∧ Row chgE 124 w.heap.size F [abk ra] w' ra rc x.xs ∧ Tr [] w [abk ra] w' := by
 have : x.xs.length ≤ 9223372036854775807 := (x_w).1.len
 refine go Try.func104 rfl 8 rfl [wfF (slE chgE) x] [] hF M ⟨x_w, trivial⟩ trivial ?_
 intro a S
 have hD : ∀ k, In ([] : List BS) k → ¬ F k := fun _ h => h.elim
 refine rs S (la (av rfl)) ?_; clear S; intro a u S
 refine wp_seq ?_
 refine rs S (tr (mv rfl)<|la (ov fun S=>x_sleql uT122 (S.e rfl) (S.e rfl))) ?_; clear S; intro a u S
 refine cd S rfl ?_ ?_
 ·intro hc0
  refine rs S (la (av rfl)) ?_; clear S; intro a u S
  refine wp_ret (then_r ?_)
  replace S := S.nr chgE 124
  refine ret1 rfl S.s rfl ?_
  have hx4 : x.xs = [] := by
   exact (S.u 0 rfl).1.nil_xs hc0
  rw [hx4]
  refine ⟨none, 0, rfl, (S.row 0 rfl), S.m.c⟩
 intro hc1
 refine wp_skip (then_n (rs0 ?_))
 refine nbr (q := 0) chgE S [] (x_bsl0 uT122 iZ124) (fun _ h => by simp at h) ?_; clear S; intro a u b5 S
 refine sp S (la (mv rfl)) ?_; clear S; intro a u S
 refine ap (E := chgE) (ys := x.xs) S 0 rfl uT122 iZ124 rfl rfl ((S.u 0 rfl)).1 ((S.u 0 rfl)).2.2 (LAt.mem ((S.u 0 rfl)).1) ⟨by unfold maxLen; (try simp only [List.length_cons, List.length_nil, List.length_append, List.length_map]); omega, by (try simp only [List.length_cons, List.length_nil, List.length_append, List.length_map]); omega⟩ ?_; clear S; intro a u ad7 cap7 S
 refine ens S (la (av rfl)) ?_; clear S; intro a u S
 refine wp_ret ?_
 refine ret1 rfl S.s rfl ?_
 have hx6 : x.xs = ([] ++ x.xs) := by
  first | rfl | simp
 rw [hx6]
 refine ⟨ad7, cap7, rfl, (S.row 0 rfl), S.m.c⟩
set_option maxHeartbeats 2000000 in
set_option maxRecDepth 20000 in
theorem cNew (w : World) (F : Nat → Prop) (hF : Old F w) (M : MS [] w) (hD : ∀ k, In [] k → ¬ F k) (p : Plan) (p_w : planE.wf (Fr F []) w.heap p) (n : Int) (n_h : inI64 n) (hb : p.rounds.xs.length ≤ 100) :
 Calls Try.prog 71 #[.agg (planE.cells p).toArray, iI n] w fun e w' => ∃ (q : Option (Nat × Mach)), e = .returned (.tuple #[optP q, iI (errQ q)]) ∧ machQK q ∧ (bnO (machQ q)).p F (In [In (ow (machQ q))]) w' ∧ ((q.isSome = true ↔ ((statesP p.staged (rdsP p) n).isSome = true ∧ p.rounds.xs.length ≤ 16)) ∧ ∀ x, q = some x → MachOK x.2 ∧ rdsM x.2 = rdsP p ∧ stsM x.2 = stsD (statesP p.staged (rdsP p) n) ∧ absM x.2 = startC (rdsP p) (stsD (statesP p.staged (rdsP p) n)) (newC n)) ∧ Tr [] w [In (ow (machQ q))] w' := by
 have : p.rounds.xs.length ≤ 9223372036854775807 := (p_w.2).1.len
 obtain ⟨n_hl, n_hu⟩ : inI64 n := id n_h
 have hR0 := rdsP_len p
 refine go Try.func71 rfl 62 rfl [wfF planE p] [] hF M ⟨p_w, trivial⟩ trivial ?_
 intro a S
 have hD : ∀ k, In ([] : List BS) k → ¬ F k := fun _ h => h.elim
 refine rs0 ?_
 refine nbp S (x_box _ (S.e rfl) rfl) ?_; clear S; intro a u b2 S
 refine ens S (tr (av rfl)<|la (av rfl)) ?_; clear S; intro a u S
 refine rs0 ?_
 refine sp S (tr (ldkw 0 rfl rfl wD47)<|la (mv rfl)) ?_; clear S; intro a u S
 refine cl S (pStates _ _ S.x (.nil _) p (dn0 (S.u 0 rfl)) n n_h (by first | omega | (dsimp only; omega))) cB103 ?_
 rintro e u ⟨r_t140, rfl, R_t140, hr_t140, T0⟩; refine ⟨_, rfl, fun a s => ?_⟩
 replace S := (S.k0 s T0).ar (wfF (slE (slE intE)) r_t140) (Enc.up _ R_t140); clear s T0 R_t140
 have hn3 : r_t140.xs.length ≤ 9223372036854775807 := ((S.u 1 rfl)).1.len
 refine ens S (tr (mv rfl)<|tr (exi rfl rfl)<|tr (exi rfl rfl)<|tr (av rfl)<|la (av rfl)) ?_; clear S; intro a u S
 refine wp_seq ?_
 refine rs S (tr (mv rfl)<|tr (neqi rfl rfl)<|tr (mv rfl)<|tr (og 19 rfl gf fun S hg=>xf (0) 1 uT47 (S.e rfl))<|tr (og 19 rfl gf fun S hg=>x_load sC45 (S.p rfl hg) ((S.k 0 rfl).cell (j := 1) rfl))<|tr (og 19 rfl gf fun S hg=>x_len uT45 (S.p rfl hg))<|tr (og 19 rfl gf fun S hg=>x_gtr (S.p rfl hg) (S.e rfl))<|la (ori rfl rfl rfl)) ?_; clear S; intro a u S
 refine cd S rfl ?_ ?_
 ·intro hc0
  refine rs S (tr (av rfl)<|la (av rfl)) ?_; clear S; intro a u S
  refine wp_ret (then_r ?_)
  replace S := S.emp
  refine ret2 rfl S.s rfl rfl ?_
  replace S := S.pk [1] (os' := [bnO []])
  refine ⟨none, (r2 rfl (vi ?_)), trivial, (S.m.o _ (nth_mem (i := 0) rfl)), ?_, S.m.c⟩
  ·rfl
  exact ⟨⟨fun h => (by cases h), fun h => by rcases hc0 with g | g; exact absurd (stsE_0.2 h.1) g; omega⟩, fun x h => by cases h⟩
 intro hc1
 obtain ⟨hst0, hst1⟩ := not_or.1 hc1
 have hst2 := stsE_0.1 (Classical.not_not.1 hst0)
 obtain ⟨sts, hst⟩ := Option.isSome_iff_exists.1 hst2
 obtain ⟨hn, hPO, hne⟩ := statesP_ok hst (by omega)
 refine wp_skip (then_n (rs0 ?_))
 refine sp S (tr (mv rfl)<|la (ov fun S=>x_bd S [(1, sV r_t140)] [.slice none 0 0, sV r_t140, iI 0, .bool false, iI 0, .slice none 0 0, .slice none 0 0, .slice none 0 0, .slice none 0 0])) ?_; clear S; intro a u S
 refine nbp S (x_box _ (S.e rfl) rfl) ?_; clear S; intro a u b27 S
 refine ens S (la (av rfl)) ?_; clear S; intro a u S
 refine wp_seq ?_
 have hn8 : p.rounds.xs.length ≤ 9223372036854775807 := ((S.u 0 rfl).2).1.len
 refine rs S (tr (fldi 0 1 rfl uT47)<|tr (ldk 0 sC45 rfl rfl rfl)<|tr (leni uT45 rfl)<|la (mv rfl)) ?_; clear S; intro a u S
 refine wp_block ?_
 replace S := S.nr (slE chgE) 122
 refine lp4 (fun (k : Nat) (rd_a : Option Addr) (rd_c : Nat) (rd : List (Sl Chg)) => [(1, iI n), (4, .pointer none), (5, iI 0), (8, pT b27 0), (29, sV p.rounds), (30, iN p.rounds.xs.length), (31, iN k)]) (fun (k : Nat) (rd_a : Option Addr) (rd_c : Nat) (rd : List (Sl Chg)) => [blO b2 (planE.cells p) 47, blO b27 [.slice rd_a rd.length rd_c, sV r_t140, iI 0, .bool false, iI 0, .slice none 0 0, .slice none 0 0, .slice none 0 0, .slice none 0 0] 166, rwO (slE chgE) 122 w.heap.size rd_a rd_c rd]) (fun (k : Nat) (rd_a : Option Addr) (rd_c : Nat) (rd : List (Sl Chg)) => k ≤ p.rounds.xs.length ∧ rd.map (fun l => l.xs) = (rdsP p).take k) (fun (k : Nat) (rd_a : Option Addr) (rd_c : Nat) (rd : List (Sl Chg)) => p.rounds.xs.length - k) S 0 none 0 ([]) (subM rfl) rfl ?_ ?_
 ·exact ⟨Nat.zero_le _, rfl⟩
 clear S; intro k rd_a rd_c rd a u S hR
 have rd_len := (S.row 2 rfl).len_le; simp only [maxLen] at rd_len
 obtain ⟨hk, hrd⟩ := hR
 have hrl : rd.length = k := by have := congrArg List.length hrd; rw [List.length_map, List.length_take] at this; omega
 refine rs S (la (lssi rfl rfl)) ?_; clear S; intro a u S
 refine wp_seq ?_
 refine cd S rfl ?_ ?_
 ·intro hc2
  have hcl0 := hPO.rd _ (getD_mem (d := []) (i := k) (by omega))
  rw [rdsP_at] at hcl0
  have hcs := Nat.le_trans hcl0.1 (by decide : 1000 ≤ 10000000)
  refine wp_skip (then_n (wp_seq (wp_block ?_)))
  have hn11 : ((p.rounds.xs.getD k (slE chgE).dflt).xs).length ≤ 9223372036854775807 := ((((S.u 0 rfl).2).1.wf k (by omega))).1.len
  refine rs S (tr (idxi uT45 sZ122 rfl rfl k rfl (by omega) (((S.u 0 rfl).2).1.adr (i := k) (by omega)))<|tr (ov fun S=>x_load sC122 (S.e rfl) (((S.u 0 rfl).2).1.cell k (by omega) 0 _ rfl))<|la (av rfl)) ?_; clear S; intro a u S
  refine lza3 (P := Try.prog) (s := .tmp 39) (x := .tmp 42) (slE chgE) (Nat × (Option Addr) × Nat) S 8 0 35 (pT b27 0) [] [(35, .is _), (36, .is _), (37, .is _), (38, .is _), (39, .is _), (40, .is _), (41, .of (fun z w => ∃ (x41aa : Option Addr) (x41ba : Nat), z = .slice x41aa (((p.rounds.xs.getD k (slE chgE).dflt).xs).length) x41ba ∧ (slE chgE).wf (Fr F [one b2, one b27, abk rd_a]) w.heap (Sl.mk x41aa x41ba ((p.rounds.xs.getD k (slE chgE).dflt).xs))) (fun v w w' c h => let ⟨x41aa, x41ba, hv, h0⟩ := h; ⟨x41aa, x41ba, hv, Enc.kp (slE chgE) h0 c (fun _ h => by simp at h)⟩)), (42, .of (fun z w => ∃ (x42a : Nat) (x41ab : Option Addr) (x41bb : Nat), z = .slice (some ⟨x42a, 0, none⟩) 1 1 ∧ (slE (slE chgE)).wf (Fr F [one b2, one b27, abk rd_a]) w.heap (Sl.mk (some ⟨x42a, 0, none⟩) 1 ([(Sl.mk x41ab x41bb ((p.rounds.xs.getD k (slE chgE).dflt).xs))])) ∧ (slE chgE).wf (Fr F [one b2, one b27, abk rd_a]) w.heap (Sl.mk x41ab x41bb ((p.rounds.xs.getD k (slE chgE).dflt).xs))) (fun v w w' c h => let ⟨x42a, x41ab, x41bb, hv, h0, h1⟩ := h; ⟨x42a, x41ab, x41bb, hv, Enc.kp (slE (slE chgE)) h0 c (fun _ h => by simp at h), Enc.kp (slE chgE) h1 c (fun _ h => by simp at h)⟩))] [[], [], [36], [37], [38], [], [40], [41]] [39, 42] 2 rfl (fun g => [(39, .slice rd_a rd.length rd_c), (42, .slice (some ⟨g.1, 0, none⟩) 1 1)]) (fun g => True) (fun g => [(Sl.mk g.2.1 g.2.2 ((p.rounds.xs.getD k (slE chgE).dflt).xs))]) ⟨qd (mv rfl), qd (mv rfl), qd (ov fun S=>x_nilck (S.e rfl)), qd (fldi 0 0 rfl uT166), qd (ldk 1 sC45 rfl rfl rfl), qd (mv rfl), ?_, ?_, trivial⟩ (fun a w S => (x_move (S.e rfl))) ?_ ?_ uT45 iZ122
  ·skip
   intro a u S G hE
   refine hcl S (sCloneG _ _ S.x (.nil _) (p.rounds.xs.getD k (slE chgE).dflt) (dn0 (((S.u 0 rfl).2).1.wf k (by omega))) (by first | omega | (dsimp only; omega) | exact hcs)) cB104 ?_
   rintro e w2 ⟨x41a, x41b, rfl, R0, T0⟩; refine ⟨_, rfl, (show ∃ _ _, _ from ?_), T0.ch, (S.m.k0 T0.ch)⟩
   exact ⟨x41a, x41b, rfl, (S.frz R0 (by decide) (fun _ h => h))⟩
  ·skip
   intro a u S G hE
   obtain ⟨e41, -⟩ := hE
   have M0 := S.m
   obtain ⟨x41a_12, x41b_12, e41, X12⟩ := e41
   replace S := S.ext e41
   refine hnb 42 M0 (x_bsl [(0, .slice x41a_12 (((p.rounds.xs.getD k (slE chgE).dflt).xs).length) x41b_12)] [.slice x41a_12 (((p.rounds.xs.getD k (slE chgE).dflt).xs).length) x41b_12] uT45 iZ122 (by decide) (by decide) (by simp only [List.map_cons, List.map_nil, S.e (x := .tmp 41) (v := .slice x41a_12 (((p.rounds.xs.getD k (slE chgE).dflt).xs).length) x41b_12) rfl]) (by kernel_rfl)) fun g => (show ∃ _, _ from ⟨_, x41a_12, x41b_12, rfl, sl_of_blk (Blk.new _ [.slice x41a_12 (((p.rounds.xs.getD k (slE chgE).dflt).xs).length) x41b_12] 122) [(Sl.mk x41a_12 x41b_12 ((p.rounds.xs.getD k (slE chgE).dflt).xs))] 1 rfl (by decide) (by decide) rfl (fr_fresh S.m.c S.m.f rfl) ?_, Enc.tr (slE chgE) X12 (Tr.of_ch0 S.M g)⟩)
   intro x hx; simp only [List.mem_cons, List.not_mem_nil, or_false] at hx; rw [hx] <;> first | exact Enc.tr (slE chgE) (show (slE chgE).wf (Fr F _) _ (Sl.mk x41a_12 x41b_12 ((p.rounds.xs.getD k (slE chgE).dflt).xs)) from X12) (Tr.of_ch0 S.M g)
  ·intro a u S G hE
   obtain ⟨e42, -⟩ := hE
   obtain ⟨x42_13, x41a_14, x41b_14, e42, X13, X14⟩ := e42
   replace S := S.ext e42
   have hn15 : ([(Sl.mk x41a_14 x41b_14 ((p.rounds.xs.getD k (slE chgE).dflt).xs))]).length ≤ 9223372036854775807 := (X13).1.len
   exact ⟨(x42_13, x41a_14, x41b_14), _, _, _, S.s.sub (subM rfl), trivial, rfl, rfl, (show LAt (slE chgE) _ _ (some ⟨x42_13, 0, none⟩) ([(Sl.mk x41a_14 x41b_14 ((p.rounds.xs.getD k (slE chgE).dflt).xs))]) from (X13).1), (X13).2.2, (LAt.mem (show LAt (slE chgE) _ _ (some ⟨x42_13, 0, none⟩) ([(Sl.mk x41a_14 x41b_14 ((p.rounds.xs.getD k (slE chgE).dflt).xs))]) from (X13).1)), ⟨by unfold maxLen; (try simp only [List.length_cons, List.length_nil, List.length_append, List.length_map]); omega, by (try simp only [List.length_cons, List.length_nil, List.length_append, List.length_map]); omega⟩⟩
  clear S; intro g ad43 cap43 a u S hR
  obtain ⟨x42_13, x41a_14, x41b_14⟩ := g; dsimp only at S hR
  refine en S (tr (ov fun S=>x_nilck (S.e rfl))<|tr (fldi 0 0 rfl uT166)<|la (stk 1 rfl rfl rfl)) ?_; clear S; intro a u S
  refine blk_n (then_n ?_)
  refine rg S (tr (addi ((k + 1 : Nat) : Int) rfl rfl (w_i64 (by omega)))<|la (mv rfl)) ?_; clear S; intro a u S
  refine then_n ?_
  refine ⟨(k + 1), ad43, cap43, (rd ++ [(Sl.mk x41a_14 x41b_14 ((p.rounds.xs.getD k (slE chgE).dflt).xs))]), S.re (subM rfl) rfl rfl, ?_, ?_⟩
  ·refine ⟨by omega, ?_⟩
   rw [List.map_append, hrd, take_up (l := rdsP p) (k := k) (m := k + 1) (by omega) rfl [], rdsP_at]; rfl
  omega
 intro hc3
 refine wp_exit (then_e (then_e (blk_e (then_n (rs0 ?_)))))
 refine sp S (tr (mv rfl)<|la (mv rfl)) ?_; clear S; intro a u S
 refine mk (E := intE) S (0 : Int) (n).toNat uT22 iZ3 rfl rfl (by omega) (by omega) (by omega) (by unfold maxLen; omega) (fun _ _ => by first | exact ⟨by omega, by omega⟩ | trivial | exact sl_nil) ?_; clear S; intro a u ad49 S
 have hrl49 : (List.replicate (n).toNat (0 : Int)).length = (n).toNat := List.length_replicate
 refine ens S (tr (ov fun S=>x_nilck (S.e rfl))<|tr (fldi 0 2 rfl uT166)<|tr (fldi (0 + 2) 3 rfl uT57)<|la (stk 1 rfl rfl rfl)) ?_; clear S; intro a u S
 refine rs0 ?_
 refine sp S (tr (mv rfl)<|la (mv rfl)) ?_; clear S; intro a u S
 refine mk (E := intE) S (0 : Int) (n).toNat uT22 iZ3 rfl rfl (by omega) (by omega) (by omega) (by unfold maxLen; omega) (fun _ _ => by first | exact ⟨by omega, by omega⟩ | trivial | exact sl_nil) ?_; clear S; intro a u ad55 S
 have hrl55 : (List.replicate (n).toNat (0 : Int)).length = (n).toNat := List.length_replicate
 refine ens S (tr (ov fun S=>x_nilck (S.e rfl))<|tr (fldi 0 2 rfl uT166)<|tr (fldi (0 + 2) 4 rfl uT57)<|la (stk 1 rfl rfl rfl)) ?_; clear S; intro a u S
 refine rs0 ?_
 refine sp S (la (mv rfl)) ?_; clear S; intro a u S
 replace S := S.fz 2 rfl
 replace S := S.nr intE 3
 replace S := S.nr intE 3
 replace S := (show St _ _ _ _ _ _ [blO b2 (planE.cells p) 47, blO b27 [.slice rd_a rd.length rd_c, sV r_t140, iI 0, .bool false, iI 0, .slice ad49 ((List.replicate (n).toNat (0 : Int)).length) ((n).toNat), .slice ad55 ((List.replicate (n).toNat (0 : Int)).length) ((n).toNat), .slice none 0 0, .slice none 0 0] 166, noO, rwO intE 3 0 ad49 ((n).toNat) (List.replicate (n).toNat (0 : Int)), rwO intE 3 0 ad55 ((n).toNat) (List.replicate (n).toNat (0 : Int)), rwO intE 3 0 none 0 ([]), rwO intE 3 0 none 0 ([])] _ _ from ((((S.b0 3 rfl).b0 4 rfl).b0 5 rfl).b0 6 rfl))
 replace S := S.pk [0, 1, 3, 4, 5, 6] (os' := [blO b2 (planE.cells p) 47, blO b27 [.slice rd_a rd.length rd_c, sV r_t140, iI 0, .bool false, iI 0, .slice ad49 ((List.replicate (n).toNat (0 : Int)).length) ((n).toNat), .slice ad55 ((List.replicate (n).toNat (0 : Int)).length) ((n).toNat), .slice none 0 0, .slice none 0 0] 166, rwO intE 3 0 ad49 ((n).toNat) (List.replicate (n).toNat (0 : Int)), rwO intE 3 0 ad55 ((n).toNat) (List.replicate (n).toNat (0 : Int)), rwO intE 3 0 none 0 ([]), rwO intE 3 0 none 0 ([])])
 replace S := S.oda (E := slE (slE chgE)) (x := (Sl.mk rd_a rd_c rd)) (S.u 2 rfl)
 replace S := S.oda (E := slE (slE intE)) (x := r_t140) (S.u 1 rfl)
 have hk20 : machK (⟨(Sl.mk rd_a rd_c rd), r_t140, 0, false, 0, (Sl.mk ad49 ((n).toNat) (List.replicate (n).toNat (0 : Int))), (Sl.mk ad55 ((n).toNat) (List.replicate (n).toNat (0 : Int))), (Sl.mk none 0 ([])), (Sl.mk none 0 ([]))⟩ : Mach) := ⟨(show inI64 0 from ⟨by omega, by omega⟩), (show inI64 0 from ⟨by omega, by omega⟩)⟩
 replace S := (show St _ _ _ _ _ _ ([blO b2 (planE.cells p) 47] ++ machF b27 (⟨(Sl.mk rd_a rd_c rd), r_t140, 0, false, 0, (Sl.mk ad49 ((n).toNat) (List.replicate (n).toNat (0 : Int))), (Sl.mk ad55 ((n).toNat) (List.replicate (n).toNat (0 : Int))), (Sl.mk none 0 ([])), (Sl.mk none 0 ([]))⟩ : Mach)) _ _ from S).cls
 replace S := (show St _ _ _ _ _ _ [blO b2 (planE.cells p) 47, bnO (machF b27 (⟨(Sl.mk rd_a rd_c rd), r_t140, 0, false, 0, (Sl.mk ad49 ((n).toNat) (List.replicate (n).toNat (0 : Int))), (Sl.mk ad55 ((n).toNat) (List.replicate (n).toNat (0 : Int))), (Sl.mk none 0 ([])), (Sl.mk none 0 ([]))⟩ : Mach))] _ _ from S)
 obtain ⟨y21, hy21⟩ : ∃ y : Mach, (⟨(Sl.mk rd_a rd_c rd), r_t140, 0, false, 0, (Sl.mk ad49 ((n).toNat) (List.replicate (n).toNat (0 : Int))), (Sl.mk ad55 ((n).toNat) (List.replicate (n).toNat (0 : Int))), (Sl.mk none 0 ([])), (Sl.mk none 0 ([]))⟩ : Mach) = y := ⟨_, rfl⟩; rw [hy21] at S hk20
 have hz : (zerosP n).length = n.toNat := by unfold zerosP; simp
 have hrd2 : rd.map (fun l => l.xs) = rdsP p := by rw [hrd, List.take_of_length_le (by omega)]
 have hr14 : r_t140.xs.map (fun l => l.xs) = sts := by rw [hr_t140, hst]; rfl
 have hOK : MachOK y21 := by
  subst hy21
  refine ⟨?_, ?_⟩
  ·show PlanOK (zerosP n).length (rd.map fun l => l.xs) (r_t140.xs.map fun l => l.xs)
   rw [hrd2, hr14, hz]; exact hPO
  show CtlOK (zerosP n).length (rd.map fun l => l.xs).length (newC n)
  rw [hz, show n = (n.toNat : Int) from by omega]; exact newC_ok
 have hOKy := hOK
 refine cl S (cStart _ _ (S.xx (ow [bnO (machF b27 y21)])) b27 y21 (S.mF (ks := [blO b2 (planE.cells p) 47]) (fs := [bnO (machF b27 y21)])) (S.nfF (ks := [blO b2 (planE.cells p) 47]) (fs := [bnO (machF b27 y21)]) hD) hk20 (S.dF (ks := [blO b2 (planE.cells p) 47]) (fs := [bnO (machF b27 y21)]) 0 rfl (mo_bn (mo_mach _ _))) (by subst hy21; exact (⟨by first | assumption | exact hOK, by first | omega | (dsimp only; omega) | simp⟩))) cB105 ?_
 rintro e u ⟨m_t60, rfl, hk_m_t60, hK_m_t60, hq_m_t60, T0⟩; refine ⟨_, rfl, fun a s => ?_⟩
 have S2 := S.kF (ks := [blO b2 (planE.cells p) 47]) (fs := [bnO (machF b27 y21)]) [bnO (machF b27 m_t60)] s T0 ⟨hK_m_t60, trivial⟩ ⟨(mo_bn (mo_mach _ _)), trivial⟩
 replace S2 := (show St _ _ _ _ _ _ [blO b2 (planE.cells p) 47, bnO (machF b27 m_t60)] _ _ from S2)
 clear S; have S := S2; clear S2 s T0 hK_m_t60
 subst hy21
 skip
 refine ent ?_
 refine rs S (tr (mv rfl)<|tr (av rfl)<|la (av rfl)) ?_; clear S; intro a u S
 refine wp_ret ?_
 refine ret2 rfl S.s rfl rfl ?_
 replace S := S.pk [1] (os' := [bnO (machF b27 m_t60)])
 refine ⟨(some (b27, m_t60)), (r2 rfl (vi ?_)), hk_m_t60, (S.m.o _ (nth_mem (i := 0) rfl)), ?_, S.m.c⟩
 ·rfl
 refine ⟨⟨fun _ => ⟨hst2, by omega⟩, fun _ => rfl⟩, ?_⟩
 intro x h
 obtain rfl := (Option.some.inj h).symm
 have hq := hq_m_t60
 have hK : KeepM _ m_t60 := ⟨hq.1.1, hq.1.2⟩
 refine ⟨machOK_of hOKy hK ?_, ?_, ?_, ?_⟩
 ·rw [hq.2]; exact (startC_ok hOKy.1 hOKy.2 fun _ _ => ⟨fun _ => Int.le_refl 0, fun h => by cases h⟩).1
 ·rw [keep_rds hK]; exact hrd2
 ·rw [keep_sts hK]; exact hr_t140
 rw [hq.2]
 show startC (rd.map fun l => l.xs) (r_t140.xs.map fun l => l.xs) (newC n) = _
 rw [hrd2, hr_t140]
end Go.Proofs.Ytobggnpnochnnaa.V
