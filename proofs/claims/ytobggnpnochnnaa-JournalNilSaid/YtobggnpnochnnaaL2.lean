/- the states of a plan: the reference -/
import Derived.Test.YtobggnpnochnnaaL1
namespace Go.Proofs.Ytobggnpnochnnaa.V
open Go.RowKit Go.Proofs.Ytobggnpnochnnaa
set_option linter.unusedVariables false
set_option linter.unusedSimpArgs false
set_option maxHeartbeats 2000000 in
set_option maxRecDepth 20000 in
theorem rStates (w : World) (F : Nat → Prop) (hF : Old F w) (M : MS [] w) (p : Plan) (p_w : planE.wf (Fr F []) w.heap p) (n : Int) (n_h : inI64 n) (hb : p.rounds.xs.length ≤ 100) :
 Calls Try.prog 40 #[.agg (planE.cells p).toArray, iI n] w fun e w' => ∃ (r0 : Sl (Sl Int)), e = .returned (.tuple #[sV r0, iI (stsE (statesP p.staged (rdsP p) n))]) ∧ (slE (slE intE)).wf (Fr F []) w'.heap r0 ∧ (r0.xs.map (fun l => l.xs) = stsD (statesP p.staged (rdsP p) n)) ∧ Tr [] w [] w' := by
 have : p.rounds.xs.length ≤ 9223372036854775807 := (p_w.2).1.len
 obtain ⟨n_hl, n_hu⟩ : inI64 n := id n_h
 have hR0 := rdsP_len p
 refine go Try.func40 rfl 110 rfl [wfF planE p] [] hF M ⟨p_w, trivial⟩ trivial ?_
 intro a S
 have hD : ∀ k, In ([] : List BS) k → ¬ F k := fun _ h => h.elim
 refine rs0 ?_
 refine nbp S (x_box _ (S.e rfl) rfl) ?_; clear S; intro a u b2 S
 refine ens S (tr (av rfl)<|la (av rfl)) ?_; clear S; intro a u S
 refine wp_seq ?_
 refine rs S (tr (mv rfl)<|tr (lssi rfl rfl)<|tr (mv rfl)<|tr (og 14 rfl gf fun S hg=>x_move (S.e rfl))<|tr (og 14 rfl gf fun S hg=>x_gtr (S.p rfl hg) (S.e rfl))<|la (ori rfl rfl rfl)) ?_; clear S; intro a u S
 refine cd S rfl ?_ ?_
 ·intro hc0
  refine rs S (tr (av rfl)<|la (av rfl)) ?_; clear S; intro a u S
  refine wp_ret (then_r ?_)
  refine ret2 rfl S.s rfl rfl ?_
  replace S := S.pk []
  refine ⟨(Sl.mk none 0 ([] : List (Sl Int))), (r2 rfl (vi ?_)), sl_nil, ?_, S.m.c⟩
  ·have e : statesP p.staged (rdsP p) n = none := by unfold statesP; rw [if_pos hc0]
   rw [e]; rfl
  have e : statesP p.staged (rdsP p) n = none := by unfold statesP; rw [if_pos hc0]
  rw [e]; rfl
 intro hc1
 have hS : statesP p.staged (rdsP p) n = stsA p.staged n [zerosP n] (zerosP n) (rdsP p) := if_neg hc1
 refine wp_skip (then_n (rs0 ?_))
 refine sp S (la (mv rfl)) ?_; clear S; intro a u S
 refine mk (E := intE) S (0 : Int) (n).toNat uT22 iZ3 rfl rfl (by omega) (by omega) (by omega) (by unfold maxLen; omega) (fun _ _ => by first | exact ⟨by omega, by omega⟩ | trivial | exact sl_nil) ?_; clear S; intro a u ad19 S
 have hrl19 : (List.replicate (n).toNat (0 : Int)).length = (n).toNat := List.length_replicate
 refine ens S (la (av rfl)) ?_; clear S; intro a u S
 refine rs0 ?_
 refine sp S (la (mv rfl)) ?_; clear S; intro a u S
 replace S := S.fz 1 rfl
 refine nbr (slE intE) S [(Sl.mk ad19 ((n).toNat) (List.replicate (n).toNat (0 : Int)))] (x_bs S [(0, .slice ad19 ((List.replicate (n).toNat (0 : Int)).length) ((n).toNat))] uT66 iZ22) (fun x hx => by simp only [List.mem_cons, List.not_mem_nil, or_false] at hx; rw [hx]; exact (show (slE intE).wf _ _ (Sl.mk ad19 ((n).toNat) (List.replicate (n).toNat (0 : Int))) from (S.u 1 rfl))) ?_; clear S; intro a u b21 S
 refine ens S (la (av rfl)) ?_; clear S; intro a u S
 refine wp_seq ?_
 refine rs S (la (av rfl)) ?_; clear S; intro a u S
 refine wp_block ?_
 replace S := S.ar (wfF (slE intE) (Sl.mk ad19 ((n).toNat) (List.replicate (n).toNat (0 : Int)))) (S.u 1 rfl)
 refine lq5 (fun (j : Nat) (nw : Sl Int) (out_a : Option Addr) (out_c : Nat) (out : List (Sl Int)) => [(1, iI n), (2, pT b2 0), (8, iN j), (6, sV nw), (7, .slice out_a out.length out_c)]) (fun (j : Nat) (nw : Sl Int) (out_a : Option Addr) (out_c : Nat) (out : List (Sl Int)) => [wfF planE p, wfF (slE intE) (Sl.mk ad19 ((n).toNat) (List.replicate (n).toNat (0 : Int))), wfF (slE intE) nw]) (fun (j : Nat) (nw : Sl Int) (out_a : Option Addr) (out_c : Nat) (out : List (Sl Int)) => [blO b2 (planE.cells p) 47, noO, rwO (slE intE) 22 w.heap.size out_a out_c out]) (fun (j : Nat) (nw : Sl Int) (out_a : Option Addr) (out_c : Nat) (out : List (Sl Int)) => j ≤ p.rounds.xs.length ∧ nw.xs.length = n.toNat ∧ out.length = j + 1 ∧ stsA p.staged n (out.map fun l => l.xs) nw.xs ((rdsP p).drop j) = stsA p.staged n [zerosP n] (zerosP n) (rdsP p)) (fun (j : Nat) (nw : Sl Int) (out_a : Option Addr) (out_c : Nat) (out : List (Sl Int)) => p.rounds.xs.length - j) S 0 (Sl.mk ad19 ((n).toNat) (List.replicate (n).toNat (0 : Int))) (some ⟨b21, 0, none⟩) 1 ([(Sl.mk ad19 ((n).toNat) (List.replicate (n).toNat (0 : Int)))]) (subM rfl) rfl rfl ?_ ?_
 ·exact ⟨Nat.zero_le _, by simp [zerosP], rfl, rfl⟩
 clear S; intro j nw out_a out_c out a u S hR
 have out_len := (S.row 2 rfl).len_le; simp only [maxLen] at out_len
 obtain ⟨hj, hnl, hol, hI⟩ := hR
 refine wp_seq ?_
 have hn8 : p.rounds.xs.length ≤ 9223372036854775807 := ((S.u 0 rfl).2).1.len
 refine rs S (tr (mv rfl)<|tr (fldi 0 1 rfl uT47)<|tr (ldk 0 sC45 rfl rfl rfl)<|tr (leni uT45 rfl)<|la (lssi rfl rfl)) ?_; clear S; intro a u S
 refine cd S rfl ?_ ?_
 ·intro hc2
  refine wp_skip (then_n (wp_seq (wp_block ?_)))
  have hn10 : ((p.rounds.xs.getD j (slE chgE).dflt).xs).length ≤ 9223372036854775807 := ((((S.u 0 rfl).2).1.wf j (by omega))).1.len
  refine rs S (tr (fldi 0 1 rfl uT47)<|tr (ldk 0 sC45 rfl rfl rfl)<|tr (mv rfl)<|tr (idxi uT45 sZ122 rfl rfl j rfl (by omega) (((S.u 0 rfl).2).1.adr (i := j) (by omega)))<|tr (ov fun S=>x_load sC122 (S.e rfl) (((S.u 0 rfl).2).1.cell j (by omega) 0 _ rfl))<|la (av rfl)) ?_; clear S; intro a u S
  refine rs0 ?_
  refine nbr (q := 0) intE S [] (x_bsl0 uT22 iZ3) (fun _ h => by simp at h) ?_; clear S; intro a u b34 S
  refine sp S (la (mv rfl)) ?_; clear S; intro a u S
  refine ap (E := intE) (ys := nw.xs) S 3 rfl uT22 iZ3 rfl rfl ((S.u 2 rfl)).1 ((S.u 2 rfl)).2.2 (LAt.mem ((S.u 2 rfl)).1) ⟨by unfold maxLen; (try simp only [List.length_cons, List.length_nil, List.length_append, List.length_map]); omega, by (try simp only [List.length_cons, List.length_nil, List.length_append, List.length_map]); omega⟩ ?_; clear S; intro a u ad36 cap36 S
  refine ens S (la (av rfl)) ?_; clear S; intro a u S
  refine wp_seq ?_
  refine rs S (tr (mv rfl)<|tr (leni uT122 rfl)<|la (eqli rfl rfl)) ?_; clear S; intro a u S
  refine cd S rfl ?_ ?_
  ·intro hc3
   refine rs S (tr (av rfl)<|la (av rfl)) ?_; clear S; intro a u S
   refine wp_ret (then_r (blk_r (then_r (then_r (blk_r (then_r ?_))))))
   refine ret2 rfl S.s rfl rfl ?_
   replace S := S.pk []
   refine ⟨(Sl.mk none 0 ([] : List (Sl Int))), (r2 rfl (vi ?_)), sl_nil, ?_, S.m.c⟩
   ·have e : statesP p.staged (rdsP p) n = none := by rw [hS, ← hI, drop_cons (k := j) (by omega) [], stsA, rdsP_at, if_pos (by omega)]
    rw [e]; rfl
   have e : statesP p.staged (rdsP p) n = none := by rw [hS, ← hI, drop_cons (k := j) (by omega) [], stsA, rdsP_at, if_pos (by omega)]
   rw [e]; rfl
  intro hc4
  refine wp_skip (then_n (wp_seq ?_))
  refine rs S (la (av rfl)) ?_; clear S; intro a u S
  refine wp_block ?_
  refine lp4 (fun (k : Nat) (n2_a : Option Addr) (n2_c : Nat) (n2 : List Int) => [(1, iI n), (2, pT b2 0), (8, iN j), (6, .slice n2_a n2.length n2_c), (7, .slice out_a out.length out_c), (22, iN j), (23, pT b2 (0 + 1)), (24, sV p.rounds), (25, iN p.rounds.xs.length), (26, bD (((j : Nat) : Int) < ((p.rounds.xs.length : Nat) : Int))), (29, pT b2 (0 + 1)), (30, sV p.rounds), (31, iN j), (32, pT (blk p.rounds.a) (off p.rounds.a + j * 1)), (33, sV (p.rounds.xs.getD j (slE chgE).dflt)), (9, sV (p.rounds.xs.getD j (slE chgE).dflt)), (34, .slice (some ⟨b34, 0, none⟩) 0 0), (35, sV nw), (36, .slice ad36 (([] ++ nw.xs).length) cap36), (37, sV (p.rounds.xs.getD j (slE chgE).dflt)), (38, iN (p.rounds.xs.getD j (slE chgE).dflt).xs.length), (39, bD ((((p.rounds.xs.getD j (slE chgE).dflt).xs.length : Nat) : Int) = 0)), (10, iN k)]) (fun (k : Nat) (n2_a : Option Addr) (n2_c : Nat) (n2 : List Int) => [blO b2 (planE.cells p) 47, noO, rwO (slE intE) 22 w.heap.size out_a out_c out, rwO intE 3 w.heap.size n2_a n2_c n2]) (fun (k : Nat) (n2_a : Option Addr) (n2_c : Nat) (n2 : List Int) => k ≤ (p.rounds.xs.getD j (slE chgE).dflt).xs.length ∧ (k = 0 ∨ 0 ≤ lastD (p.rounds.xs.getD j (slE chgE).dflt).xs k) ∧ n2.length = nw.xs.length ∧ rndP p.staged n (lastD (p.rounds.xs.getD j (slE chgE).dflt).xs k) n2 ((p.rounds.xs.getD j (slE chgE).dflt).xs.drop k) = rndP p.staged n (-1) nw.xs (p.rounds.xs.getD j (slE chgE).dflt).xs) (fun (k : Nat) (n2_a : Option Addr) (n2_c : Nat) (n2 : List Int) => (p.rounds.xs.getD j (slE chgE).dflt).xs.length - k) S 0 ad36 cap36 ([] ++ nw.xs) (subM rfl) rfl ?_ ?_
  ·exact ⟨Nat.zero_le _, .inl rfl, rfl, rfl⟩
  clear S; intro k n2_a n2_c n2 a u S hR
  have n2_len := (S.row 3 rfl).len_le; simp only [maxLen] at n2_len
  obtain ⟨hk, hls, h2l, hI2⟩ := hR
  refine wp_seq ?_
  refine rs S (tr (mv rfl)<|tr (mv rfl)<|tr (leni uT122 rfl)<|la (lssi rfl rfl)) ?_; clear S; intro a u S
  refine cd S rfl ?_ ?_
  ·intro hc5
   refine wp_skip (then_n (wp_seq (wp_block (rs0 ?_))))
   obtain ⟨hl17, hu17⟩ : inI64 ((((p.rounds.xs.getD j (slE chgE).dflt).xs).getD k chgE.dflt).dev) := id ((((((S.u 0 rfl).2).1.wf j (by omega))).1.wf k (by omega)).1)
   obtain ⟨hl18, hu18⟩ : inI64 ((((p.rounds.xs.getD j (slE chgE).dflt).xs).getD k chgE.dflt).ver) := id ((((((S.u 0 rfl).2).1.wf j (by omega))).1.wf k (by omega)).2)
   refine sp S (tr (mv rfl)<|tr (mv rfl)<|tr (idxi uT122 sZ124 rfl rfl k rfl (by omega) (((((S.u 0 rfl).2).1.wf j (by omega))).1.adr (i := k) (by omega)))<|la (ov fun S=>x_ldw (S.e rfl) (((((S.u 0 rfl).2).1.wf j (by omega))).1.wcell k (by omega) _ rfl _ rfl) wD124)) ?_; clear S; intro a u S
   refine nbp S (x_allocz _ iZ124 rfl) ?_; clear S; intro a u b11 S
   refine ens S (la (stkw 4 rfl rfl rfl)) ?_; clear S; intro a u S
   refine wp_seq (wp_seq ?_)
   refine dr (P := Try.prog) S 49 [] ((50, .is _) :: (51, .is _) :: (52, .is _) :: (53, .is _) :: (54, .is _) :: (55, .is _) :: (56, .is _) :: (57, .is _) :: (58, .is _) :: (59, .is _) :: (60, .is _) :: (61, .is _) :: (62, .is _) :: (63, .is _) :: (64, .is _) :: (65, .is _) :: (66, .is _) :: (67, .is _) :: (68, .is _) :: (69, .is _) :: (70, .is _) :: (71, .is _) :: (72, .is _) :: (73, .is _) :: (74, .is _) :: (75, .is _) :: (76, .is _) :: (77, .is _) :: (78, .is _) :: (79, .is _) :: (80, .is _) :: (81, .is _) :: (82, .is _) :: (83, .is _) :: (84, .is _) :: (85, .is _) :: (86, .is _) :: (87, .is _) :: (88, .is _) :: (89, .is _) :: (90, .is _) :: (91, .is _) :: (92, .is _) :: (93, .is _) :: (94, .is _) :: (95, .is _) :: (96, .is _) :: (97, .is _) :: (98, .is _) :: []) ([] :: [50] :: [51] :: [52] :: [53] :: [53, 54] :: [53] :: [53, 55, 56] :: [53, 57] :: [58] :: [59] :: [59, 60] :: [59, 61] :: [62] :: [62] :: [62, 64] :: [62, 63, 65] :: [62, 66] :: [62, 67] :: [62] :: [62, 69] :: [62, 68, 70] :: [59, 62, 71] :: [59, 72] :: [73] :: [74] :: [74, 75] :: [74] :: [74] :: [74, 78] :: [74, 77, 79] :: [74, 80] :: [74, 76, 81] :: [74, 82] :: [83] :: [84] :: [84, 85] :: [84, 86] :: [84, 87] :: [88] :: [89] :: [89, 90] :: [89, 91] :: [89, 92] :: [93] :: [93, 94] :: [93, 95] :: [89, 93, 96] :: [89, 97] :: []) [98] _ ⟨qd (fldi 0 0 rfl uT124), qd (ldk 4 sC3 rfl rfl rfl), qd (lssi rfl rfl), qd (mv rfl), qd (og 53 rfl gf fun S hg=>xf (0) 0 uT124 (S.e rfl)), qd (og 53 rfl gf fun S hg=>x_load sC3 (S.p rfl hg) ((S.k 4 rfl).cell (j := 0) rfl)), qd (og 53 rfl gf fun S hg=>x_move (S.e rfl)), qd (og 53 rfl gf fun S hg=>x_geq (S.p rfl hg) (S.p rfl hg)), qd (ori rfl rfl rfl), qd (mv rfl), qd (og 59 rfl gf fun S hg=>x_move (S.e rfl)), qd (og 59 rfl gf fun S hg=>x_gtr (S.p rfl hg) (S.e rfl)), qd (og 59 rfl gf fun S hg=>x_move (S.p rfl hg)), qd (og 62 rfl ggt fun S hg=>x_move (S.e rfl)), qd (og 62 rfl ggt fun S hg=>x_move (S.e rfl)), qd (og 62 rfl ggt fun S hg=>x_sub (S.p rfl hg) (S.e rfl) (r := (((k : Nat) : Int) - 1)) (w_i64 (by omega))), qd (og 62 rfl ggt fun S hg=>x_idx uT122 sZ124 (S.p rfl hg) (S.p rfl hg) ((((k : Nat) : Int) - 1)).toNat (by omega) (by omega) (((((S.u 0 rfl).2).1.wf j (by omega))).1.adr (i := ((((k : Nat) : Int) - 1)).toNat) (by omega))), qd (og 62 rfl ggt fun S hg=>xf (off ((p.rounds.xs.getD j (slE chgE).dflt).a) + ((((k : Nat) : Int) - 1)).toNat * 2) 0 uT124 (S.p rfl hg)), qd (og 62 rfl ggt fun S hg=>x_load sC3 (S.p rfl hg) (((((S.u 0 rfl).2).1.wf j (by omega))).1.cell ((((k : Nat) : Int) - 1)).toNat (by omega) 0 _ rfl)), qd (og 62 rfl ggt fun S hg=>xf (0) 0 uT124 (S.e rfl)), qd (og 62 rfl ggt fun S hg=>x_load sC3 (S.p rfl hg) ((S.k 4 rfl).cell (j := 0) rfl)), qd (og 62 rfl ggt fun S hg=>x_geq (S.p rfl hg) (S.p rfl hg)), qd (og 59 rfl gf fun S hg=>x_and (S.p rfl hg) (fun hl => (S.p rfl (And.intro hg hl))) (S.e rfl)), qd (ori rfl rfl rfl), qd (mv rfl), qd (og 74 rfl gf fun S hg=>xf (0) 1 uT124 (S.e rfl)), qd (og 74 rfl gf fun S hg=>x_load sC3 (S.p rfl hg) ((S.k 4 rfl).cell (j := 1) rfl)), qd (og 74 rfl gf fun S hg=>x_move (S.e rfl)), qd (og 74 rfl gf fun S hg=>xf (0) 0 uT124 (S.e rfl)), qd (og 74 rfl gf fun S hg=>x_load sC3 (S.p rfl hg) ((S.k 4 rfl).cell (j := 0) rfl)), qd (og 74 rfl gf fun S hg=>x_idx uT22 sZ3 (S.p rfl hg) (S.p rfl hg) ((((p.rounds.xs.getD j (slE chgE).dflt).xs).getD k chgE.dflt).dev).toNat (by omega) (by omega) (row_off (S.row 3 rfl) (m := ((((p.rounds.xs.getD j (slE chgE).dflt).xs).getD k chgE.dflt).dev).toNat) (by omega))), qd (og 74 rfl gf fun S hg=>x_load sC3 (S.p rfl hg) (((S.row 3 rfl).latz (by first | decide | exact Nat.one_pos | exact Nat.succ_pos _)).cell ((((p.rounds.xs.getD j (slE chgE).dflt).xs).getD k chgE.dflt).dev).toNat (by omega) 0 _ rfl)), qd (og 74 rfl gf fun S hg=>x_leq (S.p rfl hg) (S.p rfl hg)), qd (ori rfl rfl rfl), qd (mv rfl), qd (og 84 rfl gf fun S hg=>xf (0) 1 uT124 (S.e rfl)), qd (og 84 rfl gf fun S hg=>x_load sC3 (S.p rfl hg) ((S.k 4 rfl).cell (j := 1) rfl)), qd (og 84 rfl gf fun S hg=>x_gtr (S.p rfl hg) (S.e rfl)), qd (ori rfl rfl rfl), qd (mv rfl), qd (og 89 rfl gf fun S hg=>xf (0) 0 uT47 (S.e rfl)), qd (og 89 rfl gf fun S hg=>x_load sC4 (S.p rfl hg) ((S.k 0 rfl).cell (j := 0) rfl)), qd (og 89 rfl gf fun S hg=>x_notp (S.p rfl hg)), qd (og 89 rfl gf fun S hg=>x_move (S.p rfl hg)), qd (og 93 rfl ggt fun S hg=>xf (0) 1 uT124 (S.e rfl)), qd (og 93 rfl ggt fun S hg=>x_load sC3 (S.p rfl hg) ((S.k 4 rfl).cell (j := 1) rfl)), qd (og 93 rfl ggt fun S hg=>x_neq (S.p rfl hg) (S.e rfl)), qd (og 89 rfl gf fun S hg=>x_and (S.p rfl hg) (fun hl => (S.p rfl (And.intro hg hl))) (S.e rfl)), qd (ori rfl rfl rfl), trivial⟩ ?_
   clear S; intro a u S G hE
   refine ent ?_
   refine cd S rfl ?_ ?_
   ·intro hc6
    refine rs S (tr (av rfl)<|la (av rfl)) ?_; clear S; intro a u S
    refine wp_ret (then_r (blk_r (then_r (then_r (blk_r (then_r (blk_r (then_r (then_r (blk_r (then_r ?_)))))))))))
    refine ret2 rfl S.s rfl rfl ?_
    replace S := S.pk []
    refine ⟨(Sl.mk none 0 ([] : List (Sl Int))), (r2 rfl (vi ?_)), sl_nil, ?_, S.m.c⟩
    ·have e : statesP p.staged (rdsP p) n = none := by
      have e2 : rndP p.staged n (-1) nw.xs (p.rounds.xs.getD j (slE chgE).dflt).xs = none := by rw [← hI2, drop_cons (k := k) (by omega) chgE.dflt, rndP_no ((or6.1 hc6).imp (lastD_le hls).2 fun h => h)]
      rw [hS, ← hI, drop_cons (k := j) (by omega) [], stsA, rdsP_at, if_neg (by omega), e2]
     rw [e]; rfl
    have e : statesP p.staged (rdsP p) n = none := by
     have e2 : rndP p.staged n (-1) nw.xs (p.rounds.xs.getD j (slE chgE).dflt).xs = none := by rw [← hI2, drop_cons (k := k) (by omega) chgE.dflt, rndP_no ((or6.1 hc6).imp (lastD_le hls).2 fun h => h)]
     rw [hS, ← hI, drop_cons (k := j) (by omega) [], stsA, rdsP_at, if_neg (by omega), e2]
    rw [e]; rfl
   intro hc7
   refine wp_skip (then_n (r0 ?_))
   refine sp S (tr (mv rfl)<|tr (fldi 0 0 rfl uT124)<|tr (ldk 4 sC3 rfl rfl rfl)<|tr (fldi 0 1 rfl uT124)<|tr (ldk 4 sC3 rfl rfl rfl)<|la (ov fun S=>x_idx uT22 sZ3 (S.e rfl) (S.e rfl) ((((p.rounds.xs.getD j (slE chgE).dflt).xs).getD k chgE.dflt).dev).toNat (by omega) (by omega) (row_off (S.row 3 rfl) (m := ((((p.rounds.xs.getD j (slE chgE).dflt).xs).getD k chgE.dflt).dev).toNat) (by omega)))) ?_; clear S; intro a u S
   refine sp S (la (str (E := intE) 3 (by kernel_rfl) rfl rfl rfl ((((p.rounds.xs.getD j (slE chgE).dflt).xs).getD k chgE.dflt).dev).toNat 0 (by omega) (by first | decide | exact Nat.one_pos | exact Nat.succ_pos _) ((((p.rounds.xs.getD j (slE chgE).dflt).xs).getD k chgE.dflt).ver) (fun S=>(((((S.u 0 rfl).2).1.wf j (by omega))).1.wf k (by omega)).2) rfl (by first | rfl | (show _ = _ * 1 + 0; omega) | (simp [intE]; omega) | simp [intE]) rfl)) ?_; clear S; intro a u S
   have hls21 : (n2.set ((((p.rounds.xs.getD j (slE chgE).dflt).xs).getD k chgE.dflt).dev).toNat ((((p.rounds.xs.getD j (slE chgE).dflt).xs).getD k chgE.dflt).ver)).length = n2.length := by simp
   refine nn (blk_n (then_n ?_))
   refine rg S (tr (mv rfl)<|tr (addi ((k + 1 : Nat) : Int) rfl rfl (w_i64 (by omega)))<|la (av rfl)) ?_; clear S; intro a u S
   refine then_n ?_
   refine ⟨(k + 1), n2_a, n2_c, (n2.set ((((p.rounds.xs.getD j (slE chgE).dflt).xs).getD k chgE.dflt).dev).toNat ((((p.rounds.xs.getD j (slE chgE).dflt).xs).getD k chgE.dflt).ver)), S.re ⟨rfl, rfl, rfl, (by first | rfl | (simp only [List.length_set]; rfl)), rfl, rfl, rfl, rfl, rfl, rfl, rfl, rfl, rfl, rfl, rfl, rfl, rfl, rfl, rfl, rfl, rfl, rfl, rfl, trivial⟩ rfl rfl, ?_, ?_⟩
   ·refine ⟨by omega, .inr (by rw [lastD_up]; omega), by rw [List.length_set]; exact h2l, ?_⟩
    rw [← hI2, drop_cons (k := k) (by omega) chgE.dflt, lastD_up, rndP_go (last := lastD (p.rounds.xs.getD j (slE chgE).dflt).xs k) (fun h => hc7 (or6.2 (h.imp (lastD_le hls).1 fun h => h)))]
   omega
  intro hc8
  refine wp_exit (then_e (then_e (blk_e (then_n (r0 ?_)))))
  refine sp S (tr (mv rfl)<|la (mv rfl)) ?_; clear S; intro a u S
  replace S := S.fz 3 rfl
  refine nbs (slE intE) S [(Sl.mk n2_a n2_c n2)] (x_bs S [(0, .slice n2_a n2.length n2_c)] uT66 iZ22) (fun x hx => by simp only [List.mem_cons, List.not_mem_nil, or_false] at hx; rw [hx]; exact (show (slE intE).wf _ _ (Sl.mk n2_a n2_c n2) from (S.u 3 rfl))) ?_; clear S; intro a u b107 S
  refine ap (E := (slE intE)) (ys := [(Sl.mk n2_a n2_c n2)]) S 2 rfl uT66 iZ22 rfl rfl (show LAt (slE intE) _ _ (some ⟨b107, 0, none⟩) ([(Sl.mk n2_a n2_c n2)]) from ((S.u 4 rfl)).1) ((S.u 4 rfl)).2.2 (LAt.mem (show LAt (slE intE) _ _ (some ⟨b107, 0, none⟩) ([(Sl.mk n2_a n2_c n2)]) from ((S.u 4 rfl)).1)) ⟨by unfold maxLen; (try simp only [List.length_cons, List.length_nil, List.length_append, List.length_map]); omega, by (try simp only [List.length_cons, List.length_nil, List.length_append, List.length_map]); omega⟩ ?_; clear S; intro a u ad108 cap108 S
  refine en S (la (av rfl)) ?_; clear S; intro a u S
  refine blk_n (then_n ?_)
  refine rg S (tr (mv rfl)<|tr (addi ((j + 1 : Nat) : Int) rfl rfl (w_i64 (by omega)))<|la (av rfl)) ?_; clear S; intro a u S
  have hnw := (S.u 3 rfl)
  replace S := S.rt 2
  replace S := S.ar (wfF (slE intE) (Sl.mk n2_a n2_c n2)) hnw
  refine then_n ?_
  refine ⟨(j + 1), (Sl.mk n2_a n2_c n2), ad108, cap108, (out ++ [(Sl.mk n2_a n2_c n2)]), S.re (subM rfl) rfl rfl, ?_, ?_⟩
  ·refine ⟨by omega, by show n2.length = _; rw [h2l]; exact hnl, by simp; omega, ?_⟩
   have e2 : rndP p.staged n (-1) nw.xs (p.rounds.xs.getD j (slE chgE).dflt).xs = some n2 := by rw [← hI2, List.drop_of_length_le (by omega)]; rfl
   rw [← hI, drop_cons (k := j) (by omega) [], stsA, rdsP_at, if_neg (by omega), e2, List.map_append]; rfl
  omega
 intro hc9
 refine wp_exit (then_e (then_e (blk_e (then_n ?_))))
 refine rs S (tr (mv rfl)<|tr (av rfl)<|la (av rfl)) ?_; clear S; intro a u S
 refine wp_ret ?_
 replace S := S.fz 2 rfl
 refine ret2 rfl S.s rfl rfl ?_
 replace S := S.pk []
 refine ⟨(Sl.mk out_a out_c out), (r2 rfl (vi ?_)), (S.u 3 rfl), ?_, S.m.c⟩
 ·have e : statesP p.staged (rdsP p) n = some (out.map fun l => l.xs) := by rw [hS, ← hI, List.drop_of_length_le (by omega)]; rfl
  rw [e]; rfl
 have e : statesP p.staged (rdsP p) n = some (out.map fun l => l.xs) := by rw [hS, ← hI, List.drop_of_length_le (by omega)]; rfl
 rw [e]; rfl
end Go.Proofs.Ytobggnpnochnnaa.V
