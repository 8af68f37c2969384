/- Texts of this claim in one: part E. -/
import Derived.Test.YtobggnpnochnnaaRMAD
import Derived.Test.YtobggnpnochnnaaRMAB
import Derived.Test.YtobggnpnochnnaaRMAC
import Derived.Test.YtobggnpnochnnaaRMAA
set_option linter.unusedVariables false
set_option linter.unusedSimpArgs false
set_option maxHeartbeats 4000000
set_option maxRecDepth 20000
namespace Go.Proofs.Ytobggnpnochnnaa.V
open Go.RowKit Go.Proofs.Ytobggnpnochnnaa
theorem rStates (w : World) (F : Nat → Prop) (hF : Old F w) (M : MS [] w) (p : Plan) (p_w : planE.wf (Fr F []) w.heap p) (n : Int) (n_h : inI64 n) (hb : p.rounds.xs.length ≤ 100) :
 Calls Try.prog 40 #[.agg (planE.cells p).toArray,iI n] w fun e w'=>∃ (r0 : Sl (Sl Int)),e = .returned (.tuple #[sV r0,iI (stsE (statesP p.staged (rdsP p) n))]) ∧ (slE (slE intE)).wf (Fr F []) w'.heap r0 ∧ (r0.xs.map (fun l=>l.xs) = stsD (statesP p.staged (rdsP p) n)) ∧ Tr [] w [] w':=by
 have : p.rounds.xs.length ≤ 9223372036854775807:=(p_w.2).1.len;obtain ⟨n_hl,n_hu⟩ : inI64 n:=id n_h;have hR0:=rdsP_len p;refine go Try.func40 rfl 110 rfl [wfF planE p] [] hF M ⟨p_w,trivial⟩ trivial ?_;intro a S;have hD : ∀ k,In ([] : List BS) k → ¬ F k:=fun _ h=>h.elim;refine rs0 ?_;refine nbp S (x_box _ (S.e rfl) rfl) ?_;clear S;intro a u b2 S;refine ens S (tr (av rfl)<|la (av rfl)) ?_;clear S;intro a u S;refine wp_seq ?_;refine rs S (tr (mv rfl)<|tr (lssi rfl rfl)<|tr (mv rfl)<|tr (og 14 rfl gf fun S hg=>x_move (S.e rfl))<|tr (og 14 rfl gf fun S hg=>x_gtr (S.p rfl hg) (S.e rfl))<|la (ori rfl rfl rfl)) ?_;clear S;intro a u S;refine cd S rfl ?_ ?_
 ·intro hc0;refine rs S (tr (av rfl)<|la (av rfl)) ?_; clear S; intro a u S;refine wp_ret (then_r ?_);refine ret2 rfl S.s rfl rfl ?_;replace S := S.pk [];refine ⟨(Sl.mk none 0 ([] : List (Sl Int))), (r2 rfl (vi ?_)), sl_nil, ?_, S.m.c⟩
  ·have e : statesP p.staged (rdsP p) n = none := by unfold statesP; rw [if_pos hc0]
   rw [e];rfl
  have e : statesP p.staged (rdsP p) n = none:=by unfold statesP;rw [if_pos hc0]
  rw [e];rfl
 intro hc1;have hS : statesP p.staged (rdsP p) n = stsA p.staged n [zerosP n] (zerosP n) (rdsP p):=if_neg hc1;refine wp_skip (then_n (rs0 ?_));refine sp S (la (mv rfl)) ?_;clear S;intro a u S;refine mk (E:=intE) S (0 : Int) (n).toNat uT22 iZ3 rfl rfl bo bo bo (by unfold maxLen;omega) (fun _ _=>by first | exact ⟨by omega,by omega⟩ | trivial | exact sl_nil) ?_;clear S;intro a u ad19 S;have hrl19 : (List.replicate (n).toNat (0 : Int)).length = (n).toNat:=List.length_replicate;refine ens S (la (av rfl)) ?_;clear S;intro a u S;refine rs0 ?_;refine sp S (la (mv rfl)) ?_;clear S;intro a u S;replace S:=S.fz 1 rfl;refine nbr (slE intE) S [(Sl.mk ad19 ((n).toNat) (List.replicate (n).toNat (0 : Int)))] (x_bs S [(0,.slice ad19 ((List.replicate (n).toNat (0 : Int)).length) ((n).toNat))] uT66 iZ22) (fun x hx=>by simp only [List.mem_cons,List.not_mem_nil,or_false] at hx;rw [hx];exact (show (slE intE).wf _ _ (Sl.mk ad19 ((n).toNat) (List.replicate (n).toNat (0 : Int))) from (S.u 1 rfl))) ?_;clear S;intro a u b21 S;refine ens S (la (av rfl)) ?_;clear S;intro a u S;refine wp_seq ?_;refine rs S (la (av rfl)) ?_;clear S;intro a u S;refine wp_block ?_;replace S:=S.ar (wfF (slE intE) (Sl.mk ad19 ((n).toNat) (List.replicate (n).toNat (0 : Int)))) (S.u 1 rfl);refine lq5 (fun (j : Nat) (nw : Sl Int) (out_a : Option Addr) (out_c : Nat) (out : List (Sl Int))=>[(1,iI n),(2,pT b2 0),(8,iN j),(6,sV nw),(7,.slice out_a out.length out_c)]) (fun (j : Nat) (nw : Sl Int) (out_a : Option Addr) (out_c : Nat) (out : List (Sl Int))=>[wfF planE p,wfF (slE intE) (Sl.mk ad19 ((n).toNat) (List.replicate (n).toNat (0 : Int))),wfF (slE intE) nw]) (fun (j : Nat) (nw : Sl Int) (out_a : Option Addr) (out_c : Nat) (out : List (Sl Int))=>[blO b2 (planE.cells p) 47,noO,rwO (slE intE) 22 w.heap.size out_a out_c out]) (fun (j : Nat) (nw : Sl Int) (out_a : Option Addr) (out_c : Nat) (out : List (Sl Int))=>j ≤ p.rounds.xs.length ∧ nw.xs.length = n.toNat ∧ out.length = j + 1 ∧ stsA p.staged n (out.map fun l=>l.xs) nw.xs ((rdsP p).drop j) = stsA p.staged n [zerosP n] (zerosP n) (rdsP p)) (fun (j : Nat) (nw : Sl Int) (out_a : Option Addr) (out_c : Nat) (out : List (Sl Int))=>p.rounds.xs.length - j) S 0 (Sl.mk ad19 ((n).toNat) (List.replicate (n).toNat (0 : Int))) (some ⟨b21,0,none⟩) 1 ([(Sl.mk ad19 ((n).toNat) (List.replicate (n).toNat (0 : Int)))]) (subM rfl) rfl rfl ?_ ?_
 ·exact ⟨Nat.zero_le _,by simp [zerosP],rfl,rfl⟩
 clear S;intro j nw out_a out_c out a u S hR;have out_len:=(S.row 2 rfl).len_le;simp only [maxLen] at out_len;obtain ⟨hj,hnl,hol,hI⟩:=hR;refine wp_seq ?_;have hn8 : p.rounds.xs.length ≤ 9223372036854775807:=((S.u 0 rfl).2).1.len;refine rs S (tr (mv rfl)<|tr (fldi 0 1 rfl uT47)<|tr (ldk 0 sC45 rfl rfl rfl)<|tr (leni uT45 rfl)<|la (lssi rfl rfl)) ?_;clear S;intro a u S;refine cd S rfl ?_ ?_
 ·intro hc2;refine wp_skip (then_n (wp_seq (wp_block ?_)));have hn10 : ((p.rounds.xs.getD j (slE chgE).dflt).xs).length ≤ 9223372036854775807 := ((((S.u 0 rfl).2).1.wf j bo)).1.len;refine rs S (tr (fldi 0 1 rfl uT47)<|tr (ldk 0 sC45 rfl rfl rfl)<|tr (mv rfl)<|tr (idxi uT45 sZ122 rfl rfl j rfl bo (((S.u 0 rfl).2).1.adr (i := j) bo))<|tr (ov fun S=>x_load sC122 (S.e rfl) (((S.u 0 rfl).2).1.cell j bo 0 _ rfl))<|la (av rfl)) ?_; clear S; intro a u S;refine rs0 ?_;refine nbr (q := 0) intE S [] (x_bsl0 uT22 iZ3) (fun _ h => by simp at h) ?_; clear S; intro a u b34 S;refine sp S (la (mv rfl)) ?_; clear S; intro a u S;refine ap (E := intE) (ys := nw.xs) S 3 rfl uT22 iZ3 rfl rfl ((S.u 2 rfl)).1 ((S.u 2 rfl)).2.2 (LAt.mem ((S.u 2 rfl)).1) ⟨by unfold maxLen; (try simp only [List.length_cons, List.length_nil, List.length_append, List.length_map]); omega, by (try simp only [List.length_cons, List.length_nil, List.length_append, List.length_map]); omega⟩ ?_; clear S; intro a u ad36 cap36 S;refine ens S (la (av rfl)) ?_; clear S; intro a u S;refine wp_seq ?_;refine rs S (tr (mv rfl)<|tr (leni uT122 rfl)<|la (eqli rfl rfl)) ?_; clear S; intro a u S;refine cd S rfl ?_ ?_
  ·intro hc3;refine rs S (tr (av rfl)<|la (av rfl)) ?_; clear S; intro a u S;refine wp_ret (then_r (blk_r (then_r (then_r (blk_r (then_r ?_))))));refine ret2 rfl S.s rfl rfl ?_;replace S := S.pk [];refine ⟨(Sl.mk none 0 ([] : List (Sl Int))), (r2 rfl (vi ?_)), sl_nil, ?_, S.m.c⟩
   ·have e : statesP p.staged (rdsP p) n = none := by rw [hS, ← hI, drop_cons (k := j) bo [], stsA, rdsP_at, if_pos bo]
    rw [e];rfl
   have e : statesP p.staged (rdsP p) n = none:=by rw [hS,← hI,drop_cons (k:=j) bo [],stsA,rdsP_at,if_pos bo]
   rw [e];rfl
  intro hc4;refine wp_skip (then_n (wp_seq ?_));refine rs S (la (av rfl)) ?_;clear S;intro a u S;refine wp_block ?_;refine lp4 (fun (k : Nat) (n2_a : Option Addr) (n2_c : Nat) (n2 : List Int)=>[(1,iI n),(2,pT b2 0),(8,iN j),(6,.slice n2_a n2.length n2_c),(7,.slice out_a out.length out_c),(22,iN j),(23,pT b2 (0 + 1)),(24,sV p.rounds),(25,iN p.rounds.xs.length),(26,bD (((j : Nat) : Int) < ((p.rounds.xs.length : Nat) : Int))),(29,pT b2 (0 + 1)),(30,sV p.rounds),(31,iN j),(32,pT (blk p.rounds.a) (off p.rounds.a + j * 1)),(33,sV (p.rounds.xs.getD j (slE chgE).dflt)),(9,sV (p.rounds.xs.getD j (slE chgE).dflt)),(34,.slice (some ⟨b34,0,none⟩) 0 0),(35,sV nw),(36,.slice ad36 (([] ++ nw.xs).length) cap36),(37,sV (p.rounds.xs.getD j (slE chgE).dflt)),(38,iN (p.rounds.xs.getD j (slE chgE).dflt).xs.length),(39,bD ((((p.rounds.xs.getD j (slE chgE).dflt).xs.length : Nat) : Int) = 0)),(10,iN k)]) (fun (k : Nat) (n2_a : Option Addr) (n2_c : Nat) (n2 : List Int)=>[blO b2 (planE.cells p) 47,noO,rwO (slE intE) 22 w.heap.size out_a out_c out,rwO intE 3 w.heap.size n2_a n2_c n2]) (fun (k : Nat) (n2_a : Option Addr) (n2_c : Nat) (n2 : List Int)=>k ≤ (p.rounds.xs.getD j (slE chgE).dflt).xs.length ∧ (k = 0 ∨ 0 ≤ lastD (p.rounds.xs.getD j (slE chgE).dflt).xs k) ∧ n2.length = nw.xs.length ∧ rndP p.staged n (lastD (p.rounds.xs.getD j (slE chgE).dflt).xs k) n2 ((p.rounds.xs.getD j (slE chgE).dflt).xs.drop k) = rndP p.staged n (-1) nw.xs (p.rounds.xs.getD j (slE chgE).dflt).xs) (fun (k : Nat) (n2_a : Option Addr) (n2_c : Nat) (n2 : List Int)=>(p.rounds.xs.getD j (slE chgE).dflt).xs.length - k) S 0 ad36 cap36 ([] ++ nw.xs) (subM rfl) rfl ?_ ?_
  ·exact ⟨Nat.zero_le _,.inl rfl,rfl,rfl⟩
  clear S;intro k n2_a n2_c n2 a u S hR;have n2_len:=(S.row 3 rfl).len_le;simp only [maxLen] at n2_len;obtain ⟨hk,hls,h2l,hI2⟩:=hR;refine wp_seq ?_;refine rs S (tr (mv rfl)<|tr (mv rfl)<|tr (leni uT122 rfl)<|la (lssi rfl rfl)) ?_;clear S;intro a u S;refine cd S rfl ?_ ?_
  ·intro hc5;refine wp_skip (then_n (wp_seq (wp_block (rs0 ?_))));obtain ⟨hl17, hu17⟩ : inI64 ((((p.rounds.xs.getD j (slE chgE).dflt).xs).getD k chgE.dflt).dev) := id ((((((S.u 0 rfl).2).1.wf j bo)).1.wf k bo).1);obtain ⟨hl18, hu18⟩ : inI64 ((((p.rounds.xs.getD j (slE chgE).dflt).xs).getD k chgE.dflt).ver) := id ((((((S.u 0 rfl).2).1.wf j bo)).1.wf k bo).2);refine sp S (tr (mv rfl)<|tr (mv rfl)<|tr (idxi uT122 sZ124 rfl rfl k rfl bo (((((S.u 0 rfl).2).1.wf j bo)).1.adr (i := k) bo))<|la (ov fun S=>x_ldw (S.e rfl) (((((S.u 0 rfl).2).1.wf j bo)).1.wcell k bo _ rfl _ rfl) wD124)) ?_; clear S; intro a u S;refine nbp S (x_allocz _ iZ124 rfl) ?_; clear S; intro a u b11 S;refine ens S (la (stkw 4 rfl rfl rfl)) ?_; clear S; intro a u S;refine wp_seq (wp_seq ?_);refine dr (P := Try.prog) S 49 [] ((50, .is _) :: (51, .is _) :: (52, .is _) :: (53, .is _) :: (54, .is _) :: (55, .is _) :: (56, .is _) :: (57, .is _) :: (58, .is _) :: (59, .is _) :: (60, .is _) :: (61, .is _) :: (62, .is _) :: (63, .is _) :: (64, .is _) :: (65, .is _) :: (66, .is _) :: (67, .is _) :: (68, .is _) :: (69, .is _) :: (70, .is _) :: (71, .is _) :: (72, .is _) :: (73, .is _) :: (74, .is _) :: (75, .is _) :: (76, .is _) :: (77, .is _) :: (78, .is _) :: (79, .is _) :: (80, .is _) :: (81, .is _) :: (82, .is _) :: (83, .is _) :: (84, .is _) :: (85, .is _) :: (86, .is _) :: (87, .is _) :: (88, .is _) :: (89, .is _) :: (90, .is _) :: (91, .is _) :: (92, .is _) :: (93, .is _) :: (94, .is _) :: (95, .is _) :: (96, .is _) :: (97, .is _) :: (98, .is _) :: []) ([] :: [50] :: [51] :: [52] :: [53] :: [53, 54] :: [53] :: [53, 55, 56] :: [53, 57] :: [58] :: [59] :: [59, 60] :: [59, 61] :: [62] :: [62] :: [62, 64] :: [62, 63, 65] :: [62, 66] :: [62, 67] :: [62] :: [62, 69] :: [62, 68, 70] :: [59, 62, 71] :: [59, 72] :: [73] :: [74] :: [74, 75] :: [74] :: [74] :: [74, 78] :: [74, 77, 79] :: [74, 80] :: [74, 76, 81] :: [74, 82] :: [83] :: [84] :: [84, 85] :: [84, 86] :: [84, 87] :: [88] :: [89] :: [89, 90] :: [89, 91] :: [89, 92] :: [93] :: [93, 94] :: [93, 95] :: [89, 93, 96] :: [89, 97] :: []) [98] _ ⟨qd (fldi 0 0 rfl uT124), qd (ldk 4 sC3 rfl rfl rfl), qd (lssi rfl rfl), qd (mv rfl), qd (og 53 rfl gf fun S hg=>xf (0) 0 uT124 (S.e rfl)), qd (og 53 rfl gf fun S hg=>x_load sC3 (S.p rfl hg) ((S.k 4 rfl).cell (j := 0) rfl)), qd (og 53 rfl gf fun S hg=>x_move (S.e rfl)), qd (og 53 rfl gf fun S hg=>x_geq (S.p rfl hg) (S.p rfl hg)), qd (ori rfl rfl rfl), qd (mv rfl), qd (og 59 rfl gf fun S hg=>x_move (S.e rfl)), qd (og 59 rfl gf fun S hg=>x_gtr (S.p rfl hg) (S.e rfl)), qd (og 59 rfl gf fun S hg=>x_move (S.p rfl hg)), qd (og 62 rfl ggt fun S hg=>x_move (S.e rfl)), qd (og 62 rfl ggt fun S hg=>x_move (S.e rfl)), qd (og 62 rfl ggt fun S hg=>x_sub (S.p rfl hg) (S.e rfl) (r := (((k : Nat) : Int) - 1)) (w_i64 bo)), qd (og 62 rfl ggt fun S hg=>x_idx uT122 sZ124 (S.p rfl hg) (S.p rfl hg) ((((k : Nat) : Int) - 1)).toNat bo bo (((((S.u 0 rfl).2).1.wf j bo)).1.adr (i := ((((k : Nat) : Int) - 1)).toNat) bo)), qd (og 62 rfl ggt fun S hg=>xf (off ((p.rounds.xs.getD j (slE chgE).dflt).a) + ((((k : Nat) : Int) - 1)).toNat * 2) 0 uT124 (S.p rfl hg)), qd (og 62 rfl ggt fun S hg=>x_load sC3 (S.p rfl hg) (((((S.u 0 rfl).2).1.wf j bo)).1.cell ((((k : Nat) : Int) - 1)).toNat bo 0 _ rfl)), qd (og 62 rfl ggt fun S hg=>xf (0) 0 uT124 (S.e rfl)), qd (og 62 rfl ggt fun S hg=>x_load sC3 (S.p rfl hg) ((S.k 4 rfl).cell (j := 0) rfl)), qd (og 62 rfl ggt fun S hg=>x_geq (S.p rfl hg) (S.p rfl hg)), qd (og 59 rfl gf fun S hg=>x_and (S.p rfl hg) (fun hl => (S.p rfl (And.intro hg hl))) (S.e rfl)), qd (ori rfl rfl rfl), qd (mv rfl), qd (og 74 rfl gf fun S hg=>xf (0) 1 uT124 (S.e rfl)), qd (og 74 rfl gf fun S hg=>x_load sC3 (S.p rfl hg) ((S.k 4 rfl).cell (j := 1) rfl)), qd (og 74 rfl gf fun S hg=>x_move (S.e rfl)), qd (og 74 rfl gf fun S hg=>xf (0) 0 uT124 (S.e rfl)), qd (og 74 rfl gf fun S hg=>x_load sC3 (S.p rfl hg) ((S.k 4 rfl).cell (j := 0) rfl)), qd (og 74 rfl gf fun S hg=>x_idx uT22 sZ3 (S.p rfl hg) (S.p rfl hg) ((((p.rounds.xs.getD j (slE chgE).dflt).xs).getD k chgE.dflt).dev).toNat bo bo (row_off (S.row 3 rfl) (m := ((((p.rounds.xs.getD j (slE chgE).dflt).xs).getD k chgE.dflt).dev).toNat) bo)), qd (og 74 rfl gf fun S hg=>x_load sC3 (S.p rfl hg) (((S.row 3 rfl).latz nz).cell ((((p.rounds.xs.getD j (slE chgE).dflt).xs).getD k chgE.dflt).dev).toNat bo 0 _ rfl)), qd (og 74 rfl gf fun S hg=>x_leq (S.p rfl hg) (S.p rfl hg)), qd (ori rfl rfl rfl), qd (mv rfl), qd (og 84 rfl gf fun S hg=>xf (0) 1 uT124 (S.e rfl)), qd (og 84 rfl gf fun S hg=>x_load sC3 (S.p rfl hg) ((S.k 4 rfl).cell (j := 1) rfl)), qd (og 84 rfl gf fun S hg=>x_gtr (S.p rfl hg) (S.e rfl)), qd (ori rfl rfl rfl), qd (mv rfl), qd (og 89 rfl gf fun S hg=>xf (0) 0 uT47 (S.e rfl)), qd (og 89 rfl gf fun S hg=>x_load sC4 (S.p rfl hg) ((S.k 0 rfl).cell (j := 0) rfl)), qd (og 89 rfl gf fun S hg=>x_notp (S.p rfl hg)), qd (og 89 rfl gf fun S hg=>x_move (S.p rfl hg)), qd (og 93 rfl ggt fun S hg=>xf (0) 1 uT124 (S.e rfl)), qd (og 93 rfl ggt fun S hg=>x_load sC3 (S.p rfl hg) ((S.k 4 rfl).cell (j := 1) rfl)), qd (og 93 rfl ggt fun S hg=>x_neq (S.p rfl hg) (S.e rfl)), qd (og 89 rfl gf fun S hg=>x_and (S.p rfl hg) (fun hl => (S.p rfl (And.intro hg hl))) (S.e rfl)), qd (ori rfl rfl rfl), trivial⟩ ?_;clear S; intro a u S G hE;refine ent ?_;refine cd S rfl ?_ ?_
   ·intro hc6;refine rs S (tr (av rfl)<|la (av rfl)) ?_; clear S; intro a u S;refine wp_ret (then_r (blk_r (then_r (then_r (blk_r (then_r (blk_r (then_r (then_r (blk_r (then_r ?_)))))))))));refine ret2 rfl S.s rfl rfl ?_;replace S := S.pk [];refine ⟨(Sl.mk none 0 ([] : List (Sl Int))), (r2 rfl (vi ?_)), sl_nil, ?_, S.m.c⟩
    ·have e : statesP p.staged (rdsP p) n = none:=by
      have e2 : rndP p.staged n (-1) nw.xs (p.rounds.xs.getD j (slE chgE).dflt).xs = none:=by rw [← hI2,drop_cons (k:=k) bo chgE.dflt,rndP_no ((or6.1 hc6).imp (lastD_le hls).2 fun h=>h)]
      rw [hS,← hI,drop_cons (k:=j) bo [],stsA,rdsP_at,if_neg bo,e2]
     rw [e];rfl
    have e : statesP p.staged (rdsP p) n = none:=by
     have e2 : rndP p.staged n (-1) nw.xs (p.rounds.xs.getD j (slE chgE).dflt).xs = none:=by rw [← hI2,drop_cons (k:=k) bo chgE.dflt,rndP_no ((or6.1 hc6).imp (lastD_le hls).2 fun h=>h)]
     rw [hS,← hI,drop_cons (k:=j) bo [],stsA,rdsP_at,if_neg bo,e2]
    rw [e];rfl
   intro hc7;refine wp_skip (then_n (r0 ?_));refine sp S (tr (mv rfl)<|tr (fldi 0 0 rfl uT124)<|tr (ldk 4 sC3 rfl rfl rfl)<|tr (fldi 0 1 rfl uT124)<|tr (ldk 4 sC3 rfl rfl rfl)<|la (ov fun S=>x_idx uT22 sZ3 (S.e rfl) (S.e rfl) ((((p.rounds.xs.getD j (slE chgE).dflt).xs).getD k chgE.dflt).dev).toNat bo bo (row_off (S.row 3 rfl) (m:=((((p.rounds.xs.getD j (slE chgE).dflt).xs).getD k chgE.dflt).dev).toNat) bo))) ?_;clear S;intro a u S;refine sp S (la (str (E:=intE) 3 (by kernel_rfl) rfl rfl rfl ((((p.rounds.xs.getD j (slE chgE).dflt).xs).getD k chgE.dflt).dev).toNat 0 bo nz ((((p.rounds.xs.getD j (slE chgE).dflt).xs).getD k chgE.dflt).ver) (fun S=>(((((S.u 0 rfl).2).1.wf j bo)).1.wf k bo).2) rfl (by first | rfl | (show _ = _ * 1 + 0;omega) | (simp [intE];omega) | simp [intE]) rfl)) ?_;clear S;intro a u S;have hls21 : (n2.set ((((p.rounds.xs.getD j (slE chgE).dflt).xs).getD k chgE.dflt).dev).toNat ((((p.rounds.xs.getD j (slE chgE).dflt).xs).getD k chgE.dflt).ver)).length = n2.length:=by simp
   refine nn (blk_n (then_n ?_));refine rg S (tr (mv rfl)<|tr (addi ((k + 1 : Nat) : Int) rfl rfl (w_i64 bo))<|la (av rfl)) ?_;clear S;intro a u S;refine then_n ?_;refine ⟨(k + 1),n2_a,n2_c,(n2.set ((((p.rounds.xs.getD j (slE chgE).dflt).xs).getD k chgE.dflt).dev).toNat ((((p.rounds.xs.getD j (slE chgE).dflt).xs).getD k chgE.dflt).ver)),S.re ⟨rfl,rfl,rfl,(by first | rfl | (simp only [List.length_set];rfl)),rfl,rfl,rfl,rfl,rfl,rfl,rfl,rfl,rfl,rfl,rfl,rfl,rfl,rfl,rfl,rfl,rfl,rfl,rfl,trivial⟩ rfl rfl,?_,?_⟩
   ·refine ⟨by omega,.inr (by rw [lastD_up];omega),by rw [List.length_set];exact h2l,?_⟩;rw [← hI2,drop_cons (k:=k) bo chgE.dflt,lastD_up,rndP_go (last:=lastD (p.rounds.xs.getD j (slE chgE).dflt).xs k) (fun h=>hc7 (or6.2 (h.imp (lastD_le hls).1 fun h=>h)))]
   omega
  intro hc8;refine wp_exit (then_e (then_e (blk_e (then_n (r0 ?_)))));refine sp S (tr (mv rfl)<|la (mv rfl)) ?_;clear S;intro a u S;replace S:=S.fz 3 rfl;refine nbs (slE intE) S [(Sl.mk n2_a n2_c n2)] (x_bs S [(0,.slice n2_a n2.length n2_c)] uT66 iZ22) (fun x hx=>by simp only [List.mem_cons,List.not_mem_nil,or_false] at hx;rw [hx];exact (show (slE intE).wf _ _ (Sl.mk n2_a n2_c n2) from (S.u 3 rfl))) ?_;clear S;intro a u b107 S;refine ap (E:=(slE intE)) (ys:=[(Sl.mk n2_a n2_c n2)]) S 2 rfl uT66 iZ22 rfl rfl (show LAt (slE intE) _ _ (some ⟨b107,0,none⟩) ([(Sl.mk n2_a n2_c n2)]) from ((S.u 4 rfl)).1) ((S.u 4 rfl)).2.2 (LAt.mem (show LAt (slE intE) _ _ (some ⟨b107,0,none⟩) ([(Sl.mk n2_a n2_c n2)]) from ((S.u 4 rfl)).1)) ⟨by unfold maxLen;(try simp only [List.length_cons,List.length_nil,List.length_append,List.length_map]);omega,by (try simp only [List.length_cons,List.length_nil,List.length_append,List.length_map]);omega⟩ ?_;clear S;intro a u ad108 cap108 S;refine en S (la (av rfl)) ?_;clear S;intro a u S;refine blk_n (then_n ?_);refine rg S (tr (mv rfl)<|tr (addi ((j + 1 : Nat) : Int) rfl rfl (w_i64 bo))<|la (av rfl)) ?_;clear S;intro a u S;have hnw:=(S.u 3 rfl);replace S:=S.rt 2;replace S:=S.ar (wfF (slE intE) (Sl.mk n2_a n2_c n2)) hnw;refine then_n ?_;refine ⟨(j + 1),(Sl.mk n2_a n2_c n2),ad108,cap108,(out ++ [(Sl.mk n2_a n2_c n2)]),S.re (subM rfl) rfl rfl,?_,?_⟩
  ·refine ⟨by omega, by show n2.length = _; rw [h2l]; exact hnl, by simp; omega, ?_⟩;have e2 : rndP p.staged n (-1) nw.xs (p.rounds.xs.getD j (slE chgE).dflt).xs = some n2 := by rw [← hI2, List.drop_of_length_le bo]; rfl
   rw [← hI,drop_cons (k:=j) bo [],stsA,rdsP_at,if_neg bo,e2,List.map_append];rfl
  omega
 intro hc9;refine wp_exit (then_e (then_e (blk_e (then_n ?_))));refine rs S (tr (mv rfl)<|tr (av rfl)<|la (av rfl)) ?_;clear S;intro a u S;refine wp_ret ?_;replace S:=S.fz 2 rfl;refine ret2 rfl S.s rfl rfl ?_;replace S:=S.pk [];refine ⟨(Sl.mk out_a out_c out),(r2 rfl (vi ?_)),(S.u 3 rfl),?_,S.m.c⟩
 ·have e : statesP p.staged (rdsP p) n = some (out.map fun l => l.xs) := by rw [hS, ← hI, List.drop_of_length_le bo]; rfl
  rw [e];rfl
 have e : statesP p.staged (rdsP p) n = some (out.map fun l=>l.xs):=by rw [hS,← hI,List.drop_of_length_le bo];rfl
 rw [e];rfl
open Go.RowKit Go.Proofs.Ytobggnpnochnnaa
open Go.RowKit Go.Proofs.Ytobggnpnochnnaa
open Go.RowKit Go.Proofs.Ytobggnpnochnnaa
open Go.RowKit Go.Proofs.Ytobggnpnochnnaa
open Go.RowKit Go.Proofs.Ytobggnpnochnnaa
open Go.RowKit Go.Proofs.Ytobggnpnochnnaa
open Go.RowKit Go.Proofs.Ytobggnpnochnnaa
open Go.RowKit Go.Proofs.Ytobggnpnochnnaa
open Go.RowKit Go.Proofs.Ytobggnpnochnnaa
open Go.RowKit Go.Proofs.Ytobggnpnochnnaa
open Go.RowKit Go.Proofs.Ytobggnpnochnnaa
open Go.RowKit Go.Proofs.Ytobggnpnochnnaa
open Go.RowKit Go.Proofs.Ytobggnpnochnnaa
open Go.RowKit Go.Proofs.Ytobggnpnochnnaa
open Go.RowKit Go.Proofs.Ytobggnpnochnnaa
open Go.RowKit Go.Proofs.Ytobggnpnochnnaa
open Go.RowKit Go.Proofs.Ytobggnpnochnnaa
open Go.RowKit Go.Proofs.Ytobggnpnochnnaa
open Go.RowKit Go.Proofs.Ytobggnpnochnnaa
open Go.RowKit Go.Proofs.Ytobggnpnochnnaa
open Go.RowKit Go.Proofs.Ytobggnpnochnnaa
open Go.RowKit Go.Proofs.Ytobggnpnochnnaa
def R1 : List (List Chg):=[[⟨0,3⟩]]
def isOne (p : Plan) : Prop:=p.staged = false ∧ rdsP p = R1
theorem one_len {p : Plan} (h : isOne p) : p.rounds.xs.length = 1:=by rw [← rdsP_len,h.2];rfl
theorem one_st {p : Plan} (h : isOne p) : statesP p.staged (rdsP p) 1 = some [[0],[3]]:=by rw [h.1,h.2];rfl
theorem one_good {p : Plan} (h : isOne p) : (statesP p.staged (rdsP p) 1).isSome = true ∧ p.rounds.xs.length ≤ 16:=⟨by rw [one_st h];rfl,by rw [one_len h];decide⟩
theorem one_bad {p : Plan} (h : isOne p) : ¬ ((statesP p.staged (rdsP p) 0).isSome = true ∧ p.rounds.xs.length ≤ 16):=fun q=>by rw [h.1,h.2] at q;exact absurd q.1 (by decide)
open Go.RowKit Go.Proofs.Ytobggnpnochnnaa
open Go.RowKit Go.Proofs.Ytobggnpnochnnaa
open Go.RowKit Go.Proofs.Ytobggnpnochnnaa
theorem gNew (w : World) (F : Nat → Prop) (hF : Old F w) (M : MS [] w) (l : Sl Int) (l_w : (slE intE).wf (Fr F []) w.heap l) :
 Calls Try.prog 19 #[sV l] w fun e w'=>∃ (rT : Nat),e = .returned (pT rT 0) ∧ TpB 112 rT l w' ∧ Tr [] w [one rT] w':=by
 have : l.xs.length ≤ 9223372036854775807:=(l_w).1.len;refine go Try.func19 rfl 6 rfl [wfF (slE intE) l] [] hF M ⟨l_w,trivial⟩ trivial ?_;intro a S;have hD : ∀ k,In ([] : List BS) k → ¬ F k:=fun _ h=>h.elim;refine rs S (la (av rfl)) ?_;clear S;intro a u S;refine rs0 ?_;refine sp S (tr (mv rfl)<|la (ov fun S=>x_bd S [(0,sV l)] [sV l,iI 0])) ?_;clear S;intro a u S;refine nbp S (x_box _ (S.e rfl) rfl) ?_;clear S;intro a u b5 S;refine ens S (la (av rfl)) ?_;clear S;intro a u S;refine wp_ret ?_;refine ret1 rfl S.s rfl ?_;replace S:=S.pk [0];exact ⟨_,rfl,⟨0,Nat.zero_le _,(S.k 0 rfl)⟩,S.m.c⟩
theorem gMod (w : World) (F : Nat → Prop) (hF : Old F w) (M : MS [] w) (v : Int) (v_h : inI64 v) (n : Int) (n_h : inI64 n) (hn : 1 ≤ n) :
 Calls Try.prog 29 #[iI v,iI n] w fun e w'=>e = .returned (iI (v % 18446744073709551616 % n)) ∧ Tr [] w [] w':=by
 obtain ⟨v_hl,v_hu⟩ : inI64 v:=id v_h;obtain ⟨n_hl,n_hu⟩ : inI64 n:=id n_h;have hu : IntKind.u64.wrap v = v % 18446744073709551616:=by simp [IntKind.wrap,IntKind.bits,IntKind.signed]
 have hw : 0 ≤ v % 18446744073709551616 ∧ v % 18446744073709551616 ≤ 18446744073709551615:=⟨by omega,by omega⟩;have hm1 : 0 ≤ v % 18446744073709551616 % n:=Int.emod_nonneg _ bo;have hm2 : v % 18446744073709551616 % n < n:=Int.emod_lt_of_pos _ bo;refine go Try.func29 rfl 11 rfl [] [] hF M trivial trivial ?_;intro a S;have hD : ∀ k,In ([] : List BS) k → ¬ F k:=fun _ h=>h.elim;refine rs S (la (av rfl)) ?_;clear S;intro a u S;refine rs S (tr (mv rfl)<|tr (ov fun S=>x_conv uT3 uT40 (S.e rfl) (r:=(v % 18446744073709551616)) hu)<|tr (mv rfl)<|tr (ov fun S=>x_conv uT3 uT40 (S.e rfl) (r:=n) (w_u64 bo))<|tr (ov fun S=>x_rem (S.e rfl) (S.e rfl) bo (r:=((v % 18446744073709551616) % n)) (by first | rfl | (rw [Int.tmod_eq_emod_of_nonneg bo]) | (rw [Int.tmod_eq_emod_of_nonneg bo];omega)))<|tr (ov fun S=>x_conv uT40 uT3 (S.e rfl) (r:=((v % 18446744073709551616) % n)) (w_i64 bo))<|la (av rfl)) ?_;clear S;intro a u S;refine wp_ret ?_;refine ret1 rfl S.s rfl ?_;refine ⟨(r1 (vi ?_)),S.m.c⟩
 first | rfl | omega | assumption
theorem gNext (w : World) (F : Nat → Prop) (hF : Old F w) (T : Nat) (M : MS [one T] w) (T_l : Sl Int) (T_w : (slE intE).wf (Fr F [one T]) w.heap T_l) (T_K : TpB 112 T T_l w) (n : Int) (n_h : inI64 n) :
 Calls Try.prog 26 #[pT T 0,iI n] w fun e w'=>∃ (r : Int),e = .returned (iI r) ∧ (0 ≤ r ∧ (r < n ∨ r = 0)) ∧ TpB 112 T T_l w' ∧ Tr [one T] w [one T] w':=by
 obtain ⟨ti,hti,T_K⟩:=T_K;have T_len : T_l.xs.length ≤ 9223372036854775807:=T_w.1.len;obtain ⟨n_hl,n_hu⟩ : inI64 n:=id n_h;refine go Try.func26 rfl 39 rfl [wfF (slE intE) T_l] [blO T [sV T_l,iN ti] 112] hF M ⟨T_w,trivial⟩ ⟨T_K,trivial⟩ ?_;intro a S;refine rs S (la (av rfl)) ?_;clear S;intro a u S;refine wp_seq (wp_seq ?_);refine dr (P:=Try.prog) S 14 [] [(5,.is _),(6,.is _),(7,.is _),(8,.is _),(9,.is _),(10,.is _),(11,.is _),(12,.is _),(13,.is _),(14,.is _),(15,.is _),(16,.is _),(17,.is _),(18,.is _)] [[],[5],[6],[7],[7,8],[7,9],[7,10],[7],[7,12],[7,13],[7,14],[7,15],[7,11,16],[7,17]] [18] _ ⟨qd (mv rfl),qd (leqi rfl rfl),qd (mv rfl),qd (og 7 rfl gf fun S hg=>x_move (S.e rfl)),qd (og 7 rfl gf fun S hg=>x_nilck (S.p rfl hg)),qd (og 7 rfl gf fun S hg=>xf (0) 1 uT112 (S.p rfl hg)),qd (og 7 rfl gf fun S hg=>x_load sC3 (S.p rfl hg) ((S.k 0 rfl).cell (j:=1) rfl)),qd (og 7 rfl gf fun S hg=>x_move (S.e rfl)),qd (og 7 rfl gf fun S hg=>x_nilck (S.p rfl hg)),qd (og 7 rfl gf fun S hg=>xf (0) 0 uT112 (S.p rfl hg)),qd (og 7 rfl gf fun S hg=>x_load sC22 (S.p rfl hg) ((S.k 0 rfl).cell (j:=0) rfl)),qd (og 7 rfl gf fun S hg=>x_len uT22 (S.p rfl hg)),qd (og 7 rfl gf fun S hg=>x_geq (S.p rfl hg) (S.p rfl hg)),qd (ori rfl rfl rfl),trivial⟩ ?_;clear S;intro a u S G hE;obtain ⟨hl2,hu2⟩ : inI64 n:=id n_h;refine ent ?_;refine cd S rfl ?_ ?_
 ·intro hc0;refine rs S (la (av rfl)) ?_;clear S;intro a u S;refine wp_ret (then_r ?_);refine ret1 rfl S.s rfl ?_;refine ⟨0,rfl,?_,⟨_,bo,(S.k 0 rfl)⟩,S.m.c⟩;exact ⟨Int.le_refl _,.inr rfl⟩
 intro hc1;refine wp_skip (then_n ?_);refine rs S (tr (mv rfl)<|tr (ov fun S=>x_nilck (S.e rfl))<|tr (fldi 0 1 rfl uT112)<|tr (ldk 0 sC3 rfl rfl rfl)<|tr (addi ((ti + 1 : Nat) : Int) rfl rfl (w_i64 bo))<|tr (ov fun S=>x_nilck (S.e rfl))<|tr (fldi 0 1 rfl uT112)<|la (stk 0 rfl rfl rfl)) ?_;clear S;intro a u S;refine wp_seq ?_;obtain ⟨hl5,hu5⟩ : inI64 (T_l.xs.getD (((((ti + 1 : Nat) : Int) - 1)).toNat) intE.dflt):=id (((S.u 0 rfl)).1.wf ((((ti + 1 : Nat) : Int) - 1)).toNat bo);replace S:=S.l [(0,pT T 0),(1,iI n)] (subM rfl);refine dr (P:=Try.prog) S 14 [] [(26,.is _),(27,.is _),(28,.is _),(29,.is _),(30,.is _),(31,.is _),(32,.is _),(33,.is _),(34,.is _),(35,.is _),(36,.is _),(37,.is _),(38,.is _),(4,.is _)] [[],[26],[27],[28],[],[30],[31],[32],[33],[29,34],[35],[],[36,37],[38]] [4] _ ⟨qd (mv rfl),qd (ov fun S=>x_nilck (S.e rfl)),qd (fldi 0 0 rfl uT112),qd (ldk 0 sC22 rfl rfl rfl),qd (mv rfl),qd (ov fun S=>x_nilck (S.e rfl)),qd (fldi 0 1 rfl uT112),qd (ldk 0 sC3 rfl rfl rfl),qd (subi (((ti + 1 : Nat) : Int) - 1) rfl rfl (w_i64 bo)),qd (idxi uT22 sZ3 rfl rfl ((((ti + 1 : Nat) : Int) - 1)).toNat bo bo (((S.u 0 rfl)).1.adr (i:=((((ti + 1 : Nat) : Int) - 1)).toNat) bo)),qd (ov fun S=>x_load sC3 (S.e rfl) (((S.u 0 rfl)).1.cell ((((ti + 1 : Nat) : Int) - 1)).toNat bo 0 _ rfl)),qd (mv rfl),qd (oc (fun S=>gMod _ _ S.x (.nil _) (T_l.xs.getD (((((ti + 1 : Nat) : Int) - 1)).toNat) intE.dflt) (((S.u 0 rfl)).1.wf ((((ti + 1 : Nat) : Int) - 1)).toNat bo) n n_h bo) cB29),qd (av rfl),trivial⟩ ?_;clear S;intro a u S G hE;obtain ⟨hl6,hu6⟩ : inI64 (T_l.xs.getD (((((ti + 1 : Nat) : Int) - 1)).toNat) intE.dflt):=id (((S.u 0 rfl)).1.wf ((((ti + 1 : Nat) : Int) - 1)).toNat bo);refine ent (wp_ret ?_);refine ret1 rfl S.s rfl ?_;refine ⟨((T_l.xs.getD (((((ti + 1 : Nat) : Int) - 1)).toNat) intE.dflt) % 18446744073709551616 % n),rfl,?_,⟨_,bo,(S.k 0 rfl)⟩,S.m.c⟩;have h1:=Int.emod_nonneg (T_l.xs.getD (((ti + 1 : Nat) : Int) - 1).toNat intE.dflt % 18446744073709551616) (b:=n) bo;have h2:=Int.emod_lt_of_pos (T_l.xs.getD (((ti + 1 : Nat) : Int) - 1).toNat intE.dflt % 18446744073709551616) (b:=n) bo;exact ⟨h1,.inl h2⟩
open Go.RowKit Go.Proofs.Ytobggnpnochnnaa
theorem gVol (w : World) (F : Nat → Prop) (hF : Old F w) (T : Nat) (M : MS [one T] w) (T_l : Sl Int) (T_w : (slE intE).wf (Fr F [one T]) w.heap T_l) (T_K : TpB 112 T T_l w) (n : Int) (n_h : inI64 n) (hn : 1 ≤ n ∧ n ≤ 12) :
 Calls Try.prog 49 #[pT T 0,iI n] w fun e w'=>∃ (rx : List Bool) (ra : Option Addr) (rc : Nat),e = .returned (.slice ra rx.length rc) ∧ Row boolE 4 w.heap.size F [abk ra,one T] w' ra rc rx ∧ (rx.length : Int) = n ∧ TpB 112 T T_l w' ∧ Tr [one T] w [abk ra,one T] w':=by
 obtain ⟨n_hl,n_hu⟩ : inI64 n:=id n_h;refine go Try.func49 rfl 21 rfl [wfF (slE intE) T_l] [tpO 112 T T_l] hF M ⟨T_w,trivial⟩ ⟨T_K,trivial⟩ ?_;intro a S;refine rs S (la (av rfl)) ?_;clear S;intro a u S;refine rs0 ?_;refine sp S (la (mv rfl)) ?_;clear S;intro a u S;refine mk (E:=boolE) S (false : Bool) (n).toNat uT83 iZ4 rfl rfl bo bo bo (by unfold maxLen;omega) (fun _ _=>by first | exact ⟨by omega,by omega⟩ | trivial | exact sl_nil) ?_;clear S;intro a u ad8 S;have hrl8 : (List.replicate (n).toNat (false : Bool)).length = (n).toNat:=List.length_replicate;refine ens S (la (av rfl)) ?_;clear S;intro a u S;refine wp_seq ?_;refine rs S (la (av rfl)) ?_;clear S;intro a u S;refine wp_block ?_;refine lp4 (fun (d : Nat) (bl_a : Option Addr) (bl_c : Nat) (bl : List Bool)=>[(0,pT T 0),(1,iI n),(4,.slice none 0 0),(5,.slice bl_a bl.length bl_c),(6,iN d)]) (fun (d : Nat) (bl_a : Option Addr) (bl_c : Nat) (bl : List Bool)=>[tpO 112 T T_l,rwO boolE 4 w.heap.size bl_a bl_c bl]) (fun (d : Nat) (bl_a : Option Addr) (bl_c : Nat) (bl : List Bool)=>(d : Int) ≤ n ∧ (bl.length : Int) = n) (fun (d : Nat) (bl_a : Option Addr) (bl_c : Nat) (bl : List Bool)=>(n - d).toNat) S 0 ad8 ((n).toNat) (List.replicate (n).toNat (false : Bool)) (subM rfl) rfl ?_ ?_
 ·exact ⟨by omega,by rw [List.length_replicate];omega⟩
 clear S;intro d bl_a bl_c bl a u S hR;have bl_len:=(S.row 1 rfl).len_le;simp only [maxLen] at bl_len;obtain ⟨hd,hbl⟩:=hR;refine wp_seq ?_;refine rs S (tr (mv rfl)<|tr (mv rfl)<|la (lssi rfl rfl)) ?_;clear S;intro a u S;refine cd S rfl ?_ ?_
 ·intro hc0;refine wp_skip (then_n (wp_seq (wp_block (r0 ?_))));refine sp S (tr (mv rfl)<|tr (mv rfl)<|la (mv rfl)) ?_; clear S; intro a u S;refine cl S (gNext _ _ S.x T (S.M.pick [0] (by decide)) T_l (dn1 (js := [0]) (S.u 0 rfl)) (S.t 0 rfl) 2 ⟨by omega, by omega⟩) cB26 ?_;rintro e u ⟨r_t17, rfl, hr_t17, tK, T0⟩; refine ⟨_, rfl, fun a s => ?_⟩;replace S := S.k1 0 rfl s T0 tK; clear s T0 tK;refine sp S (la (eqli rfl rfl)) ?_; clear S; intro a u S;obtain ⟨bv18, hbv18⟩ : ∃ b : Bool, (b = true) ↔ (r_t17 = 0) := ⟨decide (r_t17 = 0), by simp⟩;replace S := S.ext (d := 18) (v := bD (bv18 = true)) ((S.get 18 rfl).trans (vb hbv18.symm));refine sp S (la (ov fun S=>x_idx uT83 sZ4 (S.e rfl) (S.e rfl) d rfl bo (row_off (S.row 1 rfl) (m := d) bo))) ?_; clear S; intro a u S;refine sp S (la (str (E := boolE) 1 (by kernel_rfl) rfl rfl rfl d 0 bo nz bv18 (fun S=>trivial) rfl (by first | rfl | (show _ = _ * 1 + 0; omega) | (simp [boolE]; omega) | simp [boolE]) rfl)) ?_; clear S; intro a u S;have hls6 : (bl.set d bv18).length = bl.length := by simp
  refine nn (blk_n (then_n ?_));refine rg S (tr (mv rfl)<|tr (addi ((d + 1 : Nat) : Int) rfl rfl (w_i64 bo))<|la (av rfl)) ?_;clear S;intro a u S;refine then_n ?_;refine ⟨(d + 1),bl_a,bl_c,(bl.set d bv18),S.re ⟨rfl,rfl,rfl,(by first | rfl | (simp only [List.length_set];rfl)),rfl,trivial⟩ rfl rfl,?_,?_⟩
  ·exact ⟨by omega,by rw [List.length_set];exact hbl⟩
  omega
 intro hc1;refine wp_exit (then_e (then_e (blk_e (then_n ?_))));refine rs S (tr (mv rfl)<|la (av rfl)) ?_;clear S;intro a u S;refine wp_ret ?_;refine ret1 rfl S.s rfl ?_;replace S:=S.pkc [1,0];refine ⟨bl,bl_a,bl_c,rfl,(S.row 0 rfl),?_,(S.t 1 rfl),S.m.c⟩;exact hbl
open Go.RowKit Go.Proofs.Ytobggnpnochnnaa
open Go.RowKit Go.Proofs.Ytobggnpnochnnaa
structure DevJ (q k t : Int) (w : Prop) (a b : Int) (s : PS) : Prop where
  cs : ∀ x ∈ s.cmd,x.inc ≤ k ∧ 0 ≤ x.seq ∧ x.seq ≤ q ∧ (x.seq = q → x.ver = t)
  od : s.cmd.Pairwise fun x y=>x.seq ≤ y.seq
  ki : k ≤ s.ag.inc
  sq : 0 ≤ s.ag.seq ∧ s.ag.seq ≤ q
  lv : s.ag.up = true → ∀ x ∈ s.cmd,x.inc = s.ag.inc → s.ag.seq ≤ x.seq ∧ (x.ver = a ∨ x.ver = b) ∧ (¬ w → x.ver = t)
  rn : s.ag.up = true → ¬ s.ag.quar = true → k = s.ag.inc ∧ (s.ag.run = a ∨ s.ag.run = b) ∧ (s.ag.seq = q → s.ag.run = t) ∧ (¬ w → s.ag.run = t ∧ s.ag.sav = t)
  ms : ∀ m ∈ s.msg,m.inc ≤ s.ag.inc ∧ (¬ m.hello = true → m.inc = s.ag.inc → s.ag.up = true → ¬ s.ag.quar = true ∧ m.seq ≤ s.ag.seq ∧ (m.seq = q → s.ag.sav = t))
  qr : s.ag.quar = true → s.ag.run = s.ag.sav
  p1 : w → s.ag.up = true → k = s.ag.inc → (∃ x ∈ s.cmd,x.inc = k ∧ x.seq = q) ∨ (¬ s.ag.quar = true ∧ s.ag.seq = q)
  p2 : s.ag.up = true → k < s.ag.inc → ∃ m ∈ s.msg,m.hello = true ∧ m.inc = s.ag.inc
  p4 : ¬ w → s.ag.up = true → k = s.ag.inc → ¬ s.ag.quar = true
structure DevI (q k t : Int) (w : Prop) (a b : Int) (s : PS) : Prop extends DevJ q k t w a b s where
  nv : ¬ s.vol = true → s.ag.run = s.ag.sav
  p3 : w → s.ag.up = true → k = s.ag.inc → ¬ s.ag.quar = true → s.ag.seq = q → (∃ x ∈ s.cmd,x.inc = k ∧ x.seq = q) ∨ s.ag.run ≠ s.ag.sav ∨ ∃ m ∈ s.msg,¬ m.hello = true ∧ m.inc = k ∧ m.seq = q
section
variable {q k t a b : Int} {w : Prop} {s : PS}
theorem dev_down (hu : ¬ s.ag.up = true) (h1 : ∀ x ∈ s.cmd, x.inc ≤ k ∧ 0 ≤ x.seq ∧ x.seq ≤ q ∧ (x.seq = q → x.ver = t)) (h2 : s.cmd.Pairwise fun x y => x.seq ≤ y.seq) (h3 : k ≤ s.ag.inc) (h4 : 0 ≤ s.ag.seq ∧ s.ag.seq ≤ q)
    (h5 : ∀ m ∈ s.msg,m.inc ≤ s.ag.inc) (h6 : s.ag.quar = true → s.ag.run = s.ag.sav) (h7 : ¬ s.vol = true → s.ag.run = s.ag.sav) : DevI q k t w a b s :=
  { cs:=h1,od:=h2,ki:=h3,sq:=h4,lv:=fun u=>absurd u hu,rn:=fun u=>absurd u hu,ms:=fun m hm=>⟨h5 m hm,fun _ _ u=>absurd u hu⟩,qr:=h6,p1:=fun _ u=>absurd u hu,p2:=fun u=>absurd u hu,p4:=fun _ u=>absurd u hu,nv:=h7,p3:=fun _ u=>absurd u hu }
theorem dev_save (h : DevJ q k t w a b s) (hu : s.ag.up = true) (hq : ¬ s.ag.quar = true) : DevI q k t w a b (saveT s):=by
  obtain ⟨r1,r2,r3,r4⟩:=h.rn hu hq;refine { cs:=h.cs,od:=h.od,ki:=h.ki,sq:=h.sq,lv:=h.lv,rn:=fun _ _=>⟨r1,r2,r3,fun e=>⟨(r4 e).1,(r4 e).1⟩⟩,ms:=fun m hm=>?_,qr:=fun _=>rfl,p1:=h.p1,p2:=fun _ e=>?_,p4:=h.p4,nv:=fun _=>rfl,p3:=fun _ _ _ _ e=>.inr (.inr ⟨⟨false,s.ag.inc,s.ag.seq⟩,List.mem_append_right _ List.mem_cons_self,Bool.false_ne_true,r1.symm,e⟩) }
  · rcases List.mem_append.1 (show m ∈ s.msg ++ [_] from hm) with e | e
    · refine ⟨(h.ms m e).1,fun e1 e2 e3=>?_⟩;obtain ⟨g1,g2,_⟩:=(h.ms m e).2 e1 e2 e3;exact ⟨g1,g2,fun e4=>r3 (by have:=h.sq.2;show s.ag.seq = q;have g2 : m.seq ≤ s.ag.seq:=g2;omega)⟩
    · obtain rfl:=List.mem_singleton.1 e;exact ⟨Int.le_refl _,fun _ _ _=>⟨hq,Int.le_refl _,fun e4=>r3 e4⟩⟩
  · exact absurd e (by rw [r1];exact Int.lt_irrefl _)
theorem mem_drop1 {α : Type} {l : List α} {x d : α} (h : x ∈ l) (hn : x ≠ l.getD 0 d) : x ∈ l.drop 1:=by
  cases l with
  | nil=>cases h
  | cons y t=>exact (List.mem_cons.1 h).elim (fun e=>absurd e hn) id
theorem head_mem {α : Type} {l : List α} {d : α} (h : 0 < l.length) : l.getD 0 d ∈ l:=getD_mem h
theorem head_le {l : List Cmd} {d x : Cmd} (h : l.Pairwise fun x y=>x.seq ≤ y.seq) (hx : x ∈ l.drop 1) : (l.getD 0 d).seq ≤ x.seq:=by
  cases l with
  | nil=>cases hx
  | cons y t=>exact (List.pairwise_cons.1 h).1 x hx
theorem dev_hello (h : DevI q k t w a b s) : DevI q k t w a b (helloT s) :=
  { cs := h.cs, od := h.od, ki := h.ki, sq := h.sq, lv := h.lv, rn := h.rn, qr := h.qr, p1 := h.p1, p4 := h.p4, nv := h.nv
    ms:=fun m hm=>by
      rcases List.mem_append.1 (show m ∈ s.msg ++ [_] from hm) with e | e
      · exact h.ms m e
      · obtain rfl:=List.mem_singleton.1 e;exact ⟨Int.le_refl _,fun e=>absurd rfl e⟩
    p2:=fun _ _=>⟨⟨true,s.ag.inc,0⟩,List.mem_append_right _ List.mem_cons_self,rfl,rfl⟩
    p3:=fun e1 e2 e3 e4 e5=>(h.p3 e1 e2 e3 e4 e5).imp id fun g=>g.imp id fun ⟨m,g1,g2⟩=>⟨m,List.mem_append_left _ g1,g2⟩ }
theorem dev_stale (h : DevI q k t w a b s) (hn : (headT s).inc ≠ s.ag.inc) : DevI q k t w a b {s with cmd:=s.cmd.drop 1} :=
  have sub : ∀ x ∈ s.cmd.drop 1,x ∈ s.cmd:=fun x hx=>List.mem_of_mem_drop hx;have key : k = s.ag.inc → (∃ x ∈ s.cmd,x.inc = k ∧ x.seq = q) → ∃ x ∈ s.cmd.drop 1,x.inc = k ∧ x.seq = q:=fun e ⟨x,g1,g2,g3⟩ =>
    ⟨x,mem_drop1 (d:=cmdE.dflt) g1 (fun e2=>hn (by rw [show headT s = x from e2.symm,g2,e])),g2,g3⟩
  { cs := fun x hx => h.cs x (sub x hx), od := h.od.sublist (List.drop_sublist 1 _), ki := h.ki, sq := h.sq, lv := fun u x hx => h.lv u x (sub x hx), rn := h.rn, ms := h.ms, qr := h.qr, p2 := h.p2, p4 := h.p4, nv := h.nv
    p1:=fun e1 e2 e3=>(h.p1 e1 e2 e3).imp (key e3) id
    p3:=fun e1 e2 e3 e4 e5=>(h.p3 e1 e2 e3 e4 e5).imp (key e3) id }
theorem dev_live (h : DevI q k t w a b s) (hl : 0 < s.cmd.length) (hu : s.ag.up = true) (hn : (headT s).inc = s.ag.inc) :
    DevJ q k t w a b {s with cmd:=s.cmd.drop 1,ag:={s.ag with run:=(headT s).ver,seq:=(headT s).seq,quar:=false}}:=by
  have sub : ∀ x ∈ s.cmd.drop 1,x ∈ s.cmd:=fun x hx=>List.mem_of_mem_drop hx;have hm : headT s ∈ s.cmd:=head_mem hl;obtain ⟨c1,c2,c3,c4⟩:=h.cs _ hm;obtain ⟨l1,l2,l3⟩:=h.lv hu _ hm hn;have hk : k = s.ag.inc:=by have:=h.ki;omega
  exact
  { cs := fun x hx => h.cs x (sub x hx), od := h.od.sublist (List.drop_sublist 1 _), ki := h.ki, sq := ⟨c2, c3⟩
    lv:=fun u x hx e=>⟨head_le h.od hx,(h.lv hu x (sub x hx) e).2⟩
    rn:=fun _ _=>⟨hk,l2,c4,fun e=>⟨l3 e,((h.rn hu (h.p4 e hu hk)).2.2.2 e).2⟩⟩
    ms:=fun m g=>⟨(h.ms m g).1,fun e1 e2 _=>⟨Bool.false_ne_true,Int.le_trans ((h.ms m g).2 e1 e2 hu).2.1 l1,((h.ms m g).2 e1 e2 hu).2.2⟩⟩
    qr:=fun e=>absurd e Bool.false_ne_true
    p1:=fun e1 e2 e3=>by
      rcases h.p1 e1 hu hk with ⟨x,g1,g2,g3⟩ | ⟨_,g⟩
      · by_cases e : x = headT s
        · exact .inr ⟨Bool.false_ne_true,e ▸ g3⟩
        · exact .inl ⟨x,mem_drop1 (d:=cmdE.dflt) g1 e,g2,g3⟩
      · exact .inr ⟨Bool.false_ne_true,by show (headT s).seq = q;omega⟩
    p2:=fun _ e=>absurd e (by show ¬ k < s.ag.inc;omega)
    p4:=fun _ _ _=>Bool.false_ne_true }
theorem dev_deliver (h : DevI q k t w a b s) (hl : 0 < s.cmd.length) : DevI q k t w a b (deliverT s):=by
  unfold deliverT
  split
  · rename_i hu;exact dev_down hu (fun x hx=>h.cs x (List.mem_of_mem_drop hx)) (h.od.sublist (List.drop_sublist 1 _)) h.ki h.sq (fun m hm=>(h.ms m hm).1) h.qr h.nv
  · rename_i hu;have hu : s.ag.up = true := Classical.not_not.1 hu
    split
    · rename_i hn;exact dev_hello (dev_stale h hn)
    · rename_i hn;have hJ := dev_live h hl hu (Classical.not_not.1 hn)
      split
      · exact dev_save hJ hu Bool.false_ne_true
      · rename_i hv;have hv1 : s.vol = true:=Classical.byContradiction fun e=>hv (.inl e);exact { hJ with nv:=fun e=>absurd hv1 e,p3:=fun _ _ _ _ _=>.inr (.inl fun e=>hv (.inr (show s.ag.sav = (headT s).ver from e.symm))) }
theorem dev_downT (h : DevI q k t w a b s) : DevI q k t w a b (downT s) :=
  dev_down (by show ¬ false = true;exact Bool.false_ne_true) (fun x hx=>by cases hx) .nil h.ki h.sq (fun m hm=>(h.ms m hm).1) h.qr h.nv
theorem dev_up (h : DevI q k t w a b s) : DevI q k t w a b (upT s):=by
  have hk:=h.ki;have h0:=h.sq;refine
  { cs := h.cs, od := h.od, ki := by show k ≤ s.ag.inc + 1; omega, sq := ⟨Int.le_refl _, by show 0 ≤ q; omega⟩
    lv:=fun _ x hx e=>absurd (h.cs x hx).1 (by have e : x.inc = s.ag.inc + 1:=e;omega)
    rn:=fun _ e=>absurd rfl e,qr:=fun _=>rfl,nv:=fun _=>rfl
    ms:=fun m hm=>?_
    p1:=fun _ _ e=>absurd e (by show ¬ k = s.ag.inc + 1;omega)
    p2:=fun _ _=>⟨⟨true,s.ag.inc + 1,0⟩,List.mem_append_right _ List.mem_cons_self,rfl,rfl⟩
    p4:=fun _ _ e=>absurd e (by show ¬ k = s.ag.inc + 1;omega)
    p3:=fun _ _ e=>absurd e (by show ¬ k = s.ag.inc + 1;omega) }
  rcases List.mem_append.1 (show m ∈ s.msg ++ [_] from hm) with e | e
  · have g:=(h.ms m e).1;exact ⟨by show m.inc ≤ s.ag.inc + 1;omega,fun _ e2=>absurd e2 (by show ¬ m.inc = s.ag.inc + 1;omega)⟩
  · obtain rfl:=List.mem_singleton.1 e;exact ⟨Int.le_refl _,fun e=>absurd rfl e⟩
theorem dev_old (h : DevI q k t w a b s) {m : Msg} (hm : m = s.msg.getD 0 msgE.dflt) (h1 : m.hello = true → m.inc ≤ k) (h2 : ¬ m.hello = true → ¬ (m.inc = k ∧ m.seq = q)) : DevI q k t w a b {s with msg:=s.msg.drop 1} :=
  have sub : ∀ x ∈ s.msg.drop 1,x ∈ s.msg:=fun x hx=>List.mem_of_mem_drop hx
  { cs := h.cs, od := h.od, ki := h.ki, sq := h.sq, lv := h.lv, rn := h.rn, ms := fun m g => h.ms m (sub m g), qr := h.qr, p1 := h.p1, p4 := h.p4, nv := h.nv
    p2:=fun e1 e2=>by
      have e2 : k < s.ag.inc:=e2;obtain ⟨x,g1,g2,g3⟩:=h.p2 e1 e2;exact ⟨x,mem_drop1 (d:=msgE.dflt) g1 (fun e=>by rw [← hm] at e;subst e;have:=h1 g2;omega),g2,g3⟩
    p3:=fun e1 e2 e3 e4 e5=>(h.p3 e1 e2 e3 e4 e5).imp id fun g=>g.imp id fun ⟨x,g1,g2,g3⟩=>⟨x,mem_drop1 (d:=msgE.dflt) g1 (fun e=>by rw [← hm] at e;subst e;exact h2 g2 g3),g2,g3⟩ }
theorem dev_ack (h : DevI q k t w a b s) {m : Msg} (hm : m = s.msg.getD 0 msgE.dflt) (hl : 0 < s.msg.length) (h1 : ¬ m.hello = true) (h2 : m.inc = k) (h3 : m.seq = q) : DevI q k t False a b {s with msg:=s.msg.drop 1}:=by
  have sub : ∀ x ∈ s.msg.drop 1,x ∈ s.msg:=fun x hx=>List.mem_of_mem_drop hx;have hmm : m ∈ s.msg:=hm ▸ head_mem hl;obtain ⟨g0,gM⟩:=h.ms m hmm;have hs:=h.sq.2;have hA : s.ag.up = true → k = s.ag.inc → ¬ s.ag.quar = true ∧ s.ag.seq = q ∧ s.ag.sav = t:=fun u e=>by
    obtain ⟨g1,g2,g3⟩:=gM h1 (h2.trans e) u;exact ⟨g1,by omega,g3 h3⟩
  exact
  { cs := h.cs, od := h.od, ki := h.ki, sq := h.sq
    lv:=fun u x hx e=>by
      have e : x.inc = s.ag.inc:=e;have hx : x ∈ s.cmd:=hx;obtain ⟨l1,l2,_⟩:=h.lv u x hx e;obtain ⟨c1,c2,c3,c4⟩:=h.cs x hx;have hk : k = s.ag.inc:=by have:=h.ki;omega
      exact ⟨l1,l2,fun _=>c4 (by have:=(hA u hk).2.1;omega)⟩
    rn:=fun u e=>by
      obtain ⟨r1,r2,r3,r4⟩:=h.rn u e;obtain ⟨_,a2,a3⟩:=hA u r1;exact ⟨r1,r2,r3,fun _=>⟨r3 a2,a3⟩⟩
    ms:=fun m g=>h.ms m (sub m g),qr:=h.qr,nv:=h.nv
    p1:=fun e=>e.elim,p3:=fun e=>e.elim
    p2:=fun e1 e2=>by
      obtain ⟨x,g1,g2,g3⟩:=h.p2 e1 e2;exact ⟨x,mem_drop1 (d:=msgE.dflt) g1 (fun e=>by rw [← hm] at e;subst e;exact h1 g2),g2,g3⟩
    p4:=fun _ u e=>(hA u e).1 }
theorem dev_skip (h : DevI q k t w a b s) (hu : ¬ s.ag.up = true) : DevI q k t False a b s:=dev_down hu h.cs h.od h.ki h.sq (fun m hm=>(h.ms m hm).1) h.qr h.nv
theorem dev_known (h : DevI q k t w a b s) (ht : t = a ∨ t = b) {m : Msg} (hm : m = s.msg.getD 0 msgE.dflt) (hl : 0 < s.msg.length) (h1 : k < m.inc) {w' : Prop} (hw : w') :
    DevI q m.inc t w' a b (putT {s with msg:=s.msg.drop 1} ⟨m.inc,q,t⟩):=by
  have sub : ∀ x ∈ s.msg.drop 1,x ∈ s.msg:=fun x hx=>List.mem_of_mem_drop hx;have hmm : m ∈ s.msg:=hm ▸ head_mem hl;have g0:=(h.ms m hmm).1;have hnew : ∀ {p : Cmd → Prop},(∀ x ∈ s.cmd,p x) → p ⟨m.inc,q,t⟩ → ∀ x ∈ s.cmd ++ [⟨m.inc,q,t⟩],p x:=fun g1 g2 x hx=>(List.mem_append.1 hx).elim (g1 x) fun e=>(List.mem_singleton.1 e) ▸ g2;exact
  { cs := hnew (p := fun x => x.inc ≤ m.inc ∧ 0 ≤ x.seq ∧ x.seq ≤ q ∧ (x.seq = q → x.ver = t)) (fun x hx => by obtain ⟨c1, c2⟩ := h.cs x hx; exact ⟨by omega, c2⟩) ⟨Int.le_refl _, by have := h.sq; show 0 ≤ q; omega, Int.le_refl _, fun _ => rfl⟩
    od:=List.pairwise_append.2 ⟨h.od,List.pairwise_singleton _ _,fun x hx y hy=>by obtain rfl:=List.mem_singleton.1 hy;exact (h.cs x hx).2.2.1⟩
    ki:=g0,sq:=h.sq
    lv:=fun u=>hnew (p:=fun x=>x.inc = s.ag.inc → s.ag.seq ≤ x.seq ∧ (x.ver = a ∨ x.ver = b) ∧ (¬ w' → x.ver = t)) (fun x hx e=>absurd (h.cs x hx).1 (by omega)) fun _=>⟨h.sq.2,ht,fun e=>absurd hw e⟩
    rn:=fun u e=>absurd (h.rn u e).1 (by show ¬ k = s.ag.inc;omega)
    ms:=fun m g=>h.ms m (sub m g),qr:=h.qr,nv:=h.nv
    p1:=fun _ _ _=>.inl ⟨⟨m.inc,q,t⟩,List.mem_append_right _ List.mem_cons_self,rfl,rfl⟩
    p3:=fun _ _ _ _ _=>.inl ⟨⟨m.inc,q,t⟩,List.mem_append_right _ List.mem_cons_self,rfl,rfl⟩
    p2:=fun e1 e2=>by
      have e2 : m.inc < s.ag.inc:=e2;obtain ⟨x,g1,g2,g3⟩:=h.p2 e1 (by show k < s.ag.inc;omega);exact ⟨x,mem_drop1 (d:=msgE.dflt) g1 (fun e=>by rw [← hm] at e;subst e;omega),g2,g3⟩
    p4:=fun e=>absurd hw e }
theorem dev_put (h : DevI q k t w a b s) (ht : t = a ∨ t = b) (hw : w) : DevI q k t w a b (putT s ⟨k,q,t⟩) :=
  have hnew : ∀ {p : Cmd → Prop},(∀ x ∈ s.cmd,p x) → p ⟨k,q,t⟩ → ∀ x ∈ s.cmd ++ [⟨k,q,t⟩],p x:=fun g1 g2 x hx=>(List.mem_append.1 hx).elim (g1 x) fun e=>(List.mem_singleton.1 e) ▸ g2
  { cs := hnew (p := fun x => x.inc ≤ k ∧ 0 ≤ x.seq ∧ x.seq ≤ q ∧ (x.seq = q → x.ver = t)) h.cs ⟨Int.le_refl _, by have := h.sq; show 0 ≤ q; omega, Int.le_refl _, fun _ => rfl⟩
    od:=List.pairwise_append.2 ⟨h.od,List.pairwise_singleton _ _,fun x hx y hy=>by obtain rfl:=List.mem_singleton.1 hy;exact (h.cs x hx).2.2.1⟩
    ki:=h.ki,sq:=h.sq
    lv:=fun u=>hnew (p:=fun x=>x.inc = s.ag.inc → s.ag.seq ≤ x.seq ∧ (x.ver = a ∨ x.ver = b) ∧ (¬ w → x.ver = t)) (h.lv u) fun _=>⟨h.sq.2,ht,fun e=>absurd hw e⟩
    rn:=h.rn,ms:=h.ms,qr:=h.qr,nv:=h.nv
    p1:=fun _ _ _=>.inl ⟨⟨k,q,t⟩,List.mem_append_right _ List.mem_cons_self,rfl,rfl⟩
    p3:=fun _ _ _ _ _=>.inl ⟨⟨k,q,t⟩,List.mem_append_right _ List.mem_cons_self,rfl,rfl⟩
    p2:=h.p2,p4:=h.p4 }
theorem dev_move {a' b' : Int} (h : DevI q k t w a b s) (hw : ¬ w) (ht : t = a' ∨ t = b') : DevI q k t w a' b' s :=
  { cs := h.cs, od := h.od, ki := h.ki, sq := h.sq
    lv:=fun u x hx e=>⟨(h.lv u x hx e).1,by rw [(h.lv u x hx e).2.2 hw];exact ht,(h.lv u x hx e).2.2⟩
    rn:=fun u e=>⟨(h.rn u e).1,by rw [((h.rn u e).2.2.2 hw).1];exact ht,(h.rn u e).2.2⟩
    ms:=h.ms,qr:=h.qr,nv:=h.nv,p1:=h.p1,p2:=h.p2,p3:=h.p3,p4:=h.p4 }
theorem DevI.iff {w' : Prop} (h : DevI q k t w a b s) (e : w ↔ w') : DevI q k t w' a b s:=by rw [← propext e];exact h
theorem dev_start0 (h : DevI q k t w a b s) {w' : Prop} (hw : ¬ w) (hw' : ¬ w') : DevI (q + 1) k t w' a b s :=
  { cs := fun x hx => by obtain ⟨c1, c2, c3, c4⟩ := h.cs x hx; exact ⟨c1, c2, by omega, fun e => by omega⟩
    od:=h.od,ki:=h.ki,sq:=⟨h.sq.1,by have:=h.sq.2;omega⟩
    lv:=fun u x hx e=>⟨(h.lv u x hx e).1,(h.lv u x hx e).2.1,fun _=>(h.lv u x hx e).2.2 hw⟩
    rn:=fun u e=>⟨(h.rn u e).1,(h.rn u e).2.1,fun e=>by have:=h.sq.2;omega,fun _=>(h.rn u e).2.2.2 hw⟩
    ms:=fun m hm=>⟨(h.ms m hm).1,fun e1 e2 e3=>by obtain ⟨g1,g2,g3⟩:=(h.ms m hm).2 e1 e2 e3;exact ⟨g1,g2,fun e=>by have:=h.sq.2;omega⟩⟩
    qr:=h.qr,nv:=h.nv,p1:=fun e=>absurd e hw',p2:=h.p2,p3:=fun e=>absurd e hw',p4:=fun _=>h.p4 hw }
theorem dev_start1 (h : DevI q k t w a b s) {w' : Prop} {t' : Int} (hw : w') (ht : t' = a ∨ t' = b) : DevI (q + 1) k t' w' a b (putT s ⟨k,q + 1,t'⟩) :=
  have hnew : ∀ {p : Cmd → Prop},(∀ x ∈ s.cmd,p x) → p ⟨k,q + 1,t'⟩ → ∀ x ∈ s.cmd ++ [⟨k,q + 1,t'⟩],p x:=fun g1 g2 x hx=>(List.mem_append.1 hx).elim (g1 x) fun e=>(List.mem_singleton.1 e) ▸ g2;have hq:=h.sq
  { cs := hnew (p := fun x => x.inc ≤ k ∧ 0 ≤ x.seq ∧ x.seq ≤ q + 1 ∧ (x.seq = q + 1 → x.ver = t')) (fun x hx => by obtain ⟨c1, c2, c3, c4⟩ := h.cs x hx; exact ⟨c1, c2, by omega, fun e => by omega⟩) ⟨Int.le_refl _, by show 0 ≤ q + 1; omega, Int.le_refl _, fun _ => rfl⟩
    od:=List.pairwise_append.2 ⟨h.od,List.pairwise_singleton _ _,fun x hx y hy=>by obtain rfl:=List.mem_singleton.1 hy;have:=(h.cs x hx).2.2.1;show x.seq ≤ q + 1;omega⟩
    ki:=h.ki,sq:=⟨h.sq.1,by show s.ag.seq ≤ q + 1;omega⟩
    lv:=fun u=>hnew (p:=fun x=>x.inc = s.ag.inc → s.ag.seq ≤ x.seq ∧ (x.ver = a ∨ x.ver = b) ∧ (¬ w' → x.ver = t')) (fun x hx e=>⟨(h.lv u x hx e).1,(h.lv u x hx e).2.1,fun e=>absurd hw e⟩) fun _=>⟨by show s.ag.seq ≤ q + 1;omega,ht,fun e=>absurd hw e⟩
    rn:=fun u e=>⟨(h.rn u e).1,(h.rn u e).2.1,fun e=>by have e : s.ag.seq = q + 1:=e;omega,fun e=>absurd hw e⟩
    ms:=fun m hm=>⟨(h.ms m hm).1,fun e1 e2 e3=>by obtain ⟨g1,g2,g3⟩:=(h.ms m hm).2 e1 e2 e3;exact ⟨g1,g2,fun e=>by have g2 : m.seq ≤ s.ag.seq:=g2;omega⟩⟩
    qr:=h.qr,nv:=h.nv
    p1:=fun _ _ _=>.inl ⟨⟨k,q + 1,t'⟩,List.mem_append_right _ List.mem_cons_self,rfl,rfl⟩
    p3:=fun _ _ _ _ _=>.inl ⟨⟨k,q + 1,t'⟩,List.mem_append_right _ List.mem_cons_self,rfl,rfl⟩
    p2:=h.p2,p4:=fun e=>absurd hw e }
end
structure PlanS (R : List (List Chg)) (S : List (List Int)) : Prop where
  ne : ∀ l ∈ R,0 < l.length
  z : ∀ d : Nat,(S.getD 0 []).getD d 0 = 0
  st : ∀ k,k < R.length → ∀ d : Nat,(∀ x ∈ R.getD k [],x.dev.toNat = d → (S.getD (k + 1) []).getD d 0 = x.ver) ∧ ((∀ x ∈ R.getD k [],x.dev.toNat ≠ d) → (S.getD (k + 1) []).getD d 0 = (S.getD k []).getD d 0)
theorem mem_insW2 : ∀ {l : List Int} {v x : Int}, x ∈ insW l v ↔ x = v ∨ x ∈ l
  | [],v,x=>by simp [insW]
  | y :: t,v,x=>by
    rw [insW]
    split
    · rw [List.mem_cons, mem_insW2, List.mem_cons]
      constructor
      · rintro (h | h | h)
        · exact .inr (.inl h)
        · exact .inl h
        · exact .inr (.inr h)
      · rintro (h | h | h)
        · exact .inr (.inl h)
        · exact .inl h
        · exact .inr (.inr h)
    · split
      · rename_i e;subst e;rw [List.mem_cons];exact ⟨fun h=>.inr h,fun h=>h.elim .inl id⟩
      · rw [List.mem_cons]
theorem fold_wt (st : List Int) : ∀ (l : List Chg) (c : Ctl) (d : Int), d ∈ (l.foldl (chgC st) c).waiting ↔ d ∈ c.waiting ∨ ∃ x ∈ l, x.dev = d
  | [],c,d=>by simp
  | y :: t,c,d=>by
    show d ∈ (t.foldl (chgC st) (chgC st c y)).waiting ↔ _;rw [fold_wt st t,show (chgC st c y).waiting = insW c.waiting y.dev from rfl,mem_insW2]
    constructor
    · rintro ((h | h) | ⟨x, hx, h⟩)
      · exact .inr ⟨y,List.mem_cons_self,h.symm⟩
      · exact .inl h
      · exact .inr ⟨x,List.mem_cons_of_mem _ hx,h⟩
    · rintro (h | ⟨x, hx, h⟩)
      · exact .inl (.inr h)
      · rcases List.mem_cons.1 hx with rfl | hx
        · exact .inl (.inl h.symm)
        · exact .inr ⟨x,hx,h⟩
theorem fold_tg (st : List Int) (d : Nat) (v : Int) : ∀ (l : List Chg) (c : Ctl), d < c.target.length → (∀ x ∈ l, x.dev.toNat = d → (if c.back = true then st.getD d 0 else x.ver) = v) →
    ((∃ x ∈ l,x.dev.toNat = d) → (l.foldl (chgC st) c).target.getD d 0 = v) ∧ (¬ (∃ x ∈ l,x.dev.toNat = d) → (l.foldl (chgC st) c).target.getD d 0 = c.target.getD d 0)
  | [],c,_,_=>⟨fun ⟨x,hx,_⟩=>by simp at hx,fun _=>rfl⟩
  | y :: t,c,hd,hv=>by
    have hl : (chgC st c y).target.length = c.target.length:=List.length_set ..;obtain ⟨g1,g2⟩:=fold_tg st d v t (chgC st c y) (by omega) fun x hx e=>hv x (List.mem_cons_of_mem _ hx) e;show (_ → (t.foldl (chgC st) (chgC st c y)).target.getD d 0 = v) ∧ (_ → (t.foldl (chgC st) (chgC st c y)).target.getD d 0 = _);refine ⟨fun ⟨x,hx,e⟩=>?_,fun q=>?_⟩
    · by_cases ht : ∃ x ∈ t, x.dev.toNat = d
      · exact g1 ht
      · rw [g2 ht]
        rcases List.mem_cons.1 hx with rfl | hx
        · have:=hv x List.mem_cons_self e;show (c.target.set x.dev.toNat (if c.back = true then st.getD x.dev.toNat 0 else x.ver)).getD d 0 = v;subst e;rw [getD_setE hd];exact this
        · exact absurd ⟨x,hx,e⟩ ht
    · rw [g2 fun ⟨x,hx,e⟩=>q ⟨x,List.mem_cons_of_mem _ hx,e⟩];exact getD_setN fun e=>q ⟨y,List.mem_cons_self,e⟩
theorem fold_ne (st : List Int) {l : List Chg} (c : Ctl) (h : 0 < l.length) : 0 < (l.foldl (chgC st) c).waiting.length:=by
  cases l with
  | nil=>simp at h
  | cons y t=>exact List.length_pos_of_mem ((fold_wt st (y :: t) c y.dev).2 (.inr ⟨y,List.mem_cons_self,rfl⟩))
def loV (S : List (List Int)) (c : Ctl) : List Int:=S.getD c.round.toNat []
def hiV (R : List (List Chg)) (S : List (List Int)) (c : Ctl) : List Int:=if c.round < 0 then loV S c else S.getD (min (c.round.toNat + 1) R.length) []
def tgV (R : List (List Chg)) (S : List (List Int)) (c : Ctl) : List Int:=if c.back = true then loV S c else hiV R S c
section
variable {n : Nat} {R : List (List Chg)} {S : List (List Int)} {c : Ctl} {st : List PS}
theorem tg_or (d : Nat) : (tgV R S c).getD d 0 = (loV S c).getD d 0 ∨ (tgV R S c).getD d 0 = (hiV R S c).getD d 0:=by
  unfold tgV
  split
  · exact .inl rfl
  · exact .inr rfl
theorem hi_at (h0 : 0 ≤ c.round) (h1 : c.round < R.length) : hiV R S c = S.getD (c.round.toNat + 1) []:=by
  unfold hiV;rw [if_neg (by omega),Nat.min_eq_left (by omega)]
theorem hi_end (h1 : c.round = R.length) : hiV R S c = S.getD R.length []:=by
  unfold hiV;rw [if_neg (by omega),Nat.min_eq_right (by omega)]
def inR (R : List (List Chg)) (c : Ctl) (d : Nat) : Prop:=∃ x ∈ R.getD c.round.toNat [],x.dev.toNat = d
theorem lohi (Q : PlanS R S) (h0 : 0 ≤ c.round) (h1 : c.round < R.length) {d : Nat} (h : ¬ inR R c d) : (hiV R S c).getD d 0 = (loV S c).getD d 0:=by
  rw [hi_at h0 h1];exact (Q.st _ (by omega) d).2 fun x hx e=>h ⟨x,hx,e⟩
structure StF (n : Nat) (R : List (List Chg)) (S : List (List Int)) (c c1 : Ctl) : Prop where
  rd : c1.round = c.round
  bk : c1.back = c.back
  sq : c1.seq = c.seq + 1
  kn : c1.known = c.known
  sn : c1.sent = c.sent ++ c1.waiting
  ne : 0 < c1.waiting.length
  wt : ∀ d : Nat,(d : Int) ∈ c1.waiting ↔ (d : Int) ∈ c.waiting ∨ inR R c d
  tg : ∀ d : Nat,d < n → (inR R c d → c1.target.getD d 0 = (tgV R S c).getD d 0) ∧ (¬ inR R c d → c1.target.getD d 0 = c.target.getD d 0)
theorem start_at (P : PlanOK n R S) (Q : PlanS R S) (h : CtlOK n R.length c) (h0 : 0 ≤ c.round) (h1 : c.round < R.length) : StF n R S c (startC R S c):=by
  unfold startC;rw [if_neg (by omega)];have hx:=rd_of P (k:=c.round.toNat) (by omega);have hQ : ChgK n {c with seq:=c.seq + 1} ((R.getD c.round.toNat []).foldl (chgC (S.getD c.round.toNat [])) {c with seq:=c.seq + 1}):=foldl_chgK _ (ChgK.refl h.wt) hx.2;have hw:=fold_wt (S.getD c.round.toNat []) (R.getD c.round.toNat []) {c with seq:=c.seq + 1};have ht:=fun d v=>fold_tg (S.getD c.round.toNat []) d v (R.getD c.round.toNat []) {c with seq:=c.seq + 1};have hn:=fold_ne (S.getD c.round.toNat []) {c with seq:=c.seq + 1} (Q.ne _ (getD_mem (xs:=R) (i:=c.round.toNat) (d:=[]) (by omega)))
  revert hQ hw ht hn
  generalize (R.getD c.round.toNat []).foldl (chgC (S.getD c.round.toNat [])) {c with seq:=c.seq + 1} = c1
  intro hQ hw ht hn;refine ⟨hQ.rd,hQ.bk,hQ.sq,hQ.kn,?_,hn,fun d=>?_,fun d hd=>?_⟩
  · show c1.sent ++ c1.waiting = c.sent ++ c1.waiting;rw [show c1.sent = c.sent from hQ.sn]
  · refine (hw d).trans (or_congr Iff.rfl ⟨fun ⟨x,g1,g2⟩=>⟨x,g1,by omega⟩,fun ⟨x,g1,g2⟩=>⟨x,g1,by have:=(hx.2 x g1).1;omega⟩⟩)
  · refine ht d _ (by show d < c.target.length; rw [h.tg]; exact hd) fun x g1 g2 => ?_;show (if c.back = true then _ else _) = _;unfold tgV
    split
    · rfl
    · rw [hi_at h0 h1];exact ((Q.st _ (by omega) d).1 x g1 g2).symm
structure Dv (n : Nat) (R : List (List Chg)) (S : List (List Int)) (c : Ctl) (st : List PS) : Prop where
  sl : st.length = n
  dv : ∀ d : Nat,d < n → DevI c.seq (c.known.getD d 0) (c.target.getD d 0) ((d : Int) ∈ c.waiting) ((loV S c).getD d 0) ((hiV R S c).getD d 0) (st.getD d psD)
structure InvA (n : Nat) (R : List (List Chg)) (S : List (List Int)) (c : Ctl) (st : List PS) : Prop extends Dv n R S c st where
  ct : CtlOK n R.length c
  tg : ∀ d : Nat,d < n → c.target.getD d 0 = (tgV R S c).getD d 0
  sn : c.sent = []
structure InvR (n : Nat) (R : List (List Chg)) (S : List (List Int)) (r : RunS) : Prop extends InvA n R S r.c r.st where
  fin : r.c.waiting.length = 0 → finC R.length r.c
theorem cmdS_at (c : Ctl) : ∀ (l : List Int) (st : List PS), l.Pairwise (· < ·) → (∀ x ∈ l, 0 ≤ x ∧ x < (st.length : Int)) → ∀ d : Nat, (cmdS c st l).getD d psD = if (d : Int) ∈ l then putT (st.getD d psD) (cmdC c d) else st.getD d psD
  | [],st,_,_,d=>by simp [cmdS]
  | x :: t,st,hp,hx,d=>by
    rw [List.pairwise_cons] at hp;show (cmdS c (st.set x.toNat (putT (st.getD x.toNat psD) (cmdC c x))) t).getD d psD = _;have hx0:=hx x List.mem_cons_self;rw [cmdS_at c t _ hp.2 (fun y hy=>by rw [List.length_set];exact hx y (List.mem_cons_of_mem _ hy)) d]
    by_cases e : (d : Int) = x
    · have hn : ¬ (d : Int) ∈ t := fun q => by have := hp.1 _ q; omega
      subst e;rw [if_neg hn,if_pos List.mem_cons_self,Int.toNat_natCast,getD_setE (by omega)]
    · rw [getD_setN (by omega)]
      by_cases ht : (d : Int) ∈ t
      · rw [if_pos ht,if_pos (List.mem_cons_of_mem _ ht)]
      · rw [if_neg ht,if_neg fun q=>(List.mem_cons.1 q).elim e ht]
theorem sendS_nil {r : RunS} (h : r.c.sent = []) : sendS r = r:=by
  unfold sendS;rw [h];show RunS.mk {r.c with sent:=[]} (cmdS r.c r.st []) = r
  cases r with | mk c st=>cases c;subst h;rfl
theorem inv_start (P : PlanOK n R S) (Q : PlanS R S) (h : CtlOK n R.length c) (hb : (c.back = false → c.seq ≤ c.round) ∧ (c.back = true → c.seq + c.round ≤ 2 * R.length + 1)) (hd : Dv n R S c st) (hs : c.sent = []) (ht : ∀ d : Nat, d < n → c.target.getD d 0 = (loV S c).getD d 0 ∨ c.target.getD d 0 = (hiV R S c).getD d 0)
    (h0 : 0 ≤ c.round) (h1 : c.round < R.length) : InvR n R S (sendS ⟨startC R S c,st⟩):=by
  have F:=start_at P Q h h0 h1;have hc:=(startC_ok P h fun _ _=>hb).1
  revert F hc
  generalize startC R S c = c1
  intro F hc;have hsn : c1.sent = c1.waiting:=by rw [F.sn,hs];rfl
  have hlo : loV S {c1 with sent:=[]} = loV S c:=by show S.getD c1.round.toNat [] = _;rw [F.rd];rfl
  have hhi : hiV R S {c1 with sent:=[]} = hiV R S c:=by unfold hiV;rw [hlo];show (if c1.round < 0 then _ else S.getD (min (c1.round.toNat + 1) R.length) []) = _;rw [F.rd]
  have htg : tgV R S {c1 with sent:=[]} = tgV R S c:=by unfold tgV;rw [hlo,hhi];show (if c1.back = true then _ else _) = _;rw [F.bk]
  have e : sendS ⟨c1,st⟩ = ⟨{c1 with sent:=[]},cmdS c1 st c1.waiting⟩:=by unfold sendS;show RunS.mk _ (cmdS c1 st c1.sent) = _;rw [hsn]
  rw [e];refine ⟨⟨⟨(cmdS_len ..).trans hd.sl,fun d hdn=>?_⟩,hc.sent [],fun d hdn=>?_,rfl⟩,fun q=>absurd q (by show ¬ c1.waiting.length = 0;have:=F.ne;omega)⟩
  · show DevI c1.seq (c1.known.getD d 0) (c1.target.getD d 0) ((d : Int) ∈ c1.waiting) _ _ ((cmdS c1 st c1.waiting).getD d psD);rw [hlo, hhi, cmdS_at c1 _ st hc.wt.1 (fun x hx => by rw [hd.sl]; exact hc.wt.2 x hx) d, F.sq, F.kn]
    by_cases hw : (d : Int) ∈ c1.waiting
    · rw [if_pos hw, show cmdC c1 d = ⟨c.known.getD d 0, c.seq + 1, c1.target.getD d 0⟩ from by unfold cmdC; rw [F.kn, F.sq]; rfl];refine dev_start1 (hd.dv d hdn) hw ?_
      by_cases q : inR R c d
      · rw [(F.tg d hdn).1 q];exact tg_or d
      · rw [(F.tg d hdn).2 q];exact ht d hdn
    · rw [if_neg hw];have hn:=fun q=>hw ((F.wt d).2 q);rw [(F.tg d hdn).2 fun q=>hn (.inr q)];exact dev_start0 (hd.dv d hdn) (fun q=>hn (.inl q)) hw
  · show c1.target.getD d 0 = _;rw [htg]
    by_cases q : inR R c d
    · exact (F.tg d hdn).1 q
    · rw [(F.tg d hdn).2 q];have e:=lohi (S:=S) Q h0 h1 q;have e2 : (tgV R S c).getD d 0 = (loV S c).getD d 0:=(tg_or d).elim id fun g=>g.trans e;rw [e2];exact (ht d hdn).elim id fun g=>g.trans e
theorem adv_stop {f : Nat} (h : 0 < c.waiting.length) : advC R S f c = c:=by
  cases f with
  | zero=>rfl
  | succ f=>rw [advC,if_pos h]
theorem start_no (h : c.round < 0 ∨ (R.length : Int) ≤ c.round) : startC R S c = c:=by unfold startC;rw [if_pos h]
theorem inv_adv (P : PlanOK n R S) (Q : PlanS R S) (h : InvA n R S c st) : InvR n R S (sendS ⟨advA R S c,st⟩):=by
  have hct:=h.ct;have hrd:=hct.rd;unfold advA;rw [show (40 : Nat) = 38 + 1 + 1 from rfl,advC]
  split
  · rename_i hw;rw [sendS_nil (r:=⟨c,st⟩) h.sn];exact ⟨h,fun q=>absurd q (by show ¬ c.waiting.length = 0;omega)⟩
  · rename_i hw;have hw : ∀ d : Nat, ¬ (d : Int) ∈ c.waiting := fun d q => hw (List.length_pos_of_mem q)
    split
    · rename_i hb;have hc2 := hct.down hb.1 hb.2;have hlo : ∀ d : Nat, d < n → c.target.getD d 0 = (loV S c).getD d 0 := fun d hd => by rw [h.tg d hd]; unfold tgV; rw [if_pos hb.1]
      by_cases hr : c.round - 1 < 0
      · rw [start_no (c := {c with round := c.round - 1}) (.inl hr), advC];rw [if_neg (show ¬ 0 < c.waiting.length from by assumption), if_neg (fun q => by have := q.2; have : 0 ≤ c.round - 1 := this; omega), if_neg (fun q => q.1 hb.1), sendS_nil (r := ⟨{c with round := c.round - 1}, st⟩) h.sn];have e1 : loV S {c with round := c.round - 1} = loV S c := by show S.getD (c.round - 1).toNat [] = S.getD c.round.toNat []; rw [show (c.round - 1).toNat = c.round.toNat from by omega]
        have e2 : tgV R S {c with round:=c.round - 1} = loV S c:=by unfold tgV;rw [if_pos hb.1,e1]
        refine ⟨⟨⟨h.sl,fun d hd=>?_⟩,hc2,fun d hd=>?_,h.sn⟩,fun _=>⟨by show c.waiting.length = 0;omega,?_⟩⟩
        · refine dev_move (h.dv d hd) (hw d) (.inl ?_);rw [e1];exact hlo d hd
        · rw [e2];exact hlo d hd
        · show c.round - 1 = if c.back = true then -1 else _
          rw [if_pos hb.1];omega
      · have h0 : 0 ≤ ({c with round := c.round - 1} : Ctl).round := by show 0 ≤ c.round - 1; omega
        have h1 : ({c with round:=c.round - 1} : Ctl).round < R.length:=by show c.round - 1 < _;omega
        have F:=start_at P Q hc2 h0 h1;rw [adv_stop F.ne];have e1 : hiV R S {c with round:=c.round - 1} = loV S c:=by rw [hi_at h0 h1];show S.getD ((c.round - 1).toNat + 1) [] = S.getD c.round.toNat [];rw [show (c.round - 1).toNat + 1 = c.round.toNat from by omega]
        refine inv_start P Q hc2 ⟨fun e=>absurd hb.1 (by show ¬ c.back = true;rw [show c.back = false from e];decide),fun _=>by have:=hct.sq.2.2 hb.1;show c.seq + (c.round - 1) ≤ _;omega⟩ ⟨h.sl,fun d hd=>?_⟩ h.sn (fun d hd=>.inr ?_) h0 h1
        · refine dev_move (h.dv d hd) (hw d) (.inr ?_);rw [e1];exact hlo d hd
        · rw [e1];exact hlo d hd
    · rename_i hnb
      split
      · rename_i hb;have hbf : c.back = false := by simpa using hb.1
        have hc2:=hct.up hb.1 hb.2;have hc0:=(hct.sq.2.1 hbf).2;have hhi : ∀ d : Nat,d < n → c.target.getD d 0 = (S.getD (c.round.toNat + 1) []).getD d 0:=fun d hd=>by rw [h.tg d hd];unfold tgV;rw [if_neg hb.1,hi_at hc0 hb.2]
        have e1 : loV S {c with round:=c.round + 1} = S.getD (c.round.toNat + 1) []:=by show S.getD (c.round + 1).toNat [] = _;rw [show (c.round + 1).toNat = c.round.toNat + 1 from by omega]
        by_cases hr : (R.length : Int) ≤ c.round + 1
        · rw [start_no (c := {c with round := c.round + 1}) (.inr hr), advC];rw [if_neg (show ¬ 0 < c.waiting.length from by assumption), if_neg (fun q => hb.1 q.1), if_neg (fun q => by have := q.2; have : c.round + 1 < R.length := this; omega), sendS_nil (r := ⟨{c with round := c.round + 1}, st⟩) h.sn];have e2 : tgV R S {c with round := c.round + 1} = S.getD (c.round.toNat + 1) [] := by unfold tgV; rw [if_neg hb.1, hi_end (by show c.round + 1 = _; omega), show R.length = c.round.toNat + 1 from by omega]
          refine ⟨⟨⟨h.sl,fun d hd=>?_⟩,hc2,fun d hd=>?_,h.sn⟩,fun _=>⟨by show c.waiting.length = 0;omega,?_⟩⟩
          · refine dev_move (h.dv d hd) (hw d) (.inl ?_);rw [e1];exact hhi d hd
          · rw [e2];exact hhi d hd
          · show c.round + 1 = if c.back = true then -1 else _
            rw [if_neg hb.1];omega
        · have h0 : 0 ≤ ({c with round := c.round + 1} : Ctl).round := by show 0 ≤ c.round + 1; omega
          have h1 : ({c with round:=c.round + 1} : Ctl).round < R.length:=by show c.round + 1 < _;omega
          have F:=start_at P Q hc2 h0 h1;rw [adv_stop F.ne];refine inv_start P Q hc2 ⟨fun _=>by have:=(hct.sq.2.1 hbf).1;show c.seq ≤ c.round + 1;omega,fun e=>absurd e hb.1⟩ ⟨h.sl,fun d hd=>?_⟩ h.sn (fun d hd=>.inl ?_) h0 h1
          · refine dev_move (h.dv d hd) (hw d) (.inl ?_);rw [e1];exact hhi d hd
          · rw [e1];exact hhi d hd
      · rename_i hnf;rw [sendS_nil (r := ⟨c, st⟩) h.sn];refine ⟨h, fun q => ⟨q, ?_⟩⟩;show c.round = if c.back = true then -1 else (R.length : Int)
        split
        · rename_i e;have : ¬ 0 ≤ c.round:=fun g=>hnb ⟨e,g⟩;omega
        · rename_i e;have : ¬ c.round < R.length:=fun g=>hnf ⟨e,g⟩;omega
end
section
variable {n : Nat} {R : List (List Chg)} {S : List (List Int)} {r : RunS} {e : Evt}
theorem dv_set {c : Ctl} {st : List PS} (h : Dv n R S c st) {d : Nat} {s : PS} (hd : d < n → DevI c.seq (c.known.getD d 0) (c.target.getD d 0) ((d : Int) ∈ c.waiting) ((loV S c).getD d 0) ((hiV R S c).getD d 0) s) : Dv n R S c (st.set d s) :=
  ⟨(List.length_set ..).trans h.sl,fun k hk=>by
    by_cases e : d = k
    · subst e;rw [getD_setE (by have:=h.sl;omega)];exact hd hk
    · rw [getD_setN e];exact h.dv k hk⟩
theorem inv_upd (h : InvR n R S r) {d : Nat} {s : PS} (hf : d < n → DevI r.c.seq (r.c.known.getD d 0) (r.c.target.getD d 0) ((d : Int) ∈ r.c.waiting) ((loV S r.c).getD d 0) ((hiV R S r.c).getD d 0) s) : InvR n R S (sendS {r with st:=r.st.set d s}):=by
  rw [sendS_nil (r:={r with st:=r.st.set d s}) h.sn];exact ⟨⟨dv_set h.toDv hf,h.ct,h.tg,h.sn⟩,h.fin⟩
theorem mem_filt {l : List Int} {d x : Int} : (x ∈ l.filter fun y=>!(y == d)) ↔ x ∈ l ∧ x ≠ d:=by simp
theorem inv_out {c : Ctl} {st : List PS} (h : InvA n R S c st) {d : Int} (h0 : 0 ≤ d) {s : PS} (hs : d.toNat < n → DevI c.seq (c.known.getD d.toNat 0) (c.target.getD d.toNat 0) False ((loV S c).getD d.toNat 0) ((hiV R S c).getD d.toNat 0) s) : InvA n R S {c with waiting:=c.waiting.filter fun y=>!(y == d)} (st.set d.toNat s) :=
  ⟨⟨(List.length_set ..).trans h.sl,fun k hk=>by
    show DevI c.seq (c.known.getD k 0) (c.target.getD k 0) ((k : Int) ∈ c.waiting.filter _) ((loV S c).getD k 0) ((hiV R S c).getD k 0) _
    by_cases e : d.toNat = k
    · subst e;rw [getD_setE (by have:=h.sl;omega)];exact (hs hk).iff ⟨False.elim,fun q=>(mem_filt.1 q).2 (by omega)⟩
    · rw [getD_setN e]
      exact (h.dv k hk).iff ⟨fun q=>mem_filt.2 ⟨q,by omega⟩,fun q=>(mem_filt.1 q).1⟩⟩,⟨h.ct.tg,h.ct.kn,h.ct.wt.filt _,h.ct.rd,h.ct.sq⟩,h.tg,h.sn⟩
theorem set_self {st : List PS} {d : Nat} : st.set d (st.getD d psD) = st:=by
  apply List.ext_getElem?
  intro i;rw [List.getElem?_set]
  by_cases h : d = i
  · subst h
    by_cases hl : d < st.length
    · rw [if_pos rfl,if_pos hl,List.getD_eq_getElem?_getD,List.getElem?_eq_getElem hl];rfl
    · rw [if_pos rfl,if_neg hl,List.getElem?_eq_none (by omega)]
  · rw [if_neg h]
theorem inv_ack (h : InvR n R S r) {d : Int} (h0 : 0 ≤ d) (hd : d < n) (hm : 0 < (r.st.getD d.toNat psD).msg.length) (h1 : ¬ (msgOf r d).hello = true) (h2 : (msgOf r d).inc = r.c.known.getD d.toNat 0) (h3 : (msgOf r d).seq = r.c.seq) :
    InvA n R S {r.c with waiting:=r.c.waiting.filter fun y=>!(y == d)} (updS r d fun s=>{s with msg:=s.msg.drop 1}).st :=
  inv_out h.toInvA h0 fun hn=>dev_ack (h.dv d.toNat hn) (m:=msgOf r d) rfl hm h1 h2 h3
theorem inv_recv (P : PlanOK n R S) (Q : PlanS R S) (h : InvR n R S r) {d : Int} (h0 : 0 ≤ d) (hd : d < n) (hm : 0 < (r.st.getD d.toNat psD).msg.length) : InvR n R S (sendS (recvS R S r d)):=by
  have hn : d.toNat < n:=by omega
  have hD:=h.dv d.toNat hn;unfold recvS
  split
  · rename_i hh;unfold helloC
    split
    · rename_i hk;have hkl:=h.ct.kn;have e : sendS ⟨{r.c with known:=r.c.known.set d.toNat (msgOf r d).inc,waiting:=insW r.c.waiting d,sent:=r.c.sent ++ [d]},(updS r d fun s=>{s with msg:=s.msg.drop 1}).st⟩ = ⟨{r.c with known:=r.c.known.set d.toNat (msgOf r d).inc,waiting:=insW r.c.waiting d,sent:=[]},r.st.set d.toNat (putT {r.st.getD d.toNat psD with msg:=(r.st.getD d.toNat psD).msg.drop 1} ⟨(msgOf r d).inc,r.c.seq,r.c.target.getD d.toNat 0⟩)⟩:=by
        unfold sendS;refine congrArg (RunS.mk _) ?_;show cmdS _ (r.st.set d.toNat _) (r.c.sent ++ [d]) = _;rw [h.sn];show ((r.st.set d.toNat _).set d.toNat (putT ((r.st.set d.toNat _).getD d.toNat psD) ⟨(r.c.known.set d.toNat (msgOf r d).inc).getD d.toNat 0,r.c.seq,r.c.target.getD d.toNat 0⟩)) = _;rw [List.set_set,getD_setE (by have:=h.sl;omega),getD_setE (by omega)]
      rw [e];refine ⟨⟨⟨(List.length_set ..).trans h.sl,fun k hk'=>?_⟩,⟨h.ct.tg,by simp [h.ct.kn],h.ct.wt.ins h0 hd,h.ct.rd,h.ct.sq⟩,h.tg,rfl⟩,fun q=>?_⟩
      · show DevI r.c.seq ((r.c.known.set d.toNat (msgOf r d).inc).getD k 0) (r.c.target.getD k 0) ((k : Int) ∈ insW r.c.waiting d) ((loV S r.c).getD k 0) ((hiV R S r.c).getD k 0) ((r.st.set d.toNat _).getD k psD)
        by_cases e : d.toNat = k
        · subst e;rw [getD_setE (by omega),getD_setE (by have:=h.sl;omega)];exact dev_known hD (by rw [h.tg _ hk'];exact tg_or _) (m:=msgOf r d) rfl hm hk (mem_insW2.2 (.inl (by omega)))
        · rw [getD_setN e,getD_setN e];exact (h.dv k hk').iff ⟨fun q=>mem_insW2.2 (.inr q),fun q=>(mem_insW2.1 q).resolve_left (by omega)⟩
      · have : 0 < (insW r.c.waiting d).length:=List.length_pos_of_mem (mem_insW2.2 (.inl rfl) : d ∈ insW r.c.waiting d);have q : (insW r.c.waiting d).length = 0:=q;omega
    · rename_i hk;exact inv_upd h fun hn=>dev_old (h.dv _ hn) (m:=msgOf r d) rfl (fun _=>by omega) fun q=>absurd hh q
  · rename_i hh;unfold ackC
    split
    · rename_i hk;exact inv_adv P Q (inv_ack h h0 hd hm hh hk.1 hk.2)
    · rename_i hk;exact inv_upd h fun hn=>dev_old (h.dv _ hn) (m:=msgOf r d) rfl (fun q=>absurd q hh) fun _=>hk
theorem cmdS_all (c : Ctl) (st : List PS) (h : Asc n c.waiting) (hl : st.length = n) (d : Nat) : (cmdS c st c.waiting).getD d psD = if (d : Int) ∈ c.waiting then putT (st.getD d psD) (cmdC c d) else st.getD d psD :=
  cmdS_at c c.waiting st h.1 (fun x hx=>by rw [hl];exact h.2 x hx) d
theorem inv_time (h : InvR n R S r) : InvR n R S (sendS {r with c:={r.c with sent:=r.c.sent ++ r.c.waiting}}):=by
  have e : sendS {r with c:={r.c with sent:=r.c.sent ++ r.c.waiting}} = ⟨r.c,cmdS r.c r.st r.c.waiting⟩:=by
    unfold sendS;show RunS.mk {r.c with sent:=[]} (cmdS {r.c with sent:=r.c.sent ++ r.c.waiting} r.st (r.c.sent ++ r.c.waiting)) = _;rw [h.sn];have e1 : ({r.c with sent:=[]} : Ctl) = r.c:=by have:=h.sn;cases r with | mk c st=>cases c;subst this;rfl
    rw [e1];rfl
  rw [e];refine ⟨⟨⟨(cmdS_len ..).trans h.sl,fun d hd=>?_⟩,h.ct,h.tg,h.sn⟩,h.fin⟩;show DevI r.c.seq (r.c.known.getD d 0) (r.c.target.getD d 0) ((d : Int) ∈ r.c.waiting) ((loV S r.c).getD d 0) ((hiV R S r.c).getD d 0) ((cmdS r.c r.st r.c.waiting).getD d psD);rw [cmdS_all r.c r.st h.ct.wt h.sl d]
  split
  · rename_i hw;exact dev_put (h.dv d hd) (by rw [h.tg d hd];exact tg_or d) hw
  · exact h.dv d hd
theorem inv_abort (P : PlanOK n R S) (Q : PlanS R S) (h : InvR n R S r) (hb : ¬ r.c.back = true) : InvR n R S (sendS {r with c:=abortC R S r.c}):=by
  have hbf : r.c.back = false:=by simpa using hb
  have hc2:=h.ct.bk hb;have hc0:=(h.ct.sq.2.1 hbf);have hrd:=h.ct.rd;unfold abortC;rw [if_neg hb];have elo : loV S {r.c with back:=true} = loV S r.c:=rfl;have ehi : hiV R S {r.c with back:=true} = hiV R S r.c:=rfl;have htg : ∀ d : Nat,d < n → r.c.target.getD d 0 = (hiV R S r.c).getD d 0:=fun d hd=>by rw [h.tg d hd];unfold tgV;rw [if_neg hb]
  by_cases hr : (R.length : Int) ≤ r.c.round
  · rw [start_no (c := {r.c with back := true}) (.inr hr)];have e1 : loV S r.c = hiV R S r.c := by rw [hi_end (by omega)]; unfold loV; rw [show r.c.round.toNat = R.length from by omega]
    refine inv_adv P Q ⟨⟨h.sl,h.dv⟩,hc2,fun d hd=>?_,h.sn⟩;show r.c.target.getD d 0 = (tgV R S {r.c with back:=true}).getD d 0;rw [htg d hd,← e1];rfl
  · have h0 : 0 ≤ ({r.c with back := true} : Ctl).round := hc0.2;have h1 : ({r.c with back := true} : Ctl).round < R.length := by show r.c.round < _; omega
    have F:=start_at P Q hc2 h0 h1;unfold advA;rw [adv_stop F.ne];refine inv_start P Q hc2 ⟨fun e=>(by cases e),fun _=>by show r.c.seq + r.c.round ≤ _;omega⟩ ⟨h.sl,h.dv⟩ h.sn (fun d hd=>.inr (htg d hd)) h0 h1
theorem inv_do (P : PlanOK n R S) (Q : PlanS R S) (h : InvR n R S r) (hc : canR r e) : InvR n R S (doR R S r e):=by
  have hsl:=h.sl;have hn0:=P.n0;obtain ⟨h0,h1⟩:=can_rng hc (by omega);unfold doR evR
  split
  · rename_i k;exact inv_upd h fun hn=>dev_deliver (h.dv _ hn) ((canT1 k).1 (can_dev hc (by omega) (by omega)).2.2)
  split
  · rename_i k;refine inv_upd h fun hn=>?_;obtain ⟨g1,g2,g3⟩:=(canT2 k).1 (can_dev hc (by omega) (by omega)).2.2;have H:=h.dv _ hn;exact dev_save H.toDevJ g2 fun q=>g3 (H.qr q)
  split
  · rename_i k;exact inv_recv P Q h h0 (by omega) ((canT3 k).1 (can_dev hc (by omega) (by omega)).2.2)
  split
  · exact inv_upd h fun hn=>dev_downT (h.dv _ hn)
  split
  · exact inv_upd h fun hn=>dev_up (h.dv _ hn)
  split
  · exact inv_time h
  split
  · rename_i k;obtain ⟨g1,g2⟩:=(canT7 k).1 (can_dev hc (by omega) (by omega)).2.2;have:=inv_out h.toInvA h0 (s:=r.st.getD e.dev.toNat psD) fun hn=>dev_skip (h.dv _ hn) g1;rw [set_self] at this;exact inv_adv P Q this
  split
  · rename_i k;exact inv_abort P Q h ((can8 k).1 hc).2
  · rename_i k1 k2 k3 k4 k5 k6 k7 k8;exact absurd (can_dev hc (by omega) (by omega)).2.2 (canT0 k1 k2 k3 k4 k5 k7)
end
def sumN (f : Nat → Int) : Nat → Int
  | 0=>0
  | n + 1=>sumN f n + f n
theorem sumN_le {f g : Nat → Int} : ∀ {n : Nat}, (∀ d, d < n → f d ≤ g d) → sumN f n ≤ sumN g n
  | 0,_=>Int.le_refl _
  | n + 1,h=>Int.add_le_add (sumN_le fun d hd=>h d (by omega)) (h n (by omega))
theorem sumN_eq {f g : Nat → Int} : ∀ {n : Nat}, (∀ d, d < n → f d = g d) → sumN f n = sumN g n
  | 0,_=>rfl
  | n + 1,h=>by rw [sumN,sumN,sumN_eq fun d hd=>h d (by omega),h n (by omega)]
theorem sumN_upd {f g : Nat → Int} {d : Nat} : ∀ {n : Nat}, d < n → (∀ k, k < n → k ≠ d → f k = g k) → sumN f n + g d = sumN g n + f d
  | n + 1,hd,h=>by
    rw [sumN,sumN]
    by_cases e : d = n
    · have:=sumN_eq (f:=f) (g:=g) (n:=n) fun k hk=>h k (by omega) (by omega);subst e;omega
    · have:=sumN_upd (f:=f) (g:=g) (n:=n) (d:=d) (by omega) fun k hk=>h k (by omega);have:=h n (by omega) (by omega);omega
theorem sumN_add (f : Nat → Int) (c : Int) : ∀ n : Nat, sumN (fun d => f d + c) n = sumN f n + c * n
  | 0=>by simp [sumN]
  | n + 1=>by
    rw [sumN,sumN,sumN_add f c n,show ((n + 1 : Nat) : Int) = (n : Int) + 1 from rfl,Int.mul_add,Int.mul_one];omega
def pend (s : PS) : Int:=if s.vol = true ∧ s.ag.up = true ∧ s.ag.run ≠ s.ag.sav then 2 else 0
theorem pend_rng (s : PS) : 0 ≤ pend s ∧ pend s ≤ 2:=by unfold pend;split <;> omega
def mS (k : Int) (s : PS) : Int:=(if s.ag.up = true then 0 else 5) + 3 * (s.ag.inc - k) + 3 * (s.cmd.length : Int) + pend s + (s.msg.length : Int)
def mR (n : Nat) (R : List (List Chg)) (c : Ctl) (st : List PS) : Int:=3 * (n : Int) * measC R.length c + sumN (fun d=>mS (c.known.getD d 0) (st.getD d psD)) n
theorem ml_say (s : PS) (m : Msg) (k : Int) : mS k (sayT s m) = mS k s + 1:=by
  show (if s.ag.up = true then (0 : Int) else 5) + 3 * (s.ag.inc - k) + 3 * (s.cmd.length : Int) + pend s + ((s.msg ++ [m]).length : Int) = _;rw [List.length_append,List.length_singleton];unfold mS;omega
theorem ml_put (s : PS) (x : Cmd) (k : Int) : mS k (putT s x) = mS k s + 3:=by
  show (if s.ag.up = true then (0 : Int) else 5) + 3 * (s.ag.inc - k) + 3 * ((s.cmd ++ [x]).length : Int) + pend s + (s.msg.length : Int) = _;rw [List.length_append,List.length_singleton];unfold mS;omega
def dropM (s : PS) : PS:={s with msg:=s.msg.drop 1}
theorem ml_drop (s : PS) (k : Int) (h : 0 < s.msg.length) : mS k (dropM s) = mS k s - 1:=by
  show (if s.ag.up = true then (0 : Int) else 5) + 3 * (s.ag.inc - k) + 3 * (s.cmd.length : Int) + pend s + ((s.msg.drop 1).length : Int) = _;rw [List.length_drop];unfold mS;omega
theorem ml_cmd (s : PS) (k : Int) (h : 0 < s.cmd.length) : mS k {s with cmd:=s.cmd.drop 1} = mS k s - 3:=by
  show (if s.ag.up = true then (0 : Int) else 5) + 3 * (s.ag.inc - k) + 3 * ((s.cmd.drop 1).length : Int) + pend s + (s.msg.length : Int) = _;rw [List.length_drop];unfold mS;omega
theorem ml_save (s : PS) (k : Int) : mS k (saveT s) = mS k s + 1 - pend s:=by
  unfold saveT;rw [ml_say];have e : pend {s with ag:={s.ag with sav:=s.ag.run}} = 0:=by unfold pend;rw [if_neg fun h=>h.2.2 rfl]
  show (if s.ag.up = true then (0 : Int) else 5) + 3 * (s.ag.inc - k) + 3 * (s.cmd.length : Int) + pend {s with ag:={s.ag with sav:=s.ag.run}} + (s.msg.length : Int) + 1 = _;rw [e];unfold mS;omega
theorem ml_deliver {s : PS} {k : Int} (h : 0 < s.cmd.length) : mS k (deliverT s) ≤ mS k s - 1:=by
  have hp:=pend_rng s;unfold deliverT
  split
  · rw [ml_cmd s k h];omega
  · split
    · unfold helloT;rw [ml_say,ml_cmd s k h];omega
    · have e : ∀ g : Agt,g.up = s.ag.up → g.inc = s.ag.inc → mS k {s with cmd:=s.cmd.drop 1,ag:=g} = mS k s - 3 - pend s + pend {s with cmd:=s.cmd.drop 1,ag:=g}:=fun g h1 h2=>by
        show (if g.up = true then (0 : Int) else 5) + 3 * (g.inc - k) + 3 * ((s.cmd.drop 1).length : Int) + pend _ + (s.msg.length : Int) = _;rw [h1,h2,List.length_drop];unfold mS;omega
      split
      · rw [ml_save,e {s.ag with run:=(headT s).ver,seq:=(headT s).seq,quar:=false} rfl rfl];omega
      · rw [e {s.ag with run:=(headT s).ver,seq:=(headT s).seq,quar:=false} rfl rfl];have:=pend_rng {s with cmd:=s.cmd.drop 1,ag:={s.ag with run:=(headT s).ver,seq:=(headT s).seq,quar:=false}};omega
theorem ml_up {s : PS} {k : Int} (h : ¬ s.ag.up = true) : mS k (upT s) = mS k s - 1:=by
  unfold upT helloT;rw [ml_say];have e : pend {s with ag:={s.ag with up:=true,quar:=true,inc:=s.ag.inc + 1,run:=s.ag.sav,seq:=0}} = 0:=by unfold pend;rw [if_neg fun h=>h.2.2 rfl]
  have e2 : pend s = 0:=by unfold pend;rw [if_neg fun q=>h q.2.1]
  show (if true = true then (0 : Int) else 5) + 3 * (s.ag.inc + 1 - k) + 3 * (s.cmd.length : Int) + pend {s with ag:={s.ag with up:=true,quar:=true,inc:=s.ag.inc + 1,run:=s.ag.sav,seq:=0}} + (s.msg.length : Int) + 1 = _;rw [e,if_pos rfl];unfold mS;rw [e2,if_neg h];omega
theorem ml_down {s : PS} {k : Int} : mS k (downT s) ≤ mS k s + 5:=by
  have e : pend (downT s) = 0:=by unfold pend;rw [if_neg fun h=>by cases h.2.1]
  have:=pend_rng s;show (if false = true then (0 : Int) else 5) + 3 * (s.ag.inc - k) + 3 * (([] : List Cmd).length : Int) + pend (downT s) + (s.msg.length : Int) ≤ _;rw [e,if_neg (by decide)];unfold mS;simp only [List.length_nil];split <;> omega
section
variable {n : Nat} {R : List (List Chg)} {S : List (List Int)} {r : RunS} {c : Ctl} {st : List PS} {e : Evt}
theorem mR_set {d : Nat} (hd : d < n) (hl : st.length = n) {s : PS} : mR n R c (st.set d s) = mR n R c st + mS (c.known.getD d 0) s - mS (c.known.getD d 0) (st.getD d psD):=by
  have:=(sumN_upd (f:=fun k=>mS (c.known.getD k 0) ((st.set d s).getD k psD)) (g:=fun k=>mS (c.known.getD k 0) (st.getD k psD)) (n:=n) (d:=d) hd (fun k _ hk=>by show mS _ _ = mS _ _;rw [getD_setN (fun q=>hk q.symm)]));have e : mS (c.known.getD d 0) ((st.set d s).getD d psD) = mS (c.known.getD d 0) s:=by rw [getD_setE (by omega)]
  unfold mR;simp only [e] at this;omega
theorem mR_same {c' : Ctl} (h1 : c'.round = c.round) (h2 : c'.back = c.back) (h3 : c'.known = c.known) : mR n R c' st = mR n R c st:=by
  unfold mR measC;rw [h1,h2,h3]
theorem mR_cmd (h : Asc n c.waiting) (hl : st.length = n) : mR n R {c with sent:=[]} (cmdS c st c.waiting) ≤ mR n R c st + 3 * n:=by
  have e:=sumN_add (fun d=>mS (c.known.getD d 0) (st.getD d psD)) 3 n;have:=sumN_le (f:=fun d=>mS (c.known.getD d 0) ((cmdS c st c.waiting).getD d psD)) (g:=fun d=>mS (c.known.getD d 0) (st.getD d psD) + 3) (n:=n) fun d hd=>by
    show mS _ ((cmdS c st c.waiting).getD d psD) ≤ _;rw [cmdS_all c st h hl d]
    split
    · rw [ml_put];exact Int.le_refl _
    · show _ ≤ _ + 3;omega
  show 3 * (n : Int) * measC R.length c + sumN (fun d=>mS (c.known.getD d 0) ((cmdS c st c.waiting).getD d psD)) n ≤ _;unfold mR;omega
theorem mR_start (P : PlanOK n R S) (Q : PlanS R S) (h : CtlOK n R.length c) (hb : (c.back = false → c.seq ≤ c.round) ∧ (c.back = true → c.seq + c.round ≤ 2 * R.length + 1)) (hs : c.sent = []) (hl : st.length = n) (h0 : 0 ≤ c.round) (h1 : c.round < R.length) :
    mR n R (sendS ⟨startC R S c,st⟩).c (sendS ⟨startC R S c,st⟩).st ≤ mR n R c st + 3 * n:=by
  have F:=start_at P Q h h0 h1;have hc:=(startC_ok P h fun _ _=>hb).1
  revert F hc
  generalize startC R S c = c1
  intro F hc;have hsn : c1.sent = c1.waiting:=by rw [F.sn,hs];rfl
  show mR n R {c1 with sent:=[]} (cmdS c1 st c1.sent) ≤ _;rw [hsn];have:=mR_cmd (R:=R) (c:=c1) (st:=st) hc.wt hl;rw [mR_same (c:=c) (c':=c1) F.rd F.bk F.kn] at this;exact this
theorem mR_adv (P : PlanOK n R S) (Q : PlanS R S) (hct : CtlOK n R.length c) (hs : c.sent = []) (hl : st.length = n) : mR n R (sendS ⟨advA R S c,st⟩).c (sendS ⟨advA R S c,st⟩).st ≤ mR n R c st:=by
  have hrd:=hct.rd;unfold advA;rw [show (40 : Nat) = 38 + 1 + 1 from rfl,advC]
  split
  · rw [sendS_nil (r:=⟨c,st⟩) hs];exact Int.le_refl _
  · rename_i hw
    split
    · rename_i hb;have hc2:=hct.down hb.1 hb.2;have em : mR n R {c with round:=c.round - 1} st = mR n R c st - 3 * n:=by
        have e : measC R.length {c with round:=c.round - 1} = measC R.length c - 1:=by unfold measC;rw [if_pos hb.1,if_pos hb.1];show c.round - 1 + 1 = c.round + 1 - 1;omega
        unfold mR;rw [e,Int.mul_sub,Int.mul_one];show _ + sumN (fun d=>mS (c.known.getD d 0) _) n = _;omega
      by_cases hr : c.round - 1 < 0
      · rw [start_no (c:={c with round:=c.round - 1}) (.inl hr),advC];rw [if_neg (show ¬ 0 < c.waiting.length from by assumption),if_neg (fun q=>by have:=q.2;have : 0 ≤ c.round - 1:=this;omega),if_neg (fun q=>q.1 hb.1),sendS_nil (r:=⟨{c with round:=c.round - 1},st⟩) hs];show mR n R {c with round:=c.round - 1} st ≤ _;omega
      · have h0 : 0 ≤ ({c with round := c.round - 1} : Ctl).round := by show 0 ≤ c.round - 1; omega
        have h1 : ({c with round:=c.round - 1} : Ctl).round < R.length:=by show c.round - 1 < _;omega
        rw [adv_stop (start_at P Q hc2 h0 h1).ne];have:=mR_start P Q hc2 (st:=st) ⟨fun e=>absurd hb.1 (by show ¬ c.back = true;rw [show c.back = false from e];decide),fun _=>by have:=hct.sq.2.2 hb.1;show c.seq + (c.round - 1) ≤ _;omega⟩ hs hl h0 h1;omega
    · rename_i hnb
      split
      · rename_i hb;have hbf : c.back = false := by simpa using hb.1
        have hc2:=hct.up hb.1 hb.2;have hc0:=(hct.sq.2.1 hbf).2;have em : mR n R {c with round:=c.round + 1} st = mR n R c st - 3 * n:=by
          have e : measC R.length {c with round:=c.round + 1} = measC R.length c - 1:=by unfold measC;rw [if_neg hb.1,if_neg hb.1];show (R.length : Int) - (c.round + 1) = R.length - c.round - 1;omega
          unfold mR;rw [e,Int.mul_sub,Int.mul_one];show _ + sumN (fun d=>mS (c.known.getD d 0) _) n = _;omega
        by_cases hr : (R.length : Int) ≤ c.round + 1
        · rw [start_no (c:={c with round:=c.round + 1}) (.inr hr),advC];rw [if_neg (show ¬ 0 < c.waiting.length from by assumption),if_neg (fun q=>hb.1 q.1),if_neg (fun q=>by have:=q.2;have : c.round + 1 < R.length:=this;omega),sendS_nil (r:=⟨{c with round:=c.round + 1},st⟩) hs];show mR n R {c with round:=c.round + 1} st ≤ _;omega
        · have h0 : 0 ≤ ({c with round := c.round + 1} : Ctl).round := by show 0 ≤ c.round + 1; omega
          have h1 : ({c with round:=c.round + 1} : Ctl).round < R.length:=by show c.round + 1 < _;omega
          rw [adv_stop (start_at P Q hc2 h0 h1).ne];have:=mR_start P Q hc2 (st:=st) ⟨fun _=>by have:=(hct.sq.2.1 hbf).1;show c.seq ≤ c.round + 1;omega,fun e=>absurd e hb.1⟩ hs hl h0 h1;omega
      · rw [sendS_nil (r:=⟨c,st⟩) hs];exact Int.le_refl _
theorem mR_sta (h : InvR n R S r) {d : Nat} (hd : d < n) {s : PS} : mR n R (sendS {r with st:=r.st.set d s}).c (sendS {r with st:=r.st.set d s}).st = mR n R r.c r.st + mS (r.c.known.getD d 0) s - mS (r.c.known.getD d 0) (r.st.getD d psD):=by
  rw [sendS_nil (r:={r with st:=r.st.set d s}) h.sn];exact mR_set hd h.sl
theorem mR_recv (P : PlanOK n R S) (Q : PlanS R S) (h : InvR n R S r) {d : Int} (h0 : 0 ≤ d) (hd : d < n) (hm : 0 < (r.st.getD d.toNat psD).msg.length) : mR n R (sendS (recvS R S r d)).c (sendS (recvS R S r d)).st ≤ mR n R r.c r.st - 1:=by
  have hn : d.toNat < n:=by omega
  have hdr:=ml_drop (r.st.getD d.toNat psD) (r.c.known.getD d.toNat 0) hm;have hsta:=mR_sta h hn (s:=dropM (r.st.getD d.toNat psD));unfold recvS
  split
  · unfold helloC
    split
    · rename_i hk;have hkl := h.ct.kn;have hsl := h.sl;unfold sendS;show mR n R _ (cmdS _ (r.st.set d.toNat _) (r.c.sent ++ [d])) ≤ _;rw [h.sn];show mR n R {r.c with known := r.c.known.set d.toNat (msgOf r d).inc, waiting := insW r.c.waiting d, sent := []} ((r.st.set d.toNat _).set d.toNat (putT ((r.st.set d.toNat _).getD d.toNat psD) ⟨(r.c.known.set d.toNat (msgOf r d).inc).getD d.toNat 0, r.c.seq, r.c.target.getD d.toNat 0⟩)) ≤ _;have e0 : ((r.st.set d.toNat (dropM (r.st.getD d.toNat psD))).set d.toNat (putT ((r.st.set d.toNat (dropM (r.st.getD d.toNat psD))).getD d.toNat psD) ⟨(r.c.known.set d.toNat (msgOf r d).inc).getD d.toNat 0, r.c.seq, r.c.target.getD d.toNat 0⟩)) = r.st.set d.toNat (putT (dropM (r.st.getD d.toNat psD)) ⟨(msgOf r d).inc, r.c.seq, r.c.target.getD d.toNat 0⟩) := by rw [List.set_set, getD_setE (by omega), getD_setE (by omega)]
      refine Int.le_trans (Int.le_of_eq (congrArg (mR n R _) e0)) ?_
      have hu:=sumN_upd (f:=fun k=>mS ((r.c.known.set d.toNat (msgOf r d).inc).getD k 0) ((r.st.set d.toNat (putT (dropM (r.st.getD d.toNat psD)) ⟨(msgOf r d).inc,r.c.seq,r.c.target.getD d.toNat 0⟩)).getD k psD)) (g:=fun k=>mS (r.c.known.getD k 0) (r.st.getD k psD)) (n:=n) (d:=d.toNat) hn (fun k _ hk=>by
        show mS _ _ = mS _ _
        rw [getD_setN (fun q=>hk q.symm),getD_setN (fun q=>hk q.symm)])
      have e1 : mS ((r.c.known.set d.toNat (msgOf r d).inc).getD d.toNat 0) ((r.st.set d.toNat (putT (dropM (r.st.getD d.toNat psD)) ⟨(msgOf r d).inc,r.c.seq,r.c.target.getD d.toNat 0⟩)).getD d.toNat psD) = mS (r.c.known.getD d.toNat 0) (r.st.getD d.toNat psD) + 2 - 3 * ((msgOf r d).inc - r.c.known.getD d.toNat 0):=by
        rw [getD_setE (by omega),getD_setE (by omega),ml_put,ml_drop _ _ hm];unfold mS;omega
      simp only [e1] at hu;have hg : 3 * (n : Int) * measC R.length r.c + sumN (fun k=>mS ((r.c.known.set d.toNat (msgOf r d).inc).getD k 0) ((r.st.set d.toNat (putT (dropM (r.st.getD d.toNat psD)) ⟨(msgOf r d).inc,r.c.seq,r.c.target.getD d.toNat 0⟩)).getD k psD)) n ≤ 3 * (n : Int) * measC R.length r.c + sumN (fun k=>mS (r.c.known.getD k 0) (r.st.getD k psD)) n - 1:=by omega
      exact hg
    · exact Int.le_trans (Int.le_of_eq hsta) (by omega)
  · rename_i hh;unfold ackC
    split
    · rename_i hk;have hA:=inv_ack h h0 hd hm hh hk.1 hk.2;have h1:=mR_adv P Q hA.ct hA.sn hA.sl;have h2 : mR n R {r.c with waiting:=r.c.waiting.filter fun y=>!(y == d)} (updS r d fun s=>{s with msg:=s.msg.drop 1}).st = mR n R r.c (r.st.set d.toNat (dropM (r.st.getD d.toNat psD))):=rfl;have h3:=mR_set (R:=R) (c:=r.c) (st:=r.st) hn h.sl (s:=dropM (r.st.getD d.toNat psD));exact Int.le_trans h1 (Int.le_trans (Int.le_of_eq (h2.trans h3)) (by omega))
    · exact Int.le_trans (Int.le_of_eq hsta) (by omega)
def calmK (k : Int) : Prop:=k = 1 ∨ k = 2 ∨ k = 3 ∨ k = 5
theorem mR_calm (P : PlanOK n R S) (Q : PlanS R S) (h : InvR n R S r) (hc : canR r e) (hk : calmK e.kind) : mR n R (doR R S r e).c (doR R S r e).st ≤ mR n R r.c r.st - 1:=by
  have hsl:=h.sl;have hn0:=P.n0;obtain ⟨h0,h1⟩:=can_rng hc (by omega);have hd : e.dev.toNat < n:=by omega
  unfold doR
  rcases hk with k | k | k | k
  · rw [ev1 k];have:=mR_sta h hd (s:=deliverT (r.st.getD e.dev.toNat psD));have:=ml_deliver (k:=r.c.known.getD e.dev.toNat 0) ((canT1 k).1 (can_dev hc (by omega) (by omega)).2.2);unfold updS;omega
  · rw [ev2 k];obtain ⟨g1,g2,g3⟩:=(canT2 k).1 (can_dev hc (by omega) (by omega)).2.2;have:=mR_sta h hd (s:=saveT (r.st.getD e.dev.toNat psD));have:=ml_save (r.st.getD e.dev.toNat psD) (r.c.known.getD e.dev.toNat 0);have e2 : pend (r.st.getD e.dev.toNat psD) = 2:=if_pos ⟨g1,g2,g3⟩;unfold updS;omega
  · rw [ev3 k];exact mR_recv P Q h h0 (by omega) ((canT3 k).1 (can_dev hc (by omega) (by omega)).2.2)
  · rw [ev5 k];have:=mR_sta h hd (s:=upT (r.st.getD e.dev.toNat psD));have:=ml_up (k:=r.c.known.getD e.dev.toNat 0) ((canT5 k).1 (can_dev hc (by omega) (by omega)).2.2);unfold updS;omega
theorem mR_any (P : PlanOK n R S) (Q : PlanS R S) (h : InvR n R S r) (hn : n ≤ 4) (hR : R.length ≤ 3) (hc : canR r e) : mR n R (doR R S r e).c (doR R S r e).st ≤ mR n R r.c r.st + 60:=by
  by_cases hk : calmK e.kind
  · have:=mR_calm P Q h hc hk;omega
  have hsl:=h.sl;have hn0:=P.n0;obtain ⟨h0,h1⟩:=can_rng hc (by omega);have hd : e.dev.toNat < n:=by omega
  unfold calmK at hk;unfold doR
  by_cases k : e.kind = 4
  · rw [ev4 k];have:=mR_sta h hd (s:=downT (r.st.getD e.dev.toNat psD));have:=ml_down (s:=r.st.getD e.dev.toNat psD) (k:=r.c.known.getD e.dev.toNat 0);unfold updS;omega
  by_cases k : e.kind = 6
  · rw [ev6 k];have := mR_cmd (R := R) (c := {r.c with sent := r.c.sent ++ r.c.waiting}) (st := r.st) h.ct.wt h.sl;have e1 : mR n R {r.c with sent := r.c.sent ++ r.c.waiting} r.st = mR n R r.c r.st := rfl;show mR n R {r.c with sent := []} (cmdS {r.c with sent := r.c.sent ++ r.c.waiting} r.st (r.c.sent ++ r.c.waiting)) ≤ _;rw [h.sn];have e2 : ({r.c with sent := r.c.sent ++ r.c.waiting} : Ctl) = {r.c with sent := [] ++ r.c.waiting} := by rw [h.sn]
    rw [e2] at this;have : mR n R {r.c with sent:=[]} (cmdS {r.c with sent:=[] ++ r.c.waiting} r.st ([] ++ r.c.waiting)) ≤ mR n R r.c r.st + 3 * n:=this;omega
  by_cases k : e.kind = 7
  · rw [ev7 k];obtain ⟨g1,g2⟩:=(canT7 k).1 (can_dev hc (by omega) (by omega)).2.2;have hA:=inv_out h.toInvA h0 (s:=r.st.getD e.dev.toNat psD) fun hn=>dev_skip (h.dv _ hn) g1;rw [set_self] at hA;have h1:=mR_adv P Q hA.ct hA.sn hA.sl;exact Int.le_trans (b:=mR n R r.c r.st) h1 (by omega)
  by_cases k : e.kind = 8
  · rw [ev8 k];have hb := ((can8 k).1 hc).2;have hbf : r.c.back = false := by simpa using hb
    have hc2:=h.ct.bk hb;have hc0:=(h.ct.sq.2.1 hbf);have hrd:=h.ct.rd;have em : mR n R {r.c with back:=true} r.st ≤ mR n R r.c r.st + 48:=by
      have e1 : measC R.length {r.c with back:=true} = r.c.round + 1:=by unfold measC;rw [if_pos rfl]
      have e2:=meas_pos h.ct;have e3 : 3 * (n : Int) * (r.c.round + 1) ≤ 48:=by
        have : 3 * (n : Int) * (r.c.round + 1) ≤ 12 * 4:=Int.mul_le_mul (by omega) (by omega) (by omega) (by omega);omega
      have e4 : 0 ≤ 3 * (n : Int) * measC R.length r.c:=Int.mul_nonneg (by omega) e2;unfold mR;rw [e1];show _ + sumN (fun d=>mS (r.c.known.getD d 0) _) n ≤ _;omega
    unfold abortC;rw [if_neg hb]
    by_cases hr : (R.length : Int) ≤ r.c.round
    · rw [start_no (c:={r.c with back:=true}) (.inr hr)];exact Int.le_trans (mR_adv P Q hc2 h.sn h.sl (st:=r.st)) (Int.le_trans em (by omega))
    · have h0 : 0 ≤ ({r.c with back := true} : Ctl).round := hc0.2;have h1 : ({r.c with back := true} : Ctl).round < R.length := by show r.c.round < _; omega
      unfold advA;rw [adv_stop (start_at P Q hc2 h0 h1).ne];exact Int.le_trans (mR_start P Q hc2 (st:=r.st) ⟨fun e=>(by cases e),fun _=>by show r.c.seq + r.c.round ≤ _;omega⟩ h.sn h.sl h0 h1) (Int.le_trans (Int.add_le_add_right em _) (by omega))
  · exact absurd (can_dev hc (by omega) (by omega)).2.2 (canT0 (by omega) (by omega) (by omega) (by omega) (by omega) (by omega))
end
def PlnI (st : Bool) (n : Int) (R : List (List Chg)) (now : List Int) : Prop:=(now.length = n.toNat ∧ ∀ k,0 ≤ now.getD k 0 ∧ now.getD k 0 ≤ 3) ∧ ∃ acc,∀ rs,stsA st n [zerosP n] (zerosP n) (R ++ rs) = stsA st n acc now rs
def RndI (st : Bool) (n : Int) (now : List Int) (l : List Chg) (last : Int) (cur : List Int) : Prop:=(cur.length = n.toNat ∧ ∀ k,0 ≤ cur.getD k 0 ∧ cur.getD k 0 ≤ 3) ∧ ∀ rest,rndP st n (-1) now (l ++ rest) = rndP st n last cur rest
theorem zerosP_le (n : Int) (k : Nat) : 0 ≤ (zerosP n).getD k 0 ∧ (zerosP n).getD k 0 ≤ 3:=by
  unfold zerosP;rw [List.getD_eq_getElem?_getD,List.getElem?_replicate]
  split <;> decide
theorem PlnI.init (st : Bool) (n : Int) : PlnI st n [] (zerosP n):=⟨⟨by simp [zerosP],zerosP_le n⟩,_,fun _=>rfl⟩
theorem RndI.init {st : Bool} {n : Int} {now : List Int} {R : List (List Chg)} (h : PlnI st n R now) : RndI st n now [] (-1) now:=⟨h.1,fun _=>rfl⟩
theorem getD_set_le {l : List Int} {d k : Nat} {v : Int} (h : ∀ k,0 ≤ l.getD k 0 ∧ l.getD k 0 ≤ 3) (h0 : 0 ≤ v) (hv : v ≤ 3) : 0 ≤ (l.set d v).getD k 0 ∧ (l.set d v).getD k 0 ≤ 3:=by
  have:=h k;rw [List.getD_eq_getElem?_getD] at this ⊢;rw [List.getElem?_set]
  split
  · split <;> simp [h0,hv]
  · exact this
theorem RndI.step {st : Bool} {n last d v : Int} {now cur : List Int} {l : List Chg} (h : RndI st n now l last cur) (hl : -1 ≤ last) (h1 : last < d) (h2 : d < n) (h3 : cur.getD d.toNat 0 < v) (h4 : v ≤ 3) (h5 : ¬ st = true → v = 3) : RndI st n now (l ++ [⟨d,v⟩]) d (cur.set d.toNat v) :=
  ⟨⟨by rw [List.length_set];exact h.1.1,fun k=>getD_set_le h.1.2 (by have:=(h.1.2 d.toNat).1;omega) h4⟩,fun rest=>by
    rw [List.append_assoc,List.singleton_append,h.2]
    exact rndP_go (c:=⟨d,v⟩) (by
      show ¬ (d ≤ last ∨ n ≤ d ∨ v ≤ cur.getD d.toNat 0 ∨ 3 < v ∨ (¬ st = true ∧ v ≠ 3));rintro (q | q | q | q | q)
      · omega
      · omega
      · omega
      · omega
      · exact q.2 (h5 q.1))⟩
theorem RndI.nil {st : Bool} {n last : Int} {now cur : List Int} (h : RndI st n now [] last cur) : cur = now:=by
  have:=h.2 [];rw [List.append_nil,rndP,rndP] at this;exact (Option.some.inj this).symm
theorem PlnI.step {st : Bool} {n last : Int} {R : List (List Chg)} {now cur : List Int} {l : List Chg} (h : PlnI st n R now) (hr : RndI st n now l last cur) (h0 : l.length ≠ 0) : PlnI st n (R ++ [l]) cur:=by
  obtain ⟨acc,ha⟩:=h.2;refine ⟨hr.1,acc ++ [cur],fun rs=>?_⟩;rw [List.append_assoc,List.singleton_append,ha,stsA,if_neg h0];have:=hr.2 [];rw [List.append_nil] at this;rw [this,rndP]
theorem PlnI.some {st : Bool} {n : Int} {R : List (List Chg)} {now : List Int} (h : PlnI st n R now) (hn : 1 ≤ n ∧ n ≤ 12) : (statesP st R n).isSome = true:=by
  obtain ⟨acc,ha⟩:=h.2;have:=ha [];rw [List.append_nil,stsA] at this;unfold statesP;rw [if_neg (by omega),this];rfl
def planG (p : Plan) (n : Int) : Prop:=goodP p n ∧ p.rounds.xs.length ≤ 3 ∧ ∀ x ∈ p.rounds.xs,0 < x.xs.length
section
variable {sg : Bool} {R : List (List Chg)} {S : List (List Int)} {n B : Nat} {x x1 : Run} {y y1 : RunR} {e : Evt}
structure Two (sg : Bool) (R : List (List Chg)) (S : List (List Int)) (n B : Nat) (x : Run) (y : RunR) : Prop where
  a : RunAt R S n B x
  b : QAt R S n B y
  e : absRR y = absR x
  g : y.b.2.staged = sg
theorem RunAt.mono {B' : Nat} (h : RunAt R S n B x) (hB : B ≤ B') : RunAt R S n B' x:=⟨ROK.mono h.ok hB,h.s0,h.rd,h.st,h.tn⟩
theorem QAt.mono {B' : Nat} (h : QAt R S n B y) (hB : B ≤ B') : QAt R S n B' y:=⟨⟨h.ok.1,ROK.mono h.ok.2 hB⟩,h.s0,h.rd,h.st,h.tn⟩
theorem Two.mono {B' : Nat} (h : Two sg R S n B x y) (hB : B ≤ B') : Two sg R S n B' x y:=⟨h.a.mono hB,h.b.mono hB,h.e,h.g⟩
def DoX (x x1 : Run) (e : Evt) : Prop:=(canR (absR x) e → KeepR x x1 ∧ absR x1 = doR (rdsM x.m.2) (stsM x.m.2) (absR x) e) ∧ (¬ canR (absR x) e → x1 = x)
def DoY (y y1 : RunR) (e : Evt) : Prop:=(canR (absRR y) e → KeepQ y y1 ∧ absRR y1 = doR (rdB y.b.2) (stB y.b.2) (absRR y) e) ∧ (¬ canR (absRR y) e → y1 = y)
theorem RunAt.step (h : RunAt R S n B x) (hx : DoX x x1 e) : RunAt R S n (B + 1001) x1 ∧ (canR (absR x) e → absR x1 = doR R S (absR x) e) ∧ (¬ canR (absR x) e → x1 = x):=by
  by_cases hc : canR (absR x) e
  · obtain ⟨k1,k2⟩:=hx.1 hc;exact ⟨h.go hc k1 k2,fun _=>by rw [k2,h.rd,h.st],fun q=>absurd hc q⟩
  · have:=hx.2 hc;subst this;exact ⟨h.mono (by omega),fun q=>absurd q hc,fun _=>rfl⟩
theorem QAt.step (h : QAt R S n B y) (hy : DoY y y1 e) : QAt R S n (B + 1001) y1 ∧ (canR (absRR y) e → absRR y1 = doR R S (absRR y) e ∧ y1.b.2.staged = y.b.2.staged) ∧ (¬ canR (absRR y) e → y1 = y):=by
  by_cases hc : canR (absRR y) e
  · obtain ⟨k1,k2⟩:=hy.1 hc;exact ⟨h.go hc k1 k2,fun _=>⟨by rw [k2,h.rd,h.st],k1.2.2.1⟩,fun q=>absurd hc q⟩
  · have:=hy.2 hc;subst this;exact ⟨h.mono (by omega),fun q=>absurd q hc,fun _=>rfl⟩
theorem Two.step (h : Two sg R S n B x y) (hx : DoX x x1 e) (hy : DoY y y1 e) : Two sg R S n (B + 1001) x1 y1:=by
  obtain ⟨a1,a2,a3⟩:=h.a.step hx;obtain ⟨b1,b2,b3⟩:=h.b.step hy
  by_cases hc : canR (absR x) e
  · have hc' : canR (absRR y) e := by rw [h.e]; exact hc
    refine ⟨a1,b1,?_,(b2 hc').2.trans h.g⟩;rw [(b2 hc').1,a2 hc,h.e]
  · have hc' : ¬ canR (absRR y) e := by rw [h.e]; exact hc
    have:=a3 hc;have:=b3 hc';subst x1 y1;exact ⟨a1,b1,h.e,h.g⟩
structure Beg (sg : Bool) (R : List (List Chg)) (S : List (List Int)) (n : Nat) (x : Run) (y : RunR) : Prop where
  P : PlanOK n R S
  Q : PlanS R S
  n1 : 1 ≤ n
  n4 : n ≤ 4
  R3 : R.length ≤ 3
  st : statesP sg R n = some S
  T : Two sg R S n 1000 x y
  I : InvR n R S (absR x)
  M : mR n R (absR x).c (absR x).st ≤ 60
structure Run2 (sg : Bool) (R : List (List Chg)) (S : List (List Int)) (n k : Nat) (x : Run) (y : RunR) : Prop where
  T : Two sg R S n (1000 + 1001 * k) x y
  I : InvR n R S (absR x)
  M : mR n R (absR x).c (absR x).st ≤ 60 + 60 * k
theorem Beg.two (h : Beg sg R S n x y) : Run2 sg R S n 0 x y:=⟨h.T,h.I,by have:=h.M;omega⟩
theorem Run2.step {x0 : Run} {y0 : RunR} {k : Nat} (h : Run2 sg R S n k x y) (H : Beg sg R S n x0 y0) (hx : DoX x x1 e) (hy : DoY y y1 e) : Run2 sg R S n (k + 1) x1 y1:=by
  have hT:=h.T.step hx hy;obtain ⟨a1,a2,a3⟩:=h.T.a.step hx;refine ⟨hT.mono (by omega),?_,?_⟩
  · by_cases hc : canR (absR x) e
    · rw [a2 hc];exact inv_do H.P H.Q h.I hc
    · rw [a3 hc];exact h.I
  · have hM := h.M
    by_cases hc : canR (absR x) e
    · rw [a2 hc];have:=mR_any H.P H.Q h.I H.n4 H.R3 hc;omega
    · rw [a3 hc];omega
theorem Run2.sm {x0 : Run} {y0 : RunR} {k : Nat} (h : Run2 sg R S n k x y) (H : Beg sg R S n x0 y0) (hk : k ≤ 1000) (hx : DoX x x1 e) (hy : DoY y y1 e) : RunOK 8000000 x1 ∧ RRunOK 8000000 y1 ∧ absRR y1 = absR x1 ∧ rdB y1.b.2 = rdsM x1.m.2:=by
  have hT:=(h.step H hx hy).T;exact ⟨ROK.mono hT.a.ok (by omega),⟨hT.b.ok.1,ROK.mono hT.b.ok.2 (by omega)⟩,hT.e,hT.b.rd.trans hT.a.rd.symm⟩
theorem RunAt.ok7 (h : RunAt R S n B x) (hB : B ≤ 7000000) : RunOK 7000000 x ∧ SnOK x.m.2.target.xs.length 0 (absR x).c:=⟨ROK.mono h.ok hB,by rw [h.tn];exact h.s0⟩
theorem QAt.ok7 (h : QAt R S n B y) (hB : B ≤ 7000000) : RRunOK 7000000 y:=⟨h.ok.1,ROK.mono h.ok.2 hB⟩
theorem RRunOK.ev {B : Nat} (h : RRunOK B y) : LenR y ∧ y.b.2.waiting.xs.length ≤ 1000 ∧ y.ag.xs.length ≤ 12:=by
  have h12:=h.2.n2;have hw : y.b.2.waiting.xs.length ≤ y.ag.xs.length:=h.2.ct.wt.len;exact ⟨h.1,by omega,h12⟩
theorem RunAt.len (h : RunAt R S n B x) : x.sts.xs.length = n:=by
  have h1:=h.ok.sl;have h2 : (absR x).st.length = x.sts.xs.length:=List.length_map _;have:=h.tn;omega
end
open Go.RowKit Go.Proofs.Ytobggnpnochnnaa
theorem gPlan (w : World) (F : Nat → Prop) (hF : Old F w) (T : Nat) (M : MS [one T] w) (T_l : Sl Int) (T_w : (slE intE).wf (Fr F [one T]) w.heap T_l) (T_K : TpB 112 T T_l w) (n : Int) (n_h : inI64 n) (hn : 1 ≤ n ∧ n ≤ 12) :
 Calls Try.prog 30 #[pT T 0,iI n] w fun e w'=>∃ (r : Plan),e = .returned (.agg (planE.cells r).toArray) ∧ planE.wf (Fr F [one T]) w'.heap r ∧ planG r n ∧ TpB 112 T T_l w' ∧ Tr [one T] w [one T] w':=by
 obtain ⟨n_hl,n_hu⟩ : inI64 n:=id n_h;refine go Try.func30 rfl 73 rfl [wfF (slE intE) T_l] [tpO 112 T T_l] hF M ⟨T_w,trivial⟩ ⟨T_K,trivial⟩ ?_;intro a S;refine rs0 ?_;refine nbp S (x_allocz _ iZ47 rfl) ?_;clear S;intro a u b4 S;refine ent (rs0 ?_);refine sp S (la (mv rfl)) ?_;clear S;intro a u S;refine cl S (gNext _ _ S.x T (S.M.pick [0] (by decide)) T_l (dn1 (js:=[0]) (S.u 0 rfl)) (S.t 0 rfl) 2 ⟨by omega,by omega⟩) cB26 ?_;rintro e u ⟨r_t12,rfl,hr_t12,tK,T0⟩;refine ⟨_,rfl,fun a s=>?_⟩;replace S:=S.k1 0 rfl s T0 tK;clear s T0 tK;refine sp S (la (eqli rfl rfl)) ?_;clear S;intro a u S;obtain ⟨bv13,hbv13⟩ : ∃ b : Bool,(b = true) ↔ (r_t12 = 0):=⟨decide (r_t12 = 0),by simp⟩;replace S:=S.ext (d:=13) (v:=bD (bv13 = true)) ((S.get 13 rfl).trans (vb hbv13.symm));refine sp S (la (ov fun S=>x_bd S [(0,bD (bv13 = true))] [bD (bv13 = true),.slice none 0 0])) ?_;clear S;intro a u S;refine nbp S (x_allocz _ iZ47 rfl) ?_;clear S;intro a u b5 S;refine ens S (la (stkw 2 rfl rfl rfl)) ?_;clear S;intro a u S;refine rs0 ?_;refine sp S (la (mv rfl)) ?_;clear S;intro a u S;refine mk (E:=intE) S (0 : Int) (n).toNat uT22 iZ3 rfl rfl bo bo bo (by unfold maxLen;omega) (fun _ _=>by first | exact ⟨by omega,by omega⟩ | trivial | exact sl_nil) ?_;clear S;intro a u ad16 S;have hrl16 : (List.replicate (n).toNat (0 : Int)).length = (n).toNat:=List.length_replicate;refine ens S (la (av rfl)) ?_;clear S;intro a u S;refine wp_seq (rs0 ?_);refine sp S (la (mv rfl)) ?_;clear S;intro a u S;refine cl S (gNext _ _ S.x T (S.M.pick [0] (by decide)) T_l (dn1 (js:=[0]) (S.u 0 rfl)) (S.t 0 rfl) 4 ⟨by omega,by omega⟩) cB26 ?_;rintro e u ⟨r_t18,rfl,hr_t18,tK,T0⟩;refine ⟨_,rfl,fun a s=>?_⟩;replace S:=S.k1 0 rfl s T0 tK;clear s T0 tK;refine ens S (la (av rfl)) ?_;clear S;intro a u S;refine wp_block ?_;replace S:=S.nr (slE chgE) 122;refine lp7 (fun (r : Int) (rd_a : Option Addr) (rd_c : Nat) (rd : List (Sl Chg)) (now_a : Option Addr) (now_c : Nat) (now : List Int)=>[(0,pT T 0),(1,iI n),(4,pT b4 0),(5,pT b5 0),(6,.slice now_a now.length now_c),(7,iI r)]) (fun (r : Int) (rd_a : Option Addr) (rd_c : Nat) (rd : List (Sl Chg)) (now_a : Option Addr) (now_c : Nat) (now : List Int)=>[tpO 112 T T_l,blO b4 [.bool false,.slice none 0 0] 47,blO b5 [bD (bv13 = true),.slice rd_a rd.length rd_c] 47,rwO intE 3 w.heap.size now_a now_c now,rwO (slE chgE) 122 w.heap.size rd_a rd_c rd]) (fun (r : Int) (rd_a : Option Addr) (rd_c : Nat) (rd : List (Sl Chg)) (now_a : Option Addr) (now_c : Nat) (now : List Int)=>(0 ≤ r ∧ r ≤ 3) ∧ (rd.length : Int) + r ≤ 3 ∧ PlnI bv13 n (rd.map fun l=>l.xs) now ∧ ∀ x ∈ rd,0 < x.xs.length) (fun (r : Int) (rd_a : Option Addr) (rd_c : Nat) (rd : List (Sl Chg)) (now_a : Option Addr) (now_c : Nat) (now : List Int)=>r.toNat) S r_t18 none 0 ([]) ad16 ((n).toNat) (List.replicate (n).toNat (0 : Int)) (subM rfl) rfl ?_ ?_
 ·exact ⟨⟨by omega,by omega⟩,by simp;omega,PlnI.init _ n,fun x h=>by cases h⟩
 clear S;intro r rd_a rd_c rd now_a now_c now a u S hR;have rd_len:=(S.row 4 rfl).len_le;simp only [maxLen] at rd_len;have now_len:=(S.row 3 rfl).len_le;simp only [maxLen] at now_len;obtain ⟨⟨hr0,hr3⟩,hrl,hP,hne⟩:=hR;refine wp_seq ?_;refine rs S (tr (mv rfl)<|la (gtri rfl rfl)) ?_;clear S;intro a u S;refine cd S rfl ?_ ?_
 ·intro hc0;refine wp_skip (then_n (wp_seq (wp_block ?_)));refine rs S (la (av rfl)) ?_; clear S; intro a u S;refine wp_seq ?_;refine rs S (la (av rfl)) ?_; clear S; intro a u S;refine wp_block ?_;replace S := S.nr chgE 124;refine lp8 (fun (d : Nat) (ls : Int) (l_a : Option Addr) (l_c : Nat) (l : List Chg) (cur_a : Option Addr) (cur_c : Nat) (cur : List Int) => [(0, pT T 0), (1, iI n), (4, pT b4 0), (5, pT b5 0), (6, .slice cur_a cur.length cur_c), (7, iI r), (19, iI r), (20, bD (0 < r)), (9, iN d), (8, .slice l_a l.length l_c)]) (fun (d : Nat) (ls : Int) (l_a : Option Addr) (l_c : Nat) (l : List Chg) (cur_a : Option Addr) (cur_c : Nat) (cur : List Int) => [tpO 112 T T_l, blO b4 [.bool false, .slice none 0 0] 47, blO b5 [bD (bv13 = true), .slice rd_a rd.length rd_c] 47, rwO intE 3 w.heap.size cur_a cur_c cur, rwO (slE chgE) 122 w.heap.size rd_a rd_c rd, rwO chgE 124 w.heap.size l_a l_c l]) (fun (d : Nat) (ls : Int) (l_a : Option Addr) (l_c : Nat) (l : List Chg) (cur_a : Option Addr) (cur_c : Nat) (cur : List Int) => (d : Int) ≤ n ∧ (-1 ≤ ls ∧ ls < d) ∧ (l.length : Int) ≤ d ∧ RndI bv13 n now l ls cur) (fun (d : Nat) (ls : Int) (l_a : Option Addr) (l_c : Nat) (l : List Chg) (cur_a : Option Addr) (cur_c : Nat) (cur : List Int) => (n - d).toNat) S 0 (-1) none 0 ([]) now_a now_c now (subM rfl) rfl ?_ ?_
  ·exact ⟨by omega,⟨by omega,by omega⟩,by simp,RndI.init hP⟩
  clear S;intro d ls l_a l_c l cur_a cur_c cur a u S hR;have l_len:=(S.row 5 rfl).len_le;simp only [maxLen] at l_len;have cur_len:=(S.row 3 rfl).len_le;simp only [maxLen] at cur_len;obtain ⟨hd,⟨hla0,hla1⟩,hll,hI⟩:=hR;have hcl2:=hI.1.1;have hcu : ∀ k,0 ≤ cur.getD k intE.dflt ∧ cur.getD k intE.dflt ≤ 3:=hI.1.2;refine wp_seq ?_;refine rs S (tr (mv rfl)<|tr (mv rfl)<|la (lssi rfl rfl)) ?_;clear S;intro a u S;refine cd S rfl ?_ ?_
  ·intro hc1;have hcd := hcu d;refine wp_skip (then_n (wp_seq (wp_block (wp_seq (rs0 ?_)))));obtain ⟨hl10, hu10⟩ : inI64 (cur.getD d intE.dflt) := id ((S.row 3 rfl).wfi d bo);refine sp S (tr (mv rfl)<|tr (mv rfl)<|tr (ov fun S=>x_idx uT22 sZ3 (S.e rfl) (S.e rfl) d rfl bo (row_off (S.row 3 rfl) (m := d) bo))<|tr (ov fun S=>x_load sC3 (S.e rfl) (((S.row 3 rfl).latz nz).cell d bo 0 _ rfl))<|tr (eqli rfl rfl)<|la (mv rfl)) ?_; clear S; intro a u S;refine (Classical.em ((cur.getD d intE.dflt) = 3)).elim (fun hs11 => ?_) (fun hs11 => ?_)
   ·replace S := S.ext (d := 33) (v := .bool true) ((S.get 33 rfl).trans (congrArg Value.bool (decide_eq_true hs11)));refine ens S (tr (goff 33 rfl)<|tr (goff 33 rfl)<|tr (goff 33 rfl)<|la (ov fun S=>x_pickt (S.e rfl) (S.e rfl))) ?_; clear S; intro a u S;refine cdt S rfl ?_;refine wp_exit (then_e (blk_e (then_n ?_)));refine rg S (tr (mv rfl)<|tr (addi ((d + 1 : Nat) : Int) rfl rfl (w_i64 bo))<|la (av rfl)) ?_; clear S; intro a u S;refine then_n ?_;refine ⟨(d + 1), ls, l_a, l_c, l, cur_a, cur_c, cur, S.re (subM rfl) rfl rfl, ?_, ?_⟩
    ·first
     | exact ⟨by omega,⟨by omega,by omega⟩,by omega,hI⟩
     | (refine ⟨by omega, ⟨by omega, by omega⟩, by rw [List.length_append, List.length_singleton]; omega, ?_⟩
        have hcd0 : cur.getD ((d : Int)).toNat 0 = cur.getD d intE.dflt:=rfl
        exact RndI.step (d:=(d : Int)) hI hla0 hla1 bo (by rw [hcd0];omega) bo (fun q=>by first | rfl | exact absurd hsg q))
    omega
   replace S:=S.ext (d:=33) (v:=.bool false) ((S.get 33 rfl).trans (congrArg Value.bool (decide_eq_false hs11)));refine sp S (la (gon 33 rfl fun S=>x_move (S.e rfl))) ?_;clear S;intro a u S;refine strip S.s rfl rfl (gd:=33) rfl ?_;refine cl S (gNext _ _ S.x T (S.M.pick [0] (by decide)) T_l (dn1 (js:=[0]) (S.u 0 rfl)) (S.t 0 rfl) 2 ⟨by omega,by omega⟩) cB26 ?_;rintro e u ⟨r_t35,rfl,hr_t35,tK,T0⟩;refine ⟨_,rfl,fun a s=>?_⟩;replace S:=S.k1 0 rfl s T0 tK;clear s T0 tK;refine ens S (tr (gon 33 rfl fun S=>x_eql (S.e rfl) (S.e rfl))<|la (ov fun S=>x_pickf (S.e rfl) (S.e rfl))) ?_;clear S;intro a u S;refine cd S rfl ?_ ?_
   ·intro hc2;refine wp_exit (then_e (blk_e (then_n ?_)));refine rg S (tr (mv rfl)<|tr (addi ((d + 1 : Nat) : Int) rfl rfl (w_i64 bo))<|la (av rfl)) ?_; clear S; intro a u S;refine then_n ?_;refine ⟨(d + 1), ls, l_a, l_c, l, cur_a, cur_c, cur, S.re (subM rfl) rfl rfl, ?_, ?_⟩
    ·first
     | exact ⟨by omega,⟨by omega,by omega⟩,by omega,hI⟩
     | (refine ⟨by omega, ⟨by omega, by omega⟩, by rw [List.length_append, List.length_singleton]; omega, ?_⟩
        have hcd0 : cur.getD ((d : Int)).toNat 0 = cur.getD d intE.dflt:=rfl
        exact RndI.step (d:=(d : Int)) hI hla0 hla1 bo (by rw [hcd0];omega) bo (fun q=>by first | rfl | exact absurd hsg q))
    omega
   intro hc3;refine wp_skip (then_n ?_);refine rs S (la (av rfl)) ?_;clear S;intro a u S;refine wp_seq ?_;refine rs S (tr (fldi 0 0 rfl uT47)<|la (ldk 2 sC4 rfl rfl rfl)) ?_;clear S;intro a u S;refine cd S rfl ?_ ?_
   ·intro hc4;have hsg := hc4;replace S := S.l [(0, pT T 0), (1, iI n), (4, pT b4 0), (5, pT b5 0), (6, .slice cur_a cur.length cur_c), (7, iI r), (19, iI r), (20, bD (0 < r)), (9, iN d), (8, .slice l_a l.length l_c)] (subM rfl);refine dr (P := Try.prog) S 14 [one T] [(40, .is _), (41, .is _), (42, .is _), (43, .is _), (44, .is _), (45, .is _), (46, .is _), (47, .is _), (48, .is _), (49, .is _), (50, .is _), (51, .of (fun z w => ∃ (x51a : Int), z = iI x51a ∧ (0 ≤ x51a ∧ (x51a < (3 - (cur.getD d intE.dflt)) ∨ x51a = 0))) (fun v w w' c h => let ⟨x51a, hv, h0⟩ := h; ⟨x51a, hv, h0⟩)), (52, .of (fun z w => ∃ (x51a : Int), z = iI (((cur.getD d intE.dflt) + 1) + x51a) ∧ (0 ≤ x51a ∧ (x51a < (3 - (cur.getD d intE.dflt)) ∨ x51a = 0))) (fun v w w' c h => let ⟨x51a, hv, h0⟩ := h; ⟨x51a, hv, h0⟩)), (10, .of (fun z w => ∃ (x51a : Int), z = iI (((cur.getD d intE.dflt) + 1) + x51a) ∧ (0 ≤ x51a ∧ (x51a < (3 - (cur.getD d intE.dflt)) ∨ x51a = 0))) (fun v w w' c h => let ⟨x51a, hv, h0⟩ := h; ⟨x51a, hv, h0⟩))] [[], [], [40, 41], [42], [43], [], [], [], [46, 47], [48], [49], [45, 50], [44, 51], [52]] [10] _ ⟨qd (mv rfl), qd (mv rfl), qd (ov fun S=>x_idx uT22 sZ3 (S.e rfl) (S.e rfl) d rfl bo (row_off (S.row 3 rfl) (m := d) bo)), qd (ov fun S=>x_load sC3 (S.e rfl) (((S.row 3 rfl).latz nz).cell d bo 0 _ rfl)), qd (addi ((cur.getD d intE.dflt) + 1) rfl rfl (w_i64 bo)), qd (mv rfl), qd (mv rfl), qd (mv rfl), qd (ov fun S=>x_idx uT22 sZ3 (S.e rfl) (S.e rfl) d rfl bo (row_off (S.row 3 rfl) (m := d) bo)), qd (ov fun S=>x_load sC3 (S.e rfl) (((S.row 3 rfl).latz nz).cell d bo 0 _ rfl)), qd (subi (3 - (cur.getD d intE.dflt)) rfl rfl (w_i64 bo)), ?_, ?_, ?_, trivial⟩ ?_
    ·skip;intro a u S G hE;refine hcl S (gNext _ _ S.x T (S.M.pick [0] (by decide)) T_l (dn1 (js:=[0]) (S.u 0 rfl)) (S.t 0 rfl) (3 - (cur.getD d intE.dflt)) ⟨by omega,by omega⟩) cB26 ?_;rintro e w2 ⟨r_h51,rfl,hr_h51,tK,T0⟩;refine ⟨_,rfl,(show ∃ _,_ from ?_),T0.ch,(S.k1 0 rfl S.s T0 tK).m⟩;exact ⟨r_h51,rfl,hr_h51⟩
    ·skip;intro a u S G hE;obtain ⟨e51,-⟩:=hE;have M0:=S.m;obtain ⟨x51_16,e51,hr16⟩:=e51;replace S:=S.ext e51;exact hvl 52 S M0 (v:=iI (((cur.getD d intE.dflt) + 1) + x51_16)) (x_add (S.e rfl) (S.e rfl) (r:=(((cur.getD d intE.dflt) + 1) + x51_16)) (w_i64 bo)) (show ∃ _,_ from ⟨x51_16,rfl,hr16⟩)
    ·skip;intro a u S G hE;obtain ⟨e52,-⟩:=hE;have M0:=S.m;obtain ⟨x51_17,e52,hr17⟩:=e52;replace S:=S.ext e52;exact hvl 10 S M0 (v:=iI (((cur.getD d intE.dflt) + 1) + x51_17)) (x_assign (S.e rfl)) (show ∃ _,_ from ⟨x51_17,rfl,hr17⟩)
    clear S;intro a u S G hE;obtain ⟨e10,-⟩:=hE;obtain ⟨x51_18,e10,hr18⟩:=e10;replace S:=S.ext e10;clear e10;refine ent (rs0 ?_);refine sp S (tr (mv rfl)<|tr (mv rfl)<|tr (mv rfl)<|la (ov fun S=>x_idx uT22 sZ3 (S.e rfl) (S.e rfl) d rfl bo (row_off (S.row 3 rfl) (m:=d) bo))) ?_;clear S;intro a u S;refine sp S (la (str (E:=intE) 3 (by kernel_rfl) rfl rfl rfl d 0 bo nz (((cur.getD d intE.dflt) + 1) + x51_18) (fun S=>(show inI64 (((cur.getD d intE.dflt) + 1) + x51_18) from ⟨by omega,by omega⟩)) rfl (by first | rfl | (show _ = _ * 1 + 0;omega) | (simp [intE];omega) | simp [intE]) rfl)) ?_;clear S;intro a u S;have hls20 : (cur.set d (((cur.getD d intE.dflt) + 1) + x51_18)).length = cur.length:=by simp
    refine ent (r0 ?_);refine sp S (tr (mv rfl)<|tr (mv rfl)<|tr (mv rfl)<|la (ov fun S=>x_bd S [(0,iN d),(1,iI (((cur.getD d intE.dflt) + 1) + x51_18))] [iN d,iI (((cur.getD d intE.dflt) + 1) + x51_18)])) ?_;clear S;intro a u S;refine nbs chgE S [(⟨((d : Nat) : Int),(((cur.getD d intE.dflt) + 1) + x51_18)⟩ : Chg)] (x_bs S [(0,.agg #[iN d,iI (((cur.getD d intE.dflt) + 1) + x51_18)])] uT122 iZ124) (fun x hx=>by simp only [List.mem_cons,List.not_mem_nil,or_false] at hx;rw [hx];exact (show chgE.wf _ _ (⟨((d : Nat) : Int),(((cur.getD d intE.dflt) + 1) + x51_18)⟩ : Chg) from ⟨(show inI64 ((d : Nat) : Int) from ⟨by omega,by omega⟩),(show inI64 (((cur.getD d intE.dflt) + 1) + x51_18) from ⟨by omega,by omega⟩)⟩)) ?_;clear S;intro a u b61 S;refine ap (E:=chgE) (ys:=[(⟨((d : Nat) : Int),(((cur.getD d intE.dflt) + 1) + x51_18)⟩ : Chg)]) S 5 rfl uT122 iZ124 rfl rfl (show LAt chgE _ _ (some ⟨b61,0,none⟩) ([(⟨((d : Nat) : Int),(((cur.getD d intE.dflt) + 1) + x51_18)⟩ : Chg)]) from ((S.u 1 rfl)).1) ((S.u 1 rfl)).2.2 (LAt.mem (show LAt chgE _ _ (some ⟨b61,0,none⟩) ([(⟨((d : Nat) : Int),(((cur.getD d intE.dflt) + 1) + x51_18)⟩ : Chg)]) from ((S.u 1 rfl)).1)) ⟨by unfold maxLen;(try simp only [List.length_cons,List.length_nil,List.length_append,List.length_map]);omega,by (try simp only [List.length_cons,List.length_nil,List.length_append,List.length_map]);omega⟩ ?_;clear S;intro a u ad62 cap62 S;refine en S (la (av rfl)) ?_;clear S;intro a u S;refine blk_n (then_n ?_);refine rg S (tr (mv rfl)<|tr (addi ((d + 1 : Nat) : Int) rfl rfl (w_i64 bo))<|la (av rfl)) ?_;clear S;intro a u S;refine then_n ?_;refine ⟨(d + 1),(d : Int),ad62,cap62,(l ++ [(⟨((d : Nat) : Int),(((cur.getD d intE.dflt) + 1) + x51_18)⟩ : Chg)]),cur_a,cur_c,(cur.set d (((cur.getD d intE.dflt) + 1) + x51_18)),S.re ⟨rfl,rfl,rfl,rfl,(by first | rfl | (simp only [List.length_set];rfl)),rfl,rfl,rfl,rfl,(by first | rfl | (simp only [List.length_set];rfl)),trivial⟩ rfl rfl,?_,?_⟩
    ·first
     | exact ⟨by omega,⟨by omega,by omega⟩,by omega,hI⟩
     | (refine ⟨by omega, ⟨by omega, by omega⟩, by rw [List.length_append, List.length_singleton]; omega, ?_⟩
        have hcd0 : cur.getD ((d : Int)).toNat 0 = cur.getD d intE.dflt:=rfl
        exact RndI.step (d:=(d : Int)) hI hla0 hla1 bo (by rw [hcd0];omega) bo (fun q=>by first | rfl | exact absurd hsg q))
    omega
   intro hc5;have hsg:=hc5;refine wp_skip (then_n (rs0 ?_));refine sp S (tr (mv rfl)<|tr (mv rfl)<|tr (mv rfl)<|la (ov fun S=>x_idx uT22 sZ3 (S.e rfl) (S.e rfl) d rfl bo (row_off (S.row 3 rfl) (m:=d) bo))) ?_;clear S;intro a u S;refine sp S (la (str (E:=intE) 3 (by kernel_rfl) rfl rfl rfl d 0 bo nz 3 (fun S=>(show inI64 3 from ⟨by omega,by omega⟩)) rfl (by first | rfl | (show _ = _ * 1 + 0;omega) | (simp [intE];omega) | simp [intE]) rfl)) ?_;clear S;intro a u S;have hls24 : (cur.set d 3).length = cur.length:=by simp
   refine ent (r0 ?_);refine sp S (tr (mv rfl)<|tr (mv rfl)<|tr (mv rfl)<|la (ov fun S=>x_bd S [(0,iN d),(1,iI 3)] [iN d,iI 3])) ?_;clear S;intro a u S;refine nbs chgE S [(⟨((d : Nat) : Int),3⟩ : Chg)] (x_bs S [(0,.agg #[iN d,iI 3])] uT122 iZ124) (fun x hx=>by simp only [List.mem_cons,List.not_mem_nil,or_false] at hx;rw [hx];exact (show chgE.wf _ _ (⟨((d : Nat) : Int),3⟩ : Chg) from ⟨(show inI64 ((d : Nat) : Int) from ⟨by omega,by omega⟩),(show inI64 3 from ⟨by omega,by omega⟩)⟩)) ?_;clear S;intro a u b61 S;refine ap (E:=chgE) (ys:=[(⟨((d : Nat) : Int),3⟩ : Chg)]) S 5 rfl uT122 iZ124 rfl rfl (show LAt chgE _ _ (some ⟨b61,0,none⟩) ([(⟨((d : Nat) : Int),3⟩ : Chg)]) from ((S.u 1 rfl)).1) ((S.u 1 rfl)).2.2 (LAt.mem (show LAt chgE _ _ (some ⟨b61,0,none⟩) ([(⟨((d : Nat) : Int),3⟩ : Chg)]) from ((S.u 1 rfl)).1)) ⟨by unfold maxLen;(try simp only [List.length_cons,List.length_nil,List.length_append,List.length_map]);omega,by (try simp only [List.length_cons,List.length_nil,List.length_append,List.length_map]);omega⟩ ?_;clear S;intro a u ad62 cap62 S;refine en S (la (av rfl)) ?_;clear S;intro a u S;refine blk_n (then_n ?_);refine rg S (tr (mv rfl)<|tr (addi ((d + 1 : Nat) : Int) rfl rfl (w_i64 bo))<|la (av rfl)) ?_;clear S;intro a u S;refine then_n ?_;refine ⟨(d + 1),(d : Int),ad62,cap62,(l ++ [(⟨((d : Nat) : Int),3⟩ : Chg)]),cur_a,cur_c,(cur.set d 3),S.re ⟨rfl,rfl,rfl,rfl,(by first | rfl | (simp only [List.length_set];rfl)),rfl,rfl,rfl,rfl,(by first | rfl | (simp only [List.length_set];rfl)),trivial⟩ rfl rfl,?_,?_⟩
   ·first
    | exact ⟨by omega,⟨by omega,by omega⟩,by omega,hI⟩
    | (refine ⟨by omega, ⟨by omega, by omega⟩, by rw [List.length_append, List.length_singleton]; omega, ?_⟩
       have hcd0 : cur.getD ((d : Int)).toNat 0 = cur.getD d intE.dflt:=rfl
       exact RndI.step (d:=(d : Int)) hI hla0 hla1 bo (by rw [hcd0];omega) bo (fun q=>by first | rfl | exact absurd hsg q))
   omega
  intro hc6;refine wp_exit (then_e (then_e (blk_e (then_n ?_))));refine rs S (tr (mv rfl)<|tr (leni uT122 rfl)<|la (gtri rfl rfl)) ?_;clear S;intro a u S;refine cd S rfl ?_ ?_
  ·intro hc7;refine r0 ?_;refine sp S (tr (fldi 0 1 rfl uT47)<|tr (ldk 2 sC45 rfl rfl rfl)<|la (mv rfl)) ?_; clear S; intro a u S;replace S := S.fz 5 rfl (by show 0 < chgE.n; decide);refine nbs (slE chgE) S [(Sl.mk l_a l_c l)] (x_bs S [(0, .slice l_a l.length l_c)] uT45 iZ122) (fun x hx => by simp only [List.mem_cons, List.not_mem_nil, or_false] at hx; rw [hx]; exact (show (slE chgE).wf _ _ (Sl.mk l_a l_c l) from (S.u 1 rfl))) ?_; clear S; intro a u b69 S;refine ap (E := (slE chgE)) (ys := [(Sl.mk l_a l_c l)]) S 4 rfl uT45 iZ122 rfl rfl (show LAt (slE chgE) _ _ (some ⟨b69, 0, none⟩) ([(Sl.mk l_a l_c l)]) from ((S.u 2 rfl)).1) ((S.u 2 rfl)).2.2 (LAt.mem (show LAt (slE chgE) _ _ (some ⟨b69, 0, none⟩) ([(Sl.mk l_a l_c l)]) from ((S.u 2 rfl)).1)) ⟨by unfold maxLen; (try simp only [List.length_cons, List.length_nil, List.length_append, List.length_map]); omega, by (try simp only [List.length_cons, List.length_nil, List.length_append, List.length_map]); omega⟩ ?_; clear S; intro a u ad70 cap70 S;refine en S (tr (fldi 0 1 rfl uT47)<|la (stk 2 rfl rfl rfl)) ?_; clear S; intro a u S;refine blk_n (then_n ?_);refine rg S (tr (mv rfl)<|tr (subi (r - 1) rfl rfl (w_i64 bo))<|la (av rfl)) ?_; clear S; intro a u S;refine then_n ?_;refine ⟨(r - 1), ad70, cap70, (rd ++ [(Sl.mk l_a l_c l)]), cur_a, cur_c, cur, S.re (subM rfl) rfl rfl, ?_, ?_⟩
   ·first
    | (have hl0 : l = [] := List.eq_nil_of_length_eq_zero bo
       subst hl0;have e:=hI.nil;subst e
       exact ⟨⟨by omega,by omega⟩,by omega,hP,hne⟩)
    | (refine ⟨⟨by omega, by omega⟩, by rw [List.length_append, List.length_singleton]; omega, ?_, fun x hx => ?_⟩
       ·rw [List.map_append];exact hP.step (l:=l) hI (show l.length ≠ 0 by omega)
       rcases List.mem_append.1 hx with q | q
       ·exact hne x q
       obtain rfl:=List.mem_singleton.1 q;show 0 < l.length
       omega)
   omega
  intro hc8;refine wp_skip (blk_n (then_n ?_));refine rg S (tr (mv rfl)<|tr (subi (r - 1) rfl rfl (w_i64 bo))<|la (av rfl)) ?_;clear S;intro a u S;refine then_n ?_;refine ⟨(r - 1),rd_a,rd_c,rd,cur_a,cur_c,cur,S.re (subM rfl) rfl rfl,?_,?_⟩
  ·first
   | (have hl0 : l = [] := List.eq_nil_of_length_eq_zero bo
      subst hl0;have e:=hI.nil;subst e
      exact ⟨⟨by omega,by omega⟩,by omega,hP,hne⟩)
   | (refine ⟨⟨by omega, by omega⟩, by rw [List.length_append, List.length_singleton]; omega, ?_, fun x hx => ?_⟩
      ·rw [List.map_append];exact hP.step (l:=l) hI (show l.length ≠ 0 by omega)
      rcases List.mem_append.1 hx with q | q
      ·exact hne x q
      obtain rfl:=List.mem_singleton.1 q;show 0 < l.length
      omega)
  omega
 intro hc9;refine wp_exit (then_e (then_e (blk_e (then_n ?_))));refine rs S (tr (ldkw 2 rfl rfl wD47)<|la (stkw 1 rfl rfl rfl)) ?_;clear S;intro a u S;refine wp_ret ?_;replace S:=S.fz 4 rfl;refine retcw rfl S.s rfl [bD (bv13 = true),.slice rd_a rd.length rd_c] wD47 (fun j v hv=>by rw [Nat.zero_add];exact (S.k 1 rfl).cell hv) ?_;replace S:=S.pkc [0];refine ⟨(⟨bv13,(Sl.mk rd_a rd_c rd)⟩ : Plan),rfl,⟨trivial,(S.u 1 rfl)⟩,?_,(S.t 0 rfl),S.m.c⟩;exact ⟨⟨PlnI.some hP hn,by show rd.length ≤ 16;omega⟩,by show rd.length ≤ 3;omega,hne⟩
open Go.RowKit Go.Proofs.Ytobggnpnochnnaa
theorem nOne (w : World) (F : Nat → Prop) (hF : Old F w) (M : MS [] w) :
 Calls Try.prog 97 #[] w fun e w'=>∃ (r : Plan),e = .returned (.agg (planE.cells r).toArray) ∧ planE.wf (Fr F []) w'.heap r ∧ (r.staged = false ∧ rdsP r = [[⟨0,3⟩]]) ∧ Tr [] w [] w':=by
 refine go Try.func97 rfl 5 rfl [] [] hF M trivial trivial ?_;intro a S;have hD : ∀ k,In ([] : List BS) k → ¬ F k:=fun _ h=>h.elim;refine rs0 ?_;refine nbp S (x_allocz _ iZ47 rfl) ?_;clear S;intro a u b0 S;refine ent (rs0 ?_);refine sp S (la (ov fun S=>x_bd S [(0,iI 0),(1,iI 3)] [iI 0,iI 3])) ?_;clear S;intro a u S;refine nbs chgE S [(⟨0,3⟩ : Chg)] (x_bs S [(0,.agg #[iI 0,iI 3])] uT122 iZ124) (fun x hx=>by simp only [List.mem_cons,List.not_mem_nil,or_false] at hx;rw [hx];exact (show chgE.wf _ _ (⟨0,3⟩ : Chg) from ⟨(show inI64 0 from ⟨by omega,by omega⟩),(show inI64 3 from ⟨by omega,by omega⟩)⟩)) ?_;clear S;intro a u b2 S;refine nbs (slE chgE) S [(Sl.mk (some ⟨b2,0,none⟩) 1 ([(⟨0,3⟩ : Chg)]))] (x_bs S [(0,.slice (some ⟨b2,0,none⟩) 1 1)] uT45 iZ122) (fun x hx=>by simp only [List.mem_cons,List.not_mem_nil,or_false] at hx;rw [hx];exact (show (slE chgE).wf _ _ (Sl.mk (some ⟨b2,0,none⟩) 1 ([(⟨0,3⟩ : Chg)])) from (S.u 0 rfl))) ?_;clear S;intro a u b3 S;refine ens S (tr (ov fun S=>x_bd S [(1,.slice (some ⟨b3,0,none⟩) 1 1)] [.bool false,.slice (some ⟨b3,0,none⟩) 1 1])<|la (stkw 0 rfl rfl rfl)) ?_;clear S;intro a u S;refine wp_ret ?_;refine retcw rfl S.s rfl [.bool false,.slice (some ⟨b3,0,none⟩) 1 1] wD47 (fun j v hv=>by rw [Nat.zero_add];exact (S.k 0 rfl).cell hv) ?_;replace S:=S.pk [];refine ⟨(⟨false,(Sl.mk (some ⟨b3,0,none⟩) 1 ([(Sl.mk (some ⟨b2,0,none⟩) 1 ([(⟨0,3⟩ : Chg)]))]))⟩ : Plan),rfl,⟨trivial,(S.u 1 rfl)⟩,?_,S.m.c⟩;exact ⟨rfl,rfl⟩
open Go.RowKit Go.Proofs.Ytobggnpnochnnaa
open Go.RowKit Go.Proofs.Ytobggnpnochnnaa
open Go.RowKit Go.Proofs.Ytobggnpnochnnaa
open Go.RowKit Go.Proofs.Ytobggnpnochnnaa
open Go.RowKit Go.Proofs.Ytobggnpnochnnaa
theorem SetI.mono {R : List (List Chg)} {S : List (List Int)} {n B B' : Nat} {x : Run} (h : RunAt R S n B x) (hB : B ≤ B') : RunAt R S n B' x:=h.mono hB
open Go.RowKit Go.Proofs.Ytobggnpnochnnaa
def oR1 : List (List Chg):=[[⟨0,3⟩]]
def oS1 : List (List Int):=[[0],[3]]
def ox0 : RunS:=newRS oR1 oS1 [false]
def ox1 : RunS:=doR oR1 oS1 ox0 ⟨1,0⟩
def ox2 : RunS:=doR oR1 oS1 ox1 ⟨3,0⟩
def oy0 : RunS:=newRS oR1 oS1 [true]
def oy1 : RunS:=doR oR1 oS1 oy0 ⟨1,0⟩
def oy2 : RunS:=doR oR1 oS1 oy1 ⟨2,0⟩
def oy3 : RunS:=doR oR1 oS1 oy2 ⟨3,0⟩
theorem one1 : statesP false oR1 1 = some oS1:=by decide +kernel
theorem oe1 : canR ox0 ⟨1,0⟩:=by decide +kernel
theorem oe2 : canR ox1 ⟨3,0⟩:=by decide +kernel
theorem oe3 : canR oy0 ⟨1,0⟩:=by decide +kernel
theorem oe4 : ¬ canR oy1 ⟨3,0⟩:=by decide +kernel
theorem oe5 : canR oy1 ⟨2,0⟩:=by decide +kernel
theorem oe6 : canR oy2 ⟨3,0⟩:=by decide +kernel
theorem oe7 : ¬ finC oR1.length ox0.c:=by decide +kernel
theorem oe8 : ¬ finC oR1.length oy1.c:=by decide +kernel
theorem oe9 : finC oR1.length ox2.c:=by decide +kernel
theorem oe10 : finC oR1.length oy3.c:=by decide +kernel
theorem oe11 : (agR ox2 0).run = 3 ∧ (agR ox2 0).up = true:=by decide +kernel
theorem oe12 : ox2.c.round = 1:=by decide +kernel
theorem oe13 : ¬ canR ox2 ⟨6,0⟩:=by decide +kernel
theorem oe14 : (posR ox2).length = 2:=by decide +kernel
theorem one_run {p : Plan} {x : Run} {v : Bool} (h : p.staged = false ∧ rdsP p = [[⟨0,3⟩]]) (hx : RunAt (rdsP p) (stsD (statesP p.staged (rdsP p) (([v] : List Bool).length : Int))) ([v] : List Bool).length 1000 x ∧ absR x = newRS (rdsP p) (stsD (statesP p.staged (rdsP p) (([v] : List Bool).length : Int))) [v]) : RunAt oR1 oS1 1 1000 x ∧ absR x = newRS oR1 oS1 [v]:=by
 rw [h.1,h.2] at hx;rw [show statesP false [[⟨0,3⟩]] (([v] : List Bool).length : Int) = some oS1 from one1] at hx;exact hx
open Go.RowKit Go.Proofs.Ytobggnpnochnnaa
theorem nSane (w : World) (F : Nat → Prop) (hF : Old F w) (M : MS [] w) :
 Calls Try.prog 48 #[] w fun e w'=>e = .returned (bD (True)) ∧ Tr [] w [] w':=by
 refine go Try.func48 rfl 142 rfl [] [] hF M trivial trivial ?_;intro a S;have hD : ∀ k,In ([] : List BS) k → ¬ F k:=fun _ h=>h.elim;refine rs S (la (av rfl)) ?_;clear S;intro a u S;refine rs0 ?_;refine cl S (nOne _ _ S.x (.nil _)) cB97 ?_;rintro e u ⟨r_t15,rfl,R_t15,hr_t15,T0⟩;refine ⟨_,rfl,fun a s=>?_⟩;replace S:=(S.k0 s T0).ar (wfF planE r_t15) (Enc.up _ R_t15);clear s T0 R_t15;have ho_t15:=one_len hr_t15;have hn3 : r_t15.rounds.xs.length ≤ 9223372036854775807:=((S.u 0 rfl).2).1.len;refine nbs boolE S [false] (x_bs S [(0,.bool false)] uT83 iZ4) (fun x hx=>by simp only [List.mem_cons,List.not_mem_nil,or_false] at hx;rw [hx];exact (show boolE.wf _ _ false from trivial)) ?_;clear S;intro a u b16 S;replace S:=S.spl 0;refine cl S (rNew _ _ S.xxF  S.mF (S.nfF hD) r_t15 (dnF   (S.u 0 rfl)) (Sl.mk (some ⟨b16,0,none⟩) 1 ([false])) (dnF   (S.u 1 rfl)) (by first | omega | (dsimp only;omega))) cB50 ?_;rintro e u ⟨q_t17,rfl,qK_t17,qB_t17,hr_t17,T0⟩;refine ⟨_,rfl,fun a s=>?_⟩;have S2:=S.kF   [bnO (runQ q_t17)] s T0 ⟨qB_t17,trivial⟩ ⟨(mo_bn (mo_runQ _)),trivial⟩;replace S2:=S2.sh;clear S;have S:=S2;clear S2 s T0 qB_t17
 rcases q_t17 with _ | ⟨B_t17,x_t17⟩
 ·exact absurd (hr_t17.1.2 (one_good hr_t15)) (by decide)
 replace S:=(show St _ _ _ _ _ _ [bnO (runF B_t17 x_t17)] _ _ from S);obtain ⟨hA17,hB17⟩:=one_run (v:=false) hr_t15 (hr_t17.2 _ rfl);obtain ⟨hO17,hS17⟩:=hA17.ok7 bo;have hK17 : RunOK 8000000 x_t17:=ROK.mono hO17 bo;refine ens S (tr (mv rfl)<|tr (exi rfl rfl)<|tr (exi rfl rfl)<|tr (av rfl)<|la (av rfl)) ?_;clear S;intro a u S;refine rs0 ?_;refine cl S (nOne _ _ S.x (.nil _)) cB97 ?_;rintro e u ⟨r_t21,rfl,R_t21,hr_t21,T0⟩;refine ⟨_,rfl,fun a s=>?_⟩;replace S:=(S.k0 s T0).ar (wfF planE r_t21) (Enc.up _ R_t21);clear s T0 R_t21;have ho_t21:=one_len hr_t21;have hn5 : r_t21.rounds.xs.length ≤ 9223372036854775807:=((S.u 2 rfl).2).1.len;refine nbs boolE S [true] (x_bs S [(0,.bool true)] uT83 iZ4) (fun x hx=>by simp only [List.mem_cons,List.not_mem_nil,or_false] at hx;rw [hx];exact (show boolE.wf _ _ true from trivial)) ?_;clear S;intro a u b22 S;replace S:=S.spl 1;refine cl S (rNew _ _ S.xxF  S.mF (S.nfF hD) r_t21 (dnF   (S.u 2 rfl)) (Sl.mk (some ⟨b22,0,none⟩) 1 ([true])) (dnF   (S.u 3 rfl)) (by first | omega | (dsimp only;omega))) cB50 ?_;rintro e u ⟨q_t23,rfl,qK_t23,qB_t23,hr_t23,T0⟩;refine ⟨_,rfl,fun a s=>?_⟩;have S2:=S.kF   [bnO (runQ q_t23)] s T0 ⟨qB_t23,trivial⟩ ⟨(mo_bn (mo_runQ _)),trivial⟩;replace S2:=S2.sh;clear S;have S:=S2;clear S2 s T0 qB_t23
 rcases q_t23 with _ | ⟨B_t23,x_t23⟩
 ·exact absurd (hr_t23.1.2 (one_good hr_t21)) (by decide)
 replace S:=(show St _ _ _ _ _ _ [bnO (runF B_t17 x_t17),bnO (runF B_t23 x_t23)] _ _ from S);obtain ⟨hA23,hB23⟩:=one_run (v:=true) hr_t21 (hr_t23.2 _ rfl);obtain ⟨hO23,hS23⟩:=hA23.ok7 bo;have hK23 : RunOK 8000000 x_t23:=ROK.mono hO23 bo;refine ens S (tr (mv rfl)<|tr (exi rfl rfl)<|tr (exi rfl rfl)<|tr (av rfl)<|la (av rfl)) ?_;clear S;intro a u S;refine rs0 ?_;refine cl S (nOne _ _ S.x (.nil _)) cB97 ?_;rintro e u ⟨r_t27,rfl,R_t27,hr_t27,T0⟩;refine ⟨_,rfl,fun a s=>?_⟩;replace S:=(S.k0 s T0).ar (wfF planE r_t27) (Enc.up _ R_t27);clear s T0 R_t27;have ho_t27:=one_len hr_t27;have hn7 : r_t27.rounds.xs.length ≤ 9223372036854775807:=((S.u 4 rfl).2).1.len;replace S:=S.spl 2;refine cl S (rNew _ _ S.xxF  S.mF (S.nfF hD) r_t27 (dnF   (S.u 4 rfl)) (Sl.mk none 0 ([] : List Bool)) sl_nil (by first | omega | (dsimp only;omega))) cB50 ?_;rintro e u ⟨q_t28,rfl,qK_t28,qB_t28,hr_t28,T0⟩;refine ⟨_,rfl,fun a s=>?_⟩;have S2:=S.kF   [bnO (runQ q_t28)] s T0 ⟨qB_t28,trivial⟩ ⟨(mo_bn (mo_runQ _)),trivial⟩;replace S2:=S2.sh;clear S;have S:=S2;clear S2 s T0 qB_t28
 rcases q_t28 with _ | ⟨B_t28,x_t28⟩
 rotate_left
 ·exact absurd (hr_t28.1.1 rfl) (one_bad hr_t27)
 replace S:=S.pkc [0,1];refine ens S (tr (mv rfl)<|tr (exi rfl rfl)<|tr (exi rfl rfl)<|tr (av rfl)<|la (av rfl)) ?_;clear S;intro a u S;refine wp_seq (rs0 ?_);refine sp S (tr (mv rfl)<|tr (neqi rfl rfl)<|tr (mv rfl)<|tr (gon 33 rfl fun S=>x_move (S.e rfl))<|tr (gon 33 rfl fun S=>x_neq (S.e rfl) (S.e rfl))<|tr (ov fun S=>x_pickf (S.e rfl) (S.e rfl))<|tr (mv rfl)<|tr (gon 37 rfl fun S=>x_move (S.e rfl))<|tr (gon 37 rfl fun S=>x_neq (S.e rfl) (S.e rfl))<|tr (ov fun S=>x_pickf (S.e rfl) (S.e rfl))<|tr (mv rfl)<|tr (gon 41 rfl fun S=>x_move (S.e rfl))<|tr (gon 41 rfl fun S=>x_peqN uT73 (S.e rfl) (S.e rfl))<|tr (ov fun S=>x_pickf (S.e rfl) (S.e rfl))<|tr (mv rfl)<|tr (gon 45 rfl fun S=>x_move (S.e rfl))<|tr (gon 45 rfl fun S=>x_peqN uT73 (S.e rfl) (S.e rfl))<|tr (ov fun S=>x_pickf (S.e rfl) (S.e rfl))<|tr (mv rfl)<|tr (gon 49 rfl fun S=>x_move (S.e rfl))<|la (ocon 49 rfl (fun S=>rFin _ _ (S.xx [In (ow (runF B_t17 x_t17))]) (.nil _) (B_t17,x_t17) (S.rob hD 0 rfl (X:=fun D=>(ptE runE 137).wf D _ (B_t17,x_t17)) (rd_run qK_t17) _ (by simp))) cB56)) ?_;clear S;intro a u S;replace S:=S.ext (d:=51) (v:=.bool false) ((S.get 51 rfl).trans (vbf ((by have h0:=hA17.rd;have h1:=congrArg List.length h0;rw [rds_len] at h1;have h2 : (absM x_t17.m.2) = _:=congrArg RunS.c hB17;rw [h1,h2];exact oe7))));refine ens S (la (ov fun S=>x_pickf (S.e rfl) (S.e rfl))) ?_;clear S;intro a u S;refine cdf S rfl ?_;refine wp_skip (then_n (rs0 ?_));refine sp S (tr (mv rfl)<|la (ov fun S=>x_bd S [(0,iI 1)] [iI 1,iI 0])) ?_;clear S;intro a u S;replace S:=S.pkc [1,0];replace S:=S.spl 1;refine cl S (rDo _ _ S.xxF B_t17 x_t17 S.mF (S.nfF hD) qK_t17 (S.dF   0 rfl (mo_bn (mo_run _ _))) (⟨1,0⟩ : Evt) ⟨(show inI64 1 from ⟨by omega,by omega⟩),(show inI64 0 from ⟨by omega,by omega⟩)⟩ (⟨by first | assumption | exact hOK,by first | assumption | exact hS0⟩)) cB45 ?_;rintro e u ⟨rn_t55,rfl,hk_rn_t55,hK_rn_t55,hq_rn_t55,T0⟩;refine ⟨_,rfl,fun a s=>?_⟩;have S2:=S.kF   [bnO (runF B_t17 rn_t55)] s T0 ⟨hK_rn_t55,trivial⟩ ⟨(mo_bn (mo_run _ _)),trivial⟩;replace S2:=S2.sh;clear S;have S:=S2;clear S2 s T0 hK_rn_t55;obtain ⟨hA55,hB55,_⟩:=hA17.step hq_rn_t55;replace hB55 : absR rn_t55 = ox1:=(hB55 (by rw [hB17];exact oe1)).trans (by rw [hB17];rfl);obtain ⟨hO55,hS55⟩:=hA55.ok7 bo;have hK55 : RunOK 8000000 rn_t55:=ROK.mono hO55 bo;replace S:=S.ext (d:=55) (v:=.bool true) ((S.get 55 rfl).trans (vbt (by rw [hB17];exact oe1)));refine sp S (tr (mv rfl)<|tr (gon 56 rfl fun S=>x_move (S.e rfl))<|la (gon 56 rfl fun S=>x_bd S [(0,iI 3)] [iI 3,iI 0])) ?_;clear S;intro a u S;refine strip S.s rfl rfl (gd:=56) rfl ?_;replace S:=S.spl 1;refine cl S (rDo _ _ S.xxF B_t17 rn_t55 S.mF (S.nfF hD) hk_rn_t55 (S.dF   0 rfl (mo_bn (mo_run _ _))) (⟨3,0⟩ : Evt) ⟨(show inI64 3 from ⟨by omega,by omega⟩),(show inI64 0 from ⟨by omega,by omega⟩)⟩ (⟨by first | assumption | exact hOK,by first | assumption | exact hS0⟩)) cB45 ?_;rintro e u ⟨rn_t59,rfl,hk_rn_t59,hK_rn_t59,hq_rn_t59,T0⟩;refine ⟨_,rfl,fun a s=>?_⟩;have S2:=S.kF   [bnO (runF B_t17 rn_t59)] s T0 ⟨hK_rn_t59,trivial⟩ ⟨(mo_bn (mo_run _ _)),trivial⟩;replace S2:=S2.sh;clear S;have S:=S2;clear S2 s T0 hK_rn_t59;obtain ⟨hA59,hB59,_⟩:=hA55.step hq_rn_t59;replace hB59 : absR rn_t59 = ox2:=(hB59 (by rw [hB55];exact oe2)).trans (by rw [hB55];rfl);obtain ⟨hO59,hS59⟩:=hA59.ok7 bo;have hK59 : RunOK 8000000 rn_t59:=ROK.mono hO59 bo;replace S:=S.ext (d:=59) (v:=.bool true) ((S.get 59 rfl).trans (vbt (by rw [hB55];exact oe2)));refine ens S (tr (ov fun S=>x_pickt (S.e rfl) (S.e rfl))<|la (av rfl)) ?_;clear S;intro a u S;refine rs0 ?_;refine sp S (tr (mv rfl)<|la (ov fun S=>x_bd S [(0,iI 1)] [iI 1,iI 0])) ?_;clear S;intro a u S;replace S:=S.pkc [1,0];replace S:=S.spl 1;refine cl S (rDo _ _ S.xxF B_t23 x_t23 S.mF (S.nfF hD) qK_t23 (S.dF   0 rfl (mo_bn (mo_run _ _))) (⟨1,0⟩ : Evt) ⟨(show inI64 1 from ⟨by omega,by omega⟩),(show inI64 0 from ⟨by omega,by omega⟩)⟩ (⟨by first | assumption | exact hOK,by first | assumption | exact hS0⟩)) cB45 ?_;rintro e u ⟨rn_t63,rfl,hk_rn_t63,hK_rn_t63,hq_rn_t63,T0⟩;refine ⟨_,rfl,fun a s=>?_⟩;have S2:=S.kF   [bnO (runF B_t23 rn_t63)] s T0 ⟨hK_rn_t63,trivial⟩ ⟨(mo_bn (mo_run _ _)),trivial⟩;replace S2:=S2.sh;clear S;have S:=S2;clear S2 s T0 hK_rn_t63;obtain ⟨hA63,hB63,_⟩:=hA23.step hq_rn_t63;replace hB63 : absR rn_t63 = oy1:=(hB63 (by rw [hB23];exact oe3)).trans (by rw [hB23];rfl);obtain ⟨hO63,hS63⟩:=hA63.ok7 bo;have hK63 : RunOK 8000000 rn_t63:=ROK.mono hO63 bo;replace S:=S.ext (d:=63) (v:=.bool true) ((S.get 63 rfl).trans (vbt (by rw [hB23];exact oe3)));refine sp S (tr (mv rfl)<|tr (gon 64 rfl fun S=>x_move (S.e rfl))<|la (gon 64 rfl fun S=>x_bd S [(0,iI 3)] [iI 3,iI 0])) ?_;clear S;intro a u S;refine strip S.s rfl rfl (gd:=64) rfl ?_;replace S:=S.spl 1;refine cl S (rDo _ _ S.xxF B_t23 rn_t63 S.mF (S.nfF hD) hk_rn_t63 (S.dF   0 rfl (mo_bn (mo_run _ _))) (⟨3,0⟩ : Evt) ⟨(show inI64 3 from ⟨by omega,by omega⟩),(show inI64 0 from ⟨by omega,by omega⟩)⟩ (⟨by first | assumption | exact hOK,by first | assumption | exact hS0⟩)) cB45 ?_;rintro e u ⟨rn_t67,rfl,hk_rn_t67,hK_rn_t67,hq_rn_t67,T0⟩;refine ⟨_,rfl,fun a s=>?_⟩;have S2:=S.kF   [bnO (runF B_t23 rn_t67)] s T0 ⟨hK_rn_t67,trivial⟩ ⟨(mo_bn (mo_run _ _)),trivial⟩;replace S2:=S2.sh;clear S;have S:=S2;clear S2 s T0 hK_rn_t67;obtain ⟨hA67,_,hC67⟩:=hA63.step hq_rn_t67;replace hC67:=hC67 (by rw [hB63];exact oe4);have hB67:=hB63;rw [← hC67] at hB67;obtain ⟨hO67,hS67⟩:=hA67.ok7 bo;have hK67 : RunOK 8000000 rn_t67:=ROK.mono hO67 bo;replace S:=S.ext (d:=67) (v:=.bool false) ((S.get 67 rfl).trans (vbf (by rw [hB63];exact oe4)));refine sp S (tr (gon 64 rfl fun S=>x_not (S.e rfl))<|tr (ov fun S=>x_pickt (S.e rfl) (S.e rfl))<|tr (mv rfl)<|tr (gon 70 rfl fun S=>x_move (S.e rfl))<|la (ocon 70 rfl (fun S=>rFin _ _ (S.xx [In (ow (runF B_t23 rn_t67))]) (.nil _) (B_t23,rn_t67) (S.rob hD 1 rfl (X:=fun D=>(ptE runE 137).wf D _ (B_t23,rn_t67)) (rd_run hk_rn_t67) _ (by simp))) cB56)) ?_;clear S;intro a u S;replace S:=S.ext (d:=72) (v:=.bool false) ((S.get 72 rfl).trans (vbf ((by have h0:=hA67.rd;have h1:=congrArg List.length h0;rw [rds_len] at h1;have h2 : (absM rn_t67.m.2) = _:=congrArg RunS.c hB67;rw [h1,h2];exact oe8))));refine ens S (tr (gon 70 rfl fun S=>x_not (S.e rfl))<|tr (ov fun S=>x_pickt (S.e rfl) (S.e rfl))<|la (av rfl)) ?_;clear S;intro a u S;refine rs0 ?_;refine sp S (tr (mv rfl)<|la (ov fun S=>x_bd S [(0,iI 2)] [iI 2,iI 0])) ?_;clear S;intro a u S;replace S:=S.spl 1;refine cl S (rDo _ _ S.xxF B_t23 rn_t67 S.mF (S.nfF hD) hk_rn_t67 (S.dF   0 rfl (mo_bn (mo_run _ _))) (⟨2,0⟩ : Evt) ⟨(show inI64 2 from ⟨by omega,by omega⟩),(show inI64 0 from ⟨by omega,by omega⟩)⟩ (⟨by first | assumption | exact hOK,by first | assumption | exact hS0⟩)) cB45 ?_;rintro e u ⟨rn_t77,rfl,hk_rn_t77,hK_rn_t77,hq_rn_t77,T0⟩;refine ⟨_,rfl,fun a s=>?_⟩;have S2:=S.kF   [bnO (runF B_t23 rn_t77)] s T0 ⟨hK_rn_t77,trivial⟩ ⟨(mo_bn (mo_run _ _)),trivial⟩;replace S2:=S2.sh;clear S;have S:=S2;clear S2 s T0 hK_rn_t77;obtain ⟨hA77,hB77,_⟩:=hA67.step hq_rn_t77;replace hB77 : absR rn_t77 = oy2:=(hB77 (by rw [hB67];exact oe5)).trans (by rw [hB67];rfl);obtain ⟨hO77,hS77⟩:=hA77.ok7 bo;have hK77 : RunOK 8000000 rn_t77:=ROK.mono hO77 bo;replace S:=S.ext (d:=77) (v:=.bool true) ((S.get 77 rfl).trans (vbt (by rw [hB67];exact oe5)));refine sp S (tr (mv rfl)<|tr (gon 78 rfl fun S=>x_move (S.e rfl))<|la (gon 78 rfl fun S=>x_bd S [(0,iI 3)] [iI 3,iI 0])) ?_;clear S;intro a u S;refine strip S.s rfl rfl (gd:=78) rfl ?_;replace S:=S.spl 1;refine cl S (rDo _ _ S.xxF B_t23 rn_t77 S.mF (S.nfF hD) hk_rn_t77 (S.dF   0 rfl (mo_bn (mo_run _ _))) (⟨3,0⟩ : Evt) ⟨(show inI64 3 from ⟨by omega,by omega⟩),(show inI64 0 from ⟨by omega,by omega⟩)⟩ (⟨by first | assumption | exact hOK,by first | assumption | exact hS0⟩)) cB45 ?_;rintro e u ⟨rn_t81,rfl,hk_rn_t81,hK_rn_t81,hq_rn_t81,T0⟩;refine ⟨_,rfl,fun a s=>?_⟩;have S2:=S.kF   [bnO (runF B_t23 rn_t81)] s T0 ⟨hK_rn_t81,trivial⟩ ⟨(mo_bn (mo_run _ _)),trivial⟩;replace S2:=S2.sh;clear S;have S:=S2;clear S2 s T0 hK_rn_t81;obtain ⟨hA81,hB81,_⟩:=hA77.step hq_rn_t81;replace hB81 : absR rn_t81 = oy3:=(hB81 (by rw [hB77];exact oe6)).trans (by rw [hB77];rfl);obtain ⟨hO81,hS81⟩:=hA81.ok7 bo;have hK81 : RunOK 8000000 rn_t81:=ROK.mono hO81 bo;replace S:=S.ext (d:=81) (v:=.bool true) ((S.get 81 rfl).trans (vbt (by rw [hB77];exact oe6)));refine ens S (tr (ov fun S=>x_pickt (S.e rfl) (S.e rfl))<|la (av rfl)) ?_;clear S;intro a u S;refine rs0 ?_;refine sp S (la (mv rfl)) ?_;clear S;intro a u S;refine cl S (rAgent _ _ (S.xx [In (ow (runF B_t17 rn_t59))]) (.nil _) (B_t17,rn_t59) (S.rob hD 0 rfl (X:=fun D=>(ptE runE 137).wf D _ (B_t17,rn_t59)) (rd_run hk_rn_t59) _ (by simp)) 0 ⟨by omega,by omega⟩) cB55 ?_;rintro e u ⟨r_t850,rfl,R_t850,hr_t850,T0⟩;refine ⟨_,rfl,fun a s=>?_⟩;replace S:=(S.k0 s T0).ar (wfF agtE r_t850) R_t850;clear s T0 R_t850;obtain ⟨hl13,hu13⟩ : inI64 r_t850.run:=id ((S.u 5 rfl).2.2.1);obtain ⟨hl14,hu14⟩ : inI64 r_t850.sav:=id ((S.u 5 rfl).2.2.2.1);obtain ⟨hl15,hu15⟩ : inI64 r_t850.seq:=id ((S.u 5 rfl).2.2.2.2.1);obtain ⟨hl16,hu16⟩ : inI64 r_t850.inc:=id ((S.u 5 rfl).2.2.2.2.2);refine sp S (tr (mv rfl)<|tr (exi rfl rfl)<|la (exi rfl rfl)) ?_;clear S;intro a u S;replace S:=S.ext (d:=87) (v:=.bool true) ((S.get 87 rfl).trans (vbt (⟨by omega,by have:=hA59.len;show (0 : Int) < (rn_t59.sts.xs.length : Int);omega⟩)));refine nbp S (x_allocz _ iZ101 rfl) ?_;clear S;intro a u b10 S;refine ens S (tr (stkw 2 rfl rfl rfl)<|la (av rfl)) ?_;clear S;intro a u S;refine rs0 ?_;refine sp S (la (mv rfl)) ?_;clear S;intro a u S;refine cl S (rAgent _ _ (S.xx [In (ow (runF B_t17 rn_t59))]) (.nil _) (B_t17,rn_t59) (S.rob hD 0 rfl (X:=fun D=>(ptE runE 137).wf D _ (B_t17,rn_t59)) (rd_run hk_rn_t59) _ (by simp)) 1 ⟨by omega,by omega⟩) cB55 ?_;rintro e u ⟨r_t900,rfl,R_t900,hr_t900,T0⟩;refine ⟨_,rfl,fun a s=>?_⟩;replace S:=(S.k0 s T0).ar (wfF agtE r_t900) R_t900;clear s T0 R_t900;obtain ⟨hl18,hu18⟩ : inI64 r_t900.run:=id ((S.u 6 rfl).2.2.1);obtain ⟨hl19,hu19⟩ : inI64 r_t900.sav:=id ((S.u 6 rfl).2.2.2.1);obtain ⟨hl20,hu20⟩ : inI64 r_t900.seq:=id ((S.u 6 rfl).2.2.2.2.1);obtain ⟨hl21,hu21⟩ : inI64 r_t900.inc:=id ((S.u 6 rfl).2.2.2.2.2);refine sp S (tr (mv rfl)<|tr (exi rfl rfl)<|la (exi rfl rfl)) ?_;clear S;intro a u S;replace S:=S.ext (d:=92) (v:=.bool false) ((S.get 92 rfl).trans (vbf (fun h=>by have h1:=hA59.len;have h2 : (1 : Int) < (rn_t59.sts.xs.length : Int):=h.2;omega)));refine nbp S (x_allocz _ iZ101 rfl) ?_;clear S;intro a u b12 S;refine ens S (tr (stkw 3 rfl rfl rfl)<|la (av rfl)) ?_;clear S;intro a u S;refine rs0 ?_;refine sp S (tr (mv rfl)<|tr (mv rfl)<|tr (gon 94 rfl fun S=>x_move (S.e rfl))<|tr (ov fun S=>x_pickt (S.e rfl) (S.e rfl))<|tr (mv rfl)<|tr (gon 97 rfl fun S=>x_move (S.e rfl))<|tr (ov fun S=>x_pickt (S.e rfl) (S.e rfl))<|tr (mv rfl)<|tr (gon 100 rfl fun S=>x_move (S.e rfl))<|la (ocon 100 rfl (fun S=>rFin _ _ (S.xx [In (ow (runF B_t17 rn_t59))]) (.nil _) (B_t17,rn_t59) (S.rob hD 0 rfl (X:=fun D=>(ptE runE 137).wf D _ (B_t17,rn_t59)) (rd_run hk_rn_t59) _ (by simp))) cB56)) ?_;clear S;intro a u S;replace S:=S.ext (d:=102) (v:=.bool true) ((S.get 102 rfl).trans (vbt ((by have h0:=hA59.rd;have h1:=congrArg List.length h0;rw [rds_len] at h1;have h2 : (absM rn_t59.m.2) = _:=congrArg RunS.c hB59;rw [h1,h2];exact oe9))));refine sp S (tr (ov fun S=>x_pickt (S.e rfl) (S.e rfl))<|tr (mv rfl)<|tr (gon 104 rfl fun S=>x_move (S.e rfl))<|la (ocon 104 rfl (fun S=>rFin _ _ (S.xx [In (ow (runF B_t23 rn_t81))]) (.nil _) (B_t23,rn_t81) (S.rob hD 1 rfl (X:=fun D=>(ptE runE 137).wf D _ (B_t23,rn_t81)) (rd_run hk_rn_t81) _ (by simp))) cB56)) ?_;clear S;intro a u S;replace S:=S.ext (d:=106) (v:=.bool true) ((S.get 106 rfl).trans (vbt ((by have h0:=hA81.rd;have h1:=congrArg List.length h0;rw [rds_len] at h1;have h2 : (absM rn_t81.m.2) = _:=congrArg RunS.c hB81;rw [h1,h2];exact oe10))));refine sp S (tr (ov fun S=>x_pickt (S.e rfl) (S.e rfl))<|tr (mv rfl)<|tr (gon 108 rfl fun S=>x_move (S.e rfl))<|tr (ov fun S=>x_pickt (S.e rfl) (S.e rfl))<|tr (mv rfl)<|tr (gon 111 rfl fun S=>x_move (S.e rfl))<|tr (gon 111 rfl fun S=>x_not (S.e rfl))<|tr (ov fun S=>x_pickt (S.e rfl) (S.e rfl))<|tr (mv rfl)<|tr (gon 115 rfl fun S=>x_fld (z:=0) (0) 2 uT101 rfl rfl (by kernel_rfl) (S.e rfl))<|tr (gon 115 rfl fun S=>x_load sC3 (S.e rfl) ((S.k 2 rfl).cell (j:=2) rfl))<|la (gon 115 rfl fun S=>x_eql (S.e rfl) (S.e rfl))) ?_;clear S;intro a u S;replace S:=S.ext (d:=118) (v:=.bool true) ((S.get 118 rfl).trans (vbt (by rw [hr_t850,hB59];exact oe11.1)));refine sp S (tr (ov fun S=>x_pickt (S.e rfl) (S.e rfl))<|tr (mv rfl)<|tr (gon 120 rfl fun S=>x_fld (z:=0) (0) 0 uT101 rfl rfl (by kernel_rfl) (S.e rfl))<|la (gon 120 rfl fun S=>x_load sC4 (S.e rfl) ((S.k 2 rfl).cell (j:=0) rfl))) ?_;clear S;intro a u S;replace S:=S.ext (d:=122) (v:=.bool true) ((S.get 122 rfl).trans (vbt (by rw [hr_t850,hB59];exact oe11.2)));refine sp S (tr (ov fun S=>x_pickt (S.e rfl) (S.e rfl))<|tr (mv rfl)<|la (gon 124 rfl fun S=>x_move (S.e rfl))) ?_;clear S;intro a u S;refine strip S.s rfl rfl (gd:=124) rfl ?_;refine cl S (rCtl _ _ (S.xx [In (ow (runF B_t17 rn_t59))]) (.nil _) (B_t17,rn_t59) (S.rob hD 0 rfl (X:=fun D=>(ptE runE 137).wf D _ (B_t17,rn_t59)) (rd_run hk_rn_t59) _ (by simp)) (by first | assumption | exact hOK | exact (hT.sm hBeg bo (by assumption) (by assumption)).1)) cB54 ?_;rintro e u ⟨ra_t126_3,rc_t126_3,ra_t126_4,rc_t126_4,ra_t126_5,rc_t126_5,rfl,R_t126_3,R_t126_4,R_t126_5,T0⟩;refine ⟨_,rfl,fun a s=>?_⟩;replace S:=(S.krx [⟨_,intE,3,ra_t126_5,rc_t126_5,rn_t59.m.2.waiting.xs⟩,⟨_,intE,3,ra_t126_4,rc_t126_4,rn_t59.m.2.known.xs⟩,⟨_,intE,3,ra_t126_3,rc_t126_3,rn_t59.m.2.target.xs⟩] s T0 ⟨R_t126_5,R_t126_4,R_t126_3,trivial⟩ ⟨fun _ _ _ _ h=>h,fun _ _ _ _ h=>h,fun _ _ _ _ h=>h,trivial⟩).sh;clear s T0 R_t126_5 R_t126_4 R_t126_3;refine sp S (tr (gon 124 rfl fun S=>x_fldv uT57 rfl sC3 (S.e rfl) rfl)<|la (gon 124 rfl fun S=>x_eql (S.e rfl) (S.e rfl))) ?_;clear S;intro a u S;replace S:=S.ext (d:=128) (v:=.bool true) ((S.get 128 rfl).trans (vbt ((congrArg (fun r : RunS=>r.c.round) hB59).trans oe12)));refine sp S (tr (ov fun S=>x_pickt (S.e rfl) (S.e rfl))<|tr (mv rfl)<|tr (gon 130 rfl fun S=>x_move (S.e rfl))<|la (gon 130 rfl fun S=>x_bd S [(0,iI 6)] [iI 6,iI 0])) ?_;clear S;intro a u S;refine strip S.s rfl rfl (gd:=130) rfl ?_;replace S:=S.pkc [1,2,3,4,5,6,0];replace S:=S.spl 6;refine cl S (rDo _ _ S.xxF B_t17 rn_t59 S.mF (S.nfF hD) hk_rn_t59 (S.dF   0 rfl (mo_bn (mo_run _ _))) (⟨6,0⟩ : Evt) ⟨(show inI64 6 from ⟨by omega,by omega⟩),(show inI64 0 from ⟨by omega,by omega⟩)⟩ (⟨by first | assumption | exact hOK,by first | assumption | exact hS0⟩)) cB45 ?_;rintro e u ⟨rn_t133,rfl,hk_rn_t133,hK_rn_t133,hq_rn_t133,T0⟩;refine ⟨_,rfl,fun a s=>?_⟩;have S2:=S.kF   [bnO (runF B_t17 rn_t133)] s T0 ⟨hK_rn_t133,trivial⟩ ⟨(mo_bn (mo_run _ _)),trivial⟩;replace S2:=S2.sh;clear S;have S:=S2;clear S2 s T0 hK_rn_t133;obtain ⟨hA133,_,hC133⟩:=hA59.step hq_rn_t133;replace hC133:=hC133 (by rw [hB59];exact oe13);have hB133:=hB59;rw [← hC133] at hB133;obtain ⟨hO133,hS133⟩:=hA133.ok7 bo;have hK133 : RunOK 8000000 rn_t133:=ROK.mono hO133 bo;replace S:=S.ext (d:=133) (v:=.bool false) ((S.get 133 rfl).trans (vbf (by rw [hB59];exact oe13)));refine sp S (tr (gon 130 rfl fun S=>x_not (S.e rfl))<|tr (ov fun S=>x_pickt (S.e rfl) (S.e rfl))<|tr (mv rfl)<|la (gon 136 rfl fun S=>x_move (S.e rfl))) ?_;clear S;intro a u S;refine strip S.s rfl rfl (gd:=136) rfl ?_;refine cl S (rPoss _ _ (S.xx [In (ow (runF B_t17 rn_t133))]) (.nil _) (B_t17,rn_t133) (S.rob hD 6 rfl (X:=fun D=>(ptE runE 137).wf D _ (B_t17,rn_t133)) (rd_run hk_rn_t133) _ (by simp)) (by first | assumption | exact hOK | exact (hT.sm hBeg bo (by assumption) (by assumption)).1)) cB52 ?_;rintro e u ⟨ra_t138,rc_t138,rfl,R_t138,T0⟩;refine ⟨_,rfl,fun a s=>?_⟩;replace S:=(S.krx [⟨_,evtE,78,ra_t138,rc_t138,(posR (absR rn_t133))⟩] s T0 ⟨R_t138,trivial⟩ ⟨fun _ _ _ _ h=>h,trivial⟩).sh;clear s T0 R_t138;refine ens S (tr (gon 136 rfl fun S=>x_len uT72 (S.e rfl))<|tr (gon 136 rfl fun S=>x_eql (S.e rfl) (S.e rfl))<|tr (ov fun S=>x_pickt (S.e rfl) (S.e rfl))<|la (av rfl)) ?_;clear S;intro a u S;refine wp_ret ?_;refine ret1 rfl S.s rfl ?_;replace S:=S.pk [];refine ⟨(r1 (vb ?_)),S.m.c⟩;refine ⟨fun _=>trivial,fun _=>?_⟩;show ((posR (absR rn_t133)).length : Int) = 2;rw [hB133,oe14];rfl
open Go.RowKit Go.Proofs.Ytobggnpnochnnaa
theorem gSpoil (w : World) (F : Nat → Prop) (hF : Old F w) (T : Nat) (M : MS [one T] w) (T_l : Sl Int) (T_w : (slE intE).wf (Fr F [one T]) w.heap T_l) (T_K : TpB 112 T T_l w) (p : Plan) (p_w : planE.wf (Fr F [one T]) w.heap p) (hb : p.rounds.xs.length ≤ 3 ∧ ∀ x ∈ p.rounds.xs, 0 < x.xs.length ∧ x.xs.length ≤ 1000) :
 Calls Try.prog 31 #[pT T 0,.agg (planE.cells p).toArray] w fun e w'=>∃ (r : Plan),e = .returned (.agg (planE.cells r).toArray) ∧ planE.wf (Fr F [one T]) w'.heap r ∧ r.rounds.xs.length ≤ 10 ∧ TpB 112 T T_l w' ∧ Tr [one T] w [one T] w':=by
 have : p.rounds.xs.length ≤ 9223372036854775807:=(p_w.2).1.len;obtain ⟨hb1,hb2⟩:=hb;refine go Try.func31 rfl 102 rfl [wfF (slE intE) T_l,wfF planE p] [tpO 112 T T_l] hF M ⟨T_w,p_w,trivial⟩ ⟨T_K,trivial⟩ ?_;intro a S;refine rs0 ?_;refine nbp S (x_box _ (S.e rfl) rfl) ?_;clear S;intro a u b3 S;refine nbp S (x_allocz _ iZ47 rfl) ?_;clear S;intro a u b4 S;refine ent (rs0 ?_);refine sp S (tr (fldi 0 0 rfl uT47)<|tr (ldk 1 sC4 rfl rfl rfl)<|la (ov fun S=>x_bd S [(0,bD (p.staged = true))] [bD (p.staged = true),.slice none 0 0])) ?_;clear S;intro a u S;refine nbp S (x_allocz _ iZ47 rfl) ?_;clear S;intro a u b5 S;refine ens S (la (stkw 3 rfl rfl rfl)) ?_;clear S;intro a u S;refine wp_seq ?_;refine rs S (la (av rfl)) ?_;clear S;intro a u S;refine wp_block ?_;replace S:=S.l0 (rwS chgE 124 w.heap.size);replace S:=S.nr (rawE (β:=Chg)) 122;refine lp4 (fun (j : Nat) (rw_a : Option Addr) (rw_c : Nat) (rw : List (Sl Chg))=>[(0,pT T 0),(3,pT b3 0),(4,pT b4 0),(5,pT b5 0),(6,iN j)]) (fun (j : Nat) (rw_a : Option Addr) (rw_c : Nat) (rw : List (Sl Chg))=>[tpO 112 T T_l,blO b3 (planE.cells p) 47,blO b4 [.bool false,.slice none 0 0] 47,blO b5 [bD (p.staged = true),.slice rw_a rw.length rw_c] 47,lsO (rwS chgE 124 w.heap.size) rw,rwO (rawE (β:=Chg)) 122 w.heap.size rw_a rw_c rw]) (fun (j : Nat) (rw_a : Option Addr) (rw_c : Nat) (rw : List (Sl Chg))=>j ≤ p.rounds.xs.length ∧ rw.length = j ∧ ∀ x ∈ rw,0 < x.xs.length ∧ x.xs.length ≤ 1000) (fun (j : Nat) (rw_a : Option Addr) (rw_c : Nat) (rw : List (Sl Chg))=>p.rounds.xs.length - j) S 0 none 0 ([]) (subM rfl) rfl ?_ ?_
 ·exact ⟨Nat.zero_le _,rfl,fun x h=>by cases h⟩
 clear S;intro j rw_a rw_c rw a u S hR;have rw_len:=(S.row 5 rfl).len_le;simp only [maxLen] at rw_len;obtain ⟨hj,hrwl,hne⟩:=hR;refine wp_seq ?_;have hn5 : p.rounds.xs.length ≤ 9223372036854775807:=((S.u 1 rfl).2).1.len;refine rs S (tr (mv rfl)<|tr (fldi 0 1 rfl uT47)<|tr (ldk 1 sC45 rfl rfl rfl)<|tr (leni uT45 rfl)<|la (lssi rfl rfl)) ?_;clear S;intro a u S;refine cd S rfl ?_ ?_
 ·intro hc0;have hxj := hb2 _ (getD_mem (d := (slE chgE).dflt) (i := j) bo);refine wp_skip (then_n (wp_seq (wp_block ?_)));have hn6 : ((p.rounds.xs.getD j (slE chgE).dflt).xs).length ≤ 9223372036854775807 := ((((S.u 1 rfl).2).1.wf j bo)).1.len;obtain ⟨z0, hz0⟩ := S.z;refine dr3 (P := Try.prog) S 10 [19, 25, 26] [(19, 26)] [] [(17, .is _), (18, .is _), (19, nilT 124 z0 _), (20, .is _), (21, .is _), (22, .is _), (23, .is _), (24, .is _), (25, rowT chgE 124 z0 _ ((p.rounds.xs.getD j (slE chgE).dflt).xs)), (26, rlT chgE 124 ((p.rounds.xs.getD j (slE chgE).dflt).xs) 122 z0 _)] [[], [17], [], [], [20], [], [21, 22], [23], [19, 24], [25]] [18, 26] _ ⟨⟨_, rfl, nilT_owns⟩, ⟨_, rfl, rowT_owns⟩, ⟨_, rfl, rlT_owns⟩, trivial⟩ ⟨qdc (qd (fldi 0 1 rfl uT47)), qdc (qd (ldk 3 sC45 rfl rfl rfl)), hcn rfl hz0 uT122 iZ124, qdc (qd (fldi 0 1 rfl uT47)), qdc (qd (ldk 1 sC45 rfl rfl rfl)), qdc (qd (mv rfl)), qdc (qd (idxi uT45 sZ122 rfl rfl j rfl bo (((S.u 1 rfl).2).1.adr (i := j) bo))), qdc (qd (ov fun S=>x_load sC122 (S.e rfl) (((S.u 1 rfl).2).1.cell j bo 0 _ rfl))), ?_, ?_, trivial⟩ ?_
  ·skip;intro a u S G hE _;obtain ⟨e19,-⟩:=hE;obtain ⟨x19,e19,X19,hg19,hn19⟩:=e19;have M0:=S.m;replace S:=S.ext e19;exact hca 19 S M0 G rfl hz0 ⟨e19,X19,hg19,hn19⟩ rfl rfl ((((S.u 1 rfl).2).1.wf j bo)).1 ⟨by unfold maxLen;omega,by omega⟩ uT122 iZ124 rfl
  ·skip;intro a u S G hE _;obtain ⟨e25,-⟩:=hE;obtain ⟨ad25,cap25,e25,X25,hn25⟩:=e25;have M0:=S.m;replace S:=S.ext e25;exact hrl M0 G rfl hz0 ⟨e25,X25,hn25⟩ (x_bs S [(0,.slice ad25 ((p.rounds.xs.getD j (slE chgE).dflt).xs).length cap25)] uT45 iZ122)
  have S0:=S;clear S;intro a u S G hE hP;obtain ⟨e26,-⟩:=hE;obtain ⟨ad26,cap26,b26,e26,Y26,hg26,hm26,X26,hn26,hd26⟩:=e26;replace S:=S.ext e26;have hsep : Sep (ow [rwO chgE 124 w.heap.size ad26 cap26 ((p.rounds.xs.getD j (slE chgE).dflt).xs)]):=by
   refine ⟨?_,trivial⟩;intro k hk hm;exact hm
  replace S:=S0.ownM S [] G (by intro j f hj;simp at hj) [rwO chgE 124 w.heap.size ad26 cap26 ((p.rounds.xs.getD j (slE chgE).dflt).xs)] hsep (by
   intro f hf;simp only [List.mem_cons,List.not_mem_nil,or_false] at hf;subst hf
   ·exact fun k hk=>let ⟨q2,q3⟩:=row_blk X26 k hk;⟨hz0 ▸ q2,q3⟩) (by
   intro m f hf;simp only [List.mem_cons,List.not_mem_nil,or_false] at hf;subst hf
   exact ⟨Row.lower3 X26 (by have:=S0.m.c.size;omega),fun x hx=>Enc.mv _ m (LAt.mem ((((S0.u 1 rfl).2).1.wf j bo)).1 x hx)⟩)
  replace S:=S.ar (wfF (slE (rawE (β:=Chg))) (Sl.mk (some ⟨b26,0,none⟩) 1 [(Sl.mk ad26 cap26 ((p.rounds.xs.getD j (slE chgE).dflt).xs))])) (sl_of_blk Y26 [(Sl.mk ad26 cap26 ((p.rounds.xs.getD j (slE chgE).dflt).xs))] 1 rfl (by decide) (by decide) rfl (fr_rl (nw:=[rwO chgE 124 w.heap.size ad26 cap26 ((p.rounds.xs.getD j (slE chgE).dflt).xs)]) S0 (hz0 ▸ hg26) (by intro h;first | exact hd26 (h.elim id False.elim) | (simp only [ow,In] at h;simp_all))) (fun x hx=>trivial));clear S0 hsep;refine ap (E:=(rawE (β:=Chg))) (ys:=[(Sl.mk ad26 cap26 ((p.rounds.xs.getD j (slE chgE).dflt).xs))]) S 5 rfl uT45 iZ122 rfl rfl (show LAt (rawE (β:=Chg)) _ _ (some ⟨b26,0,none⟩) ([(Sl.mk ad26 cap26 ((p.rounds.xs.getD j (slE chgE).dflt).xs))]) from ((S.u 2 rfl)).1) ((S.u 2 rfl)).2.2 (LAt.mem (show LAt (rawE (β:=Chg)) _ _ (some ⟨b26,0,none⟩) ([(Sl.mk ad26 cap26 ((p.rounds.xs.getD j (slE chgE).dflt).xs))]) from ((S.u 2 rfl)).1)) ⟨by unfold maxLen;(try simp only [List.length_cons,List.length_nil,List.length_append,List.length_map]);omega,by (try simp only [List.length_cons,List.length_nil,List.length_append,List.length_map]);omega⟩ ?_;clear S;intro a u ad27 cap27 S;refine en S (tr (fldi 0 1 rfl uT47)<|la (stk 3 rfl rfl rfl)) ?_;clear S;intro a u S;refine blk_n (then_n (r0 ?_));refine sp S (tr (mv rfl)<|la (addi ((j + 1 : Nat) : Int) rfl rfl (w_i64 bo))) ?_;clear S;intro a u S;replace S:=S.pkc [0,1,2,3,5,4,6];replace S:=(show St _ _ _ _ _ _ [tpO 112 T T_l,blO b3 (planE.cells p) 47,blO b4 [.bool false,.slice none 0 0] 47,blO b5 [bD (p.staged = true),.slice ad27 ((rw ++ [(Sl.mk ad26 cap26 ((p.rounds.xs.getD j (slE chgE).dflt).xs))]).length) cap27] 47,rwO (rawE (β:=Chg)) 122 w.heap.size ad27 cap27 (rw ++ [(Sl.mk ad26 cap26 ((p.rounds.xs.getD j (slE chgE).dflt).xs))]),lsO (rwS chgE 124 w.heap.size) (rw ++ [(Sl.mk ad26 cap26 ((p.rounds.xs.getD j (slE chgE).dflt).xs))])] _ _ from S.lpush (ks:=[tpO 112 T T_l,blO b3 (planE.cells p) 47,blO b4 [.bool false,.slice none 0 0] 47,blO b5 [bD (p.staged = true),.slice ad27 ((rw ++ [(Sl.mk ad26 cap26 ((p.rounds.xs.getD j (slE chgE).dflt).xs))]).length) cap27] 47,rwO (rawE (β:=Chg)) 122 w.heap.size ad27 cap27 (rw ++ [(Sl.mk ad26 cap26 ((p.rounds.xs.getD j (slE chgE).dflt).xs))])]) (x:=(Sl.mk ad26 cap26 ((p.rounds.xs.getD j (slE chgE).dflt).xs))));refine en S (la (av rfl)) ?_;clear S;intro a u S;replace S:=S.pk [0,1,2,3,5,4];refine then_n ?_;refine ⟨(j + 1),ad27,cap27,(rw ++ [(Sl.mk ad26 cap26 ((p.rounds.xs.getD j (slE chgE).dflt).xs))]),S.re (subM rfl) rfl rfl,?_,?_⟩
  ·refine ⟨by omega, by rw [List.length_append, List.length_singleton]; omega, fun x hx => ?_⟩
   rcases List.mem_append.1 hx with q | q
   ·exact hne x q
   obtain rfl:=List.mem_singleton.1 q;exact hxj
  omega
 intro hc1;refine wp_exit (then_e (then_e (blk_e (then_n (wp_seq (rs0 ?_))))));refine sp S (la (mv rfl)) ?_;clear S;intro a u S;refine cl S (gNext _ _ S.x T (S.M.pick [0] (by decide)) T_l (dn1 (js:=[0]) (S.u 0 rfl)) (S.t 0 rfl) 5 ⟨by omega,by omega⟩) cB26 ?_;rintro e u ⟨r_t30,rfl,hr_t30,tK,T0⟩;refine ⟨_,rfl,fun a s=>?_⟩;replace S:=S.k1 0 rfl s T0 tK;clear s T0 tK;refine ent (wp_block ?_);refine rs S (tr (eqli rfl rfl)<|la (av rfl)) ?_;clear S;intro a u S;refine cd S rfl ?_ ?_
 ·intro hc2;refine r0 ?_;refine sp S (tr (fldi 0 1 rfl uT47)<|la (ldk 3 sC45 rfl rfl rfl)) ?_; clear S; intro a u S;refine nbs (rawE (β := Chg)) S [(Sl.mk none 0 ([] : List Chg))] (x_bs S [(0, .slice none 0 0)] uT45 iZ122) (fun x hx => by simp only [List.mem_cons, List.not_mem_nil, or_false] at hx; rw [hx]; exact (show (rawE (β := Chg)).wf _ _ (Sl.mk none 0 ([] : List Chg)) from trivial)) ?_; clear S; intro a u b56 S;refine ap (E := (rawE (β := Chg))) (ys := [(Sl.mk none 0 ([] : List Chg))]) S 5 rfl uT45 iZ122 rfl rfl (show LAt (rawE (β := Chg)) _ _ (some ⟨b56, 0, none⟩) ([(Sl.mk none 0 ([] : List Chg))]) from ((S.u 2 rfl)).1) ((S.u 2 rfl)).2.2 (LAt.mem (show LAt (rawE (β := Chg)) _ _ (some ⟨b56, 0, none⟩) ([(Sl.mk none 0 ([] : List Chg))]) from ((S.u 2 rfl)).1)) ⟨by unfold maxLen; (try simp only [List.length_cons, List.length_nil, List.length_append, List.length_map]); omega, by (try simp only [List.length_cons, List.length_nil, List.length_append, List.length_map]); omega⟩ ?_; clear S; intro a u ad57 cap57 S;refine en S (tr (fldi 0 1 rfl uT47)<|la (stk 3 rfl rfl rfl)) ?_; clear S; intro a u S;refine blk_n (then_n (rs0 ?_));refine sp S (la (ldkw 3 rfl rfl wD47)) ?_; clear S; intro a u S;replace S := S.pkc [0, 1, 2, 3, 5, 4];replace S := (show St _ _ _ _ _ _ [tpO 112 T T_l, blO b3 (planE.cells p) 47, blO b4 [.bool false, .slice none 0 0] 47, blO b5 [bD (p.staged = true), .slice ad57 ((rw ++ [(Sl.mk none 0 ([] : List Chg))]).length) cap57] 47, rwO (rawE (β := Chg)) 122 w.heap.size ad57 cap57 (rw ++ [(Sl.mk none 0 ([] : List Chg))])] _ _ from S.fzL (ks := [tpO 112 T T_l, blO b3 (planE.cells p) 47, blO b4 [.bool false, .slice none 0 0] 47, blO b5 [bD (p.staged = true), .slice ad57 ((rw ++ [(Sl.mk none 0 ([] : List Chg))]).length) cap57] 47, rwO (rawE (β := Chg)) 122 w.heap.size ad57 cap57 (rw ++ [(Sl.mk none 0 ([] : List Chg))])]) (by show 0 < chgE.n; decide));replace S := S.fz 4 rfl;replace S := S.ar (wfF (slE (slE chgE)) (Sl.mk ad57 cap57 (rw ++ [(Sl.mk none 0 ([] : List Chg))]))) (raw_wf (S.u 4 rfl) (all_app (S.u 3 rfl) sl_nil));refine ens S (la (stkw 2 rfl rfl rfl)) ?_; clear S; intro a u S;refine wp_ret ?_;refine retcw rfl S.s rfl [bD (p.staged = true), .slice ad57 ((rw ++ [(Sl.mk none 0 ([] : List Chg))]).length) cap57] wD47 (fun j v hv => by rw [Nat.zero_add]; exact (S.k 2 rfl).cell hv) ?_;replace S := S.pkc [0];refine ⟨(⟨p.staged, (Sl.mk ad57 cap57 (rw ++ [(Sl.mk none 0 ([] : List Chg))]))⟩ : Plan), rfl, ⟨trivial, (S.u 5 rfl)⟩, ?_, (S.t 0 rfl), S.m.c⟩
  first
  | (show List.length _ ≤ 10;simp only [List.length_append,List.length_set,List.length_cons,List.length_nil] at *;omega)
  | (show List.length _ ≤ 10;omega)
 intro hc3;refine rs S (tr (eqli rfl rfl)<|la (av rfl)) ?_;clear S;intro a u S;refine cd S rfl ?_ ?_
 ·intro hc4;refine r0 ?_;refine sp S (tr (fldi 0 0 rfl uT47)<|tr (ldk 3 sC4 rfl rfl rfl)<|tr (noti rfl)<|la (fldi 0 0 rfl uT47)) ?_; clear S; intro a u S;obtain ⟨bv63, hbv63⟩ : ∃ b : Bool, (b = true) ↔ (¬ (p.staged = true)) := ⟨decide (¬ (p.staged = true)), by simp⟩;replace S := S.ext (d := 63) (v := bD (bv63 = true)) ((S.get 63 rfl).trans (vb hbv63.symm));refine en S (la (stk 3 rfl rfl rfl)) ?_; clear S; intro a u S;refine blk_n (then_n (rs0 ?_));refine sp S (la (ldkw 3 rfl rfl wD47)) ?_; clear S; intro a u S;replace S := S.pkc [0, 1, 2, 3, 5, 4];replace S := (show St _ _ _ _ _ _ [tpO 112 T T_l, blO b3 (planE.cells p) 47, blO b4 [.bool false, .slice none 0 0] 47, blO b5 [bD (bv63 = true), .slice rw_a rw.length rw_c] 47, rwO (rawE (β := Chg)) 122 w.heap.size rw_a rw_c rw] _ _ from S.fzL (ks := [tpO 112 T T_l, blO b3 (planE.cells p) 47, blO b4 [.bool false, .slice none 0 0] 47, blO b5 [bD (bv63 = true), .slice rw_a rw.length rw_c] 47, rwO (rawE (β := Chg)) 122 w.heap.size rw_a rw_c rw]) (by show 0 < chgE.n; decide));replace S := S.fz 4 rfl;replace S := S.ar (wfF (slE (slE chgE)) (Sl.mk rw_a rw_c rw)) (raw_wf (S.u 3 rfl) (S.u 2 rfl));refine ens S (la (stkw 2 rfl rfl rfl)) ?_; clear S; intro a u S;refine wp_ret ?_;refine retcw rfl S.s rfl [bD (bv63 = true), .slice rw_a rw.length rw_c] wD47 (fun j v hv => by rw [Nat.zero_add]; exact (S.k 2 rfl).cell hv) ?_;replace S := S.pkc [0];refine ⟨(⟨bv63, (Sl.mk rw_a rw_c rw)⟩ : Plan), rfl, ⟨trivial, (S.u 4 rfl)⟩, ?_, (S.t 0 rfl), S.m.c⟩
  first
  | (show List.length _ ≤ 10;simp only [List.length_append,List.length_set,List.length_cons,List.length_nil] at *;omega)
  | (show List.length _ ≤ 10;omega)
 intro hc5;refine rs S (tr (eqli rfl rfl)<|la (av rfl)) ?_;clear S;intro a u S;refine cd S rfl ?_ ?_
 ·intro hc6;refine dr (P := Try.prog) S 11 [one T] [(67, .is _), (68, .is _), (69, .is _), (70, .of (fun z w9 => ∃ (x70a : Int), z = iI x70a ∧ (0 ≤ x70a ∧ (x70a < 6 ∨ x70a = 0))) (fun v w9 w' c h => let ⟨x70a, hv, h0⟩ := h; ⟨x70a, hv, h0⟩)), (71, .of (fun z w9 => ∃ (x70a : Int), z = iI (x70a - 1) ∧ (0 ≤ x70a ∧ (x70a < 6 ∨ x70a = 0))) (fun v w9 w' c h => let ⟨x70a, hv, h0⟩ := h; ⟨x70a, hv, h0⟩)), (72, .is _), (73, .of (fun z w9 => ∃ (x73a : Int), z = iI x73a ∧ (0 ≤ x73a ∧ (x73a < 6 ∨ x73a = 0))) (fun v w9 w' c h => let ⟨x73a, hv, h0⟩ := h; ⟨x73a, hv, h0⟩)), (74, .of (fun z w9 => ∃ (x73a : Int), z = iI (x73a - 1) ∧ (0 ≤ x73a ∧ (x73a < 6 ∨ x73a = 0))) (fun v w9 w' c h => let ⟨x73a, hv, h0⟩ := h; ⟨x73a, hv, h0⟩)), (75, .of (fun z w9 => ∃ (x70a : Int) (x73b : Int), z = .agg #[iI (x70a - 1), iI (x73b - 1)] ∧ (0 ≤ x70a ∧ (x70a < 6 ∨ x70a = 0)) ∧ (0 ≤ x73b ∧ (x73b < 6 ∨ x73b = 0))) (fun v w9 w' c h => let ⟨x70a, x73b, hv, h0, h1⟩ := h; ⟨x70a, x73b, hv, h0, h1⟩)), (76, .of (fun z w9 => ∃ (x76a : Nat) (x70b : Int) (x73c : Int), z = .slice (some ⟨x76a, 0, none⟩) 1 1 ∧ (slE chgE).wf (Fr F [one T, one b3, one b4, one b5, (lsO (rwS chgE 124 w.heap.size) rw).o, abk rw_a]) w9.heap (Sl.mk (some ⟨x76a, 0, none⟩) 1 ([(⟨(x70b - 1), (x73c - 1)⟩ : Chg)])) ∧ (0 ≤ x70b ∧ (x70b < 6 ∨ x70b = 0)) ∧ (0 ≤ x73c ∧ (x73c < 6 ∨ x73c = 0))) (fun v w9 w' c h => let ⟨x76a, x70b, x73c, hv, h0, h1, h2⟩ := h; ⟨x76a, x70b, x73c, hv, Enc.kp (slE chgE) h0 c (by intro o h; simp at h ⊢; first | exact .inl h | simp [h]), h1, h2⟩)), (77, .of (fun z w9 => ∃ (x77a : Nat) (x76b : Nat) (x70c : Int) (x73d : Int), z = .slice (some ⟨x77a, 0, none⟩) 1 1 ∧ (slE (rawE (β := Chg))).wf (Fr F [one T, one b3, one b4, one b5, (lsO (rwS chgE 124 w.heap.size) rw).o, abk rw_a]) w9.heap (Sl.mk (some ⟨x77a, 0, none⟩) 1 ([(Sl.mk (some ⟨x76b, 0, none⟩) 1 ([(⟨(x70c - 1), (x73d - 1)⟩ : Chg)]))])) ∧ (slE chgE).wf (Fr F [one T, one b3, one b4, one b5, (lsO (rwS chgE 124 w.heap.size) rw).o, abk rw_a]) w9.heap (Sl.mk (some ⟨x76b, 0, none⟩) 1 ([(⟨(x70c - 1), (x73d - 1)⟩ : Chg)])) ∧ (0 ≤ x70c ∧ (x70c < 6 ∨ x70c = 0)) ∧ (0 ≤ x73d ∧ (x73d < 6 ∨ x73d = 0))) (fun v w9 w' c h => let ⟨x77a, x76b, x70c, x73d, hv, h0, h1, h2, h3⟩ := h; ⟨x77a, x76b, x70c, x73d, hv, Enc.kp (slE (rawE (β := Chg))) h0 c (by intro o h; simp at h ⊢; first | exact .inl h | simp [h]), Enc.kp (slE chgE) h1 c (by intro o h; simp at h ⊢; first | exact .inl h | simp [h]), h2, h3⟩))] [[], [67], [], [69], [70], [], [72], [73], [71, 74], [75], [76]] [68, 77] _ ⟨qd (fldi 0 1 rfl uT47), qd (ldk 3 sC45 rfl rfl rfl), qd (mv rfl), ?_, ?_, qd (mv rfl), ?_, ?_, ?_, ?_, ?_, trivial⟩ ?_
  ·skip;intro a u S G hE;refine hcl S (gNext _ _ S.x T (S.M.pick [0] (by decide)) T_l (dn1 (js:=[0]) (S.u 0 rfl)) (S.t 0 rfl) 6 ⟨by omega,by omega⟩) cB26 ?_;rintro e w2 ⟨r_h70,rfl,hr_h70,tK,T0⟩;refine ⟨_,rfl,(show ∃ _,_ from ?_),T0.ch,(S.k1 0 rfl S.s T0 tK).m⟩;exact ⟨r_h70,rfl,hr_h70⟩
  ·skip;intro a u S G hE;obtain ⟨e70,-⟩:=hE;have M0:=S.m;obtain ⟨x70_16,e70,hr16⟩:=e70;replace S:=S.ext e70;exact hvl 71 S M0 (v:=iI (x70_16 - 1)) (x_sub (S.e rfl) (S.e rfl) (r:=(x70_16 - 1)) (w_i64 bo)) (show ∃ _,_ from ⟨x70_16,rfl,hr16⟩)
  ·skip;intro a u S G hE;refine hcl S (gNext _ _ S.x T (S.M.pick [0] (by decide)) T_l (dn1 (js:=[0]) (S.u 0 rfl)) (S.t 0 rfl) 6 ⟨by omega,by omega⟩) cB26 ?_;rintro e w2 ⟨r_h73,rfl,hr_h73,tK,T0⟩;refine ⟨_,rfl,(show ∃ _,_ from ?_),T0.ch,(S.k1 0 rfl S.s T0 tK).m⟩;exact ⟨r_h73,rfl,hr_h73⟩
  ·skip;intro a u S G hE;obtain ⟨e73,-⟩:=hE;have M0:=S.m;obtain ⟨x73_17,e73,hr17⟩:=e73;replace S:=S.ext e73;exact hvl 74 S M0 (v:=iI (x73_17 - 1)) (x_sub (S.e rfl) (S.e rfl) (r:=(x73_17 - 1)) (w_i64 bo)) (show ∃ _,_ from ⟨x73_17,rfl,hr17⟩)
  ·skip;intro a u S G hE;obtain ⟨e71,e74,-⟩:=hE;have M0:=S.m;obtain ⟨x70_18,e71,hr18⟩:=e71;replace S:=S.ext e71;obtain ⟨x73_19,e74,hr19⟩:=e74;replace S:=S.ext e74;exact hvl 75 S M0 (v:=.agg #[iI (x70_18 - 1),iI (x73_19 - 1)]) (x_bd S [(0,iI (x70_18 - 1)),(1,iI (x73_19 - 1))] [iI (x70_18 - 1),iI (x73_19 - 1)]) (show ∃ _,_ from ⟨x70_18,x73_19,rfl,hr18,hr19⟩)
  ·skip;intro a u S G hE;obtain ⟨e75,-⟩:=hE;have M0:=S.m;obtain ⟨x70_20,x73_21,e75,hr20,hr21⟩:=e75;replace S:=S.ext e75;refine hnb 76 M0 (x_bsl [(0,.agg #[iI (x70_20 - 1),iI (x73_21 - 1)])] [iI (x70_20 - 1),iI (x73_21 - 1)] uT122 iZ124 (by decide) (by decide) (by simp only [List.map_cons,List.map_nil,S.e (x:=.tmp 75) (v:=.agg #[iI (x70_20 - 1),iI (x73_21 - 1)]) rfl]) (by kernel_rfl)) fun g=>(show ∃ _,_ from ⟨_,x70_20,x73_21,rfl,sl_of_blk (Blk.new _ [iI (x70_20 - 1),iI (x73_21 - 1)] 124) [(⟨(x70_20 - 1),(x73_21 - 1)⟩ : Chg)] 1 rfl (by decide) (by decide) rfl (fr_fresh S.m.c S.m.f rfl) ?_,hr20,hr21⟩);intro x hx;simp only [List.mem_cons,List.not_mem_nil,or_false] at hx;rw [hx] <;> first | exact Enc.tr (chgE) (show chgE.wf (Fr F _) _ (⟨(x70_20 - 1),(x73_21 - 1)⟩ : Chg) from ⟨(show inI64 (x70_20 - 1) from ⟨by omega,by omega⟩),(show inI64 (x73_21 - 1) from ⟨by omega,by omega⟩)⟩) (Tr.of_ch0 S.M g)
  ·skip;intro a u S G hE;obtain ⟨e76,-⟩:=hE;have M0:=S.m;obtain ⟨x76_22,x70_23,x73_24,e76,X22,hr23,hr24⟩:=e76;replace S:=S.ext e76;refine hnb 77 M0 (x_bsl [(0,.slice (some ⟨x76_22,0,none⟩) 1 1)] [.slice (some ⟨x76_22,0,none⟩) 1 1] uT45 iZ122 (by decide) (by decide) (by simp only [List.map_cons,List.map_nil,S.e (x:=.tmp 76) (v:=.slice (some ⟨x76_22,0,none⟩) 1 1) rfl]) (by kernel_rfl)) fun g=>(show ∃ _,_ from ⟨_,x76_22,x70_23,x73_24,rfl,sl_of_blk (Blk.new _ [.slice (some ⟨x76_22,0,none⟩) 1 1] 122) [(Sl.mk (some ⟨x76_22,0,none⟩) 1 ([(⟨(x70_23 - 1),(x73_24 - 1)⟩ : Chg)]))] 1 rfl (by decide) (by decide) rfl (fr_fresh S.m.c S.m.f rfl) ?_,Enc.tr (slE chgE) X22 (Tr.of_ch0 S.M g),hr23,hr24⟩);intro x hx;simp only [List.mem_cons,List.not_mem_nil,or_false] at hx;rw [hx] <;> first | exact Enc.tr ((rawE (β:=Chg))) (show (rawE (β:=Chg)).wf (Fr F _) _ (Sl.mk (some ⟨x76_22,0,none⟩) 1 ([(⟨(x70_23 - 1),(x73_24 - 1)⟩ : Chg)])) from trivial) (Tr.of_ch0 S.M g)
  clear S;intro a u S G hE;obtain ⟨e77,-⟩:=hE;obtain ⟨x77_25,x76_26,x70_27,x73_28,e77,X25,X26,hr27,hr28⟩:=e77;replace S:=S.ext e77;clear e77;replace S:=S.ar (wfF (slE (rawE (β:=Chg))) (Sl.mk (some ⟨x77_25,0,none⟩) 1 ([(Sl.mk (some ⟨x76_26,0,none⟩) 1 ([(⟨(x70_27 - 1),(x73_28 - 1)⟩ : Chg)]))]))) X25;replace S:=S.ar (wfF (slE chgE) (Sl.mk (some ⟨x76_26,0,none⟩) 1 ([(⟨(x70_27 - 1),(x73_28 - 1)⟩ : Chg)]))) X26;have hn29 : ([(Sl.mk (some ⟨x76_26,0,none⟩) 1 ([(⟨(x70_27 - 1),(x73_28 - 1)⟩ : Chg)]))]).length ≤ 9223372036854775807:=((S.u 2 rfl)).1.len;refine ap (E:=(rawE (β:=Chg))) (ys:=[(Sl.mk (some ⟨x76_26,0,none⟩) 1 ([(⟨(x70_27 - 1),(x73_28 - 1)⟩ : Chg)]))]) S 5 rfl uT45 iZ122 rfl rfl (show LAt (rawE (β:=Chg)) _ _ (some ⟨x77_25,0,none⟩) ([(Sl.mk (some ⟨x76_26,0,none⟩) 1 ([(⟨(x70_27 - 1),(x73_28 - 1)⟩ : Chg)]))]) from ((S.u 2 rfl)).1) ((S.u 2 rfl)).2.2 (LAt.mem (show LAt (rawE (β:=Chg)) _ _ (some ⟨x77_25,0,none⟩) ([(Sl.mk (some ⟨x76_26,0,none⟩) 1 ([(⟨(x70_27 - 1),(x73_28 - 1)⟩ : Chg)]))]) from ((S.u 2 rfl)).1)) ⟨by unfold maxLen;(try simp only [List.length_cons,List.length_nil,List.length_append,List.length_map]);omega,by (try simp only [List.length_cons,List.length_nil,List.length_append,List.length_map]);omega⟩ ?_;clear S;intro a u ad78 cap78 S;refine en S (tr (fldi 0 1 rfl uT47)<|la (stk 3 rfl rfl rfl)) ?_;clear S;intro a u S;refine blk_n (then_n (rs0 ?_));refine sp S (la (ldkw 3 rfl rfl wD47)) ?_;clear S;intro a u S;replace S:=S.pkc [0,1,2,3,5,4];replace S:=(show St _ _ _ _ _ _ [tpO 112 T T_l,blO b3 (planE.cells p) 47,blO b4 [.bool false,.slice none 0 0] 47,blO b5 [bD (p.staged = true),.slice ad78 ((rw ++ [(Sl.mk (some ⟨x76_26,0,none⟩) 1 ([(⟨(x70_27 - 1),(x73_28 - 1)⟩ : Chg)]))]).length) cap78] 47,rwO (rawE (β:=Chg)) 122 w.heap.size ad78 cap78 (rw ++ [(Sl.mk (some ⟨x76_26,0,none⟩) 1 ([(⟨(x70_27 - 1),(x73_28 - 1)⟩ : Chg)]))])] _ _ from S.fzL (ks:=[tpO 112 T T_l,blO b3 (planE.cells p) 47,blO b4 [.bool false,.slice none 0 0] 47,blO b5 [bD (p.staged = true),.slice ad78 ((rw ++ [(Sl.mk (some ⟨x76_26,0,none⟩) 1 ([(⟨(x70_27 - 1),(x73_28 - 1)⟩ : Chg)]))]).length) cap78] 47,rwO (rawE (β:=Chg)) 122 w.heap.size ad78 cap78 (rw ++ [(Sl.mk (some ⟨x76_26,0,none⟩) 1 ([(⟨(x70_27 - 1),(x73_28 - 1)⟩ : Chg)]))])]) (by show 0 < chgE.n;decide));replace S:=S.fz 4 rfl;replace S:=S.ar (wfF (slE (slE chgE)) (Sl.mk ad78 cap78 (rw ++ [(Sl.mk (some ⟨x76_26,0,none⟩) 1 ([(⟨(x70_27 - 1),(x73_28 - 1)⟩ : Chg)]))]))) (raw_wf (S.u 5 rfl) (all_app (S.u 4 rfl) (S.u 3 rfl)));refine ens S (la (stkw 2 rfl rfl rfl)) ?_;clear S;intro a u S;refine wp_ret ?_;refine retcw rfl S.s rfl [bD (p.staged = true),.slice ad78 ((rw ++ [(Sl.mk (some ⟨x76_26,0,none⟩) 1 ([(⟨(x70_27 - 1),(x73_28 - 1)⟩ : Chg)]))]).length) cap78] wD47 (fun j v hv=>by rw [Nat.zero_add];exact (S.k 2 rfl).cell hv) ?_;replace S:=S.pkc [0];refine ⟨(⟨p.staged,(Sl.mk ad78 cap78 (rw ++ [(Sl.mk (some ⟨x76_26,0,none⟩) 1 ([(⟨(x70_27 - 1),(x73_28 - 1)⟩ : Chg)]))]))⟩ : Plan),rfl,⟨trivial,(S.u 6 rfl)⟩,?_,(S.t 0 rfl),S.m.c⟩
  first
  | (show List.length _ ≤ 10;simp only [List.length_append,List.length_set,List.length_cons,List.length_nil] at *;omega)
  | (show List.length _ ≤ 10;omega)
 intro hc7;refine rs S (tr (eqli rfl rfl)<|la (av rfl)) ?_;clear S;intro a u S;refine cd S rfl ?_ ?_
 ·intro hc8;refine rs S (tr (fldi 0 1 rfl uT47)<|tr (ldk 3 sC45 rfl rfl rfl)<|tr (leni uT45 rfl)<|la (gtri rfl rfl)) ?_; clear S; intro a u S;refine cd S rfl ?_ ?_
  ·intro hc9;obtain ⟨x0, rest, rfl⟩ : ∃ x0 rest, rw = x0 :: rest := List.exists_cons_of_ne_nil (fun e => by have := congrArg List.length e; simp only [List.length_nil] at this; omega);replace S := S.pkc [0, 1, 2, 3, 5, 4];replace S := (show St _ _ _ _ _ _ [tpO 112 T T_l, blO b3 (planE.cells p) 47, blO b4 [.bool false, .slice none 0 0] 47, blO b5 [bD (p.staged = true), .slice rw_a ((x0 :: rest).length) rw_c] 47, rwO (rawE (β := Chg)) 122 w.heap.size rw_a rw_c (x0 :: rest), rwO chgE 124 w.heap.size x0.a x0.c x0.xs, lsO (rwS chgE 124 w.heap.size) rest] _ _ from S.lunc (ks := [tpO 112 T T_l, blO b3 (planE.cells p) 47, blO b4 [.bool false, .slice none 0 0] 47, blO b5 [bD (p.staged = true), .slice rw_a ((x0 :: rest).length) rw_c] 47, rwO (rawE (β := Chg)) 122 w.heap.size rw_a rw_c (x0 :: rest)]));have hx0 : x0.xs.length ≤ 9223372036854775807 := (S.row 5 rfl).len_le;have hx1 := hne x0 List.mem_cons_self;have hx2 : 0 < ((x0 :: rest).getD 0 (rawE (β := Chg)).dflt).xs.length := hx1.1;obtain ⟨hl33, hu33⟩ : inI64 ((x0.xs.getD 0 chgE.dflt).dev) := id (((S.row 5 rfl).wfi 0 bo).1);obtain ⟨hl34, hu34⟩ : inI64 ((x0.xs.getD 0 chgE.dflt).ver) := id (((S.row 5 rfl).wfi 0 bo).2);refine lzE (P := Try.prog) (s := .tmp 91) (x := .tmp 98) chgE Nat S 13 [] [(86, .is _), (87, .is _), (88, .is _), (89, .is _), (90, .is _), (91, .is _), (92, .is _), (93, .is _), (94, .is _), (95, .is _), (96, .is _), (97, .is _), (98, .of (fun z w9 => ∃ (x98a : Nat), z = .slice (some ⟨x98a, 0, none⟩) 1 1 ∧ (slE chgE).wf (Fr F [one T, one b3, one b4, one b5, abk rw_a, abk x0.a, (lsO (rwS chgE 124 w.heap.size) rest).o]) w9.heap (Sl.mk (some ⟨x98a, 0, none⟩) 1 ([(x0.xs.getD 0 chgE.dflt)]))) (fun v w9 w' c h => let ⟨x98a, hv, h0⟩ := h; ⟨x98a, hv, Enc.kp (slE chgE) h0 c (fun _ h => by simp at h)⟩))] [[], [86], [], [88], [89], [90], [], [92], [93], [94], [95], [96], [97]] [91, 98] [⟨0, 86, pT b5 (0 + 1), []⟩, ⟨1, 87, .slice rw_a ((x0 :: rest).length) rw_c, [86]⟩] [(5, 13), (12, 13), (4, 5), (11, 12), (3, 4), (10, 11), (2, 3), (9, 10), (8, 9), (7, 8), (6, 7)] [14, 15] _ 5 rfl (fun g => [(91, sV x0), (98, .slice (some ⟨g, 0, none⟩) 1 1)]) (fun g => True) (fun g => [(x0.xs.getD 0 chgE.dflt)]) ⟨qd (fldi 0 1 rfl uT47), qd (ldk 3 sC45 rfl rfl rfl), qd (fldi 0 1 rfl uT47), qd (ldk 3 sC45 rfl rfl rfl), qd (ov fun S=>x_idx uT45 sZ122 (S.e rfl) (S.e rfl) 0 rfl bo (row_off (S.row 4 rfl) (m := 0) bo)), qd (ov fun S=>x_load sC122 (S.e rfl) (((S.row 4 rfl).latz nz).cell 0 bo 0 _ rfl)), qd (fldi 0 1 rfl uT47), qd (ldk 3 sC45 rfl rfl rfl), qd (ov fun S=>x_idx uT45 sZ122 (S.e rfl) (S.e rfl) 0 rfl bo (row_off (S.row 4 rfl) (m := 0) bo)), qd (ov fun S=>x_load sC122 (S.e rfl) (((S.row 4 rfl).latz nz).cell 0 bo 0 _ rfl)), qd (ov fun S=>x_idx uT122 sZ124 (S.e rfl) (S.e rfl) 0 rfl bo (row_off (S.row 5 rfl) (m := 0) bo)), qd (ov fun S=>x_ldw (S.e rfl) (((S.row 5 rfl).latz nz).wcell 0 bo _ rfl _ rfl) wD124), ?_, trivial⟩ ⟨⟨⟨_, rfl, rfl, rfl, fun a w S => (x_fld (z := 0) (0) 1 uT47 rfl rfl (by kernel_rfl) (S.e rfl))⟩, (show 86 < 102 from by decide), rfl⟩, ⟨⟨_, rfl, rfl, rfl, fun a w S => (x_load sC45 (S.e rfl) ((S.k 3 rfl).cell (j := 1) rfl))⟩, (show 87 < 102 from by decide), rfl⟩, trivial⟩ (fun g ad' cap' => ⟨⟨⟨_, rfl, rfl, rfl, fun a w S => (x_fld (z := 0) (0) 1 uT47 rfl rfl (by kernel_rfl) (S.e rfl))⟩, (show 86 < 102 from by decide), rfl⟩, ⟨⟨_, rfl, rfl, rfl, fun a w S => (x_load sC45 (S.e rfl) ((S.k 3 rfl).cell (j := 1) rfl))⟩, (show 87 < 102 from by decide), rfl⟩, trivial⟩) (by intro p hp hlt; simp only [List.mem_cons, List.not_mem_nil, or_false] at hp; rcases hp with rfl | rfl <;> first | rfl | (revert hlt; decide)) ?_ ?_ uT122 iZ124
   ·skip;intro a u S G hE;refine hnb 98 S.m (x_bsl [(0,.agg (chgE.cells (x0.xs.getD 0 chgE.dflt)).toArray)] [iI ((x0.xs.getD 0 chgE.dflt).dev),iI ((x0.xs.getD 0 chgE.dflt).ver)] uT122 iZ124 (by decide) (by decide) (by simp only [List.map_cons,List.map_nil,S.e (x:=.tmp 97) (v:=.agg (chgE.cells (x0.xs.getD 0 chgE.dflt)).toArray) rfl]) (by kernel_rfl)) fun g=>(show ∃ _,_ from ⟨_,rfl,sl_of_blk (Blk.new _ [iI ((x0.xs.getD 0 chgE.dflt).dev),iI ((x0.xs.getD 0 chgE.dflt).ver)] 124) [(x0.xs.getD 0 chgE.dflt)] 1 rfl (by decide) (by decide) rfl (fr_fresh S.m.c S.m.f rfl) ?_⟩);intro x hx;simp only [List.mem_cons,List.not_mem_nil,or_false] at hx;rw [hx] <;> first | exact Enc.tr (chgE) (show chgE.wf (Fr F _) _ (x0.xs.getD 0 chgE.dflt) from ⟨((S.row 5 rfl).wfi 0 bo).1,((S.row 5 rfl).wfi 0 bo).2⟩) (Tr.of_ch0 S.M g)
   ·intro a u S G hE;obtain ⟨e98,-⟩:=hE;obtain ⟨x98_35,e98,X35⟩:=e98;replace S:=S.ext e98;exact ⟨x98_35,_,_,_,S.s.sub (subM rfl),trivial,rfl,rfl,(show LAt chgE _ _ (some ⟨x98_35,0,none⟩) ([(x0.xs.getD 0 chgE.dflt)]) from (X35).1),(X35).2.2,(LAt.mem (show LAt chgE _ _ (some ⟨x98_35,0,none⟩) ([(x0.xs.getD 0 chgE.dflt)]) from (X35).1)),⟨by unfold maxLen;(try simp only [List.length_cons,List.length_nil,List.length_append,List.length_map]);omega,by (try simp only [List.length_cons,List.length_nil,List.length_append,List.length_map]);omega⟩⟩
   clear S;intro g ad99 cap99 a u S hR
   revert S hR;revert a u ad99 cap99;revert g;intro x98_35 ad99 cap99 a u S hR
   refine sp S (la (ov fun S=>x_idx uT45 sZ122 (S.e rfl) (S.e rfl) 0 rfl bo (row_off (S.row 4 rfl) (m:=0) bo))) ?_;clear S;intro a u S;refine sp S (la (str (E:=(rawE (β:=Chg))) 4 (by kernel_rfl) rfl rfl rfl 0 0 bo nz (Sl.mk ad99 cap99 (x0.xs ++ [(x0.xs.getD 0 chgE.dflt)])) (fun S=>trivial) rfl (by first | rfl | (show _ = _ * 1 + 0;omega) | (simp [rawE];omega) | simp [rawE]) rfl)) ?_;clear S;intro a u S;have hls36 : ((x0 :: rest).set 0 (Sl.mk ad99 cap99 (x0.xs ++ [(x0.xs.getD 0 chgE.dflt)]))).length = (x0 :: rest).length:=by simp
   refine nn (blk_n (then_n (rs0 ?_)));refine sp S (la (ldkw 3 rfl rfl wD47)) ?_;clear S;intro a u S;replace S:=(show St _ _ _ _ _ _ [tpO 112 T T_l,blO b3 (planE.cells p) 47,blO b4 [.bool false,.slice none 0 0] 47,blO b5 [bD (p.staged = true),.slice rw_a ((x0 :: rest).length) rw_c] 47,rwO (rawE (β:=Chg)) 122 w.heap.size rw_a rw_c ((x0 :: rest).set 0 (Sl.mk ad99 cap99 (x0.xs ++ [(x0.xs.getD 0 chgE.dflt)]))),lsO (rwS chgE 124 w.heap.size) ((Sl.mk ad99 cap99 (x0.xs ++ [(x0.xs.getD 0 chgE.dflt)])) :: rest)] _ _ from S.lcon (ks:=[tpO 112 T T_l,blO b3 (planE.cells p) 47,blO b4 [.bool false,.slice none 0 0] 47,blO b5 [bD (p.staged = true),.slice rw_a ((x0 :: rest).length) rw_c] 47,rwO (rawE (β:=Chg)) 122 w.heap.size rw_a rw_c ((x0 :: rest).set 0 (Sl.mk ad99 cap99 (x0.xs ++ [(x0.xs.getD 0 chgE.dflt)])))]) (x:=(Sl.mk ad99 cap99 (x0.xs ++ [(x0.xs.getD 0 chgE.dflt)]))));replace S:=(show St _ _ _ _ _ _ [tpO 112 T T_l,blO b3 (planE.cells p) 47,blO b4 [.bool false,.slice none 0 0] 47,blO b5 [bD (p.staged = true),.slice rw_a ((x0 :: rest).length) rw_c] 47,rwO (rawE (β:=Chg)) 122 w.heap.size rw_a rw_c ((x0 :: rest).set 0 (Sl.mk ad99 cap99 (x0.xs ++ [(x0.xs.getD 0 chgE.dflt)])))] _ _ from S.fzL (ks:=[tpO 112 T T_l,blO b3 (planE.cells p) 47,blO b4 [.bool false,.slice none 0 0] 47,blO b5 [bD (p.staged = true),.slice rw_a ((x0 :: rest).length) rw_c] 47,rwO (rawE (β:=Chg)) 122 w.heap.size rw_a rw_c ((x0 :: rest).set 0 (Sl.mk ad99 cap99 (x0.xs ++ [(x0.xs.getD 0 chgE.dflt)])))]) (by show 0 < chgE.n;decide));replace S:=S.fz 4 rfl;replace S:=S.ar (wfF (slE (slE chgE)) (Sl.mk rw_a rw_c ((x0 :: rest).set 0 (Sl.mk ad99 cap99 (x0.xs ++ [(x0.xs.getD 0 chgE.dflt)]))))) (raw_wf (S.u 3 rfl) (S.u 2 rfl));refine ens S (la (stkw 2 rfl rfl rfl)) ?_;clear S;intro a u S;refine wp_ret ?_;refine retcw rfl S.s rfl [bD (p.staged = true),.slice rw_a (((x0 :: rest).set 0 (Sl.mk ad99 cap99 (x0.xs ++ [(x0.xs.getD 0 chgE.dflt)]))).length) rw_c] wD47 (fun j v hv=>by rw [Nat.zero_add];exact (S.k 2 rfl).cell hv) ?_;replace S:=S.pkc [0];refine ⟨(⟨p.staged,(Sl.mk rw_a rw_c ((x0 :: rest).set 0 (Sl.mk ad99 cap99 (x0.xs ++ [(x0.xs.getD 0 chgE.dflt)]))))⟩ : Plan),(r1 (by simp [planE])),⟨trivial,(S.u 4 rfl)⟩,?_,(S.t 0 rfl),S.m.c⟩
   first
   | (show List.length _ ≤ 10;simp only [List.length_append,List.length_set,List.length_cons,List.length_nil] at *;omega)
   | (show List.length _ ≤ 10;omega)
  intro hc10;refine wp_skip (blk_n (then_n (rs0 ?_)));refine sp S (la (ldkw 3 rfl rfl wD47)) ?_;clear S;intro a u S;replace S:=S.pkc [0,1,2,3,5,4];replace S:=(show St _ _ _ _ _ _ [tpO 112 T T_l,blO b3 (planE.cells p) 47,blO b4 [.bool false,.slice none 0 0] 47,blO b5 [bD (p.staged = true),.slice rw_a rw.length rw_c] 47,rwO (rawE (β:=Chg)) 122 w.heap.size rw_a rw_c rw] _ _ from S.fzL (ks:=[tpO 112 T T_l,blO b3 (planE.cells p) 47,blO b4 [.bool false,.slice none 0 0] 47,blO b5 [bD (p.staged = true),.slice rw_a rw.length rw_c] 47,rwO (rawE (β:=Chg)) 122 w.heap.size rw_a rw_c rw]) (by show 0 < chgE.n;decide));replace S:=S.fz 4 rfl;replace S:=S.ar (wfF (slE (slE chgE)) (Sl.mk rw_a rw_c rw)) (raw_wf (S.u 3 rfl) (S.u 2 rfl));refine ens S (la (stkw 2 rfl rfl rfl)) ?_;clear S;intro a u S;refine wp_ret ?_;refine retcw rfl S.s rfl [bD (p.staged = true),.slice rw_a rw.length rw_c] wD47 (fun j v hv=>by rw [Nat.zero_add];exact (S.k 2 rfl).cell hv) ?_;replace S:=S.pkc [0];refine ⟨(⟨p.staged,(Sl.mk rw_a rw_c rw)⟩ : Plan),rfl,⟨trivial,(S.u 4 rfl)⟩,?_,(S.t 0 rfl),S.m.c⟩
  first
  | (show List.length _ ≤ 10;simp only [List.length_append,List.length_set,List.length_cons,List.length_nil] at *;omega)
  | (show List.length _ ≤ 10;omega)
 intro hc11;refine rs S (tr (fldi 0 1 rfl uT47)<|tr (ldk 3 sC45 rfl rfl rfl)<|tr (leni uT45 rfl)<|tr (gtri rfl rfl)<|tr (mv rfl)<|tr (og 35 rfl gt fun S hg=>xf (0) 1 uT47 (S.e rfl))<|tr (og 35 rfl gt fun S hg=>x_load sC45 (S.p rfl hg) ((S.k 3 rfl).cell (j:=1) rfl))<|tr (og 35 rfl gt fun S hg=>x_idx uT45 sZ122 (S.p rfl hg) (S.e rfl) 0 rfl bo (row_off (S.row 5 rfl) (m:=0) bo))<|tr (og 35 rfl gt fun S hg=>x_load sC122 (S.p rfl hg) (((S.row 5 rfl).latz nz).cell 0 bo 0 _ rfl))<|tr (og 35 rfl gt fun S hg=>x_len uT122 (S.p rfl hg))<|tr (og 35 rfl gt fun S hg=>x_gtr (S.p rfl hg) (S.e rfl))<|la (andi rfl rfl rfl)) ?_;clear S;intro a u S;refine cd S rfl ?_ ?_
 ·intro hc12;obtain ⟨x0, rest, rfl⟩ : ∃ x0 rest, rw = x0 :: rest := List.exists_cons_of_ne_nil (fun e => by have := congrArg List.length e; simp only [List.length_nil] at this; omega);replace S := S.pkc [0, 1, 2, 3, 5, 4];replace S := (show St _ _ _ _ _ _ [tpO 112 T T_l, blO b3 (planE.cells p) 47, blO b4 [.bool false, .slice none 0 0] 47, blO b5 [bD (p.staged = true), .slice rw_a ((x0 :: rest).length) rw_c] 47, rwO (rawE (β := Chg)) 122 w.heap.size rw_a rw_c (x0 :: rest), rwO chgE 124 w.heap.size x0.a x0.c x0.xs, lsO (rwS chgE 124 w.heap.size) rest] _ _ from S.lunc (ks := [tpO 112 T T_l, blO b3 (planE.cells p) 47, blO b4 [.bool false, .slice none 0 0] 47, blO b5 [bD (p.staged = true), .slice rw_a ((x0 :: rest).length) rw_c] 47, rwO (rawE (β := Chg)) 122 w.heap.size rw_a rw_c (x0 :: rest)]));have hx0 : x0.xs.length ≤ 9223372036854775807 := (S.row 5 rfl).len_le;have hx1 := hne x0 List.mem_cons_self;have hx2 : 0 < ((x0 :: rest).getD 0 (rawE (β := Chg)).dflt).xs.length := hx1.1;refine dr (P := Try.prog) S 9 [one T] [(43, .is _), (44, .is _), (45, .is _), (46, .is _), (47, .is _), (48, .of (fun z w9 => ∃ (x48a : Int), z = iI x48a ∧ (0 ≤ x48a ∧ (x48a < 6 ∨ x48a = 0))) (fun v w9 w' c h => let ⟨x48a, hv, h0⟩ := h; ⟨x48a, hv, h0⟩)), (49, .of (fun z w9 => ∃ (x48a : Int), z = iI (x48a - 1) ∧ (0 ≤ x48a ∧ (x48a < 6 ∨ x48a = 0))) (fun v w9 w' c h => let ⟨x48a, hv, h0⟩ := h; ⟨x48a, hv, h0⟩)), (50, .is _), (51, .is _)] [[], [43], [44], [45], [], [47], [48], [46], [50]] [49, 51] _ ⟨qd (fldi 0 1 rfl uT47), qd (ldk 3 sC45 rfl rfl rfl), qd (ov fun S=>x_idx uT45 sZ122 (S.e rfl) (S.e rfl) 0 rfl bo (row_off (S.row 4 rfl) (m := 0) bo)), qd (ov fun S=>x_load sC122 (S.e rfl) (((S.row 4 rfl).latz nz).cell 0 bo 0 _ rfl)), qd (mv rfl), ?_, ?_, qd (ov fun S=>x_idx uT122 sZ124 (S.e rfl) (S.e rfl) 0 rfl bo (row_off (S.row 5 rfl) (m := 0) bo)), qd (fldi (0 + 0 * 2) 1 rfl uT124), trivial⟩ ?_
  ·skip;intro a u S G hE;refine hcl S (gNext _ _ S.x T (S.M.pick [0] (by decide)) T_l (dn1 (js:=[0]) (S.u 0 rfl)) (S.t 0 rfl) 6 ⟨by omega,by omega⟩) cB26 ?_;rintro e w2 ⟨r_h48,rfl,hr_h48,tK,T0⟩;refine ⟨_,rfl,(show ∃ _,_ from ?_),T0.ch,(S.k1 0 rfl S.s T0 tK).m⟩;exact ⟨r_h48,rfl,hr_h48⟩
  ·skip;intro a u S G hE;obtain ⟨e48,-⟩:=hE;have M0:=S.m;obtain ⟨x48_40,e48,hr40⟩:=e48;replace S:=S.ext e48;exact hvl 49 S M0 (v:=iI (x48_40 - 1)) (x_sub (S.e rfl) (S.e rfl) (r:=(x48_40 - 1)) (w_i64 bo)) (show ∃ _,_ from ⟨x48_40,rfl,hr40⟩)
  clear S;intro a u S G hE;obtain ⟨e49,-⟩:=hE;obtain ⟨x48_41,e49,hr41⟩:=e49;replace S:=S.ext e49;clear e49;refine sp S (la (str (E:=chgE) 5 (by kernel_rfl) rfl rfl rfl 0 1 bo nz (⟨(x0.xs.getD 0 chgE.dflt).dev,(x48_41 - 1)⟩ : Chg) (fun S=>⟨((S.row 5 rfl).wfi 0 bo).1,(show inI64 (x48_41 - 1) from ⟨by omega,by omega⟩)⟩) rfl (by first | rfl | (show _ = _ * 1 + 0;omega) | (simp [chgE];omega) | simp [chgE]) rfl)) ?_;clear S;intro a u S;have hls42 : (x0.xs.set 0 (⟨(x0.xs.getD 0 chgE.dflt).dev,(x48_41 - 1)⟩ : Chg)).length = x0.xs.length:=by simp
  refine nn (blk_n (then_n (rs0 ?_)));refine sp S (la (ldkw 3 rfl rfl wD47)) ?_;clear S;intro a u S;replace S:=(show St _ _ _ _ _ _ [tpO 112 T T_l,blO b3 (planE.cells p) 47,blO b4 [.bool false,.slice none 0 0] 47,blO b5 [bD (p.staged = true),.slice rw_a ((x0 :: rest).length) rw_c] 47,rwO (rawE (β:=Chg)) 122 w.heap.size rw_a rw_c (x0 :: rest),lsO (rwS chgE 124 w.heap.size) ((Sl.mk x0.a x0.c (x0.xs.set 0 (⟨(x0.xs.getD 0 chgE.dflt).dev,(x48_41 - 1)⟩ : Chg))) :: rest)] _ _ from S.lcon (ks:=[tpO 112 T T_l,blO b3 (planE.cells p) 47,blO b4 [.bool false,.slice none 0 0] 47,blO b5 [bD (p.staged = true),.slice rw_a ((x0 :: rest).length) rw_c] 47,rwO (rawE (β:=Chg)) 122 w.heap.size rw_a rw_c (x0 :: rest)]) (x:=(Sl.mk x0.a x0.c (x0.xs.set 0 (⟨(x0.xs.getD 0 chgE.dflt).dev,(x48_41 - 1)⟩ : Chg)))));replace S:=(show St _ _ _ _ _ _ [tpO 112 T T_l,blO b3 (planE.cells p) 47,blO b4 [.bool false,.slice none 0 0] 47,blO b5 [bD (p.staged = true),.slice rw_a ((x0 :: rest).length) rw_c] 47,rwO (rawE (β:=Chg)) 122 w.heap.size rw_a rw_c (x0 :: rest)] _ _ from S.fzL (ks:=[tpO 112 T T_l,blO b3 (planE.cells p) 47,blO b4 [.bool false,.slice none 0 0] 47,blO b5 [bD (p.staged = true),.slice rw_a ((x0 :: rest).length) rw_c] 47,rwO (rawE (β:=Chg)) 122 w.heap.size rw_a rw_c (x0 :: rest)]) (by show 0 < chgE.n;decide));replace S:=(show St _ _ _ _ _ _ [tpO 112 T T_l,blO b3 (planE.cells p) 47,blO b4 [.bool false,.slice none 0 0] 47,blO b5 [bD (p.staged = true),.slice rw_a ((x0 :: rest).length) rw_c] 47,rwO (rawE (β:=Chg)) 122 w.heap.size rw_a rw_c ((Sl.mk x0.a x0.c (x0.xs.set 0 (⟨(x0.xs.getD 0 chgE.dflt).dev,(x48_41 - 1)⟩ : Chg))) :: rest)] _ _ from S.k1s 4 rfl (rwO (rawE (β:=Chg)) 122 w.heap.size rw_a rw_c ((Sl.mk x0.a x0.c (x0.xs.set 0 (⟨(x0.xs.getD 0 chgE.dflt).dev,(x48_41 - 1)⟩ : Chg))) :: rest)) rfl S.s (Ch.refl _) ⟨by have h:=(S.m.o _ (nth_mem (i:=4) rfl)).1;simpa [rawE] using h,fun _ _=>trivial⟩);replace S:=S.fz 4 rfl;replace S:=S.ar (wfF (slE (slE chgE)) (Sl.mk rw_a rw_c ((Sl.mk x0.a x0.c (x0.xs.set 0 (⟨(x0.xs.getD 0 chgE.dflt).dev,(x48_41 - 1)⟩ : Chg))) :: rest))) (raw_wf (S.u 3 rfl) (S.u 2 rfl));refine ens S (la (stkw 2 rfl rfl rfl)) ?_;clear S;intro a u S;refine wp_ret ?_;refine retcw rfl S.s rfl [bD (p.staged = true),.slice rw_a (((Sl.mk x0.a x0.c (x0.xs.set 0 (⟨(x0.xs.getD 0 chgE.dflt).dev,(x48_41 - 1)⟩ : Chg))) :: rest).length) rw_c] wD47 (fun j v hv=>by rw [Nat.zero_add];exact (S.k 2 rfl).cell hv) ?_;replace S:=S.pkc [0];refine ⟨(⟨p.staged,(Sl.mk rw_a rw_c ((Sl.mk x0.a x0.c (x0.xs.set 0 (⟨(x0.xs.getD 0 chgE.dflt).dev,(x48_41 - 1)⟩ : Chg))) :: rest))⟩ : Plan),(r1 (by simp [planE])),⟨trivial,(S.u 4 rfl)⟩,?_,(S.t 0 rfl),S.m.c⟩
  first
  | (show List.length _ ≤ 10;simp only [List.length_append,List.length_set,List.length_cons,List.length_nil] at *;omega)
  | (show List.length _ ≤ 10;omega)
 intro hc13;refine wp_skip (blk_n (then_n (rs0 ?_)));refine sp S (la (ldkw 3 rfl rfl wD47)) ?_;clear S;intro a u S;replace S:=S.pkc [0,1,2,3,5,4];replace S:=(show St _ _ _ _ _ _ [tpO 112 T T_l,blO b3 (planE.cells p) 47,blO b4 [.bool false,.slice none 0 0] 47,blO b5 [bD (p.staged = true),.slice rw_a rw.length rw_c] 47,rwO (rawE (β:=Chg)) 122 w.heap.size rw_a rw_c rw] _ _ from S.fzL (ks:=[tpO 112 T T_l,blO b3 (planE.cells p) 47,blO b4 [.bool false,.slice none 0 0] 47,blO b5 [bD (p.staged = true),.slice rw_a rw.length rw_c] 47,rwO (rawE (β:=Chg)) 122 w.heap.size rw_a rw_c rw]) (by show 0 < chgE.n;decide));replace S:=S.fz 4 rfl;replace S:=S.ar (wfF (slE (slE chgE)) (Sl.mk rw_a rw_c rw)) (raw_wf (S.u 3 rfl) (S.u 2 rfl));refine ens S (la (stkw 2 rfl rfl rfl)) ?_;clear S;intro a u S;refine wp_ret ?_;refine retcw rfl S.s rfl [bD (p.staged = true),.slice rw_a rw.length rw_c] wD47 (fun j v hv=>by rw [Nat.zero_add];exact (S.k 2 rfl).cell hv) ?_;replace S:=S.pkc [0];refine ⟨(⟨p.staged,(Sl.mk rw_a rw_c rw)⟩ : Plan),rfl,⟨trivial,(S.u 4 rfl)⟩,?_,(S.t 0 rfl),S.m.c⟩
 first
 | (show List.length _ ≤ 10;simp only [List.length_append,List.length_set,List.length_cons,List.length_nil] at *;omega)
 | (show List.length _ ≤ 10;omega)
open Go.RowKit Go.Proofs.Ytobggnpnochnnaa
open Go.RowKit Go.Proofs.Ytobggnpnochnnaa
theorem planG_sp {p : Plan} {n : Int} (h : planG p n) : ∀ x ∈ p.rounds.xs,0 < x.xs.length ∧ x.xs.length ≤ 1000:=fun x hx=>by
 obtain ⟨sts,hst⟩:=Option.isSome_iff_exists.1 h.1.1;have hP:=(statesP_ok hst (by rw [rdsP_len];exact h.1.2)).2.1;exact ⟨h.2.2 x hx,(hP.rd x.xs (List.mem_map_of_mem hx)).1⟩
open Go.RowKit Go.Proofs.Ytobggnpnochnnaa
theorem mk_no {P Q E : Prop} [Decidable P] [Decidable Q] (hP : ¬ P) (hQ : ¬ Q) (hE : E) (h : (¬ decide P = decide Q ∨ ¬ (P ↔ False)) ∨ ¬ P ∧ ¬ E) : False:=by
 rcases h with (h | h) | h
 ·exact h (by rw [decide_eq_false hP,decide_eq_false hQ])
 ·exact h ⟨hP,False.elim⟩
 exact h.2 hE
theorem mk_yes {P Q E : Prop} [Decidable P] [Decidable Q] (hP : P) (hQ : Q) (h : (¬ decide P = decide Q ∨ ¬ (P ↔ True)) ∨ ¬ P ∧ ¬ E) : False:=by
 rcases h with (h | h) | h
 ·exact h (by rw [decide_eq_true hP,decide_eq_true hQ])
 ·exact h ⟨fun _=>trivial,fun _=>hP⟩
 exact h.1 hP
theorem nMakes (w : World) (F : Nat → Prop) (hF : Old F w) (M : MS [] w) (t_ : Sl Int) (t__w : (slE intE).wf (Fr F []) w.heap t_) (p : Plan) (p_w : planE.wf (Fr F []) w.heap p) (v : Sl Bool) (v_w : (slE boolE).wf (Fr F []) w.heap v) :
 Calls Try.prog 12 #[sV t_,.agg (planE.cells p).toArray,sV v] w fun e w'=>e = .returned (bD (True)) ∧ Tr [] w [] w':=by
 have : t_.xs.length ≤ 9223372036854775807:=(t__w).1.len;have : p.rounds.xs.length ≤ 9223372036854775807:=(p_w.2).1.len;have : v.xs.length ≤ 9223372036854775807:=(v_w).1.len;refine go Try.func12 rfl 82 rfl [wfF (slE intE) t_,wfF planE p,wfF (slE boolE) v] [] hF M ⟨t__w,p_w,v_w,trivial⟩ trivial ?_;intro a S;have hD : ∀ k,In ([] : List BS) k → ¬ F k:=fun _ h=>h.elim;refine rs0 ?_;refine nbp S (x_box _ (S.e rfl) rfl) ?_;clear S;intro a u b4 S;refine ens S (la (av rfl)) ?_;clear S;intro a u S;refine rs0 ?_;refine sp S (la (mv rfl)) ?_;clear S;intro a u S;refine cl S (gNew _ _ S.x (.nil _) t_ (dn0 (S.u 0 rfl))) cB19 ?_;rintro e u ⟨T18,rfl,TK,T0⟩;refine ⟨_,rfl,fun a s=>?_⟩;replace S:=S.kt s T0 TK;clear s T0 TK;refine ens S (la (av rfl)) ?_;clear S;intro a u S;refine rs0 ?_;refine sp S (la (mv rfl)) ?_;clear S;intro a u S;refine cl S (gNext _ _ S.x T18 (S.M.pick [1] (by decide)) t_ (dn1 (js:=[1]) (S.u 0 rfl)) (S.t 1 rfl) 4 ⟨by omega,by omega⟩) cB26 ?_;rintro e u ⟨r_t20,rfl,hr_t20,tK,T0⟩;refine ⟨_,rfl,fun a s=>?_⟩;replace S:=S.k1 1 rfl s T0 tK;clear s T0 tK;refine ens S (tr (addi (1 + r_t20) rfl rfl (w_i64 bo))<|la (av rfl)) ?_;clear S;intro a u S;refine rs0 ?_;refine sp S (tr (mv rfl)<|tr (mv rfl)<|la (mv rfl)) ?_;clear S;intro a u S;refine cl S (gPlan _ _ S.x T18 (S.M.pick [1] (by decide)) t_ (dn1 (js:=[1]) (S.u 0 rfl)) (S.t 1 rfl) (1 + r_t20) ⟨by omega,by omega⟩ (⟨by omega,by omega⟩)) cB30 ?_;rintro e u ⟨r_t25,rfl,R_t25,hr_t25,tK,T0⟩;refine ⟨_,rfl,fun a s=>?_⟩;replace S:=(S.k1 1 rfl s T0 tK).ar (wfF planE r_t25) (Enc.up _ R_t25);clear s T0 tK R_t25;have hsp:=planG_sp hr_t25;have hgp:=hr_t25;obtain ⟨hgd,hp3,hpne⟩:=hr_t25;have hn5 : r_t25.rounds.xs.length ≤ 9223372036854775807:=((S.u 3 rfl).2).1.len;refine cl S (gSpoil _ _ S.x T18 (S.M.pick [1] (by decide)) t_ (dn1 (js:=[1]) (S.u 0 rfl)) (S.t 1 rfl) r_t25 (dn1 (js:=[1]) (S.u 3 rfl)) (⟨by first | omega | (dsimp only;omega),by assumption⟩)) cB31 ?_;rintro e u ⟨r_t26,rfl,R_t26,hr_t26,tK,T0⟩;refine ⟨_,rfl,fun a s=>?_⟩;replace S:=(S.k1 1 rfl s T0 tK).ar (wfF planE r_t26) (Enc.up _ R_t26);clear s T0 tK R_t26;have hn6 : r_t26.rounds.xs.length ≤ 9223372036854775807:=((S.u 4 rfl).2).1.len;refine nbp S (x_allocz _ iZ47 rfl) ?_;clear S;intro a u b9 S;refine ens S (la (stkw 2 rfl rfl rfl)) ?_;clear S;intro a u S;refine wp_seq ?_;refine rs S (la (av rfl)) ?_;clear S;intro a u S;refine wp_block ?_;replace S:=S.ar (wfF planE r_t26) (S.u 4 rfl);refine lq2 (fun (i : Nat) (ap : Plan)=>[(2,sV v),(4,pT b4 0),(7,pT T18 0),(8,iI (1 + r_t20)),(9,pT b9 0),(10,iN i)]) (fun (i : Nat) (ap : Plan)=>[wfF (slE intE) t_,wfF planE p,wfF (slE boolE) v,wfF planE r_t25,wfF planE r_t26,wfF planE ap]) (fun (i : Nat) (ap : Plan)=>[blO b4 (planE.cells p) 47,tpO 112 T18 t_,blO b9 [bD (ap.staged = true),sV ap.rounds] 47]) (fun (i : Nat) (ap : Plan)=>i ≤ 2) (fun (i : Nat) (ap : Plan)=>2 - i) S 0 r_t26 (subM rfl) rfl rfl ?_ ?_
 ·exact Nat.zero_le _
 clear S;intro i ap a u S hR;have hi:=hR;refine wp_seq ?_;refine rs S (tr (mv rfl)<|la (lssi rfl rfl)) ?_;clear S;intro a u S;refine cd S rfl ?_ ?_
 ·intro hc0;refine wp_skip (then_n (wp_seq (wp_block (rs0 ?_))));refine sp S (tr (mv rfl)<|la (mv rfl)) ?_; clear S; intro a u S;refine cl S (gVol _ _ S.x T18 (S.M.pick [1] (by decide)) t_ (dn1 (js := [1]) (S.u 0 rfl)) (S.t 1 rfl) (1 + r_t20) ⟨by omega, by omega⟩ (⟨by omega, by omega⟩)) cB49 ?_;rintro e u ⟨rx_t33, ra_t33, rc_t33, rfl, R_t33, hr_t33, tK, T0⟩; refine ⟨_, rfl, fun a s => ?_⟩;replace S := (S.kr1 1 rfl [⟨_, boolE, 4, ra_t33, rc_t33, rx_t33⟩] s T0 ⟨R_t33, trivial⟩ (fun _ => tK)).sh; clear s T0 tK R_t33;refine ens S (la (av rfl)) ?_; clear S; intro a u S;refine wp_seq ?_;refine rs S (tr (mv rfl)<|la (eqli rfl rfl)) ?_; clear S; intro a u S;refine cd S rfl ?_ ?_
  ·intro hc1;refine rg S (tr (ldkw 0 rfl rfl wD47)<|tr (mv rfl)<|tr (stkw 2 rfl rfl rfl)<|la (av rfl)) ?_; clear S; intro a u S;refine then_n (wp_seq ?_);have hn13 : p.rounds.xs.length ≤ 9223372036854775807 := ((S.u 1 rfl).2).1.len;refine rs S (tr (fldi 0 1 rfl uT47)<|tr (ldk 2 sC45 rfl rfl rfl)<|tr (leni uT45 rfl)<|la (gtri rfl rfl)) ?_; clear S; intro a u S;refine cd S rfl ?_ ?_
   ·intro hc2;refine wp_exit (then_e (blk_e (then_n ?_)));refine rg S (tr (mv rfl)<|tr (addi ((i + 1 : Nat) : Int) rfl rfl (w_i64 bo))<|la (av rfl)) ?_; clear S; intro a u S;have hnw := (S.u 1 rfl);replace S := S.rt 5;replace S := S.ar (wfF planE p) hnw;refine then_n ?_;refine ⟨(i + 1), p, S.re (subM rfl) rfl rfl, ?_, ?_⟩
    ·omega
    omega
   intro hc3;refine wp_skip (then_n (rs0 ?_));refine sp S (tr (ldkw 2 rfl rfl wD47)<|la (mv rfl)) ?_;clear S;intro a u S;replace S:=S.spl 4;refine cl S (rNew _ _ S.xxF  S.mF (S.nfF hD) p (dnF   (S.u 1 rfl)) v (dnF   (S.u 2 rfl)) (by first | omega | (dsimp only;omega))) cB50 ?_;rintro e u ⟨q_t45,rfl,qK_t45,qB_t45,hr_t45,T0⟩;refine ⟨_,rfl,fun a s=>?_⟩;have S2:=S.kF   [bnO (runQ q_t45)] s T0 ⟨qB_t45,trivial⟩ ⟨(mo_bn (mo_runQ _)),trivial⟩;replace S2:=S2.sh;clear S;have S:=S2;clear S2 s T0 qB_t45
   rcases q_t45 with _ | ⟨B_t45,x_t45⟩
   ·skip;replace S := S.pkc [0, 1, 2, 3];refine ens S (tr (mv rfl)<|tr (exi rfl rfl)<|tr (exi rfl rfl)<|tr (av rfl)<|la (av rfl)) ?_; clear S; intro a u S;refine rs0 ?_;have hn17 : v.xs.length ≤ 9223372036854775807 := ((S.u 2 rfl)).1.len;refine sp S (tr (ldkw 2 rfl rfl wD47)<|tr (mv rfl)<|la (leni uT83 rfl)) ?_; clear S; intro a u S;refine cl S (rStates _ _ S.x (.nil _) p (dn0 (S.u 1 rfl)) ((v.xs.length : Nat) : Int) ⟨by omega, by omega⟩ (by first | omega | (dsimp only; omega))) cB40 ?_;rintro e u ⟨r_t520, rfl, R_t520, hr_t520, T0⟩; refine ⟨_, rfl, fun a s => ?_⟩;replace S := (S.k0 s T0).ar (wfF (slE (slE intE)) r_t520) (Enc.up _ R_t520); clear s T0 R_t520;have hn18 : r_t520.xs.length ≤ 9223372036854775807 := ((S.u 6 rfl)).1.len;refine ens S (tr (mv rfl)<|tr (exi rfl rfl)<|tr (exi rfl rfl)<|tr (av rfl)<|la (av rfl)) ?_; clear S; intro a u S;refine rs S (tr (mv rfl)<|tr (eqli rfl rfl)<|tr (mv rfl)<|tr (og 57 rfl gt fun S hg=>xf (0) 1 uT47 (S.e rfl))<|tr (og 57 rfl gt fun S hg=>x_load sC45 (S.p rfl hg) ((S.k 2 rfl).cell (j := 1) rfl))<|tr (og 57 rfl gt fun S hg=>x_len uT45 (S.p rfl hg))<|tr (og 57 rfl gt fun S hg=>x_leq (S.p rfl hg) (S.e rfl))<|tr (andi rfl rfl rfl)<|la (av rfl)) ?_; clear S; intro a u S;refine rs S (tr (mv rfl)<|tr (mv rfl)<|tr (eqli rfl rfl)<|tr (ov fun S=>x_bneq uT4 (S.e rfl) (S.e rfl))<|tr (mv rfl)<|tr (og 67 rfl gf fun S hg=>x_move (S.e rfl))<|tr (og 67 rfl gf fun S hg=>x_move (S.e rfl))<|tr (og 67 rfl gf fun S hg=>pbF (x_pneN uT73 (S.p rfl hg) (S.e rfl)))<|tr (og 67 rfl gf fun S hg=>x_bpneq uT4 (S.p rfl hg) (S.p rfl hg))<|tr (ori rfl rfl rfl)<|tr (mv rfl)<|tr (og 73 rfl gf fun S hg=>x_move (S.e rfl))<|tr (og 73 rfl gf fun S hg=>x_notp (S.p rfl hg))<|tr (og 73 rfl gf fun S hg=>x_move (S.p rfl hg))<|tr (og 76 rfl ggt fun S hg=>x_move (S.e rfl))<|tr (og 76 rfl ggt fun S hg=>x_neq (S.p rfl hg) (S.e rfl))<|tr (og 73 rfl gf fun S hg=>x_and (S.p rfl hg) (fun hl => (S.p rfl (And.intro hg hl))) (S.e rfl))<|la (ori rfl rfl rfl)) ?_; clear S; intro a u S;refine cd S rfl ?_ ?_
    ·intro hc4;refine rs S (la (av rfl)) ?_; clear S; intro a u S;refine wp_ret (blk_r (then_r (then_r (blk_r (then_r ?_)))));refine ret1 rfl S.s rfl ?_;replace S := S.pk [];refine ⟨(r1 (vf ?_)), S.m.c⟩
     first
     | trivial
     | exact fun _=>mk_no (fun q=>absurd (hr_t45.1.2 ⟨stsE_0.1 q.1,by omega⟩) (by decide)) (by decide) rfl hc4
     | exact fun _=>mk_yes ⟨stsE_0.2 (hr_t45.1.1 rfl).1,by have:=(hr_t45.1.1 rfl).2;omega⟩ rfl hc4
    intro hc5;refine wp_skip (blk_n (then_n ?_));refine rg S (tr (mv rfl)<|tr (addi ((i + 1 : Nat) : Int) rfl rfl (w_i64 bo))<|la (av rfl)) ?_;clear S;intro a u S;have hnw:=(S.u 1 rfl);replace S:=S.rt 5;replace S:=S.ar (wfF planE p) hnw;refine then_n ?_;refine ⟨(i + 1),p,S.re (subM rfl) rfl rfl,?_,?_⟩
    ·omega
    omega
   skip;replace S:=(show St _ _ _ _ _ _ [blO b4 (planE.cells p) 47,tpO 112 T18 t_,blO b9 (planE.cells p) 47,rwO boolE 4 w.heap.size ra_t33 rc_t33 rx_t33,bnO (runF B_t45 x_t45)] _ _ from S);refine ens S (tr (mv rfl)<|tr (exi rfl rfl)<|tr (exi rfl rfl)<|tr (av rfl)<|la (av rfl)) ?_;clear S;intro a u S;refine rs0 ?_;have hn24 : v.xs.length ≤ 9223372036854775807:=((S.u 2 rfl)).1.len;refine sp S (tr (ldkw 2 rfl rfl wD47)<|tr (mv rfl)<|la (leni uT83 rfl)) ?_;clear S;intro a u S;refine cl S (rStates _ _ S.x (.nil _) p (dn0 (S.u 1 rfl)) ((v.xs.length : Nat) : Int) ⟨by omega,by omega⟩ (by first | omega | (dsimp only;omega))) cB40 ?_;rintro e u ⟨r_t520,rfl,R_t520,hr_t520,T0⟩;refine ⟨_,rfl,fun a s=>?_⟩;replace S:=(S.k0 s T0).ar (wfF (slE (slE intE)) r_t520) (Enc.up _ R_t520);clear s T0 R_t520;have hn25 : r_t520.xs.length ≤ 9223372036854775807:=((S.u 6 rfl)).1.len;refine ens S (tr (mv rfl)<|tr (exi rfl rfl)<|tr (exi rfl rfl)<|tr (av rfl)<|la (av rfl)) ?_;clear S;intro a u S;refine rs S (tr (mv rfl)<|tr (eqli rfl rfl)<|tr (mv rfl)<|tr (og 57 rfl gt fun S hg=>xf (0) 1 uT47 (S.e rfl))<|tr (og 57 rfl gt fun S hg=>x_load sC45 (S.p rfl hg) ((S.k 2 rfl).cell (j:=1) rfl))<|tr (og 57 rfl gt fun S hg=>x_len uT45 (S.p rfl hg))<|tr (og 57 rfl gt fun S hg=>x_leq (S.p rfl hg) (S.e rfl))<|tr (andi rfl rfl rfl)<|la (av rfl)) ?_;clear S;intro a u S;refine rs S (tr (mv rfl)<|tr (mv rfl)<|tr (eqli rfl rfl)<|tr (ov fun S=>x_bneq uT4 (S.e rfl) (S.e rfl))<|tr (mv rfl)<|tr (og 67 rfl gf fun S hg=>x_move (S.e rfl))<|tr (og 67 rfl gf fun S hg=>x_move (S.e rfl))<|tr (og 67 rfl gf fun S hg=>pbT (x_pneN uT73 (S.p rfl hg) (S.e rfl)))<|tr (og 67 rfl gf fun S hg=>x_bpneq uT4 (S.p rfl hg) (S.p rfl hg))<|tr (ori rfl rfl rfl)<|tr (mv rfl)<|tr (og 73 rfl gf fun S hg=>x_move (S.e rfl))<|tr (og 73 rfl gf fun S hg=>x_notp (S.p rfl hg))<|tr (og 73 rfl gf fun S hg=>x_move (S.p rfl hg))<|tr (og 76 rfl ggt fun S hg=>x_move (S.e rfl))<|tr (og 76 rfl ggt fun S hg=>x_neq (S.p rfl hg) (S.e rfl))<|tr (og 73 rfl gf fun S hg=>x_and (S.p rfl hg) (fun hl=>(S.p rfl (And.intro hg hl))) (S.e rfl))<|la (ori rfl rfl rfl)) ?_;clear S;intro a u S;refine cd S rfl ?_ ?_
   ·intro hc6;refine rs S (la (av rfl)) ?_; clear S; intro a u S;refine wp_ret (blk_r (then_r (then_r (blk_r (then_r ?_)))));refine ret1 rfl S.s rfl ?_;replace S := S.pk [];refine ⟨(r1 (vf ?_)), S.m.c⟩
    first
    | trivial
    | exact fun _=>mk_no (fun q=>absurd (hr_t45.1.2 ⟨stsE_0.1 q.1,by omega⟩) (by decide)) (by decide) rfl hc6
    | exact fun _=>mk_yes ⟨stsE_0.2 (hr_t45.1.1 rfl).1,by have:=(hr_t45.1.1 rfl).2;omega⟩ rfl hc6
   intro hc7;refine wp_skip (blk_n (then_n ?_));refine rg S (tr (mv rfl)<|tr (addi ((i + 1 : Nat) : Int) rfl rfl (w_i64 bo))<|la (av rfl)) ?_;clear S;intro a u S;have hnw:=(S.u 1 rfl);replace S:=S.rt 5;replace S:=S.ar (wfF planE p) hnw;refine then_n ?_;refine ⟨(i + 1),p,S.re (subM rfl) rfl rfl,?_,?_⟩
   ·omega
   omega
  intro hc8;refine wp_skip (then_n (wp_seq ?_));have hn31 : ap.rounds.xs.length ≤ 9223372036854775807:=((S.u 5 rfl).2).1.len;refine rs S (tr (fldi 0 1 rfl uT47)<|tr (ldk 2 sC45 rfl rfl rfl)<|tr (leni uT45 rfl)<|la (gtri rfl rfl)) ?_;clear S;intro a u S;refine cd S rfl ?_ ?_
  ·intro hc9;refine wp_exit (then_e (blk_e (then_n ?_)));refine rg S (tr (mv rfl)<|tr (addi ((i + 1 : Nat) : Int) rfl rfl (w_i64 bo))<|la (av rfl)) ?_; clear S; intro a u S;have hnw := (S.u 5 rfl);replace S := S.rt 5;replace S := S.ar (wfF planE ap) hnw;refine then_n ?_;refine ⟨(i + 1), ap, S.re (subM rfl) rfl rfl, ?_, ?_⟩
   ·omega
   omega
  intro hc10;refine wp_skip (then_n (rs0 ?_));refine sp S (tr (ldkw 2 rfl rfl wD47)<|la (mv rfl)) ?_;clear S;intro a u S;replace S:=S.fz 3 rfl;replace S:=S.spl 4;refine cl S (rNew _ _ S.xxF  S.mF (S.nfF hD) ap ⟨trivial,(dnF   ((S.u 5 rfl).2))⟩ (Sl.mk ra_t33 rc_t33 rx_t33) (dnF   (S.u 6 rfl)) (by first | omega | (dsimp only;omega))) cB50 ?_;rintro e u ⟨q_t45,rfl,qK_t45,qB_t45,hr_t45,T0⟩;refine ⟨_,rfl,fun a s=>?_⟩;have S2:=S.kF   [bnO (runQ q_t45)] s T0 ⟨qB_t45,trivial⟩ ⟨(mo_bn (mo_runQ _)),trivial⟩;replace S2:=S2.sh;clear S;have S:=S2;clear S2 s T0 qB_t45
  rcases q_t45 with _ | ⟨B_t45,x_t45⟩
  ·skip;replace S := S.pkc [0, 1, 2, 3];refine ens S (tr (mv rfl)<|tr (exi rfl rfl)<|tr (exi rfl rfl)<|tr (av rfl)<|la (av rfl)) ?_; clear S; intro a u S;refine rs0 ?_;have hn35 : rx_t33.length ≤ 9223372036854775807 := ((S.u 6 rfl)).1.len;refine sp S (tr (ldkw 2 rfl rfl wD47)<|tr (mv rfl)<|la (leni uT83 rfl)) ?_; clear S; intro a u S;refine cl S (rStates _ _ S.x (.nil _) ap ⟨trivial, (dn0 ((S.u 5 rfl).2))⟩ ((rx_t33.length : Nat) : Int) ⟨by omega, by omega⟩ (by first | omega | (dsimp only; omega))) cB40 ?_;rintro e u ⟨r_t520, rfl, R_t520, hr_t520, T0⟩; refine ⟨_, rfl, fun a s => ?_⟩;replace S := (S.k0 s T0).ar (wfF (slE (slE intE)) r_t520) (Enc.up _ R_t520); clear s T0 R_t520;have hn36 : r_t520.xs.length ≤ 9223372036854775807 := ((S.u 7 rfl)).1.len;refine ens S (tr (mv rfl)<|tr (exi rfl rfl)<|tr (exi rfl rfl)<|tr (av rfl)<|la (av rfl)) ?_; clear S; intro a u S;refine rs S (tr (mv rfl)<|tr (eqli rfl rfl)<|tr (mv rfl)<|tr (og 57 rfl gt fun S hg=>xf (0) 1 uT47 (S.e rfl))<|tr (og 57 rfl gt fun S hg=>x_load sC45 (S.p rfl hg) ((S.k 2 rfl).cell (j := 1) rfl))<|tr (og 57 rfl gt fun S hg=>x_len uT45 (S.p rfl hg))<|tr (og 57 rfl gt fun S hg=>x_leq (S.p rfl hg) (S.e rfl))<|tr (andi rfl rfl rfl)<|la (av rfl)) ?_; clear S; intro a u S;refine rs S (tr (mv rfl)<|tr (mv rfl)<|tr (eqli rfl rfl)<|tr (ov fun S=>x_bneq uT4 (S.e rfl) (S.e rfl))<|tr (mv rfl)<|tr (og 67 rfl gf fun S hg=>x_move (S.e rfl))<|tr (og 67 rfl gf fun S hg=>x_move (S.e rfl))<|tr (og 67 rfl gf fun S hg=>pbF (x_pneN uT73 (S.p rfl hg) (S.e rfl)))<|tr (og 67 rfl gf fun S hg=>x_bpneq uT4 (S.p rfl hg) (S.p rfl hg))<|tr (ori rfl rfl rfl)<|tr (mv rfl)<|tr (og 73 rfl gf fun S hg=>x_move (S.e rfl))<|tr (og 73 rfl gf fun S hg=>x_notp (S.p rfl hg))<|tr (og 73 rfl gf fun S hg=>x_move (S.p rfl hg))<|tr (og 76 rfl ggt fun S hg=>x_move (S.e rfl))<|tr (og 76 rfl ggt fun S hg=>x_neq (S.p rfl hg) (S.e rfl))<|tr (og 73 rfl gf fun S hg=>x_and (S.p rfl hg) (fun hl => (S.p rfl (And.intro hg hl))) (S.e rfl))<|la (ori rfl rfl rfl)) ?_; clear S; intro a u S;refine cd S rfl ?_ ?_
   ·intro hc11;refine rs S (la (av rfl)) ?_; clear S; intro a u S;refine wp_ret (blk_r (then_r (then_r (blk_r (then_r ?_)))));refine ret1 rfl S.s rfl ?_;replace S := S.pk [];refine ⟨(r1 (vf ?_)), S.m.c⟩
    first
    | trivial
    | exact fun _=>mk_no (fun q=>absurd (hr_t45.1.2 ⟨stsE_0.1 q.1,by omega⟩) (by decide)) (by decide) rfl hc11
    | exact fun _=>mk_yes ⟨stsE_0.2 (hr_t45.1.1 rfl).1,by have:=(hr_t45.1.1 rfl).2;omega⟩ rfl hc11
   intro hc12;refine wp_skip (blk_n (then_n ?_));refine rg S (tr (mv rfl)<|tr (addi ((i + 1 : Nat) : Int) rfl rfl (w_i64 bo))<|la (av rfl)) ?_;clear S;intro a u S;have hnw:=(S.u 5 rfl);replace S:=S.rt 5;replace S:=S.ar (wfF planE ap) hnw;refine then_n ?_;refine ⟨(i + 1),ap,S.re (subM rfl) rfl rfl,?_,?_⟩
   ·omega
   omega
  skip;replace S:=(show St _ _ _ _ _ _ [blO b4 (planE.cells p) 47,tpO 112 T18 t_,blO b9 [bD (ap.staged = true),sV ap.rounds] 47,noO,bnO (runF B_t45 x_t45)] _ _ from S);refine ens S (tr (mv rfl)<|tr (exi rfl rfl)<|tr (exi rfl rfl)<|tr (av rfl)<|la (av rfl)) ?_;clear S;intro a u S;refine rs0 ?_;have hn42 : rx_t33.length ≤ 9223372036854775807:=((S.u 6 rfl)).1.len;refine sp S (tr (ldkw 2 rfl rfl wD47)<|tr (mv rfl)<|la (leni uT83 rfl)) ?_;clear S;intro a u S;refine cl S (rStates _ _ S.x (.nil _) ap ⟨trivial,(dn0 ((S.u 5 rfl).2))⟩ ((rx_t33.length : Nat) : Int) ⟨by omega,by omega⟩ (by first | omega | (dsimp only;omega))) cB40 ?_;rintro e u ⟨r_t520,rfl,R_t520,hr_t520,T0⟩;refine ⟨_,rfl,fun a s=>?_⟩;replace S:=(S.k0 s T0).ar (wfF (slE (slE intE)) r_t520) (Enc.up _ R_t520);clear s T0 R_t520;have hn43 : r_t520.xs.length ≤ 9223372036854775807:=((S.u 7 rfl)).1.len;refine ens S (tr (mv rfl)<|tr (exi rfl rfl)<|tr (exi rfl rfl)<|tr (av rfl)<|la (av rfl)) ?_;clear S;intro a u S;refine rs S (tr (mv rfl)<|tr (eqli rfl rfl)<|tr (mv rfl)<|tr (og 57 rfl gt fun S hg=>xf (0) 1 uT47 (S.e rfl))<|tr (og 57 rfl gt fun S hg=>x_load sC45 (S.p rfl hg) ((S.k 2 rfl).cell (j:=1) rfl))<|tr (og 57 rfl gt fun S hg=>x_len uT45 (S.p rfl hg))<|tr (og 57 rfl gt fun S hg=>x_leq (S.p rfl hg) (S.e rfl))<|tr (andi rfl rfl rfl)<|la (av rfl)) ?_;clear S;intro a u S;refine rs S (tr (mv rfl)<|tr (mv rfl)<|tr (eqli rfl rfl)<|tr (ov fun S=>x_bneq uT4 (S.e rfl) (S.e rfl))<|tr (mv rfl)<|tr (og 67 rfl gf fun S hg=>x_move (S.e rfl))<|tr (og 67 rfl gf fun S hg=>x_move (S.e rfl))<|tr (og 67 rfl gf fun S hg=>pbT (x_pneN uT73 (S.p rfl hg) (S.e rfl)))<|tr (og 67 rfl gf fun S hg=>x_bpneq uT4 (S.p rfl hg) (S.p rfl hg))<|tr (ori rfl rfl rfl)<|tr (mv rfl)<|tr (og 73 rfl gf fun S hg=>x_move (S.e rfl))<|tr (og 73 rfl gf fun S hg=>x_notp (S.p rfl hg))<|tr (og 73 rfl gf fun S hg=>x_move (S.p rfl hg))<|tr (og 76 rfl ggt fun S hg=>x_move (S.e rfl))<|tr (og 76 rfl ggt fun S hg=>x_neq (S.p rfl hg) (S.e rfl))<|tr (og 73 rfl gf fun S hg=>x_and (S.p rfl hg) (fun hl=>(S.p rfl (And.intro hg hl))) (S.e rfl))<|la (ori rfl rfl rfl)) ?_;clear S;intro a u S;refine cd S rfl ?_ ?_
  ·intro hc13;refine rs S (la (av rfl)) ?_; clear S; intro a u S;refine wp_ret (blk_r (then_r (then_r (blk_r (then_r ?_)))));refine ret1 rfl S.s rfl ?_;replace S := S.pk [];refine ⟨(r1 (vf ?_)), S.m.c⟩
   first
   | trivial
   | exact fun _=>mk_no (fun q=>absurd (hr_t45.1.2 ⟨stsE_0.1 q.1,by omega⟩) (by decide)) (by decide) rfl hc13
   | exact fun _=>mk_yes ⟨stsE_0.2 (hr_t45.1.1 rfl).1,by have:=(hr_t45.1.1 rfl).2;omega⟩ rfl hc13
  intro hc14;refine wp_skip (blk_n (then_n ?_));refine rg S (tr (mv rfl)<|tr (addi ((i + 1 : Nat) : Int) rfl rfl (w_i64 bo))<|la (av rfl)) ?_;clear S;intro a u S;have hnw:=(S.u 5 rfl);replace S:=S.rt 5;replace S:=S.ar (wfF planE ap) hnw;refine then_n ?_;refine ⟨(i + 1),ap,S.re (subM rfl) rfl rfl,?_,?_⟩
  ·omega
  omega
 intro hc15;refine wp_exit (then_e (then_e (blk_e (then_n ?_))));refine rs S (tr (oc (fun S=>nSane _ _ S.x (.nil _)) cB48)<|la (av rfl)) ?_;clear S;intro a u S;refine wp_ret ?_;refine ret1 rfl S.s rfl ?_;replace S:=S.pk [];refine ⟨(r1 (vt ?_)),S.m.c⟩
 first
 | trivial
 | exact fun _=>mk_no (fun q=>absurd (hr_t45.1.2 ⟨stsE_0.1 q.1,by omega⟩) (by decide)) (by decide) rfl hc15
 | exact fun _=>mk_yes ⟨stsE_0.2 (hr_t45.1.1 rfl).1,by have:=(hr_t45.1.1 rfl).2;omega⟩ rfl hc15
end Go.Proofs.Ytobggnpnochnnaa.V
