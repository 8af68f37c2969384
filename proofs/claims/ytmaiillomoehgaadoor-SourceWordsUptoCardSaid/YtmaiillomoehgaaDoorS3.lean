/- the lines of a text: the reference -/
import Derived.Test.YtmaiillomoehgaaDoorS2
namespace Go.Proofs.YtmaiillomoehgaaDoor.V
open Go.RowKit Go.Proofs.YtmaiillomoehgaaDoor
set_option linter.unusedVariables false
set_option linter.unusedSimpArgs false
attribute [local irreducible] wordsB partsB prB
set_option maxHeartbeats 2000000 in
set_option maxRecDepth 20000 in
theorem rLines (w : World) (F : Nat → Prop) (hF : Old F w) (M : MS [] w) (tx : ByteArray) (tx_h : inStr tx) :
 Calls Tryd.prog 31 #[.string tx] w fun e w' => ∃ (r0 : Sl Line), e = .returned (.tuple #[sV r0, iI ((linesS tx).2.1), iI ((linesS tx).2.2)]) ∧ (slE lineE).wf (Fr F []) w'.heap r0 ∧ r0.xs.map keyL = (linesS tx).1 ∧ Tr [] w [] w' := by
 refine go Tryd.func31 rfl 81 rfl [] [] hF M trivial trivial ?_
 intro a S
 refine rs S (tr (av rfl)<|tr (av rfl)<|la (av rfl)) ?_; clear S; intro a u S
 refine wp_seq ?_
 refine rs S (tr (mv rfl)<|tr (lesi uT9 rfl)<|la (gtri rfl rfl)) ?_; clear S; intro a u S
 refine cd S rfl ?_ ?_
 ·intro hc0
  refine rs S (tr (av rfl)<|tr (av rfl)<|la (av rfl)) ?_; clear S; intro a u S
  refine wp_ret (then_r ?_)
  refine ret3 rfl S.s rfl rfl rfl ?_
  refine ⟨(Sl.mk none 0 ([] : List Line)), (r3 rfl (vi ?_) (vi ?_)), sl_nil, ?_, S.m.c⟩
  ·unfold linesS; rw [if_pos (by omega)] <;> rfl
  ·unfold linesS; rw [if_pos (by omega)] <;> rfl
  unfold linesS; rw [if_pos (by omega)] <;> rfl
 intro hc1
 have hpl := parts_len 10 tx
 refine wp_skip (then_n ?_)
 refine rs S (la (av rfl)) ?_; clear S; intro a u S
 refine rs0 ?_
 refine sp S (la (mv rfl)) ?_; clear S; intro a u S
 refine cl S (rParts _ _ S.x (.nil _) tx tx_h 10 ⟨by omega, by omega⟩ (by omega)) cB42 ?_
 rintro e u ⟨ra_t14, rc_t14, rfl, R_t14, T0⟩; refine ⟨_, rfl, fun a s => ?_⟩
 replace S := (S.k0 s T0).ar (wfF (slE strE) (Sl.mk ra_t14 rc_t14 (partsB 10 tx))) (Enc.up _ R_t14); clear s T0 R_t14
 have hn6 : (partsB 10 tx).length ≤ 9223372036854775807 := ((S.u 0 rfl)).1.len
 refine ens S (la (av rfl)) ?_; clear S; intro a u S
 refine wp_seq ?_
 refine rs S (la (av rfl)) ?_; clear S; intro a u S
 refine wp_block ?_
 replace S := S.nr lineE 35
 refine lp4 (fun (k : Nat) (out_a : Option Addr) (out_c : Nat) (out : List Line) => [(6, .slice ra_t14 ((partsB 10 tx).length) rc_t14), (7, iN k), (5, .slice out_a out.length out_c)]) (fun (k : Nat) (out_a : Option Addr) (out_c : Nat) (out : List Line) => [rwO lineE 35 w.heap.size out_a out_c out]) (fun (k : Nat) (out_a : Option Addr) (out_c : Nat) (out : List Line) => k ≤ (partsB 10 tx).length ∧ out.length ≤ k ∧ linesB ((partsB 10 tx).drop k) k (out.map keyL) = linesB (partsB 10 tx) 0 []) (fun (k : Nat) (out_a : Option Addr) (out_c : Nat) (out : List Line) => (partsB 10 tx).length - k) S 0 none 0 ([]) (subM rfl) rfl ?_ ?_
 ·exact ⟨Nat.zero_le _, Nat.le_refl _, rfl⟩
 clear S; intro k out_a out_c out a u S hR
 have out_len := (S.row 0 rfl).len_le; simp only [maxLen] at out_len
 obtain ⟨hk, ho1, ho2⟩ := hR
 refine wp_seq ?_
 refine rs S (tr (mv rfl)<|tr (mv rfl)<|tr (leni uT29 rfl)<|la (lssi rfl rfl)) ?_; clear S; intro a u S
 refine cd S rfl ?_ ?_
 ·intro hc2
  have hsm := parts_small 10 tx k
  have hwl := words_len ((partsB 10 tx).getD k strE.dflt)
  rw [linesB_at (by omega)] at ho2
  refine wp_skip (then_n (wp_seq (wp_block (wp_seq ?_))))
  refine rs S (la (av rfl)) ?_; clear S; intro a u S
  refine wp_block ?_
  refine lp1 (fun (m : Nat) => [(6, .slice ra_t14 ((partsB 10 tx).length) rc_t14), (7, iN k), (5, .slice out_a out.length out_c), (15, iN k), (16, .slice ra_t14 ((partsB 10 tx).length) rc_t14), (17, iN (partsB 10 tx).length), (18, bD (((k : Nat) : Int) < (((partsB 10 tx).length : Nat) : Int))), (8, iN m)]) (fun (m : Nat) => [rwO lineE 35 w.heap.size out_a out_c out]) (fun (m : Nat) => m ≤ ((partsB 10 tx).getD k strE.dflt).size ∧ ∀ j, j < m → prOk (bt ((partsB 10 tx).getD k strE.dflt) j)) (fun (m : Nat) => ((partsB 10 tx).getD k strE.dflt).size - m) S 0 (subM rfl) rfl ?_ ?_
  ·exact ⟨Nat.zero_le _, fun j h => absurd h (Nat.not_lt_zero _)⟩
  clear S; intro m a u S hR
  obtain ⟨hm, hok⟩ := hR
  refine wp_seq ?_
  refine rs S (tr (mv rfl)<|tr (mv rfl)<|tr (mv rfl)<|tr (idxi uT29 sZ9 rfl rfl k rfl (by omega) ((show LAt strE _ _ ra_t14 (partsB 10 tx) from ((S.u 0 rfl)).1).adr (i := k) (by omega)))<|tr (ov fun S=>x_load sC9 (S.e rfl) ((show LAt strE _ _ ra_t14 (partsB 10 tx) from ((S.u 0 rfl)).1).cell k (by omega) 0 _ rfl))<|tr (lesi uT9 rfl)<|la (lssi rfl rfl)) ?_; clear S; intro a u S
  refine cd S rfl ?_ ?_
  ·intro hc3
   refine wp_skip (then_n (wp_seq (wp_block ?_)))
   have hb12 := bt_bd ((partsB 10 tx).getD k strE.dflt) m
   have hb13 := bt_bd ((partsB 10 tx).getD k strE.dflt) m
   have hb14 := bt_bd ((partsB 10 tx).getD k strE.dflt) m
   refine rs S (tr (mv rfl)<|tr (mv rfl)<|tr (idxi uT29 sZ9 rfl rfl k rfl (by omega) ((show LAt strE _ _ ra_t14 (partsB 10 tx) from ((S.u 0 rfl)).1).adr (i := k) (by omega)))<|tr (ov fun S=>x_load sC9 (S.e rfl) ((show LAt strE _ _ ra_t14 (partsB 10 tx) from ((S.u 0 rfl)).1).cell k (by omega) 0 _ rfl))<|tr (mv rfl)<|tr (ov fun S=>x_sidx uT9 (S.e rfl) (S.e rfl) m rfl (by omega))<|tr (neqi rfl rfl)<|tr (mv rfl)<|tr (og 37 rfl gt fun S hg=>x_move (S.e rfl))<|tr (og 37 rfl gt fun S hg=>x_move (S.e rfl))<|tr (og 37 rfl gt fun S hg=>x_idx uT29 sZ9 (S.p rfl hg) (S.p rfl hg) k rfl (by omega) ((show LAt strE _ _ ra_t14 (partsB 10 tx) from ((S.u 0 rfl)).1).adr (i := k) (by omega)))<|tr (og 37 rfl gt fun S hg=>x_load sC9 (S.p rfl hg) ((show LAt strE _ _ ra_t14 (partsB 10 tx) from ((S.u 0 rfl)).1).cell k (by omega) 0 _ rfl))<|tr (og 37 rfl gt fun S hg=>x_move (S.e rfl))<|tr (og 37 rfl gt fun S hg=>x_sidx uT9 (S.p rfl hg) (S.p rfl hg) m rfl (by omega))<|tr (og 37 rfl gt fun S hg=>x_lss (S.p rfl hg) (S.e rfl))<|tr (og 37 rfl gt fun S hg=>x_move (S.p rfl hg))<|tr (og 45 rfl ggf fun S hg=>x_move (S.e rfl))<|tr (og 45 rfl ggf fun S hg=>x_move (S.e rfl))<|tr (og 45 rfl ggf fun S hg=>x_idx uT29 sZ9 (S.p rfl hg) (S.p rfl hg) k rfl (by omega) ((show LAt strE _ _ ra_t14 (partsB 10 tx) from ((S.u 0 rfl)).1).adr (i := k) (by omega)))<|tr (og 45 rfl ggf fun S hg=>x_load sC9 (S.p rfl hg) ((show LAt strE _ _ ra_t14 (partsB 10 tx) from ((S.u 0 rfl)).1).cell k (by omega) 0 _ rfl))<|tr (og 45 rfl ggf fun S hg=>x_move (S.e rfl))<|tr (og 45 rfl ggf fun S hg=>x_sidx uT9 (S.p rfl hg) (S.p rfl hg) m rfl (by omega))<|tr (og 45 rfl ggf fun S hg=>x_gtr (S.p rfl hg) (S.e rfl))<|tr (og 37 rfl gt fun S hg=>x_or (S.p rfl hg) (S.e rfl) (fun hl => (S.p rfl (And.intro hg hl))))<|la (andi rfl rfl rfl)) ?_; clear S; intro a u S
   refine cd S rfl ?_ ?_
   ·intro hc4
    have hq : linesS tx = ([], (k : Int) + 1, 4) := by unfold linesS; rw [if_neg (by omega), ← ho2, if_pos fun hp => by have hq2 := (prB_iff _).1 hp m (by omega); unfold prOk at hq2; omega]
    refine rs S (tr (mv rfl)<|tr (addi ((k + 1 : Nat) : Int) rfl rfl (w_i64 (by omega)))<|tr (av rfl)<|tr (av rfl)<|la (av rfl)) ?_; clear S; intro a u S
    refine wp_ret (blk_r (then_r (then_r (blk_r (then_r (blk_r (then_r (then_r (blk_r (then_r ?_))))))))))
    refine ret3 rfl S.s rfl rfl rfl ?_
    replace S := S.pk []
    refine ⟨(Sl.mk none 0 ([] : List Line)), (r3 rfl (vi ?_) (vi ?_)), sl_nil, ?_, S.m.c⟩
    ·rw [hq] <;> rfl
    ·rw [hq] <;> rfl
    rw [hq] <;> rfl
   intro hc5
   refine wp_skip (blk_n (then_n ?_))
   refine rg S (tr (mv rfl)<|tr (addi ((m + 1 : Nat) : Int) rfl rfl (w_i64 (by omega)))<|la (av rfl)) ?_; clear S; intro a u S
   refine then_n ?_
   refine ⟨(m + 1), S.re (subM rfl) rfl rfl, ?_, ?_⟩
   ·refine ⟨by omega, fun j hj => ?_⟩
    rcases Nat.lt_succ_iff_lt_or_eq.1 hj with h | h
    ·exact hok j h
    subst h; unfold prOk; first | omega | skip
   omega
  intro hc6
  have hpr : prB ((partsB 10 tx).getD k strE.dflt) := (prB_iff _).2 fun j hj => hok j (by omega)
  have hno := head_no35 ((partsB 10 tx).getD k strE.dflt)
  have hhw := head_words ((partsB 10 tx).getD k strE.dflt)
  have hpp := parts_pos 35 ((partsB 10 tx).getD k strE.dflt)
  have hps := parts_small 35 ((partsB 10 tx).getD k strE.dflt) 0
  refine wp_exit (then_e (then_e (blk_e (then_n (rs0 ?_)))))
  refine sp S (tr (mv rfl)<|tr (mv rfl)<|tr (idxi uT29 sZ9 rfl rfl k rfl (by omega) ((show LAt strE _ _ ra_t14 (partsB 10 tx) from ((S.u 0 rfl)).1).adr (i := k) (by omega)))<|la (ov fun S=>x_load sC9 (S.e rfl) ((show LAt strE _ _ ra_t14 (partsB 10 tx) from ((S.u 0 rfl)).1).cell k (by omega) 0 _ rfl))) ?_; clear S; intro a u S
  refine cl S (rParts _ _ S.x (.nil _) ((partsB 10 tx).getD k strE.dflt) ((show LAt strE _ _ ra_t14 (partsB 10 tx) from ((S.u 0 rfl)).1).wf k (by omega)) 35 ⟨by omega, by omega⟩ (by omega)) cB42 ?_
  rintro e u ⟨ra_t61, rc_t61, rfl, R_t61, T0⟩; refine ⟨_, rfl, fun a s => ?_⟩
  replace S := (S.k0 s T0).ar (wfF (slE strE) (Sl.mk ra_t61 rc_t61 (partsB 35 ((partsB 10 tx).getD k strE.dflt)))) (Enc.up _ R_t61); clear s T0 R_t61
  have hn18 : (partsB 35 ((partsB 10 tx).getD k strE.dflt)).length ≤ 9223372036854775807 := ((S.u 1 rfl)).1.len
  refine sp S (tr (idxi uT29 sZ9 rfl rfl 0 rfl (by omega) ((show LAt strE _ _ ra_t61 (partsB 35 ((partsB 10 tx).getD k strE.dflt)) from ((S.u 1 rfl)).1).adr (i := 0) (by omega)))<|la (ov fun S=>x_load sC9 (S.e rfl) ((show LAt strE _ _ ra_t61 (partsB 35 ((partsB 10 tx).getD k strE.dflt)) from ((S.u 1 rfl)).1).cell 0 (by omega) 0 _ rfl))) ?_; clear S; intro a u S
  refine cl S (rWords _ _ S.x (.nil _) ((partsB 35 ((partsB 10 tx).getD k strE.dflt)).getD 0 strE.dflt) ((show LAt strE _ _ ra_t61 (partsB 35 ((partsB 10 tx).getD k strE.dflt)) from ((S.u 1 rfl)).1).wf 0 (by omega)) (by omega) (by assumption)) cB43 ?_
  rintro e u ⟨ra_t64, rc_t64, rfl, R_t64, T0⟩; refine ⟨_, rfl, fun a s => ?_⟩
  replace S := (S.k0 s T0).ar (wfF (slE strE) (Sl.mk ra_t64 rc_t64 (wordsB ((partsB 35 ((partsB 10 tx).getD k strE.dflt)).getD 0 strE.dflt)))) (Enc.up _ R_t64); clear s T0 R_t64
  have hn19 : (wordsB ((partsB 35 ((partsB 10 tx).getD k strE.dflt)).getD 0 strE.dflt)).length ≤ 9223372036854775807 := ((S.u 2 rfl)).1.len
  refine ens S (la (av rfl)) ?_; clear S; intro a u S
  refine wp_seq ?_
  refine rs S (tr (mv rfl)<|tr (leni uT29 rfl)<|la (gtri rfl rfl)) ?_; clear S; intro a u S
  refine cd S rfl ?_ ?_
  ·intro hc7
   rw [hhw] at hc7
   have hq : linesS tx = ([], (k : Int) + 1, 3) := by unfold linesS; rw [if_neg (by omega), ← ho2, if_neg (fun h => h hpr), if_pos (by omega)]
   refine rs S (tr (mv rfl)<|tr (addi ((k + 1 : Nat) : Int) rfl rfl (w_i64 (by omega)))<|tr (av rfl)<|tr (av rfl)<|la (av rfl)) ?_; clear S; intro a u S
   refine wp_ret (then_r (blk_r (then_r (then_r (blk_r (then_r ?_))))))
   refine ret3 rfl S.s rfl rfl rfl ?_
   replace S := S.pk []
   refine ⟨(Sl.mk none 0 ([] : List Line)), (r3 rfl (vi ?_) (vi ?_)), sl_nil, ?_, S.m.c⟩
   ·rw [hq] <;> rfl
   ·rw [hq] <;> rfl
   rw [hq] <;> rfl
  intro hc8
  rw [hhw] at hc8
  refine wp_skip (then_n ?_)
  refine rs S (tr (mv rfl)<|tr (leni uT29 rfl)<|la (gtri rfl rfl)) ?_; clear S; intro a u S
  refine cd S rfl ?_ ?_
  ·intro hc9
   rw [hhw] at hc9
   refine r0 ?_
   refine sp S (tr (mv rfl)<|tr (mv rfl)<|tr (addi ((k + 1 : Nat) : Int) rfl rfl (w_i64 (by omega)))<|tr (mv rfl)<|la (ov fun S=>x_bd S [(0, iN (k + 1)), (1, .slice ra_t64 ((wordsB ((partsB 35 ((partsB 10 tx).getD k strE.dflt)).getD 0 strE.dflt)).length) rc_t64)] [iN (k + 1), .slice ra_t64 ((wordsB ((partsB 35 ((partsB 10 tx).getD k strE.dflt)).getD 0 strE.dflt)).length) rc_t64])) ?_; clear S; intro a u S
   refine nbs lineE S [(⟨((k + 1 : Nat) : Int), (Sl.mk ra_t64 rc_t64 (wordsB ((partsB 35 ((partsB 10 tx).getD k strE.dflt)).getD 0 strE.dflt)))⟩ : Line)] (x_bs S [(0, .agg #[iN (k + 1), .slice ra_t64 ((wordsB ((partsB 35 ((partsB 10 tx).getD k strE.dflt)).getD 0 strE.dflt)).length) rc_t64])] uT36 iZ35) (fun x hx => by simp only [List.mem_cons, List.not_mem_nil, or_false] at hx; rw [hx]; exact (show lineE.wf _ _ (⟨((k + 1 : Nat) : Int), (Sl.mk ra_t64 rc_t64 (wordsB ((partsB 35 ((partsB 10 tx).getD k strE.dflt)).getD 0 strE.dflt)))⟩ : Line) from ⟨(show inI64 ((k + 1 : Nat) : Int) from ⟨by omega, by omega⟩), (S.u 2 rfl)⟩)) ?_; clear S; intro a u b78 S
   refine ap (E := lineE) (ys := [(⟨((k + 1 : Nat) : Int), (Sl.mk ra_t64 rc_t64 (wordsB ((partsB 35 ((partsB 10 tx).getD k strE.dflt)).getD 0 strE.dflt)))⟩ : Line)]) S 0 rfl uT36 iZ35 rfl rfl (show LAt lineE _ _ (some ⟨b78, 0, none⟩) ([(⟨((k + 1 : Nat) : Int), (Sl.mk ra_t64 rc_t64 (wordsB ((partsB 35 ((partsB 10 tx).getD k strE.dflt)).getD 0 strE.dflt)))⟩ : Line)]) from ((S.u 3 rfl)).1) ((S.u 3 rfl)).2.2 (LAt.mem (show LAt lineE _ _ (some ⟨b78, 0, none⟩) ([(⟨((k + 1 : Nat) : Int), (Sl.mk ra_t64 rc_t64 (wordsB ((partsB 35 ((partsB 10 tx).getD k strE.dflt)).getD 0 strE.dflt)))⟩ : Line)]) from ((S.u 3 rfl)).1)) ⟨by unfold maxLen; (try simp only [List.length_cons, List.length_nil, List.length_append, List.length_map]); omega, by (try simp only [List.length_cons, List.length_nil, List.length_append, List.length_map]); omega⟩ ?_; clear S; intro a u ad79 cap79 S
   refine en S (la (av rfl)) ?_; clear S; intro a u S
   refine blk_n (then_n ?_)
   refine rg S (tr (mv rfl)<|tr (addi ((k + 1 : Nat) : Int) rfl rfl (w_i64 (by omega)))<|la (av rfl)) ?_; clear S; intro a u S
   refine then_n ?_
   refine ⟨(k + 1), ad79, cap79, (out ++ [(⟨((k + 1 : Nat) : Int), (Sl.mk ra_t64 rc_t64 (wordsB ((partsB 35 ((partsB 10 tx).getD k strE.dflt)).getD 0 strE.dflt)))⟩ : Line)]), S.re (subM rfl) rfl rfl, ?_, ?_⟩
   ·first
    | (refine ⟨by omega, by simp; omega, ?_⟩
       rw [← ho2, if_neg (fun h => h hpr), if_neg (by omega), if_pos (by omega), List.map_append, ← hhw]; rfl)
    | (refine ⟨by omega, by omega, ?_⟩
       rw [← ho2, if_neg (fun h => h hpr), if_neg (by omega), if_neg (by omega)])
   omega
  intro hc10
  rw [hhw] at hc10
  refine wp_skip (blk_n (then_n ?_))
  refine rg S (tr (mv rfl)<|tr (addi ((k + 1 : Nat) : Int) rfl rfl (w_i64 (by omega)))<|la (av rfl)) ?_; clear S; intro a u S
  refine then_n ?_
  refine ⟨(k + 1), out_a, out_c, out, S.re (subM rfl) rfl rfl, ?_, ?_⟩
  ·first
   | (refine ⟨by omega, by simp; omega, ?_⟩
      rw [← ho2, if_neg (fun h => h hpr), if_neg (by omega), if_pos (by omega), List.map_append, ← hhw]; rfl)
   | (refine ⟨by omega, by omega, ?_⟩
      rw [← ho2, if_neg (fun h => h hpr), if_neg (by omega), if_neg (by omega)])
  omega
 intro hc11
 have hq : linesS tx = (out.map keyL, 0, 0) := by unfold linesS; rw [if_neg (by omega), ← ho2, linesB_end (by omega)]
 refine wp_exit (then_e (then_e (blk_e (then_n ?_))))
 refine rs S (tr (mv rfl)<|tr (av rfl)<|tr (av rfl)<|la (av rfl)) ?_; clear S; intro a u S
 refine wp_ret ?_
 replace S := S.fz 0 rfl
 refine ret3 rfl S.s rfl rfl rfl ?_
 replace S := S.pk []
 refine ⟨(Sl.mk out_a out_c out), (r3 rfl (vi ?_) (vi ?_)), (S.u 1 rfl), ?_, S.m.c⟩
 ·rw [hq] <;> rfl
 ·rw [hq] <;> rfl
 rw [hq] <;> rfl
end Go.Proofs.YtmaiillomoehgaaDoor.V
