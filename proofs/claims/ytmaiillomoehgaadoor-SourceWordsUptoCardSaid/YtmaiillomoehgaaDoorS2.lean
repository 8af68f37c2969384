/- the lines of a text -/
import Derived.Test.YtmaiillomoehgaaDoorS1
namespace Go.Proofs.YtmaiillomoehgaaDoor.V
open Go.RowKit Go.Proofs.YtmaiillomoehgaaDoor
set_option linter.unusedVariables false
set_option linter.unusedSimpArgs false
attribute [local irreducible] wordsB partsB prB
set_option maxHeartbeats 2000000 in
set_option maxRecDepth 20000 in
theorem sLines (w : World) (F : Nat → Prop) (hF : Old F w) (M : MS [] w) (tx : ByteArray) (tx_h : inStr tx) (g_w : hasML w.heap) :
 Calls Tryd.prog 17 #[.string tx] w fun e w' => ∃ (r0 : Sl Line), e = .returned (.tuple #[sV r0, iI ((linesS tx).2.1), iI ((linesS tx).2.2)]) ∧ (slE lineE).wf (Fr F []) w'.heap r0 ∧ r0.xs.map keyL = (linesS tx).1 ∧ Tr [] w [] w' := by
 refine go Tryd.func17 rfl 46 rfl [glF] [] hF M ⟨⟨fun h => h, g_w⟩, trivial⟩ trivial ?_
 intro a S
 refine rs S (tr (av rfl)<|tr (av rfl)<|la (av rfl)) ?_; clear S; intro a u S
 refine wp_seq ?_
 refine rs S (tr (mv rfl)<|tr (lesi uT9 rfl)<|la (gtri rfl rfl)) ?_; clear S; intro a u S
 refine cd S rfl ?_ ?_
 ·intro hc0
  refine rs S (tr (av rfl)<|tr (av rfl)<|la (av rfl)) ?_; clear S; intro a u S
  refine wp_ret (then_r ?_)
  refine ret3 rfl S.s rfl rfl rfl ?_
  refine ⟨(Sl.mk none 0 ([] : List Line)), (r3 rfl (vi ?_) (vi ?_)), sl_nil, ?_, S.m.c⟩
  ·unfold linesS; rw [if_pos (by omega)] <;> rfl
  ·unfold linesS; rw [if_pos (by omega)] <;> rfl
  unfold linesS; rw [if_pos (by omega)] <;> rfl
 intro hc1
 have hpl := parts_len 10 tx
 refine wp_skip (then_n ?_)
 refine rs S (la (av rfl)) ?_; clear S; intro a u S
 refine wp_seq (rs0 ?_)
 refine sp S (la (mv rfl)) ?_; clear S; intro a u S
 refine cl S (sSplit _ _ S.x (.nil _) tx tx_h (⟨#[10]⟩) (show (⟨#[10]⟩ : ByteArray).size ≤ maxLen from by unfold maxLen; decide) (⟨by omega, rfl⟩) (S.gl 0 rfl)) cB32 ?_
 rintro e u ⟨ra_t13, rc_t13, rfl, R_t13, T0⟩; refine ⟨_, rfl, fun a s => ?_⟩
 replace S := (S.k0 s T0).ar (wfF (slE strE) (Sl.mk ra_t13 rc_t13 (partsB 10 tx))) (Enc.up _ R_t13); clear s T0 R_t13
 have hn6 : (partsB 10 tx).length ≤ 9223372036854775807 := ((S.u 1 rfl)).1.len
 refine ens S (tr (leni uT29 rfl)<|la (mv rfl)) ?_; clear S; intro a u S
 refine wp_block ?_
 replace S := S.nr lineE 35
 refine lp4 (fun (k : Nat) (out_a : Option Addr) (out_c : Nat) (out : List Line) => [(13, .slice ra_t13 ((partsB 10 tx).length) rc_t13), (14, iN (partsB 10 tx).length), (15, iN k), (5, .slice out_a out.length out_c)]) (fun (k : Nat) (out_a : Option Addr) (out_c : Nat) (out : List Line) => [rwO lineE 35 w.heap.size out_a out_c out]) (fun (k : Nat) (out_a : Option Addr) (out_c : Nat) (out : List Line) => k ≤ (partsB 10 tx).length ∧ out.length ≤ k ∧ linesB ((partsB 10 tx).drop k) k (out.map keyL) = linesB (partsB 10 tx) 0 []) (fun (k : Nat) (out_a : Option Addr) (out_c : Nat) (out : List Line) => (partsB 10 tx).length - k) S 0 none 0 ([]) (subM rfl) rfl ?_ ?_
 ·exact ⟨Nat.zero_le _, Nat.le_refl _, rfl⟩
 clear S; intro k out_a out_c out a u S hR
 have out_len := (S.row 0 rfl).len_le; simp only [maxLen] at out_len
 obtain ⟨hk, ho1, ho2⟩ := hR
 refine rs S (la (lssi rfl rfl)) ?_; clear S; intro a u S
 refine wp_seq ?_
 refine cd S rfl ?_ ?_
 ·intro hc2
  have hsm := parts_small 10 tx k
  have hwl := words_len ((partsB 10 tx).getD k strE.dflt)
  rw [linesB_at (by omega)] at ho2
  refine wp_skip (then_n (wp_seq (wp_block ?_)))
  refine rs S (tr (mv rfl)<|tr (idxi uT29 sZ9 rfl rfl k rfl (by omega) ((show LAt strE _ _ ra_t13 (partsB 10 tx) from ((S.u 1 rfl)).1).adr (i := k) (by omega)))<|tr (ov fun S=>x_load sC9 (S.e rfl) ((show LAt strE _ _ ra_t13 (partsB 10 tx) from ((S.u 1 rfl)).1).cell k (by omega) 0 _ rfl))<|tr (av rfl)<|la (av rfl)) ?_; clear S; intro a u S
  refine wp_seq ?_
  refine rs S (tr (mv rfl)<|tr (oc (fun S=>sPrint _ _ S.x (.nil _) ((partsB 10 tx).getD k strE.dflt) ((show LAt strE _ _ ra_t13 (partsB 10 tx) from ((S.u 1 rfl)).1).wf k (by omega))) cB33)<|la (noti rfl)) ?_; clear S; intro a u S
  refine cd S rfl ?_ ?_
  ·intro hc3
   have hq : linesS tx = ([], (k : Int) + 1, 4) := by unfold linesS; rw [if_neg (by omega), ← ho2, if_pos hc3]
   refine rs S (tr (mv rfl)<|tr (addi ((k + 1 : Nat) : Int) rfl rfl (w_i64 (by omega)))<|tr (av rfl)<|tr (av rfl)<|la (av rfl)) ?_; clear S; intro a u S
   refine wp_ret (then_r (blk_r (then_r (then_r (blk_r (then_r ?_))))))
   refine ret3 rfl S.s rfl rfl rfl ?_
   replace S := S.pk []
   refine ⟨(Sl.mk none 0 ([] : List Line)), (r3 rfl (vi ?_) (vi ?_)), sl_nil, ?_, S.m.c⟩
   ·rw [hq] <;> rfl
   ·rw [hq] <;> rfl
   rw [hq] <;> rfl
  intro hc4
  refine wp_skip (then_n (rs0 ?_))
  refine sp S (la (mv rfl)) ?_; clear S; intro a u S
  refine cl S (sWords _ _ S.x (.nil _) ((partsB 10 tx).getD k strE.dflt) ((show LAt strE _ _ ra_t13 (partsB 10 tx) from ((S.u 1 rfl)).1).wf k (by omega)) (by omega)) cB34 ?_
  rintro e u ⟨ra_t26, rc_t26, rfl, R_t26, T0⟩; refine ⟨_, rfl, fun a s => ?_⟩
  replace S := (S.k0 s T0).ar (wfF (slE strE) (Sl.mk ra_t26 rc_t26 (wordsB ((partsB 10 tx).getD k strE.dflt)))) (Enc.up _ R_t26); clear s T0 R_t26
  have hn12 : (wordsB ((partsB 10 tx).getD k strE.dflt)).length ≤ 9223372036854775807 := ((S.u 2 rfl)).1.len
  refine ens S (la (av rfl)) ?_; clear S; intro a u S
  refine wp_block ?_
  refine rs S (tr (mv rfl)<|tr (leni uT29 rfl)<|tr (gtri rfl rfl)<|la (av rfl)) ?_; clear S; intro a u S
  refine cd S rfl ?_ ?_
  ·intro hc5
   have hq : linesS tx = ([], (k : Int) + 1, 3) := by unfold linesS; rw [if_neg (by omega), ← ho2, if_neg hc4, if_pos (by omega)]
   refine rs S (tr (mv rfl)<|tr (addi ((k + 1 : Nat) : Int) rfl rfl (w_i64 (by omega)))<|tr (av rfl)<|tr (av rfl)<|la (av rfl)) ?_; clear S; intro a u S
   refine wp_ret (blk_r (blk_r (then_r (then_r (blk_r (then_r ?_))))))
   refine ret3 rfl S.s rfl rfl rfl ?_
   replace S := S.pk []
   refine ⟨(Sl.mk none 0 ([] : List Line)), (r3 rfl (vi ?_) (vi ?_)), sl_nil, ?_, S.m.c⟩
   ·rw [hq] <;> rfl
   ·rw [hq] <;> rfl
   rw [hq] <;> rfl
  intro hc6
  refine rs S (tr (mv rfl)<|tr (leni uT29 rfl)<|tr (gtri rfl rfl)<|la (av rfl)) ?_; clear S; intro a u S
  refine cd S rfl ?_ ?_
  ·intro hc7
   refine r0 ?_
   refine sp S (tr (mv rfl)<|tr (mv rfl)<|tr (addi ((k + 1 : Nat) : Int) rfl rfl (w_i64 (by omega)))<|tr (mv rfl)<|la (ov fun S=>x_bd S [(0, iN (k + 1)), (1, .slice ra_t26 ((wordsB ((partsB 10 tx).getD k strE.dflt)).length) rc_t26)] [iN (k + 1), .slice ra_t26 ((wordsB ((partsB 10 tx).getD k strE.dflt)).length) rc_t26])) ?_; clear S; intro a u S
   refine nbs lineE S [(⟨((k + 1 : Nat) : Int), (Sl.mk ra_t26 rc_t26 (wordsB ((partsB 10 tx).getD k strE.dflt)))⟩ : Line)] (x_bs S [(0, .agg #[iN (k + 1), .slice ra_t26 ((wordsB ((partsB 10 tx).getD k strE.dflt)).length) rc_t26])] uT36 iZ35) (fun x hx => by simp only [List.mem_cons, List.not_mem_nil, or_false] at hx; rw [hx]; exact (show lineE.wf _ _ (⟨((k + 1 : Nat) : Int), (Sl.mk ra_t26 rc_t26 (wordsB ((partsB 10 tx).getD k strE.dflt)))⟩ : Line) from ⟨(show inI64 ((k + 1 : Nat) : Int) from ⟨by omega, by omega⟩), (S.u 2 rfl)⟩)) ?_; clear S; intro a u b42 S
   refine ap (E := lineE) (ys := [(⟨((k + 1 : Nat) : Int), (Sl.mk ra_t26 rc_t26 (wordsB ((partsB 10 tx).getD k strE.dflt)))⟩ : Line)]) S 0 rfl uT36 iZ35 rfl rfl (show LAt lineE _ _ (some ⟨b42, 0, none⟩) ([(⟨((k + 1 : Nat) : Int), (Sl.mk ra_t26 rc_t26 (wordsB ((partsB 10 tx).getD k strE.dflt)))⟩ : Line)]) from ((S.u 3 rfl)).1) ((S.u 3 rfl)).2.2 (LAt.mem (show LAt lineE _ _ (some ⟨b42, 0, none⟩) ([(⟨((k + 1 : Nat) : Int), (Sl.mk ra_t26 rc_t26 (wordsB ((partsB 10 tx).getD k strE.dflt)))⟩ : Line)]) from ((S.u 3 rfl)).1)) ⟨by unfold maxLen; (try simp only [List.length_cons, List.length_nil, List.length_append, List.length_map]); omega, by (try simp only [List.length_cons, List.length_nil, List.length_append, List.length_map]); omega⟩ ?_; clear S; intro a u ad43 cap43 S
   refine en S (la (av rfl)) ?_; clear S; intro a u S
   refine blk_n (blk_n (then_n ?_))
   refine rg S (tr (addi ((k + 1 : Nat) : Int) rfl rfl (w_i64 (by omega)))<|la (mv rfl)) ?_; clear S; intro a u S
   refine then_n ?_
   refine ⟨(k + 1), ad43, cap43, (out ++ [(⟨((k + 1 : Nat) : Int), (Sl.mk ra_t26 rc_t26 (wordsB ((partsB 10 tx).getD k strE.dflt)))⟩ : Line)]), S.re (subM rfl) rfl rfl, ?_, ?_⟩
   ·first
    | (refine ⟨by omega, by simp; omega, ?_⟩
       rw [← ho2, if_neg hc4, if_neg (by omega), if_pos (by omega), List.map_append]; rfl)
    | (refine ⟨by omega, by omega, ?_⟩
       rw [← ho2, if_neg hc4, if_neg (by omega), if_neg (by omega)])
   omega
  intro hc8
  refine wp_skip (blk_n (blk_n (then_n ?_)))
  refine rg S (tr (addi ((k + 1 : Nat) : Int) rfl rfl (w_i64 (by omega)))<|la (mv rfl)) ?_; clear S; intro a u S
  refine then_n ?_
  refine ⟨(k + 1), out_a, out_c, out, S.re (subM rfl) rfl rfl, ?_, ?_⟩
  ·first
   | (refine ⟨by omega, by simp; omega, ?_⟩
      rw [← ho2, if_neg hc4, if_neg (by omega), if_pos (by omega), List.map_append]; rfl)
   | (refine ⟨by omega, by omega, ?_⟩
      rw [← ho2, if_neg hc4, if_neg (by omega), if_neg (by omega)])
  omega
 intro hc9
 have hq : linesS tx = (out.map keyL, 0, 0) := by unfold linesS; rw [if_neg (by omega), ← ho2, linesB_end (by omega)]
 refine wp_exit (then_e (then_e (blk_e (then_n ?_))))
 refine rs S (tr (mv rfl)<|tr (av rfl)<|tr (av rfl)<|la (av rfl)) ?_; clear S; intro a u S
 refine wp_ret ?_
 replace S := S.fz 0 rfl
 refine ret3 rfl S.s rfl rfl rfl ?_
 replace S := S.pk []
 refine ⟨(Sl.mk out_a out_c out), (r3 rfl (vi ?_) (vi ?_)), (S.u 2 rfl), ?_, S.m.c⟩
 ·rw [hq] <;> rfl
 ·rw [hq] <;> rfl
 rw [hq] <;> rfl
end Go.Proofs.YtmaiillomoehgaaDoor.V
