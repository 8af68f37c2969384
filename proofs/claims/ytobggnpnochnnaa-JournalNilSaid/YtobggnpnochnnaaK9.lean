/- logs are opened -/
import Derived.Test.YtobggnpnochnnaaK8
namespace Go.Proofs.Ytobggnpnochnnaa.V
open Go.RowKit Go.Proofs.Ytobggnpnochnnaa
set_option linter.unusedVariables false
set_option linter.unusedSimpArgs false
set_option maxHeartbeats 2000000 in
set_option maxRecDepth 20000 in
theorem jOpen (w : World) (F : Nat → Prop) (hF : Old F w) (M : MS [] w) (hD : ∀ k, In [] k → ¬ F k) (p : Plan) (p_w : planE.wf (Fr F []) w.heap p) (n : Int) (n_h : inI64 n) (b : Sl Int) (b_w : (slE u8E).wf (Fr F []) w.heap b) (hb : p.rounds.xs.length ≤ 100) :
 Calls Try.prog 36 #[.agg (planE.cells p).toArray, iI n, sV b] w fun e w' => ∃ (q : Option (Nat × Lg)), e = .returned (.tuple #[optP q, iI (openN q b.xs), iI (errQ q)]) ∧ lgQK q ∧ (bnO (lgQ q)).p F (In [In (ow (lgQ q))]) w' ∧ ((q.isSome = true ↔ (((statesP p.staged (rdsP p) n).isSome = true ∧ p.rounds.xs.length ≤ 16) ∧ allJ n (recsJ b.xs))) ∧ ∀ x, q = some x → LogAt (rdsP p) (stsD (statesP p.staged (rdsP p) n)) n x.2 (recsJ b.xs)) ∧ Tr [] w [In (ow (lgQ q))] w' := by
 have : p.rounds.xs.length ≤ 9223372036854775807 := (p_w.2).1.len
 obtain ⟨n_hl, n_hu⟩ : inI64 n := id n_h
 have : b.xs.length ≤ 9223372036854775807 := (b_w).1.len
 refine go Try.func36 rfl 42 rfl [wfF planE p, wfF (slE u8E) b] [] hF M ⟨p_w, b_w, trivial⟩ trivial ?_
 intro a S
 have hD : ∀ k, In ([] : List BS) k → ¬ F k := fun _ h => h.elim
 refine rs0 ?_
 refine nbp S (x_box _ (S.e rfl) rfl) ?_; clear S; intro a u b3 S
 refine ens S (tr (av rfl)<|tr (av rfl)<|la (av rfl)) ?_; clear S; intro a u S
 refine rs0 ?_
 refine sp S (tr (ldkw 0 rfl rfl wD47)<|la (mv rfl)) ?_; clear S; intro a u S
 refine cl S (jNew _ _ (S.xx (ow []))  (S.mF (ks := [blO b3 (planE.cells p) 47]) (fs := [])) (S.nfF (ks := [blO b3 (planE.cells p) 47]) (fs := []) hD) p (dnF (ks := [blO b3 (planE.cells p) 47]) (fs := []) (S.u 0 rfl)) n n_h (by first | omega | (dsimp only; omega))) cB33 ?_
 rintro e u ⟨q_t18, rfl, qK_t18, qB_t18, hr_t18, T0⟩; refine ⟨_, rfl, fun a s => ?_⟩
 have S2 := S.kF (ks := [blO b3 (planE.cells p) 47]) (fs := []) [bnO (lgQ q_t18)] s T0 ⟨qB_t18, trivial⟩ ⟨(mo_bn (mo_lgQ _)), trivial⟩
 replace S2 := (show St _ _ _ _ _ _ [blO b3 (planE.cells p) 47, bnO (lgQ q_t18)] _ _ from S2)
 clear S; have S := S2; clear S2 s T0 qB_t18
 rcases q_t18 with _ | ⟨B_t18, x_t18⟩
 ·skip
  replace S := S.pk [0] (os' := [blO b3 (planE.cells p) 47])
  have hng : ¬ ((statesP p.staged (rdsP p) n).isSome = true ∧ p.rounds.xs.length ≤ 16) := fun h => (by have := hr_t18.1.2 h; cases this)
  refine ens S (tr (mv rfl)<|tr (exi rfl rfl)<|tr (exi rfl rfl)<|tr (av rfl)<|la (av rfl)) ?_; clear S; intro a u S
  refine wp_seq ?_
  refine rs S (tr (mv rfl)<|la (neqi rfl rfl)) ?_; clear S; intro a u S
  refine cdt S rfl ?_
  refine rs S (tr (mv rfl)<|tr (av rfl)<|tr (av rfl)<|la (av rfl)) ?_; clear S; intro a u S
  refine wp_ret (then_r ?_)
  replace S := S.emp
  refine ret3 rfl S.s rfl rfl rfl ?_
  replace S := S.pk [1] (os' := [bnO []])
  refine ⟨none, (r3 rfl (vi ?_) (vi ?_)), trivial, (S.m.o _ (nth_mem (i := 0) rfl)), ?_, S.m.c⟩
  ·rfl
  ·rfl
  exact ⟨⟨fun h => (by cases h), fun h => absurd h.1 hng⟩, fun x h => by cases h⟩
 skip
 replace S := (show St _ _ _ _ _ _ [blO b3 (planE.cells p) 47, bnO (lgF B_t18 x_t18)] _ _ from S)
 obtain ⟨hg, hx⟩ := hr_t18
 have hgd := hg.1 rfl
 have hLA := hx _ rfl
 refine ens S (tr (mv rfl)<|tr (exi rfl rfl)<|tr (exi rfl rfl)<|tr (av rfl)<|la (av rfl)) ?_; clear S; intro a u S
 refine wp_seq ?_
 refine rs S (tr (mv rfl)<|la (neqi rfl rfl)) ?_; clear S; intro a u S
 refine cdf S rfl ?_
 refine wp_skip (then_n (rs0 ?_))
 refine sp S (la (mv rfl)) ?_; clear S; intro a u S
 refine cl S (jDecode _ _ S.x (.nil _) b (dn0 (S.u 1 rfl))) cB23 ?_
 rintro e u ⟨ra_t260, rc_t260, rfl, R_t260, T0⟩; refine ⟨_, rfl, fun a s => ?_⟩
 replace S := S.kr [⟨_, recE, 24, ra_t260, rc_t260, recsP b.xs (decN b.xs)⟩] s T0 ⟨R_t260, trivial⟩; clear s T0 R_t260
 refine ens S (tr (mv rfl)<|tr (exi rfl rfl)<|tr (exi rfl rfl)<|tr (av rfl)<|la (av rfl)) ?_; clear S; intro a u S
 refine wp_seq ?_
 refine rs S (tr (mv rfl)<|tr (leni uT32 rfl)<|la (mv rfl)) ?_; clear S; intro a u S
 refine wp_block ?_
 refine lp2 (fun (k : Nat) (lj : Lg) => [(9, pT B_t18 0), (12, iN (14 * decN b.xs)), (29, .slice ra_t260 ((recsP b.xs (decN b.xs)).length) rc_t260), (30, iN (recsP b.xs (decN b.xs)).length), (31, iN k)]) (fun (k : Nat) (lj : Lg) => [blO b3 (planE.cells p) 47, bnO (lgF B_t18 lj), rwO recE 24 w.heap.size ra_t260 rc_t260 (recsP b.xs (decN b.xs))]) (fun (k : Nat) (lj : Lg) => lgK lj ∧ (k ≤ decN b.xs ∧ LogAt (rdsP p) (stsD (statesP p.staged (rdsP p) n)) n lj ((recsJ b.xs).take k))) (fun (k : Nat) (lj : Lg) => decN b.xs - k) S 0 x_t18 (subM rfl) rfl ?_ ?_
 ·refine ⟨qK_t18, ?_⟩
  exact ⟨Nat.zero_le _, hLA⟩
 clear S; intro k lj a u S hR
 obtain ⟨hk_lj, hR⟩ := hR
 obtain ⟨hk, hA⟩ := hR
 have hOK := hA.ma.ok
 have hsn := hA.ma.sn
 have htg := hA.ma.tg
 have hll : lj.l.xs.length ≤ 10000 := by rw [hA.ls]; exact Nat.le_trans hA.le (by decide)
 have hrl : (recsP b.xs (decN b.xs)).length = decN b.xs := recsP_len _ _
 refine rs S (la (lssi rfl rfl)) ?_; clear S; intro a u S
 refine wp_seq ?_
 refine cd S rfl ?_ ?_
 ·intro hc0
  have hrl : (recsP b.xs (decN b.xs)).length = decN b.xs := recsP_len _ _
  have hdl := decN_le b.xs
  have hvr : recOK ((recsP b.xs (decN b.xs)).getD k recE.dflt) := recsP_ok (getD_mem (d := recE.dflt) (i := k) (by omega))
  refine wp_skip (then_n (wp_seq (wp_block (rs0 ?_))))
  obtain ⟨hl10, hu10⟩ : inI64 (((recsP b.xs (decN b.xs)).getD k recE.dflt).kind) := id (((S.row 2 rfl).wfi k (by omega)).1)
  obtain ⟨hl11, hu11⟩ : inI64 (((recsP b.xs (decN b.xs)).getD k recE.dflt).dev) := id (((S.row 2 rfl).wfi k (by omega)).2.1)
  obtain ⟨hl12, hu12⟩ : inI64 (((recsP b.xs (decN b.xs)).getD k recE.dflt).inc) := id (((S.row 2 rfl).wfi k (by omega)).2.2.1)
  obtain ⟨hl13, hu13⟩ : inI64 (((recsP b.xs (decN b.xs)).getD k recE.dflt).seq) := id (((S.row 2 rfl).wfi k (by omega)).2.2.2)
  refine sp S (tr (ov fun S=>x_idx uT32 sZ24 (S.e rfl) (S.e rfl) k rfl (by omega) (row_off (S.row 2 rfl) (m := k) (by omega)))<|la (ov fun S=>x_ldw (S.e rfl) (((S.row 2 rfl).latz (by first | decide | exact Nat.one_pos)).wcell k (by omega) _ rfl _ rfl) wD24)) ?_; clear S; intro a u S
  refine nbp S (x_allocz _ iZ24 rfl) ?_; clear S; intro a u b14 S
  refine ens S (la (stkw 3 rfl rfl rfl)) ?_; clear S; intro a u S
  refine rs0 ?_
  refine sp S (tr (mv rfl)<|la (ldkw 3 rfl rfl wD24)) ?_; clear S; intro a u S
  replace S := S.pk [0, 2, 3, 1] (os' := [blO b3 (planE.cells p) 47, rwO recE 24 w.heap.size ra_t260 rc_t260 (recsP b.xs (decN b.xs)), blO b14 (recE.cells ((recsP b.xs (decN b.xs)).getD k recE.dflt)) 24, bnO (lgF B_t18 lj)])
  refine cl S (jAppend _ _ (S.xx (ow [bnO (lgF B_t18 lj)])) B_t18 lj (S.mF (ks := [blO b3 (planE.cells p) 47, rwO recE 24 w.heap.size ra_t260 rc_t260 (recsP b.xs (decN b.xs)), blO b14 (recE.cells ((recsP b.xs (decN b.xs)).getD k recE.dflt)) 24]) (fs := [bnO (lgF B_t18 lj)])) (S.nfF (ks := [blO b3 (planE.cells p) 47, rwO recE 24 w.heap.size ra_t260 rc_t260 (recsP b.xs (decN b.xs)), blO b14 (recE.cells ((recsP b.xs (decN b.xs)).getD k recE.dflt)) 24]) (fs := [bnO (lgF B_t18 lj)]) hD) hk_lj (S.dF (ks := [blO b3 (planE.cells p) 47, rwO recE 24 w.heap.size ra_t260 rc_t260 (recsP b.xs (decN b.xs)), blO b14 (recE.cells ((recsP b.xs (decN b.xs)).getD k recE.dflt)) 24]) (fs := [bnO (lgF B_t18 lj)]) 0 rfl (mo_bn (mo_lg _ _))) ((recsP b.xs (decN b.xs)).getD k recE.dflt) (dnF (ks := [blO b3 (planE.cells p) 47, rwO recE 24 w.heap.size ra_t260 rc_t260 (recsP b.xs (decN b.xs)), blO b14 (recE.cells ((recsP b.xs (decN b.xs)).getD k recE.dflt)) 24]) (fs := [bnO (lgF B_t18 lj)]) ((S.row 1 rfl).wfi k (by omega))) (⟨by first | assumption | exact hOK, by first | omega | assumption, by first | omega | assumption⟩)) cB34 ?_
  rintro e u ⟨jl_t37, rfl, hk_jl_t37, hK_jl_t37, hq_jl_t37, T0⟩; refine ⟨_, rfl, fun a s => ?_⟩
  have S2 := S.kF (ks := [blO b3 (planE.cells p) 47, rwO recE 24 w.heap.size ra_t260 rc_t260 (recsP b.xs (decN b.xs)), blO b14 (recE.cells ((recsP b.xs (decN b.xs)).getD k recE.dflt)) 24]) (fs := [bnO (lgF B_t18 lj)]) [bnO (lgF B_t18 jl_t37)] s T0 ⟨hK_jl_t37, trivial⟩ ⟨(mo_bn (mo_lg _ _)), trivial⟩
  replace S2 := (show St _ _ _ _ _ _ [blO b3 (planE.cells p) 47, rwO recE 24 w.heap.size ra_t260 rc_t260 (recsP b.xs (decN b.xs)), blO b14 (recE.cells ((recsP b.xs (decN b.xs)).getD k recE.dflt)) 24, bnO (lgF B_t18 jl_t37)] _ _ from S2)
  clear S; have S := S2; clear S2 s T0 hK_jl_t37
  refine ens S (la (neqi rfl rfl)) ?_; clear S; intro a u S
  refine cd S rfl ?_ ?_
  ·intro hc1
   refine rs S (tr (av rfl)<|tr (av rfl)<|la (av rfl)) ?_; clear S; intro a u S
   refine wp_ret (blk_r (then_r (then_r (blk_r (then_r ?_)))))
   replace S := S.emp
   refine ret3 rfl S.s rfl rfl rfl ?_
   replace S := S.pk [4] (os' := [bnO []])
   refine ⟨none, (r3 rfl (vi ?_) (vi ?_)), trivial, (S.m.o _ (nth_mem (i := 0) rfl)), ?_, S.m.c⟩
   ·rfl
   ·rfl
   have hdn : n ≤ ((recsP b.xs (decN b.xs)).getD k recE.dflt).dev := by
    apply Classical.byContradiction; intro hq
    apply hc1
    unfold appE
    rw [if_neg (fun q => q.elim (fun q => q hvr) (fun q => by omega)), if_neg (by rw [hA.ls, List.length_take]; omega)]
   exact ⟨⟨fun h => (by cases h), fun h => (by have := (h.2 _ (getD_mem (d := recE.dflt) (i := k) (by omega) : ((recsP b.xs (decN b.xs)).getD k recE.dflt) ∈ recsP b.xs (decN b.xs))).2; omega)⟩, fun x h => by cases h⟩
  intro hc2
  refine wp_skip (blk_n (then_n ?_))
  refine rg S (tr (addi ((k + 1 : Nat) : Int) rfl rfl (w_i64 (by omega)))<|la (mv rfl)) ?_; clear S; intro a u S
  replace S := S.pk [0, 3, 1]
  refine then_n ?_
  refine ⟨(k + 1), jl_t37, S.re (subM rfl) rfl rfl, ?_, ?_⟩
  ·refine ⟨hk_jl_t37, ?_⟩
   have he0 := Classical.not_not.1 hc2
   have hq := hq_jl_t37.1 he0
   refine ⟨by omega, ?_⟩
   rw [take_up (l := recsJ b.xs) (k := k) (m := k + 1) (by unfold recsJ; omega) rfl recE.dflt]
   exact hA.app (by have h := he0; rw [htg, hA.ls] at h; exact h) hq.1 hq.2.1 hq.2.2
  omega
 intro hc3
 refine wp_exit (then_e (then_e (blk_e (then_n ?_))))
 refine rs S (tr (mv rfl)<|tr (mv rfl)<|tr (av rfl)<|tr (av rfl)<|la (av rfl)) ?_; clear S; intro a u S
 refine wp_ret ?_
 refine ret3 rfl S.s rfl rfl rfl ?_
 replace S := S.pk [1] (os' := [bnO (lgF B_t18 lj)])
 refine ⟨(some (B_t18, lj)), (r3 rfl (vi ?_) (vi ?_)), hk_lj, (S.m.o _ (nth_mem (i := 0) rfl)), ?_, S.m.c⟩
 ·rfl
 ·rfl
 have hB := hA
 rw [List.take_of_length_le (by unfold recsJ; omega)] at hB
 refine ⟨⟨fun _ => ⟨hgd, hB.ma.al⟩, fun _ => rfl⟩, fun x h => ?_⟩
 obtain rfl := (Option.some.inj h).symm
 exact hB
end Go.Proofs.Ytobggnpnochnnaa.V
