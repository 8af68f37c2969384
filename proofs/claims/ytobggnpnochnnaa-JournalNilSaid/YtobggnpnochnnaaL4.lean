/- the example holds -/
import Derived.Test.YtobggnpnochnnaaL3
import Derived.Test.YtobggnpnochnnaaGrpU
namespace Go.Proofs.Ytobggnpnochnnaa.V
open Go.RowKit Go.Proofs.Ytobggnpnochnnaa
set_option linter.unusedVariables false
set_option linter.unusedSimpArgs false
set_option maxHeartbeats 2000000 in
set_option maxRecDepth 20000 in
theorem lSane (w : World) (F : Nat → Prop) (hF : Old F w) (M : MS [] w) :
 Calls Try.prog 24 #[] w fun e w' => e = .returned (bD (True)) ∧ Tr [] w [] w' := by
 have he14 : (encR r1J).length = 14 := rfl
 refine go Try.func24 rfl 129 rfl [] [] hF M trivial trivial ?_
 intro a S
 have hD : ∀ k, In ([] : List BS) k → ¬ F k := fun _ h => h.elim
 refine rs S (la (av rfl)) ?_; clear S; intro a u S
 refine rs0 ?_
 refine sp S (la (ov fun S=>x_bd S [(0, iI 1), (3, iI 1)] [iI 1, iI 0, iI 0, iI 1])) ?_; clear S; intro a u S
 refine nbp S (x_allocz _ iZ24 rfl) ?_; clear S; intro a u b1 S
 refine ens S (la (stkw 0 rfl rfl rfl)) ?_; clear S; intro a u S
 refine rs0 ?_
 refine sp S (la (ldkw 0 rfl rfl wD24)) ?_; clear S; intro a u S
 refine cl S (jEncode _ _ S.x (.nil _) (⟨1, 0, 0, 1⟩ : Rec) ⟨(show inI64 1 from ⟨by omega, by omega⟩), (show inI64 0 from ⟨by omega, by omega⟩), (show inI64 0 from ⟨by omega, by omega⟩), (show inI64 1 from ⟨by omega, by omega⟩)⟩) cB21 ?_
 rintro e u ⟨ra_t190, rc_t190, rfl, R_t190, T0⟩; refine ⟨_, rfl, fun a s => ?_⟩
 replace S := S.kr [⟨_, u8E, 5, ra_t190, rc_t190, (if recOK (⟨1, 0, 0, 1⟩ : Rec) then encR (⟨1, 0, 0, 1⟩ : Rec) else [])⟩] s T0 ⟨R_t190, trivial⟩; clear s T0 R_t190
 have e_19 : (if recOK (⟨1, 0, 0, 1⟩ : Rec) then encR (⟨1, 0, 0, 1⟩ : Rec) else []) = (encR r1J) := if_pos r1_ok
 rw [e_19] at S
 refine ens S (tr (mv rfl)<|tr (exi rfl rfl)<|tr (exi rfl rfl)<|tr (av rfl)<|la (av rfl)) ?_; clear S; intro a u S
 refine rs0 ?_
 refine nbr (q := 0) u8E S [] (x_bsl0 uT28 iZ5) (fun _ h => by simp at h) ?_; clear S; intro a u b23 S
 refine sp S (la (mv rfl)) ?_; clear S; intro a u S
 refine ap (E := u8E) (ys := (encR r1J)) S 2 rfl uT28 iZ5 rfl rfl ((S.row 1 rfl).lat (by first | decide | exact Nat.one_pos)) (S.row 1 rfl).cap_le.2 (S.row 1 rfl).wf ⟨by unfold maxLen; (try simp only [List.length_cons, List.length_nil, List.length_append, List.length_map]); omega, by (try simp only [List.length_cons, List.length_nil, List.length_append, List.length_map]); omega⟩ ?_; clear S; intro a u ad25 cap25 S
 refine nbs u8E S [7] (x_bs S [(0, .int .u8 7)] uT28 iZ5) (fun x hx => by simp only [List.mem_cons, List.not_mem_nil, or_false] at hx; rw [hx]; exact (show u8E.wf _ _ 7 from (show inU8 7 from ⟨by omega, by omega⟩))) ?_; clear S; intro a u b26 S
 refine ap (E := u8E) (ys := [7]) S 2 rfl uT28 iZ5 rfl rfl (show LAt u8E _ _ (some ⟨b26, 0, none⟩) ([7]) from ((S.u 0 rfl)).1) ((S.u 0 rfl)).2.2 (LAt.mem (show LAt u8E _ _ (some ⟨b26, 0, none⟩) ([7]) from ((S.u 0 rfl)).1)) ⟨by unfold maxLen; (try simp only [List.length_cons, List.length_nil, List.length_append, List.length_map]); omega, by (try simp only [List.length_cons, List.length_nil, List.length_append, List.length_map]); omega⟩ ?_; clear S; intro a u ad27 cap27 S
 refine cl S (jDecode _ _ (S.xx [abk ad27]) (.nil _) (Sl.mk ad27 cap27 (([] ++ (encR r1J)) ++ [7])) (S.rargD hD 2 rfl (by first | decide | exact Nat.one_pos) _ (by simp))) cB23 ?_
 rintro e u ⟨ra_t280, rc_t280, rfl, R_t280, T0⟩; refine ⟨_, rfl, fun a s => ?_⟩
 replace S := S.krx [⟨_, recE, 24, ra_t280, rc_t280, recsP (([] ++ (encR r1J)) ++ [7]) (decN (([] ++ (encR r1J)) ++ [7]))⟩] s T0 ⟨R_t280, trivial⟩ ⟨fun _ _ _ _ h => h, trivial⟩; clear s T0 R_t280
 have e_28 : recsP (([] ++ (encR r1J)) ++ [7]) (decN (([] ++ (encR r1J)) ++ [7])) = [r1J] := by show recsP (encR r1J ++ [7]) (decN (encR r1J ++ [7])) = [r1J]; rw [(dec_one r1_ok [7] (by decide)).1]; exact (dec_one r1_ok [7] (by decide)).2
 rw [e_28] at S
 refine ens S (tr (mv rfl)<|tr (exi rfl rfl)<|tr (exi rfl rfl)<|tr (av rfl)<|la (av rfl)) ?_; clear S; intro a u S
 refine rs0 ?_
 refine cl S (lOne _ _ S.x (.nil _)) cB69 ?_
 rintro e u ⟨r_t32, rfl, R_t32, hr_t32, T0⟩; refine ⟨_, rfl, fun a s => ?_⟩
 replace S := (S.k0 s T0).ar (wfF planE r_t32) (Enc.up _ R_t32); clear s T0 R_t32
 have ho_t32 := one_len hr_t32
 have hn6 : r_t32.rounds.xs.length ≤ 9223372036854775807 := ((S.u 1 rfl).2).1.len
 refine sp S (la (mv rfl)) ?_; clear S; intro a u S
 replace S := S.fz 3 rfl (by show 0 < recE.n; decide)
 refine cl S (jReplay _ _ S.x (.nil _) r_t32 (dn0 (S.u 1 rfl)) 1 ⟨by omega, by omega⟩ (Sl.mk ra_t280 rc_t280 ([r1J])) (dn0 (S.u 2 rfl)) (by first | omega | (dsimp only; omega))) cB68 ?_
 rintro e u ⟨r_t340, rfl, R_t340, hr_t340, T0⟩; refine ⟨_, rfl, fun a s => ?_⟩
 replace S := (S.k0 s T0).ar (wfF ctrlE r_t340) (Enc.up _ R_t340); clear s T0 R_t340
 obtain ⟨hl7, hu7⟩ : inI64 r_t340.round := id ((S.u 3 rfl).1)
 obtain ⟨hl8, hu8⟩ : inI64 r_t340.seq := id ((S.u 3 rfl).2.2.1)
 have hn9 : r_t340.target.xs.length ≤ 9223372036854775807 := ((S.u 3 rfl).2.2.2.1).1.len
 have hn10 : r_t340.known.xs.length ≤ 9223372036854775807 := ((S.u 3 rfl).2.2.2.2.1).1.len
 have hn11 : r_t340.waiting.xs.length ≤ 9223372036854775807 := ((S.u 3 rfl).2.2.2.2.2).1.len
 refine sp S (tr (mv rfl)<|tr (exi rfl rfl)<|la (exi rfl rfl)) ?_; clear S; intro a u S
 refine nbp S (x_allocz _ iZ57 rfl) ?_; clear S; intro a u b6 S
 refine ens S (tr (stkw 4 rfl rfl rfl)<|la (av rfl)) ?_; clear S; intro a u S
 refine rs0 ?_
 refine cl S (lOne _ _ S.x (.nil _)) cB69 ?_
 rintro e u ⟨r_t38, rfl, R_t38, hr_t38, T0⟩; refine ⟨_, rfl, fun a s => ?_⟩
 replace S := (S.k0 s T0).ar (wfF planE r_t38) (Enc.up _ R_t38); clear s T0 R_t38
 have ho_t38 := one_len hr_t38
 have hn13 : r_t38.rounds.xs.length ≤ 9223372036854775807 := ((S.u 4 rfl).2).1.len
 refine cl S (jNew _ _ (S.xx (ow []))  (S.mF (ks := [blO b1 [iI 1, iI 0, iI 0, iI 1] 24, rwO u8E 5 w.heap.size ra_t190 rc_t190 (encR r1J), rwO u8E 5 w.heap.size ad27 cap27 (([] ++ (encR r1J)) ++ [7]), noO, blO b6 (ctrlE.cells r_t340) 57]) (fs := [])) (S.nfF (ks := [blO b1 [iI 1, iI 0, iI 0, iI 1] 24, rwO u8E 5 w.heap.size ra_t190 rc_t190 (encR r1J), rwO u8E 5 w.heap.size ad27 cap27 (([] ++ (encR r1J)) ++ [7]), noO, blO b6 (ctrlE.cells r_t340) 57]) (fs := []) hD) r_t38 (dnF (ks := [blO b1 [iI 1, iI 0, iI 0, iI 1] 24, rwO u8E 5 w.heap.size ra_t190 rc_t190 (encR r1J), rwO u8E 5 w.heap.size ad27 cap27 (([] ++ (encR r1J)) ++ [7]), noO, blO b6 (ctrlE.cells r_t340) 57]) (fs := []) (S.u 4 rfl)) 1 ⟨by omega, by omega⟩ (by first | omega | (dsimp only; omega))) cB33 ?_
 rintro e u ⟨q_t39, rfl, qK_t39, qB_t39, hr_t39, T0⟩; refine ⟨_, rfl, fun a s => ?_⟩
 have S2 := S.kF (ks := [blO b1 [iI 1, iI 0, iI 0, iI 1] 24, rwO u8E 5 w.heap.size ra_t190 rc_t190 (encR r1J), rwO u8E 5 w.heap.size ad27 cap27 (([] ++ (encR r1J)) ++ [7]), noO, blO b6 (ctrlE.cells r_t340) 57]) (fs := []) [bnO (lgQ q_t39)] s T0 ⟨qB_t39, trivial⟩ ⟨(mo_bn (mo_lgQ _)), trivial⟩
 replace S2 := (show St _ _ _ _ _ _ [blO b1 [iI 1, iI 0, iI 0, iI 1] 24, rwO u8E 5 w.heap.size ra_t190 rc_t190 (encR r1J), rwO u8E 5 w.heap.size ad27 cap27 (([] ++ (encR r1J)) ++ [7]), noO, blO b6 (ctrlE.cells r_t340) 57, bnO (lgQ q_t39)] _ _ from S2)
 clear S; have S := S2; clear S2 s T0 qB_t39
 rcases q_t39 with _ | ⟨B_t39, x_t39⟩
 ·exact absurd (hr_t39.1.2 (one_good hr_t38)) (by decide)
 replace S := (show St _ _ _ _ _ _ [blO b1 [iI 1, iI 0, iI 0, iI 1] 24, rwO u8E 5 w.heap.size ra_t190 rc_t190 (encR r1J), rwO u8E 5 w.heap.size ad27 cap27 (([] ++ (encR r1J)) ++ [7]), noO, blO b6 (ctrlE.cells r_t340) 57, bnO (lgF B_t39 x_t39)] _ _ from S)
 have hLA : LogAt _ _ _ x_t39 [] := hr_t39.2 _ rfl
 have hOK := hLA.ma.ok
 have hsn := hLA.ma.sn
 have hll := hLA.lb
 have htg := hLA.ma.tg
 refine ens S (tr (mv rfl)<|tr (exi rfl rfl)<|tr (exi rfl rfl)<|tr (av rfl)<|la (av rfl)) ?_; clear S; intro a u S
 refine wp_seq ?_
 refine rs S (tr (mv rfl)<|tr (neqi rfl rfl)<|tr (mv rfl)<|tr (gon 44 rfl fun S=>x_move (S.e rfl))<|tr (gon 44 rfl fun S=>x_peqN uT52 (S.e rfl) (S.e rfl))<|la (ov fun S=>x_pickf (S.e rfl) (S.e rfl))) ?_; clear S; intro a u S
 refine cdf S rfl ?_
 refine wp_skip (then_n (rs0 ?_))
 refine sp S (tr (mv rfl)<|la (ldkw 0 rfl rfl wD24)) ?_; clear S; intro a u S
 refine cl S (jAppend _ _ (S.xx (ow [bnO (lgF B_t39 x_t39)])) B_t39 x_t39 (S.mF (ks := [blO b1 [iI 1, iI 0, iI 0, iI 1] 24, rwO u8E 5 w.heap.size ra_t190 rc_t190 (encR r1J), rwO u8E 5 w.heap.size ad27 cap27 (([] ++ (encR r1J)) ++ [7]), noO, blO b6 (ctrlE.cells r_t340) 57]) (fs := [bnO (lgF B_t39 x_t39)])) (S.nfF (ks := [blO b1 [iI 1, iI 0, iI 0, iI 1] 24, rwO u8E 5 w.heap.size ra_t190 rc_t190 (encR r1J), rwO u8E 5 w.heap.size ad27 cap27 (([] ++ (encR r1J)) ++ [7]), noO, blO b6 (ctrlE.cells r_t340) 57]) (fs := [bnO (lgF B_t39 x_t39)]) hD) qK_t39 (S.dF (ks := [blO b1 [iI 1, iI 0, iI 0, iI 1] 24, rwO u8E 5 w.heap.size ra_t190 rc_t190 (encR r1J), rwO u8E 5 w.heap.size ad27 cap27 (([] ++ (encR r1J)) ++ [7]), noO, blO b6 (ctrlE.cells r_t340) 57]) (fs := [bnO (lgF B_t39 x_t39)]) 0 rfl (mo_bn (mo_lg _ _))) (⟨1, 0, 0, 1⟩ : Rec) ⟨(show inI64 1 from ⟨by omega, by omega⟩), (show inI64 0 from ⟨by omega, by omega⟩), (show inI64 0 from ⟨by omega, by omega⟩), (show inI64 1 from ⟨by omega, by omega⟩)⟩ (⟨by first | assumption | exact hOK, by first | omega | assumption, by first | omega | assumption⟩)) cB34 ?_
 rintro e u ⟨jl_t50, rfl, hk_jl_t50, hK_jl_t50, hq_jl_t50, T0⟩; refine ⟨_, rfl, fun a s => ?_⟩
 have S2 := S.kF (ks := [blO b1 [iI 1, iI 0, iI 0, iI 1] 24, rwO u8E 5 w.heap.size ra_t190 rc_t190 (encR r1J), rwO u8E 5 w.heap.size ad27 cap27 (([] ++ (encR r1J)) ++ [7]), noO, blO b6 (ctrlE.cells r_t340) 57]) (fs := [bnO (lgF B_t39 x_t39)]) [bnO (lgF B_t39 jl_t50)] s T0 ⟨hK_jl_t50, trivial⟩ ⟨(mo_bn (mo_lg _ _)), trivial⟩
 replace S2 := (show St _ _ _ _ _ _ [blO b1 [iI 1, iI 0, iI 0, iI 1] 24, rwO u8E 5 w.heap.size ra_t190 rc_t190 (encR r1J), rwO u8E 5 w.heap.size ad27 cap27 (([] ++ (encR r1J)) ++ [7]), noO, blO b6 (ctrlE.cells r_t340) 57, bnO (lgF B_t39 jl_t50)] _ _ from S2)
 clear S; have S := S2; clear S2 s T0 hK_jl_t50
 have hap := hq_jl_t50.1 (by rw [htg, hLA.ls]; exact ap1)
 have hLB := hLA.app (r := r1J) ap1 hap.1 hap.2.1 hap.2.2
 have hls : jl_t50.l.xs = [r1J] := hLB.ls
 have hllB := hLB.lb
 have hbb : recsJ (bytesJ jl_t50.l.xs) = [r1J] ∧ decN (bytesJ jl_t50.l.xs) = 1 := by rw [hls]; exact rec1
 have hall : allJ 1 (recsJ (bytesJ jl_t50.l.xs)) := by rw [hbb.1]; exact all1
 refine ens S (la (av rfl)) ?_; clear S; intro a u S
 refine rs0 ?_
 refine cl S (lOne _ _ S.x (.nil _)) cB69 ?_
 rintro e u ⟨r_t52, rfl, R_t52, hr_t52, T0⟩; refine ⟨_, rfl, fun a s => ?_⟩
 replace S := (S.k0 s T0).ar (wfF planE r_t52) (Enc.up _ R_t52); clear s T0 R_t52
 have ho_t52 := one_len hr_t52
 have hn17 : r_t52.rounds.xs.length ≤ 9223372036854775807 := ((S.u 5 rfl).2).1.len
 refine sp S (la (mv rfl)) ?_; clear S; intro a u S
 refine cl S (jBytes _ _ (S.xx [In (ow (lgF B_t39 jl_t50))]) (.nil _) (B_t39, jl_t50) (S.rob hD 5 rfl (X := fun D => (ptE lgE 129).wf D _ (B_t39, jl_t50)) (rd_lg hk_jl_t50) _ (by simp)) (by first | omega | (dsimp only; omega) | assumption)) cB37 ?_
 rintro e u ⟨ra_t54, rc_t54, rfl, R_t54, T0⟩; refine ⟨_, rfl, fun a s => ?_⟩
 replace S := S.krx [⟨_, u8E, 5, ra_t54, rc_t54, bytesJ jl_t50.l.xs⟩] s T0 ⟨R_t54, trivial⟩ ⟨fun _ _ _ _ h => h, trivial⟩; clear s T0 R_t54
 skip
 replace S := S.fz 6 rfl
 refine cl S (jOpen _ _ (S.xx (ow []))  (S.mF (ks := [blO b1 [iI 1, iI 0, iI 0, iI 1] 24, rwO u8E 5 w.heap.size ra_t190 rc_t190 (encR r1J), rwO u8E 5 w.heap.size ad27 cap27 (([] ++ (encR r1J)) ++ [7]), noO, blO b6 (ctrlE.cells r_t340) 57, bnO (lgF B_t39 jl_t50), noO]) (fs := [])) (S.nfF (ks := [blO b1 [iI 1, iI 0, iI 0, iI 1] 24, rwO u8E 5 w.heap.size ra_t190 rc_t190 (encR r1J), rwO u8E 5 w.heap.size ad27 cap27 (([] ++ (encR r1J)) ++ [7]), noO, blO b6 (ctrlE.cells r_t340) 57, bnO (lgF B_t39 jl_t50), noO]) (fs := []) hD) r_t52 (dnF (ks := [blO b1 [iI 1, iI 0, iI 0, iI 1] 24, rwO u8E 5 w.heap.size ra_t190 rc_t190 (encR r1J), rwO u8E 5 w.heap.size ad27 cap27 (([] ++ (encR r1J)) ++ [7]), noO, blO b6 (ctrlE.cells r_t340) 57, bnO (lgF B_t39 jl_t50), noO]) (fs := []) (S.u 5 rfl)) 1 ⟨by omega, by omega⟩ (Sl.mk ra_t54 rc_t54 (bytesJ jl_t50.l.xs)) (dnF (ks := [blO b1 [iI 1, iI 0, iI 0, iI 1] 24, rwO u8E 5 w.heap.size ra_t190 rc_t190 (encR r1J), rwO u8E 5 w.heap.size ad27 cap27 (([] ++ (encR r1J)) ++ [7]), noO, blO b6 (ctrlE.cells r_t340) 57, bnO (lgF B_t39 jl_t50), noO]) (fs := []) (S.u 6 rfl)) (by first | omega | (dsimp only; omega))) cB36 ?_
 rintro e u ⟨q_t55, rfl, qK_t55, qB_t55, hr_t55, T0⟩; refine ⟨_, rfl, fun a s => ?_⟩
 have S2 := S.kF (ks := [blO b1 [iI 1, iI 0, iI 0, iI 1] 24, rwO u8E 5 w.heap.size ra_t190 rc_t190 (encR r1J), rwO u8E 5 w.heap.size ad27 cap27 (([] ++ (encR r1J)) ++ [7]), noO, blO b6 (ctrlE.cells r_t340) 57, bnO (lgF B_t39 jl_t50), noO]) (fs := []) [bnO (lgQ q_t55)] s T0 ⟨qB_t55, trivial⟩ ⟨(mo_bn (mo_lgQ _)), trivial⟩
 replace S2 := (show St _ _ _ _ _ _ [blO b1 [iI 1, iI 0, iI 0, iI 1] 24, rwO u8E 5 w.heap.size ra_t190 rc_t190 (encR r1J), rwO u8E 5 w.heap.size ad27 cap27 (([] ++ (encR r1J)) ++ [7]), noO, blO b6 (ctrlE.cells r_t340) 57, bnO (lgF B_t39 jl_t50), noO, bnO (lgQ q_t55)] _ _ from S2)
 clear S; have S := S2; clear S2 s T0 qB_t55
 rcases q_t55 with _ | ⟨B_t55, x_t55⟩
 ·exact absurd (hr_t55.1.2 ⟨one_good hr_t52, hall⟩) (by decide)
 replace S := (show St _ _ _ _ _ _ [blO b1 [iI 1, iI 0, iI 0, iI 1] 24, rwO u8E 5 w.heap.size ra_t190 rc_t190 (encR r1J), rwO u8E 5 w.heap.size ad27 cap27 (([] ++ (encR r1J)) ++ [7]), noO, blO b6 (ctrlE.cells r_t340) 57, bnO (lgF B_t39 jl_t50), noO, bnO (lgF B_t55 x_t55)] _ _ from S)
 have hLO : LogAt _ _ _ x_t55 _ := hr_t55.2 _ rfl
 have hso := hLO.ma.sn
 have hto := hLO.ma.tg
 have hko : x_t55.m.2.known.xs.length = x_t55.m.2.target.xs.length := hLO.ma.ok.2.kn
 have hwo : x_t55.m.2.waiting.xs.length ≤ x_t55.m.2.target.xs.length := hLO.ma.ok.2.wt.len
 refine ens S (tr (mv rfl)<|tr (exi rfl rfl)<|tr (exi rfl rfl)<|tr (exi rfl rfl)<|tr (av rfl)<|tr (av rfl)<|la (av rfl)) ?_; clear S; intro a u S
 refine rs0 ?_
 refine cl S (lOne _ _ S.x (.nil _)) cB69 ?_
 rintro e u ⟨r_t60, rfl, R_t60, hr_t60, T0⟩; refine ⟨_, rfl, fun a s => ?_⟩
 replace S := (S.k0 s T0).ar (wfF planE r_t60) (Enc.up _ R_t60); clear s T0 R_t60
 have ho_t60 := one_len hr_t60
 have hn19 : r_t60.rounds.xs.length ≤ 9223372036854775807 := ((S.u 7 rfl).2).1.len
 refine cl S (jNew _ _ (S.xx (ow []))  (S.mF (ks := [blO b1 [iI 1, iI 0, iI 0, iI 1] 24, rwO u8E 5 w.heap.size ra_t190 rc_t190 (encR r1J), rwO u8E 5 w.heap.size ad27 cap27 (([] ++ (encR r1J)) ++ [7]), noO, blO b6 (ctrlE.cells r_t340) 57, bnO (lgF B_t39 jl_t50), noO, bnO (lgF B_t55 x_t55)]) (fs := [])) (S.nfF (ks := [blO b1 [iI 1, iI 0, iI 0, iI 1] 24, rwO u8E 5 w.heap.size ra_t190 rc_t190 (encR r1J), rwO u8E 5 w.heap.size ad27 cap27 (([] ++ (encR r1J)) ++ [7]), noO, blO b6 (ctrlE.cells r_t340) 57, bnO (lgF B_t39 jl_t50), noO, bnO (lgF B_t55 x_t55)]) (fs := []) hD) r_t60 (dnF (ks := [blO b1 [iI 1, iI 0, iI 0, iI 1] 24, rwO u8E 5 w.heap.size ra_t190 rc_t190 (encR r1J), rwO u8E 5 w.heap.size ad27 cap27 (([] ++ (encR r1J)) ++ [7]), noO, blO b6 (ctrlE.cells r_t340) 57, bnO (lgF B_t39 jl_t50), noO, bnO (lgF B_t55 x_t55)]) (fs := []) (S.u 7 rfl)) 0 ⟨by omega, by omega⟩ (by first | omega | (dsimp only; omega))) cB33 ?_
 rintro e u ⟨q_t61, rfl, qK_t61, qB_t61, hr_t61, T0⟩; refine ⟨_, rfl, fun a s => ?_⟩
 have S2 := S.kF (ks := [blO b1 [iI 1, iI 0, iI 0, iI 1] 24, rwO u8E 5 w.heap.size ra_t190 rc_t190 (encR r1J), rwO u8E 5 w.heap.size ad27 cap27 (([] ++ (encR r1J)) ++ [7]), noO, blO b6 (ctrlE.cells r_t340) 57, bnO (lgF B_t39 jl_t50), noO, bnO (lgF B_t55 x_t55)]) (fs := []) [bnO (lgQ q_t61)] s T0 ⟨qB_t61, trivial⟩ ⟨(mo_bn (mo_lgQ _)), trivial⟩
 replace S2 := (show St _ _ _ _ _ _ [blO b1 [iI 1, iI 0, iI 0, iI 1] 24, rwO u8E 5 w.heap.size ra_t190 rc_t190 (encR r1J), rwO u8E 5 w.heap.size ad27 cap27 (([] ++ (encR r1J)) ++ [7]), noO, blO b6 (ctrlE.cells r_t340) 57, bnO (lgF B_t39 jl_t50), noO, bnO (lgF B_t55 x_t55), bnO (lgQ q_t61)] _ _ from S2)
 clear S; have S := S2; clear S2 s T0 qB_t61
 rcases q_t61 with _ | ⟨B_t61, x_t61⟩
 rotate_left
 ·exact absurd (hr_t61.1.1 rfl) (one_bad hr_t60)
 replace S := S.pk [0, 1, 2, 3, 4, 5, 6, 7] (os' := [blO b1 [iI 1, iI 0, iI 0, iI 1] 24, rwO u8E 5 w.heap.size ra_t190 rc_t190 (encR r1J), rwO u8E 5 w.heap.size ad27 cap27 (([] ++ (encR r1J)) ++ [7]), noO, blO b6 (ctrlE.cells r_t340) 57, bnO (lgF B_t39 jl_t50), noO, bnO (lgF B_t55 x_t55)])
 refine ens S (tr (mv rfl)<|tr (exi rfl rfl)<|tr (exi rfl rfl)<|tr (av rfl)<|la (av rfl)) ?_; clear S; intro a u S
 refine wp_seq ?_
 replace S := S.fz 1 rfl
 replace S := S.l [(2, .slice ra_t190 ((encR r1J).length) rc_t190), (3, iI (if recOK (⟨1, 0, 0, 1⟩ : Rec) then 0 else 1 : Int)), (4, .slice ra_t280 (([r1J]).length) rc_t280), (5, iN (14 * decN (([] ++ (encR r1J)) ++ [7]))), (6, pT b6 0), (7, iI (replE r_t32 1 ([r1J]))), (8, pT B_t39 0), (10, iI (appE ((x_t39.m.2.target.xs.length : Nat) : Int) x_t39.l.xs.length (⟨1, 0, 0, 1⟩ : Rec))), (11, pT B_t55 0), (12, iI (openN (some (B_t55, x_t55)) (bytesJ jl_t50.l.xs))), (13, iI 0), (15, iI 1)] (subM rfl)
 refine dr (P := Try.prog) S 66 [] ((64, .is _) :: (65, .is _) :: (66, .is _) :: (67, .is _) :: (68, .is _) :: (69, .is _) :: (70, .is _) :: (71, .is _) :: (72, .is _) :: (73, .is _) :: (74, .is _) :: (75, .is _) :: (76, .is _) :: (77, .is _) :: (78, .is _) :: (79, .is _) :: (80, .is _) :: (81, .is _) :: (82, .is _) :: (83, .is _) :: (84, .is _) :: (85, .is _) :: (86, .is _) :: (87, .is _) :: (88, .is _) :: (89, .is _) :: (90, .is _) :: (91, .is _) :: (92, .is _) :: (93, .is _) :: (94, .is _) :: (95, .is _) :: (96, .is _) :: (97, .is _) :: (98, .is _) :: (99, .is _) :: (100, .is _) :: (101, .of (fun z w => (((((((((if recOK (⟨1, 0, 0, 1⟩ : Rec) then 0 else 1 : Int) = 0) ∧ ((((encR r1J).length : Nat) : Int) = 14)) ∧ (((([r1J]).length : Nat) : Int) = 1)) ∧ (((14 * decN (([] ++ (encR r1J)) ++ [7]) : Nat) : Int) = 14)) ∧ ((replE r_t32 1 ([r1J])) = 0)) ∧ (r_t340.round = 1)) ∧ (((r_t340.waiting.xs.length : Nat) : Int) = 0)) ∧ ((appE ((x_t39.m.2.target.xs.length : Nat) : Int) x_t39.l.xs.length (⟨1, 0, 0, 1⟩ : Rec)) = 0)) → ∃ (x101aa : Option Addr) (x101ba : Nat), z = .slice x101aa ((bytesJ jl_t50.l.xs).length) x101ba ∧ (slE u8E).wf (Fr F [one b1, (fun _ => False), abk ad27, (fun _ => False), one b6, In (ow (lgF B_t39 jl_t50)), (fun _ => False), In (ow (lgF B_t55 x_t55))]) w.heap (Sl.mk x101aa x101ba (bytesJ jl_t50.l.xs))) (fun v w w' c h hg => let ⟨x101aa, x101ba, hv, h0⟩ := h hg; ⟨x101aa, x101ba, hv, Enc.kp (slE u8E) h0 c (fun _ h => by simp at h)⟩)) :: (102, .is ((if (((((((((if recOK (⟨1, 0, 0, 1⟩ : Rec) then 0 else 1 : Int) = 0) ∧ ((((encR r1J).length : Nat) : Int) = 14)) ∧ (((([r1J]).length : Nat) : Int) = 1)) ∧ (((14 * decN (([] ++ (encR r1J)) ++ [7]) : Nat) : Int) = 14)) ∧ ((replE r_t32 1 ([r1J])) = 0)) ∧ (r_t340.round = 1)) ∧ (((r_t340.waiting.xs.length : Nat) : Int) = 0)) ∧ ((appE ((x_t39.m.2.target.xs.length : Nat) : Int) x_t39.l.xs.length (⟨1, 0, 0, 1⟩ : Rec)) = 0)) then .string (strOfNums (bytesJ jl_t50.l.xs)) else undef))) :: (103, .is _) :: (104, .is _) :: (105, .is _) :: (106, .is _) :: (107, .is _) :: (108, .is _) :: (109, .is _) :: (110, .is _) :: (111, .is _) :: (112, .is _) :: (113, .is _) :: (114, .is _) :: (115, .is _) :: (116, .is _) :: (117, .is _) :: (118, .is _) :: (119, .is _) :: (120, .is _) :: (121, .of (fun z w => (((((((((((((if recOK (⟨1, 0, 0, 1⟩ : Rec) then 0 else 1 : Int) = 0) ∧ ((((encR r1J).length : Nat) : Int) = 14)) ∧ (((([r1J]).length : Nat) : Int) = 1)) ∧ (((14 * decN (([] ++ (encR r1J)) ++ [7]) : Nat) : Int) = 14)) ∧ ((replE r_t32 1 ([r1J])) = 0)) ∧ (r_t340.round = 1)) ∧ (((r_t340.waiting.xs.length : Nat) : Int) = 0)) ∧ ((appE ((x_t39.m.2.target.xs.length : Nat) : Int) x_t39.l.xs.length (⟨1, 0, 0, 1⟩ : Rec)) = 0)) ∧ ((strOfNums (bytesJ jl_t50.l.xs)) = (strOfNums (encR r1J)))) ∧ ((0 : Int) = 0)) ∧ ((openN (some (B_t55, x_t55)) (bytesJ jl_t50.l.xs)) = 14)) ∧ (True)) → ∃ (x121aa : Option Addr) (x121ba : Nat) (x121cb : Option Addr) (x121db : Nat) (x121ec : Option Addr) (x121fc : Nat), z = .agg #[iI x_t55.m.2.round, bD (x_t55.m.2.back = true), iI x_t55.m.2.seq, .slice x121aa x_t55.m.2.target.xs.length x121ba, .slice x121cb x_t55.m.2.known.xs.length x121db, .slice x121ec x_t55.m.2.waiting.xs.length x121fc] ∧ (slE intE).wf (Fr F [one b1, (fun _ => False), abk ad27, (fun _ => False), one b6, In (ow (lgF B_t39 jl_t50)), (fun _ => False), In (ow (lgF B_t55 x_t55))]) w.heap (Sl.mk x121aa x121ba x_t55.m.2.target.xs) ∧ (slE intE).wf (Fr F [one b1, (fun _ => False), abk ad27, (fun _ => False), one b6, In (ow (lgF B_t39 jl_t50)), (fun _ => False), In (ow (lgF B_t55 x_t55))]) w.heap (Sl.mk x121cb x121db x_t55.m.2.known.xs) ∧ (slE intE).wf (Fr F [one b1, (fun _ => False), abk ad27, (fun _ => False), one b6, In (ow (lgF B_t39 jl_t50)), (fun _ => False), In (ow (lgF B_t55 x_t55))]) w.heap (Sl.mk x121ec x121fc x_t55.m.2.waiting.xs)) (fun v w w' c h hg => let ⟨x121aa, x121ba, x121cb, x121db, x121ec, x121fc, hv, h0, h1, h2⟩ := h hg; ⟨x121aa, x121ba, x121cb, x121db, x121ec, x121fc, hv, Enc.kp (slE intE) h0 c (fun _ h => by simp at h), Enc.kp (slE intE) h1 c (fun _ h => by simp at h), Enc.kp (slE intE) h2 c (fun _ h => by simp at h)⟩)) :: (122, .is ((if (((((((((((((if recOK (⟨1, 0, 0, 1⟩ : Rec) then 0 else 1 : Int) = 0) ∧ ((((encR r1J).length : Nat) : Int) = 14)) ∧ (((([r1J]).length : Nat) : Int) = 1)) ∧ (((14 * decN (([] ++ (encR r1J)) ++ [7]) : Nat) : Int) = 14)) ∧ ((replE r_t32 1 ([r1J])) = 0)) ∧ (r_t340.round = 1)) ∧ (((r_t340.waiting.xs.length : Nat) : Int) = 0)) ∧ ((appE ((x_t39.m.2.target.xs.length : Nat) : Int) x_t39.l.xs.length (⟨1, 0, 0, 1⟩ : Rec)) = 0)) ∧ ((strOfNums (bytesJ jl_t50.l.xs)) = (strOfNums (encR r1J)))) ∧ ((0 : Int) = 0)) ∧ ((openN (some (B_t55, x_t55)) (bytesJ jl_t50.l.xs)) = 14)) ∧ (True)) then iI x_t55.m.2.round else undef))) :: (123, .is _) :: (124, .is _) :: (125, .is _) :: (126, .is _) :: (127, .is _) :: (128, .is _) :: (0, .is _) :: []) ([] :: [64] :: [65] :: [66] :: [66, 67] :: [66, 68] :: [66, 69] :: [70] :: [71] :: [71, 72] :: [71, 73] :: [71, 74] :: [75] :: [76] :: [76, 77] :: [76, 78] :: [79] :: [80] :: [80, 81] :: [80, 82] :: [83] :: [84] :: [84, 85] :: [84, 86] :: [84, 87] :: [88] :: [89] :: [89, 90] :: [89, 91] :: [89, 92] :: [89, 93] :: [94] :: [95] :: [95, 96] :: [95, 97] :: [98] :: [99] :: [99, 100] :: [99, 101] :: [99] :: [99, 103] :: [99, 102, 104] :: [99, 105] :: [106] :: [107] :: [107, 108] :: [107, 109] :: [110] :: [111] :: [111, 112] :: [111, 113] :: [114] :: [115] :: [115, 116] :: [115, 117] :: [118] :: [119] :: [119, 120] :: [119, 121] :: [119, 122] :: [119, 123] :: [124] :: [125] :: [125, 126] :: [125, 127] :: [128] :: []) [0] _ ⟨qd (mv rfl), qd (eqli rfl rfl), qd (mv rfl), qd (og 66 rfl gt fun S hg=>x_move (S.e rfl)), qd (og 66 rfl gt fun S hg=>x_len uT28 (S.p rfl hg)), qd (og 66 rfl gt fun S hg=>x_eql (S.p rfl hg) (S.e rfl)), qd (andi rfl rfl rfl), qd (mv rfl), qd (og 71 rfl gt fun S hg=>x_move (S.e rfl)), qd (og 71 rfl gt fun S hg=>x_len uT32 (S.p rfl hg)), qd (og 71 rfl gt fun S hg=>x_eql (S.p rfl hg) (S.e rfl)), qd (andi rfl rfl rfl), qd (mv rfl), qd (og 76 rfl gt fun S hg=>x_move (S.e rfl)), qd (og 76 rfl gt fun S hg=>x_eql (S.p rfl hg) (S.e rfl)), qd (andi rfl rfl rfl), qd (mv rfl), qd (og 80 rfl gt fun S hg=>x_move (S.e rfl)), qd (og 80 rfl gt fun S hg=>x_eql (S.p rfl hg) (S.e rfl)), qd (andi rfl rfl rfl), qd (mv rfl), qd (og 84 rfl gt fun S hg=>xf (0) 0 uT57 (S.e rfl)), qd (og 84 rfl gt fun S hg=>x_load sC3 (S.p rfl hg) ((S.k 4 rfl).cell (j := 0) rfl)), qd (og 84 rfl gt fun S hg=>x_eql (S.p rfl hg) (S.e rfl)), qd (andi rfl rfl rfl), qd (mv rfl), qd (og 89 rfl gt fun S hg=>xf (0) 5 uT57 (S.e rfl)), qd (og 89 rfl gt fun S hg=>x_load sC22 (S.p rfl hg) ((S.k 4 rfl).cell (j := 5) rfl)), qd (og 89 rfl gt fun S hg=>x_len uT22 (S.p rfl hg)), qd (og 89 rfl gt fun S hg=>x_eql (S.p rfl hg) (S.e rfl)), qd (andi rfl rfl rfl), qd (mv rfl), qd (og 95 rfl gt fun S hg=>x_move (S.e rfl)), qd (og 95 rfl gt fun S hg=>x_eql (S.p rfl hg) (S.e rfl)), qd (andi rfl rfl rfl), qd (mv rfl), qd (og 99 rfl gt fun S hg=>x_move (S.e rfl)), ?_, ?_, qd (og 99 rfl gt fun S hg=>x_move (S.e rfl)), qd (og 99 rfl gt fun S hg=>x_bstr (Sl.mk ra_t190 rc_t190 (encR r1J)) ((S.u 8 rfl)) uT28 uT5 uT9 (S.p rfl hg)), qd (og 99 rfl gt fun S hg=>x_seql (S.p rfl hg) (S.p rfl hg)), qd (andi rfl rfl rfl), qd (mv rfl), qd (og 107 rfl gt fun S hg=>x_move (S.e rfl)), qd (og 107 rfl gt fun S hg=>x_eql (S.p rfl hg) (S.e rfl)), qd (andi rfl rfl rfl), qd (mv rfl), qd (og 111 rfl gt fun S hg=>x_move (S.e rfl)), qd (og 111 rfl gt fun S hg=>x_eql (S.p rfl hg) (S.e rfl)), qd (andi rfl rfl rfl), qd (mv rfl), qd (og 115 rfl gt fun S hg=>x_move (S.e rfl)), qd (og 115 rfl gt fun S hg=>pbT (x_pneN uT52 (S.p rfl hg) (S.e rfl))), qd (andi rfl rfl rfl), qd (mv rfl), qd (og 119 rfl gt fun S hg=>x_move (S.e rfl)), ?_, ?_, qd (og 119 rfl gt fun S hg=>x_eql (S.p rfl hg) (S.e rfl)), qd (andi rfl rfl rfl), qd (mv rfl), qd (og 125 rfl gt fun S hg=>x_move (S.e rfl)), qd (og 125 rfl gt fun S hg=>x_eql (S.p rfl hg) (S.e rfl)), qd (andi rfl rfl rfl), qd (av rfl), trivial⟩ ?_
 ·skip
  intro a u S G hE
  refine (Classical.em (((((((((if recOK (⟨1, 0, 0, 1⟩ : Rec) then 0 else 1 : Int) = 0) ∧ ((((encR r1J).length : Nat) : Int) = 14)) ∧ (((([r1J]).length : Nat) : Int) = 1)) ∧ (((14 * decN (([] ++ (encR r1J)) ++ [7]) : Nat) : Int) = 14)) ∧ ((replE r_t32 1 ([r1J])) = 0)) ∧ (r_t340.round = 1)) ∧ (((r_t340.waiting.xs.length : Nat) : Int) = 0)) ∧ ((appE ((x_t39.m.2.target.xs.length : Nat) : Int) x_t39.l.xs.length (⟨1, 0, 0, 1⟩ : Rec)) = 0))).symm.elim (fun hg => ?_) fun hg => ?_
  ·exact hng 101 99 S S.m rfl (fun h => hg (gt.2 h)) (show (((((((((if recOK (⟨1, 0, 0, 1⟩ : Rec) then 0 else 1 : Int) = 0) ∧ ((((encR r1J).length : Nat) : Int) = 14)) ∧ (((([r1J]).length : Nat) : Int) = 1)) ∧ (((14 * decN (([] ++ (encR r1J)) ++ [7]) : Nat) : Int) = 14)) ∧ ((replE r_t32 1 ([r1J])) = 0)) ∧ (r_t340.round = 1)) ∧ (((r_t340.waiting.xs.length : Nat) : Int) = 0)) ∧ ((appE ((x_t39.m.2.target.xs.length : Nat) : Int) x_t39.l.xs.length (⟨1, 0, 0, 1⟩ : Rec)) = 0)) → _ from fun h => absurd h hg)
  refine hcg 99 S rfl (gt.1 hg) (jBytes _ _ (S.xx [In (ow (lgF B_t39 jl_t50))]) (.nil _) (B_t39, jl_t50) (S.rob hD 5 rfl (X := fun D => (ptE lgE 129).wf D _ (B_t39, jl_t50)) (rd_lg hk_jl_t50) _ (by simp)) (by first | omega | (dsimp only; omega) | assumption)) cB37 ⟨fun _=>(S.p rfl hg), trivial⟩ ?_
  rintro e w2 ⟨x101a, x101b, rfl, R0, T0⟩; refine ⟨_, rfl, (fun _ => ?_), T0.ch, (S.m.k0 T0.ch)⟩
  exact ⟨x101a, x101b, rfl, (S.frz R0 (by decide) (fun _ h => h))⟩
 ·skip
  intro a u S G hE
  obtain ⟨e101, -⟩ := hE
  have M0 := S.m
  refine (Classical.em (((((((((if recOK (⟨1, 0, 0, 1⟩ : Rec) then 0 else 1 : Int) = 0) ∧ ((((encR r1J).length : Nat) : Int) = 14)) ∧ (((([r1J]).length : Nat) : Int) = 1)) ∧ (((14 * decN (([] ++ (encR r1J)) ++ [7]) : Nat) : Int) = 14)) ∧ ((replE r_t32 1 ([r1J])) = 0)) ∧ (r_t340.round = 1)) ∧ (((r_t340.waiting.xs.length : Nat) : Int) = 0)) ∧ ((appE ((x_t39.m.2.target.xs.length : Nat) : Int) x_t39.l.xs.length (⟨1, 0, 0, 1⟩ : Rec)) = 0))).symm.elim (fun hg => ?_) fun hg => ?_
  ·exact hng 102 99 S M0 rfl (fun h => hg (gt.2 h)) (show _ = _ from (if_neg hg).symm)
  replace e101 := e101 hg
  obtain ⟨x101a_20, x101b_20, e101, X20⟩ := e101
  replace S := S.ext e101
  exact hvg 102 99 S M0 rfl (gt.1 hg) (v := .string (strOfNums (bytesJ jl_t50.l.xs))) (x_bstr (Sl.mk x101a_20 x101b_20 (bytesJ jl_t50.l.xs)) (X20) uT28 uT5 uT9 (S.e rfl)) (show _ = _ from (if_pos hg).symm)
 ·skip
  intro a u S G hE
  refine (Classical.em (((((((((((((if recOK (⟨1, 0, 0, 1⟩ : Rec) then 0 else 1 : Int) = 0) ∧ ((((encR r1J).length : Nat) : Int) = 14)) ∧ (((([r1J]).length : Nat) : Int) = 1)) ∧ (((14 * decN (([] ++ (encR r1J)) ++ [7]) : Nat) : Int) = 14)) ∧ ((replE r_t32 1 ([r1J])) = 0)) ∧ (r_t340.round = 1)) ∧ (((r_t340.waiting.xs.length : Nat) : Int) = 0)) ∧ ((appE ((x_t39.m.2.target.xs.length : Nat) : Int) x_t39.l.xs.length (⟨1, 0, 0, 1⟩ : Rec)) = 0)) ∧ ((strOfNums (bytesJ jl_t50.l.xs)) = (strOfNums (encR r1J)))) ∧ ((0 : Int) = 0)) ∧ ((openN (some (B_t55, x_t55)) (bytesJ jl_t50.l.xs)) = 14)) ∧ (True))).symm.elim (fun hg => ?_) fun hg => ?_
  ·exact hng 121 119 S S.m rfl (fun h => hg (gt.2 h)) (show (((((((((((((if recOK (⟨1, 0, 0, 1⟩ : Rec) then 0 else 1 : Int) = 0) ∧ ((((encR r1J).length : Nat) : Int) = 14)) ∧ (((([r1J]).length : Nat) : Int) = 1)) ∧ (((14 * decN (([] ++ (encR r1J)) ++ [7]) : Nat) : Int) = 14)) ∧ ((replE r_t32 1 ([r1J])) = 0)) ∧ (r_t340.round = 1)) ∧ (((r_t340.waiting.xs.length : Nat) : Int) = 0)) ∧ ((appE ((x_t39.m.2.target.xs.length : Nat) : Int) x_t39.l.xs.length (⟨1, 0, 0, 1⟩ : Rec)) = 0)) ∧ ((strOfNums (bytesJ jl_t50.l.xs)) = (strOfNums (encR r1J)))) ∧ ((0 : Int) = 0)) ∧ ((openN (some (B_t55, x_t55)) (bytesJ jl_t50.l.xs)) = 14)) ∧ (True)) → _ from fun h => absurd h hg)
  refine hcg 119 S rfl (gt.1 hg) (jCtl _ _ (S.xx [In (ow (lgF B_t55 x_t55))]) (.nil _) (B_t55, x_t55) (S.rob hD 7 rfl (X := fun D => (ptE lgE 129).wf D _ (B_t55, x_t55)) (rd_lg qK_t55) _ (by simp)) (⟨by first | omega | (dsimp only; omega) | assumption, by first | omega | (dsimp only; omega) | assumption, by first | omega | (dsimp only; omega) | assumption⟩)) cB39 ⟨fun _=>(S.p rfl hg), trivial⟩ ?_
  rintro e w2 ⟨x121a, x121b, x121c, x121d, x121e, x121f, rfl, R0, R1, R2, T0⟩; refine ⟨_, rfl, (fun _ => ?_), T0.ch, (S.m.k0 T0.ch)⟩
  exact ⟨x121a, x121b, x121c, x121d, x121e, x121f, rfl, (S.frz R0 (by decide) (fun _ h => h)), (S.frz R1 (by decide) (fun _ h => h)), (S.frz R2 (by decide) (fun _ h => h))⟩
 ·skip
  intro a u S G hE
  obtain ⟨e121, -⟩ := hE
  have M0 := S.m
  refine (Classical.em (((((((((((((if recOK (⟨1, 0, 0, 1⟩ : Rec) then 0 else 1 : Int) = 0) ∧ ((((encR r1J).length : Nat) : Int) = 14)) ∧ (((([r1J]).length : Nat) : Int) = 1)) ∧ (((14 * decN (([] ++ (encR r1J)) ++ [7]) : Nat) : Int) = 14)) ∧ ((replE r_t32 1 ([r1J])) = 0)) ∧ (r_t340.round = 1)) ∧ (((r_t340.waiting.xs.length : Nat) : Int) = 0)) ∧ ((appE ((x_t39.m.2.target.xs.length : Nat) : Int) x_t39.l.xs.length (⟨1, 0, 0, 1⟩ : Rec)) = 0)) ∧ ((strOfNums (bytesJ jl_t50.l.xs)) = (strOfNums (encR r1J)))) ∧ ((0 : Int) = 0)) ∧ ((openN (some (B_t55, x_t55)) (bytesJ jl_t50.l.xs)) = 14)) ∧ (True))).symm.elim (fun hg => ?_) fun hg => ?_
  ·exact hng 122 119 S M0 rfl (fun h => hg (gt.2 h)) (show _ = _ from (if_neg hg).symm)
  replace e121 := e121 hg
  obtain ⟨x121a_21, x121b_21, x121c_22, x121d_22, x121e_23, x121f_23, e121, X21, X22, X23⟩ := e121
  replace S := S.ext e121
  exact hvg 122 119 S M0 rfl (gt.1 hg) (v := iI x_t55.m.2.round) (x_fldv uT57 rfl sC3 (S.e rfl) rfl) (show _ = _ from (if_pos hg).symm)
 clear S; intro a u S G hE
 refine ent (wp_ret ?_)
 refine ret1 rfl S.s rfl ?_
 replace S := S.pk []
 refine ⟨(r1 (vb ?_)), S.m.c⟩
 refine ⟨fun _ => trivial, fun _ => ?_⟩
 have d1 : decN (encR r1J ++ [7]) = 1 := (dec_one r1_ok [7] (by decide)).1
 have o1 := one_rep hr_t32
 have hw : r_t340.waiting.xs = [] := hr_t340.2.2.2.2.2.trans o1.2.2
 have hrd : x_t55.m.2.round = 1 := by
  have h := congrArg Ctl.round hLO.ma.ab
  rw [hbb.1, one_st hr_t52, hr_t52.2] at h
  exact h.trans fold1.1
 repeat' apply And.intro
 all_goals first
 | trivial
 | exact if_pos r1_ok
 | rfl
 | (show ((14 * decN (encR r1J ++ [7]) : Nat) : Int) = 14; rw [d1]; rfl)
 | exact o1.1
 | exact hr_t340.1.trans o1.2.1
 | (rw [hw]; rfl)
 | (rw [htg, hLA.ls]; exact ap1)
 | (rw [hls]; exact congrArg _ (bytesJ_one r1_ok))
 | (show ((14 * decN (bytesJ jl_t50.l.xs) : Nat) : Int) = 14; rw [hbb.2]; rfl)
 | exact hrd
end Go.Proofs.Ytobggnpnochnnaa.V
