/- Texts of this claim in one: part F. -/
import Derived.Test.YtobggnpnochnnaaPRepE
import Derived.Test.YtobggnpnochnnaaPRepB
import Derived.Test.YtobggnpnochnnaaPRepD
namespace Go.Proofs.Ytobggnpnochnnaa.V
open Go.RowKit Go.Proofs.Ytobggnpnochnnaa
set_option linter.unusedVariables false
set_option linter.unusedSimpArgs false
set_option maxHeartbeats 2000000 in
set_option maxRecDepth 20000 in
theorem lSane (w : World) (F : Nat → Prop) (hF : Old F w) (M : MS [] w) :
 Calls Try.prog 24 #[] w fun e w' => e = .returned (bD (True)) ∧ Tr [] w [] w' := by
 have he14 : (encR r1J).length = 14 := rfl
 refine go Try.func24 rfl 129 rfl [] [] hF M trivial trivial ?_
 intro a S
 have hD : ∀ k, In ([] : List BS) k → ¬ F k := fun _ h => h.elim
 refine rs S (la (av rfl)) ?_; clear S; intro a u S
 refine rs0 ?_
 refine sp S (la (ov fun S=>x_bd S [(0, iI 1), (3, iI 1)] [iI 1, iI 0, iI 0, iI 1])) ?_; clear S; intro a u S
 refine nbp S (x_allocz _ iZ24 rfl) ?_; clear S; intro a u b1 S
 refine ens S (la (stkw 0 rfl rfl rfl)) ?_; clear S; intro a u S
 refine rs0 ?_
 refine sp S (la (ldkw 0 rfl rfl wD24)) ?_; clear S; intro a u S
 refine cl S (jEncode _ _ S.x (.nil _) (⟨1, 0, 0, 1⟩ : Rec) ⟨(show inI64 1 from ⟨by omega, by omega⟩), (show inI64 0 from ⟨by omega, by omega⟩), (show inI64 0 from ⟨by omega, by omega⟩), (show inI64 1 from ⟨by omega, by omega⟩)⟩) cB21 ?_
 rintro e u ⟨ra_t190, rc_t190, rfl, R_t190, T0⟩; refine ⟨_, rfl, fun a s => ?_⟩
 replace S := S.kr [⟨_, u8E, 5, ra_t190, rc_t190, (if recOK (⟨1, 0, 0, 1⟩ : Rec) then encR (⟨1, 0, 0, 1⟩ : Rec) else [])⟩] s T0 ⟨R_t190, trivial⟩; clear s T0 R_t190
 have e_19 : (if recOK (⟨1, 0, 0, 1⟩ : Rec) then encR (⟨1, 0, 0, 1⟩ : Rec) else []) = (encR r1J) := if_pos r1_ok
 rw [e_19] at S
 refine ens S (tr (mv rfl)<|tr (exi rfl rfl)<|tr (exi rfl rfl)<|tr (av rfl)<|la (av rfl)) ?_; clear S; intro a u S
 refine rs0 ?_
 refine nbr (q := 0) u8E S [] (x_bsl0 uT28 iZ5) (fun _ h => by simp at h) ?_; clear S; intro a u b23 S
 refine sp S (la (mv rfl)) ?_; clear S; intro a u S
 refine ap (E := u8E) (ys := (encR r1J)) S 2 rfl uT28 iZ5 rfl rfl ((S.row 1 rfl).lat (by first | decide | exact Nat.one_pos | exact Nat.succ_pos _)) (S.row 1 rfl).cap_le.2 (S.row 1 rfl).wf ⟨by unfold maxLen; (try simp only [List.length_cons, List.length_nil, List.length_append, List.length_map]); omega, by (try simp only [List.length_cons, List.length_nil, List.length_append, List.length_map]); omega⟩ ?_; clear S; intro a u ad25 cap25 S
 refine nbs u8E S [7] (x_bs S [(0, .int .u8 7)] uT28 iZ5) (fun x hx => by simp only [List.mem_cons, List.not_mem_nil, or_false] at hx; rw [hx]; exact (show u8E.wf _ _ 7 from (show inU8 7 from ⟨by omega, by omega⟩))) ?_; clear S; intro a u b26 S
 refine ap (E := u8E) (ys := [7]) S 2 rfl uT28 iZ5 rfl rfl (show LAt u8E _ _ (some ⟨b26, 0, none⟩) ([7]) from ((S.u 0 rfl)).1) ((S.u 0 rfl)).2.2 (LAt.mem (show LAt u8E _ _ (some ⟨b26, 0, none⟩) ([7]) from ((S.u 0 rfl)).1)) ⟨by unfold maxLen; (try simp only [List.length_cons, List.length_nil, List.length_append, List.length_map]); omega, by (try simp only [List.length_cons, List.length_nil, List.length_append, List.length_map]); omega⟩ ?_; clear S; intro a u ad27 cap27 S
 refine cl S (jDecode _ _ (S.xx [abk ad27]) (.nil _) (Sl.mk ad27 cap27 (([] ++ (encR r1J)) ++ [7])) (S.rargD hD 2 rfl (by first | decide | exact Nat.one_pos | exact Nat.succ_pos _) _ (by simp))) cB23 ?_
 rintro e u ⟨ra_t280, rc_t280, rfl, R_t280, T0⟩; refine ⟨_, rfl, fun a s => ?_⟩
 replace S := S.krx [⟨_, recE, 24, ra_t280, rc_t280, recsP (([] ++ (encR r1J)) ++ [7]) (decN (([] ++ (encR r1J)) ++ [7]))⟩] s T0 ⟨R_t280, trivial⟩ ⟨fun _ _ _ _ h => h, trivial⟩; clear s T0 R_t280
 have e_28 : recsP (([] ++ (encR r1J)) ++ [7]) (decN (([] ++ (encR r1J)) ++ [7])) = [r1J] := by show recsP (encR r1J ++ [7]) (decN (encR r1J ++ [7])) = [r1J]; rw [(dec_one r1_ok [7] (by decide)).1]; exact (dec_one r1_ok [7] (by decide)).2
 rw [e_28] at S
 refine ens S (tr (mv rfl)<|tr (exi rfl rfl)<|tr (exi rfl rfl)<|tr (av rfl)<|la (av rfl)) ?_; clear S; intro a u S
 refine rs0 ?_
 refine cl S (lOne _ _ S.x (.nil _)) cB69 ?_
 rintro e u ⟨r_t32, rfl, R_t32, hr_t32, T0⟩; refine ⟨_, rfl, fun a s => ?_⟩
 replace S := (S.k0 s T0).ar (wfF planE r_t32) (Enc.up _ R_t32); clear s T0 R_t32
 have ho_t32 := one_len hr_t32
 have hn6 : r_t32.rounds.xs.length ≤ 9223372036854775807 := ((S.u 1 rfl).2).1.len
 refine sp S (la (mv rfl)) ?_; clear S; intro a u S
 replace S := S.fz 3 rfl (by show 0 < recE.n; decide)
 refine cl S (jReplay _ _ S.x (.nil _) r_t32 (dn0 (S.u 1 rfl)) 1 ⟨by omega, by omega⟩ (Sl.mk ra_t280 rc_t280 ([r1J])) (dn0 (S.u 2 rfl)) (by first | omega | (dsimp only; omega))) cB68 ?_
 rintro e u ⟨r_t340, rfl, R_t340, hr_t340, T0⟩; refine ⟨_, rfl, fun a s => ?_⟩
 replace S := (S.k0 s T0).ar (wfF ctrlE r_t340) (Enc.up _ R_t340); clear s T0 R_t340
 obtain ⟨hl7, hu7⟩ : inI64 r_t340.round := id ((S.u 3 rfl).1)
 obtain ⟨hl8, hu8⟩ : inI64 r_t340.seq := id ((S.u 3 rfl).2.2.1)
 have hn9 : r_t340.target.xs.length ≤ 9223372036854775807 := ((S.u 3 rfl).2.2.2.1).1.len
 have hn10 : r_t340.known.xs.length ≤ 9223372036854775807 := ((S.u 3 rfl).2.2.2.2.1).1.len
 have hn11 : r_t340.waiting.xs.length ≤ 9223372036854775807 := ((S.u 3 rfl).2.2.2.2.2).1.len
 refine sp S (tr (mv rfl)<|tr (exi rfl rfl)<|la (exi rfl rfl)) ?_; clear S; intro a u S
 refine nbp S (x_allocz _ iZ57 rfl) ?_; clear S; intro a u b6 S
 refine ens S (tr (stkw 4 rfl rfl rfl)<|la (av rfl)) ?_; clear S; intro a u S
 refine rs0 ?_
 refine cl S (lOne _ _ S.x (.nil _)) cB69 ?_
 rintro e u ⟨r_t38, rfl, R_t38, hr_t38, T0⟩; refine ⟨_, rfl, fun a s => ?_⟩
 replace S := (S.k0 s T0).ar (wfF planE r_t38) (Enc.up _ R_t38); clear s T0 R_t38
 have ho_t38 := one_len hr_t38
 have hn13 : r_t38.rounds.xs.length ≤ 9223372036854775807 := ((S.u 4 rfl).2).1.len
 refine cl S (jNew _ _ (S.xx (ow []))  (S.mF (ks := [blO b1 [iI 1, iI 0, iI 0, iI 1] 24, rwO u8E 5 w.heap.size ra_t190 rc_t190 (encR r1J), rwO u8E 5 w.heap.size ad27 cap27 (([] ++ (encR r1J)) ++ [7]), noO, blO b6 (ctrlE.cells r_t340) 57]) (fs := [])) (S.nfF (ks := [blO b1 [iI 1, iI 0, iI 0, iI 1] 24, rwO u8E 5 w.heap.size ra_t190 rc_t190 (encR r1J), rwO u8E 5 w.heap.size ad27 cap27 (([] ++ (encR r1J)) ++ [7]), noO, blO b6 (ctrlE.cells r_t340) 57]) (fs := []) hD) r_t38 (dnF (ks := [blO b1 [iI 1, iI 0, iI 0, iI 1] 24, rwO u8E 5 w.heap.size ra_t190 rc_t190 (encR r1J), rwO u8E 5 w.heap.size ad27 cap27 (([] ++ (encR r1J)) ++ [7]), noO, blO b6 (ctrlE.cells r_t340) 57]) (fs := []) (S.u 4 rfl)) 1 ⟨by omega, by omega⟩ (by first | omega | (dsimp only; omega))) cB33 ?_
 rintro e u ⟨q_t39, rfl, qK_t39, qB_t39, hr_t39, T0⟩; refine ⟨_, rfl, fun a s => ?_⟩
 have S2 := S.kF (ks := [blO b1 [iI 1, iI 0, iI 0, iI 1] 24, rwO u8E 5 w.heap.size ra_t190 rc_t190 (encR r1J), rwO u8E 5 w.heap.size ad27 cap27 (([] ++ (encR r1J)) ++ [7]), noO, blO b6 (ctrlE.cells r_t340) 57]) (fs := []) [bnO (lgQ q_t39)] s T0 ⟨qB_t39, trivial⟩ ⟨(mo_bn (mo_lgQ _)), trivial⟩
 replace S2 := (show St _ _ _ _ _ _ [blO b1 [iI 1, iI 0, iI 0, iI 1] 24, rwO u8E 5 w.heap.size ra_t190 rc_t190 (encR r1J), rwO u8E 5 w.heap.size ad27 cap27 (([] ++ (encR r1J)) ++ [7]), noO, blO b6 (ctrlE.cells r_t340) 57, bnO (lgQ q_t39)] _ _ from S2)
 clear S; have S := S2; clear S2 s T0 qB_t39
 rcases q_t39 with _ | ⟨B_t39, x_t39⟩
 ·exact absurd (hr_t39.1.2 (one_good hr_t38)) (by decide)
 replace S := (show St _ _ _ _ _ _ [blO b1 [iI 1, iI 0, iI 0, iI 1] 24, rwO u8E 5 w.heap.size ra_t190 rc_t190 (encR r1J), rwO u8E 5 w.heap.size ad27 cap27 (([] ++ (encR r1J)) ++ [7]), noO, blO b6 (ctrlE.cells r_t340) 57, bnO (lgF B_t39 x_t39)] _ _ from S)
 have hLA : LogAt _ _ _ x_t39 [] := hr_t39.2 _ rfl
 have hOK := hLA.ma.ok
 have hsn := hLA.ma.sn
 have hll := hLA.lb
 have htg := hLA.ma.tg
 refine ens S (tr (mv rfl)<|tr (exi rfl rfl)<|tr (exi rfl rfl)<|tr (av rfl)<|la (av rfl)) ?_; clear S; intro a u S
 refine wp_seq ?_
 refine rs S (tr (mv rfl)<|tr (neqi rfl rfl)<|tr (mv rfl)<|tr (gon 44 rfl fun S=>x_move (S.e rfl))<|tr (gon 44 rfl fun S=>x_peqN uT52 (S.e rfl) (S.e rfl))<|la (ov fun S=>x_pickf (S.e rfl) (S.e rfl))) ?_; clear S; intro a u S
 refine cdf S rfl ?_
 refine wp_skip (then_n (rs0 ?_))
 refine sp S (tr (mv rfl)<|la (ldkw 0 rfl rfl wD24)) ?_; clear S; intro a u S
 refine cl S (jAppend _ _ (S.xx (ow [bnO (lgF B_t39 x_t39)])) B_t39 x_t39 (S.mF (ks := [blO b1 [iI 1, iI 0, iI 0, iI 1] 24, rwO u8E 5 w.heap.size ra_t190 rc_t190 (encR r1J), rwO u8E 5 w.heap.size ad27 cap27 (([] ++ (encR r1J)) ++ [7]), noO, blO b6 (ctrlE.cells r_t340) 57]) (fs := [bnO (lgF B_t39 x_t39)])) (S.nfF (ks := [blO b1 [iI 1, iI 0, iI 0, iI 1] 24, rwO u8E 5 w.heap.size ra_t190 rc_t190 (encR r1J), rwO u8E 5 w.heap.size ad27 cap27 (([] ++ (encR r1J)) ++ [7]), noO, blO b6 (ctrlE.cells r_t340) 57]) (fs := [bnO (lgF B_t39 x_t39)]) hD) qK_t39 (S.dF (ks := [blO b1 [iI 1, iI 0, iI 0, iI 1] 24, rwO u8E 5 w.heap.size ra_t190 rc_t190 (encR r1J), rwO u8E 5 w.heap.size ad27 cap27 (([] ++ (encR r1J)) ++ [7]), noO, blO b6 (ctrlE.cells r_t340) 57]) (fs := [bnO (lgF B_t39 x_t39)]) 0 rfl (mo_bn (mo_lg _ _))) (⟨1, 0, 0, 1⟩ : Rec) ⟨(show inI64 1 from ⟨by omega, by omega⟩), (show inI64 0 from ⟨by omega, by omega⟩), (show inI64 0 from ⟨by omega, by omega⟩), (show inI64 1 from ⟨by omega, by omega⟩)⟩ (⟨by first | assumption | exact hOK, by first | omega | assumption, by first | omega | assumption⟩)) cB34 ?_
 rintro e u ⟨jl_t50, rfl, hk_jl_t50, hK_jl_t50, hq_jl_t50, T0⟩; refine ⟨_, rfl, fun a s => ?_⟩
 have S2 := S.kF (ks := [blO b1 [iI 1, iI 0, iI 0, iI 1] 24, rwO u8E 5 w.heap.size ra_t190 rc_t190 (encR r1J), rwO u8E 5 w.heap.size ad27 cap27 (([] ++ (encR r1J)) ++ [7]), noO, blO b6 (ctrlE.cells r_t340) 57]) (fs := [bnO (lgF B_t39 x_t39)]) [bnO (lgF B_t39 jl_t50)] s T0 ⟨hK_jl_t50, trivial⟩ ⟨(mo_bn (mo_lg _ _)), trivial⟩
 replace S2 := (show St _ _ _ _ _ _ [blO b1 [iI 1, iI 0, iI 0, iI 1] 24, rwO u8E 5 w.heap.size ra_t190 rc_t190 (encR r1J), rwO u8E 5 w.heap.size ad27 cap27 (([] ++ (encR r1J)) ++ [7]), noO, blO b6 (ctrlE.cells r_t340) 57, bnO (lgF B_t39 jl_t50)] _ _ from S2)
 clear S; have S := S2; clear S2 s T0 hK_jl_t50
 have hap := hq_jl_t50.1 (by rw [htg, hLA.ls]; exact ap1)
 have hLB := hLA.app (r := r1J) ap1 hap.1 hap.2.1 hap.2.2
 have hls : jl_t50.l.xs = [r1J] := hLB.ls
 have hllB := hLB.lb
 have hbb : recsJ (bytesJ jl_t50.l.xs) = [r1J] ∧ decN (bytesJ jl_t50.l.xs) = 1 := by rw [hls]; exact rec1
 have hall : allJ 1 (recsJ (bytesJ jl_t50.l.xs)) := by rw [hbb.1]; exact all1
 refine ens S (la (av rfl)) ?_; clear S; intro a u S
 refine rs0 ?_
 refine cl S (lOne _ _ S.x (.nil _)) cB69 ?_
 rintro e u ⟨r_t52, rfl, R_t52, hr_t52, T0⟩; refine ⟨_, rfl, fun a s => ?_⟩
 replace S := (S.k0 s T0).ar (wfF planE r_t52) (Enc.up _ R_t52); clear s T0 R_t52
 have ho_t52 := one_len hr_t52
 have hn17 : r_t52.rounds.xs.length ≤ 9223372036854775807 := ((S.u 5 rfl).2).1.len
 refine sp S (la (mv rfl)) ?_; clear S; intro a u S
 refine cl S (jBytes _ _ (S.xx [In (ow (lgF B_t39 jl_t50))]) (.nil _) (B_t39, jl_t50) (S.rob hD 5 rfl (X := fun D => (ptE lgE 129).wf D _ (B_t39, jl_t50)) (rd_lg hk_jl_t50) _ (by simp)) (by first | omega | (dsimp only; omega) | assumption)) cB37 ?_
 rintro e u ⟨ra_t54, rc_t54, rfl, R_t54, T0⟩; refine ⟨_, rfl, fun a s => ?_⟩
 replace S := S.krx [⟨_, u8E, 5, ra_t54, rc_t54, bytesJ jl_t50.l.xs⟩] s T0 ⟨R_t54, trivial⟩ ⟨fun _ _ _ _ h => h, trivial⟩; clear s T0 R_t54
 skip
 replace S := S.fz 6 rfl
 refine cl S (jOpen _ _ (S.xx (ow []))  (S.mF (ks := [blO b1 [iI 1, iI 0, iI 0, iI 1] 24, rwO u8E 5 w.heap.size ra_t190 rc_t190 (encR r1J), rwO u8E 5 w.heap.size ad27 cap27 (([] ++ (encR r1J)) ++ [7]), noO, blO b6 (ctrlE.cells r_t340) 57, bnO (lgF B_t39 jl_t50), noO]) (fs := [])) (S.nfF (ks := [blO b1 [iI 1, iI 0, iI 0, iI 1] 24, rwO u8E 5 w.heap.size ra_t190 rc_t190 (encR r1J), rwO u8E 5 w.heap.size ad27 cap27 (([] ++ (encR r1J)) ++ [7]), noO, blO b6 (ctrlE.cells r_t340) 57, bnO (lgF B_t39 jl_t50), noO]) (fs := []) hD) r_t52 (dnF (ks := [blO b1 [iI 1, iI 0, iI 0, iI 1] 24, rwO u8E 5 w.heap.size ra_t190 rc_t190 (encR r1J), rwO u8E 5 w.heap.size ad27 cap27 (([] ++ (encR r1J)) ++ [7]), noO, blO b6 (ctrlE.cells r_t340) 57, bnO (lgF B_t39 jl_t50), noO]) (fs := []) (S.u 5 rfl)) 1 ⟨by omega, by omega⟩ (Sl.mk ra_t54 rc_t54 (bytesJ jl_t50.l.xs)) (dnF (ks := [blO b1 [iI 1, iI 0, iI 0, iI 1] 24, rwO u8E 5 w.heap.size ra_t190 rc_t190 (encR r1J), rwO u8E 5 w.heap.size ad27 cap27 (([] ++ (encR r1J)) ++ [7]), noO, blO b6 (ctrlE.cells r_t340) 57, bnO (lgF B_t39 jl_t50), noO]) (fs := []) (S.u 6 rfl)) (by first | omega | (dsimp only; omega))) cB36 ?_
 rintro e u ⟨q_t55, rfl, qK_t55, qB_t55, hr_t55, T0⟩; refine ⟨_, rfl, fun a s => ?_⟩
 have S2 := S.kF (ks := [blO b1 [iI 1, iI 0, iI 0, iI 1] 24, rwO u8E 5 w.heap.size ra_t190 rc_t190 (encR r1J), rwO u8E 5 w.heap.size ad27 cap27 (([] ++ (encR r1J)) ++ [7]), noO, blO b6 (ctrlE.cells r_t340) 57, bnO (lgF B_t39 jl_t50), noO]) (fs := []) [bnO (lgQ q_t55)] s T0 ⟨qB_t55, trivial⟩ ⟨(mo_bn (mo_lgQ _)), trivial⟩
 replace S2 := (show St _ _ _ _ _ _ [blO b1 [iI 1, iI 0, iI 0, iI 1] 24, rwO u8E 5 w.heap.size ra_t190 rc_t190 (encR r1J), rwO u8E 5 w.heap.size ad27 cap27 (([] ++ (encR r1J)) ++ [7]), noO, blO b6 (ctrlE.cells r_t340) 57, bnO (lgF B_t39 jl_t50), noO, bnO (lgQ q_t55)] _ _ from S2)
 clear S; have S := S2; clear S2 s T0 qB_t55
 rcases q_t55 with _ | ⟨B_t55, x_t55⟩
 ·exact absurd (hr_t55.1.2 ⟨one_good hr_t52, hall⟩) (by decide)
 replace S := (show St _ _ _ _ _ _ [blO b1 [iI 1, iI 0, iI 0, iI 1] 24, rwO u8E 5 w.heap.size ra_t190 rc_t190 (encR r1J), rwO u8E 5 w.heap.size ad27 cap27 (([] ++ (encR r1J)) ++ [7]), noO, blO b6 (ctrlE.cells r_t340) 57, bnO (lgF B_t39 jl_t50), noO, bnO (lgF B_t55 x_t55)] _ _ from S)
 have hLO : LogAt _ _ _ x_t55 _ := hr_t55.2 _ rfl
 have hso := hLO.ma.sn
 have hto := hLO.ma.tg
 have hko : x_t55.m.2.known.xs.length = x_t55.m.2.target.xs.length := hLO.ma.ok.2.kn
 have hwo : x_t55.m.2.waiting.xs.length ≤ x_t55.m.2.target.xs.length := hLO.ma.ok.2.wt.len
 refine ens S (tr (mv rfl)<|tr (exi rfl rfl)<|tr (exi rfl rfl)<|tr (exi rfl rfl)<|tr (av rfl)<|tr (av rfl)<|la (av rfl)) ?_; clear S; intro a u S
 refine rs0 ?_
 refine cl S (lOne _ _ S.x (.nil _)) cB69 ?_
 rintro e u ⟨r_t60, rfl, R_t60, hr_t60, T0⟩; refine ⟨_, rfl, fun a s => ?_⟩
 replace S := (S.k0 s T0).ar (wfF planE r_t60) (Enc.up _ R_t60); clear s T0 R_t60
 have ho_t60 := one_len hr_t60
 have hn19 : r_t60.rounds.xs.length ≤ 9223372036854775807 := ((S.u 7 rfl).2).1.len
 refine cl S (jNew _ _ (S.xx (ow []))  (S.mF (ks := [blO b1 [iI 1, iI 0, iI 0, iI 1] 24, rwO u8E 5 w.heap.size ra_t190 rc_t190 (encR r1J), rwO u8E 5 w.heap.size ad27 cap27 (([] ++ (encR r1J)) ++ [7]), noO, blO b6 (ctrlE.cells r_t340) 57, bnO (lgF B_t39 jl_t50), noO, bnO (lgF B_t55 x_t55)]) (fs := [])) (S.nfF (ks := [blO b1 [iI 1, iI 0, iI 0, iI 1] 24, rwO u8E 5 w.heap.size ra_t190 rc_t190 (encR r1J), rwO u8E 5 w.heap.size ad27 cap27 (([] ++ (encR r1J)) ++ [7]), noO, blO b6 (ctrlE.cells r_t340) 57, bnO (lgF B_t39 jl_t50), noO, bnO (lgF B_t55 x_t55)]) (fs := []) hD) r_t60 (dnF (ks := [blO b1 [iI 1, iI 0, iI 0, iI 1] 24, rwO u8E 5 w.heap.size ra_t190 rc_t190 (encR r1J), rwO u8E 5 w.heap.size ad27 cap27 (([] ++ (encR r1J)) ++ [7]), noO, blO b6 (ctrlE.cells r_t340) 57, bnO (lgF B_t39 jl_t50), noO, bnO (lgF B_t55 x_t55)]) (fs := []) (S.u 7 rfl)) 0 ⟨by omega, by omega⟩ (by first | omega | (dsimp only; omega))) cB33 ?_
 rintro e u ⟨q_t61, rfl, qK_t61, qB_t61, hr_t61, T0⟩; refine ⟨_, rfl, fun a s => ?_⟩
 have S2 := S.kF (ks := [blO b1 [iI 1, iI 0, iI 0, iI 1] 24, rwO u8E 5 w.heap.size ra_t190 rc_t190 (encR r1J), rwO u8E 5 w.heap.size ad27 cap27 (([] ++ (encR r1J)) ++ [7]), noO, blO b6 (ctrlE.cells r_t340) 57, bnO (lgF B_t39 jl_t50), noO, bnO (lgF B_t55 x_t55)]) (fs := []) [bnO (lgQ q_t61)] s T0 ⟨qB_t61, trivial⟩ ⟨(mo_bn (mo_lgQ _)), trivial⟩
 replace S2 := (show St _ _ _ _ _ _ [blO b1 [iI 1, iI 0, iI 0, iI 1] 24, rwO u8E 5 w.heap.size ra_t190 rc_t190 (encR r1J), rwO u8E 5 w.heap.size ad27 cap27 (([] ++ (encR r1J)) ++ [7]), noO, blO b6 (ctrlE.cells r_t340) 57, bnO (lgF B_t39 jl_t50), noO, bnO (lgF B_t55 x_t55), bnO (lgQ q_t61)] _ _ from S2)
 clear S; have S := S2; clear S2 s T0 qB_t61
 rcases q_t61 with _ | ⟨B_t61, x_t61⟩
 rotate_left
 ·exact absurd (hr_t61.1.1 rfl) (one_bad hr_t60)
 replace S := S.pk [0, 1, 2, 3, 4, 5, 6, 7] (os' := [blO b1 [iI 1, iI 0, iI 0, iI 1] 24, rwO u8E 5 w.heap.size ra_t190 rc_t190 (encR r1J), rwO u8E 5 w.heap.size ad27 cap27 (([] ++ (encR r1J)) ++ [7]), noO, blO b6 (ctrlE.cells r_t340) 57, bnO (lgF B_t39 jl_t50), noO, bnO (lgF B_t55 x_t55)])
 refine ens S (tr (mv rfl)<|tr (exi rfl rfl)<|tr (exi rfl rfl)<|tr (av rfl)<|la (av rfl)) ?_; clear S; intro a u S
 refine wp_seq ?_
 replace S := S.fz 1 rfl
 replace S := S.l [(2, .slice ra_t190 ((encR r1J).length) rc_t190), (3, iI (if recOK (⟨1, 0, 0, 1⟩ : Rec) then 0 else 1 : Int)), (4, .slice ra_t280 (([r1J]).length) rc_t280), (5, iN (14 * decN (([] ++ (encR r1J)) ++ [7]))), (6, pT b6 0), (7, iI (replE r_t32 1 ([r1J]))), (8, pT B_t39 0), (10, iI (appE ((x_t39.m.2.target.xs.length : Nat) : Int) x_t39.l.xs.length (⟨1, 0, 0, 1⟩ : Rec))), (11, pT B_t55 0), (12, iI (openN (some (B_t55, x_t55)) (bytesJ jl_t50.l.xs))), (13, iI 0), (15, iI 1)] (subM rfl)
 refine dr (P := Try.prog) S 66 [] ((64, .is _) :: (65, .is _) :: (66, .is _) :: (67, .is _) :: (68, .is _) :: (69, .is _) :: (70, .is _) :: (71, .is _) :: (72, .is _) :: (73, .is _) :: (74, .is _) :: (75, .is _) :: (76, .is _) :: (77, .is _) :: (78, .is _) :: (79, .is _) :: (80, .is _) :: (81, .is _) :: (82, .is _) :: (83, .is _) :: (84, .is _) :: (85, .is _) :: (86, .is _) :: (87, .is _) :: (88, .is _) :: (89, .is _) :: (90, .is _) :: (91, .is _) :: (92, .is _) :: (93, .is _) :: (94, .is _) :: (95, .is _) :: (96, .is _) :: (97, .is _) :: (98, .is _) :: (99, .is _) :: (100, .is _) :: (101, .of (fun z w => (((((((((if recOK (⟨1, 0, 0, 1⟩ : Rec) then 0 else 1 : Int) = 0) ∧ ((((encR r1J).length : Nat) : Int) = 14)) ∧ (((([r1J]).length : Nat) : Int) = 1)) ∧ (((14 * decN (([] ++ (encR r1J)) ++ [7]) : Nat) : Int) = 14)) ∧ ((replE r_t32 1 ([r1J])) = 0)) ∧ (r_t340.round = 1)) ∧ (((r_t340.waiting.xs.length : Nat) : Int) = 0)) ∧ ((appE ((x_t39.m.2.target.xs.length : Nat) : Int) x_t39.l.xs.length (⟨1, 0, 0, 1⟩ : Rec)) = 0)) → ∃ (x101aa : Option Addr) (x101ba : Nat), z = .slice x101aa ((bytesJ jl_t50.l.xs).length) x101ba ∧ (slE u8E).wf (Fr F [one b1, (fun _ => False), abk ad27, (fun _ => False), one b6, In (ow (lgF B_t39 jl_t50)), (fun _ => False), In (ow (lgF B_t55 x_t55))]) w.heap (Sl.mk x101aa x101ba (bytesJ jl_t50.l.xs))) (fun v w w' c h hg => let ⟨x101aa, x101ba, hv, h0⟩ := h hg; ⟨x101aa, x101ba, hv, Enc.kp (slE u8E) h0 c (fun _ h => by simp at h)⟩)) :: (102, .is ((if (((((((((if recOK (⟨1, 0, 0, 1⟩ : Rec) then 0 else 1 : Int) = 0) ∧ ((((encR r1J).length : Nat) : Int) = 14)) ∧ (((([r1J]).length : Nat) : Int) = 1)) ∧ (((14 * decN (([] ++ (encR r1J)) ++ [7]) : Nat) : Int) = 14)) ∧ ((replE r_t32 1 ([r1J])) = 0)) ∧ (r_t340.round = 1)) ∧ (((r_t340.waiting.xs.length : Nat) : Int) = 0)) ∧ ((appE ((x_t39.m.2.target.xs.length : Nat) : Int) x_t39.l.xs.length (⟨1, 0, 0, 1⟩ : Rec)) = 0)) then .string (strOfNums (bytesJ jl_t50.l.xs)) else undef))) :: (103, .is _) :: (104, .is _) :: (105, .is _) :: (106, .is _) :: (107, .is _) :: (108, .is _) :: (109, .is _) :: (110, .is _) :: (111, .is _) :: (112, .is _) :: (113, .is _) :: (114, .is _) :: (115, .is _) :: (116, .is _) :: (117, .is _) :: (118, .is _) :: (119, .is _) :: (120, .is _) :: (121, .of (fun z w => (((((((((((((if recOK (⟨1, 0, 0, 1⟩ : Rec) then 0 else 1 : Int) = 0) ∧ ((((encR r1J).length : Nat) : Int) = 14)) ∧ (((([r1J]).length : Nat) : Int) = 1)) ∧ (((14 * decN (([] ++ (encR r1J)) ++ [7]) : Nat) : Int) = 14)) ∧ ((replE r_t32 1 ([r1J])) = 0)) ∧ (r_t340.round = 1)) ∧ (((r_t340.waiting.xs.length : Nat) : Int) = 0)) ∧ ((appE ((x_t39.m.2.target.xs.length : Nat) : Int) x_t39.l.xs.length (⟨1, 0, 0, 1⟩ : Rec)) = 0)) ∧ ((strOfNums (bytesJ jl_t50.l.xs)) = (strOfNums (encR r1J)))) ∧ ((0 : Int) = 0)) ∧ ((openN (some (B_t55, x_t55)) (bytesJ jl_t50.l.xs)) = 14)) ∧ (True)) → ∃ (x121aa : Option Addr) (x121ba : Nat) (x121cb : Option Addr) (x121db : Nat) (x121ec : Option Addr) (x121fc : Nat), z = .agg #[iI x_t55.m.2.round, bD (x_t55.m.2.back = true), iI x_t55.m.2.seq, .slice x121aa x_t55.m.2.target.xs.length x121ba, .slice x121cb x_t55.m.2.known.xs.length x121db, .slice x121ec x_t55.m.2.waiting.xs.length x121fc] ∧ (slE intE).wf (Fr F [one b1, (fun _ => False), abk ad27, (fun _ => False), one b6, In (ow (lgF B_t39 jl_t50)), (fun _ => False), In (ow (lgF B_t55 x_t55))]) w.heap (Sl.mk x121aa x121ba x_t55.m.2.target.xs) ∧ (slE intE).wf (Fr F [one b1, (fun _ => False), abk ad27, (fun _ => False), one b6, In (ow (lgF B_t39 jl_t50)), (fun _ => False), In (ow (lgF B_t55 x_t55))]) w.heap (Sl.mk x121cb x121db x_t55.m.2.known.xs) ∧ (slE intE).wf (Fr F [one b1, (fun _ => False), abk ad27, (fun _ => False), one b6, In (ow (lgF B_t39 jl_t50)), (fun _ => False), In (ow (lgF B_t55 x_t55))]) w.heap (Sl.mk x121ec x121fc x_t55.m.2.waiting.xs)) (fun v w w' c h hg => let ⟨x121aa, x121ba, x121cb, x121db, x121ec, x121fc, hv, h0, h1, h2⟩ := h hg; ⟨x121aa, x121ba, x121cb, x121db, x121ec, x121fc, hv, Enc.kp (slE intE) h0 c (fun _ h => by simp at h), Enc.kp (slE intE) h1 c (fun _ h => by simp at h), Enc.kp (slE intE) h2 c (fun _ h => by simp at h)⟩)) :: (122, .is ((if (((((((((((((if recOK (⟨1, 0, 0, 1⟩ : Rec) then 0 else 1 : Int) = 0) ∧ ((((encR r1J).length : Nat) : Int) = 14)) ∧ (((([r1J]).length : Nat) : Int) = 1)) ∧ (((14 * decN (([] ++ (encR r1J)) ++ [7]) : Nat) : Int) = 14)) ∧ ((replE r_t32 1 ([r1J])) = 0)) ∧ (r_t340.round = 1)) ∧ (((r_t340.waiting.xs.length : Nat) : Int) = 0)) ∧ ((appE ((x_t39.m.2.target.xs.length : Nat) : Int) x_t39.l.xs.length (⟨1, 0, 0, 1⟩ : Rec)) = 0)) ∧ ((strOfNums (bytesJ jl_t50.l.xs)) = (strOfNums (encR r1J)))) ∧ ((0 : Int) = 0)) ∧ ((openN (some (B_t55, x_t55)) (bytesJ jl_t50.l.xs)) = 14)) ∧ (True)) then iI x_t55.m.2.round else undef))) :: (123, .is _) :: (124, .is _) :: (125, .is _) :: (126, .is _) :: (127, .is _) :: (128, .is _) :: (0, .is _) :: []) ([] :: [64] :: [65] :: [66] :: [66, 67] :: [66, 68] :: [66, 69] :: [70] :: [71] :: [71, 72] :: [71, 73] :: [71, 74] :: [75] :: [76] :: [76, 77] :: [76, 78] :: [79] :: [80] :: [80, 81] :: [80, 82] :: [83] :: [84] :: [84, 85] :: [84, 86] :: [84, 87] :: [88] :: [89] :: [89, 90] :: [89, 91] :: [89, 92] :: [89, 93] :: [94] :: [95] :: [95, 96] :: [95, 97] :: [98] :: [99] :: [99, 100] :: [99, 101] :: [99] :: [99, 103] :: [99, 102, 104] :: [99, 105] :: [106] :: [107] :: [107, 108] :: [107, 109] :: [110] :: [111] :: [111, 112] :: [111, 113] :: [114] :: [115] :: [115, 116] :: [115, 117] :: [118] :: [119] :: [119, 120] :: [119, 121] :: [119, 122] :: [119, 123] :: [124] :: [125] :: [125, 126] :: [125, 127] :: [128] :: []) [0] _ ⟨qd (mv rfl), qd (eqli rfl rfl), qd (mv rfl), qd (og 66 rfl gt fun S hg=>x_move (S.e rfl)), qd (og 66 rfl gt fun S hg=>x_len uT28 (S.p rfl hg)), qd (og 66 rfl gt fun S hg=>x_eql (S.p rfl hg) (S.e rfl)), qd (andi rfl rfl rfl), qd (mv rfl), qd (og 71 rfl gt fun S hg=>x_move (S.e rfl)), qd (og 71 rfl gt fun S hg=>x_len uT32 (S.p rfl hg)), qd (og 71 rfl gt fun S hg=>x_eql (S.p rfl hg) (S.e rfl)), qd (andi rfl rfl rfl), qd (mv rfl), qd (og 76 rfl gt fun S hg=>x_move (S.e rfl)), qd (og 76 rfl gt fun S hg=>x_eql (S.p rfl hg) (S.e rfl)), qd (andi rfl rfl rfl), qd (mv rfl), qd (og 80 rfl gt fun S hg=>x_move (S.e rfl)), qd (og 80 rfl gt fun S hg=>x_eql (S.p rfl hg) (S.e rfl)), qd (andi rfl rfl rfl), qd (mv rfl), qd (og 84 rfl gt fun S hg=>xf (0) 0 uT57 (S.e rfl)), qd (og 84 rfl gt fun S hg=>x_load sC3 (S.p rfl hg) ((S.k 4 rfl).cell (j := 0) rfl)), qd (og 84 rfl gt fun S hg=>x_eql (S.p rfl hg) (S.e rfl)), qd (andi rfl rfl rfl), qd (mv rfl), qd (og 89 rfl gt fun S hg=>xf (0) 5 uT57 (S.e rfl)), qd (og 89 rfl gt fun S hg=>x_load sC22 (S.p rfl hg) ((S.k 4 rfl).cell (j := 5) rfl)), qd (og 89 rfl gt fun S hg=>x_len uT22 (S.p rfl hg)), qd (og 89 rfl gt fun S hg=>x_eql (S.p rfl hg) (S.e rfl)), qd (andi rfl rfl rfl), qd (mv rfl), qd (og 95 rfl gt fun S hg=>x_move (S.e rfl)), qd (og 95 rfl gt fun S hg=>x_eql (S.p rfl hg) (S.e rfl)), qd (andi rfl rfl rfl), qd (mv rfl), qd (og 99 rfl gt fun S hg=>x_move (S.e rfl)), ?_, ?_, qd (og 99 rfl gt fun S hg=>x_move (S.e rfl)), qd (og 99 rfl gt fun S hg=>x_bstr (Sl.mk ra_t190 rc_t190 (encR r1J)) ((S.u 8 rfl)) uT28 uT5 uT9 (S.p rfl hg)), qd (og 99 rfl gt fun S hg=>x_seql (S.p rfl hg) (S.p rfl hg)), qd (andi rfl rfl rfl), qd (mv rfl), qd (og 107 rfl gt fun S hg=>x_move (S.e rfl)), qd (og 107 rfl gt fun S hg=>x_eql (S.p rfl hg) (S.e rfl)), qd (andi rfl rfl rfl), qd (mv rfl), qd (og 111 rfl gt fun S hg=>x_move (S.e rfl)), qd (og 111 rfl gt fun S hg=>x_eql (S.p rfl hg) (S.e rfl)), qd (andi rfl rfl rfl), qd (mv rfl), qd (og 115 rfl gt fun S hg=>x_move (S.e rfl)), qd (og 115 rfl gt fun S hg=>pbT (x_pneN uT52 (S.p rfl hg) (S.e rfl))), qd (andi rfl rfl rfl), qd (mv rfl), qd (og 119 rfl gt fun S hg=>x_move (S.e rfl)), ?_, ?_, qd (og 119 rfl gt fun S hg=>x_eql (S.p rfl hg) (S.e rfl)), qd (andi rfl rfl rfl), qd (mv rfl), qd (og 125 rfl gt fun S hg=>x_move (S.e rfl)), qd (og 125 rfl gt fun S hg=>x_eql (S.p rfl hg) (S.e rfl)), qd (andi rfl rfl rfl), qd (av rfl), trivial⟩ ?_
 ·skip
  intro a u S G hE
  refine (Classical.em (((((((((if recOK (⟨1, 0, 0, 1⟩ : Rec) then 0 else 1 : Int) = 0) ∧ ((((encR r1J).length : Nat) : Int) = 14)) ∧ (((([r1J]).length : Nat) : Int) = 1)) ∧ (((14 * decN (([] ++ (encR r1J)) ++ [7]) : Nat) : Int) = 14)) ∧ ((replE r_t32 1 ([r1J])) = 0)) ∧ (r_t340.round = 1)) ∧ (((r_t340.waiting.xs.length : Nat) : Int) = 0)) ∧ ((appE ((x_t39.m.2.target.xs.length : Nat) : Int) x_t39.l.xs.length (⟨1, 0, 0, 1⟩ : Rec)) = 0))).symm.elim (fun hg => ?_) fun hg => ?_
  ·exact hng 101 99 S S.m rfl (fun h => hg (gt.2 h)) (show (((((((((if recOK (⟨1, 0, 0, 1⟩ : Rec) then 0 else 1 : Int) = 0) ∧ ((((encR r1J).length : Nat) : Int) = 14)) ∧ (((([r1J]).length : Nat) : Int) = 1)) ∧ (((14 * decN (([] ++ (encR r1J)) ++ [7]) : Nat) : Int) = 14)) ∧ ((replE r_t32 1 ([r1J])) = 0)) ∧ (r_t340.round = 1)) ∧ (((r_t340.waiting.xs.length : Nat) : Int) = 0)) ∧ ((appE ((x_t39.m.2.target.xs.length : Nat) : Int) x_t39.l.xs.length (⟨1, 0, 0, 1⟩ : Rec)) = 0)) → _ from fun h => absurd h hg)
  refine hcg 99 S rfl (gt.1 hg) (jBytes _ _ (S.xx [In (ow (lgF B_t39 jl_t50))]) (.nil _) (B_t39, jl_t50) (S.rob hD 5 rfl (X := fun D => (ptE lgE 129).wf D _ (B_t39, jl_t50)) (rd_lg hk_jl_t50) _ (by simp)) (by first | omega | (dsimp only; omega) | assumption)) cB37 ⟨fun _=>(S.p rfl hg), trivial⟩ ?_
  rintro e w2 ⟨x101a, x101b, rfl, R0, T0⟩; refine ⟨_, rfl, (fun _ => ?_), T0.ch, (S.m.k0 T0.ch)⟩
  exact ⟨x101a, x101b, rfl, (S.frz R0 (by decide) (fun _ h => h))⟩
 ·skip
  intro a u S G hE
  obtain ⟨e101, -⟩ := hE
  have M0 := S.m
  refine (Classical.em (((((((((if recOK (⟨1, 0, 0, 1⟩ : Rec) then 0 else 1 : Int) = 0) ∧ ((((encR r1J).length : Nat) : Int) = 14)) ∧ (((([r1J]).length : Nat) : Int) = 1)) ∧ (((14 * decN (([] ++ (encR r1J)) ++ [7]) : Nat) : Int) = 14)) ∧ ((replE r_t32 1 ([r1J])) = 0)) ∧ (r_t340.round = 1)) ∧ (((r_t340.waiting.xs.length : Nat) : Int) = 0)) ∧ ((appE ((x_t39.m.2.target.xs.length : Nat) : Int) x_t39.l.xs.length (⟨1, 0, 0, 1⟩ : Rec)) = 0))).symm.elim (fun hg => ?_) fun hg => ?_
  ·exact hng 102 99 S M0 rfl (fun h => hg (gt.2 h)) (show _ = _ from (if_neg hg).symm)
  replace e101 := e101 hg
  obtain ⟨x101a_20, x101b_20, e101, X20⟩ := e101
  replace S := S.ext e101
  exact hvg 102 99 S M0 rfl (gt.1 hg) (v := .string (strOfNums (bytesJ jl_t50.l.xs))) (x_bstr (Sl.mk x101a_20 x101b_20 (bytesJ jl_t50.l.xs)) (X20) uT28 uT5 uT9 (S.e rfl)) (show _ = _ from (if_pos hg).symm)
 ·skip
  intro a u S G hE
  refine (Classical.em (((((((((((((if recOK (⟨1, 0, 0, 1⟩ : Rec) then 0 else 1 : Int) = 0) ∧ ((((encR r1J).length : Nat) : Int) = 14)) ∧ (((([r1J]).length : Nat) : Int) = 1)) ∧ (((14 * decN (([] ++ (encR r1J)) ++ [7]) : Nat) : Int) = 14)) ∧ ((replE r_t32 1 ([r1J])) = 0)) ∧ (r_t340.round = 1)) ∧ (((r_t340.waiting.xs.length : Nat) : Int) = 0)) ∧ ((appE ((x_t39.m.2.target.xs.length : Nat) : Int) x_t39.l.xs.length (⟨1, 0, 0, 1⟩ : Rec)) = 0)) ∧ ((strOfNums (bytesJ jl_t50.l.xs)) = (strOfNums (encR r1J)))) ∧ ((0 : Int) = 0)) ∧ ((openN (some (B_t55, x_t55)) (bytesJ jl_t50.l.xs)) = 14)) ∧ (True))).symm.elim (fun hg => ?_) fun hg => ?_
  ·exact hng 121 119 S S.m rfl (fun h => hg (gt.2 h)) (show (((((((((((((if recOK (⟨1, 0, 0, 1⟩ : Rec) then 0 else 1 : Int) = 0) ∧ ((((encR r1J).length : Nat) : Int) = 14)) ∧ (((([r1J]).length : Nat) : Int) = 1)) ∧ (((14 * decN (([] ++ (encR r1J)) ++ [7]) : Nat) : Int) = 14)) ∧ ((replE r_t32 1 ([r1J])) = 0)) ∧ (r_t340.round = 1)) ∧ (((r_t340.waiting.xs.length : Nat) : Int) = 0)) ∧ ((appE ((x_t39.m.2.target.xs.length : Nat) : Int) x_t39.l.xs.length (⟨1, 0, 0, 1⟩ : Rec)) = 0)) ∧ ((strOfNums (bytesJ jl_t50.l.xs)) = (strOfNums (encR r1J)))) ∧ ((0 : Int) = 0)) ∧ ((openN (some (B_t55, x_t55)) (bytesJ jl_t50.l.xs)) = 14)) ∧ (True)) → _ from fun h => absurd h hg)
  refine hcg 119 S rfl (gt.1 hg) (jCtl _ _ (S.xx [In (ow (lgF B_t55 x_t55))]) (.nil _) (B_t55, x_t55) (S.rob hD 7 rfl (X := fun D => (ptE lgE 129).wf D _ (B_t55, x_t55)) (rd_lg qK_t55) _ (by simp)) (⟨by first | omega | (dsimp only; omega) | assumption, by first | omega | (dsimp only; omega) | assumption, by first | omega | (dsimp only; omega) | assumption⟩)) cB39 ⟨fun _=>(S.p rfl hg), trivial⟩ ?_
  rintro e w2 ⟨x121a, x121b, x121c, x121d, x121e, x121f, rfl, R0, R1, R2, T0⟩; refine ⟨_, rfl, (fun _ => ?_), T0.ch, (S.m.k0 T0.ch)⟩
  exact ⟨x121a, x121b, x121c, x121d, x121e, x121f, rfl, (S.frz R0 (by decide) (fun _ h => h)), (S.frz R1 (by decide) (fun _ h => h)), (S.frz R2 (by decide) (fun _ h => h))⟩
 ·skip
  intro a u S G hE
  obtain ⟨e121, -⟩ := hE
  have M0 := S.m
  refine (Classical.em (((((((((((((if recOK (⟨1, 0, 0, 1⟩ : Rec) then 0 else 1 : Int) = 0) ∧ ((((encR r1J).length : Nat) : Int) = 14)) ∧ (((([r1J]).length : Nat) : Int) = 1)) ∧ (((14 * decN (([] ++ (encR r1J)) ++ [7]) : Nat) : Int) = 14)) ∧ ((replE r_t32 1 ([r1J])) = 0)) ∧ (r_t340.round = 1)) ∧ (((r_t340.waiting.xs.length : Nat) : Int) = 0)) ∧ ((appE ((x_t39.m.2.target.xs.length : Nat) : Int) x_t39.l.xs.length (⟨1, 0, 0, 1⟩ : Rec)) = 0)) ∧ ((strOfNums (bytesJ jl_t50.l.xs)) = (strOfNums (encR r1J)))) ∧ ((0 : Int) = 0)) ∧ ((openN (some (B_t55, x_t55)) (bytesJ jl_t50.l.xs)) = 14)) ∧ (True))).symm.elim (fun hg => ?_) fun hg => ?_
  ·exact hng 122 119 S M0 rfl (fun h => hg (gt.2 h)) (show _ = _ from (if_neg hg).symm)
  replace e121 := e121 hg
  obtain ⟨x121a_21, x121b_21, x121c_22, x121d_22, x121e_23, x121f_23, e121, X21, X22, X23⟩ := e121
  replace S := S.ext e121
  exact hvg 122 119 S M0 rfl (gt.1 hg) (v := iI x_t55.m.2.round) (x_fldv uT57 rfl sC3 (S.e rfl) rfl) (show _ = _ from (if_pos hg).symm)
 clear S; intro a u S G hE
 refine ent (wp_ret ?_)
 refine ret1 rfl S.s rfl ?_
 replace S := S.pk []
 refine ⟨(r1 (vb ?_)), S.m.c⟩
 refine ⟨fun _ => trivial, fun _ => ?_⟩
 have d1 : decN (encR r1J ++ [7]) = 1 := (dec_one r1_ok [7] (by decide)).1
 have o1 := one_rep hr_t32
 have hw : r_t340.waiting.xs = [] := hr_t340.2.2.2.2.2.trans o1.2.2
 have hrd : x_t55.m.2.round = 1 := by
  have h := congrArg Ctl.round hLO.ma.ab
  rw [hbb.1, one_st hr_t52, hr_t52.2] at h
  exact h.trans fold1.1
 repeat' apply And.intro
 all_goals first
 | trivial
 | exact if_pos r1_ok
 | rfl
 | (show ((14 * decN (encR r1J ++ [7]) : Nat) : Int) = 14; rw [d1]; rfl)
 | exact o1.1
 | exact hr_t340.1.trans o1.2.1
 | (rw [hw]; rfl)
 | (rw [htg, hLA.ls]; exact ap1)
 | (rw [hls]; exact congrArg _ (bytesJ_one r1_ok))
 | (show ((14 * decN (bytesJ jl_t50.l.xs) : Nat) : Int) = 14; rw [hbb.2]; rfl)
 | exact hrd
end Go.Proofs.Ytobggnpnochnnaa.V
namespace Go.Proofs.Ytobggnpnochnnaa.V
open Go.RowKit Go.Proofs.Ytobggnpnochnnaa
set_option linter.unusedVariables false
set_option linter.unusedSimpArgs false
set_option maxHeartbeats 2000000 in
set_option maxRecDepth 20000 in
theorem gNew (w : World) (F : Nat → Prop) (hF : Old F w) (M : MS [] w) (l : Sl Int) (l_w : (slE intE).wf (Fr F []) w.heap l) :
 Calls Try.prog 19 #[sV l] w fun e w' => ∃ (rT : Nat), e = .returned (pT rT 0) ∧ TpB 112 rT l w' ∧ Tr [] w [one rT] w' := by
 have : l.xs.length ≤ 9223372036854775807 := (l_w).1.len
 refine go Try.func19 rfl 6 rfl [wfF (slE intE) l] [] hF M ⟨l_w, trivial⟩ trivial ?_
 intro a S
 have hD : ∀ k, In ([] : List BS) k → ¬ F k := fun _ h => h.elim
 refine rs S (la (av rfl)) ?_; clear S; intro a u S
 refine rs0 ?_
 refine sp S (tr (mv rfl)<|la (ov fun S=>x_bd S [(0, sV l)] [sV l, iI 0])) ?_; clear S; intro a u S
 refine nbp S (x_box _ (S.e rfl) rfl) ?_; clear S; intro a u b5 S
 refine ens S (la (av rfl)) ?_; clear S; intro a u S
 refine wp_ret ?_
 refine ret1 rfl S.s rfl ?_
 replace S := S.pk [0]
 exact ⟨_, rfl, ⟨0, Nat.zero_le _, (S.k 0 rfl)⟩, S.m.c⟩
set_option maxHeartbeats 2000000 in
set_option maxRecDepth 20000 in
theorem gMod (w : World) (F : Nat → Prop) (hF : Old F w) (M : MS [] w) (v : Int) (v_h : inI64 v) (n : Int) (n_h : inI64 n) (hn : 1 ≤ n) :
 Calls Try.prog 29 #[iI v, iI n] w fun e w' => e = .returned (iI (v % 18446744073709551616 % n)) ∧ Tr [] w [] w' := by
 obtain ⟨v_hl, v_hu⟩ : inI64 v := id v_h
 obtain ⟨n_hl, n_hu⟩ : inI64 n := id n_h
 have hu : IntKind.u64.wrap v = v % 18446744073709551616 := by simp [IntKind.wrap, IntKind.bits, IntKind.signed]
 have hw : 0 ≤ v % 18446744073709551616 ∧ v % 18446744073709551616 ≤ 18446744073709551615 := ⟨by omega, by omega⟩
 have hm1 : 0 ≤ v % 18446744073709551616 % n := Int.emod_nonneg _ (by omega)
 have hm2 : v % 18446744073709551616 % n < n := Int.emod_lt_of_pos _ (by omega)
 refine go Try.func29 rfl 11 rfl [] [] hF M trivial trivial ?_
 intro a S
 have hD : ∀ k, In ([] : List BS) k → ¬ F k := fun _ h => h.elim
 refine rs S (la (av rfl)) ?_; clear S; intro a u S
 refine rs S (tr (mv rfl)<|tr (ov fun S=>x_conv uT3 uT40 (S.e rfl) (r := (v % 18446744073709551616)) hu)<|tr (mv rfl)<|tr (ov fun S=>x_conv uT3 uT40 (S.e rfl) (r := n) (w_u64 (by omega)))<|tr (ov fun S=>x_rem (S.e rfl) (S.e rfl) (by omega) (r := ((v % 18446744073709551616) % n)) (by first | rfl | (rw [Int.tmod_eq_emod_of_nonneg (by omega)]) | (rw [Int.tmod_eq_emod_of_nonneg (by omega)]; omega)))<|tr (ov fun S=>x_conv uT40 uT3 (S.e rfl) (r := ((v % 18446744073709551616) % n)) (w_i64 (by omega)))<|la (av rfl)) ?_; clear S; intro a u S
 refine wp_ret ?_
 refine ret1 rfl S.s rfl ?_
 refine ⟨(r1 (vi ?_)), S.m.c⟩
 first | rfl | omega | assumption
set_option maxHeartbeats 2000000 in
set_option maxRecDepth 20000 in
theorem gNext (w : World) (F : Nat → Prop) (hF : Old F w) (T : Nat) (M : MS [one T] w) (T_l : Sl Int) (T_w : (slE intE).wf (Fr F [one T]) w.heap T_l) (T_K : TpB 112 T T_l w) (n : Int) (n_h : inI64 n) :
 Calls Try.prog 26 #[pT T 0, iI n] w fun e w' => ∃ (r : Int), e = .returned (iI r) ∧ (0 ≤ r ∧ (r < n ∨ r = 0)) ∧ TpB 112 T T_l w' ∧ Tr [one T] w [one T] w' := by
 obtain ⟨ti, hti, T_K⟩ := T_K
 have T_len : T_l.xs.length ≤ 9223372036854775807 := T_w.1.len
 obtain ⟨n_hl, n_hu⟩ : inI64 n := id n_h
 refine go Try.func26 rfl 39 rfl [wfF (slE intE) T_l] [blO T [sV T_l, iN ti] 112] hF M ⟨T_w, trivial⟩ ⟨T_K, trivial⟩ ?_
 intro a S
 refine rs S (la (av rfl)) ?_; clear S; intro a u S
 refine wp_seq (wp_seq ?_)
 refine dr (P := Try.prog) S 14 [] [(5, .is _), (6, .is _), (7, .is _), (8, .is _), (9, .is _), (10, .is _), (11, .is _), (12, .is _), (13, .is _), (14, .is _), (15, .is _), (16, .is _), (17, .is _), (18, .is _)] [[], [5], [6], [7], [7, 8], [7, 9], [7, 10], [7], [7, 12], [7, 13], [7, 14], [7, 15], [7, 11, 16], [7, 17]] [18] _ ⟨qd (mv rfl), qd (leqi rfl rfl), qd (mv rfl), qd (og 7 rfl gf fun S hg=>x_move (S.e rfl)), qd (og 7 rfl gf fun S hg=>x_nilck (S.p rfl hg)), qd (og 7 rfl gf fun S hg=>xf (0) 1 uT112 (S.p rfl hg)), qd (og 7 rfl gf fun S hg=>x_load sC3 (S.p rfl hg) ((S.k 0 rfl).cell (j := 1) rfl)), qd (og 7 rfl gf fun S hg=>x_move (S.e rfl)), qd (og 7 rfl gf fun S hg=>x_nilck (S.p rfl hg)), qd (og 7 rfl gf fun S hg=>xf (0) 0 uT112 (S.p rfl hg)), qd (og 7 rfl gf fun S hg=>x_load sC22 (S.p rfl hg) ((S.k 0 rfl).cell (j := 0) rfl)), qd (og 7 rfl gf fun S hg=>x_len uT22 (S.p rfl hg)), qd (og 7 rfl gf fun S hg=>x_geq (S.p rfl hg) (S.p rfl hg)), qd (ori rfl rfl rfl), trivial⟩ ?_
 clear S; intro a u S G hE
 obtain ⟨hl2, hu2⟩ : inI64 n := id n_h
 refine ent ?_
 refine cd S rfl ?_ ?_
 ·intro hc0
  refine rs S (la (av rfl)) ?_; clear S; intro a u S
  refine wp_ret (then_r ?_)
  refine ret1 rfl S.s rfl ?_
  refine ⟨0, rfl, ?_, ⟨_, (by omega), (S.k 0 rfl)⟩, S.m.c⟩
  exact ⟨Int.le_refl _, .inr rfl⟩
 intro hc1
 refine wp_skip (then_n ?_)
 refine rs S (tr (mv rfl)<|tr (ov fun S=>x_nilck (S.e rfl))<|tr (fldi 0 1 rfl uT112)<|tr (ldk 0 sC3 rfl rfl rfl)<|tr (addi ((ti + 1 : Nat) : Int) rfl rfl (w_i64 (by omega)))<|tr (ov fun S=>x_nilck (S.e rfl))<|tr (fldi 0 1 rfl uT112)<|la (stk 0 rfl rfl rfl)) ?_; clear S; intro a u S
 refine wp_seq ?_
 obtain ⟨hl5, hu5⟩ : inI64 (T_l.xs.getD (((((ti + 1 : Nat) : Int) - 1)).toNat) intE.dflt) := id (((S.u 0 rfl)).1.wf ((((ti + 1 : Nat) : Int) - 1)).toNat (by omega))
 replace S := S.l [(0, pT T 0), (1, iI n)] (subM rfl)
 refine dr (P := Try.prog) S 14 [] [(26, .is _), (27, .is _), (28, .is _), (29, .is _), (30, .is _), (31, .is _), (32, .is _), (33, .is _), (34, .is _), (35, .is _), (36, .is _), (37, .is _), (38, .is _), (4, .is _)] [[], [26], [27], [28], [], [30], [31], [32], [33], [29, 34], [35], [], [36, 37], [38]] [4] _ ⟨qd (mv rfl), qd (ov fun S=>x_nilck (S.e rfl)), qd (fldi 0 0 rfl uT112), qd (ldk 0 sC22 rfl rfl rfl), qd (mv rfl), qd (ov fun S=>x_nilck (S.e rfl)), qd (fldi 0 1 rfl uT112), qd (ldk 0 sC3 rfl rfl rfl), qd (subi (((ti + 1 : Nat) : Int) - 1) rfl rfl (w_i64 (by omega))), qd (idxi uT22 sZ3 rfl rfl ((((ti + 1 : Nat) : Int) - 1)).toNat (by omega) (by omega) (((S.u 0 rfl)).1.adr (i := ((((ti + 1 : Nat) : Int) - 1)).toNat) (by omega))), qd (ov fun S=>x_load sC3 (S.e rfl) (((S.u 0 rfl)).1.cell ((((ti + 1 : Nat) : Int) - 1)).toNat (by omega) 0 _ rfl)), qd (mv rfl), qd (oc (fun S=>gMod _ _ S.x (.nil _) (T_l.xs.getD (((((ti + 1 : Nat) : Int) - 1)).toNat) intE.dflt) (((S.u 0 rfl)).1.wf ((((ti + 1 : Nat) : Int) - 1)).toNat (by omega)) n n_h (by omega)) cB29), qd (av rfl), trivial⟩ ?_
 clear S; intro a u S G hE
 obtain ⟨hl6, hu6⟩ : inI64 (T_l.xs.getD (((((ti + 1 : Nat) : Int) - 1)).toNat) intE.dflt) := id (((S.u 0 rfl)).1.wf ((((ti + 1 : Nat) : Int) - 1)).toNat (by omega))
 refine ent (wp_ret ?_)
 refine ret1 rfl S.s rfl ?_
 refine ⟨((T_l.xs.getD (((((ti + 1 : Nat) : Int) - 1)).toNat) intE.dflt) % 18446744073709551616 % n), rfl, ?_, ⟨_, (by omega), (S.k 0 rfl)⟩, S.m.c⟩
 have h1 := Int.emod_nonneg (T_l.xs.getD (((ti + 1 : Nat) : Int) - 1).toNat intE.dflt % 18446744073709551616) (b := n) (by omega); have h2 := Int.emod_lt_of_pos (T_l.xs.getD (((ti + 1 : Nat) : Int) - 1).toNat intE.dflt % 18446744073709551616) (b := n) (by omega); exact ⟨h1, .inl h2⟩
set_option maxHeartbeats 2000000 in
set_option maxRecDepth 20000 in
theorem lRecord (w : World) (F : Nat → Prop) (hF : Old F w) (T : Nat) (M : MS [one T] w) (T_l : Sl Int) (T_w : (slE intE).wf (Fr F [one T]) w.heap T_l) (T_K : TpB 112 T T_l w) (n : Int) (n_h : inI64 n) :
 Calls Try.prog 20 #[pT T 0, iI n] w fun e w' => ∃ (r : Rec), e = .returned (.agg (recE.cells r).toArray) ∧ recE.wf (Fr F [one T]) w'.heap r ∧ TpB 112 T T_l w' ∧ Tr [one T] w [one T] w' := by
 obtain ⟨n_hl, n_hu⟩ : inI64 n := id n_h
 refine go Try.func20 rfl 66 rfl [wfF (slE intE) T_l] [tpO 112 T T_l] hF M ⟨T_w, trivial⟩ ⟨T_K, trivial⟩ ?_
 intro a S
 refine rs0 ?_
 refine nbp S (x_allocz _ iZ24 rfl) ?_; clear S; intro a u b4 S
 refine ent (rs0 ?_)
 refine nbs intE S [1, 1, 1, 2, 3, 4] (x_bs S [(0, iI 1), (1, iI 1), (2, iI 1), (3, iI 2), (4, iI 3), (5, iI 4)] uT22 iZ3) (fun x hx => by simp only [List.mem_cons, List.not_mem_nil, or_false] at hx; rcases hx with hx | hx | hx | hx | hx | hx <;> rw [hx] <;> first | exact (show intE.wf _ _ 1 from (show inI64 1 from ⟨by omega, by omega⟩)) | exact (show intE.wf _ _ 2 from (show inI64 2 from ⟨by omega, by omega⟩)) | exact (show intE.wf _ _ 3 from (show inI64 3 from ⟨by omega, by omega⟩)) | exact (show intE.wf _ _ 4 from (show inI64 4 from ⟨by omega, by omega⟩))) ?_; clear S; intro a u b6 S
 refine sp S (la (mv rfl)) ?_; clear S; intro a u S
 refine cl S (gNext _ _ S.x T (S.M.pick [0] (by decide)) T_l (dn1 (js := [0]) (S.u 0 rfl)) (S.t 0 rfl) 6 ⟨by omega, by omega⟩) cB26 ?_
 rintro e u ⟨r_t8, rfl, hr_t8, tK, T0⟩; refine ⟨_, rfl, fun a s => ?_⟩
 replace S := S.k1 0 rfl s T0 tK; clear s T0 tK
 obtain ⟨hl3, hu3⟩ : inI64 (([1, 1, 1, 2, 3, 4]).getD ((r_t8).toNat) intE.dflt) := id ((show LAt intE _ _ (some ⟨b6, 0, none⟩) ([1, 1, 1, 2, 3, 4]) from ((S.u 1 rfl)).1).wf (r_t8).toNat (by first | omega | (simp only [List.length_cons, List.length_nil]; omega)))
 refine sp S (tr (idxi uT22 sZ3 rfl rfl (r_t8).toNat (by omega) (by first | omega | (simp only [List.length_cons, List.length_nil]; omega)) ((show LAt intE _ _ (some ⟨b6, 0, none⟩) ([1, 1, 1, 2, 3, 4]) from ((S.u 1 rfl)).1).adr (i := (r_t8).toNat) (by first | omega | (simp only [List.length_cons, List.length_nil]; omega))))<|tr (ov fun S=>x_load sC3 (S.e rfl) ((show LAt intE _ _ (some ⟨b6, 0, none⟩) ([1, 1, 1, 2, 3, 4]) from ((S.u 1 rfl)).1).cell (r_t8).toNat (by first | omega | (simp only [List.length_cons, List.length_nil]; omega)) 0 _ rfl))<|la (ov fun S=>x_bd S [(0, iI (([1, 1, 1, 2, 3, 4]).getD ((r_t8).toNat) intE.dflt))] [iI (([1, 1, 1, 2, 3, 4]).getD ((r_t8).toNat) intE.dflt), iI 0, iI 0, iI 0])) ?_; clear S; intro a u S
 refine nbp S (x_allocz _ iZ24 rfl) ?_; clear S; intro a u b5 S
 refine ens S (la (stkw 2 rfl rfl rfl)) ?_; clear S; intro a u S
 refine wp_seq ?_
 refine rs S (tr (fldi 0 0 rfl uT24)<|la (ldk 2 sC3 rfl rfl rfl)) ?_; clear S; intro a u S
 refine wp_block ?_
 refine rs S (tr (eqli rfl rfl)<|la (av rfl)) ?_; clear S; intro a u S
 refine cd S rfl ?_ ?_
 ·intro hc0
  refine r0 ?_
  refine sp S (tr (mv rfl)<|la (mv rfl)) ?_; clear S; intro a u S
  refine cl S (gNext _ _ S.x T (S.M.pick [0] (by decide)) T_l (dn1 (js := [0]) (S.u 0 rfl)) (S.t 0 rfl) n n_h) cB26 ?_
  rintro e u ⟨r_t18, rfl, hr_t18, tK, T0⟩; refine ⟨_, rfl, fun a s => ?_⟩
  replace S := S.k1 0 rfl s T0 tK; clear s T0 tK
  refine sp S (la (mv rfl)) ?_; clear S; intro a u S
  refine cl S (gNext _ _ S.x T (S.M.pick [0] (by decide)) T_l (dn1 (js := [0]) (S.u 0 rfl)) (S.t 0 rfl) 2 ⟨by omega, by omega⟩) cB26 ?_
  rintro e u ⟨r_t20, rfl, hr_t20, tK, T0⟩; refine ⟨_, rfl, fun a s => ?_⟩
  replace S := S.k1 0 rfl s T0 tK; clear s T0 tK
  refine sp S (la (mv rfl)) ?_; clear S; intro a u S
  refine cl S (gNext _ _ S.x T (S.M.pick [0] (by decide)) T_l (dn1 (js := [0]) (S.u 0 rfl)) (S.t 0 rfl) 2 ⟨by omega, by omega⟩) cB26 ?_
  rintro e u ⟨r_t22, rfl, hr_t22, tK, T0⟩; refine ⟨_, rfl, fun a s => ?_⟩
  replace S := S.k1 0 rfl s T0 tK; clear s T0 tK
  have hmul : 0 ≤ r_t20 * r_t22 ∧ r_t20 * r_t22 ≤ 1 := by
   rcases (by omega : r_t20 = 0 ∨ r_t20 = 1) with h | h <;> rw [h] <;> omega
  refine sp S (tr (muli (r_t20 * r_t22) rfl rfl (w_i64 (by omega)))<|la (mv rfl)) ?_; clear S; intro a u S
  refine cl S (gNext _ _ S.x T (S.M.pick [0] (by decide)) T_l (dn1 (js := [0]) (S.u 0 rfl)) (S.t 0 rfl) 4 ⟨by omega, by omega⟩) cB26 ?_
  rintro e u ⟨r_t25, rfl, hr_t25, tK, T0⟩; refine ⟨_, rfl, fun a s => ?_⟩
  replace S := S.k1 0 rfl s T0 tK; clear s T0 tK
  refine en S (tr (addi (1 + r_t25) rfl rfl (w_i64 (by omega)))<|tr (fldi 0 1 rfl uT24)<|tr (stk 2 rfl rfl rfl)<|tr (fldi 0 2 rfl uT24)<|tr (stk 2 rfl rfl rfl)<|tr (fldi 0 3 rfl uT24)<|la (stk 2 rfl rfl rfl)) ?_; clear S; intro a u S
  refine blk_n (then_n (wp_seq (rs0 ?_)))
  refine sp S (la (mv rfl)) ?_; clear S; intro a u S
  refine cl S (gNext _ _ S.x T (S.M.pick [0] (by decide)) T_l (dn1 (js := [0]) (S.u 0 rfl)) (S.t 0 rfl) 14 ⟨by omega, by omega⟩) cB26 ?_
  rintro e u ⟨r_t46, rfl, hr_t46, tK, T0⟩; refine ⟨_, rfl, fun a s => ?_⟩
  replace S := S.k1 0 rfl s T0 tK; clear s T0 tK
  refine ent (wp_block ?_)
  refine rs S (tr (eqli rfl rfl)<|la (av rfl)) ?_; clear S; intro a u S
  refine cd S rfl ?_ ?_
  ·intro hc1
   refine r0 ?_
   refine sp S (la (mv rfl)) ?_; clear S; intro a u S
   refine cl S (gNext _ _ S.x T (S.M.pick [0] (by decide)) T_l (dn1 (js := [0]) (S.u 0 rfl)) (S.t 0 rfl) 16 ⟨by omega, by omega⟩) cB26 ?_
   rintro e u ⟨r_t50, rfl, hr_t50, tK, T0⟩; refine ⟨_, rfl, fun a s => ?_⟩
   replace S := S.k1 0 rfl s T0 tK; clear s T0 tK
   refine en S (tr (subi (r_t50 - 2) rfl rfl (w_i64 (by omega)))<|tr (fldi 0 1 rfl uT24)<|la (stk 2 rfl rfl rfl)) ?_; clear S; intro a u S
   refine blk_n (then_n ?_)
   refine rs S (tr (ldkw 2 rfl rfl wD24)<|la (stkw 1 rfl rfl rfl)) ?_; clear S; intro a u S
   refine wp_ret ?_
   refine retcw rfl S.s rfl [iI (([1, 1, 1, 2, 3, 4]).getD ((r_t8).toNat) intE.dflt), iI (r_t50 - 2), iI (r_t20 * r_t22), iI (1 + r_t25)] wD24 (fun j v hv => by rw [Nat.zero_add]; exact (S.k 1 rfl).cell hv) ?_
   replace S := S.pk [0] (os' := [tpO 112 T T_l])
   refine ⟨(⟨(([1, 1, 1, 2, 3, 4]).getD ((r_t8).toNat) intE.dflt), (r_t50 - 2), (r_t20 * r_t22), (1 + r_t25)⟩ : Rec), rfl, ⟨((show LAt intE _ _ (some ⟨b6, 0, none⟩) ([1, 1, 1, 2, 3, 4]) from ((S.u 1 rfl)).1).wf (r_t8).toNat (by first | omega | (simp only [List.length_cons, List.length_nil]; omega))), (show inI64 (r_t50 - 2) from ⟨by omega, by omega⟩), (show inI64 (r_t20 * r_t22) from ⟨by omega, by omega⟩), (show inI64 (1 + r_t25) from ⟨by omega, by omega⟩)⟩, (S.t 0 rfl), S.m.c⟩
  intro hc2
  refine rs S (tr (eqli rfl rfl)<|la (av rfl)) ?_; clear S; intro a u S
  refine cd S rfl ?_ ?_
  ·intro hc3
   refine r0 ?_
   refine sp S (la (mv rfl)) ?_; clear S; intro a u S
   refine cl S (gNext _ _ S.x T (S.M.pick [0] (by decide)) T_l (dn1 (js := [0]) (S.u 0 rfl)) (S.t 0 rfl) 8 ⟨by omega, by omega⟩) cB26 ?_
   rintro e u ⟨r_t56, rfl, hr_t56, tK, T0⟩; refine ⟨_, rfl, fun a s => ?_⟩
   replace S := S.k1 0 rfl s T0 tK; clear s T0 tK
   refine en S (tr (subi (r_t56 - 1) rfl rfl (w_i64 (by omega)))<|tr (fldi 0 0 rfl uT24)<|la (stk 2 rfl rfl rfl)) ?_; clear S; intro a u S
   refine blk_n (then_n ?_)
   refine rs S (tr (ldkw 2 rfl rfl wD24)<|la (stkw 1 rfl rfl rfl)) ?_; clear S; intro a u S
   refine wp_ret ?_
   refine retcw rfl S.s rfl [iI (r_t56 - 1), iI r_t18, iI (r_t20 * r_t22), iI (1 + r_t25)] wD24 (fun j v hv => by rw [Nat.zero_add]; exact (S.k 1 rfl).cell hv) ?_
   replace S := S.pk [0] (os' := [tpO 112 T T_l])
   refine ⟨(⟨(r_t56 - 1), r_t18, (r_t20 * r_t22), (1 + r_t25)⟩ : Rec), rfl, ⟨(show inI64 (r_t56 - 1) from ⟨by omega, by omega⟩), (show inI64 r_t18 from ⟨by omega, by omega⟩), (show inI64 (r_t20 * r_t22) from ⟨by omega, by omega⟩), (show inI64 (1 + r_t25) from ⟨by omega, by omega⟩)⟩, (S.t 0 rfl), S.m.c⟩
  intro hc4
  refine rs S (tr (eqli rfl rfl)<|la (av rfl)) ?_; clear S; intro a u S
  refine cd S rfl ?_ ?_
  ·intro hc5
   refine r0 ?_
   refine sp S (la (mv rfl)) ?_; clear S; intro a u S
   refine cl S (gNext _ _ S.x T (S.M.pick [0] (by decide)) T_l (dn1 (js := [0]) (S.u 0 rfl)) (S.t 0 rfl) 2 ⟨by omega, by omega⟩) cB26 ?_
   rintro e u ⟨r_t62, rfl, hr_t62, tK, T0⟩; refine ⟨_, rfl, fun a s => ?_⟩
   replace S := S.k1 0 rfl s T0 tK; clear s T0 tK
   refine en S (tr (subi (2147483648 - r_t62) rfl rfl (w_i64 (by omega)))<|tr (fldi 0 2 rfl uT24)<|la (stk 2 rfl rfl rfl)) ?_; clear S; intro a u S
   refine blk_n (then_n ?_)
   refine rs S (tr (ldkw 2 rfl rfl wD24)<|la (stkw 1 rfl rfl rfl)) ?_; clear S; intro a u S
   refine wp_ret ?_
   refine retcw rfl S.s rfl [iI (([1, 1, 1, 2, 3, 4]).getD ((r_t8).toNat) intE.dflt), iI r_t18, iI (2147483648 - r_t62), iI (1 + r_t25)] wD24 (fun j v hv => by rw [Nat.zero_add]; exact (S.k 1 rfl).cell hv) ?_
   replace S := S.pk [0] (os' := [tpO 112 T T_l])
   refine ⟨(⟨(([1, 1, 1, 2, 3, 4]).getD ((r_t8).toNat) intE.dflt), r_t18, (2147483648 - r_t62), (1 + r_t25)⟩ : Rec), rfl, ⟨((show LAt intE _ _ (some ⟨b6, 0, none⟩) ([1, 1, 1, 2, 3, 4]) from ((S.u 1 rfl)).1).wf (r_t8).toNat (by first | omega | (simp only [List.length_cons, List.length_nil]; omega))), (show inI64 r_t18 from ⟨by omega, by omega⟩), (show inI64 (2147483648 - r_t62) from ⟨by omega, by omega⟩), (show inI64 (1 + r_t25) from ⟨by omega, by omega⟩)⟩, (S.t 0 rfl), S.m.c⟩
  intro hc6
  refine wp_skip (blk_n (then_n ?_))
  refine rs S (tr (ldkw 2 rfl rfl wD24)<|la (stkw 1 rfl rfl rfl)) ?_; clear S; intro a u S
  refine wp_ret ?_
  refine retcw rfl S.s rfl [iI (([1, 1, 1, 2, 3, 4]).getD ((r_t8).toNat) intE.dflt), iI r_t18, iI (r_t20 * r_t22), iI (1 + r_t25)] wD24 (fun j v hv => by rw [Nat.zero_add]; exact (S.k 1 rfl).cell hv) ?_
  replace S := S.pk [0] (os' := [tpO 112 T T_l])
  refine ⟨(⟨(([1, 1, 1, 2, 3, 4]).getD ((r_t8).toNat) intE.dflt), r_t18, (r_t20 * r_t22), (1 + r_t25)⟩ : Rec), rfl, ⟨((show LAt intE _ _ (some ⟨b6, 0, none⟩) ([1, 1, 1, 2, 3, 4]) from ((S.u 1 rfl)).1).wf (r_t8).toNat (by first | omega | (simp only [List.length_cons, List.length_nil]; omega))), (show inI64 r_t18 from ⟨by omega, by omega⟩), (show inI64 (r_t20 * r_t22) from ⟨by omega, by omega⟩), (show inI64 (1 + r_t25) from ⟨by omega, by omega⟩)⟩, (S.t 0 rfl), S.m.c⟩
 intro hc7
 refine rs S (tr (eqli rfl rfl)<|la (av rfl)) ?_; clear S; intro a u S
 refine cd S rfl ?_ ?_
 ·intro hc8
  refine r0 ?_
  refine sp S (tr (mv rfl)<|la (mv rfl)) ?_; clear S; intro a u S
  refine cl S (gNext _ _ S.x T (S.M.pick [0] (by decide)) T_l (dn1 (js := [0]) (S.u 0 rfl)) (S.t 0 rfl) n n_h) cB26 ?_
  rintro e u ⟨r_t34, rfl, hr_t34, tK, T0⟩; refine ⟨_, rfl, fun a s => ?_⟩
  replace S := S.k1 0 rfl s T0 tK; clear s T0 tK
  refine sp S (la (mv rfl)) ?_; clear S; intro a u S
  refine cl S (gNext _ _ S.x T (S.M.pick [0] (by decide)) T_l (dn1 (js := [0]) (S.u 0 rfl)) (S.t 0 rfl) 3 ⟨by omega, by omega⟩) cB26 ?_
  rintro e u ⟨r_t36, rfl, hr_t36, tK, T0⟩; refine ⟨_, rfl, fun a s => ?_⟩
  replace S := S.k1 0 rfl s T0 tK; clear s T0 tK
  refine en S (tr (fldi 0 1 rfl uT24)<|tr (stk 2 rfl rfl rfl)<|tr (fldi 0 2 rfl uT24)<|la (stk 2 rfl rfl rfl)) ?_; clear S; intro a u S
  refine blk_n (then_n (wp_seq (rs0 ?_)))
  refine sp S (la (mv rfl)) ?_; clear S; intro a u S
  refine cl S (gNext _ _ S.x T (S.M.pick [0] (by decide)) T_l (dn1 (js := [0]) (S.u 0 rfl)) (S.t 0 rfl) 14 ⟨by omega, by omega⟩) cB26 ?_
  rintro e u ⟨r_t46, rfl, hr_t46, tK, T0⟩; refine ⟨_, rfl, fun a s => ?_⟩
  replace S := S.k1 0 rfl s T0 tK; clear s T0 tK
  refine ent (wp_block ?_)
  refine rs S (tr (eqli rfl rfl)<|la (av rfl)) ?_; clear S; intro a u S
  refine cd S rfl ?_ ?_
  ·intro hc9
   refine r0 ?_
   refine sp S (la (mv rfl)) ?_; clear S; intro a u S
   refine cl S (gNext _ _ S.x T (S.M.pick [0] (by decide)) T_l (dn1 (js := [0]) (S.u 0 rfl)) (S.t 0 rfl) 16 ⟨by omega, by omega⟩) cB26 ?_
   rintro e u ⟨r_t50, rfl, hr_t50, tK, T0⟩; refine ⟨_, rfl, fun a s => ?_⟩
   replace S := S.k1 0 rfl s T0 tK; clear s T0 tK
   refine en S (tr (subi (r_t50 - 2) rfl rfl (w_i64 (by omega)))<|tr (fldi 0 1 rfl uT24)<|la (stk 2 rfl rfl rfl)) ?_; clear S; intro a u S
   refine blk_n (then_n ?_)
   refine rs S (tr (ldkw 2 rfl rfl wD24)<|la (stkw 1 rfl rfl rfl)) ?_; clear S; intro a u S
   refine wp_ret ?_
   refine retcw rfl S.s rfl [iI (([1, 1, 1, 2, 3, 4]).getD ((r_t8).toNat) intE.dflt), iI (r_t50 - 2), iI r_t36, iI 0] wD24 (fun j v hv => by rw [Nat.zero_add]; exact (S.k 1 rfl).cell hv) ?_
   replace S := S.pk [0] (os' := [tpO 112 T T_l])
   refine ⟨(⟨(([1, 1, 1, 2, 3, 4]).getD ((r_t8).toNat) intE.dflt), (r_t50 - 2), r_t36, 0⟩ : Rec), rfl, ⟨((show LAt intE _ _ (some ⟨b6, 0, none⟩) ([1, 1, 1, 2, 3, 4]) from ((S.u 1 rfl)).1).wf (r_t8).toNat (by first | omega | (simp only [List.length_cons, List.length_nil]; omega))), (show inI64 (r_t50 - 2) from ⟨by omega, by omega⟩), (show inI64 r_t36 from ⟨by omega, by omega⟩), (show inI64 0 from ⟨by omega, by omega⟩)⟩, (S.t 0 rfl), S.m.c⟩
  intro hc10
  refine rs S (tr (eqli rfl rfl)<|la (av rfl)) ?_; clear S; intro a u S
  refine cd S rfl ?_ ?_
  ·intro hc11
   refine r0 ?_
   refine sp S (la (mv rfl)) ?_; clear S; intro a u S
   refine cl S (gNext _ _ S.x T (S.M.pick [0] (by decide)) T_l (dn1 (js := [0]) (S.u 0 rfl)) (S.t 0 rfl) 8 ⟨by omega, by omega⟩) cB26 ?_
   rintro e u ⟨r_t56, rfl, hr_t56, tK, T0⟩; refine ⟨_, rfl, fun a s => ?_⟩
   replace S := S.k1 0 rfl s T0 tK; clear s T0 tK
   refine en S (tr (subi (r_t56 - 1) rfl rfl (w_i64 (by omega)))<|tr (fldi 0 0 rfl uT24)<|la (stk 2 rfl rfl rfl)) ?_; clear S; intro a u S
   refine blk_n (then_n ?_)
   refine rs S (tr (ldkw 2 rfl rfl wD24)<|la (stkw 1 rfl rfl rfl)) ?_; clear S; intro a u S
   refine wp_ret ?_
   refine retcw rfl S.s rfl [iI (r_t56 - 1), iI r_t34, iI r_t36, iI 0] wD24 (fun j v hv => by rw [Nat.zero_add]; exact (S.k 1 rfl).cell hv) ?_
   replace S := S.pk [0] (os' := [tpO 112 T T_l])
   refine ⟨(⟨(r_t56 - 1), r_t34, r_t36, 0⟩ : Rec), rfl, ⟨(show inI64 (r_t56 - 1) from ⟨by omega, by omega⟩), (show inI64 r_t34 from ⟨by omega, by omega⟩), (show inI64 r_t36 from ⟨by omega, by omega⟩), (show inI64 0 from ⟨by omega, by omega⟩)⟩, (S.t 0 rfl), S.m.c⟩
  intro hc12
  refine rs S (tr (eqli rfl rfl)<|la (av rfl)) ?_; clear S; intro a u S
  refine cd S rfl ?_ ?_
  ·intro hc13
   refine r0 ?_
   refine sp S (la (mv rfl)) ?_; clear S; intro a u S
   refine cl S (gNext _ _ S.x T (S.M.pick [0] (by decide)) T_l (dn1 (js := [0]) (S.u 0 rfl)) (S.t 0 rfl) 2 ⟨by omega, by omega⟩) cB26 ?_
   rintro e u ⟨r_t62, rfl, hr_t62, tK, T0⟩; refine ⟨_, rfl, fun a s => ?_⟩
   replace S := S.k1 0 rfl s T0 tK; clear s T0 tK
   refine en S (tr (subi (2147483648 - r_t62) rfl rfl (w_i64 (by omega)))<|tr (fldi 0 2 rfl uT24)<|la (stk 2 rfl rfl rfl)) ?_; clear S; intro a u S
   refine blk_n (then_n ?_)
   refine rs S (tr (ldkw 2 rfl rfl wD24)<|la (stkw 1 rfl rfl rfl)) ?_; clear S; intro a u S
   refine wp_ret ?_
   refine retcw rfl S.s rfl [iI (([1, 1, 1, 2, 3, 4]).getD ((r_t8).toNat) intE.dflt), iI r_t34, iI (2147483648 - r_t62), iI 0] wD24 (fun j v hv => by rw [Nat.zero_add]; exact (S.k 1 rfl).cell hv) ?_
   replace S := S.pk [0] (os' := [tpO 112 T T_l])
   refine ⟨(⟨(([1, 1, 1, 2, 3, 4]).getD ((r_t8).toNat) intE.dflt), r_t34, (2147483648 - r_t62), 0⟩ : Rec), rfl, ⟨((show LAt intE _ _ (some ⟨b6, 0, none⟩) ([1, 1, 1, 2, 3, 4]) from ((S.u 1 rfl)).1).wf (r_t8).toNat (by first | omega | (simp only [List.length_cons, List.length_nil]; omega))), (show inI64 r_t34 from ⟨by omega, by omega⟩), (show inI64 (2147483648 - r_t62) from ⟨by omega, by omega⟩), (show inI64 0 from ⟨by omega, by omega⟩)⟩, (S.t 0 rfl), S.m.c⟩
  intro hc14
  refine wp_skip (blk_n (then_n ?_))
  refine rs S (tr (ldkw 2 rfl rfl wD24)<|la (stkw 1 rfl rfl rfl)) ?_; clear S; intro a u S
  refine wp_ret ?_
  refine retcw rfl S.s rfl [iI (([1, 1, 1, 2, 3, 4]).getD ((r_t8).toNat) intE.dflt), iI r_t34, iI r_t36, iI 0] wD24 (fun j v hv => by rw [Nat.zero_add]; exact (S.k 1 rfl).cell hv) ?_
  replace S := S.pk [0] (os' := [tpO 112 T T_l])
  refine ⟨(⟨(([1, 1, 1, 2, 3, 4]).getD ((r_t8).toNat) intE.dflt), r_t34, r_t36, 0⟩ : Rec), rfl, ⟨((show LAt intE _ _ (some ⟨b6, 0, none⟩) ([1, 1, 1, 2, 3, 4]) from ((S.u 1 rfl)).1).wf (r_t8).toNat (by first | omega | (simp only [List.length_cons, List.length_nil]; omega))), (show inI64 r_t34 from ⟨by omega, by omega⟩), (show inI64 r_t36 from ⟨by omega, by omega⟩), (show inI64 0 from ⟨by omega, by omega⟩)⟩, (S.t 0 rfl), S.m.c⟩
 intro hc15
 refine rs S (tr (eqli rfl rfl)<|la (av rfl)) ?_; clear S; intro a u S
 refine cd S rfl ?_ ?_
 ·intro hc16
  refine r0 ?_
  refine sp S (tr (mv rfl)<|la (mv rfl)) ?_; clear S; intro a u S
  refine cl S (gNext _ _ S.x T (S.M.pick [0] (by decide)) T_l (dn1 (js := [0]) (S.u 0 rfl)) (S.t 0 rfl) n n_h) cB26 ?_
  rintro e u ⟨r_t43, rfl, hr_t43, tK, T0⟩; refine ⟨_, rfl, fun a s => ?_⟩
  replace S := S.k1 0 rfl s T0 tK; clear s T0 tK
  refine en S (tr (fldi 0 1 rfl uT24)<|la (stk 2 rfl rfl rfl)) ?_; clear S; intro a u S
  refine blk_n (then_n (wp_seq (rs0 ?_)))
  refine sp S (la (mv rfl)) ?_; clear S; intro a u S
  refine cl S (gNext _ _ S.x T (S.M.pick [0] (by decide)) T_l (dn1 (js := [0]) (S.u 0 rfl)) (S.t 0 rfl) 14 ⟨by omega, by omega⟩) cB26 ?_
  rintro e u ⟨r_t46, rfl, hr_t46, tK, T0⟩; refine ⟨_, rfl, fun a s => ?_⟩
  replace S := S.k1 0 rfl s T0 tK; clear s T0 tK
  refine ent (wp_block ?_)
  refine rs S (tr (eqli rfl rfl)<|la (av rfl)) ?_; clear S; intro a u S
  refine cd S rfl ?_ ?_
  ·intro hc17
   refine r0 ?_
   refine sp S (la (mv rfl)) ?_; clear S; intro a u S
   refine cl S (gNext _ _ S.x T (S.M.pick [0] (by decide)) T_l (dn1 (js := [0]) (S.u 0 rfl)) (S.t 0 rfl) 16 ⟨by omega, by omega⟩) cB26 ?_
   rintro e u ⟨r_t50, rfl, hr_t50, tK, T0⟩; refine ⟨_, rfl, fun a s => ?_⟩
   replace S := S.k1 0 rfl s T0 tK; clear s T0 tK
   refine en S (tr (subi (r_t50 - 2) rfl rfl (w_i64 (by omega)))<|tr (fldi 0 1 rfl uT24)<|la (stk 2 rfl rfl rfl)) ?_; clear S; intro a u S
   refine blk_n (then_n ?_)
   refine rs S (tr (ldkw 2 rfl rfl wD24)<|la (stkw 1 rfl rfl rfl)) ?_; clear S; intro a u S
   refine wp_ret ?_
   refine retcw rfl S.s rfl [iI (([1, 1, 1, 2, 3, 4]).getD ((r_t8).toNat) intE.dflt), iI (r_t50 - 2), iI 0, iI 0] wD24 (fun j v hv => by rw [Nat.zero_add]; exact (S.k 1 rfl).cell hv) ?_
   replace S := S.pk [0] (os' := [tpO 112 T T_l])
   refine ⟨(⟨(([1, 1, 1, 2, 3, 4]).getD ((r_t8).toNat) intE.dflt), (r_t50 - 2), 0, 0⟩ : Rec), rfl, ⟨((show LAt intE _ _ (some ⟨b6, 0, none⟩) ([1, 1, 1, 2, 3, 4]) from ((S.u 1 rfl)).1).wf (r_t8).toNat (by first | omega | (simp only [List.length_cons, List.length_nil]; omega))), (show inI64 (r_t50 - 2) from ⟨by omega, by omega⟩), (show inI64 0 from ⟨by omega, by omega⟩), (show inI64 0 from ⟨by omega, by omega⟩)⟩, (S.t 0 rfl), S.m.c⟩
  intro hc18
  refine rs S (tr (eqli rfl rfl)<|la (av rfl)) ?_; clear S; intro a u S
  refine cd S rfl ?_ ?_
  ·intro hc19
   refine r0 ?_
   refine sp S (la (mv rfl)) ?_; clear S; intro a u S
   refine cl S (gNext _ _ S.x T (S.M.pick [0] (by decide)) T_l (dn1 (js := [0]) (S.u 0 rfl)) (S.t 0 rfl) 8 ⟨by omega, by omega⟩) cB26 ?_
   rintro e u ⟨r_t56, rfl, hr_t56, tK, T0⟩; refine ⟨_, rfl, fun a s => ?_⟩
   replace S := S.k1 0 rfl s T0 tK; clear s T0 tK
   refine en S (tr (subi (r_t56 - 1) rfl rfl (w_i64 (by omega)))<|tr (fldi 0 0 rfl uT24)<|la (stk 2 rfl rfl rfl)) ?_; clear S; intro a u S
   refine blk_n (then_n ?_)
   refine rs S (tr (ldkw 2 rfl rfl wD24)<|la (stkw 1 rfl rfl rfl)) ?_; clear S; intro a u S
   refine wp_ret ?_
   refine retcw rfl S.s rfl [iI (r_t56 - 1), iI r_t43, iI 0, iI 0] wD24 (fun j v hv => by rw [Nat.zero_add]; exact (S.k 1 rfl).cell hv) ?_
   replace S := S.pk [0] (os' := [tpO 112 T T_l])
   refine ⟨(⟨(r_t56 - 1), r_t43, 0, 0⟩ : Rec), rfl, ⟨(show inI64 (r_t56 - 1) from ⟨by omega, by omega⟩), (show inI64 r_t43 from ⟨by omega, by omega⟩), (show inI64 0 from ⟨by omega, by omega⟩), (show inI64 0 from ⟨by omega, by omega⟩)⟩, (S.t 0 rfl), S.m.c⟩
  intro hc20
  refine rs S (tr (eqli rfl rfl)<|la (av rfl)) ?_; clear S; intro a u S
  refine cd S rfl ?_ ?_
  ·intro hc21
   refine r0 ?_
   refine sp S (la (mv rfl)) ?_; clear S; intro a u S
   refine cl S (gNext _ _ S.x T (S.M.pick [0] (by decide)) T_l (dn1 (js := [0]) (S.u 0 rfl)) (S.t 0 rfl) 2 ⟨by omega, by omega⟩) cB26 ?_
   rintro e u ⟨r_t62, rfl, hr_t62, tK, T0⟩; refine ⟨_, rfl, fun a s => ?_⟩
   replace S := S.k1 0 rfl s T0 tK; clear s T0 tK
   refine en S (tr (subi (2147483648 - r_t62) rfl rfl (w_i64 (by omega)))<|tr (fldi 0 2 rfl uT24)<|la (stk 2 rfl rfl rfl)) ?_; clear S; intro a u S
   refine blk_n (then_n ?_)
   refine rs S (tr (ldkw 2 rfl rfl wD24)<|la (stkw 1 rfl rfl rfl)) ?_; clear S; intro a u S
   refine wp_ret ?_
   refine retcw rfl S.s rfl [iI (([1, 1, 1, 2, 3, 4]).getD ((r_t8).toNat) intE.dflt), iI r_t43, iI (2147483648 - r_t62), iI 0] wD24 (fun j v hv => by rw [Nat.zero_add]; exact (S.k 1 rfl).cell hv) ?_
   replace S := S.pk [0] (os' := [tpO 112 T T_l])
   refine ⟨(⟨(([1, 1, 1, 2, 3, 4]).getD ((r_t8).toNat) intE.dflt), r_t43, (2147483648 - r_t62), 0⟩ : Rec), rfl, ⟨((show LAt intE _ _ (some ⟨b6, 0, none⟩) ([1, 1, 1, 2, 3, 4]) from ((S.u 1 rfl)).1).wf (r_t8).toNat (by first | omega | (simp only [List.length_cons, List.length_nil]; omega))), (show inI64 r_t43 from ⟨by omega, by omega⟩), (show inI64 (2147483648 - r_t62) from ⟨by omega, by omega⟩), (show inI64 0 from ⟨by omega, by omega⟩)⟩, (S.t 0 rfl), S.m.c⟩
  intro hc22
  refine wp_skip (blk_n (then_n ?_))
  refine rs S (tr (ldkw 2 rfl rfl wD24)<|la (stkw 1 rfl rfl rfl)) ?_; clear S; intro a u S
  refine wp_ret ?_
  refine retcw rfl S.s rfl [iI (([1, 1, 1, 2, 3, 4]).getD ((r_t8).toNat) intE.dflt), iI r_t43, iI 0, iI 0] wD24 (fun j v hv => by rw [Nat.zero_add]; exact (S.k 1 rfl).cell hv) ?_
  replace S := S.pk [0] (os' := [tpO 112 T T_l])
  refine ⟨(⟨(([1, 1, 1, 2, 3, 4]).getD ((r_t8).toNat) intE.dflt), r_t43, 0, 0⟩ : Rec), rfl, ⟨((show LAt intE _ _ (some ⟨b6, 0, none⟩) ([1, 1, 1, 2, 3, 4]) from ((S.u 1 rfl)).1).wf (r_t8).toNat (by first | omega | (simp only [List.length_cons, List.length_nil]; omega))), (show inI64 r_t43 from ⟨by omega, by omega⟩), (show inI64 0 from ⟨by omega, by omega⟩), (show inI64 0 from ⟨by omega, by omega⟩)⟩, (S.t 0 rfl), S.m.c⟩
 intro hc23
 refine wp_skip (blk_n (then_n (wp_seq (rs0 ?_))))
 refine sp S (la (mv rfl)) ?_; clear S; intro a u S
 refine cl S (gNext _ _ S.x T (S.M.pick [0] (by decide)) T_l (dn1 (js := [0]) (S.u 0 rfl)) (S.t 0 rfl) 14 ⟨by omega, by omega⟩) cB26 ?_
 rintro e u ⟨r_t46, rfl, hr_t46, tK, T0⟩; refine ⟨_, rfl, fun a s => ?_⟩
 replace S := S.k1 0 rfl s T0 tK; clear s T0 tK
 refine ent (wp_block ?_)
 refine rs S (tr (eqli rfl rfl)<|la (av rfl)) ?_; clear S; intro a u S
 refine cd S rfl ?_ ?_
 ·intro hc24
  refine r0 ?_
  refine sp S (la (mv rfl)) ?_; clear S; intro a u S
  refine cl S (gNext _ _ S.x T (S.M.pick [0] (by decide)) T_l (dn1 (js := [0]) (S.u 0 rfl)) (S.t 0 rfl) 16 ⟨by omega, by omega⟩) cB26 ?_
  rintro e u ⟨r_t50, rfl, hr_t50, tK, T0⟩; refine ⟨_, rfl, fun a s => ?_⟩
  replace S := S.k1 0 rfl s T0 tK; clear s T0 tK
  refine en S (tr (subi (r_t50 - 2) rfl rfl (w_i64 (by omega)))<|tr (fldi 0 1 rfl uT24)<|la (stk 2 rfl rfl rfl)) ?_; clear S; intro a u S
  refine blk_n (then_n ?_)
  refine rs S (tr (ldkw 2 rfl rfl wD24)<|la (stkw 1 rfl rfl rfl)) ?_; clear S; intro a u S
  refine wp_ret ?_
  refine retcw rfl S.s rfl [iI (([1, 1, 1, 2, 3, 4]).getD ((r_t8).toNat) intE.dflt), iI (r_t50 - 2), iI 0, iI 0] wD24 (fun j v hv => by rw [Nat.zero_add]; exact (S.k 1 rfl).cell hv) ?_
  replace S := S.pk [0] (os' := [tpO 112 T T_l])
  refine ⟨(⟨(([1, 1, 1, 2, 3, 4]).getD ((r_t8).toNat) intE.dflt), (r_t50 - 2), 0, 0⟩ : Rec), rfl, ⟨((show LAt intE _ _ (some ⟨b6, 0, none⟩) ([1, 1, 1, 2, 3, 4]) from ((S.u 1 rfl)).1).wf (r_t8).toNat (by first | omega | (simp only [List.length_cons, List.length_nil]; omega))), (show inI64 (r_t50 - 2) from ⟨by omega, by omega⟩), (show inI64 0 from ⟨by omega, by omega⟩), (show inI64 0 from ⟨by omega, by omega⟩)⟩, (S.t 0 rfl), S.m.c⟩
 intro hc25
 refine rs S (tr (eqli rfl rfl)<|la (av rfl)) ?_; clear S; intro a u S
 refine cd S rfl ?_ ?_
 ·intro hc26
  refine r0 ?_
  refine sp S (la (mv rfl)) ?_; clear S; intro a u S
  refine cl S (gNext _ _ S.x T (S.M.pick [0] (by decide)) T_l (dn1 (js := [0]) (S.u 0 rfl)) (S.t 0 rfl) 8 ⟨by omega, by omega⟩) cB26 ?_
  rintro e u ⟨r_t56, rfl, hr_t56, tK, T0⟩; refine ⟨_, rfl, fun a s => ?_⟩
  replace S := S.k1 0 rfl s T0 tK; clear s T0 tK
  refine en S (tr (subi (r_t56 - 1) rfl rfl (w_i64 (by omega)))<|tr (fldi 0 0 rfl uT24)<|la (stk 2 rfl rfl rfl)) ?_; clear S; intro a u S
  refine blk_n (then_n ?_)
  refine rs S (tr (ldkw 2 rfl rfl wD24)<|la (stkw 1 rfl rfl rfl)) ?_; clear S; intro a u S
  refine wp_ret ?_
  refine retcw rfl S.s rfl [iI (r_t56 - 1), iI 0, iI 0, iI 0] wD24 (fun j v hv => by rw [Nat.zero_add]; exact (S.k 1 rfl).cell hv) ?_
  replace S := S.pk [0] (os' := [tpO 112 T T_l])
  refine ⟨(⟨(r_t56 - 1), 0, 0, 0⟩ : Rec), rfl, ⟨(show inI64 (r_t56 - 1) from ⟨by omega, by omega⟩), (show inI64 0 from ⟨by omega, by omega⟩), (show inI64 0 from ⟨by omega, by omega⟩), (show inI64 0 from ⟨by omega, by omega⟩)⟩, (S.t 0 rfl), S.m.c⟩
 intro hc27
 refine rs S (tr (eqli rfl rfl)<|la (av rfl)) ?_; clear S; intro a u S
 refine cd S rfl ?_ ?_
 ·intro hc28
  refine r0 ?_
  refine sp S (la (mv rfl)) ?_; clear S; intro a u S
  refine cl S (gNext _ _ S.x T (S.M.pick [0] (by decide)) T_l (dn1 (js := [0]) (S.u 0 rfl)) (S.t 0 rfl) 2 ⟨by omega, by omega⟩) cB26 ?_
  rintro e u ⟨r_t62, rfl, hr_t62, tK, T0⟩; refine ⟨_, rfl, fun a s => ?_⟩
  replace S := S.k1 0 rfl s T0 tK; clear s T0 tK
  refine en S (tr (subi (2147483648 - r_t62) rfl rfl (w_i64 (by omega)))<|tr (fldi 0 2 rfl uT24)<|la (stk 2 rfl rfl rfl)) ?_; clear S; intro a u S
  refine blk_n (then_n ?_)
  refine rs S (tr (ldkw 2 rfl rfl wD24)<|la (stkw 1 rfl rfl rfl)) ?_; clear S; intro a u S
  refine wp_ret ?_
  refine retcw rfl S.s rfl [iI (([1, 1, 1, 2, 3, 4]).getD ((r_t8).toNat) intE.dflt), iI 0, iI (2147483648 - r_t62), iI 0] wD24 (fun j v hv => by rw [Nat.zero_add]; exact (S.k 1 rfl).cell hv) ?_
  replace S := S.pk [0] (os' := [tpO 112 T T_l])
  refine ⟨(⟨(([1, 1, 1, 2, 3, 4]).getD ((r_t8).toNat) intE.dflt), 0, (2147483648 - r_t62), 0⟩ : Rec), rfl, ⟨((show LAt intE _ _ (some ⟨b6, 0, none⟩) ([1, 1, 1, 2, 3, 4]) from ((S.u 1 rfl)).1).wf (r_t8).toNat (by first | omega | (simp only [List.length_cons, List.length_nil]; omega))), (show inI64 0 from ⟨by omega, by omega⟩), (show inI64 (2147483648 - r_t62) from ⟨by omega, by omega⟩), (show inI64 0 from ⟨by omega, by omega⟩)⟩, (S.t 0 rfl), S.m.c⟩
 intro hc29
 refine wp_skip (blk_n (then_n ?_))
 refine rs S (tr (ldkw 2 rfl rfl wD24)<|la (stkw 1 rfl rfl rfl)) ?_; clear S; intro a u S
 refine wp_ret ?_
 refine retcw rfl S.s rfl [iI (([1, 1, 1, 2, 3, 4]).getD ((r_t8).toNat) intE.dflt), iI 0, iI 0, iI 0] wD24 (fun j v hv => by rw [Nat.zero_add]; exact (S.k 1 rfl).cell hv) ?_
 replace S := S.pk [0] (os' := [tpO 112 T T_l])
 refine ⟨(⟨(([1, 1, 1, 2, 3, 4]).getD ((r_t8).toNat) intE.dflt), 0, 0, 0⟩ : Rec), rfl, ⟨((show LAt intE _ _ (some ⟨b6, 0, none⟩) ([1, 1, 1, 2, 3, 4]) from ((S.u 1 rfl)).1).wf (r_t8).toNat (by first | omega | (simp only [List.length_cons, List.length_nil]; omega))), (show inI64 0 from ⟨by omega, by omega⟩), (show inI64 0 from ⟨by omega, by omega⟩), (show inI64 0 from ⟨by omega, by omega⟩)⟩, (S.t 0 rfl), S.m.c⟩
end Go.Proofs.Ytobggnpnochnnaa.V
set_option linter.unusedVariables false
set_option linter.unusedSimpArgs false
namespace Go.Proofs.Ytobggnpnochnnaa.V
open Go.RowKit
/-- what the generator makes: the first states are those of the rounds so far -/
def PlnI (st : Bool) (n : Int) (R : List (List Chg)) (now : List Int) : Prop := (now.length = n.toNat ∧ ∀ k, 0 ≤ now.getD k 0 ∧ now.getD k 0 ≤ 3) ∧ ∃ acc, ∀ rs, stsA st n [zerosP n] (zerosP n) (R ++ rs) = stsA st n acc now rs
def RndI (st : Bool) (n : Int) (now : List Int) (l : List Chg) (last : Int) (cur : List Int) : Prop := (cur.length = n.toNat ∧ ∀ k, 0 ≤ cur.getD k 0 ∧ cur.getD k 0 ≤ 3) ∧ ∀ rest, rndP st n (-1) now (l ++ rest) = rndP st n last cur rest
theorem zerosP_le (n : Int) (k : Nat) : 0 ≤ (zerosP n).getD k 0 ∧ (zerosP n).getD k 0 ≤ 3 := by
  unfold zerosP
  rw [List.getD_eq_getElem?_getD, List.getElem?_replicate]
  split <;> decide
theorem PlnI.init (st : Bool) (n : Int) : PlnI st n [] (zerosP n) := ⟨⟨by simp [zerosP], zerosP_le n⟩, _, fun _ => rfl⟩
theorem RndI.init {st : Bool} {n : Int} {now : List Int} {R : List (List Chg)} (h : PlnI st n R now) : RndI st n now [] (-1) now := ⟨h.1, fun _ => rfl⟩
theorem getD_set_le {l : List Int} {d k : Nat} {v : Int} (h : ∀ k, 0 ≤ l.getD k 0 ∧ l.getD k 0 ≤ 3) (h0 : 0 ≤ v) (hv : v ≤ 3) : 0 ≤ (l.set d v).getD k 0 ∧ (l.set d v).getD k 0 ≤ 3 := by
  have := h k
  rw [List.getD_eq_getElem?_getD] at this ⊢
  rw [List.getElem?_set]
  split
  · split <;> simp [h0, hv]
  · exact this
theorem RndI.step {st : Bool} {n last d v : Int} {now cur : List Int} {l : List Chg} (h : RndI st n now l last cur) (hl : -1 ≤ last) (h1 : last < d) (h2 : d < n) (h3 : cur.getD d.toNat 0 < v) (h4 : v ≤ 3) (h5 : ¬ st = true → v = 3) : RndI st n now (l ++ [⟨d, v⟩]) d (cur.set d.toNat v) :=
  ⟨⟨by rw [List.length_set]; exact h.1.1, fun k => getD_set_le h.1.2 (by have := (h.1.2 d.toNat).1; omega) h4⟩, fun rest => by
    rw [List.append_assoc, List.singleton_append, h.2]
    exact rndP_go (c := ⟨d, v⟩) (by
      show ¬ (d ≤ last ∨ n ≤ d ∨ v ≤ cur.getD d.toNat 0 ∨ 3 < v ∨ (¬ st = true ∧ v ≠ 3))
      rintro (q | q | q | q | q)
      · omega
      · omega
      · omega
      · omega
      · exact q.2 (h5 q.1))⟩
theorem RndI.nil {st : Bool} {n last : Int} {now cur : List Int} (h : RndI st n now [] last cur) : cur = now := by
  have := h.2 []
  rw [List.append_nil, rndP, rndP] at this
  exact (Option.some.inj this).symm
theorem PlnI.step {st : Bool} {n last : Int} {R : List (List Chg)} {now cur : List Int} {l : List Chg} (h : PlnI st n R now) (hr : RndI st n now l last cur) (h0 : l.length ≠ 0) : PlnI st n (R ++ [l]) cur := by
  obtain ⟨acc, ha⟩ := h.2
  refine ⟨hr.1, acc ++ [cur], fun rs => ?_⟩
  rw [List.append_assoc, List.singleton_append, ha, stsA, if_neg h0]
  have := hr.2 []
  rw [List.append_nil] at this
  rw [this, rndP]
theorem PlnI.some {st : Bool} {n : Int} {R : List (List Chg)} {now : List Int} (h : PlnI st n R now) (hn : 1 ≤ n ∧ n ≤ 12) : (statesP st R n).isSome = true := by
  obtain ⟨acc, ha⟩ := h.2
  have := ha []
  rw [List.append_nil, stsA] at this
  unfold statesP
  rw [if_neg (by omega), this]; rfl
def planG (p : Plan) (n : Int) : Prop := goodP p n ∧ p.rounds.xs.length ≤ 3 ∧ ∀ x ∈ p.rounds.xs, 0 < x.xs.length
end Go.Proofs.Ytobggnpnochnnaa.V
namespace Go.Proofs.Ytobggnpnochnnaa.V
open Go.RowKit Go.Proofs.Ytobggnpnochnnaa
set_option linter.unusedVariables false
set_option linter.unusedSimpArgs false
set_option maxHeartbeats 2000000 in
set_option maxRecDepth 20000 in
theorem gPlan (w : World) (F : Nat → Prop) (hF : Old F w) (T : Nat) (M : MS [one T] w) (T_l : Sl Int) (T_w : (slE intE).wf (Fr F [one T]) w.heap T_l) (T_K : TpB 112 T T_l w) (n : Int) (n_h : inI64 n) (hn : 1 ≤ n ∧ n ≤ 12) :
 Calls Try.prog 30 #[pT T 0, iI n] w fun e w' => ∃ (r : Plan), e = .returned (.agg (planE.cells r).toArray) ∧ planE.wf (Fr F [one T]) w'.heap r ∧ planG r n ∧ TpB 112 T T_l w' ∧ Tr [one T] w [one T] w' := by
 obtain ⟨n_hl, n_hu⟩ : inI64 n := id n_h
 refine go Try.func30 rfl 73 rfl [wfF (slE intE) T_l] [tpO 112 T T_l] hF M ⟨T_w, trivial⟩ ⟨T_K, trivial⟩ ?_
 intro a S
 refine rs0 ?_
 refine nbp S (x_allocz _ iZ47 rfl) ?_; clear S; intro a u b4 S
 refine ent (rs0 ?_)
 refine sp S (la (mv rfl)) ?_; clear S; intro a u S
 refine cl S (gNext _ _ S.x T (S.M.pick [0] (by decide)) T_l (dn1 (js := [0]) (S.u 0 rfl)) (S.t 0 rfl) 2 ⟨by omega, by omega⟩) cB26 ?_
 rintro e u ⟨r_t12, rfl, hr_t12, tK, T0⟩; refine ⟨_, rfl, fun a s => ?_⟩
 replace S := S.k1 0 rfl s T0 tK; clear s T0 tK
 refine sp S (la (eqli rfl rfl)) ?_; clear S; intro a u S
 obtain ⟨bv13, hbv13⟩ : ∃ b : Bool, (b = true) ↔ (r_t12 = 0) := ⟨decide (r_t12 = 0), by simp⟩
 replace S := S.ext (d := 13) (v := bD (bv13 = true)) ((S.get 13 rfl).trans (vb hbv13.symm))
 refine sp S (la (ov fun S=>x_bd S [(0, bD (bv13 = true))] [bD (bv13 = true), .slice none 0 0])) ?_; clear S; intro a u S
 refine nbp S (x_allocz _ iZ47 rfl) ?_; clear S; intro a u b5 S
 refine ens S (la (stkw 2 rfl rfl rfl)) ?_; clear S; intro a u S
 refine rs0 ?_
 refine sp S (la (mv rfl)) ?_; clear S; intro a u S
 refine mk (E := intE) S (0 : Int) (n).toNat uT22 iZ3 rfl rfl (by omega) (by omega) (by omega) (by unfold maxLen; omega) (fun _ _ => by first | exact ⟨by omega, by omega⟩ | trivial | exact sl_nil) ?_; clear S; intro a u ad16 S
 have hrl16 : (List.replicate (n).toNat (0 : Int)).length = (n).toNat := List.length_replicate
 refine ens S (la (av rfl)) ?_; clear S; intro a u S
 refine wp_seq (rs0 ?_)
 refine sp S (la (mv rfl)) ?_; clear S; intro a u S
 refine cl S (gNext _ _ S.x T (S.M.pick [0] (by decide)) T_l (dn1 (js := [0]) (S.u 0 rfl)) (S.t 0 rfl) 4 ⟨by omega, by omega⟩) cB26 ?_
 rintro e u ⟨r_t18, rfl, hr_t18, tK, T0⟩; refine ⟨_, rfl, fun a s => ?_⟩
 replace S := S.k1 0 rfl s T0 tK; clear s T0 tK
 refine ens S (la (av rfl)) ?_; clear S; intro a u S
 refine wp_block ?_
 replace S := S.nr (slE chgE) 122
 refine lp7 (fun (r : Int) (rd_a : Option Addr) (rd_c : Nat) (rd : List (Sl Chg)) (now_a : Option Addr) (now_c : Nat) (now : List Int) => [(0, pT T 0), (1, iI n), (4, pT b4 0), (5, pT b5 0), (6, .slice now_a now.length now_c), (7, iI r)]) (fun (r : Int) (rd_a : Option Addr) (rd_c : Nat) (rd : List (Sl Chg)) (now_a : Option Addr) (now_c : Nat) (now : List Int) => [tpO 112 T T_l, blO b4 [.bool false, .slice none 0 0] 47, blO b5 [bD (bv13 = true), .slice rd_a rd.length rd_c] 47, rwO intE 3 w.heap.size now_a now_c now, rwO (slE chgE) 122 w.heap.size rd_a rd_c rd]) (fun (r : Int) (rd_a : Option Addr) (rd_c : Nat) (rd : List (Sl Chg)) (now_a : Option Addr) (now_c : Nat) (now : List Int) => (0 ≤ r ∧ r ≤ 3) ∧ (rd.length : Int) + r ≤ 3 ∧ PlnI bv13 n (rd.map fun l => l.xs) now ∧ ∀ x ∈ rd, 0 < x.xs.length) (fun (r : Int) (rd_a : Option Addr) (rd_c : Nat) (rd : List (Sl Chg)) (now_a : Option Addr) (now_c : Nat) (now : List Int) => r.toNat) S r_t18 none 0 ([]) ad16 ((n).toNat) (List.replicate (n).toNat (0 : Int)) (subM rfl) rfl ?_ ?_
 ·exact ⟨⟨by omega, by omega⟩, by simp; omega, PlnI.init _ n, fun x h => by cases h⟩
 clear S; intro r rd_a rd_c rd now_a now_c now a u S hR
 have rd_len := (S.row 4 rfl).len_le; simp only [maxLen] at rd_len
 have now_len := (S.row 3 rfl).len_le; simp only [maxLen] at now_len
 obtain ⟨⟨hr0, hr3⟩, hrl, hP, hne⟩ := hR
 refine wp_seq ?_
 refine rs S (tr (mv rfl)<|la (gtri rfl rfl)) ?_; clear S; intro a u S
 refine cd S rfl ?_ ?_
 ·intro hc0
  refine wp_skip (then_n (wp_seq (wp_block ?_)))
  refine rs S (la (av rfl)) ?_; clear S; intro a u S
  refine wp_seq ?_
  refine rs S (la (av rfl)) ?_; clear S; intro a u S
  refine wp_block ?_
  replace S := S.nr chgE 124
  refine lp8 (fun (d : Nat) (ls : Int) (l_a : Option Addr) (l_c : Nat) (l : List Chg) (cur_a : Option Addr) (cur_c : Nat) (cur : List Int) => [(0, pT T 0), (1, iI n), (4, pT b4 0), (5, pT b5 0), (6, .slice cur_a cur.length cur_c), (7, iI r), (19, iI r), (20, bD (0 < r)), (9, iN d), (8, .slice l_a l.length l_c)]) (fun (d : Nat) (ls : Int) (l_a : Option Addr) (l_c : Nat) (l : List Chg) (cur_a : Option Addr) (cur_c : Nat) (cur : List Int) => [tpO 112 T T_l, blO b4 [.bool false, .slice none 0 0] 47, blO b5 [bD (bv13 = true), .slice rd_a rd.length rd_c] 47, rwO intE 3 w.heap.size cur_a cur_c cur, rwO (slE chgE) 122 w.heap.size rd_a rd_c rd, rwO chgE 124 w.heap.size l_a l_c l]) (fun (d : Nat) (ls : Int) (l_a : Option Addr) (l_c : Nat) (l : List Chg) (cur_a : Option Addr) (cur_c : Nat) (cur : List Int) => (d : Int) ≤ n ∧ (-1 ≤ ls ∧ ls < d) ∧ (l.length : Int) ≤ d ∧ RndI bv13 n now l ls cur) (fun (d : Nat) (ls : Int) (l_a : Option Addr) (l_c : Nat) (l : List Chg) (cur_a : Option Addr) (cur_c : Nat) (cur : List Int) => (n - d).toNat) S 0 (-1) none 0 ([]) now_a now_c now (subM rfl) rfl ?_ ?_
  ·exact ⟨by omega, ⟨by omega, by omega⟩, by simp, RndI.init hP⟩
  clear S; intro d ls l_a l_c l cur_a cur_c cur a u S hR
  have l_len := (S.row 5 rfl).len_le; simp only [maxLen] at l_len
  have cur_len := (S.row 3 rfl).len_le; simp only [maxLen] at cur_len
  obtain ⟨hd, ⟨hla0, hla1⟩, hll, hI⟩ := hR
  have hcl2 := hI.1.1
  have hcu : ∀ k, 0 ≤ cur.getD k intE.dflt ∧ cur.getD k intE.dflt ≤ 3 := hI.1.2
  refine wp_seq ?_
  refine rs S (tr (mv rfl)<|tr (mv rfl)<|la (lssi rfl rfl)) ?_; clear S; intro a u S
  refine cd S rfl ?_ ?_
  ·intro hc1
   have hcd := hcu d
   refine wp_skip (then_n (wp_seq (wp_block (wp_seq (rs0 ?_)))))
   obtain ⟨hl10, hu10⟩ : inI64 (cur.getD d intE.dflt) := id ((S.row 3 rfl).wfi d (by omega))
   refine sp S (tr (mv rfl)<|tr (mv rfl)<|tr (ov fun S=>x_idx uT22 sZ3 (S.e rfl) (S.e rfl) d rfl (by omega) (row_off (S.row 3 rfl) (m := d) (by omega)))<|tr (ov fun S=>x_load sC3 (S.e rfl) (((S.row 3 rfl).latz (by first | decide | exact Nat.one_pos | exact Nat.succ_pos _)).cell d (by omega) 0 _ rfl))<|tr (eqli rfl rfl)<|la (mv rfl)) ?_; clear S; intro a u S
   refine (Classical.em ((cur.getD d intE.dflt) = 3)).elim (fun hs11 => ?_) (fun hs11 => ?_)
   ·replace S := S.ext (d := 33) (v := .bool true) ((S.get 33 rfl).trans (congrArg Value.bool (decide_eq_true hs11)))
    refine ens S (tr (goff 33 rfl)<|tr (goff 33 rfl)<|tr (goff 33 rfl)<|la (ov fun S=>x_pickt (S.e rfl) (S.e rfl))) ?_; clear S; intro a u S
    refine cdt S rfl ?_
    refine wp_exit (then_e (blk_e (then_n ?_)))
    refine rg S (tr (mv rfl)<|tr (addi ((d + 1 : Nat) : Int) rfl rfl (w_i64 (by omega)))<|la (av rfl)) ?_; clear S; intro a u S
    refine then_n ?_
    refine ⟨(d + 1), ls, l_a, l_c, l, cur_a, cur_c, cur, S.re (subM rfl) rfl rfl, ?_, ?_⟩
    ·first
     | exact ⟨by omega, ⟨by omega, by omega⟩, by omega, hI⟩
     | (refine ⟨by omega, ⟨by omega, by omega⟩, by rw [List.length_append, List.length_singleton]; omega, ?_⟩
        have hcd0 : cur.getD ((d : Int)).toNat 0 = cur.getD d intE.dflt := rfl
        exact RndI.step (d := (d : Int)) hI hla0 hla1 (by omega) (by rw [hcd0]; omega) (by omega) (fun q => by first | rfl | exact absurd hsg q))
    omega
   replace S := S.ext (d := 33) (v := .bool false) ((S.get 33 rfl).trans (congrArg Value.bool (decide_eq_false hs11)))
   refine sp S (la (gon 33 rfl fun S=>x_move (S.e rfl))) ?_; clear S; intro a u S
   refine strip S.s rfl rfl (gd := 33) rfl ?_
   refine cl S (gNext _ _ S.x T (S.M.pick [0] (by decide)) T_l (dn1 (js := [0]) (S.u 0 rfl)) (S.t 0 rfl) 2 ⟨by omega, by omega⟩) cB26 ?_
   rintro e u ⟨r_t35, rfl, hr_t35, tK, T0⟩; refine ⟨_, rfl, fun a s => ?_⟩
   replace S := S.k1 0 rfl s T0 tK; clear s T0 tK
   refine ens S (tr (gon 33 rfl fun S=>x_eql (S.e rfl) (S.e rfl))<|la (ov fun S=>x_pickf (S.e rfl) (S.e rfl))) ?_; clear S; intro a u S
   refine cd S rfl ?_ ?_
   ·intro hc2
    refine wp_exit (then_e (blk_e (then_n ?_)))
    refine rg S (tr (mv rfl)<|tr (addi ((d + 1 : Nat) : Int) rfl rfl (w_i64 (by omega)))<|la (av rfl)) ?_; clear S; intro a u S
    refine then_n ?_
    refine ⟨(d + 1), ls, l_a, l_c, l, cur_a, cur_c, cur, S.re (subM rfl) rfl rfl, ?_, ?_⟩
    ·first
     | exact ⟨by omega, ⟨by omega, by omega⟩, by omega, hI⟩
     | (refine ⟨by omega, ⟨by omega, by omega⟩, by rw [List.length_append, List.length_singleton]; omega, ?_⟩
        have hcd0 : cur.getD ((d : Int)).toNat 0 = cur.getD d intE.dflt := rfl
        exact RndI.step (d := (d : Int)) hI hla0 hla1 (by omega) (by rw [hcd0]; omega) (by omega) (fun q => by first | rfl | exact absurd hsg q))
    omega
   intro hc3
   refine wp_skip (then_n ?_)
   refine rs S (la (av rfl)) ?_; clear S; intro a u S
   refine wp_seq ?_
   refine rs S (tr (fldi 0 0 rfl uT47)<|la (ldk 2 sC4 rfl rfl rfl)) ?_; clear S; intro a u S
   refine cd S rfl ?_ ?_
   ·intro hc4
    have hsg := hc4
    replace S := S.l [(0, pT T 0), (1, iI n), (4, pT b4 0), (5, pT b5 0), (6, .slice cur_a cur.length cur_c), (7, iI r), (19, iI r), (20, bD (0 < r)), (9, iN d), (8, .slice l_a l.length l_c)] (subM rfl)
    refine dr (P := Try.prog) S 14 [one T] [(40, .is _), (41, .is _), (42, .is _), (43, .is _), (44, .is _), (45, .is _), (46, .is _), (47, .is _), (48, .is _), (49, .is _), (50, .is _), (51, .of (fun z w => ∃ (x51a : Int), z = iI x51a ∧ (0 ≤ x51a ∧ (x51a < (3 - (cur.getD d intE.dflt)) ∨ x51a = 0))) (fun v w w' c h => let ⟨x51a, hv, h0⟩ := h; ⟨x51a, hv, h0⟩)), (52, .of (fun z w => ∃ (x51a : Int), z = iI (((cur.getD d intE.dflt) + 1) + x51a) ∧ (0 ≤ x51a ∧ (x51a < (3 - (cur.getD d intE.dflt)) ∨ x51a = 0))) (fun v w w' c h => let ⟨x51a, hv, h0⟩ := h; ⟨x51a, hv, h0⟩)), (10, .of (fun z w => ∃ (x51a : Int), z = iI (((cur.getD d intE.dflt) + 1) + x51a) ∧ (0 ≤ x51a ∧ (x51a < (3 - (cur.getD d intE.dflt)) ∨ x51a = 0))) (fun v w w' c h => let ⟨x51a, hv, h0⟩ := h; ⟨x51a, hv, h0⟩))] [[], [], [40, 41], [42], [43], [], [], [], [46, 47], [48], [49], [45, 50], [44, 51], [52]] [10] _ ⟨qd (mv rfl), qd (mv rfl), qd (ov fun S=>x_idx uT22 sZ3 (S.e rfl) (S.e rfl) d rfl (by omega) (row_off (S.row 3 rfl) (m := d) (by omega))), qd (ov fun S=>x_load sC3 (S.e rfl) (((S.row 3 rfl).latz (by first | decide | exact Nat.one_pos | exact Nat.succ_pos _)).cell d (by omega) 0 _ rfl)), qd (addi ((cur.getD d intE.dflt) + 1) rfl rfl (w_i64 (by omega))), qd (mv rfl), qd (mv rfl), qd (mv rfl), qd (ov fun S=>x_idx uT22 sZ3 (S.e rfl) (S.e rfl) d rfl (by omega) (row_off (S.row 3 rfl) (m := d) (by omega))), qd (ov fun S=>x_load sC3 (S.e rfl) (((S.row 3 rfl).latz (by first | decide | exact Nat.one_pos | exact Nat.succ_pos _)).cell d (by omega) 0 _ rfl)), qd (subi (3 - (cur.getD d intE.dflt)) rfl rfl (w_i64 (by omega))), ?_, ?_, ?_, trivial⟩ ?_
    ·skip
     intro a u S G hE
     refine hcl S (gNext _ _ S.x T (S.M.pick [0] (by decide)) T_l (dn1 (js := [0]) (S.u 0 rfl)) (S.t 0 rfl) (3 - (cur.getD d intE.dflt)) ⟨by omega, by omega⟩) cB26 ?_
     rintro e w2 ⟨r_h51, rfl, hr_h51, tK, T0⟩; refine ⟨_, rfl, (show ∃ _, _ from ?_), T0.ch, (S.k1 0 rfl S.s T0 tK).m⟩
     exact ⟨r_h51, rfl, hr_h51⟩
    ·skip
     intro a u S G hE
     obtain ⟨e51, -⟩ := hE
     have M0 := S.m
     obtain ⟨x51_16, e51, hr16⟩ := e51
     replace S := S.ext e51
     exact hvl 52 S M0 (v := iI (((cur.getD d intE.dflt) + 1) + x51_16)) (x_add (S.e rfl) (S.e rfl) (r := (((cur.getD d intE.dflt) + 1) + x51_16)) (w_i64 (by omega))) (show ∃ _, _ from ⟨x51_16, rfl, hr16⟩)
    ·skip
     intro a u S G hE
     obtain ⟨e52, -⟩ := hE
     have M0 := S.m
     obtain ⟨x51_17, e52, hr17⟩ := e52
     replace S := S.ext e52
     exact hvl 10 S M0 (v := iI (((cur.getD d intE.dflt) + 1) + x51_17)) (x_assign (S.e rfl)) (show ∃ _, _ from ⟨x51_17, rfl, hr17⟩)
    clear S; intro a u S G hE
    obtain ⟨e10, -⟩ := hE
    obtain ⟨x51_18, e10, hr18⟩ := e10
    replace S := S.ext e10
    clear e10
    refine ent (rs0 ?_)
    refine sp S (tr (mv rfl)<|tr (mv rfl)<|tr (mv rfl)<|la (ov fun S=>x_idx uT22 sZ3 (S.e rfl) (S.e rfl) d rfl (by omega) (row_off (S.row 3 rfl) (m := d) (by omega)))) ?_; clear S; intro a u S
    refine sp S (la (str (E := intE) 3 (by kernel_rfl) rfl rfl rfl d 0 (by omega) (by first | decide | exact Nat.one_pos | exact Nat.succ_pos _) (((cur.getD d intE.dflt) + 1) + x51_18) (fun S=>(show inI64 (((cur.getD d intE.dflt) + 1) + x51_18) from ⟨by omega, by omega⟩)) rfl (by first | rfl | (show _ = _ * 1 + 0; omega) | (simp [intE]; omega) | simp [intE]) rfl)) ?_; clear S; intro a u S
    have hls20 : (cur.set d (((cur.getD d intE.dflt) + 1) + x51_18)).length = cur.length := by simp
    refine ent (r0 ?_)
    refine sp S (tr (mv rfl)<|tr (mv rfl)<|tr (mv rfl)<|la (ov fun S=>x_bd S [(0, iN d), (1, iI (((cur.getD d intE.dflt) + 1) + x51_18))] [iN d, iI (((cur.getD d intE.dflt) + 1) + x51_18)])) ?_; clear S; intro a u S
    refine nbs chgE S [(⟨((d : Nat) : Int), (((cur.getD d intE.dflt) + 1) + x51_18)⟩ : Chg)] (x_bs S [(0, .agg #[iN d, iI (((cur.getD d intE.dflt) + 1) + x51_18)])] uT122 iZ124) (fun x hx => by simp only [List.mem_cons, List.not_mem_nil, or_false] at hx; rw [hx]; exact (show chgE.wf _ _ (⟨((d : Nat) : Int), (((cur.getD d intE.dflt) + 1) + x51_18)⟩ : Chg) from ⟨(show inI64 ((d : Nat) : Int) from ⟨by omega, by omega⟩), (show inI64 (((cur.getD d intE.dflt) + 1) + x51_18) from ⟨by omega, by omega⟩)⟩)) ?_; clear S; intro a u b61 S
    refine ap (E := chgE) (ys := [(⟨((d : Nat) : Int), (((cur.getD d intE.dflt) + 1) + x51_18)⟩ : Chg)]) S 5 rfl uT122 iZ124 rfl rfl (show LAt chgE _ _ (some ⟨b61, 0, none⟩) ([(⟨((d : Nat) : Int), (((cur.getD d intE.dflt) + 1) + x51_18)⟩ : Chg)]) from ((S.u 1 rfl)).1) ((S.u 1 rfl)).2.2 (LAt.mem (show LAt chgE _ _ (some ⟨b61, 0, none⟩) ([(⟨((d : Nat) : Int), (((cur.getD d intE.dflt) + 1) + x51_18)⟩ : Chg)]) from ((S.u 1 rfl)).1)) ⟨by unfold maxLen; (try simp only [List.length_cons, List.length_nil, List.length_append, List.length_map]); omega, by (try simp only [List.length_cons, List.length_nil, List.length_append, List.length_map]); omega⟩ ?_; clear S; intro a u ad62 cap62 S
    refine en S (la (av rfl)) ?_; clear S; intro a u S
    refine blk_n (then_n ?_)
    refine rg S (tr (mv rfl)<|tr (addi ((d + 1 : Nat) : Int) rfl rfl (w_i64 (by omega)))<|la (av rfl)) ?_; clear S; intro a u S
    refine then_n ?_
    refine ⟨(d + 1), (d : Int), ad62, cap62, (l ++ [(⟨((d : Nat) : Int), (((cur.getD d intE.dflt) + 1) + x51_18)⟩ : Chg)]), cur_a, cur_c, (cur.set d (((cur.getD d intE.dflt) + 1) + x51_18)), S.re ⟨rfl, rfl, rfl, rfl, (by first | rfl | (simp only [List.length_set]; rfl)), rfl, rfl, rfl, rfl, (by first | rfl | (simp only [List.length_set]; rfl)), trivial⟩ rfl rfl, ?_, ?_⟩
    ·first
     | exact ⟨by omega, ⟨by omega, by omega⟩, by omega, hI⟩
     | (refine ⟨by omega, ⟨by omega, by omega⟩, by rw [List.length_append, List.length_singleton]; omega, ?_⟩
        have hcd0 : cur.getD ((d : Int)).toNat 0 = cur.getD d intE.dflt := rfl
        exact RndI.step (d := (d : Int)) hI hla0 hla1 (by omega) (by rw [hcd0]; omega) (by omega) (fun q => by first | rfl | exact absurd hsg q))
    omega
   intro hc5
   have hsg := hc5
   refine wp_skip (then_n (rs0 ?_))
   refine sp S (tr (mv rfl)<|tr (mv rfl)<|tr (mv rfl)<|la (ov fun S=>x_idx uT22 sZ3 (S.e rfl) (S.e rfl) d rfl (by omega) (row_off (S.row 3 rfl) (m := d) (by omega)))) ?_; clear S; intro a u S
   refine sp S (la (str (E := intE) 3 (by kernel_rfl) rfl rfl rfl d 0 (by omega) (by first | decide | exact Nat.one_pos | exact Nat.succ_pos _) 3 (fun S=>(show inI64 3 from ⟨by omega, by omega⟩)) rfl (by first | rfl | (show _ = _ * 1 + 0; omega) | (simp [intE]; omega) | simp [intE]) rfl)) ?_; clear S; intro a u S
   have hls24 : (cur.set d 3).length = cur.length := by simp
   refine ent (r0 ?_)
   refine sp S (tr (mv rfl)<|tr (mv rfl)<|tr (mv rfl)<|la (ov fun S=>x_bd S [(0, iN d), (1, iI 3)] [iN d, iI 3])) ?_; clear S; intro a u S
   refine nbs chgE S [(⟨((d : Nat) : Int), 3⟩ : Chg)] (x_bs S [(0, .agg #[iN d, iI 3])] uT122 iZ124) (fun x hx => by simp only [List.mem_cons, List.not_mem_nil, or_false] at hx; rw [hx]; exact (show chgE.wf _ _ (⟨((d : Nat) : Int), 3⟩ : Chg) from ⟨(show inI64 ((d : Nat) : Int) from ⟨by omega, by omega⟩), (show inI64 3 from ⟨by omega, by omega⟩)⟩)) ?_; clear S; intro a u b61 S
   refine ap (E := chgE) (ys := [(⟨((d : Nat) : Int), 3⟩ : Chg)]) S 5 rfl uT122 iZ124 rfl rfl (show LAt chgE _ _ (some ⟨b61, 0, none⟩) ([(⟨((d : Nat) : Int), 3⟩ : Chg)]) from ((S.u 1 rfl)).1) ((S.u 1 rfl)).2.2 (LAt.mem (show LAt chgE _ _ (some ⟨b61, 0, none⟩) ([(⟨((d : Nat) : Int), 3⟩ : Chg)]) from ((S.u 1 rfl)).1)) ⟨by unfold maxLen; (try simp only [List.length_cons, List.length_nil, List.length_append, List.length_map]); omega, by (try simp only [List.length_cons, List.length_nil, List.length_append, List.length_map]); omega⟩ ?_; clear S; intro a u ad62 cap62 S
   refine en S (la (av rfl)) ?_; clear S; intro a u S
   refine blk_n (then_n ?_)
   refine rg S (tr (mv rfl)<|tr (addi ((d + 1 : Nat) : Int) rfl rfl (w_i64 (by omega)))<|la (av rfl)) ?_; clear S; intro a u S
   refine then_n ?_
   refine ⟨(d + 1), (d : Int), ad62, cap62, (l ++ [(⟨((d : Nat) : Int), 3⟩ : Chg)]), cur_a, cur_c, (cur.set d 3), S.re ⟨rfl, rfl, rfl, rfl, (by first | rfl | (simp only [List.length_set]; rfl)), rfl, rfl, rfl, rfl, (by first | rfl | (simp only [List.length_set]; rfl)), trivial⟩ rfl rfl, ?_, ?_⟩
   ·first
    | exact ⟨by omega, ⟨by omega, by omega⟩, by omega, hI⟩
    | (refine ⟨by omega, ⟨by omega, by omega⟩, by rw [List.length_append, List.length_singleton]; omega, ?_⟩
       have hcd0 : cur.getD ((d : Int)).toNat 0 = cur.getD d intE.dflt := rfl
       exact RndI.step (d := (d : Int)) hI hla0 hla1 (by omega) (by rw [hcd0]; omega) (by omega) (fun q => by first | rfl | exact absurd hsg q))
   omega
  intro hc6
  refine wp_exit (then_e (then_e (blk_e (then_n ?_))))
  refine rs S (tr (mv rfl)<|tr (leni uT122 rfl)<|la (gtri rfl rfl)) ?_; clear S; intro a u S
  refine cd S rfl ?_ ?_
  ·intro hc7
   refine r0 ?_
   refine sp S (tr (fldi 0 1 rfl uT47)<|tr (ldk 2 sC45 rfl rfl rfl)<|la (mv rfl)) ?_; clear S; intro a u S
   replace S := S.fz 5 rfl (by show 0 < chgE.n; decide)
   refine nbs (slE chgE) S [(Sl.mk l_a l_c l)] (x_bs S [(0, .slice l_a l.length l_c)] uT45 iZ122) (fun x hx => by simp only [List.mem_cons, List.not_mem_nil, or_false] at hx; rw [hx]; exact (show (slE chgE).wf _ _ (Sl.mk l_a l_c l) from (S.u 1 rfl))) ?_; clear S; intro a u b69 S
   refine ap (E := (slE chgE)) (ys := [(Sl.mk l_a l_c l)]) S 4 rfl uT45 iZ122 rfl rfl (show LAt (slE chgE) _ _ (some ⟨b69, 0, none⟩) ([(Sl.mk l_a l_c l)]) from ((S.u 2 rfl)).1) ((S.u 2 rfl)).2.2 (LAt.mem (show LAt (slE chgE) _ _ (some ⟨b69, 0, none⟩) ([(Sl.mk l_a l_c l)]) from ((S.u 2 rfl)).1)) ⟨by unfold maxLen; (try simp only [List.length_cons, List.length_nil, List.length_append, List.length_map]); omega, by (try simp only [List.length_cons, List.length_nil, List.length_append, List.length_map]); omega⟩ ?_; clear S; intro a u ad70 cap70 S
   refine en S (tr (fldi 0 1 rfl uT47)<|la (stk 2 rfl rfl rfl)) ?_; clear S; intro a u S
   refine blk_n (then_n ?_)
   refine rg S (tr (mv rfl)<|tr (subi (r - 1) rfl rfl (w_i64 (by omega)))<|la (av rfl)) ?_; clear S; intro a u S
   refine then_n ?_
   refine ⟨(r - 1), ad70, cap70, (rd ++ [(Sl.mk l_a l_c l)]), cur_a, cur_c, cur, S.re (subM rfl) rfl rfl, ?_, ?_⟩
   ·first
    | (have hl0 : l = [] := List.eq_nil_of_length_eq_zero (by omega)
       subst hl0
       have e := hI.nil
       subst e
       exact ⟨⟨by omega, by omega⟩, by omega, hP, hne⟩)
    | (refine ⟨⟨by omega, by omega⟩, by rw [List.length_append, List.length_singleton]; omega, ?_, fun x hx => ?_⟩
       ·rw [List.map_append]
        exact hP.step (l := l) hI (show l.length ≠ 0 by omega)
       rcases List.mem_append.1 hx with q | q
       ·exact hne x q
       obtain rfl := List.mem_singleton.1 q
       show 0 < l.length
       omega)
   omega
  intro hc8
  refine wp_skip (blk_n (then_n ?_))
  refine rg S (tr (mv rfl)<|tr (subi (r - 1) rfl rfl (w_i64 (by omega)))<|la (av rfl)) ?_; clear S; intro a u S
  refine then_n ?_
  refine ⟨(r - 1), rd_a, rd_c, rd, cur_a, cur_c, cur, S.re (subM rfl) rfl rfl, ?_, ?_⟩
  ·first
   | (have hl0 : l = [] := List.eq_nil_of_length_eq_zero (by omega)
      subst hl0
      have e := hI.nil
      subst e
      exact ⟨⟨by omega, by omega⟩, by omega, hP, hne⟩)
   | (refine ⟨⟨by omega, by omega⟩, by rw [List.length_append, List.length_singleton]; omega, ?_, fun x hx => ?_⟩
      ·rw [List.map_append]
       exact hP.step (l := l) hI (show l.length ≠ 0 by omega)
      rcases List.mem_append.1 hx with q | q
      ·exact hne x q
      obtain rfl := List.mem_singleton.1 q
      show 0 < l.length
      omega)
  omega
 intro hc9
 refine wp_exit (then_e (then_e (blk_e (then_n ?_))))
 refine rs S (tr (ldkw 2 rfl rfl wD47)<|la (stkw 1 rfl rfl rfl)) ?_; clear S; intro a u S
 refine wp_ret ?_
 replace S := S.fz 4 rfl
 refine retcw rfl S.s rfl [bD (bv13 = true), .slice rd_a rd.length rd_c] wD47 (fun j v hv => by rw [Nat.zero_add]; exact (S.k 1 rfl).cell hv) ?_
 replace S := S.pk [0] (os' := [tpO 112 T T_l])
 refine ⟨(⟨bv13, (Sl.mk rd_a rd_c rd)⟩ : Plan), rfl, ⟨trivial, (S.u 1 rfl)⟩, ?_, (S.t 0 rfl), S.m.c⟩
 exact ⟨⟨PlnI.some hP hn, by show rd.length ≤ 16; omega⟩, by show rd.length ≤ 3; omega, hne⟩
end Go.Proofs.Ytobggnpnochnnaa.V
set_option linter.unusedVariables false
set_option linter.unusedSimpArgs false
namespace Go.Proofs.Ytobggnpnochnnaa.V
open Go.RowKit
/-- a list of facts, as one -/
def lsO {α : Type} (g : α → OF) (xs : List α) : OF := bnO (xs.map g)
def rwS {α : Type} (E : Enc α) (t : TypeId) (base : Nat) (s : Sl α) : OF := rwO E t base s.a s.c s.xs
section
variable {F : Nat → Prop} {w0 w w' : World} {m0 : List BS} {n : Nat} {L L' : List (Nat × Value)} {rs : List RF} {ks fs os os' : List OF} {a a' : Act} {α : Type} {g : α → OF} {xs pre post : List α} {x : α}
/-- the same blocks in other bundles -/
theorem St.alt (S : St F w0 m0 n L rs os a w) (hi : ∀ k, In (ow os') k ↔ In (ow os) k) (hs : Sep (ow os')) (hp : ∀ f ∈ os', f.p F (In (ow os)) w) : St F w0 m0 n L rs os' a w := by
  have T : Tr (ow os) w (ow os') w := ⟨Ch.refl w, fun k hk => .inl ((hi k).1 hk), ⟨fun k hk => S.M.lt k ((hi k).1 hk), hs⟩⟩
  exact ⟨S.s, S.m.go T fun f hf => f.st T.mv (fun _ _ _ => rfl) (hp f hf)⟩
theorem ow_one (f : OF) : ow [f] = [f.o] := rfl
theorem in_cons {o : BS} {r : List BS} {k : Nat} : In (o :: r) k ↔ o k ∨ In r k := Iff.rfl
theorem in_nil {k : Nat} : In [] k ↔ False := Iff.rfl
theorem bn_o (fs : List OF) (k : Nat) : (bnO fs).o k ↔ In (ow fs) k := Iff.rfl
/-- bundles behind one another, with facts of their own between them, are one bundle -/
theorem St.flat {A B : List OF} (S : St F w0 m0 n L rs (ks ++ [bnO A] ++ fs ++ [bnO B]) a w) : St F w0 m0 n L rs (ks ++ [bnO (A ++ fs ++ B)]) a w := by
  have hM := S.M
  have hs := hM.sep
  simp only [ow_app, ow_one] at hs
  obtain ⟨⟨⟨s1, s2, s3⟩, s4, s5⟩, s6, s7⟩ : ((Sep (ow ks) ∧ Sep [In (ow A)] ∧ _) ∧ Sep (ow fs) ∧ _) ∧ Sep [In (ow B)] ∧ _ := by
    have h1 := sep_app.1 hs
    have h2 := sep_app.1 h1.1
    have h3 := sep_app.1 h2.1
    exact ⟨⟨h3, h2.2⟩, h1.2⟩
  have hA := S.m.o (bnO A) (by simp)
  have hB := S.m.o (bnO B) (by simp)
  have hin : ∀ k, In (ow (ks ++ [bnO (A ++ fs ++ B)])) k ↔ In (ow (ks ++ [bnO A] ++ fs ++ [bnO B])) k := fun k => by
    simp only [ow_app, ow_one, in_app, in_cons, in_nil, bn_o, or_false, or_assoc]
  have hsep : Sep (ow (A ++ fs ++ B)) := by
    rw [ow_app, ow_app]
    refine sep_app.2 ⟨sep_app.2 ⟨hA.1, s4, fun k hk hm => s5 k (in_app.2 (.inr (.inl hk))) hm⟩, hB.1, fun k hk hm => s7 k ?_ (.inl hm)⟩
    rcases in_app.1 hk with h | h
    · exact in_app.2 (.inl (in_app.2 (.inr (.inl h))))
    · exact in_app.2 (.inr h)
  refine S.alt hin ?_ fun f hf => ?_
  · rw [ow_app]
    refine sep_app.2 ⟨s1, ⟨fun k _ h => h, trivial⟩, fun k hk hm => ?_⟩
    rcases hm with hm | hm
    · have hm : In (ow (A ++ fs ++ B)) k := hm
      rw [ow_app, ow_app] at hm
      rcases in_app.1 hm with hm | hm
      · rcases in_app.1 hm with hm | hm
        · exact s3 k hk (.inl hm)
        · exact s5 k (in_app.2 (.inl hk)) hm
      · exact s7 k (in_app.2 (.inl (in_app.2 (.inl hk)))) (.inl hm)
    · exact hm
  · rcases List.mem_append.1 hf with h | h
    · exact S.m.o f (by simp [h])
    · obtain rfl := List.mem_singleton.1 h
      refine ⟨hsep, fun q hq => ?_⟩
      rcases List.mem_append.1 hq with hq | hq
      · rcases List.mem_append.1 hq with hq | hq
        · exact hA.2 q hq
        · exact S.m.o q (by simp [hq])
      · exact hB.2 q hq
theorem St.unflat {A B : List OF} (S : St F w0 m0 n L rs (ks ++ [bnO (A ++ fs ++ B)]) a w) : St F w0 m0 n L rs (ks ++ [bnO A] ++ fs ++ [bnO B]) a w := by
  have hM := S.M
  have hs := hM.sep
  rw [ow_app] at hs
  obtain ⟨s1, s2, s3⟩ := sep_app.1 hs
  have hA := S.m.o (bnO (A ++ fs ++ B)) (by simp)
  have hsA := hA.1
  rw [ow_app, ow_app] at hsA
  obtain ⟨q1, q2, q3⟩ := sep_app.1 hsA
  obtain ⟨p1, p2, p3⟩ := sep_app.1 q1
  have hk0 : ∀ k, In (ow ks) k → ¬ In (ow (A ++ fs ++ B)) k := fun k hk h => s3 k hk (.inl h)
  have hin : ∀ k, In (ow (ks ++ [bnO A] ++ fs ++ [bnO B])) k ↔ In (ow (ks ++ [bnO (A ++ fs ++ B)])) k := fun k => by
    simp only [ow_app, ow_one, in_app, in_cons, in_nil, bn_o, or_false, or_assoc]
  refine S.alt hin ?_ fun f hf => ?_
  · simp only [ow_app, ow_one]
    simp only [ow_app] at hk0
    refine sep_app.2 ⟨sep_app.2 ⟨sep_app.2 ⟨s1, ⟨fun k _ h => h, trivial⟩, fun k hk hm => hm.elim (fun h => hk0 k hk (in_app.2 (.inl (in_app.2 (.inl h))))) id⟩, p2, fun k hk hm => ?_⟩, ⟨fun k _ h => h, trivial⟩, fun k hk hm => ?_⟩
    · rcases in_app.1 hk with h | h
      · exact hk0 k h (in_app.2 (.inl (in_app.2 (.inr hm))))
      · exact h.elim (fun h => p3 k h hm) id
    · refine hm.elim (fun hm => ?_) id
      rcases in_app.1 hk with h | h
      · rcases in_app.1 h with h | h
        · exact hk0 k h (in_app.2 (.inr hm))
        · exact h.elim (fun h => q3 k (in_app.2 (.inl h)) hm) id
      · exact q3 k (in_app.2 (.inr h)) hm
  · simp only [List.mem_append, List.mem_singleton] at hf
    rcases hf with ((h | rfl) | h) | rfl
    · exact S.m.o f (by simp [h])
    · exact ⟨p1, fun q hq => hA.2 q (by simp [hq])⟩
    · exact hA.2 f (by simp [h])
    · exact ⟨q2, fun q hq => hA.2 q (by simp [hq])⟩
/-- an element is taken out of a list -/
theorem St.lat (S : St F w0 m0 n L rs (ks ++ [lsO g (pre ++ x :: post)]) a w) : St F w0 m0 n L rs (ks ++ [lsO g pre, g x, lsO g post]) a w := by
  have h : St F w0 m0 n L rs (ks ++ [bnO (pre.map g ++ [g x] ++ post.map g)]) a w := by
    have e : (pre ++ x :: post).map g = pre.map g ++ [g x] ++ post.map g := by simp
    rw [← e]; exact S
  have := h.unflat
  simpa [lsO] using this
theorem St.lput (S : St F w0 m0 n L rs (ks ++ [lsO g pre, g x, lsO g post]) a w) : St F w0 m0 n L rs (ks ++ [lsO g (pre ++ x :: post)]) a w := by
  have h := St.flat (ks := ks) (A := pre.map g) (fs := [g x]) (B := post.map g) (by simpa [lsO] using S)
  have e : (pre ++ x :: post).map g = pre.map g ++ [g x] ++ post.map g := by simp
  rw [← e] at h; exact h
theorem St.l0 (S : St F w0 m0 n L rs os a w) (g : α → OF) : St F w0 m0 n L rs (os ++ [lsO g []]) a w := by
  refine S.alt (fun k => ?_) ?_ fun f hf => ?_
  · rw [ow_app]; exact ⟨fun h => (in_app.1 h).elim id fun h => h.elim False.elim False.elim, fun h => in_app.2 (.inl h)⟩
  · rw [ow_app]; exact sep_app.2 ⟨S.M.sep, ⟨fun k h => h.elim, trivial⟩, fun k _ h => h.elim id id⟩
  · rcases List.mem_append.1 hf with h | h
    · exact S.m.o f h
    · obtain rfl := List.mem_singleton.1 h
      exact ⟨trivial, fun q hq => by cases hq⟩
/-- a new element behind a list -/
theorem St.lpush (S : St F w0 m0 n L rs (ks ++ [lsO g xs, g x]) a w) : St F w0 m0 n L rs (ks ++ [lsO g (xs ++ [x])]) a w := by
  have := S.l0 g
  rw [List.append_assoc] at this
  exact St.lput (ks := ks) (pre := xs) (post := []) this
theorem St.lcon (S : St F w0 m0 n L rs (ks ++ [g x, lsO g xs]) a w) : St F w0 m0 n L rs (ks ++ [lsO g (x :: xs)]) a w := by
  have h := S.l0 g
  refine St.lput (ks := ks) (pre := []) (x := x) (post := xs) (h.alt (fun k => ?_) ?_ fun f hf => ?_)
  · simp only [ow_app, ow, in_app, in_cons, in_nil, or_false]
    exact ⟨fun h => h.elim (fun h => .inl (.inl h)) fun h => h.elim .inr fun h => .inl (.inr h), fun h => h.elim (fun h => h.elim .inl fun h => .inr (.inr h)) fun h => .inr (.inl h)⟩
  · have hs := h.M.sep
    rw [ow_app, ow_app] at hs
    rw [ow_app]
    obtain ⟨h1, _, _⟩ := sep_app.1 hs
    obtain ⟨g1, g2, g3⟩ := sep_app.1 h1
    exact sep_app.2 ⟨g1, ⟨fun k h => h.elim, g2⟩, fun k hk hm => hm.elim (fun h => h.elim) (g3 k hk)⟩
  · refine h.m.o f ?_
    simp only [List.mem_append, List.mem_cons, List.not_mem_nil, or_false] at hf ⊢
    rcases hf with h | h | h | h
    · exact .inl (.inl h)
    · exact .inr h
    · exact .inl (.inr (.inl h))
    · exact .inl (.inr (.inr h))
theorem St.lunc (S : St F w0 m0 n L rs (ks ++ [lsO g (x :: xs)]) a w) : St F w0 m0 n L rs (ks ++ [g x, lsO g xs]) a w := by
  have h := St.lat (ks := ks) (pre := []) (x := x) (post := xs) S
  refine h.alt (fun k => ?_) ?_ fun f hf => ?_
  · simp only [ow_app, ow, in_app, in_cons, in_nil, or_false]
    exact ⟨fun h => h.imp id .inr, fun h => h.imp id fun h => h.elim False.elim id⟩
  · have hs := h.M.sep
    rw [ow_app] at hs ⊢
    obtain ⟨g1, g2, g3⟩ := sep_app.1 hs
    exact sep_app.2 ⟨g1, g2.2, fun k hk hm => g3 k hk (.inr hm)⟩
  · refine h.m.o f ?_
    simp only [List.mem_append, List.mem_cons, List.not_mem_nil, or_false] at hf ⊢
    exact hf.imp id fun h => .inr h
/-- slices of which nothing but the header is told -/
def rawE {β : Type} : Enc (Sl β) where
  n := 1
  cells s := [.slice s.a s.xs.length s.c]
  dflt := ⟨none, 0, []⟩
  wf _ _ _ := True
  len _ := rfl
  one _ u hu := by simp at hu; subst hu; rfl
  keep _ _ := trivial
  mono _ _ := trivial
def allE {β : Type} (E : Enc β) : Enc (List (Sl β)) where
  n := 0
  cells _ := []
  dflt := []
  wf D h l := ∀ x ∈ l, (slE E).wf D h x
  len _ := rfl
  one _ u hu := by simp at hu
  keep k h x hx := (slE E).keep k (h x hx)
  mono k h x hx := (slE E).mono k (h x hx)
theorem all_app {β : Type} {E : Enc β} {D : Nat → Prop} {h : Array Obj} {l : List (Sl β)} {x : Sl β} (H : (allE E).wf D h l) (k : (slE E).wf D h x) : (allE E).wf D h (l ++ [x]) := fun y hy =>
  (List.mem_append.1 hy).elim (H y) fun e => by obtain rfl : y = x := by simpa using e
                                                exact k
theorem raw_wf {β : Type} {E : Enc β} {D : Nat → Prop} {h : Array Obj} {s : Sl (Sl β)} (H : (slE rawE).wf D h s) (A : (allE E).wf D h s.xs) : (slE (slE E)).wf D h s :=
  ⟨⟨H.1.len, H.1.ad, H.1.cell, fun i hi => A _ (by rw [List.getD_eq_getElem?_getD, List.getElem?_eq_getElem hi]; exact List.getElem_mem hi)⟩, H.2⟩
/-- rows in a list are only read from now on -/
theorem St.fzL {β : Type} {E : Enc β} {t : TypeId} (hn : 0 < E.n) : ∀ {xs : List (Sl β)} {rs : List RF}, St F w0 m0 n L rs (ks ++ [lsO (rwS E t w0.heap.size) xs]) a w → St F w0 m0 n L (rs ++ [wfF (allE E) xs]) ks a w
  | [], rs, S => by
    have h : St F w0 m0 n L rs ks a w := S.alt (fun k => by rw [ow_app]; exact ⟨fun h => in_app.2 (.inl h), fun h => (in_app.1 h).elim id fun h => h.elim False.elim False.elim⟩) (by have := S.M.sep; rw [ow_app] at this; exact (sep_app.1 this).1) fun f hf => S.m.o f (List.mem_append_left _ hf)
    exact h.ar (wfF (allE E) []) fun x hx => by cases hx
  | x :: r, rs, S => by
    have h := S.lunc
    have hi : nth (ks ++ [rwS E t w0.heap.size x, lsO (rwS E t w0.heap.size) r]) ks.length = some (rwO E t w0.heap.size x.a x.c x.xs) := by
      rw [nth_get]; simp [rwS]
    have h2 := h.fz ks.length hi hn
    have e : (ks ++ [rwS E t w0.heap.size x, lsO (rwS E t w0.heap.size) r]).set ks.length noO = ks ++ [noO, lsO (rwS E t w0.heap.size) r] := by
      rw [List.set_append]; simp
    rw [e] at h2
    have h3 : St F w0 m0 n L (rs ++ [wfF (slE E) ⟨x.a, x.c, x.xs⟩]) (ks ++ [lsO (rwS E t w0.heap.size) r]) a w := h2.alt (fun k => by
      simp only [ow_app, ow, in_app, in_cons, in_nil, or_false]
      exact ⟨fun h => h.imp id .inr, fun h => h.imp id fun h => h.elim False.elim id⟩) (by
      have hs := h2.M.sep
      rw [ow_app] at hs ⊢
      obtain ⟨g1, g2, g3⟩ := sep_app.1 hs
      exact sep_app.2 ⟨g1, g2.2, fun k hk hm => g3 k hk (.inr hm)⟩) fun f hf => h2.m.o f (by
      simp only [List.mem_append, List.mem_cons, List.not_mem_nil, or_false] at hf ⊢
      exact hf.imp id .inr)
    have h4 := St.fzL hn h3
    have q1 : (slE E).wf (Fr F (ow ks)) w.heap x := h4.m.r _ (by simp : wfF (slE E) ⟨x.a, x.c, x.xs⟩ ∈ _)
    have q2 : (allE E).wf (Fr F (ow ks)) w.heap r := h4.m.r _ (by simp : wfF (allE E) r ∈ _)
    have h5 : St F w0 m0 n L rs ks a w := ⟨h4.s, h4.m.sub fun f hf => by simp [hf]⟩
    exact h5.ar (wfF (allE E) (x :: r)) fun y hy => (List.mem_cons.1 hy).elim (fun e => e ▸ q1) (q2 y)
end
/-! a literal of one slice, which is a row that the region has made -/
def rlT {α : Type} (En : Enc α) (t : TypeId) (ys : List α) (tl : TypeId) (z0 : Nat) (chg : List BS) : Td (In chg) :=
  .of (fun z w => ∃ ad cap b, z = .slice (some ⟨b, 0, none⟩) 1 1 ∧ Blk w.heap b [.slice ad ys.length cap] tl ∧ z0 ≤ b ∧ ¬ In chg b ∧ w.ownsRow z0 t En.n (.slice ad ys.length cap) ys.length (ys.flatMap En.cells) ∧ (∀ k, abk ad k → ¬ In chg k) ∧ ¬ abk ad b) fun _ _ _ c ⟨ad, cap, b, e, h, h0, hn, g, hm, hd⟩ => ⟨ad, cap, b, e, h.tr c hn, h0, hn, own_ch c hm g, hm, hd⟩
theorem rlT_owns {α : Type} {En : Enc α} {t : TypeId} {ys : List α} {tl : TypeId} {z0 : Nat} {chg : List BS} : Owns (rlT En t ys tl z0 chg) := fun _ _ ⟨_, _, _, e, h, _⟩ x hx => by rw [e] at hx; cases hx; exact h.lt
section
variable {P : Program} {ops : Array Oper} {F : Nat → Prop} {w0 W : World} {m0 : List BS} {n i : Nat} {L : List (Nat × Value)} {fs : List RF} {os : List OF} {o : Oper} {Q : Exit → Act → World → Prop} {D A : List Nat} {cls : List (Nat × Nat)}
theorem hrl {α : Type} {En : Enc α} {d e : Nat} {t tl : TypeId} {ys : List α} {z0 : Nat} {js : List Nat} {E : List (Nat × Td (In (picks (ow os) js)))} {a : Act} {w : World} {ad : Option Addr} {cap : Nat} (M : Mm F w0 m0 fs os w) (G : Ch (In (picks (ow os) js)) W w) (he : lookT d E = some (rlT En t ys tl z0 (picks (ow os) js))) (hz : z0 = W.heap.size)
    (k : a.tmps.getD e undef = .slice ad ys.length cap ∧ w.ownsRow z0 t En.n (.slice ad ys.length cap) ys.length (ys.flatMap En.cells) ∧ ∀ k, abk ad k → ¬ In (picks (ow os) js) k)
    (hrun : (execOp a.eval o).run P w = .ok (.value (.slice (some ⟨w.heap.size, 0, none⟩) 1 1)) (w.alloc (.cells #[.slice ad ys.length cap] tl)))
    (hk : ops[i]? = some o ∧ o.guard = none ∧ o.dst = some d ∧ d < n := by exact ⟨rfl, rfl, rfl, by decide⟩) : wpOp P ops Q i (DoneC A cls D o (tq E) (Mm F w0 m0 fs os) n a w) a w := by
  have g := ch_alloc w (.cells #[.slice ad ys.length cap] tl)
  refine hcb M hrun (fun b hb => (Option.some.inj hb).symm) ⟨hk.2.2.1, hk.2.2.2⟩ ((look_tq he).2 ⟨ad, cap, _, rfl, Blk.new _ [.slice ad ys.length cap] tl, by rw [hz]; exact G.size, not_chg M, own_ch (g.mono fun _ h => h.elim) k.2.2 k.2.1, k.2.2, fun h => ?_⟩) ⟨hk.1, hk.2.1⟩
  have hlt := (own_lt k.2.1 w.heap.size (by cases ad with
    | none => cases h
    | some q => exact h)).2
  exact Nat.lt_irrefl _ hlt
theorem fr_rl {L0 : List (Nat × Value)} {a0 : Act} {nw : List OF} {b : Nat} (S0 : St F w0 m0 n L0 fs os a0 W) (hb : W.heap.size ≤ b) (hn : ¬ In (ow nw) b) : Fr F (ow (os ++ nw)) b :=
  ⟨fun h => by rw [ow_app] at h; exact (in_app.1 h).elim (fun h => by have := S0.M.lt _ h; omega) hn, fun h => by have := S0.m.f _ h; have := S0.m.c.size; omega⟩
end
end Go.Proofs.Ytobggnpnochnnaa.V
set_option linter.unusedVariables false
set_option linter.unusedSimpArgs false
namespace Go.Proofs.Ytobggnpnochnnaa.V
open Go.RowKit
def chk6 (ops : Array Oper) (hs zs ks : List Nat) : Bool :=
  hs.all (fun i => decide (i < ops.size)) && zs.all (fun z => decide (z < ops.size) && !ks.contains z && freeS ops z) && ks.all (fun k => !hs.contains k) &&
  (List.range ops.size).all (fun j => ks.contains j || ((hs.contains j || zs.contains j) && match ops[j]? with
    | some o => o.after.all fun e => !Region.binds .any e || (decide (e.on < j) && !ks.contains e.on)
    | none => false)) &&
  hs.all (fun i => (Region.ready .any ops (downB ops i (List.range ops.size) (fullB ops.size ks))).all fun t => !ks.contains t) &&
  seqT ops ks (fullB ops.size ks) && Region.noSelect ops && decide (cntB ops.size ks (Array.replicate ops.size false) + ks.length = ops.size)
section
variable {P : Program} {Q : Exit → Act → World → Prop} {ops : Array Oper}
theorem sched6 {G : Array Bool → Act → World → Prop} (hs zs ks : List Nat) (tail : List Oper) (htl : tail.map some = ks.map fun k => ops[k]?) (chk : chk6 ops hs zs ks = true) (hQ : ∀ c a d v w, Q (.panic c) (a.put (some d) v) w → Q (.panic c) a w)
    (hhead : ∀ i, i ∈ hs → ∀ listed a w, listed.size = ops.size → G listed a w → i ∈ Region.ready .any ops listed → wpOp P ops Q i (fun a' w' => G (listed.setIfInBounds i true) a' w') a w)
    (hlazy : ∀ z ∈ zs, ∀ listed a w, G listed a w → z ∈ Region.ready .any ops listed → ∃ o v d, ops[z]? = some o ∧ o.dst = some d ∧ Yields P ops o v a ∧ G (listed.setIfInBounds z true) (a.put o.dst v) w)
    (fin : ∀ a w, G (fullB ops.size ks) a w → wpList P ops Q tail a w) :
    ∀ (f : Nat) (listed : Array Bool) (a : Act) (w : World), cntB ops.size ks listed = f → listed.size = ops.size → (∀ k ∈ ks, ∀ d, k < ops.size → listed.getD k d = false) → (∀ t o, ops[t]? = some o → listed.getD t false = true → ∀ e ∈ o.after, Region.binds .any e = true → listed.getD e.on false = true) → G listed a w → wpAny P .any ops Q (f + ks.length) listed a w := by
  simp only [chk6, Bool.and_eq_true, decide_eq_true_eq] at chk
  obtain ⟨⟨⟨⟨⟨⟨⟨c1, c2⟩, c3⟩, c4⟩, c5⟩, c6⟩, c7⟩, _⟩ := chk
  have hc4 : ∀ j, j < ops.size → ks.contains j = false → (j ∈ hs ∨ j ∈ zs) ∧ ∃ o, ops[j]? = some o ∧ ∀ e ∈ o.after, Region.binds .any e = true → e.on < j ∧ ks.contains e.on = false := fun j hj hk => by
    have h := List.all_eq_true.1 c4 j (List.mem_range.2 hj)
    rw [hk, Bool.false_or] at h
    cases ho : ops[j]? with
    | none => rw [ho] at h; simp at h
    | some o =>
      rw [ho] at h
      simp only [Bool.and_eq_true, Bool.or_eq_true, decide_eq_true_eq, List.contains_iff_mem] at h
      refine ⟨h.1, o, rfl, fun e he hb => ?_⟩
      have := Array.all_eq_true_iff_forall_mem.1 h.2 e he
      simpa [hb] using this
  intro f
  induction f with
  | zero =>
    intro listed a w hf hls hks hcl hG
    have hl : listed = fullB ops.size ks := by
      apply Array.ext
      · rw [hls]; simp [fullB]
      · intro i h1 h2
        have hi : i < ops.size := by omega
        have key : listed.getD i true = (fullB ops.size ks).getD i true := by
          rw [fullB_get hi]
          by_cases hk : ks.contains i = true
          · rw [hk, hks i (List.contains_iff_mem.1 hk) true hi]; rfl
          · have hk' : ks.contains i = false := by simpa using hk
            have h3 := List.filter_eq_nil_iff.1 (List.length_eq_zero_iff.1 hf) i (List.mem_range.2 hi)
            rw [hk'] at h3 ⊢
            simpa using h3
        simpa [h1, h2] using key
    subst hl
    rw [Nat.zero_add]
    exact wpAny_of_seqT tail ks _ a w htl c6 (fin a w hG)
  | succ f ih =>
    intro listed a w hf hls hks hcl hG
    rw [show f + 1 + ks.length = (f + ks.length) + 1 from by omega]
    -- the first that has not come up
    have hex : ∃ j, j < ops.size ∧ ks.contains j = false ∧ listed.getD j true = false ∧ ∀ k, k < j → ks.contains k = false → listed.getD k true = true := by
      have hne : ∃ j, (j < ops.size ∧ ks.contains j = false ∧ listed.getD j true = false) := by
        have h0 : ((List.range ops.size).filter fun j => !ks.contains j && !listed.getD j true) ≠ [] := fun h => by
          unfold cntB at hf; rw [h] at hf; simp at hf
        obtain ⟨j, hj⟩ := List.exists_mem_of_ne_nil _ h0
        have := List.mem_filter.1 hj
        simp only [Bool.and_eq_true, Bool.not_eq_true'] at this
        exact ⟨j, List.mem_range.1 this.1, this.2.1, this.2.2⟩
      obtain ⟨j, hj⟩ := hne
      induction j using Nat.strongRecOn with
      | _ j ihj =>
        by_cases hk : ∃ k, k < j ∧ ks.contains k = false ∧ listed.getD k true = false
        · obtain ⟨k, h1, h2, h3⟩ := hk
          exact ihj k h1 ⟨by omega, h2, h3⟩
        · refine ⟨j, hj.1, hj.2.1, hj.2.2, fun k h1 h2 => ?_⟩
          cases h : listed.getD k true
          · exact absurd ⟨k, h1, h2, h⟩ hk
          · rfl
    obtain ⟨j, hj1, hj2, hj3, hj4⟩ := hex
    have hjr : j ∈ Region.ready .any ops listed := by
      obtain ⟨_, o, ho, h⟩ := hc4 j hj1 hj2
      refine mem_ready.2 ⟨hj3, o, ho, fun e he hb => ?_⟩
      obtain ⟨h1, h2⟩ := h e he hb
      have h3 := hj4 e.on h1 h2
      have h4 : e.on < listed.size := by omega
      simp [h4] at h3 ⊢
      exact h3
    have next : ∀ i, i ∈ Region.ready .any ops listed → ks.contains i = false → ∀ a' w', G (listed.setIfInBounds i true) a' w' → wpAny P .any ops Q (f + ks.length) (listed.setIfInBounds i true) a' w' := fun i hi hk a' w' hG' => by
      obtain ⟨hil, o, ho, hall⟩ := mem_ready.1 hi
      have hlt := (Array.getElem?_eq_some_iff.1 ho).1
      have := cnt_set hlt hk hil
      refine ih _ a' w' (by omega) (by simp [hls]) (fun k hkm d hlt' => ?_) (fun t p hp ht e he hb => ?_) hG'
      rotate_left
      · by_cases hti : i = t
        · subst hti
          obtain rfl := Option.some.inj (ho.symm.trans hp)
          exact getD_set_true (hall e he hb)
        · rw [getD_set_any hti] at ht
          exact getD_set_true (hcl t p hp ht e he hb)
      rw [getD_set_any (fun e => by subst e; rw [List.contains_iff_mem.2 hkm] at hk; cases hk)]
      exact hks k hkm d hlt'
    by_cases hz : ∃ z, z ∈ zs ∧ z ∈ Region.ready .any ops listed
    · obtain ⟨z, hzs, hzr⟩ := hz
      have hc := List.all_eq_true.1 c2 z hzs
      simp only [Bool.and_eq_true, decide_eq_true_eq, Bool.not_eq_true'] at hc
      obtain ⟨o, v, dd, ho, hdd, hy, hG'⟩ := hlazy z hzs listed a w hG hzr
      obtain ⟨_, o', ho', hall⟩ := mem_ready.1 hzr
      obtain rfl := Option.some.inj (ho.symm.trans ho')
      refine wpAny_first ho (Region.noSelect_spec c7) (fun c a w hq => hQ c a dd v w (by rw [hdd] at hq; exact hq)) _ listed a w (fun k ok hk hkz hkl hno => ?_) hzr hy (next z hzr hc.1.2 _ w hG')
      have hfr := hc.2
      unfold freeS at hfr
      rw [ho] at hfr
      simp only [Bool.and_eq_true] at hfr
      have h1 := List.all_eq_true.1 hfr.2 k (List.mem_range.2 (Array.getElem?_eq_some_iff.1 hk).1)
      rw [hk] at h1
      simp only [Bool.or_eq_true, beq_iff_eq, hkz, false_or] at h1
      rcases h1 with (h1 | h1) | h1
      · obtain ⟨e, he, hb⟩ := Array.any_eq_true'.1 h1
        simp only [Bool.and_eq_true, beq_iff_eq] at hb
        exact absurd hb.2 (hno e he hb.1)
      · obtain ⟨e, he, hb⟩ := Array.any_eq_true'.1 h1
        simp only [Bool.and_eq_true, beq_iff_eq] at hb
        have h2 := hall e he hb.1
        rw [hb.2, getD_both hkl] at h2; cases h2
      · exact h1
    · have hjn : j ∈ hs := by
        rcases (hc4 j hj1 hj2).1 with h | h
        · exact h
        · exact absurd ⟨j, h, hjr⟩ hz
      refine ⟨fun h => (by rw [h] at hjr; cases hjr), fun i hi => ?_⟩
      obtain ⟨hil, o, ho, hall⟩ := mem_ready.1 hi
      have hlt := (Array.getElem?_eq_some_iff.1 ho).1
      have hik : ks.contains i = false := by
        cases hk : ks.contains i
        · rfl
        · have hge : i ∉ hs := by have := List.all_eq_true.1 c3 i (List.contains_iff_mem.1 hk); simpa using this
          have hmem : i ∈ Region.ready .any ops (downB ops j (List.range ops.size) (fullB ops.size ks)) := by
            refine mem_ready.2 ⟨downB_no _ _ (by rw [fullB_get hlt, hk]; rfl), o, ho, fun e he hb => ?_⟩
            refine downB_le (getD_both hj3) hcl _ _ (fun t ht => ?_) e.on (hall e he hb)
            have hlt2 : t < ops.size := by
              rcases Nat.lt_or_ge t listed.size with g | g
              · omega
              · simp [Array.getElem?_eq_none g] at ht
            rw [fullB_get hlt2]
            cases hk2 : ks.contains t
            · rfl
            · rw [hks t (List.contains_iff_mem.1 hk2) false hlt2] at ht; cases ht
          have h2 := List.all_eq_true.1 (List.all_eq_true.1 c5 j hjn) i hmem
          rw [hk] at h2; cases h2
      have hin : i ∈ hs := by
        rcases (hc4 i hlt hik).1 with h | h
        · exact h
        · exact absurd ⟨i, h, hi⟩ hz
      exact wpOp_mono (fun a' w' hG' => next i hi hik a' w' hG') (hhead i hin listed a w hls hG hi)
end
section
variable {P : Program} {F : Nat → Prop} {w0 : World} {m0 : List BS} {n : Nat} {L : List (Nat × Value)} {fs : List RF} {os : List OF} {Q : Exit → Act → World → Prop}
/-- a told operation that does not look at the world -/
structure Zt where
  i : Nat
  d : Nat
  D : List Nat
def ztx : List Zt → List Nat
  | [] => []
  | z :: r => z.i :: ztx r
def LZA (P : Program) (ops : Array Oper) (F : Nat → Prop) (w0 : World) (m0 : List BS) (n : Nat) (L : List (Nat × Value)) (fs : List RF) (os : List OF) {chg : List BS} (E : List (Nat × Td (In chg))) : List Zt → Prop
  | [] => True
  | z :: r => (∃ o, ops[z.i]? = some o ∧ o.guard = none ∧ o.dst = some z.d ∧ z.d < n ∧ ∀ a w, St F w0 m0 n (cat (vals E z.D) L) fs os a w → pdeps E a w z.D → ∃ v, (∀ w', (execOp a.eval o).run P w' = .ok (.value v) w') ∧ lookE (tq E) z.d v w) ∧ LZA P ops F w0 m0 n L fs os E r
theorem LZA.get {ops : Array Oper} {chg : List BS} {E : List (Nat × Td (In chg))} : ∀ {Z : List Zt}, LZA P ops F w0 m0 n L fs os E Z → ∀ z ∈ Z, ∃ o, ops[z.i]? = some o ∧ o.guard = none ∧ o.dst = some z.d ∧ z.d < n ∧ ∀ a w, St F w0 m0 n (cat (vals E z.D) L) fs os a w → pdeps E a w z.D → ∃ v, (∀ w', (execOp a.eval o).run P w' = .ok (.value v) w') ∧ lookE (tq E) z.d v w
  | _ :: _, h, z, hz => (List.mem_cons.1 hz).elim (fun e => e ▸ h.1) fun hz => LZA.get h.2 z hz
/-- the slots of heads, told operations and the new block are all different, and not in use; what an operation reads it waits for -/
def okA (ops : Array Oper) (N k d : Nat) (L : List (Nat × Value)) (outs : List Nat) (Z : List Zt) : Bool :=
  Z.all (fun z => decide (N ≤ z.i) && z.i != k && z.D.all fun e => (List.range N ++ ztx Z).any fun j => dstOf ops j == some e && waitsA ops z.i j) &&
  (List.range N ++ ztx Z).all (fun j => dstOf ops j != some d && (List.range N ++ ztx Z).all fun k => j == k || (dstOf ops j).isNone || dstOf ops j != dstOf ops k) &&
  L.all (fun p => p.1 != d && Z.all fun z => z.d != p.1) && (outs.all fun e => (List.range N ++ ztx Z).any fun j => dstOf ops j == some e) && decide (N ≤ k) && decide (k < ops.size)
where waitsA (ops : Array Oper) (i j : Nat) : Bool := match ops[i]? with | some o => o.after.any (fun e => Region.binds .any e && e.on == j) | none => false
def MonoL {M : Nat → Prop} (u u' : World) : List (Nat × Td M) → List (Nat × Td M) → Prop
  | (i, p) :: r, (j, q) :: s => (i = j ∧ ∀ v, p.q.p v u → q.q.p v u') ∧ MonoL u u' r s
  | [], [] => True
  | _, _ => False
theorem MonoL.look {M : Nat → Prop} {u u' : World} {e : Nat} {v : Value} : ∀ {E E' : List (Nat × Td M)}, MonoL u u' E E' → lookE (tq E) e v u → lookE (tq E') e v u'
  | (i, p) :: r, (j, q) :: s, h, k => by
    obtain ⟨⟨rfl, h1⟩, h2⟩ := h
    unfold tq lookE at *
    cases hb : Nat.beq i e
    · rw [hb] at k; exact MonoL.look h2 k
    · rw [hb] at k; exact h1 v k
  | [], [], _, k => k
  | [], _ :: _, h, _ => h.elim
  | _ :: _, [], h, _ => h.elim
theorem Enc.al {α : Type} (E : Enc α) {x : α} {u u' : World} {zs : List Value} {t : TypeId} (H : E.wf (Fr F (ow (os ++ []))) u.heap x) (hs : u.heap.size < u'.heap.size) (g : Ch (In []) u u') : E.wf (Fr F (ow (os ++ [blO u.heap.size zs t]))) u'.heap x := by
  have h1 : E.wf (fun k => k < u.heap.size ∧ Fr F (ow (os ++ [])) k) u.heap x := E.mono (fun k hk h => ⟨hk, h⟩) H
  have h2 := E.keep (h' := u'.heap) ⟨g.size, fun k hk h => g.block k hk id⟩ h1
  refine E.mono (fun k _ h => ⟨fun hm => ?_, h.2.2⟩) h2
  rw [ow_app] at hm
  rcases in_app.1 hm with q | q
  · exact h.2.1 (by rw [List.append_nil]; exact q)
  · obtain rfl : k = u.heap.size := In.one.1 q
    exact absurd h.1 (Nat.lt_irrefl _)
end
end Go.Proofs.Ytobggnpnochnnaa.V
set_option linter.unusedVariables false
set_option linter.unusedSimpArgs false
namespace Go.Proofs.Ytobggnpnochnnaa.V
open Go.RowKit
section
variable {P : Program} {F : Nat → Prop} {w0 : World} {m0 : List BS} {n : Nat} {L : List (Nat × Value)} {fs : List RF} {os : List OF} {Q : Exit → Act → World → Prop}
def zvals (Z : List Zop) (L : List (Nat × Value)) : List (Nat × Value) := match Z with
  | [] => L
  | z :: r => (z.d, z.v) :: zvals r L
theorem zvals_slots {a : Act} : ∀ (Z : List Zop), Slots n L a → (∀ z ∈ Z, a.tmps.getD z.d undef = z.v) → Slots n (zvals Z L) a
  | [], s, _ => s
  | z :: r, s, h => (zvals_slots r s fun y hy => h y (List.mem_cons_of_mem _ hy)).ext (h z List.mem_cons_self)
end
end Go.Proofs.Ytobggnpnochnnaa.V
set_option linter.unusedVariables false
set_option linter.unusedSimpArgs false
namespace Go.Proofs.Ytobggnpnochnnaa.V
open Go.RowKit
section
variable {P : Program} {F : Nat → Prop} {w0 : World} {m0 : List BS} {n : Nat} {L : List (Nat × Value)} {fs : List RF} {os : List OF} {Q : Exit → Act → World → Prop}
/-- operations with a value each, in any world in which the facts os hold -/
def LZR (P : Program) (ops : Array Oper) (n : Nat) (L : List (Nat × Value)) (F : Nat → Prop) (w0 : World) (m0 : List BS) (fs : List RF) (os : List OF) (Z : List Zop) : List Zop → Prop
  | [] => True
  | z :: r => ((∃ o, ops[z.i]? = some o ∧ o.guard = none ∧ o.dst = some z.d ∧ ∀ a w, St F w0 m0 n (cat (vals (zTd Z) z.D) L) fs os a w → (execOp a.eval o).run P w = .ok (.value z.v) w) ∧ z.d < n ∧ lookT z.d (zTd Z) = some (.is z.v)) ∧ LZR P ops n L F w0 m0 fs os Z r
theorem zix_in {p : Zop} : ∀ {Z : List Zop}, p ∈ Z → p.i ∈ zix Z
  | y :: r, h => (List.mem_cons.1 h).elim (fun e => by subst e; exact List.mem_cons_self) fun h => List.mem_cons_of_mem _ (zix_in h)
theorem LZR.get {ops : Array Oper} {Z : List Zop} : ∀ {Y : List Zop}, LZR P ops n L F w0 m0 fs os Z Y → ∀ z ∈ Y, (∃ o, ops[z.i]? = some o ∧ o.guard = none ∧ o.dst = some z.d ∧ ∀ a w, St F w0 m0 n (cat (vals (zTd Z) z.D) L) fs os a w → (execOp a.eval o).run P w = .ok (.value z.v) w) ∧ z.d < n ∧ lookT z.d (zTd Z) = some (.is z.v)
  | _ :: _, h, z, hz => (List.mem_cons.1 hz).elim (fun e => e ▸ h.1) fun hz => LZR.get h.2 z hz
/-- each first index is waited for by the operation of the second one, which is N or has come before -/
def chainC (ops : Array Oper) : List Nat → List (Nat × Nat) → Bool
  | D, (i, k) :: r => D.contains k && okA.waitsA ops k i && chainC ops (i :: D) r
  | _, [] => true
theorem chainC_all {ops : Array Oper} {listed : Array Bool} (hcl : ∀ t o, ops[t]? = some o → listed.getD t false = true → ∀ e ∈ o.after, Region.binds .any e = true → listed.getD e.on false = true) : ∀ (C : List (Nat × Nat)) (D : List Nat), (∀ k ∈ D, ∀ o, ops[k]? = some o → ∀ e ∈ o.after, Region.binds .any e = true → listed.getD e.on false = true) → chainC ops D C = true → ∀ p ∈ C, listed.getD p.1 false = true
  | (i, k) :: r, D, hD, h, p, hp => by
    simp only [chainC, Bool.and_eq_true, List.contains_iff_mem] at h
    obtain ⟨⟨h1, h2⟩, h3⟩ := h
    have hi : listed.getD i false = true := by
      unfold okA.waitsA at h2
      cases ho : ops[k]? with
      | none => rw [ho] at h2; cases h2
      | some o =>
        rw [ho] at h2
        obtain ⟨e, he, hb⟩ := Array.any_eq_true'.1 h2
        simp only [Bool.and_eq_true, beq_iff_eq] at hb
        rw [← hb.2]; exact hD k h1 o ho e he hb.1
    rcases List.mem_cons.1 hp with rfl | hp
    · exact hi
    · exact chainC_all hcl r (i :: D) (fun q hq o ho => (List.mem_cons.1 hq).elim (fun e => by subst e; exact hcl q o ho hi) fun hq => hD q hq o ho) h3 p hp
def okE (ops : Array Oper) (N d : Nat) (L : List (Nat × Value)) (Z : List Zop) (C : List (Nat × Nat)) : Bool :=
  (List.range N).all (fun i => (Z.any fun z => z.i == i) || C.any fun p => p.1 == i) && chainC ops [N] C && C.all (fun p => decide (p.1 < N)) &&
  Z.all (fun z => z.i != N && z.d != d && (look z.d L).isNone && (z.D.all fun e => Z.any fun y => y.d == e && okA.waitsA ops z.i y.i) && (Z.all fun y => y.i == z.i || y.d != z.d) && (List.range N).all fun i => i == z.i || dstOf ops i != some z.d) &&
  (List.range N).all (fun i => dstOf ops i != some d) && (look d L).isNone && decide (N < ops.size)
theorem lzE {α : Type} {id : Nat} {a : Act} {w : World} {l : List Oper} {d : Nat} {t ts : TypeId} {ad : Option Addr} {cap : Nat} {xs : List α} {z : Value} {bytes : Nat} {s x : Operand} {ty : TypeId} {pos : String} {af : Array Edge} (En : Enc α) (γ : Type) (S : St F w0 m0 n L fs os a w) (N : Nat) (chg : List BS) (E : List (Nat × Td (In chg))) (Ds : List (List Nat)) (outs : List Nat) (Z : List Zop) (C : List (Nat × Nat)) (ks : List Nat) (tail : List Oper) (j : Nat) (hj : nth os j = some (rwO En t w0.heap.size ad cap xs))
    (V : γ → List (Nat × Value)) (R : γ → Prop) (ys : γ → List α) (step : HS P l.toArray Q F w0 w m0 n L fs os E 0 (l.take N) Ds) (lz0 : LZR P l.toArray n L F w0 m0 fs os Z Z) (lz1 : ∀ g ad' cap', LZR P l.toArray n L F w0 m0 fs (os.set j (rwO En t w0.heap.size ad' cap' (xs ++ ys g))) Z Z)
    (hEZ : ∀ p ∈ Z, p.i < N → lookT p.d E = some (.is p.v))
    (main : ∀ a w', St F w0 m0 n (cat (vals E outs) L) fs os a w' → Ch (In chg) w w' → pdeps E a w' outs → ∃ (g : γ) (sa : Option Addr) (sc : Nat) (D : Nat → Prop), Slots n (cat (V g) L) a ∧ R g ∧ evS (cat (V g) L) s = some (.slice ad xs.length cap) ∧ evS (cat (V g) L) x = some (.slice sa (ys g).length sc) ∧ LAt En D w'.heap sa (ys g) ∧ (sa = none → sc = 0) ∧ (∀ y ∈ ys g, En.wf (Fr F (ow os)) w'.heap y) ∧ (xs.length + (ys g).length ≤ maxLen ∧ (xs.length + (ys g).length) * bytes ≤ 140737488355328))
    (fin : ∀ g ad' cap' a w, St F w0 m0 n (zvals Z ((d, .slice ad' (xs ++ ys g).length cap') :: L)) fs (os.set j (rwO En t w0.heap.size ad' cap' (xs ++ ys g))) a w → R g → wpList P l.toArray Q tail a w)
    (ht : P.underlying ts = some (.slice t)) (hz : (P.info? t).map (fun i => (i.zero, i.size, i.bytes)) = some (some z, En.n, bytes)) (hzz : z.cells.size = En.n ∧ 0 < En.n := by exact ⟨rfl, by decide⟩) (ht1 : l.toArray[N]? = some ⟨some d, .call ⟨.builtin .append, #[s, x], #[ts, ts]⟩, ty, pos, af, none⟩ := by rfl) (htl : tail = pickT l ks := by rfl) (hm : P.follows .mixedOrders = true := by exact mixed)
    (hok : (headOk l.toArray N && depsOk l.toArray N 0 Ds && keysOk l.toArray N L && okE l.toArray N d L Z C && (outs.all fun e => isHead l.toArray N e && (List.range N).any fun i => dstOf l.toArray i == some e && okA.waitsA l.toArray N i) && chk6 l.toArray (List.range (N + 1) ++ (zix Z).filter (fun i => decide (N < i))) [] ks && ks.all fun k => decide (k < l.length)) = true := by kernel_rfl) (hlen : Ds.length = N := by rfl) (hdn : d < n := by decide)
    (hQ : ∀ c a d v w, Q (.panic c) (a.put (some d) v) w → Q (.panic c) a w := by exact fun _ _ _ _ _ h => h) : (Code.region id l.toArray true).wp P Q a w := by
  simp only [Bool.and_eq_true] at hok
  obtain ⟨⟨⟨⟨⟨⟨h1, h2⟩, h3⟩, h6⟩, h4⟩, h5⟩, h7⟩ := hok
  have htl' : tail.map some = ks.map fun k => l.toArray[k]? := htl ▸ pickT_map h7
  simp only [okE, Bool.and_eq_true, decide_eq_true_eq] at h6
  obtain ⟨⟨⟨⟨⟨⟨e1, e2⟩, e3⟩, e4⟩, e5⟩, e6⟩, e7⟩ := h6
  have h5' := h5
  simp only [chk6, Bool.and_eq_true, decide_eq_true_eq] at h5'
  obtain ⟨⟨⟨⟨⟨⟨⟨_, _⟩, c3⟩, _⟩, _⟩, _⟩, _⟩, c8⟩ := h5'
  have hNl : N ≤ l.length := by have : N < l.length := by simpa using e7
                                omega
  have hz2 : ∀ p ∈ Z, p.i ≠ N ∧ p.d ≠ d ∧ look p.d L = none ∧ (∀ e ∈ p.D, ∃ y ∈ Z, y.d = e ∧ okA.waitsA l.toArray p.i y.i = true) ∧ (∀ y ∈ Z, y.i ≠ p.i → y.d ≠ p.d) ∧ ∀ i, i < N → i ≠ p.i → dstOf l.toArray i ≠ some p.d := fun p hp => by
    have h := List.all_eq_true.1 e4 p hp
    simp only [Bool.and_eq_true, bne_iff_ne, Option.isNone_iff_eq_none] at h
    obtain ⟨⟨⟨⟨⟨a1, a2⟩, a3⟩, a4⟩, a5⟩, a6⟩ := h
    refine ⟨a1, a2, a3, fun e he => ?_, fun y hy hne => ?_, fun i hi hne => ?_⟩
    · obtain ⟨y, hy, h⟩ := List.any_eq_true.1 (List.all_eq_true.1 a4 e he)
      simp only [Bool.and_eq_true, beq_iff_eq] at h
      exact ⟨y, hy, h.1, h.2⟩
    · have := List.all_eq_true.1 a5 y hy
      simp only [Bool.or_eq_true, beq_iff_eq, bne_iff_ne] at this
      exact this.resolve_left hne
    · have := List.all_eq_true.1 a6 i (List.mem_range.2 hi)
      simp only [Bool.or_eq_true, beq_iff_eq, bne_iff_ne] at this
      exact this.resolve_left hne
  have hput : ∀ (a : Act) (o : Oper) (v : Value) d, o.dst ≠ some d → (a.put o.dst v).tmps.getD d undef = a.tmps.getD d undef := fun a o v d hd => by
    cases hod : o.dst with
    | none => rfl
    | some d' =>
      have : d' ≠ d := fun e => hd (by rw [hod, e])
      simp [Act.put, Array.getElem?_setIfInBounds_ne this]
  have hwt : ∀ (listed : Array Bool) (i : Nat) (o : Oper), l.toArray[i]? = some o → (∀ e ∈ o.after, Region.binds .any e = true → listed.getD e.on false = true) → ∀ k, okA.waitsA l.toArray i k = true → listed.getD k false = true := fun listed i o ho hall k hk => by
    unfold okA.waitsA at hk
    rw [ho] at hk
    obtain ⟨e, he, hb⟩ := Array.any_eq_true'.1 hk
    simp only [Bool.and_eq_true, beq_iff_eq] at hb
    rw [← hb.2]; exact hall e he hb.1
  have hsl : ∀ (a : Act) (o : Oper) (v : Value), (∀ i v, look i L = some v → o.dst ≠ some i) → Slots n L a → Slots n L (a.put o.dst v) := fun a o v hk s => by
    refine ⟨by cases o.dst <;> simp [Act.put, s.size], by cases o.dst <;> simp [Act.put, s.defers], fun i u hu => ?_⟩
    rw [hput a o v i (hk i u hu)]; exact s.get i u hu
  let G : Array Bool → Act → World → Prop := fun listed a w2 => (∀ t o, l.toArray[t]? = some o → listed.getD t false = true → ∀ e ∈ o.after, Region.binds .any e = true → listed.getD e.on false = true) ∧ Slots n L a ∧ (∀ p ∈ Z, listed.getD p.i false = true → a.tmps.getD p.d undef = p.v) ∧
    ((listed.getD N false = false ∧ Ch (In chg) w w2 ∧ Mm F w0 m0 fs os w2 ∧ ∀ i, i < N → listed.getD i false = true → ∀ o e, l.toArray[i]? = some o → o.dst = some e → lookE (tq E) e (a.tmps.getD e undef) w2) ∨
    (listed.getD N false = true ∧ (∀ p ∈ C, listed.getD p.1 false = true) ∧ ∃ g ad' cap', a.tmps.getD d undef = .slice ad' (xs ++ ys g).length cap' ∧ Mm F w0 m0 fs (os.set j (rwO En t w0.heap.size ad' cap' (xs ++ ys g))) w2 ∧ R g))
  have hstart : G (Array.replicate l.length false) a { w with drawn := w.drawn + 1 } :=
    ⟨fun t o _ ht => (by rw [getD_replicate_false] at ht; cases ht), ⟨S.s.size, S.s.defers, S.s.get⟩, fun p _ h => (by rw [getD_replicate_false] at h; cases h), .inl ⟨getD_replicate_false .., (Ch.refl _).drew, S.m.drew, fun i _ hl => by rw [getD_replicate_false] at hl; cases hl⟩⟩
  refine wp_region_any hm ?_
  have hc8 : cntB l.toArray.size ks (Array.replicate l.toArray.size false) + ks.length = l.toArray.size := c8
  suffices key : wpAny P .any l.toArray Q (cntB l.toArray.size ks (Array.replicate l.toArray.size false) + ks.length) (Array.replicate l.toArray.size false) a { w with drawn := w.drawn + 1 } by
    rw [hc8] at key; exact key
  refine sched6 (G := G) (List.range (N + 1) ++ (zix Z).filter (fun i => decide (N < i))) [] ks tail htl' h5 hQ ?_ (fun z hz => by cases hz) ?_ _ _ a _ rfl (by simp) (fun k hk d hlt => by simp [show k < l.length from by simpa using hlt]) (fun t _ _ ht => by rw [getD_replicate_false] at ht; cases ht) hstart
  · intro i hi listed a1 w1 hls hG hr
    obtain ⟨hil, o, ho, hall⟩ := mem_ready.1 hr
    have hlt : i < listed.size := by rw [hls]; exact (Array.getElem?_eq_some_iff.1 ho).1
    have hil' : listed.getD i false = false := by
      rw [Array.getD_eq_getD_getElem?, Array.getElem?_eq_getElem hlt] at hil ⊢
      exact hil
    obtain ⟨hcl, s, hZ, hcase⟩ := hG
    have hcl2 : ∀ t o, l.toArray[t]? = some o → (listed.setIfInBounds i true).getD t false = true → ∀ e ∈ o.after, Region.binds .any e = true → (listed.setIfInBounds i true).getD e.on false = true := fun t p hp ht e he hb => by
      by_cases hti : t = i
      · subst hti
        obtain rfl := Option.some.inj (ho.symm.trans hp)
        exact getD_set_true (hall e he hb)
      · rw [getD_set_any (Ne.symm hti)] at ht
        exact getD_set_true (hcl t p hp ht e he hb)
    by_cases hzi : ∃ p ∈ Z, p.i = i
    · obtain ⟨p, hp, rfl⟩ := hzi
      obtain ⟨n1, n2, n7, n8, n9, n10⟩ := hz2 p hp
      have hrun : ∀ os', Mm F w0 m0 fs os' w1 → LZR P l.toArray n L F w0 m0 fs os' Z Z → ∃ o', l.toArray[p.i]? = some o' ∧ o'.guard = none ∧ o'.dst = some p.d ∧ p.d < n ∧ (execOp a1.eval o').run P w1 = .ok (.value p.v) w1 := fun os' hM hl => by
        obtain ⟨⟨o', ho', hg, hd, hr⟩, hpn, _⟩ := hl.get p hp
        refine ⟨o', ho', hg, hd, hpn, hr a1 w1 ⟨?_, hM⟩⟩
        have hdp : ∀ D, (∀ d ∈ D, d ∈ p.D) → deps (tq (zTd Z : List (Nat × Td (In ([] : List BS))))) a1 w1 D := by
          intro D
          induction D with
          | nil => intro _; trivial
          | cons d r ih =>
            intro hs
            refine ⟨?_, ih fun d hd => hs d (List.mem_cons_of_mem _ hd)⟩
            obtain ⟨y, hy, rfl, hyw⟩ := n8 d (hs d List.mem_cons_self)
            rw [look_tq (hl.get y hy).2.2]
            exact hZ y hy (hwt listed p.i o ho hall y.i hyw)
        exact (deps_open s p.D (hdp p.D fun d hd => hd)).1
      have hZ2 : ∀ v, v = p.v → o.dst = some p.d → p.d < n → ∀ y ∈ Z, (listed.setIfInBounds p.i true).getD y.i false = true → (a1.put o.dst v).tmps.getD y.d undef = y.v := fun v hv hod hpn y hy hyl => by
        subst hv
        by_cases hyp : y.i = p.i
        · obtain ⟨⟨oy, hoy, _, hoyd, _⟩, _, hly⟩ := lz0.get y hy
          rw [hyp] at hoy
          obtain rfl := Option.some.inj (ho.symm.trans hoy)
          have hyd : p.d = y.d := Option.some.inj (hod.symm.trans hoyd)
          rw [← hyd, (lz0.get p hp).2.2] at hly
          have hv : p.v = y.v := by injection Option.some.inj hly
          rw [← hyd, hod, getD_put a1 p.d p.d p.v (by rw [s.size]; exact hpn), if_pos rfl, hv]
        · rw [getD_set_any (fun e => hyp e.symm)] at hyl
          rw [hput a1 o p.v y.d (by rw [hod]; exact fun e => n9 y hy hyp (Option.some.inj e).symm)]
          exact hZ y hy hyl
      rcases hcase with ⟨k0, hC, hM, hdone⟩ | ⟨k1, hc, g, ad', cap', hsd, hM, hR⟩
      · obtain ⟨o', ho', hg, hd, hpn, hrn⟩ := hrun os hM lz0
        obtain rfl := Option.some.inj (ho.symm.trans ho')
        refine head_op ho hg (op_val hrn ⟨hcl2, hsl a1 o p.v (fun i v hv e => by rw [hd] at e; rw [Option.some.inj e] at n7; rw [n7] at hv; cases hv) s, hZ2 p.v rfl hd hpn, .inl ⟨by rw [getD_set_any n1]; exact k0, hC, hM, fun q hq hql p' e hp' he => ?_⟩⟩)
        by_cases hqi : q = p.i
        · subst hqi
          obtain rfl := Option.some.inj (ho.symm.trans hp')
          have := Option.some.inj (hd.symm.trans he)
          subst this
          rw [hd, getD_put a1 p.d p.d p.v (by rw [s.size]; exact hpn), if_pos rfl]
          exact (look_tq (hEZ p hp hq)).2 rfl
        · rw [getD_set_any (fun e => hqi e.symm)] at hql
          have hne : o.dst ≠ some e := fun h => n10 q hq hqi (by simp only [dstOf, hp', Option.bind_some, he]; rw [← h, hd])
          rw [hput a1 o p.v e hne]; exact hdone q hq hql p' e hp' he
      · obtain ⟨o', ho', hg, hd, hpn, hrn⟩ := hrun _ hM (lz1 g ad' cap')
        obtain rfl := Option.some.inj (ho.symm.trans ho')
        refine head_op ho hg (op_val hrn ⟨hcl2, hsl a1 o p.v (fun i v hv e => by rw [hd] at e; rw [Option.some.inj e] at n7; rw [n7] at hv; cases hv) s, hZ2 p.v rfl hd hpn, .inr ⟨by rw [getD_set_any n1]; exact k1, fun q hq => getD_set_true (hc q hq), g, ad', cap', ?_, hM, hR⟩⟩)
        rw [hput a1 o p.v d (by rw [hd]; exact fun e => n2 (Option.some.inj e))]; exact hsd
    · have hiN : i < N + 1 := by
        rcases List.mem_append.1 hi with h | h
        · exact List.mem_range.1 h
        · obtain ⟨p, hp, hpi⟩ := zix_mem (List.mem_filter.1 h).1
          exact absurd ⟨p, hp, hpi⟩ hzi
      by_cases hN : i = N
      · subst hN
        obtain rfl := Option.some.inj (ht1.symm.trans ho)
        rcases hcase with ⟨k0, hC, hM, hdone⟩ | ⟨k1, _⟩
        · have hdeps : ∀ D, (∀ d ∈ D, d ∈ outs) → deps (tq E) a1 w1 D := by
            intro D
            induction D with
            | nil => intro _; trivial
            | cons e r ih =>
              intro hsub
              refine ⟨?_, ih fun d hd => hsub d (List.mem_cons_of_mem _ hd)⟩
              have h8 := List.all_eq_true.1 h4 e (hsub e List.mem_cons_self)
              simp only [Bool.and_eq_true] at h8
              obtain ⟨q, hq, h9⟩ := List.any_eq_true.1 h8.2
              simp only [Bool.and_eq_true, beq_iff_eq] at h9
              cases hp : l.toArray[q]? with
              | none => simp [dstOf, hp] at h9
              | some p => exact hdone q (List.mem_range.1 hq) (hwt listed i _ ht1 hall q h9.2) p e hp (by simpa [dstOf, hp] using h9.1)
          obtain ⟨f1, f2⟩ := deps_open s outs (hdeps outs fun d hd => hd)
          obtain ⟨g, sa, sc, D, k1, k2, k3, k4, k5, k6, k7, k8⟩ := main a1 w1 ⟨f1, hM⟩ hC f2
          have e1' := rowSplit hj
          have hCl := chainC_all (listed := listed) hcl C [i] (fun k hk o ho2 => by
            obtain rfl := List.mem_singleton.1 hk
            obtain rfl := Option.some.inj (ht1.symm.trans ho2)
            exact hall) e2
          refine head_op ho rfl (op_append (E := En) ((ow os).take j) ((ow os).drop (j + 1)) _ _ ts rfl z bytes ht hz hzz.1 hzz.2 (rowSplit hj) hM.c.ms (k1.eval k3) (St.row ⟨k1, hM⟩ j hj) (ys g) sa sc (k1.eval k4) k5 k6 k7 k8.1 k8.2 hM.c.size fun ad' cap' w2 Rw T gg => ?_)
          have e2' := ow_setx (g := rwO En t w0.heap.size ad' cap' (xs ++ ys g)) hj
          have T' : Tr (ow os) w1 (ow (os.set j (rwO En t w0.heap.size ad' cap' (xs ++ ys g)))) w2 := by
            rw [e2']; conv => arg 1; rw [e1']
            exact T
          refine ⟨hcl2, hsl a1 _ _ (fun i2 v hv e => ?_) s, fun p hp hpl => ?_, .inr ⟨by simp [hlt], fun q hq => getD_set_true (hCl q hq), g, ad', cap', ?_, hM.sw j hj _ T' gg (by rw [e2']; exact ⟨Rw.own, Rw.wf⟩), k2⟩⟩
          · have := Option.some.inj e
            subst this
            rw [Option.isNone_iff_eq_none.1 e6] at hv; cases hv
          · obtain ⟨n1, n2, _⟩ := hz2 p hp
            rw [getD_set_any (fun e => n1 e.symm)] at hpl
            rw [hput a1 _ _ p.d (fun e => n2 (Option.some.inj e).symm)]; exact hZ p hp hpl
          · exact (getD_put a1 d d _ (by rw [s.size]; exact hdn)).trans (if_pos rfl)
        · rw [hil'] at k1; cases k1
      · have hi2 : i < N := by omega
        rcases hcase with ⟨k0, hC, hM, hdone⟩ | ⟨k1, hc, _⟩
        · obtain ⟨o', D, q1, q2, h⟩ := steps_get (l.take N) Ds 0 i (by omega) (by simp; omega) (HS.steps _ _ _ step)
          obtain rfl : o' = o := by
            rw [List.getElem?_take_of_lt hi2] at q1
            have : l.toArray[i]? = l[i]? := by simp
            rw [this, q1] at ho
            exact Option.some.inj ho
          have hdep : ∀ D', (∀ d ∈ D', d ∈ D) → deps (tq E) a1 w1 D' := by
            intro D'
            induction D' with
            | nil => intro _; trivial
            | cons d r ih =>
              intro hsub
              refine ⟨?_, ih fun d hd => hsub d (List.mem_cons_of_mem _ hd)⟩
              have hget : ∀ (Ds : List (List Nat)) (k i : Nat), depsOk l.toArray N k Ds = true → Ds[i]? = some D → ∃ o, l.toArray[k + i]? = some o ∧ ∀ d ∈ D, d ∈ o.looksAt l.toArray ∧ isHead l.toArray N d = true := by
                intro Ds
                induction Ds with
                | nil => intro k i _ h; simp at h
                | cons D0 Ds ih =>
                  intro k i hk hi
                  simp only [depsOk, Bool.and_eq_true] at hk
                  cases i with
                  | zero =>
                    obtain rfl : D0 = D := by simpa using hi
                    cases hp : l.toArray[k]? with
                    | none => rw [hp] at hk; cases hk.1
                    | some p =>
                      rw [hp] at hk
                      refine ⟨p, rfl, fun d hd => ?_⟩
                      have := List.all_eq_true.1 hk.1 d hd
                      simpa [Bool.and_eq_true, List.contains_iff_mem] using this
                  | succ i =>
                    obtain ⟨o, g1, g2⟩ := ih (k + 1) i hk.2 (by simpa using hi)
                    exact ⟨o, by rw [show k + (i + 1) = k + 1 + i from by omega]; exact g1, g2⟩
              obtain ⟨o2, g1, g2⟩ := hget Ds 0 i h2 q2
              rw [Nat.zero_add, ho] at g1
              obtain rfl := Option.some.inj g1
              obtain ⟨g3, g4⟩ := g2 d (hsub d List.mem_cons_self)
              obtain ⟨j, p, g5, g6, g7⟩ := isHead_spec g4
              have q1 := List.all_eq_true.1 h1 i (List.mem_range.2 hi2)
              simp only [ho, Bool.and_eq_true] at q1
              have q2 := List.all_eq_true.1 q1.2 j (List.mem_range.2 g5)
              simp only [g6, g7, Bool.and_eq_true, Bool.or_eq_true, Bool.not_eq_true'] at q2
              rcases q2.2 with q3 | q3
              · rw [List.contains_eq_mem] at q3
                simp [g3] at q3
              · obtain ⟨e, he, hb⟩ := Array.any_eq_true'.1 q3
                simp only [Bool.and_eq_true, beq_iff_eq] at hb
                exact hdone j g5 (by rw [← hb.2]; exact hall e he hb.1) p d g6 g7
          have h' := h a1 w1 hC hM s (hdep D fun d hd => hd)
          rw [Nat.zero_add] at h'
          refine wpOp_mono ?_ h'
          rintro a' w2 ⟨⟨v, rfl, hd'⟩, hc, hi'⟩
          refine ⟨hcl2, hsl a1 o' v (fun i0 v hv hd => ?_) s, fun p hp hpl => ?_, .inl ⟨by rw [getD_set_any hN]; exact k0, hC.same hc, hi', fun q hq hql p e hp he => ?_⟩⟩
          · have := List.all_eq_true.1 h3 _ (look_mem hv)
            have h : isHead l.toArray N i0 = true := List.any_eq_true.2 ⟨i, List.mem_range.2 hi2, by rw [ho]; simp [hd]⟩
            rw [h] at this; cases this
          · have hpi : p.i ≠ i := fun e => hzi ⟨p, hp, e⟩
            rw [getD_set_any (fun e => hpi e.symm)] at hpl
            have hne : o'.dst ≠ some p.d := fun h => (hz2 p hp).2.2.2.2.2 i hi2 (fun e => hpi e.symm) (by simp only [dstOf, ho, Option.bind_some, h])
            rw [hput a1 o' v p.d hne]; exact hZ p hp hpl
          · by_cases hqi : q = i
            · subst hqi
              obtain rfl : o' = p := Option.some.inj (ho.symm.trans hp)
              obtain ⟨k1, k2⟩ := hd' e he
              rw [he, getD_put a1 e e v (by rw [s.size]; exact k1), if_pos rfl]; exact k2
            · rw [getD_set_any (fun e => hqi e.symm)] at hql
              have hne : o'.dst ≠ some e := fun h => by
                have r1 := List.all_eq_true.1 h1 i (List.mem_range.2 hi2)
                simp only [ho, Bool.and_eq_true] at r1
                have r2 := List.all_eq_true.1 r1.2 q (List.mem_range.2 hq)
                simp only [hp, he, h] at r2
                simp [hqi, Ne.symm hqi] at r2
              rw [hput a1 o' v e hne]
              exact lookE_st _ e _ _ _ hc (hdone q hq hql p e hp he)
        · have h8 := List.all_eq_true.1 e1 i (List.mem_range.2 hi2)
          rcases Bool.or_eq_true_iff.1 h8 with h9 | h9
          · obtain ⟨p, hp, h⟩ := List.any_eq_true.1 h9
            exact absurd ⟨p, hp, by simpa using h⟩ hzi
          · obtain ⟨p, hp, h⟩ := List.any_eq_true.1 h9
            have := hc p hp
            rw [show p.1 = i from by simpa using h, hil'] at this; cases this
  · intro a1 w1 hG
    obtain ⟨hcl, s, hZ, hcase⟩ := hG
    have hnk : ∀ i, i ∈ List.range (N + 1) ++ (zix Z).filter (fun i => decide (N < i)) → i < l.toArray.size → (fullB l.toArray.size ks).getD i false = true := fun i hi hlt => by
      rw [fullB_get hlt]
      cases hk : ks.contains i
      · rfl
      · have := List.all_eq_true.1 c3 i (List.contains_iff_mem.1 hk)
        rw [Bool.not_eq_true', List.contains_eq_mem] at this
        simp only [decide_eq_false_iff_not] at this
        exact absurd hi this
    have hkk := hnk N (List.mem_append.2 (.inl (List.mem_range.2 (by omega)))) (by simpa using e7)
    rcases hcase with ⟨k0, _⟩ | ⟨_, _, g, ad', cap', hsd, hM, hR⟩
    · rw [hkk] at k0; cases k0
    · refine fin g ad' cap' a1 w1 ⟨zvals_slots Z (s.ext hsd) fun p hp => hZ p hp ?_, hM⟩ hR
      obtain ⟨⟨o, ho, _⟩, _⟩ := lz0.get p hp
      refine hnk p.i (List.mem_append.2 ?_) (Array.getElem?_eq_some_iff.1 ho).1
      by_cases h : p.i < N + 1
      · exact .inl (List.mem_range.2 h)
      · exact .inr (List.mem_filter.2 ⟨zix_in hp, by simp; omega⟩)
end
end Go.Proofs.Ytobggnpnochnnaa.V
namespace Go.Proofs.Ytobggnpnochnnaa.V
open Go.RowKit Go.Proofs.Ytobggnpnochnnaa
set_option linter.unusedVariables false
set_option linter.unusedSimpArgs false
set_option maxHeartbeats 2000000 in
set_option maxRecDepth 20000 in
theorem gSpoil (w : World) (F : Nat → Prop) (hF : Old F w) (T : Nat) (M : MS [one T] w) (T_l : Sl Int) (T_w : (slE intE).wf (Fr F [one T]) w.heap T_l) (T_K : TpB 112 T T_l w) (p : Plan) (p_w : planE.wf (Fr F [one T]) w.heap p) (hb : p.rounds.xs.length ≤ 3 ∧ ∀ x ∈ p.rounds.xs, 0 < x.xs.length ∧ x.xs.length ≤ 1000) :
 Calls Try.prog 31 #[pT T 0, .agg (planE.cells p).toArray] w fun e w' => ∃ (r : Plan), e = .returned (.agg (planE.cells r).toArray) ∧ planE.wf (Fr F [one T]) w'.heap r ∧ r.rounds.xs.length ≤ 10 ∧ TpB 112 T T_l w' ∧ Tr [one T] w [one T] w' := by
 have : p.rounds.xs.length ≤ 9223372036854775807 := (p_w.2).1.len
 obtain ⟨hb1, hb2⟩ := hb
 refine go Try.func31 rfl 102 rfl [wfF (slE intE) T_l, wfF planE p] [tpO 112 T T_l] hF M ⟨T_w, p_w, trivial⟩ ⟨T_K, trivial⟩ ?_
 intro a S
 refine rs0 ?_
 refine nbp S (x_box _ (S.e rfl) rfl) ?_; clear S; intro a u b3 S
 refine nbp S (x_allocz _ iZ47 rfl) ?_; clear S; intro a u b4 S
 refine ent (rs0 ?_)
 refine sp S (tr (fldi 0 0 rfl uT47)<|tr (ldk 1 sC4 rfl rfl rfl)<|la (ov fun S=>x_bd S [(0, bD (p.staged = true))] [bD (p.staged = true), .slice none 0 0])) ?_; clear S; intro a u S
 refine nbp S (x_allocz _ iZ47 rfl) ?_; clear S; intro a u b5 S
 refine ens S (la (stkw 3 rfl rfl rfl)) ?_; clear S; intro a u S
 refine wp_seq ?_
 refine rs S (la (av rfl)) ?_; clear S; intro a u S
 refine wp_block ?_
 replace S := S.l0 (rwS chgE 124 w.heap.size)
 replace S := S.nr (rawE (β := Chg)) 122
 refine lp4 (fun (j : Nat) (rw_a : Option Addr) (rw_c : Nat) (rw : List (Sl Chg)) => [(0, pT T 0), (3, pT b3 0), (4, pT b4 0), (5, pT b5 0), (6, iN j)]) (fun (j : Nat) (rw_a : Option Addr) (rw_c : Nat) (rw : List (Sl Chg)) => [tpO 112 T T_l, blO b3 (planE.cells p) 47, blO b4 [.bool false, .slice none 0 0] 47, blO b5 [bD (p.staged = true), .slice rw_a rw.length rw_c] 47, lsO (rwS chgE 124 w.heap.size) rw, rwO (rawE (β := Chg)) 122 w.heap.size rw_a rw_c rw]) (fun (j : Nat) (rw_a : Option Addr) (rw_c : Nat) (rw : List (Sl Chg)) => j ≤ p.rounds.xs.length ∧ rw.length = j ∧ ∀ x ∈ rw, 0 < x.xs.length ∧ x.xs.length ≤ 1000) (fun (j : Nat) (rw_a : Option Addr) (rw_c : Nat) (rw : List (Sl Chg)) => p.rounds.xs.length - j) S 0 none 0 ([]) (subM rfl) rfl ?_ ?_
 ·exact ⟨Nat.zero_le _, rfl, fun x h => by cases h⟩
 clear S; intro j rw_a rw_c rw a u S hR
 have rw_len := (S.row 5 rfl).len_le; simp only [maxLen] at rw_len
 obtain ⟨hj, hrwl, hne⟩ := hR
 refine wp_seq ?_
 have hn5 : p.rounds.xs.length ≤ 9223372036854775807 := ((S.u 1 rfl).2).1.len
 refine rs S (tr (mv rfl)<|tr (fldi 0 1 rfl uT47)<|tr (ldk 1 sC45 rfl rfl rfl)<|tr (leni uT45 rfl)<|la (lssi rfl rfl)) ?_; clear S; intro a u S
 refine cd S rfl ?_ ?_
 ·intro hc0
  have hxj := hb2 _ (getD_mem (d := (slE chgE).dflt) (i := j) (by omega))
  refine wp_skip (then_n (wp_seq (wp_block ?_)))
  have hn6 : ((p.rounds.xs.getD j (slE chgE).dflt).xs).length ≤ 9223372036854775807 := ((((S.u 1 rfl).2).1.wf j (by omega))).1.len
  obtain ⟨z0, hz0⟩ := S.z
  refine dr3 (P := Try.prog) S 10 [19, 25, 26] [(19, 26)] [] [(17, .is _), (18, .is _), (19, nilT 124 z0 _), (20, .is _), (21, .is _), (22, .is _), (23, .is _), (24, .is _), (25, rowT chgE 124 z0 _ ((p.rounds.xs.getD j (slE chgE).dflt).xs)), (26, rlT chgE 124 ((p.rounds.xs.getD j (slE chgE).dflt).xs) 122 z0 _)] [[], [17], [], [], [20], [], [21, 22], [23], [19, 24], [25]] [18, 26] _ ⟨⟨_, rfl, nilT_owns⟩, ⟨_, rfl, rowT_owns⟩, ⟨_, rfl, rlT_owns⟩, trivial⟩ ⟨qdc (qd (fldi 0 1 rfl uT47)), qdc (qd (ldk 3 sC45 rfl rfl rfl)), hcn rfl hz0 uT122 iZ124, qdc (qd (fldi 0 1 rfl uT47)), qdc (qd (ldk 1 sC45 rfl rfl rfl)), qdc (qd (mv rfl)), qdc (qd (idxi uT45 sZ122 rfl rfl j rfl (by omega) (((S.u 1 rfl).2).1.adr (i := j) (by omega)))), qdc (qd (ov fun S=>x_load sC122 (S.e rfl) (((S.u 1 rfl).2).1.cell j (by omega) 0 _ rfl))), ?_, ?_, trivial⟩ ?_
  ·skip
   intro a u S G hE _; obtain ⟨e19, -⟩ := hE; obtain ⟨x19, e19, X19, hg19, hn19⟩ := e19; have M0 := S.m; replace S := S.ext e19
   exact hca 19 S M0 G rfl hz0 ⟨e19, X19, hg19, hn19⟩ rfl rfl ((((S.u 1 rfl).2).1.wf j (by omega))).1 ⟨by unfold maxLen; omega, by omega⟩ uT122 iZ124 rfl
  ·skip
   intro a u S G hE _; obtain ⟨e25, -⟩ := hE; obtain ⟨ad25, cap25, e25, X25, hn25⟩ := e25; have M0 := S.m; replace S := S.ext e25
   exact hrl M0 G rfl hz0 ⟨e25, X25, hn25⟩ (x_bs S [(0, .slice ad25 ((p.rounds.xs.getD j (slE chgE).dflt).xs).length cap25)] uT45 iZ122)
  have S0 := S
  clear S; intro a u S G hE hP
  obtain ⟨e26, -⟩ := hE
  obtain ⟨ad26, cap26, b26, e26, Y26, hg26, hm26, X26, hn26, hd26⟩ := e26; replace S := S.ext e26
  have hsep : Sep (ow [rwO chgE 124 w.heap.size ad26 cap26 ((p.rounds.xs.getD j (slE chgE).dflt).xs)]) := by
   refine ⟨?_, trivial⟩
   intro k hk hm
   exact hm
  replace S := S0.ownM S [] G (by intro j f hj; simp at hj) [rwO chgE 124 w.heap.size ad26 cap26 ((p.rounds.xs.getD j (slE chgE).dflt).xs)] hsep (by
   intro f hf; simp only [List.mem_cons, List.not_mem_nil, or_false] at hf; subst hf
   ·exact fun k hk => let ⟨q2, q3⟩ := row_blk X26 k hk; ⟨hz0 ▸ q2, q3⟩) (by
   intro m f hf; simp only [List.mem_cons, List.not_mem_nil, or_false] at hf; subst hf
   exact ⟨Row.lower3 X26 (by have := S0.m.c.size; omega), fun x hx => Enc.mv _ m (LAt.mem ((((S0.u 1 rfl).2).1.wf j (by omega))).1 x hx)⟩)
  replace S := S.ar (wfF (slE (rawE (β := Chg))) (Sl.mk (some ⟨b26, 0, none⟩) 1 [(Sl.mk ad26 cap26 ((p.rounds.xs.getD j (slE chgE).dflt).xs))])) (sl_of_blk Y26 [(Sl.mk ad26 cap26 ((p.rounds.xs.getD j (slE chgE).dflt).xs))] 1 rfl (by decide) (by decide) rfl (fr_rl (nw := [rwO chgE 124 w.heap.size ad26 cap26 ((p.rounds.xs.getD j (slE chgE).dflt).xs)]) S0 (hz0 ▸ hg26) (by intro h; first | exact hd26 (h.elim id False.elim) | (simp only [ow, In] at h; simp_all))) (fun x hx => trivial))
  clear S0 hsep
  refine ap (E := (rawE (β := Chg))) (ys := [(Sl.mk ad26 cap26 ((p.rounds.xs.getD j (slE chgE).dflt).xs))]) S 5 rfl uT45 iZ122 rfl rfl (show LAt (rawE (β := Chg)) _ _ (some ⟨b26, 0, none⟩) ([(Sl.mk ad26 cap26 ((p.rounds.xs.getD j (slE chgE).dflt).xs))]) from ((S.u 2 rfl)).1) ((S.u 2 rfl)).2.2 (LAt.mem (show LAt (rawE (β := Chg)) _ _ (some ⟨b26, 0, none⟩) ([(Sl.mk ad26 cap26 ((p.rounds.xs.getD j (slE chgE).dflt).xs))]) from ((S.u 2 rfl)).1)) ⟨by unfold maxLen; (try simp only [List.length_cons, List.length_nil, List.length_append, List.length_map]); omega, by (try simp only [List.length_cons, List.length_nil, List.length_append, List.length_map]); omega⟩ ?_; clear S; intro a u ad27 cap27 S
  refine en S (tr (fldi 0 1 rfl uT47)<|la (stk 3 rfl rfl rfl)) ?_; clear S; intro a u S
  refine blk_n (then_n (r0 ?_))
  refine sp S (tr (mv rfl)<|la (addi ((j + 1 : Nat) : Int) rfl rfl (w_i64 (by omega)))) ?_; clear S; intro a u S
  replace S := S.pk [0, 1, 2, 3, 5, 4, 6] (os' := [tpO 112 T T_l, blO b3 (planE.cells p) 47, blO b4 [.bool false, .slice none 0 0] 47, blO b5 [bD (p.staged = true), .slice ad27 ((rw ++ [(Sl.mk ad26 cap26 ((p.rounds.xs.getD j (slE chgE).dflt).xs))]).length) cap27] 47, rwO (rawE (β := Chg)) 122 w.heap.size ad27 cap27 (rw ++ [(Sl.mk ad26 cap26 ((p.rounds.xs.getD j (slE chgE).dflt).xs))]), lsO (rwS chgE 124 w.heap.size) rw, rwO chgE 124 w.heap.size ad26 cap26 ((p.rounds.xs.getD j (slE chgE).dflt).xs)])
  replace S := (show St _ _ _ _ _ _ [tpO 112 T T_l, blO b3 (planE.cells p) 47, blO b4 [.bool false, .slice none 0 0] 47, blO b5 [bD (p.staged = true), .slice ad27 ((rw ++ [(Sl.mk ad26 cap26 ((p.rounds.xs.getD j (slE chgE).dflt).xs))]).length) cap27] 47, rwO (rawE (β := Chg)) 122 w.heap.size ad27 cap27 (rw ++ [(Sl.mk ad26 cap26 ((p.rounds.xs.getD j (slE chgE).dflt).xs))]), lsO (rwS chgE 124 w.heap.size) (rw ++ [(Sl.mk ad26 cap26 ((p.rounds.xs.getD j (slE chgE).dflt).xs))])] _ _ from S.lpush (ks := [tpO 112 T T_l, blO b3 (planE.cells p) 47, blO b4 [.bool false, .slice none 0 0] 47, blO b5 [bD (p.staged = true), .slice ad27 ((rw ++ [(Sl.mk ad26 cap26 ((p.rounds.xs.getD j (slE chgE).dflt).xs))]).length) cap27] 47, rwO (rawE (β := Chg)) 122 w.heap.size ad27 cap27 (rw ++ [(Sl.mk ad26 cap26 ((p.rounds.xs.getD j (slE chgE).dflt).xs))])]) (x := (Sl.mk ad26 cap26 ((p.rounds.xs.getD j (slE chgE).dflt).xs))))
  refine en S (la (av rfl)) ?_; clear S; intro a u S
  replace S := S.pk [0, 1, 2, 3, 5, 4]
  refine then_n ?_
  refine ⟨(j + 1), ad27, cap27, (rw ++ [(Sl.mk ad26 cap26 ((p.rounds.xs.getD j (slE chgE).dflt).xs))]), S.re (subM rfl) rfl rfl, ?_, ?_⟩
  ·refine ⟨by omega, by rw [List.length_append, List.length_singleton]; omega, fun x hx => ?_⟩
   rcases List.mem_append.1 hx with q | q
   ·exact hne x q
   obtain rfl := List.mem_singleton.1 q
   exact hxj
  omega
 intro hc1
 refine wp_exit (then_e (then_e (blk_e (then_n (wp_seq (rs0 ?_))))))
 refine sp S (la (mv rfl)) ?_; clear S; intro a u S
 refine cl S (gNext _ _ S.x T (S.M.pick [0] (by decide)) T_l (dn1 (js := [0]) (S.u 0 rfl)) (S.t 0 rfl) 5 ⟨by omega, by omega⟩) cB26 ?_
 rintro e u ⟨r_t30, rfl, hr_t30, tK, T0⟩; refine ⟨_, rfl, fun a s => ?_⟩
 replace S := S.k1 0 rfl s T0 tK; clear s T0 tK
 refine ent (wp_block ?_)
 refine rs S (tr (eqli rfl rfl)<|la (av rfl)) ?_; clear S; intro a u S
 refine cd S rfl ?_ ?_
 ·intro hc2
  refine r0 ?_
  refine sp S (tr (fldi 0 1 rfl uT47)<|la (ldk 3 sC45 rfl rfl rfl)) ?_; clear S; intro a u S
  refine nbs (rawE (β := Chg)) S [(Sl.mk none 0 ([] : List Chg))] (x_bs S [(0, .slice none 0 0)] uT45 iZ122) (fun x hx => by simp only [List.mem_cons, List.not_mem_nil, or_false] at hx; rw [hx]; exact (show (rawE (β := Chg)).wf _ _ (Sl.mk none 0 ([] : List Chg)) from trivial)) ?_; clear S; intro a u b56 S
  refine ap (E := (rawE (β := Chg))) (ys := [(Sl.mk none 0 ([] : List Chg))]) S 5 rfl uT45 iZ122 rfl rfl (show LAt (rawE (β := Chg)) _ _ (some ⟨b56, 0, none⟩) ([(Sl.mk none 0 ([] : List Chg))]) from ((S.u 2 rfl)).1) ((S.u 2 rfl)).2.2 (LAt.mem (show LAt (rawE (β := Chg)) _ _ (some ⟨b56, 0, none⟩) ([(Sl.mk none 0 ([] : List Chg))]) from ((S.u 2 rfl)).1)) ⟨by unfold maxLen; (try simp only [List.length_cons, List.length_nil, List.length_append, List.length_map]); omega, by (try simp only [List.length_cons, List.length_nil, List.length_append, List.length_map]); omega⟩ ?_; clear S; intro a u ad57 cap57 S
  refine en S (tr (fldi 0 1 rfl uT47)<|la (stk 3 rfl rfl rfl)) ?_; clear S; intro a u S
  refine blk_n (then_n (rs0 ?_))
  refine sp S (la (ldkw 3 rfl rfl wD47)) ?_; clear S; intro a u S
  replace S := S.pk [0, 1, 2, 3, 5, 4] (os' := [tpO 112 T T_l, blO b3 (planE.cells p) 47, blO b4 [.bool false, .slice none 0 0] 47, blO b5 [bD (p.staged = true), .slice ad57 ((rw ++ [(Sl.mk none 0 ([] : List Chg))]).length) cap57] 47, rwO (rawE (β := Chg)) 122 w.heap.size ad57 cap57 (rw ++ [(Sl.mk none 0 ([] : List Chg))]), lsO (rwS chgE 124 w.heap.size) rw])
  replace S := (show St _ _ _ _ _ _ [tpO 112 T T_l, blO b3 (planE.cells p) 47, blO b4 [.bool false, .slice none 0 0] 47, blO b5 [bD (p.staged = true), .slice ad57 ((rw ++ [(Sl.mk none 0 ([] : List Chg))]).length) cap57] 47, rwO (rawE (β := Chg)) 122 w.heap.size ad57 cap57 (rw ++ [(Sl.mk none 0 ([] : List Chg))])] _ _ from S.fzL (ks := [tpO 112 T T_l, blO b3 (planE.cells p) 47, blO b4 [.bool false, .slice none 0 0] 47, blO b5 [bD (p.staged = true), .slice ad57 ((rw ++ [(Sl.mk none 0 ([] : List Chg))]).length) cap57] 47, rwO (rawE (β := Chg)) 122 w.heap.size ad57 cap57 (rw ++ [(Sl.mk none 0 ([] : List Chg))])]) (by show 0 < chgE.n; decide))
  replace S := S.fz 4 rfl
  replace S := S.ar (wfF (slE (slE chgE)) (Sl.mk ad57 cap57 (rw ++ [(Sl.mk none 0 ([] : List Chg))]))) (raw_wf (S.u 4 rfl) (all_app (S.u 3 rfl) sl_nil))
  refine ens S (la (stkw 2 rfl rfl rfl)) ?_; clear S; intro a u S
  refine wp_ret ?_
  refine retcw rfl S.s rfl [bD (p.staged = true), .slice ad57 ((rw ++ [(Sl.mk none 0 ([] : List Chg))]).length) cap57] wD47 (fun j v hv => by rw [Nat.zero_add]; exact (S.k 2 rfl).cell hv) ?_
  replace S := S.pk [0] (os' := [tpO 112 T T_l])
  refine ⟨(⟨p.staged, (Sl.mk ad57 cap57 (rw ++ [(Sl.mk none 0 ([] : List Chg))]))⟩ : Plan), rfl, ⟨trivial, (S.u 5 rfl)⟩, ?_, (S.t 0 rfl), S.m.c⟩
  first
  | (show List.length _ ≤ 10; simp only [List.length_append, List.length_set, List.length_cons, List.length_nil] at *; omega)
  | (show List.length _ ≤ 10; omega)
 intro hc3
 refine rs S (tr (eqli rfl rfl)<|la (av rfl)) ?_; clear S; intro a u S
 refine cd S rfl ?_ ?_
 ·intro hc4
  refine r0 ?_
  refine sp S (tr (fldi 0 0 rfl uT47)<|tr (ldk 3 sC4 rfl rfl rfl)<|tr (noti rfl)<|la (fldi 0 0 rfl uT47)) ?_; clear S; intro a u S
  obtain ⟨bv63, hbv63⟩ : ∃ b : Bool, (b = true) ↔ (¬ (p.staged = true)) := ⟨decide (¬ (p.staged = true)), by simp⟩
  replace S := S.ext (d := 63) (v := bD (bv63 = true)) ((S.get 63 rfl).trans (vb hbv63.symm))
  refine en S (la (stk 3 rfl rfl rfl)) ?_; clear S; intro a u S
  refine blk_n (then_n (rs0 ?_))
  refine sp S (la (ldkw 3 rfl rfl wD47)) ?_; clear S; intro a u S
  replace S := S.pk [0, 1, 2, 3, 5, 4] (os' := [tpO 112 T T_l, blO b3 (planE.cells p) 47, blO b4 [.bool false, .slice none 0 0] 47, blO b5 [bD (bv63 = true), .slice rw_a rw.length rw_c] 47, rwO (rawE (β := Chg)) 122 w.heap.size rw_a rw_c rw, lsO (rwS chgE 124 w.heap.size) rw])
  replace S := (show St _ _ _ _ _ _ [tpO 112 T T_l, blO b3 (planE.cells p) 47, blO b4 [.bool false, .slice none 0 0] 47, blO b5 [bD (bv63 = true), .slice rw_a rw.length rw_c] 47, rwO (rawE (β := Chg)) 122 w.heap.size rw_a rw_c rw] _ _ from S.fzL (ks := [tpO 112 T T_l, blO b3 (planE.cells p) 47, blO b4 [.bool false, .slice none 0 0] 47, blO b5 [bD (bv63 = true), .slice rw_a rw.length rw_c] 47, rwO (rawE (β := Chg)) 122 w.heap.size rw_a rw_c rw]) (by show 0 < chgE.n; decide))
  replace S := S.fz 4 rfl
  replace S := S.ar (wfF (slE (slE chgE)) (Sl.mk rw_a rw_c rw)) (raw_wf (S.u 3 rfl) (S.u 2 rfl))
  refine ens S (la (stkw 2 rfl rfl rfl)) ?_; clear S; intro a u S
  refine wp_ret ?_
  refine retcw rfl S.s rfl [bD (bv63 = true), .slice rw_a rw.length rw_c] wD47 (fun j v hv => by rw [Nat.zero_add]; exact (S.k 2 rfl).cell hv) ?_
  replace S := S.pk [0] (os' := [tpO 112 T T_l])
  refine ⟨(⟨bv63, (Sl.mk rw_a rw_c rw)⟩ : Plan), rfl, ⟨trivial, (S.u 4 rfl)⟩, ?_, (S.t 0 rfl), S.m.c⟩
  first
  | (show List.length _ ≤ 10; simp only [List.length_append, List.length_set, List.length_cons, List.length_nil] at *; omega)
  | (show List.length _ ≤ 10; omega)
 intro hc5
 refine rs S (tr (eqli rfl rfl)<|la (av rfl)) ?_; clear S; intro a u S
 refine cd S rfl ?_ ?_
 ·intro hc6
  refine dr (P := Try.prog) S 11 [one T] [(67, .is _), (68, .is _), (69, .is _), (70, .of (fun z w9 => ∃ (x70a : Int), z = iI x70a ∧ (0 ≤ x70a ∧ (x70a < 6 ∨ x70a = 0))) (fun v w9 w' c h => let ⟨x70a, hv, h0⟩ := h; ⟨x70a, hv, h0⟩)), (71, .of (fun z w9 => ∃ (x70a : Int), z = iI (x70a - 1) ∧ (0 ≤ x70a ∧ (x70a < 6 ∨ x70a = 0))) (fun v w9 w' c h => let ⟨x70a, hv, h0⟩ := h; ⟨x70a, hv, h0⟩)), (72, .is _), (73, .of (fun z w9 => ∃ (x73a : Int), z = iI x73a ∧ (0 ≤ x73a ∧ (x73a < 6 ∨ x73a = 0))) (fun v w9 w' c h => let ⟨x73a, hv, h0⟩ := h; ⟨x73a, hv, h0⟩)), (74, .of (fun z w9 => ∃ (x73a : Int), z = iI (x73a - 1) ∧ (0 ≤ x73a ∧ (x73a < 6 ∨ x73a = 0))) (fun v w9 w' c h => let ⟨x73a, hv, h0⟩ := h; ⟨x73a, hv, h0⟩)), (75, .of (fun z w9 => ∃ (x70a : Int) (x73b : Int), z = .agg #[iI (x70a - 1), iI (x73b - 1)] ∧ (0 ≤ x70a ∧ (x70a < 6 ∨ x70a = 0)) ∧ (0 ≤ x73b ∧ (x73b < 6 ∨ x73b = 0))) (fun v w9 w' c h => let ⟨x70a, x73b, hv, h0, h1⟩ := h; ⟨x70a, x73b, hv, h0, h1⟩)), (76, .of (fun z w9 => ∃ (x76a : Nat) (x70b : Int) (x73c : Int), z = .slice (some ⟨x76a, 0, none⟩) 1 1 ∧ (slE chgE).wf (Fr F [one T, one b3, one b4, one b5, (lsO (rwS chgE 124 w.heap.size) rw).o, abk rw_a]) w9.heap (Sl.mk (some ⟨x76a, 0, none⟩) 1 ([(⟨(x70b - 1), (x73c - 1)⟩ : Chg)])) ∧ (0 ≤ x70b ∧ (x70b < 6 ∨ x70b = 0)) ∧ (0 ≤ x73c ∧ (x73c < 6 ∨ x73c = 0))) (fun v w9 w' c h => let ⟨x76a, x70b, x73c, hv, h0, h1, h2⟩ := h; ⟨x76a, x70b, x73c, hv, Enc.kp (slE chgE) h0 c (by intro o h; simp at h ⊢; first | exact .inl h | simp [h]), h1, h2⟩)), (77, .of (fun z w9 => ∃ (x77a : Nat) (x76b : Nat) (x70c : Int) (x73d : Int), z = .slice (some ⟨x77a, 0, none⟩) 1 1 ∧ (slE (rawE (β := Chg))).wf (Fr F [one T, one b3, one b4, one b5, (lsO (rwS chgE 124 w.heap.size) rw).o, abk rw_a]) w9.heap (Sl.mk (some ⟨x77a, 0, none⟩) 1 ([(Sl.mk (some ⟨x76b, 0, none⟩) 1 ([(⟨(x70c - 1), (x73d - 1)⟩ : Chg)]))])) ∧ (slE chgE).wf (Fr F [one T, one b3, one b4, one b5, (lsO (rwS chgE 124 w.heap.size) rw).o, abk rw_a]) w9.heap (Sl.mk (some ⟨x76b, 0, none⟩) 1 ([(⟨(x70c - 1), (x73d - 1)⟩ : Chg)])) ∧ (0 ≤ x70c ∧ (x70c < 6 ∨ x70c = 0)) ∧ (0 ≤ x73d ∧ (x73d < 6 ∨ x73d = 0))) (fun v w9 w' c h => let ⟨x77a, x76b, x70c, x73d, hv, h0, h1, h2, h3⟩ := h; ⟨x77a, x76b, x70c, x73d, hv, Enc.kp (slE (rawE (β := Chg))) h0 c (by intro o h; simp at h ⊢; first | exact .inl h | simp [h]), Enc.kp (slE chgE) h1 c (by intro o h; simp at h ⊢; first | exact .inl h | simp [h]), h2, h3⟩))] [[], [67], [], [69], [70], [], [72], [73], [71, 74], [75], [76]] [68, 77] _ ⟨qd (fldi 0 1 rfl uT47), qd (ldk 3 sC45 rfl rfl rfl), qd (mv rfl), ?_, ?_, qd (mv rfl), ?_, ?_, ?_, ?_, ?_, trivial⟩ ?_
  ·skip
   intro a u S G hE
   refine hcl S (gNext _ _ S.x T (S.M.pick [0] (by decide)) T_l (dn1 (js := [0]) (S.u 0 rfl)) (S.t 0 rfl) 6 ⟨by omega, by omega⟩) cB26 ?_
   rintro e w2 ⟨r_h70, rfl, hr_h70, tK, T0⟩; refine ⟨_, rfl, (show ∃ _, _ from ?_), T0.ch, (S.k1 0 rfl S.s T0 tK).m⟩
   exact ⟨r_h70, rfl, hr_h70⟩
  ·skip
   intro a u S G hE
   obtain ⟨e70, -⟩ := hE
   have M0 := S.m
   obtain ⟨x70_16, e70, hr16⟩ := e70
   replace S := S.ext e70
   exact hvl 71 S M0 (v := iI (x70_16 - 1)) (x_sub (S.e rfl) (S.e rfl) (r := (x70_16 - 1)) (w_i64 (by omega))) (show ∃ _, _ from ⟨x70_16, rfl, hr16⟩)
  ·skip
   intro a u S G hE
   refine hcl S (gNext _ _ S.x T (S.M.pick [0] (by decide)) T_l (dn1 (js := [0]) (S.u 0 rfl)) (S.t 0 rfl) 6 ⟨by omega, by omega⟩) cB26 ?_
   rintro e w2 ⟨r_h73, rfl, hr_h73, tK, T0⟩; refine ⟨_, rfl, (show ∃ _, _ from ?_), T0.ch, (S.k1 0 rfl S.s T0 tK).m⟩
   exact ⟨r_h73, rfl, hr_h73⟩
  ·skip
   intro a u S G hE
   obtain ⟨e73, -⟩ := hE
   have M0 := S.m
   obtain ⟨x73_17, e73, hr17⟩ := e73
   replace S := S.ext e73
   exact hvl 74 S M0 (v := iI (x73_17 - 1)) (x_sub (S.e rfl) (S.e rfl) (r := (x73_17 - 1)) (w_i64 (by omega))) (show ∃ _, _ from ⟨x73_17, rfl, hr17⟩)
  ·skip
   intro a u S G hE
   obtain ⟨e71, e74, -⟩ := hE
   have M0 := S.m
   obtain ⟨x70_18, e71, hr18⟩ := e71
   replace S := S.ext e71
   obtain ⟨x73_19, e74, hr19⟩ := e74
   replace S := S.ext e74
   exact hvl 75 S M0 (v := .agg #[iI (x70_18 - 1), iI (x73_19 - 1)]) (x_bd S [(0, iI (x70_18 - 1)), (1, iI (x73_19 - 1))] [iI (x70_18 - 1), iI (x73_19 - 1)]) (show ∃ _, _ from ⟨x70_18, x73_19, rfl, hr18, hr19⟩)
  ·skip
   intro a u S G hE
   obtain ⟨e75, -⟩ := hE
   have M0 := S.m
   obtain ⟨x70_20, x73_21, e75, hr20, hr21⟩ := e75
   replace S := S.ext e75
   refine hnb 76 M0 (x_bsl [(0, .agg #[iI (x70_20 - 1), iI (x73_21 - 1)])] [iI (x70_20 - 1), iI (x73_21 - 1)] uT122 iZ124 (by decide) (by decide) (by simp only [List.map_cons, List.map_nil, S.e (x := .tmp 75) (v := .agg #[iI (x70_20 - 1), iI (x73_21 - 1)]) rfl]) (by kernel_rfl)) fun g => (show ∃ _, _ from ⟨_, x70_20, x73_21, rfl, sl_of_blk (Blk.new _ [iI (x70_20 - 1), iI (x73_21 - 1)] 124) [(⟨(x70_20 - 1), (x73_21 - 1)⟩ : Chg)] 1 rfl (by decide) (by decide) rfl (fr_fresh S.m.c S.m.f rfl) ?_, hr20, hr21⟩)
   intro x hx; simp only [List.mem_cons, List.not_mem_nil, or_false] at hx; rw [hx] <;> first | exact Enc.tr (chgE) (show chgE.wf (Fr F _) _ (⟨(x70_20 - 1), (x73_21 - 1)⟩ : Chg) from ⟨(show inI64 (x70_20 - 1) from ⟨by omega, by omega⟩), (show inI64 (x73_21 - 1) from ⟨by omega, by omega⟩)⟩) (Tr.of_ch0 S.M g)
  ·skip
   intro a u S G hE
   obtain ⟨e76, -⟩ := hE
   have M0 := S.m
   obtain ⟨x76_22, x70_23, x73_24, e76, X22, hr23, hr24⟩ := e76
   replace S := S.ext e76
   refine hnb 77 M0 (x_bsl [(0, .slice (some ⟨x76_22, 0, none⟩) 1 1)] [.slice (some ⟨x76_22, 0, none⟩) 1 1] uT45 iZ122 (by decide) (by decide) (by simp only [List.map_cons, List.map_nil, S.e (x := .tmp 76) (v := .slice (some ⟨x76_22, 0, none⟩) 1 1) rfl]) (by kernel_rfl)) fun g => (show ∃ _, _ from ⟨_, x76_22, x70_23, x73_24, rfl, sl_of_blk (Blk.new _ [.slice (some ⟨x76_22, 0, none⟩) 1 1] 122) [(Sl.mk (some ⟨x76_22, 0, none⟩) 1 ([(⟨(x70_23 - 1), (x73_24 - 1)⟩ : Chg)]))] 1 rfl (by decide) (by decide) rfl (fr_fresh S.m.c S.m.f rfl) ?_, Enc.tr (slE chgE) X22 (Tr.of_ch0 S.M g), hr23, hr24⟩)
   intro x hx; simp only [List.mem_cons, List.not_mem_nil, or_false] at hx; rw [hx] <;> first | exact Enc.tr ((rawE (β := Chg))) (show (rawE (β := Chg)).wf (Fr F _) _ (Sl.mk (some ⟨x76_22, 0, none⟩) 1 ([(⟨(x70_23 - 1), (x73_24 - 1)⟩ : Chg)])) from trivial) (Tr.of_ch0 S.M g)
  clear S; intro a u S G hE
  obtain ⟨e77, -⟩ := hE
  obtain ⟨x77_25, x76_26, x70_27, x73_28, e77, X25, X26, hr27, hr28⟩ := e77
  replace S := S.ext e77
  clear e77
  replace S := S.ar (wfF (slE (rawE (β := Chg))) (Sl.mk (some ⟨x77_25, 0, none⟩) 1 ([(Sl.mk (some ⟨x76_26, 0, none⟩) 1 ([(⟨(x70_27 - 1), (x73_28 - 1)⟩ : Chg)]))]))) X25
  replace S := S.ar (wfF (slE chgE) (Sl.mk (some ⟨x76_26, 0, none⟩) 1 ([(⟨(x70_27 - 1), (x73_28 - 1)⟩ : Chg)]))) X26
  have hn29 : ([(Sl.mk (some ⟨x76_26, 0, none⟩) 1 ([(⟨(x70_27 - 1), (x73_28 - 1)⟩ : Chg)]))]).length ≤ 9223372036854775807 := ((S.u 2 rfl)).1.len
  refine ap (E := (rawE (β := Chg))) (ys := [(Sl.mk (some ⟨x76_26, 0, none⟩) 1 ([(⟨(x70_27 - 1), (x73_28 - 1)⟩ : Chg)]))]) S 5 rfl uT45 iZ122 rfl rfl (show LAt (rawE (β := Chg)) _ _ (some ⟨x77_25, 0, none⟩) ([(Sl.mk (some ⟨x76_26, 0, none⟩) 1 ([(⟨(x70_27 - 1), (x73_28 - 1)⟩ : Chg)]))]) from ((S.u 2 rfl)).1) ((S.u 2 rfl)).2.2 (LAt.mem (show LAt (rawE (β := Chg)) _ _ (some ⟨x77_25, 0, none⟩) ([(Sl.mk (some ⟨x76_26, 0, none⟩) 1 ([(⟨(x70_27 - 1), (x73_28 - 1)⟩ : Chg)]))]) from ((S.u 2 rfl)).1)) ⟨by unfold maxLen; (try simp only [List.length_cons, List.length_nil, List.length_append, List.length_map]); omega, by (try simp only [List.length_cons, List.length_nil, List.length_append, List.length_map]); omega⟩ ?_; clear S; intro a u ad78 cap78 S
  refine en S (tr (fldi 0 1 rfl uT47)<|la (stk 3 rfl rfl rfl)) ?_; clear S; intro a u S
  refine blk_n (then_n (rs0 ?_))
  refine sp S (la (ldkw 3 rfl rfl wD47)) ?_; clear S; intro a u S
  replace S := S.pk [0, 1, 2, 3, 5, 4] (os' := [tpO 112 T T_l, blO b3 (planE.cells p) 47, blO b4 [.bool false, .slice none 0 0] 47, blO b5 [bD (p.staged = true), .slice ad78 ((rw ++ [(Sl.mk (some ⟨x76_26, 0, none⟩) 1 ([(⟨(x70_27 - 1), (x73_28 - 1)⟩ : Chg)]))]).length) cap78] 47, rwO (rawE (β := Chg)) 122 w.heap.size ad78 cap78 (rw ++ [(Sl.mk (some ⟨x76_26, 0, none⟩) 1 ([(⟨(x70_27 - 1), (x73_28 - 1)⟩ : Chg)]))]), lsO (rwS chgE 124 w.heap.size) rw])
  replace S := (show St _ _ _ _ _ _ [tpO 112 T T_l, blO b3 (planE.cells p) 47, blO b4 [.bool false, .slice none 0 0] 47, blO b5 [bD (p.staged = true), .slice ad78 ((rw ++ [(Sl.mk (some ⟨x76_26, 0, none⟩) 1 ([(⟨(x70_27 - 1), (x73_28 - 1)⟩ : Chg)]))]).length) cap78] 47, rwO (rawE (β := Chg)) 122 w.heap.size ad78 cap78 (rw ++ [(Sl.mk (some ⟨x76_26, 0, none⟩) 1 ([(⟨(x70_27 - 1), (x73_28 - 1)⟩ : Chg)]))])] _ _ from S.fzL (ks := [tpO 112 T T_l, blO b3 (planE.cells p) 47, blO b4 [.bool false, .slice none 0 0] 47, blO b5 [bD (p.staged = true), .slice ad78 ((rw ++ [(Sl.mk (some ⟨x76_26, 0, none⟩) 1 ([(⟨(x70_27 - 1), (x73_28 - 1)⟩ : Chg)]))]).length) cap78] 47, rwO (rawE (β := Chg)) 122 w.heap.size ad78 cap78 (rw ++ [(Sl.mk (some ⟨x76_26, 0, none⟩) 1 ([(⟨(x70_27 - 1), (x73_28 - 1)⟩ : Chg)]))])]) (by show 0 < chgE.n; decide))
  replace S := S.fz 4 rfl
  replace S := S.ar (wfF (slE (slE chgE)) (Sl.mk ad78 cap78 (rw ++ [(Sl.mk (some ⟨x76_26, 0, none⟩) 1 ([(⟨(x70_27 - 1), (x73_28 - 1)⟩ : Chg)]))]))) (raw_wf (S.u 5 rfl) (all_app (S.u 4 rfl) (S.u 3 rfl)))
  refine ens S (la (stkw 2 rfl rfl rfl)) ?_; clear S; intro a u S
  refine wp_ret ?_
  refine retcw rfl S.s rfl [bD (p.staged = true), .slice ad78 ((rw ++ [(Sl.mk (some ⟨x76_26, 0, none⟩) 1 ([(⟨(x70_27 - 1), (x73_28 - 1)⟩ : Chg)]))]).length) cap78] wD47 (fun j v hv => by rw [Nat.zero_add]; exact (S.k 2 rfl).cell hv) ?_
  replace S := S.pk [0] (os' := [tpO 112 T T_l])
  refine ⟨(⟨p.staged, (Sl.mk ad78 cap78 (rw ++ [(Sl.mk (some ⟨x76_26, 0, none⟩) 1 ([(⟨(x70_27 - 1), (x73_28 - 1)⟩ : Chg)]))]))⟩ : Plan), rfl, ⟨trivial, (S.u 6 rfl)⟩, ?_, (S.t 0 rfl), S.m.c⟩
  first
  | (show List.length _ ≤ 10; simp only [List.length_append, List.length_set, List.length_cons, List.length_nil] at *; omega)
  | (show List.length _ ≤ 10; omega)
 intro hc7
 refine rs S (tr (eqli rfl rfl)<|la (av rfl)) ?_; clear S; intro a u S
 refine cd S rfl ?_ ?_
 ·intro hc8
  refine rs S (tr (fldi 0 1 rfl uT47)<|tr (ldk 3 sC45 rfl rfl rfl)<|tr (leni uT45 rfl)<|la (gtri rfl rfl)) ?_; clear S; intro a u S
  refine cd S rfl ?_ ?_
  ·intro hc9
   obtain ⟨x0, rest, rfl⟩ : ∃ x0 rest, rw = x0 :: rest := List.exists_cons_of_ne_nil (fun e => by have := congrArg List.length e; simp only [List.length_nil] at this; omega)
   replace S := S.pk [0, 1, 2, 3, 5, 4] (os' := [tpO 112 T T_l, blO b3 (planE.cells p) 47, blO b4 [.bool false, .slice none 0 0] 47, blO b5 [bD (p.staged = true), .slice rw_a ((x0 :: rest).length) rw_c] 47, rwO (rawE (β := Chg)) 122 w.heap.size rw_a rw_c (x0 :: rest), lsO (rwS chgE 124 w.heap.size) (x0 :: rest)])
   replace S := (show St _ _ _ _ _ _ [tpO 112 T T_l, blO b3 (planE.cells p) 47, blO b4 [.bool false, .slice none 0 0] 47, blO b5 [bD (p.staged = true), .slice rw_a ((x0 :: rest).length) rw_c] 47, rwO (rawE (β := Chg)) 122 w.heap.size rw_a rw_c (x0 :: rest), rwO chgE 124 w.heap.size x0.a x0.c x0.xs, lsO (rwS chgE 124 w.heap.size) rest] _ _ from S.lunc (ks := [tpO 112 T T_l, blO b3 (planE.cells p) 47, blO b4 [.bool false, .slice none 0 0] 47, blO b5 [bD (p.staged = true), .slice rw_a ((x0 :: rest).length) rw_c] 47, rwO (rawE (β := Chg)) 122 w.heap.size rw_a rw_c (x0 :: rest)]))
   have hx0 : x0.xs.length ≤ 9223372036854775807 := (S.row 5 rfl).len_le
   have hx1 := hne x0 List.mem_cons_self
   have hx2 : 0 < ((x0 :: rest).getD 0 (rawE (β := Chg)).dflt).xs.length := hx1.1
   obtain ⟨hl33, hu33⟩ : inI64 ((x0.xs.getD 0 chgE.dflt).dev) := id (((S.row 5 rfl).wfi 0 (by omega)).1)
   obtain ⟨hl34, hu34⟩ : inI64 ((x0.xs.getD 0 chgE.dflt).ver) := id (((S.row 5 rfl).wfi 0 (by omega)).2)
   refine lzE (P := Try.prog) (s := .tmp 91) (x := .tmp 98) chgE Nat S 13 [] [(86, .is _), (87, .is _), (88, .is _), (89, .is _), (90, .is _), (91, .is _), (92, .is _), (93, .is _), (94, .is _), (95, .is _), (96, .is _), (97, .is _), (98, .of (fun z w9 => ∃ (x98a : Nat), z = .slice (some ⟨x98a, 0, none⟩) 1 1 ∧ (slE chgE).wf (Fr F [one T, one b3, one b4, one b5, abk rw_a, abk x0.a, (lsO (rwS chgE 124 w.heap.size) rest).o]) w9.heap (Sl.mk (some ⟨x98a, 0, none⟩) 1 ([(x0.xs.getD 0 chgE.dflt)]))) (fun v w9 w' c h => let ⟨x98a, hv, h0⟩ := h; ⟨x98a, hv, Enc.kp (slE chgE) h0 c (fun _ h => by simp at h)⟩))] [[], [86], [], [88], [89], [90], [], [92], [93], [94], [95], [96], [97]] [91, 98] [⟨0, 86, pT b5 (0 + 1), []⟩, ⟨1, 87, .slice rw_a ((x0 :: rest).length) rw_c, [86]⟩] [(5, 13), (12, 13), (4, 5), (11, 12), (3, 4), (10, 11), (2, 3), (9, 10), (8, 9), (7, 8), (6, 7)] [14, 15] _ 5 rfl (fun g => [(91, sV x0), (98, .slice (some ⟨g, 0, none⟩) 1 1)]) (fun g => True) (fun g => [(x0.xs.getD 0 chgE.dflt)]) ⟨qd (fldi 0 1 rfl uT47), qd (ldk 3 sC45 rfl rfl rfl), qd (fldi 0 1 rfl uT47), qd (ldk 3 sC45 rfl rfl rfl), qd (ov fun S=>x_idx uT45 sZ122 (S.e rfl) (S.e rfl) 0 rfl (by omega) (row_off (S.row 4 rfl) (m := 0) (by omega))), qd (ov fun S=>x_load sC122 (S.e rfl) (((S.row 4 rfl).latz (by first | decide | exact Nat.one_pos | exact Nat.succ_pos _)).cell 0 (by omega) 0 _ rfl)), qd (fldi 0 1 rfl uT47), qd (ldk 3 sC45 rfl rfl rfl), qd (ov fun S=>x_idx uT45 sZ122 (S.e rfl) (S.e rfl) 0 rfl (by omega) (row_off (S.row 4 rfl) (m := 0) (by omega))), qd (ov fun S=>x_load sC122 (S.e rfl) (((S.row 4 rfl).latz (by first | decide | exact Nat.one_pos | exact Nat.succ_pos _)).cell 0 (by omega) 0 _ rfl)), qd (ov fun S=>x_idx uT122 sZ124 (S.e rfl) (S.e rfl) 0 rfl (by omega) (row_off (S.row 5 rfl) (m := 0) (by omega))), qd (ov fun S=>x_ldw (S.e rfl) (((S.row 5 rfl).latz (by first | decide | exact Nat.one_pos | exact Nat.succ_pos _)).wcell 0 (by omega) _ rfl _ rfl) wD124), ?_, trivial⟩ ⟨⟨⟨_, rfl, rfl, rfl, fun a w S => (x_fld (z := 0) (0) 1 uT47 rfl rfl (by kernel_rfl) (S.e rfl))⟩, (show 86 < 102 from by decide), rfl⟩, ⟨⟨_, rfl, rfl, rfl, fun a w S => (x_load sC45 (S.e rfl) ((S.k 3 rfl).cell (j := 1) rfl))⟩, (show 87 < 102 from by decide), rfl⟩, trivial⟩ (fun g ad' cap' => ⟨⟨⟨_, rfl, rfl, rfl, fun a w S => (x_fld (z := 0) (0) 1 uT47 rfl rfl (by kernel_rfl) (S.e rfl))⟩, (show 86 < 102 from by decide), rfl⟩, ⟨⟨_, rfl, rfl, rfl, fun a w S => (x_load sC45 (S.e rfl) ((S.k 3 rfl).cell (j := 1) rfl))⟩, (show 87 < 102 from by decide), rfl⟩, trivial⟩) (by intro p hp hlt; simp only [List.mem_cons, List.not_mem_nil, or_false] at hp; rcases hp with rfl | rfl <;> first | rfl | (revert hlt; decide)) ?_ ?_ uT122 iZ124
   ·skip
    intro a u S G hE
    refine hnb 98 S.m (x_bsl [(0, .agg (chgE.cells (x0.xs.getD 0 chgE.dflt)).toArray)] [iI ((x0.xs.getD 0 chgE.dflt).dev), iI ((x0.xs.getD 0 chgE.dflt).ver)] uT122 iZ124 (by decide) (by decide) (by simp only [List.map_cons, List.map_nil, S.e (x := .tmp 97) (v := .agg (chgE.cells (x0.xs.getD 0 chgE.dflt)).toArray) rfl]) (by kernel_rfl)) fun g => (show ∃ _, _ from ⟨_, rfl, sl_of_blk (Blk.new _ [iI ((x0.xs.getD 0 chgE.dflt).dev), iI ((x0.xs.getD 0 chgE.dflt).ver)] 124) [(x0.xs.getD 0 chgE.dflt)] 1 rfl (by decide) (by decide) rfl (fr_fresh S.m.c S.m.f rfl) ?_⟩)
    intro x hx; simp only [List.mem_cons, List.not_mem_nil, or_false] at hx; rw [hx] <;> first | exact Enc.tr (chgE) (show chgE.wf (Fr F _) _ (x0.xs.getD 0 chgE.dflt) from ⟨((S.row 5 rfl).wfi 0 (by omega)).1, ((S.row 5 rfl).wfi 0 (by omega)).2⟩) (Tr.of_ch0 S.M g)
   ·intro a u S G hE
    obtain ⟨e98, -⟩ := hE
    obtain ⟨x98_35, e98, X35⟩ := e98
    replace S := S.ext e98
    exact ⟨x98_35, _, _, _, S.s.sub (subM rfl), trivial, rfl, rfl, (show LAt chgE _ _ (some ⟨x98_35, 0, none⟩) ([(x0.xs.getD 0 chgE.dflt)]) from (X35).1), (X35).2.2, (LAt.mem (show LAt chgE _ _ (some ⟨x98_35, 0, none⟩) ([(x0.xs.getD 0 chgE.dflt)]) from (X35).1)), ⟨by unfold maxLen; (try simp only [List.length_cons, List.length_nil, List.length_append, List.length_map]); omega, by (try simp only [List.length_cons, List.length_nil, List.length_append, List.length_map]); omega⟩⟩
   clear S; intro g ad99 cap99 a u S hR
   revert S hR; revert a u ad99 cap99; revert g; intro x98_35 ad99 cap99 a u S hR
   refine sp S (la (ov fun S=>x_idx uT45 sZ122 (S.e rfl) (S.e rfl) 0 rfl (by omega) (row_off (S.row 4 rfl) (m := 0) (by omega)))) ?_; clear S; intro a u S
   refine sp S (la (str (E := (rawE (β := Chg))) 4 (by kernel_rfl) rfl rfl rfl 0 0 (by omega) (by first | decide | exact Nat.one_pos | exact Nat.succ_pos _) (Sl.mk ad99 cap99 (x0.xs ++ [(x0.xs.getD 0 chgE.dflt)])) (fun S=>trivial) rfl (by first | rfl | (show _ = _ * 1 + 0; omega) | (simp [rawE]; omega) | simp [rawE]) rfl)) ?_; clear S; intro a u S
   have hls36 : ((x0 :: rest).set 0 (Sl.mk ad99 cap99 (x0.xs ++ [(x0.xs.getD 0 chgE.dflt)]))).length = (x0 :: rest).length := by simp
   refine nn (blk_n (then_n (rs0 ?_)))
   refine sp S (la (ldkw 3 rfl rfl wD47)) ?_; clear S; intro a u S
   replace S := (show St _ _ _ _ _ _ [tpO 112 T T_l, blO b3 (planE.cells p) 47, blO b4 [.bool false, .slice none 0 0] 47, blO b5 [bD (p.staged = true), .slice rw_a ((x0 :: rest).length) rw_c] 47, rwO (rawE (β := Chg)) 122 w.heap.size rw_a rw_c ((x0 :: rest).set 0 (Sl.mk ad99 cap99 (x0.xs ++ [(x0.xs.getD 0 chgE.dflt)]))), lsO (rwS chgE 124 w.heap.size) ((Sl.mk ad99 cap99 (x0.xs ++ [(x0.xs.getD 0 chgE.dflt)])) :: rest)] _ _ from S.lcon (ks := [tpO 112 T T_l, blO b3 (planE.cells p) 47, blO b4 [.bool false, .slice none 0 0] 47, blO b5 [bD (p.staged = true), .slice rw_a ((x0 :: rest).length) rw_c] 47, rwO (rawE (β := Chg)) 122 w.heap.size rw_a rw_c ((x0 :: rest).set 0 (Sl.mk ad99 cap99 (x0.xs ++ [(x0.xs.getD 0 chgE.dflt)])))]) (x := (Sl.mk ad99 cap99 (x0.xs ++ [(x0.xs.getD 0 chgE.dflt)]))))
   replace S := (show St _ _ _ _ _ _ [tpO 112 T T_l, blO b3 (planE.cells p) 47, blO b4 [.bool false, .slice none 0 0] 47, blO b5 [bD (p.staged = true), .slice rw_a ((x0 :: rest).length) rw_c] 47, rwO (rawE (β := Chg)) 122 w.heap.size rw_a rw_c ((x0 :: rest).set 0 (Sl.mk ad99 cap99 (x0.xs ++ [(x0.xs.getD 0 chgE.dflt)])))] _ _ from S.fzL (ks := [tpO 112 T T_l, blO b3 (planE.cells p) 47, blO b4 [.bool false, .slice none 0 0] 47, blO b5 [bD (p.staged = true), .slice rw_a ((x0 :: rest).length) rw_c] 47, rwO (rawE (β := Chg)) 122 w.heap.size rw_a rw_c ((x0 :: rest).set 0 (Sl.mk ad99 cap99 (x0.xs ++ [(x0.xs.getD 0 chgE.dflt)])))]) (by show 0 < chgE.n; decide))
   replace S := S.fz 4 rfl
   replace S := S.ar (wfF (slE (slE chgE)) (Sl.mk rw_a rw_c ((x0 :: rest).set 0 (Sl.mk ad99 cap99 (x0.xs ++ [(x0.xs.getD 0 chgE.dflt)]))))) (raw_wf (S.u 3 rfl) (S.u 2 rfl))
   refine ens S (la (stkw 2 rfl rfl rfl)) ?_; clear S; intro a u S
   refine wp_ret ?_
   refine retcw rfl S.s rfl [bD (p.staged = true), .slice rw_a (((x0 :: rest).set 0 (Sl.mk ad99 cap99 (x0.xs ++ [(x0.xs.getD 0 chgE.dflt)]))).length) rw_c] wD47 (fun j v hv => by rw [Nat.zero_add]; exact (S.k 2 rfl).cell hv) ?_
   replace S := S.pk [0] (os' := [tpO 112 T T_l])
   refine ⟨(⟨p.staged, (Sl.mk rw_a rw_c ((x0 :: rest).set 0 (Sl.mk ad99 cap99 (x0.xs ++ [(x0.xs.getD 0 chgE.dflt)]))))⟩ : Plan), (r1 (by simp [planE])), ⟨trivial, (S.u 4 rfl)⟩, ?_, (S.t 0 rfl), S.m.c⟩
   first
   | (show List.length _ ≤ 10; simp only [List.length_append, List.length_set, List.length_cons, List.length_nil] at *; omega)
   | (show List.length _ ≤ 10; omega)
  intro hc10
  refine wp_skip (blk_n (then_n (rs0 ?_)))
  refine sp S (la (ldkw 3 rfl rfl wD47)) ?_; clear S; intro a u S
  replace S := S.pk [0, 1, 2, 3, 5, 4] (os' := [tpO 112 T T_l, blO b3 (planE.cells p) 47, blO b4 [.bool false, .slice none 0 0] 47, blO b5 [bD (p.staged = true), .slice rw_a rw.length rw_c] 47, rwO (rawE (β := Chg)) 122 w.heap.size rw_a rw_c rw, lsO (rwS chgE 124 w.heap.size) rw])
  replace S := (show St _ _ _ _ _ _ [tpO 112 T T_l, blO b3 (planE.cells p) 47, blO b4 [.bool false, .slice none 0 0] 47, blO b5 [bD (p.staged = true), .slice rw_a rw.length rw_c] 47, rwO (rawE (β := Chg)) 122 w.heap.size rw_a rw_c rw] _ _ from S.fzL (ks := [tpO 112 T T_l, blO b3 (planE.cells p) 47, blO b4 [.bool false, .slice none 0 0] 47, blO b5 [bD (p.staged = true), .slice rw_a rw.length rw_c] 47, rwO (rawE (β := Chg)) 122 w.heap.size rw_a rw_c rw]) (by show 0 < chgE.n; decide))
  replace S := S.fz 4 rfl
  replace S := S.ar (wfF (slE (slE chgE)) (Sl.mk rw_a rw_c rw)) (raw_wf (S.u 3 rfl) (S.u 2 rfl))
  refine ens S (la (stkw 2 rfl rfl rfl)) ?_; clear S; intro a u S
  refine wp_ret ?_
  refine retcw rfl S.s rfl [bD (p.staged = true), .slice rw_a rw.length rw_c] wD47 (fun j v hv => by rw [Nat.zero_add]; exact (S.k 2 rfl).cell hv) ?_
  replace S := S.pk [0] (os' := [tpO 112 T T_l])
  refine ⟨(⟨p.staged, (Sl.mk rw_a rw_c rw)⟩ : Plan), rfl, ⟨trivial, (S.u 4 rfl)⟩, ?_, (S.t 0 rfl), S.m.c⟩
  first
  | (show List.length _ ≤ 10; simp only [List.length_append, List.length_set, List.length_cons, List.length_nil] at *; omega)
  | (show List.length _ ≤ 10; omega)
 intro hc11
 refine rs S (tr (fldi 0 1 rfl uT47)<|tr (ldk 3 sC45 rfl rfl rfl)<|tr (leni uT45 rfl)<|tr (gtri rfl rfl)<|tr (mv rfl)<|tr (og 35 rfl gt fun S hg=>xf (0) 1 uT47 (S.e rfl))<|tr (og 35 rfl gt fun S hg=>x_load sC45 (S.p rfl hg) ((S.k 3 rfl).cell (j := 1) rfl))<|tr (og 35 rfl gt fun S hg=>x_idx uT45 sZ122 (S.p rfl hg) (S.e rfl) 0 rfl (by omega) (row_off (S.row 5 rfl) (m := 0) (by omega)))<|tr (og 35 rfl gt fun S hg=>x_load sC122 (S.p rfl hg) (((S.row 5 rfl).latz (by first | decide | exact Nat.one_pos | exact Nat.succ_pos _)).cell 0 (by omega) 0 _ rfl))<|tr (og 35 rfl gt fun S hg=>x_len uT122 (S.p rfl hg))<|tr (og 35 rfl gt fun S hg=>x_gtr (S.p rfl hg) (S.e rfl))<|la (andi rfl rfl rfl)) ?_; clear S; intro a u S
 refine cd S rfl ?_ ?_
 ·intro hc12
  obtain ⟨x0, rest, rfl⟩ : ∃ x0 rest, rw = x0 :: rest := List.exists_cons_of_ne_nil (fun e => by have := congrArg List.length e; simp only [List.length_nil] at this; omega)
  replace S := S.pk [0, 1, 2, 3, 5, 4] (os' := [tpO 112 T T_l, blO b3 (planE.cells p) 47, blO b4 [.bool false, .slice none 0 0] 47, blO b5 [bD (p.staged = true), .slice rw_a ((x0 :: rest).length) rw_c] 47, rwO (rawE (β := Chg)) 122 w.heap.size rw_a rw_c (x0 :: rest), lsO (rwS chgE 124 w.heap.size) (x0 :: rest)])
  replace S := (show St _ _ _ _ _ _ [tpO 112 T T_l, blO b3 (planE.cells p) 47, blO b4 [.bool false, .slice none 0 0] 47, blO b5 [bD (p.staged = true), .slice rw_a ((x0 :: rest).length) rw_c] 47, rwO (rawE (β := Chg)) 122 w.heap.size rw_a rw_c (x0 :: rest), rwO chgE 124 w.heap.size x0.a x0.c x0.xs, lsO (rwS chgE 124 w.heap.size) rest] _ _ from S.lunc (ks := [tpO 112 T T_l, blO b3 (planE.cells p) 47, blO b4 [.bool false, .slice none 0 0] 47, blO b5 [bD (p.staged = true), .slice rw_a ((x0 :: rest).length) rw_c] 47, rwO (rawE (β := Chg)) 122 w.heap.size rw_a rw_c (x0 :: rest)]))
  have hx0 : x0.xs.length ≤ 9223372036854775807 := (S.row 5 rfl).len_le
  have hx1 := hne x0 List.mem_cons_self
  have hx2 : 0 < ((x0 :: rest).getD 0 (rawE (β := Chg)).dflt).xs.length := hx1.1
  refine dr (P := Try.prog) S 9 [one T] [(43, .is _), (44, .is _), (45, .is _), (46, .is _), (47, .is _), (48, .of (fun z w9 => ∃ (x48a : Int), z = iI x48a ∧ (0 ≤ x48a ∧ (x48a < 6 ∨ x48a = 0))) (fun v w9 w' c h => let ⟨x48a, hv, h0⟩ := h; ⟨x48a, hv, h0⟩)), (49, .of (fun z w9 => ∃ (x48a : Int), z = iI (x48a - 1) ∧ (0 ≤ x48a ∧ (x48a < 6 ∨ x48a = 0))) (fun v w9 w' c h => let ⟨x48a, hv, h0⟩ := h; ⟨x48a, hv, h0⟩)), (50, .is _), (51, .is _)] [[], [43], [44], [45], [], [47], [48], [46], [50]] [49, 51] _ ⟨qd (fldi 0 1 rfl uT47), qd (ldk 3 sC45 rfl rfl rfl), qd (ov fun S=>x_idx uT45 sZ122 (S.e rfl) (S.e rfl) 0 rfl (by omega) (row_off (S.row 4 rfl) (m := 0) (by omega))), qd (ov fun S=>x_load sC122 (S.e rfl) (((S.row 4 rfl).latz (by first | decide | exact Nat.one_pos | exact Nat.succ_pos _)).cell 0 (by omega) 0 _ rfl)), qd (mv rfl), ?_, ?_, qd (ov fun S=>x_idx uT122 sZ124 (S.e rfl) (S.e rfl) 0 rfl (by omega) (row_off (S.row 5 rfl) (m := 0) (by omega))), qd (fldi (0 + 0 * 2) 1 rfl uT124), trivial⟩ ?_
  ·skip
   intro a u S G hE
   refine hcl S (gNext _ _ S.x T (S.M.pick [0] (by decide)) T_l (dn1 (js := [0]) (S.u 0 rfl)) (S.t 0 rfl) 6 ⟨by omega, by omega⟩) cB26 ?_
   rintro e w2 ⟨r_h48, rfl, hr_h48, tK, T0⟩; refine ⟨_, rfl, (show ∃ _, _ from ?_), T0.ch, (S.k1 0 rfl S.s T0 tK).m⟩
   exact ⟨r_h48, rfl, hr_h48⟩
  ·skip
   intro a u S G hE
   obtain ⟨e48, -⟩ := hE
   have M0 := S.m
   obtain ⟨x48_40, e48, hr40⟩ := e48
   replace S := S.ext e48
   exact hvl 49 S M0 (v := iI (x48_40 - 1)) (x_sub (S.e rfl) (S.e rfl) (r := (x48_40 - 1)) (w_i64 (by omega))) (show ∃ _, _ from ⟨x48_40, rfl, hr40⟩)
  clear S; intro a u S G hE
  obtain ⟨e49, -⟩ := hE
  obtain ⟨x48_41, e49, hr41⟩ := e49
  replace S := S.ext e49
  clear e49
  refine sp S (la (str (E := chgE) 5 (by kernel_rfl) rfl rfl rfl 0 1 (by omega) (by first | decide | exact Nat.one_pos | exact Nat.succ_pos _) (⟨(x0.xs.getD 0 chgE.dflt).dev, (x48_41 - 1)⟩ : Chg) (fun S=>⟨((S.row 5 rfl).wfi 0 (by omega)).1, (show inI64 (x48_41 - 1) from ⟨by omega, by omega⟩)⟩) rfl (by first | rfl | (show _ = _ * 1 + 0; omega) | (simp [chgE]; omega) | simp [chgE]) rfl)) ?_; clear S; intro a u S
  have hls42 : (x0.xs.set 0 (⟨(x0.xs.getD 0 chgE.dflt).dev, (x48_41 - 1)⟩ : Chg)).length = x0.xs.length := by simp
  refine nn (blk_n (then_n (rs0 ?_)))
  refine sp S (la (ldkw 3 rfl rfl wD47)) ?_; clear S; intro a u S
  replace S := (show St _ _ _ _ _ _ [tpO 112 T T_l, blO b3 (planE.cells p) 47, blO b4 [.bool false, .slice none 0 0] 47, blO b5 [bD (p.staged = true), .slice rw_a ((x0 :: rest).length) rw_c] 47, rwO (rawE (β := Chg)) 122 w.heap.size rw_a rw_c (x0 :: rest), lsO (rwS chgE 124 w.heap.size) ((Sl.mk x0.a x0.c (x0.xs.set 0 (⟨(x0.xs.getD 0 chgE.dflt).dev, (x48_41 - 1)⟩ : Chg))) :: rest)] _ _ from S.lcon (ks := [tpO 112 T T_l, blO b3 (planE.cells p) 47, blO b4 [.bool false, .slice none 0 0] 47, blO b5 [bD (p.staged = true), .slice rw_a ((x0 :: rest).length) rw_c] 47, rwO (rawE (β := Chg)) 122 w.heap.size rw_a rw_c (x0 :: rest)]) (x := (Sl.mk x0.a x0.c (x0.xs.set 0 (⟨(x0.xs.getD 0 chgE.dflt).dev, (x48_41 - 1)⟩ : Chg)))))
  replace S := (show St _ _ _ _ _ _ [tpO 112 T T_l, blO b3 (planE.cells p) 47, blO b4 [.bool false, .slice none 0 0] 47, blO b5 [bD (p.staged = true), .slice rw_a ((x0 :: rest).length) rw_c] 47, rwO (rawE (β := Chg)) 122 w.heap.size rw_a rw_c (x0 :: rest)] _ _ from S.fzL (ks := [tpO 112 T T_l, blO b3 (planE.cells p) 47, blO b4 [.bool false, .slice none 0 0] 47, blO b5 [bD (p.staged = true), .slice rw_a ((x0 :: rest).length) rw_c] 47, rwO (rawE (β := Chg)) 122 w.heap.size rw_a rw_c (x0 :: rest)]) (by show 0 < chgE.n; decide))
  replace S := (show St _ _ _ _ _ _ [tpO 112 T T_l, blO b3 (planE.cells p) 47, blO b4 [.bool false, .slice none 0 0] 47, blO b5 [bD (p.staged = true), .slice rw_a ((x0 :: rest).length) rw_c] 47, rwO (rawE (β := Chg)) 122 w.heap.size rw_a rw_c ((Sl.mk x0.a x0.c (x0.xs.set 0 (⟨(x0.xs.getD 0 chgE.dflt).dev, (x48_41 - 1)⟩ : Chg))) :: rest)] _ _ from S.k1s 4 rfl (rwO (rawE (β := Chg)) 122 w.heap.size rw_a rw_c ((Sl.mk x0.a x0.c (x0.xs.set 0 (⟨(x0.xs.getD 0 chgE.dflt).dev, (x48_41 - 1)⟩ : Chg))) :: rest)) rfl S.s (Ch.refl _) ⟨by have h := (S.m.o _ (nth_mem (i := 4) rfl)).1; simpa [rawE] using h, fun _ _ => trivial⟩)
  replace S := S.fz 4 rfl
  replace S := S.ar (wfF (slE (slE chgE)) (Sl.mk rw_a rw_c ((Sl.mk x0.a x0.c (x0.xs.set 0 (⟨(x0.xs.getD 0 chgE.dflt).dev, (x48_41 - 1)⟩ : Chg))) :: rest))) (raw_wf (S.u 3 rfl) (S.u 2 rfl))
  refine ens S (la (stkw 2 rfl rfl rfl)) ?_; clear S; intro a u S
  refine wp_ret ?_
  refine retcw rfl S.s rfl [bD (p.staged = true), .slice rw_a (((Sl.mk x0.a x0.c (x0.xs.set 0 (⟨(x0.xs.getD 0 chgE.dflt).dev, (x48_41 - 1)⟩ : Chg))) :: rest).length) rw_c] wD47 (fun j v hv => by rw [Nat.zero_add]; exact (S.k 2 rfl).cell hv) ?_
  replace S := S.pk [0] (os' := [tpO 112 T T_l])
  refine ⟨(⟨p.staged, (Sl.mk rw_a rw_c ((Sl.mk x0.a x0.c (x0.xs.set 0 (⟨(x0.xs.getD 0 chgE.dflt).dev, (x48_41 - 1)⟩ : Chg))) :: rest))⟩ : Plan), (r1 (by simp [planE])), ⟨trivial, (S.u 4 rfl)⟩, ?_, (S.t 0 rfl), S.m.c⟩
  first
  | (show List.length _ ≤ 10; simp only [List.length_append, List.length_set, List.length_cons, List.length_nil] at *; omega)
  | (show List.length _ ≤ 10; omega)
 intro hc13
 refine wp_skip (blk_n (then_n (rs0 ?_)))
 refine sp S (la (ldkw 3 rfl rfl wD47)) ?_; clear S; intro a u S
 replace S := S.pk [0, 1, 2, 3, 5, 4] (os' := [tpO 112 T T_l, blO b3 (planE.cells p) 47, blO b4 [.bool false, .slice none 0 0] 47, blO b5 [bD (p.staged = true), .slice rw_a rw.length rw_c] 47, rwO (rawE (β := Chg)) 122 w.heap.size rw_a rw_c rw, lsO (rwS chgE 124 w.heap.size) rw])
 replace S := (show St _ _ _ _ _ _ [tpO 112 T T_l, blO b3 (planE.cells p) 47, blO b4 [.bool false, .slice none 0 0] 47, blO b5 [bD (p.staged = true), .slice rw_a rw.length rw_c] 47, rwO (rawE (β := Chg)) 122 w.heap.size rw_a rw_c rw] _ _ from S.fzL (ks := [tpO 112 T T_l, blO b3 (planE.cells p) 47, blO b4 [.bool false, .slice none 0 0] 47, blO b5 [bD (p.staged = true), .slice rw_a rw.length rw_c] 47, rwO (rawE (β := Chg)) 122 w.heap.size rw_a rw_c rw]) (by show 0 < chgE.n; decide))
 replace S := S.fz 4 rfl
 replace S := S.ar (wfF (slE (slE chgE)) (Sl.mk rw_a rw_c rw)) (raw_wf (S.u 3 rfl) (S.u 2 rfl))
 refine ens S (la (stkw 2 rfl rfl rfl)) ?_; clear S; intro a u S
 refine wp_ret ?_
 refine retcw rfl S.s rfl [bD (p.staged = true), .slice rw_a rw.length rw_c] wD47 (fun j v hv => by rw [Nat.zero_add]; exact (S.k 2 rfl).cell hv) ?_
 replace S := S.pk [0] (os' := [tpO 112 T T_l])
 refine ⟨(⟨p.staged, (Sl.mk rw_a rw_c rw)⟩ : Plan), rfl, ⟨trivial, (S.u 4 rfl)⟩, ?_, (S.t 0 rfl), S.m.c⟩
 first
 | (show List.length _ ≤ 10; simp only [List.length_append, List.length_set, List.length_cons, List.length_nil] at *; omega)
 | (show List.length _ ≤ 10; omega)
end Go.Proofs.Ytobggnpnochnnaa.V
namespace Go.Proofs.Ytobggnpnochnnaa.V
open Go.RowKit Go.Proofs.Ytobggnpnochnnaa
set_option linter.unusedVariables false
set_option linter.unusedSimpArgs false
set_option maxHeartbeats 2000000 in
set_option maxRecDepth 20000 in
theorem rReplay (w : World) (F : Nat → Prop) (hF : Old F w) (M : MS [] w) (p : Plan) (p_w : planE.wf (Fr F []) w.heap p) (n : Int) (n_h : inI64 n) (l : Sl Rec) (l_w : (slE recE).wf (Fr F []) w.heap l) (hb : p.rounds.xs.length ≤ 100) :
 Calls Try.prog 35 #[.agg (planE.cells p).toArray, iI n, sV l] w fun e w' => ∃ (r0 : Ctrl), e = .returned (.tuple #[.agg (ctrlE.cells r0).toArray, iI (replE p n l.xs)]) ∧ ctrlE.wf (Fr F []) w'.heap r0 ∧ ctlR r0 (replC p n l.xs) ∧ Tr [] w [] w' := by
 have : p.rounds.xs.length ≤ 9223372036854775807 := (p_w.2).1.len
 obtain ⟨n_hl, n_hu⟩ : inI64 n := id n_h
 have : l.xs.length ≤ 9223372036854775807 := (l_w).1.len
 refine go Try.func35 rfl 58 rfl [wfF planE p, wfF (slE recE) l] [] hF M ⟨p_w, l_w, trivial⟩ trivial ?_
 intro a S
 have hD : ∀ k, In ([] : List BS) k → ¬ F k := fun _ h => h.elim
 refine rs0 ?_
 refine nbp S (x_box _ (S.e rfl) rfl) ?_; clear S; intro a u b3 S
 refine nbp S (x_allocz _ iZ57 rfl) ?_; clear S; intro a u b6 S
 refine ens S (la (av rfl)) ?_; clear S; intro a u S
 refine rs0 ?_
 refine sp S (tr (ldkw 0 rfl rfl wD47)<|la (mv rfl)) ?_; clear S; intro a u S
 refine cl S (rNewB _ _ (S.xx (ow []))  (S.mF (ks := [blO b3 (planE.cells p) 47, blO b6 [iI 0, .bool false, iI 0, .slice none 0 0, .slice none 0 0, .slice none 0 0] 57]) (fs := [])) (S.nfF (ks := [blO b3 (planE.cells p) 47, blO b6 [iI 0, .bool false, iI 0, .slice none 0 0, .slice none 0 0, .slice none 0 0] 57]) (fs := []) hD) p (dnF (ks := [blO b3 (planE.cells p) 47, blO b6 [iI 0, .bool false, iI 0, .slice none 0 0, .slice none 0 0, .slice none 0 0] 57]) (fs := []) (S.u 0 rfl)) n n_h (by first | omega | (dsimp only; omega))) cB74 ?_
 rintro e u ⟨q_t15, ra_t151, rc_t151, rfl, qK_t15, qB_t15, R_t151, hr_t15, T0⟩; refine ⟨_, rfl, fun a s => ?_⟩
 have S2 := S.kF (ks := [blO b3 (planE.cells p) 47, blO b6 [iI 0, .bool false, iI 0, .slice none 0 0, .slice none 0 0, .slice none 0 0] 57]) (fs := []) [bnO (brQ q_t15), rwO intE 3 0 ra_t151 rc_t151 (newS p n)] s T0 ⟨qB_t15, ⟨R_t151.b0.own, R_t151.wf⟩, trivial⟩ ⟨(mo_bn (mo_brQ _)), mo_rw, trivial⟩
 replace S2 := (show St _ _ _ _ _ _ [blO b3 (planE.cells p) 47, blO b6 [iI 0, .bool false, iI 0, .slice none 0 0, .slice none 0 0, .slice none 0 0] 57, bnO (brQ q_t15), rwO intE 3 0 ra_t151 rc_t151 (newS p n)] _ _ from S2)
 clear S; have S := S2; clear S2 s T0 qB_t15 R_t151
 rcases q_t15 with _ | ⟨B_t15, x_t15⟩
 ·skip
  replace S := S.pk [0, 1, 3] (os' := [blO b3 (planE.cells p) 47, blO b6 [iI 0, .bool false, iI 0, .slice none 0 0, .slice none 0 0, .slice none 0 0] 57, rwO intE 3 0 ra_t151 rc_t151 (newS p n)])
  replace S := S.l [(0, .agg (planE.cells p).toArray), (1, iI n), (2, sV l), (3, pT b3 0), (6, pT b6 0), (7, iI 0), (13, .agg (planE.cells p).toArray), (14, iI n), (15, .tuple #[.pointer none, .slice ra_t151 ((newS p n).length) rc_t151, .bool false])] (subM rfl)
  have hng : ¬ ((statesP p.staged (rdsP p) n).isSome = true ∧ p.rounds.xs.length ≤ 16) := fun h => (by have := hr_t15.1.2 h; cases this)
  refine ens S (tr (mv rfl)<|tr (exi rfl rfl)<|tr (exi rfl rfl)<|tr (exi rfl rfl)<|tr (av rfl)<|tr (av rfl)<|la (av rfl)) ?_; clear S; intro a u S
  refine wp_seq ?_
  refine rs S (tr (mv rfl)<|la (ov fun S=>x_not (S.e rfl))) ?_; clear S; intro a u S
  refine cdt S rfl ?_
  refine rs S (tr (ov fun S=>x_bd S [] [iI 0, .bool false, iI 0, .slice none 0 0, .slice none 0 0, .slice none 0 0])<|tr (stkw 1 rfl rfl rfl)<|la (av rfl)) ?_; clear S; intro a u S
  refine wp_ret (then_r ?_)
  refine retcw2 rfl S.s rfl rfl (S.k 1 rfl).all wD57 ?_
  replace S := S.pk []
  refine ⟨(⟨0, false, 0, (Sl.mk none 0 ([])), (Sl.mk none 0 ([])), (Sl.mk none 0 ([]))⟩ : Ctrl), (r2 rfl (vi ?_)), ⟨(show inI64 0 from ⟨by omega, by omega⟩), trivial, (show inI64 0 from ⟨by omega, by omega⟩), sl_nil, sl_nil, sl_nil⟩, ?_, S.m.c⟩
  ·have e : replE p n l.xs = 1 := by unfold replE; rw [if_pos hng]
   exact e.symm
  have e : replE p n l.xs = 1 := by unfold replE; rw [if_pos hng]
  rw [replC_z (by rw [e]; decide)]
  exact ⟨rfl, rfl, rfl, rfl, rfl, rfl⟩
 skip
 replace S := (show St _ _ _ _ _ _ [blO b3 (planE.cells p) 47, blO b6 [iI 0, .bool false, iI 0, .slice none 0 0, .slice none 0 0, .slice none 0 0] 57, bnO (brF B_t15 x_t15), rwO intE 3 0 ra_t151 rc_t151 (newS p n)] _ _ from S)
 replace S := S.l [(0, .agg (planE.cells p).toArray), (1, iI n), (2, sV l), (3, pT b3 0), (6, pT b6 0), (7, iI 0), (13, .agg (planE.cells p).toArray), (14, iI n), (15, .tuple #[pT B_t15 0, .slice ra_t151 ((newS p n).length) rc_t151, .bool true])] (subM rfl)
 obtain ⟨hg, hx⟩ := hr_t15
 have hgd : (statesP p.staged (rdsP p) n).isSome = true ∧ p.rounds.xs.length ≤ 16 := hg.1 rfl
 have hx0 := hx _ rfl
 have hMA : MachAt (rdsP p) (stsD (statesP p.staged (rdsP p) n)) n (mB x_t15) [] := by
  obtain ⟨sts, hst⟩ := Option.isSome_iff_exists.1 hgd.1
  obtain ⟨hn, hPO, hne⟩ := statesP_ok hst (by rw [rdsP_len]; exact hgd.2)
  have hs : stsD (statesP p.staged (rdsP p) n) = sts := by rw [hst]; rfl
  have hc := (startC_new hPO).1.tg
  rw [show ((n.toNat : Nat) : Int) = n from by omega] at hc
  have e := hx0.2.2.2
  have ht : (mB x_t15).target.xs.length = n.toNat := by
   show (cB x_t15).target.length = _
   rw [e, hs]
   exact hc
  exact ⟨hx0.1, Nat.zero_le _, by omega, hx0.2.1, hx0.2.2.1, by show noS (cB x_t15) = _; rw [e]; rfl, fun r h => by cases h⟩
 refine ens S (tr (mv rfl)<|tr (exi rfl rfl)<|tr (exi rfl rfl)<|tr (exi rfl rfl)<|tr (av rfl)<|tr (av rfl)<|la (av rfl)) ?_; clear S; intro a u S
 refine wp_seq ?_
 refine rs S (tr (mv rfl)<|la (ov fun S=>x_not (S.e rfl))) ?_; clear S; intro a u S
 refine cdf S rfl ?_
 refine wp_skip (then_n (wp_seq ?_))
 have hn7 : l.xs.length ≤ 9223372036854775807 := ((S.u 1 rfl)).1.len
 refine rs S (tr (mv rfl)<|tr (leni uT32 rfl)<|la (gtri rfl rfl)) ?_; clear S; intro a u S
 refine cd S rfl ?_ ?_
 ·intro hc0
  refine rs S (tr (ov fun S=>x_bd S [] [iI 0, .bool false, iI 0, .slice none 0 0, .slice none 0 0, .slice none 0 0])<|tr (stkw 1 rfl rfl rfl)<|la (av rfl)) ?_; clear S; intro a u S
  refine wp_ret (then_r ?_)
  refine retcw2 rfl S.s rfl rfl (S.k 1 rfl).all wD57 ?_
  replace S := S.pk []
  refine ⟨(⟨0, false, 0, (Sl.mk none 0 ([])), (Sl.mk none 0 ([])), (Sl.mk none 0 ([]))⟩ : Ctrl), (r2 rfl (vi ?_)), ⟨(show inI64 0 from ⟨by omega, by omega⟩), trivial, (show inI64 0 from ⟨by omega, by omega⟩), sl_nil, sl_nil, sl_nil⟩, ?_, S.m.c⟩
  ·have e : replE p n l.xs = 3 := by unfold replE; rw [if_neg (fun h => h hgd), if_pos (by omega)]
   exact e.symm
  have e : replE p n l.xs = 3 := by unfold replE; rw [if_neg (fun h => h hgd), if_pos (by omega)]
  rw [replC_z (by rw [e]; decide)]
  exact ⟨rfl, rfl, rfl, rfl, rfl, rfl⟩
 intro hc1
 refine wp_skip (then_n (wp_seq ?_))
 refine rs S (la (av rfl)) ?_; clear S; intro a u S
 refine wp_block ?_
 refine lp2 (fun (k : Nat) (bj : Brn) => [(1, iI n), (2, sV l), (6, pT b6 0), (8, pT B_t15 0), (11, iN k)]) (fun (k : Nat) (bj : Brn) => [blO b3 (planE.cells p) 47, blO b6 [iI 0, .bool false, iI 0, .slice none 0 0, .slice none 0 0, .slice none 0 0] 57, bnO (brF B_t15 bj), rwO intE 3 0 ra_t151 rc_t151 (newS p n)]) (fun (k : Nat) (bj : Brn) => brK bj ∧ (k ≤ l.xs.length ∧ MachAt (rdsP p) (stsD (statesP p.staged (rdsP p) n)) n (mB bj) (l.xs.take k))) (fun (k : Nat) (bj : Brn) => l.xs.length - k) S 0 x_t15 (subM rfl) rfl ?_ ?_
 ·refine ⟨qK_t15, ?_⟩
  exact ⟨Nat.zero_le _, hMA⟩
 clear S; intro k bj a u S hR
 obtain ⟨hk_bj, hR⟩ := hR
 obtain ⟨hk, hA⟩ := hR
 have hOK : BrOK bj := hA.ok
 have htg : (bj.target.xs.length : Int) = n := hA.tg
 refine wp_seq ?_
 refine rs S (tr (mv rfl)<|tr (mv rfl)<|tr (leni uT32 rfl)<|la (lssi rfl rfl)) ?_; clear S; intro a u S
 refine cd S rfl ?_ ?_
 ·intro hc2
  refine wp_skip (then_n (wp_seq (wp_block (wp_seq ?_))))
  obtain ⟨hl12, hu12⟩ : inI64 ((l.xs.getD k recE.dflt).kind) := id ((((S.u 1 rfl)).1.wf k (by omega)).1)
  obtain ⟨hl13, hu13⟩ : inI64 ((l.xs.getD k recE.dflt).dev) := id ((((S.u 1 rfl)).1.wf k (by omega)).2.1)
  obtain ⟨hl14, hu14⟩ : inI64 ((l.xs.getD k recE.dflt).inc) := id ((((S.u 1 rfl)).1.wf k (by omega)).2.2.1)
  obtain ⟨hl15, hu15⟩ : inI64 ((l.xs.getD k recE.dflt).seq) := id ((((S.u 1 rfl)).1.wf k (by omega)).2.2.2)
  refine rs S (tr (mv rfl)<|tr (mv rfl)<|tr (idxi uT32 sZ24 rfl rfl k rfl (by omega) (((S.u 1 rfl)).1.adr (i := k) (by omega)))<|tr (ov fun S=>x_ldw (S.e rfl) (((S.u 1 rfl)).1.wcell k (by omega) _ rfl _ rfl) wD24)<|tr (oc (fun S=>rValid _ _ S.x (.nil _) (l.xs.getD k recE.dflt) (dn0 (((S.u 1 rfl)).1.wf k (by omega)))) cB64)<|tr (noti rfl)<|tr (mv rfl)<|tr (og 38 rfl gf fun S hg=>x_move (S.e rfl))<|tr (og 38 rfl gf fun S hg=>x_move (S.e rfl))<|tr (og 38 rfl gf fun S hg=>x_idx uT32 sZ24 (S.p rfl hg) (S.p rfl hg) k rfl (by omega) (((S.u 1 rfl)).1.adr (i := k) (by omega)))<|tr (og 38 rfl gf fun S hg=>xf (off l.a + k * 4) 1 uT24 (S.p rfl hg))<|tr (og 38 rfl gf fun S hg=>x_load sC3 (S.p rfl hg) (((S.u 1 rfl)).1.cell k (by omega) 1 _ rfl))<|tr (og 38 rfl gf fun S hg=>x_move (S.e rfl))<|tr (og 38 rfl gf fun S hg=>x_geq (S.p rfl hg) (S.p rfl hg))<|la (ori rfl rfl rfl)) ?_; clear S; intro a u S
  refine cd S rfl ?_ ?_
  ·intro hc3
   refine rs S (tr (ov fun S=>x_bd S [] [iI 0, .bool false, iI 0, .slice none 0 0, .slice none 0 0, .slice none 0 0])<|tr (stkw 1 rfl rfl rfl)<|la (av rfl)) ?_; clear S; intro a u S
   refine wp_ret (then_r (blk_r (then_r (then_r (blk_r (then_r ?_))))))
   refine retcw2 rfl S.s rfl rfl (S.k 1 rfl).all wD57 ?_
   replace S := S.pk []
   refine ⟨(⟨0, false, 0, (Sl.mk none 0 ([])), (Sl.mk none 0 ([])), (Sl.mk none 0 ([]))⟩ : Ctrl), (r2 rfl (vi ?_)), ⟨(show inI64 0 from ⟨by omega, by omega⟩), trivial, (show inI64 0 from ⟨by omega, by omega⟩), sl_nil, sl_nil, sl_nil⟩, ?_, S.m.c⟩
   ·have e : replE p n l.xs = 1 := by unfold replE; rw [if_neg (fun h => h hgd), if_neg (by omega), if_neg (fun h => by have := h _ (getD_mem (d := recE.dflt) (i := k) (by omega)); rcases hc3 with q | q; exact q this.1; omega)]
    exact e.symm
   have e : replE p n l.xs = 1 := by unfold replE; rw [if_neg (fun h => h hgd), if_neg (by omega), if_neg (fun h => by have := h _ (getD_mem (d := recE.dflt) (i := k) (by omega)); rcases hc3 with q | q; exact q this.1; omega)]
   rw [replC_z (by rw [e]; decide)]
   exact ⟨rfl, rfl, rfl, rfl, rfl, rfl⟩
  intro hc4
  obtain ⟨hv0, hdv0⟩ := not_or.1 hc4
  have hv := Classical.not_not.1 hv0
  have hv2 := hv
  unfold recOK at hv2
  refine wp_skip (then_n (r0 ?_))
  refine sp S (tr (mv rfl)<|tr (mv rfl)<|tr (mv rfl)<|tr (idxi uT32 sZ24 rfl rfl k rfl (by omega) (((S.u 1 rfl)).1.adr (i := k) (by omega)))<|la (ov fun S=>x_ldw (S.e rfl) (((S.u 1 rfl)).1.wcell k (by omega) _ rfl _ rfl) wD24)) ?_; clear S; intro a u S
  replace S := S.pk [0, 1, 3, 2] (os' := [blO b3 (planE.cells p) 47, blO b6 [iI 0, .bool false, iI 0, .slice none 0 0, .slice none 0 0, .slice none 0 0] 57, rwO intE 3 0 ra_t151 rc_t151 (newS p n), bnO (brF B_t15 bj)])
  refine cl S (rStep _ _ (S.xx (ow [bnO (brF B_t15 bj)])) B_t15 bj (S.mF (ks := [blO b3 (planE.cells p) 47, blO b6 [iI 0, .bool false, iI 0, .slice none 0 0, .slice none 0 0, .slice none 0 0] 57, rwO intE 3 0 ra_t151 rc_t151 (newS p n)]) (fs := [bnO (brF B_t15 bj)])) (S.nfF (ks := [blO b3 (planE.cells p) 47, blO b6 [iI 0, .bool false, iI 0, .slice none 0 0, .slice none 0 0, .slice none 0 0] 57, rwO intE 3 0 ra_t151 rc_t151 (newS p n)]) (fs := [bnO (brF B_t15 bj)]) hD) hk_bj (S.dF (ks := [blO b3 (planE.cells p) 47, blO b6 [iI 0, .bool false, iI 0, .slice none 0 0, .slice none 0 0, .slice none 0 0] 57, rwO intE 3 0 ra_t151 rc_t151 (newS p n)]) (fs := [bnO (brF B_t15 bj)]) 0 rfl (mo_bn (mo_br _ _))) (l.xs.getD k recE.dflt) (dnF (ks := [blO b3 (planE.cells p) 47, blO b6 [iI 0, .bool false, iI 0, .slice none 0 0, .slice none 0 0, .slice none 0 0] 57, rwO intE 3 0 ra_t151 rc_t151 (newS p n)]) (fs := [bnO (brF B_t15 bj)]) (((S.u 1 rfl)).1.wf k (by omega))) (⟨by first | assumption | exact hOK, by first | omega | assumption, by first | omega | assumption⟩)) cB75 ?_
  rintro e u ⟨b_t53, rfl, hk_b_t53, hK_b_t53, hq_b_t53, T0⟩; refine ⟨_, rfl, fun a s => ?_⟩
  have S2 := S.kF (ks := [blO b3 (planE.cells p) 47, blO b6 [iI 0, .bool false, iI 0, .slice none 0 0, .slice none 0 0, .slice none 0 0] 57, rwO intE 3 0 ra_t151 rc_t151 (newS p n)]) (fs := [bnO (brF B_t15 bj)]) [bnO (brF B_t15 b_t53)] s T0 ⟨hK_b_t53, trivial⟩ ⟨(mo_bn (mo_br _ _)), trivial⟩
  replace S2 := (show St _ _ _ _ _ _ [blO b3 (planE.cells p) 47, blO b6 [iI 0, .bool false, iI 0, .slice none 0 0, .slice none 0 0, .slice none 0 0] 57, rwO intE 3 0 ra_t151 rc_t151 (newS p n), bnO (brF B_t15 b_t53)] _ _ from S2)
  clear S; have S := S2; clear S2 s T0 hK_b_t53
  refine nn (blk_n (then_n ?_))
  refine rg S (tr (mv rfl)<|tr (addi ((k + 1 : Nat) : Int) rfl rfl (w_i64 (by omega)))<|la (av rfl)) ?_; clear S; intro a u S
  replace S := S.pk [0, 1, 3, 2]
  refine then_n ?_
  refine ⟨(k + 1), b_t53, S.re (subM rfl) rfl rfl, ?_, ?_⟩
  ·refine ⟨hk_b_t53, ?_⟩
   refine ⟨by omega, ?_⟩
   rw [take_up (l := l.xs) (k := k) (m := k + 1) (by omega) rfl recE.dflt]
   exact hA.step ⟨hq_b_t53.1.2.1, hq_b_t53.1.2.2⟩ hq_b_t53.2 hv (by omega)
  omega
 intro hc5
 refine wp_exit (then_e (then_e (blk_e (then_n (rs0 ?_)))))
 refine sp S (tr (mv rfl)<|la (ov fun S=>x_nilck (S.e rfl))) ?_; clear S; intro a u S
 replace S := S.pk [0, 1, 3, 2] (os' := [blO b3 (planE.cells p) 47, blO b6 [iI 0, .bool false, iI 0, .slice none 0 0, .slice none 0 0, .slice none 0 0] 57, rwO intE 3 0 ra_t151 rc_t151 (newS p n), bnO (brF B_t15 bj)])
 replace S := (show St _ _ _ _ _ _ [blO b3 (planE.cells p) 47, blO b6 [iI 0, .bool false, iI 0, .slice none 0 0, .slice none 0 0, .slice none 0 0] 57, rwO intE 3 0 ra_t151 rc_t151 (newS p n), blO B_t15 [bD (bj.staged = true), sV bj.rounds, sV bj.states, iI bj.round, bD (bj.back = true), iI bj.seq, sV bj.target, sV bj.known, sV bj.waiting] 89, daO (slE (slE chgE)) bj.rounds, daO (slE (slE intE)) bj.states, daO (slE intE) bj.target, daO (slE intE) bj.known, daO (slE intE) bj.waiting] _ _ from S.opn (ks := [blO b3 (planE.cells p) 47, blO b6 [iI 0, .bool false, iI 0, .slice none 0 0, .slice none 0 0, .slice none 0 0] 57, rwO intE 3 0 ra_t151 rc_t151 (newS p n)]))
 replace S := S.ar (wfF (slE (slE chgE)) bj.rounds) (S.da 4 rfl)
 replace S := S.ar (wfF (slE (slE intE)) bj.states) (S.da 5 rfl)
 replace S := S.ar (wfF (slE intE) bj.target) (S.da 6 rfl)
 replace S := S.ar (wfF (slE intE) bj.known) (S.da 7 rfl)
 replace S := S.ar (wfF (slE intE) bj.waiting) (S.da 8 rfl)
 replace S := S.pk [0, 1, 2, 3] (os' := [blO b3 (planE.cells p) 47, blO b6 [iI 0, .bool false, iI 0, .slice none 0 0, .slice none 0 0, .slice none 0 0] 57, rwO intE 3 0 ra_t151 rc_t151 (newS p n), blO B_t15 [bD (bj.staged = true), sV bj.rounds, sV bj.states, iI bj.round, bD (bj.back = true), iI bj.seq, sV bj.target, sV bj.known, sV bj.waiting] 89])
 have : bj.rounds.xs.length ≤ 9223372036854775807 := ((S.u 2 rfl)).1.len
 have : bj.states.xs.length ≤ 9223372036854775807 := ((S.u 3 rfl)).1.len
 have : bj.target.xs.length ≤ 9223372036854775807 := ((S.u 4 rfl)).1.len
 have : bj.known.xs.length ≤ 9223372036854775807 := ((S.u 5 rfl)).1.len
 have : bj.waiting.xs.length ≤ 9223372036854775807 := ((S.u 6 rfl)).1.len
 obtain ⟨_, _⟩ : inI64 bj.round := hk_bj.1
 obtain ⟨_, _⟩ : inI64 bj.seq := hk_bj.2
 refine ens S (tr (fldi 0 3 rfl uT89)<|tr (ov fun S=>x_loadw [iI bj.round, bD (bj.back = true), iI bj.seq, sV bj.target, sV bj.known, sV bj.waiting] wD57 (S.e rfl) ((S.k 3 rfl).mid [bD (bj.staged = true), sV bj.rounds, sV bj.states] [iI bj.round, bD (bj.back = true), iI bj.seq, sV bj.target, sV bj.known, sV bj.waiting] [] rfl _ rfl))<|tr (stkw 1 rfl rfl rfl)<|la (av rfl)) ?_; clear S; intro a u S
 refine wp_ret ?_
 refine retcw2 rfl S.s rfl rfl (S.k 1 rfl).all wD57 ?_
 replace S := S.pk []
 refine ⟨(⟨bj.round, bj.back, bj.seq, bj.target, bj.known, bj.waiting⟩ : Ctrl), (r2 rfl (vi ?_)), ⟨hk_bj.1, trivial, hk_bj.2, (S.u 4 rfl), (S.u 5 rfl), (S.u 6 rfl)⟩, ?_, S.m.c⟩
 ·have e : replE p n l.xs = 0 := by
   unfold replE
   rw [if_neg (fun h => h hgd), if_neg (by omega), if_pos (by have := hA.al; rwa [List.take_of_length_le (by omega)] at this)]
  rw [e]
 have e : replE p n l.xs = 0 := by
  unfold replE
  rw [if_neg (fun h => h hgd), if_neg (by omega), if_pos (by have := hA.al; rwa [List.take_of_length_le (by omega)] at this)]
 unfold replC
 rw [if_pos e]
 have hab : cB bj = _ := hA.ab
 rw [List.take_of_length_le (by omega)] at hab
 rw [← hab]
 exact ⟨rfl, rfl, rfl, rfl, rfl, rfl⟩
end Go.Proofs.Ytobggnpnochnnaa.V
namespace Go.Proofs.Ytobggnpnochnnaa.V
open Go.RowKit Go.Proofs.Ytobggnpnochnnaa
set_option linter.unusedVariables false
set_option linter.unusedSimpArgs false
set_option maxHeartbeats 2000000 in
set_option maxRecDepth 20000 in
theorem lReplays (w : World) (F : Nat → Prop) (hF : Old F w) (M : MS [] w) (p : Plan) (p_w : planE.wf (Fr F []) w.heap p) (n : Int) (n_h : inI64 n) (l : Sl Rec) (l_w : (slE recE).wf (Fr F []) w.heap l) (hb : p.rounds.xs.length ≤ 100) :
 Calls Try.prog 32 #[.agg (planE.cells p).toArray, iI n, sV l] w fun e w' => e = .returned (bD (True)) ∧ Tr [] w [] w' := by
 have : p.rounds.xs.length ≤ 9223372036854775807 := (p_w.2).1.len
 obtain ⟨n_hl, n_hu⟩ : inI64 n := id n_h
 have : l.xs.length ≤ 9223372036854775807 := (l_w).1.len
 refine go Try.func32 rfl 33 rfl [wfF planE p, wfF (slE recE) l] [] hF M ⟨p_w, l_w, trivial⟩ trivial ?_
 intro a S
 have hD : ∀ k, In ([] : List BS) k → ¬ F k := fun _ h => h.elim
 refine rs0 ?_
 refine nbp S (x_box _ (S.e rfl) rfl) ?_; clear S; intro a u b3 S
 refine ens S (la (av rfl)) ?_; clear S; intro a u S
 refine rs0 ?_
 refine sp S (tr (ldkw 0 rfl rfl wD47)<|tr (mv rfl)<|la (mv rfl)) ?_; clear S; intro a u S
 refine cl S (jReplay _ _ S.x (.nil _) p (dn0 (S.u 0 rfl)) n n_h l (dn0 (S.u 1 rfl)) (by first | omega | (dsimp only; omega))) cB68 ?_
 rintro e u ⟨r_t150, rfl, R_t150, hr_t150, T0⟩; refine ⟨_, rfl, fun a s => ?_⟩
 replace S := (S.k0 s T0).ar (wfF ctrlE r_t150) (Enc.up _ R_t150); clear s T0 R_t150
 obtain ⟨hl3, hu3⟩ : inI64 r_t150.round := id ((S.u 2 rfl).1)
 obtain ⟨hl4, hu4⟩ : inI64 r_t150.seq := id ((S.u 2 rfl).2.2.1)
 have hn5 : r_t150.target.xs.length ≤ 9223372036854775807 := ((S.u 2 rfl).2.2.2.1).1.len
 have hn6 : r_t150.known.xs.length ≤ 9223372036854775807 := ((S.u 2 rfl).2.2.2.2.1).1.len
 have hn7 : r_t150.waiting.xs.length ≤ 9223372036854775807 := ((S.u 2 rfl).2.2.2.2.2).1.len
 refine sp S (tr (mv rfl)<|tr (exi rfl rfl)<|la (exi rfl rfl)) ?_; clear S; intro a u S
 refine nbp S (x_allocz _ iZ57 rfl) ?_; clear S; intro a u b7 S
 refine ens S (tr (stkw 1 rfl rfl rfl)<|la (av rfl)) ?_; clear S; intro a u S
 refine rs0 ?_
 refine sp S (tr (ldkw 0 rfl rfl wD47)<|tr (mv rfl)<|la (mv rfl)) ?_; clear S; intro a u S
 refine cl S (rReplay _ _ S.x (.nil _) p (dn0 (S.u 0 rfl)) n n_h l (dn0 (S.u 1 rfl)) (by first | omega | (dsimp only; omega))) cB35 ?_
 rintro e u ⟨r_t220, rfl, R_t220, hr_t220, T0⟩; refine ⟨_, rfl, fun a s => ?_⟩
 replace S := (S.k0 s T0).ar (wfF ctrlE r_t220) (Enc.up _ R_t220); clear s T0 R_t220
 obtain ⟨hl9, hu9⟩ : inI64 r_t220.round := id ((S.u 3 rfl).1)
 obtain ⟨hl10, hu10⟩ : inI64 r_t220.seq := id ((S.u 3 rfl).2.2.1)
 have hn11 : r_t220.target.xs.length ≤ 9223372036854775807 := ((S.u 3 rfl).2.2.2.1).1.len
 have hn12 : r_t220.known.xs.length ≤ 9223372036854775807 := ((S.u 3 rfl).2.2.2.2.1).1.len
 have hn13 : r_t220.waiting.xs.length ≤ 9223372036854775807 := ((S.u 3 rfl).2.2.2.2.2).1.len
 refine sp S (tr (mv rfl)<|tr (exi rfl rfl)<|la (exi rfl rfl)) ?_; clear S; intro a u S
 refine nbp S (x_allocz _ iZ57 rfl) ?_; clear S; intro a u b9 S
 refine ens S (tr (stkw 2 rfl rfl rfl)<|la (av rfl)) ?_; clear S; intro a u S
 refine rs S (tr (ldkw 1 rfl rfl wD57)<|tr (ldkw 2 rfl rfl wD57)<|tr (oc (fun S=>rSameC _ _ S.x (.nil _) r_t150 (dn0 (S.u 2 rfl)) r_t220 (dn0 (S.u 3 rfl))) cB38)<|tr (mv rfl)<|tr (og 28 rfl gt fun S hg=>x_move (S.e rfl))<|tr (og 28 rfl gt fun S hg=>x_move (S.e rfl))<|tr (og 28 rfl gt fun S hg=>x_eql (S.p rfl hg) (S.p rfl hg))<|tr (andi rfl rfl rfl)<|la (av rfl)) ?_; clear S; intro a u S
 refine wp_ret ?_
 refine ret1 rfl S.s rfl ?_
 replace S := S.pk []
 refine ⟨(r1 (vb ?_)), S.m.c⟩
 exact ⟨fun _ => trivial, fun _ => ⟨same_of_ctlR (by assumption) (by assumption), rfl⟩⟩
end Go.Proofs.Ytobggnpnochnnaa.V
namespace Go.Proofs.Ytobggnpnochnnaa.V
open Go.RowKit Go.Proofs.Ytobggnpnochnnaa
set_option linter.unusedVariables false
set_option linter.unusedSimpArgs false
theorem allJ_nil {n : Int} : allJ n [] := fun r h => by cases h
theorem allJ_ok {n : Int} {l : List Rec} (h : allJ n l) : ∀ r ∈ l, recOK r := fun r hr => (h r hr).1
theorem allJ_snoc {n : Int} {l : List Rec} {r : Rec} (h : allJ n l) (h1 : recOK r) (h2 : r.dev < n) : allJ n (l ++ [r]) := fun x hx => (List.mem_append.1 hx).elim (h x) fun q => by rw [List.mem_singleton.1 q]; exact ⟨h1, h2⟩
theorem bytesJ_snoc (l : List Rec) (r : Rec) : bytesJ (l ++ [r]) = bytesJ l ++ (if recOK r then encR r else []) := by rw [bytesJ_app]; unfold bytesJ; simp
set_option maxHeartbeats 2000000 in
set_option maxRecDepth 20000 in
theorem lLog (w : World) (F : Nat → Prop) (hF : Old F w) (T : Nat) (M : MS [one T] w) (T_l : Sl Int) (T_w : (slE intE).wf (Fr F [one T]) w.heap T_l) (T_K : TpB 112 T T_l w) (n : Int) (n_h : inI64 n) :
 Calls Try.prog 25 #[pT T 0, iI n] w fun e w' => ∃ (rx0 : List Rec) (ra0 : Option Addr) (rc0 : Nat) (ra1 : Option Addr) (rc1 : Nat), e = .returned (.tuple #[.slice ra0 rx0.length rc0, .slice ra1 ((bytesJ rx0).length) rc1]) ∧ Row recE 24 w.heap.size F [abk ra0, abk ra1, one T] w' ra0 rc0 rx0 ∧ Row u8E 5 w.heap.size F [abk ra0, abk ra1, one T] w' ra1 rc1 (bytesJ rx0) ∧ (rx0.length ≤ 8 ∧ allJ n rx0) ∧ TpB 112 T T_l w' ∧ Tr [one T] w [abk ra0, abk ra1, one T] w' := by
 obtain ⟨n_hl, n_hu⟩ : inI64 n := id n_h
 refine go Try.func25 rfl 43 rfl [wfF (slE intE) T_l] [tpO 112 T T_l] hF M ⟨T_w, trivial⟩ ⟨T_K, trivial⟩ ?_
 intro a S
 refine rs S (tr (av rfl)<|la (av rfl)) ?_; clear S; intro a u S
 refine rs S (la (av rfl)) ?_; clear S; intro a u S
 refine rs S (la (av rfl)) ?_; clear S; intro a u S
 refine wp_seq (rs0 ?_)
 refine sp S (la (mv rfl)) ?_; clear S; intro a u S
 refine cl S (gNext _ _ S.x T (S.M.pick [0] (by decide)) T_l (dn1 (js := [0]) (S.u 0 rfl)) (S.t 0 rfl) 8 ⟨by omega, by omega⟩) cB26 ?_
 rintro e u ⟨r_t13, rfl, hr_t13, tK, T0⟩; refine ⟨_, rfl, fun a s => ?_⟩
 replace S := S.k1 0 rfl s T0 tK; clear s T0 tK
 refine ens S (la (av rfl)) ?_; clear S; intro a u S
 refine wp_block ?_
 replace S := S.nr recE 24
 replace S := S.nr u8E 5
 refine lp7 (fun (c : Int) (ls_a : Option Addr) (ls_c : Nat) (ls : List Rec) (bs_a : Option Addr) (bs_c : Nat) (bs : List Int) => [(0, pT T 0), (1, iI n), (4, .slice none 0 0), (5, .slice none 0 0), (8, iI c), (6, .slice ls_a ls.length ls_c), (7, .slice bs_a bs.length bs_c)]) (fun (c : Int) (ls_a : Option Addr) (ls_c : Nat) (ls : List Rec) (bs_a : Option Addr) (bs_c : Nat) (bs : List Int) => [tpO 112 T T_l, rwO recE 24 w.heap.size ls_a ls_c ls, rwO u8E 5 w.heap.size bs_a bs_c bs]) (fun (c : Int) (ls_a : Option Addr) (ls_c : Nat) (ls : List Rec) (bs_a : Option Addr) (bs_c : Nat) (bs : List Int) => (0 ≤ c ∧ c ≤ 7) ∧ (ls.length : Int) + c ≤ 8 ∧ allJ n ls ∧ bs = bytesJ ls) (fun (c : Int) (ls_a : Option Addr) (ls_c : Nat) (ls : List Rec) (bs_a : Option Addr) (bs_c : Nat) (bs : List Int) => c.toNat) S r_t13 none 0 ([]) none 0 ([]) (subM rfl) rfl ?_ ?_
 ·exact ⟨⟨by omega, by omega⟩, by simp; omega, allJ_nil, rfl⟩
 clear S; intro c ls_a ls_c ls bs_a bs_c bs a u S hR
 have ls_len := (S.row 1 rfl).len_le; simp only [maxLen] at ls_len
 have bs_len := (S.row 2 rfl).len_le; simp only [maxLen] at bs_len
 obtain ⟨⟨hc0_, hc7_⟩, hll, hal, hbs⟩ := hR
 have hbl : bs.length = 14 * ls.length := by rw [hbs]; exact bytesJ_lenOK (allJ_ok hal)
 refine wp_seq ?_
 refine rs S (tr (mv rfl)<|la (gtri rfl rfl)) ?_; clear S; intro a u S
 refine cd S rfl ?_ ?_
 ·intro hc0
  refine wp_skip (then_n (wp_seq (wp_block (rs0 ?_))))
  refine sp S (tr (mv rfl)<|la (mv rfl)) ?_; clear S; intro a u S
  refine cl S (lRecord _ _ S.x T (S.M.pick [0] (by decide)) T_l (dn1 (js := [0]) (S.u 0 rfl)) (S.t 0 rfl) n n_h) cB20 ?_
  rintro e u ⟨r_t20, rfl, R_t20, tK, T0⟩; refine ⟨_, rfl, fun a s => ?_⟩
  replace S := (S.k1 0 rfl s T0 tK).ar (wfF recE r_t20) (Enc.up _ R_t20); clear s T0 tK R_t20
  obtain ⟨hl7, hu7⟩ : inI64 r_t20.kind := id ((S.u 1 rfl).1)
  obtain ⟨hl8, hu8⟩ : inI64 r_t20.dev := id ((S.u 1 rfl).2.1)
  obtain ⟨hl9, hu9⟩ : inI64 r_t20.inc := id ((S.u 1 rfl).2.2.1)
  obtain ⟨hl10, hu10⟩ : inI64 r_t20.seq := id ((S.u 1 rfl).2.2.2)
  refine nbp S (x_allocz _ iZ24 rfl) ?_; clear S; intro a u b9 S
  refine ens S (la (stkw 3 rfl rfl rfl)) ?_; clear S; intro a u S
  refine rs0 ?_
  refine sp S (la (ldkw 3 rfl rfl wD24)) ?_; clear S; intro a u S
  refine cl S (rEncode _ _ S.x (.nil _) r_t20 (dn0 (S.u 1 rfl))) cB22 ?_
  rintro e u ⟨ra_t230, rc_t230, rfl, R_t230, T0⟩; refine ⟨_, rfl, fun a s => ?_⟩
  replace S := S.kr [⟨_, u8E, 5, ra_t230, rc_t230, (if recOK r_t20 then encR r_t20 else [])⟩] s T0 ⟨R_t230, trivial⟩; clear s T0 R_t230
  have hel := enc_len r_t20
  refine ens S (tr (mv rfl)<|tr (exi rfl rfl)<|tr (exi rfl rfl)<|tr (av rfl)<|la (av rfl)) ?_; clear S; intro a u S
  refine rs S (tr (mv rfl)<|tr (eqli rfl rfl)<|tr (mv rfl)<|tr (og 28 rfl gt fun S hg=>xf (0) 1 uT24 (S.e rfl))<|tr (og 28 rfl gt fun S hg=>x_load sC3 (S.p rfl hg) ((S.k 3 rfl).cell (j := 1) rfl))<|tr (og 28 rfl gt fun S hg=>x_move (S.e rfl))<|tr (og 28 rfl gt fun S hg=>x_lss (S.p rfl hg) (S.p rfl hg))<|la (andi rfl rfl rfl)) ?_; clear S; intro a u S
  refine cd S rfl ?_ ?_
  ·intro hc1
   refine r0 ?_
   refine sp S (tr (mv rfl)<|la (ldkw 3 rfl rfl wD24)) ?_; clear S; intro a u S
   refine nbs recE S [r_t20] (x_bs S [(0, .agg (recE.cells r_t20).toArray)] uT32 iZ24) (fun x hx => by simp only [List.mem_cons, List.not_mem_nil, or_false] at hx; rw [hx]; exact (show recE.wf _ _ r_t20 from ⟨(S.u 1 rfl).1, (S.u 1 rfl).2.1, (S.u 1 rfl).2.2.1, (S.u 1 rfl).2.2.2⟩)) ?_; clear S; intro a u b36 S
   refine ap (E := recE) (ys := [r_t20]) S 1 rfl uT32 iZ24 rfl rfl (show LAt recE _ _ (some ⟨b36, 0, none⟩) ([r_t20]) from ((S.u 2 rfl)).1) ((S.u 2 rfl)).2.2 (LAt.mem (show LAt recE _ _ (some ⟨b36, 0, none⟩) ([r_t20]) from ((S.u 2 rfl)).1)) ⟨by unfold maxLen; (try simp only [List.length_cons, List.length_nil, List.length_append, List.length_map]); omega, by (try simp only [List.length_cons, List.length_nil, List.length_append, List.length_map]); omega⟩ ?_; clear S; intro a u ad37 cap37 S
   refine sp S (tr (mv rfl)<|la (mv rfl)) ?_; clear S; intro a u S
   refine ap (E := u8E) (ys := (if recOK r_t20 then encR r_t20 else [])) S 2 rfl uT28 iZ5 rfl rfl ((S.row 4 rfl).lat (by first | decide | exact Nat.one_pos | exact Nat.succ_pos _)) (S.row 4 rfl).cap_le.2 (S.row 4 rfl).wf ⟨by unfold maxLen; (try simp only [List.length_cons, List.length_nil, List.length_append, List.length_map]); omega, by (try simp only [List.length_cons, List.length_nil, List.length_append, List.length_map]); omega⟩ ?_; clear S; intro a u ad40 cap40 S
   refine en S (tr (av rfl)<|la (av rfl)) ?_; clear S; intro a u S
   refine blk_n (then_n ?_)
   refine rg S (tr (mv rfl)<|tr (subi (c - 1) rfl rfl (w_i64 (by omega)))<|la (av rfl)) ?_; clear S; intro a u S
   refine then_n ?_
   refine ⟨(c - 1), ad37, cap37, (ls ++ [r_t20]), ad40, cap40, (bs ++ (if recOK r_t20 then encR r_t20 else [])), S.re (subM rfl) rfl rfl, ?_, ?_⟩
   ·first
    | exact ⟨⟨by omega, by omega⟩, by omega, hal, hbs⟩
    | (
    have hv : recOK r_t20 := by
     apply Classical.byContradiction; intro q
     have h := hc1.1
     rw [if_neg q] at h; cases h
    exact ⟨⟨by omega, by omega⟩, by rw [List.length_append, List.length_singleton]; omega, allJ_snoc hal hv hc1.2, by rw [bytesJ_snoc, hbs]⟩)
   omega
  intro hc2
  refine wp_skip (blk_n (then_n ?_))
  refine rg S (tr (mv rfl)<|tr (subi (c - 1) rfl rfl (w_i64 (by omega)))<|la (av rfl)) ?_; clear S; intro a u S
  refine then_n ?_
  refine ⟨(c - 1), ls_a, ls_c, ls, bs_a, bs_c, bs, S.re (subM rfl) rfl rfl, ?_, ?_⟩
  ·first
   | exact ⟨⟨by omega, by omega⟩, by omega, hal, hbs⟩
   | (
   have hv : recOK r_t20 := by
    apply Classical.byContradiction; intro q
    have h := hc2.1
    rw [if_neg q] at h; cases h
   exact ⟨⟨by omega, by omega⟩, by rw [List.length_append, List.length_singleton]; omega, allJ_snoc hal hv hc2.2, by rw [bytesJ_snoc, hbs]⟩)
  omega
 intro hc3
 refine wp_exit (then_e (then_e (blk_e (then_n ?_))))
 refine rs S (tr (mv rfl)<|tr (mv rfl)<|tr (av rfl)<|la (av rfl)) ?_; clear S; intro a u S
 refine wp_ret ?_
 refine ret2 rfl S.s rfl rfl ?_
 replace S := S.pk [1, 2, 0] (os' := [rwO recE 24 w.heap.size ls_a ls_c ls, rwO u8E 5 w.heap.size bs_a bs_c bs, tpO 112 T T_l])
 have hx17 : bytesJ ls = bs := by
  rw [hbs]
 refine ⟨ls, ls_a, ls_c, bs_a, bs_c, (r2 rfl (by rw [hx17])), (S.row 0 rfl), (by rw [hx17]; exact (S.row 1 rfl)), ?_, (S.t 2 rfl), S.m.c⟩
 exact ⟨by omega, hal⟩
end Go.Proofs.Ytobggnpnochnnaa.V
