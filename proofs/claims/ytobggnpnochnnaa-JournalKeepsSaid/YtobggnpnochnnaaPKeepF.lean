/- Texts of this claim in one: part F. -/
import Derived.Test.YtobggnpnochnnaaPKeepE
import Derived.Test.YtobggnpnochnnaaPKeepB
import Derived.Test.YtobggnpnochnnaaPKeepD
namespace Go.Proofs.Ytobggnpnochnnaa.V
open Go.RowKit Go.Proofs.Ytobggnpnochnnaa
set_option linter.unusedVariables false
set_option linter.unusedSimpArgs false
set_option maxHeartbeats 2000000 in
set_option maxRecDepth 20000 in
theorem lSane (w : World) (F : Nat → Prop) (hF : Old F w) (M : MS [] w) :
 Calls Try.prog 24 #[] w fun e w' => e = .returned (bD (True)) ∧ Tr [] w [] w' := by
 have he14 : (encR r1J).length = 14 := rfl
 refine go Try.func24 rfl 129 rfl [] [] hF M trivial trivial ?_
 intro a S
 have hD : ∀ k, In ([] : List BS) k → ¬ F k := fun _ h => h.elim
 refine rs S (la (av rfl)) ?_; clear S; intro a u S
 refine rs0 ?_
 refine sp S (la (ov fun S=>x_bd S [(0, iI 1), (3, iI 1)] [iI 1, iI 0, iI 0, iI 1])) ?_; clear S; intro a u S
 refine nbp S (x_allocz _ iZ24 rfl) ?_; clear S; intro a u b1 S
 refine ens S (la (stkw 0 rfl rfl rfl)) ?_; clear S; intro a u S
 refine rs0 ?_
 refine sp S (la (ldkw 0 rfl rfl wD24)) ?_; clear S; intro a u S
 refine cl S (jEncode _ _ S.x (.nil _) (⟨1, 0, 0, 1⟩ : Rec) ⟨(show inI64 1 from ⟨by omega, by omega⟩), (show inI64 0 from ⟨by omega, by omega⟩), (show inI64 0 from ⟨by omega, by omega⟩), (show inI64 1 from ⟨by omega, by omega⟩)⟩) cB21 ?_
 rintro e u ⟨ra_t190, rc_t190, rfl, R_t190, T0⟩; refine ⟨_, rfl, fun a s => ?_⟩
 replace S := S.kr [⟨_, u8E, 5, ra_t190, rc_t190, (if recOK (⟨1, 0, 0, 1⟩ : Rec) then encR (⟨1, 0, 0, 1⟩ : Rec) else [])⟩] s T0 ⟨R_t190, trivial⟩; clear s T0 R_t190
 have e_19 : (if recOK (⟨1, 0, 0, 1⟩ : Rec) then encR (⟨1, 0, 0, 1⟩ : Rec) else []) = (encR r1J) := if_pos r1_ok
 rw [e_19] at S
 refine ens S (tr (mv rfl)<|tr (exi rfl rfl)<|tr (exi rfl rfl)<|tr (av rfl)<|la (av rfl)) ?_; clear S; intro a u S
 refine rs0 ?_
 refine nbr (q := 0) u8E S [] (x_bsl0 uT28 iZ5) (fun _ h => by simp at h) ?_; clear S; intro a u b23 S
 refine sp S (la (mv rfl)) ?_; clear S; intro a u S
 refine ap (E := u8E) (ys := (encR r1J)) S 2 rfl uT28 iZ5 rfl rfl ((S.row 1 rfl).lat (by first | decide | exact Nat.one_pos | exact Nat.succ_pos _)) (S.row 1 rfl).cap_le.2 (S.row 1 rfl).wf ⟨by unfold maxLen; (try simp only [List.length_cons, List.length_nil, List.length_append, List.length_map]); omega, by (try simp only [List.length_cons, List.length_nil, List.length_append, List.length_map]); omega⟩ ?_; clear S; intro a u ad25 cap25 S
 refine nbs u8E S [7] (x_bs S [(0, .int .u8 7)] uT28 iZ5) (fun x hx => by simp only [List.mem_cons, List.not_mem_nil, or_false] at hx; rw [hx]; exact (show u8E.wf _ _ 7 from (show inU8 7 from ⟨by omega, by omega⟩))) ?_; clear S; intro a u b26 S
 refine ap (E := u8E) (ys := [7]) S 2 rfl uT28 iZ5 rfl rfl (show LAt u8E _ _ (some ⟨b26, 0, none⟩) ([7]) from ((S.u 0 rfl)).1) ((S.u 0 rfl)).2.2 (LAt.mem (show LAt u8E _ _ (some ⟨b26, 0, none⟩) ([7]) from ((S.u 0 rfl)).1)) ⟨by unfold maxLen; (try simp only [List.length_cons, List.length_nil, List.length_append, List.length_map]); omega, by (try simp only [List.length_cons, List.length_nil, List.length_append, List.length_map]); omega⟩ ?_; clear S; intro a u ad27 cap27 S
 refine cl S (jDecode _ _ (S.xx [abk ad27]) (.nil _) (Sl.mk ad27 cap27 (([] ++ (encR r1J)) ++ [7])) (S.rargD hD 2 rfl (by first | decide | exact Nat.one_pos | exact Nat.succ_pos _) _ (by simp))) cB23 ?_
 rintro e u ⟨ra_t280, rc_t280, rfl, R_t280, T0⟩; refine ⟨_, rfl, fun a s => ?_⟩
 replace S := S.krx [⟨_, recE, 24, ra_t280, rc_t280, recsP (([] ++ (encR r1J)) ++ [7]) (decN (([] ++ (encR r1J)) ++ [7]))⟩] s T0 ⟨R_t280, trivial⟩ ⟨fun _ _ _ _ h => h, trivial⟩; clear s T0 R_t280
 have e_28 : recsP (([] ++ (encR r1J)) ++ [7]) (decN (([] ++ (encR r1J)) ++ [7])) = [r1J] := by show recsP (encR r1J ++ [7]) (decN (encR r1J ++ [7])) = [r1J]; rw [(dec_one r1_ok [7] (by decide)).1]; exact (dec_one r1_ok [7] (by decide)).2
 rw [e_28] at S
 refine ens S (tr (mv rfl)<|tr (exi rfl rfl)<|tr (exi rfl rfl)<|tr (av rfl)<|la (av rfl)) ?_; clear S; intro a u S
 refine rs0 ?_
 refine cl S (lOne _ _ S.x (.nil _)) cB69 ?_
 rintro e u ⟨r_t32, rfl, R_t32, hr_t32, T0⟩; refine ⟨_, rfl, fun a s => ?_⟩
 replace S := (S.k0 s T0).ar (wfF planE r_t32) (Enc.up _ R_t32); clear s T0 R_t32
 have ho_t32 := one_len hr_t32
 have hn6 : r_t32.rounds.xs.length ≤ 9223372036854775807 := ((S.u 1 rfl).2).1.len
 refine sp S (la (mv rfl)) ?_; clear S; intro a u S
 replace S := S.fz 3 rfl (by show 0 < recE.n; decide)
 refine cl S (jReplay _ _ S.x (.nil _) r_t32 (dn0 (S.u 1 rfl)) 1 ⟨by omega, by omega⟩ (Sl.mk ra_t280 rc_t280 ([r1J])) (dn0 (S.u 2 rfl)) (by first | omega | (dsimp only; omega))) cB68 ?_
 rintro e u ⟨r_t340, rfl, R_t340, hr_t340, T0⟩; refine ⟨_, rfl, fun a s => ?_⟩
 replace S := (S.k0 s T0).ar (wfF ctrlE r_t340) (Enc.up _ R_t340); clear s T0 R_t340
 obtain ⟨hl7, hu7⟩ : inI64 r_t340.round := id ((S.u 3 rfl).1)
 obtain ⟨hl8, hu8⟩ : inI64 r_t340.seq := id ((S.u 3 rfl).2.2.1)
 have hn9 : r_t340.target.xs.length ≤ 9223372036854775807 := ((S.u 3 rfl).2.2.2.1).1.len
 have hn10 : r_t340.known.xs.length ≤ 9223372036854775807 := ((S.u 3 rfl).2.2.2.2.1).1.len
 have hn11 : r_t340.waiting.xs.length ≤ 9223372036854775807 := ((S.u 3 rfl).2.2.2.2.2).1.len
 refine sp S (tr (mv rfl)<|tr (exi rfl rfl)<|la (exi rfl rfl)) ?_; clear S; intro a u S
 refine nbp S (x_allocz _ iZ57 rfl) ?_; clear S; intro a u b6 S
 refine ens S (tr (stkw 4 rfl rfl rfl)<|la (av rfl)) ?_; clear S; intro a u S
 refine rs0 ?_
 refine cl S (lOne _ _ S.x (.nil _)) cB69 ?_
 rintro e u ⟨r_t38, rfl, R_t38, hr_t38, T0⟩; refine ⟨_, rfl, fun a s => ?_⟩
 replace S := (S.k0 s T0).ar (wfF planE r_t38) (Enc.up _ R_t38); clear s T0 R_t38
 have ho_t38 := one_len hr_t38
 have hn13 : r_t38.rounds.xs.length ≤ 9223372036854775807 := ((S.u 4 rfl).2).1.len
 refine cl S (jNew _ _ (S.xx (ow []))  (S.mF (ks := [blO b1 [iI 1, iI 0, iI 0, iI 1] 24, rwO u8E 5 w.heap.size ra_t190 rc_t190 (encR r1J), rwO u8E 5 w.heap.size ad27 cap27 (([] ++ (encR r1J)) ++ [7]), noO, blO b6 (ctrlE.cells r_t340) 57]) (fs := [])) (S.nfF (ks := [blO b1 [iI 1, iI 0, iI 0, iI 1] 24, rwO u8E 5 w.heap.size ra_t190 rc_t190 (encR r1J), rwO u8E 5 w.heap.size ad27 cap27 (([] ++ (encR r1J)) ++ [7]), noO, blO b6 (ctrlE.cells r_t340) 57]) (fs := []) hD) r_t38 (dnF (ks := [blO b1 [iI 1, iI 0, iI 0, iI 1] 24, rwO u8E 5 w.heap.size ra_t190 rc_t190 (encR r1J), rwO u8E 5 w.heap.size ad27 cap27 (([] ++ (encR r1J)) ++ [7]), noO, blO b6 (ctrlE.cells r_t340) 57]) (fs := []) (S.u 4 rfl)) 1 ⟨by omega, by omega⟩ (by first | omega | (dsimp only; omega))) cB33 ?_
 rintro e u ⟨q_t39, rfl, qK_t39, qB_t39, hr_t39, T0⟩; refine ⟨_, rfl, fun a s => ?_⟩
 have S2 := S.kF (ks := [blO b1 [iI 1, iI 0, iI 0, iI 1] 24, rwO u8E 5 w.heap.size ra_t190 rc_t190 (encR r1J), rwO u8E 5 w.heap.size ad27 cap27 (([] ++ (encR r1J)) ++ [7]), noO, blO b6 (ctrlE.cells r_t340) 57]) (fs := []) [bnO (lgQ q_t39)] s T0 ⟨qB_t39, trivial⟩ ⟨(mo_bn (mo_lgQ _)), trivial⟩
 replace S2 := (show St _ _ _ _ _ _ [blO b1 [iI 1, iI 0, iI 0, iI 1] 24, rwO u8E 5 w.heap.size ra_t190 rc_t190 (encR r1J), rwO u8E 5 w.heap.size ad27 cap27 (([] ++ (encR r1J)) ++ [7]), noO, blO b6 (ctrlE.cells r_t340) 57, bnO (lgQ q_t39)] _ _ from S2)
 clear S; have S := S2; clear S2 s T0 qB_t39
 rcases q_t39 with _ | ⟨B_t39, x_t39⟩
 ·exact absurd (hr_t39.1.2 (one_good hr_t38)) (by decide)
 replace S := (show St _ _ _ _ _ _ [blO b1 [iI 1, iI 0, iI 0, iI 1] 24, rwO u8E 5 w.heap.size ra_t190 rc_t190 (encR r1J), rwO u8E 5 w.heap.size ad27 cap27 (([] ++ (encR r1J)) ++ [7]), noO, blO b6 (ctrlE.cells r_t340) 57, bnO (lgF B_t39 x_t39)] _ _ from S)
 have hLA : LogAt _ _ _ x_t39 [] := hr_t39.2 _ rfl
 have hOK := hLA.ma.ok
 have hsn := hLA.ma.sn
 have hll := hLA.lb
 have htg := hLA.ma.tg
 refine ens S (tr (mv rfl)<|tr (exi rfl rfl)<|tr (exi rfl rfl)<|tr (av rfl)<|la (av rfl)) ?_; clear S; intro a u S
 refine wp_seq ?_
 refine rs S (tr (mv rfl)<|tr (neqi rfl rfl)<|tr (mv rfl)<|tr (gon 44 rfl fun S=>x_move (S.e rfl))<|tr (gon 44 rfl fun S=>x_peqN uT52 (S.e rfl) (S.e rfl))<|la (ov fun S=>x_pickf (S.e rfl) (S.e rfl))) ?_; clear S; intro a u S
 refine cdf S rfl ?_
 refine wp_skip (then_n (rs0 ?_))
 refine sp S (tr (mv rfl)<|la (ldkw 0 rfl rfl wD24)) ?_; clear S; intro a u S
 refine cl S (jAppend _ _ (S.xx (ow [bnO (lgF B_t39 x_t39)])) B_t39 x_t39 (S.mF (ks := [blO b1 [iI 1, iI 0, iI 0, iI 1] 24, rwO u8E 5 w.heap.size ra_t190 rc_t190 (encR r1J), rwO u8E 5 w.heap.size ad27 cap27 (([] ++ (encR r1J)) ++ [7]), noO, blO b6 (ctrlE.cells r_t340) 57]) (fs := [bnO (lgF B_t39 x_t39)])) (S.nfF (ks := [blO b1 [iI 1, iI 0, iI 0, iI 1] 24, rwO u8E 5 w.heap.size ra_t190 rc_t190 (encR r1J), rwO u8E 5 w.heap.size ad27 cap27 (([] ++ (encR r1J)) ++ [7]), noO, blO b6 (ctrlE.cells r_t340) 57]) (fs := [bnO (lgF B_t39 x_t39)]) hD) qK_t39 (S.dF (ks := [blO b1 [iI 1, iI 0, iI 0, iI 1] 24, rwO u8E 5 w.heap.size ra_t190 rc_t190 (encR r1J), rwO u8E 5 w.heap.size ad27 cap27 (([] ++ (encR r1J)) ++ [7]), noO, blO b6 (ctrlE.cells r_t340) 57]) (fs := [bnO (lgF B_t39 x_t39)]) 0 rfl (mo_bn (mo_lg _ _))) (⟨1, 0, 0, 1⟩ : Rec) ⟨(show inI64 1 from ⟨by omega, by omega⟩), (show inI64 0 from ⟨by omega, by omega⟩), (show inI64 0 from ⟨by omega, by omega⟩), (show inI64 1 from ⟨by omega, by omega⟩)⟩ (⟨by first | assumption | exact hOK, by first | omega | assumption, by first | omega | assumption⟩)) cB34 ?_
 rintro e u ⟨jl_t50, rfl, hk_jl_t50, hK_jl_t50, hq_jl_t50, T0⟩; refine ⟨_, rfl, fun a s => ?_⟩
 have S2 := S.kF (ks := [blO b1 [iI 1, iI 0, iI 0, iI 1] 24, rwO u8E 5 w.heap.size ra_t190 rc_t190 (encR r1J), rwO u8E 5 w.heap.size ad27 cap27 (([] ++ (encR r1J)) ++ [7]), noO, blO b6 (ctrlE.cells r_t340) 57]) (fs := [bnO (lgF B_t39 x_t39)]) [bnO (lgF B_t39 jl_t50)] s T0 ⟨hK_jl_t50, trivial⟩ ⟨(mo_bn (mo_lg _ _)), trivial⟩
 replace S2 := (show St _ _ _ _ _ _ [blO b1 [iI 1, iI 0, iI 0, iI 1] 24, rwO u8E 5 w.heap.size ra_t190 rc_t190 (encR r1J), rwO u8E 5 w.heap.size ad27 cap27 (([] ++ (encR r1J)) ++ [7]), noO, blO b6 (ctrlE.cells r_t340) 57, bnO (lgF B_t39 jl_t50)] _ _ from S2)
 clear S; have S := S2; clear S2 s T0 hK_jl_t50
 have hap := hq_jl_t50.1 (by rw [htg, hLA.ls]; exact ap1)
 have hLB := hLA.app (r := r1J) ap1 hap.1 hap.2.1 hap.2.2
 have hls : jl_t50.l.xs = [r1J] := hLB.ls
 have hllB := hLB.lb
 have hbb : recsJ (bytesJ jl_t50.l.xs) = [r1J] ∧ decN (bytesJ jl_t50.l.xs) = 1 := by rw [hls]; exact rec1
 have hall : allJ 1 (recsJ (bytesJ jl_t50.l.xs)) := by rw [hbb.1]; exact all1
 refine ens S (la (av rfl)) ?_; clear S; intro a u S
 refine rs0 ?_
 refine cl S (lOne _ _ S.x (.nil _)) cB69 ?_
 rintro e u ⟨r_t52, rfl, R_t52, hr_t52, T0⟩; refine ⟨_, rfl, fun a s => ?_⟩
 replace S := (S.k0 s T0).ar (wfF planE r_t52) (Enc.up _ R_t52); clear s T0 R_t52
 have ho_t52 := one_len hr_t52
 have hn17 : r_t52.rounds.xs.length ≤ 9223372036854775807 := ((S.u 5 rfl).2).1.len
 refine sp S (la (mv rfl)) ?_; clear S; intro a u S
 refine cl S (jBytes _ _ (S.xx [In (ow (lgF B_t39 jl_t50))]) (.nil _) (B_t39, jl_t50) (S.rob hD 5 rfl (X := fun D => (ptE lgE 129).wf D _ (B_t39, jl_t50)) (rd_lg hk_jl_t50) _ (by simp)) (by first | omega | (dsimp only; omega) | assumption)) cB37 ?_
 rintro e u ⟨ra_t54, rc_t54, rfl, R_t54, T0⟩; refine ⟨_, rfl, fun a s => ?_⟩
 replace S := S.krx [⟨_, u8E, 5, ra_t54, rc_t54, bytesJ jl_t50.l.xs⟩] s T0 ⟨R_t54, trivial⟩ ⟨fun _ _ _ _ h => h, trivial⟩; clear s T0 R_t54
 skip
 replace S := S.fz 6 rfl
 refine cl S (jOpen _ _ (S.xx (ow []))  (S.mF (ks := [blO b1 [iI 1, iI 0, iI 0, iI 1] 24, rwO u8E 5 w.heap.size ra_t190 rc_t190 (encR r1J), rwO u8E 5 w.heap.size ad27 cap27 (([] ++ (encR r1J)) ++ [7]), noO, blO b6 (ctrlE.cells r_t340) 57, bnO (lgF B_t39 jl_t50), noO]) (fs := [])) (S.nfF (ks := [blO b1 [iI 1, iI 0, iI 0, iI 1] 24, rwO u8E 5 w.heap.size ra_t190 rc_t190 (encR r1J), rwO u8E 5 w.heap.size ad27 cap27 (([] ++ (encR r1J)) ++ [7]), noO, blO b6 (ctrlE.cells r_t340) 57, bnO (lgF B_t39 jl_t50), noO]) (fs := []) hD) r_t52 (dnF (ks := [blO b1 [iI 1, iI 0, iI 0, iI 1] 24, rwO u8E 5 w.heap.size ra_t190 rc_t190 (encR r1J), rwO u8E 5 w.heap.size ad27 cap27 (([] ++ (encR r1J)) ++ [7]), noO, blO b6 (ctrlE.cells r_t340) 57, bnO (lgF B_t39 jl_t50), noO]) (fs := []) (S.u 5 rfl)) 1 ⟨by omega, by omega⟩ (Sl.mk ra_t54 rc_t54 (bytesJ jl_t50.l.xs)) (dnF (ks := [blO b1 [iI 1, iI 0, iI 0, iI 1] 24, rwO u8E 5 w.heap.size ra_t190 rc_t190 (encR r1J), rwO u8E 5 w.heap.size ad27 cap27 (([] ++ (encR r1J)) ++ [7]), noO, blO b6 (ctrlE.cells r_t340) 57, bnO (lgF B_t39 jl_t50), noO]) (fs := []) (S.u 6 rfl)) (by first | omega | (dsimp only; omega))) cB36 ?_
 rintro e u ⟨q_t55, rfl, qK_t55, qB_t55, hr_t55, T0⟩; refine ⟨_, rfl, fun a s => ?_⟩
 have S2 := S.kF (ks := [blO b1 [iI 1, iI 0, iI 0, iI 1] 24, rwO u8E 5 w.heap.size ra_t190 rc_t190 (encR r1J), rwO u8E 5 w.heap.size ad27 cap27 (([] ++ (encR r1J)) ++ [7]), noO, blO b6 (ctrlE.cells r_t340) 57, bnO (lgF B_t39 jl_t50), noO]) (fs := []) [bnO (lgQ q_t55)] s T0 ⟨qB_t55, trivial⟩ ⟨(mo_bn (mo_lgQ _)), trivial⟩
 replace S2 := (show St _ _ _ _ _ _ [blO b1 [iI 1, iI 0, iI 0, iI 1] 24, rwO u8E 5 w.heap.size ra_t190 rc_t190 (encR r1J), rwO u8E 5 w.heap.size ad27 cap27 (([] ++ (encR r1J)) ++ [7]), noO, blO b6 (ctrlE.cells r_t340) 57, bnO (lgF B_t39 jl_t50), noO, bnO (lgQ q_t55)] _ _ from S2)
 clear S; have S := S2; clear S2 s T0 qB_t55
 rcases q_t55 with _ | ⟨B_t55, x_t55⟩
 ·exact absurd (hr_t55.1.2 ⟨one_good hr_t52, hall⟩) (by decide)
 replace S := (show St _ _ _ _ _ _ [blO b1 [iI 1, iI 0, iI 0, iI 1] 24, rwO u8E 5 w.heap.size ra_t190 rc_t190 (encR r1J), rwO u8E 5 w.heap.size ad27 cap27 (([] ++ (encR r1J)) ++ [7]), noO, blO b6 (ctrlE.cells r_t340) 57, bnO (lgF B_t39 jl_t50), noO, bnO (lgF B_t55 x_t55)] _ _ from S)
 have hLO : LogAt _ _ _ x_t55 _ := hr_t55.2 _ rfl
 have hso := hLO.ma.sn
 have hto := hLO.ma.tg
 have hko : x_t55.m.2.known.xs.length = x_t55.m.2.target.xs.length := hLO.ma.ok.2.kn
 have hwo : x_t55.m.2.waiting.xs.length ≤ x_t55.m.2.target.xs.length := hLO.ma.ok.2.wt.len
 refine ens S (tr (mv rfl)<|tr (exi rfl rfl)<|tr (exi rfl rfl)<|tr (exi rfl rfl)<|tr (av rfl)<|tr (av rfl)<|la (av rfl)) ?_; clear S; intro a u S
 refine rs0 ?_
 refine cl S (lOne _ _ S.x (.nil _)) cB69 ?_
 rintro e u ⟨r_t60, rfl, R_t60, hr_t60, T0⟩; refine ⟨_, rfl, fun a s => ?_⟩
 replace S := (S.k0 s T0).ar (wfF planE r_t60) (Enc.up _ R_t60); clear s T0 R_t60
 have ho_t60 := one_len hr_t60
 have hn19 : r_t60.rounds.xs.length ≤ 9223372036854775807 := ((S.u 7 rfl).2).1.len
 refine cl S (jNew _ _ (S.xx (ow []))  (S.mF (ks := [blO b1 [iI 1, iI 0, iI 0, iI 1] 24, rwO u8E 5 w.heap.size ra_t190 rc_t190 (encR r1J), rwO u8E 5 w.heap.size ad27 cap27 (([] ++ (encR r1J)) ++ [7]), noO, blO b6 (ctrlE.cells r_t340) 57, bnO (lgF B_t39 jl_t50), noO, bnO (lgF B_t55 x_t55)]) (fs := [])) (S.nfF (ks := [blO b1 [iI 1, iI 0, iI 0, iI 1] 24, rwO u8E 5 w.heap.size ra_t190 rc_t190 (encR r1J), rwO u8E 5 w.heap.size ad27 cap27 (([] ++ (encR r1J)) ++ [7]), noO, blO b6 (ctrlE.cells r_t340) 57, bnO (lgF B_t39 jl_t50), noO, bnO (lgF B_t55 x_t55)]) (fs := []) hD) r_t60 (dnF (ks := [blO b1 [iI 1, iI 0, iI 0, iI 1] 24, rwO u8E 5 w.heap.size ra_t190 rc_t190 (encR r1J), rwO u8E 5 w.heap.size ad27 cap27 (([] ++ (encR r1J)) ++ [7]), noO, blO b6 (ctrlE.cells r_t340) 57, bnO (lgF B_t39 jl_t50), noO, bnO (lgF B_t55 x_t55)]) (fs := []) (S.u 7 rfl)) 0 ⟨by omega, by omega⟩ (by first | omega | (dsimp only; omega))) cB33 ?_
 rintro e u ⟨q_t61, rfl, qK_t61, qB_t61, hr_t61, T0⟩; refine ⟨_, rfl, fun a s => ?_⟩
 have S2 := S.kF (ks := [blO b1 [iI 1, iI 0, iI 0, iI 1] 24, rwO u8E 5 w.heap.size ra_t190 rc_t190 (encR r1J), rwO u8E 5 w.heap.size ad27 cap27 (([] ++ (encR r1J)) ++ [7]), noO, blO b6 (ctrlE.cells r_t340) 57, bnO (lgF B_t39 jl_t50), noO, bnO (lgF B_t55 x_t55)]) (fs := []) [bnO (lgQ q_t61)] s T0 ⟨qB_t61, trivial⟩ ⟨(mo_bn (mo_lgQ _)), trivial⟩
 replace S2 := (show St _ _ _ _ _ _ [blO b1 [iI 1, iI 0, iI 0, iI 1] 24, rwO u8E 5 w.heap.size ra_t190 rc_t190 (encR r1J), rwO u8E 5 w.heap.size ad27 cap27 (([] ++ (encR r1J)) ++ [7]), noO, blO b6 (ctrlE.cells r_t340) 57, bnO (lgF B_t39 jl_t50), noO, bnO (lgF B_t55 x_t55), bnO (lgQ q_t61)] _ _ from S2)
 clear S; have S := S2; clear S2 s T0 qB_t61
 rcases q_t61 with _ | ⟨B_t61, x_t61⟩
 rotate_left
 ·exact absurd (hr_t61.1.1 rfl) (one_bad hr_t60)
 replace S := S.pk [0, 1, 2, 3, 4, 5, 6, 7] (os' := [blO b1 [iI 1, iI 0, iI 0, iI 1] 24, rwO u8E 5 w.heap.size ra_t190 rc_t190 (encR r1J), rwO u8E 5 w.heap.size ad27 cap27 (([] ++ (encR r1J)) ++ [7]), noO, blO b6 (ctrlE.cells r_t340) 57, bnO (lgF B_t39 jl_t50), noO, bnO (lgF B_t55 x_t55)])
 refine ens S (tr (mv rfl)<|tr (exi rfl rfl)<|tr (exi rfl rfl)<|tr (av rfl)<|la (av rfl)) ?_; clear S; intro a u S
 refine wp_seq ?_
 replace S := S.fz 1 rfl
 replace S := S.l [(2, .slice ra_t190 ((encR r1J).length) rc_t190), (3, iI (if recOK (⟨1, 0, 0, 1⟩ : Rec) then 0 else 1 : Int)), (4, .slice ra_t280 (([r1J]).length) rc_t280), (5, iN (14 * decN (([] ++ (encR r1J)) ++ [7]))), (6, pT b6 0), (7, iI (replE r_t32 1 ([r1J]))), (8, pT B_t39 0), (10, iI (appE ((x_t39.m.2.target.xs.length : Nat) : Int) x_t39.l.xs.length (⟨1, 0, 0, 1⟩ : Rec))), (11, pT B_t55 0), (12, iI (openN (some (B_t55, x_t55)) (bytesJ jl_t50.l.xs))), (13, iI 0), (15, iI 1)] (subM rfl)
 refine dr (P := Try.prog) S 66 [] ((64, .is _) :: (65, .is _) :: (66, .is _) :: (67, .is _) :: (68, .is _) :: (69, .is _) :: (70, .is _) :: (71, .is _) :: (72, .is _) :: (73, .is _) :: (74, .is _) :: (75, .is _) :: (76, .is _) :: (77, .is _) :: (78, .is _) :: (79, .is _) :: (80, .is _) :: (81, .is _) :: (82, .is _) :: (83, .is _) :: (84, .is _) :: (85, .is _) :: (86, .is _) :: (87, .is _) :: (88, .is _) :: (89, .is _) :: (90, .is _) :: (91, .is _) :: (92, .is _) :: (93, .is _) :: (94, .is _) :: (95, .is _) :: (96, .is _) :: (97, .is _) :: (98, .is _) :: (99, .is _) :: (100, .is _) :: (101, .of (fun z w => (((((((((if recOK (⟨1, 0, 0, 1⟩ : Rec) then 0 else 1 : Int) = 0) ∧ ((((encR r1J).length : Nat) : Int) = 14)) ∧ (((([r1J]).length : Nat) : Int) = 1)) ∧ (((14 * decN (([] ++ (encR r1J)) ++ [7]) : Nat) : Int) = 14)) ∧ ((replE r_t32 1 ([r1J])) = 0)) ∧ (r_t340.round = 1)) ∧ (((r_t340.waiting.xs.length : Nat) : Int) = 0)) ∧ ((appE ((x_t39.m.2.target.xs.length : Nat) : Int) x_t39.l.xs.length (⟨1, 0, 0, 1⟩ : Rec)) = 0)) → ∃ (x101aa : Option Addr) (x101ba : Nat), z = .slice x101aa ((bytesJ jl_t50.l.xs).length) x101ba ∧ (slE u8E).wf (Fr F [one b1, (fun _ => False), abk ad27, (fun _ => False), one b6, In (ow (lgF B_t39 jl_t50)), (fun _ => False), In (ow (lgF B_t55 x_t55))]) w.heap (Sl.mk x101aa x101ba (bytesJ jl_t50.l.xs))) (fun v w w' c h hg => let ⟨x101aa, x101ba, hv, h0⟩ := h hg; ⟨x101aa, x101ba, hv, Enc.kp (slE u8E) h0 c (fun _ h => by simp at h)⟩)) :: (102, .is ((if (((((((((if recOK (⟨1, 0, 0, 1⟩ : Rec) then 0 else 1 : Int) = 0) ∧ ((((encR r1J).length : Nat) : Int) = 14)) ∧ (((([r1J]).length : Nat) : Int) = 1)) ∧ (((14 * decN (([] ++ (encR r1J)) ++ [7]) : Nat) : Int) = 14)) ∧ ((replE r_t32 1 ([r1J])) = 0)) ∧ (r_t340.round = 1)) ∧ (((r_t340.waiting.xs.length : Nat) : Int) = 0)) ∧ ((appE ((x_t39.m.2.target.xs.length : Nat) : Int) x_t39.l.xs.length (⟨1, 0, 0, 1⟩ : Rec)) = 0)) then .string (strOfNums (bytesJ jl_t50.l.xs)) else undef))) :: (103, .is _) :: (104, .is _) :: (105, .is _) :: (106, .is _) :: (107, .is _) :: (108, .is _) :: (109, .is _) :: (110, .is _) :: (111, .is _) :: (112, .is _) :: (113, .is _) :: (114, .is _) :: (115, .is _) :: (116, .is _) :: (117, .is _) :: (118, .is _) :: (119, .is _) :: (120, .is _) :: (121, .of (fun z w => (((((((((((((if recOK (⟨1, 0, 0, 1⟩ : Rec) then 0 else 1 : Int) = 0) ∧ ((((encR r1J).length : Nat) : Int) = 14)) ∧ (((([r1J]).length : Nat) : Int) = 1)) ∧ (((14 * decN (([] ++ (encR r1J)) ++ [7]) : Nat) : Int) = 14)) ∧ ((replE r_t32 1 ([r1J])) = 0)) ∧ (r_t340.round = 1)) ∧ (((r_t340.waiting.xs.length : Nat) : Int) = 0)) ∧ ((appE ((x_t39.m.2.target.xs.length : Nat) : Int) x_t39.l.xs.length (⟨1, 0, 0, 1⟩ : Rec)) = 0)) ∧ ((strOfNums (bytesJ jl_t50.l.xs)) = (strOfNums (encR r1J)))) ∧ ((0 : Int) = 0)) ∧ ((openN (some (B_t55, x_t55)) (bytesJ jl_t50.l.xs)) = 14)) ∧ (True)) → ∃ (x121aa : Option Addr) (x121ba : Nat) (x121cb : Option Addr) (x121db : Nat) (x121ec : Option Addr) (x121fc : Nat), z = .agg #[iI x_t55.m.2.round, bD (x_t55.m.2.back = true), iI x_t55.m.2.seq, .slice x121aa x_t55.m.2.target.xs.length x121ba, .slice x121cb x_t55.m.2.known.xs.length x121db, .slice x121ec x_t55.m.2.waiting.xs.length x121fc] ∧ (slE intE).wf (Fr F [one b1, (fun _ => False), abk ad27, (fun _ => False), one b6, In (ow (lgF B_t39 jl_t50)), (fun _ => False), In (ow (lgF B_t55 x_t55))]) w.heap (Sl.mk x121aa x121ba x_t55.m.2.target.xs) ∧ (slE intE).wf (Fr F [one b1, (fun _ => False), abk ad27, (fun _ => False), one b6, In (ow (lgF B_t39 jl_t50)), (fun _ => False), In (ow (lgF B_t55 x_t55))]) w.heap (Sl.mk x121cb x121db x_t55.m.2.known.xs) ∧ (slE intE).wf (Fr F [one b1, (fun _ => False), abk ad27, (fun _ => False), one b6, In (ow (lgF B_t39 jl_t50)), (fun _ => False), In (ow (lgF B_t55 x_t55))]) w.heap (Sl.mk x121ec x121fc x_t55.m.2.waiting.xs)) (fun v w w' c h hg => let ⟨x121aa, x121ba, x121cb, x121db, x121ec, x121fc, hv, h0, h1, h2⟩ := h hg; ⟨x121aa, x121ba, x121cb, x121db, x121ec, x121fc, hv, Enc.kp (slE intE) h0 c (fun _ h => by simp at h), Enc.kp (slE intE) h1 c (fun _ h => by simp at h), Enc.kp (slE intE) h2 c (fun _ h => by simp at h)⟩)) :: (122, .is ((if (((((((((((((if recOK (⟨1, 0, 0, 1⟩ : Rec) then 0 else 1 : Int) = 0) ∧ ((((encR r1J).length : Nat) : Int) = 14)) ∧ (((([r1J]).length : Nat) : Int) = 1)) ∧ (((14 * decN (([] ++ (encR r1J)) ++ [7]) : Nat) : Int) = 14)) ∧ ((replE r_t32 1 ([r1J])) = 0)) ∧ (r_t340.round = 1)) ∧ (((r_t340.waiting.xs.length : Nat) : Int) = 0)) ∧ ((appE ((x_t39.m.2.target.xs.length : Nat) : Int) x_t39.l.xs.length (⟨1, 0, 0, 1⟩ : Rec)) = 0)) ∧ ((strOfNums (bytesJ jl_t50.l.xs)) = (strOfNums (encR r1J)))) ∧ ((0 : Int) = 0)) ∧ ((openN (some (B_t55, x_t55)) (bytesJ jl_t50.l.xs)) = 14)) ∧ (True)) then iI x_t55.m.2.round else undef))) :: (123, .is _) :: (124, .is _) :: (125, .is _) :: (126, .is _) :: (127, .is _) :: (128, .is _) :: (0, .is _) :: []) ([] :: [64] :: [65] :: [66] :: [66, 67] :: [66, 68] :: [66, 69] :: [70] :: [71] :: [71, 72] :: [71, 73] :: [71, 74] :: [75] :: [76] :: [76, 77] :: [76, 78] :: [79] :: [80] :: [80, 81] :: [80, 82] :: [83] :: [84] :: [84, 85] :: [84, 86] :: [84, 87] :: [88] :: [89] :: [89, 90] :: [89, 91] :: [89, 92] :: [89, 93] :: [94] :: [95] :: [95, 96] :: [95, 97] :: [98] :: [99] :: [99, 100] :: [99, 101] :: [99] :: [99, 103] :: [99, 102, 104] :: [99, 105] :: [106] :: [107] :: [107, 108] :: [107, 109] :: [110] :: [111] :: [111, 112] :: [111, 113] :: [114] :: [115] :: [115, 116] :: [115, 117] :: [118] :: [119] :: [119, 120] :: [119, 121] :: [119, 122] :: [119, 123] :: [124] :: [125] :: [125, 126] :: [125, 127] :: [128] :: []) [0] _ ⟨qd (mv rfl), qd (eqli rfl rfl), qd (mv rfl), qd (og 66 rfl gt fun S hg=>x_move (S.e rfl)), qd (og 66 rfl gt fun S hg=>x_len uT28 (S.p rfl hg)), qd (og 66 rfl gt fun S hg=>x_eql (S.p rfl hg) (S.e rfl)), qd (andi rfl rfl rfl), qd (mv rfl), qd (og 71 rfl gt fun S hg=>x_move (S.e rfl)), qd (og 71 rfl gt fun S hg=>x_len uT32 (S.p rfl hg)), qd (og 71 rfl gt fun S hg=>x_eql (S.p rfl hg) (S.e rfl)), qd (andi rfl rfl rfl), qd (mv rfl), qd (og 76 rfl gt fun S hg=>x_move (S.e rfl)), qd (og 76 rfl gt fun S hg=>x_eql (S.p rfl hg) (S.e rfl)), qd (andi rfl rfl rfl), qd (mv rfl), qd (og 80 rfl gt fun S hg=>x_move (S.e rfl)), qd (og 80 rfl gt fun S hg=>x_eql (S.p rfl hg) (S.e rfl)), qd (andi rfl rfl rfl), qd (mv rfl), qd (og 84 rfl gt fun S hg=>xf (0) 0 uT57 (S.e rfl)), qd (og 84 rfl gt fun S hg=>x_load sC3 (S.p rfl hg) ((S.k 4 rfl).cell (j := 0) rfl)), qd (og 84 rfl gt fun S hg=>x_eql (S.p rfl hg) (S.e rfl)), qd (andi rfl rfl rfl), qd (mv rfl), qd (og 89 rfl gt fun S hg=>xf (0) 5 uT57 (S.e rfl)), qd (og 89 rfl gt fun S hg=>x_load sC22 (S.p rfl hg) ((S.k 4 rfl).cell (j := 5) rfl)), qd (og 89 rfl gt fun S hg=>x_len uT22 (S.p rfl hg)), qd (og 89 rfl gt fun S hg=>x_eql (S.p rfl hg) (S.e rfl)), qd (andi rfl rfl rfl), qd (mv rfl), qd (og 95 rfl gt fun S hg=>x_move (S.e rfl)), qd (og 95 rfl gt fun S hg=>x_eql (S.p rfl hg) (S.e rfl)), qd (andi rfl rfl rfl), qd (mv rfl), qd (og 99 rfl gt fun S hg=>x_move (S.e rfl)), ?_, ?_, qd (og 99 rfl gt fun S hg=>x_move (S.e rfl)), qd (og 99 rfl gt fun S hg=>x_bstr (Sl.mk ra_t190 rc_t190 (encR r1J)) ((S.u 8 rfl)) uT28 uT5 uT9 (S.p rfl hg)), qd (og 99 rfl gt fun S hg=>x_seql (S.p rfl hg) (S.p rfl hg)), qd (andi rfl rfl rfl), qd (mv rfl), qd (og 107 rfl gt fun S hg=>x_move (S.e rfl)), qd (og 107 rfl gt fun S hg=>x_eql (S.p rfl hg) (S.e rfl)), qd (andi rfl rfl rfl), qd (mv rfl), qd (og 111 rfl gt fun S hg=>x_move (S.e rfl)), qd (og 111 rfl gt fun S hg=>x_eql (S.p rfl hg) (S.e rfl)), qd (andi rfl rfl rfl), qd (mv rfl), qd (og 115 rfl gt fun S hg=>x_move (S.e rfl)), qd (og 115 rfl gt fun S hg=>pbT (x_pneN uT52 (S.p rfl hg) (S.e rfl))), qd (andi rfl rfl rfl), qd (mv rfl), qd (og 119 rfl gt fun S hg=>x_move (S.e rfl)), ?_, ?_, qd (og 119 rfl gt fun S hg=>x_eql (S.p rfl hg) (S.e rfl)), qd (andi rfl rfl rfl), qd (mv rfl), qd (og 125 rfl gt fun S hg=>x_move (S.e rfl)), qd (og 125 rfl gt fun S hg=>x_eql (S.p rfl hg) (S.e rfl)), qd (andi rfl rfl rfl), qd (av rfl), trivial⟩ ?_
 ·skip
  intro a u S G hE
  refine (Classical.em (((((((((if recOK (⟨1, 0, 0, 1⟩ : Rec) then 0 else 1 : Int) = 0) ∧ ((((encR r1J).length : Nat) : Int) = 14)) ∧ (((([r1J]).length : Nat) : Int) = 1)) ∧ (((14 * decN (([] ++ (encR r1J)) ++ [7]) : Nat) : Int) = 14)) ∧ ((replE r_t32 1 ([r1J])) = 0)) ∧ (r_t340.round = 1)) ∧ (((r_t340.waiting.xs.length : Nat) : Int) = 0)) ∧ ((appE ((x_t39.m.2.target.xs.length : Nat) : Int) x_t39.l.xs.length (⟨1, 0, 0, 1⟩ : Rec)) = 0))).symm.elim (fun hg => ?_) fun hg => ?_
  ·exact hng 101 99 S S.m rfl (fun h => hg (gt.2 h)) (show (((((((((if recOK (⟨1, 0, 0, 1⟩ : Rec) then 0 else 1 : Int) = 0) ∧ ((((encR r1J).length : Nat) : Int) = 14)) ∧ (((([r1J]).length : Nat) : Int) = 1)) ∧ (((14 * decN (([] ++ (encR r1J)) ++ [7]) : Nat) : Int) = 14)) ∧ ((replE r_t32 1 ([r1J])) = 0)) ∧ (r_t340.round = 1)) ∧ (((r_t340.waiting.xs.length : Nat) : Int) = 0)) ∧ ((appE ((x_t39.m.2.target.xs.length : Nat) : Int) x_t39.l.xs.length (⟨1, 0, 0, 1⟩ : Rec)) = 0)) → _ from fun h => absurd h hg)
  refine hcg 99 S rfl (gt.1 hg) (jBytes _ _ (S.xx [In (ow (lgF B_t39 jl_t50))]) (.nil _) (B_t39, jl_t50) (S.rob hD 5 rfl (X := fun D => (ptE lgE 129).wf D _ (B_t39, jl_t50)) (rd_lg hk_jl_t50) _ (by simp)) (by first | omega | (dsimp only; omega) | assumption)) cB37 ⟨fun _=>(S.p rfl hg), trivial⟩ ?_
  rintro e w2 ⟨x101a, x101b, rfl, R0, T0⟩; refine ⟨_, rfl, (fun _ => ?_), T0.ch, (S.m.k0 T0.ch)⟩
  exact ⟨x101a, x101b, rfl, (S.frz R0 (by decide) (fun _ h => h))⟩
 ·skip
  intro a u S G hE
  obtain ⟨e101, -⟩ := hE
  have M0 := S.m
  refine (Classical.em (((((((((if recOK (⟨1, 0, 0, 1⟩ : Rec) then 0 else 1 : Int) = 0) ∧ ((((encR r1J).length : Nat) : Int) = 14)) ∧ (((([r1J]).length : Nat) : Int) = 1)) ∧ (((14 * decN (([] ++ (encR r1J)) ++ [7]) : Nat) : Int) = 14)) ∧ ((replE r_t32 1 ([r1J])) = 0)) ∧ (r_t340.round = 1)) ∧ (((r_t340.waiting.xs.length : Nat) : Int) = 0)) ∧ ((appE ((x_t39.m.2.target.xs.length : Nat) : Int) x_t39.l.xs.length (⟨1, 0, 0, 1⟩ : Rec)) = 0))).symm.elim (fun hg => ?_) fun hg => ?_
  ·exact hng 102 99 S M0 rfl (fun h => hg (gt.2 h)) (show _ = _ from (if_neg hg).symm)
  replace e101 := e101 hg
  obtain ⟨x101a_20, x101b_20, e101, X20⟩ := e101
  replace S := S.ext e101
  exact hvg 102 99 S M0 rfl (gt.1 hg) (v := .string (strOfNums (bytesJ jl_t50.l.xs))) (x_bstr (Sl.mk x101a_20 x101b_20 (bytesJ jl_t50.l.xs)) (X20) uT28 uT5 uT9 (S.e rfl)) (show _ = _ from (if_pos hg).symm)
 ·skip
  intro a u S G hE
  refine (Classical.em (((((((((((((if recOK (⟨1, 0, 0, 1⟩ : Rec) then 0 else 1 : Int) = 0) ∧ ((((encR r1J).length : Nat) : Int) = 14)) ∧ (((([r1J]).length : Nat) : Int) = 1)) ∧ (((14 * decN (([] ++ (encR r1J)) ++ [7]) : Nat) : Int) = 14)) ∧ ((replE r_t32 1 ([r1J])) = 0)) ∧ (r_t340.round = 1)) ∧ (((r_t340.waiting.xs.length : Nat) : Int) = 0)) ∧ ((appE ((x_t39.m.2.target.xs.length : Nat) : Int) x_t39.l.xs.length (⟨1, 0, 0, 1⟩ : Rec)) = 0)) ∧ ((strOfNums (bytesJ jl_t50.l.xs)) = (strOfNums (encR r1J)))) ∧ ((0 : Int) = 0)) ∧ ((openN (some (B_t55, x_t55)) (bytesJ jl_t50.l.xs)) = 14)) ∧ (True))).symm.elim (fun hg => ?_) fun hg => ?_
  ·exact hng 121 119 S S.m rfl (fun h => hg (gt.2 h)) (show (((((((((((((if recOK (⟨1, 0, 0, 1⟩ : Rec) then 0 else 1 : Int) = 0) ∧ ((((encR r1J).length : Nat) : Int) = 14)) ∧ (((([r1J]).length : Nat) : Int) = 1)) ∧ (((14 * decN (([] ++ (encR r1J)) ++ [7]) : Nat) : Int) = 14)) ∧ ((replE r_t32 1 ([r1J])) = 0)) ∧ (r_t340.round = 1)) ∧ (((r_t340.waiting.xs.length : Nat) : Int) = 0)) ∧ ((appE ((x_t39.m.2.target.xs.length : Nat) : Int) x_t39.l.xs.length (⟨1, 0, 0, 1⟩ : Rec)) = 0)) ∧ ((strOfNums (bytesJ jl_t50.l.xs)) = (strOfNums (encR r1J)))) ∧ ((0 : Int) = 0)) ∧ ((openN (some (B_t55, x_t55)) (bytesJ jl_t50.l.xs)) = 14)) ∧ (True)) → _ from fun h => absurd h hg)
  refine hcg 119 S rfl (gt.1 hg) (jCtl _ _ (S.xx [In (ow (lgF B_t55 x_t55))]) (.nil _) (B_t55, x_t55) (S.rob hD 7 rfl (X := fun D => (ptE lgE 129).wf D _ (B_t55, x_t55)) (rd_lg qK_t55) _ (by simp)) (⟨by first | omega | (dsimp only; omega) | assumption, by first | omega | (dsimp only; omega) | assumption, by first | omega | (dsimp only; omega) | assumption⟩)) cB39 ⟨fun _=>(S.p rfl hg), trivial⟩ ?_
  rintro e w2 ⟨x121a, x121b, x121c, x121d, x121e, x121f, rfl, R0, R1, R2, T0⟩; refine ⟨_, rfl, (fun _ => ?_), T0.ch, (S.m.k0 T0.ch)⟩
  exact ⟨x121a, x121b, x121c, x121d, x121e, x121f, rfl, (S.frz R0 (by decide) (fun _ h => h)), (S.frz R1 (by decide) (fun _ h => h)), (S.frz R2 (by decide) (fun _ h => h))⟩
 ·skip
  intro a u S G hE
  obtain ⟨e121, -⟩ := hE
  have M0 := S.m
  refine (Classical.em (((((((((((((if recOK (⟨1, 0, 0, 1⟩ : Rec) then 0 else 1 : Int) = 0) ∧ ((((encR r1J).length : Nat) : Int) = 14)) ∧ (((([r1J]).length : Nat) : Int) = 1)) ∧ (((14 * decN (([] ++ (encR r1J)) ++ [7]) : Nat) : Int) = 14)) ∧ ((replE r_t32 1 ([r1J])) = 0)) ∧ (r_t340.round = 1)) ∧ (((r_t340.waiting.xs.length : Nat) : Int) = 0)) ∧ ((appE ((x_t39.m.2.target.xs.length : Nat) : Int) x_t39.l.xs.length (⟨1, 0, 0, 1⟩ : Rec)) = 0)) ∧ ((strOfNums (bytesJ jl_t50.l.xs)) = (strOfNums (encR r1J)))) ∧ ((0 : Int) = 0)) ∧ ((openN (some (B_t55, x_t55)) (bytesJ jl_t50.l.xs)) = 14)) ∧ (True))).symm.elim (fun hg => ?_) fun hg => ?_
  ·exact hng 122 119 S M0 rfl (fun h => hg (gt.2 h)) (show _ = _ from (if_neg hg).symm)
  replace e121 := e121 hg
  obtain ⟨x121a_21, x121b_21, x121c_22, x121d_22, x121e_23, x121f_23, e121, X21, X22, X23⟩ := e121
  replace S := S.ext e121
  exact hvg 122 119 S M0 rfl (gt.1 hg) (v := iI x_t55.m.2.round) (x_fldv uT57 rfl sC3 (S.e rfl) rfl) (show _ = _ from (if_pos hg).symm)
 clear S; intro a u S G hE
 refine ent (wp_ret ?_)
 refine ret1 rfl S.s rfl ?_
 replace S := S.pk []
 refine ⟨(r1 (vb ?_)), S.m.c⟩
 refine ⟨fun _ => trivial, fun _ => ?_⟩
 have d1 : decN (encR r1J ++ [7]) = 1 := (dec_one r1_ok [7] (by decide)).1
 have o1 := one_rep hr_t32
 have hw : r_t340.waiting.xs = [] := hr_t340.2.2.2.2.2.trans o1.2.2
 have hrd : x_t55.m.2.round = 1 := by
  have h := congrArg Ctl.round hLO.ma.ab
  rw [hbb.1, one_st hr_t52, hr_t52.2] at h
  exact h.trans fold1.1
 repeat' apply And.intro
 all_goals first
 | trivial
 | exact if_pos r1_ok
 | rfl
 | (show ((14 * decN (encR r1J ++ [7]) : Nat) : Int) = 14; rw [d1]; rfl)
 | exact o1.1
 | exact hr_t340.1.trans o1.2.1
 | (rw [hw]; rfl)
 | (rw [htg, hLA.ls]; exact ap1)
 | (rw [hls]; exact congrArg _ (bytesJ_one r1_ok))
 | (show ((14 * decN (bytesJ jl_t50.l.xs) : Nat) : Int) = 14; rw [hbb.2]; rfl)
 | exact hrd
end Go.Proofs.Ytobggnpnochnnaa.V
namespace Go.Proofs.Ytobggnpnochnnaa.V
open Go.RowKit Go.Proofs.Ytobggnpnochnnaa
set_option linter.unusedVariables false
set_option linter.unusedSimpArgs false
set_option maxHeartbeats 2000000 in
set_option maxRecDepth 20000 in
theorem gNew (w : World) (F : Nat → Prop) (hF : Old F w) (M : MS [] w) (l : Sl Int) (l_w : (slE intE).wf (Fr F []) w.heap l) :
 Calls Try.prog 19 #[sV l] w fun e w' => ∃ (rT : Nat), e = .returned (pT rT 0) ∧ TpB 112 rT l w' ∧ Tr [] w [one rT] w' := by
 have : l.xs.length ≤ 9223372036854775807 := (l_w).1.len
 refine go Try.func19 rfl 6 rfl [wfF (slE intE) l] [] hF M ⟨l_w, trivial⟩ trivial ?_
 intro a S
 have hD : ∀ k, In ([] : List BS) k → ¬ F k := fun _ h => h.elim
 refine rs S (la (av rfl)) ?_; clear S; intro a u S
 refine rs0 ?_
 refine sp S (tr (mv rfl)<|la (ov fun S=>x_bd S [(0, sV l)] [sV l, iI 0])) ?_; clear S; intro a u S
 refine nbp S (x_box _ (S.e rfl) rfl) ?_; clear S; intro a u b5 S
 refine ens S (la (av rfl)) ?_; clear S; intro a u S
 refine wp_ret ?_
 refine ret1 rfl S.s rfl ?_
 replace S := S.pk [0]
 exact ⟨_, rfl, ⟨0, Nat.zero_le _, (S.k 0 rfl)⟩, S.m.c⟩
set_option maxHeartbeats 2000000 in
set_option maxRecDepth 20000 in
theorem gMod (w : World) (F : Nat → Prop) (hF : Old F w) (M : MS [] w) (v : Int) (v_h : inI64 v) (n : Int) (n_h : inI64 n) (hn : 1 ≤ n) :
 Calls Try.prog 29 #[iI v, iI n] w fun e w' => e = .returned (iI (v % 18446744073709551616 % n)) ∧ Tr [] w [] w' := by
 obtain ⟨v_hl, v_hu⟩ : inI64 v := id v_h
 obtain ⟨n_hl, n_hu⟩ : inI64 n := id n_h
 have hu : IntKind.u64.wrap v = v % 18446744073709551616 := by simp [IntKind.wrap, IntKind.bits, IntKind.signed]
 have hw : 0 ≤ v % 18446744073709551616 ∧ v % 18446744073709551616 ≤ 18446744073709551615 := ⟨by omega, by omega⟩
 have hm1 : 0 ≤ v % 18446744073709551616 % n := Int.emod_nonneg _ (by omega)
 have hm2 : v % 18446744073709551616 % n < n := Int.emod_lt_of_pos _ (by omega)
 refine go Try.func29 rfl 11 rfl [] [] hF M trivial trivial ?_
 intro a S
 have hD : ∀ k, In ([] : List BS) k → ¬ F k := fun _ h => h.elim
 refine rs S (la (av rfl)) ?_; clear S; intro a u S
 refine rs S (tr (mv rfl)<|tr (ov fun S=>x_conv uT3 uT40 (S.e rfl) (r := (v % 18446744073709551616)) hu)<|tr (mv rfl)<|tr (ov fun S=>x_conv uT3 uT40 (S.e rfl) (r := n) (w_u64 (by omega)))<|tr (ov fun S=>x_rem (S.e rfl) (S.e rfl) (by omega) (r := ((v % 18446744073709551616) % n)) (by first | rfl | (rw [Int.tmod_eq_emod_of_nonneg (by omega)]) | (rw [Int.tmod_eq_emod_of_nonneg (by omega)]; omega)))<|tr (ov fun S=>x_conv uT40 uT3 (S.e rfl) (r := ((v % 18446744073709551616) % n)) (w_i64 (by omega)))<|la (av rfl)) ?_; clear S; intro a u S
 refine wp_ret ?_
 refine ret1 rfl S.s rfl ?_
 refine ⟨(r1 (vi ?_)), S.m.c⟩
 first | rfl | omega | assumption
set_option maxHeartbeats 2000000 in
set_option maxRecDepth 20000 in
theorem gNext (w : World) (F : Nat → Prop) (hF : Old F w) (T : Nat) (M : MS [one T] w) (T_l : Sl Int) (T_w : (slE intE).wf (Fr F [one T]) w.heap T_l) (T_K : TpB 112 T T_l w) (n : Int) (n_h : inI64 n) :
 Calls Try.prog 26 #[pT T 0, iI n] w fun e w' => ∃ (r : Int), e = .returned (iI r) ∧ (0 ≤ r ∧ (r < n ∨ r = 0)) ∧ TpB 112 T T_l w' ∧ Tr [one T] w [one T] w' := by
 obtain ⟨ti, hti, T_K⟩ := T_K
 have T_len : T_l.xs.length ≤ 9223372036854775807 := T_w.1.len
 obtain ⟨n_hl, n_hu⟩ : inI64 n := id n_h
 refine go Try.func26 rfl 39 rfl [wfF (slE intE) T_l] [blO T [sV T_l, iN ti] 112] hF M ⟨T_w, trivial⟩ ⟨T_K, trivial⟩ ?_
 intro a S
 refine rs S (la (av rfl)) ?_; clear S; intro a u S
 refine wp_seq (wp_seq ?_)
 refine dr (P := Try.prog) S 14 [] [(5, .is _), (6, .is _), (7, .is _), (8, .is _), (9, .is _), (10, .is _), (11, .is _), (12, .is _), (13, .is _), (14, .is _), (15, .is _), (16, .is _), (17, .is _), (18, .is _)] [[], [5], [6], [7], [7, 8], [7, 9], [7, 10], [7], [7, 12], [7, 13], [7, 14], [7, 15], [7, 11, 16], [7, 17]] [18] _ ⟨qd (mv rfl), qd (leqi rfl rfl), qd (mv rfl), qd (og 7 rfl gf fun S hg=>x_move (S.e rfl)), qd (og 7 rfl gf fun S hg=>x_nilck (S.p rfl hg)), qd (og 7 rfl gf fun S hg=>xf (0) 1 uT112 (S.p rfl hg)), qd (og 7 rfl gf fun S hg=>x_load sC3 (S.p rfl hg) ((S.k 0 rfl).cell (j := 1) rfl)), qd (og 7 rfl gf fun S hg=>x_move (S.e rfl)), qd (og 7 rfl gf fun S hg=>x_nilck (S.p rfl hg)), qd (og 7 rfl gf fun S hg=>xf (0) 0 uT112 (S.p rfl hg)), qd (og 7 rfl gf fun S hg=>x_load sC22 (S.p rfl hg) ((S.k 0 rfl).cell (j := 0) rfl)), qd (og 7 rfl gf fun S hg=>x_len uT22 (S.p rfl hg)), qd (og 7 rfl gf fun S hg=>x_geq (S.p rfl hg) (S.p rfl hg)), qd (ori rfl rfl rfl), trivial⟩ ?_
 clear S; intro a u S G hE
 obtain ⟨hl2, hu2⟩ : inI64 n := id n_h
 refine ent ?_
 refine cd S rfl ?_ ?_
 ·intro hc0
  refine rs S (la (av rfl)) ?_; clear S; intro a u S
  refine wp_ret (then_r ?_)
  refine ret1 rfl S.s rfl ?_
  refine ⟨0, rfl, ?_, ⟨_, (by omega), (S.k 0 rfl)⟩, S.m.c⟩
  exact ⟨Int.le_refl _, .inr rfl⟩
 intro hc1
 refine wp_skip (then_n ?_)
 refine rs S (tr (mv rfl)<|tr (ov fun S=>x_nilck (S.e rfl))<|tr (fldi 0 1 rfl uT112)<|tr (ldk 0 sC3 rfl rfl rfl)<|tr (addi ((ti + 1 : Nat) : Int) rfl rfl (w_i64 (by omega)))<|tr (ov fun S=>x_nilck (S.e rfl))<|tr (fldi 0 1 rfl uT112)<|la (stk 0 rfl rfl rfl)) ?_; clear S; intro a u S
 refine wp_seq ?_
 obtain ⟨hl5, hu5⟩ : inI64 (T_l.xs.getD (((((ti + 1 : Nat) : Int) - 1)).toNat) intE.dflt) := id (((S.u 0 rfl)).1.wf ((((ti + 1 : Nat) : Int) - 1)).toNat (by omega))
 replace S := S.l [(0, pT T 0), (1, iI n)] (subM rfl)
 refine dr (P := Try.prog) S 14 [] [(26, .is _), (27, .is _), (28, .is _), (29, .is _), (30, .is _), (31, .is _), (32, .is _), (33, .is _), (34, .is _), (35, .is _), (36, .is _), (37, .is _), (38, .is _), (4, .is _)] [[], [26], [27], [28], [], [30], [31], [32], [33], [29, 34], [35], [], [36, 37], [38]] [4] _ ⟨qd (mv rfl), qd (ov fun S=>x_nilck (S.e rfl)), qd (fldi 0 0 rfl uT112), qd (ldk 0 sC22 rfl rfl rfl), qd (mv rfl), qd (ov fun S=>x_nilck (S.e rfl)), qd (fldi 0 1 rfl uT112), qd (ldk 0 sC3 rfl rfl rfl), qd (subi (((ti + 1 : Nat) : Int) - 1) rfl rfl (w_i64 (by omega))), qd (idxi uT22 sZ3 rfl rfl ((((ti + 1 : Nat) : Int) - 1)).toNat (by omega) (by omega) (((S.u 0 rfl)).1.adr (i := ((((ti + 1 : Nat) : Int) - 1)).toNat) (by omega))), qd (ov fun S=>x_load sC3 (S.e rfl) (((S.u 0 rfl)).1.cell ((((ti + 1 : Nat) : Int) - 1)).toNat (by omega) 0 _ rfl)), qd (mv rfl), qd (oc (fun S=>gMod _ _ S.x (.nil _) (T_l.xs.getD (((((ti + 1 : Nat) : Int) - 1)).toNat) intE.dflt) (((S.u 0 rfl)).1.wf ((((ti + 1 : Nat) : Int) - 1)).toNat (by omega)) n n_h (by omega)) cB29), qd (av rfl), trivial⟩ ?_
 clear S; intro a u S G hE
 obtain ⟨hl6, hu6⟩ : inI64 (T_l.xs.getD (((((ti + 1 : Nat) : Int) - 1)).toNat) intE.dflt) := id (((S.u 0 rfl)).1.wf ((((ti + 1 : Nat) : Int) - 1)).toNat (by omega))
 refine ent (wp_ret ?_)
 refine ret1 rfl S.s rfl ?_
 refine ⟨((T_l.xs.getD (((((ti + 1 : Nat) : Int) - 1)).toNat) intE.dflt) % 18446744073709551616 % n), rfl, ?_, ⟨_, (by omega), (S.k 0 rfl)⟩, S.m.c⟩
 have h1 := Int.emod_nonneg (T_l.xs.getD (((ti + 1 : Nat) : Int) - 1).toNat intE.dflt % 18446744073709551616) (b := n) (by omega); have h2 := Int.emod_lt_of_pos (T_l.xs.getD (((ti + 1 : Nat) : Int) - 1).toNat intE.dflt % 18446744073709551616) (b := n) (by omega); exact ⟨h1, .inl h2⟩
set_option maxHeartbeats 2000000 in
set_option maxRecDepth 20000 in
theorem lRecord (w : World) (F : Nat → Prop) (hF : Old F w) (T : Nat) (M : MS [one T] w) (T_l : Sl Int) (T_w : (slE intE).wf (Fr F [one T]) w.heap T_l) (T_K : TpB 112 T T_l w) (n : Int) (n_h : inI64 n) :
 Calls Try.prog 20 #[pT T 0, iI n] w fun e w' => ∃ (r : Rec), e = .returned (.agg (recE.cells r).toArray) ∧ recE.wf (Fr F [one T]) w'.heap r ∧ TpB 112 T T_l w' ∧ Tr [one T] w [one T] w' := by
 obtain ⟨n_hl, n_hu⟩ : inI64 n := id n_h
 refine go Try.func20 rfl 66 rfl [wfF (slE intE) T_l] [tpO 112 T T_l] hF M ⟨T_w, trivial⟩ ⟨T_K, trivial⟩ ?_
 intro a S
 refine rs0 ?_
 refine nbp S (x_allocz _ iZ24 rfl) ?_; clear S; intro a u b4 S
 refine ent (rs0 ?_)
 refine nbs intE S [1, 1, 1, 2, 3, 4] (x_bs S [(0, iI 1), (1, iI 1), (2, iI 1), (3, iI 2), (4, iI 3), (5, iI 4)] uT22 iZ3) (fun x hx => by simp only [List.mem_cons, List.not_mem_nil, or_false] at hx; rcases hx with hx | hx | hx | hx | hx | hx <;> rw [hx] <;> first | exact (show intE.wf _ _ 1 from (show inI64 1 from ⟨by omega, by omega⟩)) | exact (show intE.wf _ _ 2 from (show inI64 2 from ⟨by omega, by omega⟩)) | exact (show intE.wf _ _ 3 from (show inI64 3 from ⟨by omega, by omega⟩)) | exact (show intE.wf _ _ 4 from (show inI64 4 from ⟨by omega, by omega⟩))) ?_; clear S; intro a u b6 S
 refine sp S (la (mv rfl)) ?_; clear S; intro a u S
 refine cl S (gNext _ _ S.x T (S.M.pick [0] (by decide)) T_l (dn1 (js := [0]) (S.u 0 rfl)) (S.t 0 rfl) 6 ⟨by omega, by omega⟩) cB26 ?_
 rintro e u ⟨r_t8, rfl, hr_t8, tK, T0⟩; refine ⟨_, rfl, fun a s => ?_⟩
 replace S := S.k1 0 rfl s T0 tK; clear s T0 tK
 obtain ⟨hl3, hu3⟩ : inI64 (([1, 1, 1, 2, 3, 4]).getD ((r_t8).toNat) intE.dflt) := id ((show LAt intE _ _ (some ⟨b6, 0, none⟩) ([1, 1, 1, 2, 3, 4]) from ((S.u 1 rfl)).1).wf (r_t8).toNat (by first | omega | (simp only [List.length_cons, List.length_nil]; omega)))
 refine sp S (tr (idxi uT22 sZ3 rfl rfl (r_t8).toNat (by omega) (by first | omega | (simp only [List.length_cons, List.length_nil]; omega)) ((show LAt intE _ _ (some ⟨b6, 0, none⟩) ([1, 1, 1, 2, 3, 4]) from ((S.u 1 rfl)).1).adr (i := (r_t8).toNat) (by first | omega | (simp only [List.length_cons, List.length_nil]; omega))))<|tr (ov fun S=>x_load sC3 (S.e rfl) ((show LAt intE _ _ (some ⟨b6, 0, none⟩) ([1, 1, 1, 2, 3, 4]) from ((S.u 1 rfl)).1).cell (r_t8).toNat (by first | omega | (simp only [List.length_cons, List.length_nil]; omega)) 0 _ rfl))<|la (ov fun S=>x_bd S [(0, iI (([1, 1, 1, 2, 3, 4]).getD ((r_t8).toNat) intE.dflt))] [iI (([1, 1, 1, 2, 3, 4]).getD ((r_t8).toNat) intE.dflt), iI 0, iI 0, iI 0])) ?_; clear S; intro a u S
 refine nbp S (x_allocz _ iZ24 rfl) ?_; clear S; intro a u b5 S
 refine ens S (la (stkw 2 rfl rfl rfl)) ?_; clear S; intro a u S
 refine wp_seq ?_
 refine rs S (tr (fldi 0 0 rfl uT24)<|la (ldk 2 sC3 rfl rfl rfl)) ?_; clear S; intro a u S
 refine wp_block ?_
 refine rs S (tr (eqli rfl rfl)<|la (av rfl)) ?_; clear S; intro a u S
 refine cd S rfl ?_ ?_
 ·intro hc0
  refine r0 ?_
  refine sp S (tr (mv rfl)<|la (mv rfl)) ?_; clear S; intro a u S
  refine cl S (gNext _ _ S.x T (S.M.pick [0] (by decide)) T_l (dn1 (js := [0]) (S.u 0 rfl)) (S.t 0 rfl) n n_h) cB26 ?_
  rintro e u ⟨r_t18, rfl, hr_t18, tK, T0⟩; refine ⟨_, rfl, fun a s => ?_⟩
  replace S := S.k1 0 rfl s T0 tK; clear s T0 tK
  refine sp S (la (mv rfl)) ?_; clear S; intro a u S
  refine cl S (gNext _ _ S.x T (S.M.pick [0] (by decide)) T_l (dn1 (js := [0]) (S.u 0 rfl)) (S.t 0 rfl) 2 ⟨by omega, by omega⟩) cB26 ?_
  rintro e u ⟨r_t20, rfl, hr_t20, tK, T0⟩; refine ⟨_, rfl, fun a s => ?_⟩
  replace S := S.k1 0 rfl s T0 tK; clear s T0 tK
  refine sp S (la (mv rfl)) ?_; clear S; intro a u S
  refine cl S (gNext _ _ S.x T (S.M.pick [0] (by decide)) T_l (dn1 (js := [0]) (S.u 0 rfl)) (S.t 0 rfl) 2 ⟨by omega, by omega⟩) cB26 ?_
  rintro e u ⟨r_t22, rfl, hr_t22, tK, T0⟩; refine ⟨_, rfl, fun a s => ?_⟩
  replace S := S.k1 0 rfl s T0 tK; clear s T0 tK
  have hmul : 0 ≤ r_t20 * r_t22 ∧ r_t20 * r_t22 ≤ 1 := by
   rcases (by omega : r_t20 = 0 ∨ r_t20 = 1) with h | h <;> rw [h] <;> omega
  refine sp S (tr (muli (r_t20 * r_t22) rfl rfl (w_i64 (by omega)))<|la (mv rfl)) ?_; clear S; intro a u S
  refine cl S (gNext _ _ S.x T (S.M.pick [0] (by decide)) T_l (dn1 (js := [0]) (S.u 0 rfl)) (S.t 0 rfl) 4 ⟨by omega, by omega⟩) cB26 ?_
  rintro e u ⟨r_t25, rfl, hr_t25, tK, T0⟩; refine ⟨_, rfl, fun a s => ?_⟩
  replace S := S.k1 0 rfl s T0 tK; clear s T0 tK
  refine en S (tr (addi (1 + r_t25) rfl rfl (w_i64 (by omega)))<|tr (fldi 0 1 rfl uT24)<|tr (stk 2 rfl rfl rfl)<|tr (fldi 0 2 rfl uT24)<|tr (stk 2 rfl rfl rfl)<|tr (fldi 0 3 rfl uT24)<|la (stk 2 rfl rfl rfl)) ?_; clear S; intro a u S
  refine blk_n (then_n (wp_seq (rs0 ?_)))
  refine sp S (la (mv rfl)) ?_; clear S; intro a u S
  refine cl S (gNext _ _ S.x T (S.M.pick [0] (by decide)) T_l (dn1 (js := [0]) (S.u 0 rfl)) (S.t 0 rfl) 14 ⟨by omega, by omega⟩) cB26 ?_
  rintro e u ⟨r_t46, rfl, hr_t46, tK, T0⟩; refine ⟨_, rfl, fun a s => ?_⟩
  replace S := S.k1 0 rfl s T0 tK; clear s T0 tK
  refine ent (wp_block ?_)
  refine rs S (tr (eqli rfl rfl)<|la (av rfl)) ?_; clear S; intro a u S
  refine cd S rfl ?_ ?_
  ·intro hc1
   refine r0 ?_
   refine sp S (la (mv rfl)) ?_; clear S; intro a u S
   refine cl S (gNext _ _ S.x T (S.M.pick [0] (by decide)) T_l (dn1 (js := [0]) (S.u 0 rfl)) (S.t 0 rfl) 16 ⟨by omega, by omega⟩) cB26 ?_
   rintro e u ⟨r_t50, rfl, hr_t50, tK, T0⟩; refine ⟨_, rfl, fun a s => ?_⟩
   replace S := S.k1 0 rfl s T0 tK; clear s T0 tK
   refine en S (tr (subi (r_t50 - 2) rfl rfl (w_i64 (by omega)))<|tr (fldi 0 1 rfl uT24)<|la (stk 2 rfl rfl rfl)) ?_; clear S; intro a u S
   refine blk_n (then_n ?_)
   refine rs S (tr (ldkw 2 rfl rfl wD24)<|la (stkw 1 rfl rfl rfl)) ?_; clear S; intro a u S
   refine wp_ret ?_
   refine retcw rfl S.s rfl [iI (([1, 1, 1, 2, 3, 4]).getD ((r_t8).toNat) intE.dflt), iI (r_t50 - 2), iI (r_t20 * r_t22), iI (1 + r_t25)] wD24 (fun j v hv => by rw [Nat.zero_add]; exact (S.k 1 rfl).cell hv) ?_
   replace S := S.pk [0] (os' := [tpO 112 T T_l])
   refine ⟨(⟨(([1, 1, 1, 2, 3, 4]).getD ((r_t8).toNat) intE.dflt), (r_t50 - 2), (r_t20 * r_t22), (1 + r_t25)⟩ : Rec), rfl, ⟨((show LAt intE _ _ (some ⟨b6, 0, none⟩) ([1, 1, 1, 2, 3, 4]) from ((S.u 1 rfl)).1).wf (r_t8).toNat (by first | omega | (simp only [List.length_cons, List.length_nil]; omega))), (show inI64 (r_t50 - 2) from ⟨by omega, by omega⟩), (show inI64 (r_t20 * r_t22) from ⟨by omega, by omega⟩), (show inI64 (1 + r_t25) from ⟨by omega, by omega⟩)⟩, (S.t 0 rfl), S.m.c⟩
  intro hc2
  refine rs S (tr (eqli rfl rfl)<|la (av rfl)) ?_; clear S; intro a u S
  refine cd S rfl ?_ ?_
  ·intro hc3
   refine r0 ?_
   refine sp S (la (mv rfl)) ?_; clear S; intro a u S
   refine cl S (gNext _ _ S.x T (S.M.pick [0] (by decide)) T_l (dn1 (js := [0]) (S.u 0 rfl)) (S.t 0 rfl) 8 ⟨by omega, by omega⟩) cB26 ?_
   rintro e u ⟨r_t56, rfl, hr_t56, tK, T0⟩; refine ⟨_, rfl, fun a s => ?_⟩
   replace S := S.k1 0 rfl s T0 tK; clear s T0 tK
   refine en S (tr (subi (r_t56 - 1) rfl rfl (w_i64 (by omega)))<|tr (fldi 0 0 rfl uT24)<|la (stk 2 rfl rfl rfl)) ?_; clear S; intro a u S
   refine blk_n (then_n ?_)
   refine rs S (tr (ldkw 2 rfl rfl wD24)<|la (stkw 1 rfl rfl rfl)) ?_; clear S; intro a u S
   refine wp_ret ?_
   refine retcw rfl S.s rfl [iI (r_t56 - 1), iI r_t18, iI (r_t20 * r_t22), iI (1 + r_t25)] wD24 (fun j v hv => by rw [Nat.zero_add]; exact (S.k 1 rfl).cell hv) ?_
   replace S := S.pk [0] (os' := [tpO 112 T T_l])
   refine ⟨(⟨(r_t56 - 1), r_t18, (r_t20 * r_t22), (1 + r_t25)⟩ : Rec), rfl, ⟨(show inI64 (r_t56 - 1) from ⟨by omega, by omega⟩), (show inI64 r_t18 from ⟨by omega, by omega⟩), (show inI64 (r_t20 * r_t22) from ⟨by omega, by omega⟩), (show inI64 (1 + r_t25) from ⟨by omega, by omega⟩)⟩, (S.t 0 rfl), S.m.c⟩
  intro hc4
  refine rs S (tr (eqli rfl rfl)<|la (av rfl)) ?_; clear S; intro a u S
  refine cd S rfl ?_ ?_
  ·intro hc5
   refine r0 ?_
   refine sp S (la (mv rfl)) ?_; clear S; intro a u S
   refine cl S (gNext _ _ S.x T (S.M.pick [0] (by decide)) T_l (dn1 (js := [0]) (S.u 0 rfl)) (S.t 0 rfl) 2 ⟨by omega, by omega⟩) cB26 ?_
   rintro e u ⟨r_t62, rfl, hr_t62, tK, T0⟩; refine ⟨_, rfl, fun a s => ?_⟩
   replace S := S.k1 0 rfl s T0 tK; clear s T0 tK
   refine en S (tr (subi (2147483648 - r_t62) rfl rfl (w_i64 (by omega)))<|tr (fldi 0 2 rfl uT24)<|la (stk 2 rfl rfl rfl)) ?_; clear S; intro a u S
   refine blk_n (then_n ?_)
   refine rs S (tr (ldkw 2 rfl rfl wD24)<|la (stkw 1 rfl rfl rfl)) ?_; clear S; intro a u S
   refine wp_ret ?_
   refine retcw rfl S.s rfl [iI (([1, 1, 1, 2, 3, 4]).getD ((r_t8).toNat) intE.dflt), iI r_t18, iI (2147483648 - r_t62), iI (1 + r_t25)] wD24 (fun j v hv => by rw [Nat.zero_add]; exact (S.k 1 rfl).cell hv) ?_
   replace S := S.pk [0] (os' := [tpO 112 T T_l])
   refine ⟨(⟨(([1, 1, 1, 2, 3, 4]).getD ((r_t8).toNat) intE.dflt), r_t18, (2147483648 - r_t62), (1 + r_t25)⟩ : Rec), rfl, ⟨((show LAt intE _ _ (some ⟨b6, 0, none⟩) ([1, 1, 1, 2, 3, 4]) from ((S.u 1 rfl)).1).wf (r_t8).toNat (by first | omega | (simp only [List.length_cons, List.length_nil]; omega))), (show inI64 r_t18 from ⟨by omega, by omega⟩), (show inI64 (2147483648 - r_t62) from ⟨by omega, by omega⟩), (show inI64 (1 + r_t25) from ⟨by omega, by omega⟩)⟩, (S.t 0 rfl), S.m.c⟩
  intro hc6
  refine wp_skip (blk_n (then_n ?_))
  refine rs S (tr (ldkw 2 rfl rfl wD24)<|la (stkw 1 rfl rfl rfl)) ?_; clear S; intro a u S
  refine wp_ret ?_
  refine retcw rfl S.s rfl [iI (([1, 1, 1, 2, 3, 4]).getD ((r_t8).toNat) intE.dflt), iI r_t18, iI (r_t20 * r_t22), iI (1 + r_t25)] wD24 (fun j v hv => by rw [Nat.zero_add]; exact (S.k 1 rfl).cell hv) ?_
  replace S := S.pk [0] (os' := [tpO 112 T T_l])
  refine ⟨(⟨(([1, 1, 1, 2, 3, 4]).getD ((r_t8).toNat) intE.dflt), r_t18, (r_t20 * r_t22), (1 + r_t25)⟩ : Rec), rfl, ⟨((show LAt intE _ _ (some ⟨b6, 0, none⟩) ([1, 1, 1, 2, 3, 4]) from ((S.u 1 rfl)).1).wf (r_t8).toNat (by first | omega | (simp only [List.length_cons, List.length_nil]; omega))), (show inI64 r_t18 from ⟨by omega, by omega⟩), (show inI64 (r_t20 * r_t22) from ⟨by omega, by omega⟩), (show inI64 (1 + r_t25) from ⟨by omega, by omega⟩)⟩, (S.t 0 rfl), S.m.c⟩
 intro hc7
 refine rs S (tr (eqli rfl rfl)<|la (av rfl)) ?_; clear S; intro a u S
 refine cd S rfl ?_ ?_
 ·intro hc8
  refine r0 ?_
  refine sp S (tr (mv rfl)<|la (mv rfl)) ?_; clear S; intro a u S
  refine cl S (gNext _ _ S.x T (S.M.pick [0] (by decide)) T_l (dn1 (js := [0]) (S.u 0 rfl)) (S.t 0 rfl) n n_h) cB26 ?_
  rintro e u ⟨r_t34, rfl, hr_t34, tK, T0⟩; refine ⟨_, rfl, fun a s => ?_⟩
  replace S := S.k1 0 rfl s T0 tK; clear s T0 tK
  refine sp S (la (mv rfl)) ?_; clear S; intro a u S
  refine cl S (gNext _ _ S.x T (S.M.pick [0] (by decide)) T_l (dn1 (js := [0]) (S.u 0 rfl)) (S.t 0 rfl) 3 ⟨by omega, by omega⟩) cB26 ?_
  rintro e u ⟨r_t36, rfl, hr_t36, tK, T0⟩; refine ⟨_, rfl, fun a s => ?_⟩
  replace S := S.k1 0 rfl s T0 tK; clear s T0 tK
  refine en S (tr (fldi 0 1 rfl uT24)<|tr (stk 2 rfl rfl rfl)<|tr (fldi 0 2 rfl uT24)<|la (stk 2 rfl rfl rfl)) ?_; clear S; intro a u S
  refine blk_n (then_n (wp_seq (rs0 ?_)))
  refine sp S (la (mv rfl)) ?_; clear S; intro a u S
  refine cl S (gNext _ _ S.x T (S.M.pick [0] (by decide)) T_l (dn1 (js := [0]) (S.u 0 rfl)) (S.t 0 rfl) 14 ⟨by omega, by omega⟩) cB26 ?_
  rintro e u ⟨r_t46, rfl, hr_t46, tK, T0⟩; refine ⟨_, rfl, fun a s => ?_⟩
  replace S := S.k1 0 rfl s T0 tK; clear s T0 tK
  refine ent (wp_block ?_)
  refine rs S (tr (eqli rfl rfl)<|la (av rfl)) ?_; clear S; intro a u S
  refine cd S rfl ?_ ?_
  ·intro hc9
   refine r0 ?_
   refine sp S (la (mv rfl)) ?_; clear S; intro a u S
   refine cl S (gNext _ _ S.x T (S.M.pick [0] (by decide)) T_l (dn1 (js := [0]) (S.u 0 rfl)) (S.t 0 rfl) 16 ⟨by omega, by omega⟩) cB26 ?_
   rintro e u ⟨r_t50, rfl, hr_t50, tK, T0⟩; refine ⟨_, rfl, fun a s => ?_⟩
   replace S := S.k1 0 rfl s T0 tK; clear s T0 tK
   refine en S (tr (subi (r_t50 - 2) rfl rfl (w_i64 (by omega)))<|tr (fldi 0 1 rfl uT24)<|la (stk 2 rfl rfl rfl)) ?_; clear S; intro a u S
   refine blk_n (then_n ?_)
   refine rs S (tr (ldkw 2 rfl rfl wD24)<|la (stkw 1 rfl rfl rfl)) ?_; clear S; intro a u S
   refine wp_ret ?_
   refine retcw rfl S.s rfl [iI (([1, 1, 1, 2, 3, 4]).getD ((r_t8).toNat) intE.dflt), iI (r_t50 - 2), iI r_t36, iI 0] wD24 (fun j v hv => by rw [Nat.zero_add]; exact (S.k 1 rfl).cell hv) ?_
   replace S := S.pk [0] (os' := [tpO 112 T T_l])
   refine ⟨(⟨(([1, 1, 1, 2, 3, 4]).getD ((r_t8).toNat) intE.dflt), (r_t50 - 2), r_t36, 0⟩ : Rec), rfl, ⟨((show LAt intE _ _ (some ⟨b6, 0, none⟩) ([1, 1, 1, 2, 3, 4]) from ((S.u 1 rfl)).1).wf (r_t8).toNat (by first | omega | (simp only [List.length_cons, List.length_nil]; omega))), (show inI64 (r_t50 - 2) from ⟨by omega, by omega⟩), (show inI64 r_t36 from ⟨by omega, by omega⟩), (show inI64 0 from ⟨by omega, by omega⟩)⟩, (S.t 0 rfl), S.m.c⟩
  intro hc10
  refine rs S (tr (eqli rfl rfl)<|la (av rfl)) ?_; clear S; intro a u S
  refine cd S rfl ?_ ?_
  ·intro hc11
   refine r0 ?_
   refine sp S (la (mv rfl)) ?_; clear S; intro a u S
   refine cl S (gNext _ _ S.x T (S.M.pick [0] (by decide)) T_l (dn1 (js := [0]) (S.u 0 rfl)) (S.t 0 rfl) 8 ⟨by omega, by omega⟩) cB26 ?_
   rintro e u ⟨r_t56, rfl, hr_t56, tK, T0⟩; refine ⟨_, rfl, fun a s => ?_⟩
   replace S := S.k1 0 rfl s T0 tK; clear s T0 tK
   refine en S (tr (subi (r_t56 - 1) rfl rfl (w_i64 (by omega)))<|tr (fldi 0 0 rfl uT24)<|la (stk 2 rfl rfl rfl)) ?_; clear S; intro a u S
   refine blk_n (then_n ?_)
   refine rs S (tr (ldkw 2 rfl rfl wD24)<|la (stkw 1 rfl rfl rfl)) ?_; clear S; intro a u S
   refine wp_ret ?_
   refine retcw rfl S.s rfl [iI (r_t56 - 1), iI r_t34, iI r_t36, iI 0] wD24 (fun j v hv => by rw [Nat.zero_add]; exact (S.k 1 rfl).cell hv) ?_
   replace S := S.pk [0] (os' := [tpO 112 T T_l])
   refine ⟨(⟨(r_t56 - 1), r_t34, r_t36, 0⟩ : Rec), rfl, ⟨(show inI64 (r_t56 - 1) from ⟨by omega, by omega⟩), (show inI64 r_t34 from ⟨by omega, by omega⟩), (show inI64 r_t36 from ⟨by omega, by omega⟩), (show inI64 0 from ⟨by omega, by omega⟩)⟩, (S.t 0 rfl), S.m.c⟩
  intro hc12
  refine rs S (tr (eqli rfl rfl)<|la (av rfl)) ?_; clear S; intro a u S
  refine cd S rfl ?_ ?_
  ·intro hc13
   refine r0 ?_
   refine sp S (la (mv rfl)) ?_; clear S; intro a u S
   refine cl S (gNext _ _ S.x T (S.M.pick [0] (by decide)) T_l (dn1 (js := [0]) (S.u 0 rfl)) (S.t 0 rfl) 2 ⟨by omega, by omega⟩) cB26 ?_
   rintro e u ⟨r_t62, rfl, hr_t62, tK, T0⟩; refine ⟨_, rfl, fun a s => ?_⟩
   replace S := S.k1 0 rfl s T0 tK; clear s T0 tK
   refine en S (tr (subi (2147483648 - r_t62) rfl rfl (w_i64 (by omega)))<|tr (fldi 0 2 rfl uT24)<|la (stk 2 rfl rfl rfl)) ?_; clear S; intro a u S
   refine blk_n (then_n ?_)
   refine rs S (tr (ldkw 2 rfl rfl wD24)<|la (stkw 1 rfl rfl rfl)) ?_; clear S; intro a u S
   refine wp_ret ?_
   refine retcw rfl S.s rfl [iI (([1, 1, 1, 2, 3, 4]).getD ((r_t8).toNat) intE.dflt), iI r_t34, iI (2147483648 - r_t62), iI 0] wD24 (fun j v hv => by rw [Nat.zero_add]; exact (S.k 1 rfl).cell hv) ?_
   replace S := S.pk [0] (os' := [tpO 112 T T_l])
   refine ⟨(⟨(([1, 1, 1, 2, 3, 4]).getD ((r_t8).toNat) intE.dflt), r_t34, (2147483648 - r_t62), 0⟩ : Rec), rfl, ⟨((show LAt intE _ _ (some ⟨b6, 0, none⟩) ([1, 1, 1, 2, 3, 4]) from ((S.u 1 rfl)).1).wf (r_t8).toNat (by first | omega | (simp only [List.length_cons, List.length_nil]; omega))), (show inI64 r_t34 from ⟨by omega, by omega⟩), (show inI64 (2147483648 - r_t62) from ⟨by omega, by omega⟩), (show inI64 0 from ⟨by omega, by omega⟩)⟩, (S.t 0 rfl), S.m.c⟩
  intro hc14
  refine wp_skip (blk_n (then_n ?_))
  refine rs S (tr (ldkw 2 rfl rfl wD24)<|la (stkw 1 rfl rfl rfl)) ?_; clear S; intro a u S
  refine wp_ret ?_
  refine retcw rfl S.s rfl [iI (([1, 1, 1, 2, 3, 4]).getD ((r_t8).toNat) intE.dflt), iI r_t34, iI r_t36, iI 0] wD24 (fun j v hv => by rw [Nat.zero_add]; exact (S.k 1 rfl).cell hv) ?_
  replace S := S.pk [0] (os' := [tpO 112 T T_l])
  refine ⟨(⟨(([1, 1, 1, 2, 3, 4]).getD ((r_t8).toNat) intE.dflt), r_t34, r_t36, 0⟩ : Rec), rfl, ⟨((show LAt intE _ _ (some ⟨b6, 0, none⟩) ([1, 1, 1, 2, 3, 4]) from ((S.u 1 rfl)).1).wf (r_t8).toNat (by first | omega | (simp only [List.length_cons, List.length_nil]; omega))), (show inI64 r_t34 from ⟨by omega, by omega⟩), (show inI64 r_t36 from ⟨by omega, by omega⟩), (show inI64 0 from ⟨by omega, by omega⟩)⟩, (S.t 0 rfl), S.m.c⟩
 intro hc15
 refine rs S (tr (eqli rfl rfl)<|la (av rfl)) ?_; clear S; intro a u S
 refine cd S rfl ?_ ?_
 ·intro hc16
  refine r0 ?_
  refine sp S (tr (mv rfl)<|la (mv rfl)) ?_; clear S; intro a u S
  refine cl S (gNext _ _ S.x T (S.M.pick [0] (by decide)) T_l (dn1 (js := [0]) (S.u 0 rfl)) (S.t 0 rfl) n n_h) cB26 ?_
  rintro e u ⟨r_t43, rfl, hr_t43, tK, T0⟩; refine ⟨_, rfl, fun a s => ?_⟩
  replace S := S.k1 0 rfl s T0 tK; clear s T0 tK
  refine en S (tr (fldi 0 1 rfl uT24)<|la (stk 2 rfl rfl rfl)) ?_; clear S; intro a u S
  refine blk_n (then_n (wp_seq (rs0 ?_)))
  refine sp S (la (mv rfl)) ?_; clear S; intro a u S
  refine cl S (gNext _ _ S.x T (S.M.pick [0] (by decide)) T_l (dn1 (js := [0]) (S.u 0 rfl)) (S.t 0 rfl) 14 ⟨by omega, by omega⟩) cB26 ?_
  rintro e u ⟨r_t46, rfl, hr_t46, tK, T0⟩; refine ⟨_, rfl, fun a s => ?_⟩
  replace S := S.k1 0 rfl s T0 tK; clear s T0 tK
  refine ent (wp_block ?_)
  refine rs S (tr (eqli rfl rfl)<|la (av rfl)) ?_; clear S; intro a u S
  refine cd S rfl ?_ ?_
  ·intro hc17
   refine r0 ?_
   refine sp S (la (mv rfl)) ?_; clear S; intro a u S
   refine cl S (gNext _ _ S.x T (S.M.pick [0] (by decide)) T_l (dn1 (js := [0]) (S.u 0 rfl)) (S.t 0 rfl) 16 ⟨by omega, by omega⟩) cB26 ?_
   rintro e u ⟨r_t50, rfl, hr_t50, tK, T0⟩; refine ⟨_, rfl, fun a s => ?_⟩
   replace S := S.k1 0 rfl s T0 tK; clear s T0 tK
   refine en S (tr (subi (r_t50 - 2) rfl rfl (w_i64 (by omega)))<|tr (fldi 0 1 rfl uT24)<|la (stk 2 rfl rfl rfl)) ?_; clear S; intro a u S
   refine blk_n (then_n ?_)
   refine rs S (tr (ldkw 2 rfl rfl wD24)<|la (stkw 1 rfl rfl rfl)) ?_; clear S; intro a u S
   refine wp_ret ?_
   refine retcw rfl S.s rfl [iI (([1, 1, 1, 2, 3, 4]).getD ((r_t8).toNat) intE.dflt), iI (r_t50 - 2), iI 0, iI 0] wD24 (fun j v hv => by rw [Nat.zero_add]; exact (S.k 1 rfl).cell hv) ?_
   replace S := S.pk [0] (os' := [tpO 112 T T_l])
   refine ⟨(⟨(([1, 1, 1, 2, 3, 4]).getD ((r_t8).toNat) intE.dflt), (r_t50 - 2), 0, 0⟩ : Rec), rfl, ⟨((show LAt intE _ _ (some ⟨b6, 0, none⟩) ([1, 1, 1, 2, 3, 4]) from ((S.u 1 rfl)).1).wf (r_t8).toNat (by first | omega | (simp only [List.length_cons, List.length_nil]; omega))), (show inI64 (r_t50 - 2) from ⟨by omega, by omega⟩), (show inI64 0 from ⟨by omega, by omega⟩), (show inI64 0 from ⟨by omega, by omega⟩)⟩, (S.t 0 rfl), S.m.c⟩
  intro hc18
  refine rs S (tr (eqli rfl rfl)<|la (av rfl)) ?_; clear S; intro a u S
  refine cd S rfl ?_ ?_
  ·intro hc19
   refine r0 ?_
   refine sp S (la (mv rfl)) ?_; clear S; intro a u S
   refine cl S (gNext _ _ S.x T (S.M.pick [0] (by decide)) T_l (dn1 (js := [0]) (S.u 0 rfl)) (S.t 0 rfl) 8 ⟨by omega, by omega⟩) cB26 ?_
   rintro e u ⟨r_t56, rfl, hr_t56, tK, T0⟩; refine ⟨_, rfl, fun a s => ?_⟩
   replace S := S.k1 0 rfl s T0 tK; clear s T0 tK
   refine en S (tr (subi (r_t56 - 1) rfl rfl (w_i64 (by omega)))<|tr (fldi 0 0 rfl uT24)<|la (stk 2 rfl rfl rfl)) ?_; clear S; intro a u S
   refine blk_n (then_n ?_)
   refine rs S (tr (ldkw 2 rfl rfl wD24)<|la (stkw 1 rfl rfl rfl)) ?_; clear S; intro a u S
   refine wp_ret ?_
   refine retcw rfl S.s rfl [iI (r_t56 - 1), iI r_t43, iI 0, iI 0] wD24 (fun j v hv => by rw [Nat.zero_add]; exact (S.k 1 rfl).cell hv) ?_
   replace S := S.pk [0] (os' := [tpO 112 T T_l])
   refine ⟨(⟨(r_t56 - 1), r_t43, 0, 0⟩ : Rec), rfl, ⟨(show inI64 (r_t56 - 1) from ⟨by omega, by omega⟩), (show inI64 r_t43 from ⟨by omega, by omega⟩), (show inI64 0 from ⟨by omega, by omega⟩), (show inI64 0 from ⟨by omega, by omega⟩)⟩, (S.t 0 rfl), S.m.c⟩
  intro hc20
  refine rs S (tr (eqli rfl rfl)<|la (av rfl)) ?_; clear S; intro a u S
  refine cd S rfl ?_ ?_
  ·intro hc21
   refine r0 ?_
   refine sp S (la (mv rfl)) ?_; clear S; intro a u S
   refine cl S (gNext _ _ S.x T (S.M.pick [0] (by decide)) T_l (dn1 (js := [0]) (S.u 0 rfl)) (S.t 0 rfl) 2 ⟨by omega, by omega⟩) cB26 ?_
   rintro e u ⟨r_t62, rfl, hr_t62, tK, T0⟩; refine ⟨_, rfl, fun a s => ?_⟩
   replace S := S.k1 0 rfl s T0 tK; clear s T0 tK
   refine en S (tr (subi (2147483648 - r_t62) rfl rfl (w_i64 (by omega)))<|tr (fldi 0 2 rfl uT24)<|la (stk 2 rfl rfl rfl)) ?_; clear S; intro a u S
   refine blk_n (then_n ?_)
   refine rs S (tr (ldkw 2 rfl rfl wD24)<|la (stkw 1 rfl rfl rfl)) ?_; clear S; intro a u S
   refine wp_ret ?_
   refine retcw rfl S.s rfl [iI (([1, 1, 1, 2, 3, 4]).getD ((r_t8).toNat) intE.dflt), iI r_t43, iI (2147483648 - r_t62), iI 0] wD24 (fun j v hv => by rw [Nat.zero_add]; exact (S.k 1 rfl).cell hv) ?_
   replace S := S.pk [0] (os' := [tpO 112 T T_l])
   refine ⟨(⟨(([1, 1, 1, 2, 3, 4]).getD ((r_t8).toNat) intE.dflt), r_t43, (2147483648 - r_t62), 0⟩ : Rec), rfl, ⟨((show LAt intE _ _ (some ⟨b6, 0, none⟩) ([1, 1, 1, 2, 3, 4]) from ((S.u 1 rfl)).1).wf (r_t8).toNat (by first | omega | (simp only [List.length_cons, List.length_nil]; omega))), (show inI64 r_t43 from ⟨by omega, by omega⟩), (show inI64 (2147483648 - r_t62) from ⟨by omega, by omega⟩), (show inI64 0 from ⟨by omega, by omega⟩)⟩, (S.t 0 rfl), S.m.c⟩
  intro hc22
  refine wp_skip (blk_n (then_n ?_))
  refine rs S (tr (ldkw 2 rfl rfl wD24)<|la (stkw 1 rfl rfl rfl)) ?_; clear S; intro a u S
  refine wp_ret ?_
  refine retcw rfl S.s rfl [iI (([1, 1, 1, 2, 3, 4]).getD ((r_t8).toNat) intE.dflt), iI r_t43, iI 0, iI 0] wD24 (fun j v hv => by rw [Nat.zero_add]; exact (S.k 1 rfl).cell hv) ?_
  replace S := S.pk [0] (os' := [tpO 112 T T_l])
  refine ⟨(⟨(([1, 1, 1, 2, 3, 4]).getD ((r_t8).toNat) intE.dflt), r_t43, 0, 0⟩ : Rec), rfl, ⟨((show LAt intE _ _ (some ⟨b6, 0, none⟩) ([1, 1, 1, 2, 3, 4]) from ((S.u 1 rfl)).1).wf (r_t8).toNat (by first | omega | (simp only [List.length_cons, List.length_nil]; omega))), (show inI64 r_t43 from ⟨by omega, by omega⟩), (show inI64 0 from ⟨by omega, by omega⟩), (show inI64 0 from ⟨by omega, by omega⟩)⟩, (S.t 0 rfl), S.m.c⟩
 intro hc23
 refine wp_skip (blk_n (then_n (wp_seq (rs0 ?_))))
 refine sp S (la (mv rfl)) ?_; clear S; intro a u S
 refine cl S (gNext _ _ S.x T (S.M.pick [0] (by decide)) T_l (dn1 (js := [0]) (S.u 0 rfl)) (S.t 0 rfl) 14 ⟨by omega, by omega⟩) cB26 ?_
 rintro e u ⟨r_t46, rfl, hr_t46, tK, T0⟩; refine ⟨_, rfl, fun a s => ?_⟩
 replace S := S.k1 0 rfl s T0 tK; clear s T0 tK
 refine ent (wp_block ?_)
 refine rs S (tr (eqli rfl rfl)<|la (av rfl)) ?_; clear S; intro a u S
 refine cd S rfl ?_ ?_
 ·intro hc24
  refine r0 ?_
  refine sp S (la (mv rfl)) ?_; clear S; intro a u S
  refine cl S (gNext _ _ S.x T (S.M.pick [0] (by decide)) T_l (dn1 (js := [0]) (S.u 0 rfl)) (S.t 0 rfl) 16 ⟨by omega, by omega⟩) cB26 ?_
  rintro e u ⟨r_t50, rfl, hr_t50, tK, T0⟩; refine ⟨_, rfl, fun a s => ?_⟩
  replace S := S.k1 0 rfl s T0 tK; clear s T0 tK
  refine en S (tr (subi (r_t50 - 2) rfl rfl (w_i64 (by omega)))<|tr (fldi 0 1 rfl uT24)<|la (stk 2 rfl rfl rfl)) ?_; clear S; intro a u S
  refine blk_n (then_n ?_)
  refine rs S (tr (ldkw 2 rfl rfl wD24)<|la (stkw 1 rfl rfl rfl)) ?_; clear S; intro a u S
  refine wp_ret ?_
  refine retcw rfl S.s rfl [iI (([1, 1, 1, 2, 3, 4]).getD ((r_t8).toNat) intE.dflt), iI (r_t50 - 2), iI 0, iI 0] wD24 (fun j v hv => by rw [Nat.zero_add]; exact (S.k 1 rfl).cell hv) ?_
  replace S := S.pk [0] (os' := [tpO 112 T T_l])
  refine ⟨(⟨(([1, 1, 1, 2, 3, 4]).getD ((r_t8).toNat) intE.dflt), (r_t50 - 2), 0, 0⟩ : Rec), rfl, ⟨((show LAt intE _ _ (some ⟨b6, 0, none⟩) ([1, 1, 1, 2, 3, 4]) from ((S.u 1 rfl)).1).wf (r_t8).toNat (by first | omega | (simp only [List.length_cons, List.length_nil]; omega))), (show inI64 (r_t50 - 2) from ⟨by omega, by omega⟩), (show inI64 0 from ⟨by omega, by omega⟩), (show inI64 0 from ⟨by omega, by omega⟩)⟩, (S.t 0 rfl), S.m.c⟩
 intro hc25
 refine rs S (tr (eqli rfl rfl)<|la (av rfl)) ?_; clear S; intro a u S
 refine cd S rfl ?_ ?_
 ·intro hc26
  refine r0 ?_
  refine sp S (la (mv rfl)) ?_; clear S; intro a u S
  refine cl S (gNext _ _ S.x T (S.M.pick [0] (by decide)) T_l (dn1 (js := [0]) (S.u 0 rfl)) (S.t 0 rfl) 8 ⟨by omega, by omega⟩) cB26 ?_
  rintro e u ⟨r_t56, rfl, hr_t56, tK, T0⟩; refine ⟨_, rfl, fun a s => ?_⟩
  replace S := S.k1 0 rfl s T0 tK; clear s T0 tK
  refine en S (tr (subi (r_t56 - 1) rfl rfl (w_i64 (by omega)))<|tr (fldi 0 0 rfl uT24)<|la (stk 2 rfl rfl rfl)) ?_; clear S; intro a u S
  refine blk_n (then_n ?_)
  refine rs S (tr (ldkw 2 rfl rfl wD24)<|la (stkw 1 rfl rfl rfl)) ?_; clear S; intro a u S
  refine wp_ret ?_
  refine retcw rfl S.s rfl [iI (r_t56 - 1), iI 0, iI 0, iI 0] wD24 (fun j v hv => by rw [Nat.zero_add]; exact (S.k 1 rfl).cell hv) ?_
  replace S := S.pk [0] (os' := [tpO 112 T T_l])
  refine ⟨(⟨(r_t56 - 1), 0, 0, 0⟩ : Rec), rfl, ⟨(show inI64 (r_t56 - 1) from ⟨by omega, by omega⟩), (show inI64 0 from ⟨by omega, by omega⟩), (show inI64 0 from ⟨by omega, by omega⟩), (show inI64 0 from ⟨by omega, by omega⟩)⟩, (S.t 0 rfl), S.m.c⟩
 intro hc27
 refine rs S (tr (eqli rfl rfl)<|la (av rfl)) ?_; clear S; intro a u S
 refine cd S rfl ?_ ?_
 ·intro hc28
  refine r0 ?_
  refine sp S (la (mv rfl)) ?_; clear S; intro a u S
  refine cl S (gNext _ _ S.x T (S.M.pick [0] (by decide)) T_l (dn1 (js := [0]) (S.u 0 rfl)) (S.t 0 rfl) 2 ⟨by omega, by omega⟩) cB26 ?_
  rintro e u ⟨r_t62, rfl, hr_t62, tK, T0⟩; refine ⟨_, rfl, fun a s => ?_⟩
  replace S := S.k1 0 rfl s T0 tK; clear s T0 tK
  refine en S (tr (subi (2147483648 - r_t62) rfl rfl (w_i64 (by omega)))<|tr (fldi 0 2 rfl uT24)<|la (stk 2 rfl rfl rfl)) ?_; clear S; intro a u S
  refine blk_n (then_n ?_)
  refine rs S (tr (ldkw 2 rfl rfl wD24)<|la (stkw 1 rfl rfl rfl)) ?_; clear S; intro a u S
  refine wp_ret ?_
  refine retcw rfl S.s rfl [iI (([1, 1, 1, 2, 3, 4]).getD ((r_t8).toNat) intE.dflt), iI 0, iI (2147483648 - r_t62), iI 0] wD24 (fun j v hv => by rw [Nat.zero_add]; exact (S.k 1 rfl).cell hv) ?_
  replace S := S.pk [0] (os' := [tpO 112 T T_l])
  refine ⟨(⟨(([1, 1, 1, 2, 3, 4]).getD ((r_t8).toNat) intE.dflt), 0, (2147483648 - r_t62), 0⟩ : Rec), rfl, ⟨((show LAt intE _ _ (some ⟨b6, 0, none⟩) ([1, 1, 1, 2, 3, 4]) from ((S.u 1 rfl)).1).wf (r_t8).toNat (by first | omega | (simp only [List.length_cons, List.length_nil]; omega))), (show inI64 0 from ⟨by omega, by omega⟩), (show inI64 (2147483648 - r_t62) from ⟨by omega, by omega⟩), (show inI64 0 from ⟨by omega, by omega⟩)⟩, (S.t 0 rfl), S.m.c⟩
 intro hc29
 refine wp_skip (blk_n (then_n ?_))
 refine rs S (tr (ldkw 2 rfl rfl wD24)<|la (stkw 1 rfl rfl rfl)) ?_; clear S; intro a u S
 refine wp_ret ?_
 refine retcw rfl S.s rfl [iI (([1, 1, 1, 2, 3, 4]).getD ((r_t8).toNat) intE.dflt), iI 0, iI 0, iI 0] wD24 (fun j v hv => by rw [Nat.zero_add]; exact (S.k 1 rfl).cell hv) ?_
 replace S := S.pk [0] (os' := [tpO 112 T T_l])
 refine ⟨(⟨(([1, 1, 1, 2, 3, 4]).getD ((r_t8).toNat) intE.dflt), 0, 0, 0⟩ : Rec), rfl, ⟨((show LAt intE _ _ (some ⟨b6, 0, none⟩) ([1, 1, 1, 2, 3, 4]) from ((S.u 1 rfl)).1).wf (r_t8).toNat (by first | omega | (simp only [List.length_cons, List.length_nil]; omega))), (show inI64 0 from ⟨by omega, by omega⟩), (show inI64 0 from ⟨by omega, by omega⟩), (show inI64 0 from ⟨by omega, by omega⟩)⟩, (S.t 0 rfl), S.m.c⟩
end Go.Proofs.Ytobggnpnochnnaa.V
set_option linter.unusedVariables false
set_option linter.unusedSimpArgs false
namespace Go.Proofs.Ytobggnpnochnnaa.V
open Go.RowKit
/-- what the generator makes: the first states are those of the rounds so far -/
def PlnI (st : Bool) (n : Int) (R : List (List Chg)) (now : List Int) : Prop := (now.length = n.toNat ∧ ∀ k, 0 ≤ now.getD k 0 ∧ now.getD k 0 ≤ 3) ∧ ∃ acc, ∀ rs, stsA st n [zerosP n] (zerosP n) (R ++ rs) = stsA st n acc now rs
def RndI (st : Bool) (n : Int) (now : List Int) (l : List Chg) (last : Int) (cur : List Int) : Prop := (cur.length = n.toNat ∧ ∀ k, 0 ≤ cur.getD k 0 ∧ cur.getD k 0 ≤ 3) ∧ ∀ rest, rndP st n (-1) now (l ++ rest) = rndP st n last cur rest
theorem zerosP_le (n : Int) (k : Nat) : 0 ≤ (zerosP n).getD k 0 ∧ (zerosP n).getD k 0 ≤ 3 := by
  unfold zerosP
  rw [List.getD_eq_getElem?_getD, List.getElem?_replicate]
  split <;> decide
theorem PlnI.init (st : Bool) (n : Int) : PlnI st n [] (zerosP n) := ⟨⟨by simp [zerosP], zerosP_le n⟩, _, fun _ => rfl⟩
theorem RndI.init {st : Bool} {n : Int} {now : List Int} {R : List (List Chg)} (h : PlnI st n R now) : RndI st n now [] (-1) now := ⟨h.1, fun _ => rfl⟩
theorem getD_set_le {l : List Int} {d k : Nat} {v : Int} (h : ∀ k, 0 ≤ l.getD k 0 ∧ l.getD k 0 ≤ 3) (h0 : 0 ≤ v) (hv : v ≤ 3) : 0 ≤ (l.set d v).getD k 0 ∧ (l.set d v).getD k 0 ≤ 3 := by
  have := h k
  rw [List.getD_eq_getElem?_getD] at this ⊢
  rw [List.getElem?_set]
  split
  · split <;> simp [h0, hv]
  · exact this
theorem RndI.step {st : Bool} {n last d v : Int} {now cur : List Int} {l : List Chg} (h : RndI st n now l last cur) (hl : -1 ≤ last) (h1 : last < d) (h2 : d < n) (h3 : cur.getD d.toNat 0 < v) (h4 : v ≤ 3) (h5 : ¬ st = true → v = 3) : RndI st n now (l ++ [⟨d, v⟩]) d (cur.set d.toNat v) :=
  ⟨⟨by rw [List.length_set]; exact h.1.1, fun k => getD_set_le h.1.2 (by have := (h.1.2 d.toNat).1; omega) h4⟩, fun rest => by
    rw [List.append_assoc, List.singleton_append, h.2]
    exact rndP_go (c := ⟨d, v⟩) (by
      show ¬ (d ≤ last ∨ n ≤ d ∨ v ≤ cur.getD d.toNat 0 ∨ 3 < v ∨ (¬ st = true ∧ v ≠ 3))
      rintro (q | q | q | q | q)
      · omega
      · omega
      · omega
      · omega
      · exact q.2 (h5 q.1))⟩
theorem RndI.nil {st : Bool} {n last : Int} {now cur : List Int} (h : RndI st n now [] last cur) : cur = now := by
  have := h.2 []
  rw [List.append_nil, rndP, rndP] at this
  exact (Option.some.inj this).symm
theorem PlnI.step {st : Bool} {n last : Int} {R : List (List Chg)} {now cur : List Int} {l : List Chg} (h : PlnI st n R now) (hr : RndI st n now l last cur) (h0 : l.length ≠ 0) : PlnI st n (R ++ [l]) cur := by
  obtain ⟨acc, ha⟩ := h.2
  refine ⟨hr.1, acc ++ [cur], fun rs => ?_⟩
  rw [List.append_assoc, List.singleton_append, ha, stsA, if_neg h0]
  have := hr.2 []
  rw [List.append_nil] at this
  rw [this, rndP]
theorem PlnI.some {st : Bool} {n : Int} {R : List (List Chg)} {now : List Int} (h : PlnI st n R now) (hn : 1 ≤ n ∧ n ≤ 12) : (statesP st R n).isSome = true := by
  obtain ⟨acc, ha⟩ := h.2
  have := ha []
  rw [List.append_nil, stsA] at this
  unfold statesP
  rw [if_neg (by omega), this]; rfl
def planG (p : Plan) (n : Int) : Prop := goodP p n ∧ p.rounds.xs.length ≤ 3 ∧ ∀ x ∈ p.rounds.xs, 0 < x.xs.length
end Go.Proofs.Ytobggnpnochnnaa.V
namespace Go.Proofs.Ytobggnpnochnnaa.V
open Go.RowKit Go.Proofs.Ytobggnpnochnnaa
set_option linter.unusedVariables false
set_option linter.unusedSimpArgs false
set_option maxHeartbeats 2000000 in
set_option maxRecDepth 20000 in
theorem gPlan (w : World) (F : Nat → Prop) (hF : Old F w) (T : Nat) (M : MS [one T] w) (T_l : Sl Int) (T_w : (slE intE).wf (Fr F [one T]) w.heap T_l) (T_K : TpB 112 T T_l w) (n : Int) (n_h : inI64 n) (hn : 1 ≤ n ∧ n ≤ 12) :
 Calls Try.prog 30 #[pT T 0, iI n] w fun e w' => ∃ (r : Plan), e = .returned (.agg (planE.cells r).toArray) ∧ planE.wf (Fr F [one T]) w'.heap r ∧ planG r n ∧ TpB 112 T T_l w' ∧ Tr [one T] w [one T] w' := by
 obtain ⟨n_hl, n_hu⟩ : inI64 n := id n_h
 refine go Try.func30 rfl 73 rfl [wfF (slE intE) T_l] [tpO 112 T T_l] hF M ⟨T_w, trivial⟩ ⟨T_K, trivial⟩ ?_
 intro a S
 refine rs0 ?_
 refine nbp S (x_allocz _ iZ47 rfl) ?_; clear S; intro a u b4 S
 refine ent (rs0 ?_)
 refine sp S (la (mv rfl)) ?_; clear S; intro a u S
 refine cl S (gNext _ _ S.x T (S.M.pick [0] (by decide)) T_l (dn1 (js := [0]) (S.u 0 rfl)) (S.t 0 rfl) 2 ⟨by omega, by omega⟩) cB26 ?_
 rintro e u ⟨r_t12, rfl, hr_t12, tK, T0⟩; refine ⟨_, rfl, fun a s => ?_⟩
 replace S := S.k1 0 rfl s T0 tK; clear s T0 tK
 refine sp S (la (eqli rfl rfl)) ?_; clear S; intro a u S
 obtain ⟨bv13, hbv13⟩ : ∃ b : Bool, (b = true) ↔ (r_t12 = 0) := ⟨decide (r_t12 = 0), by simp⟩
 replace S := S.ext (d := 13) (v := bD (bv13 = true)) ((S.get 13 rfl).trans (vb hbv13.symm))
 refine sp S (la (ov fun S=>x_bd S [(0, bD (bv13 = true))] [bD (bv13 = true), .slice none 0 0])) ?_; clear S; intro a u S
 refine nbp S (x_allocz _ iZ47 rfl) ?_; clear S; intro a u b5 S
 refine ens S (la (stkw 2 rfl rfl rfl)) ?_; clear S; intro a u S
 refine rs0 ?_
 refine sp S (la (mv rfl)) ?_; clear S; intro a u S
 refine mk (E := intE) S (0 : Int) (n).toNat uT22 iZ3 rfl rfl (by omega) (by omega) (by omega) (by unfold maxLen; omega) (fun _ _ => by first | exact ⟨by omega, by omega⟩ | trivial | exact sl_nil) ?_; clear S; intro a u ad16 S
 have hrl16 : (List.replicate (n).toNat (0 : Int)).length = (n).toNat := List.length_replicate
 refine ens S (la (av rfl)) ?_; clear S; intro a u S
 refine wp_seq (rs0 ?_)
 refine sp S (la (mv rfl)) ?_; clear S; intro a u S
 refine cl S (gNext _ _ S.x T (S.M.pick [0] (by decide)) T_l (dn1 (js := [0]) (S.u 0 rfl)) (S.t 0 rfl) 4 ⟨by omega, by omega⟩) cB26 ?_
 rintro e u ⟨r_t18, rfl, hr_t18, tK, T0⟩; refine ⟨_, rfl, fun a s => ?_⟩
 replace S := S.k1 0 rfl s T0 tK; clear s T0 tK
 refine ens S (la (av rfl)) ?_; clear S; intro a u S
 refine wp_block ?_
 replace S := S.nr (slE chgE) 122
 refine lp7 (fun (r : Int) (rd_a : Option Addr) (rd_c : Nat) (rd : List (Sl Chg)) (now_a : Option Addr) (now_c : Nat) (now : List Int) => [(0, pT T 0), (1, iI n), (4, pT b4 0), (5, pT b5 0), (6, .slice now_a now.length now_c), (7, iI r)]) (fun (r : Int) (rd_a : Option Addr) (rd_c : Nat) (rd : List (Sl Chg)) (now_a : Option Addr) (now_c : Nat) (now : List Int) => [tpO 112 T T_l, blO b4 [.bool false, .slice none 0 0] 47, blO b5 [bD (bv13 = true), .slice rd_a rd.length rd_c] 47, rwO intE 3 w.heap.size now_a now_c now, rwO (slE chgE) 122 w.heap.size rd_a rd_c rd]) (fun (r : Int) (rd_a : Option Addr) (rd_c : Nat) (rd : List (Sl Chg)) (now_a : Option Addr) (now_c : Nat) (now : List Int) => (0 ≤ r ∧ r ≤ 3) ∧ (rd.length : Int) + r ≤ 3 ∧ PlnI bv13 n (rd.map fun l => l.xs) now ∧ ∀ x ∈ rd, 0 < x.xs.length) (fun (r : Int) (rd_a : Option Addr) (rd_c : Nat) (rd : List (Sl Chg)) (now_a : Option Addr) (now_c : Nat) (now : List Int) => r.toNat) S r_t18 none 0 ([]) ad16 ((n).toNat) (List.replicate (n).toNat (0 : Int)) (subM rfl) rfl ?_ ?_
 ·exact ⟨⟨by omega, by omega⟩, by simp; omega, PlnI.init _ n, fun x h => by cases h⟩
 clear S; intro r rd_a rd_c rd now_a now_c now a u S hR
 have rd_len := (S.row 4 rfl).len_le; simp only [maxLen] at rd_len
 have now_len := (S.row 3 rfl).len_le; simp only [maxLen] at now_len
 obtain ⟨⟨hr0, hr3⟩, hrl, hP, hne⟩ := hR
 refine wp_seq ?_
 refine rs S (tr (mv rfl)<|la (gtri rfl rfl)) ?_; clear S; intro a u S
 refine cd S rfl ?_ ?_
 ·intro hc0
  refine wp_skip (then_n (wp_seq (wp_block ?_)))
  refine rs S (la (av rfl)) ?_; clear S; intro a u S
  refine wp_seq ?_
  refine rs S (la (av rfl)) ?_; clear S; intro a u S
  refine wp_block ?_
  replace S := S.nr chgE 124
  refine lp8 (fun (d : Nat) (ls : Int) (l_a : Option Addr) (l_c : Nat) (l : List Chg) (cur_a : Option Addr) (cur_c : Nat) (cur : List Int) => [(0, pT T 0), (1, iI n), (4, pT b4 0), (5, pT b5 0), (6, .slice cur_a cur.length cur_c), (7, iI r), (19, iI r), (20, bD (0 < r)), (9, iN d), (8, .slice l_a l.length l_c)]) (fun (d : Nat) (ls : Int) (l_a : Option Addr) (l_c : Nat) (l : List Chg) (cur_a : Option Addr) (cur_c : Nat) (cur : List Int) => [tpO 112 T T_l, blO b4 [.bool false, .slice none 0 0] 47, blO b5 [bD (bv13 = true), .slice rd_a rd.length rd_c] 47, rwO intE 3 w.heap.size cur_a cur_c cur, rwO (slE chgE) 122 w.heap.size rd_a rd_c rd, rwO chgE 124 w.heap.size l_a l_c l]) (fun (d : Nat) (ls : Int) (l_a : Option Addr) (l_c : Nat) (l : List Chg) (cur_a : Option Addr) (cur_c : Nat) (cur : List Int) => (d : Int) ≤ n ∧ (-1 ≤ ls ∧ ls < d) ∧ (l.length : Int) ≤ d ∧ RndI bv13 n now l ls cur) (fun (d : Nat) (ls : Int) (l_a : Option Addr) (l_c : Nat) (l : List Chg) (cur_a : Option Addr) (cur_c : Nat) (cur : List Int) => (n - d).toNat) S 0 (-1) none 0 ([]) now_a now_c now (subM rfl) rfl ?_ ?_
  ·exact ⟨by omega, ⟨by omega, by omega⟩, by simp, RndI.init hP⟩
  clear S; intro d ls l_a l_c l cur_a cur_c cur a u S hR
  have l_len := (S.row 5 rfl).len_le; simp only [maxLen] at l_len
  have cur_len := (S.row 3 rfl).len_le; simp only [maxLen] at cur_len
  obtain ⟨hd, ⟨hla0, hla1⟩, hll, hI⟩ := hR
  have hcl2 := hI.1.1
  have hcu : ∀ k, 0 ≤ cur.getD k intE.dflt ∧ cur.getD k intE.dflt ≤ 3 := hI.1.2
  refine wp_seq ?_
  refine rs S (tr (mv rfl)<|tr (mv rfl)<|la (lssi rfl rfl)) ?_; clear S; intro a u S
  refine cd S rfl ?_ ?_
  ·intro hc1
   have hcd := hcu d
   refine wp_skip (then_n (wp_seq (wp_block (wp_seq (rs0 ?_)))))
   obtain ⟨hl10, hu10⟩ : inI64 (cur.getD d intE.dflt) := id ((S.row 3 rfl).wfi d (by omega))
   refine sp S (tr (mv rfl)<|tr (mv rfl)<|tr (ov fun S=>x_idx uT22 sZ3 (S.e rfl) (S.e rfl) d rfl (by omega) (row_off (S.row 3 rfl) (m := d) (by omega)))<|tr (ov fun S=>x_load sC3 (S.e rfl) (((S.row 3 rfl).latz (by first | decide | exact Nat.one_pos | exact Nat.succ_pos _)).cell d (by omega) 0 _ rfl))<|tr (eqli rfl rfl)<|la (mv rfl)) ?_; clear S; intro a u S
   refine (Classical.em ((cur.getD d intE.dflt) = 3)).elim (fun hs11 => ?_) (fun hs11 => ?_)
   ·replace S := S.ext (d := 33) (v := .bool true) ((S.get 33 rfl).trans (congrArg Value.bool (decide_eq_true hs11)))
    refine ens S (tr (goff 33 rfl)<|tr (goff 33 rfl)<|tr (goff 33 rfl)<|la (ov fun S=>x_pickt (S.e rfl) (S.e rfl))) ?_; clear S; intro a u S
    refine cdt S rfl ?_
    refine wp_exit (then_e (blk_e (then_n ?_)))
    refine rg S (tr (mv rfl)<|tr (addi ((d + 1 : Nat) : Int) rfl rfl (w_i64 (by omega)))<|la (av rfl)) ?_; clear S; intro a u S
    refine then_n ?_
    refine ⟨(d + 1), ls, l_a, l_c, l, cur_a, cur_c, cur, S.re (subM rfl) rfl rfl, ?_, ?_⟩
    ·first
     | exact ⟨by omega, ⟨by omega, by omega⟩, by omega, hI⟩
     | (refine ⟨by omega, ⟨by omega, by omega⟩, by rw [List.length_append, List.length_singleton]; omega, ?_⟩
        have hcd0 : cur.getD ((d : Int)).toNat 0 = cur.getD d intE.dflt := rfl
        exact RndI.step (d := (d : Int)) hI hla0 hla1 (by omega) (by rw [hcd0]; omega) (by omega) (fun q => by first | rfl | exact absurd hsg q))
    omega
   replace S := S.ext (d := 33) (v := .bool false) ((S.get 33 rfl).trans (congrArg Value.bool (decide_eq_false hs11)))
   refine sp S (la (gon 33 rfl fun S=>x_move (S.e rfl))) ?_; clear S; intro a u S
   refine strip S.s rfl rfl (gd := 33) rfl ?_
   refine cl S (gNext _ _ S.x T (S.M.pick [0] (by decide)) T_l (dn1 (js := [0]) (S.u 0 rfl)) (S.t 0 rfl) 2 ⟨by omega, by omega⟩) cB26 ?_
   rintro e u ⟨r_t35, rfl, hr_t35, tK, T0⟩; refine ⟨_, rfl, fun a s => ?_⟩
   replace S := S.k1 0 rfl s T0 tK; clear s T0 tK
   refine ens S (tr (gon 33 rfl fun S=>x_eql (S.e rfl) (S.e rfl))<|la (ov fun S=>x_pickf (S.e rfl) (S.e rfl))) ?_; clear S; intro a u S
   refine cd S rfl ?_ ?_
   ·intro hc2
    refine wp_exit (then_e (blk_e (then_n ?_)))
    refine rg S (tr (mv rfl)<|tr (addi ((d + 1 : Nat) : Int) rfl rfl (w_i64 (by omega)))<|la (av rfl)) ?_; clear S; intro a u S
    refine then_n ?_
    refine ⟨(d + 1), ls, l_a, l_c, l, cur_a, cur_c, cur, S.re (subM rfl) rfl rfl, ?_, ?_⟩
    ·first
     | exact ⟨by omega, ⟨by omega, by omega⟩, by omega, hI⟩
     | (refine ⟨by omega, ⟨by omega, by omega⟩, by rw [List.length_append, List.length_singleton]; omega, ?_⟩
        have hcd0 : cur.getD ((d : Int)).toNat 0 = cur.getD d intE.dflt := rfl
        exact RndI.step (d := (d : Int)) hI hla0 hla1 (by omega) (by rw [hcd0]; omega) (by omega) (fun q => by first | rfl | exact absurd hsg q))
    omega
   intro hc3
   refine wp_skip (then_n ?_)
   refine rs S (la (av rfl)) ?_; clear S; intro a u S
   refine wp_seq ?_
   refine rs S (tr (fldi 0 0 rfl uT47)<|la (ldk 2 sC4 rfl rfl rfl)) ?_; clear S; intro a u S
   refine cd S rfl ?_ ?_
   ·intro hc4
    have hsg := hc4
    replace S := S.l [(0, pT T 0), (1, iI n), (4, pT b4 0), (5, pT b5 0), (6, .slice cur_a cur.length cur_c), (7, iI r), (19, iI r), (20, bD (0 < r)), (9, iN d), (8, .slice l_a l.length l_c)] (subM rfl)
    refine dr (P := Try.prog) S 14 [one T] [(40, .is _), (41, .is _), (42, .is _), (43, .is _), (44, .is _), (45, .is _), (46, .is _), (47, .is _), (48, .is _), (49, .is _), (50, .is _), (51, .of (fun z w => ∃ (x51a : Int), z = iI x51a ∧ (0 ≤ x51a ∧ (x51a < (3 - (cur.getD d intE.dflt)) ∨ x51a = 0))) (fun v w w' c h => let ⟨x51a, hv, h0⟩ := h; ⟨x51a, hv, h0⟩)), (52, .of (fun z w => ∃ (x51a : Int), z = iI (((cur.getD d intE.dflt) + 1) + x51a) ∧ (0 ≤ x51a ∧ (x51a < (3 - (cur.getD d intE.dflt)) ∨ x51a = 0))) (fun v w w' c h => let ⟨x51a, hv, h0⟩ := h; ⟨x51a, hv, h0⟩)), (10, .of (fun z w => ∃ (x51a : Int), z = iI (((cur.getD d intE.dflt) + 1) + x51a) ∧ (0 ≤ x51a ∧ (x51a < (3 - (cur.getD d intE.dflt)) ∨ x51a = 0))) (fun v w w' c h => let ⟨x51a, hv, h0⟩ := h; ⟨x51a, hv, h0⟩))] [[], [], [40, 41], [42], [43], [], [], [], [46, 47], [48], [49], [45, 50], [44, 51], [52]] [10] _ ⟨qd (mv rfl), qd (mv rfl), qd (ov fun S=>x_idx uT22 sZ3 (S.e rfl) (S.e rfl) d rfl (by omega) (row_off (S.row 3 rfl) (m := d) (by omega))), qd (ov fun S=>x_load sC3 (S.e rfl) (((S.row 3 rfl).latz (by first | decide | exact Nat.one_pos | exact Nat.succ_pos _)).cell d (by omega) 0 _ rfl)), qd (addi ((cur.getD d intE.dflt) + 1) rfl rfl (w_i64 (by omega))), qd (mv rfl), qd (mv rfl), qd (mv rfl), qd (ov fun S=>x_idx uT22 sZ3 (S.e rfl) (S.e rfl) d rfl (by omega) (row_off (S.row 3 rfl) (m := d) (by omega))), qd (ov fun S=>x_load sC3 (S.e rfl) (((S.row 3 rfl).latz (by first | decide | exact Nat.one_pos | exact Nat.succ_pos _)).cell d (by omega) 0 _ rfl)), qd (subi (3 - (cur.getD d intE.dflt)) rfl rfl (w_i64 (by omega))), ?_, ?_, ?_, trivial⟩ ?_
    ·skip
     intro a u S G hE
     refine hcl S (gNext _ _ S.x T (S.M.pick [0] (by decide)) T_l (dn1 (js := [0]) (S.u 0 rfl)) (S.t 0 rfl) (3 - (cur.getD d intE.dflt)) ⟨by omega, by omega⟩) cB26 ?_
     rintro e w2 ⟨r_h51, rfl, hr_h51, tK, T0⟩; refine ⟨_, rfl, (show ∃ _, _ from ?_), T0.ch, (S.k1 0 rfl S.s T0 tK).m⟩
     exact ⟨r_h51, rfl, hr_h51⟩
    ·skip
     intro a u S G hE
     obtain ⟨e51, -⟩ := hE
     have M0 := S.m
     obtain ⟨x51_16, e51, hr16⟩ := e51
     replace S := S.ext e51
     exact hvl 52 S M0 (v := iI (((cur.getD d intE.dflt) + 1) + x51_16)) (x_add (S.e rfl) (S.e rfl) (r := (((cur.getD d intE.dflt) + 1) + x51_16)) (w_i64 (by omega))) (show ∃ _, _ from ⟨x51_16, rfl, hr16⟩)
    ·skip
     intro a u S G hE
     obtain ⟨e52, -⟩ := hE
     have M0 := S.m
     obtain ⟨x51_17, e52, hr17⟩ := e52
     replace S := S.ext e52
     exact hvl 10 S M0 (v := iI (((cur.getD d intE.dflt) + 1) + x51_17)) (x_assign (S.e rfl)) (show ∃ _, _ from ⟨x51_17, rfl, hr17⟩)
    clear S; intro a u S G hE
    obtain ⟨e10, -⟩ := hE
    obtain ⟨x51_18, e10, hr18⟩ := e10
    replace S := S.ext e10
    clear e10
    refine ent (rs0 ?_)
    refine sp S (tr (mv rfl)<|tr (mv rfl)<|tr (mv rfl)<|la (ov fun S=>x_idx uT22 sZ3 (S.e rfl) (S.e rfl) d rfl (by omega) (row_off (S.row 3 rfl) (m := d) (by omega)))) ?_; clear S; intro a u S
    refine sp S (la (str (E := intE) 3 (by kernel_rfl) rfl rfl rfl d 0 (by omega) (by first | decide | exact Nat.one_pos | exact Nat.succ_pos _) (((cur.getD d intE.dflt) + 1) + x51_18) (fun S=>(show inI64 (((cur.getD d intE.dflt) + 1) + x51_18) from ⟨by omega, by omega⟩)) rfl (by first | rfl | (show _ = _ * 1 + 0; omega) | (simp [intE]; omega) | simp [intE]) rfl)) ?_; clear S; intro a u S
    have hls20 : (cur.set d (((cur.getD d intE.dflt) + 1) + x51_18)).length = cur.length := by simp
    refine ent (r0 ?_)
    refine sp S (tr (mv rfl)<|tr (mv rfl)<|tr (mv rfl)<|la (ov fun S=>x_bd S [(0, iN d), (1, iI (((cur.getD d intE.dflt) + 1) + x51_18))] [iN d, iI (((cur.getD d intE.dflt) + 1) + x51_18)])) ?_; clear S; intro a u S
    refine nbs chgE S [(⟨((d : Nat) : Int), (((cur.getD d intE.dflt) + 1) + x51_18)⟩ : Chg)] (x_bs S [(0, .agg #[iN d, iI (((cur.getD d intE.dflt) + 1) + x51_18)])] uT122 iZ124) (fun x hx => by simp only [List.mem_cons, List.not_mem_nil, or_false] at hx; rw [hx]; exact (show chgE.wf _ _ (⟨((d : Nat) : Int), (((cur.getD d intE.dflt) + 1) + x51_18)⟩ : Chg) from ⟨(show inI64 ((d : Nat) : Int) from ⟨by omega, by omega⟩), (show inI64 (((cur.getD d intE.dflt) + 1) + x51_18) from ⟨by omega, by omega⟩)⟩)) ?_; clear S; intro a u b61 S
    refine ap (E := chgE) (ys := [(⟨((d : Nat) : Int), (((cur.getD d intE.dflt) + 1) + x51_18)⟩ : Chg)]) S 5 rfl uT122 iZ124 rfl rfl (show LAt chgE _ _ (some ⟨b61, 0, none⟩) ([(⟨((d : Nat) : Int), (((cur.getD d intE.dflt) + 1) + x51_18)⟩ : Chg)]) from ((S.u 1 rfl)).1) ((S.u 1 rfl)).2.2 (LAt.mem (show LAt chgE _ _ (some ⟨b61, 0, none⟩) ([(⟨((d : Nat) : Int), (((cur.getD d intE.dflt) + 1) + x51_18)⟩ : Chg)]) from ((S.u 1 rfl)).1)) ⟨by unfold maxLen; (try simp only [List.length_cons, List.length_nil, List.length_append, List.length_map]); omega, by (try simp only [List.length_cons, List.length_nil, List.length_append, List.length_map]); omega⟩ ?_; clear S; intro a u ad62 cap62 S
    refine en S (la (av rfl)) ?_; clear S; intro a u S
    refine blk_n (then_n ?_)
    refine rg S (tr (mv rfl)<|tr (addi ((d + 1 : Nat) : Int) rfl rfl (w_i64 (by omega)))<|la (av rfl)) ?_; clear S; intro a u S
    refine then_n ?_
    refine ⟨(d + 1), (d : Int), ad62, cap62, (l ++ [(⟨((d : Nat) : Int), (((cur.getD d intE.dflt) + 1) + x51_18)⟩ : Chg)]), cur_a, cur_c, (cur.set d (((cur.getD d intE.dflt) + 1) + x51_18)), S.re ⟨rfl, rfl, rfl, rfl, (by first | rfl | (simp only [List.length_set]; rfl)), rfl, rfl, rfl, rfl, (by first | rfl | (simp only [List.length_set]; rfl)), trivial⟩ rfl rfl, ?_, ?_⟩
    ·first
     | exact ⟨by omega, ⟨by omega, by omega⟩, by omega, hI⟩
     | (refine ⟨by omega, ⟨by omega, by omega⟩, by rw [List.length_append, List.length_singleton]; omega, ?_⟩
        have hcd0 : cur.getD ((d : Int)).toNat 0 = cur.getD d intE.dflt := rfl
        exact RndI.step (d := (d : Int)) hI hla0 hla1 (by omega) (by rw [hcd0]; omega) (by omega) (fun q => by first | rfl | exact absurd hsg q))
    omega
   intro hc5
   have hsg := hc5
   refine wp_skip (then_n (rs0 ?_))
   refine sp S (tr (mv rfl)<|tr (mv rfl)<|tr (mv rfl)<|la (ov fun S=>x_idx uT22 sZ3 (S.e rfl) (S.e rfl) d rfl (by omega) (row_off (S.row 3 rfl) (m := d) (by omega)))) ?_; clear S; intro a u S
   refine sp S (la (str (E := intE) 3 (by kernel_rfl) rfl rfl rfl d 0 (by omega) (by first | decide | exact Nat.one_pos | exact Nat.succ_pos _) 3 (fun S=>(show inI64 3 from ⟨by omega, by omega⟩)) rfl (by first | rfl | (show _ = _ * 1 + 0; omega) | (simp [intE]; omega) | simp [intE]) rfl)) ?_; clear S; intro a u S
   have hls24 : (cur.set d 3).length = cur.length := by simp
   refine ent (r0 ?_)
   refine sp S (tr (mv rfl)<|tr (mv rfl)<|tr (mv rfl)<|la (ov fun S=>x_bd S [(0, iN d), (1, iI 3)] [iN d, iI 3])) ?_; clear S; intro a u S
   refine nbs chgE S [(⟨((d : Nat) : Int), 3⟩ : Chg)] (x_bs S [(0, .agg #[iN d, iI 3])] uT122 iZ124) (fun x hx => by simp only [List.mem_cons, List.not_mem_nil, or_false] at hx; rw [hx]; exact (show chgE.wf _ _ (⟨((d : Nat) : Int), 3⟩ : Chg) from ⟨(show inI64 ((d : Nat) : Int) from ⟨by omega, by omega⟩), (show inI64 3 from ⟨by omega, by omega⟩)⟩)) ?_; clear S; intro a u b61 S
   refine ap (E := chgE) (ys := [(⟨((d : Nat) : Int), 3⟩ : Chg)]) S 5 rfl uT122 iZ124 rfl rfl (show LAt chgE _ _ (some ⟨b61, 0, none⟩) ([(⟨((d : Nat) : Int), 3⟩ : Chg)]) from ((S.u 1 rfl)).1) ((S.u 1 rfl)).2.2 (LAt.mem (show LAt chgE _ _ (some ⟨b61, 0, none⟩) ([(⟨((d : Nat) : Int), 3⟩ : Chg)]) from ((S.u 1 rfl)).1)) ⟨by unfold maxLen; (try simp only [List.length_cons, List.length_nil, List.length_append, List.length_map]); omega, by (try simp only [List.length_cons, List.length_nil, List.length_append, List.length_map]); omega⟩ ?_; clear S; intro a u ad62 cap62 S
   refine en S (la (av rfl)) ?_; clear S; intro a u S
   refine blk_n (then_n ?_)
   refine rg S (tr (mv rfl)<|tr (addi ((d + 1 : Nat) : Int) rfl rfl (w_i64 (by omega)))<|la (av rfl)) ?_; clear S; intro a u S
   refine then_n ?_
   refine ⟨(d + 1), (d : Int), ad62, cap62, (l ++ [(⟨((d : Nat) : Int), 3⟩ : Chg)]), cur_a, cur_c, (cur.set d 3), S.re ⟨rfl, rfl, rfl, rfl, (by first | rfl | (simp only [List.length_set]; rfl)), rfl, rfl, rfl, rfl, (by first | rfl | (simp only [List.length_set]; rfl)), trivial⟩ rfl rfl, ?_, ?_⟩
   ·first
    | exact ⟨by omega, ⟨by omega, by omega⟩, by omega, hI⟩
    | (refine ⟨by omega, ⟨by omega, by omega⟩, by rw [List.length_append, List.length_singleton]; omega, ?_⟩
       have hcd0 : cur.getD ((d : Int)).toNat 0 = cur.getD d intE.dflt := rfl
       exact RndI.step (d := (d : Int)) hI hla0 hla1 (by omega) (by rw [hcd0]; omega) (by omega) (fun q => by first | rfl | exact absurd hsg q))
   omega
  intro hc6
  refine wp_exit (then_e (then_e (blk_e (then_n ?_))))
  refine rs S (tr (mv rfl)<|tr (leni uT122 rfl)<|la (gtri rfl rfl)) ?_; clear S; intro a u S
  refine cd S rfl ?_ ?_
  ·intro hc7
   refine r0 ?_
   refine sp S (tr (fldi 0 1 rfl uT47)<|tr (ldk 2 sC45 rfl rfl rfl)<|la (mv rfl)) ?_; clear S; intro a u S
   replace S := S.fz 5 rfl (by show 0 < chgE.n; decide)
   refine nbs (slE chgE) S [(Sl.mk l_a l_c l)] (x_bs S [(0, .slice l_a l.length l_c)] uT45 iZ122) (fun x hx => by simp only [List.mem_cons, List.not_mem_nil, or_false] at hx; rw [hx]; exact (show (slE chgE).wf _ _ (Sl.mk l_a l_c l) from (S.u 1 rfl))) ?_; clear S; intro a u b69 S
   refine ap (E := (slE chgE)) (ys := [(Sl.mk l_a l_c l)]) S 4 rfl uT45 iZ122 rfl rfl (show LAt (slE chgE) _ _ (some ⟨b69, 0, none⟩) ([(Sl.mk l_a l_c l)]) from ((S.u 2 rfl)).1) ((S.u 2 rfl)).2.2 (LAt.mem (show LAt (slE chgE) _ _ (some ⟨b69, 0, none⟩) ([(Sl.mk l_a l_c l)]) from ((S.u 2 rfl)).1)) ⟨by unfold maxLen; (try simp only [List.length_cons, List.length_nil, List.length_append, List.length_map]); omega, by (try simp only [List.length_cons, List.length_nil, List.length_append, List.length_map]); omega⟩ ?_; clear S; intro a u ad70 cap70 S
   refine en S (tr (fldi 0 1 rfl uT47)<|la (stk 2 rfl rfl rfl)) ?_; clear S; intro a u S
   refine blk_n (then_n ?_)
   refine rg S (tr (mv rfl)<|tr (subi (r - 1) rfl rfl (w_i64 (by omega)))<|la (av rfl)) ?_; clear S; intro a u S
   refine then_n ?_
   refine ⟨(r - 1), ad70, cap70, (rd ++ [(Sl.mk l_a l_c l)]), cur_a, cur_c, cur, S.re (subM rfl) rfl rfl, ?_, ?_⟩
   ·first
    | (have hl0 : l = [] := List.eq_nil_of_length_eq_zero (by omega)
       subst hl0
       have e := hI.nil
       subst e
       exact ⟨⟨by omega, by omega⟩, by omega, hP, hne⟩)
    | (refine ⟨⟨by omega, by omega⟩, by rw [List.length_append, List.length_singleton]; omega, ?_, fun x hx => ?_⟩
       ·rw [List.map_append]
        exact hP.step (l := l) hI (show l.length ≠ 0 by omega)
       rcases List.mem_append.1 hx with q | q
       ·exact hne x q
       obtain rfl := List.mem_singleton.1 q
       show 0 < l.length
       omega)
   omega
  intro hc8
  refine wp_skip (blk_n (then_n ?_))
  refine rg S (tr (mv rfl)<|tr (subi (r - 1) rfl rfl (w_i64 (by omega)))<|la (av rfl)) ?_; clear S; intro a u S
  refine then_n ?_
  refine ⟨(r - 1), rd_a, rd_c, rd, cur_a, cur_c, cur, S.re (subM rfl) rfl rfl, ?_, ?_⟩
  ·first
   | (have hl0 : l = [] := List.eq_nil_of_length_eq_zero (by omega)
      subst hl0
      have e := hI.nil
      subst e
      exact ⟨⟨by omega, by omega⟩, by omega, hP, hne⟩)
   | (refine ⟨⟨by omega, by omega⟩, by rw [List.length_append, List.length_singleton]; omega, ?_, fun x hx => ?_⟩
      ·rw [List.map_append]
       exact hP.step (l := l) hI (show l.length ≠ 0 by omega)
      rcases List.mem_append.1 hx with q | q
      ·exact hne x q
      obtain rfl := List.mem_singleton.1 q
      show 0 < l.length
      omega)
  omega
 intro hc9
 refine wp_exit (then_e (then_e (blk_e (then_n ?_))))
 refine rs S (tr (ldkw 2 rfl rfl wD47)<|la (stkw 1 rfl rfl rfl)) ?_; clear S; intro a u S
 refine wp_ret ?_
 replace S := S.fz 4 rfl
 refine retcw rfl S.s rfl [bD (bv13 = true), .slice rd_a rd.length rd_c] wD47 (fun j v hv => by rw [Nat.zero_add]; exact (S.k 1 rfl).cell hv) ?_
 replace S := S.pk [0] (os' := [tpO 112 T T_l])
 refine ⟨(⟨bv13, (Sl.mk rd_a rd_c rd)⟩ : Plan), rfl, ⟨trivial, (S.u 1 rfl)⟩, ?_, (S.t 0 rfl), S.m.c⟩
 exact ⟨⟨PlnI.some hP hn, by show rd.length ≤ 16; omega⟩, by show rd.length ≤ 3; omega, hne⟩
end Go.Proofs.Ytobggnpnochnnaa.V
namespace Go.Proofs.Ytobggnpnochnnaa.V
open Go.RowKit Go.Proofs.Ytobggnpnochnnaa
set_option linter.unusedVariables false
set_option linter.unusedSimpArgs false
set_option maxHeartbeats 2000000 in
set_option maxRecDepth 20000 in
theorem rReplay (w : World) (F : Nat → Prop) (hF : Old F w) (M : MS [] w) (p : Plan) (p_w : planE.wf (Fr F []) w.heap p) (n : Int) (n_h : inI64 n) (l : Sl Rec) (l_w : (slE recE).wf (Fr F []) w.heap l) (hb : p.rounds.xs.length ≤ 100) :
 Calls Try.prog 35 #[.agg (planE.cells p).toArray, iI n, sV l] w fun e w' => ∃ (r0 : Ctrl), e = .returned (.tuple #[.agg (ctrlE.cells r0).toArray, iI (replE p n l.xs)]) ∧ ctrlE.wf (Fr F []) w'.heap r0 ∧ ctlR r0 (replC p n l.xs) ∧ Tr [] w [] w' := by
 have : p.rounds.xs.length ≤ 9223372036854775807 := (p_w.2).1.len
 obtain ⟨n_hl, n_hu⟩ : inI64 n := id n_h
 have : l.xs.length ≤ 9223372036854775807 := (l_w).1.len
 refine go Try.func35 rfl 58 rfl [wfF planE p, wfF (slE recE) l] [] hF M ⟨p_w, l_w, trivial⟩ trivial ?_
 intro a S
 have hD : ∀ k, In ([] : List BS) k → ¬ F k := fun _ h => h.elim
 refine rs0 ?_
 refine nbp S (x_box _ (S.e rfl) rfl) ?_; clear S; intro a u b3 S
 refine nbp S (x_allocz _ iZ57 rfl) ?_; clear S; intro a u b6 S
 refine ens S (la (av rfl)) ?_; clear S; intro a u S
 refine rs0 ?_
 refine sp S (tr (ldkw 0 rfl rfl wD47)<|la (mv rfl)) ?_; clear S; intro a u S
 refine cl S (rNewB _ _ (S.xx (ow []))  (S.mF (ks := [blO b3 (planE.cells p) 47, blO b6 [iI 0, .bool false, iI 0, .slice none 0 0, .slice none 0 0, .slice none 0 0] 57]) (fs := [])) (S.nfF (ks := [blO b3 (planE.cells p) 47, blO b6 [iI 0, .bool false, iI 0, .slice none 0 0, .slice none 0 0, .slice none 0 0] 57]) (fs := []) hD) p (dnF (ks := [blO b3 (planE.cells p) 47, blO b6 [iI 0, .bool false, iI 0, .slice none 0 0, .slice none 0 0, .slice none 0 0] 57]) (fs := []) (S.u 0 rfl)) n n_h (by first | omega | (dsimp only; omega))) cB74 ?_
 rintro e u ⟨q_t15, ra_t151, rc_t151, rfl, qK_t15, qB_t15, R_t151, hr_t15, T0⟩; refine ⟨_, rfl, fun a s => ?_⟩
 have S2 := S.kF (ks := [blO b3 (planE.cells p) 47, blO b6 [iI 0, .bool false, iI 0, .slice none 0 0, .slice none 0 0, .slice none 0 0] 57]) (fs := []) [bnO (brQ q_t15), rwO intE 3 0 ra_t151 rc_t151 (newS p n)] s T0 ⟨qB_t15, ⟨R_t151.b0.own, R_t151.wf⟩, trivial⟩ ⟨(mo_bn (mo_brQ _)), mo_rw, trivial⟩
 replace S2 := (show St _ _ _ _ _ _ [blO b3 (planE.cells p) 47, blO b6 [iI 0, .bool false, iI 0, .slice none 0 0, .slice none 0 0, .slice none 0 0] 57, bnO (brQ q_t15), rwO intE 3 0 ra_t151 rc_t151 (newS p n)] _ _ from S2)
 clear S; have S := S2; clear S2 s T0 qB_t15 R_t151
 rcases q_t15 with _ | ⟨B_t15, x_t15⟩
 ·skip
  replace S := S.pk [0, 1, 3] (os' := [blO b3 (planE.cells p) 47, blO b6 [iI 0, .bool false, iI 0, .slice none 0 0, .slice none 0 0, .slice none 0 0] 57, rwO intE 3 0 ra_t151 rc_t151 (newS p n)])
  replace S := S.l [(0, .agg (planE.cells p).toArray), (1, iI n), (2, sV l), (3, pT b3 0), (6, pT b6 0), (7, iI 0), (13, .agg (planE.cells p).toArray), (14, iI n), (15, .tuple #[.pointer none, .slice ra_t151 ((newS p n).length) rc_t151, .bool false])] (subM rfl)
  have hng : ¬ ((statesP p.staged (rdsP p) n).isSome = true ∧ p.rounds.xs.length ≤ 16) := fun h => (by have := hr_t15.1.2 h; cases this)
  refine ens S (tr (mv rfl)<|tr (exi rfl rfl)<|tr (exi rfl rfl)<|tr (exi rfl rfl)<|tr (av rfl)<|tr (av rfl)<|la (av rfl)) ?_; clear S; intro a u S
  refine wp_seq ?_
  refine rs S (tr (mv rfl)<|la (ov fun S=>x_not (S.e rfl))) ?_; clear S; intro a u S
  refine cdt S rfl ?_
  refine rs S (tr (ov fun S=>x_bd S [] [iI 0, .bool false, iI 0, .slice none 0 0, .slice none 0 0, .slice none 0 0])<|tr (stkw 1 rfl rfl rfl)<|la (av rfl)) ?_; clear S; intro a u S
  refine wp_ret (then_r ?_)
  refine retcw2 rfl S.s rfl rfl (S.k 1 rfl).all wD57 ?_
  replace S := S.pk []
  refine ⟨(⟨0, false, 0, (Sl.mk none 0 ([])), (Sl.mk none 0 ([])), (Sl.mk none 0 ([]))⟩ : Ctrl), (r2 rfl (vi ?_)), ⟨(show inI64 0 from ⟨by omega, by omega⟩), trivial, (show inI64 0 from ⟨by omega, by omega⟩), sl_nil, sl_nil, sl_nil⟩, ?_, S.m.c⟩
  ·have e : replE p n l.xs = 1 := by unfold replE; rw [if_pos hng]
   exact e.symm
  have e : replE p n l.xs = 1 := by unfold replE; rw [if_pos hng]
  rw [replC_z (by rw [e]; decide)]
  exact ⟨rfl, rfl, rfl, rfl, rfl, rfl⟩
 skip
 replace S := (show St _ _ _ _ _ _ [blO b3 (planE.cells p) 47, blO b6 [iI 0, .bool false, iI 0, .slice none 0 0, .slice none 0 0, .slice none 0 0] 57, bnO (brF B_t15 x_t15), rwO intE 3 0 ra_t151 rc_t151 (newS p n)] _ _ from S)
 replace S := S.l [(0, .agg (planE.cells p).toArray), (1, iI n), (2, sV l), (3, pT b3 0), (6, pT b6 0), (7, iI 0), (13, .agg (planE.cells p).toArray), (14, iI n), (15, .tuple #[pT B_t15 0, .slice ra_t151 ((newS p n).length) rc_t151, .bool true])] (subM rfl)
 obtain ⟨hg, hx⟩ := hr_t15
 have hgd : (statesP p.staged (rdsP p) n).isSome = true ∧ p.rounds.xs.length ≤ 16 := hg.1 rfl
 have hx0 := hx _ rfl
 have hMA : MachAt (rdsP p) (stsD (statesP p.staged (rdsP p) n)) n (mB x_t15) [] := by
  obtain ⟨sts, hst⟩ := Option.isSome_iff_exists.1 hgd.1
  obtain ⟨hn, hPO, hne⟩ := statesP_ok hst (by rw [rdsP_len]; exact hgd.2)
  have hs : stsD (statesP p.staged (rdsP p) n) = sts := by rw [hst]; rfl
  have hc := (startC_new hPO).1.tg
  rw [show ((n.toNat : Nat) : Int) = n from by omega] at hc
  have e := hx0.2.2.2
  have ht : (mB x_t15).target.xs.length = n.toNat := by
   show (cB x_t15).target.length = _
   rw [e, hs]
   exact hc
  exact ⟨hx0.1, Nat.zero_le _, by omega, hx0.2.1, hx0.2.2.1, by show noS (cB x_t15) = _; rw [e]; rfl, fun r h => by cases h⟩
 refine ens S (tr (mv rfl)<|tr (exi rfl rfl)<|tr (exi rfl rfl)<|tr (exi rfl rfl)<|tr (av rfl)<|tr (av rfl)<|la (av rfl)) ?_; clear S; intro a u S
 refine wp_seq ?_
 refine rs S (tr (mv rfl)<|la (ov fun S=>x_not (S.e rfl))) ?_; clear S; intro a u S
 refine cdf S rfl ?_
 refine wp_skip (then_n (wp_seq ?_))
 have hn7 : l.xs.length ≤ 9223372036854775807 := ((S.u 1 rfl)).1.len
 refine rs S (tr (mv rfl)<|tr (leni uT32 rfl)<|la (gtri rfl rfl)) ?_; clear S; intro a u S
 refine cd S rfl ?_ ?_
 ·intro hc0
  refine rs S (tr (ov fun S=>x_bd S [] [iI 0, .bool false, iI 0, .slice none 0 0, .slice none 0 0, .slice none 0 0])<|tr (stkw 1 rfl rfl rfl)<|la (av rfl)) ?_; clear S; intro a u S
  refine wp_ret (then_r ?_)
  refine retcw2 rfl S.s rfl rfl (S.k 1 rfl).all wD57 ?_
  replace S := S.pk []
  refine ⟨(⟨0, false, 0, (Sl.mk none 0 ([])), (Sl.mk none 0 ([])), (Sl.mk none 0 ([]))⟩ : Ctrl), (r2 rfl (vi ?_)), ⟨(show inI64 0 from ⟨by omega, by omega⟩), trivial, (show inI64 0 from ⟨by omega, by omega⟩), sl_nil, sl_nil, sl_nil⟩, ?_, S.m.c⟩
  ·have e : replE p n l.xs = 3 := by unfold replE; rw [if_neg (fun h => h hgd), if_pos (by omega)]
   exact e.symm
  have e : replE p n l.xs = 3 := by unfold replE; rw [if_neg (fun h => h hgd), if_pos (by omega)]
  rw [replC_z (by rw [e]; decide)]
  exact ⟨rfl, rfl, rfl, rfl, rfl, rfl⟩
 intro hc1
 refine wp_skip (then_n (wp_seq ?_))
 refine rs S (la (av rfl)) ?_; clear S; intro a u S
 refine wp_block ?_
 refine lp2 (fun (k : Nat) (bj : Brn) => [(1, iI n), (2, sV l), (6, pT b6 0), (8, pT B_t15 0), (11, iN k)]) (fun (k : Nat) (bj : Brn) => [blO b3 (planE.cells p) 47, blO b6 [iI 0, .bool false, iI 0, .slice none 0 0, .slice none 0 0, .slice none 0 0] 57, bnO (brF B_t15 bj), rwO intE 3 0 ra_t151 rc_t151 (newS p n)]) (fun (k : Nat) (bj : Brn) => brK bj ∧ (k ≤ l.xs.length ∧ MachAt (rdsP p) (stsD (statesP p.staged (rdsP p) n)) n (mB bj) (l.xs.take k))) (fun (k : Nat) (bj : Brn) => l.xs.length - k) S 0 x_t15 (subM rfl) rfl ?_ ?_
 ·refine ⟨qK_t15, ?_⟩
  exact ⟨Nat.zero_le _, hMA⟩
 clear S; intro k bj a u S hR
 obtain ⟨hk_bj, hR⟩ := hR
 obtain ⟨hk, hA⟩ := hR
 have hOK : BrOK bj := hA.ok
 have htg : (bj.target.xs.length : Int) = n := hA.tg
 refine wp_seq ?_
 refine rs S (tr (mv rfl)<|tr (mv rfl)<|tr (leni uT32 rfl)<|la (lssi rfl rfl)) ?_; clear S; intro a u S
 refine cd S rfl ?_ ?_
 ·intro hc2
  refine wp_skip (then_n (wp_seq (wp_block (wp_seq ?_))))
  obtain ⟨hl12, hu12⟩ : inI64 ((l.xs.getD k recE.dflt).kind) := id ((((S.u 1 rfl)).1.wf k (by omega)).1)
  obtain ⟨hl13, hu13⟩ : inI64 ((l.xs.getD k recE.dflt).dev) := id ((((S.u 1 rfl)).1.wf k (by omega)).2.1)
  obtain ⟨hl14, hu14⟩ : inI64 ((l.xs.getD k recE.dflt).inc) := id ((((S.u 1 rfl)).1.wf k (by omega)).2.2.1)
  obtain ⟨hl15, hu15⟩ : inI64 ((l.xs.getD k recE.dflt).seq) := id ((((S.u 1 rfl)).1.wf k (by omega)).2.2.2)
  refine rs S (tr (mv rfl)<|tr (mv rfl)<|tr (idxi uT32 sZ24 rfl rfl k rfl (by omega) (((S.u 1 rfl)).1.adr (i := k) (by omega)))<|tr (ov fun S=>x_ldw (S.e rfl) (((S.u 1 rfl)).1.wcell k (by omega) _ rfl _ rfl) wD24)<|tr (oc (fun S=>rValid _ _ S.x (.nil _) (l.xs.getD k recE.dflt) (dn0 (((S.u 1 rfl)).1.wf k (by omega)))) cB64)<|tr (noti rfl)<|tr (mv rfl)<|tr (og 38 rfl gf fun S hg=>x_move (S.e rfl))<|tr (og 38 rfl gf fun S hg=>x_move (S.e rfl))<|tr (og 38 rfl gf fun S hg=>x_idx uT32 sZ24 (S.p rfl hg) (S.p rfl hg) k rfl (by omega) (((S.u 1 rfl)).1.adr (i := k) (by omega)))<|tr (og 38 rfl gf fun S hg=>xf (off l.a + k * 4) 1 uT24 (S.p rfl hg))<|tr (og 38 rfl gf fun S hg=>x_load sC3 (S.p rfl hg) (((S.u 1 rfl)).1.cell k (by omega) 1 _ rfl))<|tr (og 38 rfl gf fun S hg=>x_move (S.e rfl))<|tr (og 38 rfl gf fun S hg=>x_geq (S.p rfl hg) (S.p rfl hg))<|la (ori rfl rfl rfl)) ?_; clear S; intro a u S
  refine cd S rfl ?_ ?_
  ·intro hc3
   refine rs S (tr (ov fun S=>x_bd S [] [iI 0, .bool false, iI 0, .slice none 0 0, .slice none 0 0, .slice none 0 0])<|tr (stkw 1 rfl rfl rfl)<|la (av rfl)) ?_; clear S; intro a u S
   refine wp_ret (then_r (blk_r (then_r (then_r (blk_r (then_r ?_))))))
   refine retcw2 rfl S.s rfl rfl (S.k 1 rfl).all wD57 ?_
   replace S := S.pk []
   refine ⟨(⟨0, false, 0, (Sl.mk none 0 ([])), (Sl.mk none 0 ([])), (Sl.mk none 0 ([]))⟩ : Ctrl), (r2 rfl (vi ?_)), ⟨(show inI64 0 from ⟨by omega, by omega⟩), trivial, (show inI64 0 from ⟨by omega, by omega⟩), sl_nil, sl_nil, sl_nil⟩, ?_, S.m.c⟩
   ·have e : replE p n l.xs = 1 := by unfold replE; rw [if_neg (fun h => h hgd), if_neg (by omega), if_neg (fun h => by have := h _ (getD_mem (d := recE.dflt) (i := k) (by omega)); rcases hc3 with q | q; exact q this.1; omega)]
    exact e.symm
   have e : replE p n l.xs = 1 := by unfold replE; rw [if_neg (fun h => h hgd), if_neg (by omega), if_neg (fun h => by have := h _ (getD_mem (d := recE.dflt) (i := k) (by omega)); rcases hc3 with q | q; exact q this.1; omega)]
   rw [replC_z (by rw [e]; decide)]
   exact ⟨rfl, rfl, rfl, rfl, rfl, rfl⟩
  intro hc4
  obtain ⟨hv0, hdv0⟩ := not_or.1 hc4
  have hv := Classical.not_not.1 hv0
  have hv2 := hv
  unfold recOK at hv2
  refine wp_skip (then_n (r0 ?_))
  refine sp S (tr (mv rfl)<|tr (mv rfl)<|tr (mv rfl)<|tr (idxi uT32 sZ24 rfl rfl k rfl (by omega) (((S.u 1 rfl)).1.adr (i := k) (by omega)))<|la (ov fun S=>x_ldw (S.e rfl) (((S.u 1 rfl)).1.wcell k (by omega) _ rfl _ rfl) wD24)) ?_; clear S; intro a u S
  replace S := S.pk [0, 1, 3, 2] (os' := [blO b3 (planE.cells p) 47, blO b6 [iI 0, .bool false, iI 0, .slice none 0 0, .slice none 0 0, .slice none 0 0] 57, rwO intE 3 0 ra_t151 rc_t151 (newS p n), bnO (brF B_t15 bj)])
  refine cl S (rStep _ _ (S.xx (ow [bnO (brF B_t15 bj)])) B_t15 bj (S.mF (ks := [blO b3 (planE.cells p) 47, blO b6 [iI 0, .bool false, iI 0, .slice none 0 0, .slice none 0 0, .slice none 0 0] 57, rwO intE 3 0 ra_t151 rc_t151 (newS p n)]) (fs := [bnO (brF B_t15 bj)])) (S.nfF (ks := [blO b3 (planE.cells p) 47, blO b6 [iI 0, .bool false, iI 0, .slice none 0 0, .slice none 0 0, .slice none 0 0] 57, rwO intE 3 0 ra_t151 rc_t151 (newS p n)]) (fs := [bnO (brF B_t15 bj)]) hD) hk_bj (S.dF (ks := [blO b3 (planE.cells p) 47, blO b6 [iI 0, .bool false, iI 0, .slice none 0 0, .slice none 0 0, .slice none 0 0] 57, rwO intE 3 0 ra_t151 rc_t151 (newS p n)]) (fs := [bnO (brF B_t15 bj)]) 0 rfl (mo_bn (mo_br _ _))) (l.xs.getD k recE.dflt) (dnF (ks := [blO b3 (planE.cells p) 47, blO b6 [iI 0, .bool false, iI 0, .slice none 0 0, .slice none 0 0, .slice none 0 0] 57, rwO intE 3 0 ra_t151 rc_t151 (newS p n)]) (fs := [bnO (brF B_t15 bj)]) (((S.u 1 rfl)).1.wf k (by omega))) (⟨by first | assumption | exact hOK, by first | omega | assumption, by first | omega | assumption⟩)) cB75 ?_
  rintro e u ⟨b_t53, rfl, hk_b_t53, hK_b_t53, hq_b_t53, T0⟩; refine ⟨_, rfl, fun a s => ?_⟩
  have S2 := S.kF (ks := [blO b3 (planE.cells p) 47, blO b6 [iI 0, .bool false, iI 0, .slice none 0 0, .slice none 0 0, .slice none 0 0] 57, rwO intE 3 0 ra_t151 rc_t151 (newS p n)]) (fs := [bnO (brF B_t15 bj)]) [bnO (brF B_t15 b_t53)] s T0 ⟨hK_b_t53, trivial⟩ ⟨(mo_bn (mo_br _ _)), trivial⟩
  replace S2 := (show St _ _ _ _ _ _ [blO b3 (planE.cells p) 47, blO b6 [iI 0, .bool false, iI 0, .slice none 0 0, .slice none 0 0, .slice none 0 0] 57, rwO intE 3 0 ra_t151 rc_t151 (newS p n), bnO (brF B_t15 b_t53)] _ _ from S2)
  clear S; have S := S2; clear S2 s T0 hK_b_t53
  refine nn (blk_n (then_n ?_))
  refine rg S (tr (mv rfl)<|tr (addi ((k + 1 : Nat) : Int) rfl rfl (w_i64 (by omega)))<|la (av rfl)) ?_; clear S; intro a u S
  replace S := S.pk [0, 1, 3, 2]
  refine then_n ?_
  refine ⟨(k + 1), b_t53, S.re (subM rfl) rfl rfl, ?_, ?_⟩
  ·refine ⟨hk_b_t53, ?_⟩
   refine ⟨by omega, ?_⟩
   rw [take_up (l := l.xs) (k := k) (m := k + 1) (by omega) rfl recE.dflt]
   exact hA.step ⟨hq_b_t53.1.2.1, hq_b_t53.1.2.2⟩ hq_b_t53.2 hv (by omega)
  omega
 intro hc5
 refine wp_exit (then_e (then_e (blk_e (then_n (rs0 ?_)))))
 refine sp S (tr (mv rfl)<|la (ov fun S=>x_nilck (S.e rfl))) ?_; clear S; intro a u S
 replace S := S.pk [0, 1, 3, 2] (os' := [blO b3 (planE.cells p) 47, blO b6 [iI 0, .bool false, iI 0, .slice none 0 0, .slice none 0 0, .slice none 0 0] 57, rwO intE 3 0 ra_t151 rc_t151 (newS p n), bnO (brF B_t15 bj)])
 replace S := (show St _ _ _ _ _ _ [blO b3 (planE.cells p) 47, blO b6 [iI 0, .bool false, iI 0, .slice none 0 0, .slice none 0 0, .slice none 0 0] 57, rwO intE 3 0 ra_t151 rc_t151 (newS p n), blO B_t15 [bD (bj.staged = true), sV bj.rounds, sV bj.states, iI bj.round, bD (bj.back = true), iI bj.seq, sV bj.target, sV bj.known, sV bj.waiting] 89, daO (slE (slE chgE)) bj.rounds, daO (slE (slE intE)) bj.states, daO (slE intE) bj.target, daO (slE intE) bj.known, daO (slE intE) bj.waiting] _ _ from S.opn (ks := [blO b3 (planE.cells p) 47, blO b6 [iI 0, .bool false, iI 0, .slice none 0 0, .slice none 0 0, .slice none 0 0] 57, rwO intE 3 0 ra_t151 rc_t151 (newS p n)]))
 replace S := S.ar (wfF (slE (slE chgE)) bj.rounds) (S.da 4 rfl)
 replace S := S.ar (wfF (slE (slE intE)) bj.states) (S.da 5 rfl)
 replace S := S.ar (wfF (slE intE) bj.target) (S.da 6 rfl)
 replace S := S.ar (wfF (slE intE) bj.known) (S.da 7 rfl)
 replace S := S.ar (wfF (slE intE) bj.waiting) (S.da 8 rfl)
 replace S := S.pk [0, 1, 2, 3] (os' := [blO b3 (planE.cells p) 47, blO b6 [iI 0, .bool false, iI 0, .slice none 0 0, .slice none 0 0, .slice none 0 0] 57, rwO intE 3 0 ra_t151 rc_t151 (newS p n), blO B_t15 [bD (bj.staged = true), sV bj.rounds, sV bj.states, iI bj.round, bD (bj.back = true), iI bj.seq, sV bj.target, sV bj.known, sV bj.waiting] 89])
 have : bj.rounds.xs.length ≤ 9223372036854775807 := ((S.u 2 rfl)).1.len
 have : bj.states.xs.length ≤ 9223372036854775807 := ((S.u 3 rfl)).1.len
 have : bj.target.xs.length ≤ 9223372036854775807 := ((S.u 4 rfl)).1.len
 have : bj.known.xs.length ≤ 9223372036854775807 := ((S.u 5 rfl)).1.len
 have : bj.waiting.xs.length ≤ 9223372036854775807 := ((S.u 6 rfl)).1.len
 obtain ⟨_, _⟩ : inI64 bj.round := hk_bj.1
 obtain ⟨_, _⟩ : inI64 bj.seq := hk_bj.2
 refine ens S (tr (fldi 0 3 rfl uT89)<|tr (ov fun S=>x_loadw [iI bj.round, bD (bj.back = true), iI bj.seq, sV bj.target, sV bj.known, sV bj.waiting] wD57 (S.e rfl) ((S.k 3 rfl).mid [bD (bj.staged = true), sV bj.rounds, sV bj.states] [iI bj.round, bD (bj.back = true), iI bj.seq, sV bj.target, sV bj.known, sV bj.waiting] [] rfl _ rfl))<|tr (stkw 1 rfl rfl rfl)<|la (av rfl)) ?_; clear S; intro a u S
 refine wp_ret ?_
 refine retcw2 rfl S.s rfl rfl (S.k 1 rfl).all wD57 ?_
 replace S := S.pk []
 refine ⟨(⟨bj.round, bj.back, bj.seq, bj.target, bj.known, bj.waiting⟩ : Ctrl), (r2 rfl (vi ?_)), ⟨hk_bj.1, trivial, hk_bj.2, (S.u 4 rfl), (S.u 5 rfl), (S.u 6 rfl)⟩, ?_, S.m.c⟩
 ·have e : replE p n l.xs = 0 := by
   unfold replE
   rw [if_neg (fun h => h hgd), if_neg (by omega), if_pos (by have := hA.al; rwa [List.take_of_length_le (by omega)] at this)]
  rw [e]
 have e : replE p n l.xs = 0 := by
  unfold replE
  rw [if_neg (fun h => h hgd), if_neg (by omega), if_pos (by have := hA.al; rwa [List.take_of_length_le (by omega)] at this)]
 unfold replC
 rw [if_pos e]
 have hab : cB bj = _ := hA.ab
 rw [List.take_of_length_le (by omega)] at hab
 rw [← hab]
 exact ⟨rfl, rfl, rfl, rfl, rfl, rfl⟩
end Go.Proofs.Ytobggnpnochnnaa.V
namespace Go.Proofs.Ytobggnpnochnnaa.V
open Go.RowKit Go.Proofs.Ytobggnpnochnnaa
set_option linter.unusedVariables false
set_option linter.unusedSimpArgs false
end Go.Proofs.Ytobggnpnochnnaa.V
namespace Go.Proofs.Ytobggnpnochnnaa.V
open Go.RowKit Go.Proofs.Ytobggnpnochnnaa
set_option linter.unusedVariables false
set_option linter.unusedSimpArgs false
theorem allJ_ok {n : Int} {l : List Rec} (h : allJ n l) : ∀ r ∈ l, recOK r := fun r hr => (h r hr).1
theorem bytesJ_snoc (l : List Rec) (r : Rec) : bytesJ (l ++ [r]) = bytesJ l ++ (if recOK r then encR r else []) := by rw [bytesJ_app]; unfold bytesJ; simp
end Go.Proofs.Ytobggnpnochnnaa.V
set_option linter.unusedVariables false
set_option linter.unusedSimpArgs false
namespace Go.Proofs.Ytobggnpnochnnaa.V
open Go.RowKit
theorem bytesJ_take {l : List Rec} (h : ∀ r ∈ l, recOK r) (k : Nat) : bytesJ (l.take k) = (bytesJ l).take (14 * k) := by
  rcases Nat.lt_or_ge k l.length with hk | hk
  · have e : bytesJ l = bytesJ (l.take k) ++ bytesJ (l.drop k) := by rw [← bytesJ_app, List.take_append_drop]
    have hl : (bytesJ (l.take k)).length = 14 * k := by rw [bytesJ_lenOK fun r hr => h r (List.mem_of_mem_take hr), List.length_take]; congr 1; omega
    rw [e, List.take_left' hl]
  · rw [List.take_of_length_le hk, List.take_of_length_le (by rw [bytesJ_lenOK h]; omega)]
/-- what is left of an encoding that was cut off -/
theorem dec_cut {l : List Rec} (h : ∀ r ∈ l, recOK r) (hl : l.length ≤ 4096) {c : Nat} (hc : c ≤ (bytesJ l).length) : decN ((bytesJ l).take c) = c / 14 ∧ recsP ((bytesJ l).take c) (c / 14) = l.take (c / 14) := by
  have hb := bytesJ_lenOK h
  have h1 : (l.take (c / 14)).length = c / 14 := by rw [List.length_take]; omega
  have e : (bytesJ l).take c = bytesJ (l.take (c / 14)) ++ ((bytesJ l).take c).drop (14 * (c / 14)) := by
    rw [bytesJ_take h]
    have : (bytesJ l).take (14 * (c / 14)) = ((bytesJ l).take c).take (14 * (c / 14)) := by rw [List.take_take]; congr 1; omega
    rw [this, List.take_append_drop]
  have := dec_bytes (l := l.take (c / 14)) (fun r hr => h r (List.mem_of_mem_take hr)) (by omega) (((bytesJ l).take c).drop (14 * (c / 14))) (fun q => by have := q.1; rw [List.length_drop, List.length_take] at this; omega)
  rw [← e, h1] at this
  exact this
theorem modk {x m : Int} (h : 0 < m) : ∃ k : Nat, ((k : Nat) : Int) = x % 18446744073709551616 % m ∧ ((k : Nat) : Int) < m := by
  have h1 := Int.emod_nonneg (x % 18446744073709551616) (b := m) (by omega)
  have h2 := Int.emod_lt_of_pos (x % 18446744073709551616) h
  exact ⟨(x % 18446744073709551616 % m).toNat, by omega, by omega⟩
end Go.Proofs.Ytobggnpnochnnaa.V
set_option linter.unusedVariables false
set_option linter.unusedSimpArgs false
namespace Go.Proofs.Ytobggnpnochnnaa.V
open Go.RowKit
def chk6 (ops : Array Oper) (hs zs ks : List Nat) : Bool :=
  hs.all (fun i => decide (i < ops.size)) && zs.all (fun z => decide (z < ops.size) && !ks.contains z && freeS ops z) && ks.all (fun k => !hs.contains k) &&
  (List.range ops.size).all (fun j => ks.contains j || ((hs.contains j || zs.contains j) && match ops[j]? with
    | some o => o.after.all fun e => !Region.binds .any e || (decide (e.on < j) && !ks.contains e.on)
    | none => false)) &&
  hs.all (fun i => (Region.ready .any ops (downB ops i (List.range ops.size) (fullB ops.size ks))).all fun t => !ks.contains t) &&
  seqT ops ks (fullB ops.size ks) && Region.noSelect ops && decide (cntB ops.size ks (Array.replicate ops.size false) + ks.length = ops.size)
section
variable {P : Program} {Q : Exit → Act → World → Prop} {ops : Array Oper}
theorem sched6 {G : Array Bool → Act → World → Prop} (hs zs ks : List Nat) (tail : List Oper) (htl : tail.map some = ks.map fun k => ops[k]?) (chk : chk6 ops hs zs ks = true) (hQ : ∀ c a d v w, Q (.panic c) (a.put (some d) v) w → Q (.panic c) a w)
    (hhead : ∀ i, i ∈ hs → ∀ listed a w, listed.size = ops.size → G listed a w → i ∈ Region.ready .any ops listed → wpOp P ops Q i (fun a' w' => G (listed.setIfInBounds i true) a' w') a w)
    (hlazy : ∀ z ∈ zs, ∀ listed a w, G listed a w → z ∈ Region.ready .any ops listed → ∃ o v d, ops[z]? = some o ∧ o.dst = some d ∧ Yields P ops o v a ∧ G (listed.setIfInBounds z true) (a.put o.dst v) w)
    (fin : ∀ a w, G (fullB ops.size ks) a w → wpList P ops Q tail a w) :
    ∀ (f : Nat) (listed : Array Bool) (a : Act) (w : World), cntB ops.size ks listed = f → listed.size = ops.size → (∀ k ∈ ks, ∀ d, k < ops.size → listed.getD k d = false) → (∀ t o, ops[t]? = some o → listed.getD t false = true → ∀ e ∈ o.after, Region.binds .any e = true → listed.getD e.on false = true) → G listed a w → wpAny P .any ops Q (f + ks.length) listed a w := by
  simp only [chk6, Bool.and_eq_true, decide_eq_true_eq] at chk
  obtain ⟨⟨⟨⟨⟨⟨⟨c1, c2⟩, c3⟩, c4⟩, c5⟩, c6⟩, c7⟩, _⟩ := chk
  have hc4 : ∀ j, j < ops.size → ks.contains j = false → (j ∈ hs ∨ j ∈ zs) ∧ ∃ o, ops[j]? = some o ∧ ∀ e ∈ o.after, Region.binds .any e = true → e.on < j ∧ ks.contains e.on = false := fun j hj hk => by
    have h := List.all_eq_true.1 c4 j (List.mem_range.2 hj)
    rw [hk, Bool.false_or] at h
    cases ho : ops[j]? with
    | none => rw [ho] at h; simp at h
    | some o =>
      rw [ho] at h
      simp only [Bool.and_eq_true, Bool.or_eq_true, decide_eq_true_eq, List.contains_iff_mem] at h
      refine ⟨h.1, o, rfl, fun e he hb => ?_⟩
      have := Array.all_eq_true_iff_forall_mem.1 h.2 e he
      simpa [hb] using this
  intro f
  induction f with
  | zero =>
    intro listed a w hf hls hks hcl hG
    have hl : listed = fullB ops.size ks := by
      apply Array.ext
      · rw [hls]; simp [fullB]
      · intro i h1 h2
        have hi : i < ops.size := by omega
        have key : listed.getD i true = (fullB ops.size ks).getD i true := by
          rw [fullB_get hi]
          by_cases hk : ks.contains i = true
          · rw [hk, hks i (List.contains_iff_mem.1 hk) true hi]; rfl
          · have hk' : ks.contains i = false := by simpa using hk
            have h3 := List.filter_eq_nil_iff.1 (List.length_eq_zero_iff.1 hf) i (List.mem_range.2 hi)
            rw [hk'] at h3 ⊢
            simpa using h3
        simpa [h1, h2] using key
    subst hl
    rw [Nat.zero_add]
    exact wpAny_of_seqT tail ks _ a w htl c6 (fin a w hG)
  | succ f ih =>
    intro listed a w hf hls hks hcl hG
    rw [show f + 1 + ks.length = (f + ks.length) + 1 from by omega]
    -- the first that has not come up
    have hex : ∃ j, j < ops.size ∧ ks.contains j = false ∧ listed.getD j true = false ∧ ∀ k, k < j → ks.contains k = false → listed.getD k true = true := by
      have hne : ∃ j, (j < ops.size ∧ ks.contains j = false ∧ listed.getD j true = false) := by
        have h0 : ((List.range ops.size).filter fun j => !ks.contains j && !listed.getD j true) ≠ [] := fun h => by
          unfold cntB at hf; rw [h] at hf; simp at hf
        obtain ⟨j, hj⟩ := List.exists_mem_of_ne_nil _ h0
        have := List.mem_filter.1 hj
        simp only [Bool.and_eq_true, Bool.not_eq_true'] at this
        exact ⟨j, List.mem_range.1 this.1, this.2.1, this.2.2⟩
      obtain ⟨j, hj⟩ := hne
      induction j using Nat.strongRecOn with
      | _ j ihj =>
        by_cases hk : ∃ k, k < j ∧ ks.contains k = false ∧ listed.getD k true = false
        · obtain ⟨k, h1, h2, h3⟩ := hk
          exact ihj k h1 ⟨by omega, h2, h3⟩
        · refine ⟨j, hj.1, hj.2.1, hj.2.2, fun k h1 h2 => ?_⟩
          cases h : listed.getD k true
          · exact absurd ⟨k, h1, h2, h⟩ hk
          · rfl
    obtain ⟨j, hj1, hj2, hj3, hj4⟩ := hex
    have hjr : j ∈ Region.ready .any ops listed := by
      obtain ⟨_, o, ho, h⟩ := hc4 j hj1 hj2
      refine mem_ready.2 ⟨hj3, o, ho, fun e he hb => ?_⟩
      obtain ⟨h1, h2⟩ := h e he hb
      have h3 := hj4 e.on h1 h2
      have h4 : e.on < listed.size := by omega
      simp [h4] at h3 ⊢
      exact h3
    have next : ∀ i, i ∈ Region.ready .any ops listed → ks.contains i = false → ∀ a' w', G (listed.setIfInBounds i true) a' w' → wpAny P .any ops Q (f + ks.length) (listed.setIfInBounds i true) a' w' := fun i hi hk a' w' hG' => by
      obtain ⟨hil, o, ho, hall⟩ := mem_ready.1 hi
      have hlt := (Array.getElem?_eq_some_iff.1 ho).1
      have := cnt_set hlt hk hil
      refine ih _ a' w' (by omega) (by simp [hls]) (fun k hkm d hlt' => ?_) (fun t p hp ht e he hb => ?_) hG'
      rotate_left
      · by_cases hti : i = t
        · subst hti
          obtain rfl := Option.some.inj (ho.symm.trans hp)
          exact getD_set_true (hall e he hb)
        · rw [getD_set_any hti] at ht
          exact getD_set_true (hcl t p hp ht e he hb)
      rw [getD_set_any (fun e => by subst e; rw [List.contains_iff_mem.2 hkm] at hk; cases hk)]
      exact hks k hkm d hlt'
    by_cases hz : ∃ z, z ∈ zs ∧ z ∈ Region.ready .any ops listed
    · obtain ⟨z, hzs, hzr⟩ := hz
      have hc := List.all_eq_true.1 c2 z hzs
      simp only [Bool.and_eq_true, decide_eq_true_eq, Bool.not_eq_true'] at hc
      obtain ⟨o, v, dd, ho, hdd, hy, hG'⟩ := hlazy z hzs listed a w hG hzr
      obtain ⟨_, o', ho', hall⟩ := mem_ready.1 hzr
      obtain rfl := Option.some.inj (ho.symm.trans ho')
      refine wpAny_first ho (Region.noSelect_spec c7) (fun c a w hq => hQ c a dd v w (by rw [hdd] at hq; exact hq)) _ listed a w (fun k ok hk hkz hkl hno => ?_) hzr hy (next z hzr hc.1.2 _ w hG')
      have hfr := hc.2
      unfold freeS at hfr
      rw [ho] at hfr
      simp only [Bool.and_eq_true] at hfr
      have h1 := List.all_eq_true.1 hfr.2 k (List.mem_range.2 (Array.getElem?_eq_some_iff.1 hk).1)
      rw [hk] at h1
      simp only [Bool.or_eq_true, beq_iff_eq, hkz, false_or] at h1
      rcases h1 with (h1 | h1) | h1
      · obtain ⟨e, he, hb⟩ := Array.any_eq_true'.1 h1
        simp only [Bool.and_eq_true, beq_iff_eq] at hb
        exact absurd hb.2 (hno e he hb.1)
      · obtain ⟨e, he, hb⟩ := Array.any_eq_true'.1 h1
        simp only [Bool.and_eq_true, beq_iff_eq] at hb
        have h2 := hall e he hb.1
        rw [hb.2, getD_both hkl] at h2; cases h2
      · exact h1
    · have hjn : j ∈ hs := by
        rcases (hc4 j hj1 hj2).1 with h | h
        · exact h
        · exact absurd ⟨j, h, hjr⟩ hz
      refine ⟨fun h => (by rw [h] at hjr; cases hjr), fun i hi => ?_⟩
      obtain ⟨hil, o, ho, hall⟩ := mem_ready.1 hi
      have hlt := (Array.getElem?_eq_some_iff.1 ho).1
      have hik : ks.contains i = false := by
        cases hk : ks.contains i
        · rfl
        · have hge : i ∉ hs := by have := List.all_eq_true.1 c3 i (List.contains_iff_mem.1 hk); simpa using this
          have hmem : i ∈ Region.ready .any ops (downB ops j (List.range ops.size) (fullB ops.size ks)) := by
            refine mem_ready.2 ⟨downB_no _ _ (by rw [fullB_get hlt, hk]; rfl), o, ho, fun e he hb => ?_⟩
            refine downB_le (getD_both hj3) hcl _ _ (fun t ht => ?_) e.on (hall e he hb)
            have hlt2 : t < ops.size := by
              rcases Nat.lt_or_ge t listed.size with g | g
              · omega
              · simp [Array.getElem?_eq_none g] at ht
            rw [fullB_get hlt2]
            cases hk2 : ks.contains t
            · rfl
            · rw [hks t (List.contains_iff_mem.1 hk2) false hlt2] at ht; cases ht
          have h2 := List.all_eq_true.1 (List.all_eq_true.1 c5 j hjn) i hmem
          rw [hk] at h2; cases h2
      have hin : i ∈ hs := by
        rcases (hc4 i hlt hik).1 with h | h
        · exact h
        · exact absurd ⟨i, h, hi⟩ hz
      exact wpOp_mono (fun a' w' hG' => next i hi hik a' w' hG') (hhead i hin listed a w hls hG hi)
end
section
variable {P : Program} {F : Nat → Prop} {w0 : World} {m0 : List BS} {n : Nat} {L : List (Nat × Value)} {fs : List RF} {os : List OF} {Q : Exit → Act → World → Prop}
/-- a told operation that does not look at the world -/
structure Zt where
  i : Nat
  d : Nat
  D : List Nat
def ztx : List Zt → List Nat
  | [] => []
  | z :: r => z.i :: ztx r
theorem ztx_mem {i : Nat} : ∀ {Z : List Zt}, i ∈ ztx Z → ∃ z, z ∈ Z ∧ z.i = i
  | z :: r, h => (List.mem_cons.1 h).elim (fun e => ⟨z, List.mem_cons_self, e.symm⟩) fun h => let ⟨q, h1, h2⟩ := ztx_mem h; ⟨q, List.mem_cons_of_mem _ h1, h2⟩
def LZA (P : Program) (ops : Array Oper) (F : Nat → Prop) (w0 : World) (m0 : List BS) (n : Nat) (L : List (Nat × Value)) (fs : List RF) (os : List OF) {chg : List BS} (E : List (Nat × Td (In chg))) : List Zt → Prop
  | [] => True
  | z :: r => (∃ o, ops[z.i]? = some o ∧ o.guard = none ∧ o.dst = some z.d ∧ z.d < n ∧ ∀ a w, St F w0 m0 n (cat (vals E z.D) L) fs os a w → pdeps E a w z.D → ∃ v, (∀ w', (execOp a.eval o).run P w' = .ok (.value v) w') ∧ lookE (tq E) z.d v w) ∧ LZA P ops F w0 m0 n L fs os E r
theorem LZA.get {ops : Array Oper} {chg : List BS} {E : List (Nat × Td (In chg))} : ∀ {Z : List Zt}, LZA P ops F w0 m0 n L fs os E Z → ∀ z ∈ Z, ∃ o, ops[z.i]? = some o ∧ o.guard = none ∧ o.dst = some z.d ∧ z.d < n ∧ ∀ a w, St F w0 m0 n (cat (vals E z.D) L) fs os a w → pdeps E a w z.D → ∃ v, (∀ w', (execOp a.eval o).run P w' = .ok (.value v) w') ∧ lookE (tq E) z.d v w
  | _ :: _, h, z, hz => (List.mem_cons.1 hz).elim (fun e => e ▸ h.1) fun hz => LZA.get h.2 z hz
theorem lzk {ops : Array Oper} {chg : List BS} {E : List (Nat × Td (In chg))} {z : Zt} {r : List Zt} (o : Oper) (h : ∀ a w, St F w0 m0 n (cat (vals E z.D) L) fs os a w → pdeps E a w z.D → ∃ v, (∀ w', (execOp a.eval o).run P w' = .ok (.value v) w') ∧ lookE (tq E) z.d v w) (hr : LZA P ops F w0 m0 n L fs os E r) (hk : ops[z.i]? = some o ∧ o.guard = none ∧ o.dst = some z.d ∧ z.d < n := by exact ⟨rfl, rfl, rfl, by decide⟩) : LZA P ops F w0 m0 n L fs os E (z :: r) := ⟨⟨o, hk.1, hk.2.1, hk.2.2.1, hk.2.2.2, h⟩, hr⟩
/-- the slots of heads, told operations and the new block are all different, and not in use; what an operation reads it waits for -/
def okA (ops : Array Oper) (N k d : Nat) (L : List (Nat × Value)) (outs : List Nat) (Z : List Zt) : Bool :=
  Z.all (fun z => decide (N ≤ z.i) && z.i != k && z.D.all fun e => (List.range N ++ ztx Z).any fun j => dstOf ops j == some e && waitsA ops z.i j) &&
  (List.range N ++ ztx Z).all (fun j => dstOf ops j != some d && (List.range N ++ ztx Z).all fun k => j == k || (dstOf ops j).isNone || dstOf ops j != dstOf ops k) &&
  L.all (fun p => p.1 != d && Z.all fun z => z.d != p.1) && (outs.all fun e => (List.range N ++ ztx Z).any fun j => dstOf ops j == some e) && decide (N ≤ k) && decide (k < ops.size)
where waitsA (ops : Array Oper) (i j : Nat) : Bool := match ops[i]? with | some o => o.after.any (fun e => Region.binds .any e && e.on == j) | none => false
theorem drA {id : Nat} {a : Act} {w : World} {l : List Oper} (S : St F w0 m0 n L fs os a w) (N k d : Nat) (zs : List Value) (t : TypeId) (chg : List BS) (E : List OF → List (Nat × Td (In chg))) (Ds : List (List Nat)) (Z : List Zt) (ks : List Nat) (outs : List Nat) (tail : List Oper)
    (step : ∀ nx : List OF, HS P l.toArray Q F w0 w m0 n L fs (os ++ nx) (E nx) 0 (l.take N) Ds)
    (lzy : ∀ nx : List OF, LZA P l.toArray F w0 m0 n L fs (os ++ nx) (E nx) Z)
    (hal : ∃ o, l.toArray[k]? = some o ∧ o.guard = none ∧ o.dst = some d ∧ d < n ∧ ∀ (a : Act) (w : World), (execOp a.eval o).run P w = .ok (.value (.pointer (some ⟨w.heap.size, 0, none⟩))) (w.alloc (.cells zs.toArray t)))
    (mono : ∀ e v (u u' : World), Mm F w0 m0 fs os u → u.heap.size < u'.heap.size → Ch (In []) u u' → lookE (tq (E [])) e v u → lookE (tq (E [blO u.heap.size zs t])) e v u')
    (fin : ∀ x a w', St F w0 m0 n (cat (vals (E [blO x zs t]) outs) ((d, .pointer (some ⟨x, 0, none⟩)) :: L)) fs (os ++ [blO x zs t]) a w' → Ch (In chg) w w' → pdeps (E [blO x zs t]) a w' outs → wpList P l.toArray Q tail a w')
    (htl : tail = pickT l ks := by rfl) (hm : P.follows .mixedOrders = true := by exact mixed)
    (hok : (headOk l.toArray N && depsOk l.toArray N 0 Ds && keysOk l.toArray N L && okA l.toArray N k d L outs Z && chk6 l.toArray (List.range N ++ [k]) (ztx Z) ks && ks.all fun k => decide (k < l.length)) = true := by kernel_rfl) (hlen : Ds.length = N := by rfl)
    (hQ : ∀ c a d v w, Q (.panic c) (a.put (some d) v) w → Q (.panic c) a w := by exact fun _ _ _ _ _ h => h) : (Code.region id l.toArray true).wp P Q a w := by
  simp only [Bool.and_eq_true] at hok
  obtain ⟨⟨⟨⟨⟨h1, h2⟩, h3⟩, h6⟩, h5⟩, h7⟩ := hok
  have htl' : tail.map some = ks.map fun k => l.toArray[k]? := htl ▸ pickT_map h7
  simp only [okA, Bool.and_eq_true, decide_eq_true_eq] at h6
  obtain ⟨⟨⟨⟨⟨z1, z2⟩, z3⟩, z4⟩, hNk⟩, hkl⟩ := h6
  have h5' := h5
  simp only [chk6, Bool.and_eq_true, decide_eq_true_eq] at h5'
  obtain ⟨⟨⟨⟨⟨⟨⟨c1, c2⟩, c3⟩, _⟩, _⟩, _⟩, _⟩, c8⟩ := h5'
  have hNl : N ≤ l.length := by have : k < l.length := by simpa using hkl
                                omega
  obtain ⟨ok, hok1, hok2, hok3, hdn, hrun⟩ := hal
  have hmem : ∀ j, (j < N ∨ j ∈ ztx Z) → j ∈ List.range N ++ ztx Z := fun j hj => List.mem_append.2 (hj.imp List.mem_range.2 fun h => h)
  have hnd : ∀ j o, (j < N ∨ j ∈ ztx Z) → l.toArray[j]? = some o → o.dst ≠ some d := fun j o hj ho => by
    have := List.all_eq_true.1 z2 j (hmem j hj)
    simp only [dstOf, ho, Option.bind_some, Bool.and_eq_true, bne_iff_ne] at this
    exact this.1
  have hdist : ∀ j k o p d, (j < N ∨ j ∈ ztx Z) → (k < N ∨ k ∈ ztx Z) → j ≠ k → l.toArray[j]? = some o → l.toArray[k]? = some p → o.dst = some d → p.dst ≠ some d := fun j k o p d hj hk hne ho hp hd => by
    have := List.all_eq_true.1 z2 j (hmem j hj)
    simp only [Bool.and_eq_true] at this
    have := List.all_eq_true.1 this.2 k (hmem k hk)
    simp only [dstOf, ho, hp, Option.bind_some, hd, Option.isNone_some, Bool.or_eq_true, beq_iff_eq, bne_iff_ne, Bool.false_eq_true, or_false] at this
    exact fun e => (this.resolve_left hne) e.symm
  have hput : ∀ (a : Act) (o : Oper) (v : Value) d, o.dst ≠ some d → (a.put o.dst v).tmps.getD d undef = a.tmps.getD d undef := fun a o v d hd => by
    cases hod : o.dst with
    | none => rfl
    | some d' =>
      have : d' ≠ d := fun e => hd (by rw [hod, e])
      simp [Act.put, Array.getElem?_setIfInBounds_ne this]
  have hkey : ∀ j o, (j < N ∨ j ∈ ztx Z) → l.toArray[j]? = some o → ∀ i v, look i L = some v → o.dst ≠ some i := fun j o hj ho i v hv hd => by
    rcases hj with hj | hj
    · have := List.all_eq_true.1 h3 _ (look_mem hv)
      have h : isHead l.toArray N i = true := List.any_eq_true.2 ⟨j, List.mem_range.2 hj, by rw [ho]; simp [hd]⟩
      rw [h] at this; cases this
    · obtain ⟨z, hzm, hzi⟩ := ztx_mem hj
      obtain ⟨o', ho', _, hd', _⟩ := (lzy []).get z hzm
      rw [hzi] at ho'
      obtain rfl := Option.some.inj (ho.symm.trans ho')
      have := List.all_eq_true.1 z3 _ (look_mem hv)
      simp only [Bool.and_eq_true] at this
      have := List.all_eq_true.1 this.2 z hzm
      rw [hd] at hd'
      have e := Option.some.inj hd'
      simp [e] at this
  have hLd : look d L = none := by
    cases h : look d L with
    | none => rfl
    | some v =>
      have := List.all_eq_true.1 z3 _ (look_mem h)
      simp only [Bool.and_eq_true, bne_iff_ne] at this
      exact absurd rfl this.1
  have hslots : ∀ (a : Act) (o : Oper) (v : Value), (∀ i v, look i L = some v → o.dst ≠ some i) → Slots n L a → Slots n L (a.put o.dst v) := fun a o v hk s => by
    refine ⟨by cases o.dst <;> simp [Act.put, s.size], by cases o.dst <;> simp [Act.put, s.defers], fun i u hu => ?_⟩
    rw [hput a o v i (hk i u hu)]; exact s.get i u hu
  let G : Array Bool → Act → World → Prop := fun listed a w2 => ∃ nx : List OF, ((listed.getD k false = false ∧ nx = []) ∨ (listed.getD k false = true ∧ ∃ x, nx = [blO x zs t] ∧ a.tmps.getD d undef = .pointer (some ⟨x, 0, none⟩))) ∧ Ch (In chg) w w2 ∧ Mm F w0 m0 fs (os ++ nx) w2 ∧ Slots n L a ∧ ∀ j, (j < N ∨ j ∈ ztx Z) → listed.getD j false = true → ∀ o d, l.toArray[j]? = some o → o.dst = some d → lookE (tq (E nx)) d (a.tmps.getD d undef) w2
  have hstart : G (Array.replicate l.length false) a { w with drawn := w.drawn + 1 } :=
    ⟨[], .inl ⟨getD_replicate_false .., rfl⟩, (Ch.refl _).drew, by rw [List.append_nil]; exact S.m.drew, ⟨S.s.size, S.s.defers, S.s.get⟩, fun j _ hl => by rw [getD_replicate_false] at hl; cases hl⟩
  refine wp_region_any hm ?_
  have hc8 : cntB l.toArray.size ks (Array.replicate l.toArray.size false) + ks.length = l.toArray.size := c8
  suffices key : wpAny P .any l.toArray Q (cntB l.toArray.size ks (Array.replicate l.toArray.size false) + ks.length) (Array.replicate l.toArray.size false) a { w with drawn := w.drawn + 1 } by
    rw [hc8] at key; exact key
  have hzk : ∀ z ∈ Z, N ≤ z.i ∧ z.i ≠ k ∧ ∀ e ∈ z.D, ∃ j, (j < N ∨ j ∈ ztx Z) ∧ dstOf l.toArray j = some e ∧ okA.waitsA l.toArray z.i j = true := fun z hz => by
    have := List.all_eq_true.1 z1 z hz
    simp only [Bool.and_eq_true, decide_eq_true_eq, bne_iff_ne] at this
    refine ⟨this.1.1, this.1.2, fun e he => ?_⟩
    obtain ⟨j, hj, hj2⟩ := List.any_eq_true.1 (List.all_eq_true.1 this.2 e he)
    simp only [Bool.and_eq_true, beq_iff_eq] at hj2
    exact ⟨j, (List.mem_append.1 hj).imp List.mem_range.1 fun h => h, hj2.1, hj2.2⟩
  refine sched6 (G := G) (List.range N ++ [k]) (ztx Z) ks tail htl' h5 hQ ?_ ?_ ?_ _ _ a _ rfl (by simp) (fun k hk d hlt => by simp [show k < l.length from by simpa using hlt]) (fun t _ _ ht => by rw [getD_replicate_false] at ht; cases ht) hstart
  · intro i hi listed a1 w1 hls hG hr
    obtain ⟨hil, o, ho, hall⟩ := mem_ready.1 hr
    obtain ⟨nx, hnx, hC, hM, s, hdone⟩ := hG
    have hlt : i < listed.size := by rw [hls]; exact (Array.getElem?_eq_some_iff.1 ho).1
    rcases List.mem_append.1 hi with hi | hi
    · have hi := List.mem_range.1 hi
      have hik : i ≠ k := by omega
      obtain ⟨o', D, e1, e2, h⟩ := steps_get (l.take N) Ds 0 i (by omega) (by simp; omega) (HS.steps _ _ _ (step nx))
      obtain rfl : o' = o := by
        rw [List.getElem?_take_of_lt hi] at e1
        have : l.toArray[i]? = l[i]? := by simp
        rw [this, e1] at ho
        exact Option.some.inj ho
      have hdep : ∀ D', (∀ d ∈ D', d ∈ D) → deps (tq (E nx)) a1 w1 D' := by
        intro D'
        induction D' with
        | nil => intro _; trivial
        | cons d r ih =>
          intro hsub
          refine ⟨?_, ih fun d hd => hsub d (List.mem_cons_of_mem _ hd)⟩
          have hget : ∀ (Ds : List (List Nat)) (k i : Nat), depsOk l.toArray N k Ds = true → Ds[i]? = some D → ∃ o, l.toArray[k + i]? = some o ∧ ∀ d ∈ D, d ∈ o.looksAt l.toArray ∧ isHead l.toArray N d = true := by
            intro Ds
            induction Ds with
            | nil => intro k i _ h; simp at h
            | cons D0 Ds ih =>
              intro k i hk hi
              simp only [depsOk, Bool.and_eq_true] at hk
              cases i with
              | zero =>
                obtain rfl : D0 = D := by simpa using hi
                cases hp : l.toArray[k]? with
                | none => rw [hp] at hk; cases hk.1
                | some p =>
                  rw [hp] at hk
                  refine ⟨p, rfl, fun d hd => ?_⟩
                  have := List.all_eq_true.1 hk.1 d hd
                  simpa [Bool.and_eq_true, List.contains_iff_mem] using this
              | succ i =>
                obtain ⟨o, g1, g2⟩ := ih (k + 1) i hk.2 (by simpa using hi)
                exact ⟨o, by rw [show k + (i + 1) = k + 1 + i from by omega]; exact g1, g2⟩
          obtain ⟨o2, g1, g2⟩ := hget Ds 0 i h2 e2
          rw [Nat.zero_add, ho] at g1
          obtain rfl := Option.some.inj g1
          obtain ⟨g3, g4⟩ := g2 d (hsub d List.mem_cons_self)
          obtain ⟨j, p, g5, g6, g7⟩ := isHead_spec g4
          have q1 := List.all_eq_true.1 h1 i (List.mem_range.2 hi)
          simp only [ho, Bool.and_eq_true] at q1
          have q2 := List.all_eq_true.1 q1.2 j (List.mem_range.2 g5)
          simp only [g6, g7, Bool.and_eq_true, Bool.or_eq_true, Bool.not_eq_true'] at q2
          rcases q2.2 with q3 | q3
          · rw [List.contains_eq_mem] at q3
            simp [g3] at q3
          · obtain ⟨e, he, hb⟩ := Array.any_eq_true'.1 q3
            simp only [Bool.and_eq_true, beq_iff_eq] at hb
            exact hdone j (.inl g5) (by rw [← hb.2]; exact hall e he hb.1) p d g6 g7
      have h' := h a1 w1 hC hM s (hdep D fun d hd => hd)
      rw [Nat.zero_add] at h'
      refine wpOp_mono ?_ h'
      rintro a' w2 ⟨⟨v, rfl, hd'⟩, hc, hi'⟩
      refine ⟨nx, ?_, hC.same hc, hi', hslots a1 o' v (hkey i o' (.inl hi) ho) s, fun j hj hl p e hp he => ?_⟩
      · rw [getD_set_ne false hik]
        refine hnx.imp (fun h => h) fun ⟨g1, x, g2, g3⟩ => ⟨g1, x, g2, ?_⟩
        rw [hput a1 o' v d (hnd i o' (.inl hi) ho)]; exact g3
      · by_cases hji : j = i
        · subst hji
          obtain rfl : o' = p := Option.some.inj (ho.symm.trans hp)
          obtain ⟨k1, k2⟩ := hd' e he
          rw [he, getD_put a1 e e v (by rw [s.size]; exact k1), if_pos rfl]; exact k2
        · rw [getD_set_ne false (Ne.symm hji)] at hl
          rw [hput a1 o' v e (hdist j i p o' e hj (.inl hi) hji hp ho he)]
          exact lookE_st _ e _ _ _ hc (hdone j hj hl p e hp he)
    · obtain rfl := List.mem_singleton.1 hi
      obtain rfl := Option.some.inj (hok1.symm.trans ho)
      have hnx0 : nx = [] := hnx.elim (fun h => h.2) fun h => by rw [getD_both hil] at h; cases h.1
      subst hnx0
      rw [List.append_nil] at hM
      have g := ch_alloc w1 (.cells zs.toArray t)
      have hsz : w1.heap.size < (w1.alloc (.cells zs.toArray t)).heap.size := by rw [show (w1.alloc (.cells zs.toArray t)).heap = w1.heap.push (.cells zs.toArray t) from rfl]; simp
      refine head_op hok1 hok2 (op_val (hrun a1 w1) ⟨[blO w1.heap.size zs t], .inr ⟨by simp [hlt], w1.heap.size, rfl, ?_⟩, hC.same (g.mono fun _ h => h.elim), ?_, hslots a1 ok _ (fun i v hv e => ?_) s, fun j hj hl p e hp he => ?_⟩)
      · rw [hok3, getD_put a1 d d _ (by rw [s.size]; exact hdn), if_pos rfl]
      · exact hM.n1 (blO w1.heap.size zs t) rfl hsz (fun k hk => hk) g (Blk.new _ _ _)
      · rw [hok3] at e
        have := Option.some.inj e
        subst this; rw [hLd] at hv; cases hv
      · have hji : j ≠ i := by
          rcases hj with hj | hj
          · omega
          · obtain ⟨z, hz, rfl⟩ := ztx_mem hj
            exact (hzk z hz).2.1
        rw [getD_set_ne false (Ne.symm hji)] at hl
        have hne : ok.dst ≠ some e := fun h => hnd j p hj hp (by rw [he, ← h, hok3])
        rw [hput a1 ok _ e hne]
        exact mono e _ w1 _ hM hsz g (hdone j hj hl p e hp he)
  · intro zi hzi listed a1 w1 hG hr
    obtain ⟨nx, hnx, hC, hM, s, hdone⟩ := hG
    obtain ⟨hil, o, ho, hall⟩ := mem_ready.1 hr
    obtain ⟨z, hzm, rfl⟩ := ztx_mem hzi
    obtain ⟨o', ho', hg, hd, hzd, hzr⟩ := (lzy nx).get z hzm
    obtain rfl := Option.some.inj (ho.symm.trans ho')
    obtain ⟨hzN, hzk1, hzD⟩ := hzk z hzm
    have hdeps : ∀ D, (∀ d ∈ D, d ∈ z.D) → deps (tq (E nx)) a1 w1 D := by
      intro D
      induction D with
      | nil => intro _; trivial
      | cons d r ih =>
        intro hsub
        refine ⟨?_, ih fun d hd => hsub d (List.mem_cons_of_mem _ hd)⟩
        obtain ⟨j, hj3, hj2, hjw⟩ := hzD d (hsub d List.mem_cons_self)
        unfold okA.waitsA at hjw
        rw [ho] at hjw
        obtain ⟨e, he, hb⟩ := Array.any_eq_true'.1 hjw
        simp only [Bool.and_eq_true, beq_iff_eq] at hb
        have hl := hall e he hb.1
        rw [hb.2] at hl
        cases hp : l.toArray[j]? with
        | none => simp [dstOf, hp] at hj2
        | some p => exact hdone j hj3 hl p d hp (by simpa [dstOf, hp] using hj2)
    obtain ⟨hS1, hS2⟩ := deps_open s z.D (hdeps z.D fun d hd => hd)
    obtain ⟨v, hv1, hv2⟩ := hzr a1 w1 ⟨hS1, hM⟩ hS2
    refine ⟨o, v, z.d, ho, hd, .inl ⟨by simp [Region.wanted, hg], hv1⟩, nx, ?_, hC, hM, hslots a1 o v (hkey z.i o (.inr hzi) ho) s, fun j hj hl p e hp he => ?_⟩
    · rw [getD_set_ne false hzk1]
      refine hnx.imp (fun h => h) fun ⟨g1, x, g2, g3⟩ => ⟨g1, x, g2, ?_⟩
      rw [hput a1 o v d (hnd z.i o (.inr hzi) ho)]; exact g3
    · by_cases hji : j = z.i
      · subst hji
        obtain rfl : o = p := Option.some.inj (ho.symm.trans hp)
        have e9 := Option.some.inj (hd.symm.trans he)
        subst e9
        rw [hd, getD_put a1 z.d z.d v (by rw [s.size]; exact hzd), if_pos rfl]
        exact hv2
      · rw [getD_set_ne false (Ne.symm hji)] at hl
        rw [hput a1 o v e (hdist j z.i p o e hj (.inr hzi) hji hp ho he)]
        exact hdone j hj hl p e hp he
  · intro a1 w1 hG
    obtain ⟨nx, hnx, hC, hM, s, hdone⟩ := hG
    have hnks : ∀ j, j < l.length → ks.contains j = false → (fullB l.toArray.size ks).getD j false = true := fun j hj hk => by rw [fullB_get (by simpa using hj), hk]; rfl
    have hkk : (fullB l.toArray.size ks).getD k false = true := by
      refine hnks k (by simpa using hkl) ?_
      cases hk : ks.contains k
      · rfl
      · have := List.all_eq_true.1 c3 k (List.contains_iff_mem.1 hk)
        simp at this
    have hin : ∀ j, (j < N ∨ j ∈ ztx Z) → (fullB l.toArray.size ks).getD j false = true := fun j hj => by
      rcases hj with hj | hj
      · refine hnks j (by omega) ?_
        cases hk : ks.contains j
        · rfl
        · have := List.all_eq_true.1 c3 j (List.contains_iff_mem.1 hk)
          simp [List.mem_range.2 hj] at this
      · have := List.all_eq_true.1 c2 j hj
        simp only [Bool.and_eq_true, decide_eq_true_eq, Bool.not_eq_true'] at this
        exact hnks j (by simpa using this.1.1) this.1.2
    obtain ⟨x, rfl, hx⟩ : ∃ x, nx = [blO x zs t] ∧ a1.tmps.getD d undef = .pointer (some ⟨x, 0, none⟩) := hnx.elim (fun h => by rw [hkk] at h; cases h.1) fun h => h.2
    have hdeps : ∀ D, (∀ d ∈ D, d ∈ outs) → deps (tq (E [blO x zs t])) a1 w1 D := by
      intro D
      induction D with
      | nil => intro _; trivial
      | cons d r ih =>
        intro hsub
        refine ⟨?_, ih fun d hd => hsub d (List.mem_cons_of_mem _ hd)⟩
        obtain ⟨j, hj, hj2⟩ := List.any_eq_true.1 (List.all_eq_true.1 z4 d (hsub d List.mem_cons_self))
        have hj3 : j < N ∨ j ∈ ztx Z := (List.mem_append.1 hj).imp List.mem_range.1 fun h => h
        cases hp : l.toArray[j]? with
        | none => simp [dstOf, hp] at hj2
        | some p => exact hdone j hj3 (hin j hj3) p d hp (by simpa [dstOf, hp] using hj2)
    obtain ⟨k1, k2⟩ := deps_open (s.ext hx) outs (hdeps outs fun d hd => hd)
    exact fin x a1 w1 ⟨k1, hM⟩ hC k2
def MonoL {M : Nat → Prop} (u u' : World) : List (Nat × Td M) → List (Nat × Td M) → Prop
  | (i, p) :: r, (j, q) :: s => (i = j ∧ ∀ v, p.q.p v u → q.q.p v u') ∧ MonoL u u' r s
  | [], [] => True
  | _, _ => False
theorem MonoL.look {M : Nat → Prop} {u u' : World} {e : Nat} {v : Value} : ∀ {E E' : List (Nat × Td M)}, MonoL u u' E E' → lookE (tq E) e v u → lookE (tq E') e v u'
  | (i, p) :: r, (j, q) :: s, h, k => by
    obtain ⟨⟨rfl, h1⟩, h2⟩ := h
    unfold tq lookE at *
    cases hb : Nat.beq i e
    · rw [hb] at k; exact MonoL.look h2 k
    · rw [hb] at k; exact h1 v k
  | [], [], _, k => k
  | [], _ :: _, h, _ => h.elim
  | _ :: _, [], h, _ => h.elim
theorem MonoL.lk {M : Nat → Prop} {u u' : World} {e : Nat} {v : Value} {E E' : List (Nat × Td M)} (k : lookE (tq E) e v u) (h : MonoL u u' E E') : lookE (tq E') e v u' := h.look k
theorem Enc.al {α : Type} (E : Enc α) {x : α} {u u' : World} {zs : List Value} {t : TypeId} (H : E.wf (Fr F (ow (os ++ []))) u.heap x) (hs : u.heap.size < u'.heap.size) (g : Ch (In []) u u') : E.wf (Fr F (ow (os ++ [blO u.heap.size zs t]))) u'.heap x := by
  have h1 : E.wf (fun k => k < u.heap.size ∧ Fr F (ow (os ++ [])) k) u.heap x := E.mono (fun k hk h => ⟨hk, h⟩) H
  have h2 := E.keep (h' := u'.heap) ⟨g.size, fun k hk h => g.block k hk id⟩ h1
  refine E.mono (fun k _ h => ⟨fun hm => ?_, h.2.2⟩) h2
  rw [ow_app] at hm
  rcases in_app.1 hm with q | q
  · exact h.2.1 (by rw [List.append_nil]; exact q)
  · obtain rfl : k = u.heap.size := In.one.1 q
    exact absurd h.1 (Nat.lt_irrefl _)
end
end Go.Proofs.Ytobggnpnochnnaa.V
set_option linter.unusedVariables false
set_option linter.unusedSimpArgs false
namespace Go.Proofs.Ytobggnpnochnnaa.V
open Go.RowKit
def chk7 (ops : Array Oper) (hs zs ks : List Nat) : Bool :=
  hs.all (fun i => decide (i < ops.size)) && zs.all (fun z => decide (z < ops.size) && !ks.contains z && freeS ops z) && ks.all (fun k => !hs.contains k) &&
  (List.range ops.size).all (fun j => ks.contains j || ((hs.contains j || zs.contains j) && match ops[j]? with
    | some o => o.after.all fun e => !Region.binds .any e || (decide (e.on < j) && !ks.contains e.on)
    | none => false)) &&
  hs.all (fun i => (Region.ready .any ops (downB ops i (List.range ops.size) (fullB ops.size ks))).all fun t => !ks.contains t) &&
  Region.noSelect ops && decide (cntB ops.size ks (Array.replicate ops.size false) + ks.length = ops.size)
section
variable {P : Program} {Q : Exit → Act → World → Prop} {ops : Array Oper}
theorem sched7 {G : Array Bool → Act → World → Prop} (hs zs ks : List Nat) (chk : chk7 ops hs zs ks = true) (hQ : ∀ c a d v w, Q (.panic c) (a.put (some d) v) w → Q (.panic c) a w)
    (hhead : ∀ i, i ∈ hs → ∀ listed a w, listed.size = ops.size → G listed a w → i ∈ Region.ready .any ops listed → wpOp P ops Q i (fun a' w' => G (listed.setIfInBounds i true) a' w') a w)
    (hlazy : ∀ z ∈ zs, ∀ listed a w, G listed a w → z ∈ Region.ready .any ops listed → ∃ o v d, ops[z]? = some o ∧ o.dst = some d ∧ Yields P ops o v a ∧ G (listed.setIfInBounds z true) (a.put o.dst v) w)
    (fin : ∀ a w, G (fullB ops.size ks) a w → wpAny P .any ops Q ks.length (fullB ops.size ks) a w) :
    ∀ (f : Nat) (listed : Array Bool) (a : Act) (w : World), cntB ops.size ks listed = f → listed.size = ops.size → (∀ k ∈ ks, ∀ d, k < ops.size → listed.getD k d = false) → (∀ t o, ops[t]? = some o → listed.getD t false = true → ∀ e ∈ o.after, Region.binds .any e = true → listed.getD e.on false = true) → G listed a w → wpAny P .any ops Q (f + ks.length) listed a w := by
  simp only [chk7, Bool.and_eq_true, decide_eq_true_eq] at chk
  obtain ⟨⟨⟨⟨⟨⟨c1, c2⟩, c3⟩, c4⟩, c5⟩, c7⟩, _⟩ := chk
  have hc4 : ∀ j, j < ops.size → ks.contains j = false → (j ∈ hs ∨ j ∈ zs) ∧ ∃ o, ops[j]? = some o ∧ ∀ e ∈ o.after, Region.binds .any e = true → e.on < j ∧ ks.contains e.on = false := fun j hj hk => by
    have h := List.all_eq_true.1 c4 j (List.mem_range.2 hj)
    rw [hk, Bool.false_or] at h
    cases ho : ops[j]? with
    | none => rw [ho] at h; simp at h
    | some o =>
      rw [ho] at h
      simp only [Bool.and_eq_true, Bool.or_eq_true, decide_eq_true_eq, List.contains_iff_mem] at h
      refine ⟨h.1, o, rfl, fun e he hb => ?_⟩
      have := Array.all_eq_true_iff_forall_mem.1 h.2 e he
      simpa [hb] using this
  intro f
  induction f with
  | zero =>
    intro listed a w hf hls hks hcl hG
    have hl : listed = fullB ops.size ks := by
      apply Array.ext
      · rw [hls]; simp [fullB]
      · intro i h1 h2
        have hi : i < ops.size := by omega
        have key : listed.getD i true = (fullB ops.size ks).getD i true := by
          rw [fullB_get hi]
          by_cases hk : ks.contains i = true
          · rw [hk, hks i (List.contains_iff_mem.1 hk) true hi]; rfl
          · have hk' : ks.contains i = false := by simpa using hk
            have h3 := List.filter_eq_nil_iff.1 (List.length_eq_zero_iff.1 hf) i (List.mem_range.2 hi)
            rw [hk'] at h3 ⊢
            simpa using h3
        simpa [h1, h2] using key
    subst hl
    rw [Nat.zero_add]
    exact fin a w hG
  | succ f ih =>
    intro listed a w hf hls hks hcl hG
    rw [show f + 1 + ks.length = (f + ks.length) + 1 from by omega]
    -- the first that has not come up
    have hex : ∃ j, j < ops.size ∧ ks.contains j = false ∧ listed.getD j true = false ∧ ∀ k, k < j → ks.contains k = false → listed.getD k true = true := by
      have hne : ∃ j, (j < ops.size ∧ ks.contains j = false ∧ listed.getD j true = false) := by
        have h0 : ((List.range ops.size).filter fun j => !ks.contains j && !listed.getD j true) ≠ [] := fun h => by
          unfold cntB at hf; rw [h] at hf; simp at hf
        obtain ⟨j, hj⟩ := List.exists_mem_of_ne_nil _ h0
        have := List.mem_filter.1 hj
        simp only [Bool.and_eq_true, Bool.not_eq_true'] at this
        exact ⟨j, List.mem_range.1 this.1, this.2.1, this.2.2⟩
      obtain ⟨j, hj⟩ := hne
      induction j using Nat.strongRecOn with
      | _ j ihj =>
        by_cases hk : ∃ k, k < j ∧ ks.contains k = false ∧ listed.getD k true = false
        · obtain ⟨k, h1, h2, h3⟩ := hk
          exact ihj k h1 ⟨by omega, h2, h3⟩
        · refine ⟨j, hj.1, hj.2.1, hj.2.2, fun k h1 h2 => ?_⟩
          cases h : listed.getD k true
          · exact absurd ⟨k, h1, h2, h⟩ hk
          · rfl
    obtain ⟨j, hj1, hj2, hj3, hj4⟩ := hex
    have hjr : j ∈ Region.ready .any ops listed := by
      obtain ⟨_, o, ho, h⟩ := hc4 j hj1 hj2
      refine mem_ready.2 ⟨hj3, o, ho, fun e he hb => ?_⟩
      obtain ⟨h1, h2⟩ := h e he hb
      have h3 := hj4 e.on h1 h2
      have h4 : e.on < listed.size := by omega
      simp [h4] at h3 ⊢
      exact h3
    have next : ∀ i, i ∈ Region.ready .any ops listed → ks.contains i = false → ∀ a' w', G (listed.setIfInBounds i true) a' w' → wpAny P .any ops Q (f + ks.length) (listed.setIfInBounds i true) a' w' := fun i hi hk a' w' hG' => by
      obtain ⟨hil, o, ho, hall⟩ := mem_ready.1 hi
      have hlt := (Array.getElem?_eq_some_iff.1 ho).1
      have := cnt_set hlt hk hil
      refine ih _ a' w' (by omega) (by simp [hls]) (fun k hkm d hlt' => ?_) (fun t p hp ht e he hb => ?_) hG'
      rotate_left
      · by_cases hti : i = t
        · subst hti
          obtain rfl := Option.some.inj (ho.symm.trans hp)
          exact getD_set_true (hall e he hb)
        · rw [getD_set_any hti] at ht
          exact getD_set_true (hcl t p hp ht e he hb)
      rw [getD_set_any (fun e => by subst e; rw [List.contains_iff_mem.2 hkm] at hk; cases hk)]
      exact hks k hkm d hlt'
    by_cases hz : ∃ z, z ∈ zs ∧ z ∈ Region.ready .any ops listed
    · obtain ⟨z, hzs, hzr⟩ := hz
      have hc := List.all_eq_true.1 c2 z hzs
      simp only [Bool.and_eq_true, decide_eq_true_eq, Bool.not_eq_true'] at hc
      obtain ⟨o, v, dd, ho, hdd, hy, hG'⟩ := hlazy z hzs listed a w hG hzr
      obtain ⟨_, o', ho', hall⟩ := mem_ready.1 hzr
      obtain rfl := Option.some.inj (ho.symm.trans ho')
      refine wpAny_first ho (Region.noSelect_spec c7) (fun c a w hq => hQ c a dd v w (by rw [hdd] at hq; exact hq)) _ listed a w (fun k ok hk hkz hkl hno => ?_) hzr hy (next z hzr hc.1.2 _ w hG')
      have hfr := hc.2
      unfold freeS at hfr
      rw [ho] at hfr
      simp only [Bool.and_eq_true] at hfr
      have h1 := List.all_eq_true.1 hfr.2 k (List.mem_range.2 (Array.getElem?_eq_some_iff.1 hk).1)
      rw [hk] at h1
      simp only [Bool.or_eq_true, beq_iff_eq, hkz, false_or] at h1
      rcases h1 with (h1 | h1) | h1
      · obtain ⟨e, he, hb⟩ := Array.any_eq_true'.1 h1
        simp only [Bool.and_eq_true, beq_iff_eq] at hb
        exact absurd hb.2 (hno e he hb.1)
      · obtain ⟨e, he, hb⟩ := Array.any_eq_true'.1 h1
        simp only [Bool.and_eq_true, beq_iff_eq] at hb
        have h2 := hall e he hb.1
        rw [hb.2, getD_both hkl] at h2; cases h2
      · exact h1
    · have hjn : j ∈ hs := by
        rcases (hc4 j hj1 hj2).1 with h | h
        · exact h
        · exact absurd ⟨j, h, hjr⟩ hz
      refine ⟨fun h => (by rw [h] at hjr; cases hjr), fun i hi => ?_⟩
      obtain ⟨hil, o, ho, hall⟩ := mem_ready.1 hi
      have hlt := (Array.getElem?_eq_some_iff.1 ho).1
      have hik : ks.contains i = false := by
        cases hk : ks.contains i
        · rfl
        · have hge : i ∉ hs := by have := List.all_eq_true.1 c3 i (List.contains_iff_mem.1 hk); simpa using this
          have hmem : i ∈ Region.ready .any ops (downB ops j (List.range ops.size) (fullB ops.size ks)) := by
            refine mem_ready.2 ⟨downB_no _ _ (by rw [fullB_get hlt, hk]; rfl), o, ho, fun e he hb => ?_⟩
            refine downB_le (getD_both hj3) hcl _ _ (fun t ht => ?_) e.on (hall e he hb)
            have hlt2 : t < ops.size := by
              rcases Nat.lt_or_ge t listed.size with g | g
              · omega
              · simp [Array.getElem?_eq_none g] at ht
            rw [fullB_get hlt2]
            cases hk2 : ks.contains t
            · rfl
            · rw [hks t (List.contains_iff_mem.1 hk2) false hlt2] at ht; cases ht
          have h2 := List.all_eq_true.1 (List.all_eq_true.1 c5 j hjn) i hmem
          rw [hk] at h2; cases h2
      have hin : i ∈ hs := by
        rcases (hc4 i hlt hik).1 with h | h
        · exact h
        · exact absurd ⟨i, h, hi⟩ hz
      exact wpOp_mono (fun a' w' hG' => next i hi hik a' w' hG') (hhead i hin listed a w hls hG hi)
end
section
variable {P : Program} {F : Nat → Prop} {w0 : World} {m0 : List BS} {n : Nat} {L : List (Nat × Value)} {fs : List RF} {os : List OF} {Q : Exit → Act → World → Prop}
def zvals (Z : List Zop) (L : List (Nat × Value)) : List (Nat × Value) := match Z with
  | [] => L
  | z :: r => (z.d, z.v) :: zvals r L
def restOk (ops : Array Oper) (N : Nat) (L : List (Nat × Value)) (Z : List Zop) : Bool :=
  chk6 ops (List.range (N + 1)) (zix Z) [] &&
  Z.all (fun z => decide (N < z.i) && (look z.d L).isNone && (z.D.all fun d => Z.any fun y => y.d == d && match ops[z.i]? with | some o => waits o y.i | none => false) && Z.all fun y => y.i == z.i || y.d != z.d)
/-- what is left only computes -/
def PR (P : Program) (ops : Array Oper) (N : Nat) (Q : Exit → Act → World → Prop) (a : Act) (w : World) : Prop :=
  ∃ (F : Nat → Prop) (w0 : World) (m0 : List BS) (n : Nat) (L : List (Nat × Value)) (rs : List RF) (os : List OF) (Z : List Zop), St F w0 m0 n L rs os a w ∧ LZ5 P ops n L (zTd Z : List (Nat × Td (In ([] : List BS)))) Z ∧ restOk ops N L Z = true ∧ ∀ a', St F w0 m0 n (zvals Z L) rs os a' w → wpList P ops Q [] a' w
theorem zvals_slots {a : Act} : ∀ (Z : List Zop), Slots n L a → (∀ z ∈ Z, a.tmps.getD z.d undef = z.v) → Slots n (zvals Z L) a
  | [], s, _ => s
  | z :: r, s, h => (zvals_slots r s fun y hy => h y (List.mem_cons_of_mem _ hy)).ext (h z List.mem_cons_self)
theorem rest_wp {ops : Array Oper} {N : Nat} {listed : Array Bool} {a : Act} {w : World} (h : PR P ops N Q a w) (hsz : listed.size = ops.size) (hl : ∀ i, i < N + 1 → listed.getD i false = true) (hn : ∀ z, N < z → listed.getD z false = false) (hcl : ∀ t o, ops[t]? = some o → listed.getD t false = true → ∀ e ∈ o.after, Region.binds .any e = true → listed.getD e.on false = true) (hQ : ∀ c a d v w, Q (.panic c) (a.put (some d) v) w → Q (.panic c) a w) :
    wpAny P .any ops Q (cntB ops.size [] listed) listed a w := by
  obtain ⟨F, w0, m0, n, L, rs, os, Z, S, hz, hok, hfin⟩ := h
  simp only [restOk, Bool.and_eq_true] at hok
  obtain ⟨k1, k2⟩ := hok
  have hz2 : ∀ p ∈ Z, N < p.i ∧ look p.d L = none ∧ (∀ d ∈ p.D, ∃ y ∈ Z, y.d = d ∧ ∀ o, ops[p.i]? = some o → waits o y.i = true) ∧ ∀ y ∈ Z, y.i ≠ p.i → y.d ≠ p.d := fun p hp => by
    have h := List.all_eq_true.1 k2 p hp
    simp only [Bool.and_eq_true, decide_eq_true_eq, Option.isNone_iff_eq_none] at h
    obtain ⟨⟨⟨a1, a7⟩, a8⟩, a9⟩ := h
    refine ⟨a1, a7, fun d hd => ?_, fun y hy hne => ?_⟩
    · obtain ⟨y, hy, h⟩ := List.any_eq_true.1 (List.all_eq_true.1 a8 d hd)
      simp only [Bool.and_eq_true, beq_iff_eq] at h
      refine ⟨y, hy, h.1, fun o ho => ?_⟩
      rw [ho] at h; exact h.2
    · have := List.all_eq_true.1 a9 y hy
      simp only [Bool.or_eq_true, beq_iff_eq, bne_iff_ne] at this
      exact this.resolve_left hne
  have hput : ∀ (a : Act) (d d' : Nat) (v : Value), d ≠ d' → (a.put (some d) v).tmps.getD d' undef = a.tmps.getD d' undef := fun a d d' v h => by simp [Act.put, Array.getElem?_setIfInBounds_ne h]
  have key := sched6 (P := P) (Q := Q) (ops := ops) (G := fun listed a w => (∀ i, i < N + 1 → listed.getD i false = true) ∧ St F w0 m0 n L rs os a w ∧ (∀ a', St F w0 m0 n (zvals Z L) rs os a' w → wpList P ops Q [] a' w) ∧ ∀ p ∈ Z, listed.getD p.i false = true → a.tmps.getD p.d undef = p.v) (List.range (N + 1)) (zix Z) [] [] rfl k1 hQ ?_ ?_ ?_ (cntB ops.size [] listed) listed a w rfl hsz (fun k hk => by cases hk) hcl ⟨hl, S, hfin, fun p hp h => by rw [hn _ (hz2 p hp).1] at h; cases h⟩
  · exact key
  · intro i hi listed a1 w1 _ hG hr
    obtain ⟨hil, _⟩ := mem_ready.1 hr
    have := hG.1 i (List.mem_range.1 hi)
    rw [getD_both hil] at this; cases this
  · intro zi hzi listed a1 w1 hG hr
    obtain ⟨g0, g6, gf, g1⟩ := hG
    obtain ⟨hil, o, ho, hall⟩ := mem_ready.1 hr
    obtain ⟨p, hp, rfl⟩ := zix_mem hzi
    obtain ⟨⟨o', ho', hgo, hod, hrun⟩, hpd, _⟩ := hz.get p hp
    obtain rfl := Option.some.inj (ho.symm.trans ho')
    obtain ⟨n1, n7, n8, n9⟩ := hz2 p hp
    have hwt : ∀ k, waits o k = true → listed.getD k false = true := fun k hk => by
      obtain ⟨e, he, hb⟩ := Array.any_eq_true'.1 hk
      simp only [Bool.and_eq_true, beq_iff_eq] at hb
      rw [← hb.2]; exact hall e he hb.1
    have hlk : ∀ {y : Zop}, y ∈ Z → lookT y.d (zTd Z : List (Nat × Td (In ([] : List BS)))) = some (.is y.v) := fun hy => (hz.get _ hy).2.2
    have hdp : ∀ w1 D, (∀ d ∈ D, d ∈ p.D) → deps (tq (zTd Z : List (Nat × Td (In ([] : List BS))))) a1 w1 D := by
      intro w1 D
      induction D with
      | nil => intro _; trivial
      | cons d r ih =>
        intro hs
        refine ⟨?_, ih fun d hd => hs d (List.mem_cons_of_mem _ hd)⟩
        obtain ⟨y, hy, rfl, hyw⟩ := n8 d (hs d List.mem_cons_self)
        rw [look_tq (hlk hy)]
        exact g1 y hy (hwt _ (hyw _ ho))
    refine ⟨o, p.v, p.d, ho, hod, .inl ⟨by simp [Region.wanted, hgo], fun w' => hrun a1 w' (deps_open g6.s p.D (hdp w' p.D fun d hd => hd)).1⟩, fun i hi => ?_, ?_, gf, fun y hy hyz => ?_⟩
    · rw [getD_set_ne false (by omega)]; exact g0 i hi
    · rw [hod]; exact ⟨g6.s.put_ne n7, g6.m⟩
    · by_cases hyp : y.i = p.i
      · obtain ⟨⟨oy, hoy, _, hoyd, _⟩, _, hly⟩ := hz.get y hy
        rw [hyp] at hoy
        obtain rfl := Option.some.inj (ho.symm.trans hoy)
        have hyd : p.d = y.d := Option.some.inj (hod.symm.trans hoyd)
        rw [← hyd, hlk hp] at hly
        have hv : p.v = y.v := by injection Option.some.inj hly
        rw [← hyd, hod, getD_put a1 p.d p.d p.v (by rw [g6.s.size]; exact hpd), if_pos rfl, hv]
      · rw [hod, hput _ _ _ _ (Ne.symm (n9 y hy hyp))]
        rw [getD_set_ne false (Ne.symm hyp)] at hyz; exact g1 y hy hyz
  · intro a1 w1 hG
    obtain ⟨g0, g6, gf, g1⟩ := hG
    refine gf a1 ⟨zvals_slots Z g6.s fun z hz' => ?_, g6.m⟩
    refine g1 z hz' ?_
    obtain ⟨⟨o', ho', _⟩, _⟩ := hz.get z hz'
    rw [fullB_get (Array.getElem?_eq_some_iff.1 ho').1]; rfl
theorem drC {id : Nat} {a : Act} {w : World} {l : List Oper} {t1 : Oper} (S : St F w0 m0 n L fs os a w) (N : Nat) (chg : List BS) (E : List (Nat × Td (In chg))) (Ds : List (List Nat)) (outs : List Nat)
    (step : HS P l.toArray Q F w0 w m0 n L fs os E 0 (l.take N) Ds)
    (main : ∀ a w', St F w0 m0 n (cat (vals E outs) L) fs os a w' → Ch (In chg) w w' → pdeps E a w' outs → t1.wp P a w' (PR P l.toArray N Q) Q)
    (ht1 : l.toArray[N]? = some t1 := by rfl) (hg1 : t1.guard = none := by rfl) (hm : P.follows .mixedOrders = true := by exact mixed)
    (hok : (headOk l.toArray N && depsOk l.toArray N 0 Ds && keysOk l.toArray N L && outsOk l.toArray N outs && chk7 l.toArray (List.range N) [] (List.range' N (l.length - N)) && decide (N < l.length) && decide (Region.ready .any l.toArray (fullB l.length (List.range' N (l.length - N))) = [N]) && decide (cntB l.length [] ((fullB l.length (List.range' N (l.length - N))).setIfInBounds N true) = l.length - N - 1) && (List.range (N + 1)).all fun t => match l.toArray[t]? with | some o => o.after.all (fun e => !Region.binds .any e || decide (e.on < N + 1)) | none => false) = true := by kernel_rfl) (hlen : Ds.length = N := by rfl)
    (hQ : ∀ c a d v w, Q (.panic c) (a.put (some d) v) w → Q (.panic c) a w := by exact fun _ _ _ _ _ h => h) : (Code.region id l.toArray true).wp P Q a w := by
  simp only [Bool.and_eq_true, decide_eq_true_eq] at hok
  obtain ⟨⟨⟨⟨⟨⟨⟨⟨h1, h2⟩, h3⟩, h4⟩, h5⟩, hNl⟩, hrd⟩, hcnt⟩, hcl⟩ := hok
  have hsz : l.toArray.size = l.length := by simp
  have h5' := h5
  simp only [chk7, Bool.and_eq_true, decide_eq_true_eq] at h5'
  obtain ⟨⟨⟨⟨⟨⟨_, _⟩, _⟩, _⟩, _⟩, _⟩, c8⟩ := h5'
  have hlr : (List.range' N (l.length - N)).length = l.length - N := by simp
  let G : Array Bool → Act → World → Prop := fun listed a w2 => Ch (In chg) w w2 ∧ Mm F w0 m0 fs os w2 ∧ Slots n L a ∧ ∀ j, j < N → listed.getD j false = true → ∀ o d, l.toArray[j]? = some o → o.dst = some d → lookE (tq E) d (a.tmps.getD d undef) w2
  have hstart : G (Array.replicate l.length false) a { w with drawn := w.drawn + 1 } :=
    ⟨(Ch.refl _).drew, S.m.drew, ⟨S.s.size, S.s.defers, S.s.get⟩, fun j _ hl => by rw [getD_replicate_false] at hl; cases hl⟩
  have hput : ∀ (a : Act) (o : Oper) (v : Value) d, o.dst ≠ some d → (a.put o.dst v).tmps.getD d undef = a.tmps.getD d undef := fun a o v d hd => by
    cases hod : o.dst with
    | none => rfl
    | some d' =>
      have : d' ≠ d := fun e => hd (by rw [hod, e])
      simp [Act.put, Array.getElem?_setIfInBounds_ne this]
  refine wp_region_any hm ?_
  have hc8 : cntB l.toArray.size (List.range' N (l.length - N)) (Array.replicate l.toArray.size false) + (List.range' N (l.length - N)).length = l.toArray.size := c8
  suffices key : wpAny P .any l.toArray Q (cntB l.toArray.size (List.range' N (l.length - N)) (Array.replicate l.toArray.size false) + (List.range' N (l.length - N)).length) (Array.replicate l.toArray.size false) a { w with drawn := w.drawn + 1 } by
    rw [hc8] at key; exact key
  refine sched7 (G := G) (List.range N) [] (List.range' N (l.length - N)) h5 hQ ?_ (fun z hz => by cases hz) ?_ _ _ a _ rfl (by simp) (fun k hk d hlt => by simp [show k < l.length from by simpa using hlt]) (fun t _ _ ht => by rw [getD_replicate_false] at ht; cases ht) hstart
  · intro i hi listed a1 w1 hls hG hr
    obtain ⟨hil, o, ho, hall⟩ := mem_ready.1 hr
    obtain ⟨hC, hM, s, hdone⟩ := hG
    have hi := List.mem_range.1 hi
    obtain ⟨o', D, e1, e2, h⟩ := steps_get (l.take N) Ds 0 i (by omega) (by simp; omega) (HS.steps _ _ _ step)
    obtain rfl : o' = o := by
      rw [List.getElem?_take_of_lt hi] at e1
      have : l.toArray[i]? = l[i]? := by simp
      rw [this, e1] at ho
      exact Option.some.inj ho
    have hdep : ∀ D', (∀ d ∈ D', d ∈ D) → deps (tq E) a1 w1 D' := by
      intro D'
      induction D' with
      | nil => intro _; trivial
      | cons d r ih =>
        intro hsub
        refine ⟨?_, ih fun d hd => hsub d (List.mem_cons_of_mem _ hd)⟩
        have hget : ∀ (Ds : List (List Nat)) (k i : Nat), depsOk l.toArray N k Ds = true → Ds[i]? = some D → ∃ o, l.toArray[k + i]? = some o ∧ ∀ d ∈ D, d ∈ o.looksAt l.toArray ∧ isHead l.toArray N d = true := by
          intro Ds
          induction Ds with
          | nil => intro k i _ h; simp at h
          | cons D0 Ds ih =>
            intro k i hk hi
            simp only [depsOk, Bool.and_eq_true] at hk
            cases i with
            | zero =>
              obtain rfl : D0 = D := by simpa using hi
              cases hp : l.toArray[k]? with
              | none => rw [hp] at hk; cases hk.1
              | some p =>
                rw [hp] at hk
                refine ⟨p, rfl, fun d hd => ?_⟩
                have := List.all_eq_true.1 hk.1 d hd
                simpa [Bool.and_eq_true, List.contains_iff_mem] using this
            | succ i =>
              obtain ⟨o, g1, g2⟩ := ih (k + 1) i hk.2 (by simpa using hi)
              exact ⟨o, by rw [show k + (i + 1) = k + 1 + i from by omega]; exact g1, g2⟩
        obtain ⟨o2, g1, g2⟩ := hget Ds 0 i h2 e2
        rw [Nat.zero_add, ho] at g1
        obtain rfl := Option.some.inj g1
        obtain ⟨g3, g4⟩ := g2 d (hsub d List.mem_cons_self)
        obtain ⟨j, p, g5, g6, g7⟩ := isHead_spec g4
        have q1 := List.all_eq_true.1 h1 i (List.mem_range.2 hi)
        simp only [ho, Bool.and_eq_true] at q1
        have q2 := List.all_eq_true.1 q1.2 j (List.mem_range.2 g5)
        simp only [g6, g7, Bool.and_eq_true, Bool.or_eq_true, Bool.not_eq_true'] at q2
        rcases q2.2 with q3 | q3
        · rw [List.contains_eq_mem] at q3
          simp [g3] at q3
        · obtain ⟨e, he, hb⟩ := Array.any_eq_true'.1 q3
          simp only [Bool.and_eq_true, beq_iff_eq] at hb
          exact hdone j g5 (by rw [← hb.2]; exact hall e he hb.1) p d g6 g7
    have h' := h a1 w1 hC hM s (hdep D fun d hd => hd)
    rw [Nat.zero_add] at h'
    refine wpOp_mono ?_ h'
    rintro a' w2 ⟨⟨v, rfl, hd'⟩, hc, hi'⟩
    have hkey : ∀ i0 v, look i0 L = some v → o'.dst ≠ some i0 := fun i0 v hv hd => by
      have := List.all_eq_true.1 h3 _ (look_mem hv)
      have h : isHead l.toArray N i0 = true := List.any_eq_true.2 ⟨i, List.mem_range.2 hi, by rw [ho]; simp [hd]⟩
      rw [h] at this; cases this
    refine ⟨hC.same hc, hi', ⟨by cases o'.dst <;> simp [Act.put, s.size], by cases o'.dst <;> simp [Act.put, s.defers], fun j u hu => by rw [hput a1 o' v j (hkey j u hu)]; exact s.get j u hu⟩, fun j hj hl p e hp he => ?_⟩
    by_cases hji : j = i
    · subst hji
      obtain rfl : o' = p := Option.some.inj (ho.symm.trans hp)
      obtain ⟨k1, k2⟩ := hd' e he
      rw [he, getD_put a1 e e v (by rw [s.size]; exact k1), if_pos rfl]; exact k2
    · rw [getD_set_ne false (Ne.symm hji)] at hl
      have hne : o'.dst ≠ some e := fun h => by
        have q1 := List.all_eq_true.1 h1 i (List.mem_range.2 hi)
        simp only [ho, Bool.and_eq_true] at q1
        have q2 := List.all_eq_true.1 q1.2 j (List.mem_range.2 hj)
        simp only [hp, he, h] at q2
        simp [hji, Ne.symm hji] at q2
      rw [hput a1 o' v e hne]
      exact lookE_st _ e _ _ _ hc (hdone j hj hl p e hp he)
  · intro a1 w1 hG
    obtain ⟨hC, hM, s, hdone⟩ := hG
    have hdeps : ∀ D, (∀ d ∈ D, d ∈ outs) → deps (tq E) a1 w1 D := by
      intro D
      induction D with
      | nil => intro _; trivial
      | cons d r ih =>
        intro hsub
        refine ⟨?_, ih fun d hd => hsub d (List.mem_cons_of_mem _ hd)⟩
        obtain ⟨j, p, g5, g6, g7⟩ := isHead_spec (List.all_eq_true.1 h4 d (hsub d List.mem_cons_self))
        refine hdone j g5 ?_ p d g6 g7
        rw [fullB_get (by omega)]
        cases hk : (List.range' N (l.length - N)).contains j
        · rfl
        · have := List.contains_iff_mem.1 hk
          simp at this; omega
    obtain ⟨k1, k2⟩ := deps_open s outs (hdeps outs fun d hd => hd)
    have hmain := main a1 w1 ⟨k1, hM⟩ hC k2
    rw [hlr, show l.length - N = (l.length - N - 1) + 1 from by omega, hsz]
    rw [hsz] at *
    refine ⟨fun h => (by rw [show l.length - N - 1 + 1 = l.length - N from by omega] at h; rw [hrd] at h; cases h), fun i hi => ?_⟩
    rw [show l.length - N - 1 + 1 = l.length - N from by omega] at hi ⊢
    rw [hrd] at hi
    obtain rfl := List.mem_singleton.1 hi
    refine wpOp_mono (fun a' w' hK => ?_) (head_op ht1 hg1 hmain)
    have hfl : ∀ j, j < l.length → (fullB l.length (List.range' i (l.length - i))).getD j false = decide (j < i) := fun j hj => by
      rw [fullB_get hj]
      by_cases h : j < i
      · rw [decide_eq_true h]
        cases hk : (List.range' i (l.length - i)).contains j
        · rfl
        · have := List.contains_iff_mem.1 hk
          simp at this; omega
      · rw [decide_eq_false h]
        have : (List.range' i (l.length - i)).contains j = true := List.contains_iff_mem.2 (by simp; omega)
        rw [this]; rfl
    have hfs : (fullB l.length (List.range' i (l.length - i))).size = l.length := by simp [fullB]
    have hg : ∀ j, ((fullB l.length (List.range' i (l.length - i))).setIfInBounds i true).getD j false = decide (j < i + 1) := fun j => by
      by_cases hj : j = i
      · subst hj; simp [hfs, hNl]
      · rw [getD_set_ne false (Ne.symm hj)]
        by_cases hlt : j < l.length
        · rw [hfl j hlt]
          by_cases q : j < i
          · rw [decide_eq_true q, decide_eq_true (by omega)]
          · rw [decide_eq_false q, decide_eq_false (by omega)]
        · rw [Array.getD_eq_getD_getElem?, Array.getElem?_eq_none (by omega), decide_eq_false (by omega)]; rfl
    have := rest_wp hK (listed := (fullB l.length (List.range' i (l.length - i))).setIfInBounds i true) (by simp [hfs]) (fun j hj => by rw [hg]; exact decide_eq_true hj) (fun z hz => by rw [hg]; exact decide_eq_false (by omega)) (fun t o ho ht e he hb => ?_) hQ
    · rw [show l.toArray.size = l.length from by simp, hcnt] at this; exact this
    · rw [hg] at ht ⊢
      have := List.all_eq_true.1 hcl t (List.mem_range.2 (of_decide_eq_true ht))
      rw [ho] at this
      have h2 := Array.all_eq_true_iff_forall_mem.1 this e he
      rw [hb] at h2
      simpa using h2
end
end Go.Proofs.Ytobggnpnochnnaa.V
namespace Go.Proofs.Ytobggnpnochnnaa.V
open Go.RowKit Go.Proofs.Ytobggnpnochnnaa
set_option linter.unusedVariables false
set_option linter.unusedSimpArgs false
theorem app_good {n : Int} {k : Nat} {r : Rec} (hk : k < 4096) : appE n k r = 0 ↔ ((if recOK r then (0 : Int) else 1) = 0 ∧ r.dev < n) := by
 unfold appE
 by_cases h : recOK r
 ·by_cases h2 : n ≤ r.dev
  ·rw [if_pos (.inr h2), if_pos h]; exact ⟨fun h => (by cases h), fun h => (by omega)⟩
  rw [if_neg (fun q => q.elim (fun q => q h) h2), if_neg (by omega), if_pos h]; exact ⟨fun _ => ⟨rfl, by omega⟩, fun _ => rfl⟩
 rw [if_pos (.inl h), if_neg h]; exact ⟨fun h => (by cases h), fun h => (by cases h.1)⟩
set_option maxHeartbeats 2000000 in
set_option maxRecDepth 20000 in
theorem lKeeps (w : World) (F : Nat → Prop) (hF : Old F w) (M : MS [] w) (l : Sl Int) (l_w : (slE intE).wf (Fr F []) w.heap l) (keep : Int) (keep_h : inI64 keep) :
 Calls Try.prog 7 #[sV l, iI keep] w fun e w' => e = .returned (bD (True)) ∧ Tr [] w [] w' := by
 have : l.xs.length ≤ 9223372036854775807 := (l_w).1.len
 obtain ⟨keep_hl, keep_hu⟩ : inI64 keep := id keep_h
 refine go Try.func7 rfl 158 rfl [wfF (slE intE) l] [] hF M ⟨l_w, trivial⟩ trivial ?_
 intro a S
 have hD : ∀ k, In ([] : List BS) k → ¬ F k := fun _ h => h.elim
 refine rs S (la (av rfl)) ?_; clear S; intro a u S
 refine rs0 ?_
 refine sp S (la (mv rfl)) ?_; clear S; intro a u S
 refine cl S (gNew _ _ S.x (.nil _) l (dn0 (S.u 0 rfl))) cB19 ?_
 rintro e u ⟨T26, rfl, TK, T0⟩; refine ⟨_, rfl, fun a s => ?_⟩; replace S := S.kt s T0 TK; clear s T0 TK
 refine ens S (la (av rfl)) ?_; clear S; intro a u S
 refine rs0 ?_
 refine sp S (la (mv rfl)) ?_; clear S; intro a u S
 refine cl S (gNext _ _ S.x T26 (S.M.pick [0] (by decide)) l (dn1 (js := [0]) (S.u 0 rfl)) (S.t 0 rfl) 4 ⟨by omega, by omega⟩) cB26 ?_
 rintro e u ⟨r_t28, rfl, hr_t28, tK, T0⟩; refine ⟨_, rfl, fun a s => ?_⟩
 replace S := S.k1 0 rfl s T0 tK; clear s T0 tK
 refine sp S (tr (addi (1 + r_t28) rfl rfl (w_i64 (by omega)))<|la (av rfl)) ?_; clear S; intro a u S
 obtain ⟨n, hn⟩ : ∃ z : Int, z = (1 + r_t28) := ⟨_, rfl⟩
 rw [← hn] at S
 refine ent (rs0 ?_)
 refine sp S (tr (mv rfl)<|la (mv rfl)) ?_; clear S; intro a u S
 refine cl S (gPlan _ _ S.x T26 (S.M.pick [0] (by decide)) l (dn1 (js := [0]) (S.u 0 rfl)) (S.t 0 rfl) n ⟨by omega, by omega⟩ (⟨by omega, by omega⟩)) cB30 ?_
 rintro e u ⟨r_t32, rfl, R_t32, hr_t32, tK, T0⟩; refine ⟨_, rfl, fun a s => ?_⟩
 replace S := (S.k1 0 rfl s T0 tK).ar (wfF planE r_t32) (Enc.up _ R_t32); clear s T0 tK R_t32
 obtain ⟨hgd, hp3, hpne⟩ := hr_t32
 have hn5 : r_t32.rounds.xs.length ≤ 9223372036854775807 := ((S.u 1 rfl).2).1.len
 refine nbp S (x_allocz _ iZ47 rfl) ?_; clear S; intro a u b7 S
 refine ens S (la (stkw 1 rfl rfl rfl)) ?_; clear S; intro a u S
 refine rs0 ?_
 refine sp S (tr (ldkw 1 rfl rfl wD47)<|la (mv rfl)) ?_; clear S; intro a u S
 refine cl S (jNew _ _ (S.xx (ow []))  (S.mF (ks := [tpO 112 T26 l, blO b7 (planE.cells r_t32) 47]) (fs := [])) (S.nfF (ks := [tpO 112 T26 l, blO b7 (planE.cells r_t32) 47]) (fs := []) hD) r_t32 (dnF (ks := [tpO 112 T26 l, blO b7 (planE.cells r_t32) 47]) (fs := []) (S.u 1 rfl)) n ⟨by omega, by omega⟩ (by first | omega | (dsimp only; omega))) cB33 ?_
 rintro e u ⟨q_t36, rfl, qK_t36, qB_t36, hr_t36, T0⟩; refine ⟨_, rfl, fun a s => ?_⟩
 have S2 := S.kF (ks := [tpO 112 T26 l, blO b7 (planE.cells r_t32) 47]) (fs := []) [bnO (lgQ q_t36)] s T0 ⟨qB_t36, trivial⟩ ⟨(mo_bn (mo_lgQ _)), trivial⟩
 replace S2 := (show St _ _ _ _ _ _ [tpO 112 T26 l, blO b7 (planE.cells r_t32) 47, bnO (lgQ q_t36)] _ _ from S2)
 clear S; have S := S2; clear S2 s T0 qB_t36
 rcases q_t36 with _ | ⟨B_t36, x_t36⟩
 ·exact absurd (hr_t36.1.2 hgd) (by decide)
 replace S := (show St _ _ _ _ _ _ [tpO 112 T26 l, blO b7 (planE.cells r_t32) 47, bnO (lgF B_t36 x_t36)] _ _ from S)
 have hLA : LogAt _ _ _ x_t36 _ := hr_t36.2 _ rfl
 refine ens S (tr (mv rfl)<|tr (exi rfl rfl)<|tr (exi rfl rfl)<|tr (av rfl)<|la (av rfl)) ?_; clear S; intro a u S
 refine wp_seq ?_
 refine rs S (tr (mv rfl)<|tr (neqi rfl rfl)<|tr (mv rfl)<|tr (gon 41 rfl fun S=>x_move (S.e rfl))<|tr (gon 41 rfl fun S=>x_peqN uT52 (S.e rfl) (S.e rfl))<|la (ov fun S=>x_pickf (S.e rfl) (S.e rfl))) ?_; clear S; intro a u S
 refine cdf S rfl ?_
 refine wp_skip (then_n ?_)
 refine rs S (la (av rfl)) ?_; clear S; intro a u S
 refine rs S (la (av rfl)) ?_; clear S; intro a u S
 refine wp_seq ?_
 refine rs S (la (av rfl)) ?_; clear S; intro a u S
 refine wp_block ?_
 replace S := S.nr recE 24
 replace S := S.nr u8E 5
 refine lp8 (fun (i : Nat) (gj : Lg) (ls_a : Option Addr) (ls_c : Nat) (ls : List Rec) (bs_a : Option Addr) (bs_c : Nat) (bs : List Int) => [(1, iI keep), (5, pT T26 0), (6, iI n), (7, pT b7 0), (8, pT B_t36 0), (12, iN i), (10, .slice ls_a ls.length ls_c), (11, .slice bs_a bs.length bs_c)]) (fun (i : Nat) (gj : Lg) (ls_a : Option Addr) (ls_c : Nat) (ls : List Rec) (bs_a : Option Addr) (bs_c : Nat) (bs : List Int) => [tpO 112 T26 l, blO b7 (planE.cells r_t32) 47, bnO (lgF B_t36 gj), rwO recE 24 w.heap.size ls_a ls_c ls, rwO u8E 5 w.heap.size bs_a bs_c bs]) (fun (i : Nat) (gj : Lg) (ls_a : Option Addr) (ls_c : Nat) (ls : List Rec) (bs_a : Option Addr) (bs_c : Nat) (bs : List Int) => lgK gj ∧ (i ≤ 10 ∧ LogAt (rdsP r_t32) (stsD (statesP r_t32.staged (rdsP r_t32) n)) n gj ls ∧ bs = bytesJ ls ∧ ls.length ≤ i)) (fun (i : Nat) (gj : Lg) (ls_a : Option Addr) (ls_c : Nat) (ls : List Rec) (bs_a : Option Addr) (bs_c : Nat) (bs : List Int) => 10 - i) S 0 x_t36 none 0 ([]) none 0 ([]) (subM rfl) rfl ?_ ?_
 ·refine ⟨qK_t36, ?_⟩
  exact ⟨Nat.zero_le _, hLA, rfl, Nat.le_refl _⟩
 clear S; intro i gj ls_a ls_c ls bs_a bs_c bs a u S hR
 have ls_len := (S.row 3 rfl).len_le; simp only [maxLen] at ls_len
 have bs_len := (S.row 4 rfl).len_le; simp only [maxLen] at bs_len
 obtain ⟨hk_gj, hR⟩ := hR
 obtain ⟨hi, hA, hbs, hll⟩ := hR
 have hOK := hA.ma.ok
 have hsn := hA.ma.sn
 have htg := hA.ma.tg
 have hlb := hA.lb
 have hls := congrArg List.length hA.ls
 have hbl : bs.length = 14 * ls.length := by rw [hbs]; exact bytesJ_lenOK (allJ_ok hA.ma.al)
 refine wp_seq ?_
 refine rs S (tr (mv rfl)<|la (lssi rfl rfl)) ?_; clear S; intro a u S
 refine cd S rfl ?_ ?_
 ·intro hc0
  refine wp_skip (then_n (wp_seq (wp_block (rs0 ?_))))
  refine sp S (tr (mv rfl)<|la (mv rfl)) ?_; clear S; intro a u S
  refine cl S (lRecord _ _ S.x T26 (S.M.pick [0] (by decide)) l (dn1 (js := [0]) (S.u 0 rfl)) (S.t 0 rfl) n ⟨by omega, by omega⟩) cB20 ?_
  rintro e u ⟨r_t51, rfl, R_t51, tK, T0⟩; refine ⟨_, rfl, fun a s => ?_⟩
  replace S := (S.k1 0 rfl s T0 tK).ar (wfF recE r_t51) (Enc.up _ R_t51); clear s T0 tK R_t51
  obtain ⟨hl13, hu13⟩ : inI64 r_t51.kind := id ((S.u 2 rfl).1)
  obtain ⟨hl14, hu14⟩ : inI64 r_t51.dev := id ((S.u 2 rfl).2.1)
  obtain ⟨hl15, hu15⟩ : inI64 r_t51.inc := id ((S.u 2 rfl).2.2.1)
  obtain ⟨hl16, hu16⟩ : inI64 r_t51.seq := id ((S.u 2 rfl).2.2.2)
  refine nbp S (x_allocz _ iZ24 rfl) ?_; clear S; intro a u b13 S
  refine ens S (la (stkw 5 rfl rfl rfl)) ?_; clear S; intro a u S
  refine rs0 ?_
  refine sp S (la (ldkw 5 rfl rfl wD24)) ?_; clear S; intro a u S
  refine cl S (rEncode _ _ S.x (.nil _) r_t51 (dn0 (S.u 2 rfl))) cB22 ?_
  rintro e u ⟨ra_t540, rc_t540, rfl, R_t540, T0⟩; refine ⟨_, rfl, fun a s => ?_⟩
  replace S := S.kr [⟨_, u8E, 5, ra_t540, rc_t540, (if recOK r_t51 then encR r_t51 else [])⟩] s T0 ⟨R_t540, trivial⟩; clear s T0 R_t540
  have hel := enc_len r_t51
  refine ens S (tr (mv rfl)<|tr (exi rfl rfl)<|tr (exi rfl rfl)<|tr (av rfl)<|la (av rfl)) ?_; clear S; intro a u S
  refine rs S (tr (mv rfl)<|tr (eqli rfl rfl)<|tr (mv rfl)<|tr (og 59 rfl gt fun S hg=>xf (0) 1 uT24 (S.e rfl))<|tr (og 59 rfl gt fun S hg=>x_load sC3 (S.p rfl hg) ((S.k 5 rfl).cell (j := 1) rfl))<|tr (og 59 rfl gt fun S hg=>x_move (S.e rfl))<|tr (og 59 rfl gt fun S hg=>x_lss (S.p rfl hg) (S.p rfl hg))<|tr (andi rfl rfl rfl)<|la (av rfl)) ?_; clear S; intro a u S
  refine wp_seq (rs0 ?_)
  refine sp S (tr (mv rfl)<|la (ldkw 5 rfl rfl wD24)) ?_; clear S; intro a u S
  replace S := S.pk [0, 1, 3, 4, 5, 6, 2] (os' := [tpO 112 T26 l, blO b7 (planE.cells r_t32) 47, rwO recE 24 w.heap.size ls_a ls_c ls, rwO u8E 5 w.heap.size bs_a bs_c bs, blO b13 (recE.cells r_t51) 24, rwO u8E 5 w.heap.size ra_t540 rc_t540 (if recOK r_t51 then encR r_t51 else []), bnO (lgF B_t36 gj)])
  refine cl S (jAppend _ _ (S.xx (ow [bnO (lgF B_t36 gj)])) B_t36 gj (S.mF (ks := [tpO 112 T26 l, blO b7 (planE.cells r_t32) 47, rwO recE 24 w.heap.size ls_a ls_c ls, rwO u8E 5 w.heap.size bs_a bs_c bs, blO b13 (recE.cells r_t51) 24, rwO u8E 5 w.heap.size ra_t540 rc_t540 (if recOK r_t51 then encR r_t51 else [])]) (fs := [bnO (lgF B_t36 gj)])) (S.nfF (ks := [tpO 112 T26 l, blO b7 (planE.cells r_t32) 47, rwO recE 24 w.heap.size ls_a ls_c ls, rwO u8E 5 w.heap.size bs_a bs_c bs, blO b13 (recE.cells r_t51) 24, rwO u8E 5 w.heap.size ra_t540 rc_t540 (if recOK r_t51 then encR r_t51 else [])]) (fs := [bnO (lgF B_t36 gj)]) hD) hk_gj (S.dF (ks := [tpO 112 T26 l, blO b7 (planE.cells r_t32) 47, rwO recE 24 w.heap.size ls_a ls_c ls, rwO u8E 5 w.heap.size bs_a bs_c bs, blO b13 (recE.cells r_t51) 24, rwO u8E 5 w.heap.size ra_t540 rc_t540 (if recOK r_t51 then encR r_t51 else [])]) (fs := [bnO (lgF B_t36 gj)]) 0 rfl (mo_bn (mo_lg _ _))) r_t51 (dnF (ks := [tpO 112 T26 l, blO b7 (planE.cells r_t32) 47, rwO recE 24 w.heap.size ls_a ls_c ls, rwO u8E 5 w.heap.size bs_a bs_c bs, blO b13 (recE.cells r_t51) 24, rwO u8E 5 w.heap.size ra_t540 rc_t540 (if recOK r_t51 then encR r_t51 else [])]) (fs := [bnO (lgF B_t36 gj)]) (S.u 2 rfl)) (⟨by first | assumption | exact hOK, by first | omega | assumption, by first | omega | assumption⟩)) cB34 ?_
  rintro e u ⟨jl_t67, rfl, hk_jl_t67, hK_jl_t67, hq_jl_t67, T0⟩; refine ⟨_, rfl, fun a s => ?_⟩
  have S2 := S.kF (ks := [tpO 112 T26 l, blO b7 (planE.cells r_t32) 47, rwO recE 24 w.heap.size ls_a ls_c ls, rwO u8E 5 w.heap.size bs_a bs_c bs, blO b13 (recE.cells r_t51) 24, rwO u8E 5 w.heap.size ra_t540 rc_t540 (if recOK r_t51 then encR r_t51 else [])]) (fs := [bnO (lgF B_t36 gj)]) [bnO (lgF B_t36 jl_t67)] s T0 ⟨hK_jl_t67, trivial⟩ ⟨(mo_bn (mo_lg _ _)), trivial⟩
  replace S2 := (show St _ _ _ _ _ _ [tpO 112 T26 l, blO b7 (planE.cells r_t32) 47, rwO recE 24 w.heap.size ls_a ls_c ls, rwO u8E 5 w.heap.size bs_a bs_c bs, blO b13 (recE.cells r_t51) 24, rwO u8E 5 w.heap.size ra_t540 rc_t540 (if recOK r_t51 then encR r_t51 else []), bnO (lgF B_t36 jl_t67)] _ _ from S2)
  clear S; have S := S2; clear S2 s T0 hK_jl_t67
  refine ens S (tr (eqli rfl rfl)<|tr (mv rfl)<|la (ov fun S=>x_bpneq uT4 (S.e rfl) (S.e rfl))) ?_; clear S; intro a u S
  refine cd S rfl ?_ ?_
  ·intro hc1
   refine rs S (la (av rfl)) ?_; clear S; intro a u S
   refine wp_ret (then_r (blk_r (then_r (then_r (blk_r (then_r ?_))))))
   refine ret1 rfl S.s rfl ?_
   replace S := S.pk []
   refine ⟨(r1 (vf ?_)), S.m.c⟩
   intro _
   refine hc1 ?_
   rw [htg, hls]
   exact app_good (by omega)
  intro hc2
  refine wp_skip (then_n ?_)
  refine rs S (la (mv rfl)) ?_; clear S; intro a u S
  refine cd S rfl ?_ ?_
  ·intro hc3
   refine r0 ?_
   refine sp S (tr (mv rfl)<|la (ldkw 4 rfl rfl wD24)) ?_; clear S; intro a u S
   refine nbs recE S [r_t51] (x_bs S [(0, .agg (recE.cells r_t51).toArray)] uT32 iZ24) (fun x hx => by simp only [List.mem_cons, List.not_mem_nil, or_false] at hx; rw [hx]; exact (show recE.wf _ _ r_t51 from ⟨(S.u 2 rfl).1, (S.u 2 rfl).2.1, (S.u 2 rfl).2.2.1, (S.u 2 rfl).2.2.2⟩)) ?_; clear S; intro a u b74 S
   refine ap (E := recE) (ys := [r_t51]) S 2 rfl uT32 iZ24 rfl rfl (show LAt recE _ _ (some ⟨b74, 0, none⟩) ([r_t51]) from ((S.u 3 rfl)).1) ((S.u 3 rfl)).2.2 (LAt.mem (show LAt recE _ _ (some ⟨b74, 0, none⟩) ([r_t51]) from ((S.u 3 rfl)).1)) ⟨by unfold maxLen; (try simp only [List.length_cons, List.length_nil, List.length_append, List.length_map]); omega, by (try simp only [List.length_cons, List.length_nil, List.length_append, List.length_map]); omega⟩ ?_; clear S; intro a u ad75 cap75 S
   refine sp S (tr (mv rfl)<|la (mv rfl)) ?_; clear S; intro a u S
   refine ap (E := u8E) (ys := (if recOK r_t51 then encR r_t51 else [])) S 3 rfl uT28 iZ5 rfl rfl ((S.row 5 rfl).lat (by first | decide | exact Nat.one_pos | exact Nat.succ_pos _)) (S.row 5 rfl).cap_le.2 (S.row 5 rfl).wf ⟨by unfold maxLen; (try simp only [List.length_cons, List.length_nil, List.length_append, List.length_map]); omega, by (try simp only [List.length_cons, List.length_nil, List.length_append, List.length_map]); omega⟩ ?_; clear S; intro a u ad78 cap78 S
   refine en S (tr (av rfl)<|la (av rfl)) ?_; clear S; intro a u S
   refine blk_n (then_n ?_)
   refine rg S (tr (mv rfl)<|tr (addi ((i + 1 : Nat) : Int) rfl rfl (w_i64 (by omega)))<|la (av rfl)) ?_; clear S; intro a u S
   replace S := S.pk [0, 1, 6, 2, 3]
   refine then_n ?_
   refine ⟨(i + 1), jl_t67, ad75, cap75, (ls ++ [r_t51]), ad78, cap78, (bs ++ (if recOK r_t51 then encR r_t51 else [])), S.re (subM rfl) rfl rfl, ?_, ?_⟩
   ·refine ⟨hk_jl_t67, ?_⟩
    first
    | (have e0 : appE n ls.length r_t51 = 0 := (app_good (by omega)).2 hc3
       obtain ⟨q1, q2, q3⟩ := hq_jl_t67.1 (by rw [htg, hls]; exact e0)
       exact ⟨by omega, hA.app e0 q1 q2 q3, by rw [bytesJ_snoc, hbs], by rw [List.length_append, List.length_singleton]; omega⟩)
    | (obtain rfl : jl_t67 = gj := hq_jl_t67.2 fun q => hc4 ((app_good (k := ls.length) (by omega)).1 (by rw [htg, hls] at q; exact q))
       exact ⟨by omega, hA, hbs, by omega⟩)
   omega
  intro hc4
  refine wp_skip (blk_n (then_n ?_))
  refine rg S (tr (mv rfl)<|tr (addi ((i + 1 : Nat) : Int) rfl rfl (w_i64 (by omega)))<|la (av rfl)) ?_; clear S; intro a u S
  replace S := S.pk [0, 1, 6, 2, 3]
  refine then_n ?_
  refine ⟨(i + 1), jl_t67, ls_a, ls_c, ls, bs_a, bs_c, bs, S.re (subM rfl) rfl rfl, ?_, ?_⟩
  ·refine ⟨hk_jl_t67, ?_⟩
   first
   | (have e0 : appE n ls.length r_t51 = 0 := (app_good (by omega)).2 hc3
      obtain ⟨q1, q2, q3⟩ := hq_jl_t67.1 (by rw [htg, hls]; exact e0)
      exact ⟨by omega, hA.app e0 q1 q2 q3, by rw [bytesJ_snoc, hbs], by rw [List.length_append, List.length_singleton]; omega⟩)
   | (obtain rfl : jl_t67 = gj := hq_jl_t67.2 fun q => hc4 ((app_good (k := ls.length) (by omega)).1 (by rw [htg, hls] at q; exact q))
      exact ⟨by omega, hA, hbs, by omega⟩)
  omega
 intro hc5
 refine wp_exit (then_e (then_e (blk_e (then_n (rs0 ?_)))))
 refine sp S (tr (ldkw 1 rfl rfl wD47)<|tr (mv rfl)<|la (mv rfl)) ?_; clear S; intro a u S
 replace S := S.fz 3 rfl (by show 0 < recE.n; decide)
 refine cl S (rReplay _ _ S.x (.nil _) r_t32 (dn0 (S.u 1 rfl)) n ⟨by omega, by omega⟩ (Sl.mk ls_a ls_c ls) (dn0 (S.u 2 rfl)) (by first | omega | (dsimp only; omega))) cB35 ?_
 rintro e u ⟨r_t830, rfl, R_t830, hr_t830, T0⟩; refine ⟨_, rfl, fun a s => ?_⟩
 replace S := (S.k0 s T0).ar (wfF ctrlE r_t830) (Enc.up _ R_t830); clear s T0 R_t830
 obtain ⟨hl26, hu26⟩ : inI64 r_t830.round := id ((S.u 3 rfl).1)
 obtain ⟨hl27, hu27⟩ : inI64 r_t830.seq := id ((S.u 3 rfl).2.2.1)
 have hn28 : r_t830.target.xs.length ≤ 9223372036854775807 := ((S.u 3 rfl).2.2.2.1).1.len
 have hn29 : r_t830.known.xs.length ≤ 9223372036854775807 := ((S.u 3 rfl).2.2.2.2.1).1.len
 have hn30 : r_t830.waiting.xs.length ≤ 9223372036854775807 := ((S.u 3 rfl).2.2.2.2.2).1.len
 refine sp S (tr (mv rfl)<|tr (exi rfl rfl)<|la (exi rfl rfl)) ?_; clear S; intro a u S
 refine nbp S (x_allocz _ iZ57 rfl) ?_; clear S; intro a u b17 S
 refine ens S (tr (stkw 5 rfl rfl rfl)<|la (av rfl)) ?_; clear S; intro a u S
 refine rs0 ?_
 refine sp S (tr (mv rfl)<|tr (mv rfl)<|tr (leni uT28 rfl)<|tr (addi ((bs.length + 1 : Nat) : Int) rfl rfl (w_i64 (by omega)))<|tr (oc (fun S=>gMod _ _ S.x (.nil _) keep keep_h ((bs.length + 1 : Nat) : Int) ⟨by omega, by omega⟩ (by omega)) cB29)<|la (av rfl)) ?_; clear S; intro a u S
 obtain ⟨cut, hcut, hcutb⟩ := modk (x := keep) (m := ((bs.length + 1 : Nat) : Int)) (by omega)
 rw [← hcut] at S
 replace S := S.fz 4 rfl
 have hal := hA.ma.al
 have hdc := dec_cut (allJ_ok hal) (show ls.length ≤ 4096 by omega) (c := cut) (by rw [← hbs]; omega)
 rw [← hbs] at hdc
 have hrj : recsJ (bs.take cut) = ls.take (cut / 14) := by unfold recsJ; rw [hdc.1]; exact hdc.2
 have hall : allJ n (recsJ (bs.take cut)) := by rw [hrj]; exact fun r hr => hal r (List.mem_of_mem_take hr)
 have hbj : bytesJ gj.l.xs = bs := by rw [hA.ls, hbs]
 have he0 : replE r_t32 n ls = 0 := by unfold replE; rw [if_neg (fun h => h hgd), if_neg (by omega), if_pos hal]
 have hkg : replC r_t32 n ls = noS (absM gj.m.2) := by unfold replC; rw [if_pos he0]; exact hA.ma.ab.symm
 have hal2 : allJ n (ls.take (cut / 14)) := fun r hr => hal r (List.mem_of_mem_take hr)
 have he2 : replE r_t32 n (ls.take (cut / 14)) = 0 := by unfold replE; rw [if_neg (fun h => h hgd), if_neg (by rw [List.length_take]; omega), if_pos hal2]
 have hb2 : bytesJ (ls.take (cut / 14)) = bs.take (cut / 14 * 14) := by rw [bytesJ_take (allJ_ok hal), hbs, Nat.mul_comm]
 have hkn_gj : gj.m.2.known.xs.length = gj.m.2.target.xs.length := hA.ma.ok.2.kn
 have hwt_gj : gj.m.2.waiting.xs.length ≤ gj.m.2.target.xs.length := hA.ma.ok.2.wt.len
 have hn1_gj := hA.ma.ok.1.n1
 have htg_gj := hA.ma.tg
 obtain ⟨⟨_, _⟩, ⟨_, _⟩⟩ : inI64 gj.m.2.round ∧ inI64 gj.m.2.seq := id hk_gj
 refine ent (wp_seq ?_)
 have hk32 : (bs.take cut).length = cut := by rw [List.length_take]; first | omega | (simp only [List.length_cons, List.length_nil]; omega)
 refine drC (P := Try.prog) S 5 [] [(92, .is _), (93, .is _), (94, .is _), (95, .is _), (96, .is _)] [[], [], [], [], [94, 95]] [92, 93, 96] ⟨qd (ldkw 1 rfl rfl wD47), qd (mv rfl), qd (mv rfl), qd (mv rfl), qd (ov (v := .slice bs_a ((bs.take cut).length) bs_c) fun S=>x_slhn uT28 iZ5 (S.e rfl) (S.e rfl) cut rfl (Nat.le_trans (by first | omega | (dsimp only; omega) | (show _ ≤ List.length _; omega)) ((S.u 4 rfl)).2.1) ((S.u 4 rfl)).2.2 _ (by rw [List.length_take]; first | omega | (simp only [List.length_cons, List.length_nil]; omega))), trivial⟩ ?_
 clear S; intro a u S G hE
 have hn33 : (bs.take cut).length ≤ 9223372036854775807 := ((sl_take (S.u 4 rfl) cut (by first | omega | (dsimp only; omega) | (show _ ≤ List.length _; omega)))).1.len
 refine clw S (jOpen _ _ (S.xx (ow []))  (S.mF (ks := [tpO 112 T26 l, blO b7 (planE.cells r_t32) 47, bnO (lgF B_t36 gj), noO, noO, blO b17 (ctrlE.cells r_t830) 57]) (fs := [])) (S.nfF (ks := [tpO 112 T26 l, blO b7 (planE.cells r_t32) 47, bnO (lgF B_t36 gj), noO, noO, blO b17 (ctrlE.cells r_t830) 57]) (fs := []) hD) r_t32 (dnF (ks := [tpO 112 T26 l, blO b7 (planE.cells r_t32) 47, bnO (lgF B_t36 gj), noO, noO, blO b17 (ctrlE.cells r_t830) 57]) (fs := []) (S.u 1 rfl)) n ⟨by omega, by omega⟩ (Sl.mk bs_a bs_c (bs.take cut)) (dnF (ks := [tpO 112 T26 l, blO b7 (planE.cells r_t32) 47, bnO (lgF B_t36 gj), noO, noO, blO b17 (ctrlE.cells r_t830) 57]) (fs := []) (sl_take (S.u 4 rfl) cut (by first | omega | (dsimp only; omega) | (show _ ≤ List.length _; omega)))) (by first | omega | (dsimp only; omega))) cB36 ?_
 rintro e u ⟨q_t97, rfl, qK_t97, qB_t97, hr_t97, T0⟩; refine ⟨_, rfl, fun a s => ?_⟩
 have S2 := S.kF (ks := [tpO 112 T26 l, blO b7 (planE.cells r_t32) 47, bnO (lgF B_t36 gj), noO, noO, blO b17 (ctrlE.cells r_t830) 57]) (fs := []) [bnO (lgQ q_t97)] s T0 ⟨qB_t97, trivial⟩ ⟨(mo_bn (mo_lgQ _)), trivial⟩
 replace S2 := (show St _ _ _ _ _ _ [tpO 112 T26 l, blO b7 (planE.cells r_t32) 47, bnO (lgF B_t36 gj), noO, noO, blO b17 (ctrlE.cells r_t830) 57, bnO (lgQ q_t97)] _ _ from S2)
 clear S; have S := S2; clear S2 s T0 qB_t97
 refine ⟨_, _, _, _, _, _, _, [⟨6, 91, .tuple #[optP q_t97, iI (openN q_t97 (bs.take cut)), iI (errQ q_t97)], []⟩, ⟨7, 98, optP q_t97, [91]⟩, ⟨8, 99, iI (openN q_t97 (bs.take cut)), [91]⟩, ⟨9, 100, iI (errQ q_t97), [91]⟩, ⟨10, 20, optP q_t97, [98]⟩, ⟨11, 21, iI (openN q_t97 (bs.take cut)), [99]⟩, ⟨12, 22, iI (errQ q_t97), [100]⟩], S, ⟨⟨⟨_, rfl, rfl, rfl, fun a w S => (x_move (S.e rfl))⟩, (show 91 < 158 from by decide), rfl⟩, ⟨⟨_, rfl, rfl, rfl, fun a w S => (x_extract (S.e rfl) rfl)⟩, (show 98 < 158 from by decide), rfl⟩, ⟨⟨_, rfl, rfl, rfl, fun a w S => (x_extract (S.e rfl) rfl)⟩, (show 99 < 158 from by decide), rfl⟩, ⟨⟨_, rfl, rfl, rfl, fun a w S => (x_extract (S.e rfl) rfl)⟩, (show 100 < 158 from by decide), rfl⟩, ⟨⟨_, rfl, rfl, rfl, fun a w S => (x_assign (S.e rfl))⟩, (show 20 < 158 from by decide), rfl⟩, ⟨⟨_, rfl, rfl, rfl, fun a w S => (x_assign (S.e rfl))⟩, (show 21 < 158 from by decide), rfl⟩, ⟨⟨_, rfl, rfl, rfl, fun a w S => (x_assign (S.e rfl))⟩, (show 22 < 158 from by decide), rfl⟩, trivial⟩, by kernel_rfl, ?_⟩; clear S; intro a S
 rcases q_t97 with _ | ⟨B_t97, x_t97⟩
 ·exact absurd (hr_t97.1.2 ⟨hgd, hall⟩) (by decide)
 replace S := (show St _ _ _ _ _ _ [tpO 112 T26 l, blO b7 (planE.cells r_t32) 47, bnO (lgF B_t36 gj), noO, noO, blO b17 (ctrlE.cells r_t830) 57, bnO (lgF B_t97 x_t97)] _ _ from S)
 have hLO : LogAt _ _ _ x_t97 _ := hr_t97.2 _ rfl
 have hon : openN (some (B_t97, x_t97)) (bs.take cut) = ((cut / 14 * 14 : Nat) : Int) := by
  unfold openN
  rw [hdc.1]; simp; omega
 have hkn_x_t97 : x_t97.m.2.known.xs.length = x_t97.m.2.target.xs.length := hLO.ma.ok.2.kn
 have hwt_x_t97 : x_t97.m.2.waiting.xs.length ≤ x_t97.m.2.target.xs.length := hLO.ma.ok.2.wt.len
 have hn1_x_t97 := hLO.ma.ok.1.n1
 have htg_x_t97 := hLO.ma.tg
 obtain ⟨⟨_, _⟩, ⟨_, _⟩⟩ : inI64 x_t97.m.2.round ∧ inI64 x_t97.m.2.seq := id qK_t97
 have hlo97 := hLO.lb
 have hkg2 : replC r_t32 n (ls.take (cut / 14)) = noS (absM x_t97.m.2) := by unfold replC; rw [if_pos he2, ← hrj]; exact hLO.ma.ab.symm
 refine ent (wp_seq (wp_seq ?_))
 refine dr (P := Try.prog) S 28 [] [(101, .is _), (102, .is _), (103, .is _), (104, .is _), (105, .is _), (106, .is _), (107, .is _), (108, .is _), (109, .is _), (110, .is _), (111, .is _), (112, .is _), (113, .is _), (114, .is _), (115, .is _), (116, .of (fun z w => (¬ (¬ (openN (some (B_t97, x_t97)) (bs.take cut)) = ((cut / 14 * 14 : Nat) : Int))) → ∃ (x116aa : Option Addr) (x116ba : Nat), z = .slice x116aa ((bytesJ gj.l.xs).length) x116ba ∧ (slE u8E).wf (Fr F [one T26, one b7, In (ow (lgF B_t36 gj)), (fun _ => False), (fun _ => False), one b17, In (ow (lgF B_t97 x_t97))]) w.heap (Sl.mk x116aa x116ba (bytesJ gj.l.xs))) (fun v w w' c h hg => let ⟨x116aa, x116ba, hv, h0⟩ := h hg; ⟨x116aa, x116ba, hv, Enc.kp (slE u8E) h0 c (fun _ h => by simp at h)⟩)), (117, .is ((if (¬ (¬ (openN (some (B_t97, x_t97)) (bs.take cut)) = ((cut / 14 * 14 : Nat) : Int))) then .string (strOfNums (bytesJ gj.l.xs)) else undef))), (118, .is _), (119, .is _), (120, .is _), (121, .is _), (122, .is _), (123, .is _), (124, .of (fun z w => (¬ ((¬ (openN (some (B_t97, x_t97)) (bs.take cut)) = ((cut / 14 * 14 : Nat) : Int)) ∨ (¬ (strOfNums (bytesJ gj.l.xs)) = (strOfNums bs)))) → ∃ (x124aa : Option Addr) (x124ba : Nat) (x124cb : Option Addr) (x124db : Nat) (x124ec : Option Addr) (x124fc : Nat), z = .agg #[iI gj.m.2.round, bD (gj.m.2.back = true), iI gj.m.2.seq, .slice x124aa gj.m.2.target.xs.length x124ba, .slice x124cb gj.m.2.known.xs.length x124db, .slice x124ec gj.m.2.waiting.xs.length x124fc] ∧ (slE intE).wf (Fr F [one T26, one b7, In (ow (lgF B_t36 gj)), (fun _ => False), (fun _ => False), one b17, In (ow (lgF B_t97 x_t97))]) w.heap (Sl.mk x124aa x124ba gj.m.2.target.xs) ∧ (slE intE).wf (Fr F [one T26, one b7, In (ow (lgF B_t36 gj)), (fun _ => False), (fun _ => False), one b17, In (ow (lgF B_t97 x_t97))]) w.heap (Sl.mk x124cb x124db gj.m.2.known.xs) ∧ (slE intE).wf (Fr F [one T26, one b7, In (ow (lgF B_t36 gj)), (fun _ => False), (fun _ => False), one b17, In (ow (lgF B_t97 x_t97))]) w.heap (Sl.mk x124ec x124fc gj.m.2.waiting.xs)) (fun v w w' c h hg => let ⟨x124aa, x124ba, x124cb, x124db, x124ec, x124fc, hv, h0, h1, h2⟩ := h hg; ⟨x124aa, x124ba, x124cb, x124db, x124ec, x124fc, hv, Enc.kp (slE intE) h0 c (fun _ h => by simp at h), Enc.kp (slE intE) h1 c (fun _ h => by simp at h), Enc.kp (slE intE) h2 c (fun _ h => by simp at h)⟩)), (125, .is _), (126, .is ((if (¬ ((¬ (openN (some (B_t97, x_t97)) (bs.take cut)) = ((cut / 14 * 14 : Nat) : Int)) ∨ (¬ (strOfNums (bytesJ gj.l.xs)) = (strOfNums bs)))) then bD (True) else undef))), (127, .is _), (128, .is _)] [[], [101], [102], [103], [103, 104], [103, 105], [106], [107], [107], [107, 109], [107, 110], [107, 108, 111], [107, 112], [113], [114], [114, 115], [114, 116], [114], [114, 118], [114, 117, 119], [114, 120], [121], [122], [122, 123], [122], [122, 124, 125], [122, 126], [122, 127]] [128] _ ⟨qd (mv rfl), qd (neqi rfl rfl), qd (mv rfl), qd (gon 103 rfl fun S=>x_move (S.e rfl)), qd (gon 103 rfl fun S=>x_peqN uT52 (S.e rfl) (S.e rfl)), qd (ov fun S=>x_pickf (S.e rfl) (S.e rfl)), qd (mv rfl), qd (gon 107 rfl fun S=>x_move (S.e rfl)), qd (gon 107 rfl fun S=>x_move (S.e rfl)), qd (gon 107 rfl fun S=>x_quo (S.e rfl) (S.e rfl) (by omega) (r := ((cut / 14 : Nat) : Int)) (w_i64 (by rw [Int.tdiv_eq_ediv_of_nonneg (by omega)]; omega))), qd (gon 107 rfl fun S=>x_mul (S.e rfl) (S.e rfl) (r := ((cut / 14 * 14 : Nat) : Int)) (w_i64 (by omega))), qd (gon 107 rfl fun S=>x_neq (S.e rfl) (S.e rfl)), qd (ov fun S=>x_pickf (S.e rfl) (S.e rfl)), qd (mv rfl), qd (og 114 rfl gf fun S hg=>x_move (S.e rfl)), ?_, ?_, qd (og 114 rfl gf fun S hg=>x_move (S.e rfl)), qd (og 114 rfl gf fun S hg=>x_bstr (Sl.mk bs_a bs_c bs) ((S.u 4 rfl)) uT28 uT5 uT9 (S.p rfl hg)), qd (og 114 rfl gf fun S hg=>x_sneq (S.p rfl hg) (S.p rfl hg)), qd (ori rfl rfl rfl), qd (mv rfl), qd (og 122 rfl gf fun S hg=>x_move (S.e rfl)), ?_, qd (og 122 rfl gf fun S hg=>x_ldw (S.e rfl) (S.k 5 rfl).all wD57), ?_, qd (og 122 rfl gf fun S hg=>x_notp (S.p rfl hg)), qd (ori rfl rfl rfl), trivial⟩ ?_
 ·skip
  intro a u S G hE
  refine (Classical.em (¬ (¬ (openN (some (B_t97, x_t97)) (bs.take cut)) = ((cut / 14 * 14 : Nat) : Int)))).symm.elim (fun hg => ?_) fun hg => ?_
  ·exact hng 116 114 S S.m rfl (fun h => hg (gf.2 h)) (show (¬ (¬ (openN (some (B_t97, x_t97)) (bs.take cut)) = ((cut / 14 * 14 : Nat) : Int))) → _ from fun h => absurd h hg)
  refine hcg 114 S rfl (gf.1 hg) (jBytes _ _ (S.xx [In (ow (lgF B_t36 gj))]) (.nil _) (B_t36, gj) (S.rob hD 2 rfl (X := fun D => (ptE lgE 129).wf D _ (B_t36, gj)) (rd_lg hk_gj) _ (by simp)) (by first | omega | (dsimp only; omega) | assumption)) cB37 ⟨fun _=>(S.p rfl hg), trivial⟩ ?_
  rintro e w2 ⟨x116a, x116b, rfl, R0, T0⟩; refine ⟨_, rfl, (fun _ => ?_), T0.ch, (S.m.k0 T0.ch)⟩
  exact ⟨x116a, x116b, rfl, (S.frz R0 (by decide) (fun _ h => h))⟩
 ·skip
  intro a u S G hE
  obtain ⟨e116, -⟩ := hE
  have M0 := S.m
  refine (Classical.em (¬ (¬ (openN (some (B_t97, x_t97)) (bs.take cut)) = ((cut / 14 * 14 : Nat) : Int)))).symm.elim (fun hg => ?_) fun hg => ?_
  ·exact hng 117 114 S M0 rfl (fun h => hg (gf.2 h)) (show _ = _ from (if_neg hg).symm)
  replace e116 := e116 hg
  obtain ⟨x116a_34, x116b_34, e116, X34⟩ := e116
  replace S := S.ext e116
  exact hvg 117 114 S M0 rfl (gf.1 hg) (v := .string (strOfNums (bytesJ gj.l.xs))) (x_bstr (Sl.mk x116a_34 x116b_34 (bytesJ gj.l.xs)) (X34) uT28 uT5 uT9 (S.e rfl)) (show _ = _ from (if_pos hg).symm)
 ·skip
  intro a u S G hE
  refine (Classical.em (¬ ((¬ (openN (some (B_t97, x_t97)) (bs.take cut)) = ((cut / 14 * 14 : Nat) : Int)) ∨ (¬ (strOfNums (bytesJ gj.l.xs)) = (strOfNums bs))))).symm.elim (fun hg => ?_) fun hg => ?_
  ·exact hng 124 122 S S.m rfl (fun h => hg (gf.2 h)) (show (¬ ((¬ (openN (some (B_t97, x_t97)) (bs.take cut)) = ((cut / 14 * 14 : Nat) : Int)) ∨ (¬ (strOfNums (bytesJ gj.l.xs)) = (strOfNums bs)))) → _ from fun h => absurd h hg)
  refine hcg 122 S rfl (gf.1 hg) (jCtl _ _ (S.xx [In (ow (lgF B_t36 gj))]) (.nil _) (B_t36, gj) (S.rob hD 2 rfl (X := fun D => (ptE lgE 129).wf D _ (B_t36, gj)) (rd_lg hk_gj) _ (by simp)) (⟨by first | omega | (dsimp only; omega) | assumption, by first | omega | (dsimp only; omega) | assumption, by first | omega | (dsimp only; omega) | assumption⟩)) cB39 ⟨fun _=>(S.p rfl hg), trivial⟩ ?_
  rintro e w2 ⟨x124a, x124b, x124c, x124d, x124e, x124f, rfl, R0, R1, R2, T0⟩; refine ⟨_, rfl, (fun _ => ?_), T0.ch, (S.m.k0 T0.ch)⟩
  exact ⟨x124a, x124b, x124c, x124d, x124e, x124f, rfl, (S.frz R0 (by decide) (fun _ h => h)), (S.frz R1 (by decide) (fun _ h => h)), (S.frz R2 (by decide) (fun _ h => h))⟩
 ·skip
  intro a u S G hE
  obtain ⟨e124, -⟩ := hE
  have M0 := S.m
  refine (Classical.em (¬ ((¬ (openN (some (B_t97, x_t97)) (bs.take cut)) = ((cut / 14 * 14 : Nat) : Int)) ∨ (¬ (strOfNums (bytesJ gj.l.xs)) = (strOfNums bs))))).symm.elim (fun hg => ?_) fun hg => ?_
  ·exact hng 126 122 S M0 rfl (fun h => hg (gf.2 h)) (show _ = _ from (if_neg hg).symm)
  replace e124 := e124 hg
  obtain ⟨x124a_35, x124b_35, x124c_36, x124d_36, x124e_37, x124f_37, e124, X35, X36, X37⟩ := e124
  replace S := S.ext e124
  refine hcg 122 S rfl (gf.1 hg) (rSameC _ _ S.x (.nil _) (⟨gj.m.2.round, gj.m.2.back, gj.m.2.seq, (Sl.mk x124a_35 x124b_35 gj.m.2.target.xs), (Sl.mk x124c_36 x124d_36 gj.m.2.known.xs), (Sl.mk x124e_37 x124f_37 gj.m.2.waiting.xs)⟩ : Ctrl) ⟨(show inI64 gj.m.2.round from ⟨by omega, by omega⟩), trivial, (show inI64 gj.m.2.seq from ⟨by omega, by omega⟩), (dn0 X35), (dn0 X36), (dn0 X37)⟩ r_t830 (dn0 (S.u 3 rfl))) cB38 ⟨(fun _=>S.e rfl), fun _=>(S.p rfl hg), trivial⟩ ?_
  rintro e w2 ⟨rfl, T0⟩; exact ⟨_, rfl, (show _ = _ from ((vb (⟨fun _ => trivial, fun _ => same_of_ctlR (c := noS (absM gj.m.2)) ⟨rfl, by simp [noS, absM], rfl, rfl, rfl, rfl⟩ (by rw [← hkg]; exact hr_t830)⟩)).trans (if_pos hg).symm)), T0.ch, (M0.k0 T0.ch)⟩
 clear S; intro a u S G hE
 refine ent ?_
 refine cd S rfl ?_ ?_
 ·intro hc6
  refine rs S (la (av rfl)) ?_; clear S; intro a u S
  refine wp_ret (then_r ?_)
  refine ret1 rfl S.s rfl ?_
  replace S := S.pk []
  refine ⟨(r1 (vf ?_)), S.m.c⟩
  intro _
  rcases hc6 with (q | q) | q
  ·exact q hon
  ·exact q (by rw [hbj])
  exact q trivial
 intro hc7
 refine wp_skip (then_n (wp_seq ?_))
 have hk39 : (ls.take (cut / 14)).length = (cut / 14) := by rw [List.length_take]; first | omega | (simp only [List.length_cons, List.length_nil]; omega)
 refine drA (P := Try.prog) S 7 10 23 [iI 0, .bool false, iI 0, .slice none 0 0, .slice none 0 0, .slice none 0 0] 57 [] (fun nx => [(130, .is (.agg (planE.cells r_t32).toArray)), (131, .is (iI n)), (132, .is (.slice ls_a ls.length ls_c)), (133, .is (iN cut)), (134, .is (iN (cut / 14))), (135, .is (.slice ls_a ((ls.take (cut / 14)).length) ls_c)), (136, .of (fun z w => ∃ (x136a : Ctrl), z = .tuple #[.agg (ctrlE.cells x136a).toArray, iI (replE r_t32 n (ls.take (cut / 14)))] ∧ (ctrlE).wf (Fr F (ow ([tpO 112 T26 l, blO b7 (planE.cells r_t32) 47, bnO (lgF B_t36 gj), noO, noO, blO b17 (ctrlE.cells r_t830) 57, bnO (lgF B_t97 x_t97)] ++ nx))) w.heap x136a ∧ ctlR x136a (replC r_t32 n (ls.take (cut / 14)))) (fun v w w' c h => let ⟨x136a, hv, h0, h1⟩ := h; ⟨x136a, hv, Enc.kp (ctrlE) h0 c (fun _ h => by simp at h), h1⟩)), (129, .of (fun z w => ∃ (x136a : Ctrl), z = .tuple #[.agg (ctrlE.cells x136a).toArray, iI (replE r_t32 n (ls.take (cut / 14)))] ∧ (ctrlE).wf (Fr F (ow ([tpO 112 T26 l, blO b7 (planE.cells r_t32) 47, bnO (lgF B_t36 gj), noO, noO, blO b17 (ctrlE.cells r_t830) 57, bnO (lgF B_t97 x_t97)] ++ nx))) w.heap x136a ∧ ctlR x136a (replC r_t32 n (ls.take (cut / 14)))) (fun v w w' c h => let ⟨x136a, hv, h0, h1⟩ := h; ⟨x136a, hv, Enc.kp (ctrlE) h0 c (fun _ h => by simp at h), h1⟩)), (137, .of (fun z w => ∃ (x136a : Ctrl), z = .agg (ctrlE.cells x136a).toArray ∧ (ctrlE).wf (Fr F (ow ([tpO 112 T26 l, blO b7 (planE.cells r_t32) 47, bnO (lgF B_t36 gj), noO, noO, blO b17 (ctrlE.cells r_t830) 57, bnO (lgF B_t97 x_t97)] ++ nx))) w.heap x136a ∧ ctlR x136a (replC r_t32 n (ls.take (cut / 14)))) (fun v w w' c h => let ⟨x136a, hv, h0, h1⟩ := h; ⟨x136a, hv, Enc.kp (ctrlE) h0 c (fun _ h => by simp at h), h1⟩)), (138, .is (iI (replE r_t32 n (ls.take (cut / 14)))))]) [[], [], [], [], [133], [132, 134], [130, 131, 135]] [⟨7, 129, [136]⟩, ⟨8, 137, [129]⟩, ⟨9, 138, [129]⟩] [11, 12] [137, 138] _ (fun nx => ⟨qd (ldkw 1 rfl rfl wD47), qd (mv rfl), qd (mv rfl), qd (mv rfl), qd (ov fun S=>x_quo (S.e rfl) (S.e rfl) (by omega) (r := ((cut / 14 : Nat) : Int)) (w_i64 (by rw [Int.tdiv_eq_ediv_of_nonneg (by omega)]; omega))), qd (ov (v := .slice ls_a ((ls.take (cut / 14)).length) ls_c) fun S=>x_slhn uT32 iZ24 (S.e rfl) (S.e rfl) (cut / 14) rfl (Nat.le_trans (by first | omega | (dsimp only; omega) | (show _ ≤ List.length _; omega)) ((S.u 2 rfl)).2.1) ((S.u 2 rfl)).2.2 _ (by rw [List.length_take]; first | omega | (simp only [List.length_cons, List.length_nil]; omega))), ?_, trivial⟩) (fun nx => (lzk _ ?_ (lzk _ ?_ (lzk _ ?_ trivial)))) ⟨_, rfl, rfl, rfl, by decide, fun a w => x_allocz [iI 0, .bool false, iI 0, .slice none 0 0, .slice none 0 0, .slice none 0 0] iZ57 rfl⟩ (fun e v u v2 hM hs hg h => MonoL.lk h ⟨⟨rfl, (fun v h => h)⟩, ⟨rfl, (fun v h => h)⟩, ⟨rfl, (fun v h => h)⟩, ⟨rfl, (fun v h => h)⟩, ⟨rfl, (fun v h => h)⟩, ⟨rfl, (fun v h => h)⟩, ⟨rfl, (fun v h => let ⟨x136a, hv, h0, h1⟩ := h; ⟨x136a, hv, Enc.al (ctrlE) h0 hs hg, h1⟩)⟩, ⟨rfl, (fun v h => let ⟨x136a, hv, h0, h1⟩ := h; ⟨x136a, hv, Enc.al (ctrlE) h0 hs hg, h1⟩)⟩, ⟨rfl, (fun v h => let ⟨x136a, hv, h0, h1⟩ := h; ⟨x136a, hv, Enc.al (ctrlE) h0 hs hg, h1⟩)⟩, ⟨rfl, (fun v h => h)⟩, trivial⟩) ?_
 ·skip
  intro a u S G hE
  refine hcl S (rReplay _ _ S.x (.nil _) r_t32 (dn0 (S.u 1 rfl)) n ⟨by omega, by omega⟩ (Sl.mk ls_a ls_c (ls.take (cut / 14))) (dn0 (sl_take (S.u 2 rfl) (cut / 14) (by first | omega | (dsimp only; omega) | (show _ ≤ List.length _; omega)))) (by first | omega | (dsimp only; omega))) cB35 ?_
  rintro e w2 ⟨r_h1360, rfl, R_h1360, hr_h1360, T0⟩; refine ⟨_, rfl, (show ∃ _, _ from ?_), T0.ch, (S.k0 S.s T0).m⟩
  exact ⟨r_h1360, rfl, (Enc.up _ R_h1360), hr_h1360⟩
 ·skip
  intro a u S hE
  obtain ⟨e136, -⟩ := hE
  obtain ⟨x136_40, e136, X40, hr40⟩ := e136
  replace S := S.ext e136
  exact ⟨_, fun w' => x_move (S.e rfl), (show ∃ _, _ from ⟨x136_40, rfl, X40, hr40⟩)⟩
 ·skip
  intro a u S hE
  obtain ⟨e129, -⟩ := hE
  obtain ⟨x136_41, e129, X41, hr41⟩ := e129
  replace S := S.ext e129
  exact ⟨_, fun w' => x_extract (S.e rfl) rfl, (show ∃ _, _ from ⟨x136_41, rfl, X41, hr41⟩)⟩
 ·skip
  intro a u S hE
  obtain ⟨e129, -⟩ := hE
  obtain ⟨x136_42, e129, X42, hr42⟩ := e129
  replace S := S.ext e129
  exact ⟨_, fun w' => x_extract (S.e rfl) rfl, (show _ = _ from rfl)⟩
 clear S; intro x23_43
 skip
 intro a u S G hE
 obtain ⟨e137, -⟩ := hE
 obtain ⟨x136_44, e137, X44, hr44⟩ := e137
 replace S := S.ext e137
 clear e137
 replace S := S.ar (wfF ctrlE x136_44) X44
 obtain ⟨hl45, hu45⟩ : inI64 x136_44.round := id ((S.u 5 rfl).1)
 obtain ⟨hl46, hu46⟩ : inI64 x136_44.seq := id ((S.u 5 rfl).2.2.1)
 have hn47 : x136_44.target.xs.length ≤ 9223372036854775807 := ((S.u 5 rfl).2.2.2.1).1.len
 have hn48 : x136_44.known.xs.length ≤ 9223372036854775807 := ((S.u 5 rfl).2.2.2.2.1).1.len
 have hn49 : x136_44.waiting.xs.length ≤ 9223372036854775807 := ((S.u 5 rfl).2.2.2.2.2).1.len
 refine ens S (tr (stkw 7 rfl rfl rfl)<|la (av rfl)) ?_; clear S; intro a u S
 refine wp_seq ?_
 refine dr (P := Try.prog) S 20 [] [(139, .is _), (140, .of (fun z w => ∃ (x140aa : Option Addr) (x140ba : Nat) (x140cb : Option Addr) (x140db : Nat) (x140ec : Option Addr) (x140fc : Nat), z = .agg #[iI x_t97.m.2.round, bD (x_t97.m.2.back = true), iI x_t97.m.2.seq, .slice x140aa x_t97.m.2.target.xs.length x140ba, .slice x140cb x_t97.m.2.known.xs.length x140db, .slice x140ec x_t97.m.2.waiting.xs.length x140fc] ∧ (slE intE).wf (Fr F [one T26, one b7, In (ow (lgF B_t36 gj)), (fun _ => False), (fun _ => False), one b17, In (ow (lgF B_t97 x_t97)), one x23_43]) w.heap (Sl.mk x140aa x140ba x_t97.m.2.target.xs) ∧ (slE intE).wf (Fr F [one T26, one b7, In (ow (lgF B_t36 gj)), (fun _ => False), (fun _ => False), one b17, In (ow (lgF B_t97 x_t97)), one x23_43]) w.heap (Sl.mk x140cb x140db x_t97.m.2.known.xs) ∧ (slE intE).wf (Fr F [one T26, one b7, In (ow (lgF B_t36 gj)), (fun _ => False), (fun _ => False), one b17, In (ow (lgF B_t97 x_t97)), one x23_43]) w.heap (Sl.mk x140ec x140fc x_t97.m.2.waiting.xs)) (fun v w w' c h => let ⟨x140aa, x140ba, x140cb, x140db, x140ec, x140fc, hv, h0, h1, h2⟩ := h; ⟨x140aa, x140ba, x140cb, x140db, x140ec, x140fc, hv, Enc.kp (slE intE) h0 c (fun _ h => by simp at h), Enc.kp (slE intE) h1 c (fun _ h => by simp at h), Enc.kp (slE intE) h2 c (fun _ h => by simp at h)⟩)), (141, .is _), (142, .is (bD (True))), (143, .is _), (144, .is _), (145, .of (fun z w => (True) → ∃ (x145aa : Option Addr) (x145ba : Nat), z = .slice x145aa ((bytesJ x_t97.l.xs).length) x145ba ∧ (slE u8E).wf (Fr F [one T26, one b7, In (ow (lgF B_t36 gj)), (fun _ => False), (fun _ => False), one b17, In (ow (lgF B_t97 x_t97)), one x23_43]) w.heap (Sl.mk x145aa x145ba (bytesJ x_t97.l.xs))) (fun v w w' c h hg => let ⟨x145aa, x145ba, hv, h0⟩ := h hg; ⟨x145aa, x145ba, hv, Enc.kp (slE u8E) h0 c (fun _ h => by simp at h)⟩)), (146, .is ((if (True) then .string (strOfNums (bytesJ x_t97.l.xs)) else undef))), (147, .is _), (148, .is _), (149, .is _), (150, .is _), (151, .is _), (152, .is _), (153, .is _), (154, .is _), (155, .is _), (156, .is _), (157, .is _), (4, .is _)] [[], [139], [], [140, 141], [142], [143], [143, 144], [143, 145], [143], [143], [143, 148], [143, 149], [143, 147, 150], [143, 151], [143, 146, 152], [143, 153], [154], [155], [155, 156], [157]] [4] _ ⟨qd (mv rfl), ?_, qd (ldkw 7 rfl rfl wD57), ?_, qd (mv rfl), qd (og 143 rfl gt fun S hg=>x_move (S.e rfl)), ?_, ?_, qd (og 143 rfl gt fun S hg=>x_move (S.e rfl)), qd (og 143 rfl gt fun S hg=>x_move (S.e rfl)), qd (og 143 rfl gt fun S hg=>x_quo (S.p rfl hg) (S.e rfl) (by omega) (r := ((cut / 14 : Nat) : Int)) (w_i64 (by rw [Int.tdiv_eq_ediv_of_nonneg (by omega)]; omega))), qd (og 143 rfl gt fun S hg=>x_mul (S.p rfl hg) (S.e rfl) (r := ((cut / 14 * 14 : Nat) : Int)) (w_i64 (by omega))), qd (og 143 (v := .slice bs_a ((bs.take (cut / 14 * 14)).length) bs_c) rfl gt fun S hg=>x_slhn uT28 iZ5 (S.p rfl hg) (S.p rfl hg) (cut / 14 * 14) rfl (Nat.le_trans (by first | omega | (dsimp only; omega) | (show _ ≤ List.length _; omega)) ((S.u 4 rfl)).2.1) ((S.u 4 rfl)).2.2 _ (by rw [List.length_take]; first | omega | (simp only [List.length_cons, List.length_nil]; omega))), qd (og 143 rfl gt fun S hg=>x_bstr (Sl.mk bs_a bs_c (bs.take (cut / 14 * 14))) ((sl_take (S.u 4 rfl) (cut / 14 * 14) (by first | omega | (dsimp only; omega) | (show _ ≤ List.length _; omega)))) uT28 uT5 uT9 (S.p rfl hg)), qd (og 143 rfl gt fun S hg=>x_seql (S.p rfl hg) (S.p rfl hg)), qd (andi rfl rfl rfl), qd (mv rfl), qd (ocg 155 rfl gt (fun S hg=>lSane _ _ S.x (.nil _)) cB24 fun S=>trivial), qd (andi rfl rfl rfl), qd (av rfl), trivial⟩ ?_
 ·skip
  intro a u S G hE
  refine hcl S (jCtl _ _ (S.xx [In (ow (lgF B_t97 x_t97))]) (.nil _) (B_t97, x_t97) (S.rob hD 6 rfl (X := fun D => (ptE lgE 129).wf D _ (B_t97, x_t97)) (rd_lg qK_t97) _ (by simp)) (⟨by first | omega | (dsimp only; omega) | assumption, by first | omega | (dsimp only; omega) | assumption, by first | omega | (dsimp only; omega) | assumption⟩)) cB39 ?_
  rintro e w2 ⟨x140a, x140b, x140c, x140d, x140e, x140f, rfl, R0, R1, R2, T0⟩; refine ⟨_, rfl, (show ∃ _ _ _ _ _ _, _ from ?_), T0.ch, (S.m.k0 T0.ch)⟩
  exact ⟨x140a, x140b, x140c, x140d, x140e, x140f, rfl, (S.frz R0 (by decide) (fun _ h => h)), (S.frz R1 (by decide) (fun _ h => h)), (S.frz R2 (by decide) (fun _ h => h))⟩
 ·skip
  intro a u S G hE
  obtain ⟨e140, -⟩ := hE
  have M0 := S.m
  obtain ⟨x140a_50, x140b_50, x140c_51, x140d_51, x140e_52, x140f_52, e140, X50, X51, X52⟩ := e140
  replace S := S.ext e140
  refine hcl S (rSameC _ _ S.x (.nil _) (⟨x_t97.m.2.round, x_t97.m.2.back, x_t97.m.2.seq, (Sl.mk x140a_50 x140b_50 x_t97.m.2.target.xs), (Sl.mk x140c_51 x140d_51 x_t97.m.2.known.xs), (Sl.mk x140e_52 x140f_52 x_t97.m.2.waiting.xs)⟩ : Ctrl) ⟨(show inI64 x_t97.m.2.round from ⟨by omega, by omega⟩), trivial, (show inI64 x_t97.m.2.seq from ⟨by omega, by omega⟩), (dn0 X50), (dn0 X51), (dn0 X52)⟩ x136_44 (dn0 (S.u 5 rfl))) cB38 ?_
  rintro e w2 ⟨rfl, T0⟩; exact ⟨_, rfl, (show _ = _ from (vb (⟨fun _ => trivial, fun _ => same_of_ctlR (c := noS (absM x_t97.m.2)) ⟨rfl, by simp [noS, absM], rfl, rfl, rfl, rfl⟩ (by rw [← hkg2]; assumption)⟩))), T0.ch, (M0.k0 T0.ch)⟩
 ·skip
  intro a u S G hE
  refine (Classical.em (True)).symm.elim (fun hg => ?_) fun hg => ?_
  ·exact hng 145 143 S S.m rfl (fun h => hg (gt.2 h)) (show (True) → _ from fun h => absurd h hg)
  refine hcg 143 S rfl (gt.1 hg) (jBytes _ _ (S.xx [In (ow (lgF B_t97 x_t97))]) (.nil _) (B_t97, x_t97) (S.rob hD 6 rfl (X := fun D => (ptE lgE 129).wf D _ (B_t97, x_t97)) (rd_lg qK_t97) _ (by simp)) (by first | omega | (dsimp only; omega) | assumption)) cB37 ⟨fun _=>(S.p rfl hg), trivial⟩ ?_
  rintro e w2 ⟨x145a, x145b, rfl, R0, T0⟩; refine ⟨_, rfl, (fun _ => ?_), T0.ch, (S.m.k0 T0.ch)⟩
  exact ⟨x145a, x145b, rfl, (S.frz R0 (by decide) (fun _ h => h))⟩
 ·skip
  intro a u S G hE
  obtain ⟨e145, -⟩ := hE
  have M0 := S.m
  refine (Classical.em (True)).symm.elim (fun hg => ?_) fun hg => ?_
  ·exact hng 146 143 S M0 rfl (fun h => hg (gt.2 h)) (show _ = _ from (if_neg hg).symm)
  replace e145 := e145 hg
  obtain ⟨x145a_53, x145b_53, e145, X53⟩ := e145
  replace S := S.ext e145
  exact hvg 146 143 S M0 rfl (gt.1 hg) (v := .string (strOfNums (bytesJ x_t97.l.xs))) (x_bstr (Sl.mk x145a_53 x145b_53 (bytesJ x_t97.l.xs)) (X53) uT28 uT5 uT9 (S.e rfl)) (show _ = _ from (if_pos hg).symm)
 clear S; intro a u S G hE
 refine ent (wp_ret ?_)
 refine ret1 rfl S.s rfl ?_
 replace S := S.pk []
 refine ⟨(r1 (vb ?_)), S.m.c⟩
 exact ⟨fun _ => trivial, fun _ => ⟨⟨trivial, by rw [hLO.ls, hrj, hb2]⟩, trivial⟩⟩
end Go.Proofs.Ytobggnpnochnnaa.V
