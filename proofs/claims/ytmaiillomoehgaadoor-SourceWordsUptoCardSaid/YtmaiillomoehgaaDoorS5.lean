/- texts of the laws -/
import Derived.Test.YtmaiillomoehgaaDoorS4
namespace Go.Proofs.YtmaiillomoehgaaDoor.V
open Go.RowKit Go.Proofs.YtmaiillomoehgaaDoor
set_option linter.unusedVariables false
set_option linter.unusedSimpArgs false
set_option maxHeartbeats 2000000 in
set_option maxRecDepth 20000 in
theorem lText (w : World) (F : Nat → Prop) (hF : Old F w) (T : Nat) (M : MS [one T] w) (T_l : Sl Int) (T_w : (slE intE).wf (Fr F [one T]) w.heap T_l) (T_K : TpB 58 T T_l w) :
 Calls Tryd.prog 10 #[pT T 0] w fun e w' => ∃ (r : ByteArray), e = .returned (.string r) ∧ strE.wf (Fr F [one T]) w'.heap r ∧ r.size ≤ 1000 ∧ TpB 58 T T_l w' ∧ Tr [one T] w [one T] w' := by
 refine go Tryd.func10 rfl 36 rfl [wfF (slE intE) T_l] [tpO 58 T T_l] hF M ⟨T_w, trivial⟩ ⟨T_K, trivial⟩ ?_
 intro a S
 refine rs S (la (av rfl)) ?_; clear S; intro a u S
 refine rs S (la (av rfl)) ?_; clear S; intro a u S
 refine wp_seq (rs0 ?_)
 refine sp S (la (mv rfl)) ?_; clear S; intro a u S
 refine cl S (gNext _ _ S.x T (S.M.pick [0] (by decide)) T_l (dn1 (js := [0]) (S.u 0 rfl)) (S.t 0 rfl) 6 ⟨by omega, by omega⟩) cB14 ?_
 rintro e u ⟨r_t7, rfl, hr_t7, tK, T0⟩; refine ⟨_, rfl, fun a s => ?_⟩
 replace S := S.k1 0 rfl s T0 tK; clear s T0 tK
 refine ens S (la (av rfl)) ?_; clear S; intro a u S
 refine wp_block ?_
 refine lp2 (fun (sx : ByteArray) (ii : Int) => [(0, pT T 0), (2, .string (⟨#[]⟩)), (3, .string sx), (4, iI ii)]) (fun (sx : ByteArray) (ii : Int) => [tpO 58 T T_l]) (fun (sx : ByteArray) (ii : Int) => (0 ≤ ii ∧ ii ≤ 5) ∧ (sx.size : Int) ≤ (5 - ii) * 200) (fun (sx : ByteArray) (ii : Int) => ii.toNat) S (⟨#[]⟩) r_t7 (subM rfl) rfl ?_ ?_
 ·exact ⟨⟨by omega, by omega⟩, by show ((0 : Nat) : Int) ≤ _; omega⟩
 clear S; intro sx ii a u S hR
 obtain ⟨⟨hi0, hi1⟩, hsx⟩ := hR
 refine wp_seq ?_
 refine rs S (tr (mv rfl)<|la (gtri rfl rfl)) ?_; clear S; intro a u S
 refine cd S rfl ?_ ?_
 ·intro hc0
  refine wp_skip (then_n (wp_seq (wp_block (wp_seq (rs0 ?_)))))
  refine sp S (la (mv rfl)) ?_; clear S; intro a u S
  refine cl S (gNext _ _ S.x T (S.M.pick [0] (by decide)) T_l (dn1 (js := [0]) (S.u 0 rfl)) (S.t 0 rfl) 5 ⟨by omega, by omega⟩) cB14 ?_
  rintro e u ⟨r_t13, rfl, hr_t13, tK, T0⟩; refine ⟨_, rfl, fun a s => ?_⟩
  replace S := S.k1 0 rfl s T0 tK; clear s T0 tK
  refine ens S (la (av rfl)) ?_; clear S; intro a u S
  refine wp_block ?_
  refine lp2 (fun (sy : ByteArray) (jj : Int) => [(0, pT T 0), (2, .string (⟨#[]⟩)), (4, iI ii), (8, iI ii), (9, bD (0 < ii)), (12, pT T 0), (13, iI r_t13), (3, .string sy), (5, iI jj)]) (fun (sy : ByteArray) (jj : Int) => [tpO 58 T T_l]) (fun (sy : ByteArray) (jj : Int) => (0 ≤ jj ∧ jj ≤ 4) ∧ (sy.size : Int) ≤ sx.size + (4 - jj) * 40) (fun (sy : ByteArray) (jj : Int) => jj.toNat) S sx r_t13 (subM rfl) rfl ?_ ?_
  ·exact ⟨⟨by omega, by omega⟩, by omega⟩
  clear S; intro sy jj a u S hR
  obtain ⟨⟨hj0, hj1⟩, hsy⟩ := hR
  refine wp_seq ?_
  refine rs S (tr (mv rfl)<|la (gtri rfl rfl)) ?_; clear S; intro a u S
  refine cd S rfl ?_ ?_
  ·intro hc1
   refine wp_skip (then_n (wp_seq (wp_block (r0 ?_))))
   refine sp S (tr (mv rfl)<|la (mv rfl)) ?_; clear S; intro a u S
   refine cl S (lWord _ _ S.x T (S.M.pick [0] (by decide)) T_l (dn1 (js := [0]) (S.u 0 rfl)) (S.t 0 rfl)) cB25 ?_
   rintro e u ⟨r_t20, rfl, R_t20, hr_t20, tK, T0⟩; refine ⟨_, rfl, fun a s => ?_⟩
   replace S := (S.k1 0 rfl s T0 tK).ar (wfF strE r_t20) (Enc.up _ R_t20); clear s T0 tK R_t20
   refine nbs strE S ([⟨#[32]⟩, ⟨#[]⟩, ⟨#[9]⟩, ⟨#[32, 32]⟩] : List ByteArray) (x_bs S [(0, .string (⟨#[32]⟩)), (1, .string (⟨#[]⟩)), (2, .string (⟨#[9]⟩)), (3, .string (⟨#[32, 32]⟩))] uT29 iZ9) (fun x hx => by simp only [List.mem_cons, List.not_mem_nil, or_false] at hx; rcases hx with hx | hx | hx | hx <;> rw [hx] <;> first | exact (show strE.wf _ _ (⟨#[32]⟩) from (show (⟨#[32]⟩ : ByteArray).size ≤ maxLen from by unfold maxLen; decide)) | exact (show strE.wf _ _ (⟨#[]⟩) from (show (⟨#[]⟩ : ByteArray).size ≤ maxLen from by unfold maxLen; decide)) | exact (show strE.wf _ _ (⟨#[9]⟩) from (show (⟨#[9]⟩ : ByteArray).size ≤ maxLen from by unfold maxLen; decide)) | exact (show strE.wf _ _ (⟨#[32, 32]⟩) from (show (⟨#[32, 32]⟩ : ByteArray).size ≤ maxLen from by unfold maxLen; decide))) ?_; clear S; intro a u b21 S
   refine sp S (la (mv rfl)) ?_; clear S; intro a u S
   refine cl S (gNext _ _ S.x T (S.M.pick [0] (by decide)) T_l (dn1 (js := [0]) (S.u 0 rfl)) (S.t 0 rfl) 4 ⟨by omega, by omega⟩) cB14 ?_
   rintro e u ⟨r_t23, rfl, hr_t23, tK, T0⟩; refine ⟨_, rfl, fun a s => ?_⟩
   replace S := S.k1 0 rfl s T0 tK; clear s T0 tK
   refine sp S (tr (idxi uT29 sZ9 rfl rfl (r_t23).toNat (by omega) (by first | omega | (simp only [List.length_cons, List.length_nil]; omega)) ((show LAt strE _ _ (some ⟨b21, 0, none⟩) ([⟨#[32]⟩, ⟨#[]⟩, ⟨#[9]⟩, ⟨#[32, 32]⟩] : List ByteArray) from ((S.u 2 rfl)).1).adr (i := (r_t23).toNat) (by first | omega | (simp only [List.length_cons, List.length_nil]; omega))))<|la (ov fun S=>x_load sC9 (S.e rfl) ((show LAt strE _ _ (some ⟨b21, 0, none⟩) ([⟨#[32]⟩, ⟨#[]⟩, ⟨#[9]⟩, ⟨#[32, 32]⟩] : List ByteArray) from ((S.u 2 rfl)).1).cell (r_t23).toNat (by first | omega | (simp only [List.length_cons, List.length_nil]; omega)) 0 _ rfl))) ?_; clear S; intro a u S
   obtain ⟨z8, hz8, hzs8⟩ : ∃ z : ByteArray, z = (([⟨#[32]⟩, ⟨#[]⟩, ⟨#[9]⟩, ⟨#[32, 32]⟩] : List ByteArray).getD ((r_t23).toNat) strE.dflt) ∧ z.size ≤ 2 := ⟨_, rfl, lit_le (by decide) _⟩
   rw [← hz8] at S; clear hz8
   refine en S (tr (ov fun S=>x_sadd (S.e rfl) (S.e rfl) (by first | omega | (simp only [ByteArray.size_append, ba_sz, List.size_toArray, List.length_cons, List.length_nil]; omega)))<|tr (ov fun S=>x_sadd (S.e rfl) (S.e rfl) (by first | omega | (simp only [ByteArray.size_append, ba_sz, List.size_toArray, List.length_cons, List.length_nil]; omega)))<|la (av rfl)) ?_; clear S; intro a u S
   refine blk_n (then_n ?_)
   refine rg S (tr (mv rfl)<|tr (subi (jj - 1) rfl rfl (w_i64 (by omega)))<|la (av rfl)) ?_; clear S; intro a u S
   refine then_n ?_
   refine ⟨(sy ++ (r_t20 ++ z8)), (jj - 1), S.re (subM rfl) rfl rfl, ?_, ?_⟩
   ·refine ⟨⟨by omega, by omega⟩, ?_⟩
    first | omega | (simp only [ByteArray.size_append, ba_sz, List.size_toArray, List.length_cons, List.length_nil]; omega)
   omega
  intro hc2
  refine wp_exit (then_e (then_e (blk_e (then_n (r0 ?_)))))
  refine sp S (la (mv rfl)) ?_; clear S; intro a u S
  refine nbs strE S ([⟨#[10]⟩, ⟨#[10]⟩, ⟨#[10, 10]⟩, ⟨#[32, 35, 32, 120, 32, 61, 32, 121, 10]⟩, ⟨#[]⟩] : List ByteArray) (x_bs S [(0, .string (⟨#[10]⟩)), (1, .string (⟨#[10]⟩)), (2, .string (⟨#[10, 10]⟩)), (3, .string (⟨#[32, 35, 32, 120, 32, 61, 32, 121, 10]⟩)), (4, .string (⟨#[]⟩))] uT29 iZ9) (fun x hx => by simp only [List.mem_cons, List.not_mem_nil, or_false] at hx; rcases hx with hx | hx | hx | hx | hx <;> rw [hx] <;> first | exact (show strE.wf _ _ (⟨#[10]⟩) from (show (⟨#[10]⟩ : ByteArray).size ≤ maxLen from by unfold maxLen; decide)) | exact (show strE.wf _ _ (⟨#[10, 10]⟩) from (show (⟨#[10, 10]⟩ : ByteArray).size ≤ maxLen from by unfold maxLen; decide)) | exact (show strE.wf _ _ (⟨#[32, 35, 32, 120, 32, 61, 32, 121, 10]⟩) from (show (⟨#[32, 35, 32, 120, 32, 61, 32, 121, 10]⟩ : ByteArray).size ≤ maxLen from by unfold maxLen; decide)) | exact (show strE.wf _ _ (⟨#[]⟩) from (show (⟨#[]⟩ : ByteArray).size ≤ maxLen from by unfold maxLen; decide))) ?_; clear S; intro a u b29 S
  refine sp S (la (mv rfl)) ?_; clear S; intro a u S
  refine cl S (gNext _ _ S.x T (S.M.pick [0] (by decide)) T_l (dn1 (js := [0]) (S.u 0 rfl)) (S.t 0 rfl) 5 ⟨by omega, by omega⟩) cB14 ?_
  rintro e u ⟨r_t31, rfl, hr_t31, tK, T0⟩; refine ⟨_, rfl, fun a s => ?_⟩
  replace S := S.k1 0 rfl s T0 tK; clear s T0 tK
  refine sp S (tr (idxi uT29 sZ9 rfl rfl (r_t31).toNat (by omega) (by first | omega | (simp only [List.length_cons, List.length_nil]; omega)) ((show LAt strE _ _ (some ⟨b29, 0, none⟩) ([⟨#[10]⟩, ⟨#[10]⟩, ⟨#[10, 10]⟩, ⟨#[32, 35, 32, 120, 32, 61, 32, 121, 10]⟩, ⟨#[]⟩] : List ByteArray) from ((S.u 1 rfl)).1).adr (i := (r_t31).toNat) (by first | omega | (simp only [List.length_cons, List.length_nil]; omega))))<|la (ov fun S=>x_load sC9 (S.e rfl) ((show LAt strE _ _ (some ⟨b29, 0, none⟩) ([⟨#[10]⟩, ⟨#[10]⟩, ⟨#[10, 10]⟩, ⟨#[32, 35, 32, 120, 32, 61, 32, 121, 10]⟩, ⟨#[]⟩] : List ByteArray) from ((S.u 1 rfl)).1).cell (r_t31).toNat (by first | omega | (simp only [List.length_cons, List.length_nil]; omega)) 0 _ rfl))) ?_; clear S; intro a u S
  obtain ⟨z11, hz11, hzs11⟩ : ∃ z : ByteArray, z = (([⟨#[10]⟩, ⟨#[10]⟩, ⟨#[10, 10]⟩, ⟨#[32, 35, 32, 120, 32, 61, 32, 121, 10]⟩, ⟨#[]⟩] : List ByteArray).getD ((r_t31).toNat) strE.dflt) ∧ z.size ≤ 9 := ⟨_, rfl, lit_le (by decide) _⟩
  rw [← hz11] at S; clear hz11
  refine en S (tr (ov fun S=>x_sadd (S.e rfl) (S.e rfl) (by first | omega | (simp only [ByteArray.size_append, ba_sz, List.size_toArray, List.length_cons, List.length_nil]; omega)))<|la (av rfl)) ?_; clear S; intro a u S
  refine blk_n (then_n ?_)
  refine rg S (tr (mv rfl)<|tr (subi (ii - 1) rfl rfl (w_i64 (by omega)))<|la (av rfl)) ?_; clear S; intro a u S
  refine then_n ?_
  refine ⟨(sy ++ z11), (ii - 1), S.re (subM rfl) rfl rfl, ?_, ?_⟩
  ·refine ⟨⟨by omega, by omega⟩, ?_⟩
   first | omega | (simp only [ByteArray.size_append, ba_sz, List.size_toArray, List.length_cons, List.length_nil]; omega)
  omega
 intro hc3
 refine wp_exit (then_e (then_e (blk_e (then_n ?_))))
 refine rs S (tr (mv rfl)<|la (av rfl)) ?_; clear S; intro a u S
 refine wp_ret ?_
 refine ret1 rfl S.s rfl ?_
 refine ⟨sx, rfl, (show inStr sx from (by unfold inStr maxLen; omega)), ?_, (S.t 0 rfl), S.m.c⟩
 omega
end Go.Proofs.YtmaiillomoehgaaDoor.V
