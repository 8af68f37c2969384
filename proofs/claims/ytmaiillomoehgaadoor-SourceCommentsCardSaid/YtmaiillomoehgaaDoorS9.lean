/- the law SourceComments -/
import Derived.Test.YtmaiillomoehgaaDoorS8
namespace Go.Proofs.YtmaiillomoehgaaDoor.V
open Go.RowKit Go.Proofs.YtmaiillomoehgaaDoor
set_option linter.unusedVariables false
set_option linter.unusedSimpArgs false
set_option maxHeartbeats 2000000 in
set_option maxRecDepth 20000 in
theorem lwCom (w : World) (F : Nat → Prop) (hF : Old F w) (M : MS [] w) (l : Sl Int) (l_w : (slE intE).wf (Fr F []) w.heap l) (g_w : hasML w.heap) :
 Calls Tryd.prog 4 #[sV l] w fun e w' => e = .returned (bD (True)) ∧ Tr [] w [] w' := by
 have : l.xs.length ≤ 9223372036854775807 := (l_w).1.len
 refine go Tryd.func4 rfl 147 rfl [wfF (slE intE) l, glF] [] hF M ⟨l_w, ⟨fun h => h, g_w⟩, trivial⟩ trivial ?_
 intro a S
 refine rs S (la (av rfl)) ?_; clear S; intro a u S
 refine rs0 ?_
 refine sp S (la (mv rfl)) ?_; clear S; intro a u S
 refine cl S (gNew _ _ S.x (.nil _) l (dn0 (S.u 0 rfl))) cB9 ?_
 rintro e u ⟨T20, rfl, TK, T0⟩; refine ⟨_, rfl, fun a s => ?_⟩; replace S := S.kt s T0 TK; clear s T0 TK
 refine ens S (la (av rfl)) ?_; clear S; intro a u S
 refine rs S (tr (av rfl)<|tr (av rfl)<|la (av rfl)) ?_; clear S; intro a u S
 refine wp_seq (rs0 ?_)
 refine sp S (la (mv rfl)) ?_; clear S; intro a u S
 refine cl S (gNext _ _ S.x T20 (S.M.pick [0] (by decide)) l (dn1 (js := [0]) (S.u 0 rfl)) (S.t 0 rfl) 6 ⟨by omega, by omega⟩) cB14 ?_
 rintro e u ⟨r_t22, rfl, hr_t22, tK, T0⟩; refine ⟨_, rfl, fun a s => ?_⟩
 replace S := S.k1 0 rfl s T0 tK; clear s T0 tK
 refine ens S (la (av rfl)) ?_; clear S; intro a u S
 refine wp_block ?_
 refine lp5 (fun (sx : ByteArray) (sy : ByteArray) (sz : ByteArray) (ii : Int) (gs : List Ch3) => [(2, .bool false), (3, pT T20 0), (4, .string sx), (5, .string sy), (6, .string sz), (7, iI ii)]) (fun (sx : ByteArray) (sy : ByteArray) (sz : ByteArray) (ii : Int) (gs : List Ch3) => [tpO 58 T20 l]) (fun (sx : ByteArray) (sy : ByteArray) (sz : ByteArray) (ii : Int) (gs : List Ch3) => (0 ≤ ii ∧ ii ≤ 5) ∧ (gs.length : Int) + ii ≤ 5 ∧ (∀ g ∈ gs, okG g) ∧ bl sx = catA gs ∧ bl sy = catB gs ∧ bl sz = catC gs ∧ ((sx.size : Int) ≤ (5 - ii) * 9 ∧ (sy.size : Int) ≤ (5 - ii) * 20 ∧ (sz.size : Int) ≤ (5 - ii) * 20)) (fun (sx : ByteArray) (sy : ByteArray) (sz : ByteArray) (ii : Int) (gs : List Ch3) => ii.toNat) S (⟨#[]⟩) (⟨#[]⟩) (⟨#[]⟩) r_t22 ([]) (subM rfl) rfl ?_ ?_
 ·exact ⟨⟨by omega, by omega⟩, by simp; omega, fun g h => by simp at h, rfl, rfl, rfl, by show ((0 : Nat) : Int) ≤ _; omega, by show ((0 : Nat) : Int) ≤ _; omega, by show ((0 : Nat) : Int) ≤ _; omega⟩
 clear S; intro sx sy sz ii gs a u S hR
 obtain ⟨⟨hi0, hi1⟩, hGl, hG, hA, hB, hC, hzx, hzy, hzz⟩ := hR
 refine wp_seq ?_
 refine rs S (tr (mv rfl)<|la (gtri rfl rfl)) ?_; clear S; intro a u S
 refine cd S rfl ?_ ?_
 ·intro hc0
  refine wp_skip (then_n (wp_seq (wp_block (rs0 ?_))))
  refine nbs strE S ([⟨#[119]⟩, ⟨#[122, 111, 110, 101]⟩, ⟨#[120]⟩] : List ByteArray) (x_bs S [(0, .string (⟨#[119]⟩)), (1, .string (⟨#[122, 111, 110, 101]⟩)), (2, .string (⟨#[120]⟩))] uT29 iZ9) (fun x hx => by simp only [List.mem_cons, List.not_mem_nil, or_false] at hx; rcases hx with hx | hx | hx <;> rw [hx] <;> first | exact (show strE.wf _ _ (⟨#[119]⟩) from (show (⟨#[119]⟩ : ByteArray).size ≤ maxLen from by unfold maxLen; decide)) | exact (show strE.wf _ _ (⟨#[122, 111, 110, 101]⟩) from (show (⟨#[122, 111, 110, 101]⟩ : ByteArray).size ≤ maxLen from by unfold maxLen; decide)) | exact (show strE.wf _ _ (⟨#[120]⟩) from (show (⟨#[120]⟩ : ByteArray).size ≤ maxLen from by unfold maxLen; decide))) ?_; clear S; intro a u b27 S
  refine sp S (la (mv rfl)) ?_; clear S; intro a u S
  refine cl S (gNext _ _ S.x T20 (S.M.pick [0] (by decide)) l (dn1 (js := [0]) (S.u 0 rfl)) (S.t 0 rfl) 3 ⟨by omega, by omega⟩) cB14 ?_
  rintro e u ⟨r_t29, rfl, hr_t29, tK, T0⟩; refine ⟨_, rfl, fun a s => ?_⟩
  replace S := S.k1 0 rfl s T0 tK; clear s T0 tK
  have htA := tabA (1 + r_t29).toNat (by omega) (by omega)
  have hJN : (xOf (1 + r_t29).toNat).size ≤ 1099511627776 := Nat.le_trans htA.2.2.2.1 (by decide)
  have hk7 : (([⟨#[119]⟩, ⟨#[122, 111, 110, 101]⟩, ⟨#[120]⟩] : List ByteArray).take ((1 + r_t29)).toNat).length = ((1 + r_t29)).toNat := by rw [List.length_take]; first | omega | (simp only [List.length_cons, List.length_nil]; omega)
  refine sp S (tr (addi (1 + r_t29) rfl rfl (w_i64 (by omega)))<|tr (ov (v := .slice (some ⟨b27, 0, none⟩) ((([⟨#[119]⟩, ⟨#[122, 111, 110, 101]⟩, ⟨#[120]⟩] : List ByteArray).take ((1 + r_t29)).toNat).length) 3) fun S=>x_slhn uT29 iZ9 (S.e rfl) (S.e rfl) ((1 + r_t29)).toNat (by omega) (Nat.le_trans (by show _ ≤ 3; omega) ((S.u 2 rfl)).2.1) ((S.u 2 rfl)).2.2 _ (by rw [List.length_take]; first | omega | (simp only [List.length_cons, List.length_nil]; omega)))<|la (ov fun S=>x_bd S [(1, .slice (some ⟨b27, 0, none⟩) ((([⟨#[119]⟩, ⟨#[122, 111, 110, 101]⟩, ⟨#[120]⟩] : List ByteArray).take ((1 + r_t29)).toNat).length) 3)] [iI 0, .slice (some ⟨b27, 0, none⟩) ((([⟨#[119]⟩, ⟨#[122, 111, 110, 101]⟩, ⟨#[120]⟩] : List ByteArray).take ((1 + r_t29)).toNat).length) 3])) ?_; clear S; intro a u S
  refine nbs lineE S [(⟨0, (Sl.mk (some ⟨b27, 0, none⟩) 3 (([⟨#[119]⟩, ⟨#[122, 111, 110, 101]⟩, ⟨#[120]⟩] : List ByteArray).take ((1 + r_t29)).toNat))⟩ : Line)] (x_bs S [(0, .agg #[iI 0, .slice (some ⟨b27, 0, none⟩) ((([⟨#[119]⟩, ⟨#[122, 111, 110, 101]⟩, ⟨#[120]⟩] : List ByteArray).take ((1 + r_t29)).toNat).length) 3])] uT36 iZ35) (fun x hx => by simp only [List.mem_cons, List.not_mem_nil, or_false] at hx; rw [hx]; exact (show lineE.wf _ _ (⟨0, (Sl.mk (some ⟨b27, 0, none⟩) 3 (([⟨#[119]⟩, ⟨#[122, 111, 110, 101]⟩, ⟨#[120]⟩] : List ByteArray).take ((1 + r_t29)).toNat))⟩ : Line) from ⟨(show inI64 0 from ⟨by omega, by omega⟩), (sl_take (S.u 2 rfl) ((1 + r_t29)).toNat (by show _ ≤ 3; omega))⟩)) ?_; clear S; intro a u b33 S
  refine sp S (tr (oc (fun S=>rJoin _ _ S.x (.nil _) (Sl.mk (some ⟨b33, 0, none⟩) 1 ([(⟨0, (Sl.mk (some ⟨b27, 0, none⟩) 3 (([⟨#[119]⟩, ⟨#[122, 111, 110, 101]⟩, ⟨#[120]⟩] : List ByteArray).take ((1 + r_t29)).toNat))⟩ : Line)])) (dn0 (S.u 3 rfl)) (by first | assumption | exact hJN)) cB16)<|la (av rfl)) ?_; clear S; intro a u S
  obtain ⟨x8, hx8⟩ : ∃ x : ByteArray, x = xOf (1 + r_t29).toNat := ⟨_, rfl⟩
  rw [show (joinB (([(⟨0, (Sl.mk (some ⟨b27, 0, none⟩) 3 (([⟨#[119]⟩, ⟨#[122, 111, 110, 101]⟩, ⟨#[120]⟩] : List ByteArray).take ((1 + r_t29)).toNat))⟩ : Line)]).map fun x => x.words.xs)) = x8 from hx8.symm] at S
  have hz8 : x8.size ≤ 9 ∧ 1 ≤ x8.size := by rw [hx8]; exact htA.2.2.2
  refine ent ?_
  refine rs S (tr (mv rfl)<|tr (mv rfl)<|tr (ov fun S=>x_sadd (S.e rfl) (S.e rfl) (by first | omega | (simp only [ByteArray.size_append, ba_sz, List.size_toArray, List.length_cons, List.length_nil]; omega)))<|la (av rfl)) ?_; clear S; intro a u S
  refine wp_seq ?_
  have hx9 := ext_sz x8 (m := ((((x8.size : Nat) : Int) - 1)).toNat) (by omega)
  refine dr (P := Tryd.prog) S 15 [one T20] [(38, .is _), (39, .is _), (40, .is _), (41, .is _), (42, .is _), (43, .is _), (44, .is _), (45, .of (fun z w => ∃ (x45a : Nat), z = .slice (some ⟨x45a, 0, none⟩) 4 4 ∧ (slE strE).wf (Fr F [one T20]) w.heap (Sl.mk (some ⟨x45a, 0, none⟩) 4 ([⟨#[35, 32, 99]⟩, ⟨#[32]⟩, ⟨#[32, 35, 32, 61, 44, 35]⟩, ⟨#[]⟩] : List ByteArray))) (fun v w w' c h => let ⟨x45a, hv, h0⟩ := h; ⟨x45a, hv, Enc.kp (slE strE) h0 c (by intro o h; simp at h ⊢; first | exact .inl h | simp [h])⟩)), (46, .is _), (47, .of (fun z w => ∃ (x47a : Int), z = iI x47a ∧ (0 ≤ x47a ∧ (x47a < 4 ∨ x47a = 0))) (fun v w w' c h => let ⟨x47a, hv, h0⟩ := h; ⟨x47a, hv, h0⟩)), (48, .of (fun z w => ∃ (x45a : Nat) (x47b : Int), z = pT (blk (some ⟨x45a, 0, none⟩)) (off (some ⟨x45a, 0, none⟩) + (x47b).toNat * 1) ∧ (slE strE).wf (Fr F [one T20]) w.heap (Sl.mk (some ⟨x45a, 0, none⟩) 4 ([⟨#[35, 32, 99]⟩, ⟨#[32]⟩, ⟨#[32, 35, 32, 61, 44, 35]⟩, ⟨#[]⟩] : List ByteArray)) ∧ (0 ≤ x47b ∧ (x47b < 4 ∨ x47b = 0))) (fun v w w' c h => let ⟨x45a, x47b, hv, h0, h1⟩ := h; ⟨x45a, x47b, hv, Enc.kp (slE strE) h0 c (by intro o h; simp at h ⊢; first | exact .inl h | simp [h]), h1⟩)), (49, .of (fun z w => ∃ (x45a : Nat) (x47b : Int), z = .string (([⟨#[35, 32, 99]⟩, ⟨#[32]⟩, ⟨#[32, 35, 32, 61, 44, 35]⟩, ⟨#[]⟩] : List ByteArray).getD ((x47b).toNat) strE.dflt) ∧ (slE strE).wf (Fr F [one T20]) w.heap (Sl.mk (some ⟨x45a, 0, none⟩) 4 ([⟨#[35, 32, 99]⟩, ⟨#[32]⟩, ⟨#[32, 35, 32, 61, 44, 35]⟩, ⟨#[]⟩] : List ByteArray)) ∧ (0 ≤ x47b ∧ (x47b < 4 ∨ x47b = 0))) (fun v w w' c h => let ⟨x45a, x47b, hv, h0, h1⟩ := h; ⟨x45a, x47b, hv, Enc.kp (slE strE) h0 c (by intro o h; simp at h ⊢; first | exact .inl h | simp [h]), h1⟩)), (50, .of (fun z w => ∃ (x47a : Int), z = .string ((⟨#[32, 9]⟩ ++ (x8.extract 0 (((((x8.size : Nat) : Int) - 1)).toNat))) ++ (([⟨#[35, 32, 99]⟩, ⟨#[32]⟩, ⟨#[32, 35, 32, 61, 44, 35]⟩, ⟨#[]⟩] : List ByteArray).getD ((x47a).toNat) strE.dflt)) ∧ (0 ≤ x47a ∧ (x47a < 4 ∨ x47a = 0))) (fun v w w' c h => let ⟨x47a, hv, h0⟩ := h; ⟨x47a, hv, h0⟩)), (51, .of (fun z w => ∃ (x47a : Int), z = .string (((⟨#[32, 9]⟩ ++ (x8.extract 0 (((((x8.size : Nat) : Int) - 1)).toNat))) ++ (([⟨#[35, 32, 99]⟩, ⟨#[32]⟩, ⟨#[32, 35, 32, 61, 44, 35]⟩, ⟨#[]⟩] : List ByteArray).getD ((x47a).toNat) strE.dflt)) ++ ⟨#[10]⟩) ∧ (0 ≤ x47a ∧ (x47a < 4 ∨ x47a = 0))) (fun v w w' c h => let ⟨x47a, hv, h0⟩ := h; ⟨x47a, hv, h0⟩)), (52, .of (fun z w => ∃ (x47a : Int), z = .string (sy ++ (((⟨#[32, 9]⟩ ++ (x8.extract 0 (((((x8.size : Nat) : Int) - 1)).toNat))) ++ (([⟨#[35, 32, 99]⟩, ⟨#[32]⟩, ⟨#[32, 35, 32, 61, 44, 35]⟩, ⟨#[]⟩] : List ByteArray).getD ((x47a).toNat) strE.dflt)) ++ ⟨#[10]⟩)) ∧ (0 ≤ x47a ∧ (x47a < 4 ∨ x47a = 0))) (fun v w w' c h => let ⟨x47a, hv, h0⟩ := h; ⟨x47a, hv, h0⟩))] [[], [], [], [40], [41], [39, 42], [43], [], [], [46], [45, 47], [48], [44, 49], [50], [38, 51]] [52] _ ⟨qd (mv rfl), qd (mv rfl), qd (mv rfl), qd (lesi uT9 rfl), qd (subi (((x8.size : Nat) : Int) - 1) rfl rfl (w_i64 (by omega))), qd (ov (v := .string (x8.extract 0 (((((x8.size : Nat) : Int) - 1)).toNat))) fun S=>x_sslh uT9 (S.e rfl) (S.e rfl) (((((x8.size : Nat) : Int) - 1)).toNat) (by omega) (by omega)), qd (ov fun S=>x_sadd (S.e rfl) (S.e rfl) (by first | omega | (simp only [ByteArray.size_append, ba_sz, List.size_toArray, List.length_cons, List.length_nil]; omega))), ?_, qd (mv rfl), ?_, ?_, ?_, ?_, ?_, ?_, trivial⟩ ?_
  ·skip
   intro a u S G hE
   refine hnb 45 S.m (x_bsl [(0, .string (⟨#[35, 32, 99]⟩)), (1, .string (⟨#[32]⟩)), (2, .string (⟨#[32, 35, 32, 61, 44, 35]⟩)), (3, .string (⟨#[]⟩))] [.string (⟨#[35, 32, 99]⟩), .string (⟨#[32]⟩), .string (⟨#[32, 35, 32, 61, 44, 35]⟩), .string (⟨#[]⟩)] uT29 iZ9 (by decide) (by decide) (by simp only [List.map_cons, List.map_nil, S.e (x := .const (.string (⟨#[35, 32, 99]⟩))) (v := .string (⟨#[35, 32, 99]⟩)) rfl, S.e (x := .const (.string (⟨#[32]⟩))) (v := .string (⟨#[32]⟩)) rfl, S.e (x := .const (.string (⟨#[32, 35, 32, 61, 44, 35]⟩))) (v := .string (⟨#[32, 35, 32, 61, 44, 35]⟩)) rfl, S.e (x := .const (.string (⟨#[]⟩))) (v := .string (⟨#[]⟩)) rfl]) (by kernel_rfl)) fun g => (show ∃ _, _ from ⟨_, rfl, sl_of_blk (Blk.new _ [.string (⟨#[35, 32, 99]⟩), .string (⟨#[32]⟩), .string (⟨#[32, 35, 32, 61, 44, 35]⟩), .string (⟨#[]⟩)] 9) ([⟨#[35, 32, 99]⟩, ⟨#[32]⟩, ⟨#[32, 35, 32, 61, 44, 35]⟩, ⟨#[]⟩] : List ByteArray) 4 rfl (by decide) (by decide) rfl (fr_fresh S.m.c S.m.f rfl) ?_⟩)
   intro x hx; simp only [List.mem_cons, List.not_mem_nil, or_false] at hx; rcases hx with hx | hx | hx | hx <;> rw [hx] <;> first | exact Enc.tr (strE) (show strE.wf (Fr F (ow _)) _ (⟨#[35, 32, 99]⟩) from (show (⟨#[35, 32, 99]⟩ : ByteArray).size ≤ maxLen from by unfold maxLen; decide)) (Tr.of_ch0 S.M g) | exact Enc.tr (strE) (show strE.wf (Fr F (ow _)) _ (⟨#[32]⟩) from (show (⟨#[32]⟩ : ByteArray).size ≤ maxLen from by unfold maxLen; decide)) (Tr.of_ch0 S.M g) | exact Enc.tr (strE) (show strE.wf (Fr F (ow _)) _ (⟨#[32, 35, 32, 61, 44, 35]⟩) from (show (⟨#[32, 35, 32, 61, 44, 35]⟩ : ByteArray).size ≤ maxLen from by unfold maxLen; decide)) (Tr.of_ch0 S.M g) | exact Enc.tr (strE) (show strE.wf (Fr F (ow _)) _ (⟨#[]⟩) from (show (⟨#[]⟩ : ByteArray).size ≤ maxLen from by unfold maxLen; decide)) (Tr.of_ch0 S.M g)
  ·skip
   intro a u S G hE
   refine hcl S (gNext _ _ S.x T20 (S.M.pick [0] (by decide)) l (dn1 (js := [0]) (S.u 0 rfl)) (S.t 0 rfl) 4 ⟨by omega, by omega⟩) cB14 ?_
   rintro e w2 ⟨r_h47, rfl, hr_h47, tK, T0⟩; refine ⟨_, rfl, (show ∃ _, _ from ?_), T0.ch, (S.k1 0 rfl S.s T0 tK).m⟩
   exact ⟨r_h47, rfl, hr_h47⟩
  ·skip
   intro a u S G hE
   obtain ⟨e45, e47, -⟩ := hE
   have M0 := S.m
   obtain ⟨x45_10, e45, X10⟩ := e45
   replace S := S.ext e45
   obtain ⟨x47_11, e47, hr11⟩ := e47
   replace S := S.ext e47
   exact hvl 48 S M0 (v := pT (blk (some ⟨x45_10, 0, none⟩)) (off (some ⟨x45_10, 0, none⟩) + (x47_11).toNat * 1)) (x_idx uT29 sZ9 (S.e rfl) (S.e rfl) (x47_11).toNat (by omega) (by first | omega | (simp only [List.length_cons, List.length_nil]; omega)) ((show LAt strE _ _ (some ⟨x45_10, 0, none⟩) ([⟨#[35, 32, 99]⟩, ⟨#[32]⟩, ⟨#[32, 35, 32, 61, 44, 35]⟩, ⟨#[]⟩] : List ByteArray) from (X10).1).adr (i := (x47_11).toNat) (by first | omega | (simp only [List.length_cons, List.length_nil]; omega)))) (show ∃ _, _ from ⟨x45_10, x47_11, rfl, X10, hr11⟩)
  ·skip
   intro a u S G hE
   obtain ⟨e48, -⟩ := hE
   have M0 := S.m
   obtain ⟨x45_12, x47_13, e48, X12, hr13⟩ := e48
   replace S := S.ext e48
   exact hvl 49 S M0 (v := .string (([⟨#[35, 32, 99]⟩, ⟨#[32]⟩, ⟨#[32, 35, 32, 61, 44, 35]⟩, ⟨#[]⟩] : List ByteArray).getD ((x47_13).toNat) strE.dflt)) (x_load sC9 (S.e rfl) ((show LAt strE _ _ (some ⟨x45_12, 0, none⟩) ([⟨#[35, 32, 99]⟩, ⟨#[32]⟩, ⟨#[32, 35, 32, 61, 44, 35]⟩, ⟨#[]⟩] : List ByteArray) from (X12).1).cell (x47_13).toNat (by first | omega | (simp only [List.length_cons, List.length_nil]; omega)) 0 _ rfl)) (show ∃ _, _ from ⟨x45_12, x47_13, rfl, X12, hr13⟩)
  ·skip
   intro a u S G hE
   obtain ⟨e49, -⟩ := hE
   have M0 := S.m
   obtain ⟨x45_14, x47_15, e49, X14, hr15⟩ := e49
   replace S := S.ext e49
   exact hvl 50 S M0 (v := .string ((⟨#[32, 9]⟩ ++ (x8.extract 0 (((((x8.size : Nat) : Int) - 1)).toNat))) ++ (([⟨#[35, 32, 99]⟩, ⟨#[32]⟩, ⟨#[32, 35, 32, 61, 44, 35]⟩, ⟨#[]⟩] : List ByteArray).getD ((x47_15).toNat) strE.dflt))) (x_sadd (S.e rfl) (S.e rfl) (by have hq0 := lit_le (n := 64) (l := ([⟨#[35, 32, 99]⟩, ⟨#[32]⟩, ⟨#[32, 35, 32, 61, 44, 35]⟩, ⟨#[]⟩] : List ByteArray)) (by decide) ((x47_15).toNat); first | omega | (simp only [ByteArray.size_append, ba_sz, List.size_toArray, List.length_cons, List.length_nil]; omega))) (show ∃ _, _ from ⟨x47_15, rfl, hr15⟩)
  ·skip
   intro a u S G hE
   obtain ⟨e50, -⟩ := hE
   have M0 := S.m
   obtain ⟨x47_16, e50, hr16⟩ := e50
   replace S := S.ext e50
   exact hvl 51 S M0 (v := .string (((⟨#[32, 9]⟩ ++ (x8.extract 0 (((((x8.size : Nat) : Int) - 1)).toNat))) ++ (([⟨#[35, 32, 99]⟩, ⟨#[32]⟩, ⟨#[32, 35, 32, 61, 44, 35]⟩, ⟨#[]⟩] : List ByteArray).getD ((x47_16).toNat) strE.dflt)) ++ ⟨#[10]⟩)) (x_sadd (S.e rfl) (S.e rfl) (by have hq0 := lit_le (n := 64) (l := ([⟨#[35, 32, 99]⟩, ⟨#[32]⟩, ⟨#[32, 35, 32, 61, 44, 35]⟩, ⟨#[]⟩] : List ByteArray)) (by decide) ((x47_16).toNat); first | omega | (simp only [ByteArray.size_append, ba_sz, List.size_toArray, List.length_cons, List.length_nil]; omega))) (show ∃ _, _ from ⟨x47_16, rfl, hr16⟩)
  ·skip
   intro a u S G hE
   obtain ⟨e51, -⟩ := hE
   have M0 := S.m
   obtain ⟨x47_17, e51, hr17⟩ := e51
   replace S := S.ext e51
   exact hvl 52 S M0 (v := .string (sy ++ (((⟨#[32, 9]⟩ ++ (x8.extract 0 (((((x8.size : Nat) : Int) - 1)).toNat))) ++ (([⟨#[35, 32, 99]⟩, ⟨#[32]⟩, ⟨#[32, 35, 32, 61, 44, 35]⟩, ⟨#[]⟩] : List ByteArray).getD ((x47_17).toNat) strE.dflt)) ++ ⟨#[10]⟩))) (x_sadd (S.e rfl) (S.e rfl) (by have hq0 := lit_le (n := 64) (l := ([⟨#[35, 32, 99]⟩, ⟨#[32]⟩, ⟨#[32, 35, 32, 61, 44, 35]⟩, ⟨#[]⟩] : List ByteArray)) (by decide) ((x47_17).toNat); first | omega | (simp only [ByteArray.size_append, ba_sz, List.size_toArray, List.length_cons, List.length_nil]; omega))) (show ∃ _, _ from ⟨x47_17, rfl, hr17⟩)
  clear S; intro a u S G hE
  obtain ⟨e52, -⟩ := hE
  obtain ⟨x47_18, e52, hr18⟩ := e52
  replace S := S.ext e52
  clear e52
  refine ens S (la (av rfl)) ?_; clear S; intro a u S
  refine r0 ?_
  refine sp S (la (mv rfl)) ?_; clear S; intro a u S
  refine nbs strE S ([⟨#[]⟩, ⟨#[10]⟩, ⟨#[32, 10, 35, 32, 121, 10]⟩] : List ByteArray) (x_bs S [(0, .string (⟨#[]⟩)), (1, .string (⟨#[10]⟩)), (2, .string (⟨#[32, 10, 35, 32, 121, 10]⟩))] uT29 iZ9) (fun x hx => by simp only [List.mem_cons, List.not_mem_nil, or_false] at hx; rcases hx with hx | hx | hx <;> rw [hx] <;> first | exact (show strE.wf _ _ (⟨#[]⟩) from (show (⟨#[]⟩ : ByteArray).size ≤ maxLen from by unfold maxLen; decide)) | exact (show strE.wf _ _ (⟨#[10]⟩) from (show (⟨#[10]⟩ : ByteArray).size ≤ maxLen from by unfold maxLen; decide)) | exact (show strE.wf _ _ (⟨#[32, 10, 35, 32, 121, 10]⟩) from (show (⟨#[32, 10, 35, 32, 121, 10]⟩ : ByteArray).size ≤ maxLen from by unfold maxLen; decide))) ?_; clear S; intro a u b54 S
  refine sp S (la (mv rfl)) ?_; clear S; intro a u S
  refine cl S (gNext _ _ S.x T20 (S.M.pick [0] (by decide)) l (dn1 (js := [0]) (S.u 0 rfl)) (S.t 0 rfl) 3 ⟨by omega, by omega⟩) cB14 ?_
  rintro e u ⟨r_t56, rfl, hr_t56, tK, T0⟩; refine ⟨_, rfl, fun a s => ?_⟩
  replace S := S.k1 0 rfl s T0 tK; clear s T0 tK
  refine en S (tr (idxi uT29 sZ9 rfl rfl (r_t56).toNat (by omega) (by first | omega | (simp only [List.length_cons, List.length_nil]; omega)) ((show LAt strE _ _ (some ⟨b54, 0, none⟩) ([⟨#[]⟩, ⟨#[10]⟩, ⟨#[32, 10, 35, 32, 121, 10]⟩] : List ByteArray) from ((S.u 4 rfl)).1).adr (i := (r_t56).toNat) (by first | omega | (simp only [List.length_cons, List.length_nil]; omega))))<|tr (ov fun S=>x_load sC9 (S.e rfl) ((show LAt strE _ _ (some ⟨b54, 0, none⟩) ([⟨#[]⟩, ⟨#[10]⟩, ⟨#[32, 10, 35, 32, 121, 10]⟩] : List ByteArray) from ((S.u 4 rfl)).1).cell (r_t56).toNat (by first | omega | (simp only [List.length_cons, List.length_nil]; omega)) 0 _ rfl))<|tr (mv rfl)<|tr (ov fun S=>x_sadd (S.e rfl) (S.e rfl) (by have hq0 := lit_le (n := 64) (l := ([⟨#[]⟩, ⟨#[10]⟩, ⟨#[32, 10, 35, 32, 121, 10]⟩] : List ByteArray)) (by decide) ((r_t56).toNat); first | omega | (simp only [ByteArray.size_append, ba_sz, List.size_toArray, List.length_cons, List.length_nil]; omega)))<|tr (ov fun S=>x_sadd (S.e rfl) (S.e rfl) (by have hq0 := lit_le (n := 64) (l := ([⟨#[]⟩, ⟨#[10]⟩, ⟨#[32, 10, 35, 32, 121, 10]⟩] : List ByteArray)) (by decide) ((r_t56).toNat); first | omega | (simp only [ByteArray.size_append, ba_sz, List.size_toArray, List.length_cons, List.length_nil]; omega)))<|la (av rfl)) ?_; clear S; intro a u S
  refine blk_n (then_n ?_)
  refine rg S (tr (mv rfl)<|tr (subi (ii - 1) rfl rfl (w_i64 (by omega)))<|la (av rfl)) ?_; clear S; intro a u S
  refine then_n ?_
  refine ⟨(sx ++ x8), (sy ++ (((⟨#[32, 9]⟩ ++ (x8.extract 0 (((((x8.size : Nat) : Int) - 1)).toNat))) ++ (([⟨#[35, 32, 99]⟩, ⟨#[32]⟩, ⟨#[32, 35, 32, 61, 44, 35]⟩, ⟨#[]⟩] : List ByteArray).getD ((x47_18).toNat) strE.dflt)) ++ ⟨#[10]⟩)), (sz ++ ((([⟨#[]⟩, ⟨#[10]⟩, ⟨#[32, 10, 35, 32, 121, 10]⟩] : List ByteArray).getD ((r_t56).toNat) strE.dflt) ++ x8)), (ii - 1), (gs ++ [((1 + r_t29).toNat, x47_18.toNat, r_t56.toNat)]), S.re (subM rfl) rfl rfl, ?_, ?_⟩
  ·have htB := tabB (1 + r_t29).toNat (by omega) (by omega) x47_18.toNat (by omega)
   have htC := tabC (1 + r_t29).toNat (by omega) (by omega) r_t56.toNat (by omega)
   refine ⟨⟨by omega, by omega⟩, by simp; omega, fun g hg => ?_, ?_, ?_, ?_, ?_⟩
   ·rcases List.mem_append.1 hg with h | h
    ·exact hG g h
    obtain rfl : g = _ := by simpa using h
    exact ⟨⟨by dsimp only; omega, by dsimp only; omega⟩, by dsimp only; omega, by dsimp only; omega⟩
   ·rw [bl_app, hA, hx8]; simp [catA]
   ·rw [bl_app, hB, hx8]; simp only [catB, List.flatMap_append, List.flatMap_cons, List.flatMap_nil, List.append_nil]; rfl
   ·rw [bl_app, hC, hx8]; simp only [catC, List.flatMap_append, List.flatMap_cons, List.flatMap_nil, List.append_nil]; rfl
   have e1 := htB.2.2.2
   have e2 := htC.2.2.2
   rw [← hx8] at e2
   unfold pieceB at e1
   rw [← hx8] at e1
   unfold sfxO at e1
   unfold preO at e2
   have f2 : ∀ P : ByteArray, P.size ≤ 20 → (((sy ++ P).size : Nat) : Int) ≤ (5 - (ii - 1)) * 20 := fun P h => by rw [ByteArray.size_append]; omega
   have f3 : ∀ P : ByteArray, P.size ≤ 20 → (((sz ++ P).size : Nat) : Int) ≤ (5 - (ii - 1)) * 20 := fun P h => by rw [ByteArray.size_append]; omega
   exact ⟨by rw [ByteArray.size_append]; omega, f2 _ e1, f3 _ e2⟩
  omega
 intro hc1
 obtain ⟨LA, LC, hLA, hLB, hLC, hSim⟩ := com_law hG hA hB hC (by omega) (by omega) (by omega)
 refine wp_exit (then_e (then_e (blk_e (then_n (rs0 ?_)))))
 refine sp S (la (mv rfl)) ?_; clear S; intro a u S
 refine cl S (sLines _ _ S.x (.nil _) sx (show inStr sx from (by unfold inStr maxLen; omega)) (S.gl 1 rfl)) cB17 ?_
 rintro e u ⟨r_t640, rfl, R_t640, hr_t640, T0⟩; refine ⟨_, rfl, fun a s => ?_⟩
 replace S := (S.k0 s T0).ar (wfF (slE lineE) r_t640) (Enc.up _ R_t640); clear s T0 R_t640
 have hn22 : r_t640.xs.length ≤ 9223372036854775807 := ((S.u 2 rfl)).1.len
 refine ens S (tr (mv rfl)<|tr (exi rfl rfl)<|tr (exi rfl rfl)<|tr (exi rfl rfl)<|tr (av rfl)<|tr (av rfl)<|la (av rfl)) ?_; clear S; intro a u S
 refine rs0 ?_
 refine sp S (la (mv rfl)) ?_; clear S; intro a u S
 refine cl S (sLines _ _ S.x (.nil _) sy (show inStr sy from (by unfold inStr maxLen; omega)) (S.gl 1 rfl)) cB17 ?_
 rintro e u ⟨r_t700, rfl, R_t700, hr_t700, T0⟩; refine ⟨_, rfl, fun a s => ?_⟩
 replace S := (S.k0 s T0).ar (wfF (slE lineE) r_t700) (Enc.up _ R_t700); clear s T0 R_t700
 have hn24 : r_t700.xs.length ≤ 9223372036854775807 := ((S.u 3 rfl)).1.len
 refine ens S (tr (mv rfl)<|tr (exi rfl rfl)<|tr (exi rfl rfl)<|tr (exi rfl rfl)<|tr (av rfl)<|tr (av rfl)<|la (av rfl)) ?_; clear S; intro a u S
 refine rs0 ?_
 refine sp S (la (mv rfl)) ?_; clear S; intro a u S
 refine cl S (sLines _ _ S.x (.nil _) sz (show inStr sz from (by unfold inStr maxLen; omega)) (S.gl 1 rfl)) cB17 ?_
 rintro e u ⟨r_t760, rfl, R_t760, hr_t760, T0⟩; refine ⟨_, rfl, fun a s => ?_⟩
 replace S := (S.k0 s T0).ar (wfF (slE lineE) r_t760) (Enc.up _ R_t760); clear s T0 R_t760
 have hn26 : r_t760.xs.length ≤ 9223372036854775807 := ((S.u 4 rfl)).1.len
 refine ens S (tr (mv rfl)<|tr (exi rfl rfl)<|tr (exi rfl rfl)<|tr (exi rfl rfl)<|tr (av rfl)<|tr (av rfl)<|la (av rfl)) ?_; clear S; intro a u S
 refine wp_seq ?_
 refine rs S (tr (mv rfl)<|tr (neqi rfl rfl)<|tr (mv rfl)<|tr (og 82 rfl gf fun S hg=>x_move (S.e rfl))<|tr (og 82 rfl gf fun S hg=>x_neq (S.p rfl hg) (S.e rfl))<|tr (ori rfl rfl rfl)<|tr (mv rfl)<|tr (og 86 rfl gf fun S hg=>x_move (S.e rfl))<|tr (og 86 rfl gf fun S hg=>x_neq (S.p rfl hg) (S.e rfl))<|tr (ori rfl rfl rfl)<|tr (mv rfl)<|tr (og 90 rfl gf fun S hg=>x_move (S.e rfl))<|tr (og 90 rfl gf fun S hg=>x_neq (S.p rfl hg) (S.e rfl))<|tr (ori rfl rfl rfl)<|tr (mv rfl)<|tr (og 94 rfl gf fun S hg=>x_move (S.e rfl))<|tr (og 94 rfl gf fun S hg=>x_neq (S.p rfl hg) (S.e rfl))<|tr (ori rfl rfl rfl)<|tr (mv rfl)<|tr (og 98 rfl gf fun S hg=>x_move (S.e rfl))<|tr (og 98 rfl gf fun S hg=>x_neq (S.p rfl hg) (S.e rfl))<|tr (ori rfl rfl rfl)<|tr (mv rfl)<|tr (og 102 rfl gf fun S hg=>x_move (S.e rfl))<|tr (og 102 rfl gf fun S hg=>x_move (S.e rfl))<|tr (ocg 102 rfl gf (fun S hg=>same10 _ _ S.x (.nil _) r_t640 (dn0 (S.u 2 rfl)) r_t700 (dn0 (S.u 3 rfl))) cB18 fun S=>⟨fun hg=>(S.p rfl hg), fun hg=>(S.p rfl hg), trivial⟩)<|tr (og 102 rfl gf fun S hg=>x_notp (S.p rfl hg))<|tr (ori rfl rfl rfl)<|tr (mv rfl)<|tr (og 108 rfl gf fun S hg=>x_move (S.e rfl))<|tr (og 108 rfl gf fun S hg=>x_len uT36 (S.p rfl hg))<|tr (og 108 rfl gf fun S hg=>x_move (S.e rfl))<|tr (og 108 rfl gf fun S hg=>x_len uT36 (S.p rfl hg))<|tr (og 108 rfl gf fun S hg=>x_neq (S.p rfl hg) (S.p rfl hg))<|la (ori rfl rfl rfl)) ?_; clear S; intro a u S
 refine cd S rfl ?_ ?_
 ·intro hc2
  have hA2 : r_t640.xs.map keyL = LA := by rw [hr_t640, hLA]
  have hC2 : r_t760.xs.map keyL = LC := by rw [hr_t760, hLC]
  have hlen : r_t760.xs.length = r_t640.xs.length := by have h1 := hSim.1; rw [← hA2, ← hC2, List.length_map, List.length_map] at h1; exact h1
  refine rs S (la (av rfl)) ?_; clear S; intro a u S
  refine wp_ret (then_r ?_)
  refine ret1 rfl S.s rfl ?_
  replace S := S.pk []
  refine ⟨(r1 (vf ?_)), S.m.c⟩
  intro _; simp_all
 intro hc3
 have hA2 : r_t640.xs.map keyL = LA := by rw [hr_t640, hLA]
 have hC2 : r_t760.xs.map keyL = LC := by rw [hr_t760, hLC]
 have hlen : r_t760.xs.length = r_t640.xs.length := by have h1 := hSim.1; rw [← hA2, ← hC2, List.length_map, List.length_map] at h1; exact h1
 refine wp_skip (then_n (wp_seq ?_))
 refine rs S (la (av rfl)) ?_; clear S; intro a u S
 refine wp_block ?_
 refine lp1 (fun (k1 : Nat) => [(9, sV r_t640), (15, sV r_t760), (18, iN k1)]) (fun (k1 : Nat) => [tpO 58 T20 l]) (fun (k1 : Nat) => k1 ≤ r_t760.xs.length ∧ True) (fun (k1 : Nat) => r_t760.xs.length - k1) S 0 (subM rfl) rfl ?_ ?_
 ·exact ⟨Nat.zero_le _, by trivial⟩
 clear S; intro k1 a u S hR
 obtain ⟨hk1, hxk1⟩ := hR
 refine wp_seq ?_
 refine rs S (tr (mv rfl)<|tr (mv rfl)<|tr (leni uT36 rfl)<|la (lssi rfl rfl)) ?_; clear S; intro a u S
 refine cd S rfl ?_ ?_
 ·intro hc4
  refine wp_skip (then_n (wp_seq (wp_block (wp_seq ?_))))
  have hn31 : ((r_t760.xs.getD k1 lineE.dflt).words.xs).length ≤ 9223372036854775807 := ((((S.u 4 rfl)).1.wf k1 (by omega)).2).1.len
  have hn32 : ((r_t640.xs.getD k1 lineE.dflt).words.xs).length ≤ 9223372036854775807 := ((((S.u 2 rfl)).1.wf k1 (by omega)).2).1.len
  refine dr (P := Tryd.prog) S 25 [] [(121, .is _), (122, .is _), (123, .is _), (124, .is _), (125, .is _), (126, .is _), (127, .is _), (128, .is _), (129, .is _), (130, .is _), (131, .is _), (132, .is _), (133, .is _), (134, .is _), (135, .is _), (136, .is _), (137, .is _), (138, .is _), (139, .is _), (140, .is _), (141, .is _), (142, .is _), (143, .is _), (144, .is _), (145, .is _)] [[], [], [121, 122], [123], [124], [], [], [126, 127], [128], [129], [125, 130], [131], [132], [133], [133], [133, 134, 135], [133, 136], [133, 137], [133], [133], [133, 139, 140], [133, 141], [133, 142], [133, 138, 143], [133, 144]] [145] _ ⟨qd (mv rfl), qd (mv rfl), qd (idxi uT36 sZ35 rfl rfl k1 rfl (by omega) (((S.u 4 rfl)).1.adr (i := k1) (by omega))), qd (fldi (off r_t760.a + k1 * 2) 1 rfl uT35), qd (ov fun S=>x_load sC29 (S.e rfl) (((S.u 4 rfl)).1.cell k1 (by omega) 1 _ rfl)), qd (mv rfl), qd (mv rfl), qd (idxi uT36 sZ35 rfl rfl k1 rfl (by omega) (((S.u 2 rfl)).1.adr (i := k1) (by omega))), qd (fldi (off r_t640.a + k1 * 2) 1 rfl uT35), qd (ov fun S=>x_load sC29 (S.e rfl) (((S.u 2 rfl)).1.cell k1 (by omega) 1 _ rfl)), qd (oc (fun S=>same9 _ _ S.x (.nil _) ((r_t760.xs.getD k1 lineE.dflt).words) (dn0 ((((S.u 4 rfl)).1.wf k1 (by omega)).2)) ((r_t640.xs.getD k1 lineE.dflt).words) (dn0 ((((S.u 2 rfl)).1.wf k1 (by omega)).2))) cB19), qd (noti rfl), qd (mv rfl), qd (og 133 rfl gf fun S hg=>x_move (S.e rfl)), qd (og 133 rfl gf fun S hg=>x_move (S.e rfl)), qd (og 133 rfl gf fun S hg=>x_idx uT36 sZ35 (S.p rfl hg) (S.p rfl hg) k1 rfl (by omega) (((S.u 4 rfl)).1.adr (i := k1) (by omega))), qd (og 133 rfl gf fun S hg=>xf (off r_t760.a + k1 * 2) 0 uT35 (S.p rfl hg)), qd (og 133 rfl gf fun S hg=>x_load sC3 (S.p rfl hg) (((S.u 4 rfl)).1.cell k1 (by omega) 0 _ rfl)), qd (og 133 rfl gf fun S hg=>x_move (S.e rfl)), qd (og 133 rfl gf fun S hg=>x_move (S.e rfl)), qd (og 133 rfl gf fun S hg=>x_idx uT36 sZ35 (S.p rfl hg) (S.p rfl hg) k1 rfl (by omega) (((S.u 2 rfl)).1.adr (i := k1) (by omega))), qd (og 133 rfl gf fun S hg=>xf (off r_t640.a + k1 * 2) 0 uT35 (S.p rfl hg)), qd (og 133 rfl gf fun S hg=>x_load sC3 (S.p rfl hg) (((S.u 2 rfl)).1.cell k1 (by omega) 0 _ rfl)), qd (og 133 rfl gf fun S hg=>x_lss (S.p rfl hg) (S.p rfl hg)), qd (ori rfl rfl rfl), trivial⟩ ?_
  clear S; intro a u S G hE
  refine ent ?_
  refine cd S rfl ?_ ?_
  ·intro hc5
   refine rs S (la (av rfl)) ?_; clear S; intro a u S
   refine wp_ret (blk_r (then_r (then_r (blk_r (then_r ?_)))))
   refine ret1 rfl S.s rfl ?_
   replace S := S.pk []
   refine ⟨(r1 (vf ?_)), S.m.c⟩
   intro _; have h := hSim.2 k1 (by rw [← hA2, List.length_map]; omega); rw [← hC2, ← hA2, getD_mapL (by omega), getD_mapL (by omega)] at h; exact hc5.elim (fun q => q h.1) (fun q => by have h2 := h.2; unfold keyL at h2; omega)
  intro hc6
  refine wp_skip (blk_n (then_n ?_))
  refine rg S (tr (mv rfl)<|tr (addi ((k1 + 1 : Nat) : Int) rfl rfl (w_i64 (by omega)))<|la (av rfl)) ?_; clear S; intro a u S
  refine then_n ?_
  refine ⟨(k1 + 1), S.re (subM rfl) rfl rfl, ?_, ?_⟩
  ·refine ⟨by omega, ?_⟩
   trivial
  omega
 intro hc7
 refine wp_exit (then_e (then_e (blk_e (then_n ?_))))
 refine rs S (tr (oc (fun S=>lSane _ _ S.x (.nil _) (S.gl 1 rfl)) cB15)<|la (av rfl)) ?_; clear S; intro a u S
 refine wp_ret ?_
 refine ret1 rfl S.s rfl ?_
 replace S := S.pk []
 refine ⟨(r1 (vt ?_)), S.m.c⟩
 first | assumption | trivial | omega | simp_all
end Go.Proofs.YtmaiillomoehgaaDoor.V
