/- the generator: topologies that are spoiled -/
import Derived.Test.YtfanmniaolncbaaW20
import Derived.Test.YtfanmniaolncbaaW22
namespace Go.Proofs.Ytfanmniaolncbaa.V
open Go.RowKit Go.Proofs.Ytfanmniaolncbaa
set_option linter.unusedVariables false
set_option linter.unusedSimpArgs false
set_option maxHeartbeats 2000000 in
set_option maxRecDepth 20000 in
theorem gSpoilT (w : World) (F : Nat → Prop) (hF : Old F w) (T : Nat) (M : MS [one T] w) (T_l : Sl Int) (T_w : (slE intE).wf (Fr F [one T]) w.heap T_l) (T_K : TpB 62 T T_l w) (t : Topo) (t_w : topoE.wf (Fr F [one T]) w.heap t) (hsm : t.devs.xs.length ≤ 90 ∧ t.links.xs.length ≤ 90 ∧ t.edges.xs.length ≤ 90 ∧ t.pools.xs.length ≤ 90) :
 Calls Try.prog 16 #[pT T 0, .agg (topoE.cells t).toArray] w fun e w' => ∃ (r : Topo), e = .returned (.agg (topoE.cells r).toArray) ∧ topoE.wf (Fr F [one T]) w'.heap r ∧ TpB 62 T T_l w' ∧ Tr [one T] w [one T] w' := by
 have : t.devs.xs.length ≤ 9223372036854775807 := (t_w.1).1.len
 have : t.links.xs.length ≤ 9223372036854775807 := (t_w.2.1).1.len
 have : t.edges.xs.length ≤ 9223372036854775807 := (t_w.2.2.1).1.len
 have : t.pools.xs.length ≤ 9223372036854775807 := (t_w.2.2.2.1).1.len
 obtain ⟨_, _⟩ : inI64 t.tol := t_w.2.2.2.2
 refine go Try.func16 rfl 206 rfl [wfF (slE intE) T_l, wfF topoE t] [tpO 62 T T_l] hF M ⟨T_w, t_w, trivial⟩ ⟨T_K, trivial⟩ ?_
 intro a S
 refine rs0 ?_
 refine nbp S (x_box _ (S.e rfl) rfl) ?_; clear S; intro a u b3 S
 refine nbp S (x_allocz _ iZ28 rfl) ?_; clear S; intro a u b4 S
 refine ent (rs0 ?_)
 refine sp S (la (ldkw 1 rfl rfl wD28)) ?_; clear S; intro a u S
 refine cl S (gCopy _ _ S.x (.nil _) t (dn0 (S.u 1 rfl)) (⟨by omega, by omega, by omega, by omega⟩)) cB47 ?_
 rintro e u ⟨ra_t7_0, rc_t7_0, ra_t7_1, rc_t7_1, ra_t7_2, rc_t7_2, ra_t7_3, rc_t7_3, rfl, R_t7_0, R_t7_1, R_t7_2, R_t7_3, T0⟩; refine ⟨_, rfl, fun a s => ?_⟩
 replace S := S.kr [⟨_, pfxE, 68, ra_t7_3, rc_t7_3, t.pools.xs⟩, ⟨_, edgE, 71, ra_t7_2, rc_t7_2, t.edges.xs⟩, ⟨_, lnkE, 54, ra_t7_1, rc_t7_1, t.links.xs⟩, ⟨_, devE, 65, ra_t7_0, rc_t7_0, t.devs.xs⟩] s T0 ⟨R_t7_3, R_t7_2, R_t7_1, R_t7_0, trivial⟩; clear s T0 R_t7_3 R_t7_2 R_t7_1 R_t7_0
 replace S := S.pk [0, 1, 2, 3, 4, 5, 6] (os' := [tpO 62 T T_l, blO b3 (topoE.cells t) 28, blO b4 [.slice none 0 0, .slice none 0 0, .slice none 0 0, .slice none 0 0, iI 0] 28, rwO pfxE 68 w.heap.size ra_t7_3 rc_t7_3 t.pools.xs, rwO edgE 71 w.heap.size ra_t7_2 rc_t7_2 t.edges.xs, rwO lnkE 54 w.heap.size ra_t7_1 rc_t7_1 t.links.xs, rwO devE 65 w.heap.size ra_t7_0 rc_t7_0 t.devs.xs])
 refine nbp S (x_allocz _ iZ28 rfl) ?_; clear S; intro a u b5 S
 refine ens S (la (stkw 7 rfl rfl rfl)) ?_; clear S; intro a u S
 refine wp_seq (rs0 ?_)
 refine sp S (la (mv rfl)) ?_; clear S; intro a u S
 refine cl S (gNext _ _ S.x T (S.M.pick [0] (by decide)) T_l (dn1 (js := [0]) (S.u 0 rfl)) (S.t 0 rfl) 14 ⟨by omega, by omega⟩) cB23 ?_
 rintro e u ⟨r_t9, rfl, hr_t9, tK, T0⟩; refine ⟨_, rfl, fun a s => ?_⟩
 replace S := S.k1 0 rfl s T0 tK; clear s T0 tK
 refine ent (wp_block ?_)
 refine rs S (tr (eqli rfl rfl)<|la (av rfl)) ?_; clear S; intro a u S
 refine cd S rfl ?_ ?_
 ·intro hc0
  refine dr (P := Try.prog) S 12 [one T] [(20, .is _), (21, .is _), (22, .of (fun z w => ∃ (x22a : Nat), z = .slice (some ⟨x22a, 0, none⟩) 4 4 ∧ (slE strE).wf (Fr F [one T, one b3, one b4, abk ra_t7_3, abk ra_t7_2, abk ra_t7_1, abk ra_t7_0, one b5]) w.heap (Sl.mk (some ⟨x22a, 0, none⟩) 4 ([⟨#[114, 49]⟩, ⟨#[97, 110, 121]⟩, ⟨#[82]⟩, ⟨#[122, 122]⟩] : List ByteArray))) (fun v w w' c h => let ⟨x22a, hv, h0⟩ := h; ⟨x22a, hv, Enc.kp (slE strE) h0 c (by intro o h; simp at h ⊢; first | exact .inl h | simp [h])⟩)), (23, .is _), (24, .of (fun z w => ∃ (x24a : Int), z = iI x24a ∧ (0 ≤ x24a ∧ (x24a < 4 ∨ x24a = 0))) (fun v w w' c h => let ⟨x24a, hv, h0⟩ := h; ⟨x24a, hv, h0⟩)), (25, .of (fun z w => ∃ (x22a : Nat) (x24b : Int), z = pT (blk (some ⟨x22a, 0, none⟩)) (off (some ⟨x22a, 0, none⟩) + (x24b).toNat * 1) ∧ (slE strE).wf (Fr F [one T, one b3, one b4, abk ra_t7_3, abk ra_t7_2, abk ra_t7_1, abk ra_t7_0, one b5]) w.heap (Sl.mk (some ⟨x22a, 0, none⟩) 4 ([⟨#[114, 49]⟩, ⟨#[97, 110, 121]⟩, ⟨#[82]⟩, ⟨#[122, 122]⟩] : List ByteArray)) ∧ (0 ≤ x24b ∧ (x24b < 4 ∨ x24b = 0))) (fun v w w' c h => let ⟨x22a, x24b, hv, h0, h1⟩ := h; ⟨x22a, x24b, hv, Enc.kp (slE strE) h0 c (by intro o h; simp at h ⊢; first | exact .inl h | simp [h]), h1⟩)), (26, .of (fun z w => ∃ (x22a : Nat) (x24b : Int), z = .string (([⟨#[114, 49]⟩, ⟨#[97, 110, 121]⟩, ⟨#[82]⟩, ⟨#[122, 122]⟩] : List ByteArray).getD ((x24b).toNat) strE.dflt) ∧ (slE strE).wf (Fr F [one T, one b3, one b4, abk ra_t7_3, abk ra_t7_2, abk ra_t7_1, abk ra_t7_0, one b5]) w.heap (Sl.mk (some ⟨x22a, 0, none⟩) 4 ([⟨#[114, 49]⟩, ⟨#[97, 110, 121]⟩, ⟨#[82]⟩, ⟨#[122, 122]⟩] : List ByteArray)) ∧ (0 ≤ x24b ∧ (x24b < 4 ∨ x24b = 0))) (fun v w w' c h => let ⟨x22a, x24b, hv, h0, h1⟩ := h; ⟨x22a, x24b, hv, Enc.kp (slE strE) h0 c (by intro o h; simp at h ⊢; first | exact .inl h | simp [h]), h1⟩)), (27, .is _), (28, .of (fun z w => ∃ (x28a : Int), z = iI x28a ∧ (0 ≤ x28a ∧ (x28a < 3 ∨ x28a = 0))) (fun v w w' c h => let ⟨x28a, hv, h0⟩ := h; ⟨x28a, hv, h0⟩)), (29, .of (fun z w => ∃ (x28a : Int), z = iI (x28a - 1) ∧ (0 ≤ x28a ∧ (x28a < 3 ∨ x28a = 0))) (fun v w w' c h => let ⟨x28a, hv, h0⟩ := h; ⟨x28a, hv, h0⟩)), (30, .of (fun z w => ∃ (x22a : Nat) (x24b : Int) (x28c : Int), z = .agg #[.string (([⟨#[114, 49]⟩, ⟨#[97, 110, 121]⟩, ⟨#[82]⟩, ⟨#[122, 122]⟩] : List ByteArray).getD ((x24b).toNat) strE.dflt), iI (x28c - 1), .bool false, .bool false, .string (⟨#[]⟩)] ∧ (slE strE).wf (Fr F [one T, one b3, one b4, abk ra_t7_3, abk ra_t7_2, abk ra_t7_1, abk ra_t7_0, one b5]) w.heap (Sl.mk (some ⟨x22a, 0, none⟩) 4 ([⟨#[114, 49]⟩, ⟨#[97, 110, 121]⟩, ⟨#[82]⟩, ⟨#[122, 122]⟩] : List ByteArray)) ∧ (0 ≤ x24b ∧ (x24b < 4 ∨ x24b = 0)) ∧ (0 ≤ x28c ∧ (x28c < 3 ∨ x28c = 0))) (fun v w w' c h => let ⟨x22a, x24b, x28c, hv, h0, h1, h2⟩ := h; ⟨x22a, x24b, x28c, hv, Enc.kp (slE strE) h0 c (by intro o h; simp at h ⊢; first | exact .inl h | simp [h]), h1, h2⟩)), (31, .of (fun z w => ∃ (x31a : Nat) (x22b : Nat) (x24c : Int) (x28d : Int), z = .slice (some ⟨x31a, 0, none⟩) 1 1 ∧ (slE devE).wf (Fr F [one T, one b3, one b4, abk ra_t7_3, abk ra_t7_2, abk ra_t7_1, abk ra_t7_0, one b5]) w.heap (Sl.mk (some ⟨x31a, 0, none⟩) 1 ([(⟨(([⟨#[114, 49]⟩, ⟨#[97, 110, 121]⟩, ⟨#[82]⟩, ⟨#[122, 122]⟩] : List ByteArray).getD ((x24c).toNat) strE.dflt), (x28d - 1), false, false, ⟨#[]⟩⟩ : Dev)])) ∧ (slE strE).wf (Fr F [one T, one b3, one b4, abk ra_t7_3, abk ra_t7_2, abk ra_t7_1, abk ra_t7_0, one b5]) w.heap (Sl.mk (some ⟨x22b, 0, none⟩) 4 ([⟨#[114, 49]⟩, ⟨#[97, 110, 121]⟩, ⟨#[82]⟩, ⟨#[122, 122]⟩] : List ByteArray)) ∧ (0 ≤ x24c ∧ (x24c < 4 ∨ x24c = 0)) ∧ (0 ≤ x28d ∧ (x28d < 3 ∨ x28d = 0))) (fun v w w' c h => let ⟨x31a, x22b, x24c, x28d, hv, h0, h1, h2, h3⟩ := h; ⟨x31a, x22b, x24c, x28d, hv, Enc.kp (slE devE) h0 c (by intro o h; simp at h ⊢; first | exact .inl h | simp [h]), Enc.kp (slE strE) h1 c (by intro o h; simp at h ⊢; first | exact .inl h | simp [h]), h2, h3⟩))] [[], [20], [], [], [23], [22, 24], [25], [], [27], [28], [26, 29], [30]] [21, 31] _ ⟨qd (fldi 0 0 rfl uT28), qd (ldk 7 sC23 rfl rfl rfl), ?_, qd (mv rfl), ?_, ?_, ?_, qd (mv rfl), ?_, ?_, ?_, ?_, trivial⟩ ?_
  ·skip
   intro a u S G hE
   refine hnb 22 S.m (x_bsl [(0, .string (⟨#[114, 49]⟩)), (1, .string (⟨#[97, 110, 121]⟩)), (2, .string (⟨#[82]⟩)), (3, .string (⟨#[122, 122]⟩))] [.string (⟨#[114, 49]⟩), .string (⟨#[97, 110, 121]⟩), .string (⟨#[82]⟩), .string (⟨#[122, 122]⟩)] uT63 iZ9 (by decide) (by decide) (by simp only [List.map_cons, List.map_nil, S.e (x := .const (.string (⟨#[114, 49]⟩))) (v := .string (⟨#[114, 49]⟩)) rfl, S.e (x := .const (.string (⟨#[97, 110, 121]⟩))) (v := .string (⟨#[97, 110, 121]⟩)) rfl, S.e (x := .const (.string (⟨#[82]⟩))) (v := .string (⟨#[82]⟩)) rfl, S.e (x := .const (.string (⟨#[122, 122]⟩))) (v := .string (⟨#[122, 122]⟩)) rfl]) (by kernel_rfl)) fun g => (show ∃ _, _ from ⟨_, rfl, sl_of_blk (Blk.new _ [.string (⟨#[114, 49]⟩), .string (⟨#[97, 110, 121]⟩), .string (⟨#[82]⟩), .string (⟨#[122, 122]⟩)] 9) ([⟨#[114, 49]⟩, ⟨#[97, 110, 121]⟩, ⟨#[82]⟩, ⟨#[122, 122]⟩] : List ByteArray) 4 rfl (by decide) (by decide) rfl (fr_fresh S.m.c S.m.f rfl) ?_⟩)
   intro x hx; simp only [List.mem_cons, List.not_mem_nil, or_false] at hx; rcases hx with hx | hx | hx | hx <;> rw [hx] <;> first | exact Enc.tr (strE) (show strE.wf (Fr F (ow _)) _ (⟨#[114, 49]⟩) from (show (⟨#[114, 49]⟩ : ByteArray).size ≤ maxLen from by unfold maxLen; decide)) (Tr.of_ch0 S.M g) | exact Enc.tr (strE) (show strE.wf (Fr F (ow _)) _ (⟨#[97, 110, 121]⟩) from (show (⟨#[97, 110, 121]⟩ : ByteArray).size ≤ maxLen from by unfold maxLen; decide)) (Tr.of_ch0 S.M g) | exact Enc.tr (strE) (show strE.wf (Fr F (ow _)) _ (⟨#[82]⟩) from (show (⟨#[82]⟩ : ByteArray).size ≤ maxLen from by unfold maxLen; decide)) (Tr.of_ch0 S.M g) | exact Enc.tr (strE) (show strE.wf (Fr F (ow _)) _ (⟨#[122, 122]⟩) from (show (⟨#[122, 122]⟩ : ByteArray).size ≤ maxLen from by unfold maxLen; decide)) (Tr.of_ch0 S.M g)
  ·skip
   intro a u S G hE
   refine hcl S (gNext _ _ S.x T (S.M.pick [0] (by decide)) T_l (dn1 (js := [0]) (S.u 0 rfl)) (S.t 0 rfl) 4 ⟨by omega, by omega⟩) cB23 ?_
   rintro e w2 ⟨r_h24, rfl, hr_h24, tK, T0⟩; refine ⟨_, rfl, (show ∃ _, _ from ?_), T0.ch, (S.k1 0 rfl S.s T0 tK).m⟩
   exact ⟨r_h24, rfl, hr_h24⟩
  ·skip
   intro a u S G hE
   obtain ⟨e22, e24, -⟩ := hE
   have M0 := S.m
   obtain ⟨x22_5, e22, X5⟩ := e22
   replace S := S.ext e22
   obtain ⟨x24_6, e24, hr6⟩ := e24
   replace S := S.ext e24
   exact hvl 25 S M0 (v := pT (blk (some ⟨x22_5, 0, none⟩)) (off (some ⟨x22_5, 0, none⟩) + (x24_6).toNat * 1)) (x_idx uT63 sZ9 (S.e rfl) (S.e rfl) (x24_6).toNat (by omega) (by first | omega | (simp only [List.length_cons, List.length_nil]; omega)) ((show LAt strE _ _ (some ⟨x22_5, 0, none⟩) ([⟨#[114, 49]⟩, ⟨#[97, 110, 121]⟩, ⟨#[82]⟩, ⟨#[122, 122]⟩] : List ByteArray) from (X5).1).adr (i := (x24_6).toNat) (by first | omega | (simp only [List.length_cons, List.length_nil]; omega)))) (show ∃ _, _ from ⟨x22_5, x24_6, rfl, X5, hr6⟩)
  ·skip
   intro a u S G hE
   obtain ⟨e25, -⟩ := hE
   have M0 := S.m
   obtain ⟨x22_7, x24_8, e25, X7, hr8⟩ := e25
   replace S := S.ext e25
   exact hvl 26 S M0 (v := .string (([⟨#[114, 49]⟩, ⟨#[97, 110, 121]⟩, ⟨#[82]⟩, ⟨#[122, 122]⟩] : List ByteArray).getD ((x24_8).toNat) strE.dflt)) (x_load sC9 (S.e rfl) ((show LAt strE _ _ (some ⟨x22_7, 0, none⟩) ([⟨#[114, 49]⟩, ⟨#[97, 110, 121]⟩, ⟨#[82]⟩, ⟨#[122, 122]⟩] : List ByteArray) from (X7).1).cell (x24_8).toNat (by first | omega | (simp only [List.length_cons, List.length_nil]; omega)) 0 _ rfl)) (show ∃ _, _ from ⟨x22_7, x24_8, rfl, X7, hr8⟩)
  ·skip
   intro a u S G hE
   refine hcl S (gNext _ _ S.x T (S.M.pick [0] (by decide)) T_l (dn1 (js := [0]) (S.u 0 rfl)) (S.t 0 rfl) 3 ⟨by omega, by omega⟩) cB23 ?_
   rintro e w2 ⟨r_h28, rfl, hr_h28, tK, T0⟩; refine ⟨_, rfl, (show ∃ _, _ from ?_), T0.ch, (S.k1 0 rfl S.s T0 tK).m⟩
   exact ⟨r_h28, rfl, hr_h28⟩
  ·skip
   intro a u S G hE
   obtain ⟨e28, -⟩ := hE
   have M0 := S.m
   obtain ⟨x28_9, e28, hr9⟩ := e28
   replace S := S.ext e28
   exact hvl 29 S M0 (v := iI (x28_9 - 1)) (x_sub (S.e rfl) (S.e rfl) (r := (x28_9 - 1)) (w_i64 (by omega))) (show ∃ _, _ from ⟨x28_9, rfl, hr9⟩)
  ·skip
   intro a u S G hE
   obtain ⟨e26, e29, -⟩ := hE
   have M0 := S.m
   obtain ⟨x22_10, x24_11, e26, X10, hr11⟩ := e26
   replace S := S.ext e26
   obtain ⟨x28_12, e29, hr12⟩ := e29
   replace S := S.ext e29
   exact hvl 30 S M0 (v := .agg #[.string (([⟨#[114, 49]⟩, ⟨#[97, 110, 121]⟩, ⟨#[82]⟩, ⟨#[122, 122]⟩] : List ByteArray).getD ((x24_11).toNat) strE.dflt), iI (x28_12 - 1), .bool false, .bool false, .string (⟨#[]⟩)]) (x_bd S [(0, .string (([⟨#[114, 49]⟩, ⟨#[97, 110, 121]⟩, ⟨#[82]⟩, ⟨#[122, 122]⟩] : List ByteArray).getD ((x24_11).toNat) strE.dflt)), (1, iI (x28_12 - 1))] [.string (([⟨#[114, 49]⟩, ⟨#[97, 110, 121]⟩, ⟨#[82]⟩, ⟨#[122, 122]⟩] : List ByteArray).getD ((x24_11).toNat) strE.dflt), iI (x28_12 - 1), .bool false, .bool false, .string (⟨#[]⟩)]) (show ∃ _, _ from ⟨x22_10, x24_11, x28_12, rfl, X10, hr11, hr12⟩)
  ·skip
   intro a u S G hE
   obtain ⟨e30, -⟩ := hE
   have M0 := S.m
   obtain ⟨x22_13, x24_14, x28_15, e30, X13, hr14, hr15⟩ := e30
   replace S := S.ext e30
   refine hnb 31 M0 (x_bsl [(0, .agg #[.string (([⟨#[114, 49]⟩, ⟨#[97, 110, 121]⟩, ⟨#[82]⟩, ⟨#[122, 122]⟩] : List ByteArray).getD ((x24_14).toNat) strE.dflt), iI (x28_15 - 1), .bool false, .bool false, .string (⟨#[]⟩)])] [.string (([⟨#[114, 49]⟩, ⟨#[97, 110, 121]⟩, ⟨#[82]⟩, ⟨#[122, 122]⟩] : List ByteArray).getD ((x24_14).toNat) strE.dflt), iI (x28_15 - 1), .bool false, .bool false, .string (⟨#[]⟩)] uT23 iZ65 (by decide) (by decide) (by simp only [List.map_cons, List.map_nil, S.e (x := .tmp 30) (v := .agg #[.string (([⟨#[114, 49]⟩, ⟨#[97, 110, 121]⟩, ⟨#[82]⟩, ⟨#[122, 122]⟩] : List ByteArray).getD ((x24_14).toNat) strE.dflt), iI (x28_15 - 1), .bool false, .bool false, .string (⟨#[]⟩)]) rfl]) (by kernel_rfl)) fun g => (show ∃ _, _ from ⟨_, x22_13, x24_14, x28_15, rfl, sl_of_blk (Blk.new _ [.string (([⟨#[114, 49]⟩, ⟨#[97, 110, 121]⟩, ⟨#[82]⟩, ⟨#[122, 122]⟩] : List ByteArray).getD ((x24_14).toNat) strE.dflt), iI (x28_15 - 1), .bool false, .bool false, .string (⟨#[]⟩)] 65) [(⟨(([⟨#[114, 49]⟩, ⟨#[97, 110, 121]⟩, ⟨#[82]⟩, ⟨#[122, 122]⟩] : List ByteArray).getD ((x24_14).toNat) strE.dflt), (x28_15 - 1), false, false, ⟨#[]⟩⟩ : Dev)] 1 rfl (by decide) (by decide) rfl (fr_fresh S.m.c S.m.f rfl) ?_, Enc.tr (slE strE) X13 (Tr.of_ch0 S.M g), hr14, hr15⟩)
   intro x hx; simp only [List.mem_cons, List.not_mem_nil, or_false] at hx; rw [hx] <;> first | exact Enc.tr (devE) (show devE.wf (Fr F (ow _)) _ (⟨(([⟨#[114, 49]⟩, ⟨#[97, 110, 121]⟩, ⟨#[82]⟩, ⟨#[122, 122]⟩] : List ByteArray).getD ((x24_14).toNat) strE.dflt), (x28_15 - 1), false, false, ⟨#[]⟩⟩ : Dev) from ⟨((show LAt strE _ _ (some ⟨x22_13, 0, none⟩) ([⟨#[114, 49]⟩, ⟨#[97, 110, 121]⟩, ⟨#[82]⟩, ⟨#[122, 122]⟩] : List ByteArray) from (X13).1).wf (x24_14).toNat (by first | omega | (simp only [List.length_cons, List.length_nil]; omega))), (show inI64 (x28_15 - 1) from ⟨by omega, by omega⟩), trivial, trivial, (show (⟨#[]⟩ : ByteArray).size ≤ maxLen from by unfold maxLen; decide)⟩) (Tr.of_ch0 S.M g)
  clear S; intro a u S G hE
  obtain ⟨e31, -⟩ := hE
  obtain ⟨x31_16, x22_17, x24_18, x28_19, e31, X16, X17, hr18, hr19⟩ := e31
  replace S := S.ext e31
  clear e31
  replace S := S.ar (wfF (slE devE) (Sl.mk (some ⟨x31_16, 0, none⟩) 1 ([(⟨(([⟨#[114, 49]⟩, ⟨#[97, 110, 121]⟩, ⟨#[82]⟩, ⟨#[122, 122]⟩] : List ByteArray).getD ((x24_18).toNat) strE.dflt), (x28_19 - 1), false, false, ⟨#[]⟩⟩ : Dev)]))) X16
  replace S := S.ar (wfF (slE strE) (Sl.mk (some ⟨x22_17, 0, none⟩) 4 ([⟨#[114, 49]⟩, ⟨#[97, 110, 121]⟩, ⟨#[82]⟩, ⟨#[122, 122]⟩] : List ByteArray))) X17
  have hn20 : ([(⟨(([⟨#[114, 49]⟩, ⟨#[97, 110, 121]⟩, ⟨#[82]⟩, ⟨#[122, 122]⟩] : List ByteArray).getD ((x24_18).toNat) strE.dflt), (x28_19 - 1), false, false, ⟨#[]⟩⟩ : Dev)]).length ≤ 9223372036854775807 := ((S.u 2 rfl)).1.len
  refine ap (E := devE) (ys := [(⟨(([⟨#[114, 49]⟩, ⟨#[97, 110, 121]⟩, ⟨#[82]⟩, ⟨#[122, 122]⟩] : List ByteArray).getD ((x24_18).toNat) strE.dflt), (x28_19 - 1), false, false, ⟨#[]⟩⟩ : Dev)]) S 6 rfl uT23 iZ65 rfl rfl (show LAt devE _ _ (some ⟨x31_16, 0, none⟩) ([(⟨(([⟨#[114, 49]⟩, ⟨#[97, 110, 121]⟩, ⟨#[82]⟩, ⟨#[122, 122]⟩] : List ByteArray).getD ((x24_18).toNat) strE.dflt), (x28_19 - 1), false, false, ⟨#[]⟩⟩ : Dev)]) from ((S.u 2 rfl)).1) ((S.u 2 rfl)).2.2 (LAt.mem (show LAt devE _ _ (some ⟨x31_16, 0, none⟩) ([(⟨(([⟨#[114, 49]⟩, ⟨#[97, 110, 121]⟩, ⟨#[82]⟩, ⟨#[122, 122]⟩] : List ByteArray).getD ((x24_18).toNat) strE.dflt), (x28_19 - 1), false, false, ⟨#[]⟩⟩ : Dev)]) from ((S.u 2 rfl)).1)) ⟨by unfold maxLen; (try simp only [List.length_cons, List.length_nil, List.length_append, List.length_map]); omega, by (try simp only [List.length_cons, List.length_nil, List.length_append, List.length_map]); omega⟩ ?_; clear S; intro a u ad32 cap32 S
  refine en S (tr (fldi 0 0 rfl uT28)<|la (stk 7 rfl rfl rfl)) ?_; clear S; intro a u S
  refine blk_n (then_n ?_)
  refine rs S (tr (ldkw 7 rfl rfl wD28)<|la (stkw 2 rfl rfl rfl)) ?_; clear S; intro a u S
  refine wp_ret ?_
  replace S := S.fz 6 rfl
  replace S := S.fz 5 rfl
  replace S := S.fz 4 rfl
  replace S := S.fz 3 rfl
  refine retcw rfl S.s rfl [.slice ad32 ((t.devs.xs ++ [(⟨(([⟨#[114, 49]⟩, ⟨#[97, 110, 121]⟩, ⟨#[82]⟩, ⟨#[122, 122]⟩] : List ByteArray).getD ((x24_18).toNat) strE.dflt), (x28_19 - 1), false, false, ⟨#[]⟩⟩ : Dev)]).length) cap32, .slice ra_t7_1 t.links.xs.length rc_t7_1, .slice ra_t7_2 t.edges.xs.length rc_t7_2, .slice ra_t7_3 t.pools.xs.length rc_t7_3, iI t.tol] wD28 (fun j v hv => by rw [Nat.zero_add]; exact (S.k 2 rfl).cell hv) ?_
  replace S := S.pk [0] (os' := [tpO 62 T T_l])
  refine ⟨(⟨(Sl.mk ad32 cap32 (t.devs.xs ++ [(⟨(([⟨#[114, 49]⟩, ⟨#[97, 110, 121]⟩, ⟨#[82]⟩, ⟨#[122, 122]⟩] : List ByteArray).getD ((x24_18).toNat) strE.dflt), (x28_19 - 1), false, false, ⟨#[]⟩⟩ : Dev)])), (Sl.mk ra_t7_1 rc_t7_1 t.links.xs), (Sl.mk ra_t7_2 rc_t7_2 t.edges.xs), (Sl.mk ra_t7_3 rc_t7_3 t.pools.xs), t.tol⟩ : Topo), rfl, ⟨(S.u 4 rfl), (S.u 5 rfl), (S.u 6 rfl), (S.u 7 rfl), (show inI64 t.tol from ⟨by omega, by omega⟩)⟩, (S.t 0 rfl), S.m.c⟩
 intro hc1
 refine rs S (tr (eqli rfl rfl)<|la (av rfl)) ?_; clear S; intro a u S
 refine cd S rfl ?_ ?_
 ·intro hc2
  refine rs S (tr (fldi 0 0 rfl uT28)<|tr (ldk 7 sC23 rfl rfl rfl)<|tr (leni uT23 rfl)<|la (gtri rfl rfl)) ?_; clear S; intro a u S
  refine cd S rfl ?_ ?_
  ·intro hc3
   refine dr (P := Try.prog) S 9 [one T] [(40, .is _), (41, .is _), (42, .of (fun z w => ∃ (x42a : Nat), z = .slice (some ⟨x42a, 0, none⟩) 4 4 ∧ (slE strE).wf (Fr F [one T, one b3, one b4, abk ra_t7_3, abk ra_t7_2, abk ra_t7_1, abk ra_t7_0, one b5]) w.heap (Sl.mk (some ⟨x42a, 0, none⟩) 4 ([⟨#[97, 110, 121]⟩, ⟨#[105, 112, 115]⟩, ⟨#[90]⟩, ⟨#[97, 32, 98]⟩] : List ByteArray))) (fun v w w' c h => let ⟨x42a, hv, h0⟩ := h; ⟨x42a, hv, Enc.kp (slE strE) h0 c (by intro o h; simp at h ⊢; first | exact .inl h | simp [h])⟩)), (43, .is _), (44, .of (fun z w => ∃ (x44a : Int), z = iI x44a ∧ (0 ≤ x44a ∧ (x44a < 4 ∨ x44a = 0))) (fun v w w' c h => let ⟨x44a, hv, h0⟩ := h; ⟨x44a, hv, h0⟩)), (45, .of (fun z w => ∃ (x42a : Nat) (x44b : Int), z = pT (blk (some ⟨x42a, 0, none⟩)) (off (some ⟨x42a, 0, none⟩) + (x44b).toNat * 1) ∧ (slE strE).wf (Fr F [one T, one b3, one b4, abk ra_t7_3, abk ra_t7_2, abk ra_t7_1, abk ra_t7_0, one b5]) w.heap (Sl.mk (some ⟨x42a, 0, none⟩) 4 ([⟨#[97, 110, 121]⟩, ⟨#[105, 112, 115]⟩, ⟨#[90]⟩, ⟨#[97, 32, 98]⟩] : List ByteArray)) ∧ (0 ≤ x44b ∧ (x44b < 4 ∨ x44b = 0))) (fun v w w' c h => let ⟨x42a, x44b, hv, h0, h1⟩ := h; ⟨x42a, x44b, hv, Enc.kp (slE strE) h0 c (by intro o h; simp at h ⊢; first | exact .inl h | simp [h]), h1⟩)), (46, .of (fun z w => ∃ (x42a : Nat) (x44b : Int), z = .string (([⟨#[97, 110, 121]⟩, ⟨#[105, 112, 115]⟩, ⟨#[90]⟩, ⟨#[97, 32, 98]⟩] : List ByteArray).getD ((x44b).toNat) strE.dflt) ∧ (slE strE).wf (Fr F [one T, one b3, one b4, abk ra_t7_3, abk ra_t7_2, abk ra_t7_1, abk ra_t7_0, one b5]) w.heap (Sl.mk (some ⟨x42a, 0, none⟩) 4 ([⟨#[97, 110, 121]⟩, ⟨#[105, 112, 115]⟩, ⟨#[90]⟩, ⟨#[97, 32, 98]⟩] : List ByteArray)) ∧ (0 ≤ x44b ∧ (x44b < 4 ∨ x44b = 0))) (fun v w w' c h => let ⟨x42a, x44b, hv, h0, h1⟩ := h; ⟨x42a, x44b, hv, Enc.kp (slE strE) h0 c (by intro o h; simp at h ⊢; first | exact .inl h | simp [h]), h1⟩)), (47, .is _), (48, .is _)] [[], [40], [], [], [43], [42, 44], [45], [41], [47]] [46, 48] _ ⟨qd (fldi 0 0 rfl uT28), qd (ldk 7 sC23 rfl rfl rfl), ?_, qd (mv rfl), ?_, ?_, ?_, qd (ov fun S=>x_idx uT23 sZ65 (S.e rfl) (S.e rfl) 0 rfl (by omega) (row_off (S.row 6 rfl) (m := 0) (by omega))), qd (fldi (0 + 0 * 5) 4 rfl uT65), trivial⟩ ?_
   ·skip
    intro a u S G hE
    refine hnb 42 S.m (x_bsl [(0, .string (⟨#[97, 110, 121]⟩)), (1, .string (⟨#[105, 112, 115]⟩)), (2, .string (⟨#[90]⟩)), (3, .string (⟨#[97, 32, 98]⟩))] [.string (⟨#[97, 110, 121]⟩), .string (⟨#[105, 112, 115]⟩), .string (⟨#[90]⟩), .string (⟨#[97, 32, 98]⟩)] uT63 iZ9 (by decide) (by decide) (by simp only [List.map_cons, List.map_nil, S.e (x := .const (.string (⟨#[97, 110, 121]⟩))) (v := .string (⟨#[97, 110, 121]⟩)) rfl, S.e (x := .const (.string (⟨#[105, 112, 115]⟩))) (v := .string (⟨#[105, 112, 115]⟩)) rfl, S.e (x := .const (.string (⟨#[90]⟩))) (v := .string (⟨#[90]⟩)) rfl, S.e (x := .const (.string (⟨#[97, 32, 98]⟩))) (v := .string (⟨#[97, 32, 98]⟩)) rfl]) (by kernel_rfl)) fun g => (show ∃ _, _ from ⟨_, rfl, sl_of_blk (Blk.new _ [.string (⟨#[97, 110, 121]⟩), .string (⟨#[105, 112, 115]⟩), .string (⟨#[90]⟩), .string (⟨#[97, 32, 98]⟩)] 9) ([⟨#[97, 110, 121]⟩, ⟨#[105, 112, 115]⟩, ⟨#[90]⟩, ⟨#[97, 32, 98]⟩] : List ByteArray) 4 rfl (by decide) (by decide) rfl (fr_fresh S.m.c S.m.f rfl) ?_⟩)
    intro x hx; simp only [List.mem_cons, List.not_mem_nil, or_false] at hx; rcases hx with hx | hx | hx | hx <;> rw [hx] <;> first | exact Enc.tr (strE) (show strE.wf (Fr F (ow _)) _ (⟨#[97, 110, 121]⟩) from (show (⟨#[97, 110, 121]⟩ : ByteArray).size ≤ maxLen from by unfold maxLen; decide)) (Tr.of_ch0 S.M g) | exact Enc.tr (strE) (show strE.wf (Fr F (ow _)) _ (⟨#[105, 112, 115]⟩) from (show (⟨#[105, 112, 115]⟩ : ByteArray).size ≤ maxLen from by unfold maxLen; decide)) (Tr.of_ch0 S.M g) | exact Enc.tr (strE) (show strE.wf (Fr F (ow _)) _ (⟨#[90]⟩) from (show (⟨#[90]⟩ : ByteArray).size ≤ maxLen from by unfold maxLen; decide)) (Tr.of_ch0 S.M g) | exact Enc.tr (strE) (show strE.wf (Fr F (ow _)) _ (⟨#[97, 32, 98]⟩) from (show (⟨#[97, 32, 98]⟩ : ByteArray).size ≤ maxLen from by unfold maxLen; decide)) (Tr.of_ch0 S.M g)
   ·skip
    intro a u S G hE
    refine hcl S (gNext _ _ S.x T (S.M.pick [0] (by decide)) T_l (dn1 (js := [0]) (S.u 0 rfl)) (S.t 0 rfl) 4 ⟨by omega, by omega⟩) cB23 ?_
    rintro e w2 ⟨r_h44, rfl, hr_h44, tK, T0⟩; refine ⟨_, rfl, (show ∃ _, _ from ?_), T0.ch, (S.k1 0 rfl S.s T0 tK).m⟩
    exact ⟨r_h44, rfl, hr_h44⟩
   ·skip
    intro a u S G hE
    obtain ⟨e42, e44, -⟩ := hE
    have M0 := S.m
    obtain ⟨x42_24, e42, X24⟩ := e42
    replace S := S.ext e42
    obtain ⟨x44_25, e44, hr25⟩ := e44
    replace S := S.ext e44
    exact hvl 45 S M0 (v := pT (blk (some ⟨x42_24, 0, none⟩)) (off (some ⟨x42_24, 0, none⟩) + (x44_25).toNat * 1)) (x_idx uT63 sZ9 (S.e rfl) (S.e rfl) (x44_25).toNat (by omega) (by first | omega | (simp only [List.length_cons, List.length_nil]; omega)) ((show LAt strE _ _ (some ⟨x42_24, 0, none⟩) ([⟨#[97, 110, 121]⟩, ⟨#[105, 112, 115]⟩, ⟨#[90]⟩, ⟨#[97, 32, 98]⟩] : List ByteArray) from (X24).1).adr (i := (x44_25).toNat) (by first | omega | (simp only [List.length_cons, List.length_nil]; omega)))) (show ∃ _, _ from ⟨x42_24, x44_25, rfl, X24, hr25⟩)
   ·skip
    intro a u S G hE
    obtain ⟨e45, -⟩ := hE
    have M0 := S.m
    obtain ⟨x42_26, x44_27, e45, X26, hr27⟩ := e45
    replace S := S.ext e45
    exact hvl 46 S M0 (v := .string (([⟨#[97, 110, 121]⟩, ⟨#[105, 112, 115]⟩, ⟨#[90]⟩, ⟨#[97, 32, 98]⟩] : List ByteArray).getD ((x44_27).toNat) strE.dflt)) (x_load sC9 (S.e rfl) ((show LAt strE _ _ (some ⟨x42_26, 0, none⟩) ([⟨#[97, 110, 121]⟩, ⟨#[105, 112, 115]⟩, ⟨#[90]⟩, ⟨#[97, 32, 98]⟩] : List ByteArray) from (X26).1).cell (x44_27).toNat (by first | omega | (simp only [List.length_cons, List.length_nil]; omega)) 0 _ rfl)) (show ∃ _, _ from ⟨x42_26, x44_27, rfl, X26, hr27⟩)
   clear S; intro a u S G hE
   obtain ⟨e46, -⟩ := hE
   obtain ⟨x42_28, x44_29, e46, X28, hr29⟩ := e46
   replace S := S.ext e46
   clear e46
   replace S := S.ar (wfF (slE strE) (Sl.mk (some ⟨x42_28, 0, none⟩) 4 ([⟨#[97, 110, 121]⟩, ⟨#[105, 112, 115]⟩, ⟨#[90]⟩, ⟨#[97, 32, 98]⟩] : List ByteArray))) X28
   refine sp S (la (str (E := devE) 6 (by kernel_rfl) rfl rfl rfl 0 4 (by omega) (by first | decide | exact Nat.one_pos) (⟨(t.devs.xs.getD 0 devE.dflt).name, (t.devs.xs.getD 0 devE.dflt).cap, (decide ((t.devs.xs.getD 0 devE.dflt).rng = true)), (decide ((t.devs.xs.getD 0 devE.dflt).vol = true)), (([⟨#[97, 110, 121]⟩, ⟨#[105, 112, 115]⟩, ⟨#[90]⟩, ⟨#[97, 32, 98]⟩] : List ByteArray).getD ((x44_29).toNat) strE.dflt)⟩ : Dev) (fun S=>⟨((S.row 6 rfl).wfi 0 (by omega)).1, ((S.row 6 rfl).wfi 0 (by omega)).2.1, trivial, trivial, ((show LAt strE _ _ (some ⟨x42_28, 0, none⟩) ([⟨#[97, 110, 121]⟩, ⟨#[105, 112, 115]⟩, ⟨#[90]⟩, ⟨#[97, 32, 98]⟩] : List ByteArray) from ((S.u 2 rfl)).1).wf (x44_29).toNat (by first | omega | (simp only [List.length_cons, List.length_nil]; omega)))⟩) (by first | rfl | simp [devE]) (by first | rfl | (show _ = _ * 1 + 0; omega) | (simp [devE]; omega) | simp [devE]) rfl)) ?_; clear S; intro a u S
   have hls30 : (t.devs.xs.set 0 (⟨(t.devs.xs.getD 0 devE.dflt).name, (t.devs.xs.getD 0 devE.dflt).cap, (decide ((t.devs.xs.getD 0 devE.dflt).rng = true)), (decide ((t.devs.xs.getD 0 devE.dflt).vol = true)), (([⟨#[97, 110, 121]⟩, ⟨#[105, 112, 115]⟩, ⟨#[90]⟩, ⟨#[97, 32, 98]⟩] : List ByteArray).getD ((x44_29).toNat) strE.dflt)⟩ : Dev)).length = t.devs.xs.length := by simp
   refine nn (blk_n (then_n ?_))
   refine rs S (tr (ldkw 7 rfl rfl wD28)<|la (stkw 2 rfl rfl rfl)) ?_; clear S; intro a u S
   refine wp_ret ?_
   replace S := S.fz 6 rfl
   replace S := S.fz 5 rfl
   replace S := S.fz 4 rfl
   replace S := S.fz 3 rfl
   refine retcw rfl S.s rfl [.slice ra_t7_0 t.devs.xs.length rc_t7_0, .slice ra_t7_1 t.links.xs.length rc_t7_1, .slice ra_t7_2 t.edges.xs.length rc_t7_2, .slice ra_t7_3 t.pools.xs.length rc_t7_3, iI t.tol] wD28 (fun j v hv => by rw [Nat.zero_add]; exact (S.k 2 rfl).cell hv) ?_
   replace S := S.pk [0] (os' := [tpO 62 T T_l])
   refine ⟨(⟨(Sl.mk ra_t7_0 rc_t7_0 (t.devs.xs.set 0 (⟨(t.devs.xs.getD 0 devE.dflt).name, (t.devs.xs.getD 0 devE.dflt).cap, (decide ((t.devs.xs.getD 0 devE.dflt).rng = true)), (decide ((t.devs.xs.getD 0 devE.dflt).vol = true)), (([⟨#[97, 110, 121]⟩, ⟨#[105, 112, 115]⟩, ⟨#[90]⟩, ⟨#[97, 32, 98]⟩] : List ByteArray).getD ((x44_29).toNat) strE.dflt)⟩ : Dev))), (Sl.mk ra_t7_1 rc_t7_1 t.links.xs), (Sl.mk ra_t7_2 rc_t7_2 t.edges.xs), (Sl.mk ra_t7_3 rc_t7_3 t.pools.xs), t.tol⟩ : Topo), (r1 (by simp [topoE])), ⟨(S.u 3 rfl), (S.u 4 rfl), (S.u 5 rfl), (S.u 6 rfl), (show inI64 t.tol from ⟨by omega, by omega⟩)⟩, (S.t 0 rfl), S.m.c⟩
  intro hc4
  refine wp_skip (blk_n (then_n ?_))
  refine rs S (tr (ldkw 7 rfl rfl wD28)<|la (stkw 2 rfl rfl rfl)) ?_; clear S; intro a u S
  refine wp_ret ?_
  replace S := S.fz 6 rfl
  replace S := S.fz 5 rfl
  replace S := S.fz 4 rfl
  replace S := S.fz 3 rfl
  refine retcw rfl S.s rfl [.slice ra_t7_0 t.devs.xs.length rc_t7_0, .slice ra_t7_1 t.links.xs.length rc_t7_1, .slice ra_t7_2 t.edges.xs.length rc_t7_2, .slice ra_t7_3 t.pools.xs.length rc_t7_3, iI t.tol] wD28 (fun j v hv => by rw [Nat.zero_add]; exact (S.k 2 rfl).cell hv) ?_
  replace S := S.pk [0] (os' := [tpO 62 T T_l])
  refine ⟨(⟨(Sl.mk ra_t7_0 rc_t7_0 t.devs.xs), (Sl.mk ra_t7_1 rc_t7_1 t.links.xs), (Sl.mk ra_t7_2 rc_t7_2 t.edges.xs), (Sl.mk ra_t7_3 rc_t7_3 t.pools.xs), t.tol⟩ : Topo), rfl, ⟨(S.u 2 rfl), (S.u 3 rfl), (S.u 4 rfl), (S.u 5 rfl), (show inI64 t.tol from ⟨by omega, by omega⟩)⟩, (S.t 0 rfl), S.m.c⟩
 intro hc5
 refine rs S (tr (eqli rfl rfl)<|la (av rfl)) ?_; clear S; intro a u S
 refine cd S rfl ?_ ?_
 ·intro hc6
  refine dr (P := Try.prog) S 11 [one T] [(51, .is _), (52, .is _), (53, .is _), (54, .of (fun z w => ∃ (x54a : Int), z = iI x54a ∧ (0 ≤ x54a ∧ (x54a < 3 ∨ x54a = 0))) (fun v w w' c h => let ⟨x54a, hv, h0⟩ := h; ⟨x54a, hv, h0⟩)), (55, .of (fun z w => ∃ (x54a : Int), z = iI (x54a - 1) ∧ (0 ≤ x54a ∧ (x54a < 3 ∨ x54a = 0))) (fun v w w' c h => let ⟨x54a, hv, h0⟩ := h; ⟨x54a, hv, h0⟩)), (56, .is _), (57, .of (fun z w => ∃ (x57a : Int), z = iI x57a ∧ (0 ≤ x57a ∧ (x57a < 4 ∨ x57a = 0))) (fun v w w' c h => let ⟨x57a, hv, h0⟩ := h; ⟨x57a, hv, h0⟩)), (58, .is _), (59, .of (fun z w => ∃ (x59a : Int), z = iI x59a ∧ (0 ≤ x59a ∧ (x59a < 3 ∨ x59a = 0))) (fun v w w' c h => let ⟨x59a, hv, h0⟩ := h; ⟨x59a, hv, h0⟩)), (60, .of (fun z w => ∃ (x54a : Int) (x57b : Int) (x59c : Int), z = .agg #[iI (x54a - 1), iI x57b, iI x59c] ∧ (0 ≤ x54a ∧ (x54a < 3 ∨ x54a = 0)) ∧ (0 ≤ x57b ∧ (x57b < 4 ∨ x57b = 0)) ∧ (0 ≤ x59c ∧ (x59c < 3 ∨ x59c = 0))) (fun v w w' c h => let ⟨x54a, x57b, x59c, hv, h0, h1, h2⟩ := h; ⟨x54a, x57b, x59c, hv, h0, h1, h2⟩)), (61, .of (fun z w => ∃ (x61a : Nat) (x54b : Int) (x57c : Int) (x59d : Int), z = .slice (some ⟨x61a, 0, none⟩) 1 1 ∧ (slE lnkE).wf (Fr F [one T, one b3, one b4, abk ra_t7_3, abk ra_t7_2, abk ra_t7_1, abk ra_t7_0, one b5]) w.heap (Sl.mk (some ⟨x61a, 0, none⟩) 1 ([(⟨(x54b - 1), x57c, x59d⟩ : Lnk)])) ∧ (0 ≤ x54b ∧ (x54b < 3 ∨ x54b = 0)) ∧ (0 ≤ x57c ∧ (x57c < 4 ∨ x57c = 0)) ∧ (0 ≤ x59d ∧ (x59d < 3 ∨ x59d = 0))) (fun v w w' c h => let ⟨x61a, x54b, x57c, x59d, hv, h0, h1, h2, h3⟩ := h; ⟨x61a, x54b, x57c, x59d, hv, Enc.kp (slE lnkE) h0 c (by intro o h; simp at h ⊢; first | exact .inl h | simp [h]), h1, h2, h3⟩))] [[], [51], [], [53], [54], [], [56], [], [58], [55, 57, 59], [60]] [52, 61] _ ⟨qd (fldi 0 1 rfl uT28), qd (ldk 7 sC24 rfl rfl rfl), qd (mv rfl), ?_, ?_, qd (mv rfl), ?_, qd (mv rfl), ?_, ?_, ?_, trivial⟩ ?_
  ·skip
   intro a u S G hE
   refine hcl S (gNext _ _ S.x T (S.M.pick [0] (by decide)) T_l (dn1 (js := [0]) (S.u 0 rfl)) (S.t 0 rfl) 3 ⟨by omega, by omega⟩) cB23 ?_
   rintro e w2 ⟨r_h54, rfl, hr_h54, tK, T0⟩; refine ⟨_, rfl, (show ∃ _, _ from ?_), T0.ch, (S.k1 0 rfl S.s T0 tK).m⟩
   exact ⟨r_h54, rfl, hr_h54⟩
  ·skip
   intro a u S G hE
   obtain ⟨e54, -⟩ := hE
   have M0 := S.m
   obtain ⟨x54_34, e54, hr34⟩ := e54
   replace S := S.ext e54
   exact hvl 55 S M0 (v := iI (x54_34 - 1)) (x_sub (S.e rfl) (S.e rfl) (r := (x54_34 - 1)) (w_i64 (by omega))) (show ∃ _, _ from ⟨x54_34, rfl, hr34⟩)
  ·skip
   intro a u S G hE
   refine hcl S (gNext _ _ S.x T (S.M.pick [0] (by decide)) T_l (dn1 (js := [0]) (S.u 0 rfl)) (S.t 0 rfl) 4 ⟨by omega, by omega⟩) cB23 ?_
   rintro e w2 ⟨r_h57, rfl, hr_h57, tK, T0⟩; refine ⟨_, rfl, (show ∃ _, _ from ?_), T0.ch, (S.k1 0 rfl S.s T0 tK).m⟩
   exact ⟨r_h57, rfl, hr_h57⟩
  ·skip
   intro a u S G hE
   refine hcl S (gNext _ _ S.x T (S.M.pick [0] (by decide)) T_l (dn1 (js := [0]) (S.u 0 rfl)) (S.t 0 rfl) 3 ⟨by omega, by omega⟩) cB23 ?_
   rintro e w2 ⟨r_h59, rfl, hr_h59, tK, T0⟩; refine ⟨_, rfl, (show ∃ _, _ from ?_), T0.ch, (S.k1 0 rfl S.s T0 tK).m⟩
   exact ⟨r_h59, rfl, hr_h59⟩
  ·skip
   intro a u S G hE
   obtain ⟨e55, e57, e59, -⟩ := hE
   have M0 := S.m
   obtain ⟨x54_35, e55, hr35⟩ := e55
   replace S := S.ext e55
   obtain ⟨x57_36, e57, hr36⟩ := e57
   replace S := S.ext e57
   obtain ⟨x59_37, e59, hr37⟩ := e59
   replace S := S.ext e59
   exact hvl 60 S M0 (v := .agg #[iI (x54_35 - 1), iI x57_36, iI x59_37]) (x_bd S [(0, iI (x54_35 - 1)), (1, iI x57_36), (2, iI x59_37)] [iI (x54_35 - 1), iI x57_36, iI x59_37]) (show ∃ _, _ from ⟨x54_35, x57_36, x59_37, rfl, hr35, hr36, hr37⟩)
  ·skip
   intro a u S G hE
   obtain ⟨e60, -⟩ := hE
   have M0 := S.m
   obtain ⟨x54_38, x57_39, x59_40, e60, hr38, hr39, hr40⟩ := e60
   replace S := S.ext e60
   refine hnb 61 M0 (x_bsl [(0, .agg #[iI (x54_38 - 1), iI x57_39, iI x59_40])] [iI (x54_38 - 1), iI x57_39, iI x59_40] uT24 iZ54 (by decide) (by decide) (by simp only [List.map_cons, List.map_nil, S.e (x := .tmp 60) (v := .agg #[iI (x54_38 - 1), iI x57_39, iI x59_40]) rfl]) (by kernel_rfl)) fun g => (show ∃ _, _ from ⟨_, x54_38, x57_39, x59_40, rfl, sl_of_blk (Blk.new _ [iI (x54_38 - 1), iI x57_39, iI x59_40] 54) [(⟨(x54_38 - 1), x57_39, x59_40⟩ : Lnk)] 1 rfl (by decide) (by decide) rfl (fr_fresh S.m.c S.m.f rfl) ?_, hr38, hr39, hr40⟩)
   intro x hx; simp only [List.mem_cons, List.not_mem_nil, or_false] at hx; rw [hx] <;> first | exact Enc.tr (lnkE) (show lnkE.wf (Fr F (ow _)) _ (⟨(x54_38 - 1), x57_39, x59_40⟩ : Lnk) from ⟨(show inI64 (x54_38 - 1) from ⟨by omega, by omega⟩), (show inI64 x57_39 from ⟨by omega, by omega⟩), (show inI64 x59_40 from ⟨by omega, by omega⟩)⟩) (Tr.of_ch0 S.M g)
  clear S; intro a u S G hE
  obtain ⟨e61, -⟩ := hE
  obtain ⟨x61_41, x54_42, x57_43, x59_44, e61, X41, hr42, hr43, hr44⟩ := e61
  replace S := S.ext e61
  clear e61
  replace S := S.ar (wfF (slE lnkE) (Sl.mk (some ⟨x61_41, 0, none⟩) 1 ([(⟨(x54_42 - 1), x57_43, x59_44⟩ : Lnk)]))) X41
  have hn45 : ([(⟨(x54_42 - 1), x57_43, x59_44⟩ : Lnk)]).length ≤ 9223372036854775807 := ((S.u 2 rfl)).1.len
  refine ap (E := lnkE) (ys := [(⟨(x54_42 - 1), x57_43, x59_44⟩ : Lnk)]) S 5 rfl uT24 iZ54 rfl rfl (show LAt lnkE _ _ (some ⟨x61_41, 0, none⟩) ([(⟨(x54_42 - 1), x57_43, x59_44⟩ : Lnk)]) from ((S.u 2 rfl)).1) ((S.u 2 rfl)).2.2 (LAt.mem (show LAt lnkE _ _ (some ⟨x61_41, 0, none⟩) ([(⟨(x54_42 - 1), x57_43, x59_44⟩ : Lnk)]) from ((S.u 2 rfl)).1)) ⟨by unfold maxLen; (try simp only [List.length_cons, List.length_nil, List.length_append, List.length_map]); omega, by (try simp only [List.length_cons, List.length_nil, List.length_append, List.length_map]); omega⟩ ?_; clear S; intro a u ad62 cap62 S
  refine en S (tr (fldi 0 1 rfl uT28)<|la (stk 7 rfl rfl rfl)) ?_; clear S; intro a u S
  refine blk_n (then_n ?_)
  refine rs S (tr (ldkw 7 rfl rfl wD28)<|la (stkw 2 rfl rfl rfl)) ?_; clear S; intro a u S
  refine wp_ret ?_
  replace S := S.fz 6 rfl
  replace S := S.fz 5 rfl
  replace S := S.fz 4 rfl
  replace S := S.fz 3 rfl
  refine retcw rfl S.s rfl [.slice ra_t7_0 t.devs.xs.length rc_t7_0, .slice ad62 ((t.links.xs ++ [(⟨(x54_42 - 1), x57_43, x59_44⟩ : Lnk)]).length) cap62, .slice ra_t7_2 t.edges.xs.length rc_t7_2, .slice ra_t7_3 t.pools.xs.length rc_t7_3, iI t.tol] wD28 (fun j v hv => by rw [Nat.zero_add]; exact (S.k 2 rfl).cell hv) ?_
  replace S := S.pk [0] (os' := [tpO 62 T T_l])
  refine ⟨(⟨(Sl.mk ra_t7_0 rc_t7_0 t.devs.xs), (Sl.mk ad62 cap62 (t.links.xs ++ [(⟨(x54_42 - 1), x57_43, x59_44⟩ : Lnk)])), (Sl.mk ra_t7_2 rc_t7_2 t.edges.xs), (Sl.mk ra_t7_3 rc_t7_3 t.pools.xs), t.tol⟩ : Topo), rfl, ⟨(S.u 3 rfl), (S.u 4 rfl), (S.u 5 rfl), (S.u 6 rfl), (show inI64 t.tol from ⟨by omega, by omega⟩)⟩, (S.t 0 rfl), S.m.c⟩
 intro hc7
 refine rs S (tr (eqli rfl rfl)<|la (av rfl)) ?_; clear S; intro a u S
 refine cd S rfl ?_ ?_
 ·intro hc8
  refine rs S (tr (fldi 0 1 rfl uT28)<|tr (ldk 7 sC24 rfl rfl rfl)<|tr (leni uT24 rfl)<|la (gtri rfl rfl)) ?_; clear S; intro a u S
  refine cd S rfl ?_ ?_
  ·intro hc9
   refine dr (P := Try.prog) S 9 [one T] [(70, .is _), (71, .is _), (72, .of (fun z w => ∃ (x72a : Nat), z = .slice (some ⟨x72a, 0, none⟩) 4 4 ∧ (slE intE).wf (Fr F [one T, one b3, one b4, abk ra_t7_3, abk ra_t7_2, abk ra_t7_1, abk ra_t7_0, one b5]) w.heap (Sl.mk (some ⟨x72a, 0, none⟩) 4 ([0, 1001, (-1), 7]))) (fun v w w' c h => let ⟨x72a, hv, h0⟩ := h; ⟨x72a, hv, Enc.kp (slE intE) h0 c (by intro o h; simp at h ⊢; first | exact .inl h | simp [h])⟩)), (73, .is _), (74, .of (fun z w => ∃ (x74a : Int), z = iI x74a ∧ (0 ≤ x74a ∧ (x74a < 4 ∨ x74a = 0))) (fun v w w' c h => let ⟨x74a, hv, h0⟩ := h; ⟨x74a, hv, h0⟩)), (75, .of (fun z w => ∃ (x72a : Nat) (x74b : Int), z = pT (blk (some ⟨x72a, 0, none⟩)) (off (some ⟨x72a, 0, none⟩) + (x74b).toNat * 1) ∧ (slE intE).wf (Fr F [one T, one b3, one b4, abk ra_t7_3, abk ra_t7_2, abk ra_t7_1, abk ra_t7_0, one b5]) w.heap (Sl.mk (some ⟨x72a, 0, none⟩) 4 ([0, 1001, (-1), 7])) ∧ (0 ≤ x74b ∧ (x74b < 4 ∨ x74b = 0))) (fun v w w' c h => let ⟨x72a, x74b, hv, h0, h1⟩ := h; ⟨x72a, x74b, hv, Enc.kp (slE intE) h0 c (by intro o h; simp at h ⊢; first | exact .inl h | simp [h]), h1⟩)), (76, .of (fun z w => ∃ (x72a : Nat) (x74b : Int), z = iI (([0, 1001, (-1), 7]).getD ((x74b).toNat) intE.dflt) ∧ (slE intE).wf (Fr F [one T, one b3, one b4, abk ra_t7_3, abk ra_t7_2, abk ra_t7_1, abk ra_t7_0, one b5]) w.heap (Sl.mk (some ⟨x72a, 0, none⟩) 4 ([0, 1001, (-1), 7])) ∧ (0 ≤ x74b ∧ (x74b < 4 ∨ x74b = 0))) (fun v w w' c h => let ⟨x72a, x74b, hv, h0, h1⟩ := h; ⟨x72a, x74b, hv, Enc.kp (slE intE) h0 c (by intro o h; simp at h ⊢; first | exact .inl h | simp [h]), h1⟩)), (77, .is _), (78, .is _)] [[], [70], [], [], [73], [72, 74], [75], [71], [77]] [76, 78] _ ⟨qd (fldi 0 1 rfl uT28), qd (ldk 7 sC24 rfl rfl rfl), ?_, qd (mv rfl), ?_, ?_, ?_, qd (ov fun S=>x_idx uT24 sZ54 (S.e rfl) (S.e rfl) 0 rfl (by omega) (row_off (S.row 5 rfl) (m := 0) (by omega))), qd (fldi (0 + 0 * 3) 2 rfl uT54), trivial⟩ ?_
   ·skip
    intro a u S G hE
    refine hnb 72 S.m (x_bsl [(0, iI 0), (1, iI 1001), (2, iI (-1)), (3, iI 7)] [iI 0, iI 1001, iI (-1), iI 7] uT22 iZ3 (by decide) (by decide) (by simp only [List.map_cons, List.map_nil, S.e (x := .const (iI 0)) (v := iI 0) rfl, S.e (x := .const (iI 1001)) (v := iI 1001) rfl, S.e (x := .const (iI (-1))) (v := iI (-1)) rfl, S.e (x := .const (iI 7)) (v := iI 7) rfl]) (by kernel_rfl)) fun g => (show ∃ _, _ from ⟨_, rfl, sl_of_blk (Blk.new _ [iI 0, iI 1001, iI (-1), iI 7] 3) [0, 1001, (-1), 7] 4 rfl (by decide) (by decide) rfl (fr_fresh S.m.c S.m.f rfl) ?_⟩)
    intro x hx; simp only [List.mem_cons, List.not_mem_nil, or_false] at hx; rcases hx with hx | hx | hx | hx <;> rw [hx] <;> first | exact Enc.tr (intE) (show intE.wf (Fr F (ow _)) _ 0 from (show inI64 0 from ⟨by omega, by omega⟩)) (Tr.of_ch0 S.M g) | exact Enc.tr (intE) (show intE.wf (Fr F (ow _)) _ 1001 from (show inI64 1001 from ⟨by omega, by omega⟩)) (Tr.of_ch0 S.M g) | exact Enc.tr (intE) (show intE.wf (Fr F (ow _)) _ (-1) from (show inI64 (-1) from ⟨by omega, by omega⟩)) (Tr.of_ch0 S.M g) | exact Enc.tr (intE) (show intE.wf (Fr F (ow _)) _ 7 from (show inI64 7 from ⟨by omega, by omega⟩)) (Tr.of_ch0 S.M g)
   ·skip
    intro a u S G hE
    refine hcl S (gNext _ _ S.x T (S.M.pick [0] (by decide)) T_l (dn1 (js := [0]) (S.u 0 rfl)) (S.t 0 rfl) 4 ⟨by omega, by omega⟩) cB23 ?_
    rintro e w2 ⟨r_h74, rfl, hr_h74, tK, T0⟩; refine ⟨_, rfl, (show ∃ _, _ from ?_), T0.ch, (S.k1 0 rfl S.s T0 tK).m⟩
    exact ⟨r_h74, rfl, hr_h74⟩
   ·skip
    intro a u S G hE
    obtain ⟨e72, e74, -⟩ := hE
    have M0 := S.m
    obtain ⟨x72_49, e72, X49⟩ := e72
    replace S := S.ext e72
    obtain ⟨x74_50, e74, hr50⟩ := e74
    replace S := S.ext e74
    exact hvl 75 S M0 (v := pT (blk (some ⟨x72_49, 0, none⟩)) (off (some ⟨x72_49, 0, none⟩) + (x74_50).toNat * 1)) (x_idx uT22 sZ3 (S.e rfl) (S.e rfl) (x74_50).toNat (by omega) (by first | omega | (simp only [List.length_cons, List.length_nil]; omega)) ((show LAt intE _ _ (some ⟨x72_49, 0, none⟩) ([0, 1001, (-1), 7]) from (X49).1).adr (i := (x74_50).toNat) (by first | omega | (simp only [List.length_cons, List.length_nil]; omega)))) (show ∃ _, _ from ⟨x72_49, x74_50, rfl, X49, hr50⟩)
   ·skip
    intro a u S G hE
    obtain ⟨e75, -⟩ := hE
    have M0 := S.m
    obtain ⟨x72_51, x74_52, e75, X51, hr52⟩ := e75
    replace S := S.ext e75
    obtain ⟨hl53, hu53⟩ : inI64 (([0, 1001, (-1), 7]).getD ((x74_52).toNat) intE.dflt) := id ((show LAt intE _ _ (some ⟨x72_51, 0, none⟩) ([0, 1001, (-1), 7]) from (X51).1).wf (x74_52).toNat (by first | omega | (simp only [List.length_cons, List.length_nil]; omega)))
    exact hvl 76 S M0 (v := iI (([0, 1001, (-1), 7]).getD ((x74_52).toNat) intE.dflt)) (x_load sC3 (S.e rfl) ((show LAt intE _ _ (some ⟨x72_51, 0, none⟩) ([0, 1001, (-1), 7]) from (X51).1).cell (x74_52).toNat (by first | omega | (simp only [List.length_cons, List.length_nil]; omega)) 0 _ rfl)) (show ∃ _, _ from ⟨x72_51, x74_52, rfl, X51, hr52⟩)
   clear S; intro a u S G hE
   obtain ⟨e76, -⟩ := hE
   obtain ⟨x72_54, x74_55, e76, X54, hr55⟩ := e76
   replace S := S.ext e76
   clear e76
   replace S := S.ar (wfF (slE intE) (Sl.mk (some ⟨x72_54, 0, none⟩) 4 ([0, 1001, (-1), 7]))) X54
   obtain ⟨hl56, hu56⟩ : inI64 (([0, 1001, (-1), 7]).getD ((x74_55).toNat) intE.dflt) := id ((show LAt intE _ _ (some ⟨x72_54, 0, none⟩) ([0, 1001, (-1), 7]) from ((S.u 2 rfl)).1).wf (x74_55).toNat (by first | omega | (simp only [List.length_cons, List.length_nil]; omega)))
   refine sp S (la (str (E := lnkE) 5 (by kernel_rfl) rfl rfl rfl 0 2 (by omega) (by first | decide | exact Nat.one_pos) (⟨(t.links.xs.getD 0 lnkE.dflt).a, (t.links.xs.getD 0 lnkE.dflt).b, (([0, 1001, (-1), 7]).getD ((x74_55).toNat) intE.dflt)⟩ : Lnk) (fun S=>⟨((S.row 5 rfl).wfi 0 (by omega)).1, ((S.row 5 rfl).wfi 0 (by omega)).2.1, ((show LAt intE _ _ (some ⟨x72_54, 0, none⟩) ([0, 1001, (-1), 7]) from ((S.u 2 rfl)).1).wf (x74_55).toNat (by first | omega | (simp only [List.length_cons, List.length_nil]; omega)))⟩) rfl (by first | rfl | (show _ = _ * 1 + 0; omega) | (simp [lnkE]; omega) | simp [lnkE]) rfl)) ?_; clear S; intro a u S
   have hls57 : (t.links.xs.set 0 (⟨(t.links.xs.getD 0 lnkE.dflt).a, (t.links.xs.getD 0 lnkE.dflt).b, (([0, 1001, (-1), 7]).getD ((x74_55).toNat) intE.dflt)⟩ : Lnk)).length = t.links.xs.length := by simp
   refine nn (blk_n (then_n ?_))
   refine rs S (tr (ldkw 7 rfl rfl wD28)<|la (stkw 2 rfl rfl rfl)) ?_; clear S; intro a u S
   refine wp_ret ?_
   replace S := S.fz 6 rfl
   replace S := S.fz 5 rfl
   replace S := S.fz 4 rfl
   replace S := S.fz 3 rfl
   refine retcw rfl S.s rfl [.slice ra_t7_0 t.devs.xs.length rc_t7_0, .slice ra_t7_1 t.links.xs.length rc_t7_1, .slice ra_t7_2 t.edges.xs.length rc_t7_2, .slice ra_t7_3 t.pools.xs.length rc_t7_3, iI t.tol] wD28 (fun j v hv => by rw [Nat.zero_add]; exact (S.k 2 rfl).cell hv) ?_
   replace S := S.pk [0] (os' := [tpO 62 T T_l])
   refine ⟨(⟨(Sl.mk ra_t7_0 rc_t7_0 t.devs.xs), (Sl.mk ra_t7_1 rc_t7_1 (t.links.xs.set 0 (⟨(t.links.xs.getD 0 lnkE.dflt).a, (t.links.xs.getD 0 lnkE.dflt).b, (([0, 1001, (-1), 7]).getD ((x74_55).toNat) intE.dflt)⟩ : Lnk))), (Sl.mk ra_t7_2 rc_t7_2 t.edges.xs), (Sl.mk ra_t7_3 rc_t7_3 t.pools.xs), t.tol⟩ : Topo), (r1 (by simp [topoE])), ⟨(S.u 3 rfl), (S.u 4 rfl), (S.u 5 rfl), (S.u 6 rfl), (show inI64 t.tol from ⟨by omega, by omega⟩)⟩, (S.t 0 rfl), S.m.c⟩
  intro hc10
  refine wp_skip (blk_n (then_n ?_))
  refine rs S (tr (ldkw 7 rfl rfl wD28)<|la (stkw 2 rfl rfl rfl)) ?_; clear S; intro a u S
  refine wp_ret ?_
  replace S := S.fz 6 rfl
  replace S := S.fz 5 rfl
  replace S := S.fz 4 rfl
  replace S := S.fz 3 rfl
  refine retcw rfl S.s rfl [.slice ra_t7_0 t.devs.xs.length rc_t7_0, .slice ra_t7_1 t.links.xs.length rc_t7_1, .slice ra_t7_2 t.edges.xs.length rc_t7_2, .slice ra_t7_3 t.pools.xs.length rc_t7_3, iI t.tol] wD28 (fun j v hv => by rw [Nat.zero_add]; exact (S.k 2 rfl).cell hv) ?_
  replace S := S.pk [0] (os' := [tpO 62 T T_l])
  refine ⟨(⟨(Sl.mk ra_t7_0 rc_t7_0 t.devs.xs), (Sl.mk ra_t7_1 rc_t7_1 t.links.xs), (Sl.mk ra_t7_2 rc_t7_2 t.edges.xs), (Sl.mk ra_t7_3 rc_t7_3 t.pools.xs), t.tol⟩ : Topo), rfl, ⟨(S.u 2 rfl), (S.u 3 rfl), (S.u 4 rfl), (S.u 5 rfl), (show inI64 t.tol from ⟨by omega, by omega⟩)⟩, (S.t 0 rfl), S.m.c⟩
 intro hc11
 refine rs S (tr (eqli rfl rfl)<|la (av rfl)) ?_; clear S; intro a u S
 refine cd S rfl ?_ ?_
 ·intro hc12
  refine rs S (tr (fldi 0 2 rfl uT28)<|tr (ldk 7 sC25 rfl rfl rfl)<|tr (leni uT25 rfl)<|la (gtri rfl rfl)) ?_; clear S; intro a u S
  refine cd S rfl ?_ ?_
  ·intro hc13
   refine dr (P := Try.prog) S 7 [one T] [(85, .is _), (86, .is _), (87, .is _), (88, .of (fun z w => ∃ (x88a : Int), z = iI x88a ∧ (0 ≤ x88a ∧ (x88a < 9 ∨ x88a = 0))) (fun v w w' c h => let ⟨x88a, hv, h0⟩ := h; ⟨x88a, hv, h0⟩)), (89, .of (fun z w => ∃ (x88a : Int), z = iI (x88a - 1) ∧ (0 ≤ x88a ∧ (x88a < 9 ∨ x88a = 0))) (fun v w w' c h => let ⟨x88a, hv, h0⟩ := h; ⟨x88a, hv, h0⟩)), (90, .is _), (91, .is _)] [[], [85], [], [87], [88], [86], [90]] [89, 91] _ ⟨qd (fldi 0 2 rfl uT28), qd (ldk 7 sC25 rfl rfl rfl), qd (mv rfl), ?_, ?_, qd (ov fun S=>x_idx uT25 sZ71 (S.e rfl) (S.e rfl) 0 rfl (by omega) (row_off (S.row 4 rfl) (m := 0) (by omega))), qd (fldi (0 + 0 * 6) 1 rfl uT71), trivial⟩ ?_
   ·skip
    intro a u S G hE
    refine hcl S (gNext _ _ S.x T (S.M.pick [0] (by decide)) T_l (dn1 (js := [0]) (S.u 0 rfl)) (S.t 0 rfl) 9 ⟨by omega, by omega⟩) cB23 ?_
    rintro e w2 ⟨r_h88, rfl, hr_h88, tK, T0⟩; refine ⟨_, rfl, (show ∃ _, _ from ?_), T0.ch, (S.k1 0 rfl S.s T0 tK).m⟩
    exact ⟨r_h88, rfl, hr_h88⟩
   ·skip
    intro a u S G hE
    obtain ⟨e88, -⟩ := hE
    have M0 := S.m
    obtain ⟨x88_62, e88, hr62⟩ := e88
    replace S := S.ext e88
    exact hvl 89 S M0 (v := iI (x88_62 - 1)) (x_sub (S.e rfl) (S.e rfl) (r := (x88_62 - 1)) (w_i64 (by omega))) (show ∃ _, _ from ⟨x88_62, rfl, hr62⟩)
   clear S; intro a u S G hE
   obtain ⟨e89, -⟩ := hE
   obtain ⟨x88_63, e89, hr63⟩ := e89
   replace S := S.ext e89
   clear e89
   refine sp S (la (str (E := edgE) 4 (by kernel_rfl) rfl rfl rfl 0 1 (by omega) (by first | decide | exact Nat.one_pos) (⟨(t.edges.xs.getD 0 edgE.dflt).name, (x88_63 - 1), (t.edges.xs.getD 0 edgE.dflt).zone, (t.edges.xs.getD 0 edgE.dflt).pfx, (decide ((t.edges.xs.getD 0 edgE.dflt).planned = true))⟩ : Edg) (fun S=>⟨((S.row 4 rfl).wfi 0 (by omega)).1, (show inI64 (x88_63 - 1) from ⟨by omega, by omega⟩), ((S.row 4 rfl).wfi 0 (by omega)).2.2.1, ⟨((S.row 4 rfl).wfi 0 (by omega)).2.2.2.1.1, ((S.row 4 rfl).wfi 0 (by omega)).2.2.2.1.2⟩, trivial⟩) (by first | rfl | simp [edgE]) (by first | rfl | (show _ = _ * 1 + 0; omega) | (simp [edgE]; omega) | simp [edgE]) rfl)) ?_; clear S; intro a u S
   have hls64 : (t.edges.xs.set 0 (⟨(t.edges.xs.getD 0 edgE.dflt).name, (x88_63 - 1), (t.edges.xs.getD 0 edgE.dflt).zone, (t.edges.xs.getD 0 edgE.dflt).pfx, (decide ((t.edges.xs.getD 0 edgE.dflt).planned = true))⟩ : Edg)).length = t.edges.xs.length := by simp
   refine nn (blk_n (then_n ?_))
   refine rs S (tr (ldkw 7 rfl rfl wD28)<|la (stkw 2 rfl rfl rfl)) ?_; clear S; intro a u S
   refine wp_ret ?_
   replace S := S.fz 6 rfl
   replace S := S.fz 5 rfl
   replace S := S.fz 4 rfl
   replace S := S.fz 3 rfl
   refine retcw rfl S.s rfl [.slice ra_t7_0 t.devs.xs.length rc_t7_0, .slice ra_t7_1 t.links.xs.length rc_t7_1, .slice ra_t7_2 t.edges.xs.length rc_t7_2, .slice ra_t7_3 t.pools.xs.length rc_t7_3, iI t.tol] wD28 (fun j v hv => by rw [Nat.zero_add]; exact (S.k 2 rfl).cell hv) ?_
   replace S := S.pk [0] (os' := [tpO 62 T T_l])
   refine ⟨(⟨(Sl.mk ra_t7_0 rc_t7_0 t.devs.xs), (Sl.mk ra_t7_1 rc_t7_1 t.links.xs), (Sl.mk ra_t7_2 rc_t7_2 (t.edges.xs.set 0 (⟨(t.edges.xs.getD 0 edgE.dflt).name, (x88_63 - 1), (t.edges.xs.getD 0 edgE.dflt).zone, (t.edges.xs.getD 0 edgE.dflt).pfx, (decide ((t.edges.xs.getD 0 edgE.dflt).planned = true))⟩ : Edg))), (Sl.mk ra_t7_3 rc_t7_3 t.pools.xs), t.tol⟩ : Topo), (r1 (by simp [topoE])), ⟨(S.u 2 rfl), (S.u 3 rfl), (S.u 4 rfl), (S.u 5 rfl), (show inI64 t.tol from ⟨by omega, by omega⟩)⟩, (S.t 0 rfl), S.m.c⟩
  intro hc14
  refine wp_skip (blk_n (then_n ?_))
  refine rs S (tr (ldkw 7 rfl rfl wD28)<|la (stkw 2 rfl rfl rfl)) ?_; clear S; intro a u S
  refine wp_ret ?_
  replace S := S.fz 6 rfl
  replace S := S.fz 5 rfl
  replace S := S.fz 4 rfl
  replace S := S.fz 3 rfl
  refine retcw rfl S.s rfl [.slice ra_t7_0 t.devs.xs.length rc_t7_0, .slice ra_t7_1 t.links.xs.length rc_t7_1, .slice ra_t7_2 t.edges.xs.length rc_t7_2, .slice ra_t7_3 t.pools.xs.length rc_t7_3, iI t.tol] wD28 (fun j v hv => by rw [Nat.zero_add]; exact (S.k 2 rfl).cell hv) ?_
  replace S := S.pk [0] (os' := [tpO 62 T T_l])
  refine ⟨(⟨(Sl.mk ra_t7_0 rc_t7_0 t.devs.xs), (Sl.mk ra_t7_1 rc_t7_1 t.links.xs), (Sl.mk ra_t7_2 rc_t7_2 t.edges.xs), (Sl.mk ra_t7_3 rc_t7_3 t.pools.xs), t.tol⟩ : Topo), rfl, ⟨(S.u 2 rfl), (S.u 3 rfl), (S.u 4 rfl), (S.u 5 rfl), (show inI64 t.tol from ⟨by omega, by omega⟩)⟩, (S.t 0 rfl), S.m.c⟩
 intro hc15
 refine rs S (tr (eqli rfl rfl)<|la (av rfl)) ?_; clear S; intro a u S
 refine cd S rfl ?_ ?_
 ·intro hc16
  refine rs S (tr (fldi 0 2 rfl uT28)<|tr (ldk 7 sC25 rfl rfl rfl)<|tr (leni uT25 rfl)<|la (gtri rfl rfl)) ?_; clear S; intro a u S
  refine cd S rfl ?_ ?_
  ·intro hc17
   obtain ⟨hl69, hu69⟩ : inU32 ((t.edges.xs.getD (((((t.edges.xs.length : Nat) : Int) - 1)).toNat) edgE.dflt).pfx.addr) := id (((S.row 4 rfl).wfi ((((t.edges.xs.length : Nat) : Int) - 1)).toNat (by omega)).2.2.2.1.1)
   obtain ⟨hl70, hu70⟩ : inI64 ((t.edges.xs.getD (((((t.edges.xs.length : Nat) : Int) - 1)).toNat) edgE.dflt).pfx.bits) := id (((S.row 4 rfl).wfi ((((t.edges.xs.length : Nat) : Int) - 1)).toNat (by omega)).2.2.2.1.2)
   refine dr (P := Try.prog) S 19 [one T] [(98, .is _), (99, .is _), (100, .is _), (101, .is _), (102, .is _), (103, .is _), (104, .is _), (105, .is _), (106, .is _), (107, .is _), (108, .is _), (109, .is _), (110, .is _), (111, .is _), (112, .is _), (113, .is _), (114, .of (fun z w => ∃ (x114a : Pfx), z = .agg (pfxE.cells x114a).toArray ∧ (pfxE).wf (Fr F [one T, one b3, one b4, abk ra_t7_3, abk ra_t7_2, abk ra_t7_1, abk ra_t7_0, one b5]) w.heap x114a) (fun v w w' c h => let ⟨x114a, hv, h0⟩ := h; ⟨x114a, hv, Enc.kp (pfxE) h0 c (by intro o h; simp at h ⊢; first | exact .inl h | simp [h])⟩)), (115, .is _), (116, .is _)] [[], [98], [], [100], [101], [102], [], [], [105], [], [107], [108], [109], [106, 110], [111], [112], [104, 113], [99, 103], [115]] [114, 116] _ ⟨qd (fldi 0 2 rfl uT28), qd (ldk 7 sC25 rfl rfl rfl), qd (fldi 0 2 rfl uT28), qd (ldk 7 sC25 rfl rfl rfl), qd (leni uT25 rfl), qd (subi (((t.edges.xs.length : Nat) : Int) - 1) rfl rfl (w_i64 (by omega))), qd (mv rfl), qd (fldi 0 2 rfl uT28), qd (ldk 7 sC25 rfl rfl rfl), qd (fldi 0 2 rfl uT28), qd (ldk 7 sC25 rfl rfl rfl), qd (leni uT25 rfl), qd (subi (((t.edges.xs.length : Nat) : Int) - 1) rfl rfl (w_i64 (by omega))), qd (ov fun S=>x_idx uT25 sZ71 (S.e rfl) (S.e rfl) ((((t.edges.xs.length : Nat) : Int) - 1)).toNat (by omega) (by omega) (row_off (S.row 4 rfl) (m := ((((t.edges.xs.length : Nat) : Int) - 1)).toNat) (by omega))), qd (fldi (0 + ((((t.edges.xs.length : Nat) : Int) - 1)).toNat * 6) 3 rfl uT71), qd (ov fun S=>x_loadw [.int .u32 ((t.edges.xs.getD (((((t.edges.xs.length : Nat) : Int) - 1)).toNat) edgE.dflt).pfx.addr), iI ((t.edges.xs.getD (((((t.edges.xs.length : Nat) : Int) - 1)).toNat) edgE.dflt).pfx.bits)] wD68 (S.e rfl) (((S.row 4 rfl).latz (by first | decide | exact Nat.one_pos)).mcell ((((t.edges.xs.length : Nat) : Int) - 1)).toNat (by omega) [.string ((t.edges.xs.getD (((((t.edges.xs.length : Nat) : Int) - 1)).toNat) edgE.dflt).name), iI ((t.edges.xs.getD (((((t.edges.xs.length : Nat) : Int) - 1)).toNat) edgE.dflt).dev), .string ((t.edges.xs.getD (((((t.edges.xs.length : Nat) : Int) - 1)).toNat) edgE.dflt).zone)] [.int .u32 ((t.edges.xs.getD (((((t.edges.xs.length : Nat) : Int) - 1)).toNat) edgE.dflt).pfx.addr), iI ((t.edges.xs.getD (((((t.edges.xs.length : Nat) : Int) - 1)).toNat) edgE.dflt).pfx.bits)] [bD ((t.edges.xs.getD (((((t.edges.xs.length : Nat) : Int) - 1)).toNat) edgE.dflt).planned = true)] rfl _ rfl)), ?_, qd (ov fun S=>x_idx uT25 sZ71 (S.e rfl) (S.e rfl) ((((t.edges.xs.length : Nat) : Int) - 1)).toNat (by omega) (by omega) (row_off (S.row 4 rfl) (m := ((((t.edges.xs.length : Nat) : Int) - 1)).toNat) (by omega))), qd (fldi (0 + ((((t.edges.xs.length : Nat) : Int) - 1)).toNat * 6) 3 rfl uT71), trivial⟩ ?_
   ·skip
    intro a u S G hE
    refine hcl S (gSpoilP _ _ S.x T (S.M.pick [0] (by decide)) T_l (dn1 (js := [0]) (S.u 0 rfl)) (S.t 0 rfl) ((t.edges.xs.getD (((((t.edges.xs.length : Nat) : Int) - 1)).toNat) edgE.dflt).pfx) ⟨((S.row 4 rfl).wfi ((((t.edges.xs.length : Nat) : Int) - 1)).toNat (by omega)).2.2.2.1.1, ((S.row 4 rfl).wfi ((((t.edges.xs.length : Nat) : Int) - 1)).toNat (by omega)).2.2.2.1.2⟩) cB48 ?_
    rintro e w2 ⟨r_h114, rfl, R_h114, tK, T0⟩; refine ⟨_, rfl, (show ∃ _, _ from ?_), T0.ch, (S.k1 0 rfl S.s T0 tK).m⟩
    exact ⟨r_h114, rfl, (Enc.up _ R_h114)⟩
   clear S; intro a u S G hE
   obtain ⟨e114, -⟩ := hE
   obtain ⟨x114_71, e114, X71⟩ := e114
   replace S := S.ext e114
   clear e114
   replace S := S.ar (wfF pfxE x114_71) X71
   obtain ⟨hl72, hu72⟩ : inU32 x114_71.addr := id ((S.u 2 rfl).1)
   obtain ⟨hl73, hu73⟩ : inI64 x114_71.bits := id ((S.u 2 rfl).2)
   refine sp S (la (strw (E := edgE) 4 rfl rfl rfl ((((t.edges.xs.length : Nat) : Int) - 1)).toNat 3 (by omega) (by exact (show 3 + 2 ≤ 6 from by decide)) (⟨(t.edges.xs.getD (((((t.edges.xs.length : Nat) : Int) - 1)).toNat) edgE.dflt).name, (t.edges.xs.getD (((((t.edges.xs.length : Nat) : Int) - 1)).toNat) edgE.dflt).dev, (t.edges.xs.getD (((((t.edges.xs.length : Nat) : Int) - 1)).toNat) edgE.dflt).zone, x114_71, (decide ((t.edges.xs.getD (((((t.edges.xs.length : Nat) : Int) - 1)).toNat) edgE.dflt).planned = true))⟩ : Edg) (fun S=>⟨((S.row 4 rfl).wfi ((((t.edges.xs.length : Nat) : Int) - 1)).toNat (by omega)).1, ((S.row 4 rfl).wfi ((((t.edges.xs.length : Nat) : Int) - 1)).toNat (by omega)).2.1, ((S.row 4 rfl).wfi ((((t.edges.xs.length : Nat) : Int) - 1)).toNat (by omega)).2.2.1, ⟨(S.u 2 rfl).1, (S.u 2 rfl).2⟩, trivial⟩) (by first | rfl | simp [edgE, pfxE]) (by first | rfl | (simp [edgE]; omega) | simp [edgE]) rfl)) ?_; clear S; intro a u S
   have hls74 : (t.edges.xs.set ((((t.edges.xs.length : Nat) : Int) - 1)).toNat (⟨(t.edges.xs.getD (((((t.edges.xs.length : Nat) : Int) - 1)).toNat) edgE.dflt).name, (t.edges.xs.getD (((((t.edges.xs.length : Nat) : Int) - 1)).toNat) edgE.dflt).dev, (t.edges.xs.getD (((((t.edges.xs.length : Nat) : Int) - 1)).toNat) edgE.dflt).zone, x114_71, (decide ((t.edges.xs.getD (((((t.edges.xs.length : Nat) : Int) - 1)).toNat) edgE.dflt).planned = true))⟩ : Edg)).length = t.edges.xs.length := by simp
   refine nn (blk_n (then_n ?_))
   refine rs S (tr (ldkw 7 rfl rfl wD28)<|la (stkw 2 rfl rfl rfl)) ?_; clear S; intro a u S
   refine wp_ret ?_
   replace S := S.fz 6 rfl
   replace S := S.fz 5 rfl
   replace S := S.fz 4 rfl
   replace S := S.fz 3 rfl
   refine retcw rfl S.s rfl [.slice ra_t7_0 t.devs.xs.length rc_t7_0, .slice ra_t7_1 t.links.xs.length rc_t7_1, .slice ra_t7_2 t.edges.xs.length rc_t7_2, .slice ra_t7_3 t.pools.xs.length rc_t7_3, iI t.tol] wD28 (fun j v hv => by rw [Nat.zero_add]; exact (S.k 2 rfl).cell hv) ?_
   replace S := S.pk [0] (os' := [tpO 62 T T_l])
   refine ⟨(⟨(Sl.mk ra_t7_0 rc_t7_0 t.devs.xs), (Sl.mk ra_t7_1 rc_t7_1 t.links.xs), (Sl.mk ra_t7_2 rc_t7_2 (t.edges.xs.set ((((t.edges.xs.length : Nat) : Int) - 1)).toNat (⟨(t.edges.xs.getD (((((t.edges.xs.length : Nat) : Int) - 1)).toNat) edgE.dflt).name, (t.edges.xs.getD (((((t.edges.xs.length : Nat) : Int) - 1)).toNat) edgE.dflt).dev, (t.edges.xs.getD (((((t.edges.xs.length : Nat) : Int) - 1)).toNat) edgE.dflt).zone, x114_71, (decide ((t.edges.xs.getD (((((t.edges.xs.length : Nat) : Int) - 1)).toNat) edgE.dflt).planned = true))⟩ : Edg))), (Sl.mk ra_t7_3 rc_t7_3 t.pools.xs), t.tol⟩ : Topo), (r1 (by simp [topoE])), ⟨(S.u 3 rfl), (S.u 4 rfl), (S.u 5 rfl), (S.u 6 rfl), (show inI64 t.tol from ⟨by omega, by omega⟩)⟩, (S.t 0 rfl), S.m.c⟩
  intro hc18
  refine wp_skip (blk_n (then_n ?_))
  refine rs S (tr (ldkw 7 rfl rfl wD28)<|la (stkw 2 rfl rfl rfl)) ?_; clear S; intro a u S
  refine wp_ret ?_
  replace S := S.fz 6 rfl
  replace S := S.fz 5 rfl
  replace S := S.fz 4 rfl
  replace S := S.fz 3 rfl
  refine retcw rfl S.s rfl [.slice ra_t7_0 t.devs.xs.length rc_t7_0, .slice ra_t7_1 t.links.xs.length rc_t7_1, .slice ra_t7_2 t.edges.xs.length rc_t7_2, .slice ra_t7_3 t.pools.xs.length rc_t7_3, iI t.tol] wD28 (fun j v hv => by rw [Nat.zero_add]; exact (S.k 2 rfl).cell hv) ?_
  replace S := S.pk [0] (os' := [tpO 62 T T_l])
  refine ⟨(⟨(Sl.mk ra_t7_0 rc_t7_0 t.devs.xs), (Sl.mk ra_t7_1 rc_t7_1 t.links.xs), (Sl.mk ra_t7_2 rc_t7_2 t.edges.xs), (Sl.mk ra_t7_3 rc_t7_3 t.pools.xs), t.tol⟩ : Topo), rfl, ⟨(S.u 2 rfl), (S.u 3 rfl), (S.u 4 rfl), (S.u 5 rfl), (show inI64 t.tol from ⟨by omega, by omega⟩)⟩, (S.t 0 rfl), S.m.c⟩
 intro hc19
 refine rs S (tr (eqli rfl rfl)<|la (av rfl)) ?_; clear S; intro a u S
 refine cd S rfl ?_ ?_
 ·intro hc20
  refine rs S (tr (fldi 0 2 rfl uT28)<|tr (ldk 7 sC25 rfl rfl rfl)<|tr (leni uT25 rfl)<|la (gtri rfl rfl)) ?_; clear S; intro a u S
  refine cd S rfl ?_ ?_
  ·intro hc21
   refine dr (P := Try.prog) S 10 [] [(123, .is _), (124, .is _), (125, .is _), (126, .is _), (127, .is _), (128, .is _), (129, .is _), (130, .is _), (131, .is _), (132, .is _)] [[], [123], [], [125], [126], [127], [128], [129], [124], [131]] [130, 132] _ ⟨qd (fldi 0 2 rfl uT28), qd (ldk 7 sC25 rfl rfl rfl), qd (fldi 0 2 rfl uT28), qd (ldk 7 sC25 rfl rfl rfl), qd (ov fun S=>x_idx uT25 sZ71 (S.e rfl) (S.e rfl) 0 rfl (by omega) (row_off (S.row 4 rfl) (m := 0) (by omega))), qd (fldi (0 + 0 * 6) 5 rfl uT71), qd (ov fun S=>x_load sC4 (S.e rfl) (((S.row 4 rfl).latz (by first | decide | exact Nat.one_pos)).cell 0 (by omega) 5 _ rfl)), qd (noti rfl), qd (ov fun S=>x_idx uT25 sZ71 (S.e rfl) (S.e rfl) 0 rfl (by omega) (row_off (S.row 4 rfl) (m := 0) (by omega))), qd (fldi (0 + 0 * 6) 5 rfl uT71), trivial⟩ ?_
   clear S; intro a u S G hE
   obtain ⟨bv130, hbv130⟩ : ∃ b : Bool, (b = true) ↔ (¬ ((t.edges.xs.getD 0 edgE.dflt).planned = true)) := ⟨decide (¬ ((t.edges.xs.getD 0 edgE.dflt).planned = true)), by simp⟩
   replace S := S.ext (d := 130) (v := bD (bv130 = true)) ((S.get 130 rfl).trans (vb hbv130.symm))
   refine sp S (la (str (E := edgE) 4 (by kernel_rfl) rfl rfl rfl 0 5 (by omega) (by first | decide | exact Nat.one_pos) (⟨(t.edges.xs.getD 0 edgE.dflt).name, (t.edges.xs.getD 0 edgE.dflt).dev, (t.edges.xs.getD 0 edgE.dflt).zone, (t.edges.xs.getD 0 edgE.dflt).pfx, bv130⟩ : Edg) (fun S=>⟨((S.row 4 rfl).wfi 0 (by omega)).1, ((S.row 4 rfl).wfi 0 (by omega)).2.1, ((S.row 4 rfl).wfi 0 (by omega)).2.2.1, ⟨((S.row 4 rfl).wfi 0 (by omega)).2.2.2.1.1, ((S.row 4 rfl).wfi 0 (by omega)).2.2.2.1.2⟩, trivial⟩) rfl (by first | rfl | (show _ = _ * 1 + 0; omega) | (simp [edgE]; omega) | simp [edgE]) rfl)) ?_; clear S; intro a u S
   have hls79 : (t.edges.xs.set 0 (⟨(t.edges.xs.getD 0 edgE.dflt).name, (t.edges.xs.getD 0 edgE.dflt).dev, (t.edges.xs.getD 0 edgE.dflt).zone, (t.edges.xs.getD 0 edgE.dflt).pfx, bv130⟩ : Edg)).length = t.edges.xs.length := by simp
   refine nn (blk_n (then_n ?_))
   refine rs S (tr (ldkw 7 rfl rfl wD28)<|la (stkw 2 rfl rfl rfl)) ?_; clear S; intro a u S
   refine wp_ret ?_
   replace S := S.fz 6 rfl
   replace S := S.fz 5 rfl
   replace S := S.fz 4 rfl
   replace S := S.fz 3 rfl
   refine retcw rfl S.s rfl [.slice ra_t7_0 t.devs.xs.length rc_t7_0, .slice ra_t7_1 t.links.xs.length rc_t7_1, .slice ra_t7_2 t.edges.xs.length rc_t7_2, .slice ra_t7_3 t.pools.xs.length rc_t7_3, iI t.tol] wD28 (fun j v hv => by rw [Nat.zero_add]; exact (S.k 2 rfl).cell hv) ?_
   replace S := S.pk [0] (os' := [tpO 62 T T_l])
   refine ⟨(⟨(Sl.mk ra_t7_0 rc_t7_0 t.devs.xs), (Sl.mk ra_t7_1 rc_t7_1 t.links.xs), (Sl.mk ra_t7_2 rc_t7_2 (t.edges.xs.set 0 (⟨(t.edges.xs.getD 0 edgE.dflt).name, (t.edges.xs.getD 0 edgE.dflt).dev, (t.edges.xs.getD 0 edgE.dflt).zone, (t.edges.xs.getD 0 edgE.dflt).pfx, bv130⟩ : Edg))), (Sl.mk ra_t7_3 rc_t7_3 t.pools.xs), t.tol⟩ : Topo), (r1 (by simp [topoE])), ⟨(S.u 2 rfl), (S.u 3 rfl), (S.u 4 rfl), (S.u 5 rfl), (show inI64 t.tol from ⟨by omega, by omega⟩)⟩, (S.t 0 rfl), S.m.c⟩
  intro hc22
  refine wp_skip (blk_n (then_n ?_))
  refine rs S (tr (ldkw 7 rfl rfl wD28)<|la (stkw 2 rfl rfl rfl)) ?_; clear S; intro a u S
  refine wp_ret ?_
  replace S := S.fz 6 rfl
  replace S := S.fz 5 rfl
  replace S := S.fz 4 rfl
  replace S := S.fz 3 rfl
  refine retcw rfl S.s rfl [.slice ra_t7_0 t.devs.xs.length rc_t7_0, .slice ra_t7_1 t.links.xs.length rc_t7_1, .slice ra_t7_2 t.edges.xs.length rc_t7_2, .slice ra_t7_3 t.pools.xs.length rc_t7_3, iI t.tol] wD28 (fun j v hv => by rw [Nat.zero_add]; exact (S.k 2 rfl).cell hv) ?_
  replace S := S.pk [0] (os' := [tpO 62 T T_l])
  refine ⟨(⟨(Sl.mk ra_t7_0 rc_t7_0 t.devs.xs), (Sl.mk ra_t7_1 rc_t7_1 t.links.xs), (Sl.mk ra_t7_2 rc_t7_2 t.edges.xs), (Sl.mk ra_t7_3 rc_t7_3 t.pools.xs), t.tol⟩ : Topo), rfl, ⟨(S.u 2 rfl), (S.u 3 rfl), (S.u 4 rfl), (S.u 5 rfl), (show inI64 t.tol from ⟨by omega, by omega⟩)⟩, (S.t 0 rfl), S.m.c⟩
 intro hc23
 refine rs S (tr (eqli rfl rfl)<|la (av rfl)) ?_; clear S; intro a u S
 refine cd S rfl ?_ ?_
 ·intro hc24
  refine rs S (tr (fldi 0 2 rfl uT28)<|tr (ldk 7 sC25 rfl rfl rfl)<|tr (leni uT25 rfl)<|la (gtri rfl rfl)) ?_; clear S; intro a u S
  refine cd S rfl ?_ ?_
  ·intro hc25
   obtain ⟨hl84, hu84⟩ : inI64 ((t.edges.xs.getD 0 edgE.dflt).dev) := id (((S.row 4 rfl).wfi 0 (by omega)).2.1)
   obtain ⟨hl85, hu85⟩ : inU32 ((t.edges.xs.getD 0 edgE.dflt).pfx.addr) := id (((S.row 4 rfl).wfi 0 (by omega)).2.2.2.1.1)
   obtain ⟨hl86, hu86⟩ : inI64 ((t.edges.xs.getD 0 edgE.dflt).pfx.bits) := id (((S.row 4 rfl).wfi 0 (by omega)).2.2.2.1.2)
   refine dr (P := Try.prog) S 7 [] [(139, .is _), (140, .is _), (141, .is _), (142, .is _), (143, .is _), (144, .is _), (145, .of (fun z w => ∃ (x145a : Nat), z = .slice (some ⟨x145a, 0, none⟩) 1 1 ∧ (slE edgE).wf (Fr F [one T, one b3, one b4, abk ra_t7_3, abk ra_t7_2, abk ra_t7_1, abk ra_t7_0, one b5]) w.heap (Sl.mk (some ⟨x145a, 0, none⟩) 1 ([(⟨(t.edges.xs.getD 0 edgE.dflt).name, (t.edges.xs.getD 0 edgE.dflt).dev, (t.edges.xs.getD 0 edgE.dflt).zone, (t.edges.xs.getD 0 edgE.dflt).pfx, (decide ((t.edges.xs.getD 0 edgE.dflt).planned = true))⟩ : Edg)]))) (fun v w w' c h => let ⟨x145a, hv, h0⟩ := h; ⟨x145a, hv, Enc.kp (slE edgE) h0 c (fun _ h => by simp at h)⟩))] [[], [139], [], [141], [142], [143], [144]] [140, 145] _ ⟨qd (fldi 0 2 rfl uT28), qd (ldk 7 sC25 rfl rfl rfl), qd (fldi 0 2 rfl uT28), qd (ldk 7 sC25 rfl rfl rfl), qd (ov fun S=>x_idx uT25 sZ71 (S.e rfl) (S.e rfl) 0 rfl (by omega) (row_off (S.row 4 rfl) (m := 0) (by omega))), qd (ov fun S=>x_ldw (S.e rfl) (((S.row 4 rfl).latz (by first | decide | exact Nat.one_pos)).wcell 0 (by omega) _ rfl _ rfl) wD71), ?_, trivial⟩ ?_
   ·skip
    intro a u S G hE
    refine hnb 145 S.m (x_bsl [(0, .agg (edgE.cells (t.edges.xs.getD 0 edgE.dflt)).toArray)] [.string ((t.edges.xs.getD 0 edgE.dflt).name), iI ((t.edges.xs.getD 0 edgE.dflt).dev), .string ((t.edges.xs.getD 0 edgE.dflt).zone), .int .u32 ((t.edges.xs.getD 0 edgE.dflt).pfx.addr), iI ((t.edges.xs.getD 0 edgE.dflt).pfx.bits), bD ((t.edges.xs.getD 0 edgE.dflt).planned = true)] uT25 iZ71 (by decide) (by decide) (by simp only [List.map_cons, List.map_nil, S.e (x := .tmp 144) (v := .agg (edgE.cells (t.edges.xs.getD 0 edgE.dflt)).toArray) rfl]) (by kernel_rfl)) fun g => (show ∃ _, _ from ⟨_, rfl, sl_of_blk (Blk.new _ [.string ((t.edges.xs.getD 0 edgE.dflt).name), iI ((t.edges.xs.getD 0 edgE.dflt).dev), .string ((t.edges.xs.getD 0 edgE.dflt).zone), .int .u32 ((t.edges.xs.getD 0 edgE.dflt).pfx.addr), iI ((t.edges.xs.getD 0 edgE.dflt).pfx.bits), bD ((t.edges.xs.getD 0 edgE.dflt).planned = true)] 71) [(⟨(t.edges.xs.getD 0 edgE.dflt).name, (t.edges.xs.getD 0 edgE.dflt).dev, (t.edges.xs.getD 0 edgE.dflt).zone, (t.edges.xs.getD 0 edgE.dflt).pfx, (decide ((t.edges.xs.getD 0 edgE.dflt).planned = true))⟩ : Edg)] 1 rfl (by decide) (by decide) (by first | rfl | simp [edgE]) (fr_fresh S.m.c S.m.f rfl) ?_⟩)
    intro x hx; simp only [List.mem_cons, List.not_mem_nil, or_false] at hx; rw [hx] <;> first | exact Enc.tr (edgE) (show edgE.wf (Fr F (ow _)) _ (⟨(t.edges.xs.getD 0 edgE.dflt).name, (t.edges.xs.getD 0 edgE.dflt).dev, (t.edges.xs.getD 0 edgE.dflt).zone, (t.edges.xs.getD 0 edgE.dflt).pfx, (decide ((t.edges.xs.getD 0 edgE.dflt).planned = true))⟩ : Edg) from ⟨((S.row 4 rfl).wfi 0 (by omega)).1, ((S.row 4 rfl).wfi 0 (by omega)).2.1, ((S.row 4 rfl).wfi 0 (by omega)).2.2.1, ⟨((S.row 4 rfl).wfi 0 (by omega)).2.2.2.1.1, ((S.row 4 rfl).wfi 0 (by omega)).2.2.2.1.2⟩, trivial⟩) (Tr.of_ch0 S.M g)
   clear S; intro a u S G hE
   obtain ⟨e145, -⟩ := hE
   obtain ⟨x145_87, e145, X87⟩ := e145
   replace S := S.ext e145
   clear e145
   replace S := S.ar (wfF (slE edgE) (Sl.mk (some ⟨x145_87, 0, none⟩) 1 ([(⟨(t.edges.xs.getD 0 edgE.dflt).name, (t.edges.xs.getD 0 edgE.dflt).dev, (t.edges.xs.getD 0 edgE.dflt).zone, (t.edges.xs.getD 0 edgE.dflt).pfx, (decide ((t.edges.xs.getD 0 edgE.dflt).planned = true))⟩ : Edg)]))) X87
   have hn88 : ([(⟨(t.edges.xs.getD 0 edgE.dflt).name, (t.edges.xs.getD 0 edgE.dflt).dev, (t.edges.xs.getD 0 edgE.dflt).zone, (t.edges.xs.getD 0 edgE.dflt).pfx, (decide ((t.edges.xs.getD 0 edgE.dflt).planned = true))⟩ : Edg)]).length ≤ 9223372036854775807 := ((S.u 2 rfl)).1.len
   refine ap (E := edgE) (ys := [(⟨(t.edges.xs.getD 0 edgE.dflt).name, (t.edges.xs.getD 0 edgE.dflt).dev, (t.edges.xs.getD 0 edgE.dflt).zone, (t.edges.xs.getD 0 edgE.dflt).pfx, (decide ((t.edges.xs.getD 0 edgE.dflt).planned = true))⟩ : Edg)]) S 4 rfl uT25 iZ71 rfl rfl (show LAt edgE _ _ (some ⟨x145_87, 0, none⟩) ([(⟨(t.edges.xs.getD 0 edgE.dflt).name, (t.edges.xs.getD 0 edgE.dflt).dev, (t.edges.xs.getD 0 edgE.dflt).zone, (t.edges.xs.getD 0 edgE.dflt).pfx, (decide ((t.edges.xs.getD 0 edgE.dflt).planned = true))⟩ : Edg)]) from ((S.u 2 rfl)).1) ((S.u 2 rfl)).2.2 (LAt.mem (show LAt edgE _ _ (some ⟨x145_87, 0, none⟩) ([(⟨(t.edges.xs.getD 0 edgE.dflt).name, (t.edges.xs.getD 0 edgE.dflt).dev, (t.edges.xs.getD 0 edgE.dflt).zone, (t.edges.xs.getD 0 edgE.dflt).pfx, (decide ((t.edges.xs.getD 0 edgE.dflt).planned = true))⟩ : Edg)]) from ((S.u 2 rfl)).1)) ⟨by unfold maxLen; (try simp only [List.length_cons, List.length_nil, List.length_append, List.length_map]); omega, by (try simp only [List.length_cons, List.length_nil, List.length_append, List.length_map]); omega⟩ ?_; clear S; intro a u ad146 cap146 S
   refine en S (tr (fldi 0 2 rfl uT28)<|la (stk 7 rfl rfl rfl)) ?_; clear S; intro a u S
   refine blk_n (then_n ?_)
   refine rs S (tr (ldkw 7 rfl rfl wD28)<|la (stkw 2 rfl rfl rfl)) ?_; clear S; intro a u S
   refine wp_ret ?_
   replace S := S.fz 6 rfl
   replace S := S.fz 5 rfl
   replace S := S.fz 4 rfl
   replace S := S.fz 3 rfl
   refine retcw rfl S.s rfl [.slice ra_t7_0 t.devs.xs.length rc_t7_0, .slice ra_t7_1 t.links.xs.length rc_t7_1, .slice ad146 ((t.edges.xs ++ [(⟨(t.edges.xs.getD 0 edgE.dflt).name, (t.edges.xs.getD 0 edgE.dflt).dev, (t.edges.xs.getD 0 edgE.dflt).zone, (t.edges.xs.getD 0 edgE.dflt).pfx, (decide ((t.edges.xs.getD 0 edgE.dflt).planned = true))⟩ : Edg)]).length) cap146, .slice ra_t7_3 t.pools.xs.length rc_t7_3, iI t.tol] wD28 (fun j v hv => by rw [Nat.zero_add]; exact (S.k 2 rfl).cell hv) ?_
   replace S := S.pk [0] (os' := [tpO 62 T T_l])
   refine ⟨(⟨(Sl.mk ra_t7_0 rc_t7_0 t.devs.xs), (Sl.mk ra_t7_1 rc_t7_1 t.links.xs), (Sl.mk ad146 cap146 (t.edges.xs ++ [(⟨(t.edges.xs.getD 0 edgE.dflt).name, (t.edges.xs.getD 0 edgE.dflt).dev, (t.edges.xs.getD 0 edgE.dflt).zone, (t.edges.xs.getD 0 edgE.dflt).pfx, (decide ((t.edges.xs.getD 0 edgE.dflt).planned = true))⟩ : Edg)])), (Sl.mk ra_t7_3 rc_t7_3 t.pools.xs), t.tol⟩ : Topo), rfl, ⟨(S.u 3 rfl), (S.u 4 rfl), (S.u 5 rfl), (S.u 6 rfl), (show inI64 t.tol from ⟨by omega, by omega⟩)⟩, (S.t 0 rfl), S.m.c⟩
  intro hc26
  refine wp_skip (blk_n (then_n ?_))
  refine rs S (tr (ldkw 7 rfl rfl wD28)<|la (stkw 2 rfl rfl rfl)) ?_; clear S; intro a u S
  refine wp_ret ?_
  replace S := S.fz 6 rfl
  replace S := S.fz 5 rfl
  replace S := S.fz 4 rfl
  replace S := S.fz 3 rfl
  refine retcw rfl S.s rfl [.slice ra_t7_0 t.devs.xs.length rc_t7_0, .slice ra_t7_1 t.links.xs.length rc_t7_1, .slice ra_t7_2 t.edges.xs.length rc_t7_2, .slice ra_t7_3 t.pools.xs.length rc_t7_3, iI t.tol] wD28 (fun j v hv => by rw [Nat.zero_add]; exact (S.k 2 rfl).cell hv) ?_
  replace S := S.pk [0] (os' := [tpO 62 T T_l])
  refine ⟨(⟨(Sl.mk ra_t7_0 rc_t7_0 t.devs.xs), (Sl.mk ra_t7_1 rc_t7_1 t.links.xs), (Sl.mk ra_t7_2 rc_t7_2 t.edges.xs), (Sl.mk ra_t7_3 rc_t7_3 t.pools.xs), t.tol⟩ : Topo), rfl, ⟨(S.u 2 rfl), (S.u 3 rfl), (S.u 4 rfl), (S.u 5 rfl), (show inI64 t.tol from ⟨by omega, by omega⟩)⟩, (S.t 0 rfl), S.m.c⟩
 intro hc27
 refine rs S (tr (eqli rfl rfl)<|la (av rfl)) ?_; clear S; intro a u S
 refine cd S rfl ?_ ?_
 ·intro hc28
  refine rs S (tr (fldi 0 2 rfl uT28)<|tr (ldk 7 sC25 rfl rfl rfl)<|tr (leni uT25 rfl)<|la (gtri rfl rfl)) ?_; clear S; intro a u S
  refine cd S rfl ?_ ?_
  ·intro hc29
   refine dr (P := Try.prog) S 9 [one T] [(154, .is _), (155, .is _), (156, .of (fun z w => ∃ (x156a : Nat), z = .slice (some ⟨x156a, 0, none⟩) 3 3 ∧ (slE strE).wf (Fr F [one T, one b3, one b4, abk ra_t7_3, abk ra_t7_2, abk ra_t7_1, abk ra_t7_0, one b5]) w.heap (Sl.mk (some ⟨x156a, 0, none⟩) 3 ([⟨#[]⟩, ⟨#[97, 110, 121]⟩, ⟨#[100, 109, 122]⟩] : List ByteArray))) (fun v w w' c h => let ⟨x156a, hv, h0⟩ := h; ⟨x156a, hv, Enc.kp (slE strE) h0 c (by intro o h; simp at h ⊢; first | exact .inl h | simp [h])⟩)), (157, .is _), (158, .of (fun z w => ∃ (x158a : Int), z = iI x158a ∧ (0 ≤ x158a ∧ (x158a < 3 ∨ x158a = 0))) (fun v w w' c h => let ⟨x158a, hv, h0⟩ := h; ⟨x158a, hv, h0⟩)), (159, .of (fun z w => ∃ (x156a : Nat) (x158b : Int), z = pT (blk (some ⟨x156a, 0, none⟩)) (off (some ⟨x156a, 0, none⟩) + (x158b).toNat * 1) ∧ (slE strE).wf (Fr F [one T, one b3, one b4, abk ra_t7_3, abk ra_t7_2, abk ra_t7_1, abk ra_t7_0, one b5]) w.heap (Sl.mk (some ⟨x156a, 0, none⟩) 3 ([⟨#[]⟩, ⟨#[97, 110, 121]⟩, ⟨#[100, 109, 122]⟩] : List ByteArray)) ∧ (0 ≤ x158b ∧ (x158b < 3 ∨ x158b = 0))) (fun v w w' c h => let ⟨x156a, x158b, hv, h0, h1⟩ := h; ⟨x156a, x158b, hv, Enc.kp (slE strE) h0 c (by intro o h; simp at h ⊢; first | exact .inl h | simp [h]), h1⟩)), (160, .of (fun z w => ∃ (x156a : Nat) (x158b : Int), z = .string (([⟨#[]⟩, ⟨#[97, 110, 121]⟩, ⟨#[100, 109, 122]⟩] : List ByteArray).getD ((x158b).toNat) strE.dflt) ∧ (slE strE).wf (Fr F [one T, one b3, one b4, abk ra_t7_3, abk ra_t7_2, abk ra_t7_1, abk ra_t7_0, one b5]) w.heap (Sl.mk (some ⟨x156a, 0, none⟩) 3 ([⟨#[]⟩, ⟨#[97, 110, 121]⟩, ⟨#[100, 109, 122]⟩] : List ByteArray)) ∧ (0 ≤ x158b ∧ (x158b < 3 ∨ x158b = 0))) (fun v w w' c h => let ⟨x156a, x158b, hv, h0, h1⟩ := h; ⟨x156a, x158b, hv, Enc.kp (slE strE) h0 c (by intro o h; simp at h ⊢; first | exact .inl h | simp [h]), h1⟩)), (161, .is _), (162, .is _)] [[], [154], [], [], [157], [156, 158], [159], [155], [161]] [160, 162] _ ⟨qd (fldi 0 2 rfl uT28), qd (ldk 7 sC25 rfl rfl rfl), ?_, qd (mv rfl), ?_, ?_, ?_, qd (ov fun S=>x_idx uT25 sZ71 (S.e rfl) (S.e rfl) 0 rfl (by omega) (row_off (S.row 4 rfl) (m := 0) (by omega))), qd (fldi (0 + 0 * 6) 2 rfl uT71), trivial⟩ ?_
   ·skip
    intro a u S G hE
    refine hnb 156 S.m (x_bsl [(0, .string (⟨#[]⟩)), (1, .string (⟨#[97, 110, 121]⟩)), (2, .string (⟨#[100, 109, 122]⟩))] [.string (⟨#[]⟩), .string (⟨#[97, 110, 121]⟩), .string (⟨#[100, 109, 122]⟩)] uT63 iZ9 (by decide) (by decide) (by simp only [List.map_cons, List.map_nil, S.e (x := .const (.string (⟨#[]⟩))) (v := .string (⟨#[]⟩)) rfl, S.e (x := .const (.string (⟨#[97, 110, 121]⟩))) (v := .string (⟨#[97, 110, 121]⟩)) rfl, S.e (x := .const (.string (⟨#[100, 109, 122]⟩))) (v := .string (⟨#[100, 109, 122]⟩)) rfl]) (by kernel_rfl)) fun g => (show ∃ _, _ from ⟨_, rfl, sl_of_blk (Blk.new _ [.string (⟨#[]⟩), .string (⟨#[97, 110, 121]⟩), .string (⟨#[100, 109, 122]⟩)] 9) ([⟨#[]⟩, ⟨#[97, 110, 121]⟩, ⟨#[100, 109, 122]⟩] : List ByteArray) 3 rfl (by decide) (by decide) rfl (fr_fresh S.m.c S.m.f rfl) ?_⟩)
    intro x hx; simp only [List.mem_cons, List.not_mem_nil, or_false] at hx; rcases hx with hx | hx | hx <;> rw [hx] <;> first | exact Enc.tr (strE) (show strE.wf (Fr F (ow _)) _ (⟨#[]⟩) from (show (⟨#[]⟩ : ByteArray).size ≤ maxLen from by unfold maxLen; decide)) (Tr.of_ch0 S.M g) | exact Enc.tr (strE) (show strE.wf (Fr F (ow _)) _ (⟨#[97, 110, 121]⟩) from (show (⟨#[97, 110, 121]⟩ : ByteArray).size ≤ maxLen from by unfold maxLen; decide)) (Tr.of_ch0 S.M g) | exact Enc.tr (strE) (show strE.wf (Fr F (ow _)) _ (⟨#[100, 109, 122]⟩) from (show (⟨#[100, 109, 122]⟩ : ByteArray).size ≤ maxLen from by unfold maxLen; decide)) (Tr.of_ch0 S.M g)
   ·skip
    intro a u S G hE
    refine hcl S (gNext _ _ S.x T (S.M.pick [0] (by decide)) T_l (dn1 (js := [0]) (S.u 0 rfl)) (S.t 0 rfl) 3 ⟨by omega, by omega⟩) cB23 ?_
    rintro e w2 ⟨r_h158, rfl, hr_h158, tK, T0⟩; refine ⟨_, rfl, (show ∃ _, _ from ?_), T0.ch, (S.k1 0 rfl S.s T0 tK).m⟩
    exact ⟨r_h158, rfl, hr_h158⟩
   ·skip
    intro a u S G hE
    obtain ⟨e156, e158, -⟩ := hE
    have M0 := S.m
    obtain ⟨x156_93, e156, X93⟩ := e156
    replace S := S.ext e156
    obtain ⟨x158_94, e158, hr94⟩ := e158
    replace S := S.ext e158
    exact hvl 159 S M0 (v := pT (blk (some ⟨x156_93, 0, none⟩)) (off (some ⟨x156_93, 0, none⟩) + (x158_94).toNat * 1)) (x_idx uT63 sZ9 (S.e rfl) (S.e rfl) (x158_94).toNat (by omega) (by first | omega | (simp only [List.length_cons, List.length_nil]; omega)) ((show LAt strE _ _ (some ⟨x156_93, 0, none⟩) ([⟨#[]⟩, ⟨#[97, 110, 121]⟩, ⟨#[100, 109, 122]⟩] : List ByteArray) from (X93).1).adr (i := (x158_94).toNat) (by first | omega | (simp only [List.length_cons, List.length_nil]; omega)))) (show ∃ _, _ from ⟨x156_93, x158_94, rfl, X93, hr94⟩)
   ·skip
    intro a u S G hE
    obtain ⟨e159, -⟩ := hE
    have M0 := S.m
    obtain ⟨x156_95, x158_96, e159, X95, hr96⟩ := e159
    replace S := S.ext e159
    exact hvl 160 S M0 (v := .string (([⟨#[]⟩, ⟨#[97, 110, 121]⟩, ⟨#[100, 109, 122]⟩] : List ByteArray).getD ((x158_96).toNat) strE.dflt)) (x_load sC9 (S.e rfl) ((show LAt strE _ _ (some ⟨x156_95, 0, none⟩) ([⟨#[]⟩, ⟨#[97, 110, 121]⟩, ⟨#[100, 109, 122]⟩] : List ByteArray) from (X95).1).cell (x158_96).toNat (by first | omega | (simp only [List.length_cons, List.length_nil]; omega)) 0 _ rfl)) (show ∃ _, _ from ⟨x156_95, x158_96, rfl, X95, hr96⟩)
   clear S; intro a u S G hE
   obtain ⟨e160, -⟩ := hE
   obtain ⟨x156_97, x158_98, e160, X97, hr98⟩ := e160
   replace S := S.ext e160
   clear e160
   replace S := S.ar (wfF (slE strE) (Sl.mk (some ⟨x156_97, 0, none⟩) 3 ([⟨#[]⟩, ⟨#[97, 110, 121]⟩, ⟨#[100, 109, 122]⟩] : List ByteArray))) X97
   refine sp S (la (str (E := edgE) 4 (by kernel_rfl) rfl rfl rfl 0 2 (by omega) (by first | decide | exact Nat.one_pos) (⟨(t.edges.xs.getD 0 edgE.dflt).name, (t.edges.xs.getD 0 edgE.dflt).dev, (([⟨#[]⟩, ⟨#[97, 110, 121]⟩, ⟨#[100, 109, 122]⟩] : List ByteArray).getD ((x158_98).toNat) strE.dflt), (t.edges.xs.getD 0 edgE.dflt).pfx, (decide ((t.edges.xs.getD 0 edgE.dflt).planned = true))⟩ : Edg) (fun S=>⟨((S.row 4 rfl).wfi 0 (by omega)).1, ((S.row 4 rfl).wfi 0 (by omega)).2.1, ((show LAt strE _ _ (some ⟨x156_97, 0, none⟩) ([⟨#[]⟩, ⟨#[97, 110, 121]⟩, ⟨#[100, 109, 122]⟩] : List ByteArray) from ((S.u 2 rfl)).1).wf (x158_98).toNat (by first | omega | (simp only [List.length_cons, List.length_nil]; omega))), ⟨((S.row 4 rfl).wfi 0 (by omega)).2.2.2.1.1, ((S.row 4 rfl).wfi 0 (by omega)).2.2.2.1.2⟩, trivial⟩) (by first | rfl | simp [edgE]) (by first | rfl | (show _ = _ * 1 + 0; omega) | (simp [edgE]; omega) | simp [edgE]) rfl)) ?_; clear S; intro a u S
   have hls99 : (t.edges.xs.set 0 (⟨(t.edges.xs.getD 0 edgE.dflt).name, (t.edges.xs.getD 0 edgE.dflt).dev, (([⟨#[]⟩, ⟨#[97, 110, 121]⟩, ⟨#[100, 109, 122]⟩] : List ByteArray).getD ((x158_98).toNat) strE.dflt), (t.edges.xs.getD 0 edgE.dflt).pfx, (decide ((t.edges.xs.getD 0 edgE.dflt).planned = true))⟩ : Edg)).length = t.edges.xs.length := by simp
   refine nn (blk_n (then_n ?_))
   refine rs S (tr (ldkw 7 rfl rfl wD28)<|la (stkw 2 rfl rfl rfl)) ?_; clear S; intro a u S
   refine wp_ret ?_
   replace S := S.fz 6 rfl
   replace S := S.fz 5 rfl
   replace S := S.fz 4 rfl
   replace S := S.fz 3 rfl
   refine retcw rfl S.s rfl [.slice ra_t7_0 t.devs.xs.length rc_t7_0, .slice ra_t7_1 t.links.xs.length rc_t7_1, .slice ra_t7_2 t.edges.xs.length rc_t7_2, .slice ra_t7_3 t.pools.xs.length rc_t7_3, iI t.tol] wD28 (fun j v hv => by rw [Nat.zero_add]; exact (S.k 2 rfl).cell hv) ?_
   replace S := S.pk [0] (os' := [tpO 62 T T_l])
   refine ⟨(⟨(Sl.mk ra_t7_0 rc_t7_0 t.devs.xs), (Sl.mk ra_t7_1 rc_t7_1 t.links.xs), (Sl.mk ra_t7_2 rc_t7_2 (t.edges.xs.set 0 (⟨(t.edges.xs.getD 0 edgE.dflt).name, (t.edges.xs.getD 0 edgE.dflt).dev, (([⟨#[]⟩, ⟨#[97, 110, 121]⟩, ⟨#[100, 109, 122]⟩] : List ByteArray).getD ((x158_98).toNat) strE.dflt), (t.edges.xs.getD 0 edgE.dflt).pfx, (decide ((t.edges.xs.getD 0 edgE.dflt).planned = true))⟩ : Edg))), (Sl.mk ra_t7_3 rc_t7_3 t.pools.xs), t.tol⟩ : Topo), (r1 (by simp [topoE])), ⟨(S.u 3 rfl), (S.u 4 rfl), (S.u 5 rfl), (S.u 6 rfl), (show inI64 t.tol from ⟨by omega, by omega⟩)⟩, (S.t 0 rfl), S.m.c⟩
  intro hc30
  refine wp_skip (blk_n (then_n ?_))
  refine rs S (tr (ldkw 7 rfl rfl wD28)<|la (stkw 2 rfl rfl rfl)) ?_; clear S; intro a u S
  refine wp_ret ?_
  replace S := S.fz 6 rfl
  replace S := S.fz 5 rfl
  replace S := S.fz 4 rfl
  replace S := S.fz 3 rfl
  refine retcw rfl S.s rfl [.slice ra_t7_0 t.devs.xs.length rc_t7_0, .slice ra_t7_1 t.links.xs.length rc_t7_1, .slice ra_t7_2 t.edges.xs.length rc_t7_2, .slice ra_t7_3 t.pools.xs.length rc_t7_3, iI t.tol] wD28 (fun j v hv => by rw [Nat.zero_add]; exact (S.k 2 rfl).cell hv) ?_
  replace S := S.pk [0] (os' := [tpO 62 T T_l])
  refine ⟨(⟨(Sl.mk ra_t7_0 rc_t7_0 t.devs.xs), (Sl.mk ra_t7_1 rc_t7_1 t.links.xs), (Sl.mk ra_t7_2 rc_t7_2 t.edges.xs), (Sl.mk ra_t7_3 rc_t7_3 t.pools.xs), t.tol⟩ : Topo), rfl, ⟨(S.u 2 rfl), (S.u 3 rfl), (S.u 4 rfl), (S.u 5 rfl), (show inI64 t.tol from ⟨by omega, by omega⟩)⟩, (S.t 0 rfl), S.m.c⟩
 intro hc31
 refine rs S (tr (eqli rfl rfl)<|la (av rfl)) ?_; clear S; intro a u S
 refine cd S rfl ?_ ?_
 ·intro hc32
  refine dr (P := Try.prog) S 5 [one T] [(165, .is _), (166, .is _), (167, .is _), (168, .of (fun z w => ∃ (x168a : Pfx), z = .agg (pfxE.cells x168a).toArray ∧ (pfxE).wf (Fr F [one T, one b3, one b4, abk ra_t7_3, abk ra_t7_2, abk ra_t7_1, abk ra_t7_0, one b5]) w.heap x168a) (fun v w w' c h => let ⟨x168a, hv, h0⟩ := h; ⟨x168a, hv, Enc.kp (pfxE) h0 c (by intro o h; simp at h ⊢; first | exact .inl h | simp [h])⟩)), (169, .of (fun z w => ∃ (x169a : Nat) (x168b : Pfx), z = .slice (some ⟨x169a, 0, none⟩) 1 1 ∧ (slE pfxE).wf (Fr F [one T, one b3, one b4, abk ra_t7_3, abk ra_t7_2, abk ra_t7_1, abk ra_t7_0, one b5]) w.heap (Sl.mk (some ⟨x169a, 0, none⟩) 1 ([x168b])) ∧ (pfxE).wf (Fr F [one T, one b3, one b4, abk ra_t7_3, abk ra_t7_2, abk ra_t7_1, abk ra_t7_0, one b5]) w.heap x168b) (fun v w w' c h => let ⟨x169a, x168b, hv, h0, h1⟩ := h; ⟨x169a, x168b, hv, Enc.kp (slE pfxE) h0 c (by intro o h; simp at h ⊢; first | exact .inl h | simp [h]), Enc.kp (pfxE) h1 c (by intro o h; simp at h ⊢; first | exact .inl h | simp [h])⟩))] [[], [165], [], [167], [168]] [166, 169] _ ⟨qd (fldi 0 3 rfl uT28), qd (ldk 7 sC26 rfl rfl rfl), qd (mv rfl), ?_, ?_, trivial⟩ ?_
  ·skip
   intro a u S G hE
   refine hcl S (gPrefix _ _ S.x T (S.M.pick [0] (by decide)) T_l (dn1 (js := [0]) (S.u 0 rfl)) (S.t 0 rfl)) cB49 ?_
   rintro e w2 ⟨r_h168, rfl, R_h168, tK, T0⟩; refine ⟨_, rfl, (show ∃ _, _ from ?_), T0.ch, (S.k1 0 rfl S.s T0 tK).m⟩
   exact ⟨r_h168, rfl, (Enc.up _ R_h168)⟩
  ·skip
   intro a u S G hE
   obtain ⟨e168, -⟩ := hE
   have M0 := S.m
   obtain ⟨x168_103, e168, X103⟩ := e168
   replace S := S.ext e168
   refine hnb 169 M0 (x_bsl [(0, .agg (pfxE.cells x168_103).toArray)] [.int .u32 x168_103.addr, iI x168_103.bits] uT26 iZ68 (by decide) (by decide) (by simp only [List.map_cons, List.map_nil, S.e (x := .tmp 168) (v := .agg (pfxE.cells x168_103).toArray) rfl]) (by kernel_rfl)) fun g => (show ∃ _, _ from ⟨_, x168_103, rfl, sl_of_blk (Blk.new _ [.int .u32 x168_103.addr, iI x168_103.bits] 68) [x168_103] 1 rfl (by decide) (by decide) rfl (fr_fresh S.m.c S.m.f rfl) ?_, Enc.tr (pfxE) X103 (Tr.of_ch0 S.M g)⟩)
   intro x hx; simp only [List.mem_cons, List.not_mem_nil, or_false] at hx; rw [hx] <;> first | exact Enc.tr (pfxE) (show pfxE.wf (Fr F (ow _)) _ x168_103 from ⟨X103.1, X103.2⟩) (Tr.of_ch0 S.M g)
  clear S; intro a u S G hE
  obtain ⟨e169, -⟩ := hE
  obtain ⟨x169_104, x168_105, e169, X104, X105⟩ := e169
  replace S := S.ext e169
  clear e169
  replace S := S.ar (wfF (slE pfxE) (Sl.mk (some ⟨x169_104, 0, none⟩) 1 ([x168_105]))) X104
  replace S := S.ar (wfF pfxE x168_105) X105
  have hn106 : ([x168_105]).length ≤ 9223372036854775807 := ((S.u 2 rfl)).1.len
  refine ap (E := pfxE) (ys := [x168_105]) S 3 rfl uT26 iZ68 rfl rfl (show LAt pfxE _ _ (some ⟨x169_104, 0, none⟩) ([x168_105]) from ((S.u 2 rfl)).1) ((S.u 2 rfl)).2.2 (LAt.mem (show LAt pfxE _ _ (some ⟨x169_104, 0, none⟩) ([x168_105]) from ((S.u 2 rfl)).1)) ⟨by unfold maxLen; (try simp only [List.length_cons, List.length_nil, List.length_append, List.length_map]); omega, by (try simp only [List.length_cons, List.length_nil, List.length_append, List.length_map]); omega⟩ ?_; clear S; intro a u ad170 cap170 S
  refine en S (tr (fldi 0 3 rfl uT28)<|la (stk 7 rfl rfl rfl)) ?_; clear S; intro a u S
  refine blk_n (then_n ?_)
  refine rs S (tr (ldkw 7 rfl rfl wD28)<|la (stkw 2 rfl rfl rfl)) ?_; clear S; intro a u S
  refine wp_ret ?_
  replace S := S.fz 6 rfl
  replace S := S.fz 5 rfl
  replace S := S.fz 4 rfl
  replace S := S.fz 3 rfl
  refine retcw rfl S.s rfl [.slice ra_t7_0 t.devs.xs.length rc_t7_0, .slice ra_t7_1 t.links.xs.length rc_t7_1, .slice ra_t7_2 t.edges.xs.length rc_t7_2, .slice ad170 ((t.pools.xs ++ [x168_105]).length) cap170, iI t.tol] wD28 (fun j v hv => by rw [Nat.zero_add]; exact (S.k 2 rfl).cell hv) ?_
  replace S := S.pk [0] (os' := [tpO 62 T T_l])
  refine ⟨(⟨(Sl.mk ra_t7_0 rc_t7_0 t.devs.xs), (Sl.mk ra_t7_1 rc_t7_1 t.links.xs), (Sl.mk ra_t7_2 rc_t7_2 t.edges.xs), (Sl.mk ad170 cap170 (t.pools.xs ++ [x168_105])), t.tol⟩ : Topo), rfl, ⟨(S.u 4 rfl), (S.u 5 rfl), (S.u 6 rfl), (S.u 7 rfl), (show inI64 t.tol from ⟨by omega, by omega⟩)⟩, (S.t 0 rfl), S.m.c⟩
 intro hc33
 refine rs S (tr (eqli rfl rfl)<|la (av rfl)) ?_; clear S; intro a u S
 refine cd S rfl ?_ ?_
 ·intro hc34
  refine r0 ?_
  refine nbs intE S [3, (-1), 2] (x_bs S [(0, iI 3), (1, iI (-1)), (2, iI 2)] uT22 iZ3) (fun x hx => by simp only [List.mem_cons, List.not_mem_nil, or_false] at hx; rcases hx with hx | hx | hx <;> rw [hx] <;> first | exact (show intE.wf _ _ 3 from (show inI64 3 from ⟨by omega, by omega⟩)) | exact (show intE.wf _ _ (-1) from (show inI64 (-1) from ⟨by omega, by omega⟩)) | exact (show intE.wf _ _ 2 from (show inI64 2 from ⟨by omega, by omega⟩))) ?_; clear S; intro a u b174 S
  refine sp S (la (mv rfl)) ?_; clear S; intro a u S
  refine cl S (gNext _ _ S.x T (S.M.pick [0] (by decide)) T_l (dn1 (js := [0]) (S.u 0 rfl)) (S.t 0 rfl) 3 ⟨by omega, by omega⟩) cB23 ?_
  rintro e u ⟨r_t176, rfl, hr_t176, tK, T0⟩; refine ⟨_, rfl, fun a s => ?_⟩
  replace S := S.k1 0 rfl s T0 tK; clear s T0 tK
  obtain ⟨hl110, hu110⟩ : inI64 (([3, (-1), 2]).getD ((r_t176).toNat) intE.dflt) := id ((show LAt intE _ _ (some ⟨b174, 0, none⟩) ([3, (-1), 2]) from ((S.u 2 rfl)).1).wf (r_t176).toNat (by first | omega | (simp only [List.length_cons, List.length_nil]; omega)))
  refine en S (tr (idxi uT22 sZ3 rfl rfl (r_t176).toNat (by omega) (by first | omega | (simp only [List.length_cons, List.length_nil]; omega)) ((show LAt intE _ _ (some ⟨b174, 0, none⟩) ([3, (-1), 2]) from ((S.u 2 rfl)).1).adr (i := (r_t176).toNat) (by first | omega | (simp only [List.length_cons, List.length_nil]; omega))))<|tr (ov fun S=>x_load sC3 (S.e rfl) ((show LAt intE _ _ (some ⟨b174, 0, none⟩) ([3, (-1), 2]) from ((S.u 2 rfl)).1).cell (r_t176).toNat (by first | omega | (simp only [List.length_cons, List.length_nil]; omega)) 0 _ rfl))<|tr (fldi 0 4 rfl uT28)<|la (stk 7 rfl rfl rfl)) ?_; clear S; intro a u S
  refine blk_n (then_n ?_)
  refine rs S (tr (ldkw 7 rfl rfl wD28)<|la (stkw 2 rfl rfl rfl)) ?_; clear S; intro a u S
  refine wp_ret ?_
  replace S := S.fz 6 rfl
  replace S := S.fz 5 rfl
  replace S := S.fz 4 rfl
  replace S := S.fz 3 rfl
  refine retcw rfl S.s rfl [.slice ra_t7_0 t.devs.xs.length rc_t7_0, .slice ra_t7_1 t.links.xs.length rc_t7_1, .slice ra_t7_2 t.edges.xs.length rc_t7_2, .slice ra_t7_3 t.pools.xs.length rc_t7_3, iI (([3, (-1), 2]).getD ((r_t176).toNat) intE.dflt)] wD28 (fun j v hv => by rw [Nat.zero_add]; exact (S.k 2 rfl).cell hv) ?_
  replace S := S.pk [0] (os' := [tpO 62 T T_l])
  refine ⟨(⟨(Sl.mk ra_t7_0 rc_t7_0 t.devs.xs), (Sl.mk ra_t7_1 rc_t7_1 t.links.xs), (Sl.mk ra_t7_2 rc_t7_2 t.edges.xs), (Sl.mk ra_t7_3 rc_t7_3 t.pools.xs), (([3, (-1), 2]).getD ((r_t176).toNat) intE.dflt)⟩ : Topo), rfl, ⟨(S.u 3 rfl), (S.u 4 rfl), (S.u 5 rfl), (S.u 6 rfl), ((show LAt intE _ _ (some ⟨b174, 0, none⟩) ([3, (-1), 2]) from ((S.u 2 rfl)).1).wf (r_t176).toNat (by first | omega | (simp only [List.length_cons, List.length_nil]; omega)))⟩, (S.t 0 rfl), S.m.c⟩
 intro hc35
 refine rs S (tr (eqli rfl rfl)<|la (av rfl)) ?_; clear S; intro a u S
 refine cd S rfl ?_ ?_
 ·intro hc36
  refine rs S (tr (fldi 0 0 rfl uT28)<|tr (ldk 7 sC23 rfl rfl rfl)<|tr (leni uT23 rfl)<|la (gtri rfl rfl)) ?_; clear S; intro a u S
  refine cd S rfl ?_ ?_
  ·intro hc37
   refine r0 ?_
   refine sp S (tr (fldi 0 0 rfl uT28)<|la (ldk 7 sC23 rfl rfl rfl)) ?_; clear S; intro a u S
   replace S := S.fz 6 rfl
   have hk115 : (slFrom devE (Sl.mk ra_t7_0 rc_t7_0 t.devs.xs) 1).xs.length = t.devs.xs.length - 1 := List.length_drop
   refine en S (tr (ov (v := sV (slFrom devE (Sl.mk ra_t7_0 rc_t7_0 t.devs.xs) 1)) fun S=>x_slfrom devE (s := (Sl.mk ra_t7_0 rc_t7_0 t.devs.xs)) uT23 iZ65 (S.e rfl) (S.e rfl) 1 rfl (by dsimp only; omega))<|tr (fldi 0 0 rfl uT28)<|la (stk 7 rfl rfl rfl)) ?_; clear S; intro a u S
   refine blk_n (then_n ?_)
   refine rs S (tr (ldkw 7 rfl rfl wD28)<|la (stkw 2 rfl rfl rfl)) ?_; clear S; intro a u S
   refine wp_ret ?_
   replace S := S.fz 5 rfl
   replace S := S.fz 4 rfl
   replace S := S.fz 3 rfl
   refine retcw rfl S.s rfl [sV (slFrom devE (Sl.mk ra_t7_0 rc_t7_0 t.devs.xs) 1), .slice ra_t7_1 t.links.xs.length rc_t7_1, .slice ra_t7_2 t.edges.xs.length rc_t7_2, .slice ra_t7_3 t.pools.xs.length rc_t7_3, iI t.tol] wD28 (fun j v hv => by rw [Nat.zero_add]; exact (S.k 2 rfl).cell hv) ?_
   replace S := S.pk [0] (os' := [tpO 62 T T_l])
   refine ⟨(⟨(slFrom devE (Sl.mk ra_t7_0 rc_t7_0 t.devs.xs) 1), (Sl.mk ra_t7_1 rc_t7_1 t.links.xs), (Sl.mk ra_t7_2 rc_t7_2 t.edges.xs), (Sl.mk ra_t7_3 rc_t7_3 t.pools.xs), t.tol⟩ : Topo), rfl, ⟨(sl_from (E := devE) (S.u 2 rfl) 1 (by dsimp only; omega)), (S.u 3 rfl), (S.u 4 rfl), (S.u 5 rfl), (show inI64 t.tol from ⟨by omega, by omega⟩)⟩, (S.t 0 rfl), S.m.c⟩
  intro hc38
  refine wp_skip (blk_n (then_n ?_))
  refine rs S (tr (ldkw 7 rfl rfl wD28)<|la (stkw 2 rfl rfl rfl)) ?_; clear S; intro a u S
  refine wp_ret ?_
  replace S := S.fz 6 rfl
  replace S := S.fz 5 rfl
  replace S := S.fz 4 rfl
  replace S := S.fz 3 rfl
  refine retcw rfl S.s rfl [.slice ra_t7_0 t.devs.xs.length rc_t7_0, .slice ra_t7_1 t.links.xs.length rc_t7_1, .slice ra_t7_2 t.edges.xs.length rc_t7_2, .slice ra_t7_3 t.pools.xs.length rc_t7_3, iI t.tol] wD28 (fun j v hv => by rw [Nat.zero_add]; exact (S.k 2 rfl).cell hv) ?_
  replace S := S.pk [0] (os' := [tpO 62 T T_l])
  refine ⟨(⟨(Sl.mk ra_t7_0 rc_t7_0 t.devs.xs), (Sl.mk ra_t7_1 rc_t7_1 t.links.xs), (Sl.mk ra_t7_2 rc_t7_2 t.edges.xs), (Sl.mk ra_t7_3 rc_t7_3 t.pools.xs), t.tol⟩ : Topo), rfl, ⟨(S.u 2 rfl), (S.u 3 rfl), (S.u 4 rfl), (S.u 5 rfl), (show inI64 t.tol from ⟨by omega, by omega⟩)⟩, (S.t 0 rfl), S.m.c⟩
 intro hc39
 refine rs S (tr (eqli rfl rfl)<|la (av rfl)) ?_; clear S; intro a u S
 refine cd S rfl ?_ ?_
 ·intro hc40
  refine rs S (tr (fldi 0 0 rfl uT28)<|tr (ldk 7 sC23 rfl rfl rfl)<|tr (leni uT23 rfl)<|la (gtri rfl rfl)) ?_; clear S; intro a u S
  refine cd S rfl ?_ ?_
  ·intro hc41
   refine dr (P := Try.prog) S 9 [one T] [(196, .is _), (197, .is _), (198, .of (fun z w => ∃ (x198a : Nat), z = .slice (some ⟨x198a, 0, none⟩) 3 3 ∧ (slE intE).wf (Fr F [one T, one b3, one b4, abk ra_t7_3, abk ra_t7_2, abk ra_t7_1, abk ra_t7_0, one b5]) w.heap (Sl.mk (some ⟨x198a, 0, none⟩) 3 ([4097, (-1), 7]))) (fun v w w' c h => let ⟨x198a, hv, h0⟩ := h; ⟨x198a, hv, Enc.kp (slE intE) h0 c (by intro o h; simp at h ⊢; first | exact .inl h | simp [h])⟩)), (199, .is _), (200, .of (fun z w => ∃ (x200a : Int), z = iI x200a ∧ (0 ≤ x200a ∧ (x200a < 3 ∨ x200a = 0))) (fun v w w' c h => let ⟨x200a, hv, h0⟩ := h; ⟨x200a, hv, h0⟩)), (201, .of (fun z w => ∃ (x198a : Nat) (x200b : Int), z = pT (blk (some ⟨x198a, 0, none⟩)) (off (some ⟨x198a, 0, none⟩) + (x200b).toNat * 1) ∧ (slE intE).wf (Fr F [one T, one b3, one b4, abk ra_t7_3, abk ra_t7_2, abk ra_t7_1, abk ra_t7_0, one b5]) w.heap (Sl.mk (some ⟨x198a, 0, none⟩) 3 ([4097, (-1), 7])) ∧ (0 ≤ x200b ∧ (x200b < 3 ∨ x200b = 0))) (fun v w w' c h => let ⟨x198a, x200b, hv, h0, h1⟩ := h; ⟨x198a, x200b, hv, Enc.kp (slE intE) h0 c (by intro o h; simp at h ⊢; first | exact .inl h | simp [h]), h1⟩)), (202, .of (fun z w => ∃ (x198a : Nat) (x200b : Int), z = iI (([4097, (-1), 7]).getD ((x200b).toNat) intE.dflt) ∧ (slE intE).wf (Fr F [one T, one b3, one b4, abk ra_t7_3, abk ra_t7_2, abk ra_t7_1, abk ra_t7_0, one b5]) w.heap (Sl.mk (some ⟨x198a, 0, none⟩) 3 ([4097, (-1), 7])) ∧ (0 ≤ x200b ∧ (x200b < 3 ∨ x200b = 0))) (fun v w w' c h => let ⟨x198a, x200b, hv, h0, h1⟩ := h; ⟨x198a, x200b, hv, Enc.kp (slE intE) h0 c (by intro o h; simp at h ⊢; first | exact .inl h | simp [h]), h1⟩)), (203, .is _), (204, .is _)] [[], [196], [], [], [199], [198, 200], [201], [197], [203]] [202, 204] _ ⟨qd (fldi 0 0 rfl uT28), qd (ldk 7 sC23 rfl rfl rfl), ?_, qd (mv rfl), ?_, ?_, ?_, qd (ov fun S=>x_idx uT23 sZ65 (S.e rfl) (S.e rfl) 0 rfl (by omega) (row_off (S.row 6 rfl) (m := 0) (by omega))), qd (fldi (0 + 0 * 5) 1 rfl uT65), trivial⟩ ?_
   ·skip
    intro a u S G hE
    refine hnb 198 S.m (x_bsl [(0, iI 4097), (1, iI (-1)), (2, iI 7)] [iI 4097, iI (-1), iI 7] uT22 iZ3 (by decide) (by decide) (by simp only [List.map_cons, List.map_nil, S.e (x := .const (iI 4097)) (v := iI 4097) rfl, S.e (x := .const (iI (-1))) (v := iI (-1)) rfl, S.e (x := .const (iI 7)) (v := iI 7) rfl]) (by kernel_rfl)) fun g => (show ∃ _, _ from ⟨_, rfl, sl_of_blk (Blk.new _ [iI 4097, iI (-1), iI 7] 3) [4097, (-1), 7] 3 rfl (by decide) (by decide) rfl (fr_fresh S.m.c S.m.f rfl) ?_⟩)
    intro x hx; simp only [List.mem_cons, List.not_mem_nil, or_false] at hx; rcases hx with hx | hx | hx <;> rw [hx] <;> first | exact Enc.tr (intE) (show intE.wf (Fr F (ow _)) _ 4097 from (show inI64 4097 from ⟨by omega, by omega⟩)) (Tr.of_ch0 S.M g) | exact Enc.tr (intE) (show intE.wf (Fr F (ow _)) _ (-1) from (show inI64 (-1) from ⟨by omega, by omega⟩)) (Tr.of_ch0 S.M g) | exact Enc.tr (intE) (show intE.wf (Fr F (ow _)) _ 7 from (show inI64 7 from ⟨by omega, by omega⟩)) (Tr.of_ch0 S.M g)
   ·skip
    intro a u S G hE
    refine hcl S (gNext _ _ S.x T (S.M.pick [0] (by decide)) T_l (dn1 (js := [0]) (S.u 0 rfl)) (S.t 0 rfl) 3 ⟨by omega, by omega⟩) cB23 ?_
    rintro e w2 ⟨r_h200, rfl, hr_h200, tK, T0⟩; refine ⟨_, rfl, (show ∃ _, _ from ?_), T0.ch, (S.k1 0 rfl S.s T0 tK).m⟩
    exact ⟨r_h200, rfl, hr_h200⟩
   ·skip
    intro a u S G hE
    obtain ⟨e198, e200, -⟩ := hE
    have M0 := S.m
    obtain ⟨x198_120, e198, X120⟩ := e198
    replace S := S.ext e198
    obtain ⟨x200_121, e200, hr121⟩ := e200
    replace S := S.ext e200
    exact hvl 201 S M0 (v := pT (blk (some ⟨x198_120, 0, none⟩)) (off (some ⟨x198_120, 0, none⟩) + (x200_121).toNat * 1)) (x_idx uT22 sZ3 (S.e rfl) (S.e rfl) (x200_121).toNat (by omega) (by first | omega | (simp only [List.length_cons, List.length_nil]; omega)) ((show LAt intE _ _ (some ⟨x198_120, 0, none⟩) ([4097, (-1), 7]) from (X120).1).adr (i := (x200_121).toNat) (by first | omega | (simp only [List.length_cons, List.length_nil]; omega)))) (show ∃ _, _ from ⟨x198_120, x200_121, rfl, X120, hr121⟩)
   ·skip
    intro a u S G hE
    obtain ⟨e201, -⟩ := hE
    have M0 := S.m
    obtain ⟨x198_122, x200_123, e201, X122, hr123⟩ := e201
    replace S := S.ext e201
    obtain ⟨hl124, hu124⟩ : inI64 (([4097, (-1), 7]).getD ((x200_123).toNat) intE.dflt) := id ((show LAt intE _ _ (some ⟨x198_122, 0, none⟩) ([4097, (-1), 7]) from (X122).1).wf (x200_123).toNat (by first | omega | (simp only [List.length_cons, List.length_nil]; omega)))
    exact hvl 202 S M0 (v := iI (([4097, (-1), 7]).getD ((x200_123).toNat) intE.dflt)) (x_load sC3 (S.e rfl) ((show LAt intE _ _ (some ⟨x198_122, 0, none⟩) ([4097, (-1), 7]) from (X122).1).cell (x200_123).toNat (by first | omega | (simp only [List.length_cons, List.length_nil]; omega)) 0 _ rfl)) (show ∃ _, _ from ⟨x198_122, x200_123, rfl, X122, hr123⟩)
   clear S; intro a u S G hE
   obtain ⟨e202, -⟩ := hE
   obtain ⟨x198_125, x200_126, e202, X125, hr126⟩ := e202
   replace S := S.ext e202
   clear e202
   replace S := S.ar (wfF (slE intE) (Sl.mk (some ⟨x198_125, 0, none⟩) 3 ([4097, (-1), 7]))) X125
   obtain ⟨hl127, hu127⟩ : inI64 (([4097, (-1), 7]).getD ((x200_126).toNat) intE.dflt) := id ((show LAt intE _ _ (some ⟨x198_125, 0, none⟩) ([4097, (-1), 7]) from ((S.u 2 rfl)).1).wf (x200_126).toNat (by first | omega | (simp only [List.length_cons, List.length_nil]; omega)))
   refine sp S (la (str (E := devE) 6 (by kernel_rfl) rfl rfl rfl 0 1 (by omega) (by first | decide | exact Nat.one_pos) (⟨(t.devs.xs.getD 0 devE.dflt).name, (([4097, (-1), 7]).getD ((x200_126).toNat) intE.dflt), (decide ((t.devs.xs.getD 0 devE.dflt).rng = true)), (decide ((t.devs.xs.getD 0 devE.dflt).vol = true)), (t.devs.xs.getD 0 devE.dflt).cls⟩ : Dev) (fun S=>⟨((S.row 6 rfl).wfi 0 (by omega)).1, ((show LAt intE _ _ (some ⟨x198_125, 0, none⟩) ([4097, (-1), 7]) from ((S.u 2 rfl)).1).wf (x200_126).toNat (by first | omega | (simp only [List.length_cons, List.length_nil]; omega))), trivial, trivial, ((S.row 6 rfl).wfi 0 (by omega)).2.2.2.2⟩) (by first | rfl | simp [devE]) (by first | rfl | (show _ = _ * 1 + 0; omega) | (simp [devE]; omega) | simp [devE]) rfl)) ?_; clear S; intro a u S
   have hls128 : (t.devs.xs.set 0 (⟨(t.devs.xs.getD 0 devE.dflt).name, (([4097, (-1), 7]).getD ((x200_126).toNat) intE.dflt), (decide ((t.devs.xs.getD 0 devE.dflt).rng = true)), (decide ((t.devs.xs.getD 0 devE.dflt).vol = true)), (t.devs.xs.getD 0 devE.dflt).cls⟩ : Dev)).length = t.devs.xs.length := by simp
   refine nn (blk_n (then_n ?_))
   refine rs S (tr (ldkw 7 rfl rfl wD28)<|la (stkw 2 rfl rfl rfl)) ?_; clear S; intro a u S
   refine wp_ret ?_
   replace S := S.fz 6 rfl
   replace S := S.fz 5 rfl
   replace S := S.fz 4 rfl
   replace S := S.fz 3 rfl
   refine retcw rfl S.s rfl [.slice ra_t7_0 t.devs.xs.length rc_t7_0, .slice ra_t7_1 t.links.xs.length rc_t7_1, .slice ra_t7_2 t.edges.xs.length rc_t7_2, .slice ra_t7_3 t.pools.xs.length rc_t7_3, iI t.tol] wD28 (fun j v hv => by rw [Nat.zero_add]; exact (S.k 2 rfl).cell hv) ?_
   replace S := S.pk [0] (os' := [tpO 62 T T_l])
   refine ⟨(⟨(Sl.mk ra_t7_0 rc_t7_0 (t.devs.xs.set 0 (⟨(t.devs.xs.getD 0 devE.dflt).name, (([4097, (-1), 7]).getD ((x200_126).toNat) intE.dflt), (decide ((t.devs.xs.getD 0 devE.dflt).rng = true)), (decide ((t.devs.xs.getD 0 devE.dflt).vol = true)), (t.devs.xs.getD 0 devE.dflt).cls⟩ : Dev))), (Sl.mk ra_t7_1 rc_t7_1 t.links.xs), (Sl.mk ra_t7_2 rc_t7_2 t.edges.xs), (Sl.mk ra_t7_3 rc_t7_3 t.pools.xs), t.tol⟩ : Topo), (r1 (by simp [topoE])), ⟨(S.u 3 rfl), (S.u 4 rfl), (S.u 5 rfl), (S.u 6 rfl), (show inI64 t.tol from ⟨by omega, by omega⟩)⟩, (S.t 0 rfl), S.m.c⟩
  intro hc42
  refine wp_skip (blk_n (then_n ?_))
  refine rs S (tr (ldkw 7 rfl rfl wD28)<|la (stkw 2 rfl rfl rfl)) ?_; clear S; intro a u S
  refine wp_ret ?_
  replace S := S.fz 6 rfl
  replace S := S.fz 5 rfl
  replace S := S.fz 4 rfl
  replace S := S.fz 3 rfl
  refine retcw rfl S.s rfl [.slice ra_t7_0 t.devs.xs.length rc_t7_0, .slice ra_t7_1 t.links.xs.length rc_t7_1, .slice ra_t7_2 t.edges.xs.length rc_t7_2, .slice ra_t7_3 t.pools.xs.length rc_t7_3, iI t.tol] wD28 (fun j v hv => by rw [Nat.zero_add]; exact (S.k 2 rfl).cell hv) ?_
  replace S := S.pk [0] (os' := [tpO 62 T T_l])
  refine ⟨(⟨(Sl.mk ra_t7_0 rc_t7_0 t.devs.xs), (Sl.mk ra_t7_1 rc_t7_1 t.links.xs), (Sl.mk ra_t7_2 rc_t7_2 t.edges.xs), (Sl.mk ra_t7_3 rc_t7_3 t.pools.xs), t.tol⟩ : Topo), rfl, ⟨(S.u 2 rfl), (S.u 3 rfl), (S.u 4 rfl), (S.u 5 rfl), (show inI64 t.tol from ⟨by omega, by omega⟩)⟩, (S.t 0 rfl), S.m.c⟩
 intro hc43
 refine rs S (tr (fldi 0 2 rfl uT28)<|tr (ldk 7 sC25 rfl rfl rfl)<|tr (leni uT25 rfl)<|la (gtri rfl rfl)) ?_; clear S; intro a u S
 refine cd S rfl ?_ ?_
 ·intro hc44
  refine r0 ?_
  refine sp S (tr (fldi 0 2 rfl uT28)<|la (ldk 7 sC25 rfl rfl rfl)) ?_; clear S; intro a u S
  replace S := S.fz 4 rfl
  have hk133 : (slFrom edgE (Sl.mk ra_t7_2 rc_t7_2 t.edges.xs) 1).xs.length = t.edges.xs.length - 1 := List.length_drop
  refine en S (tr (ov (v := sV (slFrom edgE (Sl.mk ra_t7_2 rc_t7_2 t.edges.xs) 1)) fun S=>x_slfrom edgE (s := (Sl.mk ra_t7_2 rc_t7_2 t.edges.xs)) uT25 iZ71 (S.e rfl) (S.e rfl) 1 rfl (by dsimp only; omega))<|tr (fldi 0 2 rfl uT28)<|la (stk 7 rfl rfl rfl)) ?_; clear S; intro a u S
  refine blk_n (then_n ?_)
  refine rs S (tr (ldkw 7 rfl rfl wD28)<|la (stkw 2 rfl rfl rfl)) ?_; clear S; intro a u S
  refine wp_ret ?_
  replace S := S.fz 6 rfl
  replace S := S.fz 5 rfl
  replace S := S.fz 3 rfl
  refine retcw rfl S.s rfl [.slice ra_t7_0 t.devs.xs.length rc_t7_0, .slice ra_t7_1 t.links.xs.length rc_t7_1, sV (slFrom edgE (Sl.mk ra_t7_2 rc_t7_2 t.edges.xs) 1), .slice ra_t7_3 t.pools.xs.length rc_t7_3, iI t.tol] wD28 (fun j v hv => by rw [Nat.zero_add]; exact (S.k 2 rfl).cell hv) ?_
  replace S := S.pk [0] (os' := [tpO 62 T T_l])
  refine ⟨(⟨(Sl.mk ra_t7_0 rc_t7_0 t.devs.xs), (Sl.mk ra_t7_1 rc_t7_1 t.links.xs), (slFrom edgE (Sl.mk ra_t7_2 rc_t7_2 t.edges.xs) 1), (Sl.mk ra_t7_3 rc_t7_3 t.pools.xs), t.tol⟩ : Topo), rfl, ⟨(S.u 3 rfl), (S.u 4 rfl), (sl_from (E := edgE) (S.u 2 rfl) 1 (by dsimp only; omega)), (S.u 5 rfl), (show inI64 t.tol from ⟨by omega, by omega⟩)⟩, (S.t 0 rfl), S.m.c⟩
 intro hc45
 refine wp_skip (blk_n (then_n ?_))
 refine rs S (tr (ldkw 7 rfl rfl wD28)<|la (stkw 2 rfl rfl rfl)) ?_; clear S; intro a u S
 refine wp_ret ?_
 replace S := S.fz 6 rfl
 replace S := S.fz 5 rfl
 replace S := S.fz 4 rfl
 replace S := S.fz 3 rfl
 refine retcw rfl S.s rfl [.slice ra_t7_0 t.devs.xs.length rc_t7_0, .slice ra_t7_1 t.links.xs.length rc_t7_1, .slice ra_t7_2 t.edges.xs.length rc_t7_2, .slice ra_t7_3 t.pools.xs.length rc_t7_3, iI t.tol] wD28 (fun j v hv => by rw [Nat.zero_add]; exact (S.k 2 rfl).cell hv) ?_
 replace S := S.pk [0] (os' := [tpO 62 T T_l])
 refine ⟨(⟨(Sl.mk ra_t7_0 rc_t7_0 t.devs.xs), (Sl.mk ra_t7_1 rc_t7_1 t.links.xs), (Sl.mk ra_t7_2 rc_t7_2 t.edges.xs), (Sl.mk ra_t7_3 rc_t7_3 t.pools.xs), t.tol⟩ : Topo), rfl, ⟨(S.u 2 rfl), (S.u 3 rfl), (S.u 4 rfl), (S.u 5 rfl), (show inI64 t.tol from ⟨by omega, by omega⟩)⟩, (S.t 0 rfl), S.m.c⟩
end Go.Proofs.Ytfanmniaolncbaa.V
