/- the generator: topologies -/
import Derived.Test.YtfanmniaolncbaaW13
namespace Go.Proofs.Ytfanmniaolncbaa.V
open Go.RowKit Go.Proofs.Ytfanmniaolncbaa
set_option linter.unusedVariables false
set_option linter.unusedSimpArgs false
set_option maxHeartbeats 2000000 in
set_option maxRecDepth 20000 in
theorem gTopology (w : World) (F : Nat → Prop) (hF : Old F w) (T : Nat) (M : MS [one T] w) (T_l : Sl Int) (T_w : (slE intE).wf (Fr F [one T]) w.heap T_l) (T_K : TpB 62 T T_l w) (n : Int) (n_h : inI64 n) :
 Calls Try.prog 15 #[pT T 0, iI n] w fun e w' => ∃ (r : Topo), e = .returned (.agg (topoE.cells r).toArray) ∧ topoE.wf (Fr F [one T]) w'.heap r ∧ genT r ∧ TpB 62 T T_l w' ∧ Tr [one T] w [one T] w' := by
 obtain ⟨n_hl, n_hu⟩ : inI64 n := id n_h
 refine go Try.func15 rfl 154 rfl [wfF (slE intE) T_l] [tpO 62 T T_l] hF M ⟨T_w, trivial⟩ ⟨T_K, trivial⟩ ?_
 intro a S
 refine rs0 ?_
 refine nbp S (x_allocz _ iZ28 rfl) ?_; clear S; intro a u b4 S
 refine ent (rs0 ?_)
 refine nbp S (x_allocz _ iZ28 rfl) ?_; clear S; intro a u b5 S
 refine ent (rs0 ?_)
 refine sp S (tr (mv rfl)<|tr (mv rfl)<|la (ov fun S=>x_min (S.e rfl) (S.e rfl))) ?_; clear S; intro a u S
 refine cl S (gNext _ _ S.x T (S.M.pick [0] (by decide)) T_l (dn1 (js := [0]) (S.u 0 rfl)) (S.t 0 rfl) (if 6 < n then 6 else n) ⟨by omega, by omega⟩) cB23 ?_
 rintro e u ⟨r_t15, rfl, hr_t15, tK, T0⟩; refine ⟨_, rfl, fun a s => ?_⟩
 replace S := S.k1 0 rfl s T0 tK; clear s T0 tK
 obtain ⟨nn, hnn, hn1, hn6⟩ : ∃ nn : Nat, ((nn : Nat) : Int) = 1 + r_t15 ∧ 1 ≤ nn ∧ nn ≤ 6 := ⟨(1 + r_t15).toNat, by (obtain ⟨h1, h2⟩ := hr_t15; split at h2 <;> refine ⟨?_, ?_, ?_⟩ <;> omega)⟩
 refine sp S (la (addi (1 + r_t15) rfl rfl (w_i64 (by omega)))) ?_; clear S; intro a u S
 rw [← hnn] at S
 refine ens S (la (av rfl)) ?_; clear S; intro a u S
 refine wp_seq ?_
 refine rs S (la (av rfl)) ?_; clear S; intro a u S
 refine wp_block ?_
 replace S := S.nr devE 65
 replace S := S.nr lnkE 54
 refine lp7 (fun (i : Nat) (ds_a : Option Addr) (ds_c : Nat) (ds : List Dev) (ls_a : Option Addr) (ls_c : Nat) (ls : List Lnk) => [(0, pT T 0), (1, iN nn), (4, pT b4 0), (5, pT b5 0), (6, iN i)]) (fun (i : Nat) (ds_a : Option Addr) (ds_c : Nat) (ds : List Dev) (ls_a : Option Addr) (ls_c : Nat) (ls : List Lnk) => [tpO 62 T T_l, blO b4 [.slice none 0 0, .slice none 0 0, .slice none 0 0, .slice none 0 0, iI 0] 28, blO b5 [.slice ds_a ds.length ds_c, .slice ls_a ls.length ls_c, .slice none 0 0, .slice none 0 0, iI 0] 28, rwO devE 65 w.heap.size ds_a ds_c ds, rwO lnkE 54 w.heap.size ls_a ls_c ls]) (fun (i : Nat) (ds_a : Option Addr) (ds_c : Nat) (ds : List Dev) (ls_a : Option Addr) (ls_c : Nat) (ls : List Lnk) => i ≤ nn ∧ ds.length = i ∧ (∀ j, j < i → okDev j (ds.getD j devE.dflt)) ∧ ls.length ≤ i ∧ ∀ l ∈ ls, lnkV nn l) (fun (i : Nat) (ds_a : Option Addr) (ds_c : Nat) (ds : List Dev) (ls_a : Option Addr) (ls_c : Nat) (ls : List Lnk) => nn - i) S 0 none 0 ([]) none 0 ([]) (subM rfl) rfl ?_ ?_
 ·exact ⟨Nat.zero_le _, rfl, fun j h => absurd h (Nat.not_lt_zero _), Nat.zero_le _, fun l h => by simp at h⟩
 clear S; intro i ds_a ds_c ds ls_a ls_c ls a u S hR
 have ds_len := (S.row 3 rfl).len_le; simp only [maxLen] at ds_len
 have ls_len := (S.row 4 rfl).len_le; simp only [maxLen] at ls_len
 obtain ⟨hi, hdl, hd, hll, hl⟩ := hR
 refine wp_seq ?_
 refine rs S (tr (mv rfl)<|tr (mv rfl)<|la (lssi rfl rfl)) ?_; clear S; intro a u S
 refine cd S rfl ?_ ?_
 ·intro hc0
  refine wp_skip (then_n (wp_seq (wp_block (wp_seq ?_))))
  obtain ⟨z0, hz0⟩ := S.z
  refine dr (P := Try.prog) S 11 [one T] [(22, .of (fun z w => ∃ (x22a : Nat), z = .slice (some ⟨x22a, 0, none⟩) 6 6 ∧ (slE strE).wf (Fr F [one T, one b4, one b5, abk ds_a, abk ls_a]) w.heap (Sl.mk (some ⟨x22a, 0, none⟩) 6 ([⟨#[114, 49]⟩, ⟨#[114, 50]⟩, ⟨#[114, 51]⟩, ⟨#[114, 52]⟩, ⟨#[114, 53]⟩, ⟨#[114, 54]⟩] : List ByteArray))) (fun v w w' c h => let ⟨x22a, hv, h0⟩ := h; ⟨x22a, hv, Enc.kp (slE strE) h0 c (by intro o h; simp at h ⊢; first | exact .inl h | simp [h])⟩)), (23, .is _), (24, .of (fun z w => ∃ (x22a : Nat), z = pT (blk (some ⟨x22a, 0, none⟩)) (off (some ⟨x22a, 0, none⟩) + i * 1) ∧ (slE strE).wf (Fr F [one T, one b4, one b5, abk ds_a, abk ls_a]) w.heap (Sl.mk (some ⟨x22a, 0, none⟩) 6 ([⟨#[114, 49]⟩, ⟨#[114, 50]⟩, ⟨#[114, 51]⟩, ⟨#[114, 52]⟩, ⟨#[114, 53]⟩, ⟨#[114, 54]⟩] : List ByteArray))) (fun v w w' c h => let ⟨x22a, hv, h0⟩ := h; ⟨x22a, hv, Enc.kp (slE strE) h0 c (by intro o h; simp at h ⊢; first | exact .inl h | simp [h])⟩)), (25, .of (fun z w => ∃ (x22a : Nat), z = .string (([⟨#[114, 49]⟩, ⟨#[114, 50]⟩, ⟨#[114, 51]⟩, ⟨#[114, 52]⟩, ⟨#[114, 53]⟩, ⟨#[114, 54]⟩] : List ByteArray).getD i strE.dflt) ∧ (slE strE).wf (Fr F [one T, one b4, one b5, abk ds_a, abk ls_a]) w.heap (Sl.mk (some ⟨x22a, 0, none⟩) 6 ([⟨#[114, 49]⟩, ⟨#[114, 50]⟩, ⟨#[114, 51]⟩, ⟨#[114, 52]⟩, ⟨#[114, 53]⟩, ⟨#[114, 54]⟩] : List ByteArray))) (fun v w w' c h => let ⟨x22a, hv, h0⟩ := h; ⟨x22a, hv, Enc.kp (slE strE) h0 c (by intro o h; simp at h ⊢; first | exact .inl h | simp [h])⟩)), (26, .of (fun z w => ∃ (x26a : Nat), z = .slice (some ⟨x26a, 0, none⟩) 6 6 ∧ (slE intE).wf (Fr F [one T, one b4, one b5, abk ds_a, abk ls_a]) w.heap (Sl.mk (some ⟨x26a, 0, none⟩) 6 ([4096, 400, 60, 20, 5, 0]))) (fun v w w' c h => let ⟨x26a, hv, h0⟩ := h; ⟨x26a, hv, Enc.kp (slE intE) h0 c (by intro o h; simp at h ⊢; first | exact .inl h | simp [h])⟩)), (27, .is _), (28, .of (fun z w => ∃ (x28a : Int), z = iI x28a ∧ (0 ≤ x28a ∧ (x28a < 6 ∨ x28a = 0))) (fun v w w' c h => let ⟨x28a, hv, h0⟩ := h; ⟨x28a, hv, h0⟩)), (29, .of (fun z w => ∃ (x26a : Nat) (x28b : Int), z = pT (blk (some ⟨x26a, 0, none⟩)) (off (some ⟨x26a, 0, none⟩) + (x28b).toNat * 1) ∧ (slE intE).wf (Fr F [one T, one b4, one b5, abk ds_a, abk ls_a]) w.heap (Sl.mk (some ⟨x26a, 0, none⟩) 6 ([4096, 400, 60, 20, 5, 0])) ∧ (0 ≤ x28b ∧ (x28b < 6 ∨ x28b = 0))) (fun v w w' c h => let ⟨x26a, x28b, hv, h0, h1⟩ := h; ⟨x26a, x28b, hv, Enc.kp (slE intE) h0 c (by intro o h; simp at h ⊢; first | exact .inl h | simp [h]), h1⟩)), (30, .of (fun z w => ∃ (x26a : Nat) (x28b : Int), z = iI (([4096, 400, 60, 20, 5, 0]).getD ((x28b).toNat) intE.dflt) ∧ (slE intE).wf (Fr F [one T, one b4, one b5, abk ds_a, abk ls_a]) w.heap (Sl.mk (some ⟨x26a, 0, none⟩) 6 ([4096, 400, 60, 20, 5, 0])) ∧ (0 ≤ x28b ∧ (x28b < 6 ∨ x28b = 0))) (fun v w w' c h => let ⟨x26a, x28b, hv, h0, h1⟩ := h; ⟨x26a, x28b, hv, Enc.kp (slE intE) h0 c (by intro o h; simp at h ⊢; first | exact .inl h | simp [h]), h1⟩)), (31, .of (fun z w => ∃ (x22a : Nat) (x26b : Nat) (x28c : Int), z = .agg #[.string (([⟨#[114, 49]⟩, ⟨#[114, 50]⟩, ⟨#[114, 51]⟩, ⟨#[114, 52]⟩, ⟨#[114, 53]⟩, ⟨#[114, 54]⟩] : List ByteArray).getD i strE.dflt), iI (([4096, 400, 60, 20, 5, 0]).getD ((x28c).toNat) intE.dflt), .bool false, .bool false, .string (⟨#[]⟩)] ∧ (slE strE).wf (Fr F [one T, one b4, one b5, abk ds_a, abk ls_a]) w.heap (Sl.mk (some ⟨x22a, 0, none⟩) 6 ([⟨#[114, 49]⟩, ⟨#[114, 50]⟩, ⟨#[114, 51]⟩, ⟨#[114, 52]⟩, ⟨#[114, 53]⟩, ⟨#[114, 54]⟩] : List ByteArray)) ∧ (slE intE).wf (Fr F [one T, one b4, one b5, abk ds_a, abk ls_a]) w.heap (Sl.mk (some ⟨x26b, 0, none⟩) 6 ([4096, 400, 60, 20, 5, 0])) ∧ (0 ≤ x28c ∧ (x28c < 6 ∨ x28c = 0))) (fun v w w' c h => let ⟨x22a, x26b, x28c, hv, h0, h1, h2⟩ := h; ⟨x22a, x26b, x28c, hv, Enc.kp (slE strE) h0 c (by intro o h; simp at h ⊢; first | exact .inl h | simp [h]), Enc.kp (slE intE) h1 c (by intro o h; simp at h ⊢; first | exact .inl h | simp [h]), h2⟩)), (7, .of (fun z w => ∃ (x7a : Nat), z = pT x7a 0 ∧ (Blk w.heap x7a [.string (⟨#[]⟩), iI 0, .bool false, .bool false, .string (⟨#[]⟩)] 65 ∧ z0 ≤ x7a ∧ ¬ In [one T] x7a)) (fun v w w' c h => let ⟨x7a, hv, h0⟩ := h; ⟨x7a, hv, ⟨Blk.tr h0.1 c h0.2.2, h0.2⟩⟩))] [[], [], [22, 23], [24], [], [], [27], [26, 28], [29], [25, 30], []] [31, 7] _ ⟨?_, qd (mv rfl), ?_, ?_, ?_, qd (mv rfl), ?_, ?_, ?_, ?_, ?_, trivial⟩ ?_
  ·skip
   intro a u S G hE
   refine hnb 22 S.m (x_bsl [(0, .string (⟨#[114, 49]⟩)), (1, .string (⟨#[114, 50]⟩)), (2, .string (⟨#[114, 51]⟩)), (3, .string (⟨#[114, 52]⟩)), (4, .string (⟨#[114, 53]⟩)), (5, .string (⟨#[114, 54]⟩))] [.string (⟨#[114, 49]⟩), .string (⟨#[114, 50]⟩), .string (⟨#[114, 51]⟩), .string (⟨#[114, 52]⟩), .string (⟨#[114, 53]⟩), .string (⟨#[114, 54]⟩)] uT63 iZ9 (by decide) (by decide) (by simp only [List.map_cons, List.map_nil, S.e (x := .const (.string (⟨#[114, 49]⟩))) (v := .string (⟨#[114, 49]⟩)) rfl, S.e (x := .const (.string (⟨#[114, 50]⟩))) (v := .string (⟨#[114, 50]⟩)) rfl, S.e (x := .const (.string (⟨#[114, 51]⟩))) (v := .string (⟨#[114, 51]⟩)) rfl, S.e (x := .const (.string (⟨#[114, 52]⟩))) (v := .string (⟨#[114, 52]⟩)) rfl, S.e (x := .const (.string (⟨#[114, 53]⟩))) (v := .string (⟨#[114, 53]⟩)) rfl, S.e (x := .const (.string (⟨#[114, 54]⟩))) (v := .string (⟨#[114, 54]⟩)) rfl]) (by kernel_rfl)) fun g => (show ∃ _, _ from ⟨_, rfl, sl_of_blk (Blk.new _ [.string (⟨#[114, 49]⟩), .string (⟨#[114, 50]⟩), .string (⟨#[114, 51]⟩), .string (⟨#[114, 52]⟩), .string (⟨#[114, 53]⟩), .string (⟨#[114, 54]⟩)] 9) ([⟨#[114, 49]⟩, ⟨#[114, 50]⟩, ⟨#[114, 51]⟩, ⟨#[114, 52]⟩, ⟨#[114, 53]⟩, ⟨#[114, 54]⟩] : List ByteArray) 6 rfl (by decide) (by decide) rfl (fr_fresh S.m.c S.m.f rfl) ?_⟩)
   intro x hx; simp only [List.mem_cons, List.not_mem_nil, or_false] at hx; rcases hx with hx | hx | hx | hx | hx | hx <;> rw [hx] <;> first | exact Enc.tr (strE) (show strE.wf (Fr F (ow _)) _ (⟨#[114, 49]⟩) from (show (⟨#[114, 49]⟩ : ByteArray).size ≤ maxLen from by unfold maxLen; decide)) (Tr.of_ch0 S.M g) | exact Enc.tr (strE) (show strE.wf (Fr F (ow _)) _ (⟨#[114, 50]⟩) from (show (⟨#[114, 50]⟩ : ByteArray).size ≤ maxLen from by unfold maxLen; decide)) (Tr.of_ch0 S.M g) | exact Enc.tr (strE) (show strE.wf (Fr F (ow _)) _ (⟨#[114, 51]⟩) from (show (⟨#[114, 51]⟩ : ByteArray).size ≤ maxLen from by unfold maxLen; decide)) (Tr.of_ch0 S.M g) | exact Enc.tr (strE) (show strE.wf (Fr F (ow _)) _ (⟨#[114, 52]⟩) from (show (⟨#[114, 52]⟩ : ByteArray).size ≤ maxLen from by unfold maxLen; decide)) (Tr.of_ch0 S.M g) | exact Enc.tr (strE) (show strE.wf (Fr F (ow _)) _ (⟨#[114, 53]⟩) from (show (⟨#[114, 53]⟩ : ByteArray).size ≤ maxLen from by unfold maxLen; decide)) (Tr.of_ch0 S.M g) | exact Enc.tr (strE) (show strE.wf (Fr F (ow _)) _ (⟨#[114, 54]⟩) from (show (⟨#[114, 54]⟩ : ByteArray).size ≤ maxLen from by unfold maxLen; decide)) (Tr.of_ch0 S.M g)
  ·skip
   intro a u S G hE
   obtain ⟨e22, -⟩ := hE
   have M0 := S.m
   obtain ⟨x22_6, e22, X6⟩ := e22
   replace S := S.ext e22
   exact hvl 24 S M0 (v := pT (blk (some ⟨x22_6, 0, none⟩)) (off (some ⟨x22_6, 0, none⟩) + i * 1)) (x_idx uT63 sZ9 (S.e rfl) (S.e rfl) i rfl (by first | omega | (simp only [List.length_cons, List.length_nil]; omega)) ((show LAt strE _ _ (some ⟨x22_6, 0, none⟩) ([⟨#[114, 49]⟩, ⟨#[114, 50]⟩, ⟨#[114, 51]⟩, ⟨#[114, 52]⟩, ⟨#[114, 53]⟩, ⟨#[114, 54]⟩] : List ByteArray) from (X6).1).adr (i := i) (by first | omega | (simp only [List.length_cons, List.length_nil]; omega)))) (show ∃ _, _ from ⟨x22_6, rfl, X6⟩)
  ·skip
   intro a u S G hE
   obtain ⟨e24, -⟩ := hE
   have M0 := S.m
   obtain ⟨x22_7, e24, X7⟩ := e24
   replace S := S.ext e24
   exact hvl 25 S M0 (v := .string (([⟨#[114, 49]⟩, ⟨#[114, 50]⟩, ⟨#[114, 51]⟩, ⟨#[114, 52]⟩, ⟨#[114, 53]⟩, ⟨#[114, 54]⟩] : List ByteArray).getD i strE.dflt)) (x_load sC9 (S.e rfl) ((show LAt strE _ _ (some ⟨x22_7, 0, none⟩) ([⟨#[114, 49]⟩, ⟨#[114, 50]⟩, ⟨#[114, 51]⟩, ⟨#[114, 52]⟩, ⟨#[114, 53]⟩, ⟨#[114, 54]⟩] : List ByteArray) from (X7).1).cell i (by first | omega | (simp only [List.length_cons, List.length_nil]; omega)) 0 _ rfl)) (show ∃ _, _ from ⟨x22_7, rfl, X7⟩)
  ·skip
   intro a u S G hE
   refine hnb 26 S.m (x_bsl [(0, iI 4096), (1, iI 400), (2, iI 60), (3, iI 20), (4, iI 5), (5, iI 0)] [iI 4096, iI 400, iI 60, iI 20, iI 5, iI 0] uT22 iZ3 (by decide) (by decide) (by simp only [List.map_cons, List.map_nil, S.e (x := .const (iI 4096)) (v := iI 4096) rfl, S.e (x := .const (iI 400)) (v := iI 400) rfl, S.e (x := .const (iI 60)) (v := iI 60) rfl, S.e (x := .const (iI 20)) (v := iI 20) rfl, S.e (x := .const (iI 5)) (v := iI 5) rfl, S.e (x := .const (iI 0)) (v := iI 0) rfl]) (by kernel_rfl)) fun g => (show ∃ _, _ from ⟨_, rfl, sl_of_blk (Blk.new _ [iI 4096, iI 400, iI 60, iI 20, iI 5, iI 0] 3) [4096, 400, 60, 20, 5, 0] 6 rfl (by decide) (by decide) rfl (fr_fresh S.m.c S.m.f rfl) ?_⟩)
   intro x hx; simp only [List.mem_cons, List.not_mem_nil, or_false] at hx; rcases hx with hx | hx | hx | hx | hx | hx <;> rw [hx] <;> first | exact Enc.tr (intE) (show intE.wf (Fr F (ow _)) _ 4096 from (show inI64 4096 from ⟨by omega, by omega⟩)) (Tr.of_ch0 S.M g) | exact Enc.tr (intE) (show intE.wf (Fr F (ow _)) _ 400 from (show inI64 400 from ⟨by omega, by omega⟩)) (Tr.of_ch0 S.M g) | exact Enc.tr (intE) (show intE.wf (Fr F (ow _)) _ 60 from (show inI64 60 from ⟨by omega, by omega⟩)) (Tr.of_ch0 S.M g) | exact Enc.tr (intE) (show intE.wf (Fr F (ow _)) _ 20 from (show inI64 20 from ⟨by omega, by omega⟩)) (Tr.of_ch0 S.M g) | exact Enc.tr (intE) (show intE.wf (Fr F (ow _)) _ 5 from (show inI64 5 from ⟨by omega, by omega⟩)) (Tr.of_ch0 S.M g) | exact Enc.tr (intE) (show intE.wf (Fr F (ow _)) _ 0 from (show inI64 0 from ⟨by omega, by omega⟩)) (Tr.of_ch0 S.M g)
  ·skip
   intro a u S G hE
   refine hcl S (gNext _ _ S.x T (S.M.pick [0] (by decide)) T_l (dn1 (js := [0]) (S.u 0 rfl)) (S.t 0 rfl) 6 ⟨by omega, by omega⟩) cB23 ?_
   rintro e w2 ⟨r_h28, rfl, hr_h28, tK, T0⟩; refine ⟨_, rfl, (show ∃ _, _ from ?_), T0.ch, (S.k1 0 rfl S.s T0 tK).m⟩
   exact ⟨r_h28, rfl, hr_h28⟩
  ·skip
   intro a u S G hE
   obtain ⟨e26, e28, -⟩ := hE
   have M0 := S.m
   obtain ⟨x26_8, e26, X8⟩ := e26
   replace S := S.ext e26
   obtain ⟨x28_9, e28, hr9⟩ := e28
   replace S := S.ext e28
   exact hvl 29 S M0 (v := pT (blk (some ⟨x26_8, 0, none⟩)) (off (some ⟨x26_8, 0, none⟩) + (x28_9).toNat * 1)) (x_idx uT22 sZ3 (S.e rfl) (S.e rfl) (x28_9).toNat (by omega) (by first | omega | (simp only [List.length_cons, List.length_nil]; omega)) ((show LAt intE _ _ (some ⟨x26_8, 0, none⟩) ([4096, 400, 60, 20, 5, 0]) from (X8).1).adr (i := (x28_9).toNat) (by first | omega | (simp only [List.length_cons, List.length_nil]; omega)))) (show ∃ _, _ from ⟨x26_8, x28_9, rfl, X8, hr9⟩)
  ·skip
   intro a u S G hE
   obtain ⟨e29, -⟩ := hE
   have M0 := S.m
   obtain ⟨x26_10, x28_11, e29, X10, hr11⟩ := e29
   replace S := S.ext e29
   obtain ⟨hl12, hu12⟩ : inI64 (([4096, 400, 60, 20, 5, 0]).getD ((x28_11).toNat) intE.dflt) := id ((show LAt intE _ _ (some ⟨x26_10, 0, none⟩) ([4096, 400, 60, 20, 5, 0]) from (X10).1).wf (x28_11).toNat (by first | omega | (simp only [List.length_cons, List.length_nil]; omega)))
   exact hvl 30 S M0 (v := iI (([4096, 400, 60, 20, 5, 0]).getD ((x28_11).toNat) intE.dflt)) (x_load sC3 (S.e rfl) ((show LAt intE _ _ (some ⟨x26_10, 0, none⟩) ([4096, 400, 60, 20, 5, 0]) from (X10).1).cell (x28_11).toNat (by first | omega | (simp only [List.length_cons, List.length_nil]; omega)) 0 _ rfl)) (show ∃ _, _ from ⟨x26_10, x28_11, rfl, X10, hr11⟩)
  ·skip
   intro a u S G hE
   obtain ⟨e25, e30, -⟩ := hE
   have M0 := S.m
   obtain ⟨x22_13, e25, X13⟩ := e25
   replace S := S.ext e25
   obtain ⟨x26_14, x28_15, e30, X14, hr15⟩ := e30
   replace S := S.ext e30
   exact hvl 31 S M0 (v := .agg #[.string (([⟨#[114, 49]⟩, ⟨#[114, 50]⟩, ⟨#[114, 51]⟩, ⟨#[114, 52]⟩, ⟨#[114, 53]⟩, ⟨#[114, 54]⟩] : List ByteArray).getD i strE.dflt), iI (([4096, 400, 60, 20, 5, 0]).getD ((x28_15).toNat) intE.dflt), .bool false, .bool false, .string (⟨#[]⟩)]) (x_bd S [(0, .string (([⟨#[114, 49]⟩, ⟨#[114, 50]⟩, ⟨#[114, 51]⟩, ⟨#[114, 52]⟩, ⟨#[114, 53]⟩, ⟨#[114, 54]⟩] : List ByteArray).getD i strE.dflt)), (1, iI (([4096, 400, 60, 20, 5, 0]).getD ((x28_15).toNat) intE.dflt))] [.string (([⟨#[114, 49]⟩, ⟨#[114, 50]⟩, ⟨#[114, 51]⟩, ⟨#[114, 52]⟩, ⟨#[114, 53]⟩, ⟨#[114, 54]⟩] : List ByteArray).getD i strE.dflt), iI (([4096, 400, 60, 20, 5, 0]).getD ((x28_15).toNat) intE.dflt), .bool false, .bool false, .string (⟨#[]⟩)]) (show ∃ _, _ from ⟨x22_13, x26_14, x28_15, rfl, X13, X14, hr15⟩)
  ·skip
   intro a u S G hE
   exact hnb 7 S.m (x_allocz [.string (⟨#[]⟩), iI 0, .bool false, .bool false, .string (⟨#[]⟩)] iZ65 rfl) fun g => (show ∃ _, _ from ⟨_, rfl, Blk.new _ [.string (⟨#[]⟩), iI 0, .bool false, .bool false, .string (⟨#[]⟩)] 65, hz0 ▸ G.size, fun h => absurd (S.M.lt _ (in_sub (fun o h => by simp only [List.mem_singleton] at h; subst h; exact List.mem_of_getElem? (i := 0) rfl) h)) (Nat.lt_irrefl _)⟩)
  have S0 := S
  clear S; intro a u S G hE
  obtain ⟨e31, e7, -⟩ := hE
  obtain ⟨x22_16, x26_17, x28_18, e31, X16, X17, hr18⟩ := e31
  replace S := S.ext e31
  obtain ⟨x7_19, e7, X19⟩ := e7
  replace S := S.ext e7
  clear e31 e7
  have hltx7_19 : x7_19 < u.heap.size := X19.1.lt; have hgex7_19 := X19.2.1
  replace S := S0.own S [0] G (by intro j f hj hf; simp only [List.mem_cons, List.not_mem_nil, or_false] at hj; subst hj; cases hf; exact fun _ _ h => h) [blO x7_19 [.string (⟨#[]⟩), iI 0, .bool false, .bool false, .string (⟨#[]⟩)] 65] (⟨fun _ _ h => h, trivial⟩) (fun k hk => by simp only [ow, rwO, blO, abk_one, In, one, or_false] at hk; omega) (by intro f hf V; simp only [List.mem_cons, List.not_mem_nil, or_false] at hf; subst hf <;> first | exact X19.1)
  clear S0
  obtain ⟨hl20, hu20⟩ : inI64 (([4096, 400, 60, 20, 5, 0]).getD ((x28_18).toNat) intE.dflt) := id ((show LAt intE _ _ (some ⟨x26_17, 0, none⟩) ([4096, 400, 60, 20, 5, 0]) from (X17).1).wf (x28_18).toNat (by first | omega | (simp only [List.length_cons, List.length_nil]; omega)))
  refine ens S (la (stkw 5 rfl rfl rfl)) ?_; clear S; intro a u S
  refine rs0 ?_
  refine sp S (la (mv rfl)) ?_; clear S; intro a u S
  refine cl S (gNext _ _ S.x T (S.M.pick [0] (by decide)) T_l (dn1 (js := [0]) (S.u 0 rfl)) (S.t 0 rfl) 3 ⟨by omega, by omega⟩) cB23 ?_
  rintro e u ⟨r_t33, rfl, hr_t33, tK, T0⟩; refine ⟨_, rfl, fun a s => ?_⟩
  replace S := S.k1 0 rfl s T0 tK; clear s T0 tK
  refine sp S (tr (eqli rfl rfl)<|la (mv rfl)) ?_; clear S; intro a u S
  refine cl S (gNext _ _ S.x T (S.M.pick [0] (by decide)) T_l (dn1 (js := [0]) (S.u 0 rfl)) (S.t 0 rfl) 3 ⟨by omega, by omega⟩) cB23 ?_
  rintro e u ⟨r_t36, rfl, hr_t36, tK, T0⟩; refine ⟨_, rfl, fun a s => ?_⟩
  replace S := S.k1 0 rfl s T0 tK; clear s T0 tK
  refine sp S (tr (eqli rfl rfl)<|la (fldi 0 2 rfl uT65)) ?_; clear S; intro a u S
  obtain ⟨bv34, hbv34⟩ : ∃ b : Bool, (b = true) ↔ (r_t33 = 1) := ⟨decide (r_t33 = 1), by simp⟩
  replace S := S.ext (d := 34) (v := bD (bv34 = true)) ((S.get 34 rfl).trans (vb hbv34.symm))
  refine sp S (tr (stk 5 rfl rfl rfl)<|la (fldi 0 3 rfl uT65)) ?_; clear S; intro a u S
  obtain ⟨bv37, hbv37⟩ : ∃ b : Bool, (b = true) ↔ (r_t36 = 1) := ⟨decide (r_t36 = 1), by simp⟩
  replace S := S.ext (d := 37) (v := bD (bv37 = true)) ((S.get 37 rfl).trans (vb hbv37.symm))
  refine ens S (la (stk 5 rfl rfl rfl)) ?_; clear S; intro a u S
  refine rs0 ?_
  refine nbs strE S ([⟨#[]⟩, ⟨#[105, 112, 115]⟩, ⟨#[100, 108, 112]⟩] : List ByteArray) (x_bs S [(0, .string (⟨#[]⟩)), (1, .string (⟨#[105, 112, 115]⟩)), (2, .string (⟨#[100, 108, 112]⟩))] uT63 iZ9) (fun x hx => by simp only [List.mem_cons, List.not_mem_nil, or_false] at hx; rcases hx with hx | hx | hx <;> rw [hx] <;> first | exact (show strE.wf _ _ (⟨#[]⟩) from (show (⟨#[]⟩ : ByteArray).size ≤ maxLen from by unfold maxLen; decide)) | exact (show strE.wf _ _ (⟨#[105, 112, 115]⟩) from (show (⟨#[105, 112, 115]⟩ : ByteArray).size ≤ maxLen from by unfold maxLen; decide)) | exact (show strE.wf _ _ (⟨#[100, 108, 112]⟩) from (show (⟨#[100, 108, 112]⟩ : ByteArray).size ≤ maxLen from by unfold maxLen; decide))) ?_; clear S; intro a u b40 S
  refine sp S (la (mv rfl)) ?_; clear S; intro a u S
  refine cl S (gNext _ _ S.x T (S.M.pick [0] (by decide)) T_l (dn1 (js := [0]) (S.u 0 rfl)) (S.t 0 rfl) 3 ⟨by omega, by omega⟩) cB23 ?_
  rintro e u ⟨r_t42, rfl, hr_t42, tK, T0⟩; refine ⟨_, rfl, fun a s => ?_⟩
  replace S := S.k1 0 rfl s T0 tK; clear s T0 tK
  refine ens S (tr (idxi uT63 sZ9 rfl rfl (r_t42).toNat (by omega) (by first | omega | (simp only [List.length_cons, List.length_nil]; omega)) ((show LAt strE _ _ (some ⟨b40, 0, none⟩) ([⟨#[]⟩, ⟨#[105, 112, 115]⟩, ⟨#[100, 108, 112]⟩] : List ByteArray) from ((S.u 1 rfl)).1).adr (i := (r_t42).toNat) (by first | omega | (simp only [List.length_cons, List.length_nil]; omega))))<|tr (ov fun S=>x_load sC9 (S.e rfl) ((show LAt strE _ _ (some ⟨b40, 0, none⟩) ([⟨#[]⟩, ⟨#[105, 112, 115]⟩, ⟨#[100, 108, 112]⟩] : List ByteArray) from ((S.u 1 rfl)).1).cell (r_t42).toNat (by first | omega | (simp only [List.length_cons, List.length_nil]; omega)) 0 _ rfl))<|tr (fldi 0 4 rfl uT65)<|la (stk 5 rfl rfl rfl)) ?_; clear S; intro a u S
  refine rs0 ?_
  refine sp S (tr (fldi 0 0 rfl uT28)<|tr (ldk 2 sC23 rfl rfl rfl)<|la (ldkw 5 rfl rfl wD65)) ?_; clear S; intro a u S
  refine nbs devE S [(⟨(([⟨#[114, 49]⟩, ⟨#[114, 50]⟩, ⟨#[114, 51]⟩, ⟨#[114, 52]⟩, ⟨#[114, 53]⟩, ⟨#[114, 54]⟩] : List ByteArray).getD i strE.dflt), (([4096, 400, 60, 20, 5, 0]).getD ((x28_18).toNat) intE.dflt), bv34, bv37, (([⟨#[]⟩, ⟨#[105, 112, 115]⟩, ⟨#[100, 108, 112]⟩] : List ByteArray).getD ((r_t42).toNat) strE.dflt)⟩ : Dev)] (x_bs S [(0, .agg #[.string (([⟨#[114, 49]⟩, ⟨#[114, 50]⟩, ⟨#[114, 51]⟩, ⟨#[114, 52]⟩, ⟨#[114, 53]⟩, ⟨#[114, 54]⟩] : List ByteArray).getD i strE.dflt), iI (([4096, 400, 60, 20, 5, 0]).getD ((x28_18).toNat) intE.dflt), bD (bv34 = true), bD (bv37 = true), .string (([⟨#[]⟩, ⟨#[105, 112, 115]⟩, ⟨#[100, 108, 112]⟩] : List ByteArray).getD ((r_t42).toNat) strE.dflt)])] uT23 iZ65) (fun x hx => by simp only [List.mem_cons, List.not_mem_nil, or_false] at hx; rw [hx]; exact (show devE.wf _ _ (⟨(([⟨#[114, 49]⟩, ⟨#[114, 50]⟩, ⟨#[114, 51]⟩, ⟨#[114, 52]⟩, ⟨#[114, 53]⟩, ⟨#[114, 54]⟩] : List ByteArray).getD i strE.dflt), (([4096, 400, 60, 20, 5, 0]).getD ((x28_18).toNat) intE.dflt), bv34, bv37, (([⟨#[]⟩, ⟨#[105, 112, 115]⟩, ⟨#[100, 108, 112]⟩] : List ByteArray).getD ((r_t42).toNat) strE.dflt)⟩ : Dev) from ⟨((show LAt strE _ _ (some ⟨x22_16, 0, none⟩) ([⟨#[114, 49]⟩, ⟨#[114, 50]⟩, ⟨#[114, 51]⟩, ⟨#[114, 52]⟩, ⟨#[114, 53]⟩, ⟨#[114, 54]⟩] : List ByteArray) from (X16).1).wf i (by first | omega | (simp only [List.length_cons, List.length_nil]; omega))), ((show LAt intE _ _ (some ⟨x26_17, 0, none⟩) ([4096, 400, 60, 20, 5, 0]) from (X17).1).wf (x28_18).toNat (by first | omega | (simp only [List.length_cons, List.length_nil]; omega))), trivial, trivial, ((show LAt strE _ _ (some ⟨b40, 0, none⟩) ([⟨#[]⟩, ⟨#[105, 112, 115]⟩, ⟨#[100, 108, 112]⟩] : List ByteArray) from ((S.u 1 rfl)).1).wf (r_t42).toNat (by first | omega | (simp only [List.length_cons, List.length_nil]; omega)))⟩)) ?_; clear S; intro a u b49 S
  refine ap (E := devE) (ys := [(⟨(([⟨#[114, 49]⟩, ⟨#[114, 50]⟩, ⟨#[114, 51]⟩, ⟨#[114, 52]⟩, ⟨#[114, 53]⟩, ⟨#[114, 54]⟩] : List ByteArray).getD i strE.dflt), (([4096, 400, 60, 20, 5, 0]).getD ((x28_18).toNat) intE.dflt), bv34, bv37, (([⟨#[]⟩, ⟨#[105, 112, 115]⟩, ⟨#[100, 108, 112]⟩] : List ByteArray).getD ((r_t42).toNat) strE.dflt)⟩ : Dev)]) S 3 rfl uT23 iZ65 rfl rfl (show LAt devE _ _ (some ⟨b49, 0, none⟩) ([(⟨(([⟨#[114, 49]⟩, ⟨#[114, 50]⟩, ⟨#[114, 51]⟩, ⟨#[114, 52]⟩, ⟨#[114, 53]⟩, ⟨#[114, 54]⟩] : List ByteArray).getD i strE.dflt), (([4096, 400, 60, 20, 5, 0]).getD ((x28_18).toNat) intE.dflt), bv34, bv37, (([⟨#[]⟩, ⟨#[105, 112, 115]⟩, ⟨#[100, 108, 112]⟩] : List ByteArray).getD ((r_t42).toNat) strE.dflt)⟩ : Dev)]) from ((S.u 2 rfl)).1) ((S.u 2 rfl)).2.2 (LAt.mem (show LAt devE _ _ (some ⟨b49, 0, none⟩) ([(⟨(([⟨#[114, 49]⟩, ⟨#[114, 50]⟩, ⟨#[114, 51]⟩, ⟨#[114, 52]⟩, ⟨#[114, 53]⟩, ⟨#[114, 54]⟩] : List ByteArray).getD i strE.dflt), (([4096, 400, 60, 20, 5, 0]).getD ((x28_18).toNat) intE.dflt), bv34, bv37, (([⟨#[]⟩, ⟨#[105, 112, 115]⟩, ⟨#[100, 108, 112]⟩] : List ByteArray).getD ((r_t42).toNat) strE.dflt)⟩ : Dev)]) from ((S.u 2 rfl)).1)) ⟨by unfold maxLen; (try simp only [List.length_cons, List.length_nil, List.length_append, List.length_map]); omega, by (try simp only [List.length_cons, List.length_nil, List.length_append, List.length_map]); omega⟩ ?_; clear S; intro a u ad50 cap50 S
  refine ens S (tr (fldi 0 0 rfl uT28)<|la (stk 2 rfl rfl rfl)) ?_; clear S; intro a u S
  refine rs S (tr (mv rfl)<|la (gtri rfl rfl)) ?_; clear S; intro a u S
  refine cd S rfl ?_ ?_
  ·intro hc1
   refine dr (P := Try.prog) S 13 [one T] [(54, .is _), (55, .is _), (56, .is _), (57, .is _), (58, .of (fun z w => ∃ (x58a : Int), z = iI x58a ∧ (0 ≤ x58a ∧ (x58a < ((i : Nat) : Int) ∨ x58a = 0))) (fun v w w' c h => let ⟨x58a, hv, h0⟩ := h; ⟨x58a, hv, h0⟩)), (59, .is _), (60, .of (fun z w => ∃ (x60a : Nat), z = .slice (some ⟨x60a, 0, none⟩) 4 4 ∧ (slE intE).wf (Fr F [one T, one b4, one b5, abk ad50, abk ls_a, one x7_19]) w.heap (Sl.mk (some ⟨x60a, 0, none⟩) 4 ([1, 2, 3, 1000]))) (fun v w w' c h => let ⟨x60a, hv, h0⟩ := h; ⟨x60a, hv, Enc.kp (slE intE) h0 c (by intro o h; simp at h ⊢; first | exact .inl h | simp [h])⟩)), (61, .is _), (62, .of (fun z w => ∃ (x62a : Int), z = iI x62a ∧ (0 ≤ x62a ∧ (x62a < 4 ∨ x62a = 0))) (fun v w w' c h => let ⟨x62a, hv, h0⟩ := h; ⟨x62a, hv, h0⟩)), (63, .of (fun z w => ∃ (x60a : Nat) (x62b : Int), z = pT (blk (some ⟨x60a, 0, none⟩)) (off (some ⟨x60a, 0, none⟩) + (x62b).toNat * 1) ∧ (slE intE).wf (Fr F [one T, one b4, one b5, abk ad50, abk ls_a, one x7_19]) w.heap (Sl.mk (some ⟨x60a, 0, none⟩) 4 ([1, 2, 3, 1000])) ∧ (0 ≤ x62b ∧ (x62b < 4 ∨ x62b = 0))) (fun v w w' c h => let ⟨x60a, x62b, hv, h0, h1⟩ := h; ⟨x60a, x62b, hv, Enc.kp (slE intE) h0 c (by intro o h; simp at h ⊢; first | exact .inl h | simp [h]), h1⟩)), (64, .of (fun z w => ∃ (x60a : Nat) (x62b : Int), z = iI (([1, 2, 3, 1000]).getD ((x62b).toNat) intE.dflt) ∧ (slE intE).wf (Fr F [one T, one b4, one b5, abk ad50, abk ls_a, one x7_19]) w.heap (Sl.mk (some ⟨x60a, 0, none⟩) 4 ([1, 2, 3, 1000])) ∧ (0 ≤ x62b ∧ (x62b < 4 ∨ x62b = 0))) (fun v w w' c h => let ⟨x60a, x62b, hv, h0, h1⟩ := h; ⟨x60a, x62b, hv, Enc.kp (slE intE) h0 c (by intro o h; simp at h ⊢; first | exact .inl h | simp [h]), h1⟩)), (65, .of (fun z w => ∃ (x58a : Int) (x60b : Nat) (x62c : Int), z = .agg #[iI x58a, iN i, iI (([1, 2, 3, 1000]).getD ((x62c).toNat) intE.dflt)] ∧ (0 ≤ x58a ∧ (x58a < ((i : Nat) : Int) ∨ x58a = 0)) ∧ (slE intE).wf (Fr F [one T, one b4, one b5, abk ad50, abk ls_a, one x7_19]) w.heap (Sl.mk (some ⟨x60b, 0, none⟩) 4 ([1, 2, 3, 1000])) ∧ (0 ≤ x62c ∧ (x62c < 4 ∨ x62c = 0))) (fun v w w' c h => let ⟨x58a, x60b, x62c, hv, h0, h1, h2⟩ := h; ⟨x58a, x60b, x62c, hv, h0, Enc.kp (slE intE) h1 c (by intro o h; simp at h ⊢; first | exact .inl h | simp [h]), h2⟩)), (66, .of (fun z w => ∃ (x66a : Nat) (x58b : Int) (x60c : Nat) (x62d : Int), z = .slice (some ⟨x66a, 0, none⟩) 1 1 ∧ (slE lnkE).wf (Fr F [one T, one b4, one b5, abk ad50, abk ls_a, one x7_19]) w.heap (Sl.mk (some ⟨x66a, 0, none⟩) 1 ([(⟨x58b, ((i : Nat) : Int), (([1, 2, 3, 1000]).getD ((x62d).toNat) intE.dflt)⟩ : Lnk)])) ∧ (0 ≤ x58b ∧ (x58b < ((i : Nat) : Int) ∨ x58b = 0)) ∧ (slE intE).wf (Fr F [one T, one b4, one b5, abk ad50, abk ls_a, one x7_19]) w.heap (Sl.mk (some ⟨x60c, 0, none⟩) 4 ([1, 2, 3, 1000])) ∧ (0 ≤ x62d ∧ (x62d < 4 ∨ x62d = 0))) (fun v w w' c h => let ⟨x66a, x58b, x60c, x62d, hv, h0, h1, h2, h3⟩ := h; ⟨x66a, x58b, x60c, x62d, hv, Enc.kp (slE lnkE) h0 c (by intro o h; simp at h ⊢; first | exact .inl h | simp [h]), h1, Enc.kp (slE intE) h2 c (by intro o h; simp at h ⊢; first | exact .inl h | simp [h]), h3⟩))] [[], [54], [], [], [56, 57], [], [], [], [61], [60, 62], [63], [58, 59, 64], [65]] [55, 66] _ ⟨qd (fldi 0 1 rfl uT28), qd (ldk 2 sC24 rfl rfl rfl), qd (mv rfl), qd (mv rfl), ?_, qd (mv rfl), ?_, qd (mv rfl), ?_, ?_, ?_, ?_, ?_, trivial⟩ ?_
   ·skip
    intro a u S G hE
    refine hcl S (gNext _ _ S.x T (S.M.pick [0] (by decide)) T_l (dn1 (js := [0]) (S.u 0 rfl)) (S.t 0 rfl) ((i : Nat) : Int) ⟨by omega, by omega⟩) cB23 ?_
    rintro e w2 ⟨r_h58, rfl, hr_h58, tK, T0⟩; refine ⟨_, rfl, (show ∃ _, _ from ?_), T0.ch, (S.k1 0 rfl S.s T0 tK).m⟩
    exact ⟨r_h58, rfl, hr_h58⟩
   ·skip
    intro a u S G hE
    refine hnb 60 S.m (x_bsl [(0, iI 1), (1, iI 2), (2, iI 3), (3, iI 1000)] [iI 1, iI 2, iI 3, iI 1000] uT22 iZ3 (by decide) (by decide) (by simp only [List.map_cons, List.map_nil, S.e (x := .const (iI 1)) (v := iI 1) rfl, S.e (x := .const (iI 2)) (v := iI 2) rfl, S.e (x := .const (iI 3)) (v := iI 3) rfl, S.e (x := .const (iI 1000)) (v := iI 1000) rfl]) (by kernel_rfl)) fun g => (show ∃ _, _ from ⟨_, rfl, sl_of_blk (Blk.new _ [iI 1, iI 2, iI 3, iI 1000] 3) [1, 2, 3, 1000] 4 rfl (by decide) (by decide) rfl (fr_fresh S.m.c S.m.f rfl) ?_⟩)
    intro x hx; simp only [List.mem_cons, List.not_mem_nil, or_false] at hx; rcases hx with hx | hx | hx | hx <;> rw [hx] <;> first | exact Enc.tr (intE) (show intE.wf (Fr F (ow _)) _ 1 from (show inI64 1 from ⟨by omega, by omega⟩)) (Tr.of_ch0 S.M g) | exact Enc.tr (intE) (show intE.wf (Fr F (ow _)) _ 2 from (show inI64 2 from ⟨by omega, by omega⟩)) (Tr.of_ch0 S.M g) | exact Enc.tr (intE) (show intE.wf (Fr F (ow _)) _ 3 from (show inI64 3 from ⟨by omega, by omega⟩)) (Tr.of_ch0 S.M g) | exact Enc.tr (intE) (show intE.wf (Fr F (ow _)) _ 1000 from (show inI64 1000 from ⟨by omega, by omega⟩)) (Tr.of_ch0 S.M g)
   ·skip
    intro a u S G hE
    refine hcl S (gNext _ _ S.x T (S.M.pick [0] (by decide)) T_l (dn1 (js := [0]) (S.u 0 rfl)) (S.t 0 rfl) 4 ⟨by omega, by omega⟩) cB23 ?_
    rintro e w2 ⟨r_h62, rfl, hr_h62, tK, T0⟩; refine ⟨_, rfl, (show ∃ _, _ from ?_), T0.ch, (S.k1 0 rfl S.s T0 tK).m⟩
    exact ⟨r_h62, rfl, hr_h62⟩
   ·skip
    intro a u S G hE
    obtain ⟨e60, e62, -⟩ := hE
    have M0 := S.m
    obtain ⟨x60_25, e60, X25⟩ := e60
    replace S := S.ext e60
    obtain ⟨x62_26, e62, hr26⟩ := e62
    replace S := S.ext e62
    exact hvl 63 S M0 (v := pT (blk (some ⟨x60_25, 0, none⟩)) (off (some ⟨x60_25, 0, none⟩) + (x62_26).toNat * 1)) (x_idx uT22 sZ3 (S.e rfl) (S.e rfl) (x62_26).toNat (by omega) (by first | omega | (simp only [List.length_cons, List.length_nil]; omega)) ((show LAt intE _ _ (some ⟨x60_25, 0, none⟩) ([1, 2, 3, 1000]) from (X25).1).adr (i := (x62_26).toNat) (by first | omega | (simp only [List.length_cons, List.length_nil]; omega)))) (show ∃ _, _ from ⟨x60_25, x62_26, rfl, X25, hr26⟩)
   ·skip
    intro a u S G hE
    obtain ⟨e63, -⟩ := hE
    have M0 := S.m
    obtain ⟨x60_27, x62_28, e63, X27, hr28⟩ := e63
    replace S := S.ext e63
    obtain ⟨hl29, hu29⟩ : inI64 (([1, 2, 3, 1000]).getD ((x62_28).toNat) intE.dflt) := id ((show LAt intE _ _ (some ⟨x60_27, 0, none⟩) ([1, 2, 3, 1000]) from (X27).1).wf (x62_28).toNat (by first | omega | (simp only [List.length_cons, List.length_nil]; omega)))
    exact hvl 64 S M0 (v := iI (([1, 2, 3, 1000]).getD ((x62_28).toNat) intE.dflt)) (x_load sC3 (S.e rfl) ((show LAt intE _ _ (some ⟨x60_27, 0, none⟩) ([1, 2, 3, 1000]) from (X27).1).cell (x62_28).toNat (by first | omega | (simp only [List.length_cons, List.length_nil]; omega)) 0 _ rfl)) (show ∃ _, _ from ⟨x60_27, x62_28, rfl, X27, hr28⟩)
   ·skip
    intro a u S G hE
    obtain ⟨e58, e64, -⟩ := hE
    have M0 := S.m
    obtain ⟨x58_30, e58, hr30⟩ := e58
    replace S := S.ext e58
    obtain ⟨x60_31, x62_32, e64, X31, hr32⟩ := e64
    replace S := S.ext e64
    exact hvl 65 S M0 (v := .agg #[iI x58_30, iN i, iI (([1, 2, 3, 1000]).getD ((x62_32).toNat) intE.dflt)]) (x_bd S [(0, iI x58_30), (1, iN i), (2, iI (([1, 2, 3, 1000]).getD ((x62_32).toNat) intE.dflt))] [iI x58_30, iN i, iI (([1, 2, 3, 1000]).getD ((x62_32).toNat) intE.dflt)]) (show ∃ _, _ from ⟨x58_30, x60_31, x62_32, rfl, hr30, X31, hr32⟩)
   ·skip
    intro a u S G hE
    obtain ⟨e65, -⟩ := hE
    have M0 := S.m
    obtain ⟨x58_33, x60_34, x62_35, e65, hr33, X34, hr35⟩ := e65
    replace S := S.ext e65
    refine hnb 66 M0 (x_bsl [(0, .agg #[iI x58_33, iN i, iI (([1, 2, 3, 1000]).getD ((x62_35).toNat) intE.dflt)])] [iI x58_33, iN i, iI (([1, 2, 3, 1000]).getD ((x62_35).toNat) intE.dflt)] uT24 iZ54 (by decide) (by decide) (by simp only [List.map_cons, List.map_nil, S.e (x := .tmp 65) (v := .agg #[iI x58_33, iN i, iI (([1, 2, 3, 1000]).getD ((x62_35).toNat) intE.dflt)]) rfl]) (by kernel_rfl)) fun g => (show ∃ _, _ from ⟨_, x58_33, x60_34, x62_35, rfl, sl_of_blk (Blk.new _ [iI x58_33, iN i, iI (([1, 2, 3, 1000]).getD ((x62_35).toNat) intE.dflt)] 54) [(⟨x58_33, ((i : Nat) : Int), (([1, 2, 3, 1000]).getD ((x62_35).toNat) intE.dflt)⟩ : Lnk)] 1 rfl (by decide) (by decide) rfl (fr_fresh S.m.c S.m.f rfl) ?_, hr33, Enc.tr (slE intE) X34 (Tr.of_ch0 S.M g), hr35⟩)
    intro x hx; simp only [List.mem_cons, List.not_mem_nil, or_false] at hx; rw [hx] <;> first | exact Enc.tr (lnkE) (show lnkE.wf (Fr F (ow _)) _ (⟨x58_33, ((i : Nat) : Int), (([1, 2, 3, 1000]).getD ((x62_35).toNat) intE.dflt)⟩ : Lnk) from ⟨(show inI64 x58_33 from ⟨by omega, by omega⟩), (show inI64 ((i : Nat) : Int) from ⟨by omega, by omega⟩), ((show LAt intE _ _ (some ⟨x60_34, 0, none⟩) ([1, 2, 3, 1000]) from (X34).1).wf (x62_35).toNat (by first | omega | (simp only [List.length_cons, List.length_nil]; omega)))⟩) (Tr.of_ch0 S.M g)
   clear S; intro a u S G hE
   obtain ⟨e66, -⟩ := hE
   obtain ⟨x66_36, x58_37, x60_38, x62_39, e66, X36, hr37, X38, hr39⟩ := e66
   replace S := S.ext e66
   clear e66
   replace S := S.ar (wfF (slE lnkE) (Sl.mk (some ⟨x66_36, 0, none⟩) 1 ([(⟨x58_37, ((i : Nat) : Int), (([1, 2, 3, 1000]).getD ((x62_39).toNat) intE.dflt)⟩ : Lnk)]))) X36
   replace S := S.ar (wfF (slE intE) (Sl.mk (some ⟨x60_38, 0, none⟩) 4 ([1, 2, 3, 1000]))) X38
   have hn40 : ([(⟨x58_37, ((i : Nat) : Int), (([1, 2, 3, 1000]).getD ((x62_39).toNat) intE.dflt)⟩ : Lnk)]).length ≤ 9223372036854775807 := ((S.u 3 rfl)).1.len
   refine ap (E := lnkE) (ys := [(⟨x58_37, ((i : Nat) : Int), (([1, 2, 3, 1000]).getD ((x62_39).toNat) intE.dflt)⟩ : Lnk)]) S 4 rfl uT24 iZ54 rfl rfl (show LAt lnkE _ _ (some ⟨x66_36, 0, none⟩) ([(⟨x58_37, ((i : Nat) : Int), (([1, 2, 3, 1000]).getD ((x62_39).toNat) intE.dflt)⟩ : Lnk)]) from ((S.u 3 rfl)).1) ((S.u 3 rfl)).2.2 (LAt.mem (show LAt lnkE _ _ (some ⟨x66_36, 0, none⟩) ([(⟨x58_37, ((i : Nat) : Int), (([1, 2, 3, 1000]).getD ((x62_39).toNat) intE.dflt)⟩ : Lnk)]) from ((S.u 3 rfl)).1)) ⟨by unfold maxLen; (try simp only [List.length_cons, List.length_nil, List.length_append, List.length_map]); omega, by (try simp only [List.length_cons, List.length_nil, List.length_append, List.length_map]); omega⟩ ?_; clear S; intro a u ad67 cap67 S
   refine en S (tr (fldi 0 1 rfl uT28)<|la (stk 2 rfl rfl rfl)) ?_; clear S; intro a u S
   refine blk_n (then_n ?_)
   refine rg S (tr (mv rfl)<|tr (addi ((i + 1 : Nat) : Int) rfl rfl (w_i64 (by omega)))<|la (av rfl)) ?_; clear S; intro a u S
   refine then_n ?_
   refine ⟨(i + 1), ad50, cap50, (ds ++ [(⟨(([⟨#[114, 49]⟩, ⟨#[114, 50]⟩, ⟨#[114, 51]⟩, ⟨#[114, 52]⟩, ⟨#[114, 53]⟩, ⟨#[114, 54]⟩] : List ByteArray).getD i strE.dflt), (([4096, 400, 60, 20, 5, 0]).getD ((x28_18).toNat) intE.dflt), bv34, bv37, (([⟨#[]⟩, ⟨#[105, 112, 115]⟩, ⟨#[100, 108, 112]⟩] : List ByteArray).getD ((r_t42).toNat) strE.dflt)⟩ : Dev)]), ad67, cap67, (ls ++ [(⟨x58_37, ((i : Nat) : Int), (([1, 2, 3, 1000]).getD ((x62_39).toNat) intE.dflt)⟩ : Lnk)]), S.re (subM rfl) rfl rfl, ?_, ?_⟩
   ·refine ⟨by omega, by first | omega | (simp only [List.length_append, List.length_cons, List.length_nil]; omega), snocD hdl hd ⟨rfl, (caps_fine _).1, (caps_fine _).2, classes_fine _⟩, by first | omega | (simp only [List.length_append, List.length_cons, List.length_nil]; omega), ?_⟩
    first | exact hl | exact all_snoc hl (lnk_mk (by omega) (by omega) (by omega) (costs_fine _ (by omega)))
   omega
  intro hc2
  refine wp_skip (blk_n (then_n ?_))
  refine rg S (tr (mv rfl)<|tr (addi ((i + 1 : Nat) : Int) rfl rfl (w_i64 (by omega)))<|la (av rfl)) ?_; clear S; intro a u S
  refine then_n ?_
  refine ⟨(i + 1), ad50, cap50, (ds ++ [(⟨(([⟨#[114, 49]⟩, ⟨#[114, 50]⟩, ⟨#[114, 51]⟩, ⟨#[114, 52]⟩, ⟨#[114, 53]⟩, ⟨#[114, 54]⟩] : List ByteArray).getD i strE.dflt), (([4096, 400, 60, 20, 5, 0]).getD ((x28_18).toNat) intE.dflt), bv34, bv37, (([⟨#[]⟩, ⟨#[105, 112, 115]⟩, ⟨#[100, 108, 112]⟩] : List ByteArray).getD ((r_t42).toNat) strE.dflt)⟩ : Dev)]), ls_a, ls_c, ls, S.re (subM rfl) rfl rfl, ?_, ?_⟩
  ·refine ⟨by omega, by first | omega | (simp only [List.length_append, List.length_cons, List.length_nil]; omega), snocD hdl hd ⟨rfl, (caps_fine _).1, (caps_fine _).2, classes_fine _⟩, by first | omega | (simp only [List.length_append, List.length_cons, List.length_nil]; omega), ?_⟩
   first | exact hl | exact all_snoc hl (lnk_mk (by omega) (by omega) (by omega) (costs_fine _ (by omega)))
  omega
 intro hc3
 refine wp_exit (then_e (then_e (blk_e (then_n (wp_seq (rs0 ?_))))))
 refine sp S (la (mv rfl)) ?_; clear S; intro a u S
 refine cl S (gNext _ _ S.x T (S.M.pick [0] (by decide)) T_l (dn1 (js := [0]) (S.u 0 rfl)) (S.t 0 rfl) 4 ⟨by omega, by omega⟩) cB23 ?_
 rintro e u ⟨r_t70, rfl, hr_t70, tK, T0⟩; refine ⟨_, rfl, fun a s => ?_⟩
 replace S := S.k1 0 rfl s T0 tK; clear s T0 tK
 refine ens S (la (av rfl)) ?_; clear S; intro a u S
 refine wp_block ?_
 refine lp4 (fun (c : Int) (l2_a : Option Addr) (l2_c : Nat) (l2 : List Lnk) => [(0, pT T 0), (1, iN nn), (4, pT b4 0), (5, pT b5 0), (8, iI c)]) (fun (c : Int) (l2_a : Option Addr) (l2_c : Nat) (l2 : List Lnk) => [tpO 62 T T_l, blO b4 [.slice none 0 0, .slice none 0 0, .slice none 0 0, .slice none 0 0, iI 0] 28, blO b5 [.slice ds_a ds.length ds_c, .slice l2_a l2.length l2_c, .slice none 0 0, .slice none 0 0, iI 0] 28, rwO devE 65 w.heap.size ds_a ds_c ds, rwO lnkE 54 w.heap.size l2_a l2_c l2]) (fun (c : Int) (l2_a : Option Addr) (l2_c : Nat) (l2 : List Lnk) => 0 ≤ c ∧ c ≤ 3 ∧ (l2.length : Int) ≤ 9 - c ∧ ∀ l ∈ l2, lnkV nn l) (fun (c : Int) (l2_a : Option Addr) (l2_c : Nat) (l2 : List Lnk) => c.toNat) S r_t70 ls_a ls_c ls (subM rfl) rfl ?_ ?_
 ·exact ⟨by omega, by omega, by omega, hl⟩
 clear S; intro c l2_a l2_c l2 a u S hR
 have l2_len := (S.row 4 rfl).len_le; simp only [maxLen] at l2_len
 obtain ⟨hc0_, hc3_, hl2l, hl2⟩ := hR
 refine wp_seq ?_
 refine rs S (tr (mv rfl)<|tr (gtri rfl rfl)<|tr (mv rfl)<|tr (og 73 rfl gt fun S hg=>x_move (S.e rfl))<|tr (og 73 rfl gt fun S hg=>x_gtr (S.p rfl hg) (S.e rfl))<|la (andi rfl rfl rfl)) ?_; clear S; intro a u S
 refine cd S rfl ?_ ?_
 ·intro hc4
  refine wp_skip (then_n (wp_seq (wp_block (rs0 ?_))))
  refine sp S (tr (mv rfl)<|tr (mv rfl)<|la (subi (((nn : Nat) : Int) - 1) rfl rfl (w_i64 (by omega)))) ?_; clear S; intro a u S
  refine cl S (gNext _ _ S.x T (S.M.pick [0] (by decide)) T_l (dn1 (js := [0]) (S.u 0 rfl)) (S.t 0 rfl) (((nn : Nat) : Int) - 1) ⟨by omega, by omega⟩) cB23 ?_
  rintro e u ⟨r_t82, rfl, hr_t82, tK, T0⟩; refine ⟨_, rfl, fun a s => ?_⟩
  replace S := S.k1 0 rfl s T0 tK; clear s T0 tK
  refine ens S (tr (addi (1 + r_t82) rfl rfl (w_i64 (by omega)))<|la (av rfl)) ?_; clear S; intro a u S
  refine dr (P := Try.prog) S 13 [one T] [(84, .is _), (85, .is _), (86, .is _), (87, .is _), (88, .of (fun z w => ∃ (x88a : Int), z = iI x88a ∧ (0 ≤ x88a ∧ (x88a < (1 + r_t82) ∨ x88a = 0))) (fun v w w' c h => let ⟨x88a, hv, h0⟩ := h; ⟨x88a, hv, h0⟩)), (89, .is _), (90, .of (fun z w => ∃ (x90a : Nat), z = .slice (some ⟨x90a, 0, none⟩) 4 4 ∧ (slE intE).wf (Fr F [one T, one b4, one b5, abk ds_a, abk l2_a]) w.heap (Sl.mk (some ⟨x90a, 0, none⟩) 4 ([1, 2, 3, 1000]))) (fun v w w' c h => let ⟨x90a, hv, h0⟩ := h; ⟨x90a, hv, Enc.kp (slE intE) h0 c (by intro o h; simp at h ⊢; first | exact .inl h | simp [h])⟩)), (91, .is _), (92, .of (fun z w => ∃ (x92a : Int), z = iI x92a ∧ (0 ≤ x92a ∧ (x92a < 4 ∨ x92a = 0))) (fun v w w' c h => let ⟨x92a, hv, h0⟩ := h; ⟨x92a, hv, h0⟩)), (93, .of (fun z w => ∃ (x90a : Nat) (x92b : Int), z = pT (blk (some ⟨x90a, 0, none⟩)) (off (some ⟨x90a, 0, none⟩) + (x92b).toNat * 1) ∧ (slE intE).wf (Fr F [one T, one b4, one b5, abk ds_a, abk l2_a]) w.heap (Sl.mk (some ⟨x90a, 0, none⟩) 4 ([1, 2, 3, 1000])) ∧ (0 ≤ x92b ∧ (x92b < 4 ∨ x92b = 0))) (fun v w w' c h => let ⟨x90a, x92b, hv, h0, h1⟩ := h; ⟨x90a, x92b, hv, Enc.kp (slE intE) h0 c (by intro o h; simp at h ⊢; first | exact .inl h | simp [h]), h1⟩)), (94, .of (fun z w => ∃ (x90a : Nat) (x92b : Int), z = iI (([1, 2, 3, 1000]).getD ((x92b).toNat) intE.dflt) ∧ (slE intE).wf (Fr F [one T, one b4, one b5, abk ds_a, abk l2_a]) w.heap (Sl.mk (some ⟨x90a, 0, none⟩) 4 ([1, 2, 3, 1000])) ∧ (0 ≤ x92b ∧ (x92b < 4 ∨ x92b = 0))) (fun v w w' c h => let ⟨x90a, x92b, hv, h0, h1⟩ := h; ⟨x90a, x92b, hv, Enc.kp (slE intE) h0 c (by intro o h; simp at h ⊢; first | exact .inl h | simp [h]), h1⟩)), (95, .of (fun z w => ∃ (x88a : Int) (x90b : Nat) (x92c : Int), z = .agg #[iI x88a, iI (1 + r_t82), iI (([1, 2, 3, 1000]).getD ((x92c).toNat) intE.dflt)] ∧ (0 ≤ x88a ∧ (x88a < (1 + r_t82) ∨ x88a = 0)) ∧ (slE intE).wf (Fr F [one T, one b4, one b5, abk ds_a, abk l2_a]) w.heap (Sl.mk (some ⟨x90b, 0, none⟩) 4 ([1, 2, 3, 1000])) ∧ (0 ≤ x92c ∧ (x92c < 4 ∨ x92c = 0))) (fun v w w' c h => let ⟨x88a, x90b, x92c, hv, h0, h1, h2⟩ := h; ⟨x88a, x90b, x92c, hv, h0, Enc.kp (slE intE) h1 c (by intro o h; simp at h ⊢; first | exact .inl h | simp [h]), h2⟩)), (96, .of (fun z w => ∃ (x96a : Nat) (x88b : Int) (x90c : Nat) (x92d : Int), z = .slice (some ⟨x96a, 0, none⟩) 1 1 ∧ (slE lnkE).wf (Fr F [one T, one b4, one b5, abk ds_a, abk l2_a]) w.heap (Sl.mk (some ⟨x96a, 0, none⟩) 1 ([(⟨x88b, (1 + r_t82), (([1, 2, 3, 1000]).getD ((x92d).toNat) intE.dflt)⟩ : Lnk)])) ∧ (0 ≤ x88b ∧ (x88b < (1 + r_t82) ∨ x88b = 0)) ∧ (slE intE).wf (Fr F [one T, one b4, one b5, abk ds_a, abk l2_a]) w.heap (Sl.mk (some ⟨x90c, 0, none⟩) 4 ([1, 2, 3, 1000])) ∧ (0 ≤ x92d ∧ (x92d < 4 ∨ x92d = 0))) (fun v w w' c h => let ⟨x96a, x88b, x90c, x92d, hv, h0, h1, h2, h3⟩ := h; ⟨x96a, x88b, x90c, x92d, hv, Enc.kp (slE lnkE) h0 c (by intro o h; simp at h ⊢; first | exact .inl h | simp [h]), h1, Enc.kp (slE intE) h2 c (by intro o h; simp at h ⊢; first | exact .inl h | simp [h]), h3⟩))] [[], [84], [], [], [86, 87], [], [], [], [91], [90, 92], [93], [88, 89, 94], [95]] [85, 96] _ ⟨qd (fldi 0 1 rfl uT28), qd (ldk 2 sC24 rfl rfl rfl), qd (mv rfl), qd (mv rfl), ?_, qd (mv rfl), ?_, qd (mv rfl), ?_, ?_, ?_, ?_, ?_, trivial⟩ ?_
  ·skip
   intro a u S G hE
   refine hcl S (gNext _ _ S.x T (S.M.pick [0] (by decide)) T_l (dn1 (js := [0]) (S.u 0 rfl)) (S.t 0 rfl) (1 + r_t82) ⟨by omega, by omega⟩) cB23 ?_
   rintro e w2 ⟨r_h88, rfl, hr_h88, tK, T0⟩; refine ⟨_, rfl, (show ∃ _, _ from ?_), T0.ch, (S.k1 0 rfl S.s T0 tK).m⟩
   exact ⟨r_h88, rfl, hr_h88⟩
  ·skip
   intro a u S G hE
   refine hnb 90 S.m (x_bsl [(0, iI 1), (1, iI 2), (2, iI 3), (3, iI 1000)] [iI 1, iI 2, iI 3, iI 1000] uT22 iZ3 (by decide) (by decide) (by simp only [List.map_cons, List.map_nil, S.e (x := .const (iI 1)) (v := iI 1) rfl, S.e (x := .const (iI 2)) (v := iI 2) rfl, S.e (x := .const (iI 3)) (v := iI 3) rfl, S.e (x := .const (iI 1000)) (v := iI 1000) rfl]) (by kernel_rfl)) fun g => (show ∃ _, _ from ⟨_, rfl, sl_of_blk (Blk.new _ [iI 1, iI 2, iI 3, iI 1000] 3) [1, 2, 3, 1000] 4 rfl (by decide) (by decide) rfl (fr_fresh S.m.c S.m.f rfl) ?_⟩)
   intro x hx; simp only [List.mem_cons, List.not_mem_nil, or_false] at hx; rcases hx with hx | hx | hx | hx <;> rw [hx] <;> first | exact Enc.tr (intE) (show intE.wf (Fr F (ow _)) _ 1 from (show inI64 1 from ⟨by omega, by omega⟩)) (Tr.of_ch0 S.M g) | exact Enc.tr (intE) (show intE.wf (Fr F (ow _)) _ 2 from (show inI64 2 from ⟨by omega, by omega⟩)) (Tr.of_ch0 S.M g) | exact Enc.tr (intE) (show intE.wf (Fr F (ow _)) _ 3 from (show inI64 3 from ⟨by omega, by omega⟩)) (Tr.of_ch0 S.M g) | exact Enc.tr (intE) (show intE.wf (Fr F (ow _)) _ 1000 from (show inI64 1000 from ⟨by omega, by omega⟩)) (Tr.of_ch0 S.M g)
  ·skip
   intro a u S G hE
   refine hcl S (gNext _ _ S.x T (S.M.pick [0] (by decide)) T_l (dn1 (js := [0]) (S.u 0 rfl)) (S.t 0 rfl) 4 ⟨by omega, by omega⟩) cB23 ?_
   rintro e w2 ⟨r_h92, rfl, hr_h92, tK, T0⟩; refine ⟨_, rfl, (show ∃ _, _ from ?_), T0.ch, (S.k1 0 rfl S.s T0 tK).m⟩
   exact ⟨r_h92, rfl, hr_h92⟩
  ·skip
   intro a u S G hE
   obtain ⟨e90, e92, -⟩ := hE
   have M0 := S.m
   obtain ⟨x90_46, e90, X46⟩ := e90
   replace S := S.ext e90
   obtain ⟨x92_47, e92, hr47⟩ := e92
   replace S := S.ext e92
   exact hvl 93 S M0 (v := pT (blk (some ⟨x90_46, 0, none⟩)) (off (some ⟨x90_46, 0, none⟩) + (x92_47).toNat * 1)) (x_idx uT22 sZ3 (S.e rfl) (S.e rfl) (x92_47).toNat (by omega) (by first | omega | (simp only [List.length_cons, List.length_nil]; omega)) ((show LAt intE _ _ (some ⟨x90_46, 0, none⟩) ([1, 2, 3, 1000]) from (X46).1).adr (i := (x92_47).toNat) (by first | omega | (simp only [List.length_cons, List.length_nil]; omega)))) (show ∃ _, _ from ⟨x90_46, x92_47, rfl, X46, hr47⟩)
  ·skip
   intro a u S G hE
   obtain ⟨e93, -⟩ := hE
   have M0 := S.m
   obtain ⟨x90_48, x92_49, e93, X48, hr49⟩ := e93
   replace S := S.ext e93
   obtain ⟨hl50, hu50⟩ : inI64 (([1, 2, 3, 1000]).getD ((x92_49).toNat) intE.dflt) := id ((show LAt intE _ _ (some ⟨x90_48, 0, none⟩) ([1, 2, 3, 1000]) from (X48).1).wf (x92_49).toNat (by first | omega | (simp only [List.length_cons, List.length_nil]; omega)))
   exact hvl 94 S M0 (v := iI (([1, 2, 3, 1000]).getD ((x92_49).toNat) intE.dflt)) (x_load sC3 (S.e rfl) ((show LAt intE _ _ (some ⟨x90_48, 0, none⟩) ([1, 2, 3, 1000]) from (X48).1).cell (x92_49).toNat (by first | omega | (simp only [List.length_cons, List.length_nil]; omega)) 0 _ rfl)) (show ∃ _, _ from ⟨x90_48, x92_49, rfl, X48, hr49⟩)
  ·skip
   intro a u S G hE
   obtain ⟨e88, e94, -⟩ := hE
   have M0 := S.m
   obtain ⟨x88_51, e88, hr51⟩ := e88
   replace S := S.ext e88
   obtain ⟨x90_52, x92_53, e94, X52, hr53⟩ := e94
   replace S := S.ext e94
   exact hvl 95 S M0 (v := .agg #[iI x88_51, iI (1 + r_t82), iI (([1, 2, 3, 1000]).getD ((x92_53).toNat) intE.dflt)]) (x_bd S [(0, iI x88_51), (1, iI (1 + r_t82)), (2, iI (([1, 2, 3, 1000]).getD ((x92_53).toNat) intE.dflt))] [iI x88_51, iI (1 + r_t82), iI (([1, 2, 3, 1000]).getD ((x92_53).toNat) intE.dflt)]) (show ∃ _, _ from ⟨x88_51, x90_52, x92_53, rfl, hr51, X52, hr53⟩)
  ·skip
   intro a u S G hE
   obtain ⟨e95, -⟩ := hE
   have M0 := S.m
   obtain ⟨x88_54, x90_55, x92_56, e95, hr54, X55, hr56⟩ := e95
   replace S := S.ext e95
   refine hnb 96 M0 (x_bsl [(0, .agg #[iI x88_54, iI (1 + r_t82), iI (([1, 2, 3, 1000]).getD ((x92_56).toNat) intE.dflt)])] [iI x88_54, iI (1 + r_t82), iI (([1, 2, 3, 1000]).getD ((x92_56).toNat) intE.dflt)] uT24 iZ54 (by decide) (by decide) (by simp only [List.map_cons, List.map_nil, S.e (x := .tmp 95) (v := .agg #[iI x88_54, iI (1 + r_t82), iI (([1, 2, 3, 1000]).getD ((x92_56).toNat) intE.dflt)]) rfl]) (by kernel_rfl)) fun g => (show ∃ _, _ from ⟨_, x88_54, x90_55, x92_56, rfl, sl_of_blk (Blk.new _ [iI x88_54, iI (1 + r_t82), iI (([1, 2, 3, 1000]).getD ((x92_56).toNat) intE.dflt)] 54) [(⟨x88_54, (1 + r_t82), (([1, 2, 3, 1000]).getD ((x92_56).toNat) intE.dflt)⟩ : Lnk)] 1 rfl (by decide) (by decide) rfl (fr_fresh S.m.c S.m.f rfl) ?_, hr54, Enc.tr (slE intE) X55 (Tr.of_ch0 S.M g), hr56⟩)
   intro x hx; simp only [List.mem_cons, List.not_mem_nil, or_false] at hx; rw [hx] <;> first | exact Enc.tr (lnkE) (show lnkE.wf (Fr F (ow _)) _ (⟨x88_54, (1 + r_t82), (([1, 2, 3, 1000]).getD ((x92_56).toNat) intE.dflt)⟩ : Lnk) from ⟨(show inI64 x88_54 from ⟨by omega, by omega⟩), (show inI64 (1 + r_t82) from ⟨by omega, by omega⟩), ((show LAt intE _ _ (some ⟨x90_55, 0, none⟩) ([1, 2, 3, 1000]) from (X55).1).wf (x92_56).toNat (by first | omega | (simp only [List.length_cons, List.length_nil]; omega)))⟩) (Tr.of_ch0 S.M g)
  clear S; intro a u S G hE
  obtain ⟨e96, -⟩ := hE
  obtain ⟨x96_57, x88_58, x90_59, x92_60, e96, X57, hr58, X59, hr60⟩ := e96
  replace S := S.ext e96
  clear e96
  replace S := S.ar (wfF (slE lnkE) (Sl.mk (some ⟨x96_57, 0, none⟩) 1 ([(⟨x88_58, (1 + r_t82), (([1, 2, 3, 1000]).getD ((x92_60).toNat) intE.dflt)⟩ : Lnk)]))) X57
  replace S := S.ar (wfF (slE intE) (Sl.mk (some ⟨x90_59, 0, none⟩) 4 ([1, 2, 3, 1000]))) X59
  have hn61 : ([(⟨x88_58, (1 + r_t82), (([1, 2, 3, 1000]).getD ((x92_60).toNat) intE.dflt)⟩ : Lnk)]).length ≤ 9223372036854775807 := ((S.u 1 rfl)).1.len
  refine ap (E := lnkE) (ys := [(⟨x88_58, (1 + r_t82), (([1, 2, 3, 1000]).getD ((x92_60).toNat) intE.dflt)⟩ : Lnk)]) S 4 rfl uT24 iZ54 rfl rfl (show LAt lnkE _ _ (some ⟨x96_57, 0, none⟩) ([(⟨x88_58, (1 + r_t82), (([1, 2, 3, 1000]).getD ((x92_60).toNat) intE.dflt)⟩ : Lnk)]) from ((S.u 1 rfl)).1) ((S.u 1 rfl)).2.2 (LAt.mem (show LAt lnkE _ _ (some ⟨x96_57, 0, none⟩) ([(⟨x88_58, (1 + r_t82), (([1, 2, 3, 1000]).getD ((x92_60).toNat) intE.dflt)⟩ : Lnk)]) from ((S.u 1 rfl)).1)) ⟨by unfold maxLen; (try simp only [List.length_cons, List.length_nil, List.length_append, List.length_map]); omega, by (try simp only [List.length_cons, List.length_nil, List.length_append, List.length_map]); omega⟩ ?_; clear S; intro a u ad97 cap97 S
  refine en S (tr (fldi 0 1 rfl uT28)<|la (stk 2 rfl rfl rfl)) ?_; clear S; intro a u S
  refine blk_n (then_n ?_)
  refine rg S (tr (mv rfl)<|tr (subi (c - 1) rfl rfl (w_i64 (by omega)))<|la (av rfl)) ?_; clear S; intro a u S
  refine then_n ?_
  refine ⟨(c - 1), ad97, cap97, (l2 ++ [(⟨x88_58, (1 + r_t82), (([1, 2, 3, 1000]).getD ((x92_60).toNat) intE.dflt)⟩ : Lnk)]), S.re (subM rfl) rfl rfl, ?_, ?_⟩
  ·exact ⟨by omega, by omega, by first | omega | (simp only [List.length_append, List.length_cons, List.length_nil]; omega), all_snoc hl2 (lnk_mk (by omega) (by omega) (by omega) (costs_fine _ (by omega)))⟩
  omega
 intro hc5
 refine wp_exit (then_e (then_e (blk_e (then_n (rs0 ?_)))))
 refine nbs intE S [2, 3, 4, 1, 5, 0] (x_bs S [(0, iI 2), (1, iI 3), (2, iI 4), (3, iI 1), (4, iI 5), (5, iI 0)] uT22 iZ3) (fun x hx => by simp only [List.mem_cons, List.not_mem_nil, or_false] at hx; rcases hx with hx | hx | hx | hx | hx | hx <;> rw [hx] <;> first | exact (show intE.wf _ _ 2 from (show inI64 2 from ⟨by omega, by omega⟩)) | exact (show intE.wf _ _ 3 from (show inI64 3 from ⟨by omega, by omega⟩)) | exact (show intE.wf _ _ 4 from (show inI64 4 from ⟨by omega, by omega⟩)) | exact (show intE.wf _ _ 1 from (show inI64 1 from ⟨by omega, by omega⟩)) | exact (show intE.wf _ _ 5 from (show inI64 5 from ⟨by omega, by omega⟩)) | exact (show intE.wf _ _ 0 from (show inI64 0 from ⟨by omega, by omega⟩))) ?_; clear S; intro a u b99 S
 refine sp S (la (mv rfl)) ?_; clear S; intro a u S
 refine cl S (gNext _ _ S.x T (S.M.pick [0] (by decide)) T_l (dn1 (js := [0]) (S.u 0 rfl)) (S.t 0 rfl) 6 ⟨by omega, by omega⟩) cB23 ?_
 rintro e u ⟨r_t101, rfl, hr_t101, tK, T0⟩; refine ⟨_, rfl, fun a s => ?_⟩
 replace S := S.k1 0 rfl s T0 tK; clear s T0 tK
 obtain ⟨hl64, hu64⟩ : inI64 (([2, 3, 4, 1, 5, 0]).getD ((r_t101).toNat) intE.dflt) := id ((show LAt intE _ _ (some ⟨b99, 0, none⟩) ([2, 3, 4, 1, 5, 0]) from ((S.u 1 rfl)).1).wf (r_t101).toNat (by first | omega | (simp only [List.length_cons, List.length_nil]; omega)))
 refine sp S (tr (idxi uT22 sZ3 rfl rfl (r_t101).toNat (by omega) (by first | omega | (simp only [List.length_cons, List.length_nil]; omega)) ((show LAt intE _ _ (some ⟨b99, 0, none⟩) ([2, 3, 4, 1, 5, 0]) from ((S.u 1 rfl)).1).adr (i := (r_t101).toNat) (by first | omega | (simp only [List.length_cons, List.length_nil]; omega))))<|la (ov fun S=>x_load sC3 (S.e rfl) ((show LAt intE _ _ (some ⟨b99, 0, none⟩) ([2, 3, 4, 1, 5, 0]) from ((S.u 1 rfl)).1).cell (r_t101).toNat (by first | omega | (simp only [List.length_cons, List.length_nil]; omega)) 0 _ rfl))) ?_; clear S; intro a u S
 have h103 : 0 ≤ (([2, 3, 4, 1, 5, 0]).getD ((r_t101).toNat) intE.dflt) ∧ (([2, 3, 4, 1, 5, 0]).getD ((r_t101).toNat) intE.dflt) ≤ 5 := counts_fine _
 refine ens S (la (av rfl)) ?_; clear S; intro a u S
 refine wp_seq ?_
 refine rs S (la (av rfl)) ?_; clear S; intro a u S
 refine wp_block ?_
 replace S := S.nr edgE 71
 refine lp4 (fun (k : Nat) (es_a : Option Addr) (es_c : Nat) (es : List Edg) => [(0, pT T 0), (1, iN nn), (4, pT b4 0), (5, pT b5 0), (10, iI (([2, 3, 4, 1, 5, 0]).getD ((r_t101).toNat) intE.dflt)), (11, iN k)]) (fun (k : Nat) (es_a : Option Addr) (es_c : Nat) (es : List Edg) => [tpO 62 T T_l, blO b4 [.slice none 0 0, .slice none 0 0, .slice none 0 0, .slice none 0 0, iI 0] 28, blO b5 [.slice ds_a ds.length ds_c, .slice l2_a l2.length l2_c, .slice es_a es.length es_c, .slice none 0 0, iI 0] 28, rwO devE 65 w.heap.size ds_a ds_c ds, rwO lnkE 54 w.heap.size l2_a l2_c l2, rwO edgE 71 w.heap.size es_a es_c es]) (fun (k : Nat) (es_a : Option Addr) (es_c : Nat) (es : List Edg) => k ≤ 5 ∧ es.length = k ∧ ∀ j, j < k → okEdg nn j (es.getD j edgE.dflt)) (fun (k : Nat) (es_a : Option Addr) (es_c : Nat) (es : List Edg) => 5 - k) S 0 none 0 ([]) (subM rfl) rfl ?_ ?_
 ·exact ⟨Nat.zero_le _, rfl, fun j h => absurd h (Nat.not_lt_zero _)⟩
 clear S; intro k es_a es_c es a u S hR
 have es_len := (S.row 5 rfl).len_le; simp only [maxLen] at es_len
 obtain ⟨hk, hel, he⟩ := hR
 refine wp_seq ?_
 refine rs S (tr (mv rfl)<|tr (mv rfl)<|la (lssi rfl rfl)) ?_; clear S; intro a u S
 refine cd S rfl ?_ ?_
 ·intro hc6
  refine wp_skip (then_n (wp_seq (wp_block ?_)))
  refine dr (P := Try.prog) S 18 [one T] [(109, .is _), (110, .is _), (111, .of (fun z w => ∃ (x111a : Nat), z = .slice (some ⟨x111a, 0, none⟩) 5 5 ∧ (slE strE).wf (Fr F [one T, one b4, one b5, abk ds_a, abk l2_a, abk es_a]) w.heap (Sl.mk (some ⟨x111a, 0, none⟩) 5 ([⟨#[101, 49]⟩, ⟨#[101, 50]⟩, ⟨#[101, 51]⟩, ⟨#[101, 52]⟩, ⟨#[101, 53]⟩] : List ByteArray))) (fun v w w' c h => let ⟨x111a, hv, h0⟩ := h; ⟨x111a, hv, Enc.kp (slE strE) h0 c (by intro o h; simp at h ⊢; first | exact .inl h | simp [h])⟩)), (112, .is _), (113, .of (fun z w => ∃ (x111a : Nat), z = pT (blk (some ⟨x111a, 0, none⟩)) (off (some ⟨x111a, 0, none⟩) + k * 1) ∧ (slE strE).wf (Fr F [one T, one b4, one b5, abk ds_a, abk l2_a, abk es_a]) w.heap (Sl.mk (some ⟨x111a, 0, none⟩) 5 ([⟨#[101, 49]⟩, ⟨#[101, 50]⟩, ⟨#[101, 51]⟩, ⟨#[101, 52]⟩, ⟨#[101, 53]⟩] : List ByteArray))) (fun v w w' c h => let ⟨x111a, hv, h0⟩ := h; ⟨x111a, hv, Enc.kp (slE strE) h0 c (by intro o h; simp at h ⊢; first | exact .inl h | simp [h])⟩)), (114, .of (fun z w => ∃ (x111a : Nat), z = .string (([⟨#[101, 49]⟩, ⟨#[101, 50]⟩, ⟨#[101, 51]⟩, ⟨#[101, 52]⟩, ⟨#[101, 53]⟩] : List ByteArray).getD k strE.dflt) ∧ (slE strE).wf (Fr F [one T, one b4, one b5, abk ds_a, abk l2_a, abk es_a]) w.heap (Sl.mk (some ⟨x111a, 0, none⟩) 5 ([⟨#[101, 49]⟩, ⟨#[101, 50]⟩, ⟨#[101, 51]⟩, ⟨#[101, 52]⟩, ⟨#[101, 53]⟩] : List ByteArray))) (fun v w w' c h => let ⟨x111a, hv, h0⟩ := h; ⟨x111a, hv, Enc.kp (slE strE) h0 c (by intro o h; simp at h ⊢; first | exact .inl h | simp [h])⟩)), (115, .is _), (116, .is _), (117, .of (fun z w => ∃ (x117a : Int), z = iI x117a ∧ (0 ≤ x117a ∧ (x117a < ((nn : Nat) : Int) ∨ x117a = 0))) (fun v w w' c h => let ⟨x117a, hv, h0⟩ := h; ⟨x117a, hv, h0⟩)), (118, .of (fun z w => ∃ (x118a : Nat), z = .slice (some ⟨x118a, 0, none⟩) 3 3 ∧ (slE strE).wf (Fr F [one T, one b4, one b5, abk ds_a, abk l2_a, abk es_a]) w.heap (Sl.mk (some ⟨x118a, 0, none⟩) 3 ([⟨#[108, 97, 110]⟩, ⟨#[100, 109, 122]⟩, ⟨#[110, 101, 116]⟩] : List ByteArray))) (fun v w w' c h => let ⟨x118a, hv, h0⟩ := h; ⟨x118a, hv, Enc.kp (slE strE) h0 c (by intro o h; simp at h ⊢; first | exact .inl h | simp [h])⟩)), (119, .is _), (120, .of (fun z w => ∃ (x120a : Int), z = iI x120a ∧ (0 ≤ x120a ∧ (x120a < 3 ∨ x120a = 0))) (fun v w w' c h => let ⟨x120a, hv, h0⟩ := h; ⟨x120a, hv, h0⟩)), (121, .of (fun z w => ∃ (x118a : Nat) (x120b : Int), z = pT (blk (some ⟨x118a, 0, none⟩)) (off (some ⟨x118a, 0, none⟩) + (x120b).toNat * 1) ∧ (slE strE).wf (Fr F [one T, one b4, one b5, abk ds_a, abk l2_a, abk es_a]) w.heap (Sl.mk (some ⟨x118a, 0, none⟩) 3 ([⟨#[108, 97, 110]⟩, ⟨#[100, 109, 122]⟩, ⟨#[110, 101, 116]⟩] : List ByteArray)) ∧ (0 ≤ x120b ∧ (x120b < 3 ∨ x120b = 0))) (fun v w w' c h => let ⟨x118a, x120b, hv, h0, h1⟩ := h; ⟨x118a, x120b, hv, Enc.kp (slE strE) h0 c (by intro o h; simp at h ⊢; first | exact .inl h | simp [h]), h1⟩)), (122, .of (fun z w => ∃ (x118a : Nat) (x120b : Int), z = .string (([⟨#[108, 97, 110]⟩, ⟨#[100, 109, 122]⟩, ⟨#[110, 101, 116]⟩] : List ByteArray).getD ((x120b).toNat) strE.dflt) ∧ (slE strE).wf (Fr F [one T, one b4, one b5, abk ds_a, abk l2_a, abk es_a]) w.heap (Sl.mk (some ⟨x118a, 0, none⟩) 3 ([⟨#[108, 97, 110]⟩, ⟨#[100, 109, 122]⟩, ⟨#[110, 101, 116]⟩] : List ByteArray)) ∧ (0 ≤ x120b ∧ (x120b < 3 ∨ x120b = 0))) (fun v w w' c h => let ⟨x118a, x120b, hv, h0, h1⟩ := h; ⟨x118a, x120b, hv, Enc.kp (slE strE) h0 c (by intro o h; simp at h ⊢; first | exact .inl h | simp [h]), h1⟩)), (123, .is _), (124, .of (fun z w => ∃ (x124a : Pfx), z = .agg (pfxE.cells x124a).toArray ∧ (pfxE).wf (Fr F [one T, one b4, one b5, abk ds_a, abk l2_a, abk es_a]) w.heap x124a ∧ x124a = subnet ((k : Nat) : Int)) (fun v w w' c h => let ⟨x124a, hv, h0, h1⟩ := h; ⟨x124a, hv, Enc.kp (pfxE) h0 c (by intro o h; simp at h ⊢; first | exact .inl h | simp [h]), h1⟩)), (125, .of (fun z w => ∃ (x111a : Nat) (x117b : Int) (x118c : Nat) (x120d : Int) (x124e : Pfx), z = .agg #[.string (([⟨#[101, 49]⟩, ⟨#[101, 50]⟩, ⟨#[101, 51]⟩, ⟨#[101, 52]⟩, ⟨#[101, 53]⟩] : List ByteArray).getD k strE.dflt), iI x117b, .string (([⟨#[108, 97, 110]⟩, ⟨#[100, 109, 122]⟩, ⟨#[110, 101, 116]⟩] : List ByteArray).getD ((x120d).toNat) strE.dflt), .int .u32 x124e.addr, iI x124e.bits, .bool false] ∧ (slE strE).wf (Fr F [one T, one b4, one b5, abk ds_a, abk l2_a, abk es_a]) w.heap (Sl.mk (some ⟨x111a, 0, none⟩) 5 ([⟨#[101, 49]⟩, ⟨#[101, 50]⟩, ⟨#[101, 51]⟩, ⟨#[101, 52]⟩, ⟨#[101, 53]⟩] : List ByteArray)) ∧ (0 ≤ x117b ∧ (x117b < ((nn : Nat) : Int) ∨ x117b = 0)) ∧ (slE strE).wf (Fr F [one T, one b4, one b5, abk ds_a, abk l2_a, abk es_a]) w.heap (Sl.mk (some ⟨x118c, 0, none⟩) 3 ([⟨#[108, 97, 110]⟩, ⟨#[100, 109, 122]⟩, ⟨#[110, 101, 116]⟩] : List ByteArray)) ∧ (0 ≤ x120d ∧ (x120d < 3 ∨ x120d = 0)) ∧ (pfxE).wf (Fr F [one T, one b4, one b5, abk ds_a, abk l2_a, abk es_a]) w.heap x124e ∧ x124e = subnet ((k : Nat) : Int)) (fun v w w' c h => let ⟨x111a, x117b, x118c, x120d, x124e, hv, h0, h1, h2, h3, h4, h5⟩ := h; ⟨x111a, x117b, x118c, x120d, x124e, hv, Enc.kp (slE strE) h0 c (by intro o h; simp at h ⊢; first | exact .inl h | simp [h]), h1, Enc.kp (slE strE) h2 c (by intro o h; simp at h ⊢; first | exact .inl h | simp [h]), h3, Enc.kp (pfxE) h4 c (by intro o h; simp at h ⊢; first | exact .inl h | simp [h]), h5⟩)), (126, .of (fun z w => ∃ (x126a : Nat) (x111b : Nat) (x117c : Int) (x118d : Nat) (x120e : Int) (x124f : Pfx), z = .slice (some ⟨x126a, 0, none⟩) 1 1 ∧ (slE edgE).wf (Fr F [one T, one b4, one b5, abk ds_a, abk l2_a, abk es_a]) w.heap (Sl.mk (some ⟨x126a, 0, none⟩) 1 ([(⟨(([⟨#[101, 49]⟩, ⟨#[101, 50]⟩, ⟨#[101, 51]⟩, ⟨#[101, 52]⟩, ⟨#[101, 53]⟩] : List ByteArray).getD k strE.dflt), x117c, (([⟨#[108, 97, 110]⟩, ⟨#[100, 109, 122]⟩, ⟨#[110, 101, 116]⟩] : List ByteArray).getD ((x120e).toNat) strE.dflt), x124f, false⟩ : Edg)])) ∧ (slE strE).wf (Fr F [one T, one b4, one b5, abk ds_a, abk l2_a, abk es_a]) w.heap (Sl.mk (some ⟨x111b, 0, none⟩) 5 ([⟨#[101, 49]⟩, ⟨#[101, 50]⟩, ⟨#[101, 51]⟩, ⟨#[101, 52]⟩, ⟨#[101, 53]⟩] : List ByteArray)) ∧ (0 ≤ x117c ∧ (x117c < ((nn : Nat) : Int) ∨ x117c = 0)) ∧ (slE strE).wf (Fr F [one T, one b4, one b5, abk ds_a, abk l2_a, abk es_a]) w.heap (Sl.mk (some ⟨x118d, 0, none⟩) 3 ([⟨#[108, 97, 110]⟩, ⟨#[100, 109, 122]⟩, ⟨#[110, 101, 116]⟩] : List ByteArray)) ∧ (0 ≤ x120e ∧ (x120e < 3 ∨ x120e = 0)) ∧ (pfxE).wf (Fr F [one T, one b4, one b5, abk ds_a, abk l2_a, abk es_a]) w.heap x124f ∧ x124f = subnet ((k : Nat) : Int)) (fun v w w' c h => let ⟨x126a, x111b, x117c, x118d, x120e, x124f, hv, h0, h1, h2, h3, h4, h5, h6⟩ := h; ⟨x126a, x111b, x117c, x118d, x120e, x124f, hv, Enc.kp (slE edgE) h0 c (by intro o h; simp at h ⊢; first | exact .inl h | simp [h]), Enc.kp (slE strE) h1 c (by intro o h; simp at h ⊢; first | exact .inl h | simp [h]), h2, Enc.kp (slE strE) h3 c (by intro o h; simp at h ⊢; first | exact .inl h | simp [h]), h4, Enc.kp (pfxE) h5 c (by intro o h; simp at h ⊢; first | exact .inl h | simp [h]), h6⟩))] [[], [109], [], [], [111, 112], [113], [], [], [115, 116], [], [], [119], [118, 120], [121], [], [123], [114, 117, 122, 124], [125]] [110, 126] _ ⟨qd (fldi 0 2 rfl uT28), qd (ldk 2 sC25 rfl rfl rfl), ?_, qd (mv rfl), ?_, ?_, qd (mv rfl), qd (mv rfl), ?_, ?_, qd (mv rfl), ?_, ?_, ?_, qd (mv rfl), ?_, ?_, ?_, trivial⟩ ?_
  ·skip
   intro a u S G hE
   refine hnb 111 S.m (x_bsl [(0, .string (⟨#[101, 49]⟩)), (1, .string (⟨#[101, 50]⟩)), (2, .string (⟨#[101, 51]⟩)), (3, .string (⟨#[101, 52]⟩)), (4, .string (⟨#[101, 53]⟩))] [.string (⟨#[101, 49]⟩), .string (⟨#[101, 50]⟩), .string (⟨#[101, 51]⟩), .string (⟨#[101, 52]⟩), .string (⟨#[101, 53]⟩)] uT63 iZ9 (by decide) (by decide) (by simp only [List.map_cons, List.map_nil, S.e (x := .const (.string (⟨#[101, 49]⟩))) (v := .string (⟨#[101, 49]⟩)) rfl, S.e (x := .const (.string (⟨#[101, 50]⟩))) (v := .string (⟨#[101, 50]⟩)) rfl, S.e (x := .const (.string (⟨#[101, 51]⟩))) (v := .string (⟨#[101, 51]⟩)) rfl, S.e (x := .const (.string (⟨#[101, 52]⟩))) (v := .string (⟨#[101, 52]⟩)) rfl, S.e (x := .const (.string (⟨#[101, 53]⟩))) (v := .string (⟨#[101, 53]⟩)) rfl]) (by kernel_rfl)) fun g => (show ∃ _, _ from ⟨_, rfl, sl_of_blk (Blk.new _ [.string (⟨#[101, 49]⟩), .string (⟨#[101, 50]⟩), .string (⟨#[101, 51]⟩), .string (⟨#[101, 52]⟩), .string (⟨#[101, 53]⟩)] 9) ([⟨#[101, 49]⟩, ⟨#[101, 50]⟩, ⟨#[101, 51]⟩, ⟨#[101, 52]⟩, ⟨#[101, 53]⟩] : List ByteArray) 5 rfl (by decide) (by decide) rfl (fr_fresh S.m.c S.m.f rfl) ?_⟩)
   intro x hx; simp only [List.mem_cons, List.not_mem_nil, or_false] at hx; rcases hx with hx | hx | hx | hx | hx <;> rw [hx] <;> first | exact Enc.tr (strE) (show strE.wf (Fr F (ow _)) _ (⟨#[101, 49]⟩) from (show (⟨#[101, 49]⟩ : ByteArray).size ≤ maxLen from by unfold maxLen; decide)) (Tr.of_ch0 S.M g) | exact Enc.tr (strE) (show strE.wf (Fr F (ow _)) _ (⟨#[101, 50]⟩) from (show (⟨#[101, 50]⟩ : ByteArray).size ≤ maxLen from by unfold maxLen; decide)) (Tr.of_ch0 S.M g) | exact Enc.tr (strE) (show strE.wf (Fr F (ow _)) _ (⟨#[101, 51]⟩) from (show (⟨#[101, 51]⟩ : ByteArray).size ≤ maxLen from by unfold maxLen; decide)) (Tr.of_ch0 S.M g) | exact Enc.tr (strE) (show strE.wf (Fr F (ow _)) _ (⟨#[101, 52]⟩) from (show (⟨#[101, 52]⟩ : ByteArray).size ≤ maxLen from by unfold maxLen; decide)) (Tr.of_ch0 S.M g) | exact Enc.tr (strE) (show strE.wf (Fr F (ow _)) _ (⟨#[101, 53]⟩) from (show (⟨#[101, 53]⟩ : ByteArray).size ≤ maxLen from by unfold maxLen; decide)) (Tr.of_ch0 S.M g)
  ·skip
   intro a u S G hE
   obtain ⟨e111, -⟩ := hE
   have M0 := S.m
   obtain ⟨x111_67, e111, X67⟩ := e111
   replace S := S.ext e111
   exact hvl 113 S M0 (v := pT (blk (some ⟨x111_67, 0, none⟩)) (off (some ⟨x111_67, 0, none⟩) + k * 1)) (x_idx uT63 sZ9 (S.e rfl) (S.e rfl) k rfl (by first | omega | (simp only [List.length_cons, List.length_nil]; omega)) ((show LAt strE _ _ (some ⟨x111_67, 0, none⟩) ([⟨#[101, 49]⟩, ⟨#[101, 50]⟩, ⟨#[101, 51]⟩, ⟨#[101, 52]⟩, ⟨#[101, 53]⟩] : List ByteArray) from (X67).1).adr (i := k) (by first | omega | (simp only [List.length_cons, List.length_nil]; omega)))) (show ∃ _, _ from ⟨x111_67, rfl, X67⟩)
  ·skip
   intro a u S G hE
   obtain ⟨e113, -⟩ := hE
   have M0 := S.m
   obtain ⟨x111_68, e113, X68⟩ := e113
   replace S := S.ext e113
   exact hvl 114 S M0 (v := .string (([⟨#[101, 49]⟩, ⟨#[101, 50]⟩, ⟨#[101, 51]⟩, ⟨#[101, 52]⟩, ⟨#[101, 53]⟩] : List ByteArray).getD k strE.dflt)) (x_load sC9 (S.e rfl) ((show LAt strE _ _ (some ⟨x111_68, 0, none⟩) ([⟨#[101, 49]⟩, ⟨#[101, 50]⟩, ⟨#[101, 51]⟩, ⟨#[101, 52]⟩, ⟨#[101, 53]⟩] : List ByteArray) from (X68).1).cell k (by first | omega | (simp only [List.length_cons, List.length_nil]; omega)) 0 _ rfl)) (show ∃ _, _ from ⟨x111_68, rfl, X68⟩)
  ·skip
   intro a u S G hE
   refine hcl S (gNext _ _ S.x T (S.M.pick [0] (by decide)) T_l (dn1 (js := [0]) (S.u 0 rfl)) (S.t 0 rfl) ((nn : Nat) : Int) ⟨by omega, by omega⟩) cB23 ?_
   rintro e w2 ⟨r_h117, rfl, hr_h117, tK, T0⟩; refine ⟨_, rfl, (show ∃ _, _ from ?_), T0.ch, (S.k1 0 rfl S.s T0 tK).m⟩
   exact ⟨r_h117, rfl, hr_h117⟩
  ·skip
   intro a u S G hE
   refine hnb 118 S.m (x_bsl [(0, .string (⟨#[108, 97, 110]⟩)), (1, .string (⟨#[100, 109, 122]⟩)), (2, .string (⟨#[110, 101, 116]⟩))] [.string (⟨#[108, 97, 110]⟩), .string (⟨#[100, 109, 122]⟩), .string (⟨#[110, 101, 116]⟩)] uT63 iZ9 (by decide) (by decide) (by simp only [List.map_cons, List.map_nil, S.e (x := .const (.string (⟨#[108, 97, 110]⟩))) (v := .string (⟨#[108, 97, 110]⟩)) rfl, S.e (x := .const (.string (⟨#[100, 109, 122]⟩))) (v := .string (⟨#[100, 109, 122]⟩)) rfl, S.e (x := .const (.string (⟨#[110, 101, 116]⟩))) (v := .string (⟨#[110, 101, 116]⟩)) rfl]) (by kernel_rfl)) fun g => (show ∃ _, _ from ⟨_, rfl, sl_of_blk (Blk.new _ [.string (⟨#[108, 97, 110]⟩), .string (⟨#[100, 109, 122]⟩), .string (⟨#[110, 101, 116]⟩)] 9) ([⟨#[108, 97, 110]⟩, ⟨#[100, 109, 122]⟩, ⟨#[110, 101, 116]⟩] : List ByteArray) 3 rfl (by decide) (by decide) rfl (fr_fresh S.m.c S.m.f rfl) ?_⟩)
   intro x hx; simp only [List.mem_cons, List.not_mem_nil, or_false] at hx; rcases hx with hx | hx | hx <;> rw [hx] <;> first | exact Enc.tr (strE) (show strE.wf (Fr F (ow _)) _ (⟨#[108, 97, 110]⟩) from (show (⟨#[108, 97, 110]⟩ : ByteArray).size ≤ maxLen from by unfold maxLen; decide)) (Tr.of_ch0 S.M g) | exact Enc.tr (strE) (show strE.wf (Fr F (ow _)) _ (⟨#[100, 109, 122]⟩) from (show (⟨#[100, 109, 122]⟩ : ByteArray).size ≤ maxLen from by unfold maxLen; decide)) (Tr.of_ch0 S.M g) | exact Enc.tr (strE) (show strE.wf (Fr F (ow _)) _ (⟨#[110, 101, 116]⟩) from (show (⟨#[110, 101, 116]⟩ : ByteArray).size ≤ maxLen from by unfold maxLen; decide)) (Tr.of_ch0 S.M g)
  ·skip
   intro a u S G hE
   refine hcl S (gNext _ _ S.x T (S.M.pick [0] (by decide)) T_l (dn1 (js := [0]) (S.u 0 rfl)) (S.t 0 rfl) 3 ⟨by omega, by omega⟩) cB23 ?_
   rintro e w2 ⟨r_h120, rfl, hr_h120, tK, T0⟩; refine ⟨_, rfl, (show ∃ _, _ from ?_), T0.ch, (S.k1 0 rfl S.s T0 tK).m⟩
   exact ⟨r_h120, rfl, hr_h120⟩
  ·skip
   intro a u S G hE
   obtain ⟨e118, e120, -⟩ := hE
   have M0 := S.m
   obtain ⟨x118_69, e118, X69⟩ := e118
   replace S := S.ext e118
   obtain ⟨x120_70, e120, hr70⟩ := e120
   replace S := S.ext e120
   exact hvl 121 S M0 (v := pT (blk (some ⟨x118_69, 0, none⟩)) (off (some ⟨x118_69, 0, none⟩) + (x120_70).toNat * 1)) (x_idx uT63 sZ9 (S.e rfl) (S.e rfl) (x120_70).toNat (by omega) (by first | omega | (simp only [List.length_cons, List.length_nil]; omega)) ((show LAt strE _ _ (some ⟨x118_69, 0, none⟩) ([⟨#[108, 97, 110]⟩, ⟨#[100, 109, 122]⟩, ⟨#[110, 101, 116]⟩] : List ByteArray) from (X69).1).adr (i := (x120_70).toNat) (by first | omega | (simp only [List.length_cons, List.length_nil]; omega)))) (show ∃ _, _ from ⟨x118_69, x120_70, rfl, X69, hr70⟩)
  ·skip
   intro a u S G hE
   obtain ⟨e121, -⟩ := hE
   have M0 := S.m
   obtain ⟨x118_71, x120_72, e121, X71, hr72⟩ := e121
   replace S := S.ext e121
   exact hvl 122 S M0 (v := .string (([⟨#[108, 97, 110]⟩, ⟨#[100, 109, 122]⟩, ⟨#[110, 101, 116]⟩] : List ByteArray).getD ((x120_72).toNat) strE.dflt)) (x_load sC9 (S.e rfl) ((show LAt strE _ _ (some ⟨x118_71, 0, none⟩) ([⟨#[108, 97, 110]⟩, ⟨#[100, 109, 122]⟩, ⟨#[110, 101, 116]⟩] : List ByteArray) from (X71).1).cell (x120_72).toNat (by first | omega | (simp only [List.length_cons, List.length_nil]; omega)) 0 _ rfl)) (show ∃ _, _ from ⟨x118_71, x120_72, rfl, X71, hr72⟩)
  ·skip
   intro a u S G hE
   refine hcl S (gSubnet _ _ S.x (.nil _) ((k : Nat) : Int) ⟨by omega, by omega⟩ (by omega)) cB46 ?_
   rintro e w2 ⟨r_h124, rfl, R_h124, hr_h124, T0⟩; refine ⟨_, rfl, (show ∃ _, _ from ?_), (T0.ch.mono (fun k hk => by simp [In] at hk)), (S.k0 S.s T0).m⟩
   exact ⟨r_h124, rfl, (Enc.up _ R_h124), hr_h124⟩
  ·skip
   intro a u S G hE
   obtain ⟨e114, e117, e122, e124, -⟩ := hE
   have M0 := S.m
   obtain ⟨x111_73, e114, X73⟩ := e114
   replace S := S.ext e114
   obtain ⟨x117_74, e117, hr74⟩ := e117
   replace S := S.ext e117
   obtain ⟨x118_75, x120_76, e122, X75, hr76⟩ := e122
   replace S := S.ext e122
   obtain ⟨x124_77, e124, X77, hr77⟩ := e124
   replace S := S.ext e124
   exact hvl 125 S M0 (v := .agg #[.string (([⟨#[101, 49]⟩, ⟨#[101, 50]⟩, ⟨#[101, 51]⟩, ⟨#[101, 52]⟩, ⟨#[101, 53]⟩] : List ByteArray).getD k strE.dflt), iI x117_74, .string (([⟨#[108, 97, 110]⟩, ⟨#[100, 109, 122]⟩, ⟨#[110, 101, 116]⟩] : List ByteArray).getD ((x120_76).toNat) strE.dflt), .int .u32 x124_77.addr, iI x124_77.bits, .bool false]) (x_bd S [(0, .string (([⟨#[101, 49]⟩, ⟨#[101, 50]⟩, ⟨#[101, 51]⟩, ⟨#[101, 52]⟩, ⟨#[101, 53]⟩] : List ByteArray).getD k strE.dflt)), (1, iI x117_74), (2, .string (([⟨#[108, 97, 110]⟩, ⟨#[100, 109, 122]⟩, ⟨#[110, 101, 116]⟩] : List ByteArray).getD ((x120_76).toNat) strE.dflt)), (3, .agg (pfxE.cells x124_77).toArray)] [.string (([⟨#[101, 49]⟩, ⟨#[101, 50]⟩, ⟨#[101, 51]⟩, ⟨#[101, 52]⟩, ⟨#[101, 53]⟩] : List ByteArray).getD k strE.dflt), iI x117_74, .string (([⟨#[108, 97, 110]⟩, ⟨#[100, 109, 122]⟩, ⟨#[110, 101, 116]⟩] : List ByteArray).getD ((x120_76).toNat) strE.dflt), .int .u32 x124_77.addr, iI x124_77.bits, .bool false]) (show ∃ _, _ from ⟨x111_73, x117_74, x118_75, x120_76, x124_77, rfl, X73, hr74, X75, hr76, X77, hr77⟩)
  ·skip
   intro a u S G hE
   obtain ⟨e125, -⟩ := hE
   have M0 := S.m
   obtain ⟨x111_78, x117_79, x118_80, x120_81, x124_82, e125, X78, hr79, X80, hr81, X82, hr82⟩ := e125
   replace S := S.ext e125
   refine hnb 126 M0 (x_bsl [(0, .agg #[.string (([⟨#[101, 49]⟩, ⟨#[101, 50]⟩, ⟨#[101, 51]⟩, ⟨#[101, 52]⟩, ⟨#[101, 53]⟩] : List ByteArray).getD k strE.dflt), iI x117_79, .string (([⟨#[108, 97, 110]⟩, ⟨#[100, 109, 122]⟩, ⟨#[110, 101, 116]⟩] : List ByteArray).getD ((x120_81).toNat) strE.dflt), .int .u32 x124_82.addr, iI x124_82.bits, .bool false])] [.string (([⟨#[101, 49]⟩, ⟨#[101, 50]⟩, ⟨#[101, 51]⟩, ⟨#[101, 52]⟩, ⟨#[101, 53]⟩] : List ByteArray).getD k strE.dflt), iI x117_79, .string (([⟨#[108, 97, 110]⟩, ⟨#[100, 109, 122]⟩, ⟨#[110, 101, 116]⟩] : List ByteArray).getD ((x120_81).toNat) strE.dflt), .int .u32 x124_82.addr, iI x124_82.bits, .bool false] uT25 iZ71 (by decide) (by decide) (by simp only [List.map_cons, List.map_nil, S.e (x := .tmp 125) (v := .agg #[.string (([⟨#[101, 49]⟩, ⟨#[101, 50]⟩, ⟨#[101, 51]⟩, ⟨#[101, 52]⟩, ⟨#[101, 53]⟩] : List ByteArray).getD k strE.dflt), iI x117_79, .string (([⟨#[108, 97, 110]⟩, ⟨#[100, 109, 122]⟩, ⟨#[110, 101, 116]⟩] : List ByteArray).getD ((x120_81).toNat) strE.dflt), .int .u32 x124_82.addr, iI x124_82.bits, .bool false]) rfl]) (by kernel_rfl)) fun g => (show ∃ _, _ from ⟨_, x111_78, x117_79, x118_80, x120_81, x124_82, rfl, sl_of_blk (Blk.new _ [.string (([⟨#[101, 49]⟩, ⟨#[101, 50]⟩, ⟨#[101, 51]⟩, ⟨#[101, 52]⟩, ⟨#[101, 53]⟩] : List ByteArray).getD k strE.dflt), iI x117_79, .string (([⟨#[108, 97, 110]⟩, ⟨#[100, 109, 122]⟩, ⟨#[110, 101, 116]⟩] : List ByteArray).getD ((x120_81).toNat) strE.dflt), .int .u32 x124_82.addr, iI x124_82.bits, .bool false] 71) [(⟨(([⟨#[101, 49]⟩, ⟨#[101, 50]⟩, ⟨#[101, 51]⟩, ⟨#[101, 52]⟩, ⟨#[101, 53]⟩] : List ByteArray).getD k strE.dflt), x117_79, (([⟨#[108, 97, 110]⟩, ⟨#[100, 109, 122]⟩, ⟨#[110, 101, 116]⟩] : List ByteArray).getD ((x120_81).toNat) strE.dflt), x124_82, false⟩ : Edg)] 1 rfl (by decide) (by decide) rfl (fr_fresh S.m.c S.m.f rfl) ?_, Enc.tr (slE strE) X78 (Tr.of_ch0 S.M g), hr79, Enc.tr (slE strE) X80 (Tr.of_ch0 S.M g), hr81, Enc.tr (pfxE) X82 (Tr.of_ch0 S.M g), hr82⟩)
   intro x hx; simp only [List.mem_cons, List.not_mem_nil, or_false] at hx; rw [hx] <;> first | exact Enc.tr (edgE) (show edgE.wf (Fr F (ow _)) _ (⟨(([⟨#[101, 49]⟩, ⟨#[101, 50]⟩, ⟨#[101, 51]⟩, ⟨#[101, 52]⟩, ⟨#[101, 53]⟩] : List ByteArray).getD k strE.dflt), x117_79, (([⟨#[108, 97, 110]⟩, ⟨#[100, 109, 122]⟩, ⟨#[110, 101, 116]⟩] : List ByteArray).getD ((x120_81).toNat) strE.dflt), x124_82, false⟩ : Edg) from ⟨((show LAt strE _ _ (some ⟨x111_78, 0, none⟩) ([⟨#[101, 49]⟩, ⟨#[101, 50]⟩, ⟨#[101, 51]⟩, ⟨#[101, 52]⟩, ⟨#[101, 53]⟩] : List ByteArray) from (X78).1).wf k (by first | omega | (simp only [List.length_cons, List.length_nil]; omega))), (show inI64 x117_79 from ⟨by omega, by omega⟩), ((show LAt strE _ _ (some ⟨x118_80, 0, none⟩) ([⟨#[108, 97, 110]⟩, ⟨#[100, 109, 122]⟩, ⟨#[110, 101, 116]⟩] : List ByteArray) from (X80).1).wf (x120_81).toNat (by first | omega | (simp only [List.length_cons, List.length_nil]; omega))), ⟨X82.1, X82.2⟩, trivial⟩) (Tr.of_ch0 S.M g)
  clear S; intro a u S G hE
  obtain ⟨e126, -⟩ := hE
  obtain ⟨x126_83, x111_84, x117_85, x118_86, x120_87, x124_88, e126, X83, X84, hr85, X86, hr87, X88, hr88⟩ := e126
  replace S := S.ext e126
  clear e126
  replace S := S.ar (wfF (slE edgE) (Sl.mk (some ⟨x126_83, 0, none⟩) 1 ([(⟨(([⟨#[101, 49]⟩, ⟨#[101, 50]⟩, ⟨#[101, 51]⟩, ⟨#[101, 52]⟩, ⟨#[101, 53]⟩] : List ByteArray).getD k strE.dflt), x117_85, (([⟨#[108, 97, 110]⟩, ⟨#[100, 109, 122]⟩, ⟨#[110, 101, 116]⟩] : List ByteArray).getD ((x120_87).toNat) strE.dflt), x124_88, false⟩ : Edg)]))) X83
  replace S := S.ar (wfF (slE strE) (Sl.mk (some ⟨x111_84, 0, none⟩) 5 ([⟨#[101, 49]⟩, ⟨#[101, 50]⟩, ⟨#[101, 51]⟩, ⟨#[101, 52]⟩, ⟨#[101, 53]⟩] : List ByteArray))) X84
  replace S := S.ar (wfF (slE strE) (Sl.mk (some ⟨x118_86, 0, none⟩) 3 ([⟨#[108, 97, 110]⟩, ⟨#[100, 109, 122]⟩, ⟨#[110, 101, 116]⟩] : List ByteArray))) X86
  replace S := S.ar (wfF pfxE x124_88) X88
  have hn89 : ([(⟨(([⟨#[101, 49]⟩, ⟨#[101, 50]⟩, ⟨#[101, 51]⟩, ⟨#[101, 52]⟩, ⟨#[101, 53]⟩] : List ByteArray).getD k strE.dflt), x117_85, (([⟨#[108, 97, 110]⟩, ⟨#[100, 109, 122]⟩, ⟨#[110, 101, 116]⟩] : List ByteArray).getD ((x120_87).toNat) strE.dflt), x124_88, false⟩ : Edg)]).length ≤ 9223372036854775807 := ((S.u 2 rfl)).1.len
  refine ap (E := edgE) (ys := [(⟨(([⟨#[101, 49]⟩, ⟨#[101, 50]⟩, ⟨#[101, 51]⟩, ⟨#[101, 52]⟩, ⟨#[101, 53]⟩] : List ByteArray).getD k strE.dflt), x117_85, (([⟨#[108, 97, 110]⟩, ⟨#[100, 109, 122]⟩, ⟨#[110, 101, 116]⟩] : List ByteArray).getD ((x120_87).toNat) strE.dflt), x124_88, false⟩ : Edg)]) S 5 rfl uT25 iZ71 rfl rfl (show LAt edgE _ _ (some ⟨x126_83, 0, none⟩) ([(⟨(([⟨#[101, 49]⟩, ⟨#[101, 50]⟩, ⟨#[101, 51]⟩, ⟨#[101, 52]⟩, ⟨#[101, 53]⟩] : List ByteArray).getD k strE.dflt), x117_85, (([⟨#[108, 97, 110]⟩, ⟨#[100, 109, 122]⟩, ⟨#[110, 101, 116]⟩] : List ByteArray).getD ((x120_87).toNat) strE.dflt), x124_88, false⟩ : Edg)]) from ((S.u 2 rfl)).1) ((S.u 2 rfl)).2.2 (LAt.mem (show LAt edgE _ _ (some ⟨x126_83, 0, none⟩) ([(⟨(([⟨#[101, 49]⟩, ⟨#[101, 50]⟩, ⟨#[101, 51]⟩, ⟨#[101, 52]⟩, ⟨#[101, 53]⟩] : List ByteArray).getD k strE.dflt), x117_85, (([⟨#[108, 97, 110]⟩, ⟨#[100, 109, 122]⟩, ⟨#[110, 101, 116]⟩] : List ByteArray).getD ((x120_87).toNat) strE.dflt), x124_88, false⟩ : Edg)]) from ((S.u 2 rfl)).1)) ⟨by unfold maxLen; (try simp only [List.length_cons, List.length_nil, List.length_append, List.length_map]); omega, by (try simp only [List.length_cons, List.length_nil, List.length_append, List.length_map]); omega⟩ ?_; clear S; intro a u ad127 cap127 S
  refine en S (tr (fldi 0 2 rfl uT28)<|la (stk 2 rfl rfl rfl)) ?_; clear S; intro a u S
  refine blk_n (then_n ?_)
  refine rg S (tr (mv rfl)<|tr (addi ((k + 1 : Nat) : Int) rfl rfl (w_i64 (by omega)))<|la (av rfl)) ?_; clear S; intro a u S
  refine then_n ?_
  refine ⟨(k + 1), ad127, cap127, (es ++ [(⟨(([⟨#[101, 49]⟩, ⟨#[101, 50]⟩, ⟨#[101, 51]⟩, ⟨#[101, 52]⟩, ⟨#[101, 53]⟩] : List ByteArray).getD k strE.dflt), x117_85, (([⟨#[108, 97, 110]⟩, ⟨#[100, 109, 122]⟩, ⟨#[110, 101, 116]⟩] : List ByteArray).getD ((x120_87).toNat) strE.dflt), x124_88, false⟩ : Edg)]), S.re (subM rfl) rfl rfl, ?_, ?_⟩
  ·exact ⟨by omega, by first | omega | (simp only [List.length_append, List.length_cons, List.length_nil]; omega), snocD hel he (edg_mk rfl (by omega) (by omega) (zones_fine _ (by omega)) (by assumption))⟩
  omega
 intro hc7
 refine wp_exit (then_e (then_e (blk_e (then_n (wp_seq (rs0 ?_))))))
 refine sp S (la (mv rfl)) ?_; clear S; intro a u S
 refine cl S (gNext _ _ S.x T (S.M.pick [0] (by decide)) T_l (dn1 (js := [0]) (S.u 0 rfl)) (S.t 0 rfl) 2 ⟨by omega, by omega⟩) cB23 ?_
 rintro e u ⟨r_t130, rfl, hr_t130, tK, T0⟩; refine ⟨_, rfl, fun a s => ?_⟩
 replace S := S.k1 0 rfl s T0 tK; clear s T0 tK
 refine ens S (la (eqli rfl rfl)) ?_; clear S; intro a u S
 refine cd S rfl ?_ ?_
 ·intro hc8
  refine r0 ?_
  refine sp S (tr (fldi 0 3 rfl uT28)<|tr (ldk 2 sC26 rfl rfl rfl)<|la (ov fun S=>x_bd S [(0, .int .u32 168296448), (1, iI 22)] [.int .u32 168296448, iI 22])) ?_; clear S; intro a u S
  refine nbs pfxE S [(⟨168296448, 22⟩ : Pfx)] (x_bs S [(0, .agg #[.int .u32 168296448, iI 22])] uT26 iZ68) (fun x hx => by simp only [List.mem_cons, List.not_mem_nil, or_false] at hx; rw [hx]; exact (show pfxE.wf _ _ (⟨168296448, 22⟩ : Pfx) from ⟨(show inU32 168296448 from ⟨by omega, by omega⟩), (show inI64 22 from ⟨by omega, by omega⟩)⟩)) ?_; clear S; intro a u b135 S
  replace S := S.nr pfxE 68
  refine ap (E := pfxE) (ys := [(⟨168296448, 22⟩ : Pfx)]) S 6 rfl uT26 iZ68 rfl rfl (show LAt pfxE _ _ (some ⟨b135, 0, none⟩) ([(⟨168296448, 22⟩ : Pfx)]) from ((S.u 2 rfl)).1) ((S.u 2 rfl)).2.2 (LAt.mem (show LAt pfxE _ _ (some ⟨b135, 0, none⟩) ([(⟨168296448, 22⟩ : Pfx)]) from ((S.u 2 rfl)).1)) ⟨by unfold maxLen; (try simp only [List.length_cons, List.length_nil, List.length_append, List.length_map]); omega, by (try simp only [List.length_cons, List.length_nil, List.length_append, List.length_map]); omega⟩ ?_; clear S; intro a u ad136 cap136 S
  refine ens S (tr (fldi 0 3 rfl uT28)<|la (stk 2 rfl rfl rfl)) ?_; clear S; intro a u S
  refine wp_seq (rs0 ?_)
  refine sp S (la (mv rfl)) ?_; clear S; intro a u S
  refine cl S (gNext _ _ S.x T (S.M.pick [0] (by decide)) T_l (dn1 (js := [0]) (S.u 0 rfl)) (S.t 0 rfl) 3 ⟨by omega, by omega⟩) cB23 ?_
  rintro e u ⟨r_t139, rfl, hr_t139, tK, T0⟩; refine ⟨_, rfl, fun a s => ?_⟩
  replace S := S.k1 0 rfl s T0 tK; clear s T0 tK
  refine ens S (la (eqli rfl rfl)) ?_; clear S; intro a u S
  refine cd S rfl ?_ ?_
  ·intro hc9
   refine r0 ?_
   refine sp S (tr (fldi 0 3 rfl uT28)<|tr (ldk 2 sC26 rfl rfl rfl)<|la (ov fun S=>x_bd S [(0, .int .u32 167772672), (1, iI 24)] [.int .u32 167772672, iI 24])) ?_; clear S; intro a u S
   refine nbs pfxE S [(⟨167772672, 24⟩ : Pfx)] (x_bs S [(0, .agg #[.int .u32 167772672, iI 24])] uT26 iZ68) (fun x hx => by simp only [List.mem_cons, List.not_mem_nil, or_false] at hx; rw [hx]; exact (show pfxE.wf _ _ (⟨167772672, 24⟩ : Pfx) from ⟨(show inU32 167772672 from ⟨by omega, by omega⟩), (show inI64 24 from ⟨by omega, by omega⟩)⟩)) ?_; clear S; intro a u b144 S
   refine ap (E := pfxE) (ys := [(⟨167772672, 24⟩ : Pfx)]) S 6 rfl uT26 iZ68 rfl rfl (show LAt pfxE _ _ (some ⟨b144, 0, none⟩) ([(⟨167772672, 24⟩ : Pfx)]) from ((S.u 3 rfl)).1) ((S.u 3 rfl)).2.2 (LAt.mem (show LAt pfxE _ _ (some ⟨b144, 0, none⟩) ([(⟨167772672, 24⟩ : Pfx)]) from ((S.u 3 rfl)).1)) ⟨by unfold maxLen; (try simp only [List.length_cons, List.length_nil, List.length_append, List.length_map]); omega, by (try simp only [List.length_cons, List.length_nil, List.length_append, List.length_map]); omega⟩ ?_; clear S; intro a u ad145 cap145 S
   refine ens S (tr (fldi 0 3 rfl uT28)<|la (stk 2 rfl rfl rfl)) ?_; clear S; intro a u S
   refine rs0 ?_
   refine nbs intE S [0, 1, 0, 1, 2] (x_bs S [(0, iI 0), (1, iI 1), (2, iI 0), (3, iI 1), (4, iI 2)] uT22 iZ3) (fun x hx => by simp only [List.mem_cons, List.not_mem_nil, or_false] at hx; rcases hx with hx | hx | hx | hx | hx <;> rw [hx] <;> first | exact (show intE.wf _ _ 0 from (show inI64 0 from ⟨by omega, by omega⟩)) | exact (show intE.wf _ _ 1 from (show inI64 1 from ⟨by omega, by omega⟩)) | exact (show intE.wf _ _ 2 from (show inI64 2 from ⟨by omega, by omega⟩))) ?_; clear S; intro a u b147 S
   refine sp S (la (mv rfl)) ?_; clear S; intro a u S
   refine cl S (gNext _ _ S.x T (S.M.pick [0] (by decide)) T_l (dn1 (js := [0]) (S.u 0 rfl)) (S.t 0 rfl) 5 ⟨by omega, by omega⟩) cB23 ?_
   rintro e u ⟨r_t149, rfl, hr_t149, tK, T0⟩; refine ⟨_, rfl, fun a s => ?_⟩
   replace S := S.k1 0 rfl s T0 tK; clear s T0 tK
   obtain ⟨hl96, hu96⟩ : inI64 (([0, 1, 0, 1, 2]).getD ((r_t149).toNat) intE.dflt) := id ((show LAt intE _ _ (some ⟨b147, 0, none⟩) ([0, 1, 0, 1, 2]) from ((S.u 4 rfl)).1).wf (r_t149).toNat (by first | omega | (simp only [List.length_cons, List.length_nil]; omega)))
   refine ens S (tr (idxi uT22 sZ3 rfl rfl (r_t149).toNat (by omega) (by first | omega | (simp only [List.length_cons, List.length_nil]; omega)) ((show LAt intE _ _ (some ⟨b147, 0, none⟩) ([0, 1, 0, 1, 2]) from ((S.u 4 rfl)).1).adr (i := (r_t149).toNat) (by first | omega | (simp only [List.length_cons, List.length_nil]; omega))))<|tr (ov fun S=>x_load sC3 (S.e rfl) ((show LAt intE _ _ (some ⟨b147, 0, none⟩) ([0, 1, 0, 1, 2]) from ((S.u 4 rfl)).1).cell (r_t149).toNat (by first | omega | (simp only [List.length_cons, List.length_nil]; omega)) 0 _ rfl))<|tr (fldi 0 4 rfl uT28)<|la (stk 2 rfl rfl rfl)) ?_; clear S; intro a u S
   refine rs S (tr (ldkw 2 rfl rfl wD28)<|la (stkw 1 rfl rfl rfl)) ?_; clear S; intro a u S
   refine wp_ret ?_
   replace S := S.fz 3 rfl
   replace S := S.fz 4 rfl
   replace S := S.fz 5 rfl
   replace S := S.fz 6 rfl
   refine retcw rfl S.s rfl [.slice ds_a ds.length ds_c, .slice l2_a l2.length l2_c, .slice es_a es.length es_c, .slice ad145 ((([] ++ [(⟨168296448, 22⟩ : Pfx)]) ++ [(⟨167772672, 24⟩ : Pfx)]).length) cap145, iI (([0, 1, 0, 1, 2]).getD ((r_t149).toNat) intE.dflt)] wD28 (fun j v hv => by rw [Nat.zero_add]; exact (S.k 1 rfl).cell hv) ?_
   replace S := S.pk [0] (os' := [tpO 62 T T_l])
   refine ⟨(⟨(Sl.mk ds_a ds_c ds), (Sl.mk l2_a l2_c l2), (Sl.mk es_a es_c es), (Sl.mk ad145 cap145 (([] ++ [(⟨168296448, 22⟩ : Pfx)]) ++ [(⟨167772672, 24⟩ : Pfx)])), (([0, 1, 0, 1, 2]).getD ((r_t149).toNat) intE.dflt)⟩ : Topo), rfl, ⟨(S.u 5 rfl), (S.u 6 rfl), (S.u 7 rfl), (S.u 8 rfl), ((show LAt intE _ _ (some ⟨b147, 0, none⟩) ([0, 1, 0, 1, 2]) from ((S.u 4 rfl)).1).wf (r_t149).toNat (by first | omega | (simp only [List.length_cons, List.length_nil]; omega)))⟩, ?_, (S.t 0 rfl), S.m.c⟩
   exact ⟨gen_valid hn1 hn6 (by show ds.length = nn; omega) (fun j hj => hd j (by omega)) (by show l2.length ≤ 9; omega) hl2 (by show es.length ≤ 5; omega) (fun j hj => he j (by rw [← hel]; exact hj)) (by first | exact .inl rfl | exact .inr (.inl rfl) | exact .inr (.inr (.inl rfl)) | exact .inr (.inr (.inr rfl))) (tols_fine _), by show ds.length ≤ 6; omega, by show l2.length ≤ 9; omega, by show es.length ≤ 5; omega, by first | (show List.length [] ≤ 2; decide) | (simp)⟩
  intro hc10
  refine wp_skip (then_n (rs0 ?_))
  refine nbs intE S [0, 1, 0, 1, 2] (x_bs S [(0, iI 0), (1, iI 1), (2, iI 0), (3, iI 1), (4, iI 2)] uT22 iZ3) (fun x hx => by simp only [List.mem_cons, List.not_mem_nil, or_false] at hx; rcases hx with hx | hx | hx | hx | hx <;> rw [hx] <;> first | exact (show intE.wf _ _ 0 from (show inI64 0 from ⟨by omega, by omega⟩)) | exact (show intE.wf _ _ 1 from (show inI64 1 from ⟨by omega, by omega⟩)) | exact (show intE.wf _ _ 2 from (show inI64 2 from ⟨by omega, by omega⟩))) ?_; clear S; intro a u b147 S
  refine sp S (la (mv rfl)) ?_; clear S; intro a u S
  refine cl S (gNext _ _ S.x T (S.M.pick [0] (by decide)) T_l (dn1 (js := [0]) (S.u 0 rfl)) (S.t 0 rfl) 5 ⟨by omega, by omega⟩) cB23 ?_
  rintro e u ⟨r_t149, rfl, hr_t149, tK, T0⟩; refine ⟨_, rfl, fun a s => ?_⟩
  replace S := S.k1 0 rfl s T0 tK; clear s T0 tK
  obtain ⟨hl99, hu99⟩ : inI64 (([0, 1, 0, 1, 2]).getD ((r_t149).toNat) intE.dflt) := id ((show LAt intE _ _ (some ⟨b147, 0, none⟩) ([0, 1, 0, 1, 2]) from ((S.u 3 rfl)).1).wf (r_t149).toNat (by first | omega | (simp only [List.length_cons, List.length_nil]; omega)))
  refine ens S (tr (idxi uT22 sZ3 rfl rfl (r_t149).toNat (by omega) (by first | omega | (simp only [List.length_cons, List.length_nil]; omega)) ((show LAt intE _ _ (some ⟨b147, 0, none⟩) ([0, 1, 0, 1, 2]) from ((S.u 3 rfl)).1).adr (i := (r_t149).toNat) (by first | omega | (simp only [List.length_cons, List.length_nil]; omega))))<|tr (ov fun S=>x_load sC3 (S.e rfl) ((show LAt intE _ _ (some ⟨b147, 0, none⟩) ([0, 1, 0, 1, 2]) from ((S.u 3 rfl)).1).cell (r_t149).toNat (by first | omega | (simp only [List.length_cons, List.length_nil]; omega)) 0 _ rfl))<|tr (fldi 0 4 rfl uT28)<|la (stk 2 rfl rfl rfl)) ?_; clear S; intro a u S
  refine rs S (tr (ldkw 2 rfl rfl wD28)<|la (stkw 1 rfl rfl rfl)) ?_; clear S; intro a u S
  refine wp_ret ?_
  replace S := S.fz 3 rfl
  replace S := S.fz 4 rfl
  replace S := S.fz 5 rfl
  replace S := S.fz 6 rfl
  refine retcw rfl S.s rfl [.slice ds_a ds.length ds_c, .slice l2_a l2.length l2_c, .slice es_a es.length es_c, .slice ad136 (([] ++ [(⟨168296448, 22⟩ : Pfx)]).length) cap136, iI (([0, 1, 0, 1, 2]).getD ((r_t149).toNat) intE.dflt)] wD28 (fun j v hv => by rw [Nat.zero_add]; exact (S.k 1 rfl).cell hv) ?_
  replace S := S.pk [0] (os' := [tpO 62 T T_l])
  refine ⟨(⟨(Sl.mk ds_a ds_c ds), (Sl.mk l2_a l2_c l2), (Sl.mk es_a es_c es), (Sl.mk ad136 cap136 ([] ++ [(⟨168296448, 22⟩ : Pfx)])), (([0, 1, 0, 1, 2]).getD ((r_t149).toNat) intE.dflt)⟩ : Topo), rfl, ⟨(S.u 4 rfl), (S.u 5 rfl), (S.u 6 rfl), (S.u 7 rfl), ((show LAt intE _ _ (some ⟨b147, 0, none⟩) ([0, 1, 0, 1, 2]) from ((S.u 3 rfl)).1).wf (r_t149).toNat (by first | omega | (simp only [List.length_cons, List.length_nil]; omega)))⟩, ?_, (S.t 0 rfl), S.m.c⟩
  exact ⟨gen_valid hn1 hn6 (by show ds.length = nn; omega) (fun j hj => hd j (by omega)) (by show l2.length ≤ 9; omega) hl2 (by show es.length ≤ 5; omega) (fun j hj => he j (by rw [← hel]; exact hj)) (by first | exact .inl rfl | exact .inr (.inl rfl) | exact .inr (.inr (.inl rfl)) | exact .inr (.inr (.inr rfl))) (tols_fine _), by show ds.length ≤ 6; omega, by show l2.length ≤ 9; omega, by show es.length ≤ 5; omega, by first | (show List.length [] ≤ 2; decide) | (simp)⟩
 intro hc11
 refine wp_skip (then_n (wp_seq (rs0 ?_)))
 refine sp S (la (mv rfl)) ?_; clear S; intro a u S
 refine cl S (gNext _ _ S.x T (S.M.pick [0] (by decide)) T_l (dn1 (js := [0]) (S.u 0 rfl)) (S.t 0 rfl) 3 ⟨by omega, by omega⟩) cB23 ?_
 rintro e u ⟨r_t139, rfl, hr_t139, tK, T0⟩; refine ⟨_, rfl, fun a s => ?_⟩
 replace S := S.k1 0 rfl s T0 tK; clear s T0 tK
 refine ens S (la (eqli rfl rfl)) ?_; clear S; intro a u S
 refine cd S rfl ?_ ?_
 ·intro hc12
  refine r0 ?_
  refine sp S (tr (fldi 0 3 rfl uT28)<|tr (ldk 2 sC26 rfl rfl rfl)<|la (ov fun S=>x_bd S [(0, .int .u32 167772672), (1, iI 24)] [.int .u32 167772672, iI 24])) ?_; clear S; intro a u S
  refine nbs pfxE S [(⟨167772672, 24⟩ : Pfx)] (x_bs S [(0, .agg #[.int .u32 167772672, iI 24])] uT26 iZ68) (fun x hx => by simp only [List.mem_cons, List.not_mem_nil, or_false] at hx; rw [hx]; exact (show pfxE.wf _ _ (⟨167772672, 24⟩ : Pfx) from ⟨(show inU32 167772672 from ⟨by omega, by omega⟩), (show inI64 24 from ⟨by omega, by omega⟩)⟩)) ?_; clear S; intro a u b144 S
  replace S := S.nr pfxE 68
  refine ap (E := pfxE) (ys := [(⟨167772672, 24⟩ : Pfx)]) S 6 rfl uT26 iZ68 rfl rfl (show LAt pfxE _ _ (some ⟨b144, 0, none⟩) ([(⟨167772672, 24⟩ : Pfx)]) from ((S.u 2 rfl)).1) ((S.u 2 rfl)).2.2 (LAt.mem (show LAt pfxE _ _ (some ⟨b144, 0, none⟩) ([(⟨167772672, 24⟩ : Pfx)]) from ((S.u 2 rfl)).1)) ⟨by unfold maxLen; (try simp only [List.length_cons, List.length_nil, List.length_append, List.length_map]); omega, by (try simp only [List.length_cons, List.length_nil, List.length_append, List.length_map]); omega⟩ ?_; clear S; intro a u ad145 cap145 S
  refine ens S (tr (fldi 0 3 rfl uT28)<|la (stk 2 rfl rfl rfl)) ?_; clear S; intro a u S
  refine rs0 ?_
  refine nbs intE S [0, 1, 0, 1, 2] (x_bs S [(0, iI 0), (1, iI 1), (2, iI 0), (3, iI 1), (4, iI 2)] uT22 iZ3) (fun x hx => by simp only [List.mem_cons, List.not_mem_nil, or_false] at hx; rcases hx with hx | hx | hx | hx | hx <;> rw [hx] <;> first | exact (show intE.wf _ _ 0 from (show inI64 0 from ⟨by omega, by omega⟩)) | exact (show intE.wf _ _ 1 from (show inI64 1 from ⟨by omega, by omega⟩)) | exact (show intE.wf _ _ 2 from (show inI64 2 from ⟨by omega, by omega⟩))) ?_; clear S; intro a u b147 S
  refine sp S (la (mv rfl)) ?_; clear S; intro a u S
  refine cl S (gNext _ _ S.x T (S.M.pick [0] (by decide)) T_l (dn1 (js := [0]) (S.u 0 rfl)) (S.t 0 rfl) 5 ⟨by omega, by omega⟩) cB23 ?_
  rintro e u ⟨r_t149, rfl, hr_t149, tK, T0⟩; refine ⟨_, rfl, fun a s => ?_⟩
  replace S := S.k1 0 rfl s T0 tK; clear s T0 tK
  obtain ⟨hl104, hu104⟩ : inI64 (([0, 1, 0, 1, 2]).getD ((r_t149).toNat) intE.dflt) := id ((show LAt intE _ _ (some ⟨b147, 0, none⟩) ([0, 1, 0, 1, 2]) from ((S.u 3 rfl)).1).wf (r_t149).toNat (by first | omega | (simp only [List.length_cons, List.length_nil]; omega)))
  refine ens S (tr (idxi uT22 sZ3 rfl rfl (r_t149).toNat (by omega) (by first | omega | (simp only [List.length_cons, List.length_nil]; omega)) ((show LAt intE _ _ (some ⟨b147, 0, none⟩) ([0, 1, 0, 1, 2]) from ((S.u 3 rfl)).1).adr (i := (r_t149).toNat) (by first | omega | (simp only [List.length_cons, List.length_nil]; omega))))<|tr (ov fun S=>x_load sC3 (S.e rfl) ((show LAt intE _ _ (some ⟨b147, 0, none⟩) ([0, 1, 0, 1, 2]) from ((S.u 3 rfl)).1).cell (r_t149).toNat (by first | omega | (simp only [List.length_cons, List.length_nil]; omega)) 0 _ rfl))<|tr (fldi 0 4 rfl uT28)<|la (stk 2 rfl rfl rfl)) ?_; clear S; intro a u S
  refine rs S (tr (ldkw 2 rfl rfl wD28)<|la (stkw 1 rfl rfl rfl)) ?_; clear S; intro a u S
  refine wp_ret ?_
  replace S := S.fz 3 rfl
  replace S := S.fz 4 rfl
  replace S := S.fz 5 rfl
  replace S := S.fz 6 rfl
  refine retcw rfl S.s rfl [.slice ds_a ds.length ds_c, .slice l2_a l2.length l2_c, .slice es_a es.length es_c, .slice ad145 (([] ++ [(⟨167772672, 24⟩ : Pfx)]).length) cap145, iI (([0, 1, 0, 1, 2]).getD ((r_t149).toNat) intE.dflt)] wD28 (fun j v hv => by rw [Nat.zero_add]; exact (S.k 1 rfl).cell hv) ?_
  replace S := S.pk [0] (os' := [tpO 62 T T_l])
  refine ⟨(⟨(Sl.mk ds_a ds_c ds), (Sl.mk l2_a l2_c l2), (Sl.mk es_a es_c es), (Sl.mk ad145 cap145 ([] ++ [(⟨167772672, 24⟩ : Pfx)])), (([0, 1, 0, 1, 2]).getD ((r_t149).toNat) intE.dflt)⟩ : Topo), rfl, ⟨(S.u 4 rfl), (S.u 5 rfl), (S.u 6 rfl), (S.u 7 rfl), ((show LAt intE _ _ (some ⟨b147, 0, none⟩) ([0, 1, 0, 1, 2]) from ((S.u 3 rfl)).1).wf (r_t149).toNat (by first | omega | (simp only [List.length_cons, List.length_nil]; omega)))⟩, ?_, (S.t 0 rfl), S.m.c⟩
  exact ⟨gen_valid hn1 hn6 (by show ds.length = nn; omega) (fun j hj => hd j (by omega)) (by show l2.length ≤ 9; omega) hl2 (by show es.length ≤ 5; omega) (fun j hj => he j (by rw [← hel]; exact hj)) (by first | exact .inl rfl | exact .inr (.inl rfl) | exact .inr (.inr (.inl rfl)) | exact .inr (.inr (.inr rfl))) (tols_fine _), by show ds.length ≤ 6; omega, by show l2.length ≤ 9; omega, by show es.length ≤ 5; omega, by first | (show List.length [] ≤ 2; decide) | (simp)⟩
 intro hc13
 refine wp_skip (then_n (rs0 ?_))
 refine nbs intE S [0, 1, 0, 1, 2] (x_bs S [(0, iI 0), (1, iI 1), (2, iI 0), (3, iI 1), (4, iI 2)] uT22 iZ3) (fun x hx => by simp only [List.mem_cons, List.not_mem_nil, or_false] at hx; rcases hx with hx | hx | hx | hx | hx <;> rw [hx] <;> first | exact (show intE.wf _ _ 0 from (show inI64 0 from ⟨by omega, by omega⟩)) | exact (show intE.wf _ _ 1 from (show inI64 1 from ⟨by omega, by omega⟩)) | exact (show intE.wf _ _ 2 from (show inI64 2 from ⟨by omega, by omega⟩))) ?_; clear S; intro a u b147 S
 refine sp S (la (mv rfl)) ?_; clear S; intro a u S
 refine cl S (gNext _ _ S.x T (S.M.pick [0] (by decide)) T_l (dn1 (js := [0]) (S.u 0 rfl)) (S.t 0 rfl) 5 ⟨by omega, by omega⟩) cB23 ?_
 rintro e u ⟨r_t149, rfl, hr_t149, tK, T0⟩; refine ⟨_, rfl, fun a s => ?_⟩
 replace S := S.k1 0 rfl s T0 tK; clear s T0 tK
 obtain ⟨hl107, hu107⟩ : inI64 (([0, 1, 0, 1, 2]).getD ((r_t149).toNat) intE.dflt) := id ((show LAt intE _ _ (some ⟨b147, 0, none⟩) ([0, 1, 0, 1, 2]) from ((S.u 2 rfl)).1).wf (r_t149).toNat (by first | omega | (simp only [List.length_cons, List.length_nil]; omega)))
 refine ens S (tr (idxi uT22 sZ3 rfl rfl (r_t149).toNat (by omega) (by first | omega | (simp only [List.length_cons, List.length_nil]; omega)) ((show LAt intE _ _ (some ⟨b147, 0, none⟩) ([0, 1, 0, 1, 2]) from ((S.u 2 rfl)).1).adr (i := (r_t149).toNat) (by first | omega | (simp only [List.length_cons, List.length_nil]; omega))))<|tr (ov fun S=>x_load sC3 (S.e rfl) ((show LAt intE _ _ (some ⟨b147, 0, none⟩) ([0, 1, 0, 1, 2]) from ((S.u 2 rfl)).1).cell (r_t149).toNat (by first | omega | (simp only [List.length_cons, List.length_nil]; omega)) 0 _ rfl))<|tr (fldi 0 4 rfl uT28)<|la (stk 2 rfl rfl rfl)) ?_; clear S; intro a u S
 refine rs S (tr (ldkw 2 rfl rfl wD28)<|la (stkw 1 rfl rfl rfl)) ?_; clear S; intro a u S
 refine wp_ret ?_
 replace S := S.fz 3 rfl
 replace S := S.fz 4 rfl
 replace S := S.fz 5 rfl
 refine retcw rfl S.s rfl [.slice ds_a ds.length ds_c, .slice l2_a l2.length l2_c, .slice es_a es.length es_c, .slice none 0 0, iI (([0, 1, 0, 1, 2]).getD ((r_t149).toNat) intE.dflt)] wD28 (fun j v hv => by rw [Nat.zero_add]; exact (S.k 1 rfl).cell hv) ?_
 replace S := S.pk [0] (os' := [tpO 62 T T_l])
 refine ⟨(⟨(Sl.mk ds_a ds_c ds), (Sl.mk l2_a l2_c l2), (Sl.mk es_a es_c es), (Sl.mk none 0 ([])), (([0, 1, 0, 1, 2]).getD ((r_t149).toNat) intE.dflt)⟩ : Topo), rfl, ⟨(S.u 3 rfl), (S.u 4 rfl), (S.u 5 rfl), sl_nil, ((show LAt intE _ _ (some ⟨b147, 0, none⟩) ([0, 1, 0, 1, 2]) from ((S.u 2 rfl)).1).wf (r_t149).toNat (by first | omega | (simp only [List.length_cons, List.length_nil]; omega)))⟩, ?_, (S.t 0 rfl), S.m.c⟩
 exact ⟨gen_valid hn1 hn6 (by show ds.length = nn; omega) (fun j hj => hd j (by omega)) (by show l2.length ≤ 9; omega) hl2 (by show es.length ≤ 5; omega) (fun j hj => he j (by rw [← hel]; exact hj)) (by first | exact .inl rfl | exact .inr (.inl rfl) | exact .inr (.inr (.inl rfl)) | exact .inr (.inr (.inr rfl))) (tols_fine _), by show ds.length ≤ 6; omega, by show l2.length ≤ 9; omega, by show es.length ≤ 5; omega, by first | (show List.length [] ≤ 2; decide) | (simp)⟩
end Go.Proofs.Ytfanmniaolncbaa.V
