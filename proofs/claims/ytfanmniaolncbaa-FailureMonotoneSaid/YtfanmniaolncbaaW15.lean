/- the examples -/
import Derived.Test.YtfanmniaolncbaaW12
import Derived.Test.YtfanmniaolncbaaSanM
namespace Go.Proofs.Ytfanmniaolncbaa.V
open Go.RowKit Go.Proofs.Ytfanmniaolncbaa
set_option linter.unusedVariables false
set_option linter.unusedSimpArgs false
set_option maxHeartbeats 2000000 in
set_option maxRecDepth 20000 in
theorem lTri (w : World) (F : Nat → Prop) (hF : Old F w) (M : MS [] w) :
 Calls Try.prog 55 #[] w fun e w' => ∃ (r : Topo), e = .returned (tV r) ∧ topoE.wf (Fr F []) w'.heap r ∧ isTri r ∧ Tr [] w [] w' := by
 have C : Tr [] w [] w := Tr.refl M
 refine enter Try.func55 rfl 10 rfl (Nat.le_of_ble_eq_true rfl) ?_
 intro a S
 refine qs ?_
 refine seq_new S rfl rfl (by decide) (fun b => pT b 0) (cs := [.slice none 0 0, .slice none 0 0, .slice none 0 0, .slice none 0 0, iI 0]) (x_allocz [.slice none 0 0, .slice none 0 0, .slice none 0 0, .slice none 0 0, iI 0] infoz_28 rfl) ?_
 clear S a; intro a w1 b1 hb1 hbs1 G K1 S; have hbl1 : b1 < w1.heap.size := by omega
 have TT := Tr.fresh C.ms hb1 hbl1 G
 replace C := C.trans TT
 clear TT G
 refine qt ?_
 refine qs ?_
 refine qv S (.agg #[.string (⟨#[97]⟩), iI 0, .bool false, .bool false, .string (⟨#[]⟩)]) (x_build [(0, .string (⟨#[97]⟩))] [.string (⟨#[97]⟩), iI 0, .bool false, .bool false, .string (⟨#[]⟩)] (by simp only [List.map_cons, List.map_nil, show a.eval (.const (.string (⟨#[97]⟩))) = .string (⟨#[97]⟩) from (S.e rfl)]) (by kernel_rfl)) ?_; clear S a; intro a S
 refine qv S (.agg #[.string (⟨#[98]⟩), iI 0, .bool false, .bool false, .string (⟨#[]⟩)]) (x_build [(0, .string (⟨#[98]⟩))] [.string (⟨#[98]⟩), iI 0, .bool false, .bool false, .string (⟨#[]⟩)] (by simp only [List.map_cons, List.map_nil, show a.eval (.const (.string (⟨#[98]⟩))) = .string (⟨#[98]⟩) from (S.e rfl)]) (by kernel_rfl)) ?_; clear S a; intro a S
 refine qv S (.agg #[.string (⟨#[99]⟩), iI 0, .bool false, .bool false, .string (⟨#[]⟩)]) (x_build [(0, .string (⟨#[99]⟩))] [.string (⟨#[99]⟩), iI 0, .bool false, .bool false, .string (⟨#[]⟩)] (by simp only [List.map_cons, List.map_nil, show a.eval (.const (.string (⟨#[99]⟩))) = .string (⟨#[99]⟩) from (S.e rfl)]) (by kernel_rfl)) ?_; clear S a; intro a S
 refine seq_new S rfl rfl (by decide) (fun b => .slice (some ⟨b, 0, none⟩) 3 3) (cs := [.string (⟨#[97]⟩), iI 0, .bool false, .bool false, .string (⟨#[]⟩), .string (⟨#[98]⟩), iI 0, .bool false, .bool false, .string (⟨#[]⟩), .string (⟨#[99]⟩), iI 0, .bool false, .bool false, .string (⟨#[]⟩)]) (x_bsl [(0, .agg #[.string (⟨#[97]⟩), iI 0, .bool false, .bool false, .string (⟨#[]⟩)]), (1, .agg #[.string (⟨#[98]⟩), iI 0, .bool false, .bool false, .string (⟨#[]⟩)]), (2, .agg #[.string (⟨#[99]⟩), iI 0, .bool false, .bool false, .string (⟨#[]⟩)])] [.string (⟨#[97]⟩), iI 0, .bool false, .bool false, .string (⟨#[]⟩), .string (⟨#[98]⟩), iI 0, .bool false, .bool false, .string (⟨#[]⟩), .string (⟨#[99]⟩), iI 0, .bool false, .bool false, .string (⟨#[]⟩)] Try.underlying23 infoz_65 (by decide) (by decide) (by simp only [List.map_cons, List.map_nil, show a.eval (.tmp 1) = .agg #[.string (⟨#[97]⟩), iI 0, .bool false, .bool false, .string (⟨#[]⟩)] from (S.e rfl), show a.eval (.tmp 2) = .agg #[.string (⟨#[98]⟩), iI 0, .bool false, .bool false, .string (⟨#[]⟩)] from (S.e rfl), show a.eval (.tmp 3) = .agg #[.string (⟨#[99]⟩), iI 0, .bool false, .bool false, .string (⟨#[]⟩)] from (S.e rfl)]) (by kernel_rfl)) ?_
 clear S a; intro a w2 b2 hb2 hbs2 G K2 S; have hbl2 : b2 < w2.heap.size := by omega
 have we2_0 : devE.wf (Fr F [one b1]) w1.heap (⟨⟨#[97]⟩, 0, false, false, ⟨#[]⟩⟩ : Dev) := ⟨(by show _ ≤ maxLen; unfold maxLen; decide), (show inI64 0 from ⟨by omega, by omega⟩), trivial, trivial, (by show _ ≤ maxLen; unfold maxLen; decide)⟩
 have we2_1 : devE.wf (Fr F [one b1]) w1.heap (⟨⟨#[98]⟩, 0, false, false, ⟨#[]⟩⟩ : Dev) := ⟨(by show _ ≤ maxLen; unfold maxLen; decide), (show inI64 0 from ⟨by omega, by omega⟩), trivial, trivial, (by show _ ≤ maxLen; unfold maxLen; decide)⟩
 have we2_2 : devE.wf (Fr F [one b1]) w1.heap (⟨⟨#[99]⟩, 0, false, false, ⟨#[]⟩⟩ : Dev) := ⟨(by show _ ≤ maxLen; unfold maxLen; decide), (show inI64 0 from ⟨by omega, by omega⟩), trivial, trivial, (by show _ ≤ maxLen; unfold maxLen; decide)⟩
 have hfr2 := fr_fresh C hF hb2; have TT := Tr.of_ch0 C.ms G
 replace K1 := Blk.tr0 K1 G
 replace C := C.trans TT
 have KS2 : (slE devE).wf (Fr F [one b1]) w2.heap ⟨some ⟨b2, 0, none⟩, 3, [(⟨⟨#[97]⟩, 0, false, false, ⟨#[]⟩⟩ : Dev), (⟨⟨#[98]⟩, 0, false, false, ⟨#[]⟩⟩ : Dev), (⟨⟨#[99]⟩, 0, false, false, ⟨#[]⟩⟩ : Dev)]⟩ := sl_of_blk K2 [(⟨⟨#[97]⟩, 0, false, false, ⟨#[]⟩⟩ : Dev), (⟨⟨#[98]⟩, 0, false, false, ⟨#[]⟩⟩ : Dev), (⟨⟨#[99]⟩, 0, false, false, ⟨#[]⟩⟩ : Dev)] 3 rfl (by decide) (by decide) rfl hfr2 (by intro x hx; simp only [List.mem_cons, List.not_mem_nil, or_false] at hx; rcases hx with rfl | rfl | rfl <;> first | exact Enc.tr (devE) we2_0 TT | exact Enc.tr (devE) we2_1 TT | exact Enc.tr (devE) we2_2 TT)
 clear K2 hfr2 TT G we2_0 we2_1 we2_2
 refine qv S (.agg #[iI 0, iI 1, iI 1]) (x_build [(0, iI 0), (1, iI 1), (2, iI 1)] [iI 0, iI 1, iI 1] (by simp only [List.map_cons, List.map_nil, show a.eval (.const (iI 0)) = iI 0 from (S.e rfl), show a.eval (.const (iI 1)) = iI 1 from (S.e rfl)]) (by kernel_rfl)) ?_; clear S a; intro a S
 refine qv S (.agg #[iI 1, iI 2, iI 1]) (x_build [(0, iI 1), (1, iI 2), (2, iI 1)] [iI 1, iI 2, iI 1] (by simp only [List.map_cons, List.map_nil, show a.eval (.const (iI 1)) = iI 1 from (S.e rfl), show a.eval (.const (iI 2)) = iI 2 from (S.e rfl)]) (by kernel_rfl)) ?_; clear S a; intro a S
 refine qv S (.agg #[iI 0, iI 2, iI 1]) (x_build [(0, iI 0), (1, iI 2), (2, iI 1)] [iI 0, iI 2, iI 1] (by simp only [List.map_cons, List.map_nil, show a.eval (.const (iI 0)) = iI 0 from (S.e rfl), show a.eval (.const (iI 2)) = iI 2 from (S.e rfl), show a.eval (.const (iI 1)) = iI 1 from (S.e rfl)]) (by kernel_rfl)) ?_; clear S a; intro a S
 refine seq_new S rfl rfl (by decide) (fun b => .slice (some ⟨b, 0, none⟩) 3 3) (cs := [iI 0, iI 1, iI 1, iI 1, iI 2, iI 1, iI 0, iI 2, iI 1]) (x_bsl [(0, .agg #[iI 0, iI 1, iI 1]), (1, .agg #[iI 1, iI 2, iI 1]), (2, .agg #[iI 0, iI 2, iI 1])] [iI 0, iI 1, iI 1, iI 1, iI 2, iI 1, iI 0, iI 2, iI 1] Try.underlying24 infoz_54 (by decide) (by decide) (by simp only [List.map_cons, List.map_nil, show a.eval (.tmp 5) = .agg #[iI 0, iI 1, iI 1] from (S.e rfl), show a.eval (.tmp 6) = .agg #[iI 1, iI 2, iI 1] from (S.e rfl), show a.eval (.tmp 7) = .agg #[iI 0, iI 2, iI 1] from (S.e rfl)]) (by kernel_rfl)) ?_
 clear S a; intro a w3 b3 hb3 hbs3 G K3 S; have hbl3 : b3 < w3.heap.size := by omega
 have we3_0 : lnkE.wf (Fr F [one b1]) w2.heap (⟨0, 1, 1⟩ : Lnk) := ⟨(show inI64 0 from ⟨by omega, by omega⟩), (show inI64 1 from ⟨by omega, by omega⟩), (show inI64 1 from ⟨by omega, by omega⟩)⟩
 have we3_1 : lnkE.wf (Fr F [one b1]) w2.heap (⟨1, 2, 1⟩ : Lnk) := ⟨(show inI64 1 from ⟨by omega, by omega⟩), (show inI64 2 from ⟨by omega, by omega⟩), (show inI64 1 from ⟨by omega, by omega⟩)⟩
 have we3_2 : lnkE.wf (Fr F [one b1]) w2.heap (⟨0, 2, 1⟩ : Lnk) := ⟨(show inI64 0 from ⟨by omega, by omega⟩), (show inI64 2 from ⟨by omega, by omega⟩), (show inI64 1 from ⟨by omega, by omega⟩)⟩
 have hfr3 := fr_fresh C hF hb3; have TT := Tr.of_ch0 C.ms G
 replace K1 := Blk.tr0 K1 G
 replace KS2 := Enc.tr (slE devE) KS2 TT
 replace C := C.trans TT
 have KS3 : (slE lnkE).wf (Fr F [one b1]) w3.heap ⟨some ⟨b3, 0, none⟩, 3, [(⟨0, 1, 1⟩ : Lnk), (⟨1, 2, 1⟩ : Lnk), (⟨0, 2, 1⟩ : Lnk)]⟩ := sl_of_blk K3 [(⟨0, 1, 1⟩ : Lnk), (⟨1, 2, 1⟩ : Lnk), (⟨0, 2, 1⟩ : Lnk)] 3 rfl (by decide) (by decide) rfl hfr3 (by intro x hx; simp only [List.mem_cons, List.not_mem_nil, or_false] at hx; rcases hx with rfl | rfl | rfl <;> first | exact Enc.tr (lnkE) we3_0 TT | exact Enc.tr (lnkE) we3_1 TT | exact Enc.tr (lnkE) we3_2 TT)
 clear K3 hfr3 TT G we3_0 we3_1 we3_2
 refine qv S (.agg #[.slice (some ⟨b2, 0, none⟩) 3 3, .slice (some ⟨b3, 0, none⟩) 3 3, .slice none 0 0, .slice none 0 0, iI 1]) (x_build [(0, .slice (some ⟨b2, 0, none⟩) 3 3), (1, .slice (some ⟨b3, 0, none⟩) 3 3), (4, iI 1)] [.slice (some ⟨b2, 0, none⟩) 3 3, .slice (some ⟨b3, 0, none⟩) 3 3, .slice none 0 0, .slice none 0 0, iI 1] (by simp only [List.map_cons, List.map_nil, show a.eval (.tmp 4) = .slice (some ⟨b2, 0, none⟩) 3 3 from (S.e rfl), show a.eval (.tmp 8) = .slice (some ⟨b3, 0, none⟩) 3 3 from (S.e rfl), show a.eval (.const (iI 1)) = iI 1 from (S.e rfl)]) (by kernel_rfl)) ?_; clear S a; intro a S
 refine seq_storew S rfl rfl (vs := [.slice (some ⟨b2, 0, none⟩) 3 3, .slice (some ⟨b3, 0, none⟩) 3 3, .slice none 0 0, .slice none 0 0, iI 1]) (x_storew (by kernel_rfl) (S.e rfl) (S.e rfl) rfl K1 rfl) K1 ?_
 clear S a; intro a w4 G hz K S; clear hz; have TT := Tr.och C.ms G
 replace KS2 := Enc.tr (slE devE) KS2 TT
 replace KS3 := Enc.tr (slE lnkE) KS3 TT
 replace C := C.trans TT
 clear K1; have K1 := K; clear K TT G
 refine qt ?_
 refine wp_ret ?_
 refine retcw rfl S rfl [.slice (some ⟨b2, 0, none⟩) 3 3, .slice (some ⟨b3, 0, none⟩) 3 3, .slice none 0 0, .slice none 0 0, iI 1] ⟨_, Try.underlying28, rfl, by kernel_rfl⟩ (fun j v hv => by rw [Nat.zero_add]; exact K1.cell hv) ?_
 have TD : Tr [one b1] w4 [] w4 := Tr.drop C.ms [] (by decide)
 have GD : Ch (In []) w4 w4 := Ch.refl _
 clear K1
 replace KS2 := Enc.tr (slE devE) KS2 TD
 replace KS3 := Enc.tr (slE lnkE) KS3 TD
 replace C := C.trans TD
 clear TD GD
 refine ⟨(⟨(Sl.mk (some ⟨b2, 0, none⟩) 3 ([(⟨⟨#[97]⟩, 0, false, false, ⟨#[]⟩⟩ : Dev), (⟨⟨#[98]⟩, 0, false, false, ⟨#[]⟩⟩ : Dev), (⟨⟨#[99]⟩, 0, false, false, ⟨#[]⟩⟩ : Dev)])), (Sl.mk (some ⟨b3, 0, none⟩) 3 ([(⟨0, 1, 1⟩ : Lnk), (⟨1, 2, 1⟩ : Lnk), (⟨0, 2, 1⟩ : Lnk)])), (Sl.mk none 0 ([])), (Sl.mk none 0 ([])), 1⟩ : Topo), rfl, ⟨KS2, KS3, sl_nil, sl_nil, (show inI64 1 from ⟨by omega, by omega⟩)⟩, ?_, C⟩
 exact ⟨rfl, rfl, rfl, rfl, rfl⟩
set_option maxHeartbeats 2000000 in
set_option maxRecDepth 20000 in
theorem lSane (w : World) (F : Nat → Prop) (hF : Old F w) (M : MS [] w) :
 Calls Try.prog 21 #[] w fun e w' => e = .returned (bD (True)) ∧ Tr [] w [] w' := by
 have C : Tr [] w [] w := Tr.refl M
 refine enter Try.func21 rfl 48 rfl (Nat.le_of_ble_eq_true rfl) ?_
 intro a S
 refine qs ?_
 refine qa S rfl ?_; clear S a; intro a S
 refine qt ?_
 refine qs ?_
 refine seq_call S (by decide) (vs := #[]) rfl callable_55 (lTri _ (Ex F _) (C.old hF)  (MS.nil _) ) ?_
 rintro e w1 ⟨r_1, rfl, R_1, hr_1, T0⟩; refine ⟨_, rfl, ?_⟩; clear S a; intro a S
 have TT := Tr.framed0 C.ms T0; have G := T0.ch
 replace C := C.trans TT
 replace R_1 := Enc.up (topoE) R_1
 clear T0 G TT
 have hn2 : r_1.devs.xs.length ≤ 9223372036854775807 := (R_1.1).1.len
 have hn3 : r_1.links.xs.length ≤ 9223372036854775807 := (R_1.2.1).1.len
 have hn4 : r_1.edges.xs.length ≤ 9223372036854775807 := (R_1.2.2.1).1.len
 have hn5 : r_1.pools.xs.length ≤ 9223372036854775807 := (R_1.2.2.2.1).1.len
 obtain ⟨hl6, hu6⟩ : inI64 r_1.tol := id R_1.2.2.2.2
 refine seq_new S rfl rfl (by decide) (fun b => pT b 0) (cs := [.slice none 0 0, .slice none 0 0, .slice none 0 0, .slice none 0 0, iI 0]) (x_allocz [.slice none 0 0, .slice none 0 0, .slice none 0 0, .slice none 0 0, iI 0] infoz_28 rfl) ?_
 clear S a; intro a w2 b7 hb7 hbs7 G K7 S; have hbl7 : b7 < w2.heap.size := by omega
 have TT := Tr.fresh C.ms hb7 hbl7 G
 replace R_1 := Enc.tr (topoE) R_1 TT
 replace C := C.trans TT
 clear TT G
 refine seq_storew S rfl rfl (vs := (tL r_1)) (x_storew (by kernel_rfl) (S.e rfl) (S.e rfl) rfl K7 rfl) K7 ?_
 clear S a; intro a w3 G hz K S; clear hz; have TT := Tr.och C.ms G
 replace R_1 := Enc.tr (topoE) R_1 TT
 replace C := C.trans TT
 clear K7; have K7 := K; clear K TT G
 refine qt ?_
 refine qs ?_
 refine seq_new S rfl rfl (by decide) (fun b => .slice (some ⟨b, 0, none⟩) 1 1) (cs := [iI 0]) (x_bsl [(0, iI 0)] [iI 0] Try.underlying22 infoz_3 (by decide) (by decide) (by simp only [List.map_cons, List.map_nil, show a.eval (.const (iI 0)) = iI 0 from (S.e rfl)]) (by kernel_rfl)) ?_
 clear S a; intro a w4 b8 hb8 hbs8 G K8 S; have hbl8 : b8 < w4.heap.size := by omega
 have we8_0 : intE.wf (Fr F [one b7]) w3.heap 0 := (show inI64 0 from ⟨by omega, by omega⟩)
 have hfr8 := fr_fresh C hF hb8; have TT := Tr.of_ch0 C.ms G
 replace R_1 := Enc.tr (topoE) R_1 TT
 replace K7 := Blk.tr0 K7 G
 replace C := C.trans TT
 have KS8 : (slE intE).wf (Fr F [one b7]) w4.heap ⟨some ⟨b8, 0, none⟩, 1, [0]⟩ := sl_of_blk K8 [0] 1 rfl (by decide) (by decide) rfl hfr8 (by intro x hx; simp only [List.mem_cons, List.not_mem_nil, or_false] at hx; subst hx; exact Enc.tr (intE) we8_0 TT)
 clear K8 hfr8 TT G we8_0
 refine qv S (.agg #[.slice (some ⟨b8, 0, none⟩) 1 1, .slice none 0 0]) (x_build [(0, .slice (some ⟨b8, 0, none⟩) 1 1)] [.slice (some ⟨b8, 0, none⟩) 1 1, .slice none 0 0] (by simp only [List.map_cons, List.map_nil, show a.eval (.tmp 5) = .slice (some ⟨b8, 0, none⟩) 1 1 from (S.e rfl)]) (by kernel_rfl)) ?_; clear S a; intro a S
 refine seq_new S rfl rfl (by decide) (fun b => pT b 0) (cs := [.slice none 0 0, .slice none 0 0]) (x_allocz [.slice none 0 0, .slice none 0 0] infoz_41 rfl) ?_
 clear S a; intro a w5 b9 hb9 hbs9 G K9 S; have hbl9 : b9 < w5.heap.size := by omega
 have TT := Tr.fresh C.ms hb9 hbl9 G
 replace R_1 := Enc.tr (topoE) R_1 TT
 replace K7 := Blk.tr0 K7 G
 replace KS8 := Enc.tr (slE intE) KS8 TT
 replace C := C.trans TT
 clear TT G
 refine seq_storew S rfl rfl (vs := [.slice (some ⟨b8, 0, none⟩) 1 1, .slice none 0 0]) (x_storew (by kernel_rfl) (S.e rfl) (S.e rfl) rfl K9 rfl) K9 ?_
 clear S a; intro a w6 G hz K S; clear hz; have TT := Tr.och C.ms G
 replace R_1 := Enc.tr (topoE) R_1 TT
 replace K7 := Blk.tr K7 G (C.ms.sep.out 1 [0] rfl rfl rfl)
 replace KS8 := Enc.tr (slE intE) KS8 TT
 replace C := C.trans TT
 clear K9; have K9 := K; clear K TT G
 refine qt ?_
 refine qs ?_
 refine qv S _ (x_loadw (tL r_1) ⟨_, Try.underlying28, rfl, by kernel_rfl⟩ (S.e rfl) (K7.mid [] _ [] rfl _ rfl)) ?_; clear S a; intro a S
 refine qv S _ (x_loadw [.slice (some ⟨b8, 0, none⟩) 1 1, .slice none 0 0] ⟨_, Try.underlying41, rfl, by kernel_rfl⟩ (S.e rfl) (K9.mid [] _ [] rfl _ rfl)) ?_; clear S a; intro a S
 refine seq_call S (by decide) (vs := #[tV r_1, .agg #[.slice (some ⟨b8, 0, none⟩) 1 1, .slice none 0 0]]) rfl callable_35 (fBridges _ (Ex F _) (C.old hF)  (MS.nil _) r_1 ((topoE).down0 R_1) (⟨(Sl.mk (some ⟨b8, 0, none⟩) 1 ([0])), (Sl.mk none 0 ([]))⟩ : Fail) ⟨((slE intE).down0 KS8), sl_nil⟩) ?_
 rintro e w7 ⟨ra_10, rc_10, rfl, R_10, T0⟩; refine ⟨_, rfl, ?_⟩; clear S a; intro a S
 have TT := Tr.framed0 C.ms T0; have G := T0.ch
 replace R_1 := Enc.tr (topoE) R_1 TT
 replace K7 := Blk.tr0 K7 G
 replace KS8 := Enc.tr (slE intE) KS8 TT
 replace K9 := Blk.tr0 K9 G
 replace C := C.trans TT
 replace R_10 := Enc.up (slE intE) R_10
 clear T0 G TT
 have h2 := tri_two hr_1 (f := (⟨⟨some ⟨b8, 0, none⟩, 1, [0]⟩, ⟨none, 0, []⟩⟩ : Fail)) rfl rfl
 have h0 := tri_none hr_1 (f := (⟨⟨none, 0, []⟩, ⟨none, 0, []⟩⟩ : Fail)) rfl rfl
 have hn11 : (bridgesOf r_1 (⟨(Sl.mk (some ⟨b8, 0, none⟩) 1 ([0])), (Sl.mk none 0 ([]))⟩ : Fail)).length ≤ 9223372036854775807 := (R_10).1.len
 refine qa S rfl ?_; clear S a; intro a S
 refine qt ?_
 refine qs ?_
 refine qv S _ (x_loadw (tL r_1) ⟨_, Try.underlying28, rfl, by kernel_rfl⟩ (S.e rfl) (K7.mid [] _ [] rfl _ rfl)) ?_; clear S a; intro a S
 refine seq_call S (by decide) (vs := #[tV r_1]) rfl callable_18 (fAll _ (Ex F _) (C.old hF)  (MS.nil _) r_1 ((topoE).down0 R_1)) ?_
 rintro e w8 ⟨r_12, rfl, R_12, hr_12, T0⟩; refine ⟨_, rfl, ?_⟩; clear S a; intro a S
 have TT := Tr.framed0 C.ms T0; have G := T0.ch
 replace R_1 := Enc.tr (topoE) R_1 TT
 replace K7 := Blk.tr0 K7 G
 replace KS8 := Enc.tr (slE intE) KS8 TT
 replace K9 := Blk.tr0 K9 G
 replace R_10 := Enc.tr (slE intE) R_10 TT
 replace C := C.trans TT
 replace R_12 := Enc.up (slE failE) R_12
 clear T0 G TT
 have h7 := congrArg List.length hr_12; rw [List.length_map, tri_all hr_1] at h7
 have hn13 : r_12.xs.length ≤ 9223372036854775807 := (R_12).1.len
 refine qv S (iN r_12.xs.length) (x_len Try.underlying34 (S.e rfl)) ?_; clear S a; intro a S
 refine qv S (bD (((r_12.xs.length : Nat) : Int) = 7)) (x_eql (S.e rfl) (S.e rfl)) ?_; clear S a; intro a S
 refine qm S rfl ?_; clear S a; intro a S
 refine (Classical.em (((r_12.xs.length : Nat) : Int) = 7)).elim (fun hs14 => ?_) (fun hs14 => ?_)
 ·replace S := S.ext (d := 14) (v := .bool true) ((S.get 14 _ rfl).trans (congrArg Value.bool (decide_eq_true hs14)))
  refine strip S rfl rfl (gd := 14) rfl ?_
  refine qv S _ (x_loadw (tL r_1) ⟨_, Try.underlying28, rfl, by kernel_rfl⟩ (S.e rfl) (K7.mid [] _ [] rfl _ rfl)) ?_; clear S a; intro a S
  refine strip S rfl rfl (gd := 14) rfl ?_
  refine qv S (.agg #[.slice none 0 0, .slice none 0 0]) (x_build [] [.slice none 0 0, .slice none 0 0] (by simp only [List.map_cons, List.map_nil]) (by kernel_rfl)) ?_; clear S a; intro a S
  refine strip S rfl rfl (gd := 14) rfl ?_
  refine seq_call S (by decide) (vs := #[tV r_1, .agg #[.slice none 0 0, .slice none 0 0]]) rfl callable_35 (fBridges _ (Ex F _) (C.old hF)  (MS.nil _) r_1 ((topoE).down0 R_1) (⟨(Sl.mk none 0 ([])), (Sl.mk none 0 ([]))⟩ : Fail) ⟨sl_nil, sl_nil⟩) ?_
  rintro e w9 ⟨ra_15, rc_15, rfl, R_15, T0⟩; refine ⟨_, rfl, ?_⟩; clear S a; intro a S
  have TT := Tr.framed0 C.ms T0; have G := T0.ch
  replace R_1 := Enc.tr (topoE) R_1 TT
  replace K7 := Blk.tr0 K7 G
  replace KS8 := Enc.tr (slE intE) KS8 TT
  replace K9 := Blk.tr0 K9 G
  replace R_10 := Enc.tr (slE intE) R_10 TT
  replace R_12 := Enc.tr (slE failE) R_12 TT
  replace C := C.trans TT
  replace R_15 := Enc.up (slE intE) R_15
  clear T0 G TT
  have hn16 : (bridgesOf r_1 (⟨(Sl.mk none 0 ([])), (Sl.mk none 0 ([]))⟩ : Fail)).length ≤ 9223372036854775807 := (R_15).1.len
  refine strip S rfl rfl (gd := 14) rfl ?_
  refine qv S (iN (bridgesOf r_1 (⟨(Sl.mk none 0 ([])), (Sl.mk none 0 ([]))⟩ : Fail)).length) (x_len Try.underlying22 (S.e rfl)) ?_; clear S a; intro a S
  refine strip S rfl rfl (gd := 14) rfl ?_
  refine qv S (bD ((((bridgesOf r_1 (⟨(Sl.mk none 0 ([])), (Sl.mk none 0 ([]))⟩ : Fail)).length : Nat) : Int) = 0)) (x_eql (S.e rfl) (S.e rfl)) ?_; clear S a; intro a S
  refine qv S (bD ((((bridgesOf r_1 (⟨(Sl.mk none 0 ([])), (Sl.mk none 0 ([]))⟩ : Fail)).length : Nat) : Int) = 0)) (x_pickt (S.e rfl) (S.e rfl)) ?_; clear S a; intro a S
  refine qm S rfl ?_; clear S a; intro a S
  refine (Classical.em ((((bridgesOf r_1 (⟨(Sl.mk none 0 ([])), (Sl.mk none 0 ([]))⟩ : Fail)).length : Nat) : Int) = 0)).elim (fun hs17 => ?_) (fun hs17 => ?_)
  ·replace S := S.ext (d := 21) (v := .bool true) ((S.get 21 _ rfl).trans (congrArg Value.bool (decide_eq_true hs17)))
   refine strip S rfl rfl (gd := 21) rfl ?_
   refine qm S rfl ?_; clear S a; intro a S
   refine strip S rfl rfl (gd := 21) rfl ?_
   refine qv S (iN (bridgesOf r_1 (⟨(Sl.mk (some ⟨b8, 0, none⟩) 1 ([0])), (Sl.mk none 0 ([]))⟩ : Fail)).length) (x_len Try.underlying22 (S.e rfl)) ?_; clear S a; intro a S
   refine strip S rfl rfl (gd := 21) rfl ?_
   refine qv S (bD ((((bridgesOf r_1 (⟨(Sl.mk (some ⟨b8, 0, none⟩) 1 ([0])), (Sl.mk none 0 ([]))⟩ : Fail)).length : Nat) : Int) = 2)) (x_eql (S.e rfl) (S.e rfl)) ?_; clear S a; intro a S
   refine qv S (bD ((((bridgesOf r_1 (⟨(Sl.mk (some ⟨b8, 0, none⟩) 1 ([0])), (Sl.mk none 0 ([]))⟩ : Fail)).length : Nat) : Int) = 2)) (x_pickt (S.e rfl) (S.e rfl)) ?_; clear S a; intro a S
   refine qm S rfl ?_; clear S a; intro a S
   refine (Classical.em ((((bridgesOf r_1 (⟨(Sl.mk (some ⟨b8, 0, none⟩) 1 ([0])), (Sl.mk none 0 ([]))⟩ : Fail)).length : Nat) : Int) = 2)).elim (fun hs18 => ?_) (fun hs18 => ?_)
   ·replace S := S.ext (d := 26) (v := .bool true) ((S.get 26 _ rfl).trans (congrArg Value.bool (decide_eq_true hs18)))
    refine strip S rfl rfl (gd := 26) rfl ?_
    refine qm S rfl ?_; clear S a; intro a S
    refine strip S rfl rfl (gd := 26) rfl ?_
    refine qv S (pT (blk ra_10) (off ra_10 + 0 * 1)) (x_idx Try.underlying22 (by kernel_rfl) (S.e rfl) (S.e rfl) 0 rfl (by omega) ((show LAt intE _ _ ra_10 (bridgesOf r_1 (⟨(Sl.mk (some ⟨b8, 0, none⟩) 1 ([0])), (Sl.mk none 0 ([]))⟩ : Fail)) from (R_10).1).adr (i := 0) (by omega))) ?_; clear S a; intro a S
    refine strip S rfl rfl (gd := 26) rfl ?_
    obtain ⟨hl19, hu19⟩ : inI64 ((bridgesOf r_1 (⟨(Sl.mk (some ⟨b8, 0, none⟩) 1 ([0])), (Sl.mk none 0 ([]))⟩ : Fail)).getD 0 intE.dflt) := id ((show LAt intE _ _ ra_10 (bridgesOf r_1 (⟨(Sl.mk (some ⟨b8, 0, none⟩) 1 ([0])), (Sl.mk none 0 ([]))⟩ : Fail)) from (R_10).1).wf 0 (by omega))
    refine qv S (iI ((bridgesOf r_1 (⟨(Sl.mk (some ⟨b8, 0, none⟩) 1 ([0])), (Sl.mk none 0 ([]))⟩ : Fail)).getD 0 intE.dflt)) (x_load ⟨_, Try.underlying3, rfl⟩ (S.e rfl) ((show LAt intE _ _ ra_10 (bridgesOf r_1 (⟨(Sl.mk (some ⟨b8, 0, none⟩) 1 ([0])), (Sl.mk none 0 ([]))⟩ : Fail)) from (R_10).1).cell 0 (by omega) 0 _ rfl)) ?_; clear S a; intro a S
    refine strip S rfl rfl (gd := 26) rfl ?_
    refine qv S (bD (((bridgesOf r_1 (⟨(Sl.mk (some ⟨b8, 0, none⟩) 1 ([0])), (Sl.mk none 0 ([]))⟩ : Fail)).getD 0 intE.dflt) = 1)) (x_eql (S.e rfl) (S.e rfl)) ?_; clear S a; intro a S
    refine qv S (bD (((bridgesOf r_1 (⟨(Sl.mk (some ⟨b8, 0, none⟩) 1 ([0])), (Sl.mk none 0 ([]))⟩ : Fail)).getD 0 intE.dflt) = 1)) (x_pickt (S.e rfl) (S.e rfl)) ?_; clear S a; intro a S
    refine qm S rfl ?_; clear S a; intro a S
    refine (Classical.em (((bridgesOf r_1 (⟨(Sl.mk (some ⟨b8, 0, none⟩) 1 ([0])), (Sl.mk none 0 ([]))⟩ : Fail)).getD 0 intE.dflt) = 1)).elim (fun hs20 => ?_) (fun hs20 => ?_)
    ·replace S := S.ext (d := 32) (v := .bool true) ((S.get 32 _ rfl).trans (congrArg Value.bool (decide_eq_true hs20)))
     refine strip S rfl rfl (gd := 32) rfl ?_
     refine qv S _ (x_loadw (tL r_1) ⟨_, Try.underlying28, rfl, by kernel_rfl⟩ (S.e rfl) (K7.mid [] _ [] rfl _ rfl)) ?_; clear S a; intro a S
     refine strip S rfl rfl (gd := 32) rfl ?_
     refine qv S _ (x_loadw [.slice (some ⟨b8, 0, none⟩) 1 1, .slice none 0 0] ⟨_, Try.underlying41, rfl, by kernel_rfl⟩ (S.e rfl) (K9.mid [] _ [] rfl _ rfl)) ?_; clear S a; intro a S
     refine strip S rfl rfl (gd := 32) rfl ?_
     refine seq_call S (by decide) (vs := #[tV r_1, .agg #[.slice (some ⟨b8, 0, none⟩) 1 1, .slice none 0 0], iI 0, iI 1]) rfl callable_27 (fConn _ (Ex F _) (C.old hF)  (MS.nil _) r_1 ((topoE).down0 R_1) (⟨(Sl.mk (some ⟨b8, 0, none⟩) 1 ([0])), (Sl.mk none 0 ([]))⟩ : Fail) ⟨((slE intE).down0 KS8), sl_nil⟩ 0 ⟨by omega, by omega⟩ 1 ⟨by omega, by omega⟩) ?_
     rintro e w10 ⟨rfl, T0⟩; refine ⟨_, rfl, ?_⟩; clear S a; intro a S
     have TT := Tr.framed0 C.ms T0; have G := T0.ch
     replace R_1 := Enc.tr (topoE) R_1 TT
     replace K7 := Blk.tr0 K7 G
     replace KS8 := Enc.tr (slE intE) KS8 TT
     replace K9 := Blk.tr0 K9 G
     replace R_10 := Enc.tr (slE intE) R_10 TT
     replace R_12 := Enc.tr (slE failE) R_12 TT
     replace R_15 := Enc.tr (slE intE) R_15 TT
     replace C := C.trans TT
     clear T0 G TT
     refine qv S (bD (connV r_1 (⟨(Sl.mk (some ⟨b8, 0, none⟩) 1 ([0])), (Sl.mk none 0 ([]))⟩ : Fail) 0 1)) (x_pickt (S.e rfl) (S.e rfl)) ?_; clear S a; intro a S
     refine qm S rfl ?_; clear S a; intro a S
     refine (Classical.em (connV r_1 (⟨(Sl.mk (some ⟨b8, 0, none⟩) 1 ([0])), (Sl.mk none 0 ([]))⟩ : Fail) 0 1)).elim (fun hs22 => ?_) (fun hs22 => ?_)
     ·replace S := S.ext (d := 37) (v := .bool true) ((S.get 37 _ rfl).trans (congrArg Value.bool (decide_eq_true hs22)))
      refine strip S rfl rfl (gd := 37) rfl ?_
      refine qv S _ (x_loadw (tL r_1) ⟨_, Try.underlying28, rfl, by kernel_rfl⟩ (S.e rfl) (K7.mid [] _ [] rfl _ rfl)) ?_; clear S a; intro a S
      refine strip S rfl rfl (gd := 37) rfl ?_
      refine qv S _ (x_loadw [.slice (some ⟨b8, 0, none⟩) 1 1, .slice none 0 0] ⟨_, Try.underlying41, rfl, by kernel_rfl⟩ (S.e rfl) (K9.mid [] _ [] rfl _ rfl)) ?_; clear S a; intro a S
      refine strip S rfl rfl (gd := 37) rfl ?_
      refine seq_call S (by decide) (vs := #[tV r_1, .agg #[.slice (some ⟨b8, 0, none⟩) 1 1, .slice none 0 0], iI 0]) rfl callable_28 (fUsable _ (Ex F _) (C.old hF)  (MS.nil _) r_1 ((topoE).down0 R_1) (⟨(Sl.mk (some ⟨b8, 0, none⟩) 1 ([0])), (Sl.mk none 0 ([]))⟩ : Fail) ⟨((slE intE).down0 KS8), sl_nil⟩ 0 ⟨by omega, by omega⟩) ?_
      rintro e w11 ⟨rfl, T0⟩; refine ⟨_, rfl, ?_⟩; clear S a; intro a S
      have TT := Tr.framed0 C.ms T0; have G := T0.ch
      replace R_1 := Enc.tr (topoE) R_1 TT
      replace K7 := Blk.tr0 K7 G
      replace KS8 := Enc.tr (slE intE) KS8 TT
      replace K9 := Blk.tr0 K9 G
      replace R_10 := Enc.tr (slE intE) R_10 TT
      replace R_12 := Enc.tr (slE failE) R_12 TT
      replace R_15 := Enc.tr (slE intE) R_15 TT
      replace C := C.trans TT
      clear T0 G TT
      refine strip S rfl rfl (gd := 37) rfl ?_
      refine qv S (bD (¬ (usableV r_1 (⟨(Sl.mk (some ⟨b8, 0, none⟩) 1 ([0])), (Sl.mk none 0 ([]))⟩ : Fail) 0))) (x_notp (S.e rfl)) ?_; clear S a; intro a S
      refine qv S (bD (¬ (usableV r_1 (⟨(Sl.mk (some ⟨b8, 0, none⟩) 1 ([0])), (Sl.mk none 0 ([]))⟩ : Fail) 0))) (x_pickt (S.e rfl) (S.e rfl)) ?_; clear S a; intro a S
      refine qm S rfl ?_; clear S a; intro a S
      refine (Classical.em (¬ (usableV r_1 (⟨(Sl.mk (some ⟨b8, 0, none⟩) 1 ([0])), (Sl.mk none 0 ([]))⟩ : Fail) 0))).elim (fun hs24 => ?_) (fun hs24 => ?_)
      ·replace S := S.ext (d := 43) (v := .bool true) ((S.get 43 _ rfl).trans (congrArg Value.bool (decide_eq_true hs24)))
       refine strip S rfl rfl (gd := 43) rfl ?_
       refine qv S _ (x_loadw (tL r_1) ⟨_, Try.underlying28, rfl, by kernel_rfl⟩ (S.e rfl) (K7.mid [] _ [] rfl _ rfl)) ?_; clear S a; intro a S
       refine strip S rfl rfl (gd := 43) rfl ?_
       refine qv S _ (x_loadw [.slice (some ⟨b8, 0, none⟩) 1 1, .slice none 0 0] ⟨_, Try.underlying41, rfl, by kernel_rfl⟩ (S.e rfl) (K9.mid [] _ [] rfl _ rfl)) ?_; clear S a; intro a S
       refine strip S rfl rfl (gd := 43) rfl ?_
       refine seq_call S (by decide) (vs := #[tV r_1, .agg #[.slice (some ⟨b8, 0, none⟩) 1 1, .slice none 0 0]]) rfl callable_22 (fValid _ (Ex F _) (C.old hF)  (MS.nil _) r_1 ((topoE).down0 R_1) (⟨(Sl.mk (some ⟨b8, 0, none⟩) 1 ([0])), (Sl.mk none 0 ([]))⟩ : Fail) ⟨((slE intE).down0 KS8), sl_nil⟩) ?_
       rintro e w12 ⟨rfl, T0⟩; refine ⟨_, rfl, ?_⟩; clear S a; intro a S
       have TT := Tr.framed0 C.ms T0; have G := T0.ch
       replace R_1 := Enc.tr (topoE) R_1 TT
       replace K7 := Blk.tr0 K7 G
       replace KS8 := Enc.tr (slE intE) KS8 TT
       replace K9 := Blk.tr0 K9 G
       replace R_10 := Enc.tr (slE intE) R_10 TT
       replace R_12 := Enc.tr (slE failE) R_12 TT
       replace R_15 := Enc.tr (slE intE) R_15 TT
       replace C := C.trans TT
       clear T0 G TT
       refine qv S (bD (failV r_1 (⟨(Sl.mk (some ⟨b8, 0, none⟩) 1 ([0])), (Sl.mk none 0 ([]))⟩ : Fail))) (x_pickt (S.e rfl) (S.e rfl)) ?_; clear S a; intro a S
       refine qa S rfl ?_; clear S a; intro a S
       refine qt ?_
       refine wp_ret ?_
       refine ret1 rfl S rfl ?_
       have TD : Tr [one b9, one b7] w12 [] w12 := Tr.drop C.ms [] (by decide)
       have GD : Ch (In []) w12 w12 := Ch.refl _
       clear K7
       clear K9
       replace R_1 := Enc.tr (topoE) R_1 TD
       replace KS8 := Enc.tr (slE intE) KS8 TD
       replace R_10 := Enc.tr (slE intE) R_10 TD
       replace R_12 := Enc.tr (slE failE) R_12 TD
       replace R_15 := Enc.tr (slE intE) R_15 TD
       replace C := C.trans TD
       clear TD GD
       refine ⟨(r1 (vb ?_)), C⟩
       exact ⟨fun _ => trivial, fun _ => h2.2.2.2⟩
      replace S := S.ext (d := 43) (v := .bool false) ((S.get 43 _ rfl).trans (congrArg Value.bool (decide_eq_false hs24)))
      refine seq_off S rfl rfl rfl (gd := 43) rfl (by decide) rfl (by decide) ?_; clear S a; intro a S
      refine seq_off S rfl rfl rfl (gd := 43) rfl (by decide) rfl (by decide) ?_; clear S a; intro a S
      refine seq_off S rfl rfl rfl (gd := 43) rfl (by decide) rfl (by decide) ?_; clear S a; intro a S
      refine qv S (.bool false) (x_pickf (S.e rfl) (S.e rfl)) ?_; clear S a; intro a S
      refine qa S rfl ?_; clear S a; intro a S
      refine qt ?_
      refine wp_ret ?_
      refine ret1 rfl S rfl ?_
      have TD : Tr [one b9, one b7] w11 [] w11 := Tr.drop C.ms [] (by decide)
      have GD : Ch (In []) w11 w11 := Ch.refl _
      clear K7
      clear K9
      replace R_1 := Enc.tr (topoE) R_1 TD
      replace KS8 := Enc.tr (slE intE) KS8 TD
      replace R_10 := Enc.tr (slE intE) R_10 TD
      replace R_12 := Enc.tr (slE failE) R_12 TD
      replace R_15 := Enc.tr (slE intE) R_15 TD
      replace C := C.trans TD
      clear TD GD
      refine ⟨(r1 (vf ?_)), C⟩
      exact fun _ => hs24 h2.2.2.1
     replace S := S.ext (d := 37) (v := .bool false) ((S.get 37 _ rfl).trans (congrArg Value.bool (decide_eq_false hs22)))
     refine seq_off S rfl rfl rfl (gd := 37) rfl (by decide) rfl (by decide) ?_; clear S a; intro a S
     refine seq_off S rfl rfl rfl (gd := 37) rfl (by decide) rfl (by decide) ?_; clear S a; intro a S
     refine seq_off S rfl rfl rfl (gd := 37) rfl (by decide) rfl (by decide) ?_; clear S a; intro a S
     refine seq_off S rfl rfl rfl (gd := 37) rfl (by decide) rfl (by decide) ?_; clear S a; intro a S
     refine qv S (.bool false) (x_pickf (S.e rfl) (S.e rfl)) ?_; clear S a; intro a S
     refine qm S rfl ?_; clear S a; intro a S
     refine seq_off S rfl rfl rfl (gd := 43) rfl (by decide) rfl (by decide) ?_; clear S a; intro a S
     refine seq_off S rfl rfl rfl (gd := 43) rfl (by decide) rfl (by decide) ?_; clear S a; intro a S
     refine seq_off S rfl rfl rfl (gd := 43) rfl (by decide) rfl (by decide) ?_; clear S a; intro a S
     refine qv S (.bool false) (x_pickf (S.e rfl) (S.e rfl)) ?_; clear S a; intro a S
     refine qa S rfl ?_; clear S a; intro a S
     refine qt ?_
     refine wp_ret ?_
     refine ret1 rfl S rfl ?_
     have TD : Tr [one b9, one b7] w10 [] w10 := Tr.drop C.ms [] (by decide)
     have GD : Ch (In []) w10 w10 := Ch.refl _
     clear K7
     clear K9
     replace R_1 := Enc.tr (topoE) R_1 TD
     replace KS8 := Enc.tr (slE intE) KS8 TD
     replace R_10 := Enc.tr (slE intE) R_10 TD
     replace R_12 := Enc.tr (slE failE) R_12 TD
     replace R_15 := Enc.tr (slE intE) R_15 TD
     replace C := C.trans TD
     clear TD GD
     refine ⟨(r1 (vf ?_)), C⟩
     exact fun _ => hs22 h2.2.1
    replace S := S.ext (d := 32) (v := .bool false) ((S.get 32 _ rfl).trans (congrArg Value.bool (decide_eq_false hs20)))
    refine seq_off S rfl rfl rfl (gd := 32) rfl (by decide) rfl (by decide) ?_; clear S a; intro a S
    refine seq_off S rfl rfl rfl (gd := 32) rfl (by decide) rfl (by decide) ?_; clear S a; intro a S
    refine seq_off S rfl rfl rfl (gd := 32) rfl (by decide) rfl (by decide) ?_; clear S a; intro a S
    refine qv S (.bool false) (x_pickf (S.e rfl) (S.e rfl)) ?_; clear S a; intro a S
    refine qm S rfl ?_; clear S a; intro a S
    refine seq_off S rfl rfl rfl (gd := 37) rfl (by decide) rfl (by decide) ?_; clear S a; intro a S
    refine seq_off S rfl rfl rfl (gd := 37) rfl (by decide) rfl (by decide) ?_; clear S a; intro a S
    refine seq_off S rfl rfl rfl (gd := 37) rfl (by decide) rfl (by decide) ?_; clear S a; intro a S
    refine seq_off S rfl rfl rfl (gd := 37) rfl (by decide) rfl (by decide) ?_; clear S a; intro a S
    refine qv S (.bool false) (x_pickf (S.e rfl) (S.e rfl)) ?_; clear S a; intro a S
    refine qm S rfl ?_; clear S a; intro a S
    refine seq_off S rfl rfl rfl (gd := 43) rfl (by decide) rfl (by decide) ?_; clear S a; intro a S
    refine seq_off S rfl rfl rfl (gd := 43) rfl (by decide) rfl (by decide) ?_; clear S a; intro a S
    refine seq_off S rfl rfl rfl (gd := 43) rfl (by decide) rfl (by decide) ?_; clear S a; intro a S
    refine qv S (.bool false) (x_pickf (S.e rfl) (S.e rfl)) ?_; clear S a; intro a S
    refine qa S rfl ?_; clear S a; intro a S
    refine qt ?_
    refine wp_ret ?_
    refine ret1 rfl S rfl ?_
    have TD : Tr [one b9, one b7] w9 [] w9 := Tr.drop C.ms [] (by decide)
    have GD : Ch (In []) w9 w9 := Ch.refl _
    clear K7
    clear K9
    replace R_1 := Enc.tr (topoE) R_1 TD
    replace KS8 := Enc.tr (slE intE) KS8 TD
    replace R_10 := Enc.tr (slE intE) R_10 TD
    replace R_12 := Enc.tr (slE failE) R_12 TD
    replace R_15 := Enc.tr (slE intE) R_15 TD
    replace C := C.trans TD
    clear TD GD
    refine ⟨(r1 (vf ?_)), C⟩
    rw [h2.1] at hs20; exact fun _ => hs20 rfl
   replace S := S.ext (d := 26) (v := .bool false) ((S.get 26 _ rfl).trans (congrArg Value.bool (decide_eq_false hs18)))
   refine seq_off S rfl rfl rfl (gd := 26) rfl (by decide) rfl (by decide) ?_; clear S a; intro a S
   refine seq_off S rfl rfl rfl (gd := 26) rfl (by decide) rfl (by decide) ?_; clear S a; intro a S
   refine seq_off S rfl rfl rfl (gd := 26) rfl (by decide) rfl (by decide) ?_; clear S a; intro a S
   refine seq_off S rfl rfl rfl (gd := 26) rfl (by decide) rfl (by decide) ?_; clear S a; intro a S
   refine qv S (.bool false) (x_pickf (S.e rfl) (S.e rfl)) ?_; clear S a; intro a S
   refine qm S rfl ?_; clear S a; intro a S
   refine seq_off S rfl rfl rfl (gd := 32) rfl (by decide) rfl (by decide) ?_; clear S a; intro a S
   refine seq_off S rfl rfl rfl (gd := 32) rfl (by decide) rfl (by decide) ?_; clear S a; intro a S
   refine seq_off S rfl rfl rfl (gd := 32) rfl (by decide) rfl (by decide) ?_; clear S a; intro a S
   refine qv S (.bool false) (x_pickf (S.e rfl) (S.e rfl)) ?_; clear S a; intro a S
   refine qm S rfl ?_; clear S a; intro a S
   refine seq_off S rfl rfl rfl (gd := 37) rfl (by decide) rfl (by decide) ?_; clear S a; intro a S
   refine seq_off S rfl rfl rfl (gd := 37) rfl (by decide) rfl (by decide) ?_; clear S a; intro a S
   refine seq_off S rfl rfl rfl (gd := 37) rfl (by decide) rfl (by decide) ?_; clear S a; intro a S
   refine seq_off S rfl rfl rfl (gd := 37) rfl (by decide) rfl (by decide) ?_; clear S a; intro a S
   refine qv S (.bool false) (x_pickf (S.e rfl) (S.e rfl)) ?_; clear S a; intro a S
   refine qm S rfl ?_; clear S a; intro a S
   refine seq_off S rfl rfl rfl (gd := 43) rfl (by decide) rfl (by decide) ?_; clear S a; intro a S
   refine seq_off S rfl rfl rfl (gd := 43) rfl (by decide) rfl (by decide) ?_; clear S a; intro a S
   refine seq_off S rfl rfl rfl (gd := 43) rfl (by decide) rfl (by decide) ?_; clear S a; intro a S
   refine qv S (.bool false) (x_pickf (S.e rfl) (S.e rfl)) ?_; clear S a; intro a S
   refine qa S rfl ?_; clear S a; intro a S
   refine qt ?_
   refine wp_ret ?_
   refine ret1 rfl S rfl ?_
   have TD : Tr [one b9, one b7] w9 [] w9 := Tr.drop C.ms [] (by decide)
   have GD : Ch (In []) w9 w9 := Ch.refl _
   clear K7
   clear K9
   replace R_1 := Enc.tr (topoE) R_1 TD
   replace KS8 := Enc.tr (slE intE) KS8 TD
   replace R_10 := Enc.tr (slE intE) R_10 TD
   replace R_12 := Enc.tr (slE failE) R_12 TD
   replace R_15 := Enc.tr (slE intE) R_15 TD
   replace C := C.trans TD
   clear TD GD
   refine ⟨(r1 (vf ?_)), C⟩
   rw [h2.1] at hs18; exact fun _ => hs18 rfl
  replace S := S.ext (d := 21) (v := .bool false) ((S.get 21 _ rfl).trans (congrArg Value.bool (decide_eq_false hs17)))
  refine seq_off S rfl rfl rfl (gd := 21) rfl (by decide) rfl (by decide) ?_; clear S a; intro a S
  refine seq_off S rfl rfl rfl (gd := 21) rfl (by decide) rfl (by decide) ?_; clear S a; intro a S
  refine seq_off S rfl rfl rfl (gd := 21) rfl (by decide) rfl (by decide) ?_; clear S a; intro a S
  refine qv S (.bool false) (x_pickf (S.e rfl) (S.e rfl)) ?_; clear S a; intro a S
  refine qm S rfl ?_; clear S a; intro a S
  refine seq_off S rfl rfl rfl (gd := 26) rfl (by decide) rfl (by decide) ?_; clear S a; intro a S
  refine seq_off S rfl rfl rfl (gd := 26) rfl (by decide) rfl (by decide) ?_; clear S a; intro a S
  refine seq_off S rfl rfl rfl (gd := 26) rfl (by decide) rfl (by decide) ?_; clear S a; intro a S
  refine seq_off S rfl rfl rfl (gd := 26) rfl (by decide) rfl (by decide) ?_; clear S a; intro a S
  refine qv S (.bool false) (x_pickf (S.e rfl) (S.e rfl)) ?_; clear S a; intro a S
  refine qm S rfl ?_; clear S a; intro a S
  refine seq_off S rfl rfl rfl (gd := 32) rfl (by decide) rfl (by decide) ?_; clear S a; intro a S
  refine seq_off S rfl rfl rfl (gd := 32) rfl (by decide) rfl (by decide) ?_; clear S a; intro a S
  refine seq_off S rfl rfl rfl (gd := 32) rfl (by decide) rfl (by decide) ?_; clear S a; intro a S
  refine qv S (.bool false) (x_pickf (S.e rfl) (S.e rfl)) ?_; clear S a; intro a S
  refine qm S rfl ?_; clear S a; intro a S
  refine seq_off S rfl rfl rfl (gd := 37) rfl (by decide) rfl (by decide) ?_; clear S a; intro a S
  refine seq_off S rfl rfl rfl (gd := 37) rfl (by decide) rfl (by decide) ?_; clear S a; intro a S
  refine seq_off S rfl rfl rfl (gd := 37) rfl (by decide) rfl (by decide) ?_; clear S a; intro a S
  refine seq_off S rfl rfl rfl (gd := 37) rfl (by decide) rfl (by decide) ?_; clear S a; intro a S
  refine qv S (.bool false) (x_pickf (S.e rfl) (S.e rfl)) ?_; clear S a; intro a S
  refine qm S rfl ?_; clear S a; intro a S
  refine seq_off S rfl rfl rfl (gd := 43) rfl (by decide) rfl (by decide) ?_; clear S a; intro a S
  refine seq_off S rfl rfl rfl (gd := 43) rfl (by decide) rfl (by decide) ?_; clear S a; intro a S
  refine seq_off S rfl rfl rfl (gd := 43) rfl (by decide) rfl (by decide) ?_; clear S a; intro a S
  refine qv S (.bool false) (x_pickf (S.e rfl) (S.e rfl)) ?_; clear S a; intro a S
  refine qa S rfl ?_; clear S a; intro a S
  refine qt ?_
  refine wp_ret ?_
  refine ret1 rfl S rfl ?_
  have TD : Tr [one b9, one b7] w9 [] w9 := Tr.drop C.ms [] (by decide)
  have GD : Ch (In []) w9 w9 := Ch.refl _
  clear K7
  clear K9
  replace R_1 := Enc.tr (topoE) R_1 TD
  replace KS8 := Enc.tr (slE intE) KS8 TD
  replace R_10 := Enc.tr (slE intE) R_10 TD
  replace R_12 := Enc.tr (slE failE) R_12 TD
  replace R_15 := Enc.tr (slE intE) R_15 TD
  replace C := C.trans TD
  clear TD GD
  refine ⟨(r1 (vf ?_)), C⟩
  rw [h0] at hs17; exact fun _ => hs17 rfl
 replace S := S.ext (d := 14) (v := .bool false) ((S.get 14 _ rfl).trans (congrArg Value.bool (decide_eq_false hs14)))
 refine seq_off S rfl rfl rfl (gd := 14) rfl (by decide) rfl (by decide) ?_; clear S a; intro a S
 refine seq_off S rfl rfl rfl (gd := 14) rfl (by decide) rfl (by decide) ?_; clear S a; intro a S
 refine seq_off S rfl rfl rfl (gd := 14) rfl (by decide) rfl (by decide) ?_; clear S a; intro a S
 refine seq_off S rfl rfl rfl (gd := 14) rfl (by decide) rfl (by decide) ?_; clear S a; intro a S
 refine seq_off S rfl rfl rfl (gd := 14) rfl (by decide) rfl (by decide) ?_; clear S a; intro a S
 refine qv S (.bool false) (x_pickf (S.e rfl) (S.e rfl)) ?_; clear S a; intro a S
 refine qm S rfl ?_; clear S a; intro a S
 refine seq_off S rfl rfl rfl (gd := 21) rfl (by decide) rfl (by decide) ?_; clear S a; intro a S
 refine seq_off S rfl rfl rfl (gd := 21) rfl (by decide) rfl (by decide) ?_; clear S a; intro a S
 refine seq_off S rfl rfl rfl (gd := 21) rfl (by decide) rfl (by decide) ?_; clear S a; intro a S
 refine qv S (.bool false) (x_pickf (S.e rfl) (S.e rfl)) ?_; clear S a; intro a S
 refine qm S rfl ?_; clear S a; intro a S
 refine seq_off S rfl rfl rfl (gd := 26) rfl (by decide) rfl (by decide) ?_; clear S a; intro a S
 refine seq_off S rfl rfl rfl (gd := 26) rfl (by decide) rfl (by decide) ?_; clear S a; intro a S
 refine seq_off S rfl rfl rfl (gd := 26) rfl (by decide) rfl (by decide) ?_; clear S a; intro a S
 refine seq_off S rfl rfl rfl (gd := 26) rfl (by decide) rfl (by decide) ?_; clear S a; intro a S
 refine qv S (.bool false) (x_pickf (S.e rfl) (S.e rfl)) ?_; clear S a; intro a S
 refine qm S rfl ?_; clear S a; intro a S
 refine seq_off S rfl rfl rfl (gd := 32) rfl (by decide) rfl (by decide) ?_; clear S a; intro a S
 refine seq_off S rfl rfl rfl (gd := 32) rfl (by decide) rfl (by decide) ?_; clear S a; intro a S
 refine seq_off S rfl rfl rfl (gd := 32) rfl (by decide) rfl (by decide) ?_; clear S a; intro a S
 refine qv S (.bool false) (x_pickf (S.e rfl) (S.e rfl)) ?_; clear S a; intro a S
 refine qm S rfl ?_; clear S a; intro a S
 refine seq_off S rfl rfl rfl (gd := 37) rfl (by decide) rfl (by decide) ?_; clear S a; intro a S
 refine seq_off S rfl rfl rfl (gd := 37) rfl (by decide) rfl (by decide) ?_; clear S a; intro a S
 refine seq_off S rfl rfl rfl (gd := 37) rfl (by decide) rfl (by decide) ?_; clear S a; intro a S
 refine seq_off S rfl rfl rfl (gd := 37) rfl (by decide) rfl (by decide) ?_; clear S a; intro a S
 refine qv S (.bool false) (x_pickf (S.e rfl) (S.e rfl)) ?_; clear S a; intro a S
 refine qm S rfl ?_; clear S a; intro a S
 refine seq_off S rfl rfl rfl (gd := 43) rfl (by decide) rfl (by decide) ?_; clear S a; intro a S
 refine seq_off S rfl rfl rfl (gd := 43) rfl (by decide) rfl (by decide) ?_; clear S a; intro a S
 refine seq_off S rfl rfl rfl (gd := 43) rfl (by decide) rfl (by decide) ?_; clear S a; intro a S
 refine qv S (.bool false) (x_pickf (S.e rfl) (S.e rfl)) ?_; clear S a; intro a S
 refine qa S rfl ?_; clear S a; intro a S
 refine qt ?_
 refine wp_ret ?_
 refine ret1 rfl S rfl ?_
 have TD : Tr [one b9, one b7] w8 [] w8 := Tr.drop C.ms [] (by decide)
 have GD : Ch (In []) w8 w8 := Ch.refl _
 clear K7
 clear K9
 replace R_1 := Enc.tr (topoE) R_1 TD
 replace KS8 := Enc.tr (slE intE) KS8 TD
 replace R_10 := Enc.tr (slE intE) R_10 TD
 replace R_12 := Enc.tr (slE failE) R_12 TD
 replace C := C.trans TD
 clear TD GD
 refine ⟨(r1 (vf ?_)), C⟩
 rw [h7] at hs14; exact fun _ => hs14 rfl
end Go.Proofs.Ytfanmniaolncbaa.V
