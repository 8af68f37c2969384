/- names -/
import Derived.Test.YtfanmniaolncbaaW2
namespace Go.Proofs.Ytfanmniaolncbaa.V
open Go.RowKit Go.Proofs.Ytfanmniaolncbaa
set_option linter.unusedVariables false
set_option linter.unusedSimpArgs false
set_option maxHeartbeats 2000000 in
set_option maxRecDepth 20000 in
theorem tOverlap (w : World) (F : Nat → Prop) (hF : Old F w) (M : MS [] w) (p : Pfx) (p_w : pfxE.wf (Fr F []) w.heap p) (q : Pfx) (q_w : pfxE.wf (Fr F []) w.heap q) :
 Calls Try.prog 82 #[.agg #[.int .u32 p.addr, iI p.bits], .agg #[.int .u32 q.addr, iI q.bits]] w fun e w' => e = .returned (bD (meets p q)) ∧ Tr [] w [] w' := by
 have C : Tr [] w [] w := Tr.refl M
 obtain ⟨_, _⟩ : inU32 p.addr := p_w.1
 obtain ⟨_, _⟩ : inI64 p.bits := p_w.2
 obtain ⟨_, _⟩ : inU32 q.addr := q_w.1
 obtain ⟨_, _⟩ : inI64 q.bits := q_w.2
 refine enter Try.func82 rfl 13 rfl (Nat.le_of_ble_eq_true rfl) ?_
 intro a S
 refine qs ?_
 refine seq_new S rfl rfl (by decide) (fun b => pT b 0) (cs := [.int .u32 p.addr, iI p.bits]) (x_box [.int .u32 p.addr, iI p.bits] (S.e rfl) rfl) ?_
 clear S a; intro a w1 b1 hb1 hbs1 G K1 S; have hbl1 : b1 < w1.heap.size := by omega
 have TT := Tr.fresh C.ms hb1 hbl1 G
 replace p_w := Enc.tr (pfxE) p_w TT
 replace q_w := Enc.tr (pfxE) q_w TT
 replace C := C.trans TT
 clear TT G
 refine seq_new S rfl rfl (by decide) (fun b => pT b 0) (cs := [.int .u32 q.addr, iI q.bits]) (x_box [.int .u32 q.addr, iI q.bits] (S.e rfl) rfl) ?_
 clear S a; intro a w2 b2 hb2 hbs2 G K2 S; have hbl2 : b2 < w2.heap.size := by omega
 have TT := Tr.fresh C.ms hb2 hbl2 G
 replace p_w := Enc.tr (pfxE) p_w TT
 replace q_w := Enc.tr (pfxE) q_w TT
 replace K1 := Blk.tr0 K1 G
 replace C := C.trans TT
 clear TT G
 refine qa S rfl ?_; clear S a; intro a S
 refine qt ?_
 refine qs ?_
 refine qv S _ (x_loadw [.int .u32 p.addr, iI p.bits] ⟨_, Try.underlying68, rfl, by kernel_rfl⟩ (S.e rfl) (K1.mid [] _ [] rfl _ rfl)) ?_; clear S a; intro a S
 refine qv S _ (x_loadw [.int .u32 q.addr, iI q.bits] ⟨_, Try.underlying68, rfl, by kernel_rfl⟩ (S.e rfl) (K2.mid [] _ [] rfl _ rfl)) ?_; clear S a; intro a S
 refine seq_call S (by decide) (vs := #[.agg #[.int .u32 p.addr, iI p.bits], .agg #[.int .u32 q.addr, iI q.bits]]) rfl callable_104 (pCovers _ (Ex F _) (C.old hF)  (MS.nil _) p ((pfxE).down0 p_w) q ((pfxE).down0 q_w)) ?_
 rintro e w3 ⟨rfl, T0⟩; refine ⟨_, rfl, ?_⟩; clear S a; intro a S
 have TT := Tr.framed0 C.ms T0; have G := T0.ch
 replace p_w := Enc.tr (pfxE) p_w TT
 replace q_w := Enc.tr (pfxE) q_w TT
 replace K1 := Blk.tr0 K1 G
 replace K2 := Blk.tr0 K2 G
 replace C := C.trans TT
 clear T0 G TT
 refine qm S rfl ?_; clear S a; intro a S
 refine qg S 8 rfl (¬ (pfxC p q)) gf _ (fun hg => (x_loadw [.int .u32 q.addr, iI q.bits] ⟨_, Try.underlying68, rfl, by kernel_rfl⟩ (S.e rfl) (K2.mid [] _ [] rfl _ rfl))) ?_; clear S a; intro a S
 refine qg S 8 rfl (¬ (pfxC p q)) gf _ (fun hg => (x_loadw [.int .u32 p.addr, iI p.bits] ⟨_, Try.underlying68, rfl, by kernel_rfl⟩ (S.e rfl) (K1.mid [] _ [] rfl _ rfl))) ?_; clear S a; intro a S
 refine seq_gcall S (by decide) (gd := 8) (vs := #[.agg #[.int .u32 q.addr, iI q.bits], .agg #[.int .u32 p.addr, iI p.bits]]) (v := bD (pfxC q p)) rfl rfl (by decide) rfl (c := (¬ (pfxC p q))) gf (fun hg => by simp only [List.map_toArray, List.map_cons, List.map_nil, show a.eval (.tmp 9) = .agg #[.int .u32 q.addr, iI q.bits] from (S.p rfl hg), show a.eval (.tmp 10) = .agg #[.int .u32 p.addr, iI p.bits] from (S.p rfl hg)]) callable_104 (fun hg => ((pCovers _ (Ex F _) (C.old hF)  (MS.nil _) q ((pfxE).down0 q_w) p ((pfxE).down0 p_w))).mono (fun _ _ h => ⟨h.1, h.2.ch⟩)) ?_
 clear S a; intro a w4 G S; have TT := Tr.of_ch0 C.ms G
 replace p_w := Enc.tr (pfxE) p_w TT
 replace q_w := Enc.tr (pfxE) q_w TT
 replace K1 := Blk.tr0 K1 G
 replace K2 := Blk.tr0 K2 G
 replace C := C.trans TT
 refine qv S (bD ((pfxC p q) ∨ (pfxC q p))) (x_or (S.e rfl) (S.e rfl) (S.p rfl)) ?_; clear S a; intro a S
 refine qa S rfl ?_; clear S a; intro a S
 refine qt ?_
 refine wp_ret ?_
 refine ret1 rfl S rfl ?_
 have TD : Tr [one b2, one b1] w4 [] w4 := Tr.drop C.ms [] (by decide)
 have GD : Ch (In []) w4 w4 := Ch.refl _
 clear K1
 clear K2
 replace p_w := Enc.tr (pfxE) p_w TD
 replace q_w := Enc.tr (pfxE) q_w TD
 replace C := C.trans TD
 clear TD GD
 refine ⟨(r1 (vb ?_)), C⟩
 first | exact Iff.rfl | assumption | omega | simp_all
set_option maxHeartbeats 2000000 in
set_option maxRecDepth 20000 in
theorem tValid1 (w : World) (F : Nat → Prop) (hF : Old F w) (M : MS [] w) (q : Pfx) (q_w : pfxE.wf (Fr F []) w.heap q) (p : Pfx) (p_w : pfxE.wf (Fr F []) w.heap p) (p_b : Nat) (p_K : Blk w.heap p_b [.int .u32 p.addr, .int .i64 p.bits] 68) :
 Calls Try.prog 85 #[.agg #[.int .u32 q.addr, iI q.bits], pT p_b 0] w fun e w' => e = .returned (bD (meets p q)) ∧ Tr [] w [] w' := by
 have C : Tr [] w [] w := Tr.refl M
 obtain ⟨_, _⟩ : inU32 q.addr := q_w.1
 obtain ⟨_, _⟩ : inI64 q.bits := q_w.2
 replace p_K : BlkR [] _ _ _ _ := ⟨p_K, fun h => h⟩
 refine enter Try.func85 rfl 7 rfl (Nat.le_of_ble_eq_true rfl) ?_
 intro a S
 refine qs ?_
 refine seq_new S rfl rfl (by decide) (fun b => pT b 0) (cs := [.int .u32 q.addr, iI q.bits]) (x_box [.int .u32 q.addr, iI q.bits] (S.e rfl) rfl) ?_
 clear S a; intro a w1 b1 hb1 hbs1 G K1 S; have hbl1 : b1 < w1.heap.size := by omega
 have TT := Tr.fresh C.ms hb1 hbl1 G
 replace q_w := Enc.tr (pfxE) q_w TT
 replace p_K := BlkR.tr p_K TT
 replace p_w := Enc.tr (pfxE) p_w TT
 replace C := C.trans TT
 clear TT G
 refine qa S rfl ?_; clear S a; intro a S
 refine qt ?_
 refine qs ?_
 refine qv S _ (x_loadw [.int .u32 p.addr, iI p.bits] ⟨_, Try.underlying68, rfl, by kernel_rfl⟩ (S.e rfl) (p_K.mid [] _ [] rfl _ rfl)) ?_; clear S a; intro a S
 refine qv S _ (x_loadw [.int .u32 q.addr, iI q.bits] ⟨_, Try.underlying68, rfl, by kernel_rfl⟩ (S.e rfl) (K1.mid [] _ [] rfl _ rfl)) ?_; clear S a; intro a S
 refine seq_call S (by decide) (vs := #[.agg #[.int .u32 p.addr, iI p.bits], .agg #[.int .u32 q.addr, iI q.bits]]) rfl callable_82 (tOverlap _ (Ex F _) (C.old hF)  (MS.nil _) p ((pfxE).down0 p_w) q ((pfxE).down0 q_w)) ?_
 rintro e w2 ⟨rfl, T0⟩; refine ⟨_, rfl, ?_⟩; clear S a; intro a S
 have TT := Tr.framed0 C.ms T0; have G := T0.ch
 replace q_w := Enc.tr (pfxE) q_w TT
 replace p_K := BlkR.tr p_K TT
 replace p_w := Enc.tr (pfxE) p_w TT
 replace K1 := Blk.tr0 K1 G
 replace C := C.trans TT
 clear T0 G TT
 refine qa S rfl ?_; clear S a; intro a S
 refine qt ?_
 refine wp_ret ?_
 refine ret1 rfl S rfl ?_
 have TD : Tr [one b1] w2 [] w2 := Tr.drop C.ms [] (by decide)
 have GD : Ch (In []) w2 w2 := Ch.refl _
 clear K1
 replace q_w := Enc.tr (pfxE) q_w TD
 replace p_K := BlkR.tr p_K TD
 replace p_w := Enc.tr (pfxE) p_w TD
 replace C := C.trans TD
 clear TD GD
 refine ⟨(r1 (vb ?_)), C⟩
 first | exact Iff.rfl | assumption | omega | simp_all
set_option maxHeartbeats 2000000 in
set_option maxRecDepth 20000 in
theorem rMeet (w : World) (F : Nat → Prop) (hF : Old F w) (M : MS [] w) (p : Pfx) (p_w : pfxE.wf (Fr F []) w.heap p) (q : Pfx) (q_w : pfxE.wf (Fr F []) w.heap q) :
 Calls Try.prog 109 #[.agg #[.int .u32 p.addr, iI p.bits], .agg #[.int .u32 q.addr, iI q.bits]] w fun e w' => e = .returned (bD (meets p q)) ∧ Tr [] w [] w' := by
 have C : Tr [] w [] w := Tr.refl M
 obtain ⟨_, _⟩ : inU32 p.addr := p_w.1
 obtain ⟨_, _⟩ : inI64 p.bits := p_w.2
 obtain ⟨_, _⟩ : inU32 q.addr := q_w.1
 obtain ⟨_, _⟩ : inI64 q.bits := q_w.2
 refine enter Try.func109 rfl 13 rfl (Nat.le_of_ble_eq_true rfl) ?_
 intro a S
 refine qs ?_
 refine seq_new S rfl rfl (by decide) (fun b => pT b 0) (cs := [.int .u32 p.addr, iI p.bits]) (x_box [.int .u32 p.addr, iI p.bits] (S.e rfl) rfl) ?_
 clear S a; intro a w1 b1 hb1 hbs1 G K1 S; have hbl1 : b1 < w1.heap.size := by omega
 have TT := Tr.fresh C.ms hb1 hbl1 G
 replace p_w := Enc.tr (pfxE) p_w TT
 replace q_w := Enc.tr (pfxE) q_w TT
 replace C := C.trans TT
 clear TT G
 refine seq_new S rfl rfl (by decide) (fun b => pT b 0) (cs := [.int .u32 q.addr, iI q.bits]) (x_box [.int .u32 q.addr, iI q.bits] (S.e rfl) rfl) ?_
 clear S a; intro a w2 b2 hb2 hbs2 G K2 S; have hbl2 : b2 < w2.heap.size := by omega
 have TT := Tr.fresh C.ms hb2 hbl2 G
 replace p_w := Enc.tr (pfxE) p_w TT
 replace q_w := Enc.tr (pfxE) q_w TT
 replace K1 := Blk.tr0 K1 G
 replace C := C.trans TT
 clear TT G
 refine qa S rfl ?_; clear S a; intro a S
 refine qt ?_
 refine qs ?_
 refine qv S _ (x_loadw [.int .u32 p.addr, iI p.bits] ⟨_, Try.underlying68, rfl, by kernel_rfl⟩ (S.e rfl) (K1.mid [] _ [] rfl _ rfl)) ?_; clear S a; intro a S
 refine qv S _ (x_loadw [.int .u32 q.addr, iI q.bits] ⟨_, Try.underlying68, rfl, by kernel_rfl⟩ (S.e rfl) (K2.mid [] _ [] rfl _ rfl)) ?_; clear S a; intro a S
 refine seq_call S (by decide) (vs := #[.agg #[.int .u32 p.addr, iI p.bits], .agg #[.int .u32 q.addr, iI q.bits]]) rfl callable_113 (rCovers _ (Ex F _) (C.old hF)  (MS.nil _) p ((pfxE).down0 p_w) q ((pfxE).down0 q_w)) ?_
 rintro e w3 ⟨rfl, T0⟩; refine ⟨_, rfl, ?_⟩; clear S a; intro a S
 have TT := Tr.framed0 C.ms T0; have G := T0.ch
 replace p_w := Enc.tr (pfxE) p_w TT
 replace q_w := Enc.tr (pfxE) q_w TT
 replace K1 := Blk.tr0 K1 G
 replace K2 := Blk.tr0 K2 G
 replace C := C.trans TT
 clear T0 G TT
 refine qm S rfl ?_; clear S a; intro a S
 refine qg S 8 rfl (¬ (pfxC p q)) gf _ (fun hg => (x_loadw [.int .u32 q.addr, iI q.bits] ⟨_, Try.underlying68, rfl, by kernel_rfl⟩ (S.e rfl) (K2.mid [] _ [] rfl _ rfl))) ?_; clear S a; intro a S
 refine qg S 8 rfl (¬ (pfxC p q)) gf _ (fun hg => (x_loadw [.int .u32 p.addr, iI p.bits] ⟨_, Try.underlying68, rfl, by kernel_rfl⟩ (S.e rfl) (K1.mid [] _ [] rfl _ rfl))) ?_; clear S a; intro a S
 refine seq_gcall S (by decide) (gd := 8) (vs := #[.agg #[.int .u32 q.addr, iI q.bits], .agg #[.int .u32 p.addr, iI p.bits]]) (v := bD (pfxC q p)) rfl rfl (by decide) rfl (c := (¬ (pfxC p q))) gf (fun hg => by simp only [List.map_toArray, List.map_cons, List.map_nil, show a.eval (.tmp 9) = .agg #[.int .u32 q.addr, iI q.bits] from (S.p rfl hg), show a.eval (.tmp 10) = .agg #[.int .u32 p.addr, iI p.bits] from (S.p rfl hg)]) callable_113 (fun hg => ((rCovers _ (Ex F _) (C.old hF)  (MS.nil _) q ((pfxE).down0 q_w) p ((pfxE).down0 p_w))).mono (fun _ _ h => ⟨h.1, h.2.ch⟩)) ?_
 clear S a; intro a w4 G S; have TT := Tr.of_ch0 C.ms G
 replace p_w := Enc.tr (pfxE) p_w TT
 replace q_w := Enc.tr (pfxE) q_w TT
 replace K1 := Blk.tr0 K1 G
 replace K2 := Blk.tr0 K2 G
 replace C := C.trans TT
 refine qv S (bD ((pfxC p q) ∨ (pfxC q p))) (x_or (S.e rfl) (S.e rfl) (S.p rfl)) ?_; clear S a; intro a S
 refine qa S rfl ?_; clear S a; intro a S
 refine qt ?_
 refine wp_ret ?_
 refine ret1 rfl S rfl ?_
 have TD : Tr [one b2, one b1] w4 [] w4 := Tr.drop C.ms [] (by decide)
 have GD : Ch (In []) w4 w4 := Ch.refl _
 clear K1
 clear K2
 replace p_w := Enc.tr (pfxE) p_w TD
 replace q_w := Enc.tr (pfxE) q_w TD
 replace C := C.trans TD
 clear TD GD
 refine ⟨(r1 (vb ?_)), C⟩
 first | exact Iff.rfl | assumption | omega | simp_all
set_option maxHeartbeats 2000000 in
set_option maxRecDepth 20000 in
theorem sName (w : World) (F : Nat → Prop) (hF : Old F w) (M : MS [] w) (s : ByteArray) (s_h : inStr s) :
 Calls Try.prog 99 #[.string s] w fun e w' => e = .returned (bD (vname s)) ∧ Tr [] w [] w' := by
 have C : Tr [] w [] w := Tr.refl M
 refine enter Try.func99 rfl 71 rfl (Nat.le_of_ble_eq_true rfl) ?_
 intro a S
 refine qs ?_
 refine qa S rfl ?_; clear S a; intro a S
 refine qt ?_
 refine wp_seq ?_
 refine qs ?_
 refine qm S rfl ?_; clear S a; intro a S
 refine qv S (bD (s = ⟨#[]⟩)) (x_seql (S.e rfl) (S.e rfl)) ?_; clear S a; intro a S
 refine qm S rfl ?_; clear S a; intro a S
 refine qg S 8 rfl (¬ (s = ⟨#[]⟩)) gf (.string s) (fun hg => (x_move (S.e rfl))) ?_; clear S a; intro a S
 refine qg S 8 rfl (¬ (s = ⟨#[]⟩)) gf (iN s.size) (fun hg => (x_lens Try.underlying9 (S.p rfl hg))) ?_; clear S a; intro a S
 refine qg S 8 rfl (¬ (s = ⟨#[]⟩)) gf (bD (24 < ((s.size : Nat) : Int))) (fun hg => (x_gtr (S.p rfl hg) (S.e rfl))) ?_; clear S a; intro a S
 refine qv S (bD ((s = ⟨#[]⟩) ∨ (24 < ((s.size : Nat) : Int)))) (x_or (S.e rfl) (S.e rfl) (S.p rfl)) ?_; clear S a; intro a S
 refine qm S rfl ?_; clear S a; intro a S
 refine qg S 13 rfl (¬ ((s = ⟨#[]⟩) ∨ (24 < ((s.size : Nat) : Int)))) gf (.string s) (fun hg => (x_move (S.e rfl))) ?_; clear S a; intro a S
 refine qg S 13 rfl (¬ ((s = ⟨#[]⟩) ∨ (24 < ((s.size : Nat) : Int)))) gf (bD (s = ⟨#[97, 110, 121]⟩)) (fun hg => (x_seql (S.p rfl hg) (S.e rfl))) ?_; clear S a; intro a S
 refine qv S (bD (((s = ⟨#[]⟩) ∨ (24 < ((s.size : Nat) : Int))) ∨ (s = ⟨#[97, 110, 121]⟩))) (x_or (S.e rfl) (S.e rfl) (S.p rfl)) ?_; clear S a; intro a S
 refine qm S rfl ?_; clear S a; intro a S
 refine qg S 17 rfl (¬ (((s = ⟨#[]⟩) ∨ (24 < ((s.size : Nat) : Int))) ∨ (s = ⟨#[97, 110, 121]⟩))) gf (.string s) (fun hg => (x_move (S.e rfl))) ?_; clear S a; intro a S
 have hb1 := bt_bd s 0
 refine qg S 17 rfl (¬ (((s = ⟨#[]⟩) ∨ (24 < ((s.size : Nat) : Int))) ∨ (s = ⟨#[97, 110, 121]⟩))) gf (.int .u8 (bt s 0)) (fun hg => (x_sidx Try.underlying9 (S.p rfl hg) (S.e rfl) 0 rfl (str_pos (fun e => by simp [e] at hg)))) ?_; clear S a; intro a S
 refine qg S 17 rfl (¬ (((s = ⟨#[]⟩) ∨ (24 < ((s.size : Nat) : Int))) ∨ (s = ⟨#[97, 110, 121]⟩))) gf (bD ((bt s 0) < 97)) (fun hg => (x_lss (S.p rfl hg) (S.e rfl))) ?_; clear S a; intro a S
 refine qv S (bD ((((s = ⟨#[]⟩) ∨ (24 < ((s.size : Nat) : Int))) ∨ (s = ⟨#[97, 110, 121]⟩)) ∨ ((bt s 0) < 97))) (x_or (S.e rfl) (S.e rfl) (S.p rfl)) ?_; clear S a; intro a S
 refine qm S rfl ?_; clear S a; intro a S
 refine qg S 22 rfl (¬ ((((s = ⟨#[]⟩) ∨ (24 < ((s.size : Nat) : Int))) ∨ (s = ⟨#[97, 110, 121]⟩)) ∨ ((bt s 0) < 97))) gf (.string s) (fun hg => (x_move (S.e rfl))) ?_; clear S a; intro a S
 have hb2 := bt_bd s 0
 refine qg S 22 rfl (¬ ((((s = ⟨#[]⟩) ∨ (24 < ((s.size : Nat) : Int))) ∨ (s = ⟨#[97, 110, 121]⟩)) ∨ ((bt s 0) < 97))) gf (.int .u8 (bt s 0)) (fun hg => (x_sidx Try.underlying9 (S.p rfl hg) (S.e rfl) 0 rfl (str_pos (fun e => by simp [e] at hg)))) ?_; clear S a; intro a S
 refine qg S 22 rfl (¬ ((((s = ⟨#[]⟩) ∨ (24 < ((s.size : Nat) : Int))) ∨ (s = ⟨#[97, 110, 121]⟩)) ∨ ((bt s 0) < 97))) gf (bD (122 < (bt s 0))) (fun hg => (x_gtr (S.p rfl hg) (S.e rfl))) ?_; clear S a; intro a S
 refine qv S (bD (((((s = ⟨#[]⟩) ∨ (24 < ((s.size : Nat) : Int))) ∨ (s = ⟨#[97, 110, 121]⟩)) ∨ ((bt s 0) < 97)) ∨ (122 < (bt s 0)))) (x_or (S.e rfl) (S.e rfl) (S.p rfl)) ?_; clear S a; intro a S
 refine qt ?_
 refine cond_dec S rfl ?_ ?_
 ·intro hc0
  refine qs ?_
  refine qa S rfl ?_; clear S a; intro a S
  refine qt ?_
  refine wp_ret ?_
  refine then_r ?_
  refine ret1 rfl S rfl ?_
  refine ⟨(r1 (vf ?_)), C⟩
  unfold vname; rintro ⟨h1, h2, h3, h4, h5⟩; rcases hc0 with (((h | h) | h) | h) | h
  ·exact h1 h
  ·omega
  ·exact h3 h
  ·omega
  omega
 intro hc1
 refine wp_skip ?_
 refine then_n ?_
 refine wp_seq ?_
 refine qs ?_
 refine qa S rfl ?_; clear S a; intro a S
 refine qt ?_
 refine wp_block ?_
 refine wp_loop_ghost (fun m a wr => ∃ k : Nat, Slots 71 [(0, .string s), (3, iN k)] a ∧ Tr [] w [] wr ∧ (k ≤ s.size ∧ ∀ j, j < k → okc (bt s j)) ∧ (s.size - k) = m) (s.size - 0) ?_ ?_
 ·refine ⟨0, S.sub ⟨rfl, rfl, trivial⟩, Tr.refl C.ms, ?_, rfl⟩
  exact ⟨Nat.zero_le _, fun j hj => by omega⟩
 rintro m a w1 ⟨k, S, G, hR, rfl⟩
 replace C := C.trans G
 have GL0 := G; clear G
 obtain ⟨hk, hn⟩ := hR
 have hsz : s.size ≤ 9223372036854775807 := s_h
 refine wp_seq ?_
 refine qs ?_
 refine qm S rfl ?_; clear S a; intro a S
 refine qm S rfl ?_; clear S a; intro a S
 refine qv S (iN s.size) (x_lens Try.underlying9 (S.e rfl)) ?_; clear S a; intro a S
 refine qv S (bD (((k : Nat) : Int) < ((s.size : Nat) : Int))) (x_lss (S.e rfl) (S.e rfl)) ?_; clear S a; intro a S
 refine qt ?_
 refine cond_dec S rfl ?_ ?_
 ·intro hc2
  refine wp_skip ?_
  refine then_n ?_
  refine wp_seq ?_
  refine wp_block ?_
  refine qs ?_
  refine qm S rfl ?_; clear S a; intro a S
  refine qm S rfl ?_; clear S a; intro a S
  have hb3 := bt_bd s k
  refine qv S (.int .u8 (bt s k)) (x_sidx Try.underlying9 (S.e rfl) (S.e rfl) k rfl (by omega)) ?_; clear S a; intro a S
  refine qv S (bD (97 ≤ (bt s k))) (x_geq (S.e rfl) (S.e rfl)) ?_; clear S a; intro a S
  refine qm S rfl ?_; clear S a; intro a S
  refine qg S 37 rfl (97 ≤ (bt s k)) gt (.string s) (fun hg => (x_move (S.e rfl))) ?_; clear S a; intro a S
  refine qg S 37 rfl (97 ≤ (bt s k)) gt (iN k) (fun hg => (x_move (S.e rfl))) ?_; clear S a; intro a S
  have hb4 := bt_bd s k
  refine qg S 37 rfl (97 ≤ (bt s k)) gt (.int .u8 (bt s k)) (fun hg => (x_sidx Try.underlying9 (S.p rfl hg) (S.p rfl hg) k rfl (by omega))) ?_; clear S a; intro a S
  refine qg S 37 rfl (97 ≤ (bt s k)) gt (bD ((bt s k) ≤ 122)) (fun hg => (x_leq (S.p rfl hg) (S.e rfl))) ?_; clear S a; intro a S
  refine qv S (bD ((97 ≤ (bt s k)) ∧ ((bt s k) ≤ 122))) (x_and (S.e rfl) (S.p rfl) (S.e rfl)) ?_; clear S a; intro a S
  refine qa S rfl ?_; clear S a; intro a S
  refine qt ?_
  refine qs ?_
  refine qm S rfl ?_; clear S a; intro a S
  refine qm S rfl ?_; clear S a; intro a S
  have hb5 := bt_bd s k
  refine qv S (.int .u8 (bt s k)) (x_sidx Try.underlying9 (S.e rfl) (S.e rfl) k rfl (by omega)) ?_; clear S a; intro a S
  refine qv S (bD (48 ≤ (bt s k))) (x_geq (S.e rfl) (S.e rfl)) ?_; clear S a; intro a S
  refine qm S rfl ?_; clear S a; intro a S
  refine qg S 47 rfl (48 ≤ (bt s k)) gt (.string s) (fun hg => (x_move (S.e rfl))) ?_; clear S a; intro a S
  refine qg S 47 rfl (48 ≤ (bt s k)) gt (iN k) (fun hg => (x_move (S.e rfl))) ?_; clear S a; intro a S
  have hb6 := bt_bd s k
  refine qg S 47 rfl (48 ≤ (bt s k)) gt (.int .u8 (bt s k)) (fun hg => (x_sidx Try.underlying9 (S.p rfl hg) (S.p rfl hg) k rfl (by omega))) ?_; clear S a; intro a S
  refine qg S 47 rfl (48 ≤ (bt s k)) gt (bD ((bt s k) ≤ 57)) (fun hg => (x_leq (S.p rfl hg) (S.e rfl))) ?_; clear S a; intro a S
  refine qv S (bD ((48 ≤ (bt s k)) ∧ ((bt s k) ≤ 57))) (x_and (S.e rfl) (S.p rfl) (S.e rfl)) ?_; clear S a; intro a S
  refine qa S rfl ?_; clear S a; intro a S
  refine qt ?_
  refine qs ?_
  refine qm S rfl ?_; clear S a; intro a S
  refine qv S (bD (¬ ((97 ≤ (bt s k)) ∧ ((bt s k) ≤ 122)))) (x_notp (S.e rfl)) ?_; clear S a; intro a S
  refine qm S rfl ?_; clear S a; intro a S
  refine qg S 55 rfl (¬ ((97 ≤ (bt s k)) ∧ ((bt s k) ≤ 122))) gt (bD ((48 ≤ (bt s k)) ∧ ((bt s k) ≤ 57))) (fun hg => (x_move (S.e rfl))) ?_; clear S a; intro a S
  refine qg S 55 rfl (¬ ((97 ≤ (bt s k)) ∧ ((bt s k) ≤ 122))) gt (bD (¬ ((48 ≤ (bt s k)) ∧ ((bt s k) ≤ 57)))) (fun hg => (x_notp (S.p rfl hg))) ?_; clear S a; intro a S
  refine qv S (bD ((¬ ((97 ≤ (bt s k)) ∧ ((bt s k) ≤ 122))) ∧ (¬ ((48 ≤ (bt s k)) ∧ ((bt s k) ≤ 57))))) (x_and (S.e rfl) (S.p rfl) (S.e rfl)) ?_; clear S a; intro a S
  refine qm S rfl ?_; clear S a; intro a S
  refine qg S 59 rfl ((¬ ((97 ≤ (bt s k)) ∧ ((bt s k) ≤ 122))) ∧ (¬ ((48 ≤ (bt s k)) ∧ ((bt s k) ≤ 57)))) gt (.string s) (fun hg => (x_move (S.e rfl))) ?_; clear S a; intro a S
  refine qg S 59 rfl ((¬ ((97 ≤ (bt s k)) ∧ ((bt s k) ≤ 122))) ∧ (¬ ((48 ≤ (bt s k)) ∧ ((bt s k) ≤ 57)))) gt (iN k) (fun hg => (x_move (S.e rfl))) ?_; clear S a; intro a S
  have hb7 := bt_bd s k
  refine qg S 59 rfl ((¬ ((97 ≤ (bt s k)) ∧ ((bt s k) ≤ 122))) ∧ (¬ ((48 ≤ (bt s k)) ∧ ((bt s k) ≤ 57)))) gt (.int .u8 (bt s k)) (fun hg => (x_sidx Try.underlying9 (S.p rfl hg) (S.p rfl hg) k rfl (by omega))) ?_; clear S a; intro a S
  refine qg S 59 rfl ((¬ ((97 ≤ (bt s k)) ∧ ((bt s k) ≤ 122))) ∧ (¬ ((48 ≤ (bt s k)) ∧ ((bt s k) ≤ 57)))) gt (bD (¬ (bt s k) = 45)) (fun hg => (x_neq (S.p rfl hg) (S.e rfl))) ?_; clear S a; intro a S
  refine qv S (bD (((¬ ((97 ≤ (bt s k)) ∧ ((bt s k) ≤ 122))) ∧ (¬ ((48 ≤ (bt s k)) ∧ ((bt s k) ≤ 57)))) ∧ (¬ (bt s k) = 45))) (x_and (S.e rfl) (S.p rfl) (S.e rfl)) ?_; clear S a; intro a S
  refine qm S rfl ?_; clear S a; intro a S
  refine qg S 65 rfl (((¬ ((97 ≤ (bt s k)) ∧ ((bt s k) ≤ 122))) ∧ (¬ ((48 ≤ (bt s k)) ∧ ((bt s k) ≤ 57)))) ∧ (¬ (bt s k) = 45)) gt (.string s) (fun hg => (x_move (S.e rfl))) ?_; clear S a; intro a S
  refine qg S 65 rfl (((¬ ((97 ≤ (bt s k)) ∧ ((bt s k) ≤ 122))) ∧ (¬ ((48 ≤ (bt s k)) ∧ ((bt s k) ≤ 57)))) ∧ (¬ (bt s k) = 45)) gt (iN k) (fun hg => (x_move (S.e rfl))) ?_; clear S a; intro a S
  have hb8 := bt_bd s k
  refine qg S 65 rfl (((¬ ((97 ≤ (bt s k)) ∧ ((bt s k) ≤ 122))) ∧ (¬ ((48 ≤ (bt s k)) ∧ ((bt s k) ≤ 57)))) ∧ (¬ (bt s k) = 45)) gt (.int .u8 (bt s k)) (fun hg => (x_sidx Try.underlying9 (S.p rfl hg) (S.p rfl hg) k rfl (by omega))) ?_; clear S a; intro a S
  refine qg S 65 rfl (((¬ ((97 ≤ (bt s k)) ∧ ((bt s k) ≤ 122))) ∧ (¬ ((48 ≤ (bt s k)) ∧ ((bt s k) ≤ 57)))) ∧ (¬ (bt s k) = 45)) gt (bD (¬ (bt s k) = 95)) (fun hg => (x_neq (S.p rfl hg) (S.e rfl))) ?_; clear S a; intro a S
  refine qv S (bD ((((¬ ((97 ≤ (bt s k)) ∧ ((bt s k) ≤ 122))) ∧ (¬ ((48 ≤ (bt s k)) ∧ ((bt s k) ≤ 57)))) ∧ (¬ (bt s k) = 45)) ∧ (¬ (bt s k) = 95))) (x_and (S.e rfl) (S.p rfl) (S.e rfl)) ?_; clear S a; intro a S
  refine qt ?_
  refine cond_dec S rfl ?_ ?_
  ·intro hc3
   refine qs ?_
   refine qa S rfl ?_; clear S a; intro a S
   refine qt ?_
   refine wp_ret ?_
   refine blk_r ?_
   refine then_r ?_
   refine then_r ?_
   refine blk_r ?_
   refine then_r ?_
   refine ret1 rfl S rfl ?_
   refine ⟨(r1 (vf ?_)), C⟩
   rintro ⟨h1, h2, h3, h4, h5⟩; have := h5 k (by omega); unfold okc at this; omega
  intro hc4
  refine wp_skip ?_
  refine blk_n ?_
  refine then_n ?_
  refine wp_region_lit ?_
  refine qm S rfl ?_; clear S a; intro a S
  refine qv S (iN (k + 1)) (x_add (S.e rfl) (S.e rfl) (r := ((k + 1 : Nat) : Int)) (w_i64 (by omega))) ?_; clear S a; intro a S
  refine qa S rfl ?_; clear S a; intro a S
  refine qt ?_
  refine ⟨s.size - (k + 1), ?_, k + 1, S.sub ⟨rfl, rfl, trivial⟩, GL0, ?_, rfl⟩
  ·omega
  refine ⟨by omega, fun j hj => ?_⟩
  rcases Nat.lt_succ_iff_lt_or_eq.1 hj with h | h
  ·exact hn j h
  subst h; unfold okc; omega
 intro hc5
 refine wp_exit ?_
 refine then_e ?_
 refine then_e ?_
 refine blk_e ?_
 refine then_n ?_
 refine qs ?_
 refine qa S rfl ?_; clear S a; intro a S
 refine qt ?_
 refine wp_ret ?_
 refine ret1 rfl S rfl ?_
 refine ⟨(r1 (vt ?_)), C⟩
 simp only [not_or] at hc1; exact ⟨hc1.1.1.1.1, by omega, hc1.1.1.2, by omega, fun i hi => hn i (by omega)⟩
set_option maxHeartbeats 2000000 in
set_option maxRecDepth 20000 in
theorem rName (w : World) (F : Nat → Prop) (hF : Old F w) (M : MS [] w) (s : ByteArray) (s_h : inStr s) :
 Calls Try.prog 107 #[.string s] w fun e w' => e = .returned (bD (vname s)) ∧ Tr [] w [] w' := by
 have C : Tr [] w [] w := Tr.refl M
 refine enter Try.func107 rfl 65 rfl (Nat.le_of_ble_eq_true rfl) ?_
 intro a S
 refine qs ?_
 refine qa S rfl ?_; clear S a; intro a S
 refine qt ?_
 refine wp_seq ?_
 refine qs ?_
 refine qm S rfl ?_; clear S a; intro a S
 refine qv S (bD (s = ⟨#[]⟩)) (x_seql (S.e rfl) (S.e rfl)) ?_; clear S a; intro a S
 refine qm S rfl ?_; clear S a; intro a S
 refine qg S 8 rfl (¬ (s = ⟨#[]⟩)) gf (.string s) (fun hg => (x_move (S.e rfl))) ?_; clear S a; intro a S
 refine qg S 8 rfl (¬ (s = ⟨#[]⟩)) gf (iN s.size) (fun hg => (x_lens Try.underlying9 (S.p rfl hg))) ?_; clear S a; intro a S
 refine qg S 8 rfl (¬ (s = ⟨#[]⟩)) gf (bD (24 < ((s.size : Nat) : Int))) (fun hg => (x_gtr (S.p rfl hg) (S.e rfl))) ?_; clear S a; intro a S
 refine qv S (bD ((s = ⟨#[]⟩) ∨ (24 < ((s.size : Nat) : Int)))) (x_or (S.e rfl) (S.e rfl) (S.p rfl)) ?_; clear S a; intro a S
 refine qm S rfl ?_; clear S a; intro a S
 refine qg S 13 rfl (¬ ((s = ⟨#[]⟩) ∨ (24 < ((s.size : Nat) : Int)))) gf (.string s) (fun hg => (x_move (S.e rfl))) ?_; clear S a; intro a S
 refine qg S 13 rfl (¬ ((s = ⟨#[]⟩) ∨ (24 < ((s.size : Nat) : Int)))) gf (bD (s = ⟨#[97, 110, 121]⟩)) (fun hg => (x_seql (S.p rfl hg) (S.e rfl))) ?_; clear S a; intro a S
 refine qv S (bD (((s = ⟨#[]⟩) ∨ (24 < ((s.size : Nat) : Int))) ∨ (s = ⟨#[97, 110, 121]⟩))) (x_or (S.e rfl) (S.e rfl) (S.p rfl)) ?_; clear S a; intro a S
 refine qt ?_
 refine cond_dec S rfl ?_ ?_
 ·intro hc0
  refine qs ?_
  refine qa S rfl ?_; clear S a; intro a S
  refine qt ?_
  refine wp_ret ?_
  refine then_r ?_
  refine ret1 rfl S rfl ?_
  refine ⟨(r1 (vf ?_)), C⟩
  unfold vname; rintro ⟨h1, h2, h3, h4, h5⟩; rcases hc0 with (h | h) | h
  ·exact h1 h
  ·omega
  exact h3 h
 intro hc1
 refine wp_skip ?_
 refine then_n ?_
 refine wp_seq ?_
 refine qs ?_
 refine qa S rfl ?_; clear S a; intro a S
 refine qt ?_
 refine wp_block ?_
 refine wp_loop_ghost (fun m a wr => ∃ k : Nat, Slots 65 [(0, .string s), (3, iN k)] a ∧ Tr [] w [] wr ∧ (k ≤ s.size ∧ ∀ j, j < k → (97 ≤ bt s j ∧ bt s j ≤ 122) ∨ (okc (bt s j) ∧ 0 < j)) ∧ (s.size - k) = m) (s.size - 0) ?_ ?_
 ·refine ⟨0, S.sub ⟨rfl, rfl, trivial⟩, Tr.refl C.ms, ?_, rfl⟩
  exact ⟨Nat.zero_le _, fun j hj => by omega⟩
 rintro m a w1 ⟨k, S, G, hR, rfl⟩
 replace C := C.trans G
 have GL0 := G; clear G
 obtain ⟨hk, hn⟩ := hR
 have hsz : s.size ≤ 9223372036854775807 := s_h
 refine wp_seq ?_
 refine qs ?_
 refine qm S rfl ?_; clear S a; intro a S
 refine qm S rfl ?_; clear S a; intro a S
 refine qv S (iN s.size) (x_lens Try.underlying9 (S.e rfl)) ?_; clear S a; intro a S
 refine qv S (bD (((k : Nat) : Int) < ((s.size : Nat) : Int))) (x_lss (S.e rfl) (S.e rfl)) ?_; clear S a; intro a S
 refine qt ?_
 refine cond_dec S rfl ?_ ?_
 ·intro hc2
  refine wp_skip ?_
  refine then_n ?_
  refine wp_seq ?_
  refine wp_block ?_
  refine qs ?_
  refine qm S rfl ?_; clear S a; intro a S
  refine qm S rfl ?_; clear S a; intro a S
  have hb1 := bt_bd s k
  refine qv S (.int .u8 (bt s k)) (x_sidx Try.underlying9 (S.e rfl) (S.e rfl) k rfl (by omega)) ?_; clear S a; intro a S
  refine qv S (bD (97 ≤ (bt s k))) (x_geq (S.e rfl) (S.e rfl)) ?_; clear S a; intro a S
  refine qm S rfl ?_; clear S a; intro a S
  refine qg S 27 rfl (97 ≤ (bt s k)) gt (.string s) (fun hg => (x_move (S.e rfl))) ?_; clear S a; intro a S
  refine qg S 27 rfl (97 ≤ (bt s k)) gt (iN k) (fun hg => (x_move (S.e rfl))) ?_; clear S a; intro a S
  have hb2 := bt_bd s k
  refine qg S 27 rfl (97 ≤ (bt s k)) gt (.int .u8 (bt s k)) (fun hg => (x_sidx Try.underlying9 (S.p rfl hg) (S.p rfl hg) k rfl (by omega))) ?_; clear S a; intro a S
  refine qg S 27 rfl (97 ≤ (bt s k)) gt (bD ((bt s k) ≤ 122)) (fun hg => (x_leq (S.p rfl hg) (S.e rfl))) ?_; clear S a; intro a S
  refine qv S (bD ((97 ≤ (bt s k)) ∧ ((bt s k) ≤ 122))) (x_and (S.e rfl) (S.p rfl) (S.e rfl)) ?_; clear S a; intro a S
  refine qa S rfl ?_; clear S a; intro a S
  refine qt ?_
  refine qs ?_
  refine qm S rfl ?_; clear S a; intro a S
  refine qm S rfl ?_; clear S a; intro a S
  have hb3 := bt_bd s k
  refine qv S (.int .u8 (bt s k)) (x_sidx Try.underlying9 (S.e rfl) (S.e rfl) k rfl (by omega)) ?_; clear S a; intro a S
  refine qv S (bD (48 ≤ (bt s k))) (x_geq (S.e rfl) (S.e rfl)) ?_; clear S a; intro a S
  refine qm S rfl ?_; clear S a; intro a S
  refine qg S 37 rfl (48 ≤ (bt s k)) gt (.string s) (fun hg => (x_move (S.e rfl))) ?_; clear S a; intro a S
  refine qg S 37 rfl (48 ≤ (bt s k)) gt (iN k) (fun hg => (x_move (S.e rfl))) ?_; clear S a; intro a S
  have hb4 := bt_bd s k
  refine qg S 37 rfl (48 ≤ (bt s k)) gt (.int .u8 (bt s k)) (fun hg => (x_sidx Try.underlying9 (S.p rfl hg) (S.p rfl hg) k rfl (by omega))) ?_; clear S a; intro a S
  refine qg S 37 rfl (48 ≤ (bt s k)) gt (bD ((bt s k) ≤ 57)) (fun hg => (x_leq (S.p rfl hg) (S.e rfl))) ?_; clear S a; intro a S
  refine qv S (bD ((48 ≤ (bt s k)) ∧ ((bt s k) ≤ 57))) (x_and (S.e rfl) (S.p rfl) (S.e rfl)) ?_; clear S a; intro a S
  refine qm S rfl ?_; clear S a; intro a S
  refine qg S 43 rfl (¬ ((48 ≤ (bt s k)) ∧ ((bt s k) ≤ 57))) gf (.string s) (fun hg => (x_move (S.e rfl))) ?_; clear S a; intro a S
  refine qg S 43 rfl (¬ ((48 ≤ (bt s k)) ∧ ((bt s k) ≤ 57))) gf (iN k) (fun hg => (x_move (S.e rfl))) ?_; clear S a; intro a S
  have hb5 := bt_bd s k
  refine qg S 43 rfl (¬ ((48 ≤ (bt s k)) ∧ ((bt s k) ≤ 57))) gf (.int .u8 (bt s k)) (fun hg => (x_sidx Try.underlying9 (S.p rfl hg) (S.p rfl hg) k rfl (by omega))) ?_; clear S a; intro a S
  refine qg S 43 rfl (¬ ((48 ≤ (bt s k)) ∧ ((bt s k) ≤ 57))) gf (bD ((bt s k) = 45)) (fun hg => (x_eql (S.p rfl hg) (S.e rfl))) ?_; clear S a; intro a S
  refine qv S (bD (((48 ≤ (bt s k)) ∧ ((bt s k) ≤ 57)) ∨ ((bt s k) = 45))) (x_or (S.e rfl) (S.e rfl) (S.p rfl)) ?_; clear S a; intro a S
  refine qm S rfl ?_; clear S a; intro a S
  refine qg S 49 rfl (¬ (((48 ≤ (bt s k)) ∧ ((bt s k) ≤ 57)) ∨ ((bt s k) = 45))) gf (.string s) (fun hg => (x_move (S.e rfl))) ?_; clear S a; intro a S
  refine qg S 49 rfl (¬ (((48 ≤ (bt s k)) ∧ ((bt s k) ≤ 57)) ∨ ((bt s k) = 45))) gf (iN k) (fun hg => (x_move (S.e rfl))) ?_; clear S a; intro a S
  have hb6 := bt_bd s k
  refine qg S 49 rfl (¬ (((48 ≤ (bt s k)) ∧ ((bt s k) ≤ 57)) ∨ ((bt s k) = 45))) gf (.int .u8 (bt s k)) (fun hg => (x_sidx Try.underlying9 (S.p rfl hg) (S.p rfl hg) k rfl (by omega))) ?_; clear S a; intro a S
  refine qg S 49 rfl (¬ (((48 ≤ (bt s k)) ∧ ((bt s k) ≤ 57)) ∨ ((bt s k) = 45))) gf (bD ((bt s k) = 95)) (fun hg => (x_eql (S.p rfl hg) (S.e rfl))) ?_; clear S a; intro a S
  refine qv S (bD ((((48 ≤ (bt s k)) ∧ ((bt s k) ≤ 57)) ∨ ((bt s k) = 45)) ∨ ((bt s k) = 95))) (x_or (S.e rfl) (S.e rfl) (S.p rfl)) ?_; clear S a; intro a S
  refine qa S rfl ?_; clear S a; intro a S
  refine qt ?_
  refine qs ?_
  refine qm S rfl ?_; clear S a; intro a S
  refine qv S (bD (¬ ((97 ≤ (bt s k)) ∧ ((bt s k) ≤ 122)))) (x_notp (S.e rfl)) ?_; clear S a; intro a S
  refine qm S rfl ?_; clear S a; intro a S
  refine qg S 57 rfl (¬ ((97 ≤ (bt s k)) ∧ ((bt s k) ≤ 122))) gt (bD ((((48 ≤ (bt s k)) ∧ ((bt s k) ≤ 57)) ∨ ((bt s k) = 45)) ∨ ((bt s k) = 95))) (fun hg => (x_move (S.e rfl))) ?_; clear S a; intro a S
  refine qg S 57 rfl (¬ ((97 ≤ (bt s k)) ∧ ((bt s k) ≤ 122))) gt (bD (¬ ((((48 ≤ (bt s k)) ∧ ((bt s k) ≤ 57)) ∨ ((bt s k) = 45)) ∨ ((bt s k) = 95)))) (fun hg => (x_notp (S.p rfl hg))) ?_; clear S a; intro a S
  refine qg S 57 rfl (¬ ((97 ≤ (bt s k)) ∧ ((bt s k) ≤ 122))) gt (bD (¬ ((((48 ≤ (bt s k)) ∧ ((bt s k) ≤ 57)) ∨ ((bt s k) = 45)) ∨ ((bt s k) = 95)))) (fun hg => (x_move (S.p rfl hg))) ?_; clear S a; intro a S
  refine qg S 60 rfl ((¬ ((97 ≤ (bt s k)) ∧ ((bt s k) ≤ 122))) ∧ (¬ (¬ ((((48 ≤ (bt s k)) ∧ ((bt s k) ≤ 57)) ∨ ((bt s k) = 45)) ∨ ((bt s k) = 95))))) ggf (iN k) (fun hg => (x_move (S.e rfl))) ?_; clear S a; intro a S
  refine qg S 60 rfl ((¬ ((97 ≤ (bt s k)) ∧ ((bt s k) ≤ 122))) ∧ (¬ (¬ ((((48 ≤ (bt s k)) ∧ ((bt s k) ≤ 57)) ∨ ((bt s k) = 45)) ∨ ((bt s k) = 95))))) ggf (bD (((k : Nat) : Int) = 0)) (fun hg => (x_eql (S.p rfl hg) (S.e rfl))) ?_; clear S a; intro a S
  refine qg S 57 rfl (¬ ((97 ≤ (bt s k)) ∧ ((bt s k) ≤ 122))) gt (bD ((¬ ((((48 ≤ (bt s k)) ∧ ((bt s k) ≤ 57)) ∨ ((bt s k) = 45)) ∨ ((bt s k) = 95))) ∨ (((k : Nat) : Int) = 0))) (fun hg => (x_or (S.p rfl hg) (S.e rfl) (fun hl => ((S.e rfl).trans (if_pos ⟨hg, hl⟩))))) ?_; clear S a; intro a S
  refine qv S (bD ((¬ ((97 ≤ (bt s k)) ∧ ((bt s k) ≤ 122))) ∧ ((¬ ((((48 ≤ (bt s k)) ∧ ((bt s k) ≤ 57)) ∨ ((bt s k) = 45)) ∨ ((bt s k) = 95))) ∨ (((k : Nat) : Int) = 0)))) (x_and (S.e rfl) (S.p rfl) (S.e rfl)) ?_; clear S a; intro a S
  refine qt ?_
  refine cond_dec S rfl ?_ ?_
  ·intro hc3
   refine qs ?_
   refine qa S rfl ?_; clear S a; intro a S
   refine qt ?_
   refine wp_ret ?_
   refine blk_r ?_
   refine then_r ?_
   refine then_r ?_
   refine blk_r ?_
   refine then_r ?_
   refine ret1 rfl S rfl ?_
   refine ⟨(r1 (vf ?_)), C⟩
   rintro ⟨h1, h2, h3, h4, h5⟩; have := h5 k (by omega); unfold okc at this; rcases Nat.eq_zero_or_pos k with h0 | h0
   ·subst h0; omega
   omega
  intro hc4
  refine wp_skip ?_
  refine blk_n ?_
  refine then_n ?_
  refine wp_region_lit ?_
  refine qm S rfl ?_; clear S a; intro a S
  refine qv S (iN (k + 1)) (x_add (S.e rfl) (S.e rfl) (r := ((k + 1 : Nat) : Int)) (w_i64 (by omega))) ?_; clear S a; intro a S
  refine qa S rfl ?_; clear S a; intro a S
  refine qt ?_
  refine ⟨s.size - (k + 1), ?_, k + 1, S.sub ⟨rfl, rfl, trivial⟩, GL0, ?_, rfl⟩
  ·omega
  refine ⟨by omega, fun j hj => ?_⟩
  rcases Nat.lt_succ_iff_lt_or_eq.1 hj with h | h
  ·exact hn j h
  subst h; unfold okc; omega
 intro hc5
 refine wp_exit ?_
 refine then_e ?_
 refine then_e ?_
 refine blk_e ?_
 refine then_n ?_
 refine qs ?_
 refine qa S rfl ?_; clear S a; intro a S
 refine qt ?_
 refine wp_ret ?_
 refine ret1 rfl S rfl ?_
 refine ⟨(r1 (vt ?_)), C⟩
 simp only [not_or] at hc1; have hp := str_pos hc1.1.1; have h0 := hn 0 (by omega); exact ⟨hc1.1.1, by omega, hc1.2, by omega, fun i hi => by have := hn i (by omega); unfold okc at *; omega⟩
set_option maxHeartbeats 2000000 in
set_option maxRecDepth 20000 in
theorem tValidDevice (w : World) (F : Nat → Prop) (hF : Old F w) (M : MS [] w) (d : Dev) (d_w : devE.wf (Fr F []) w.heap d) :
 Calls Try.prog 78 #[.agg #[.string d.name, iI d.cap, bD (d.rng = true), bD (d.vol = true), .string d.cls]] w fun e w' => e = .returned (bD (devV d)) ∧ Tr [] w [] w' := by
 have C : Tr [] w [] w := Tr.refl M
 obtain ⟨_, _⟩ : inI64 d.cap := d_w.2.1
 refine enter Try.func78 rfl 26 rfl (Nat.le_of_ble_eq_true rfl) ?_
 intro a S
 refine qs ?_
 refine seq_new S rfl rfl (by decide) (fun b => pT b 0) (cs := [.string d.name, iI d.cap, bD (d.rng = true), bD (d.vol = true), .string d.cls]) (x_box [.string d.name, iI d.cap, bD (d.rng = true), bD (d.vol = true), .string d.cls] (S.e rfl) rfl) ?_
 clear S a; intro a w1 b1 hb1 hbs1 G K1 S; have hbl1 : b1 < w1.heap.size := by omega
 have TT := Tr.fresh C.ms hb1 hbl1 G
 replace d_w := Enc.tr (devE) d_w TT
 replace C := C.trans TT
 clear TT G
 refine qa S rfl ?_; clear S a; intro a S
 refine qt ?_
 refine qs ?_
 refine qv S (pT b1 (0 + 0)) (x_fld (z := 0) (0) 0 Try.underlying65 rfl rfl (by kernel_rfl) (S.e rfl)) ?_; clear S a; intro a S
 refine qv S (.string d.name) (x_load ⟨_, Try.underlying9, rfl⟩ (S.e rfl) (K1.cell (j := 0) rfl)) ?_; clear S a; intro a S
 refine seq_call S (by decide) (vs := #[.string d.name]) rfl callable_99 (sName _ (Ex F _) (C.old hF)  (MS.nil _) d.name d_w.1) ?_
 rintro e w2 ⟨rfl, T0⟩; refine ⟨_, rfl, ?_⟩; clear S a; intro a S
 have TT := Tr.framed0 C.ms T0; have G := T0.ch
 replace d_w := Enc.tr (devE) d_w TT
 replace K1 := Blk.tr0 K1 G
 replace C := C.trans TT
 clear T0 G TT
 refine qm S rfl ?_; clear S a; intro a S
 refine qg S 6 rfl (vname d.name) gt (pT b1 (0 + 1)) (fun hg => (x_fld (z := 0) (0) 1 Try.underlying65 rfl rfl (by kernel_rfl) (S.e rfl))) ?_; clear S a; intro a S
 refine qg S 6 rfl (vname d.name) gt (iI d.cap) (fun hg => (x_load ⟨_, Try.underlying3, rfl⟩ (S.p rfl hg) (K1.cell (j := 1) rfl))) ?_; clear S a; intro a S
 refine qg S 6 rfl (vname d.name) gt (bD (0 ≤ d.cap)) (fun hg => (x_geq (S.p rfl hg) (S.e rfl))) ?_; clear S a; intro a S
 refine qv S (bD ((vname d.name) ∧ (0 ≤ d.cap))) (x_and (S.e rfl) (S.p rfl) (S.e rfl)) ?_; clear S a; intro a S
 refine qm S rfl ?_; clear S a; intro a S
 refine qg S 11 rfl ((vname d.name) ∧ (0 ≤ d.cap)) gt (pT b1 (0 + 1)) (fun hg => (x_fld (z := 0) (0) 1 Try.underlying65 rfl rfl (by kernel_rfl) (S.e rfl))) ?_; clear S a; intro a S
 refine qg S 11 rfl ((vname d.name) ∧ (0 ≤ d.cap)) gt (iI d.cap) (fun hg => (x_load ⟨_, Try.underlying3, rfl⟩ (S.p rfl hg) (K1.cell (j := 1) rfl))) ?_; clear S a; intro a S
 refine qg S 11 rfl ((vname d.name) ∧ (0 ≤ d.cap)) gt (bD (d.cap ≤ 4096)) (fun hg => (x_leq (S.p rfl hg) (S.e rfl))) ?_; clear S a; intro a S
 refine qv S (bD (((vname d.name) ∧ (0 ≤ d.cap)) ∧ (d.cap ≤ 4096))) (x_and (S.e rfl) (S.p rfl) (S.e rfl)) ?_; clear S a; intro a S
 refine qm S rfl ?_; clear S a; intro a S
 refine qg S 16 rfl (((vname d.name) ∧ (0 ≤ d.cap)) ∧ (d.cap ≤ 4096)) gt (pT b1 (0 + 4)) (fun hg => (x_fld (z := 0) (0) 4 Try.underlying65 rfl rfl (by kernel_rfl) (S.e rfl))) ?_; clear S a; intro a S
 refine qg S 16 rfl (((vname d.name) ∧ (0 ≤ d.cap)) ∧ (d.cap ≤ 4096)) gt (.string d.cls) (fun hg => (x_load ⟨_, Try.underlying9, rfl⟩ (S.p rfl hg) (K1.cell (j := 4) rfl))) ?_; clear S a; intro a S
 refine qg S 16 rfl (((vname d.name) ∧ (0 ≤ d.cap)) ∧ (d.cap ≤ 4096)) gt (bD (d.cls = ⟨#[]⟩)) (fun hg => (x_seql (S.p rfl hg) (S.e rfl))) ?_; clear S a; intro a S
 refine qg S 16 rfl (((vname d.name) ∧ (0 ≤ d.cap)) ∧ (d.cap ≤ 4096)) gt (bD (d.cls = ⟨#[]⟩)) (fun hg => (x_move (S.p rfl hg))) ?_; clear S a; intro a S
 refine qg S 20 rfl ((((vname d.name) ∧ (0 ≤ d.cap)) ∧ (d.cap ≤ 4096)) ∧ (¬ (d.cls = ⟨#[]⟩))) ggf (pT b1 (0 + 4)) (fun hg => (x_fld (z := 0) (0) 4 Try.underlying65 rfl rfl (by kernel_rfl) (S.e rfl))) ?_; clear S a; intro a S
 refine qg S 20 rfl ((((vname d.name) ∧ (0 ≤ d.cap)) ∧ (d.cap ≤ 4096)) ∧ (¬ (d.cls = ⟨#[]⟩))) ggf (.string d.cls) (fun hg => (x_load ⟨_, Try.underlying9, rfl⟩ (S.p rfl hg) (K1.cell (j := 4) rfl))) ?_; clear S a; intro a S
 refine seq_gcall S (by decide) (gd := 20) (vs := #[.string d.cls]) (v := bD (vname d.cls)) rfl rfl (by decide) rfl (c := ((((vname d.name) ∧ (0 ≤ d.cap)) ∧ (d.cap ≤ 4096)) ∧ (¬ (d.cls = ⟨#[]⟩)))) ggf (fun hg => by simp only [List.map_toArray, List.map_cons, List.map_nil, show a.eval (.tmp 22) = .string d.cls from (S.p rfl hg)]) callable_99 (fun hg => ((sName _ (Ex F _) (C.old hF)  (MS.nil _) d.cls d_w.2.2.2.2)).mono (fun _ _ h => ⟨h.1, h.2.ch⟩)) ?_
 clear S a; intro a w3 G S; have TT := Tr.of_ch0 C.ms G
 replace d_w := Enc.tr (devE) d_w TT
 replace K1 := Blk.tr0 K1 G
 replace C := C.trans TT
 refine qg S 16 rfl (((vname d.name) ∧ (0 ≤ d.cap)) ∧ (d.cap ≤ 4096)) gt (bD ((d.cls = ⟨#[]⟩) ∨ (vname d.cls))) (fun hg => (x_or (S.p rfl hg) (S.e rfl) (fun hl => ((S.e rfl).trans (if_pos ⟨hg, hl⟩))))) ?_; clear S a; intro a S
 refine qv S (bD ((((vname d.name) ∧ (0 ≤ d.cap)) ∧ (d.cap ≤ 4096)) ∧ ((d.cls = ⟨#[]⟩) ∨ (vname d.cls)))) (x_and (S.e rfl) (S.p rfl) (S.e rfl)) ?_; clear S a; intro a S
 refine qa S rfl ?_; clear S a; intro a S
 refine qt ?_
 refine wp_ret ?_
 refine ret1 rfl S rfl ?_
 have TD : Tr [one b1] w3 [] w3 := Tr.drop C.ms [] (by decide)
 have GD : Ch (In []) w3 w3 := Ch.refl _
 clear K1
 replace d_w := Enc.tr (devE) d_w TD
 replace C := C.trans TD
 clear TD GD
 refine ⟨(r1 (vb ?_)), C⟩
 unfold devV; simp only [and_assoc]
set_option maxHeartbeats 2000000 in
set_option maxRecDepth 20000 in
theorem tValidEdge (w : World) (F : Nat → Prop) (hF : Old F w) (M : MS [] w) (t : Topo) (t_w : topoE.wf (Fr F []) w.heap t) (x : Edg) (x_w : edgE.wf (Fr F []) w.heap x) :
 Calls Try.prog 80 #[tV t, .agg #[.string x.name, iI x.dev, .string x.zone, .int .u32 x.pfx.addr, iI x.pfx.bits, bD (x.planned = true)]] w fun e w' => e = .returned (bD (edgV t.devs.xs.length x)) ∧ Tr [] w [] w' := by
 have C : Tr [] w [] w := Tr.refl M
 have : t.devs.xs.length ≤ 9223372036854775807 := (t_w.1).1.len
 have : t.links.xs.length ≤ 9223372036854775807 := (t_w.2.1).1.len
 have : t.edges.xs.length ≤ 9223372036854775807 := (t_w.2.2.1).1.len
 have : t.pools.xs.length ≤ 9223372036854775807 := (t_w.2.2.2.1).1.len
 obtain ⟨_, _⟩ : inI64 t.tol := t_w.2.2.2.2
 obtain ⟨_, _⟩ : inI64 x.dev := x_w.2.1
 obtain ⟨_, _⟩ : inU32 x.pfx.addr := x_w.2.2.2.1.1
 obtain ⟨_, _⟩ : inI64 x.pfx.bits := x_w.2.2.2.1.2
 refine enter Try.func80 rfl 52 rfl (Nat.le_of_ble_eq_true rfl) ?_
 intro a S
 refine qs ?_
 refine seq_new S rfl rfl (by decide) (fun b => pT b 0) (cs := (tL t)) (x_box (tL t) (S.e rfl) rfl) ?_
 clear S a; intro a w1 b1 hb1 hbs1 G K1 S; have hbl1 : b1 < w1.heap.size := by omega
 have TT := Tr.fresh C.ms hb1 hbl1 G
 replace t_w := Enc.tr (topoE) t_w TT
 replace x_w := Enc.tr (edgE) x_w TT
 replace C := C.trans TT
 clear TT G
 refine seq_new S rfl rfl (by decide) (fun b => pT b 0) (cs := [.string x.name, iI x.dev, .string x.zone, .int .u32 x.pfx.addr, iI x.pfx.bits, bD (x.planned = true)]) (x_box [.string x.name, iI x.dev, .string x.zone, .int .u32 x.pfx.addr, iI x.pfx.bits, bD (x.planned = true)] (S.e rfl) rfl) ?_
 clear S a; intro a w2 b2 hb2 hbs2 G K2 S; have hbl2 : b2 < w2.heap.size := by omega
 have TT := Tr.fresh C.ms hb2 hbl2 G
 replace t_w := Enc.tr (topoE) t_w TT
 replace x_w := Enc.tr (edgE) x_w TT
 replace K1 := Blk.tr0 K1 G
 replace C := C.trans TT
 clear TT G
 refine qa S rfl ?_; clear S a; intro a S
 refine qt ?_
 refine qs ?_
 refine qv S (pT b2 (0 + 1)) (x_fld (z := 0) (0) 1 Try.underlying71 rfl rfl (by kernel_rfl) (S.e rfl)) ?_; clear S a; intro a S
 refine qv S (iI x.dev) (x_load ⟨_, Try.underlying3, rfl⟩ (S.e rfl) (K2.cell (j := 1) rfl)) ?_; clear S a; intro a S
 refine qv S (bD (0 ≤ x.dev)) (x_geq (S.e rfl) (S.e rfl)) ?_; clear S a; intro a S
 refine qm S rfl ?_; clear S a; intro a S
 refine qg S 10 rfl (0 ≤ x.dev) gt (pT b2 (0 + 1)) (fun hg => (x_fld (z := 0) (0) 1 Try.underlying71 rfl rfl (by kernel_rfl) (S.e rfl))) ?_; clear S a; intro a S
 refine qg S 10 rfl (0 ≤ x.dev) gt (iI x.dev) (fun hg => (x_load ⟨_, Try.underlying3, rfl⟩ (S.p rfl hg) (K2.cell (j := 1) rfl))) ?_; clear S a; intro a S
 refine qg S 10 rfl (0 ≤ x.dev) gt (pT b1 (0 + 0)) (fun hg => (x_fld (z := 0) (0) 0 Try.underlying28 rfl rfl (by kernel_rfl) (S.e rfl))) ?_; clear S a; intro a S
 refine qg S 10 rfl (0 ≤ x.dev) gt (sV t.devs) (fun hg => (x_load ⟨_, Try.underlying23, rfl⟩ (S.p rfl hg) (K1.cell (j := 0) rfl))) ?_; clear S a; intro a S
 refine qg S 10 rfl (0 ≤ x.dev) gt (iN t.devs.xs.length) (fun hg => (x_len Try.underlying23 (S.p rfl hg))) ?_; clear S a; intro a S
 refine qg S 10 rfl (0 ≤ x.dev) gt (bD (x.dev < ((t.devs.xs.length : Nat) : Int))) (fun hg => (x_lss (S.p rfl hg) (S.p rfl hg))) ?_; clear S a; intro a S
 refine qv S (bD ((0 ≤ x.dev) ∧ (x.dev < ((t.devs.xs.length : Nat) : Int)))) (x_and (S.e rfl) (S.p rfl) (S.e rfl)) ?_; clear S a; intro a S
 refine qa S rfl ?_; clear S a; intro a S
 refine qt ?_
 refine qs ?_
 refine qv S (pT b2 (0 + 0)) (x_fld (z := 0) (0) 0 Try.underlying71 rfl rfl (by kernel_rfl) (S.e rfl)) ?_; clear S a; intro a S
 refine qv S (.string x.name) (x_load ⟨_, Try.underlying9, rfl⟩ (S.e rfl) (K2.cell (j := 0) rfl)) ?_; clear S a; intro a S
 refine seq_call S (by decide) (vs := #[.string x.name]) rfl callable_99 (sName _ (Ex F _) (C.old hF)  (MS.nil _) x.name x_w.1) ?_
 rintro e w3 ⟨rfl, T0⟩; refine ⟨_, rfl, ?_⟩; clear S a; intro a S
 have TT := Tr.framed0 C.ms T0; have G := T0.ch
 replace t_w := Enc.tr (topoE) t_w TT
 replace x_w := Enc.tr (edgE) x_w TT
 replace K1 := Blk.tr0 K1 G
 replace K2 := Blk.tr0 K2 G
 replace C := C.trans TT
 clear T0 G TT
 refine qm S rfl ?_; clear S a; intro a S
 refine qg S 21 rfl (vname x.name) gt (pT b2 (0 + 2)) (fun hg => (x_fld (z := 0) (0) 2 Try.underlying71 rfl rfl (by kernel_rfl) (S.e rfl))) ?_; clear S a; intro a S
 refine qg S 21 rfl (vname x.name) gt (.string x.zone) (fun hg => (x_load ⟨_, Try.underlying9, rfl⟩ (S.p rfl hg) (K2.cell (j := 2) rfl))) ?_; clear S a; intro a S
 refine seq_gcall S (by decide) (gd := 21) (vs := #[.string x.zone]) (v := bD (vname x.zone)) rfl rfl (by decide) rfl (c := (vname x.name)) gt (fun hg => by simp only [List.map_toArray, List.map_cons, List.map_nil, show a.eval (.tmp 23) = .string x.zone from (S.p rfl hg)]) callable_99 (fun hg => ((sName _ (Ex F _) (C.old hF)  (MS.nil _) x.zone x_w.2.2.1)).mono (fun _ _ h => ⟨h.1, h.2.ch⟩)) ?_
 clear S a; intro a w4 G S; have TT := Tr.of_ch0 C.ms G
 replace t_w := Enc.tr (topoE) t_w TT
 replace x_w := Enc.tr (edgE) x_w TT
 replace K1 := Blk.tr0 K1 G
 replace K2 := Blk.tr0 K2 G
 replace C := C.trans TT
 refine qv S (bD ((vname x.name) ∧ (vname x.zone))) (x_and (S.e rfl) (S.p rfl) (S.e rfl)) ?_; clear S a; intro a S
 refine qa S rfl ?_; clear S a; intro a S
 refine qt ?_
 refine qs ?_
 refine qm S rfl ?_; clear S a; intro a S
 refine qm S rfl ?_; clear S a; intro a S
 refine qg S 27 rfl ((0 ≤ x.dev) ∧ (x.dev < ((t.devs.xs.length : Nat) : Int))) gt (bD ((vname x.name) ∧ (vname x.zone))) (fun hg => (x_move (S.e rfl))) ?_; clear S a; intro a S
 refine qv S (bD (((0 ≤ x.dev) ∧ (x.dev < ((t.devs.xs.length : Nat) : Int))) ∧ ((vname x.name) ∧ (vname x.zone)))) (x_and (S.e rfl) (S.p rfl) (S.e rfl)) ?_; clear S a; intro a S
 refine qm S rfl ?_; clear S a; intro a S
 refine qg S 30 rfl (((0 ≤ x.dev) ∧ (x.dev < ((t.devs.xs.length : Nat) : Int))) ∧ ((vname x.name) ∧ (vname x.zone))) gt (pT b2 (0 + 3)) (fun hg => (x_fld (z := 1) (0) 3 Try.underlying71 rfl rfl (by kernel_rfl) (S.e rfl))) ?_; clear S a; intro a S
 refine qg S 30 rfl (((0 ≤ x.dev) ∧ (x.dev < ((t.devs.xs.length : Nat) : Int))) ∧ ((vname x.name) ∧ (vname x.zone))) gt _ (fun hg => (x_loadw [.int .u32 x.pfx.addr, iI x.pfx.bits] ⟨_, Try.underlying68, rfl, by kernel_rfl⟩ (S.p rfl hg) (K2.mid [.string x.name, iI x.dev, .string x.zone] [.int .u32 x.pfx.addr, iI x.pfx.bits] [bD (x.planned = true)] rfl _ rfl))) ?_; clear S a; intro a S
 refine seq_gcall S (by decide) (gd := 30) (vs := #[.agg #[.int .u32 x.pfx.addr, iI x.pfx.bits]]) (v := bD (pfxV x.pfx)) rfl rfl (by decide) rfl (c := (((0 ≤ x.dev) ∧ (x.dev < ((t.devs.xs.length : Nat) : Int))) ∧ ((vname x.name) ∧ (vname x.zone)))) gt (fun hg => by simp only [List.map_toArray, List.map_cons, List.map_nil, show a.eval (.tmp 32) = .agg #[.int .u32 x.pfx.addr, iI x.pfx.bits] from (S.p rfl hg)]) callable_83 (fun hg => ((pValid _ (Ex F _) (C.old hF)  (MS.nil _) x.pfx ⟨x_w.2.2.2.1.1, x_w.2.2.2.1.2⟩)).mono (fun _ _ h => ⟨h.1, h.2.ch⟩)) ?_
 clear S a; intro a w5 G S; have TT := Tr.of_ch0 C.ms G
 replace t_w := Enc.tr (topoE) t_w TT
 replace x_w := Enc.tr (edgE) x_w TT
 replace K1 := Blk.tr0 K1 G
 replace K2 := Blk.tr0 K2 G
 replace C := C.trans TT
 refine qv S (bD ((((0 ≤ x.dev) ∧ (x.dev < ((t.devs.xs.length : Nat) : Int))) ∧ ((vname x.name) ∧ (vname x.zone))) ∧ (pfxV x.pfx))) (x_and (S.e rfl) (S.p rfl) (S.e rfl)) ?_; clear S a; intro a S
 refine qm S rfl ?_; clear S a; intro a S
 refine qg S 35 rfl ((((0 ≤ x.dev) ∧ (x.dev < ((t.devs.xs.length : Nat) : Int))) ∧ ((vname x.name) ∧ (vname x.zone))) ∧ (pfxV x.pfx)) gt (pT b2 (0 + 3)) (fun hg => (x_fld (z := 1) (0) 3 Try.underlying71 rfl rfl (by kernel_rfl) (S.e rfl))) ?_; clear S a; intro a S
 refine qg S 35 rfl ((((0 ≤ x.dev) ∧ (x.dev < ((t.devs.xs.length : Nat) : Int))) ∧ ((vname x.name) ∧ (vname x.zone))) ∧ (pfxV x.pfx)) gt (pT b2 (0 + 3 + 1)) (fun hg => (x_fld (z := 0) (0 + 3) 1 Try.underlying68 rfl rfl (by kernel_rfl) (S.p rfl hg))) ?_; clear S a; intro a S
 refine qg S 35 rfl ((((0 ≤ x.dev) ∧ (x.dev < ((t.devs.xs.length : Nat) : Int))) ∧ ((vname x.name) ∧ (vname x.zone))) ∧ (pfxV x.pfx)) gt (iI x.pfx.bits) (fun hg => (x_load ⟨_, Try.underlying3, rfl⟩ (S.p rfl hg) (K2.cell (j := 4) rfl))) ?_; clear S a; intro a S
 refine qg S 35 rfl ((((0 ≤ x.dev) ∧ (x.dev < ((t.devs.xs.length : Nat) : Int))) ∧ ((vname x.name) ∧ (vname x.zone))) ∧ (pfxV x.pfx)) gt (bD (0 < x.pfx.bits)) (fun hg => (x_gtr (S.p rfl hg) (S.e rfl))) ?_; clear S a; intro a S
 refine qv S (bD (((((0 ≤ x.dev) ∧ (x.dev < ((t.devs.xs.length : Nat) : Int))) ∧ ((vname x.name) ∧ (vname x.zone))) ∧ (pfxV x.pfx)) ∧ (0 < x.pfx.bits))) (x_and (S.e rfl) (S.p rfl) (S.e rfl)) ?_; clear S a; intro a S
 refine qm S rfl ?_; clear S a; intro a S
 refine qg S 41 rfl (((((0 ≤ x.dev) ∧ (x.dev < ((t.devs.xs.length : Nat) : Int))) ∧ ((vname x.name) ∧ (vname x.zone))) ∧ (pfxV x.pfx)) ∧ (0 < x.pfx.bits)) gt (pT b2 (0 + 5)) (fun hg => (x_fld (z := 0) (0) 5 Try.underlying71 rfl rfl (by kernel_rfl) (S.e rfl))) ?_; clear S a; intro a S
 refine qg S 41 rfl (((((0 ≤ x.dev) ∧ (x.dev < ((t.devs.xs.length : Nat) : Int))) ∧ ((vname x.name) ∧ (vname x.zone))) ∧ (pfxV x.pfx)) ∧ (0 < x.pfx.bits)) gt (bD (x.planned = true)) (fun hg => (x_load ⟨_, Try.underlying4, rfl⟩ (S.p rfl hg) (K2.cell (j := 5) rfl))) ?_; clear S a; intro a S
 refine qg S 41 rfl (((((0 ≤ x.dev) ∧ (x.dev < ((t.devs.xs.length : Nat) : Int))) ∧ ((vname x.name) ∧ (vname x.zone))) ∧ (pfxV x.pfx)) ∧ (0 < x.pfx.bits)) gt (bD (¬ (x.planned = true))) (fun hg => (x_notp (S.p rfl hg))) ?_; clear S a; intro a S
 refine qg S 41 rfl (((((0 ≤ x.dev) ∧ (x.dev < ((t.devs.xs.length : Nat) : Int))) ∧ ((vname x.name) ∧ (vname x.zone))) ∧ (pfxV x.pfx)) ∧ (0 < x.pfx.bits)) gt (bD (¬ (x.planned = true))) (fun hg => (x_move (S.p rfl hg))) ?_; clear S a; intro a S
 refine qg S 45 rfl ((((((0 ≤ x.dev) ∧ (x.dev < ((t.devs.xs.length : Nat) : Int))) ∧ ((vname x.name) ∧ (vname x.zone))) ∧ (pfxV x.pfx)) ∧ (0 < x.pfx.bits)) ∧ (¬ (¬ (x.planned = true)))) ggf (pT b2 (0 + 3)) (fun hg => (x_fld (z := 1) (0) 3 Try.underlying71 rfl rfl (by kernel_rfl) (S.e rfl))) ?_; clear S a; intro a S
 refine qg S 45 rfl ((((((0 ≤ x.dev) ∧ (x.dev < ((t.devs.xs.length : Nat) : Int))) ∧ ((vname x.name) ∧ (vname x.zone))) ∧ (pfxV x.pfx)) ∧ (0 < x.pfx.bits)) ∧ (¬ (¬ (x.planned = true)))) ggf (pT b2 (0 + 3 + 0)) (fun hg => (x_fld (z := 0) (0 + 3) 0 Try.underlying68 rfl rfl (by kernel_rfl) (S.p rfl hg))) ?_; clear S a; intro a S
 refine qg S 45 rfl ((((((0 ≤ x.dev) ∧ (x.dev < ((t.devs.xs.length : Nat) : Int))) ∧ ((vname x.name) ∧ (vname x.zone))) ∧ (pfxV x.pfx)) ∧ (0 < x.pfx.bits)) ∧ (¬ (¬ (x.planned = true)))) ggf (.int .u32 x.pfx.addr) (fun hg => (x_load ⟨_, Try.underlying66, rfl⟩ (S.p rfl hg) (K2.cell (j := 3) rfl))) ?_; clear S a; intro a S
 refine qg S 45 rfl ((((((0 ≤ x.dev) ∧ (x.dev < ((t.devs.xs.length : Nat) : Int))) ∧ ((vname x.name) ∧ (vname x.zone))) ∧ (pfxV x.pfx)) ∧ (0 < x.pfx.bits)) ∧ (¬ (¬ (x.planned = true)))) ggf (bD (x.pfx.addr = 0)) (fun hg => (x_eql (S.p rfl hg) (S.e rfl))) ?_; clear S a; intro a S
 refine qg S 41 rfl (((((0 ≤ x.dev) ∧ (x.dev < ((t.devs.xs.length : Nat) : Int))) ∧ ((vname x.name) ∧ (vname x.zone))) ∧ (pfxV x.pfx)) ∧ (0 < x.pfx.bits)) gt (bD ((¬ (x.planned = true)) ∨ (x.pfx.addr = 0))) (fun hg => (x_or (S.p rfl hg) (S.e rfl) (fun hl => ((S.e rfl).trans (if_pos ⟨hg, hl⟩))))) ?_; clear S a; intro a S
 refine qv S (bD ((((((0 ≤ x.dev) ∧ (x.dev < ((t.devs.xs.length : Nat) : Int))) ∧ ((vname x.name) ∧ (vname x.zone))) ∧ (pfxV x.pfx)) ∧ (0 < x.pfx.bits)) ∧ ((¬ (x.planned = true)) ∨ (x.pfx.addr = 0)))) (x_and (S.e rfl) (S.p rfl) (S.e rfl)) ?_; clear S a; intro a S
 refine qa S rfl ?_; clear S a; intro a S
 refine qt ?_
 refine wp_ret ?_
 refine ret1 rfl S rfl ?_
 have TD : Tr [one b2, one b1] w5 [] w5 := Tr.drop C.ms [] (by decide)
 have GD : Ch (In []) w5 w5 := Ch.refl _
 clear K1
 clear K2
 replace t_w := Enc.tr (topoE) t_w TD
 replace x_w := Enc.tr (edgE) x_w TD
 replace C := C.trans TD
 clear TD GD
 refine ⟨(r1 (vb ?_)), C⟩
 unfold edgV; simp only [and_assoc]
set_option maxHeartbeats 2000000 in
set_option maxRecDepth 20000 in
theorem rValidEdge (w : World) (F : Nat → Prop) (hF : Old F w) (M : MS [] w) (x : Edg) (x_w : edgE.wf (Fr F []) w.heap x) (n : Int) (n_h : inI64 n) (n0 : 0 ≤ n) :
 Calls Try.prog 87 #[.agg #[.string x.name, iI x.dev, .string x.zone, .int .u32 x.pfx.addr, iI x.pfx.bits, bD (x.planned = true)], iI n] w fun e w' => e = .returned (bD (edgV (n).toNat x)) ∧ Tr [] w [] w' := by
 have C : Tr [] w [] w := Tr.refl M
 obtain ⟨_, _⟩ : inI64 x.dev := x_w.2.1
 obtain ⟨_, _⟩ : inU32 x.pfx.addr := x_w.2.2.2.1.1
 obtain ⟨_, _⟩ : inI64 x.pfx.bits := x_w.2.2.2.1.2
 obtain ⟨n_hl, n_hu⟩ : inI64 n := id n_h
 refine enter Try.func87 rfl 46 rfl (Nat.le_of_ble_eq_true rfl) ?_
 intro a S
 refine qs ?_
 refine seq_new S rfl rfl (by decide) (fun b => pT b 0) (cs := [.string x.name, iI x.dev, .string x.zone, .int .u32 x.pfx.addr, iI x.pfx.bits, bD (x.planned = true)]) (x_box [.string x.name, iI x.dev, .string x.zone, .int .u32 x.pfx.addr, iI x.pfx.bits, bD (x.planned = true)] (S.e rfl) rfl) ?_
 clear S a; intro a w1 b1 hb1 hbs1 G K1 S; have hbl1 : b1 < w1.heap.size := by omega
 have TT := Tr.fresh C.ms hb1 hbl1 G
 replace x_w := Enc.tr (edgE) x_w TT
 replace C := C.trans TT
 clear TT G
 refine qa S rfl ?_; clear S a; intro a S
 refine qt ?_
 refine wp_seq ?_
 refine qs ?_
 refine qv S (pT b1 (0 + 0)) (x_fld (z := 0) (0) 0 Try.underlying71 rfl rfl (by kernel_rfl) (S.e rfl)) ?_; clear S a; intro a S
 refine qv S (.string x.name) (x_load ⟨_, Try.underlying9, rfl⟩ (S.e rfl) (K1.cell (j := 0) rfl)) ?_; clear S a; intro a S
 refine seq_call S (by decide) (vs := #[.string x.name]) rfl callable_107 (rName _ (Ex F _) (C.old hF)  (MS.nil _) x.name x_w.1) ?_
 rintro e w2 ⟨rfl, T0⟩; refine ⟨_, rfl, ?_⟩; clear S a; intro a S
 have TT := Tr.framed0 C.ms T0; have G := T0.ch
 replace x_w := Enc.tr (edgE) x_w TT
 replace K1 := Blk.tr0 K1 G
 replace C := C.trans TT
 clear T0 G TT
 refine qv S (bD (¬ (vname x.name))) (x_notp (S.e rfl)) ?_; clear S a; intro a S
 refine qm S rfl ?_; clear S a; intro a S
 refine qg S 9 rfl (¬ (¬ (vname x.name))) gf (pT b1 (0 + 2)) (fun hg => (x_fld (z := 0) (0) 2 Try.underlying71 rfl rfl (by kernel_rfl) (S.e rfl))) ?_; clear S a; intro a S
 refine qg S 9 rfl (¬ (¬ (vname x.name))) gf (.string x.zone) (fun hg => (x_load ⟨_, Try.underlying9, rfl⟩ (S.p rfl hg) (K1.cell (j := 2) rfl))) ?_; clear S a; intro a S
 refine seq_gcall S (by decide) (gd := 9) (vs := #[.string x.zone]) (v := bD (vname x.zone)) rfl rfl (by decide) rfl (c := (¬ (¬ (vname x.name)))) gf (fun hg => by simp only [List.map_toArray, List.map_cons, List.map_nil, show a.eval (.tmp 11) = .string x.zone from (S.p rfl hg)]) callable_107 (fun hg => ((rName _ (Ex F _) (C.old hF)  (MS.nil _) x.zone x_w.2.2.1)).mono (fun _ _ h => ⟨h.1, h.2.ch⟩)) ?_
 clear S a; intro a w3 G S; have TT := Tr.of_ch0 C.ms G
 replace x_w := Enc.tr (edgE) x_w TT
 replace K1 := Blk.tr0 K1 G
 replace C := C.trans TT
 refine qg S 9 rfl (¬ (¬ (vname x.name))) gf (bD (¬ (vname x.zone))) (fun hg => (x_notp (S.p rfl hg))) ?_; clear S a; intro a S
 refine qv S (bD ((¬ (vname x.name)) ∨ (¬ (vname x.zone)))) (x_or (S.e rfl) (S.e rfl) (S.p rfl)) ?_; clear S a; intro a S
 refine qm S rfl ?_; clear S a; intro a S
 refine qg S 15 rfl (¬ ((¬ (vname x.name)) ∨ (¬ (vname x.zone)))) gf (pT b1 (0 + 1)) (fun hg => (x_fld (z := 0) (0) 1 Try.underlying71 rfl rfl (by kernel_rfl) (S.e rfl))) ?_; clear S a; intro a S
 refine qg S 15 rfl (¬ ((¬ (vname x.name)) ∨ (¬ (vname x.zone)))) gf (iI x.dev) (fun hg => (x_load ⟨_, Try.underlying3, rfl⟩ (S.p rfl hg) (K1.cell (j := 1) rfl))) ?_; clear S a; intro a S
 refine qg S 15 rfl (¬ ((¬ (vname x.name)) ∨ (¬ (vname x.zone)))) gf (bD (x.dev < 0)) (fun hg => (x_lss (S.p rfl hg) (S.e rfl))) ?_; clear S a; intro a S
 refine qv S (bD (((¬ (vname x.name)) ∨ (¬ (vname x.zone))) ∨ (x.dev < 0))) (x_or (S.e rfl) (S.e rfl) (S.p rfl)) ?_; clear S a; intro a S
 refine qm S rfl ?_; clear S a; intro a S
 refine qg S 20 rfl (¬ (((¬ (vname x.name)) ∨ (¬ (vname x.zone))) ∨ (x.dev < 0))) gf (pT b1 (0 + 1)) (fun hg => (x_fld (z := 0) (0) 1 Try.underlying71 rfl rfl (by kernel_rfl) (S.e rfl))) ?_; clear S a; intro a S
 refine qg S 20 rfl (¬ (((¬ (vname x.name)) ∨ (¬ (vname x.zone))) ∨ (x.dev < 0))) gf (iI x.dev) (fun hg => (x_load ⟨_, Try.underlying3, rfl⟩ (S.p rfl hg) (K1.cell (j := 1) rfl))) ?_; clear S a; intro a S
 refine qg S 20 rfl (¬ (((¬ (vname x.name)) ∨ (¬ (vname x.zone))) ∨ (x.dev < 0))) gf (iI n) (fun hg => (x_move (S.e rfl))) ?_; clear S a; intro a S
 refine qg S 20 rfl (¬ (((¬ (vname x.name)) ∨ (¬ (vname x.zone))) ∨ (x.dev < 0))) gf (bD (n ≤ x.dev)) (fun hg => (x_geq (S.p rfl hg) (S.p rfl hg))) ?_; clear S a; intro a S
 refine qv S (bD ((((¬ (vname x.name)) ∨ (¬ (vname x.zone))) ∨ (x.dev < 0)) ∨ (n ≤ x.dev))) (x_or (S.e rfl) (S.e rfl) (S.p rfl)) ?_; clear S a; intro a S
 refine qm S rfl ?_; clear S a; intro a S
 refine qg S 26 rfl (¬ ((((¬ (vname x.name)) ∨ (¬ (vname x.zone))) ∨ (x.dev < 0)) ∨ (n ≤ x.dev))) gf (pT b1 (0 + 3)) (fun hg => (x_fld (z := 1) (0) 3 Try.underlying71 rfl rfl (by kernel_rfl) (S.e rfl))) ?_; clear S a; intro a S
 refine qg S 26 rfl (¬ ((((¬ (vname x.name)) ∨ (¬ (vname x.zone))) ∨ (x.dev < 0)) ∨ (n ≤ x.dev))) gf (pT b1 (0 + 3 + 1)) (fun hg => (x_fld (z := 0) (0 + 3) 1 Try.underlying68 rfl rfl (by kernel_rfl) (S.p rfl hg))) ?_; clear S a; intro a S
 refine qg S 26 rfl (¬ ((((¬ (vname x.name)) ∨ (¬ (vname x.zone))) ∨ (x.dev < 0)) ∨ (n ≤ x.dev))) gf (iI x.pfx.bits) (fun hg => (x_load ⟨_, Try.underlying3, rfl⟩ (S.p rfl hg) (K1.cell (j := 4) rfl))) ?_; clear S a; intro a S
 refine qg S 26 rfl (¬ ((((¬ (vname x.name)) ∨ (¬ (vname x.zone))) ∨ (x.dev < 0)) ∨ (n ≤ x.dev))) gf (bD (x.pfx.bits < 1)) (fun hg => (x_lss (S.p rfl hg) (S.e rfl))) ?_; clear S a; intro a S
 refine qv S (bD (((((¬ (vname x.name)) ∨ (¬ (vname x.zone))) ∨ (x.dev < 0)) ∨ (n ≤ x.dev)) ∨ (x.pfx.bits < 1))) (x_or (S.e rfl) (S.e rfl) (S.p rfl)) ?_; clear S a; intro a S
 refine qt ?_
 refine cond_dec S rfl ?_ ?_
 ·intro hc0
  refine qs ?_
  refine qa S rfl ?_; clear S a; intro a S
  refine qt ?_
  refine wp_ret ?_
  refine then_r ?_
  refine ret1 rfl S rfl ?_
  have TD : Tr [one b1] w3 [] w3 := Tr.drop C.ms [] (by decide)
  have GD : Ch (In []) w3 w3 := Ch.refl _
  clear K1
  replace x_w := Enc.tr (edgE) x_w TD
  replace C := C.trans TD
  clear TD GD
  refine ⟨(r1 (vf ?_)), C⟩
  rintro ⟨⟨h1, h2⟩, ⟨h3, h4⟩, h5, h6, h7⟩; simp only [h3, h4, not_true, false_or] at hc0; omega
 intro hc1
 refine wp_skip ?_
 refine then_n ?_
 refine qs ?_
 refine qv S (pT b1 (0 + 3)) (x_fld (z := 1) (0) 3 Try.underlying71 rfl rfl (by kernel_rfl) (S.e rfl)) ?_; clear S a; intro a S
 refine qv S _ (x_loadw [.int .u32 x.pfx.addr, iI x.pfx.bits] ⟨_, Try.underlying68, rfl, by kernel_rfl⟩ (S.e rfl) (K1.mid [.string x.name, iI x.dev, .string x.zone] [.int .u32 x.pfx.addr, iI x.pfx.bits] [bD (x.planned = true)] rfl _ rfl)) ?_; clear S a; intro a S
 refine seq_call S (by decide) (vs := #[.agg #[.int .u32 x.pfx.addr, iI x.pfx.bits]]) rfl callable_91 (rValid _ (Ex F _) (C.old hF)  (MS.nil _) x.pfx ⟨x_w.2.2.2.1.1, x_w.2.2.2.1.2⟩) ?_
 rintro e w4 ⟨rfl, T0⟩; refine ⟨_, rfl, ?_⟩; clear S a; intro a S
 have TT := Tr.framed0 C.ms T0; have G := T0.ch
 replace x_w := Enc.tr (edgE) x_w TT
 replace K1 := Blk.tr0 K1 G
 replace C := C.trans TT
 clear T0 G TT
 refine qm S rfl ?_; clear S a; intro a S
 refine qg S 35 rfl (pfxV x.pfx) gt (pT b1 (0 + 5)) (fun hg => (x_fld (z := 0) (0) 5 Try.underlying71 rfl rfl (by kernel_rfl) (S.e rfl))) ?_; clear S a; intro a S
 refine qg S 35 rfl (pfxV x.pfx) gt (bD (x.planned = true)) (fun hg => (x_load ⟨_, Try.underlying4, rfl⟩ (S.p rfl hg) (K1.cell (j := 5) rfl))) ?_; clear S a; intro a S
 refine qg S 35 rfl (pfxV x.pfx) gt (bD (¬ (x.planned = true))) (fun hg => (x_notp (S.p rfl hg))) ?_; clear S a; intro a S
 refine qg S 35 rfl (pfxV x.pfx) gt (bD (¬ (x.planned = true))) (fun hg => (x_move (S.p rfl hg))) ?_; clear S a; intro a S
 refine qg S 39 rfl ((pfxV x.pfx) ∧ (¬ (¬ (x.planned = true)))) ggf (pT b1 (0 + 3)) (fun hg => (x_fld (z := 1) (0) 3 Try.underlying71 rfl rfl (by kernel_rfl) (S.e rfl))) ?_; clear S a; intro a S
 refine qg S 39 rfl ((pfxV x.pfx) ∧ (¬ (¬ (x.planned = true)))) ggf (pT b1 (0 + 3 + 0)) (fun hg => (x_fld (z := 0) (0 + 3) 0 Try.underlying68 rfl rfl (by kernel_rfl) (S.p rfl hg))) ?_; clear S a; intro a S
 refine qg S 39 rfl ((pfxV x.pfx) ∧ (¬ (¬ (x.planned = true)))) ggf (.int .u32 x.pfx.addr) (fun hg => (x_load ⟨_, Try.underlying66, rfl⟩ (S.p rfl hg) (K1.cell (j := 3) rfl))) ?_; clear S a; intro a S
 refine qg S 39 rfl ((pfxV x.pfx) ∧ (¬ (¬ (x.planned = true)))) ggf (bD (x.pfx.addr = 0)) (fun hg => (x_eql (S.p rfl hg) (S.e rfl))) ?_; clear S a; intro a S
 refine qg S 35 rfl (pfxV x.pfx) gt (bD ((¬ (x.planned = true)) ∨ (x.pfx.addr = 0))) (fun hg => (x_or (S.p rfl hg) (S.e rfl) (fun hl => ((S.e rfl).trans (if_pos ⟨hg, hl⟩))))) ?_; clear S a; intro a S
 refine qv S (bD ((pfxV x.pfx) ∧ ((¬ (x.planned = true)) ∨ (x.pfx.addr = 0)))) (x_and (S.e rfl) (S.p rfl) (S.e rfl)) ?_; clear S a; intro a S
 refine qa S rfl ?_; clear S a; intro a S
 refine qt ?_
 refine wp_ret ?_
 refine ret1 rfl S rfl ?_
 have TD : Tr [one b1] w4 [] w4 := Tr.drop C.ms [] (by decide)
 have GD : Ch (In []) w4 w4 := Ch.refl _
 clear K1
 replace x_w := Enc.tr (edgE) x_w TD
 replace C := C.trans TD
 clear TD GD
 refine ⟨(r1 (vb ?_)), C⟩
 unfold edgV; simp only [not_or, Classical.not_not, Int.not_lt] at hc1; constructor
 ·rintro ⟨h1, h2⟩; exact ⟨⟨by omega, by omega⟩, ⟨hc1.1.1.1.1, hc1.1.1.1.2⟩, h1, by omega, h2⟩
 rintro ⟨_, _, h1, _, h2⟩; exact ⟨h1, h2⟩
end Go.Proofs.Ytfanmniaolncbaa.V
