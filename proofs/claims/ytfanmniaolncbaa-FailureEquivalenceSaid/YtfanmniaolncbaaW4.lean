/- valid topologies: the program -/
import Derived.Test.YtfanmniaolncbaaW3
namespace Go.Proofs.Ytfanmniaolncbaa.V
open Go.RowKit Go.Proofs.Ytfanmniaolncbaa
set_option linter.unusedVariables false
set_option linter.unusedSimpArgs false
set_option maxHeartbeats 2000000 in
set_option maxRecDepth 20000 in
theorem tValid (w : World) (F : Nat → Prop) (hF : Old F w) (M : MS [] w) (t : Topo) (t_w : topoE.wf (Fr F []) w.heap t) :
 Calls Try.prog 50 #[tV t] w fun e w' => e = .returned (bD (topV t)) ∧ Tr [] w [] w' := by
 have C : Tr [] w [] w := Tr.refl M
 have : t.devs.xs.length ≤ 9223372036854775807 := (t_w.1).1.len
 have : t.links.xs.length ≤ 9223372036854775807 := (t_w.2.1).1.len
 have : t.edges.xs.length ≤ 9223372036854775807 := (t_w.2.2.1).1.len
 have : t.pools.xs.length ≤ 9223372036854775807 := (t_w.2.2.2.1).1.len
 obtain ⟨_, _⟩ : inI64 t.tol := t_w.2.2.2.2
 refine enter Try.func50 rfl 173 rfl (Nat.le_of_ble_eq_true rfl) ?_
 intro a S
 refine qs ?_
 refine seq_new S rfl rfl (by decide) (fun b => pT b 0) (cs := (tL t)) (x_box (tL t) (S.e rfl) rfl) ?_
 clear S a; intro a w1 b1 hb1 hbs1 G K1 S; have hbl1 : b1 < w1.heap.size := by omega
 have TT := Tr.fresh C.ms hb1 hbl1 G
 replace t_w := Enc.tr (topoE) t_w TT
 replace C := C.trans TT
 clear TT G
 refine qa S rfl ?_; clear S a; intro a S
 refine qt ?_
 refine wp_seq ?_
 refine qs ?_
 refine qv S (pT b1 (0 + 0)) (x_fld (z := 0) (0) 0 Try.underlying28 rfl rfl (by kernel_rfl) (S.e rfl)) ?_; clear S a; intro a S
 refine qv S (sV t.devs) (x_load ⟨_, Try.underlying23, rfl⟩ (S.e rfl) (K1.cell (j := 0) rfl)) ?_; clear S a; intro a S
 have hn2 : t.devs.xs.length ≤ 9223372036854775807 := (t_w.1).1.len
 refine qv S (iN t.devs.xs.length) (x_len Try.underlying23 (S.e rfl)) ?_; clear S a; intro a S
 refine qv S (bD (((t.devs.xs.length : Nat) : Int) = 0)) (x_eql (S.e rfl) (S.e rfl)) ?_; clear S a; intro a S
 refine qm S rfl ?_; clear S a; intro a S
 refine qg S 17 rfl (¬ (((t.devs.xs.length : Nat) : Int) = 0)) gf (pT b1 (0 + 0)) (fun hg => (x_fld (z := 0) (0) 0 Try.underlying28 rfl rfl (by kernel_rfl) (S.e rfl))) ?_; clear S a; intro a S
 refine qg S 17 rfl (¬ (((t.devs.xs.length : Nat) : Int) = 0)) gf (sV t.devs) (fun hg => (x_load ⟨_, Try.underlying23, rfl⟩ (S.p rfl hg) (K1.cell (j := 0) rfl))) ?_; clear S a; intro a S
 refine qg S 17 rfl (¬ (((t.devs.xs.length : Nat) : Int) = 0)) gf (iN t.devs.xs.length) (fun hg => (x_len Try.underlying23 (S.p rfl hg))) ?_; clear S a; intro a S
 refine qg S 17 rfl (¬ (((t.devs.xs.length : Nat) : Int) = 0)) gf (bD (12 < ((t.devs.xs.length : Nat) : Int))) (fun hg => (x_gtr (S.p rfl hg) (S.e rfl))) ?_; clear S a; intro a S
 refine qv S (bD ((((t.devs.xs.length : Nat) : Int) = 0) ∨ (12 < ((t.devs.xs.length : Nat) : Int)))) (x_or (S.e rfl) (S.e rfl) (S.p rfl)) ?_; clear S a; intro a S
 refine qm S rfl ?_; clear S a; intro a S
 refine qg S 23 rfl (¬ ((((t.devs.xs.length : Nat) : Int) = 0) ∨ (12 < ((t.devs.xs.length : Nat) : Int)))) gf (pT b1 (0 + 1)) (fun hg => (x_fld (z := 0) (0) 1 Try.underlying28 rfl rfl (by kernel_rfl) (S.e rfl))) ?_; clear S a; intro a S
 refine qg S 23 rfl (¬ ((((t.devs.xs.length : Nat) : Int) = 0) ∨ (12 < ((t.devs.xs.length : Nat) : Int)))) gf (sV t.links) (fun hg => (x_load ⟨_, Try.underlying24, rfl⟩ (S.p rfl hg) (K1.cell (j := 1) rfl))) ?_; clear S a; intro a S
 refine qg S 23 rfl (¬ ((((t.devs.xs.length : Nat) : Int) = 0) ∨ (12 < ((t.devs.xs.length : Nat) : Int)))) gf (iN t.links.xs.length) (fun hg => (x_len Try.underlying24 (S.p rfl hg))) ?_; clear S a; intro a S
 refine qg S 23 rfl (¬ ((((t.devs.xs.length : Nat) : Int) = 0) ∨ (12 < ((t.devs.xs.length : Nat) : Int)))) gf (bD (24 < ((t.links.xs.length : Nat) : Int))) (fun hg => (x_gtr (S.p rfl hg) (S.e rfl))) ?_; clear S a; intro a S
 refine qv S (bD (((((t.devs.xs.length : Nat) : Int) = 0) ∨ (12 < ((t.devs.xs.length : Nat) : Int))) ∨ (24 < ((t.links.xs.length : Nat) : Int)))) (x_or (S.e rfl) (S.e rfl) (S.p rfl)) ?_; clear S a; intro a S
 refine qm S rfl ?_; clear S a; intro a S
 refine qg S 29 rfl (¬ (((((t.devs.xs.length : Nat) : Int) = 0) ∨ (12 < ((t.devs.xs.length : Nat) : Int))) ∨ (24 < ((t.links.xs.length : Nat) : Int)))) gf (pT b1 (0 + 2)) (fun hg => (x_fld (z := 0) (0) 2 Try.underlying28 rfl rfl (by kernel_rfl) (S.e rfl))) ?_; clear S a; intro a S
 refine qg S 29 rfl (¬ (((((t.devs.xs.length : Nat) : Int) = 0) ∨ (12 < ((t.devs.xs.length : Nat) : Int))) ∨ (24 < ((t.links.xs.length : Nat) : Int)))) gf (sV t.edges) (fun hg => (x_load ⟨_, Try.underlying25, rfl⟩ (S.p rfl hg) (K1.cell (j := 2) rfl))) ?_; clear S a; intro a S
 refine qg S 29 rfl (¬ (((((t.devs.xs.length : Nat) : Int) = 0) ∨ (12 < ((t.devs.xs.length : Nat) : Int))) ∨ (24 < ((t.links.xs.length : Nat) : Int)))) gf (iN t.edges.xs.length) (fun hg => (x_len Try.underlying25 (S.p rfl hg))) ?_; clear S a; intro a S
 refine qg S 29 rfl (¬ (((((t.devs.xs.length : Nat) : Int) = 0) ∨ (12 < ((t.devs.xs.length : Nat) : Int))) ∨ (24 < ((t.links.xs.length : Nat) : Int)))) gf (bD (12 < ((t.edges.xs.length : Nat) : Int))) (fun hg => (x_gtr (S.p rfl hg) (S.e rfl))) ?_; clear S a; intro a S
 refine qv S (bD ((((((t.devs.xs.length : Nat) : Int) = 0) ∨ (12 < ((t.devs.xs.length : Nat) : Int))) ∨ (24 < ((t.links.xs.length : Nat) : Int))) ∨ (12 < ((t.edges.xs.length : Nat) : Int)))) (x_or (S.e rfl) (S.e rfl) (S.p rfl)) ?_; clear S a; intro a S
 refine qm S rfl ?_; clear S a; intro a S
 refine qg S 35 rfl (¬ ((((((t.devs.xs.length : Nat) : Int) = 0) ∨ (12 < ((t.devs.xs.length : Nat) : Int))) ∨ (24 < ((t.links.xs.length : Nat) : Int))) ∨ (12 < ((t.edges.xs.length : Nat) : Int)))) gf (pT b1 (0 + 3)) (fun hg => (x_fld (z := 0) (0) 3 Try.underlying28 rfl rfl (by kernel_rfl) (S.e rfl))) ?_; clear S a; intro a S
 refine qg S 35 rfl (¬ ((((((t.devs.xs.length : Nat) : Int) = 0) ∨ (12 < ((t.devs.xs.length : Nat) : Int))) ∨ (24 < ((t.links.xs.length : Nat) : Int))) ∨ (12 < ((t.edges.xs.length : Nat) : Int)))) gf (sV t.pools) (fun hg => (x_load ⟨_, Try.underlying26, rfl⟩ (S.p rfl hg) (K1.cell (j := 3) rfl))) ?_; clear S a; intro a S
 refine qg S 35 rfl (¬ ((((((t.devs.xs.length : Nat) : Int) = 0) ∨ (12 < ((t.devs.xs.length : Nat) : Int))) ∨ (24 < ((t.links.xs.length : Nat) : Int))) ∨ (12 < ((t.edges.xs.length : Nat) : Int)))) gf (iN t.pools.xs.length) (fun hg => (x_len Try.underlying26 (S.p rfl hg))) ?_; clear S a; intro a S
 refine qg S 35 rfl (¬ ((((((t.devs.xs.length : Nat) : Int) = 0) ∨ (12 < ((t.devs.xs.length : Nat) : Int))) ∨ (24 < ((t.links.xs.length : Nat) : Int))) ∨ (12 < ((t.edges.xs.length : Nat) : Int)))) gf (bD (8 < ((t.pools.xs.length : Nat) : Int))) (fun hg => (x_gtr (S.p rfl hg) (S.e rfl))) ?_; clear S a; intro a S
 refine qv S (bD (((((((t.devs.xs.length : Nat) : Int) = 0) ∨ (12 < ((t.devs.xs.length : Nat) : Int))) ∨ (24 < ((t.links.xs.length : Nat) : Int))) ∨ (12 < ((t.edges.xs.length : Nat) : Int))) ∨ (8 < ((t.pools.xs.length : Nat) : Int)))) (x_or (S.e rfl) (S.e rfl) (S.p rfl)) ?_; clear S a; intro a S
 refine qm S rfl ?_; clear S a; intro a S
 refine qg S 41 rfl (¬ (((((((t.devs.xs.length : Nat) : Int) = 0) ∨ (12 < ((t.devs.xs.length : Nat) : Int))) ∨ (24 < ((t.links.xs.length : Nat) : Int))) ∨ (12 < ((t.edges.xs.length : Nat) : Int))) ∨ (8 < ((t.pools.xs.length : Nat) : Int)))) gf (pT b1 (0 + 4)) (fun hg => (x_fld (z := 0) (0) 4 Try.underlying28 rfl rfl (by kernel_rfl) (S.e rfl))) ?_; clear S a; intro a S
 refine qg S 41 rfl (¬ (((((((t.devs.xs.length : Nat) : Int) = 0) ∨ (12 < ((t.devs.xs.length : Nat) : Int))) ∨ (24 < ((t.links.xs.length : Nat) : Int))) ∨ (12 < ((t.edges.xs.length : Nat) : Int))) ∨ (8 < ((t.pools.xs.length : Nat) : Int)))) gf (iI t.tol) (fun hg => (x_load ⟨_, Try.underlying3, rfl⟩ (S.p rfl hg) (K1.cell (j := 4) rfl))) ?_; clear S a; intro a S
 refine qg S 41 rfl (¬ (((((((t.devs.xs.length : Nat) : Int) = 0) ∨ (12 < ((t.devs.xs.length : Nat) : Int))) ∨ (24 < ((t.links.xs.length : Nat) : Int))) ∨ (12 < ((t.edges.xs.length : Nat) : Int))) ∨ (8 < ((t.pools.xs.length : Nat) : Int)))) gf (bD (t.tol < 0)) (fun hg => (x_lss (S.p rfl hg) (S.e rfl))) ?_; clear S a; intro a S
 refine qv S (bD ((((((((t.devs.xs.length : Nat) : Int) = 0) ∨ (12 < ((t.devs.xs.length : Nat) : Int))) ∨ (24 < ((t.links.xs.length : Nat) : Int))) ∨ (12 < ((t.edges.xs.length : Nat) : Int))) ∨ (8 < ((t.pools.xs.length : Nat) : Int))) ∨ (t.tol < 0))) (x_or (S.e rfl) (S.e rfl) (S.p rfl)) ?_; clear S a; intro a S
 refine qm S rfl ?_; clear S a; intro a S
 refine qg S 46 rfl (¬ ((((((((t.devs.xs.length : Nat) : Int) = 0) ∨ (12 < ((t.devs.xs.length : Nat) : Int))) ∨ (24 < ((t.links.xs.length : Nat) : Int))) ∨ (12 < ((t.edges.xs.length : Nat) : Int))) ∨ (8 < ((t.pools.xs.length : Nat) : Int))) ∨ (t.tol < 0))) gf (pT b1 (0 + 4)) (fun hg => (x_fld (z := 0) (0) 4 Try.underlying28 rfl rfl (by kernel_rfl) (S.e rfl))) ?_; clear S a; intro a S
 refine qg S 46 rfl (¬ ((((((((t.devs.xs.length : Nat) : Int) = 0) ∨ (12 < ((t.devs.xs.length : Nat) : Int))) ∨ (24 < ((t.links.xs.length : Nat) : Int))) ∨ (12 < ((t.edges.xs.length : Nat) : Int))) ∨ (8 < ((t.pools.xs.length : Nat) : Int))) ∨ (t.tol < 0))) gf (iI t.tol) (fun hg => (x_load ⟨_, Try.underlying3, rfl⟩ (S.p rfl hg) (K1.cell (j := 4) rfl))) ?_; clear S a; intro a S
 refine qg S 46 rfl (¬ ((((((((t.devs.xs.length : Nat) : Int) = 0) ∨ (12 < ((t.devs.xs.length : Nat) : Int))) ∨ (24 < ((t.links.xs.length : Nat) : Int))) ∨ (12 < ((t.edges.xs.length : Nat) : Int))) ∨ (8 < ((t.pools.xs.length : Nat) : Int))) ∨ (t.tol < 0))) gf (bD (2 < t.tol)) (fun hg => (x_gtr (S.p rfl hg) (S.e rfl))) ?_; clear S a; intro a S
 refine qv S (bD (((((((((t.devs.xs.length : Nat) : Int) = 0) ∨ (12 < ((t.devs.xs.length : Nat) : Int))) ∨ (24 < ((t.links.xs.length : Nat) : Int))) ∨ (12 < ((t.edges.xs.length : Nat) : Int))) ∨ (8 < ((t.pools.xs.length : Nat) : Int))) ∨ (t.tol < 0)) ∨ (2 < t.tol))) (x_or (S.e rfl) (S.e rfl) (S.p rfl)) ?_; clear S a; intro a S
 refine qt ?_
 refine cond_dec S rfl ?_ ?_
 ·intro hc0
  refine qs ?_
  refine qa S rfl ?_; clear S a; intro a S
  refine qt ?_
  refine wp_ret ?_
  refine then_r ?_
  refine ret1 rfl S rfl ?_
  have TD : Tr [one b1] w1 [] w1 := Tr.drop C.ms [] (by decide)
  have GD : Ch (In []) w1 w1 := Ch.refl _
  clear K1
  replace t_w := Enc.tr (topoE) t_w TD
  replace C := C.trans TD
  clear TD GD
  refine ⟨(r1 (vf ?_)), C⟩
  rintro ⟨h, _⟩; unfold topB at h; omega
 intro hc1
 refine wp_skip ?_
 refine then_n ?_
 refine wp_seq ?_
 refine qs ?_
 refine qv S (pT b1 (0 + 0)) (x_fld (z := 0) (0) 0 Try.underlying28 rfl rfl (by kernel_rfl) (S.e rfl)) ?_; clear S a; intro a S
 refine qv S (sV t.devs) (x_load ⟨_, Try.underlying23, rfl⟩ (S.e rfl) (K1.cell (j := 0) rfl)) ?_; clear S a; intro a S
 refine qv S (iN t.devs.xs.length) (x_len Try.underlying23 (S.e rfl)) ?_; clear S a; intro a S
 refine qm S rfl ?_; clear S a; intro a S
 refine qt ?_
 refine wp_block ?_
 refine wp_loop_ghost (fun m a wr => ∃ k : Nat, Slots 173 [(1, pT b1 0), (52, sV t.devs), (53, iN t.devs.xs.length), (54, iN k)] a ∧ Tr [one b1] w1 [one b1] wr ∧ (k ≤ t.devs.xs.length ∧ ∀ j, j < k → devAt t.devs.xs j) ∧ Blk wr.heap b1 (tL t) 28 ∧ (t.devs.xs.length - k) = m) (t.devs.xs.length - 0) ?_ ?_
 ·refine ⟨0, S.sub ⟨rfl, rfl, rfl, rfl, trivial⟩, Tr.refl C.ms, ?_, K1, rfl⟩
  exact ⟨Nat.zero_le _, fun j hj => by omega⟩
 rintro m a w2 ⟨k, S, G, hR, K1', rfl⟩
 clear K1; have K1 := K1'; clear K1'
 replace t_w := Enc.tr (topoE) t_w G
 replace C := C.trans G
 have GL0 := G; clear G
 obtain ⟨hka, hna⟩ := hR
 refine qs ?_
 refine qv S (bD (((k : Nat) : Int) < ((t.devs.xs.length : Nat) : Int))) (x_lss (S.e rfl) (S.e rfl)) ?_; clear S a; intro a S
 refine qt ?_
 refine wp_seq ?_
 refine cond_dec S rfl ?_ ?_
 ·intro hc2
  refine wp_skip ?_
  refine then_n ?_
  refine wp_seq ?_
  refine wp_block ?_
  refine qs ?_
  refine qm S rfl ?_; clear S a; intro a S
  refine qv S (pT (blk t.devs.a) (off t.devs.a + k * 5)) (x_idx Try.underlying23 (by kernel_rfl) (S.e rfl) (S.e rfl) k rfl (by omega) ((t_w.1).1.adr (i := k) (by omega))) ?_; clear S a; intro a S
  obtain ⟨hl3, hu3⟩ : inI64 ((t.devs.xs.getD k devE.dflt).cap) := id (((t_w.1).1.wf k (by omega)).2.1)
  refine qv S _ (x_loadw [.string ((t.devs.xs.getD k devE.dflt).name), iI ((t.devs.xs.getD k devE.dflt).cap), bD ((t.devs.xs.getD k devE.dflt).rng = true), bD ((t.devs.xs.getD k devE.dflt).vol = true), .string ((t.devs.xs.getD k devE.dflt).cls)] ⟨_, Try.underlying65, rfl, by kernel_rfl⟩ (S.e rfl) ((t_w.1).1.wcell k (by omega) _ rfl _ rfl)) ?_; clear S a; intro a S
  refine seq_new S rfl rfl (by decide) (fun b => pT b 0) (cs := [.string (⟨#[]⟩), iI 0, .bool false, .bool false, .string (⟨#[]⟩)]) (x_allocz [.string (⟨#[]⟩), iI 0, .bool false, .bool false, .string (⟨#[]⟩)] infoz_65 rfl) ?_
  clear S a; intro a w3 b4 hb4 hbs4 G K4 S; have hbl4 : b4 < w3.heap.size := by omega
  have TT := Tr.fresh C.ms hb4 hbl4 G
  replace t_w := Enc.tr (topoE) t_w TT
  replace K1 := Blk.tr0 K1 G
  replace GL0 := GL0.trans TT
  replace C := C.trans TT
  clear TT G
  refine qa S rfl ?_; clear S a; intro a S
  refine seq_storew S rfl rfl (vs := [.string ((t.devs.xs.getD k devE.dflt).name), iI ((t.devs.xs.getD k devE.dflt).cap), bD ((t.devs.xs.getD k devE.dflt).rng = true), bD ((t.devs.xs.getD k devE.dflt).vol = true), .string ((t.devs.xs.getD k devE.dflt).cls)]) (x_storew (by kernel_rfl) (S.e rfl) (S.e rfl) rfl K4 rfl) K4 ?_
  clear S a; intro a w4 G hz K S; clear hz; have TT := Tr.och C.ms G
  replace t_w := Enc.tr (topoE) t_w TT
  replace K1 := Blk.tr K1 G (C.ms.sep.out 1 [0] rfl rfl rfl)
  replace GL0 := GL0.trans TT
  replace C := C.trans TT
  clear K4; have K4 := K; clear K TT G
  refine qt ?_
  refine qs ?_
  refine qv S _ (x_loadw [.string ((t.devs.xs.getD k devE.dflt).name), iI ((t.devs.xs.getD k devE.dflt).cap), bD ((t.devs.xs.getD k devE.dflt).rng = true), bD ((t.devs.xs.getD k devE.dflt).vol = true), .string ((t.devs.xs.getD k devE.dflt).cls)] ⟨_, Try.underlying65, rfl, by kernel_rfl⟩ (S.e rfl) (K4.mid [] _ [] rfl _ rfl)) ?_; clear S a; intro a S
  refine seq_call S (by decide) (vs := #[.agg #[.string ((t.devs.xs.getD k devE.dflt).name), iI ((t.devs.xs.getD k devE.dflt).cap), bD ((t.devs.xs.getD k devE.dflt).rng = true), bD ((t.devs.xs.getD k devE.dflt).vol = true), .string ((t.devs.xs.getD k devE.dflt).cls)]]) rfl callable_78 (tValidDevice _ (Ex F _) (C.old hF)  (MS.nil _) (t.devs.xs.getD k devE.dflt) ((devE).down0 ((t_w.1).1.wf k (by omega)))) ?_
  rintro e w5 ⟨rfl, T0⟩; refine ⟨_, rfl, ?_⟩; clear S a; intro a S
  have TT := Tr.framed0 C.ms T0; have G := T0.ch
  replace t_w := Enc.tr (topoE) t_w TT
  replace K1 := Blk.tr0 K1 G
  replace K4 := Blk.tr0 K4 G
  replace GL0 := GL0.trans TT
  replace C := C.trans TT
  clear T0 G TT
  refine qv S (bD (¬ (devV (t.devs.xs.getD k devE.dflt)))) (x_notp (S.e rfl)) ?_; clear S a; intro a S
  refine qm S rfl ?_; clear S a; intro a S
  refine qg S 62 rfl (¬ (¬ (devV (t.devs.xs.getD k devE.dflt)))) gf _ (fun hg => (x_loadw (tL t) ⟨_, Try.underlying28, rfl, by kernel_rfl⟩ (S.e rfl) (K1.mid [] _ [] rfl _ rfl))) ?_; clear S a; intro a S
  refine qg S 62 rfl (¬ (¬ (devV (t.devs.xs.getD k devE.dflt)))) gf (pT b4 (0 + 0)) (fun hg => (x_fld (z := 0) (0) 0 Try.underlying65 rfl rfl (by kernel_rfl) (S.e rfl))) ?_; clear S a; intro a S
  refine qg S 62 rfl (¬ (¬ (devV (t.devs.xs.getD k devE.dflt)))) gf (.string ((t.devs.xs.getD k devE.dflt).name)) (fun hg => (x_load ⟨_, Try.underlying9, rfl⟩ (S.p rfl hg) (K4.cell (j := 0) rfl))) ?_; clear S a; intro a S
  refine seq_gcall S (by decide) (gd := 62) (vs := #[tV t, .string ((t.devs.xs.getD k devE.dflt).name)]) (v := iI (idxOf (fun x => decide (x.name = (t.devs.xs.getD k devE.dflt).name)) t.devs.xs)) rfl rfl (by decide) rfl (c := (¬ (¬ (devV (t.devs.xs.getD k devE.dflt))))) gf (fun hg => by simp only [List.map_toArray, List.map_cons, List.map_nil, show a.eval (.tmp 63) = tV t from (S.p rfl hg), show a.eval (.tmp 65) = .string ((t.devs.xs.getD k devE.dflt).name) from (S.p rfl hg)]) callable_79 (fun hg => ((tDevice _ (Ex F _) (C.old hF)  (MS.nil _) t ((topoE).down0 t_w) ((t.devs.xs.getD k devE.dflt).name) ((t_w.1).1.wf k (by omega)).1)).mono (fun _ _ h => ⟨h.1, h.2.ch⟩)) ?_
  clear S a; intro a w6 G S; have TT := Tr.of_ch0 C.ms G
  replace t_w := Enc.tr (topoE) t_w TT
  replace K1 := Blk.tr0 K1 G
  replace K4 := Blk.tr0 K4 G
  replace GL0 := GL0.trans TT
  replace C := C.trans TT
  refine qg S 62 rfl (¬ (¬ (devV (t.devs.xs.getD k devE.dflt)))) gf (iN k) (fun hg => (x_move (S.e rfl))) ?_; clear S a; intro a S
  refine qg S 62 rfl (¬ (¬ (devV (t.devs.xs.getD k devE.dflt)))) gf (bD (¬ idxOf (fun x => decide (x.name = (t.devs.xs.getD k devE.dflt).name)) t.devs.xs = ((k : Nat) : Int))) (fun hg => (x_neq (S.p rfl hg) (S.p rfl hg))) ?_; clear S a; intro a S
  refine qv S (bD ((¬ (devV (t.devs.xs.getD k devE.dflt))) ∨ (¬ idxOf (fun x => decide (x.name = (t.devs.xs.getD k devE.dflt).name)) t.devs.xs = ((k : Nat) : Int)))) (x_or (S.e rfl) (S.e rfl) (S.p rfl)) ?_; clear S a; intro a S
  refine qt ?_
  refine cond_dec S rfl ?_ ?_
  ·intro hc3
   refine qs ?_
   refine qa S rfl ?_; clear S a; intro a S
   refine qt ?_
   refine wp_ret ?_
   refine blk_r ?_
   refine then_r ?_
   refine then_r ?_
   refine blk_r ?_
   refine then_r ?_
   refine ret1 rfl S rfl ?_
   have TD : Tr [one b4, one b1] w6 [] w6 := Tr.drop C.ms [] (by decide)
   have GD : Ch (In []) w6 w6 := Ch.refl _
   clear K1
   clear K4
   replace t_w := Enc.tr (topoE) t_w TD
   replace GL0 := GL0.trans TD
   replace C := C.trans TD
   clear TD GD
   refine ⟨(r1 (vf ?_)), C⟩
   rintro ⟨_, h, _⟩; have := h k (by omega); unfold devAt at this; rcases hc3 with h1 | h1
   ·exact h1 this.1
   exact h1 this.2
  intro hc4
  refine wp_skip ?_
  refine blk_n ?_
  refine then_n ?_
  refine wp_region_lit ?_
  refine qv S (iN (k + 1)) (x_add (S.e rfl) (S.e rfl) (r := ((k + 1 : Nat) : Int)) (w_i64 (by omega))) ?_; clear S a; intro a S
  refine qm S rfl ?_; clear S a; intro a S
  refine wpList_nil ?_
  have TD : Tr [one b4, one b1] w6 [one b1] w6 := Tr.drop C.ms [1] (by decide)
  have GD : Ch (In []) w6 w6 := Ch.refl _
  clear K4
  replace t_w := Enc.tr (topoE) t_w TD
  replace K1 := Blk.tr0 K1 GD
  replace GL0 := GL0.trans TD
  replace C := C.trans TD
  clear TD GD
  refine then_n ?_
  refine ⟨t.devs.xs.length - (k + 1), ?_, k + 1, S.sub ⟨rfl, rfl, rfl, rfl, trivial⟩, GL0, ?_, K1, rfl⟩
  ·omega
  refine ⟨by omega, fun j hj => ?_⟩
  rcases Nat.lt_succ_iff_lt_or_eq.1 hj with h | h
  ·exact hna j h
  subst h; unfold devAt; simp only [not_or, Classical.not_not] at hc4; exact ⟨hc4.1, hc4.2⟩
 intro hc5
 refine wp_exit ?_
 refine then_e ?_
 refine then_e ?_
 refine blk_e ?_
 refine then_n ?_
 refine wp_seq ?_
 refine qs ?_
 refine qv S (pT b1 (0 + 1)) (x_fld (z := 0) (0) 1 Try.underlying28 rfl rfl (by kernel_rfl) (S.e rfl)) ?_; clear S a; intro a S
 refine qv S (sV t.links) (x_load ⟨_, Try.underlying24, rfl⟩ (S.e rfl) (K1.cell (j := 1) rfl)) ?_; clear S a; intro a S
 have hn6 : t.links.xs.length ≤ 9223372036854775807 := (t_w.2.1).1.len
 refine qv S (iN t.links.xs.length) (x_len Try.underlying24 (S.e rfl)) ?_; clear S a; intro a S
 refine qm S rfl ?_; clear S a; intro a S
 refine qt ?_
 refine wp_block ?_
 refine wp_loop_ghost (fun m a wr => ∃ k : Nat, Slots 173 [(1, pT b1 0), (72, sV t.links), (73, iN t.links.xs.length), (74, iN k)] a ∧ Tr [one b1] w2 [one b1] wr ∧ (k ≤ t.links.xs.length ∧ ∀ j, j < k → lnkV t.devs.xs.length (t.links.xs.getD j lnkE.dflt)) ∧ Blk wr.heap b1 (tL t) 28 ∧ (t.links.xs.length - k) = m) (t.links.xs.length - 0) ?_ ?_
 ·refine ⟨0, S.sub ⟨rfl, rfl, rfl, rfl, trivial⟩, Tr.refl C.ms, ?_, K1, rfl⟩
  exact ⟨Nat.zero_le _, fun j hj => by omega⟩
 rintro m a w7 ⟨k, S, G, hR, K1', rfl⟩
 clear K1; have K1 := K1'; clear K1'
 replace t_w := Enc.tr (topoE) t_w G
 replace GL0 := GL0.trans G
 replace C := C.trans G
 have GL1 := G; clear G
 obtain ⟨hkb, hnb⟩ := hR
 refine qs ?_
 refine qv S (bD (((k : Nat) : Int) < ((t.links.xs.length : Nat) : Int))) (x_lss (S.e rfl) (S.e rfl)) ?_; clear S a; intro a S
 refine qt ?_
 refine wp_seq ?_
 refine cond_dec S rfl ?_ ?_
 ·intro hc6
  refine wp_skip ?_
  refine then_n ?_
  refine wp_seq ?_
  refine wp_block ?_
  refine qs ?_
  refine qv S (pT (blk t.links.a) (off t.links.a + k * 3)) (x_idx Try.underlying24 (by kernel_rfl) (S.e rfl) (S.e rfl) k rfl (by omega) ((t_w.2.1).1.adr (i := k) (by omega))) ?_; clear S a; intro a S
  obtain ⟨hl7, hu7⟩ : inI64 ((t.links.xs.getD k lnkE.dflt).a) := id (((t_w.2.1).1.wf k (by omega)).1)
  obtain ⟨hl8, hu8⟩ : inI64 ((t.links.xs.getD k lnkE.dflt).b) := id (((t_w.2.1).1.wf k (by omega)).2.1)
  obtain ⟨hl9, hu9⟩ : inI64 ((t.links.xs.getD k lnkE.dflt).cost) := id (((t_w.2.1).1.wf k (by omega)).2.2)
  refine qv S _ (x_loadw [iI ((t.links.xs.getD k lnkE.dflt).a), iI ((t.links.xs.getD k lnkE.dflt).b), iI ((t.links.xs.getD k lnkE.dflt).cost)] ⟨_, Try.underlying54, rfl, by kernel_rfl⟩ (S.e rfl) ((t_w.2.1).1.wcell k (by omega) _ rfl _ rfl)) ?_; clear S a; intro a S
  refine seq_new S rfl rfl (by decide) (fun b => pT b 0) (cs := [iI 0, iI 0, iI 0]) (x_allocz [iI 0, iI 0, iI 0] infoz_54 rfl) ?_
  clear S a; intro a w8 b10 hb10 hbs10 G K10 S; have hbl10 : b10 < w8.heap.size := by omega
  have TT := Tr.fresh C.ms hb10 hbl10 G
  replace t_w := Enc.tr (topoE) t_w TT
  replace K1 := Blk.tr0 K1 G
  replace GL0 := GL0.trans TT
  replace GL1 := GL1.trans TT
  replace C := C.trans TT
  clear TT G
  refine seq_storew S rfl rfl (vs := [iI ((t.links.xs.getD k lnkE.dflt).a), iI ((t.links.xs.getD k lnkE.dflt).b), iI ((t.links.xs.getD k lnkE.dflt).cost)]) (x_storew (by kernel_rfl) (S.e rfl) (S.e rfl) rfl K10 rfl) K10 ?_
  clear S a; intro a w9 G hz K S; clear hz; have TT := Tr.och C.ms G
  replace t_w := Enc.tr (topoE) t_w TT
  replace K1 := Blk.tr K1 G (C.ms.sep.out 1 [0] rfl rfl rfl)
  replace GL0 := GL0.trans TT
  replace GL1 := GL1.trans TT
  replace C := C.trans TT
  clear K10; have K10 := K; clear K TT G
  refine qt ?_
  refine qs ?_
  refine qv S (pT b10 (0 + 0)) (x_fld (z := 0) (0) 0 Try.underlying54 rfl rfl (by kernel_rfl) (S.e rfl)) ?_; clear S a; intro a S
  refine qv S (iI ((t.links.xs.getD k lnkE.dflt).a)) (x_load ⟨_, Try.underlying3, rfl⟩ (S.e rfl) (K10.cell (j := 0) rfl)) ?_; clear S a; intro a S
  refine qv S (bD ((t.links.xs.getD k lnkE.dflt).a < 0)) (x_lss (S.e rfl) (S.e rfl)) ?_; clear S a; intro a S
  refine qm S rfl ?_; clear S a; intro a S
  refine qg S 81 rfl (¬ ((t.links.xs.getD k lnkE.dflt).a < 0)) gf (pT b10 (0 + 0)) (fun hg => (x_fld (z := 0) (0) 0 Try.underlying54 rfl rfl (by kernel_rfl) (S.e rfl))) ?_; clear S a; intro a S
  refine qg S 81 rfl (¬ ((t.links.xs.getD k lnkE.dflt).a < 0)) gf (iI ((t.links.xs.getD k lnkE.dflt).a)) (fun hg => (x_load ⟨_, Try.underlying3, rfl⟩ (S.p rfl hg) (K10.cell (j := 0) rfl))) ?_; clear S a; intro a S
  refine qg S 81 rfl (¬ ((t.links.xs.getD k lnkE.dflt).a < 0)) gf (pT b10 (0 + 1)) (fun hg => (x_fld (z := 0) (0) 1 Try.underlying54 rfl rfl (by kernel_rfl) (S.e rfl))) ?_; clear S a; intro a S
  refine qg S 81 rfl (¬ ((t.links.xs.getD k lnkE.dflt).a < 0)) gf (iI ((t.links.xs.getD k lnkE.dflt).b)) (fun hg => (x_load ⟨_, Try.underlying3, rfl⟩ (S.p rfl hg) (K10.cell (j := 1) rfl))) ?_; clear S a; intro a S
  refine qg S 81 rfl (¬ ((t.links.xs.getD k lnkE.dflt).a < 0)) gf (bD ((t.links.xs.getD k lnkE.dflt).b ≤ (t.links.xs.getD k lnkE.dflt).a)) (fun hg => (x_geq (S.p rfl hg) (S.p rfl hg))) ?_; clear S a; intro a S
  refine qv S (bD (((t.links.xs.getD k lnkE.dflt).a < 0) ∨ ((t.links.xs.getD k lnkE.dflt).b ≤ (t.links.xs.getD k lnkE.dflt).a))) (x_or (S.e rfl) (S.e rfl) (S.p rfl)) ?_; clear S a; intro a S
  refine qm S rfl ?_; clear S a; intro a S
  refine qg S 88 rfl (¬ (((t.links.xs.getD k lnkE.dflt).a < 0) ∨ ((t.links.xs.getD k lnkE.dflt).b ≤ (t.links.xs.getD k lnkE.dflt).a))) gf (pT b10 (0 + 1)) (fun hg => (x_fld (z := 0) (0) 1 Try.underlying54 rfl rfl (by kernel_rfl) (S.e rfl))) ?_; clear S a; intro a S
  refine qg S 88 rfl (¬ (((t.links.xs.getD k lnkE.dflt).a < 0) ∨ ((t.links.xs.getD k lnkE.dflt).b ≤ (t.links.xs.getD k lnkE.dflt).a))) gf (iI ((t.links.xs.getD k lnkE.dflt).b)) (fun hg => (x_load ⟨_, Try.underlying3, rfl⟩ (S.p rfl hg) (K10.cell (j := 1) rfl))) ?_; clear S a; intro a S
  refine qg S 88 rfl (¬ (((t.links.xs.getD k lnkE.dflt).a < 0) ∨ ((t.links.xs.getD k lnkE.dflt).b ≤ (t.links.xs.getD k lnkE.dflt).a))) gf (pT b1 (0 + 0)) (fun hg => (x_fld (z := 0) (0) 0 Try.underlying28 rfl rfl (by kernel_rfl) (S.e rfl))) ?_; clear S a; intro a S
  refine qg S 88 rfl (¬ (((t.links.xs.getD k lnkE.dflt).a < 0) ∨ ((t.links.xs.getD k lnkE.dflt).b ≤ (t.links.xs.getD k lnkE.dflt).a))) gf (sV t.devs) (fun hg => (x_load ⟨_, Try.underlying23, rfl⟩ (S.p rfl hg) (K1.cell (j := 0) rfl))) ?_; clear S a; intro a S
  refine qg S 88 rfl (¬ (((t.links.xs.getD k lnkE.dflt).a < 0) ∨ ((t.links.xs.getD k lnkE.dflt).b ≤ (t.links.xs.getD k lnkE.dflt).a))) gf (iN t.devs.xs.length) (fun hg => (x_len Try.underlying23 (S.p rfl hg))) ?_; clear S a; intro a S
  refine qg S 88 rfl (¬ (((t.links.xs.getD k lnkE.dflt).a < 0) ∨ ((t.links.xs.getD k lnkE.dflt).b ≤ (t.links.xs.getD k lnkE.dflt).a))) gf (bD (((t.devs.xs.length : Nat) : Int) ≤ (t.links.xs.getD k lnkE.dflt).b)) (fun hg => (x_geq (S.p rfl hg) (S.p rfl hg))) ?_; clear S a; intro a S
  refine qv S (bD ((((t.links.xs.getD k lnkE.dflt).a < 0) ∨ ((t.links.xs.getD k lnkE.dflt).b ≤ (t.links.xs.getD k lnkE.dflt).a)) ∨ (((t.devs.xs.length : Nat) : Int) ≤ (t.links.xs.getD k lnkE.dflt).b))) (x_or (S.e rfl) (S.e rfl) (S.p rfl)) ?_; clear S a; intro a S
  refine qm S rfl ?_; clear S a; intro a S
  refine qg S 96 rfl (¬ ((((t.links.xs.getD k lnkE.dflt).a < 0) ∨ ((t.links.xs.getD k lnkE.dflt).b ≤ (t.links.xs.getD k lnkE.dflt).a)) ∨ (((t.devs.xs.length : Nat) : Int) ≤ (t.links.xs.getD k lnkE.dflt).b))) gf (pT b10 (0 + 2)) (fun hg => (x_fld (z := 0) (0) 2 Try.underlying54 rfl rfl (by kernel_rfl) (S.e rfl))) ?_; clear S a; intro a S
  refine qg S 96 rfl (¬ ((((t.links.xs.getD k lnkE.dflt).a < 0) ∨ ((t.links.xs.getD k lnkE.dflt).b ≤ (t.links.xs.getD k lnkE.dflt).a)) ∨ (((t.devs.xs.length : Nat) : Int) ≤ (t.links.xs.getD k lnkE.dflt).b))) gf (iI ((t.links.xs.getD k lnkE.dflt).cost)) (fun hg => (x_load ⟨_, Try.underlying3, rfl⟩ (S.p rfl hg) (K10.cell (j := 2) rfl))) ?_; clear S a; intro a S
  refine qg S 96 rfl (¬ ((((t.links.xs.getD k lnkE.dflt).a < 0) ∨ ((t.links.xs.getD k lnkE.dflt).b ≤ (t.links.xs.getD k lnkE.dflt).a)) ∨ (((t.devs.xs.length : Nat) : Int) ≤ (t.links.xs.getD k lnkE.dflt).b))) gf (bD ((t.links.xs.getD k lnkE.dflt).cost < 1)) (fun hg => (x_lss (S.p rfl hg) (S.e rfl))) ?_; clear S a; intro a S
  refine qv S (bD (((((t.links.xs.getD k lnkE.dflt).a < 0) ∨ ((t.links.xs.getD k lnkE.dflt).b ≤ (t.links.xs.getD k lnkE.dflt).a)) ∨ (((t.devs.xs.length : Nat) : Int) ≤ (t.links.xs.getD k lnkE.dflt).b)) ∨ ((t.links.xs.getD k lnkE.dflt).cost < 1))) (x_or (S.e rfl) (S.e rfl) (S.p rfl)) ?_; clear S a; intro a S
  refine qm S rfl ?_; clear S a; intro a S
  refine qg S 101 rfl (¬ (((((t.links.xs.getD k lnkE.dflt).a < 0) ∨ ((t.links.xs.getD k lnkE.dflt).b ≤ (t.links.xs.getD k lnkE.dflt).a)) ∨ (((t.devs.xs.length : Nat) : Int) ≤ (t.links.xs.getD k lnkE.dflt).b)) ∨ ((t.links.xs.getD k lnkE.dflt).cost < 1))) gf (pT b10 (0 + 2)) (fun hg => (x_fld (z := 0) (0) 2 Try.underlying54 rfl rfl (by kernel_rfl) (S.e rfl))) ?_; clear S a; intro a S
  refine qg S 101 rfl (¬ (((((t.links.xs.getD k lnkE.dflt).a < 0) ∨ ((t.links.xs.getD k lnkE.dflt).b ≤ (t.links.xs.getD k lnkE.dflt).a)) ∨ (((t.devs.xs.length : Nat) : Int) ≤ (t.links.xs.getD k lnkE.dflt).b)) ∨ ((t.links.xs.getD k lnkE.dflt).cost < 1))) gf (iI ((t.links.xs.getD k lnkE.dflt).cost)) (fun hg => (x_load ⟨_, Try.underlying3, rfl⟩ (S.p rfl hg) (K10.cell (j := 2) rfl))) ?_; clear S a; intro a S
  refine qg S 101 rfl (¬ (((((t.links.xs.getD k lnkE.dflt).a < 0) ∨ ((t.links.xs.getD k lnkE.dflt).b ≤ (t.links.xs.getD k lnkE.dflt).a)) ∨ (((t.devs.xs.length : Nat) : Int) ≤ (t.links.xs.getD k lnkE.dflt).b)) ∨ ((t.links.xs.getD k lnkE.dflt).cost < 1))) gf (bD (1000 < (t.links.xs.getD k lnkE.dflt).cost)) (fun hg => (x_gtr (S.p rfl hg) (S.e rfl))) ?_; clear S a; intro a S
  refine qv S (bD ((((((t.links.xs.getD k lnkE.dflt).a < 0) ∨ ((t.links.xs.getD k lnkE.dflt).b ≤ (t.links.xs.getD k lnkE.dflt).a)) ∨ (((t.devs.xs.length : Nat) : Int) ≤ (t.links.xs.getD k lnkE.dflt).b)) ∨ ((t.links.xs.getD k lnkE.dflt).cost < 1)) ∨ (1000 < (t.links.xs.getD k lnkE.dflt).cost))) (x_or (S.e rfl) (S.e rfl) (S.p rfl)) ?_; clear S a; intro a S
  refine qt ?_
  refine cond_dec S rfl ?_ ?_
  ·intro hc7
   refine qs ?_
   refine qa S rfl ?_; clear S a; intro a S
   refine qt ?_
   refine wp_ret ?_
   refine blk_r ?_
   refine then_r ?_
   refine then_r ?_
   refine blk_r ?_
   refine then_r ?_
   refine ret1 rfl S rfl ?_
   have TD : Tr [one b10, one b1] w9 [] w9 := Tr.drop C.ms [] (by decide)
   have GD : Ch (In []) w9 w9 := Ch.refl _
   clear K1
   clear K10
   replace t_w := Enc.tr (topoE) t_w TD
   replace GL0 := GL0.trans TD
   replace GL1 := GL1.trans TD
   replace C := C.trans TD
   clear TD GD
   refine ⟨(r1 (vf ?_)), C⟩
   rintro ⟨_, _, h, _⟩; have := h k (by omega); unfold lnkV at this; omega
  intro hc8
  refine wp_skip ?_
  refine blk_n ?_
  refine then_n ?_
  refine wp_region_lit ?_
  refine qv S (iN (k + 1)) (x_add (S.e rfl) (S.e rfl) (r := ((k + 1 : Nat) : Int)) (w_i64 (by omega))) ?_; clear S a; intro a S
  refine qm S rfl ?_; clear S a; intro a S
  refine wpList_nil ?_
  have TD : Tr [one b10, one b1] w9 [one b1] w9 := Tr.drop C.ms [1] (by decide)
  have GD : Ch (In []) w9 w9 := Ch.refl _
  clear K10
  replace t_w := Enc.tr (topoE) t_w TD
  replace K1 := Blk.tr0 K1 GD
  replace GL0 := GL0.trans TD
  replace GL1 := GL1.trans TD
  replace C := C.trans TD
  clear TD GD
  refine then_n ?_
  refine ⟨t.links.xs.length - (k + 1), ?_, k + 1, S.sub ⟨rfl, rfl, rfl, rfl, trivial⟩, GL1, ?_, K1, rfl⟩
  ·omega
  refine ⟨by omega, fun j hj => ?_⟩
  rcases Nat.lt_succ_iff_lt_or_eq.1 hj with h | h
  ·exact hnb j h
  subst h; unfold lnkV; omega
 intro hc9
 refine wp_exit ?_
 refine then_e ?_
 refine then_e ?_
 refine blk_e ?_
 refine then_n ?_
 refine wp_seq ?_
 refine qs ?_
 refine qv S (pT b1 (0 + 2)) (x_fld (z := 0) (0) 2 Try.underlying28 rfl rfl (by kernel_rfl) (S.e rfl)) ?_; clear S a; intro a S
 refine qv S (sV t.edges) (x_load ⟨_, Try.underlying25, rfl⟩ (S.e rfl) (K1.cell (j := 2) rfl)) ?_; clear S a; intro a S
 have hn11 : t.edges.xs.length ≤ 9223372036854775807 := (t_w.2.2.1).1.len
 refine qv S (iN t.edges.xs.length) (x_len Try.underlying25 (S.e rfl)) ?_; clear S a; intro a S
 refine qm S rfl ?_; clear S a; intro a S
 refine qt ?_
 refine wp_block ?_
 refine wp_loop_ghost (fun m a wr => ∃ k : Nat, Slots 173 [(1, pT b1 0), (108, sV t.edges), (109, iN t.edges.xs.length), (110, iN k)] a ∧ Tr [one b1] w7 [one b1] wr ∧ (k ≤ t.edges.xs.length ∧ ∀ j, j < k → edgAt t j ∧ ∀ i, i < j → ¬ edgTwo (t.edges.xs.getD j edgE.dflt) (t.edges.xs.getD i edgE.dflt)) ∧ Blk wr.heap b1 (tL t) 28 ∧ (t.edges.xs.length - k) = m) (t.edges.xs.length - 0) ?_ ?_
 ·refine ⟨0, S.sub ⟨rfl, rfl, rfl, rfl, trivial⟩, Tr.refl C.ms, ?_, K1, rfl⟩
  exact ⟨Nat.zero_le _, fun j hj => by omega⟩
 rintro m a w10 ⟨k, S, G, hR, K1', rfl⟩
 clear K1; have K1 := K1'; clear K1'
 replace t_w := Enc.tr (topoE) t_w G
 replace GL0 := GL0.trans G
 replace GL1 := GL1.trans G
 replace C := C.trans G
 have GL2 := G; clear G
 obtain ⟨hkc, hnc⟩ := hR
 refine qs ?_
 refine qv S (bD (((k : Nat) : Int) < ((t.edges.xs.length : Nat) : Int))) (x_lss (S.e rfl) (S.e rfl)) ?_; clear S a; intro a S
 refine qt ?_
 refine wp_seq ?_
 refine cond_dec S rfl ?_ ?_
 ·intro hc10
  refine wp_skip ?_
  refine then_n ?_
  refine wp_seq ?_
  refine wp_block ?_
  refine qs ?_
  refine qm S rfl ?_; clear S a; intro a S
  refine qv S (pT (blk t.edges.a) (off t.edges.a + k * 6)) (x_idx Try.underlying25 (by kernel_rfl) (S.e rfl) (S.e rfl) k rfl (by omega) ((t_w.2.2.1).1.adr (i := k) (by omega))) ?_; clear S a; intro a S
  obtain ⟨hl12, hu12⟩ : inI64 ((t.edges.xs.getD k edgE.dflt).dev) := id (((t_w.2.2.1).1.wf k (by omega)).2.1)
  obtain ⟨hl13, hu13⟩ : inU32 ((t.edges.xs.getD k edgE.dflt).pfx.addr) := id (((t_w.2.2.1).1.wf k (by omega)).2.2.2.1.1)
  obtain ⟨hl14, hu14⟩ : inI64 ((t.edges.xs.getD k edgE.dflt).pfx.bits) := id (((t_w.2.2.1).1.wf k (by omega)).2.2.2.1.2)
  refine qv S _ (x_loadw [.string ((t.edges.xs.getD k edgE.dflt).name), iI ((t.edges.xs.getD k edgE.dflt).dev), .string ((t.edges.xs.getD k edgE.dflt).zone), .int .u32 ((t.edges.xs.getD k edgE.dflt).pfx.addr), iI ((t.edges.xs.getD k edgE.dflt).pfx.bits), bD ((t.edges.xs.getD k edgE.dflt).planned = true)] ⟨_, Try.underlying71, rfl, by kernel_rfl⟩ (S.e rfl) ((t_w.2.2.1).1.wcell k (by omega) _ rfl _ rfl)) ?_; clear S a; intro a S
  refine seq_new S rfl rfl (by decide) (fun b => pT b 0) (cs := [.string (⟨#[]⟩), iI 0, .string (⟨#[]⟩), .int .u32 0, iI 0, .bool false]) (x_allocz [.string (⟨#[]⟩), iI 0, .string (⟨#[]⟩), .int .u32 0, iI 0, .bool false] infoz_71 rfl) ?_
  clear S a; intro a w11 b15 hb15 hbs15 G K15 S; have hbl15 : b15 < w11.heap.size := by omega
  have TT := Tr.fresh C.ms hb15 hbl15 G
  replace t_w := Enc.tr (topoE) t_w TT
  replace K1 := Blk.tr0 K1 G
  replace GL0 := GL0.trans TT
  replace GL1 := GL1.trans TT
  replace GL2 := GL2.trans TT
  replace C := C.trans TT
  clear TT G
  refine qa S rfl ?_; clear S a; intro a S
  refine seq_storew S rfl rfl (vs := [.string ((t.edges.xs.getD k edgE.dflt).name), iI ((t.edges.xs.getD k edgE.dflt).dev), .string ((t.edges.xs.getD k edgE.dflt).zone), .int .u32 ((t.edges.xs.getD k edgE.dflt).pfx.addr), iI ((t.edges.xs.getD k edgE.dflt).pfx.bits), bD ((t.edges.xs.getD k edgE.dflt).planned = true)]) (x_storew (by kernel_rfl) (S.e rfl) (S.e rfl) rfl K15 rfl) K15 ?_
  clear S a; intro a w12 G hz K S; clear hz; have TT := Tr.och C.ms G
  replace t_w := Enc.tr (topoE) t_w TT
  replace K1 := Blk.tr K1 G (C.ms.sep.out 1 [0] rfl rfl rfl)
  replace GL0 := GL0.trans TT
  replace GL1 := GL1.trans TT
  replace GL2 := GL2.trans TT
  replace C := C.trans TT
  clear K15; have K15 := K; clear K TT G
  refine qt ?_
  refine wp_seq ?_
  refine qs ?_
  refine qv S _ (x_loadw (tL t) ⟨_, Try.underlying28, rfl, by kernel_rfl⟩ (S.e rfl) (K1.mid [] _ [] rfl _ rfl)) ?_; clear S a; intro a S
  refine qv S _ (x_loadw [.string ((t.edges.xs.getD k edgE.dflt).name), iI ((t.edges.xs.getD k edgE.dflt).dev), .string ((t.edges.xs.getD k edgE.dflt).zone), .int .u32 ((t.edges.xs.getD k edgE.dflt).pfx.addr), iI ((t.edges.xs.getD k edgE.dflt).pfx.bits), bD ((t.edges.xs.getD k edgE.dflt).planned = true)] ⟨_, Try.underlying71, rfl, by kernel_rfl⟩ (S.e rfl) (K15.mid [] _ [] rfl _ rfl)) ?_; clear S a; intro a S
  refine seq_call S (by decide) (vs := #[tV t, .agg #[.string ((t.edges.xs.getD k edgE.dflt).name), iI ((t.edges.xs.getD k edgE.dflt).dev), .string ((t.edges.xs.getD k edgE.dflt).zone), .int .u32 ((t.edges.xs.getD k edgE.dflt).pfx.addr), iI ((t.edges.xs.getD k edgE.dflt).pfx.bits), bD ((t.edges.xs.getD k edgE.dflt).planned = true)]]) rfl callable_80 (tValidEdge _ (Ex F _) (C.old hF)  (MS.nil _) t ((topoE).down0 t_w) (t.edges.xs.getD k edgE.dflt) ((edgE).down0 ((t_w.2.2.1).1.wf k (by omega)))) ?_
  rintro e w13 ⟨rfl, T0⟩; refine ⟨_, rfl, ?_⟩; clear S a; intro a S
  have TT := Tr.framed0 C.ms T0; have G := T0.ch
  replace t_w := Enc.tr (topoE) t_w TT
  replace K1 := Blk.tr0 K1 G
  replace K15 := Blk.tr0 K15 G
  replace GL0 := GL0.trans TT
  replace GL1 := GL1.trans TT
  replace GL2 := GL2.trans TT
  replace C := C.trans TT
  clear T0 G TT
  refine qv S (bD (¬ (edgV t.devs.xs.length (t.edges.xs.getD k edgE.dflt)))) (x_notp (S.e rfl)) ?_; clear S a; intro a S
  refine qm S rfl ?_; clear S a; intro a S
  refine qg S 119 rfl (¬ (¬ (edgV t.devs.xs.length (t.edges.xs.getD k edgE.dflt)))) gf _ (fun hg => (x_loadw (tL t) ⟨_, Try.underlying28, rfl, by kernel_rfl⟩ (S.e rfl) (K1.mid [] _ [] rfl _ rfl))) ?_; clear S a; intro a S
  refine qg S 119 rfl (¬ (¬ (edgV t.devs.xs.length (t.edges.xs.getD k edgE.dflt)))) gf (pT b15 (0 + 0)) (fun hg => (x_fld (z := 0) (0) 0 Try.underlying71 rfl rfl (by kernel_rfl) (S.e rfl))) ?_; clear S a; intro a S
  refine qg S 119 rfl (¬ (¬ (edgV t.devs.xs.length (t.edges.xs.getD k edgE.dflt)))) gf (.string ((t.edges.xs.getD k edgE.dflt).name)) (fun hg => (x_load ⟨_, Try.underlying9, rfl⟩ (S.p rfl hg) (K15.cell (j := 0) rfl))) ?_; clear S a; intro a S
  refine seq_gcall S (by decide) (gd := 119) (vs := #[tV t, .string ((t.edges.xs.getD k edgE.dflt).name)]) (v := iI (idxOf (fun x => decide (x.name = (t.edges.xs.getD k edgE.dflt).name)) t.edges.xs)) rfl rfl (by decide) rfl (c := (¬ (¬ (edgV t.devs.xs.length (t.edges.xs.getD k edgE.dflt))))) gf (fun hg => by simp only [List.map_toArray, List.map_cons, List.map_nil, show a.eval (.tmp 120) = tV t from (S.p rfl hg), show a.eval (.tmp 122) = .string ((t.edges.xs.getD k edgE.dflt).name) from (S.p rfl hg)]) callable_81 (fun hg => ((tEdge _ (Ex F _) (C.old hF)  (MS.nil _) t ((topoE).down0 t_w) ((t.edges.xs.getD k edgE.dflt).name) ((t_w.2.2.1).1.wf k (by omega)).1)).mono (fun _ _ h => ⟨h.1, h.2.ch⟩)) ?_
  clear S a; intro a w14 G S; have TT := Tr.of_ch0 C.ms G
  replace t_w := Enc.tr (topoE) t_w TT
  replace K1 := Blk.tr0 K1 G
  replace K15 := Blk.tr0 K15 G
  replace GL0 := GL0.trans TT
  replace GL1 := GL1.trans TT
  replace GL2 := GL2.trans TT
  replace C := C.trans TT
  refine qg S 119 rfl (¬ (¬ (edgV t.devs.xs.length (t.edges.xs.getD k edgE.dflt)))) gf (iN k) (fun hg => (x_move (S.e rfl))) ?_; clear S a; intro a S
  refine qg S 119 rfl (¬ (¬ (edgV t.devs.xs.length (t.edges.xs.getD k edgE.dflt)))) gf (bD (¬ idxOf (fun x => decide (x.name = (t.edges.xs.getD k edgE.dflt).name)) t.edges.xs = ((k : Nat) : Int))) (fun hg => (x_neq (S.p rfl hg) (S.p rfl hg))) ?_; clear S a; intro a S
  refine qv S (bD ((¬ (edgV t.devs.xs.length (t.edges.xs.getD k edgE.dflt))) ∨ (¬ idxOf (fun x => decide (x.name = (t.edges.xs.getD k edgE.dflt).name)) t.edges.xs = ((k : Nat) : Int)))) (x_or (S.e rfl) (S.e rfl) (S.p rfl)) ?_; clear S a; intro a S
  refine qt ?_
  refine cond_dec S rfl ?_ ?_
  ·intro hc11
   refine qs ?_
   refine qa S rfl ?_; clear S a; intro a S
   refine qt ?_
   refine wp_ret ?_
   refine then_r ?_
   refine blk_r ?_
   refine then_r ?_
   refine then_r ?_
   refine blk_r ?_
   refine then_r ?_
   refine ret1 rfl S rfl ?_
   have TD : Tr [one b15, one b1] w14 [] w14 := Tr.drop C.ms [] (by decide)
   have GD : Ch (In []) w14 w14 := Ch.refl _
   clear K1
   clear K15
   replace t_w := Enc.tr (topoE) t_w TD
   replace GL0 := GL0.trans TD
   replace GL1 := GL1.trans TD
   replace GL2 := GL2.trans TD
   replace C := C.trans TD
   clear TD GD
   refine ⟨(r1 (vf ?_)), C⟩
   rintro ⟨_, _, _, h, _⟩; have := h k (by omega); unfold edgAt at this; rcases hc11 with h1 | h1
   ·exact h1 this.1
   exact h1 this.2
  intro hc12
  refine wp_skip ?_
  refine then_n ?_
  refine qs ?_
  refine qv S (pT b1 (0 + 2)) (x_fld (z := 0) (0) 2 Try.underlying28 rfl rfl (by kernel_rfl) (S.e rfl)) ?_; clear S a; intro a S
  refine qv S (sV t.edges) (x_load ⟨_, Try.underlying25, rfl⟩ (S.e rfl) (K1.cell (j := 2) rfl)) ?_; clear S a; intro a S
  refine qm S rfl ?_; clear S a; intro a S
  have hk17 : (t.edges.xs.take k).length = k := by rw [List.length_take]; omega
  refine qv S (.slice t.edges.a ((t.edges.xs.take k).length) t.edges.c) (x_slhn Try.underlying25 infoz_71 (S.e rfl) (S.e rfl) k rfl (Nat.le_trans (by omega) (t_w.2.2.1).2.1) (t_w.2.2.1).2.2 _ (by rw [List.length_take]; omega)) ?_; clear S a; intro a S
  have hn18 : (t.edges.xs.take k).length ≤ 9223372036854775807 := ((sl_take t_w.2.2.1 k (by omega))).1.len
  refine qv S (iN (t.edges.xs.take k).length) (x_len Try.underlying25 (S.e rfl)) ?_; clear S a; intro a S
  refine qm S rfl ?_; clear S a; intro a S
  refine qt ?_
  refine wp_block ?_
  refine wp_loop_ghost (fun m a wr => ∃ i : Nat, Slots 173 [(1, pT b1 0), (108, sV t.edges), (109, iN t.edges.xs.length), (110, iN k), (111, bD (((k : Nat) : Int) < ((t.edges.xs.length : Nat) : Int))), (112, iN k), (113, pT (blk t.edges.a) (off t.edges.a + k * 6)), (114, .agg #[.string ((t.edges.xs.getD k edgE.dflt).name), iI ((t.edges.xs.getD k edgE.dflt).dev), .string ((t.edges.xs.getD k edgE.dflt).zone), .int .u32 ((t.edges.xs.getD k edgE.dflt).pfx.addr), iI ((t.edges.xs.getD k edgE.dflt).pfx.bits), bD ((t.edges.xs.getD k edgE.dflt).planned = true)]), (8, pT b15 0), (7, iN k), (115, tV t), (116, .agg #[.string ((t.edges.xs.getD k edgE.dflt).name), iI ((t.edges.xs.getD k edgE.dflt).dev), .string ((t.edges.xs.getD k edgE.dflt).zone), .int .u32 ((t.edges.xs.getD k edgE.dflt).pfx.addr), iI ((t.edges.xs.getD k edgE.dflt).pfx.bits), bD ((t.edges.xs.getD k edgE.dflt).planned = true)]), (117, bD (edgV t.devs.xs.length (t.edges.xs.getD k edgE.dflt))), (118, bD (¬ (edgV t.devs.xs.length (t.edges.xs.getD k edgE.dflt)))), (119, bD (¬ (edgV t.devs.xs.length (t.edges.xs.getD k edgE.dflt)))), (120, (if (¬ (¬ (edgV t.devs.xs.length (t.edges.xs.getD k edgE.dflt)))) then tV t else undef)), (121, (if (¬ (¬ (edgV t.devs.xs.length (t.edges.xs.getD k edgE.dflt)))) then pT b15 (0 + 0) else undef)), (122, (if (¬ (¬ (edgV t.devs.xs.length (t.edges.xs.getD k edgE.dflt)))) then .string ((t.edges.xs.getD k edgE.dflt).name) else undef)), (123, (if (¬ (¬ (edgV t.devs.xs.length (t.edges.xs.getD k edgE.dflt)))) then iI (idxOf (fun x => decide (x.name = (t.edges.xs.getD k edgE.dflt).name)) t.edges.xs) else undef)), (124, (if (¬ (¬ (edgV t.devs.xs.length (t.edges.xs.getD k edgE.dflt)))) then iN k else undef)), (125, (if (¬ (¬ (edgV t.devs.xs.length (t.edges.xs.getD k edgE.dflt)))) then bD (¬ idxOf (fun x => decide (x.name = (t.edges.xs.getD k edgE.dflt).name)) t.edges.xs = ((k : Nat) : Int)) else undef)), (126, bD ((¬ (edgV t.devs.xs.length (t.edges.xs.getD k edgE.dflt))) ∨ (¬ idxOf (fun x => decide (x.name = (t.edges.xs.getD k edgE.dflt).name)) t.edges.xs = ((k : Nat) : Int)))), (127, pT b1 (0 + 2)), (128, sV t.edges), (129, iN k), (130, .slice t.edges.a ((t.edges.xs.take k).length) t.edges.c), (131, iN (t.edges.xs.take k).length), (132, iN i)] a ∧ Tr [one b15, one b1] w14 [one b15, one b1] wr ∧ (i ≤ k ∧ ∀ j, j < i → ¬ edgTwo (t.edges.xs.getD k edgE.dflt) (t.edges.xs.getD j edgE.dflt)) ∧ Blk wr.heap b1 (tL t) 28 ∧ Blk wr.heap b15 [.string ((t.edges.xs.getD k edgE.dflt).name), iI ((t.edges.xs.getD k edgE.dflt).dev), .string ((t.edges.xs.getD k edgE.dflt).zone), .int .u32 ((t.edges.xs.getD k edgE.dflt).pfx.addr), iI ((t.edges.xs.getD k edgE.dflt).pfx.bits), bD ((t.edges.xs.getD k edgE.dflt).planned = true)] 71 ∧ (k - i) = m) (k - 0) ?_ ?_
  ·refine ⟨0, S.sub ⟨rfl, rfl, rfl, rfl, rfl, rfl, rfl, rfl, rfl, rfl, rfl, rfl, rfl, rfl, rfl, rfl, rfl, rfl, rfl, rfl, rfl, rfl, rfl, rfl, rfl, rfl, rfl, rfl, trivial⟩, Tr.refl C.ms, ?_, K1, K15, rfl⟩
   exact ⟨Nat.zero_le _, fun j hj => by omega⟩
  rintro m a w15 ⟨i, S, G, hR, K1', K15', rfl⟩
  clear K1; have K1 := K1'; clear K1'
  clear K15; have K15 := K15'; clear K15'
  replace t_w := Enc.tr (topoE) t_w G
  replace GL0 := GL0.trans G
  replace GL1 := GL1.trans G
  replace GL2 := GL2.trans G
  replace C := C.trans G
  have GL3 := G; clear G
  obtain ⟨hk2, hn2⟩ := hR
  refine qs ?_
  refine qv S (bD (((i : Nat) : Int) < (((t.edges.xs.take k).length : Nat) : Int))) (x_lss (S.e rfl) (S.e rfl)) ?_; clear S a; intro a S
  refine qt ?_
  refine wp_seq ?_
  refine cond_dec S rfl ?_ ?_
  ·intro hc13
   refine wp_skip ?_
   refine then_n ?_
   refine wp_seq ?_
   refine wp_block ?_
   refine qs ?_
   refine qv S (pT (blk t.edges.a) (off t.edges.a + i * 6)) (x_idx Try.underlying25 (by kernel_rfl) (S.e rfl) (S.e rfl) i rfl (by omega) (((t_w.2.2.1).1.take k (by omega)).adr (i := i) (by omega))) ?_; clear S a; intro a S
   obtain ⟨hl19, hu19⟩ : inI64 (((t.edges.xs.take k).getD i edgE.dflt).dev) := id ((((t_w.2.2.1).1.take k (by omega)).wf i (by omega)).2.1)
   obtain ⟨hl20, hu20⟩ : inU32 (((t.edges.xs.take k).getD i edgE.dflt).pfx.addr) := id ((((t_w.2.2.1).1.take k (by omega)).wf i (by omega)).2.2.2.1.1)
   obtain ⟨hl21, hu21⟩ : inI64 (((t.edges.xs.take k).getD i edgE.dflt).pfx.bits) := id ((((t_w.2.2.1).1.take k (by omega)).wf i (by omega)).2.2.2.1.2)
   refine qv S _ (x_loadw [.string (((t.edges.xs.take k).getD i edgE.dflt).name), iI (((t.edges.xs.take k).getD i edgE.dflt).dev), .string (((t.edges.xs.take k).getD i edgE.dflt).zone), .int .u32 (((t.edges.xs.take k).getD i edgE.dflt).pfx.addr), iI (((t.edges.xs.take k).getD i edgE.dflt).pfx.bits), bD (((t.edges.xs.take k).getD i edgE.dflt).planned = true)] ⟨_, Try.underlying71, rfl, by kernel_rfl⟩ (S.e rfl) (((t_w.2.2.1).1.take k (by omega)).wcell i (by omega) _ rfl _ rfl)) ?_; clear S a; intro a S
   refine seq_new S rfl rfl (by decide) (fun b => pT b 0) (cs := [.string (⟨#[]⟩), iI 0, .string (⟨#[]⟩), .int .u32 0, iI 0, .bool false]) (x_allocz [.string (⟨#[]⟩), iI 0, .string (⟨#[]⟩), .int .u32 0, iI 0, .bool false] infoz_71 rfl) ?_
   clear S a; intro a w16 b22 hb22 hbs22 G K22 S; have hbl22 : b22 < w16.heap.size := by omega
   have TT := Tr.fresh C.ms hb22 hbl22 G
   replace t_w := Enc.tr (topoE) t_w TT
   replace K1 := Blk.tr0 K1 G
   replace K15 := Blk.tr0 K15 G
   replace GL0 := GL0.trans TT
   replace GL1 := GL1.trans TT
   replace GL2 := GL2.trans TT
   replace GL3 := GL3.trans TT
   replace C := C.trans TT
   clear TT G
   refine seq_storew S rfl rfl (vs := [.string (((t.edges.xs.take k).getD i edgE.dflt).name), iI (((t.edges.xs.take k).getD i edgE.dflt).dev), .string (((t.edges.xs.take k).getD i edgE.dflt).zone), .int .u32 (((t.edges.xs.take k).getD i edgE.dflt).pfx.addr), iI (((t.edges.xs.take k).getD i edgE.dflt).pfx.bits), bD (((t.edges.xs.take k).getD i edgE.dflt).planned = true)]) (x_storew (by kernel_rfl) (S.e rfl) (S.e rfl) rfl K22 rfl) K22 ?_
   clear S a; intro a w17 G hz K S; clear hz; have TT := Tr.och C.ms G
   replace t_w := Enc.tr (topoE) t_w TT
   replace K1 := Blk.tr K1 G (C.ms.sep.out 2 [0] rfl rfl rfl)
   replace K15 := Blk.tr K15 G (C.ms.sep.out 1 [0] rfl rfl rfl)
   replace GL0 := GL0.trans TT
   replace GL1 := GL1.trans TT
   replace GL2 := GL2.trans TT
   replace GL3 := GL3.trans TT
   replace C := C.trans TT
   clear K22; have K22 := K; clear K TT G
   refine qt ?_
   refine qs ?_
   refine qv S (pT b15 (0 + 5)) (x_fld (z := 0) (0) 5 Try.underlying71 rfl rfl (by kernel_rfl) (S.e rfl)) ?_; clear S a; intro a S
   refine qv S (bD ((t.edges.xs.getD k edgE.dflt).planned = true)) (x_load ⟨_, Try.underlying4, rfl⟩ (S.e rfl) (K15.cell (j := 5) rfl)) ?_; clear S a; intro a S
   refine qv S (bD (¬ ((t.edges.xs.getD k edgE.dflt).planned = true))) (x_notp (S.e rfl)) ?_; clear S a; intro a S
   refine qm S rfl ?_; clear S a; intro a S
   refine qg S 139 rfl (¬ ((t.edges.xs.getD k edgE.dflt).planned = true)) gt (pT b22 (0 + 5)) (fun hg => (x_fld (z := 0) (0) 5 Try.underlying71 rfl rfl (by kernel_rfl) (S.e rfl))) ?_; clear S a; intro a S
   refine qg S 139 rfl (¬ ((t.edges.xs.getD k edgE.dflt).planned = true)) gt (bD (((t.edges.xs.take k).getD i edgE.dflt).planned = true)) (fun hg => (x_load ⟨_, Try.underlying4, rfl⟩ (S.p rfl hg) (K22.cell (j := 5) rfl))) ?_; clear S a; intro a S
   refine qg S 139 rfl (¬ ((t.edges.xs.getD k edgE.dflt).planned = true)) gt (bD (¬ (((t.edges.xs.take k).getD i edgE.dflt).planned = true))) (fun hg => (x_notp (S.p rfl hg))) ?_; clear S a; intro a S
   refine qv S (bD ((¬ ((t.edges.xs.getD k edgE.dflt).planned = true)) ∧ (¬ (((t.edges.xs.take k).getD i edgE.dflt).planned = true)))) (x_and (S.e rfl) (S.p rfl) (S.e rfl)) ?_; clear S a; intro a S
   refine qm S rfl ?_; clear S a; intro a S
   refine qg S 144 rfl ((¬ ((t.edges.xs.getD k edgE.dflt).planned = true)) ∧ (¬ (((t.edges.xs.take k).getD i edgE.dflt).planned = true))) gt (pT b15 (0 + 3)) (fun hg => (x_fld (z := 1) (0) 3 Try.underlying71 rfl rfl (by kernel_rfl) (S.e rfl))) ?_; clear S a; intro a S
   refine qg S 144 rfl ((¬ ((t.edges.xs.getD k edgE.dflt).planned = true)) ∧ (¬ (((t.edges.xs.take k).getD i edgE.dflt).planned = true))) gt _ (fun hg => (x_loadw [.int .u32 ((t.edges.xs.getD k edgE.dflt).pfx.addr), iI ((t.edges.xs.getD k edgE.dflt).pfx.bits)] ⟨_, Try.underlying68, rfl, by kernel_rfl⟩ (S.p rfl hg) (K15.mid [.string ((t.edges.xs.getD k edgE.dflt).name), iI ((t.edges.xs.getD k edgE.dflt).dev), .string ((t.edges.xs.getD k edgE.dflt).zone)] [.int .u32 ((t.edges.xs.getD k edgE.dflt).pfx.addr), iI ((t.edges.xs.getD k edgE.dflt).pfx.bits)] [bD ((t.edges.xs.getD k edgE.dflt).planned = true)] rfl _ rfl))) ?_; clear S a; intro a S
   refine qg S 144 rfl ((¬ ((t.edges.xs.getD k edgE.dflt).planned = true)) ∧ (¬ (((t.edges.xs.take k).getD i edgE.dflt).planned = true))) gt (pT b22 (0 + 3)) (fun hg => (x_fld (z := 1) (0) 3 Try.underlying71 rfl rfl (by kernel_rfl) (S.e rfl))) ?_; clear S a; intro a S
   refine qg S 144 rfl ((¬ ((t.edges.xs.getD k edgE.dflt).planned = true)) ∧ (¬ (((t.edges.xs.take k).getD i edgE.dflt).planned = true))) gt _ (fun hg => (x_loadw [.int .u32 (((t.edges.xs.take k).getD i edgE.dflt).pfx.addr), iI (((t.edges.xs.take k).getD i edgE.dflt).pfx.bits)] ⟨_, Try.underlying68, rfl, by kernel_rfl⟩ (S.p rfl hg) (K22.mid [.string (((t.edges.xs.take k).getD i edgE.dflt).name), iI (((t.edges.xs.take k).getD i edgE.dflt).dev), .string (((t.edges.xs.take k).getD i edgE.dflt).zone)] [.int .u32 (((t.edges.xs.take k).getD i edgE.dflt).pfx.addr), iI (((t.edges.xs.take k).getD i edgE.dflt).pfx.bits)] [bD (((t.edges.xs.take k).getD i edgE.dflt).planned = true)] rfl _ rfl))) ?_; clear S a; intro a S
   refine seq_gcall S (by decide) (gd := 144) (vs := #[.agg #[.int .u32 ((t.edges.xs.getD k edgE.dflt).pfx.addr), iI ((t.edges.xs.getD k edgE.dflt).pfx.bits)], .agg #[.int .u32 (((t.edges.xs.take k).getD i edgE.dflt).pfx.addr), iI (((t.edges.xs.take k).getD i edgE.dflt).pfx.bits)]]) (v := bD (meets ((t.edges.xs.getD k edgE.dflt).pfx) (((t.edges.xs.take k).getD i edgE.dflt).pfx))) rfl rfl (by decide) rfl (c := ((¬ ((t.edges.xs.getD k edgE.dflt).planned = true)) ∧ (¬ (((t.edges.xs.take k).getD i edgE.dflt).planned = true)))) gt (fun hg => by simp only [List.map_toArray, List.map_cons, List.map_nil, show a.eval (.tmp 146) = .agg #[.int .u32 ((t.edges.xs.getD k edgE.dflt).pfx.addr), iI ((t.edges.xs.getD k edgE.dflt).pfx.bits)] from (S.p rfl hg), show a.eval (.tmp 148) = .agg #[.int .u32 (((t.edges.xs.take k).getD i edgE.dflt).pfx.addr), iI (((t.edges.xs.take k).getD i edgE.dflt).pfx.bits)] from (S.p rfl hg)]) callable_82 (fun hg => ((tOverlap _ (Ex F _) (C.old hF)  (MS.nil _) ((t.edges.xs.getD k edgE.dflt).pfx) ⟨((t_w.2.2.1).1.wf k (by omega)).2.2.2.1.1, ((t_w.2.2.1).1.wf k (by omega)).2.2.2.1.2⟩ (((t.edges.xs.take k).getD i edgE.dflt).pfx) ⟨(((t_w.2.2.1).1.take k (by omega)).wf i (by omega)).2.2.2.1.1, (((t_w.2.2.1).1.take k (by omega)).wf i (by omega)).2.2.2.1.2⟩)).mono (fun _ _ h => ⟨h.1, h.2.ch⟩)) ?_
   clear S a; intro a w18 G S; have TT := Tr.of_ch0 C.ms G
   replace t_w := Enc.tr (topoE) t_w TT
   replace K1 := Blk.tr0 K1 G
   replace K15 := Blk.tr0 K15 G
   replace K22 := Blk.tr0 K22 G
   replace GL0 := GL0.trans TT
   replace GL1 := GL1.trans TT
   replace GL2 := GL2.trans TT
   replace GL3 := GL3.trans TT
   replace C := C.trans TT
   refine qv S (bD (((¬ ((t.edges.xs.getD k edgE.dflt).planned = true)) ∧ (¬ (((t.edges.xs.take k).getD i edgE.dflt).planned = true))) ∧ (meets ((t.edges.xs.getD k edgE.dflt).pfx) (((t.edges.xs.take k).getD i edgE.dflt).pfx)))) (x_and (S.e rfl) (S.p rfl) (S.e rfl)) ?_; clear S a; intro a S
   refine qt ?_
   refine cond_dec S rfl ?_ ?_
   ·intro hc14
    refine qs ?_
    refine qa S rfl ?_; clear S a; intro a S
    refine qt ?_
    refine wp_ret ?_
    refine blk_r ?_
    refine then_r ?_
    refine then_r ?_
    refine blk_r ?_
    refine blk_r ?_
    refine then_r ?_
    refine then_r ?_
    refine blk_r ?_
    refine then_r ?_
    refine ret1 rfl S rfl ?_
    have TD : Tr [one b22, one b15, one b1] w18 [] w18 := Tr.drop C.ms [] (by decide)
    have GD : Ch (In []) w18 w18 := Ch.refl _
    clear K1
    clear K15
    clear K22
    replace t_w := Enc.tr (topoE) t_w TD
    replace GL0 := GL0.trans TD
    replace GL1 := GL1.trans TD
    replace GL2 := GL2.trans TD
    replace GL3 := GL3.trans TD
    replace C := C.trans TD
    clear TD GD
    refine ⟨(r1 (vf ?_)), C⟩
    rintro ⟨_, _, _, _, h, _⟩; refine h k (by omega) i (by omega) ?_; rw [getD_take (by omega)] at hc14; exact hc14
   intro hc15
   refine wp_skip ?_
   refine blk_n ?_
   refine then_n ?_
   refine wp_region_lit ?_
   refine qv S (iN (i + 1)) (x_add (S.e rfl) (S.e rfl) (r := ((i + 1 : Nat) : Int)) (w_i64 (by omega))) ?_; clear S a; intro a S
   refine qm S rfl ?_; clear S a; intro a S
   refine wpList_nil ?_
   have TD : Tr [one b22, one b15, one b1] w18 [one b15, one b1] w18 := Tr.drop C.ms [1, 2] (by decide)
   have GD : Ch (In []) w18 w18 := Ch.refl _
   clear K22
   replace t_w := Enc.tr (topoE) t_w TD
   replace K1 := Blk.tr0 K1 GD
   replace K15 := Blk.tr0 K15 GD
   replace GL0 := GL0.trans TD
   replace GL1 := GL1.trans TD
   replace GL2 := GL2.trans TD
   replace GL3 := GL3.trans TD
   replace C := C.trans TD
   clear TD GD
   refine then_n ?_
   refine ⟨k - (i + 1), ?_, i + 1, S.sub ⟨rfl, rfl, rfl, rfl, rfl, rfl, rfl, rfl, rfl, rfl, rfl, rfl, rfl, rfl, rfl, rfl, rfl, rfl, rfl, rfl, rfl, rfl, rfl, rfl, rfl, rfl, rfl, rfl, trivial⟩, GL3, ?_, K1, K15, rfl⟩
   ·omega
   refine ⟨by omega, fun j hj => ?_⟩
   rcases Nat.lt_succ_iff_lt_or_eq.1 hj with h | h
   ·exact hn2 j h
   subst h; rw [getD_take (by omega)] at hc15; exact hc15
  intro hc16
  refine wp_exit ?_
  refine then_e ?_
  refine then_e ?_
  refine blk_e ?_
  refine blk_n ?_
  refine then_n ?_
  refine wp_region_lit ?_
  refine qv S (iN (k + 1)) (x_add (S.e rfl) (S.e rfl) (r := ((k + 1 : Nat) : Int)) (w_i64 (by omega))) ?_; clear S a; intro a S
  refine qm S rfl ?_; clear S a; intro a S
  refine wpList_nil ?_
  have TD : Tr [one b15, one b1] w15 [one b1] w15 := Tr.drop C.ms [1] (by decide)
  have GD : Ch (In []) w15 w15 := Ch.refl _
  clear K15
  replace t_w := Enc.tr (topoE) t_w TD
  replace K1 := Blk.tr0 K1 GD
  replace GL0 := GL0.trans TD
  replace GL1 := GL1.trans TD
  replace GL2 := GL2.trans TD
  replace GL3 := GL3.trans TD
  replace C := C.trans TD
  clear TD GD
  refine then_n ?_
  refine ⟨t.edges.xs.length - (k + 1), ?_, k + 1, S.sub ⟨rfl, rfl, rfl, rfl, trivial⟩, GL2, ?_, K1, rfl⟩
  ·omega
  refine ⟨by omega, fun j hj => ?_⟩
  rcases Nat.lt_succ_iff_lt_or_eq.1 hj with h | h
  ·exact hnc j h
  subst h; simp only [not_or, Classical.not_not] at hc12; exact ⟨⟨hc12.1, hc12.2⟩, fun i hi => hn2 i (by omega)⟩
 intro hc17
 refine wp_exit ?_
 refine then_e ?_
 refine then_e ?_
 refine blk_e ?_
 refine then_n ?_
 refine wp_seq ?_
 refine qs ?_
 refine qv S (pT b1 (0 + 3)) (x_fld (z := 0) (0) 3 Try.underlying28 rfl rfl (by kernel_rfl) (S.e rfl)) ?_; clear S a; intro a S
 refine qv S (sV t.pools) (x_load ⟨_, Try.underlying26, rfl⟩ (S.e rfl) (K1.cell (j := 3) rfl)) ?_; clear S a; intro a S
 have hn23 : t.pools.xs.length ≤ 9223372036854775807 := (t_w.2.2.2.1).1.len
 refine qv S (iN t.pools.xs.length) (x_len Try.underlying26 (S.e rfl)) ?_; clear S a; intro a S
 refine qm S rfl ?_; clear S a; intro a S
 refine qt ?_
 refine wp_block ?_
 refine wp_loop_ghost (fun m a wr => ∃ k : Nat, Slots 173 [(1, pT b1 0), (154, sV t.pools), (155, iN t.pools.xs.length), (156, iN k)] a ∧ Tr [one b1] w10 [one b1] wr ∧ (k ≤ t.pools.xs.length ∧ ∀ j, j < k → polAt t.pools.xs j) ∧ Blk wr.heap b1 (tL t) 28 ∧ (t.pools.xs.length - k) = m) (t.pools.xs.length - 0) ?_ ?_
 ·refine ⟨0, S.sub ⟨rfl, rfl, rfl, rfl, trivial⟩, Tr.refl C.ms, ?_, K1, rfl⟩
  exact ⟨Nat.zero_le _, fun j hj => by omega⟩
 rintro m a w19 ⟨k, S, G, hR, K1', rfl⟩
 clear K1; have K1 := K1'; clear K1'
 replace t_w := Enc.tr (topoE) t_w G
 replace GL0 := GL0.trans G
 replace GL1 := GL1.trans G
 replace GL2 := GL2.trans G
 replace C := C.trans G
 have GL4 := G; clear G
 obtain ⟨hk, hn⟩ := hR
 refine qs ?_
 refine qv S (bD (((k : Nat) : Int) < ((t.pools.xs.length : Nat) : Int))) (x_lss (S.e rfl) (S.e rfl)) ?_; clear S a; intro a S
 refine qt ?_
 refine wp_seq ?_
 refine cond_dec S rfl ?_ ?_
 ·intro hc18
  refine wp_skip ?_
  refine then_n ?_
  refine wp_seq ?_
  refine wp_block ?_
  refine qs ?_
  refine qm S rfl ?_; clear S a; intro a S
  refine qv S (pT (blk t.pools.a) (off t.pools.a + k * 2)) (x_idx Try.underlying26 (by kernel_rfl) (S.e rfl) (S.e rfl) k rfl (by omega) ((t_w.2.2.2.1).1.adr (i := k) (by omega))) ?_; clear S a; intro a S
  obtain ⟨hl24, hu24⟩ : inU32 ((t.pools.xs.getD k pfxE.dflt).addr) := id (((t_w.2.2.2.1).1.wf k (by omega)).1)
  obtain ⟨hl25, hu25⟩ : inI64 ((t.pools.xs.getD k pfxE.dflt).bits) := id (((t_w.2.2.2.1).1.wf k (by omega)).2)
  refine qv S _ (x_loadw [.int .u32 ((t.pools.xs.getD k pfxE.dflt).addr), iI ((t.pools.xs.getD k pfxE.dflt).bits)] ⟨_, Try.underlying68, rfl, by kernel_rfl⟩ (S.e rfl) ((t_w.2.2.2.1).1.wcell k (by omega) _ rfl _ rfl)) ?_; clear S a; intro a S
  refine seq_new S rfl rfl (by decide) (fun b => pT b 0) (cs := [.int .u32 0, iI 0]) (x_allocz [.int .u32 0, iI 0] infoz_68 rfl) ?_
  clear S a; intro a w20 b26 hb26 hbs26 G K26 S; have hbl26 : b26 < w20.heap.size := by omega
  have TT := Tr.fresh C.ms hb26 hbl26 G
  replace t_w := Enc.tr (topoE) t_w TT
  replace K1 := Blk.tr0 K1 G
  replace GL0 := GL0.trans TT
  replace GL1 := GL1.trans TT
  replace GL2 := GL2.trans TT
  replace GL4 := GL4.trans TT
  replace C := C.trans TT
  clear TT G
  refine qa S rfl ?_; clear S a; intro a S
  refine seq_storew S rfl rfl (vs := [.int .u32 ((t.pools.xs.getD k pfxE.dflt).addr), iI ((t.pools.xs.getD k pfxE.dflt).bits)]) (x_storew (by kernel_rfl) (S.e rfl) (S.e rfl) rfl K26 rfl) K26 ?_
  clear S a; intro a w21 G hz K S; clear hz; have TT := Tr.och C.ms G
  replace t_w := Enc.tr (topoE) t_w TT
  replace K1 := Blk.tr K1 G (C.ms.sep.out 1 [0] rfl rfl rfl)
  replace GL0 := GL0.trans TT
  replace GL1 := GL1.trans TT
  replace GL2 := GL2.trans TT
  replace GL4 := GL4.trans TT
  replace C := C.trans TT
  clear K26; have K26 := K; clear K TT G
  refine qt ?_
  refine qs ?_
  refine qv S _ (x_loadw [.int .u32 ((t.pools.xs.getD k pfxE.dflt).addr), iI ((t.pools.xs.getD k pfxE.dflt).bits)] ⟨_, Try.underlying68, rfl, by kernel_rfl⟩ (S.e rfl) (K26.mid [] _ [] rfl _ rfl)) ?_; clear S a; intro a S
  refine seq_call S (by decide) (vs := #[.agg #[.int .u32 ((t.pools.xs.getD k pfxE.dflt).addr), iI ((t.pools.xs.getD k pfxE.dflt).bits)]]) rfl callable_83 (pValid _ (Ex F _) (C.old hF)  (MS.nil _) (t.pools.xs.getD k pfxE.dflt) ((pfxE).down0 ((t_w.2.2.2.1).1.wf k (by omega)))) ?_
  rintro e w22 ⟨rfl, T0⟩; refine ⟨_, rfl, ?_⟩; clear S a; intro a S
  have TT := Tr.framed0 C.ms T0; have G := T0.ch
  replace t_w := Enc.tr (topoE) t_w TT
  replace K1 := Blk.tr0 K1 G
  replace K26 := Blk.tr0 K26 G
  replace GL0 := GL0.trans TT
  replace GL1 := GL1.trans TT
  replace GL2 := GL2.trans TT
  replace GL4 := GL4.trans TT
  replace C := C.trans TT
  clear T0 G TT
  refine qv S (bD (¬ (pfxV (t.pools.xs.getD k pfxE.dflt)))) (x_notp (S.e rfl)) ?_; clear S a; intro a S
  refine qm S rfl ?_; clear S a; intro a S
  refine qg S 164 rfl (¬ (¬ (pfxV (t.pools.xs.getD k pfxE.dflt)))) gf (pT b1 (0 + 3)) (fun hg => (x_fld (z := 0) (0) 3 Try.underlying28 rfl rfl (by kernel_rfl) (S.e rfl))) ?_; clear S a; intro a S
  refine qg S 164 rfl (¬ (¬ (pfxV (t.pools.xs.getD k pfxE.dflt)))) gf (sV t.pools) (fun hg => (x_load ⟨_, Try.underlying26, rfl⟩ (S.p rfl hg) (K1.cell (j := 3) rfl))) ?_; clear S a; intro a S
  refine qg S 164 rfl (¬ (¬ (pfxV (t.pools.xs.getD k pfxE.dflt)))) gf (iN k) (fun hg => (x_move (S.e rfl))) ?_; clear S a; intro a S
  refine qg S 164 rfl (¬ (¬ (pfxV (t.pools.xs.getD k pfxE.dflt)))) gf (.slice t.pools.a ((t.pools.xs.take k).length) t.pools.c) (fun hg => (x_slhn Try.underlying26 infoz_68 (S.p rfl hg) (S.p rfl hg) k rfl (Nat.le_trans (by omega) (t_w.2.2.2.1).2.1) (t_w.2.2.2.1).2.2 _ (by rw [List.length_take]; omega))) ?_; clear S a; intro a S
  refine qg S 164 rfl (¬ (¬ (pfxV (t.pools.xs.getD k pfxE.dflt)))) gf (.func (.func 85) #[] #[pT b26 0]) (fun hg => (x_mkfn (cs := #[pT b26 0]) (by simp only [List.map_toArray, List.map_cons, List.map_nil, show a.eval (.tmp 12) = pT b26 0 from (S.e rfl)]))) ?_; clear S a; intro a S
  refine seq_gcall S (by decide) (gd := 164) (vs := #[.slice t.pools.a ((t.pools.xs.take k).length) t.pools.c, .func (.func 85) #[] #[pT b26 0]]) (v := bD (∃ x ∈ (t.pools.xs.take k), (fun x => meets (t.pools.xs.getD k pfxE.dflt) x) x)) rfl rfl (by decide) rfl (c := (¬ (¬ (pfxV (t.pools.xs.getD k pfxE.dflt))))) gf (fun hg => by simp only [List.map_toArray, List.map_cons, List.map_nil, show a.eval (.tmp 168) = .slice t.pools.a ((t.pools.xs.take k).length) t.pools.c from (S.p rfl hg), show a.eval (.tmp 169) = .func (.func 85) #[] #[pT b26 0] from (S.p rfl hg)]) callable_84 (fun hg => ((pContains _ (Ex F _) (C.old hF)  (MS.nil _) (Sl.mk t.pools.a t.pools.c (t.pools.xs.take k)) ((slE pfxE).down0 (sl_take t_w.2.2.2.1 k (by omega))) (fun x => meets (t.pools.xs.getD k pfxE.dflt) x) 85 #[pT b26 0] ⟨callable_85, fun w2 g i hi => tValid1 _ (Ex F _) ((C.trans (Tr.framed0 C.ms g)).old hF) (MS.nil _) ((t.pools.xs.take k).getD i pfxE.dflt) (pfxE.tr ((((slE pfxE).down0 (sl_take t_w.2.2.2.1 k (by omega)))).1.wf i hi) g) (t.pools.xs.getD k pfxE.dflt) (Enc.tr (pfxE) (show pfxE.wf _ _ (t.pools.xs.getD k pfxE.dflt) from ((pfxE).down0 ((t_w.2.2.2.1).1.wf k (by omega)))) g) b26 (Blk.tr0 K26 g.ch)⟩)).mono (fun _ _ h => ⟨h.1, h.2.ch⟩)) ?_
  clear S a; intro a w23 G S; have TT := Tr.of_ch0 C.ms G
  replace t_w := Enc.tr (topoE) t_w TT
  replace K1 := Blk.tr0 K1 G
  replace K26 := Blk.tr0 K26 G
  replace GL0 := GL0.trans TT
  replace GL1 := GL1.trans TT
  replace GL2 := GL2.trans TT
  replace GL4 := GL4.trans TT
  replace C := C.trans TT
  refine qv S (bD ((¬ (pfxV (t.pools.xs.getD k pfxE.dflt))) ∨ (∃ x ∈ (t.pools.xs.take k), (fun x => meets (t.pools.xs.getD k pfxE.dflt) x) x))) (x_or (S.e rfl) (S.e rfl) (S.p rfl)) ?_; clear S a; intro a S
  refine qt ?_
  refine cond_dec S rfl ?_ ?_
  ·intro hc19
   refine qs ?_
   refine qa S rfl ?_; clear S a; intro a S
   refine qt ?_
   refine wp_ret ?_
   refine blk_r ?_
   refine then_r ?_
   refine then_r ?_
   refine blk_r ?_
   refine then_r ?_
   refine ret1 rfl S rfl ?_
   have TD : Tr [one b26, one b1] w23 [] w23 := Tr.drop C.ms [] (by decide)
   have GD : Ch (In []) w23 w23 := Ch.refl _
   clear K1
   clear K26
   replace t_w := Enc.tr (topoE) t_w TD
   replace GL0 := GL0.trans TD
   replace GL1 := GL1.trans TD
   replace GL2 := GL2.trans TD
   replace GL4 := GL4.trans TD
   replace C := C.trans TD
   clear TD GD
   refine ⟨(r1 (vf ?_)), C⟩
   rintro ⟨_, _, _, _, _, h⟩; have := h k (by omega); unfold polAt at this; rcases hc19 with h1 | h1
   ·exact h1 this.1
   obtain ⟨j, hj, hm⟩ := (ex_take pfxE.dflt _ _ _ (by omega)).1 h1; exact this.2 j hj hm
  intro hc20
  refine wp_skip ?_
  refine blk_n ?_
  refine then_n ?_
  refine wp_region_lit ?_
  refine qv S (iN (k + 1)) (x_add (S.e rfl) (S.e rfl) (r := ((k + 1 : Nat) : Int)) (w_i64 (by omega))) ?_; clear S a; intro a S
  refine qm S rfl ?_; clear S a; intro a S
  refine wpList_nil ?_
  have TD : Tr [one b26, one b1] w23 [one b1] w23 := Tr.drop C.ms [1] (by decide)
  have GD : Ch (In []) w23 w23 := Ch.refl _
  clear K26
  replace t_w := Enc.tr (topoE) t_w TD
  replace K1 := Blk.tr0 K1 GD
  replace GL0 := GL0.trans TD
  replace GL1 := GL1.trans TD
  replace GL2 := GL2.trans TD
  replace GL4 := GL4.trans TD
  replace C := C.trans TD
  clear TD GD
  refine then_n ?_
  refine ⟨t.pools.xs.length - (k + 1), ?_, k + 1, S.sub ⟨rfl, rfl, rfl, rfl, trivial⟩, GL4, ?_, K1, rfl⟩
  ·omega
  refine ⟨by omega, fun j hj => ?_⟩
  rcases Nat.lt_succ_iff_lt_or_eq.1 hj with h | h
  ·exact hn j h
  subst h; simp only [not_or, Classical.not_not] at hc20; exact ⟨hc20.1, fun i hi hm => hc20.2 ((ex_take pfxE.dflt _ _ _ (by omega)).2 ⟨i, hi, hm⟩)⟩
 intro hc21
 refine wp_exit ?_
 refine then_e ?_
 refine then_e ?_
 refine blk_e ?_
 refine then_n ?_
 refine qs ?_
 refine qa S rfl ?_; clear S a; intro a S
 refine qt ?_
 refine wp_ret ?_
 refine ret1 rfl S rfl ?_
 have TD : Tr [one b1] w19 [] w19 := Tr.drop C.ms [] (by decide)
 have GD : Ch (In []) w19 w19 := Ch.refl _
 clear K1
 replace t_w := Enc.tr (topoE) t_w TD
 replace GL0 := GL0.trans TD
 replace GL1 := GL1.trans TD
 replace GL2 := GL2.trans TD
 replace GL4 := GL4.trans TD
 replace C := C.trans TD
 clear TD GD
 refine ⟨(r1 (vt ?_)), C⟩
 exact ⟨by unfold topB; omega, fun i hi => hna i (by omega), fun i hi => hnb i (by omega), fun i hi => (hnc i (by omega)).1, fun i hi => (hnc i (by omega)).2, fun i hi => hn i (by omega)⟩
end Go.Proofs.Ytfanmniaolncbaa.V
