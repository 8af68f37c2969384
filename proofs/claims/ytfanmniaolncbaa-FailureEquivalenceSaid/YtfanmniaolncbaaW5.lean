/- valid topologies: the reference -/
import Derived.Test.YtfanmniaolncbaaW4
namespace Go.Proofs.Ytfanmniaolncbaa.V
open Go.RowKit Go.Proofs.Ytfanmniaolncbaa
set_option linter.unusedVariables false
set_option linter.unusedSimpArgs false
set_option maxHeartbeats 2000000 in
set_option maxRecDepth 20000 in
theorem r11Device (w : World) (F : Nat → Prop) (hF : Old F w) (M : MS [] w) (t : Topo) (t_w : topoE.wf (Fr F []) w.heap t) (nm : ByteArray) (nm_h : inStr nm) :
 Calls Try.prog 108 #[tV t, .string nm] w fun e w' => e = .returned (iI (idxOf (fun x => decide (x.name = nm)) t.devs.xs)) ∧ Tr [] w [] w' := by
 have C : Tr [] w [] w := Tr.refl M
 have : t.devs.xs.length ≤ 9223372036854775807 := (t_w.1).1.len
 have : t.links.xs.length ≤ 9223372036854775807 := (t_w.2.1).1.len
 have : t.edges.xs.length ≤ 9223372036854775807 := (t_w.2.2.1).1.len
 have : t.pools.xs.length ≤ 9223372036854775807 := (t_w.2.2.2.1).1.len
 obtain ⟨_, _⟩ : inI64 t.tol := t_w.2.2.2.2
 refine enter Try.func108 rfl 22 rfl (Nat.le_of_ble_eq_true rfl) ?_
 intro a S
 refine qs ?_
 refine seq_new S rfl rfl (by decide) (fun b => pT b 0) (cs := (tL t)) (x_box (tL t) (S.e rfl) rfl) ?_
 clear S a; intro a w1 b1 hb1 hbs1 G K1 S; have hbl1 : b1 < w1.heap.size := by omega
 have TT := Tr.fresh C.ms hb1 hbl1 G
 replace t_w := Enc.tr (topoE) t_w TT
 replace C := C.trans TT
 clear TT G
 refine qa S rfl ?_; clear S a; intro a S
 refine qt ?_
 refine wp_seq ?_
 refine qs ?_
 refine qa S rfl ?_; clear S a; intro a S
 refine qt ?_
 refine wp_block ?_
 refine wp_loop_ghost (fun m a wr => ∃ k : Nat, Slots 22 [(1, .string nm), (2, pT b1 0), (5, iN k)] a ∧ Tr [one b1] w1 [one b1] wr ∧ (k ≤ t.devs.xs.length ∧ ∀ j, j < k → decide ((t.devs.xs.getD j devE.dflt).name = nm) = false) ∧ Blk wr.heap b1 (tL t) 28 ∧ (t.devs.xs.length - k) = m) (t.devs.xs.length - 0) ?_ ?_
 ·refine ⟨0, S.sub ⟨rfl, rfl, rfl, trivial⟩, Tr.refl C.ms, ?_, K1, rfl⟩
  exact ⟨Nat.zero_le _, fun j hj => by omega⟩
 rintro m a w2 ⟨k, S, G, hR, K1', rfl⟩
 clear K1; have K1 := K1'; clear K1'
 replace t_w := Enc.tr (topoE) t_w G
 replace C := C.trans G
 have GL0 := G; clear G
 obtain ⟨hk, hn⟩ := hR
 refine wp_seq ?_
 refine qs ?_
 refine qm S rfl ?_; clear S a; intro a S
 refine qv S (pT b1 (0 + 0)) (x_fld (z := 0) (0) 0 Try.underlying28 rfl rfl (by kernel_rfl) (S.e rfl)) ?_; clear S a; intro a S
 refine qv S (sV t.devs) (x_load ⟨_, Try.underlying23, rfl⟩ (S.e rfl) (K1.cell (j := 0) rfl)) ?_; clear S a; intro a S
 have hn2 : t.devs.xs.length ≤ 9223372036854775807 := (t_w.1).1.len
 refine qv S (iN t.devs.xs.length) (x_len Try.underlying23 (S.e rfl)) ?_; clear S a; intro a S
 refine qv S (bD (((k : Nat) : Int) < ((t.devs.xs.length : Nat) : Int))) (x_lss (S.e rfl) (S.e rfl)) ?_; clear S a; intro a S
 refine qt ?_
 refine cond_dec S rfl ?_ ?_
 ·intro hc0
  refine wp_skip ?_
  refine then_n ?_
  refine wp_seq ?_
  refine wp_block ?_
  refine qs ?_
  refine qv S (pT b1 (0 + 0)) (x_fld (z := 0) (0) 0 Try.underlying28 rfl rfl (by kernel_rfl) (S.e rfl)) ?_; clear S a; intro a S
  refine qv S (sV t.devs) (x_load ⟨_, Try.underlying23, rfl⟩ (S.e rfl) (K1.cell (j := 0) rfl)) ?_; clear S a; intro a S
  refine qm S rfl ?_; clear S a; intro a S
  refine qv S (pT (blk t.devs.a) (off t.devs.a + k * 5)) (x_idx Try.underlying23 (by kernel_rfl) (S.e rfl) (S.e rfl) k rfl (by omega) ((t_w.1).1.adr (i := k) (by omega))) ?_; clear S a; intro a S
  refine qv S (pT (blk t.devs.a) (off t.devs.a + k * 5 + 0)) (x_fld (z := 0) (off t.devs.a + k * 5) 0 Try.underlying65 rfl rfl (by kernel_rfl) (S.e rfl)) ?_; clear S a; intro a S
  refine qv S (.string ((t.devs.xs.getD k devE.dflt).name)) (x_load ⟨_, Try.underlying9, rfl⟩ (S.e rfl) ((t_w.1).1.cell k (by omega) 0 _ rfl)) ?_; clear S a; intro a S
  refine qm S rfl ?_; clear S a; intro a S
  refine qv S (bD ((t.devs.xs.getD k devE.dflt).name = nm)) (x_seql (S.e rfl) (S.e rfl)) ?_; clear S a; intro a S
  refine qt ?_
  refine cond_dec S rfl ?_ ?_
  ·intro hc1
   refine qs ?_
   refine qm S rfl ?_; clear S a; intro a S
   refine qa S rfl ?_; clear S a; intro a S
   refine qt ?_
   refine wp_ret ?_
   refine blk_r ?_
   refine then_r ?_
   refine then_r ?_
   refine blk_r ?_
   refine then_r ?_
   refine ret1 rfl S rfl ?_
   have TD : Tr [one b1] w2 [] w2 := Tr.drop C.ms [] (by decide)
   have GD : Ch (In []) w2 w2 := Ch.refl _
   clear K1
   replace t_w := Enc.tr (topoE) t_w TD
   replace GL0 := GL0.trans TD
   replace C := C.trans TD
   clear TD GD
   refine ⟨(r1 (vi ?_)), C⟩
   exact (idxOf_some (d := devE.dflt) (by omega) (decide_eq_true (by assumption)) hn).symm
  intro hc2
  refine wp_skip ?_
  refine blk_n ?_
  refine then_n ?_
  refine wp_region_lit ?_
  refine qm S rfl ?_; clear S a; intro a S
  refine qv S (iN (k + 1)) (x_add (S.e rfl) (S.e rfl) (r := ((k + 1 : Nat) : Int)) (w_i64 (by omega))) ?_; clear S a; intro a S
  refine qa S rfl ?_; clear S a; intro a S
  refine qt ?_
  refine ⟨t.devs.xs.length - (k + 1), ?_, k + 1, S.sub ⟨rfl, rfl, rfl, trivial⟩, GL0, ?_, K1, rfl⟩
  ·omega
  refine ⟨by omega, fun j hj => ?_⟩
  rcases Nat.lt_succ_iff_lt_or_eq.1 hj with h | h
  ·exact hn j h
  subst h; exact decide_eq_false (by assumption)
 intro hc3
 refine wp_exit ?_
 refine then_e ?_
 refine then_e ?_
 refine blk_e ?_
 refine then_n ?_
 refine qs ?_
 refine qa S rfl ?_; clear S a; intro a S
 refine qt ?_
 refine wp_ret ?_
 refine ret1 rfl S rfl ?_
 have TD : Tr [one b1] w2 [] w2 := Tr.drop C.ms [] (by decide)
 have GD : Ch (In []) w2 w2 := Ch.refl _
 clear K1
 replace t_w := Enc.tr (topoE) t_w TD
 replace GL0 := GL0.trans TD
 replace C := C.trans TD
 clear TD GD
 refine ⟨(r1 (vi ?_)), C⟩
 exact (idxOf_none (d := devE.dflt) (fun j hj => hn j (by omega))).symm
set_option maxHeartbeats 2000000 in
set_option maxRecDepth 20000 in
theorem r11Edge (w : World) (F : Nat → Prop) (hF : Old F w) (M : MS [] w) (t : Topo) (t_w : topoE.wf (Fr F []) w.heap t) (nm : ByteArray) (nm_h : inStr nm) :
 Calls Try.prog 88 #[tV t, .string nm] w fun e w' => e = .returned (iI (idxOf (fun x => decide (x.name = nm)) t.edges.xs)) ∧ Tr [] w [] w' := by
 have C : Tr [] w [] w := Tr.refl M
 have : t.devs.xs.length ≤ 9223372036854775807 := (t_w.1).1.len
 have : t.links.xs.length ≤ 9223372036854775807 := (t_w.2.1).1.len
 have : t.edges.xs.length ≤ 9223372036854775807 := (t_w.2.2.1).1.len
 have : t.pools.xs.length ≤ 9223372036854775807 := (t_w.2.2.2.1).1.len
 obtain ⟨_, _⟩ : inI64 t.tol := t_w.2.2.2.2
 refine enter Try.func88 rfl 22 rfl (Nat.le_of_ble_eq_true rfl) ?_
 intro a S
 refine qs ?_
 refine seq_new S rfl rfl (by decide) (fun b => pT b 0) (cs := (tL t)) (x_box (tL t) (S.e rfl) rfl) ?_
 clear S a; intro a w1 b1 hb1 hbs1 G K1 S; have hbl1 : b1 < w1.heap.size := by omega
 have TT := Tr.fresh C.ms hb1 hbl1 G
 replace t_w := Enc.tr (topoE) t_w TT
 replace C := C.trans TT
 clear TT G
 refine qa S rfl ?_; clear S a; intro a S
 refine qt ?_
 refine wp_seq ?_
 refine qs ?_
 refine qa S rfl ?_; clear S a; intro a S
 refine qt ?_
 refine wp_block ?_
 refine wp_loop_ghost (fun m a wr => ∃ k : Nat, Slots 22 [(1, .string nm), (2, pT b1 0), (5, iN k)] a ∧ Tr [one b1] w1 [one b1] wr ∧ (k ≤ t.edges.xs.length ∧ ∀ j, j < k → decide ((t.edges.xs.getD j edgE.dflt).name = nm) = false) ∧ Blk wr.heap b1 (tL t) 28 ∧ (t.edges.xs.length - k) = m) (t.edges.xs.length - 0) ?_ ?_
 ·refine ⟨0, S.sub ⟨rfl, rfl, rfl, trivial⟩, Tr.refl C.ms, ?_, K1, rfl⟩
  exact ⟨Nat.zero_le _, fun j hj => by omega⟩
 rintro m a w2 ⟨k, S, G, hR, K1', rfl⟩
 clear K1; have K1 := K1'; clear K1'
 replace t_w := Enc.tr (topoE) t_w G
 replace C := C.trans G
 have GL0 := G; clear G
 obtain ⟨hk, hn⟩ := hR
 refine wp_seq ?_
 refine qs ?_
 refine qm S rfl ?_; clear S a; intro a S
 refine qv S (pT b1 (0 + 2)) (x_fld (z := 0) (0) 2 Try.underlying28 rfl rfl (by kernel_rfl) (S.e rfl)) ?_; clear S a; intro a S
 refine qv S (sV t.edges) (x_load ⟨_, Try.underlying25, rfl⟩ (S.e rfl) (K1.cell (j := 2) rfl)) ?_; clear S a; intro a S
 have hn2 : t.edges.xs.length ≤ 9223372036854775807 := (t_w.2.2.1).1.len
 refine qv S (iN t.edges.xs.length) (x_len Try.underlying25 (S.e rfl)) ?_; clear S a; intro a S
 refine qv S (bD (((k : Nat) : Int) < ((t.edges.xs.length : Nat) : Int))) (x_lss (S.e rfl) (S.e rfl)) ?_; clear S a; intro a S
 refine qt ?_
 refine cond_dec S rfl ?_ ?_
 ·intro hc0
  refine wp_skip ?_
  refine then_n ?_
  refine wp_seq ?_
  refine wp_block ?_
  refine qs ?_
  refine qv S (pT b1 (0 + 2)) (x_fld (z := 0) (0) 2 Try.underlying28 rfl rfl (by kernel_rfl) (S.e rfl)) ?_; clear S a; intro a S
  refine qv S (sV t.edges) (x_load ⟨_, Try.underlying25, rfl⟩ (S.e rfl) (K1.cell (j := 2) rfl)) ?_; clear S a; intro a S
  refine qm S rfl ?_; clear S a; intro a S
  refine qv S (pT (blk t.edges.a) (off t.edges.a + k * 6)) (x_idx Try.underlying25 (by kernel_rfl) (S.e rfl) (S.e rfl) k rfl (by omega) ((t_w.2.2.1).1.adr (i := k) (by omega))) ?_; clear S a; intro a S
  refine qv S (pT (blk t.edges.a) (off t.edges.a + k * 6 + 0)) (x_fld (z := 0) (off t.edges.a + k * 6) 0 Try.underlying71 rfl rfl (by kernel_rfl) (S.e rfl)) ?_; clear S a; intro a S
  refine qv S (.string ((t.edges.xs.getD k edgE.dflt).name)) (x_load ⟨_, Try.underlying9, rfl⟩ (S.e rfl) ((t_w.2.2.1).1.cell k (by omega) 0 _ rfl)) ?_; clear S a; intro a S
  refine qm S rfl ?_; clear S a; intro a S
  refine qv S (bD ((t.edges.xs.getD k edgE.dflt).name = nm)) (x_seql (S.e rfl) (S.e rfl)) ?_; clear S a; intro a S
  refine qt ?_
  refine cond_dec S rfl ?_ ?_
  ·intro hc1
   refine qs ?_
   refine qm S rfl ?_; clear S a; intro a S
   refine qa S rfl ?_; clear S a; intro a S
   refine qt ?_
   refine wp_ret ?_
   refine blk_r ?_
   refine then_r ?_
   refine then_r ?_
   refine blk_r ?_
   refine then_r ?_
   refine ret1 rfl S rfl ?_
   have TD : Tr [one b1] w2 [] w2 := Tr.drop C.ms [] (by decide)
   have GD : Ch (In []) w2 w2 := Ch.refl _
   clear K1
   replace t_w := Enc.tr (topoE) t_w TD
   replace GL0 := GL0.trans TD
   replace C := C.trans TD
   clear TD GD
   refine ⟨(r1 (vi ?_)), C⟩
   exact (idxOf_some (d := edgE.dflt) (by omega) (decide_eq_true (by assumption)) hn).symm
  intro hc2
  refine wp_skip ?_
  refine blk_n ?_
  refine then_n ?_
  refine wp_region_lit ?_
  refine qm S rfl ?_; clear S a; intro a S
  refine qv S (iN (k + 1)) (x_add (S.e rfl) (S.e rfl) (r := ((k + 1 : Nat) : Int)) (w_i64 (by omega))) ?_; clear S a; intro a S
  refine qa S rfl ?_; clear S a; intro a S
  refine qt ?_
  refine ⟨t.edges.xs.length - (k + 1), ?_, k + 1, S.sub ⟨rfl, rfl, rfl, trivial⟩, GL0, ?_, K1, rfl⟩
  ·omega
  refine ⟨by omega, fun j hj => ?_⟩
  rcases Nat.lt_succ_iff_lt_or_eq.1 hj with h | h
  ·exact hn j h
  subst h; exact decide_eq_false (by assumption)
 intro hc3
 refine wp_exit ?_
 refine then_e ?_
 refine then_e ?_
 refine blk_e ?_
 refine then_n ?_
 refine qs ?_
 refine qa S rfl ?_; clear S a; intro a S
 refine qt ?_
 refine wp_ret ?_
 refine ret1 rfl S rfl ?_
 have TD : Tr [one b1] w2 [] w2 := Tr.drop C.ms [] (by decide)
 have GD : Ch (In []) w2 w2 := Ch.refl _
 clear K1
 replace t_w := Enc.tr (topoE) t_w TD
 replace GL0 := GL0.trans TD
 replace C := C.trans TD
 clear TD GD
 refine ⟨(r1 (vi ?_)), C⟩
 exact (idxOf_none (d := edgE.dflt) (fun j hj => hn j (by omega))).symm
set_option maxHeartbeats 2000000 in
set_option maxRecDepth 20000 in
theorem r11Fixed (w : World) (F : Nat → Prop) (hF : Old F w) (M : MS [] w) (t : Topo) (t_w : topoE.wf (Fr F []) w.heap t) (hle : t.edges.xs.length ≤ 12) :
 Calls Try.prog 89 #[tV t] w fun e w' => ∃ (ra : Option Addr) (rc : Nat), e = .returned (.slice ra ((fixedOf t.edges.xs).length) rc) ∧ (slE pfxE).wf (Fr F []) w'.heap (Sl.mk ra rc (fixedOf t.edges.xs)) ∧ Tr [] w [] w' := by
 have C : Tr [] w [] w := Tr.refl M
 have : t.devs.xs.length ≤ 9223372036854775807 := (t_w.1).1.len
 have : t.links.xs.length ≤ 9223372036854775807 := (t_w.2.1).1.len
 have : t.edges.xs.length ≤ 9223372036854775807 := (t_w.2.2.1).1.len
 have : t.pools.xs.length ≤ 9223372036854775807 := (t_w.2.2.2.1).1.len
 obtain ⟨_, _⟩ : inI64 t.tol := t_w.2.2.2.2
 refine enter Try.func89 rfl 29 rfl (Nat.le_of_ble_eq_true rfl) ?_
 intro a S
 refine qs ?_
 refine seq_new S rfl rfl (by decide) (fun b => pT b 0) (cs := (tL t)) (x_box (tL t) (S.e rfl) rfl) ?_
 clear S a; intro a w1 b1 hb1 hbs1 G K1 S; have hbl1 : b1 < w1.heap.size := by omega
 have TT := Tr.fresh C.ms hb1 hbl1 G
 replace t_w := Enc.tr (topoE) t_w TT
 replace C := C.trans TT
 clear TT G
 refine qa S rfl ?_; clear S a; intro a S
 refine qt ?_
 refine qs ?_
 refine qa S rfl ?_; clear S a; intro a S
 refine qt ?_
 refine wp_seq ?_
 refine qs ?_
 refine qa S rfl ?_; clear S a; intro a S
 refine qt ?_
 refine wp_block ?_
 have W2 := Row.nil pfxE 68 w.heap.size F [abk none, one b1] w1
 have TT : Tr [one b1] w1 [abk none, one b1] w1 := (Tr.refl C.ms).cons (b := abk none) (fun k e => absurd e abk_none); have G : Ch (In []) w1 w1 := Ch.refl _
 replace t_w := Enc.tr (topoE) t_w TT
 replace K1 := Blk.tr0 K1 G
 replace C := C.trans TT
 clear TT G
 refine wp_loop_ghost (fun m a wr => ∃ k : Nat, ∃ out_a : Option Addr, ∃ out_c : Nat, ∃ out : List Pfx, Slots 29 [(1, pT b1 0), (2, .slice none 0 0), (4, iN k), (3, .slice out_a out.length out_c)] a ∧ Tr [abk none, one b1] w1 [abk out_a, one b1] wr ∧ (k ≤ t.edges.xs.length ∧ out = fixedOf (t.edges.xs.take k)) ∧ Blk wr.heap b1 (tL t) 28 ∧ Row pfxE 68 w.heap.size F [abk out_a, one b1] wr out_a out_c out ∧ (t.edges.xs.length - k) = m) (t.edges.xs.length - 0) ?_ ?_
 ·refine ⟨0, none, 0, [], S.sub ⟨rfl, rfl, rfl, rfl, trivial⟩, Tr.refl C.ms, ?_, K1, W2, rfl⟩
  exact ⟨Nat.zero_le _, rfl⟩
 rintro m a w2 ⟨k, out_a, out_c, out, S, G, hR, K1', W2', rfl⟩
 clear K1; have K1 := K1'; clear K1'
 clear W2; have W2 := W2'; clear W2'
 replace t_w := Enc.tr (topoE) t_w G
 replace C := C.trans G
 have GL0 := G; clear G
 have out_len := W2.len_le; simp only [maxLen] at out_len
 obtain ⟨hk, ho⟩ := hR
 have hol : out.length ≤ 12 := by (rw [ho]; have := fixed_len (t.edges.xs.take k); rw [List.length_take] at this; omega)
 refine wp_seq ?_
 refine qs ?_
 refine qm S rfl ?_; clear S a; intro a S
 refine qv S (pT b1 (0 + 2)) (x_fld (z := 0) (0) 2 Try.underlying28 rfl rfl (by kernel_rfl) (S.e rfl)) ?_; clear S a; intro a S
 refine qv S (sV t.edges) (x_load ⟨_, Try.underlying25, rfl⟩ (S.e rfl) (K1.cell (j := 2) rfl)) ?_; clear S a; intro a S
 have hn3 : t.edges.xs.length ≤ 9223372036854775807 := (t_w.2.2.1).1.len
 refine qv S (iN t.edges.xs.length) (x_len Try.underlying25 (S.e rfl)) ?_; clear S a; intro a S
 refine qv S (bD (((k : Nat) : Int) < ((t.edges.xs.length : Nat) : Int))) (x_lss (S.e rfl) (S.e rfl)) ?_; clear S a; intro a S
 refine qt ?_
 refine cond_dec S rfl ?_ ?_
 ·intro hc0
  refine wp_skip ?_
  refine then_n ?_
  refine wp_seq ?_
  refine wp_block ?_
  refine qs ?_
  refine qv S (pT b1 (0 + 2)) (x_fld (z := 0) (0) 2 Try.underlying28 rfl rfl (by kernel_rfl) (S.e rfl)) ?_; clear S a; intro a S
  refine qv S (sV t.edges) (x_load ⟨_, Try.underlying25, rfl⟩ (S.e rfl) (K1.cell (j := 2) rfl)) ?_; clear S a; intro a S
  refine qm S rfl ?_; clear S a; intro a S
  refine qv S (pT (blk t.edges.a) (off t.edges.a + k * 6)) (x_idx Try.underlying25 (by kernel_rfl) (S.e rfl) (S.e rfl) k rfl (by omega) ((t_w.2.2.1).1.adr (i := k) (by omega))) ?_; clear S a; intro a S
  refine qv S (pT (blk t.edges.a) (off t.edges.a + k * 6 + 5)) (x_fld (z := 0) (off t.edges.a + k * 6) 5 Try.underlying71 rfl rfl (by kernel_rfl) (S.e rfl)) ?_; clear S a; intro a S
  refine qv S (bD ((t.edges.xs.getD k edgE.dflt).planned = true)) (x_load ⟨_, Try.underlying4, rfl⟩ (S.e rfl) ((t_w.2.2.1).1.cell k (by omega) 5 _ rfl)) ?_; clear S a; intro a S
  refine qv S (bD (¬ ((t.edges.xs.getD k edgE.dflt).planned = true))) (x_notp (S.e rfl)) ?_; clear S a; intro a S
  refine qt ?_
  refine cond_dec S rfl ?_ ?_
  ·intro hc1
   refine wp_region_lit ?_
   refine qm S rfl ?_; clear S a; intro a S
   refine qv S (pT b1 (0 + 2)) (x_fld (z := 0) (0) 2 Try.underlying28 rfl rfl (by kernel_rfl) (S.e rfl)) ?_; clear S a; intro a S
   refine qv S (sV t.edges) (x_load ⟨_, Try.underlying25, rfl⟩ (S.e rfl) (K1.cell (j := 2) rfl)) ?_; clear S a; intro a S
   refine qm S rfl ?_; clear S a; intro a S
   refine qv S (pT (blk t.edges.a) (off t.edges.a + k * 6)) (x_idx Try.underlying25 (by kernel_rfl) (S.e rfl) (S.e rfl) k rfl (by omega) ((t_w.2.2.1).1.adr (i := k) (by omega))) ?_; clear S a; intro a S
   refine qv S (pT (blk t.edges.a) (off t.edges.a + k * 6 + 3)) (x_fld (z := 1) (off t.edges.a + k * 6) 3 Try.underlying71 rfl rfl (by kernel_rfl) (S.e rfl)) ?_; clear S a; intro a S
   obtain ⟨hl4, hu4⟩ : inU32 ((t.edges.xs.getD k edgE.dflt).pfx.addr) := id (((t_w.2.2.1).1.wf k (by omega)).2.2.2.1.1)
   obtain ⟨hl5, hu5⟩ : inI64 ((t.edges.xs.getD k edgE.dflt).pfx.bits) := id (((t_w.2.2.1).1.wf k (by omega)).2.2.2.1.2)
   refine qv S _ (x_loadw [.int .u32 ((t.edges.xs.getD k edgE.dflt).pfx.addr), iI ((t.edges.xs.getD k edgE.dflt).pfx.bits)] ⟨_, Try.underlying68, rfl, by kernel_rfl⟩ (S.e rfl) ((t_w.2.2.1).1.mcell k (by omega) [.string ((t.edges.xs.getD k edgE.dflt).name), iI ((t.edges.xs.getD k edgE.dflt).dev), .string ((t.edges.xs.getD k edgE.dflt).zone)] [.int .u32 ((t.edges.xs.getD k edgE.dflt).pfx.addr), iI ((t.edges.xs.getD k edgE.dflt).pfx.bits)] [bD ((t.edges.xs.getD k edgE.dflt).planned = true)] rfl _ rfl)) ?_; clear S a; intro a S
   refine seq_new S rfl rfl (by decide) (fun b => .slice (some ⟨b, 0, none⟩) 1 1) (cs := [.int .u32 ((t.edges.xs.getD k edgE.dflt).pfx.addr), iI ((t.edges.xs.getD k edgE.dflt).pfx.bits)]) (x_bsl [(0, .agg #[.int .u32 ((t.edges.xs.getD k edgE.dflt).pfx.addr), iI ((t.edges.xs.getD k edgE.dflt).pfx.bits)])] [.int .u32 ((t.edges.xs.getD k edgE.dflt).pfx.addr), iI ((t.edges.xs.getD k edgE.dflt).pfx.bits)] Try.underlying26 infoz_68 (by decide) (by decide) (by simp only [List.map_cons, List.map_nil, show a.eval (.tmp 25) = .agg #[.int .u32 ((t.edges.xs.getD k edgE.dflt).pfx.addr), iI ((t.edges.xs.getD k edgE.dflt).pfx.bits)] from (S.e rfl)]) (by kernel_rfl)) ?_
   clear S a; intro a w3 b6 hb6 hbs6 G K6 S; have hbl6 : b6 < w3.heap.size := by omega
   have we6_0 : pfxE.wf (Fr F [abk out_a, one b1]) w2.heap (t.edges.xs.getD k edgE.dflt).pfx := ⟨((t_w.2.2.1).1.wf k (by omega)).2.2.2.1.1, ((t_w.2.2.1).1.wf k (by omega)).2.2.2.1.2⟩
   have hfr6 := fr_fresh C hF hb6; have TT := Tr.of_ch0 C.ms G
   replace t_w := Enc.tr (topoE) t_w TT
   replace K1 := Blk.tr0 K1 G
   replace W2 := Row.tr0 W2 TT G
   replace GL0 := GL0.trans TT
   replace C := C.trans TT
   have KS6 : (slE pfxE).wf (Fr F [abk out_a, one b1]) w3.heap ⟨some ⟨b6, 0, none⟩, 1, [(t.edges.xs.getD k edgE.dflt).pfx]⟩ := sl_of_blk K6 [(t.edges.xs.getD k edgE.dflt).pfx] 1 rfl (by decide) (by decide) rfl hfr6 (by intro x hx; simp only [List.mem_cons, List.not_mem_nil, or_false] at hx; subst hx; exact Enc.tr (pfxE) we6_0 TT)
   clear K6 hfr6 TT G we6_0
   refine seq_op rfl (op_append (E := pfxE) [] [one b1] (.tmp 19) (.tmp 26) 26 rfl zero_68 16 Try.underlying26 infoz_68 rfl (by decide) rfl C.ms (S.e rfl) W2 ([(t.edges.xs.getD k edgE.dflt).pfx]) (some ⟨b6, 0, none⟩) 1 (S.e rfl) (show LAt pfxE _ _ (some ⟨b6, 0, none⟩) ([(t.edges.xs.getD k edgE.dflt).pfx]) from (KS6).1) (KS6).2.2 (LAt.mem (show LAt pfxE _ _ (some ⟨b6, 0, none⟩) ([(t.edges.xs.getD k edgE.dflt).pfx]) from (KS6).1)) (by unfold maxLen; (try simp only [List.length_cons, List.length_nil, List.length_append, List.length_map]); omega) (by (try simp only [List.length_cons, List.length_nil, List.length_append, List.length_map]); omega) (C.size) ?_)
   intro ad7 cap7 w4 Rn TT G
   have S1 := S.put (d := 27) (v := .slice ad7 (out ++ [(t.edges.xs.getD k edgE.dflt).pfx]).length cap7) (by decide); clear S; revert S1; generalize Act.put a _ _ = a1; intro S; clear a; rename Act => a
   replace TT : Tr [abk out_a, one b1] w3 [abk ad7, one b1] w4 := TT; replace Rn : Row pfxE 68 w.heap.size F [abk ad7, one b1] w4 ad7 cap7 (out ++ [(t.edges.xs.getD k edgE.dflt).pfx]) := Rn
   replace t_w := Enc.tr (topoE) t_w TT
   replace K1 := Blk.tr K1 G (C.ms.sep.out 1 [0] rfl rfl rfl)
   replace KS6 := Enc.tr (slE pfxE) KS6 TT
   replace GL0 := GL0.trans TT
   replace C := C.trans TT
   clear W2; have W2 := Rn; clear Rn TT G
   refine qa S rfl ?_; clear S a; intro a S
   refine wpList_nil ?_
   refine blk_n ?_
   refine then_n ?_
   refine wp_region_lit ?_
   refine qm S rfl ?_; clear S a; intro a S
   refine qv S (iN (k + 1)) (x_add (S.e rfl) (S.e rfl) (r := ((k + 1 : Nat) : Int)) (w_i64 (by omega))) ?_; clear S a; intro a S
   refine qa S rfl ?_; clear S a; intro a S
   refine qt ?_
   refine ⟨t.edges.xs.length - (k + 1), ?_, k + 1, ad7, cap7, (out ++ [(t.edges.xs.getD k edgE.dflt).pfx]), S.sub ⟨rfl, rfl, rfl, (by first | rfl | (simp only [List.length_set]; rfl)), trivial⟩, GL0, ?_, K1, W2, rfl⟩
   ·omega
   refine ⟨by omega, ?_⟩
   rw [fixed_snoc _ _ (by omega), ← ho]; first | rw [if_neg hc1] | (rw [if_pos (Classical.not_not.1 hc1)])
  intro hc2
  refine wp_skip ?_
  refine blk_n ?_
  refine then_n ?_
  refine wp_region_lit ?_
  refine qm S rfl ?_; clear S a; intro a S
  refine qv S (iN (k + 1)) (x_add (S.e rfl) (S.e rfl) (r := ((k + 1 : Nat) : Int)) (w_i64 (by omega))) ?_; clear S a; intro a S
  refine qa S rfl ?_; clear S a; intro a S
  refine qt ?_
  refine ⟨t.edges.xs.length - (k + 1), ?_, k + 1, out_a, out_c, out, S.sub ⟨rfl, rfl, rfl, (by first | rfl | (simp only [List.length_set]; rfl)), trivial⟩, GL0, ?_, K1, W2, rfl⟩
  ·omega
  refine ⟨by omega, ?_⟩
  rw [fixed_snoc _ _ (by omega), ← ho]; first | rw [if_neg hc2] | (rw [if_pos (Classical.not_not.1 hc2)])
 intro hc3
 refine wp_exit ?_
 refine then_e ?_
 refine then_e ?_
 refine blk_e ?_
 refine then_n ?_
 refine qs ?_
 refine qm S rfl ?_; clear S a; intro a S
 refine qa S rfl ?_; clear S a; intro a S
 refine qt ?_
 refine wp_ret ?_
 have FW2 := Row.freeze (pre := []) (post := [one b1]) rfl C.ms W2 (by first | decide | exact Nat.one_pos) (W2.notF hF (Nat.le_refl _))
 have TF := Tr.leave (pre := []) (o := abk out_a) (post := [one b1]) C.ms
 have GF : Ch (In []) w2 w2 := Ch.refl _
 replace t_w := Enc.tr (topoE) t_w TF
 replace K1 := Blk.tr0 K1 GF
 replace GL0 := GL0.trans TF
 replace C := C.trans TF
 replace FW2 : (slE pfxE).wf (Fr F [one b1]) w2.heap ⟨out_a, out_c, out⟩ := FW2; clear W2
 refine ret1 rfl S rfl ?_
 have TD : Tr [one b1] w2 [] w2 := Tr.drop C.ms [] (by decide)
 have GD : Ch (In []) w2 w2 := Ch.refl _
 clear K1
 replace t_w := Enc.tr (topoE) t_w TD
 replace FW2 := Enc.tr (slE pfxE) FW2 TD
 replace GL0 := GL0.trans TD
 replace C := C.trans TD
 clear TD GD
 have hx8 : fixedOf t.edges.xs = out := by
  rw [ho, show k = t.edges.xs.length from by omega, List.take_length]
 rw [hx8]
 refine ⟨out_a, out_c, rfl, FW2, C⟩
set_option maxHeartbeats 2000000 in
set_option maxRecDepth 20000 in
theorem r11meets (w : World) (F : Nat → Prop) (hF : Old F w) (M : MS [] w) (p : Pfx) (p_w : pfxE.wf (Fr F []) w.heap p) (l : Sl Pfx) (l_w : (slE pfxE).wf (Fr F []) w.heap l) :
 Calls Try.prog 90 #[.agg #[.int .u32 p.addr, iI p.bits], sV l] w fun e w' => e = .returned (bD (∃ q ∈ l.xs, meets p q)) ∧ Tr [] w [] w' := by
 have C : Tr [] w [] w := Tr.refl M
 obtain ⟨_, _⟩ : inU32 p.addr := p_w.1
 obtain ⟨_, _⟩ : inI64 p.bits := p_w.2
 have : l.xs.length ≤ 9223372036854775807 := (l_w).1.len
 refine enter Try.func90 rfl 18 rfl (Nat.le_of_ble_eq_true rfl) ?_
 intro a S
 refine qs ?_
 refine seq_new S rfl rfl (by decide) (fun b => pT b 0) (cs := [.int .u32 p.addr, iI p.bits]) (x_box [.int .u32 p.addr, iI p.bits] (S.e rfl) rfl) ?_
 clear S a; intro a w1 b1 hb1 hbs1 G K1 S; have hbl1 : b1 < w1.heap.size := by omega
 have TT := Tr.fresh C.ms hb1 hbl1 G
 replace p_w := Enc.tr (pfxE) p_w TT
 replace l_w := Enc.tr (slE pfxE) l_w TT
 replace C := C.trans TT
 clear TT G
 refine qa S rfl ?_; clear S a; intro a S
 refine qt ?_
 refine wp_seq ?_
 refine qs ?_
 refine qa S rfl ?_; clear S a; intro a S
 refine qt ?_
 refine wp_block ?_
 refine wp_loop_ghost (fun m a wr => ∃ k : Nat, Slots 18 [(1, sV l), (2, pT b1 0), (5, iN k)] a ∧ Tr [one b1] w1 [one b1] wr ∧ (k ≤ l.xs.length ∧ ∀ j, j < k → ¬ meets p (l.xs.getD j pfxE.dflt)) ∧ Blk wr.heap b1 [.int .u32 p.addr, iI p.bits] 68 ∧ (l.xs.length - k) = m) (l.xs.length - 0) ?_ ?_
 ·refine ⟨0, S.sub ⟨rfl, rfl, rfl, trivial⟩, Tr.refl C.ms, ?_, K1, rfl⟩
  exact ⟨Nat.zero_le _, fun j hj => by omega⟩
 rintro m a w2 ⟨k, S, G, hR, K1', rfl⟩
 clear K1; have K1 := K1'; clear K1'
 replace p_w := Enc.tr (pfxE) p_w G
 replace l_w := Enc.tr (slE pfxE) l_w G
 replace C := C.trans G
 have GL0 := G; clear G
 obtain ⟨hk, hn⟩ := hR
 refine wp_seq ?_
 refine qs ?_
 refine qm S rfl ?_; clear S a; intro a S
 refine qm S rfl ?_; clear S a; intro a S
 have hn2 : l.xs.length ≤ 9223372036854775807 := (l_w).1.len
 refine qv S (iN l.xs.length) (x_len Try.underlying26 (S.e rfl)) ?_; clear S a; intro a S
 refine qv S (bD (((k : Nat) : Int) < ((l.xs.length : Nat) : Int))) (x_lss (S.e rfl) (S.e rfl)) ?_; clear S a; intro a S
 refine qt ?_
 refine cond_dec S rfl ?_ ?_
 ·intro hc0
  refine wp_skip ?_
  refine then_n ?_
  refine wp_seq ?_
  refine wp_block ?_
  refine wp_seq ?_
  replace S := S.sub (L' := [(1, sV l), (2, pT b1 0), (5, iN k), (6, iN k), (7, sV l), (8, iN l.xs.length), (9, bD (((k : Nat) : Int) < ((l.xs.length : Nat) : Int)))]) ⟨rfl, rfl, rfl, rfl, rfl, rfl, rfl, trivial⟩
  refine wp_heads (M := In []) S 6 [(12, iV (.agg #[.int .u32 p.addr, iI p.bits])), (13, iV (sV l)), (14, iV (iN k)), (15, iV (pT (blk l.a) (off l.a + k * 2))), (16, iV (.agg #[.int .u32 ((l.xs.getD k pfxE.dflt).addr), iI ((l.xs.getD k pfxE.dflt).bits)])), (17, iV (bD (meets p (l.xs.getD k pfxE.dflt))))] (fun w => True) [[], [], [], [13, 14], [15], [12, 16]] [17] _ rfl mixed (by kernel_rfl) rfl trivial ?_ ?_
  ·refine ⟨?_, ?_, ?_, ?_, ?_, ?_, trivial⟩
   ·intro a w3 G I S hE
    have TT := Tr.of_ch C.ms G (fun _ h => by simp at h)
    replace p_w := Enc.tr (pfxE) p_w TT
    replace K1 := Blk.tr0 K1 G
    replace C := C.trans TT
    exact qo (.agg #[.int .u32 p.addr, iI p.bits]) (x_loadw [.int .u32 p.addr, iI p.bits] ⟨_, Try.underlying68, rfl, by kernel_rfl⟩ (S.e rfl) (K1.mid [] [.int .u32 p.addr, iI p.bits] [] rfl _ rfl)) I
   ·intro a w4 G I S hE
    have TT := Tr.of_ch C.ms G (fun _ h => by simp at h)
    replace l_w := Enc.tr (slE pfxE) l_w TT
    replace C := C.trans TT
    exact qo (sV l) (x_move (S.e rfl)) I
   ·intro a w5 G I S hE
    have TT := Tr.of_ch C.ms G (fun _ h => by simp at h)
    replace C := C.trans TT
    exact qo (iN k) (x_move (S.e rfl)) I
   ·intro a w6 G I S hE
    have TT := Tr.of_ch C.ms G (fun _ h => by simp at h)
    replace l_w := Enc.tr (slE pfxE) l_w TT
    replace C := C.trans TT
    obtain ⟨e13, e14, _⟩ := hE
    replace S := S.ext e13
    replace S := S.ext e14
    exact qo (pT (blk l.a) (off l.a + k * 2)) (x_idx Try.underlying26 (by kernel_rfl) (S.e rfl) (S.e rfl) k rfl (by omega) ((l_w).1.adr (i := k) (by omega))) I
   ·intro a w7 G I S hE
    have TT := Tr.of_ch C.ms G (fun _ h => by simp at h)
    replace l_w := Enc.tr (slE pfxE) l_w TT
    replace C := C.trans TT
    obtain ⟨e15, _⟩ := hE
    replace S := S.ext e15
    obtain ⟨hl3, hu3⟩ : inU32 ((l.xs.getD k pfxE.dflt).addr) := id (((l_w).1.wf k (by omega)).1)
    obtain ⟨hl4, hu4⟩ : inI64 ((l.xs.getD k pfxE.dflt).bits) := id (((l_w).1.wf k (by omega)).2)
    exact qo (.agg #[.int .u32 ((l.xs.getD k pfxE.dflt).addr), iI ((l.xs.getD k pfxE.dflt).bits)]) (x_loadw [.int .u32 ((l.xs.getD k pfxE.dflt).addr), iI ((l.xs.getD k pfxE.dflt).bits)] ⟨_, Try.underlying68, rfl, by kernel_rfl⟩ (S.e rfl) ((l_w).1.wcell k (by omega) _ rfl _ rfl)) I
   intro a w8 G I S hE
   have TT := Tr.of_ch C.ms G (fun _ h => by simp at h)
   replace p_w := Enc.tr (pfxE) p_w TT
   replace l_w := Enc.tr (slE pfxE) l_w TT
   replace C := C.trans TT
   obtain ⟨e12, e16, _⟩ := hE
   replace S := S.ext e12
   replace S := S.ext e16
   refine head_op rfl rfl (op_call (vs := #[.agg #[.int .u32 p.addr, iI p.bits], .agg #[.int .u32 ((l.xs.getD k pfxE.dflt).addr), iI ((l.xs.getD k pfxE.dflt).bits)]]) (by simp only [List.map_toArray, List.map_cons, List.map_nil, show a.eval (.tmp 12) = .agg #[.int .u32 p.addr, iI p.bits] from (S.e rfl), show a.eval (.tmp 16) = .agg #[.int .u32 ((l.xs.getD k pfxE.dflt).addr), iI ((l.xs.getD k pfxE.dflt).bits)] from (S.e rfl)]) callable_109 (rMeet _ (Ex F _) (C.old hF)  (MS.nil _) p ((pfxE).down0 p_w) (l.xs.getD k pfxE.dflt) ((pfxE).down0 ((l_w).1.wf k (by omega)))) ?_)
   rintro e w2 ⟨rfl, T0⟩; exact ⟨_, rfl, Done.mk' rfl (by decide) (show _ = _ from rfl) T0.ch trivial⟩
  clear S a; intro a w9 G I S hE; have TT := Tr.of_ch C.ms G (fun _ h => by simp at h)
  replace p_w := Enc.tr (pfxE) p_w TT
  replace l_w := Enc.tr (slE pfxE) l_w TT
  replace K1 := Blk.tr0 K1 G
  replace GL0 := GL0.trans TT
  replace C := C.trans TT
  clear TT G
  obtain ⟨e17, -⟩ := hE
  replace S := S.ext e17
  clear e17
  refine qt ?_
  refine cond_dec S rfl ?_ ?_
  ·intro hc1
   refine qs ?_
   refine qa S rfl ?_; clear S a; intro a S
   refine qt ?_
   refine wp_ret ?_
   refine blk_r ?_
   refine then_r ?_
   refine then_r ?_
   refine blk_r ?_
   refine then_r ?_
   refine ret1 rfl S rfl ?_
   have TD : Tr [one b1] w9 [] w9 := Tr.drop C.ms [] (by decide)
   have GD : Ch (In []) w9 w9 := Ch.refl _
   clear K1
   replace p_w := Enc.tr (pfxE) p_w TD
   replace l_w := Enc.tr (slE pfxE) l_w TD
   replace GL0 := GL0.trans TD
   replace C := C.trans TD
   clear TD GD
   refine ⟨(r1 (vt ?_)), C⟩
   exact (ex_getD pfxE.dflt _ _).2 ⟨k, by omega, by assumption⟩
  intro hc2
  refine wp_skip ?_
  refine blk_n ?_
  refine then_n ?_
  refine wp_region_lit ?_
  refine qm S rfl ?_; clear S a; intro a S
  refine qv S (iN (k + 1)) (x_add (S.e rfl) (S.e rfl) (r := ((k + 1 : Nat) : Int)) (w_i64 (by omega))) ?_; clear S a; intro a S
  refine qa S rfl ?_; clear S a; intro a S
  refine qt ?_
  refine ⟨l.xs.length - (k + 1), ?_, k + 1, S.sub ⟨rfl, rfl, rfl, trivial⟩, GL0, ?_, K1, rfl⟩
  ·omega
  refine ⟨by omega, fun j hj => ?_⟩
  rcases Nat.lt_succ_iff_lt_or_eq.1 hj with h | h
  ·exact hn j h
  subst h; assumption
 intro hc3
 refine wp_exit ?_
 refine then_e ?_
 refine then_e ?_
 refine blk_e ?_
 refine then_n ?_
 refine qs ?_
 refine qa S rfl ?_; clear S a; intro a S
 refine qt ?_
 refine wp_ret ?_
 refine ret1 rfl S rfl ?_
 have TD : Tr [one b1] w2 [] w2 := Tr.drop C.ms [] (by decide)
 have GD : Ch (In []) w2 w2 := Ch.refl _
 clear K1
 replace p_w := Enc.tr (pfxE) p_w TD
 replace l_w := Enc.tr (slE pfxE) l_w TD
 replace GL0 := GL0.trans TD
 replace C := C.trans TD
 clear TD GD
 refine ⟨(r1 (vf ?_)), C⟩
 intro h; obtain ⟨j, hj, hm⟩ := (ex_getD pfxE.dflt _ _).1 h; exact hn j (by omega) hm
set_option maxHeartbeats 2000000 in
set_option maxRecDepth 20000 in
theorem r11vDevs (w : World) (F : Nat → Prop) (hF : Old F w) (M : MS [] w) (l : Sl Dev) (l_w : (slE devE).wf (Fr F []) w.heap l) :
 Calls Try.prog 86 #[sV l] w fun e w' => e = .returned (bD (devsOk l.xs)) ∧ Tr [] w [] w' := by
 have C : Tr [] w [] w := Tr.refl M
 have : l.xs.length ≤ 9223372036854775807 := (l_w).1.len
 refine enter Try.func86 rfl 70 rfl (Nat.le_of_ble_eq_true rfl) ?_
 intro a S
 refine qs ?_
 refine qa S rfl ?_; clear S a; intro a S
 refine qt ?_
 refine wp_seq ?_
 refine qs ?_
 refine qm S rfl ?_; clear S a; intro a S
 have hn1 : l.xs.length ≤ 9223372036854775807 := (l_w).1.len
 refine qv S (iN l.xs.length) (x_len Try.underlying23 (S.e rfl)) ?_; clear S a; intro a S
 refine qv S (bD (((l.xs.length : Nat) : Int) < 1)) (x_lss (S.e rfl) (S.e rfl)) ?_; clear S a; intro a S
 refine qm S rfl ?_; clear S a; intro a S
 refine qg S 7 rfl (¬ (((l.xs.length : Nat) : Int) < 1)) gf (sV l) (fun hg => (x_move (S.e rfl))) ?_; clear S a; intro a S
 refine qg S 7 rfl (¬ (((l.xs.length : Nat) : Int) < 1)) gf (iN l.xs.length) (fun hg => (x_len Try.underlying23 (S.p rfl hg))) ?_; clear S a; intro a S
 refine qg S 7 rfl (¬ (((l.xs.length : Nat) : Int) < 1)) gf (bD (12 < ((l.xs.length : Nat) : Int))) (fun hg => (x_gtr (S.p rfl hg) (S.e rfl))) ?_; clear S a; intro a S
 refine qv S (bD ((((l.xs.length : Nat) : Int) < 1) ∨ (12 < ((l.xs.length : Nat) : Int)))) (x_or (S.e rfl) (S.e rfl) (S.p rfl)) ?_; clear S a; intro a S
 refine qt ?_
 refine cond_dec S rfl ?_ ?_
 ·intro hc0
  refine qs ?_
  refine qa S rfl ?_; clear S a; intro a S
  refine qt ?_
  refine wp_ret ?_
  refine then_r ?_
  refine ret1 rfl S rfl ?_
  refine ⟨(r1 (vf ?_)), C⟩
  unfold devsOk; rintro ⟨h, _⟩; omega
 intro hc1
 refine wp_skip ?_
 refine then_n ?_
 refine wp_seq ?_
 refine qs ?_
 refine qa S rfl ?_; clear S a; intro a S
 refine qt ?_
 refine wp_block ?_
 refine wp_loop_ghost (fun m a wr => ∃ k : Nat, Slots 70 [(0, sV l), (3, iN k)] a ∧ Tr [] w [] wr ∧ (k ≤ l.xs.length ∧ ∀ j, j < k → devAt l.xs j) ∧ (l.xs.length - k) = m) (l.xs.length - 0) ?_ ?_
 ·refine ⟨0, S.sub ⟨rfl, rfl, trivial⟩, Tr.refl C.ms, ?_, rfl⟩
  exact ⟨Nat.zero_le _, fun j hj => by omega⟩
 rintro m a w1 ⟨k, S, G, hR, rfl⟩
 replace l_w := Enc.tr (slE devE) l_w G
 replace C := C.trans G
 have GL0 := G; clear G
 obtain ⟨hk, hn⟩ := hR
 refine wp_seq ?_
 refine qs ?_
 refine qm S rfl ?_; clear S a; intro a S
 refine qm S rfl ?_; clear S a; intro a S
 refine qv S (iN l.xs.length) (x_len Try.underlying23 (S.e rfl)) ?_; clear S a; intro a S
 refine qv S (bD (((k : Nat) : Int) < ((l.xs.length : Nat) : Int))) (x_lss (S.e rfl) (S.e rfl)) ?_; clear S a; intro a S
 refine qt ?_
 refine cond_dec S rfl ?_ ?_
 ·intro hc2
  refine wp_skip ?_
  refine then_n ?_
  refine wp_seq ?_
  refine wp_block ?_
  refine qs ?_
  refine qm S rfl ?_; clear S a; intro a S
  refine qm S rfl ?_; clear S a; intro a S
  refine qv S (pT (blk l.a) (off l.a + k * 5)) (x_idx Try.underlying23 (by kernel_rfl) (S.e rfl) (S.e rfl) k rfl (by omega) ((l_w).1.adr (i := k) (by omega))) ?_; clear S a; intro a S
  refine qv S (pT (blk l.a) (off l.a + k * 5 + 0)) (x_fld (z := 0) (off l.a + k * 5) 0 Try.underlying65 rfl rfl (by kernel_rfl) (S.e rfl)) ?_; clear S a; intro a S
  refine qv S (.string ((l.xs.getD k devE.dflt).name)) (x_load ⟨_, Try.underlying9, rfl⟩ (S.e rfl) ((l_w).1.cell k (by omega) 0 _ rfl)) ?_; clear S a; intro a S
  refine seq_call S (by decide) (vs := #[.string ((l.xs.getD k devE.dflt).name)]) rfl callable_107 (rName _ (Ex F _) (C.old hF)  (MS.nil _) ((l.xs.getD k devE.dflt).name) ((l_w).1.wf k (by omega)).1) ?_
  rintro e w2 ⟨rfl, T0⟩; refine ⟨_, rfl, ?_⟩; clear S a; intro a S
  have TT := Tr.framed0 C.ms T0; have G := T0.ch
  replace l_w := Enc.tr (slE devE) l_w TT
  replace GL0 := GL0.trans TT
  replace C := C.trans TT
  clear T0 G TT
  refine qv S (bD (¬ (vname (l.xs.getD k devE.dflt).name))) (x_notp (S.e rfl)) ?_; clear S a; intro a S
  refine qm S rfl ?_; clear S a; intro a S
  refine qg S 25 rfl (¬ (¬ (vname (l.xs.getD k devE.dflt).name))) gf (sV l) (fun hg => (x_move (S.e rfl))) ?_; clear S a; intro a S
  refine qg S 25 rfl (¬ (¬ (vname (l.xs.getD k devE.dflt).name))) gf (.agg #[sV l, .slice none 0 0, .slice none 0 0, .slice none 0 0, iI 0]) (fun hg => (x_build [(0, sV l)] [sV l, .slice none 0 0, .slice none 0 0, .slice none 0 0, iI 0] (by simp only [List.map_cons, List.map_nil, show a.eval (.tmp 26) = sV l from (S.p rfl hg)]) (by kernel_rfl))) ?_; clear S a; intro a S
  refine qg S 25 rfl (¬ (¬ (vname (l.xs.getD k devE.dflt).name))) gf (sV l) (fun hg => (x_move (S.e rfl))) ?_; clear S a; intro a S
  refine qg S 25 rfl (¬ (¬ (vname (l.xs.getD k devE.dflt).name))) gf (iN k) (fun hg => (x_move (S.e rfl))) ?_; clear S a; intro a S
  refine qg S 25 rfl (¬ (¬ (vname (l.xs.getD k devE.dflt).name))) gf (pT (blk l.a) (off l.a + k * 5)) (fun hg => (x_idx Try.underlying23 (by kernel_rfl) (S.p rfl hg) (S.p rfl hg) k rfl (by omega) ((l_w).1.adr (i := k) (by omega)))) ?_; clear S a; intro a S
  refine qg S 25 rfl (¬ (¬ (vname (l.xs.getD k devE.dflt).name))) gf (pT (blk l.a) (off l.a + k * 5 + 0)) (fun hg => (x_fld (z := 0) (off l.a + k * 5) 0 Try.underlying65 rfl rfl (by kernel_rfl) (S.p rfl hg))) ?_; clear S a; intro a S
  refine qg S 25 rfl (¬ (¬ (vname (l.xs.getD k devE.dflt).name))) gf (.string ((l.xs.getD k devE.dflt).name)) (fun hg => (x_load ⟨_, Try.underlying9, rfl⟩ (S.p rfl hg) ((l_w).1.cell k (by omega) 0 _ rfl))) ?_; clear S a; intro a S
  refine seq_gcall S (by decide) (gd := 25) (vs := #[.agg #[sV l, .slice none 0 0, .slice none 0 0, .slice none 0 0, iI 0], .string ((l.xs.getD k devE.dflt).name)]) (v := iI (idxOf (fun x => decide (x.name = (l.xs.getD k devE.dflt).name)) l.xs)) rfl rfl (by decide) rfl (c := (¬ (¬ (vname (l.xs.getD k devE.dflt).name)))) gf (fun hg => by simp only [List.map_toArray, List.map_cons, List.map_nil, show a.eval (.tmp 27) = .agg #[sV l, .slice none 0 0, .slice none 0 0, .slice none 0 0, iI 0] from (S.p rfl hg), show a.eval (.tmp 32) = .string ((l.xs.getD k devE.dflt).name) from (S.p rfl hg)]) callable_108 (fun hg => ((r11Device _ (Ex F _) (C.old hF)  (MS.nil _) (⟨l, (Sl.mk none 0 ([])), (Sl.mk none 0 ([])), (Sl.mk none 0 ([])), 0⟩ : Topo) ⟨((slE devE).down0 l_w), sl_nil, sl_nil, sl_nil, (show inI64 0 from ⟨by omega, by omega⟩)⟩ ((l.xs.getD k devE.dflt).name) ((l_w).1.wf k (by omega)).1)).mono (fun _ _ h => ⟨h.1, h.2.ch⟩)) ?_
  clear S a; intro a w3 G S; have TT := Tr.of_ch0 C.ms G
  replace l_w := Enc.tr (slE devE) l_w TT
  replace GL0 := GL0.trans TT
  replace C := C.trans TT
  refine qg S 25 rfl (¬ (¬ (vname (l.xs.getD k devE.dflt).name))) gf (iN k) (fun hg => (x_move (S.e rfl))) ?_; clear S a; intro a S
  refine qg S 25 rfl (¬ (¬ (vname (l.xs.getD k devE.dflt).name))) gf (bD (¬ idxOf (fun x => decide (x.name = (l.xs.getD k devE.dflt).name)) l.xs = ((k : Nat) : Int))) (fun hg => (x_neq (S.p rfl hg) (S.p rfl hg))) ?_; clear S a; intro a S
  refine qv S (bD ((¬ (vname (l.xs.getD k devE.dflt).name)) ∨ (¬ idxOf (fun x => decide (x.name = (l.xs.getD k devE.dflt).name)) l.xs = ((k : Nat) : Int)))) (x_or (S.e rfl) (S.e rfl) (S.p rfl)) ?_; clear S a; intro a S
  refine qm S rfl ?_; clear S a; intro a S
  refine qg S 37 rfl (¬ ((¬ (vname (l.xs.getD k devE.dflt).name)) ∨ (¬ idxOf (fun x => decide (x.name = (l.xs.getD k devE.dflt).name)) l.xs = ((k : Nat) : Int)))) gf (sV l) (fun hg => (x_move (S.e rfl))) ?_; clear S a; intro a S
  refine qg S 37 rfl (¬ ((¬ (vname (l.xs.getD k devE.dflt).name)) ∨ (¬ idxOf (fun x => decide (x.name = (l.xs.getD k devE.dflt).name)) l.xs = ((k : Nat) : Int)))) gf (iN k) (fun hg => (x_move (S.e rfl))) ?_; clear S a; intro a S
  refine qg S 37 rfl (¬ ((¬ (vname (l.xs.getD k devE.dflt).name)) ∨ (¬ idxOf (fun x => decide (x.name = (l.xs.getD k devE.dflt).name)) l.xs = ((k : Nat) : Int)))) gf (pT (blk l.a) (off l.a + k * 5)) (fun hg => (x_idx Try.underlying23 (by kernel_rfl) (S.p rfl hg) (S.p rfl hg) k rfl (by omega) ((l_w).1.adr (i := k) (by omega)))) ?_; clear S a; intro a S
  refine qg S 37 rfl (¬ ((¬ (vname (l.xs.getD k devE.dflt).name)) ∨ (¬ idxOf (fun x => decide (x.name = (l.xs.getD k devE.dflt).name)) l.xs = ((k : Nat) : Int)))) gf (pT (blk l.a) (off l.a + k * 5 + 1)) (fun hg => (x_fld (z := 0) (off l.a + k * 5) 1 Try.underlying65 rfl rfl (by kernel_rfl) (S.p rfl hg))) ?_; clear S a; intro a S
  refine qg S 37 rfl (¬ ((¬ (vname (l.xs.getD k devE.dflt).name)) ∨ (¬ idxOf (fun x => decide (x.name = (l.xs.getD k devE.dflt).name)) l.xs = ((k : Nat) : Int)))) gf (iI ((l.xs.getD k devE.dflt).cap)) (fun hg => (x_load ⟨_, Try.underlying3, rfl⟩ (S.p rfl hg) ((l_w).1.cell k (by omega) 1 _ rfl))) ?_; clear S a; intro a S
  refine qg S 37 rfl (¬ ((¬ (vname (l.xs.getD k devE.dflt).name)) ∨ (¬ idxOf (fun x => decide (x.name = (l.xs.getD k devE.dflt).name)) l.xs = ((k : Nat) : Int)))) gf (bD ((l.xs.getD k devE.dflt).cap < 0)) (fun hg => (x_lss (S.p rfl hg) (S.e rfl))) ?_; clear S a; intro a S
  refine qv S (bD (((¬ (vname (l.xs.getD k devE.dflt).name)) ∨ (¬ idxOf (fun x => decide (x.name = (l.xs.getD k devE.dflt).name)) l.xs = ((k : Nat) : Int))) ∨ ((l.xs.getD k devE.dflt).cap < 0))) (x_or (S.e rfl) (S.e rfl) (S.p rfl)) ?_; clear S a; intro a S
  refine qm S rfl ?_; clear S a; intro a S
  refine qg S 45 rfl (¬ (((¬ (vname (l.xs.getD k devE.dflt).name)) ∨ (¬ idxOf (fun x => decide (x.name = (l.xs.getD k devE.dflt).name)) l.xs = ((k : Nat) : Int))) ∨ ((l.xs.getD k devE.dflt).cap < 0))) gf (sV l) (fun hg => (x_move (S.e rfl))) ?_; clear S a; intro a S
  refine qg S 45 rfl (¬ (((¬ (vname (l.xs.getD k devE.dflt).name)) ∨ (¬ idxOf (fun x => decide (x.name = (l.xs.getD k devE.dflt).name)) l.xs = ((k : Nat) : Int))) ∨ ((l.xs.getD k devE.dflt).cap < 0))) gf (iN k) (fun hg => (x_move (S.e rfl))) ?_; clear S a; intro a S
  refine qg S 45 rfl (¬ (((¬ (vname (l.xs.getD k devE.dflt).name)) ∨ (¬ idxOf (fun x => decide (x.name = (l.xs.getD k devE.dflt).name)) l.xs = ((k : Nat) : Int))) ∨ ((l.xs.getD k devE.dflt).cap < 0))) gf (pT (blk l.a) (off l.a + k * 5)) (fun hg => (x_idx Try.underlying23 (by kernel_rfl) (S.p rfl hg) (S.p rfl hg) k rfl (by omega) ((l_w).1.adr (i := k) (by omega)))) ?_; clear S a; intro a S
  refine qg S 45 rfl (¬ (((¬ (vname (l.xs.getD k devE.dflt).name)) ∨ (¬ idxOf (fun x => decide (x.name = (l.xs.getD k devE.dflt).name)) l.xs = ((k : Nat) : Int))) ∨ ((l.xs.getD k devE.dflt).cap < 0))) gf (pT (blk l.a) (off l.a + k * 5 + 1)) (fun hg => (x_fld (z := 0) (off l.a + k * 5) 1 Try.underlying65 rfl rfl (by kernel_rfl) (S.p rfl hg))) ?_; clear S a; intro a S
  refine qg S 45 rfl (¬ (((¬ (vname (l.xs.getD k devE.dflt).name)) ∨ (¬ idxOf (fun x => decide (x.name = (l.xs.getD k devE.dflt).name)) l.xs = ((k : Nat) : Int))) ∨ ((l.xs.getD k devE.dflt).cap < 0))) gf (iI ((l.xs.getD k devE.dflt).cap)) (fun hg => (x_load ⟨_, Try.underlying3, rfl⟩ (S.p rfl hg) ((l_w).1.cell k (by omega) 1 _ rfl))) ?_; clear S a; intro a S
  refine qg S 45 rfl (¬ (((¬ (vname (l.xs.getD k devE.dflt).name)) ∨ (¬ idxOf (fun x => decide (x.name = (l.xs.getD k devE.dflt).name)) l.xs = ((k : Nat) : Int))) ∨ ((l.xs.getD k devE.dflt).cap < 0))) gf (bD (4096 < (l.xs.getD k devE.dflt).cap)) (fun hg => (x_gtr (S.p rfl hg) (S.e rfl))) ?_; clear S a; intro a S
  refine qv S (bD ((((¬ (vname (l.xs.getD k devE.dflt).name)) ∨ (¬ idxOf (fun x => decide (x.name = (l.xs.getD k devE.dflt).name)) l.xs = ((k : Nat) : Int))) ∨ ((l.xs.getD k devE.dflt).cap < 0)) ∨ (4096 < (l.xs.getD k devE.dflt).cap))) (x_or (S.e rfl) (S.e rfl) (S.p rfl)) ?_; clear S a; intro a S
  refine qm S rfl ?_; clear S a; intro a S
  refine qg S 53 rfl (¬ ((((¬ (vname (l.xs.getD k devE.dflt).name)) ∨ (¬ idxOf (fun x => decide (x.name = (l.xs.getD k devE.dflt).name)) l.xs = ((k : Nat) : Int))) ∨ ((l.xs.getD k devE.dflt).cap < 0)) ∨ (4096 < (l.xs.getD k devE.dflt).cap))) gf (sV l) (fun hg => (x_move (S.e rfl))) ?_; clear S a; intro a S
  refine qg S 53 rfl (¬ ((((¬ (vname (l.xs.getD k devE.dflt).name)) ∨ (¬ idxOf (fun x => decide (x.name = (l.xs.getD k devE.dflt).name)) l.xs = ((k : Nat) : Int))) ∨ ((l.xs.getD k devE.dflt).cap < 0)) ∨ (4096 < (l.xs.getD k devE.dflt).cap))) gf (iN k) (fun hg => (x_move (S.e rfl))) ?_; clear S a; intro a S
  refine qg S 53 rfl (¬ ((((¬ (vname (l.xs.getD k devE.dflt).name)) ∨ (¬ idxOf (fun x => decide (x.name = (l.xs.getD k devE.dflt).name)) l.xs = ((k : Nat) : Int))) ∨ ((l.xs.getD k devE.dflt).cap < 0)) ∨ (4096 < (l.xs.getD k devE.dflt).cap))) gf (pT (blk l.a) (off l.a + k * 5)) (fun hg => (x_idx Try.underlying23 (by kernel_rfl) (S.p rfl hg) (S.p rfl hg) k rfl (by omega) ((l_w).1.adr (i := k) (by omega)))) ?_; clear S a; intro a S
  refine qg S 53 rfl (¬ ((((¬ (vname (l.xs.getD k devE.dflt).name)) ∨ (¬ idxOf (fun x => decide (x.name = (l.xs.getD k devE.dflt).name)) l.xs = ((k : Nat) : Int))) ∨ ((l.xs.getD k devE.dflt).cap < 0)) ∨ (4096 < (l.xs.getD k devE.dflt).cap))) gf (pT (blk l.a) (off l.a + k * 5 + 4)) (fun hg => (x_fld (z := 0) (off l.a + k * 5) 4 Try.underlying65 rfl rfl (by kernel_rfl) (S.p rfl hg))) ?_; clear S a; intro a S
  refine qg S 53 rfl (¬ ((((¬ (vname (l.xs.getD k devE.dflt).name)) ∨ (¬ idxOf (fun x => decide (x.name = (l.xs.getD k devE.dflt).name)) l.xs = ((k : Nat) : Int))) ∨ ((l.xs.getD k devE.dflt).cap < 0)) ∨ (4096 < (l.xs.getD k devE.dflt).cap))) gf (.string ((l.xs.getD k devE.dflt).cls)) (fun hg => (x_load ⟨_, Try.underlying9, rfl⟩ (S.p rfl hg) ((l_w).1.cell k (by omega) 4 _ rfl))) ?_; clear S a; intro a S
  refine qg S 53 rfl (¬ ((((¬ (vname (l.xs.getD k devE.dflt).name)) ∨ (¬ idxOf (fun x => decide (x.name = (l.xs.getD k devE.dflt).name)) l.xs = ((k : Nat) : Int))) ∨ ((l.xs.getD k devE.dflt).cap < 0)) ∨ (4096 < (l.xs.getD k devE.dflt).cap))) gf (bD (¬ (l.xs.getD k devE.dflt).cls = ⟨#[]⟩)) (fun hg => (x_sneq (S.p rfl hg) (S.e rfl))) ?_; clear S a; intro a S
  refine qg S 53 rfl (¬ ((((¬ (vname (l.xs.getD k devE.dflt).name)) ∨ (¬ idxOf (fun x => decide (x.name = (l.xs.getD k devE.dflt).name)) l.xs = ((k : Nat) : Int))) ∨ ((l.xs.getD k devE.dflt).cap < 0)) ∨ (4096 < (l.xs.getD k devE.dflt).cap))) gf (bD (¬ (l.xs.getD k devE.dflt).cls = ⟨#[]⟩)) (fun hg => (x_move (S.p rfl hg))) ?_; clear S a; intro a S
  refine qg S 60 rfl ((¬ ((((¬ (vname (l.xs.getD k devE.dflt).name)) ∨ (¬ idxOf (fun x => decide (x.name = (l.xs.getD k devE.dflt).name)) l.xs = ((k : Nat) : Int))) ∨ ((l.xs.getD k devE.dflt).cap < 0)) ∨ (4096 < (l.xs.getD k devE.dflt).cap))) ∧ (¬ (l.xs.getD k devE.dflt).cls = ⟨#[]⟩)) ggt (sV l) (fun hg => (x_move (S.e rfl))) ?_; clear S a; intro a S
  refine qg S 60 rfl ((¬ ((((¬ (vname (l.xs.getD k devE.dflt).name)) ∨ (¬ idxOf (fun x => decide (x.name = (l.xs.getD k devE.dflt).name)) l.xs = ((k : Nat) : Int))) ∨ ((l.xs.getD k devE.dflt).cap < 0)) ∨ (4096 < (l.xs.getD k devE.dflt).cap))) ∧ (¬ (l.xs.getD k devE.dflt).cls = ⟨#[]⟩)) ggt (iN k) (fun hg => (x_move (S.e rfl))) ?_; clear S a; intro a S
  refine qg S 60 rfl ((¬ ((((¬ (vname (l.xs.getD k devE.dflt).name)) ∨ (¬ idxOf (fun x => decide (x.name = (l.xs.getD k devE.dflt).name)) l.xs = ((k : Nat) : Int))) ∨ ((l.xs.getD k devE.dflt).cap < 0)) ∨ (4096 < (l.xs.getD k devE.dflt).cap))) ∧ (¬ (l.xs.getD k devE.dflt).cls = ⟨#[]⟩)) ggt (pT (blk l.a) (off l.a + k * 5)) (fun hg => (x_idx Try.underlying23 (by kernel_rfl) (S.p rfl hg) (S.p rfl hg) k rfl (by omega) ((l_w).1.adr (i := k) (by omega)))) ?_; clear S a; intro a S
  refine qg S 60 rfl ((¬ ((((¬ (vname (l.xs.getD k devE.dflt).name)) ∨ (¬ idxOf (fun x => decide (x.name = (l.xs.getD k devE.dflt).name)) l.xs = ((k : Nat) : Int))) ∨ ((l.xs.getD k devE.dflt).cap < 0)) ∨ (4096 < (l.xs.getD k devE.dflt).cap))) ∧ (¬ (l.xs.getD k devE.dflt).cls = ⟨#[]⟩)) ggt (pT (blk l.a) (off l.a + k * 5 + 4)) (fun hg => (x_fld (z := 0) (off l.a + k * 5) 4 Try.underlying65 rfl rfl (by kernel_rfl) (S.p rfl hg))) ?_; clear S a; intro a S
  refine qg S 60 rfl ((¬ ((((¬ (vname (l.xs.getD k devE.dflt).name)) ∨ (¬ idxOf (fun x => decide (x.name = (l.xs.getD k devE.dflt).name)) l.xs = ((k : Nat) : Int))) ∨ ((l.xs.getD k devE.dflt).cap < 0)) ∨ (4096 < (l.xs.getD k devE.dflt).cap))) ∧ (¬ (l.xs.getD k devE.dflt).cls = ⟨#[]⟩)) ggt (.string ((l.xs.getD k devE.dflt).cls)) (fun hg => (x_load ⟨_, Try.underlying9, rfl⟩ (S.p rfl hg) ((l_w).1.cell k (by omega) 4 _ rfl))) ?_; clear S a; intro a S
  refine seq_gcall S (by decide) (gd := 60) (vs := #[.string ((l.xs.getD k devE.dflt).cls)]) (v := bD (vname (l.xs.getD k devE.dflt).cls)) rfl rfl (by decide) rfl (c := ((¬ ((((¬ (vname (l.xs.getD k devE.dflt).name)) ∨ (¬ idxOf (fun x => decide (x.name = (l.xs.getD k devE.dflt).name)) l.xs = ((k : Nat) : Int))) ∨ ((l.xs.getD k devE.dflt).cap < 0)) ∨ (4096 < (l.xs.getD k devE.dflt).cap))) ∧ (¬ (l.xs.getD k devE.dflt).cls = ⟨#[]⟩))) ggt (fun hg => by simp only [List.map_toArray, List.map_cons, List.map_nil, show a.eval (.tmp 65) = .string ((l.xs.getD k devE.dflt).cls) from (S.p rfl hg)]) callable_107 (fun hg => ((rName _ (Ex F _) (C.old hF)  (MS.nil _) ((l.xs.getD k devE.dflt).cls) ((l_w).1.wf k (by omega)).2.2.2.2)).mono (fun _ _ h => ⟨h.1, h.2.ch⟩)) ?_
  clear S a; intro a w4 G S; have TT := Tr.of_ch0 C.ms G
  replace l_w := Enc.tr (slE devE) l_w TT
  replace GL0 := GL0.trans TT
  replace C := C.trans TT
  refine qg S 60 rfl ((¬ ((((¬ (vname (l.xs.getD k devE.dflt).name)) ∨ (¬ idxOf (fun x => decide (x.name = (l.xs.getD k devE.dflt).name)) l.xs = ((k : Nat) : Int))) ∨ ((l.xs.getD k devE.dflt).cap < 0)) ∨ (4096 < (l.xs.getD k devE.dflt).cap))) ∧ (¬ (l.xs.getD k devE.dflt).cls = ⟨#[]⟩)) ggt (bD (¬ (vname (l.xs.getD k devE.dflt).cls))) (fun hg => (x_notp (S.p rfl hg))) ?_; clear S a; intro a S
  refine qg S 53 rfl (¬ ((((¬ (vname (l.xs.getD k devE.dflt).name)) ∨ (¬ idxOf (fun x => decide (x.name = (l.xs.getD k devE.dflt).name)) l.xs = ((k : Nat) : Int))) ∨ ((l.xs.getD k devE.dflt).cap < 0)) ∨ (4096 < (l.xs.getD k devE.dflt).cap))) gf (bD ((¬ (l.xs.getD k devE.dflt).cls = ⟨#[]⟩) ∧ (¬ (vname (l.xs.getD k devE.dflt).cls)))) (fun hg => (x_and (S.p rfl hg) (fun hl => ((S.e rfl).trans (if_pos ⟨hg, hl⟩))) (S.e rfl))) ?_; clear S a; intro a S
  refine qv S (bD (((((¬ (vname (l.xs.getD k devE.dflt).name)) ∨ (¬ idxOf (fun x => decide (x.name = (l.xs.getD k devE.dflt).name)) l.xs = ((k : Nat) : Int))) ∨ ((l.xs.getD k devE.dflt).cap < 0)) ∨ (4096 < (l.xs.getD k devE.dflt).cap)) ∨ ((¬ (l.xs.getD k devE.dflt).cls = ⟨#[]⟩) ∧ (¬ (vname (l.xs.getD k devE.dflt).cls))))) (x_or (S.e rfl) (S.e rfl) (S.p rfl)) ?_; clear S a; intro a S
  refine qt ?_
  refine cond_dec S rfl ?_ ?_
  ·intro hc3
   refine qs ?_
   refine qa S rfl ?_; clear S a; intro a S
   refine qt ?_
   refine wp_ret ?_
   refine blk_r ?_
   refine then_r ?_
   refine then_r ?_
   refine blk_r ?_
   refine then_r ?_
   refine ret1 rfl S rfl ?_
   refine ⟨(r1 (vf ?_)), C⟩
   unfold devsOk; rintro ⟨_, h⟩; have h2 := h k (by omega); unfold devAt devV at h2; obtain ⟨⟨g1, g2, g3, g4⟩, g5⟩ := h2; rcases hc3 with (((h1 | h1) | h1) | h1) | h1
   ·exact h1 g1
   ·exact h1 g5
   ·omega
   ·omega
   rcases g4 with g4 | g4
   ·exact h1.1 g4
   exact h1.2 g4
  intro hc4
  refine wp_skip ?_
  refine blk_n ?_
  refine then_n ?_
  refine wp_region_lit ?_
  refine qm S rfl ?_; clear S a; intro a S
  refine qv S (iN (k + 1)) (x_add (S.e rfl) (S.e rfl) (r := ((k + 1 : Nat) : Int)) (w_i64 (by omega))) ?_; clear S a; intro a S
  refine qa S rfl ?_; clear S a; intro a S
  refine qt ?_
  refine ⟨l.xs.length - (k + 1), ?_, k + 1, S.sub ⟨rfl, rfl, trivial⟩, GL0, ?_, rfl⟩
  ·omega
  refine ⟨by omega, fun j hj => ?_⟩
  rcases Nat.lt_succ_iff_lt_or_eq.1 hj with h | h
  ·exact hn j h
  subst h; unfold devAt devV; have hq := hc4; clear hc4; simp only [not_or, not_and, Classical.not_not, Int.not_lt] at hq; refine ⟨⟨hq.1.1.1.1, by omega, by omega, ?_⟩, hq.1.1.1.2⟩; exact (Classical.em _).elim .inl fun e => .inr (hq.2 e)
 intro hc5
 refine wp_exit ?_
 refine then_e ?_
 refine then_e ?_
 refine blk_e ?_
 refine then_n ?_
 refine qs ?_
 refine qa S rfl ?_; clear S a; intro a S
 refine qt ?_
 refine wp_ret ?_
 refine ret1 rfl S rfl ?_
 refine ⟨(r1 (vt ?_)), C⟩
 unfold devsOk; exact ⟨by omega, fun i hi => hn i (by omega)⟩
set_option maxHeartbeats 2000000 in
set_option maxRecDepth 20000 in
theorem r11Valid (w : World) (F : Nat → Prop) (hF : Old F w) (M : MS [] w) (t : Topo) (t_w : topoE.wf (Fr F []) w.heap t) :
 Calls Try.prog 53 #[tV t] w fun e w' => e = .returned (bD (topV t)) ∧ Tr [] w [] w' := by
 have C : Tr [] w [] w := Tr.refl M
 have : t.devs.xs.length ≤ 9223372036854775807 := (t_w.1).1.len
 have : t.links.xs.length ≤ 9223372036854775807 := (t_w.2.1).1.len
 have : t.edges.xs.length ≤ 9223372036854775807 := (t_w.2.2.1).1.len
 have : t.pools.xs.length ≤ 9223372036854775807 := (t_w.2.2.2.1).1.len
 obtain ⟨_, _⟩ : inI64 t.tol := t_w.2.2.2.2
 refine enter Try.func53 rfl 152 rfl (Nat.le_of_ble_eq_true rfl) ?_
 intro a S
 refine qs ?_
 refine seq_new S rfl rfl (by decide) (fun b => pT b 0) (cs := (tL t)) (x_box (tL t) (S.e rfl) rfl) ?_
 clear S a; intro a w1 b1 hb1 hbs1 G K1 S; have hbl1 : b1 < w1.heap.size := by omega
 have TT := Tr.fresh C.ms hb1 hbl1 G
 replace t_w := Enc.tr (topoE) t_w TT
 replace C := C.trans TT
 clear TT G
 refine qa S rfl ?_; clear S a; intro a S
 refine qt ?_
 refine wp_seq ?_
 refine qs ?_
 refine qv S (pT b1 (0 + 0)) (x_fld (z := 0) (0) 0 Try.underlying28 rfl rfl (by kernel_rfl) (S.e rfl)) ?_; clear S a; intro a S
 refine qv S (sV t.devs) (x_load ⟨_, Try.underlying23, rfl⟩ (S.e rfl) (K1.cell (j := 0) rfl)) ?_; clear S a; intro a S
 refine seq_call S (by decide) (vs := #[sV t.devs]) rfl callable_86 (r11vDevs _ (Ex F _) (C.old hF)  (MS.nil _) t.devs ((slE devE).down0 t_w.1)) ?_
 rintro e w2 ⟨rfl, T0⟩; refine ⟨_, rfl, ?_⟩; clear S a; intro a S
 have TT := Tr.framed0 C.ms T0; have G := T0.ch
 replace t_w := Enc.tr (topoE) t_w TT
 replace K1 := Blk.tr0 K1 G
 replace C := C.trans TT
 clear T0 G TT
 refine qv S (bD (¬ (devsOk t.devs.xs))) (x_notp (S.e rfl)) ?_; clear S a; intro a S
 refine qm S rfl ?_; clear S a; intro a S
 refine qg S 13 rfl (¬ (¬ (devsOk t.devs.xs))) gf (pT b1 (0 + 1)) (fun hg => (x_fld (z := 0) (0) 1 Try.underlying28 rfl rfl (by kernel_rfl) (S.e rfl))) ?_; clear S a; intro a S
 refine qg S 13 rfl (¬ (¬ (devsOk t.devs.xs))) gf (sV t.links) (fun hg => (x_load ⟨_, Try.underlying24, rfl⟩ (S.p rfl hg) (K1.cell (j := 1) rfl))) ?_; clear S a; intro a S
 refine qg S 13 rfl (¬ (¬ (devsOk t.devs.xs))) gf (iN t.links.xs.length) (fun hg => (x_len Try.underlying24 (S.p rfl hg))) ?_; clear S a; intro a S
 refine qg S 13 rfl (¬ (¬ (devsOk t.devs.xs))) gf (bD (24 < ((t.links.xs.length : Nat) : Int))) (fun hg => (x_gtr (S.p rfl hg) (S.e rfl))) ?_; clear S a; intro a S
 refine qv S (bD ((¬ (devsOk t.devs.xs)) ∨ (24 < ((t.links.xs.length : Nat) : Int)))) (x_or (S.e rfl) (S.e rfl) (S.p rfl)) ?_; clear S a; intro a S
 refine qm S rfl ?_; clear S a; intro a S
 refine qg S 19 rfl (¬ ((¬ (devsOk t.devs.xs)) ∨ (24 < ((t.links.xs.length : Nat) : Int)))) gf (pT b1 (0 + 2)) (fun hg => (x_fld (z := 0) (0) 2 Try.underlying28 rfl rfl (by kernel_rfl) (S.e rfl))) ?_; clear S a; intro a S
 refine qg S 19 rfl (¬ ((¬ (devsOk t.devs.xs)) ∨ (24 < ((t.links.xs.length : Nat) : Int)))) gf (sV t.edges) (fun hg => (x_load ⟨_, Try.underlying25, rfl⟩ (S.p rfl hg) (K1.cell (j := 2) rfl))) ?_; clear S a; intro a S
 refine qg S 19 rfl (¬ ((¬ (devsOk t.devs.xs)) ∨ (24 < ((t.links.xs.length : Nat) : Int)))) gf (iN t.edges.xs.length) (fun hg => (x_len Try.underlying25 (S.p rfl hg))) ?_; clear S a; intro a S
 refine qg S 19 rfl (¬ ((¬ (devsOk t.devs.xs)) ∨ (24 < ((t.links.xs.length : Nat) : Int)))) gf (bD (12 < ((t.edges.xs.length : Nat) : Int))) (fun hg => (x_gtr (S.p rfl hg) (S.e rfl))) ?_; clear S a; intro a S
 refine qv S (bD (((¬ (devsOk t.devs.xs)) ∨ (24 < ((t.links.xs.length : Nat) : Int))) ∨ (12 < ((t.edges.xs.length : Nat) : Int)))) (x_or (S.e rfl) (S.e rfl) (S.p rfl)) ?_; clear S a; intro a S
 refine qm S rfl ?_; clear S a; intro a S
 refine qg S 25 rfl (¬ (((¬ (devsOk t.devs.xs)) ∨ (24 < ((t.links.xs.length : Nat) : Int))) ∨ (12 < ((t.edges.xs.length : Nat) : Int)))) gf (pT b1 (0 + 3)) (fun hg => (x_fld (z := 0) (0) 3 Try.underlying28 rfl rfl (by kernel_rfl) (S.e rfl))) ?_; clear S a; intro a S
 refine qg S 25 rfl (¬ (((¬ (devsOk t.devs.xs)) ∨ (24 < ((t.links.xs.length : Nat) : Int))) ∨ (12 < ((t.edges.xs.length : Nat) : Int)))) gf (sV t.pools) (fun hg => (x_load ⟨_, Try.underlying26, rfl⟩ (S.p rfl hg) (K1.cell (j := 3) rfl))) ?_; clear S a; intro a S
 refine qg S 25 rfl (¬ (((¬ (devsOk t.devs.xs)) ∨ (24 < ((t.links.xs.length : Nat) : Int))) ∨ (12 < ((t.edges.xs.length : Nat) : Int)))) gf (iN t.pools.xs.length) (fun hg => (x_len Try.underlying26 (S.p rfl hg))) ?_; clear S a; intro a S
 refine qg S 25 rfl (¬ (((¬ (devsOk t.devs.xs)) ∨ (24 < ((t.links.xs.length : Nat) : Int))) ∨ (12 < ((t.edges.xs.length : Nat) : Int)))) gf (bD (8 < ((t.pools.xs.length : Nat) : Int))) (fun hg => (x_gtr (S.p rfl hg) (S.e rfl))) ?_; clear S a; intro a S
 refine qv S (bD ((((¬ (devsOk t.devs.xs)) ∨ (24 < ((t.links.xs.length : Nat) : Int))) ∨ (12 < ((t.edges.xs.length : Nat) : Int))) ∨ (8 < ((t.pools.xs.length : Nat) : Int)))) (x_or (S.e rfl) (S.e rfl) (S.p rfl)) ?_; clear S a; intro a S
 refine qm S rfl ?_; clear S a; intro a S
 refine qg S 31 rfl (¬ ((((¬ (devsOk t.devs.xs)) ∨ (24 < ((t.links.xs.length : Nat) : Int))) ∨ (12 < ((t.edges.xs.length : Nat) : Int))) ∨ (8 < ((t.pools.xs.length : Nat) : Int)))) gf (pT b1 (0 + 4)) (fun hg => (x_fld (z := 0) (0) 4 Try.underlying28 rfl rfl (by kernel_rfl) (S.e rfl))) ?_; clear S a; intro a S
 refine qg S 31 rfl (¬ ((((¬ (devsOk t.devs.xs)) ∨ (24 < ((t.links.xs.length : Nat) : Int))) ∨ (12 < ((t.edges.xs.length : Nat) : Int))) ∨ (8 < ((t.pools.xs.length : Nat) : Int)))) gf (iI t.tol) (fun hg => (x_load ⟨_, Try.underlying3, rfl⟩ (S.p rfl hg) (K1.cell (j := 4) rfl))) ?_; clear S a; intro a S
 refine qg S 31 rfl (¬ ((((¬ (devsOk t.devs.xs)) ∨ (24 < ((t.links.xs.length : Nat) : Int))) ∨ (12 < ((t.edges.xs.length : Nat) : Int))) ∨ (8 < ((t.pools.xs.length : Nat) : Int)))) gf (bD (t.tol < 0)) (fun hg => (x_lss (S.p rfl hg) (S.e rfl))) ?_; clear S a; intro a S
 refine qv S (bD (((((¬ (devsOk t.devs.xs)) ∨ (24 < ((t.links.xs.length : Nat) : Int))) ∨ (12 < ((t.edges.xs.length : Nat) : Int))) ∨ (8 < ((t.pools.xs.length : Nat) : Int))) ∨ (t.tol < 0))) (x_or (S.e rfl) (S.e rfl) (S.p rfl)) ?_; clear S a; intro a S
 refine qm S rfl ?_; clear S a; intro a S
 refine qg S 36 rfl (¬ (((((¬ (devsOk t.devs.xs)) ∨ (24 < ((t.links.xs.length : Nat) : Int))) ∨ (12 < ((t.edges.xs.length : Nat) : Int))) ∨ (8 < ((t.pools.xs.length : Nat) : Int))) ∨ (t.tol < 0))) gf (pT b1 (0 + 4)) (fun hg => (x_fld (z := 0) (0) 4 Try.underlying28 rfl rfl (by kernel_rfl) (S.e rfl))) ?_; clear S a; intro a S
 refine qg S 36 rfl (¬ (((((¬ (devsOk t.devs.xs)) ∨ (24 < ((t.links.xs.length : Nat) : Int))) ∨ (12 < ((t.edges.xs.length : Nat) : Int))) ∨ (8 < ((t.pools.xs.length : Nat) : Int))) ∨ (t.tol < 0))) gf (iI t.tol) (fun hg => (x_load ⟨_, Try.underlying3, rfl⟩ (S.p rfl hg) (K1.cell (j := 4) rfl))) ?_; clear S a; intro a S
 refine qg S 36 rfl (¬ (((((¬ (devsOk t.devs.xs)) ∨ (24 < ((t.links.xs.length : Nat) : Int))) ∨ (12 < ((t.edges.xs.length : Nat) : Int))) ∨ (8 < ((t.pools.xs.length : Nat) : Int))) ∨ (t.tol < 0))) gf (bD (2 < t.tol)) (fun hg => (x_gtr (S.p rfl hg) (S.e rfl))) ?_; clear S a; intro a S
 refine qv S (bD ((((((¬ (devsOk t.devs.xs)) ∨ (24 < ((t.links.xs.length : Nat) : Int))) ∨ (12 < ((t.edges.xs.length : Nat) : Int))) ∨ (8 < ((t.pools.xs.length : Nat) : Int))) ∨ (t.tol < 0)) ∨ (2 < t.tol))) (x_or (S.e rfl) (S.e rfl) (S.p rfl)) ?_; clear S a; intro a S
 refine qt ?_
 refine cond_dec S rfl ?_ ?_
 ·intro hc0
  refine qs ?_
  refine qa S rfl ?_; clear S a; intro a S
  refine qt ?_
  refine wp_ret ?_
  refine then_r ?_
  refine ret1 rfl S rfl ?_
  have TD : Tr [one b1] w2 [] w2 := Tr.drop C.ms [] (by decide)
  have GD : Ch (In []) w2 w2 := Ch.refl _
  clear K1
  replace t_w := Enc.tr (topoE) t_w TD
  replace C := C.trans TD
  clear TD GD
  refine ⟨(r1 (vf ?_)), C⟩
  rintro ⟨h, h2, _⟩; unfold topB at h; rcases hc0 with ((((h1 | h1) | h1) | h1) | h1) | h1
  ·exact h1 ⟨⟨h.1, h.2.1⟩, h2⟩
  all_goals omega
 intro hc1
 refine wp_skip ?_
 refine then_n ?_
 refine wp_seq ?_
 refine qs ?_
 refine qa S rfl ?_; clear S a; intro a S
 refine qt ?_
 refine wp_block ?_
 refine wp_loop_ghost (fun m a wr => ∃ k : Nat, Slots 152 [(1, pT b1 0), (3, iN k)] a ∧ Tr [one b1] w2 [one b1] wr ∧ (k ≤ t.links.xs.length ∧ ∀ j, j < k → lnkV t.devs.xs.length (t.links.xs.getD j lnkE.dflt)) ∧ Blk wr.heap b1 (tL t) 28 ∧ (t.links.xs.length - k) = m) (t.links.xs.length - 0) ?_ ?_
 ·refine ⟨0, S.sub ⟨rfl, rfl, trivial⟩, Tr.refl C.ms, ?_, K1, rfl⟩
  exact ⟨Nat.zero_le _, fun j hj => by omega⟩
 rintro m a w3 ⟨k, S, G, hR, K1', rfl⟩
 clear K1; have K1 := K1'; clear K1'
 replace t_w := Enc.tr (topoE) t_w G
 replace C := C.trans G
 have GL0 := G; clear G
 obtain ⟨hkb, hnb⟩ := hR
 refine wp_seq ?_
 refine qs ?_
 refine qm S rfl ?_; clear S a; intro a S
 refine qv S (pT b1 (0 + 1)) (x_fld (z := 0) (0) 1 Try.underlying28 rfl rfl (by kernel_rfl) (S.e rfl)) ?_; clear S a; intro a S
 refine qv S (sV t.links) (x_load ⟨_, Try.underlying24, rfl⟩ (S.e rfl) (K1.cell (j := 1) rfl)) ?_; clear S a; intro a S
 have hn3 : t.links.xs.length ≤ 9223372036854775807 := (t_w.2.1).1.len
 refine qv S (iN t.links.xs.length) (x_len Try.underlying24 (S.e rfl)) ?_; clear S a; intro a S
 refine qv S (bD (((k : Nat) : Int) < ((t.links.xs.length : Nat) : Int))) (x_lss (S.e rfl) (S.e rfl)) ?_; clear S a; intro a S
 refine qt ?_
 refine cond_dec S rfl ?_ ?_
 ·intro hc2
  refine wp_skip ?_
  refine then_n ?_
  refine wp_seq ?_
  refine wp_block ?_
  refine qs ?_
  refine qv S (pT b1 (0 + 1)) (x_fld (z := 0) (0) 1 Try.underlying28 rfl rfl (by kernel_rfl) (S.e rfl)) ?_; clear S a; intro a S
  refine qv S (sV t.links) (x_load ⟨_, Try.underlying24, rfl⟩ (S.e rfl) (K1.cell (j := 1) rfl)) ?_; clear S a; intro a S
  refine qm S rfl ?_; clear S a; intro a S
  refine qv S (pT (blk t.links.a) (off t.links.a + k * 3)) (x_idx Try.underlying24 (by kernel_rfl) (S.e rfl) (S.e rfl) k rfl (by omega) ((t_w.2.1).1.adr (i := k) (by omega))) ?_; clear S a; intro a S
  obtain ⟨hl4, hu4⟩ : inI64 ((t.links.xs.getD k lnkE.dflt).a) := id (((t_w.2.1).1.wf k (by omega)).1)
  obtain ⟨hl5, hu5⟩ : inI64 ((t.links.xs.getD k lnkE.dflt).b) := id (((t_w.2.1).1.wf k (by omega)).2.1)
  obtain ⟨hl6, hu6⟩ : inI64 ((t.links.xs.getD k lnkE.dflt).cost) := id (((t_w.2.1).1.wf k (by omega)).2.2)
  refine qv S _ (x_loadw [iI ((t.links.xs.getD k lnkE.dflt).a), iI ((t.links.xs.getD k lnkE.dflt).b), iI ((t.links.xs.getD k lnkE.dflt).cost)] ⟨_, Try.underlying54, rfl, by kernel_rfl⟩ (S.e rfl) ((t_w.2.1).1.wcell k (by omega) _ rfl _ rfl)) ?_; clear S a; intro a S
  refine seq_new S rfl rfl (by decide) (fun b => pT b 0) (cs := [iI 0, iI 0, iI 0]) (x_allocz [iI 0, iI 0, iI 0] infoz_54 rfl) ?_
  clear S a; intro a w4 b7 hb7 hbs7 G K7 S; have hbl7 : b7 < w4.heap.size := by omega
  have TT := Tr.fresh C.ms hb7 hbl7 G
  replace t_w := Enc.tr (topoE) t_w TT
  replace K1 := Blk.tr0 K1 G
  replace GL0 := GL0.trans TT
  replace C := C.trans TT
  clear TT G
  refine seq_storew S rfl rfl (vs := [iI ((t.links.xs.getD k lnkE.dflt).a), iI ((t.links.xs.getD k lnkE.dflt).b), iI ((t.links.xs.getD k lnkE.dflt).cost)]) (x_storew (by kernel_rfl) (S.e rfl) (S.e rfl) rfl K7 rfl) K7 ?_
  clear S a; intro a w5 G hz K S; clear hz; have TT := Tr.och C.ms G
  replace t_w := Enc.tr (topoE) t_w TT
  replace K1 := Blk.tr K1 G (C.ms.sep.out 1 [0] rfl rfl rfl)
  replace GL0 := GL0.trans TT
  replace C := C.trans TT
  clear K7; have K7 := K; clear K TT G
  refine qt ?_
  refine qs ?_
  refine qv S (pT b7 (0 + 0)) (x_fld (z := 0) (0) 0 Try.underlying54 rfl rfl (by kernel_rfl) (S.e rfl)) ?_; clear S a; intro a S
  refine qv S (iI ((t.links.xs.getD k lnkE.dflt).a)) (x_load ⟨_, Try.underlying3, rfl⟩ (S.e rfl) (K7.cell (j := 0) rfl)) ?_; clear S a; intro a S
  refine qv S (bD ((t.links.xs.getD k lnkE.dflt).a < 0)) (x_lss (S.e rfl) (S.e rfl)) ?_; clear S a; intro a S
  refine qm S rfl ?_; clear S a; intro a S
  refine qg S 56 rfl (¬ ((t.links.xs.getD k lnkE.dflt).a < 0)) gf (pT b7 (0 + 1)) (fun hg => (x_fld (z := 0) (0) 1 Try.underlying54 rfl rfl (by kernel_rfl) (S.e rfl))) ?_; clear S a; intro a S
  refine qg S 56 rfl (¬ ((t.links.xs.getD k lnkE.dflt).a < 0)) gf (iI ((t.links.xs.getD k lnkE.dflt).b)) (fun hg => (x_load ⟨_, Try.underlying3, rfl⟩ (S.p rfl hg) (K7.cell (j := 1) rfl))) ?_; clear S a; intro a S
  refine qg S 56 rfl (¬ ((t.links.xs.getD k lnkE.dflt).a < 0)) gf (pT b7 (0 + 0)) (fun hg => (x_fld (z := 0) (0) 0 Try.underlying54 rfl rfl (by kernel_rfl) (S.e rfl))) ?_; clear S a; intro a S
  refine qg S 56 rfl (¬ ((t.links.xs.getD k lnkE.dflt).a < 0)) gf (iI ((t.links.xs.getD k lnkE.dflt).a)) (fun hg => (x_load ⟨_, Try.underlying3, rfl⟩ (S.p rfl hg) (K7.cell (j := 0) rfl))) ?_; clear S a; intro a S
  refine qg S 56 rfl (¬ ((t.links.xs.getD k lnkE.dflt).a < 0)) gf (bD ((t.links.xs.getD k lnkE.dflt).b ≤ (t.links.xs.getD k lnkE.dflt).a)) (fun hg => (x_leq (S.p rfl hg) (S.p rfl hg))) ?_; clear S a; intro a S
  refine qv S (bD (((t.links.xs.getD k lnkE.dflt).a < 0) ∨ ((t.links.xs.getD k lnkE.dflt).b ≤ (t.links.xs.getD k lnkE.dflt).a))) (x_or (S.e rfl) (S.e rfl) (S.p rfl)) ?_; clear S a; intro a S
  refine qm S rfl ?_; clear S a; intro a S
  refine qg S 63 rfl (¬ (((t.links.xs.getD k lnkE.dflt).a < 0) ∨ ((t.links.xs.getD k lnkE.dflt).b ≤ (t.links.xs.getD k lnkE.dflt).a))) gf (pT b7 (0 + 1)) (fun hg => (x_fld (z := 0) (0) 1 Try.underlying54 rfl rfl (by kernel_rfl) (S.e rfl))) ?_; clear S a; intro a S
  refine qg S 63 rfl (¬ (((t.links.xs.getD k lnkE.dflt).a < 0) ∨ ((t.links.xs.getD k lnkE.dflt).b ≤ (t.links.xs.getD k lnkE.dflt).a))) gf (iI ((t.links.xs.getD k lnkE.dflt).b)) (fun hg => (x_load ⟨_, Try.underlying3, rfl⟩ (S.p rfl hg) (K7.cell (j := 1) rfl))) ?_; clear S a; intro a S
  refine qg S 63 rfl (¬ (((t.links.xs.getD k lnkE.dflt).a < 0) ∨ ((t.links.xs.getD k lnkE.dflt).b ≤ (t.links.xs.getD k lnkE.dflt).a))) gf (pT b1 (0 + 0)) (fun hg => (x_fld (z := 0) (0) 0 Try.underlying28 rfl rfl (by kernel_rfl) (S.e rfl))) ?_; clear S a; intro a S
  refine qg S 63 rfl (¬ (((t.links.xs.getD k lnkE.dflt).a < 0) ∨ ((t.links.xs.getD k lnkE.dflt).b ≤ (t.links.xs.getD k lnkE.dflt).a))) gf (sV t.devs) (fun hg => (x_load ⟨_, Try.underlying23, rfl⟩ (S.p rfl hg) (K1.cell (j := 0) rfl))) ?_; clear S a; intro a S
  refine qg S 63 rfl (¬ (((t.links.xs.getD k lnkE.dflt).a < 0) ∨ ((t.links.xs.getD k lnkE.dflt).b ≤ (t.links.xs.getD k lnkE.dflt).a))) gf (iN t.devs.xs.length) (fun hg => (x_len Try.underlying23 (S.p rfl hg))) ?_; clear S a; intro a S
  refine qg S 63 rfl (¬ (((t.links.xs.getD k lnkE.dflt).a < 0) ∨ ((t.links.xs.getD k lnkE.dflt).b ≤ (t.links.xs.getD k lnkE.dflt).a))) gf (bD (((t.devs.xs.length : Nat) : Int) ≤ (t.links.xs.getD k lnkE.dflt).b)) (fun hg => (x_geq (S.p rfl hg) (S.p rfl hg))) ?_; clear S a; intro a S
  refine qv S (bD ((((t.links.xs.getD k lnkE.dflt).a < 0) ∨ ((t.links.xs.getD k lnkE.dflt).b ≤ (t.links.xs.getD k lnkE.dflt).a)) ∨ (((t.devs.xs.length : Nat) : Int) ≤ (t.links.xs.getD k lnkE.dflt).b))) (x_or (S.e rfl) (S.e rfl) (S.p rfl)) ?_; clear S a; intro a S
  refine qm S rfl ?_; clear S a; intro a S
  refine qg S 71 rfl (¬ ((((t.links.xs.getD k lnkE.dflt).a < 0) ∨ ((t.links.xs.getD k lnkE.dflt).b ≤ (t.links.xs.getD k lnkE.dflt).a)) ∨ (((t.devs.xs.length : Nat) : Int) ≤ (t.links.xs.getD k lnkE.dflt).b))) gf (pT b7 (0 + 2)) (fun hg => (x_fld (z := 0) (0) 2 Try.underlying54 rfl rfl (by kernel_rfl) (S.e rfl))) ?_; clear S a; intro a S
  refine qg S 71 rfl (¬ ((((t.links.xs.getD k lnkE.dflt).a < 0) ∨ ((t.links.xs.getD k lnkE.dflt).b ≤ (t.links.xs.getD k lnkE.dflt).a)) ∨ (((t.devs.xs.length : Nat) : Int) ≤ (t.links.xs.getD k lnkE.dflt).b))) gf (iI ((t.links.xs.getD k lnkE.dflt).cost)) (fun hg => (x_load ⟨_, Try.underlying3, rfl⟩ (S.p rfl hg) (K7.cell (j := 2) rfl))) ?_; clear S a; intro a S
  refine qg S 71 rfl (¬ ((((t.links.xs.getD k lnkE.dflt).a < 0) ∨ ((t.links.xs.getD k lnkE.dflt).b ≤ (t.links.xs.getD k lnkE.dflt).a)) ∨ (((t.devs.xs.length : Nat) : Int) ≤ (t.links.xs.getD k lnkE.dflt).b))) gf (bD ((t.links.xs.getD k lnkE.dflt).cost < 1)) (fun hg => (x_lss (S.p rfl hg) (S.e rfl))) ?_; clear S a; intro a S
  refine qv S (bD (((((t.links.xs.getD k lnkE.dflt).a < 0) ∨ ((t.links.xs.getD k lnkE.dflt).b ≤ (t.links.xs.getD k lnkE.dflt).a)) ∨ (((t.devs.xs.length : Nat) : Int) ≤ (t.links.xs.getD k lnkE.dflt).b)) ∨ ((t.links.xs.getD k lnkE.dflt).cost < 1))) (x_or (S.e rfl) (S.e rfl) (S.p rfl)) ?_; clear S a; intro a S
  refine qm S rfl ?_; clear S a; intro a S
  refine qg S 76 rfl (¬ (((((t.links.xs.getD k lnkE.dflt).a < 0) ∨ ((t.links.xs.getD k lnkE.dflt).b ≤ (t.links.xs.getD k lnkE.dflt).a)) ∨ (((t.devs.xs.length : Nat) : Int) ≤ (t.links.xs.getD k lnkE.dflt).b)) ∨ ((t.links.xs.getD k lnkE.dflt).cost < 1))) gf (pT b7 (0 + 2)) (fun hg => (x_fld (z := 0) (0) 2 Try.underlying54 rfl rfl (by kernel_rfl) (S.e rfl))) ?_; clear S a; intro a S
  refine qg S 76 rfl (¬ (((((t.links.xs.getD k lnkE.dflt).a < 0) ∨ ((t.links.xs.getD k lnkE.dflt).b ≤ (t.links.xs.getD k lnkE.dflt).a)) ∨ (((t.devs.xs.length : Nat) : Int) ≤ (t.links.xs.getD k lnkE.dflt).b)) ∨ ((t.links.xs.getD k lnkE.dflt).cost < 1))) gf (iI ((t.links.xs.getD k lnkE.dflt).cost)) (fun hg => (x_load ⟨_, Try.underlying3, rfl⟩ (S.p rfl hg) (K7.cell (j := 2) rfl))) ?_; clear S a; intro a S
  refine qg S 76 rfl (¬ (((((t.links.xs.getD k lnkE.dflt).a < 0) ∨ ((t.links.xs.getD k lnkE.dflt).b ≤ (t.links.xs.getD k lnkE.dflt).a)) ∨ (((t.devs.xs.length : Nat) : Int) ≤ (t.links.xs.getD k lnkE.dflt).b)) ∨ ((t.links.xs.getD k lnkE.dflt).cost < 1))) gf (bD (1000 < (t.links.xs.getD k lnkE.dflt).cost)) (fun hg => (x_gtr (S.p rfl hg) (S.e rfl))) ?_; clear S a; intro a S
  refine qv S (bD ((((((t.links.xs.getD k lnkE.dflt).a < 0) ∨ ((t.links.xs.getD k lnkE.dflt).b ≤ (t.links.xs.getD k lnkE.dflt).a)) ∨ (((t.devs.xs.length : Nat) : Int) ≤ (t.links.xs.getD k lnkE.dflt).b)) ∨ ((t.links.xs.getD k lnkE.dflt).cost < 1)) ∨ (1000 < (t.links.xs.getD k lnkE.dflt).cost))) (x_or (S.e rfl) (S.e rfl) (S.p rfl)) ?_; clear S a; intro a S
  refine qt ?_
  refine cond_dec S rfl ?_ ?_
  ·intro hc3
   refine qs ?_
   refine qa S rfl ?_; clear S a; intro a S
   refine qt ?_
   refine wp_ret ?_
   refine blk_r ?_
   refine then_r ?_
   refine then_r ?_
   refine blk_r ?_
   refine then_r ?_
   refine ret1 rfl S rfl ?_
   have TD : Tr [one b7, one b1] w5 [] w5 := Tr.drop C.ms [] (by decide)
   have GD : Ch (In []) w5 w5 := Ch.refl _
   clear K1
   clear K7
   replace t_w := Enc.tr (topoE) t_w TD
   replace GL0 := GL0.trans TD
   replace C := C.trans TD
   clear TD GD
   refine ⟨(r1 (vf ?_)), C⟩
   rintro ⟨_, _, h, _⟩; have := h k (by omega); unfold lnkV at this; omega
  intro hc4
  refine wp_skip ?_
  refine blk_n ?_
  refine then_n ?_
  refine wp_region_lit ?_
  refine qm S rfl ?_; clear S a; intro a S
  refine qv S (iN (k + 1)) (x_add (S.e rfl) (S.e rfl) (r := ((k + 1 : Nat) : Int)) (w_i64 (by omega))) ?_; clear S a; intro a S
  refine qa S rfl ?_; clear S a; intro a S
  refine wpList_nil ?_
  have TD : Tr [one b7, one b1] w5 [one b1] w5 := Tr.drop C.ms [1] (by decide)
  have GD : Ch (In []) w5 w5 := Ch.refl _
  clear K7
  replace t_w := Enc.tr (topoE) t_w TD
  replace K1 := Blk.tr0 K1 GD
  replace GL0 := GL0.trans TD
  replace C := C.trans TD
  clear TD GD
  refine then_n ?_
  refine ⟨t.links.xs.length - (k + 1), ?_, k + 1, S.sub ⟨rfl, rfl, trivial⟩, GL0, ?_, K1, rfl⟩
  ·omega
  refine ⟨by omega, fun j hj => ?_⟩
  rcases Nat.lt_succ_iff_lt_or_eq.1 hj with h | h
  ·exact hnb j h
  subst h; unfold lnkV; omega
 intro hc5
 refine wp_exit ?_
 refine then_e ?_
 refine then_e ?_
 refine blk_e ?_
 refine then_n ?_
 refine wp_seq ?_
 refine qs ?_
 refine qa S rfl ?_; clear S a; intro a S
 refine qt ?_
 refine wp_block ?_
 refine wp_loop_ghost (fun m a wr => ∃ k : Nat, Slots 152 [(1, pT b1 0), (5, iN k)] a ∧ Tr [one b1] w3 [one b1] wr ∧ (k ≤ t.edges.xs.length ∧ ∀ j, j < k → edgAt t j) ∧ Blk wr.heap b1 (tL t) 28 ∧ (t.edges.xs.length - k) = m) (t.edges.xs.length - 0) ?_ ?_
 ·refine ⟨0, S.sub ⟨rfl, rfl, trivial⟩, Tr.refl C.ms, ?_, K1, rfl⟩
  exact ⟨Nat.zero_le _, fun j hj => by omega⟩
 rintro m a w6 ⟨k, S, G, hR, K1', rfl⟩
 clear K1; have K1 := K1'; clear K1'
 replace t_w := Enc.tr (topoE) t_w G
 replace GL0 := GL0.trans G
 replace C := C.trans G
 have GL1 := G; clear G
 obtain ⟨hkc, hnc⟩ := hR
 refine wp_seq ?_
 refine qs ?_
 refine qm S rfl ?_; clear S a; intro a S
 refine qv S (pT b1 (0 + 2)) (x_fld (z := 0) (0) 2 Try.underlying28 rfl rfl (by kernel_rfl) (S.e rfl)) ?_; clear S a; intro a S
 refine qv S (sV t.edges) (x_load ⟨_, Try.underlying25, rfl⟩ (S.e rfl) (K1.cell (j := 2) rfl)) ?_; clear S a; intro a S
 have hn8 : t.edges.xs.length ≤ 9223372036854775807 := (t_w.2.2.1).1.len
 refine qv S (iN t.edges.xs.length) (x_len Try.underlying25 (S.e rfl)) ?_; clear S a; intro a S
 refine qv S (bD (((k : Nat) : Int) < ((t.edges.xs.length : Nat) : Int))) (x_lss (S.e rfl) (S.e rfl)) ?_; clear S a; intro a S
 refine qt ?_
 refine cond_dec S rfl ?_ ?_
 ·intro hc6
  refine wp_skip ?_
  refine then_n ?_
  refine wp_seq ?_
  refine wp_block ?_
  refine wp_seq ?_
  replace S := S.sub (L' := [(1, pT b1 0), (5, iN k), (81, iN k), (82, pT b1 (0 + 2)), (83, sV t.edges), (84, iN t.edges.xs.length), (85, bD (((k : Nat) : Int) < ((t.edges.xs.length : Nat) : Int)))]) ⟨rfl, rfl, rfl, rfl, rfl, rfl, rfl, trivial⟩
  refine wp_heads (M := In []) S 22 [(88, iV (pT b1 (0 + 2))), (89, iV (sV t.edges)), (90, iV (iN k)), (91, iV (pT (blk t.edges.a) (off t.edges.a + k * 6))), (92, iV (.agg #[.string ((t.edges.xs.getD k edgE.dflt).name), iI ((t.edges.xs.getD k edgE.dflt).dev), .string ((t.edges.xs.getD k edgE.dflt).zone), .int .u32 ((t.edges.xs.getD k edgE.dflt).pfx.addr), iI ((t.edges.xs.getD k edgE.dflt).pfx.bits), bD ((t.edges.xs.getD k edgE.dflt).planned = true)])), (93, iV (pT b1 (0 + 0))), (94, iV (sV t.devs)), (95, iV (iN t.devs.xs.length)), (96, iV (bD (edgV (((t.devs.xs.length : Nat) : Int)).toNat (t.edges.xs.getD k edgE.dflt)))), (97, iV (bD (¬ (edgV (((t.devs.xs.length : Nat) : Int)).toNat (t.edges.xs.getD k edgE.dflt))))), (98, iV (bD (¬ (edgV (((t.devs.xs.length : Nat) : Int)).toNat (t.edges.xs.getD k edgE.dflt))))), (99, iV ((if (¬ (¬ (edgV (((t.devs.xs.length : Nat) : Int)).toNat (t.edges.xs.getD k edgE.dflt)))) then tV t else undef))), (100, iV ((if (¬ (¬ (edgV (((t.devs.xs.length : Nat) : Int)).toNat (t.edges.xs.getD k edgE.dflt)))) then pT b1 (0 + 2) else undef))), (101, iV ((if (¬ (¬ (edgV (((t.devs.xs.length : Nat) : Int)).toNat (t.edges.xs.getD k edgE.dflt)))) then sV t.edges else undef))), (102, iV ((if (¬ (¬ (edgV (((t.devs.xs.length : Nat) : Int)).toNat (t.edges.xs.getD k edgE.dflt)))) then iN k else undef))), (103, iV ((if (¬ (¬ (edgV (((t.devs.xs.length : Nat) : Int)).toNat (t.edges.xs.getD k edgE.dflt)))) then pT (blk t.edges.a) (off t.edges.a + k * 6) else undef))), (104, iV ((if (¬ (¬ (edgV (((t.devs.xs.length : Nat) : Int)).toNat (t.edges.xs.getD k edgE.dflt)))) then pT (blk t.edges.a) (off t.edges.a + k * 6 + 0) else undef))), (105, iV ((if (¬ (¬ (edgV (((t.devs.xs.length : Nat) : Int)).toNat (t.edges.xs.getD k edgE.dflt)))) then .string ((t.edges.xs.getD k edgE.dflt).name) else undef))), (106, iV ((if (¬ (¬ (edgV (((t.devs.xs.length : Nat) : Int)).toNat (t.edges.xs.getD k edgE.dflt)))) then iI (idxOf (fun x => decide (x.name = (t.edges.xs.getD k edgE.dflt).name)) t.edges.xs) else undef))), (107, iV ((if (¬ (¬ (edgV (((t.devs.xs.length : Nat) : Int)).toNat (t.edges.xs.getD k edgE.dflt)))) then iN k else undef))), (108, iV ((if (¬ (¬ (edgV (((t.devs.xs.length : Nat) : Int)).toNat (t.edges.xs.getD k edgE.dflt)))) then bD (¬ idxOf (fun x => decide (x.name = (t.edges.xs.getD k edgE.dflt).name)) t.edges.xs = ((k : Nat) : Int)) else undef))), (109, iV (bD ((¬ (edgV (((t.devs.xs.length : Nat) : Int)).toNat (t.edges.xs.getD k edgE.dflt))) ∨ (¬ idxOf (fun x => decide (x.name = (t.edges.xs.getD k edgE.dflt).name)) t.edges.xs = ((k : Nat) : Int)))))] (fun w => True) [[], [88], [], [89, 90], [91], [], [93], [94], [92, 95], [96], [97], [98], [98], [98, 100], [98], [98, 101, 102], [98, 103], [98, 104], [98, 99, 105], [98], [98, 106, 107], [98, 108]] [109] _ rfl mixed (by kernel_rfl) rfl trivial ?_ ?_
  ·refine ⟨?_, ?_, ?_, ?_, ?_, ?_, ?_, ?_, ?_, ?_, ?_, ?_, ?_, ?_, ?_, ?_, ?_, ?_, ?_, ?_, ?_, ?_, trivial⟩
   ·intro a w7 G I S hE
    have TT := Tr.of_ch C.ms G (fun _ h => by simp at h)
    replace t_w := Enc.tr (topoE) t_w TT
    replace K1 := Blk.tr0 K1 G
    replace C := C.trans TT
    exact qo (pT b1 (0 + 2)) (x_fld (z := 0) (0) 2 Try.underlying28 rfl rfl (by kernel_rfl) (S.e rfl)) I
   ·intro a w8 G I S hE
    have TT := Tr.of_ch C.ms G (fun _ h => by simp at h)
    replace t_w := Enc.tr (topoE) t_w TT
    replace K1 := Blk.tr0 K1 G
    replace C := C.trans TT
    obtain ⟨e88, _⟩ := hE
    replace S := S.ext e88
    exact qo (sV t.edges) (x_load ⟨_, Try.underlying25, rfl⟩ (S.e rfl) (K1.cell (j := 2) rfl)) I
   ·intro a w9 G I S hE
    have TT := Tr.of_ch C.ms G (fun _ h => by simp at h)
    replace C := C.trans TT
    exact qo (iN k) (x_move (S.e rfl)) I
   ·intro a w10 G I S hE
    have TT := Tr.of_ch C.ms G (fun _ h => by simp at h)
    replace t_w := Enc.tr (topoE) t_w TT
    replace C := C.trans TT
    obtain ⟨e89, e90, _⟩ := hE
    replace S := S.ext e89
    replace S := S.ext e90
    exact qo (pT (blk t.edges.a) (off t.edges.a + k * 6)) (x_idx Try.underlying25 (by kernel_rfl) (S.e rfl) (S.e rfl) k rfl (by omega) ((t_w.2.2.1).1.adr (i := k) (by omega))) I
   ·intro a w11 G I S hE
    have TT := Tr.of_ch C.ms G (fun _ h => by simp at h)
    replace t_w := Enc.tr (topoE) t_w TT
    replace C := C.trans TT
    obtain ⟨e91, _⟩ := hE
    replace S := S.ext e91
    obtain ⟨hl9, hu9⟩ : inI64 ((t.edges.xs.getD k edgE.dflt).dev) := id (((t_w.2.2.1).1.wf k (by omega)).2.1)
    obtain ⟨hl10, hu10⟩ : inU32 ((t.edges.xs.getD k edgE.dflt).pfx.addr) := id (((t_w.2.2.1).1.wf k (by omega)).2.2.2.1.1)
    obtain ⟨hl11, hu11⟩ : inI64 ((t.edges.xs.getD k edgE.dflt).pfx.bits) := id (((t_w.2.2.1).1.wf k (by omega)).2.2.2.1.2)
    exact qo (.agg #[.string ((t.edges.xs.getD k edgE.dflt).name), iI ((t.edges.xs.getD k edgE.dflt).dev), .string ((t.edges.xs.getD k edgE.dflt).zone), .int .u32 ((t.edges.xs.getD k edgE.dflt).pfx.addr), iI ((t.edges.xs.getD k edgE.dflt).pfx.bits), bD ((t.edges.xs.getD k edgE.dflt).planned = true)]) (x_loadw [.string ((t.edges.xs.getD k edgE.dflt).name), iI ((t.edges.xs.getD k edgE.dflt).dev), .string ((t.edges.xs.getD k edgE.dflt).zone), .int .u32 ((t.edges.xs.getD k edgE.dflt).pfx.addr), iI ((t.edges.xs.getD k edgE.dflt).pfx.bits), bD ((t.edges.xs.getD k edgE.dflt).planned = true)] ⟨_, Try.underlying71, rfl, by kernel_rfl⟩ (S.e rfl) ((t_w.2.2.1).1.wcell k (by omega) _ rfl _ rfl)) I
   ·intro a w12 G I S hE
    have TT := Tr.of_ch C.ms G (fun _ h => by simp at h)
    replace t_w := Enc.tr (topoE) t_w TT
    replace K1 := Blk.tr0 K1 G
    replace C := C.trans TT
    exact qo (pT b1 (0 + 0)) (x_fld (z := 0) (0) 0 Try.underlying28 rfl rfl (by kernel_rfl) (S.e rfl)) I
   ·intro a w13 G I S hE
    have TT := Tr.of_ch C.ms G (fun _ h => by simp at h)
    replace t_w := Enc.tr (topoE) t_w TT
    replace K1 := Blk.tr0 K1 G
    replace C := C.trans TT
    obtain ⟨e93, _⟩ := hE
    replace S := S.ext e93
    exact qo (sV t.devs) (x_load ⟨_, Try.underlying23, rfl⟩ (S.e rfl) (K1.cell (j := 0) rfl)) I
   ·intro a w14 G I S hE
    have TT := Tr.of_ch C.ms G (fun _ h => by simp at h)
    replace t_w := Enc.tr (topoE) t_w TT
    replace C := C.trans TT
    obtain ⟨e94, _⟩ := hE
    replace S := S.ext e94
    have hn12 : t.devs.xs.length ≤ 9223372036854775807 := (t_w.1).1.len
    exact qo (iN t.devs.xs.length) (x_len Try.underlying23 (S.e rfl)) I
   ·intro a w15 G I S hE
    have TT := Tr.of_ch C.ms G (fun _ h => by simp at h)
    replace t_w := Enc.tr (topoE) t_w TT
    replace C := C.trans TT
    obtain ⟨e92, e95, _⟩ := hE
    replace S := S.ext e92
    replace S := S.ext e95
    refine head_op rfl rfl (op_call (vs := #[.agg #[.string ((t.edges.xs.getD k edgE.dflt).name), iI ((t.edges.xs.getD k edgE.dflt).dev), .string ((t.edges.xs.getD k edgE.dflt).zone), .int .u32 ((t.edges.xs.getD k edgE.dflt).pfx.addr), iI ((t.edges.xs.getD k edgE.dflt).pfx.bits), bD ((t.edges.xs.getD k edgE.dflt).planned = true)], iN t.devs.xs.length]) (by simp only [List.map_toArray, List.map_cons, List.map_nil, show a.eval (.tmp 92) = .agg #[.string ((t.edges.xs.getD k edgE.dflt).name), iI ((t.edges.xs.getD k edgE.dflt).dev), .string ((t.edges.xs.getD k edgE.dflt).zone), .int .u32 ((t.edges.xs.getD k edgE.dflt).pfx.addr), iI ((t.edges.xs.getD k edgE.dflt).pfx.bits), bD ((t.edges.xs.getD k edgE.dflt).planned = true)] from (S.e rfl), show a.eval (.tmp 95) = iN t.devs.xs.length from (S.e rfl)]) callable_87 (rValidEdge _ (Ex F _) (C.old hF)  (MS.nil _) (t.edges.xs.getD k edgE.dflt) ((edgE).down0 ((t_w.2.2.1).1.wf k (by omega))) ((t.devs.xs.length : Nat) : Int) ⟨by omega, by omega⟩ (by omega)) ?_)
    rintro e w2 ⟨rfl, T0⟩; exact ⟨_, rfl, Done.mk' rfl (by decide) (show _ = _ from rfl) T0.ch trivial⟩
   ·intro a w16 G I S hE
    have TT := Tr.of_ch C.ms G (fun _ h => by simp at h)
    replace C := C.trans TT
    obtain ⟨e96, _⟩ := hE
    replace S := S.ext e96
    exact qo (bD (¬ (edgV (((t.devs.xs.length : Nat) : Int)).toNat (t.edges.xs.getD k edgE.dflt)))) (x_notp (S.e rfl)) I
   ·intro a w17 G I S hE
    have TT := Tr.of_ch C.ms G (fun _ h => by simp at h)
    replace C := C.trans TT
    obtain ⟨e97, _⟩ := hE
    replace S := S.ext e97
    exact qo (bD (¬ (edgV (((t.devs.xs.length : Nat) : Int)).toNat (t.edges.xs.getD k edgE.dflt)))) (x_move (S.e rfl)) I
   ·intro a w18 G I S hE
    have TT := Tr.of_ch C.ms G (fun _ h => by simp at h)
    replace t_w := Enc.tr (topoE) t_w TT
    replace K1 := Blk.tr0 K1 G
    replace C := C.trans TT
    obtain ⟨e98, _⟩ := hE
    replace S := S.ext e98
    refine (Classical.em (¬ (¬ (edgV (((t.devs.xs.length : Nat) : Int)).toNat (t.edges.xs.getD k edgE.dflt))))).symm.elim (fun hg => ?_) fun hg => ?_
    ·exact qn S 98 rfl (fun h => hg (gf.2 h)) I
    exact qy S 98 rfl (gf.1 hg) (tV t) (x_loadw (tL t) ⟨_, Try.underlying28, rfl, by kernel_rfl⟩ (S.e rfl) (K1.mid [] (tL t) [] rfl _ rfl)) I
   ·intro a w19 G I S hE
    have TT := Tr.of_ch C.ms G (fun _ h => by simp at h)
    replace t_w := Enc.tr (topoE) t_w TT
    replace K1 := Blk.tr0 K1 G
    replace C := C.trans TT
    obtain ⟨e98, _⟩ := hE
    replace S := S.ext e98
    refine (Classical.em (¬ (¬ (edgV (((t.devs.xs.length : Nat) : Int)).toNat (t.edges.xs.getD k edgE.dflt))))).symm.elim (fun hg => ?_) fun hg => ?_
    ·exact qn S 98 rfl (fun h => hg (gf.2 h)) I
    exact qy S 98 rfl (gf.1 hg) (pT b1 (0 + 2)) (x_fld (z := 0) (0) 2 Try.underlying28 rfl rfl (by kernel_rfl) (S.e rfl)) I
   ·intro a w20 G I S hE
    have TT := Tr.of_ch C.ms G (fun _ h => by simp at h)
    replace t_w := Enc.tr (topoE) t_w TT
    replace K1 := Blk.tr0 K1 G
    replace C := C.trans TT
    obtain ⟨e98, e100, _⟩ := hE
    replace S := S.ext e98
    replace S := S.ext e100
    refine (Classical.em (¬ (¬ (edgV (((t.devs.xs.length : Nat) : Int)).toNat (t.edges.xs.getD k edgE.dflt))))).symm.elim (fun hg => ?_) fun hg => ?_
    ·exact qn S 98 rfl (fun h => hg (gf.2 h)) I
    exact qy S 98 rfl (gf.1 hg) (sV t.edges) (x_load ⟨_, Try.underlying25, rfl⟩ (S.p rfl hg) (K1.cell (j := 2) rfl)) I
   ·intro a w21 G I S hE
    have TT := Tr.of_ch C.ms G (fun _ h => by simp at h)
    replace C := C.trans TT
    obtain ⟨e98, _⟩ := hE
    replace S := S.ext e98
    refine (Classical.em (¬ (¬ (edgV (((t.devs.xs.length : Nat) : Int)).toNat (t.edges.xs.getD k edgE.dflt))))).symm.elim (fun hg => ?_) fun hg => ?_
    ·exact qn S 98 rfl (fun h => hg (gf.2 h)) I
    exact qy S 98 rfl (gf.1 hg) (iN k) (x_move (S.e rfl)) I
   ·intro a w22 G I S hE
    have TT := Tr.of_ch C.ms G (fun _ h => by simp at h)
    replace t_w := Enc.tr (topoE) t_w TT
    replace C := C.trans TT
    obtain ⟨e98, e101, e102, _⟩ := hE
    replace S := S.ext e98
    replace S := S.ext e101
    replace S := S.ext e102
    refine (Classical.em (¬ (¬ (edgV (((t.devs.xs.length : Nat) : Int)).toNat (t.edges.xs.getD k edgE.dflt))))).symm.elim (fun hg => ?_) fun hg => ?_
    ·exact qn S 98 rfl (fun h => hg (gf.2 h)) I
    exact qy S 98 rfl (gf.1 hg) (pT (blk t.edges.a) (off t.edges.a + k * 6)) (x_idx Try.underlying25 (by kernel_rfl) (S.p rfl hg) (S.p rfl hg) k rfl (by omega) ((t_w.2.2.1).1.adr (i := k) (by omega))) I
   ·intro a w23 G I S hE
    have TT := Tr.of_ch C.ms G (fun _ h => by simp at h)
    replace t_w := Enc.tr (topoE) t_w TT
    replace C := C.trans TT
    obtain ⟨e98, e103, _⟩ := hE
    replace S := S.ext e98
    replace S := S.ext e103
    refine (Classical.em (¬ (¬ (edgV (((t.devs.xs.length : Nat) : Int)).toNat (t.edges.xs.getD k edgE.dflt))))).symm.elim (fun hg => ?_) fun hg => ?_
    ·exact qn S 98 rfl (fun h => hg (gf.2 h)) I
    exact qy S 98 rfl (gf.1 hg) (pT (blk t.edges.a) (off t.edges.a + k * 6 + 0)) (x_fld (z := 0) (off t.edges.a + k * 6) 0 Try.underlying71 rfl rfl (by kernel_rfl) (S.p rfl hg)) I
   ·intro a w24 G I S hE
    have TT := Tr.of_ch C.ms G (fun _ h => by simp at h)
    replace t_w := Enc.tr (topoE) t_w TT
    replace C := C.trans TT
    obtain ⟨e98, e104, _⟩ := hE
    replace S := S.ext e98
    replace S := S.ext e104
    refine (Classical.em (¬ (¬ (edgV (((t.devs.xs.length : Nat) : Int)).toNat (t.edges.xs.getD k edgE.dflt))))).symm.elim (fun hg => ?_) fun hg => ?_
    ·exact qn S 98 rfl (fun h => hg (gf.2 h)) I
    exact qy S 98 rfl (gf.1 hg) (.string ((t.edges.xs.getD k edgE.dflt).name)) (x_load ⟨_, Try.underlying9, rfl⟩ (S.p rfl hg) ((t_w.2.2.1).1.cell k (by omega) 0 _ rfl)) I
   ·intro a w25 G I S hE
    have TT := Tr.of_ch C.ms G (fun _ h => by simp at h)
    replace t_w := Enc.tr (topoE) t_w TT
    replace C := C.trans TT
    obtain ⟨e98, e99, e105, _⟩ := hE
    replace S := S.ext e98
    replace S := S.ext e99
    replace S := S.ext e105
    refine (Classical.em (¬ (¬ (edgV (((t.devs.xs.length : Nat) : Int)).toNat (t.edges.xs.getD k edgE.dflt))))).symm.elim (fun hg => ?_) fun hg => ?_
    ·exact qn S 98 rfl (fun h => hg (gf.2 h)) I
    refine head_yes rfl rfl rfl rfl (by rw [S.size]; decide) (gv := bD (¬ (edgV (((t.devs.xs.length : Nat) : Int)).toNat (t.edges.xs.getD k edgE.dflt)))) (S.get 98 _ rfl) (gf.1 hg) (op_call (vs := #[tV t, .string ((t.edges.xs.getD k edgE.dflt).name)]) (by simp only [List.map_toArray, List.map_cons, List.map_nil, show a.eval (.tmp 99) = tV t from (S.p rfl hg), show a.eval (.tmp 105) = .string ((t.edges.xs.getD k edgE.dflt).name) from (S.p rfl hg)]) callable_88 (r11Edge _ (Ex F _) (C.old hF)  (MS.nil _) t ((topoE).down0 t_w) ((t.edges.xs.getD k edgE.dflt).name) ((t_w.2.2.1).1.wf k (by omega)).1) ?_)
    rintro e w2 ⟨rfl, T0⟩; exact ⟨_, rfl, Done.mk' rfl (by decide) (show _ = _ from (if_pos hg).symm) T0.ch trivial⟩
   ·intro a w26 G I S hE
    have TT := Tr.of_ch C.ms G (fun _ h => by simp at h)
    replace C := C.trans TT
    obtain ⟨e98, _⟩ := hE
    replace S := S.ext e98
    refine (Classical.em (¬ (¬ (edgV (((t.devs.xs.length : Nat) : Int)).toNat (t.edges.xs.getD k edgE.dflt))))).symm.elim (fun hg => ?_) fun hg => ?_
    ·exact qn S 98 rfl (fun h => hg (gf.2 h)) I
    exact qy S 98 rfl (gf.1 hg) (iN k) (x_move (S.e rfl)) I
   ·intro a w27 G I S hE
    have TT := Tr.of_ch C.ms G (fun _ h => by simp at h)
    replace C := C.trans TT
    obtain ⟨e98, e106, e107, _⟩ := hE
    replace S := S.ext e98
    replace S := S.ext e106
    replace S := S.ext e107
    refine (Classical.em (¬ (¬ (edgV (((t.devs.xs.length : Nat) : Int)).toNat (t.edges.xs.getD k edgE.dflt))))).symm.elim (fun hg => ?_) fun hg => ?_
    ·exact qn S 98 rfl (fun h => hg (gf.2 h)) I
    exact qy S 98 rfl (gf.1 hg) (bD (¬ idxOf (fun x => decide (x.name = (t.edges.xs.getD k edgE.dflt).name)) t.edges.xs = ((k : Nat) : Int))) (x_neq (S.p rfl hg) (S.p rfl hg)) I
   intro a w28 G I S hE
   have TT := Tr.of_ch C.ms G (fun _ h => by simp at h)
   replace C := C.trans TT
   obtain ⟨e98, e108, _⟩ := hE
   replace S := S.ext e98
   replace S := S.ext e108
   exact qo (bD ((¬ (edgV (((t.devs.xs.length : Nat) : Int)).toNat (t.edges.xs.getD k edgE.dflt))) ∨ (¬ idxOf (fun x => decide (x.name = (t.edges.xs.getD k edgE.dflt).name)) t.edges.xs = ((k : Nat) : Int)))) (x_or (S.e rfl) (S.e rfl) (S.p rfl)) I
  clear S a; intro a w29 G I S hE; have TT := Tr.of_ch C.ms G (fun _ h => by simp at h)
  replace t_w := Enc.tr (topoE) t_w TT
  replace K1 := Blk.tr0 K1 G
  replace GL0 := GL0.trans TT
  replace GL1 := GL1.trans TT
  replace C := C.trans TT
  clear TT G
  obtain ⟨e109, -⟩ := hE
  replace S := S.ext e109
  clear e109
  refine qt ?_
  refine cond_dec S rfl ?_ ?_
  ·intro hc7
   refine qs ?_
   refine qa S rfl ?_; clear S a; intro a S
   refine qt ?_
   refine wp_ret ?_
   refine blk_r ?_
   refine then_r ?_
   refine then_r ?_
   refine blk_r ?_
   refine then_r ?_
   refine ret1 rfl S rfl ?_
   have TD : Tr [one b1] w29 [] w29 := Tr.drop C.ms [] (by decide)
   have GD : Ch (In []) w29 w29 := Ch.refl _
   clear K1
   replace t_w := Enc.tr (topoE) t_w TD
   replace GL0 := GL0.trans TD
   replace GL1 := GL1.trans TD
   replace C := C.trans TD
   clear TD GD
   refine ⟨(r1 (vf ?_)), C⟩
   rintro ⟨_, _, _, h, _⟩; have := h k (by omega); unfold edgAt at this; simp only [Int.toNat_natCast] at hc7; rcases hc7 with h1 | h1
   ·exact h1 this.1
   exact h1 this.2
  intro hc8
  refine wp_skip ?_
  refine blk_n ?_
  refine then_n ?_
  refine wp_region_lit ?_
  refine qm S rfl ?_; clear S a; intro a S
  refine qv S (iN (k + 1)) (x_add (S.e rfl) (S.e rfl) (r := ((k + 1 : Nat) : Int)) (w_i64 (by omega))) ?_; clear S a; intro a S
  refine qa S rfl ?_; clear S a; intro a S
  refine qt ?_
  refine ⟨t.edges.xs.length - (k + 1), ?_, k + 1, S.sub ⟨rfl, rfl, trivial⟩, GL1, ?_, K1, rfl⟩
  ·omega
  refine ⟨by omega, fun j hj => ?_⟩
  rcases Nat.lt_succ_iff_lt_or_eq.1 hj with h | h
  ·exact hnc j h
  subst h; have hq := hc8; simp only [not_or, Classical.not_not, Int.toNat_natCast] at hq; exact ⟨hq.1, hq.2⟩
 intro hc9
 refine wp_exit ?_
 refine then_e ?_
 refine then_e ?_
 refine blk_e ?_
 refine then_n ?_
 refine qs ?_
 refine qv S _ (x_loadw (tL t) ⟨_, Try.underlying28, rfl, by kernel_rfl⟩ (S.e rfl) (K1.mid [] _ [] rfl _ rfl)) ?_; clear S a; intro a S
 refine seq_call S (by decide) (vs := #[tV t]) rfl callable_89 (r11Fixed _ (Ex F _) (C.old hF)  (MS.nil _) t ((topoE).down0 t_w) (by omega)) ?_
 rintro e w30 ⟨ra_13, rc_13, rfl, R_13, T0⟩; refine ⟨_, rfl, ?_⟩; clear S a; intro a S
 have TT := Tr.framed0 C.ms T0; have G := T0.ch
 replace t_w := Enc.tr (topoE) t_w TT
 replace K1 := Blk.tr0 K1 G
 replace GL0 := GL0.trans TT
 replace GL1 := GL1.trans TT
 replace C := C.trans TT
 replace R_13 := Enc.up (slE pfxE) R_13
 clear T0 G TT
 have hn14 : (fixedOf t.edges.xs).length ≤ 9223372036854775807 := (R_13).1.len
 refine qa S rfl ?_; clear S a; intro a S
 refine qt ?_
 refine wp_seq ?_
 refine qs ?_
 refine qa S rfl ?_; clear S a; intro a S
 refine qt ?_
 refine wp_block ?_
 refine wp_loop_ghost (fun m a wr => ∃ k : Nat, Slots 152 [(1, pT b1 0), (6, .slice ra_13 ((fixedOf t.edges.xs).length) rc_13), (7, iN k)] a ∧ Tr [one b1] w30 [one b1] wr ∧ (k ≤ (fixedOf t.edges.xs).length ∧ ∀ j, j < k → ∀ i, i < j → ¬ meets ((fixedOf t.edges.xs).getD j pfxE.dflt) ((fixedOf t.edges.xs).getD i pfxE.dflt)) ∧ Blk wr.heap b1 (tL t) 28 ∧ ((fixedOf t.edges.xs).length - k) = m) ((fixedOf t.edges.xs).length - 0) ?_ ?_
 ·refine ⟨0, S.sub ⟨rfl, rfl, rfl, trivial⟩, Tr.refl C.ms, ?_, K1, rfl⟩
  exact ⟨Nat.zero_le _, fun j hj => by omega⟩
 rintro m a w31 ⟨k, S, G, hR, K1', rfl⟩
 clear K1; have K1 := K1'; clear K1'
 replace t_w := Enc.tr (topoE) t_w G
 replace R_13 := Enc.tr (slE pfxE) R_13 G
 replace GL0 := GL0.trans G
 replace GL1 := GL1.trans G
 replace C := C.trans G
 have GL2 := G; clear G
 obtain ⟨hkd, hnd⟩ := hR
 refine wp_seq ?_
 refine qs ?_
 refine qm S rfl ?_; clear S a; intro a S
 refine qm S rfl ?_; clear S a; intro a S
 refine qv S (iN (fixedOf t.edges.xs).length) (x_len Try.underlying26 (S.e rfl)) ?_; clear S a; intro a S
 refine qv S (bD (((k : Nat) : Int) < (((fixedOf t.edges.xs).length : Nat) : Int))) (x_lss (S.e rfl) (S.e rfl)) ?_; clear S a; intro a S
 refine qt ?_
 refine cond_dec S rfl ?_ ?_
 ·intro hc10
  refine wp_skip ?_
  refine then_n ?_
  refine wp_seq ?_
  refine wp_block ?_
  refine wp_seq ?_
  replace S := S.sub (L' := [(1, pT b1 0), (6, .slice ra_13 ((fixedOf t.edges.xs).length) rc_13), (7, iN k), (112, iN k), (113, .slice ra_13 ((fixedOf t.edges.xs).length) rc_13), (114, iN (fixedOf t.edges.xs).length), (115, bD (((k : Nat) : Int) < (((fixedOf t.edges.xs).length : Nat) : Int)))]) ⟨rfl, rfl, rfl, rfl, rfl, rfl, rfl, trivial⟩
  refine wp_heads (M := In []) S 8 [(118, iV (.slice ra_13 ((fixedOf t.edges.xs).length) rc_13)), (119, iV (iN k)), (120, iV (pT (blk ra_13) (off ra_13 + k * 2))), (121, iV (.agg #[.int .u32 (((fixedOf t.edges.xs).getD k pfxE.dflt).addr), iI (((fixedOf t.edges.xs).getD k pfxE.dflt).bits)])), (122, iV (.slice ra_13 ((fixedOf t.edges.xs).length) rc_13)), (123, iV (iN k)), (124, iV (.slice ra_13 (((fixedOf t.edges.xs).take k).length) rc_13)), (125, iV (bD (∃ q ∈ ((fixedOf t.edges.xs).take k), meets ((fixedOf t.edges.xs).getD k pfxE.dflt) q)))] (fun w => True) [[], [], [118, 119], [120], [], [], [122, 123], [121, 124]] [125] _ rfl mixed (by kernel_rfl) rfl trivial ?_ ?_
  ·refine ⟨?_, ?_, ?_, ?_, ?_, ?_, ?_, ?_, trivial⟩
   ·intro a w32 G I S hE
    have TT := Tr.of_ch C.ms G (fun _ h => by simp at h)
    replace R_13 := Enc.tr (slE pfxE) R_13 TT
    replace C := C.trans TT
    exact qo (.slice ra_13 ((fixedOf t.edges.xs).length) rc_13) (x_move (S.e rfl)) I
   ·intro a w33 G I S hE
    have TT := Tr.of_ch C.ms G (fun _ h => by simp at h)
    replace C := C.trans TT
    exact qo (iN k) (x_move (S.e rfl)) I
   ·intro a w34 G I S hE
    have TT := Tr.of_ch C.ms G (fun _ h => by simp at h)
    replace R_13 := Enc.tr (slE pfxE) R_13 TT
    replace C := C.trans TT
    obtain ⟨e118, e119, _⟩ := hE
    replace S := S.ext e118
    replace S := S.ext e119
    exact qo (pT (blk ra_13) (off ra_13 + k * 2)) (x_idx Try.underlying26 (by kernel_rfl) (S.e rfl) (S.e rfl) k rfl (by omega) ((show LAt pfxE _ _ ra_13 (fixedOf t.edges.xs) from (R_13).1).adr (i := k) (by omega))) I
   ·intro a w35 G I S hE
    have TT := Tr.of_ch C.ms G (fun _ h => by simp at h)
    replace R_13 := Enc.tr (slE pfxE) R_13 TT
    replace C := C.trans TT
    obtain ⟨e120, _⟩ := hE
    replace S := S.ext e120
    obtain ⟨hl15, hu15⟩ : inU32 (((fixedOf t.edges.xs).getD k pfxE.dflt).addr) := id (((show LAt pfxE _ _ ra_13 (fixedOf t.edges.xs) from (R_13).1).wf k (by omega)).1)
    obtain ⟨hl16, hu16⟩ : inI64 (((fixedOf t.edges.xs).getD k pfxE.dflt).bits) := id (((show LAt pfxE _ _ ra_13 (fixedOf t.edges.xs) from (R_13).1).wf k (by omega)).2)
    exact qo (.agg #[.int .u32 (((fixedOf t.edges.xs).getD k pfxE.dflt).addr), iI (((fixedOf t.edges.xs).getD k pfxE.dflt).bits)]) (x_loadw [.int .u32 (((fixedOf t.edges.xs).getD k pfxE.dflt).addr), iI (((fixedOf t.edges.xs).getD k pfxE.dflt).bits)] ⟨_, Try.underlying68, rfl, by kernel_rfl⟩ (S.e rfl) ((show LAt pfxE _ _ ra_13 (fixedOf t.edges.xs) from (R_13).1).wcell k (by omega) _ rfl _ rfl)) I
   ·intro a w36 G I S hE
    have TT := Tr.of_ch C.ms G (fun _ h => by simp at h)
    replace R_13 := Enc.tr (slE pfxE) R_13 TT
    replace C := C.trans TT
    exact qo (.slice ra_13 ((fixedOf t.edges.xs).length) rc_13) (x_move (S.e rfl)) I
   ·intro a w37 G I S hE
    have TT := Tr.of_ch C.ms G (fun _ h => by simp at h)
    replace C := C.trans TT
    exact qo (iN k) (x_move (S.e rfl)) I
   ·intro a w38 G I S hE
    have TT := Tr.of_ch C.ms G (fun _ h => by simp at h)
    replace R_13 := Enc.tr (slE pfxE) R_13 TT
    replace C := C.trans TT
    obtain ⟨e122, e123, _⟩ := hE
    replace S := S.ext e122
    replace S := S.ext e123
    have hk17 : ((fixedOf t.edges.xs).take k).length = k := by rw [List.length_take]; omega
    exact qo (.slice ra_13 (((fixedOf t.edges.xs).take k).length) rc_13) (x_slhn Try.underlying26 infoz_68 (S.e rfl) (S.e rfl) k rfl (Nat.le_trans (by omega) (R_13).2.1) (R_13).2.2 _ (by rw [List.length_take]; omega)) I
   intro a w39 G I S hE
   have TT := Tr.of_ch C.ms G (fun _ h => by simp at h)
   replace R_13 := Enc.tr (slE pfxE) R_13 TT
   replace C := C.trans TT
   obtain ⟨e121, e124, _⟩ := hE
   replace S := S.ext e121
   replace S := S.ext e124
   refine head_op rfl rfl (op_call (vs := #[.agg #[.int .u32 (((fixedOf t.edges.xs).getD k pfxE.dflt).addr), iI (((fixedOf t.edges.xs).getD k pfxE.dflt).bits)], .slice ra_13 (((fixedOf t.edges.xs).take k).length) rc_13]) (by simp only [List.map_toArray, List.map_cons, List.map_nil, show a.eval (.tmp 121) = .agg #[.int .u32 (((fixedOf t.edges.xs).getD k pfxE.dflt).addr), iI (((fixedOf t.edges.xs).getD k pfxE.dflt).bits)] from (S.e rfl), show a.eval (.tmp 124) = .slice ra_13 (((fixedOf t.edges.xs).take k).length) rc_13 from (S.e rfl)]) callable_90 (r11meets _ (Ex F _) (C.old hF)  (MS.nil _) ((fixedOf t.edges.xs).getD k pfxE.dflt) ((pfxE).down0 ((show LAt pfxE _ _ ra_13 (fixedOf t.edges.xs) from (R_13).1).wf k (by omega))) (Sl.mk ra_13 rc_13 ((fixedOf t.edges.xs).take k)) ((slE pfxE).down0 (sl_take R_13 k (by omega)))) ?_)
   rintro e w2 ⟨rfl, T0⟩; exact ⟨_, rfl, Done.mk' rfl (by decide) (show _ = _ from rfl) T0.ch trivial⟩
  clear S a; intro a w40 G I S hE; have TT := Tr.of_ch C.ms G (fun _ h => by simp at h)
  replace t_w := Enc.tr (topoE) t_w TT
  replace R_13 := Enc.tr (slE pfxE) R_13 TT
  replace K1 := Blk.tr0 K1 G
  replace GL0 := GL0.trans TT
  replace GL1 := GL1.trans TT
  replace GL2 := GL2.trans TT
  replace C := C.trans TT
  clear TT G
  obtain ⟨e125, -⟩ := hE
  replace S := S.ext e125
  clear e125
  refine qt ?_
  refine cond_dec S rfl ?_ ?_
  ·intro hc11
   refine qs ?_
   refine qa S rfl ?_; clear S a; intro a S
   refine qt ?_
   refine wp_ret ?_
   refine blk_r ?_
   refine then_r ?_
   refine then_r ?_
   refine blk_r ?_
   refine then_r ?_
   refine ret1 rfl S rfl ?_
   have TD : Tr [one b1] w40 [] w40 := Tr.drop C.ms [] (by decide)
   have GD : Ch (In []) w40 w40 := Ch.refl _
   clear K1
   replace t_w := Enc.tr (topoE) t_w TD
   replace R_13 := Enc.tr (slE pfxE) R_13 TD
   replace GL0 := GL0.trans TD
   replace GL1 := GL1.trans TD
   replace GL2 := GL2.trans TD
   replace C := C.trans TD
   clear TD GD
   refine ⟨(r1 (vf ?_)), C⟩
   rintro ⟨_, _, _, _, h, _⟩; obtain ⟨j, hj, hm⟩ := (ex_take pfxE.dflt _ _ _ (by omega)).1 hc11; exact (fixed_iff _).1 h k (by omega) j hj hm
  intro hc12
  refine wp_skip ?_
  refine blk_n ?_
  refine then_n ?_
  refine wp_region_lit ?_
  refine qm S rfl ?_; clear S a; intro a S
  refine qv S (iN (k + 1)) (x_add (S.e rfl) (S.e rfl) (r := ((k + 1 : Nat) : Int)) (w_i64 (by omega))) ?_; clear S a; intro a S
  refine qa S rfl ?_; clear S a; intro a S
  refine qt ?_
  refine ⟨(fixedOf t.edges.xs).length - (k + 1), ?_, k + 1, S.sub ⟨rfl, rfl, rfl, trivial⟩, GL2, ?_, K1, rfl⟩
  ·omega
  refine ⟨by omega, fun j hj => ?_⟩
  rcases Nat.lt_succ_iff_lt_or_eq.1 hj with h | h
  ·exact hnd j h
  subst h; intro i hi hm; exact hc12 ((ex_take pfxE.dflt _ _ _ (by omega)).2 ⟨i, hi, hm⟩)
 intro hc13
 refine wp_exit ?_
 refine then_e ?_
 refine then_e ?_
 refine blk_e ?_
 refine then_n ?_
 refine wp_seq ?_
 refine qs ?_
 refine qa S rfl ?_; clear S a; intro a S
 refine qt ?_
 refine wp_block ?_
 refine wp_loop_ghost (fun m a wr => ∃ k : Nat, Slots 152 [(1, pT b1 0), (8, iN k)] a ∧ Tr [one b1] w31 [one b1] wr ∧ (k ≤ t.pools.xs.length ∧ ∀ j, j < k → polAt t.pools.xs j) ∧ Blk wr.heap b1 (tL t) 28 ∧ (t.pools.xs.length - k) = m) (t.pools.xs.length - 0) ?_ ?_
 ·refine ⟨0, S.sub ⟨rfl, rfl, trivial⟩, Tr.refl C.ms, ?_, K1, rfl⟩
  exact ⟨Nat.zero_le _, fun j hj => by omega⟩
 rintro m a w41 ⟨k, S, G, hR, K1', rfl⟩
 clear K1; have K1 := K1'; clear K1'
 replace t_w := Enc.tr (topoE) t_w G
 replace R_13 := Enc.tr (slE pfxE) R_13 G
 replace GL0 := GL0.trans G
 replace GL1 := GL1.trans G
 replace GL2 := GL2.trans G
 replace C := C.trans G
 have GL3 := G; clear G
 obtain ⟨hke, hne⟩ := hR
 refine wp_seq ?_
 refine qs ?_
 refine qm S rfl ?_; clear S a; intro a S
 refine qv S (pT b1 (0 + 3)) (x_fld (z := 0) (0) 3 Try.underlying28 rfl rfl (by kernel_rfl) (S.e rfl)) ?_; clear S a; intro a S
 refine qv S (sV t.pools) (x_load ⟨_, Try.underlying26, rfl⟩ (S.e rfl) (K1.cell (j := 3) rfl)) ?_; clear S a; intro a S
 have hn18 : t.pools.xs.length ≤ 9223372036854775807 := (t_w.2.2.2.1).1.len
 refine qv S (iN t.pools.xs.length) (x_len Try.underlying26 (S.e rfl)) ?_; clear S a; intro a S
 refine qv S (bD (((k : Nat) : Int) < ((t.pools.xs.length : Nat) : Int))) (x_lss (S.e rfl) (S.e rfl)) ?_; clear S a; intro a S
 refine qt ?_
 refine cond_dec S rfl ?_ ?_
 ·intro hc14
  refine wp_skip ?_
  refine then_n ?_
  refine wp_seq ?_
  refine wp_block ?_
  refine wp_seq ?_
  replace S := S.sub (L' := [(1, pT b1 0), (8, iN k), (126, iN k), (127, pT b1 (0 + 3)), (128, sV t.pools), (129, iN t.pools.xs.length), (130, bD (((k : Nat) : Int) < ((t.pools.xs.length : Nat) : Int)))]) ⟨rfl, rfl, rfl, rfl, rfl, rfl, rfl, trivial⟩
  refine wp_heads (M := In []) S 19 [(133, iV (pT b1 (0 + 3))), (134, iV (sV t.pools)), (135, iV (iN k)), (136, iV (pT (blk t.pools.a) (off t.pools.a + k * 2))), (137, iV (.agg #[.int .u32 ((t.pools.xs.getD k pfxE.dflt).addr), iI ((t.pools.xs.getD k pfxE.dflt).bits)])), (138, iV (bD (pfxV (t.pools.xs.getD k pfxE.dflt)))), (139, iV (bD (¬ (pfxV (t.pools.xs.getD k pfxE.dflt))))), (140, iV (bD (¬ (pfxV (t.pools.xs.getD k pfxE.dflt))))), (141, iV ((if (¬ (¬ (pfxV (t.pools.xs.getD k pfxE.dflt)))) then pT b1 (0 + 3) else undef))), (142, iV ((if (¬ (¬ (pfxV (t.pools.xs.getD k pfxE.dflt)))) then sV t.pools else undef))), (143, iV ((if (¬ (¬ (pfxV (t.pools.xs.getD k pfxE.dflt)))) then iN k else undef))), (144, iV ((if (¬ (¬ (pfxV (t.pools.xs.getD k pfxE.dflt)))) then pT (blk t.pools.a) (off t.pools.a + k * 2) else undef))), (145, iV ((if (¬ (¬ (pfxV (t.pools.xs.getD k pfxE.dflt)))) then .agg #[.int .u32 ((t.pools.xs.getD k pfxE.dflt).addr), iI ((t.pools.xs.getD k pfxE.dflt).bits)] else undef))), (146, iV ((if (¬ (¬ (pfxV (t.pools.xs.getD k pfxE.dflt)))) then pT b1 (0 + 3) else undef))), (147, iV ((if (¬ (¬ (pfxV (t.pools.xs.getD k pfxE.dflt)))) then sV t.pools else undef))), (148, iV ((if (¬ (¬ (pfxV (t.pools.xs.getD k pfxE.dflt)))) then iN k else undef))), (149, iV ((if (¬ (¬ (pfxV (t.pools.xs.getD k pfxE.dflt)))) then .slice t.pools.a ((t.pools.xs.take k).length) t.pools.c else undef))), (150, iV ((if (¬ (¬ (pfxV (t.pools.xs.getD k pfxE.dflt)))) then bD (∃ q ∈ (t.pools.xs.take k), meets (t.pools.xs.getD k pfxE.dflt) q) else undef))), (151, iV (bD ((¬ (pfxV (t.pools.xs.getD k pfxE.dflt))) ∨ (∃ q ∈ (t.pools.xs.take k), meets (t.pools.xs.getD k pfxE.dflt) q))))] (fun w => True) [[], [133], [], [134, 135], [136], [137], [138], [139], [140], [140, 141], [140], [140, 142, 143], [140, 144], [140], [140, 146], [140], [140, 147, 148], [140, 145, 149], [140, 150]] [151] _ rfl mixed (by kernel_rfl) rfl trivial ?_ ?_
  ·refine ⟨?_, ?_, ?_, ?_, ?_, ?_, ?_, ?_, ?_, ?_, ?_, ?_, ?_, ?_, ?_, ?_, ?_, ?_, ?_, trivial⟩
   ·intro a w42 G I S hE
    have TT := Tr.of_ch C.ms G (fun _ h => by simp at h)
    replace t_w := Enc.tr (topoE) t_w TT
    replace K1 := Blk.tr0 K1 G
    replace C := C.trans TT
    exact qo (pT b1 (0 + 3)) (x_fld (z := 0) (0) 3 Try.underlying28 rfl rfl (by kernel_rfl) (S.e rfl)) I
   ·intro a w43 G I S hE
    have TT := Tr.of_ch C.ms G (fun _ h => by simp at h)
    replace t_w := Enc.tr (topoE) t_w TT
    replace K1 := Blk.tr0 K1 G
    replace C := C.trans TT
    obtain ⟨e133, _⟩ := hE
    replace S := S.ext e133
    exact qo (sV t.pools) (x_load ⟨_, Try.underlying26, rfl⟩ (S.e rfl) (K1.cell (j := 3) rfl)) I
   ·intro a w44 G I S hE
    have TT := Tr.of_ch C.ms G (fun _ h => by simp at h)
    replace C := C.trans TT
    exact qo (iN k) (x_move (S.e rfl)) I
   ·intro a w45 G I S hE
    have TT := Tr.of_ch C.ms G (fun _ h => by simp at h)
    replace t_w := Enc.tr (topoE) t_w TT
    replace C := C.trans TT
    obtain ⟨e134, e135, _⟩ := hE
    replace S := S.ext e134
    replace S := S.ext e135
    exact qo (pT (blk t.pools.a) (off t.pools.a + k * 2)) (x_idx Try.underlying26 (by kernel_rfl) (S.e rfl) (S.e rfl) k rfl (by omega) ((t_w.2.2.2.1).1.adr (i := k) (by omega))) I
   ·intro a w46 G I S hE
    have TT := Tr.of_ch C.ms G (fun _ h => by simp at h)
    replace t_w := Enc.tr (topoE) t_w TT
    replace C := C.trans TT
    obtain ⟨e136, _⟩ := hE
    replace S := S.ext e136
    obtain ⟨hl19, hu19⟩ : inU32 ((t.pools.xs.getD k pfxE.dflt).addr) := id (((t_w.2.2.2.1).1.wf k (by omega)).1)
    obtain ⟨hl20, hu20⟩ : inI64 ((t.pools.xs.getD k pfxE.dflt).bits) := id (((t_w.2.2.2.1).1.wf k (by omega)).2)
    exact qo (.agg #[.int .u32 ((t.pools.xs.getD k pfxE.dflt).addr), iI ((t.pools.xs.getD k pfxE.dflt).bits)]) (x_loadw [.int .u32 ((t.pools.xs.getD k pfxE.dflt).addr), iI ((t.pools.xs.getD k pfxE.dflt).bits)] ⟨_, Try.underlying68, rfl, by kernel_rfl⟩ (S.e rfl) ((t_w.2.2.2.1).1.wcell k (by omega) _ rfl _ rfl)) I
   ·intro a w47 G I S hE
    have TT := Tr.of_ch C.ms G (fun _ h => by simp at h)
    replace t_w := Enc.tr (topoE) t_w TT
    replace C := C.trans TT
    obtain ⟨e137, _⟩ := hE
    replace S := S.ext e137
    refine head_op rfl rfl (op_call (vs := #[.agg #[.int .u32 ((t.pools.xs.getD k pfxE.dflt).addr), iI ((t.pools.xs.getD k pfxE.dflt).bits)]]) (by simp only [List.map_toArray, List.map_cons, List.map_nil, show a.eval (.tmp 137) = .agg #[.int .u32 ((t.pools.xs.getD k pfxE.dflt).addr), iI ((t.pools.xs.getD k pfxE.dflt).bits)] from (S.e rfl)]) callable_91 (rValid _ (Ex F _) (C.old hF)  (MS.nil _) (t.pools.xs.getD k pfxE.dflt) ((pfxE).down0 ((t_w.2.2.2.1).1.wf k (by omega)))) ?_)
    rintro e w2 ⟨rfl, T0⟩; exact ⟨_, rfl, Done.mk' rfl (by decide) (show _ = _ from rfl) T0.ch trivial⟩
   ·intro a w48 G I S hE
    have TT := Tr.of_ch C.ms G (fun _ h => by simp at h)
    replace C := C.trans TT
    obtain ⟨e138, _⟩ := hE
    replace S := S.ext e138
    exact qo (bD (¬ (pfxV (t.pools.xs.getD k pfxE.dflt)))) (x_notp (S.e rfl)) I
   ·intro a w49 G I S hE
    have TT := Tr.of_ch C.ms G (fun _ h => by simp at h)
    replace C := C.trans TT
    obtain ⟨e139, _⟩ := hE
    replace S := S.ext e139
    exact qo (bD (¬ (pfxV (t.pools.xs.getD k pfxE.dflt)))) (x_move (S.e rfl)) I
   ·intro a w50 G I S hE
    have TT := Tr.of_ch C.ms G (fun _ h => by simp at h)
    replace t_w := Enc.tr (topoE) t_w TT
    replace K1 := Blk.tr0 K1 G
    replace C := C.trans TT
    obtain ⟨e140, _⟩ := hE
    replace S := S.ext e140
    refine (Classical.em (¬ (¬ (pfxV (t.pools.xs.getD k pfxE.dflt))))).symm.elim (fun hg => ?_) fun hg => ?_
    ·exact qn S 140 rfl (fun h => hg (gf.2 h)) I
    exact qy S 140 rfl (gf.1 hg) (pT b1 (0 + 3)) (x_fld (z := 0) (0) 3 Try.underlying28 rfl rfl (by kernel_rfl) (S.e rfl)) I
   ·intro a w51 G I S hE
    have TT := Tr.of_ch C.ms G (fun _ h => by simp at h)
    replace t_w := Enc.tr (topoE) t_w TT
    replace K1 := Blk.tr0 K1 G
    replace C := C.trans TT
    obtain ⟨e140, e141, _⟩ := hE
    replace S := S.ext e140
    replace S := S.ext e141
    refine (Classical.em (¬ (¬ (pfxV (t.pools.xs.getD k pfxE.dflt))))).symm.elim (fun hg => ?_) fun hg => ?_
    ·exact qn S 140 rfl (fun h => hg (gf.2 h)) I
    exact qy S 140 rfl (gf.1 hg) (sV t.pools) (x_load ⟨_, Try.underlying26, rfl⟩ (S.p rfl hg) (K1.cell (j := 3) rfl)) I
   ·intro a w52 G I S hE
    have TT := Tr.of_ch C.ms G (fun _ h => by simp at h)
    replace C := C.trans TT
    obtain ⟨e140, _⟩ := hE
    replace S := S.ext e140
    refine (Classical.em (¬ (¬ (pfxV (t.pools.xs.getD k pfxE.dflt))))).symm.elim (fun hg => ?_) fun hg => ?_
    ·exact qn S 140 rfl (fun h => hg (gf.2 h)) I
    exact qy S 140 rfl (gf.1 hg) (iN k) (x_move (S.e rfl)) I
   ·intro a w53 G I S hE
    have TT := Tr.of_ch C.ms G (fun _ h => by simp at h)
    replace t_w := Enc.tr (topoE) t_w TT
    replace C := C.trans TT
    obtain ⟨e140, e142, e143, _⟩ := hE
    replace S := S.ext e140
    replace S := S.ext e142
    replace S := S.ext e143
    refine (Classical.em (¬ (¬ (pfxV (t.pools.xs.getD k pfxE.dflt))))).symm.elim (fun hg => ?_) fun hg => ?_
    ·exact qn S 140 rfl (fun h => hg (gf.2 h)) I
    exact qy S 140 rfl (gf.1 hg) (pT (blk t.pools.a) (off t.pools.a + k * 2)) (x_idx Try.underlying26 (by kernel_rfl) (S.p rfl hg) (S.p rfl hg) k rfl (by omega) ((t_w.2.2.2.1).1.adr (i := k) (by omega))) I
   ·intro a w54 G I S hE
    have TT := Tr.of_ch C.ms G (fun _ h => by simp at h)
    replace t_w := Enc.tr (topoE) t_w TT
    replace C := C.trans TT
    obtain ⟨e140, e144, _⟩ := hE
    replace S := S.ext e140
    replace S := S.ext e144
    refine (Classical.em (¬ (¬ (pfxV (t.pools.xs.getD k pfxE.dflt))))).symm.elim (fun hg => ?_) fun hg => ?_
    ·exact qn S 140 rfl (fun h => hg (gf.2 h)) I
    exact qy S 140 rfl (gf.1 hg) (.agg #[.int .u32 ((t.pools.xs.getD k pfxE.dflt).addr), iI ((t.pools.xs.getD k pfxE.dflt).bits)]) (x_loadw [.int .u32 ((t.pools.xs.getD k pfxE.dflt).addr), iI ((t.pools.xs.getD k pfxE.dflt).bits)] ⟨_, Try.underlying68, rfl, by kernel_rfl⟩ (S.p rfl hg) ((t_w.2.2.2.1).1.wcell k (by omega) _ rfl _ rfl)) I
   ·intro a w55 G I S hE
    have TT := Tr.of_ch C.ms G (fun _ h => by simp at h)
    replace t_w := Enc.tr (topoE) t_w TT
    replace K1 := Blk.tr0 K1 G
    replace C := C.trans TT
    obtain ⟨e140, _⟩ := hE
    replace S := S.ext e140
    refine (Classical.em (¬ (¬ (pfxV (t.pools.xs.getD k pfxE.dflt))))).symm.elim (fun hg => ?_) fun hg => ?_
    ·exact qn S 140 rfl (fun h => hg (gf.2 h)) I
    exact qy S 140 rfl (gf.1 hg) (pT b1 (0 + 3)) (x_fld (z := 0) (0) 3 Try.underlying28 rfl rfl (by kernel_rfl) (S.e rfl)) I
   ·intro a w56 G I S hE
    have TT := Tr.of_ch C.ms G (fun _ h => by simp at h)
    replace t_w := Enc.tr (topoE) t_w TT
    replace K1 := Blk.tr0 K1 G
    replace C := C.trans TT
    obtain ⟨e140, e146, _⟩ := hE
    replace S := S.ext e140
    replace S := S.ext e146
    refine (Classical.em (¬ (¬ (pfxV (t.pools.xs.getD k pfxE.dflt))))).symm.elim (fun hg => ?_) fun hg => ?_
    ·exact qn S 140 rfl (fun h => hg (gf.2 h)) I
    exact qy S 140 rfl (gf.1 hg) (sV t.pools) (x_load ⟨_, Try.underlying26, rfl⟩ (S.p rfl hg) (K1.cell (j := 3) rfl)) I
   ·intro a w57 G I S hE
    have TT := Tr.of_ch C.ms G (fun _ h => by simp at h)
    replace C := C.trans TT
    obtain ⟨e140, _⟩ := hE
    replace S := S.ext e140
    refine (Classical.em (¬ (¬ (pfxV (t.pools.xs.getD k pfxE.dflt))))).symm.elim (fun hg => ?_) fun hg => ?_
    ·exact qn S 140 rfl (fun h => hg (gf.2 h)) I
    exact qy S 140 rfl (gf.1 hg) (iN k) (x_move (S.e rfl)) I
   ·intro a w58 G I S hE
    have TT := Tr.of_ch C.ms G (fun _ h => by simp at h)
    replace t_w := Enc.tr (topoE) t_w TT
    replace C := C.trans TT
    obtain ⟨e140, e147, e148, _⟩ := hE
    replace S := S.ext e140
    replace S := S.ext e147
    replace S := S.ext e148
    refine (Classical.em (¬ (¬ (pfxV (t.pools.xs.getD k pfxE.dflt))))).symm.elim (fun hg => ?_) fun hg => ?_
    ·exact qn S 140 rfl (fun h => hg (gf.2 h)) I
    exact qy S 140 rfl (gf.1 hg) (.slice t.pools.a ((t.pools.xs.take k).length) t.pools.c) (x_slhn Try.underlying26 infoz_68 (S.p rfl hg) (S.p rfl hg) k rfl (Nat.le_trans (by omega) (t_w.2.2.2.1).2.1) (t_w.2.2.2.1).2.2 _ (by rw [List.length_take]; omega)) I
   ·intro a w59 G I S hE
    have TT := Tr.of_ch C.ms G (fun _ h => by simp at h)
    replace t_w := Enc.tr (topoE) t_w TT
    replace C := C.trans TT
    obtain ⟨e140, e145, e149, _⟩ := hE
    replace S := S.ext e140
    replace S := S.ext e145
    replace S := S.ext e149
    refine (Classical.em (¬ (¬ (pfxV (t.pools.xs.getD k pfxE.dflt))))).symm.elim (fun hg => ?_) fun hg => ?_
    ·exact qn S 140 rfl (fun h => hg (gf.2 h)) I
    refine head_yes rfl rfl rfl rfl (by rw [S.size]; decide) (gv := bD (¬ (pfxV (t.pools.xs.getD k pfxE.dflt)))) (S.get 140 _ rfl) (gf.1 hg) (op_call (vs := #[.agg #[.int .u32 ((t.pools.xs.getD k pfxE.dflt).addr), iI ((t.pools.xs.getD k pfxE.dflt).bits)], .slice t.pools.a ((t.pools.xs.take k).length) t.pools.c]) (by simp only [List.map_toArray, List.map_cons, List.map_nil, show a.eval (.tmp 145) = .agg #[.int .u32 ((t.pools.xs.getD k pfxE.dflt).addr), iI ((t.pools.xs.getD k pfxE.dflt).bits)] from (S.p rfl hg), show a.eval (.tmp 149) = .slice t.pools.a ((t.pools.xs.take k).length) t.pools.c from (S.p rfl hg)]) callable_90 (r11meets _ (Ex F _) (C.old hF)  (MS.nil _) (t.pools.xs.getD k pfxE.dflt) ((pfxE).down0 ((t_w.2.2.2.1).1.wf k (by omega))) (Sl.mk t.pools.a t.pools.c (t.pools.xs.take k)) ((slE pfxE).down0 (sl_take t_w.2.2.2.1 k (by omega)))) ?_)
    rintro e w2 ⟨rfl, T0⟩; exact ⟨_, rfl, Done.mk' rfl (by decide) (show _ = _ from (if_pos hg).symm) T0.ch trivial⟩
   intro a w60 G I S hE
   have TT := Tr.of_ch C.ms G (fun _ h => by simp at h)
   replace C := C.trans TT
   obtain ⟨e140, e150, _⟩ := hE
   replace S := S.ext e140
   replace S := S.ext e150
   exact qo (bD ((¬ (pfxV (t.pools.xs.getD k pfxE.dflt))) ∨ (∃ q ∈ (t.pools.xs.take k), meets (t.pools.xs.getD k pfxE.dflt) q))) (x_or (S.e rfl) (S.e rfl) (S.p rfl)) I
  clear S a; intro a w61 G I S hE; have TT := Tr.of_ch C.ms G (fun _ h => by simp at h)
  replace t_w := Enc.tr (topoE) t_w TT
  replace R_13 := Enc.tr (slE pfxE) R_13 TT
  replace K1 := Blk.tr0 K1 G
  replace GL0 := GL0.trans TT
  replace GL1 := GL1.trans TT
  replace GL2 := GL2.trans TT
  replace GL3 := GL3.trans TT
  replace C := C.trans TT
  clear TT G
  obtain ⟨e151, -⟩ := hE
  replace S := S.ext e151
  clear e151
  refine qt ?_
  refine cond_dec S rfl ?_ ?_
  ·intro hc15
   refine qs ?_
   refine qa S rfl ?_; clear S a; intro a S
   refine qt ?_
   refine wp_ret ?_
   refine blk_r ?_
   refine then_r ?_
   refine then_r ?_
   refine blk_r ?_
   refine then_r ?_
   refine ret1 rfl S rfl ?_
   have TD : Tr [one b1] w61 [] w61 := Tr.drop C.ms [] (by decide)
   have GD : Ch (In []) w61 w61 := Ch.refl _
   clear K1
   replace t_w := Enc.tr (topoE) t_w TD
   replace R_13 := Enc.tr (slE pfxE) R_13 TD
   replace GL0 := GL0.trans TD
   replace GL1 := GL1.trans TD
   replace GL2 := GL2.trans TD
   replace GL3 := GL3.trans TD
   replace C := C.trans TD
   clear TD GD
   refine ⟨(r1 (vf ?_)), C⟩
   rintro ⟨_, _, _, _, _, h⟩; have := h k (by omega); unfold polAt at this; rcases hc15 with h1 | h1
   ·exact h1 this.1
   obtain ⟨j, hj, hm⟩ := (ex_take pfxE.dflt _ _ _ (by omega)).1 h1; exact this.2 j hj hm
  intro hc16
  refine wp_skip ?_
  refine blk_n ?_
  refine then_n ?_
  refine wp_region_lit ?_
  refine qm S rfl ?_; clear S a; intro a S
  refine qv S (iN (k + 1)) (x_add (S.e rfl) (S.e rfl) (r := ((k + 1 : Nat) : Int)) (w_i64 (by omega))) ?_; clear S a; intro a S
  refine qa S rfl ?_; clear S a; intro a S
  refine qt ?_
  refine ⟨t.pools.xs.length - (k + 1), ?_, k + 1, S.sub ⟨rfl, rfl, trivial⟩, GL3, ?_, K1, rfl⟩
  ·omega
  refine ⟨by omega, fun j hj => ?_⟩
  rcases Nat.lt_succ_iff_lt_or_eq.1 hj with h | h
  ·exact hne j h
  subst h; have hq := hc16; simp only [not_or, Classical.not_not] at hq; exact ⟨hq.1, fun i hi hm => hq.2 ((ex_take pfxE.dflt _ _ _ (by omega)).2 ⟨i, hi, hm⟩)⟩
 intro hc17
 refine wp_exit ?_
 refine then_e ?_
 refine then_e ?_
 refine blk_e ?_
 refine then_n ?_
 refine qs ?_
 refine qa S rfl ?_; clear S a; intro a S
 refine qt ?_
 refine wp_ret ?_
 refine ret1 rfl S rfl ?_
 have TD : Tr [one b1] w41 [] w41 := Tr.drop C.ms [] (by decide)
 have GD : Ch (In []) w41 w41 := Ch.refl _
 clear K1
 replace t_w := Enc.tr (topoE) t_w TD
 replace R_13 := Enc.tr (slE pfxE) R_13 TD
 replace GL0 := GL0.trans TD
 replace GL1 := GL1.trans TD
 replace GL2 := GL2.trans TD
 replace GL3 := GL3.trans TD
 replace C := C.trans TD
 clear TD GD
 refine ⟨(r1 (vt ?_)), C⟩
 simp only [not_or, Classical.not_not] at hc1; exact ⟨by (unfold topB; have := hc1.1.1.1.1.1.1; omega), hc1.1.1.1.1.1.2, fun i hi => hnb i (by omega), fun i hi => hnc i (by omega), (fixed_iff _).2 fun i hi => hnd i (by omega), fun i hi => hne i (by omega)⟩
end Go.Proofs.Ytfanmniaolncbaa.V
