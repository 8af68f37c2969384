/- failure states: valid, alive, usable -/
import Derived.Test.YtfanmniaolncbaaW5
namespace Go.Proofs.Ytfanmniaolncbaa.V
open Go.RowKit Go.Proofs.Ytfanmniaolncbaa
set_option linter.unusedVariables false
set_option linter.unusedSimpArgs false
set_option maxHeartbeats 2000000 in
set_option maxRecDepth 20000 in
theorem fRising (w : World) (F : Nat → Prop) (hF : Old F w) (M : MS [] w) (l : Sl Int) (l_w : (slE intE).wf (Fr F []) w.heap l) (n : Int) (n_h : inI64 n) :
 Calls Try.prog 56 #[sV l, iI n] w fun e w' => e = .returned (bD (rising l.xs n)) ∧ Tr [] w [] w' := by
 have C : Tr [] w [] w := Tr.refl M
 have : l.xs.length ≤ 9223372036854775807 := (l_w).1.len
 obtain ⟨n_hl, n_hu⟩ : inI64 n := id n_h
 refine enter Try.func56 rfl 35 rfl (Nat.le_of_ble_eq_true rfl) ?_
 intro a S
 refine qs ?_
 refine qa S rfl ?_; clear S a; intro a S
 refine qt ?_
 refine wp_seq ?_
 refine qs ?_
 refine qm S rfl ?_; clear S a; intro a S
 have hn1 : l.xs.length ≤ 9223372036854775807 := (l_w).1.len
 refine qv S (iN l.xs.length) (x_len Try.underlying22 (S.e rfl)) ?_; clear S a; intro a S
 refine qm S rfl ?_; clear S a; intro a S
 refine qt ?_
 refine wp_block ?_
 refine wp_loop_ghost (fun m a wr => ∃ k : Nat, Slots 35 [(0, sV l), (1, iI n), (7, sV l), (8, iN l.xs.length), (9, iN k)] a ∧ Tr [] w [] wr ∧ (k ≤ l.xs.length ∧ ∀ j, j < k → rise l.xs n j) ∧ (l.xs.length - k) = m) (l.xs.length - 0) ?_ ?_
 ·refine ⟨0, S.sub ⟨rfl, rfl, rfl, rfl, rfl, trivial⟩, Tr.refl C.ms, ?_, rfl⟩
  exact ⟨Nat.zero_le _, fun j hj => by omega⟩
 rintro m a w1 ⟨k, S, G, hR, rfl⟩
 replace l_w := Enc.tr (slE intE) l_w G
 replace C := C.trans G
 have GL0 := G; clear G
 obtain ⟨hk, hn⟩ := hR
 refine qs ?_
 refine qv S (bD (((k : Nat) : Int) < ((l.xs.length : Nat) : Int))) (x_lss (S.e rfl) (S.e rfl)) ?_; clear S a; intro a S
 refine qt ?_
 refine wp_seq ?_
 refine cond_dec S rfl ?_ ?_
 ·intro hc0
  refine wp_skip ?_
  refine then_n ?_
  refine wp_seq ?_
  refine wp_block ?_
  refine qs ?_
  refine qm S rfl ?_; clear S a; intro a S
  refine qv S (pT (blk l.a) (off l.a + k * 1)) (x_idx Try.underlying22 (by kernel_rfl) (S.e rfl) (S.e rfl) k rfl (by omega) ((l_w).1.adr (i := k) (by omega))) ?_; clear S a; intro a S
  obtain ⟨hl2, hu2⟩ : inI64 (l.xs.getD k intE.dflt) := id ((l_w).1.wf k (by omega))
  refine qv S (iI (l.xs.getD k intE.dflt)) (x_load ⟨_, Try.underlying3, rfl⟩ (S.e rfl) ((l_w).1.cell k (by omega) 0 _ rfl)) ?_; clear S a; intro a S
  refine qa S rfl ?_; clear S a; intro a S
  refine qa S rfl ?_; clear S a; intro a S
  refine qt ?_
  refine qs ?_
  refine qm S rfl ?_; clear S a; intro a S
  refine qv S (bD ((l.xs.getD k intE.dflt) < 0)) (x_lss (S.e rfl) (S.e rfl)) ?_; clear S a; intro a S
  refine qm S rfl ?_; clear S a; intro a S
  refine qg S 16 rfl (¬ ((l.xs.getD k intE.dflt) < 0)) gf (iI (l.xs.getD k intE.dflt)) (fun hg => (x_move (S.e rfl))) ?_; clear S a; intro a S
  refine qg S 16 rfl (¬ ((l.xs.getD k intE.dflt) < 0)) gf (iI n) (fun hg => (x_move (S.e rfl))) ?_; clear S a; intro a S
  refine qg S 16 rfl (¬ ((l.xs.getD k intE.dflt) < 0)) gf (bD (n ≤ (l.xs.getD k intE.dflt))) (fun hg => (x_geq (S.p rfl hg) (S.p rfl hg))) ?_; clear S a; intro a S
  refine qv S (bD (((l.xs.getD k intE.dflt) < 0) ∨ (n ≤ (l.xs.getD k intE.dflt)))) (x_or (S.e rfl) (S.e rfl) (S.p rfl)) ?_; clear S a; intro a S
  refine qm S rfl ?_; clear S a; intro a S
  refine qg S 21 rfl (¬ (((l.xs.getD k intE.dflt) < 0) ∨ (n ≤ (l.xs.getD k intE.dflt)))) gf (iN k) (fun hg => (x_move (S.e rfl))) ?_; clear S a; intro a S
  refine qg S 21 rfl (¬ (((l.xs.getD k intE.dflt) < 0) ∨ (n ≤ (l.xs.getD k intE.dflt)))) gf (bD (0 < ((k : Nat) : Int))) (fun hg => (x_gtr (S.p rfl hg) (S.e rfl))) ?_; clear S a; intro a S
  refine qg S 21 rfl (¬ (((l.xs.getD k intE.dflt) < 0) ∨ (n ≤ (l.xs.getD k intE.dflt)))) gf (bD (0 < ((k : Nat) : Int))) (fun hg => (x_move (S.p rfl hg))) ?_; clear S a; intro a S
  refine qg S 24 rfl ((¬ (((l.xs.getD k intE.dflt) < 0) ∨ (n ≤ (l.xs.getD k intE.dflt)))) ∧ (0 < ((k : Nat) : Int))) ggt (iI (l.xs.getD k intE.dflt)) (fun hg => (x_move (S.e rfl))) ?_; clear S a; intro a S
  refine qg S 24 rfl ((¬ (((l.xs.getD k intE.dflt) < 0) ∨ (n ≤ (l.xs.getD k intE.dflt)))) ∧ (0 < ((k : Nat) : Int))) ggt (sV l) (fun hg => (x_move (S.e rfl))) ?_; clear S a; intro a S
  refine qg S 24 rfl ((¬ (((l.xs.getD k intE.dflt) < 0) ∨ (n ≤ (l.xs.getD k intE.dflt)))) ∧ (0 < ((k : Nat) : Int))) ggt (iN k) (fun hg => (x_move (S.e rfl))) ?_; clear S a; intro a S
  refine qg S 24 rfl ((¬ (((l.xs.getD k intE.dflt) < 0) ∨ (n ≤ (l.xs.getD k intE.dflt)))) ∧ (0 < ((k : Nat) : Int))) ggt (iI (((k : Nat) : Int) - 1)) (fun hg => (x_sub (S.p rfl hg) (S.e rfl) (r := (((k : Nat) : Int) - 1)) (w_i64 (by omega)))) ?_; clear S a; intro a S
  refine qg S 24 rfl ((¬ (((l.xs.getD k intE.dflt) < 0) ∨ (n ≤ (l.xs.getD k intE.dflt)))) ∧ (0 < ((k : Nat) : Int))) ggt (pT (blk l.a) (off l.a + ((((k : Nat) : Int) - 1)).toNat * 1)) (fun hg => (x_idx Try.underlying22 (by kernel_rfl) (S.p rfl hg) (S.p rfl hg) ((((k : Nat) : Int) - 1)).toNat (by omega) (by omega) ((l_w).1.adr (i := ((((k : Nat) : Int) - 1)).toNat) (by omega)))) ?_; clear S a; intro a S
  refine qg S 24 rfl ((¬ (((l.xs.getD k intE.dflt) < 0) ∨ (n ≤ (l.xs.getD k intE.dflt)))) ∧ (0 < ((k : Nat) : Int))) ggt (iI (l.xs.getD (((((k : Nat) : Int) - 1)).toNat) intE.dflt)) (fun hg => (x_load ⟨_, Try.underlying3, rfl⟩ (S.p rfl hg) ((l_w).1.cell ((((k : Nat) : Int) - 1)).toNat (by omega) 0 _ rfl))) ?_; clear S a; intro a S
  refine qg S 24 rfl ((¬ (((l.xs.getD k intE.dflt) < 0) ∨ (n ≤ (l.xs.getD k intE.dflt)))) ∧ (0 < ((k : Nat) : Int))) ggt (bD ((l.xs.getD k intE.dflt) ≤ (l.xs.getD (((((k : Nat) : Int) - 1)).toNat) intE.dflt))) (fun hg => (x_leq (S.p rfl hg) (S.p rfl hg))) ?_; clear S a; intro a S
  refine qg S 21 rfl (¬ (((l.xs.getD k intE.dflt) < 0) ∨ (n ≤ (l.xs.getD k intE.dflt)))) gf (bD ((0 < ((k : Nat) : Int)) ∧ ((l.xs.getD k intE.dflt) ≤ (l.xs.getD (((((k : Nat) : Int) - 1)).toNat) intE.dflt)))) (fun hg => (x_and (S.p rfl hg) (fun hl => ((S.e rfl).trans (if_pos ⟨hg, hl⟩))) (S.e rfl))) ?_; clear S a; intro a S
  refine qv S (bD ((((l.xs.getD k intE.dflt) < 0) ∨ (n ≤ (l.xs.getD k intE.dflt))) ∨ ((0 < ((k : Nat) : Int)) ∧ ((l.xs.getD k intE.dflt) ≤ (l.xs.getD (((((k : Nat) : Int) - 1)).toNat) intE.dflt))))) (x_or (S.e rfl) (S.e rfl) (S.p rfl)) ?_; clear S a; intro a S
  refine qt ?_
  refine cond_dec S rfl ?_ ?_
  ·intro hc1
   refine qs ?_
   refine qa S rfl ?_; clear S a; intro a S
   refine qt ?_
   refine wp_ret ?_
   refine blk_r ?_
   refine then_r ?_
   refine then_r ?_
   refine blk_r ?_
   refine then_r ?_
   refine ret1 rfl S rfl ?_
   refine ⟨(r1 (vf ?_)), C⟩
   intro h; have h2 := h k (by omega); unfold rise at h2; have hi0 : intE.dflt = 0 := rfl; have hj0 : ((k : Nat) : Int) - 1 = ((k - 1 : Nat) : Int) ∨ k = 0 := by omega
   rcases hj0 with hj0 | hj0 <;> simp only [hi0, hj0, Int.toNat_natCast] at * <;> omega
  intro hc2
  refine wp_skip ?_
  refine blk_n ?_
  refine then_n ?_
  refine wp_region_lit ?_
  refine qv S (iN (k + 1)) (x_add (S.e rfl) (S.e rfl) (r := ((k + 1 : Nat) : Int)) (w_i64 (by omega))) ?_; clear S a; intro a S
  refine qm S rfl ?_; clear S a; intro a S
  refine qt ?_
  refine ⟨l.xs.length - (k + 1), ?_, k + 1, S.sub ⟨rfl, rfl, rfl, rfl, rfl, trivial⟩, GL0, ?_, rfl⟩
  ·omega
  refine ⟨by omega, fun j hj => ?_⟩
  rcases Nat.lt_succ_iff_lt_or_eq.1 hj with h | h
  ·exact hn j h
  subst h; unfold rise; have hi0 : intE.dflt = 0 := rfl; have hj0 : ((j : Nat) : Int) - 1 = ((j - 1 : Nat) : Int) ∨ j = 0 := by omega
  rcases hj0 with hj0 | hj0 <;> simp only [hi0, hj0, Int.toNat_natCast] at * <;> omega
 intro hc3
 refine wp_exit ?_
 refine then_e ?_
 refine then_e ?_
 refine blk_e ?_
 refine then_n ?_
 refine qs ?_
 refine qa S rfl ?_; clear S a; intro a S
 refine qt ?_
 refine wp_ret ?_
 refine ret1 rfl S rfl ?_
 refine ⟨(r1 (vt ?_)), C⟩
 exact fun i hi => hn i (by omega)
set_option maxHeartbeats 2000000 in
set_option maxRecDepth 20000 in
theorem rAscending (w : World) (F : Nat → Prop) (hF : Old F w) (M : MS [] w) (l : Sl Int) (l_w : (slE intE).wf (Fr F []) w.heap l) (n : Int) (n_h : inI64 n) :
 Calls Try.prog 95 #[sV l, iI n] w fun e w' => e = .returned (bD (rising l.xs n)) ∧ Tr [] w [] w' := by
 have C : Tr [] w [] w := Tr.refl M
 have : l.xs.length ≤ 9223372036854775807 := (l_w).1.len
 obtain ⟨n_hl, n_hu⟩ : inI64 n := id n_h
 refine enter Try.func95 rfl 41 rfl (Nat.le_of_ble_eq_true rfl) ?_
 intro a S
 refine qs ?_
 refine qa S rfl ?_; clear S a; intro a S
 refine qt ?_
 refine wp_seq ?_
 refine qs ?_
 refine qa S rfl ?_; clear S a; intro a S
 refine qt ?_
 refine wp_block ?_
 refine wp_loop_ghost (fun m a wr => ∃ k : Nat, Slots 41 [(0, sV l), (1, iI n), (5, iN k)] a ∧ Tr [] w [] wr ∧ (k ≤ l.xs.length ∧ ∀ j, j < k → rise l.xs n j) ∧ (l.xs.length - k) = m) (l.xs.length - 0) ?_ ?_
 ·refine ⟨0, S.sub ⟨rfl, rfl, rfl, trivial⟩, Tr.refl C.ms, ?_, rfl⟩
  exact ⟨Nat.zero_le _, fun j hj => by omega⟩
 rintro m a w1 ⟨k, S, G, hR, rfl⟩
 replace l_w := Enc.tr (slE intE) l_w G
 replace C := C.trans G
 have GL0 := G; clear G
 obtain ⟨hk, hn⟩ := hR
 refine wp_seq ?_
 refine qs ?_
 refine qm S rfl ?_; clear S a; intro a S
 refine qm S rfl ?_; clear S a; intro a S
 have hn1 : l.xs.length ≤ 9223372036854775807 := (l_w).1.len
 refine qv S (iN l.xs.length) (x_len Try.underlying22 (S.e rfl)) ?_; clear S a; intro a S
 refine qv S (bD (((k : Nat) : Int) < ((l.xs.length : Nat) : Int))) (x_lss (S.e rfl) (S.e rfl)) ?_; clear S a; intro a S
 refine qt ?_
 refine cond_dec S rfl ?_ ?_
 ·intro hc0
  refine wp_skip ?_
  refine then_n ?_
  refine wp_seq ?_
  refine wp_block ?_
  refine wp_seq ?_
  replace S := S.sub (L' := [(0, sV l), (1, iI n), (5, iN k), (6, iN k), (7, sV l), (8, iN l.xs.length), (9, bD (((k : Nat) : Int) < ((l.xs.length : Nat) : Int)))]) ⟨rfl, rfl, rfl, rfl, rfl, rfl, rfl, trivial⟩
  refine wp_heads (M := In []) S 29 [(12, iV (sV l)), (13, iV (iN k)), (14, iV (pT (blk l.a) (off l.a + k * 1))), (15, iV (iI (l.xs.getD k intE.dflt))), (16, iV (bD ((l.xs.getD k intE.dflt) < 0))), (17, iV (bD ((l.xs.getD k intE.dflt) < 0))), (18, iV ((if (¬ ((l.xs.getD k intE.dflt) < 0)) then sV l else undef))), (19, iV ((if (¬ ((l.xs.getD k intE.dflt) < 0)) then iN k else undef))), (20, iV ((if (¬ ((l.xs.getD k intE.dflt) < 0)) then pT (blk l.a) (off l.a + k * 1) else undef))), (21, iV ((if (¬ ((l.xs.getD k intE.dflt) < 0)) then iI (l.xs.getD k intE.dflt) else undef))), (22, iV ((if (¬ ((l.xs.getD k intE.dflt) < 0)) then iI n else undef))), (23, iV ((if (¬ ((l.xs.getD k intE.dflt) < 0)) then bD (n ≤ (l.xs.getD k intE.dflt)) else undef))), (24, iV (bD (((l.xs.getD k intE.dflt) < 0) ∨ (n ≤ (l.xs.getD k intE.dflt))))), (25, iV (bD (((l.xs.getD k intE.dflt) < 0) ∨ (n ≤ (l.xs.getD k intE.dflt))))), (26, iV ((if (¬ (((l.xs.getD k intE.dflt) < 0) ∨ (n ≤ (l.xs.getD k intE.dflt)))) then iN k else undef))), (27, iV ((if (¬ (((l.xs.getD k intE.dflt) < 0) ∨ (n ≤ (l.xs.getD k intE.dflt)))) then bD (0 < ((k : Nat) : Int)) else undef))), (28, iV ((if (¬ (((l.xs.getD k intE.dflt) < 0) ∨ (n ≤ (l.xs.getD k intE.dflt)))) then bD (0 < ((k : Nat) : Int)) else undef))), (29, iV ((if ((¬ (((l.xs.getD k intE.dflt) < 0) ∨ (n ≤ (l.xs.getD k intE.dflt)))) ∧ (0 < ((k : Nat) : Int))) then sV l else undef))), (30, iV ((if ((¬ (((l.xs.getD k intE.dflt) < 0) ∨ (n ≤ (l.xs.getD k intE.dflt)))) ∧ (0 < ((k : Nat) : Int))) then iN k else undef))), (31, iV ((if ((¬ (((l.xs.getD k intE.dflt) < 0) ∨ (n ≤ (l.xs.getD k intE.dflt)))) ∧ (0 < ((k : Nat) : Int))) then pT (blk l.a) (off l.a + k * 1) else undef))), (32, iV ((if ((¬ (((l.xs.getD k intE.dflt) < 0) ∨ (n ≤ (l.xs.getD k intE.dflt)))) ∧ (0 < ((k : Nat) : Int))) then iI (l.xs.getD k intE.dflt) else undef))), (33, iV ((if ((¬ (((l.xs.getD k intE.dflt) < 0) ∨ (n ≤ (l.xs.getD k intE.dflt)))) ∧ (0 < ((k : Nat) : Int))) then sV l else undef))), (34, iV ((if ((¬ (((l.xs.getD k intE.dflt) < 0) ∨ (n ≤ (l.xs.getD k intE.dflt)))) ∧ (0 < ((k : Nat) : Int))) then iN k else undef))), (35, iV ((if ((¬ (((l.xs.getD k intE.dflt) < 0) ∨ (n ≤ (l.xs.getD k intE.dflt)))) ∧ (0 < ((k : Nat) : Int))) then iI (((k : Nat) : Int) - 1) else undef))), (36, iV ((if ((¬ (((l.xs.getD k intE.dflt) < 0) ∨ (n ≤ (l.xs.getD k intE.dflt)))) ∧ (0 < ((k : Nat) : Int))) then pT (blk l.a) (off l.a + ((((k : Nat) : Int) - 1)).toNat * 1) else undef))), (37, iV ((if ((¬ (((l.xs.getD k intE.dflt) < 0) ∨ (n ≤ (l.xs.getD k intE.dflt)))) ∧ (0 < ((k : Nat) : Int))) then iI (l.xs.getD (((((k : Nat) : Int) - 1)).toNat) intE.dflt) else undef))), (38, iV ((if ((¬ (((l.xs.getD k intE.dflt) < 0) ∨ (n ≤ (l.xs.getD k intE.dflt)))) ∧ (0 < ((k : Nat) : Int))) then bD ((l.xs.getD k intE.dflt) ≤ (l.xs.getD (((((k : Nat) : Int) - 1)).toNat) intE.dflt)) else undef))), (39, iV ((if (¬ (((l.xs.getD k intE.dflt) < 0) ∨ (n ≤ (l.xs.getD k intE.dflt)))) then bD ((0 < ((k : Nat) : Int)) ∧ ((l.xs.getD k intE.dflt) ≤ (l.xs.getD (((((k : Nat) : Int) - 1)).toNat) intE.dflt))) else undef))), (40, iV (bD ((((l.xs.getD k intE.dflt) < 0) ∨ (n ≤ (l.xs.getD k intE.dflt))) ∨ ((0 < ((k : Nat) : Int)) ∧ ((l.xs.getD k intE.dflt) ≤ (l.xs.getD (((((k : Nat) : Int) - 1)).toNat) intE.dflt))))))] (fun w => True) [[], [], [12, 13], [14], [15], [16], [17], [17], [17, 18, 19], [17, 20], [17], [17, 21, 22], [17, 23], [24], [25], [25, 26], [25, 27], [28], [28], [28, 29, 30], [28, 31], [28], [28], [28, 34], [28, 33, 35], [28, 36], [28, 32, 37], [25, 28, 38], [25, 39]] [40] _ rfl mixed (by kernel_rfl) rfl trivial ?_ ?_
  ·refine ⟨?_, ?_, ?_, ?_, ?_, ?_, ?_, ?_, ?_, ?_, ?_, ?_, ?_, ?_, ?_, ?_, ?_, ?_, ?_, ?_, ?_, ?_, ?_, ?_, ?_, ?_, ?_, ?_, ?_, trivial⟩
   ·intro a w2 G I S hE
    have TT := Tr.of_ch C.ms G (fun _ h => by simp at h)
    replace l_w := Enc.tr (slE intE) l_w TT
    replace C := C.trans TT
    exact qo (sV l) (x_move (S.e rfl)) I
   ·intro a w3 G I S hE
    have TT := Tr.of_ch C.ms G (fun _ h => by simp at h)
    replace C := C.trans TT
    exact qo (iN k) (x_move (S.e rfl)) I
   ·intro a w4 G I S hE
    have TT := Tr.of_ch C.ms G (fun _ h => by simp at h)
    replace l_w := Enc.tr (slE intE) l_w TT
    replace C := C.trans TT
    obtain ⟨e12, e13, _⟩ := hE
    replace S := S.ext e12
    replace S := S.ext e13
    exact qo (pT (blk l.a) (off l.a + k * 1)) (x_idx Try.underlying22 (by kernel_rfl) (S.e rfl) (S.e rfl) k rfl (by omega) ((l_w).1.adr (i := k) (by omega))) I
   ·intro a w5 G I S hE
    have TT := Tr.of_ch C.ms G (fun _ h => by simp at h)
    replace l_w := Enc.tr (slE intE) l_w TT
    replace C := C.trans TT
    obtain ⟨e14, _⟩ := hE
    replace S := S.ext e14
    obtain ⟨hl2, hu2⟩ : inI64 (l.xs.getD k intE.dflt) := id ((l_w).1.wf k (by omega))
    exact qo (iI (l.xs.getD k intE.dflt)) (x_load ⟨_, Try.underlying3, rfl⟩ (S.e rfl) ((l_w).1.cell k (by omega) 0 _ rfl)) I
   ·intro a w6 G I S hE
    have TT := Tr.of_ch C.ms G (fun _ h => by simp at h)
    replace l_w := Enc.tr (slE intE) l_w TT
    replace C := C.trans TT
    obtain ⟨e15, _⟩ := hE
    replace S := S.ext e15
    exact qo (bD ((l.xs.getD k intE.dflt) < 0)) (x_lss (S.e rfl) (S.e rfl)) I
   ·intro a w7 G I S hE
    have TT := Tr.of_ch C.ms G (fun _ h => by simp at h)
    replace C := C.trans TT
    obtain ⟨e16, _⟩ := hE
    replace S := S.ext e16
    exact qo (bD ((l.xs.getD k intE.dflt) < 0)) (x_move (S.e rfl)) I
   ·intro a w8 G I S hE
    have TT := Tr.of_ch C.ms G (fun _ h => by simp at h)
    replace l_w := Enc.tr (slE intE) l_w TT
    replace C := C.trans TT
    obtain ⟨e17, _⟩ := hE
    replace S := S.ext e17
    refine (Classical.em (¬ ((l.xs.getD k intE.dflt) < 0))).symm.elim (fun hg => ?_) fun hg => ?_
    ·exact qn S 17 rfl (fun h => hg (gf.2 h)) I
    exact qy S 17 rfl (gf.1 hg) (sV l) (x_move (S.e rfl)) I
   ·intro a w9 G I S hE
    have TT := Tr.of_ch C.ms G (fun _ h => by simp at h)
    replace C := C.trans TT
    obtain ⟨e17, _⟩ := hE
    replace S := S.ext e17
    refine (Classical.em (¬ ((l.xs.getD k intE.dflt) < 0))).symm.elim (fun hg => ?_) fun hg => ?_
    ·exact qn S 17 rfl (fun h => hg (gf.2 h)) I
    exact qy S 17 rfl (gf.1 hg) (iN k) (x_move (S.e rfl)) I
   ·intro a w10 G I S hE
    have TT := Tr.of_ch C.ms G (fun _ h => by simp at h)
    replace l_w := Enc.tr (slE intE) l_w TT
    replace C := C.trans TT
    obtain ⟨e17, e18, e19, _⟩ := hE
    replace S := S.ext e17
    replace S := S.ext e18
    replace S := S.ext e19
    refine (Classical.em (¬ ((l.xs.getD k intE.dflt) < 0))).symm.elim (fun hg => ?_) fun hg => ?_
    ·exact qn S 17 rfl (fun h => hg (gf.2 h)) I
    exact qy S 17 rfl (gf.1 hg) (pT (blk l.a) (off l.a + k * 1)) (x_idx Try.underlying22 (by kernel_rfl) (S.p rfl hg) (S.p rfl hg) k rfl (by omega) ((l_w).1.adr (i := k) (by omega))) I
   ·intro a w11 G I S hE
    have TT := Tr.of_ch C.ms G (fun _ h => by simp at h)
    replace l_w := Enc.tr (slE intE) l_w TT
    replace C := C.trans TT
    obtain ⟨e17, e20, _⟩ := hE
    replace S := S.ext e17
    replace S := S.ext e20
    refine (Classical.em (¬ ((l.xs.getD k intE.dflt) < 0))).symm.elim (fun hg => ?_) fun hg => ?_
    ·exact qn S 17 rfl (fun h => hg (gf.2 h)) I
    exact qy S 17 rfl (gf.1 hg) (iI (l.xs.getD k intE.dflt)) (x_load ⟨_, Try.underlying3, rfl⟩ (S.p rfl hg) ((l_w).1.cell k (by omega) 0 _ rfl)) I
   ·intro a w12 G I S hE
    have TT := Tr.of_ch C.ms G (fun _ h => by simp at h)
    replace C := C.trans TT
    obtain ⟨e17, _⟩ := hE
    replace S := S.ext e17
    refine (Classical.em (¬ ((l.xs.getD k intE.dflt) < 0))).symm.elim (fun hg => ?_) fun hg => ?_
    ·exact qn S 17 rfl (fun h => hg (gf.2 h)) I
    exact qy S 17 rfl (gf.1 hg) (iI n) (x_move (S.e rfl)) I
   ·intro a w13 G I S hE
    have TT := Tr.of_ch C.ms G (fun _ h => by simp at h)
    replace l_w := Enc.tr (slE intE) l_w TT
    replace C := C.trans TT
    obtain ⟨e17, e21, e22, _⟩ := hE
    replace S := S.ext e17
    replace S := S.ext e21
    replace S := S.ext e22
    refine (Classical.em (¬ ((l.xs.getD k intE.dflt) < 0))).symm.elim (fun hg => ?_) fun hg => ?_
    ·exact qn S 17 rfl (fun h => hg (gf.2 h)) I
    exact qy S 17 rfl (gf.1 hg) (bD (n ≤ (l.xs.getD k intE.dflt))) (x_geq (S.p rfl hg) (S.p rfl hg)) I
   ·intro a w14 G I S hE
    have TT := Tr.of_ch C.ms G (fun _ h => by simp at h)
    replace C := C.trans TT
    obtain ⟨e17, e23, _⟩ := hE
    replace S := S.ext e17
    replace S := S.ext e23
    exact qo (bD (((l.xs.getD k intE.dflt) < 0) ∨ (n ≤ (l.xs.getD k intE.dflt)))) (x_or (S.e rfl) (S.e rfl) (S.p rfl)) I
   ·intro a w15 G I S hE
    have TT := Tr.of_ch C.ms G (fun _ h => by simp at h)
    replace C := C.trans TT
    obtain ⟨e24, _⟩ := hE
    replace S := S.ext e24
    exact qo (bD (((l.xs.getD k intE.dflt) < 0) ∨ (n ≤ (l.xs.getD k intE.dflt)))) (x_move (S.e rfl)) I
   ·intro a w16 G I S hE
    have TT := Tr.of_ch C.ms G (fun _ h => by simp at h)
    replace C := C.trans TT
    obtain ⟨e25, _⟩ := hE
    replace S := S.ext e25
    refine (Classical.em (¬ (((l.xs.getD k intE.dflt) < 0) ∨ (n ≤ (l.xs.getD k intE.dflt))))).symm.elim (fun hg => ?_) fun hg => ?_
    ·exact qn S 25 rfl (fun h => hg (gf.2 h)) I
    exact qy S 25 rfl (gf.1 hg) (iN k) (x_move (S.e rfl)) I
   ·intro a w17 G I S hE
    have TT := Tr.of_ch C.ms G (fun _ h => by simp at h)
    replace C := C.trans TT
    obtain ⟨e25, e26, _⟩ := hE
    replace S := S.ext e25
    replace S := S.ext e26
    refine (Classical.em (¬ (((l.xs.getD k intE.dflt) < 0) ∨ (n ≤ (l.xs.getD k intE.dflt))))).symm.elim (fun hg => ?_) fun hg => ?_
    ·exact qn S 25 rfl (fun h => hg (gf.2 h)) I
    exact qy S 25 rfl (gf.1 hg) (bD (0 < ((k : Nat) : Int))) (x_gtr (S.p rfl hg) (S.e rfl)) I
   ·intro a w18 G I S hE
    have TT := Tr.of_ch C.ms G (fun _ h => by simp at h)
    replace C := C.trans TT
    obtain ⟨e25, e27, _⟩ := hE
    replace S := S.ext e25
    replace S := S.ext e27
    refine (Classical.em (¬ (((l.xs.getD k intE.dflt) < 0) ∨ (n ≤ (l.xs.getD k intE.dflt))))).symm.elim (fun hg => ?_) fun hg => ?_
    ·exact qn S 25 rfl (fun h => hg (gf.2 h)) I
    exact qy S 25 rfl (gf.1 hg) (bD (0 < ((k : Nat) : Int))) (x_move (S.p rfl hg)) I
   ·intro a w19 G I S hE
    have TT := Tr.of_ch C.ms G (fun _ h => by simp at h)
    replace l_w := Enc.tr (slE intE) l_w TT
    replace C := C.trans TT
    obtain ⟨e28, _⟩ := hE
    replace S := S.ext e28
    refine (Classical.em ((¬ (((l.xs.getD k intE.dflt) < 0) ∨ (n ≤ (l.xs.getD k intE.dflt)))) ∧ (0 < ((k : Nat) : Int)))).symm.elim (fun hg => ?_) fun hg => ?_
    ·exact qn S 28 rfl (fun h => hg (ggt.2 h)) I
    exact qy S 28 rfl (ggt.1 hg) (sV l) (x_move (S.e rfl)) I
   ·intro a w20 G I S hE
    have TT := Tr.of_ch C.ms G (fun _ h => by simp at h)
    replace C := C.trans TT
    obtain ⟨e28, _⟩ := hE
    replace S := S.ext e28
    refine (Classical.em ((¬ (((l.xs.getD k intE.dflt) < 0) ∨ (n ≤ (l.xs.getD k intE.dflt)))) ∧ (0 < ((k : Nat) : Int)))).symm.elim (fun hg => ?_) fun hg => ?_
    ·exact qn S 28 rfl (fun h => hg (ggt.2 h)) I
    exact qy S 28 rfl (ggt.1 hg) (iN k) (x_move (S.e rfl)) I
   ·intro a w21 G I S hE
    have TT := Tr.of_ch C.ms G (fun _ h => by simp at h)
    replace l_w := Enc.tr (slE intE) l_w TT
    replace C := C.trans TT
    obtain ⟨e28, e29, e30, _⟩ := hE
    replace S := S.ext e28
    replace S := S.ext e29
    replace S := S.ext e30
    refine (Classical.em ((¬ (((l.xs.getD k intE.dflt) < 0) ∨ (n ≤ (l.xs.getD k intE.dflt)))) ∧ (0 < ((k : Nat) : Int)))).symm.elim (fun hg => ?_) fun hg => ?_
    ·exact qn S 28 rfl (fun h => hg (ggt.2 h)) I
    exact qy S 28 rfl (ggt.1 hg) (pT (blk l.a) (off l.a + k * 1)) (x_idx Try.underlying22 (by kernel_rfl) (S.p rfl hg) (S.p rfl hg) k rfl (by omega) ((l_w).1.adr (i := k) (by omega))) I
   ·intro a w22 G I S hE
    have TT := Tr.of_ch C.ms G (fun _ h => by simp at h)
    replace l_w := Enc.tr (slE intE) l_w TT
    replace C := C.trans TT
    obtain ⟨e28, e31, _⟩ := hE
    replace S := S.ext e28
    replace S := S.ext e31
    refine (Classical.em ((¬ (((l.xs.getD k intE.dflt) < 0) ∨ (n ≤ (l.xs.getD k intE.dflt)))) ∧ (0 < ((k : Nat) : Int)))).symm.elim (fun hg => ?_) fun hg => ?_
    ·exact qn S 28 rfl (fun h => hg (ggt.2 h)) I
    exact qy S 28 rfl (ggt.1 hg) (iI (l.xs.getD k intE.dflt)) (x_load ⟨_, Try.underlying3, rfl⟩ (S.p rfl hg) ((l_w).1.cell k (by omega) 0 _ rfl)) I
   ·intro a w23 G I S hE
    have TT := Tr.of_ch C.ms G (fun _ h => by simp at h)
    replace l_w := Enc.tr (slE intE) l_w TT
    replace C := C.trans TT
    obtain ⟨e28, _⟩ := hE
    replace S := S.ext e28
    refine (Classical.em ((¬ (((l.xs.getD k intE.dflt) < 0) ∨ (n ≤ (l.xs.getD k intE.dflt)))) ∧ (0 < ((k : Nat) : Int)))).symm.elim (fun hg => ?_) fun hg => ?_
    ·exact qn S 28 rfl (fun h => hg (ggt.2 h)) I
    exact qy S 28 rfl (ggt.1 hg) (sV l) (x_move (S.e rfl)) I
   ·intro a w24 G I S hE
    have TT := Tr.of_ch C.ms G (fun _ h => by simp at h)
    replace C := C.trans TT
    obtain ⟨e28, _⟩ := hE
    replace S := S.ext e28
    refine (Classical.em ((¬ (((l.xs.getD k intE.dflt) < 0) ∨ (n ≤ (l.xs.getD k intE.dflt)))) ∧ (0 < ((k : Nat) : Int)))).symm.elim (fun hg => ?_) fun hg => ?_
    ·exact qn S 28 rfl (fun h => hg (ggt.2 h)) I
    exact qy S 28 rfl (ggt.1 hg) (iN k) (x_move (S.e rfl)) I
   ·intro a w25 G I S hE
    have TT := Tr.of_ch C.ms G (fun _ h => by simp at h)
    replace C := C.trans TT
    obtain ⟨e28, e34, _⟩ := hE
    replace S := S.ext e28
    replace S := S.ext e34
    refine (Classical.em ((¬ (((l.xs.getD k intE.dflt) < 0) ∨ (n ≤ (l.xs.getD k intE.dflt)))) ∧ (0 < ((k : Nat) : Int)))).symm.elim (fun hg => ?_) fun hg => ?_
    ·exact qn S 28 rfl (fun h => hg (ggt.2 h)) I
    exact qy S 28 rfl (ggt.1 hg) (iI (((k : Nat) : Int) - 1)) (x_sub (S.p rfl hg) (S.e rfl) (r := (((k : Nat) : Int) - 1)) (w_i64 (by omega))) I
   ·intro a w26 G I S hE
    have TT := Tr.of_ch C.ms G (fun _ h => by simp at h)
    replace l_w := Enc.tr (slE intE) l_w TT
    replace C := C.trans TT
    obtain ⟨e28, e33, e35, _⟩ := hE
    replace S := S.ext e28
    replace S := S.ext e33
    replace S := S.ext e35
    refine (Classical.em ((¬ (((l.xs.getD k intE.dflt) < 0) ∨ (n ≤ (l.xs.getD k intE.dflt)))) ∧ (0 < ((k : Nat) : Int)))).symm.elim (fun hg => ?_) fun hg => ?_
    ·exact qn S 28 rfl (fun h => hg (ggt.2 h)) I
    exact qy S 28 rfl (ggt.1 hg) (pT (blk l.a) (off l.a + ((((k : Nat) : Int) - 1)).toNat * 1)) (x_idx Try.underlying22 (by kernel_rfl) (S.p rfl hg) (S.p rfl hg) ((((k : Nat) : Int) - 1)).toNat (by omega) (by omega) ((l_w).1.adr (i := ((((k : Nat) : Int) - 1)).toNat) (by omega))) I
   ·intro a w27 G I S hE
    have TT := Tr.of_ch C.ms G (fun _ h => by simp at h)
    replace l_w := Enc.tr (slE intE) l_w TT
    replace C := C.trans TT
    obtain ⟨e28, e36, _⟩ := hE
    replace S := S.ext e28
    replace S := S.ext e36
    refine (Classical.em ((¬ (((l.xs.getD k intE.dflt) < 0) ∨ (n ≤ (l.xs.getD k intE.dflt)))) ∧ (0 < ((k : Nat) : Int)))).symm.elim (fun hg => ?_) fun hg => ?_
    ·exact qn S 28 rfl (fun h => hg (ggt.2 h)) I
    exact qy S 28 rfl (ggt.1 hg) (iI (l.xs.getD (((((k : Nat) : Int) - 1)).toNat) intE.dflt)) (x_load ⟨_, Try.underlying3, rfl⟩ (S.p rfl hg) ((l_w).1.cell ((((k : Nat) : Int) - 1)).toNat (by omega) 0 _ rfl)) I
   ·intro a w28 G I S hE
    have TT := Tr.of_ch C.ms G (fun _ h => by simp at h)
    replace l_w := Enc.tr (slE intE) l_w TT
    replace C := C.trans TT
    obtain ⟨e28, e32, e37, _⟩ := hE
    replace S := S.ext e28
    replace S := S.ext e32
    replace S := S.ext e37
    refine (Classical.em ((¬ (((l.xs.getD k intE.dflt) < 0) ∨ (n ≤ (l.xs.getD k intE.dflt)))) ∧ (0 < ((k : Nat) : Int)))).symm.elim (fun hg => ?_) fun hg => ?_
    ·exact qn S 28 rfl (fun h => hg (ggt.2 h)) I
    exact qy S 28 rfl (ggt.1 hg) (bD ((l.xs.getD k intE.dflt) ≤ (l.xs.getD (((((k : Nat) : Int) - 1)).toNat) intE.dflt))) (x_leq (S.p rfl hg) (S.p rfl hg)) I
   ·intro a w29 G I S hE
    have TT := Tr.of_ch C.ms G (fun _ h => by simp at h)
    replace C := C.trans TT
    obtain ⟨e25, e28, e38, _⟩ := hE
    replace S := S.ext e25
    replace S := S.ext e28
    replace S := S.ext e38
    refine (Classical.em (¬ (((l.xs.getD k intE.dflt) < 0) ∨ (n ≤ (l.xs.getD k intE.dflt))))).symm.elim (fun hg => ?_) fun hg => ?_
    ·exact qn S 25 rfl (fun h => hg (gf.2 h)) I
    exact qy S 25 rfl (gf.1 hg) (bD ((0 < ((k : Nat) : Int)) ∧ ((l.xs.getD k intE.dflt) ≤ (l.xs.getD (((((k : Nat) : Int) - 1)).toNat) intE.dflt)))) (x_and (S.p rfl hg) (fun hl => ((S.e rfl).trans (if_pos ⟨hg, hl⟩))) (S.e rfl)) I
   intro a w30 G I S hE
   have TT := Tr.of_ch C.ms G (fun _ h => by simp at h)
   replace C := C.trans TT
   obtain ⟨e25, e39, _⟩ := hE
   replace S := S.ext e25
   replace S := S.ext e39
   exact qo (bD ((((l.xs.getD k intE.dflt) < 0) ∨ (n ≤ (l.xs.getD k intE.dflt))) ∨ ((0 < ((k : Nat) : Int)) ∧ ((l.xs.getD k intE.dflt) ≤ (l.xs.getD (((((k : Nat) : Int) - 1)).toNat) intE.dflt))))) (x_or (S.e rfl) (S.e rfl) (S.p rfl)) I
  clear S a; intro a w31 G I S hE; have TT := Tr.of_ch C.ms G (fun _ h => by simp at h)
  replace l_w := Enc.tr (slE intE) l_w TT
  replace GL0 := GL0.trans TT
  replace C := C.trans TT
  clear TT G
  obtain ⟨e40, -⟩ := hE
  replace S := S.ext e40
  clear e40
  obtain ⟨hl3, hu3⟩ : inI64 (l.xs.getD k intE.dflt) := id ((l_w).1.wf k (by omega))
  refine qt ?_
  refine cond_dec S rfl ?_ ?_
  ·intro hc1
   refine qs ?_
   refine qa S rfl ?_; clear S a; intro a S
   refine qt ?_
   refine wp_ret ?_
   refine blk_r ?_
   refine then_r ?_
   refine then_r ?_
   refine blk_r ?_
   refine then_r ?_
   refine ret1 rfl S rfl ?_
   refine ⟨(r1 (vf ?_)), C⟩
   intro h; have h2 := h k (by omega); unfold rise at h2; have hi0 : intE.dflt = 0 := rfl; have hj0 : ((k : Nat) : Int) - 1 = ((k - 1 : Nat) : Int) ∨ k = 0 := by omega
   rcases hj0 with hj0 | hj0 <;> simp only [hi0, hj0, Int.toNat_natCast] at * <;> omega
  intro hc2
  refine wp_skip ?_
  refine blk_n ?_
  refine then_n ?_
  refine wp_region_lit ?_
  refine qm S rfl ?_; clear S a; intro a S
  refine qv S (iN (k + 1)) (x_add (S.e rfl) (S.e rfl) (r := ((k + 1 : Nat) : Int)) (w_i64 (by omega))) ?_; clear S a; intro a S
  refine qa S rfl ?_; clear S a; intro a S
  refine qt ?_
  refine ⟨l.xs.length - (k + 1), ?_, k + 1, S.sub ⟨rfl, rfl, rfl, trivial⟩, GL0, ?_, rfl⟩
  ·omega
  refine ⟨by omega, fun j hj => ?_⟩
  rcases Nat.lt_succ_iff_lt_or_eq.1 hj with h | h
  ·exact hn j h
  subst h; unfold rise; have hi0 : intE.dflt = 0 := rfl; have hj0 : ((j : Nat) : Int) - 1 = ((j - 1 : Nat) : Int) ∨ j = 0 := by omega
  rcases hj0 with hj0 | hj0 <;> simp only [hi0, hj0, Int.toNat_natCast] at * <;> omega
 intro hc3
 refine wp_exit ?_
 refine then_e ?_
 refine then_e ?_
 refine blk_e ?_
 refine then_n ?_
 refine qs ?_
 refine qa S rfl ?_; clear S a; intro a S
 refine qt ?_
 refine wp_ret ?_
 refine ret1 rfl S rfl ?_
 refine ⟨(r1 (vt ?_)), C⟩
 exact fun i hi => hn i (by omega)
set_option maxHeartbeats 2000000 in
set_option maxRecDepth 20000 in
theorem rHas (w : World) (F : Nat → Prop) (hF : Old F w) (M : MS [] w) (l : Sl Int) (l_w : (slE intE).wf (Fr F []) w.heap l) (v : Int) (v_h : inI64 v) :
 Calls Try.prog 73 #[sV l, iI v] w fun e w' => e = .returned (bD (v ∈ l.xs)) ∧ Tr [] w [] w' := by
 have C : Tr [] w [] w := Tr.refl M
 have : l.xs.length ≤ 9223372036854775807 := (l_w).1.len
 obtain ⟨v_hl, v_hu⟩ : inI64 v := id v_h
 refine enter Try.func73 rfl 18 rfl (Nat.le_of_ble_eq_true rfl) ?_
 intro a S
 refine qs ?_
 refine qa S rfl ?_; clear S a; intro a S
 refine qt ?_
 refine wp_seq ?_
 refine qs ?_
 refine qa S rfl ?_; clear S a; intro a S
 refine qt ?_
 refine wp_block ?_
 refine wp_loop_ghost (fun m a wr => ∃ k : Nat, Slots 18 [(0, sV l), (1, iI v), (5, iN k)] a ∧ Tr [] w [] wr ∧ (k ≤ l.xs.length ∧ ∀ j, j < k → ¬ l.xs.getD j intE.dflt = v) ∧ (l.xs.length - k) = m) (l.xs.length - 0) ?_ ?_
 ·refine ⟨0, S.sub ⟨rfl, rfl, rfl, trivial⟩, Tr.refl C.ms, ?_, rfl⟩
  exact ⟨Nat.zero_le _, fun j hj => by omega⟩
 rintro m a w1 ⟨k, S, G, hR, rfl⟩
 replace l_w := Enc.tr (slE intE) l_w G
 replace C := C.trans G
 have GL0 := G; clear G
 obtain ⟨hk, hn⟩ := hR
 refine wp_seq ?_
 refine qs ?_
 refine qm S rfl ?_; clear S a; intro a S
 refine qm S rfl ?_; clear S a; intro a S
 have hn1 : l.xs.length ≤ 9223372036854775807 := (l_w).1.len
 refine qv S (iN l.xs.length) (x_len Try.underlying22 (S.e rfl)) ?_; clear S a; intro a S
 refine qv S (bD (((k : Nat) : Int) < ((l.xs.length : Nat) : Int))) (x_lss (S.e rfl) (S.e rfl)) ?_; clear S a; intro a S
 refine qt ?_
 refine cond_dec S rfl ?_ ?_
 ·intro hc0
  refine wp_skip ?_
  refine then_n ?_
  refine wp_seq ?_
  refine wp_block ?_
  refine qs ?_
  refine qm S rfl ?_; clear S a; intro a S
  refine qm S rfl ?_; clear S a; intro a S
  refine qv S (pT (blk l.a) (off l.a + k * 1)) (x_idx Try.underlying22 (by kernel_rfl) (S.e rfl) (S.e rfl) k rfl (by omega) ((l_w).1.adr (i := k) (by omega))) ?_; clear S a; intro a S
  obtain ⟨hl2, hu2⟩ : inI64 (l.xs.getD k intE.dflt) := id ((l_w).1.wf k (by omega))
  refine qv S (iI (l.xs.getD k intE.dflt)) (x_load ⟨_, Try.underlying3, rfl⟩ (S.e rfl) ((l_w).1.cell k (by omega) 0 _ rfl)) ?_; clear S a; intro a S
  refine qm S rfl ?_; clear S a; intro a S
  refine qv S (bD ((l.xs.getD k intE.dflt) = v)) (x_eql (S.e rfl) (S.e rfl)) ?_; clear S a; intro a S
  refine qt ?_
  refine cond_dec S rfl ?_ ?_
  ·intro hc1
   refine qs ?_
   refine qa S rfl ?_; clear S a; intro a S
   refine qt ?_
   refine wp_ret ?_
   refine blk_r ?_
   refine then_r ?_
   refine then_r ?_
   refine blk_r ?_
   refine then_r ?_
   refine ret1 rfl S rfl ?_
   refine ⟨(r1 (vt ?_)), C⟩
   rw [← hc1]; exact getD_mem (by omega)
  intro hc2
  refine wp_skip ?_
  refine blk_n ?_
  refine then_n ?_
  refine wp_region_lit ?_
  refine qm S rfl ?_; clear S a; intro a S
  refine qv S (iN (k + 1)) (x_add (S.e rfl) (S.e rfl) (r := ((k + 1 : Nat) : Int)) (w_i64 (by omega))) ?_; clear S a; intro a S
  refine qa S rfl ?_; clear S a; intro a S
  refine qt ?_
  refine ⟨l.xs.length - (k + 1), ?_, k + 1, S.sub ⟨rfl, rfl, rfl, trivial⟩, GL0, ?_, rfl⟩
  ·omega
  refine ⟨by omega, fun j hj => ?_⟩
  rcases Nat.lt_succ_iff_lt_or_eq.1 hj with h | h
  ·exact hn j h
  subst h; omega
 intro hc3
 refine wp_exit ?_
 refine then_e ?_
 refine then_e ?_
 refine blk_e ?_
 refine then_n ?_
 refine qs ?_
 refine qa S rfl ?_; clear S a; intro a S
 refine qt ?_
 refine wp_ret ?_
 refine ret1 rfl S rfl ?_
 refine ⟨(r1 (vf ?_)), C⟩
 intro h; obtain ⟨j, hj, e⟩ := mem_getD intE.dflt h; exact hn j (by omega) e
set_option maxHeartbeats 2000000 in
set_option maxRecDepth 20000 in
theorem ints (w : World) (F : Nat → Prop) (hF : Old F w) (M : MS [] w) (x : Sl Int) (x_w : (slE intE).wf (Fr F []) w.heap x) (y : Sl Int) (y_w : (slE intE).wf (Fr F []) w.heap y) :
 Calls Try.prog 76 #[sV x, sV y] w fun e w' => e = .returned (bD (x.xs = y.xs)) ∧ Tr [] w [] w' := by
 have C : Tr [] w [] w := Tr.refl M
 have : x.xs.length ≤ 9223372036854775807 := (x_w).1.len
 have : y.xs.length ≤ 9223372036854775807 := (y_w).1.len
 refine enter Try.func76 rfl 26 rfl (Nat.le_of_ble_eq_true rfl) ?_
 intro a S
 refine qs ?_
 refine qa S rfl ?_; clear S a; intro a S
 refine qt ?_
 refine wp_seq ?_
 refine qs ?_
 refine qm S rfl ?_; clear S a; intro a S
 have hn1 : x.xs.length ≤ 9223372036854775807 := (x_w).1.len
 refine qv S (iN x.xs.length) (x_len Try.underlying22 (S.e rfl)) ?_; clear S a; intro a S
 refine qm S rfl ?_; clear S a; intro a S
 have hn2 : y.xs.length ≤ 9223372036854775807 := (y_w).1.len
 refine qv S (iN y.xs.length) (x_len Try.underlying22 (S.e rfl)) ?_; clear S a; intro a S
 refine qv S (bD (¬ ((x.xs.length : Nat) : Int) = ((y.xs.length : Nat) : Int))) (x_neq (S.e rfl) (S.e rfl)) ?_; clear S a; intro a S
 refine qt ?_
 refine cond_dec S rfl ?_ ?_
 ·intro hc0
  refine qs ?_
  refine qa S rfl ?_; clear S a; intro a S
  refine qt ?_
  refine wp_ret ?_
  refine then_r ?_
  refine ret1 rfl S rfl ?_
  refine ⟨(r1 (vf ?_)), C⟩
  intro h; rw [h] at hc0; omega
 intro hc1
 refine wp_skip ?_
 refine then_n ?_
 refine wp_seq ?_
 refine qs ?_
 refine qa S rfl ?_; clear S a; intro a S
 refine qt ?_
 refine wp_block ?_
 refine wp_loop_ghost (fun m a wr => ∃ k : Nat, Slots 26 [(0, sV x), (1, sV y), (5, iN k)] a ∧ Tr [] w [] wr ∧ (k ≤ x.xs.length ∧ ∀ j, j < k → x.xs.getD j intE.dflt = y.xs.getD j intE.dflt) ∧ (x.xs.length - k) = m) (x.xs.length - 0) ?_ ?_
 ·refine ⟨0, S.sub ⟨rfl, rfl, rfl, trivial⟩, Tr.refl C.ms, ?_, rfl⟩
  exact ⟨Nat.zero_le _, fun j hj => by omega⟩
 rintro m a w1 ⟨k, S, G, hR, rfl⟩
 replace x_w := Enc.tr (slE intE) x_w G
 replace y_w := Enc.tr (slE intE) y_w G
 replace C := C.trans G
 have GL0 := G; clear G
 obtain ⟨hk, hn⟩ := hR
 refine wp_seq ?_
 refine qs ?_
 refine qm S rfl ?_; clear S a; intro a S
 refine qm S rfl ?_; clear S a; intro a S
 refine qv S (iN x.xs.length) (x_len Try.underlying22 (S.e rfl)) ?_; clear S a; intro a S
 refine qv S (bD (((k : Nat) : Int) < ((x.xs.length : Nat) : Int))) (x_lss (S.e rfl) (S.e rfl)) ?_; clear S a; intro a S
 refine qt ?_
 refine cond_dec S rfl ?_ ?_
 ·intro hc2
  refine wp_skip ?_
  refine then_n ?_
  refine wp_seq ?_
  refine wp_block ?_
  refine wp_seq ?_
  replace S := S.sub (L' := [(0, sV x), (1, sV y), (5, iN k), (11, iN k), (12, sV x), (13, iN x.xs.length), (14, bD (((k : Nat) : Int) < ((x.xs.length : Nat) : Int)))]) ⟨rfl, rfl, rfl, rfl, rfl, rfl, rfl, trivial⟩
  refine wp_heads (M := In []) S 9 [(17, iV (sV x)), (18, iV (iN k)), (19, iV (pT (blk x.a) (off x.a + k * 1))), (20, iV (iI (x.xs.getD k intE.dflt))), (21, iV (sV y)), (22, iV (iN k)), (23, iV (pT (blk y.a) (off y.a + k * 1))), (24, iV (iI (y.xs.getD k intE.dflt))), (25, iV (bD (¬ (x.xs.getD k intE.dflt) = (y.xs.getD k intE.dflt))))] (fun w => True) [[], [], [17, 18], [19], [], [], [21, 22], [23], [20, 24]] [25] _ rfl mixed (by kernel_rfl) rfl trivial ?_ ?_
  ·refine ⟨?_, ?_, ?_, ?_, ?_, ?_, ?_, ?_, ?_, trivial⟩
   ·intro a w2 G I S hE
    have TT := Tr.of_ch C.ms G (fun _ h => by simp at h)
    replace x_w := Enc.tr (slE intE) x_w TT
    replace C := C.trans TT
    exact qo (sV x) (x_move (S.e rfl)) I
   ·intro a w3 G I S hE
    have TT := Tr.of_ch C.ms G (fun _ h => by simp at h)
    replace C := C.trans TT
    exact qo (iN k) (x_move (S.e rfl)) I
   ·intro a w4 G I S hE
    have TT := Tr.of_ch C.ms G (fun _ h => by simp at h)
    replace x_w := Enc.tr (slE intE) x_w TT
    replace C := C.trans TT
    obtain ⟨e17, e18, _⟩ := hE
    replace S := S.ext e17
    replace S := S.ext e18
    exact qo (pT (blk x.a) (off x.a + k * 1)) (x_idx Try.underlying22 (by kernel_rfl) (S.e rfl) (S.e rfl) k rfl (by omega) ((x_w).1.adr (i := k) (by omega))) I
   ·intro a w5 G I S hE
    have TT := Tr.of_ch C.ms G (fun _ h => by simp at h)
    replace x_w := Enc.tr (slE intE) x_w TT
    replace C := C.trans TT
    obtain ⟨e19, _⟩ := hE
    replace S := S.ext e19
    obtain ⟨hl3, hu3⟩ : inI64 (x.xs.getD k intE.dflt) := id ((x_w).1.wf k (by omega))
    exact qo (iI (x.xs.getD k intE.dflt)) (x_load ⟨_, Try.underlying3, rfl⟩ (S.e rfl) ((x_w).1.cell k (by omega) 0 _ rfl)) I
   ·intro a w6 G I S hE
    have TT := Tr.of_ch C.ms G (fun _ h => by simp at h)
    replace y_w := Enc.tr (slE intE) y_w TT
    replace C := C.trans TT
    exact qo (sV y) (x_move (S.e rfl)) I
   ·intro a w7 G I S hE
    have TT := Tr.of_ch C.ms G (fun _ h => by simp at h)
    replace C := C.trans TT
    exact qo (iN k) (x_move (S.e rfl)) I
   ·intro a w8 G I S hE
    have TT := Tr.of_ch C.ms G (fun _ h => by simp at h)
    replace y_w := Enc.tr (slE intE) y_w TT
    replace C := C.trans TT
    obtain ⟨e21, e22, _⟩ := hE
    replace S := S.ext e21
    replace S := S.ext e22
    exact qo (pT (blk y.a) (off y.a + k * 1)) (x_idx Try.underlying22 (by kernel_rfl) (S.e rfl) (S.e rfl) k rfl (by omega) ((y_w).1.adr (i := k) (by omega))) I
   ·intro a w9 G I S hE
    have TT := Tr.of_ch C.ms G (fun _ h => by simp at h)
    replace y_w := Enc.tr (slE intE) y_w TT
    replace C := C.trans TT
    obtain ⟨e23, _⟩ := hE
    replace S := S.ext e23
    obtain ⟨hl4, hu4⟩ : inI64 (y.xs.getD k intE.dflt) := id ((y_w).1.wf k (by omega))
    exact qo (iI (y.xs.getD k intE.dflt)) (x_load ⟨_, Try.underlying3, rfl⟩ (S.e rfl) ((y_w).1.cell k (by omega) 0 _ rfl)) I
   intro a w10 G I S hE
   have TT := Tr.of_ch C.ms G (fun _ h => by simp at h)
   replace x_w := Enc.tr (slE intE) x_w TT
   replace y_w := Enc.tr (slE intE) y_w TT
   replace C := C.trans TT
   obtain ⟨e20, e24, _⟩ := hE
   replace S := S.ext e20
   replace S := S.ext e24
   exact qo (bD (¬ (x.xs.getD k intE.dflt) = (y.xs.getD k intE.dflt))) (x_neq (S.e rfl) (S.e rfl)) I
  clear S a; intro a w11 G I S hE; have TT := Tr.of_ch C.ms G (fun _ h => by simp at h)
  replace x_w := Enc.tr (slE intE) x_w TT
  replace y_w := Enc.tr (slE intE) y_w TT
  replace GL0 := GL0.trans TT
  replace C := C.trans TT
  clear TT G
  obtain ⟨e25, -⟩ := hE
  replace S := S.ext e25
  clear e25
  obtain ⟨hl5, hu5⟩ : inI64 (x.xs.getD k intE.dflt) := id ((x_w).1.wf k (by omega))
  obtain ⟨hl6, hu6⟩ : inI64 (y.xs.getD k intE.dflt) := id ((y_w).1.wf k (by omega))
  refine qt ?_
  refine cond_dec S rfl ?_ ?_
  ·intro hc3
   refine qs ?_
   refine qa S rfl ?_; clear S a; intro a S
   refine qt ?_
   refine wp_ret ?_
   refine blk_r ?_
   refine then_r ?_
   refine then_r ?_
   refine blk_r ?_
   refine then_r ?_
   refine ret1 rfl S rfl ?_
   refine ⟨(r1 (vf ?_)), C⟩
   intro h; rw [h] at hc3; omega
  intro hc4
  refine wp_skip ?_
  refine blk_n ?_
  refine then_n ?_
  refine wp_region_lit ?_
  refine qm S rfl ?_; clear S a; intro a S
  refine qv S (iN (k + 1)) (x_add (S.e rfl) (S.e rfl) (r := ((k + 1 : Nat) : Int)) (w_i64 (by omega))) ?_; clear S a; intro a S
  refine qa S rfl ?_; clear S a; intro a S
  refine qt ?_
  refine ⟨x.xs.length - (k + 1), ?_, k + 1, S.sub ⟨rfl, rfl, rfl, trivial⟩, GL0, ?_, rfl⟩
  ·omega
  refine ⟨by omega, fun j hj => ?_⟩
  rcases Nat.lt_succ_iff_lt_or_eq.1 hj with h | h
  ·exact hn j h
  subst h; omega
 intro hc5
 refine wp_exit ?_
 refine then_e ?_
 refine then_e ?_
 refine blk_e ?_
 refine then_n ?_
 refine qs ?_
 refine qa S rfl ?_; clear S a; intro a S
 refine qt ?_
 refine wp_ret ?_
 refine ret1 rfl S rfl ?_
 refine ⟨(r1 (vt ?_)), C⟩
 exact list_ext intE.dflt (by omega) fun i hi => hn i (by omega)
set_option maxHeartbeats 2000000 in
set_option maxRecDepth 20000 in
theorem sameIdx (w : World) (F : Nat → Prop) (hF : Old F w) (M : MS [] w) (x : Sl Int) (x_w : (slE intE).wf (Fr F []) w.heap x) (y : Sl Int) (y_w : (slE intE).wf (Fr F []) w.heap y) :
 Calls Try.prog 45 #[sV x, sV y] w fun e w' => e = .returned (bD (x.xs = y.xs)) ∧ Tr [] w [] w' := by
 have C : Tr [] w [] w := Tr.refl M
 have : x.xs.length ≤ 9223372036854775807 := (x_w).1.len
 have : y.xs.length ≤ 9223372036854775807 := (y_w).1.len
 refine enter Try.func45 rfl 8 rfl (Nat.le_of_ble_eq_true rfl) ?_
 intro a S
 refine qs ?_
 refine qa S rfl ?_; clear S a; intro a S
 refine qt ?_
 refine qs ?_
 refine qm S rfl ?_; clear S a; intro a S
 refine qm S rfl ?_; clear S a; intro a S
 refine seq_call S (by decide) (vs := #[sV x, sV y]) rfl callable_76 (ints _ (Ex F _) (C.old hF)  (MS.nil _) x ((slE intE).down0 x_w) y ((slE intE).down0 y_w)) ?_
 rintro e w1 ⟨rfl, T0⟩; refine ⟨_, rfl, ?_⟩; clear S a; intro a S
 have TT := Tr.framed0 C.ms T0; have G := T0.ch
 replace x_w := Enc.tr (slE intE) x_w TT
 replace y_w := Enc.tr (slE intE) y_w TT
 replace C := C.trans TT
 clear T0 G TT
 refine qa S rfl ?_; clear S a; intro a S
 refine qt ?_
 refine wp_ret ?_
 refine ret1 rfl S rfl ?_
 refine ⟨(r1 (vb ?_)), C⟩
 first | exact Iff.rfl | assumption | omega | simp_all
set_option maxHeartbeats 2000000 in
set_option maxRecDepth 20000 in
theorem fValid (w : World) (F : Nat → Prop) (hF : Old F w) (M : MS [] w) (t : Topo) (t_w : topoE.wf (Fr F []) w.heap t) (f : Fail) (f_w : failE.wf (Fr F []) w.heap f) :
 Calls Try.prog 22 #[tV t, fV f] w fun e w' => e = .returned (bD (failV t f)) ∧ Tr [] w [] w' := by
 have C : Tr [] w [] w := Tr.refl M
 have : t.devs.xs.length ≤ 9223372036854775807 := (t_w.1).1.len
 have : t.links.xs.length ≤ 9223372036854775807 := (t_w.2.1).1.len
 have : t.edges.xs.length ≤ 9223372036854775807 := (t_w.2.2.1).1.len
 have : t.pools.xs.length ≤ 9223372036854775807 := (t_w.2.2.2.1).1.len
 obtain ⟨_, _⟩ : inI64 t.tol := t_w.2.2.2.2
 have : f.links.xs.length ≤ 9223372036854775807 := (f_w.1).1.len
 have : f.devs.xs.length ≤ 9223372036854775807 := (f_w.2).1.len
 refine enter Try.func22 rfl 23 rfl (Nat.le_of_ble_eq_true rfl) ?_
 intro a S
 refine qs ?_
 refine seq_new S rfl rfl (by decide) (fun b => pT b 0) (cs := (tL t)) (x_box (tL t) (S.e rfl) rfl) ?_
 clear S a; intro a w1 b1 hb1 hbs1 G K1 S; have hbl1 : b1 < w1.heap.size := by omega
 have TT := Tr.fresh C.ms hb1 hbl1 G
 replace t_w := Enc.tr (topoE) t_w TT
 replace f_w := Enc.tr (failE) f_w TT
 replace C := C.trans TT
 clear TT G
 refine seq_new S rfl rfl (by decide) (fun b => pT b 0) (cs := (fL f)) (x_box (fL f) (S.e rfl) rfl) ?_
 clear S a; intro a w2 b2 hb2 hbs2 G K2 S; have hbl2 : b2 < w2.heap.size := by omega
 have TT := Tr.fresh C.ms hb2 hbl2 G
 replace t_w := Enc.tr (topoE) t_w TT
 replace f_w := Enc.tr (failE) f_w TT
 replace K1 := Blk.tr0 K1 G
 replace C := C.trans TT
 clear TT G
 refine qa S rfl ?_; clear S a; intro a S
 refine qt ?_
 refine qs ?_
 refine qv S _ (x_loadw (tL t) ⟨_, Try.underlying28, rfl, by kernel_rfl⟩ (S.e rfl) (K1.mid [] _ [] rfl _ rfl)) ?_; clear S a; intro a S
 refine seq_call S (by decide) (vs := #[tV t]) rfl callable_50 (tValid _ (Ex F _) (C.old hF)  (MS.nil _) t ((topoE).down0 t_w)) ?_
 rintro e w3 ⟨rfl, T0⟩; refine ⟨_, rfl, ?_⟩; clear S a; intro a S
 have TT := Tr.framed0 C.ms T0; have G := T0.ch
 replace t_w := Enc.tr (topoE) t_w TT
 replace f_w := Enc.tr (failE) f_w TT
 replace K1 := Blk.tr0 K1 G
 replace K2 := Blk.tr0 K2 G
 replace C := C.trans TT
 clear T0 G TT
 refine qm S rfl ?_; clear S a; intro a S
 refine qg S 7 rfl (topV t) gt (pT b2 (0 + 0)) (fun hg => (x_fld (z := 0) (0) 0 Try.underlying41 rfl rfl (by kernel_rfl) (S.e rfl))) ?_; clear S a; intro a S
 refine qg S 7 rfl (topV t) gt (sV f.links) (fun hg => (x_load ⟨_, Try.underlying22, rfl⟩ (S.p rfl hg) (K2.cell (j := 0) rfl))) ?_; clear S a; intro a S
 refine qg S 7 rfl (topV t) gt (pT b1 (0 + 1)) (fun hg => (x_fld (z := 0) (0) 1 Try.underlying28 rfl rfl (by kernel_rfl) (S.e rfl))) ?_; clear S a; intro a S
 refine qg S 7 rfl (topV t) gt (sV t.links) (fun hg => (x_load ⟨_, Try.underlying24, rfl⟩ (S.p rfl hg) (K1.cell (j := 1) rfl))) ?_; clear S a; intro a S
 refine qg S 7 rfl (topV t) gt (iN t.links.xs.length) (fun hg => (x_len Try.underlying24 (S.p rfl hg))) ?_; clear S a; intro a S
 refine seq_gcall S (by decide) (gd := 7) (vs := #[sV f.links, iN t.links.xs.length]) (v := bD (rising f.links.xs ((t.links.xs.length : Nat) : Int))) rfl rfl (by decide) rfl (c := (topV t)) gt (fun hg => by simp only [List.map_toArray, List.map_cons, List.map_nil, show a.eval (.tmp 9) = sV f.links from (S.p rfl hg), show a.eval (.tmp 12) = iN t.links.xs.length from (S.p rfl hg)]) callable_56 (fun hg => ((fRising _ (Ex F _) (C.old hF)  (MS.nil _) f.links ((slE intE).down0 f_w.1) ((t.links.xs.length : Nat) : Int) ⟨by omega, by omega⟩)).mono (fun _ _ h => ⟨h.1, h.2.ch⟩)) ?_
 clear S a; intro a w4 G S; have TT := Tr.of_ch0 C.ms G
 replace t_w := Enc.tr (topoE) t_w TT
 replace f_w := Enc.tr (failE) f_w TT
 replace K1 := Blk.tr0 K1 G
 replace K2 := Blk.tr0 K2 G
 replace C := C.trans TT
 refine qv S (bD ((topV t) ∧ (rising f.links.xs ((t.links.xs.length : Nat) : Int)))) (x_and (S.e rfl) (S.p rfl) (S.e rfl)) ?_; clear S a; intro a S
 refine qm S rfl ?_; clear S a; intro a S
 refine qg S 15 rfl ((topV t) ∧ (rising f.links.xs ((t.links.xs.length : Nat) : Int))) gt (pT b2 (0 + 1)) (fun hg => (x_fld (z := 0) (0) 1 Try.underlying41 rfl rfl (by kernel_rfl) (S.e rfl))) ?_; clear S a; intro a S
 refine qg S 15 rfl ((topV t) ∧ (rising f.links.xs ((t.links.xs.length : Nat) : Int))) gt (sV f.devs) (fun hg => (x_load ⟨_, Try.underlying22, rfl⟩ (S.p rfl hg) (K2.cell (j := 1) rfl))) ?_; clear S a; intro a S
 refine qg S 15 rfl ((topV t) ∧ (rising f.links.xs ((t.links.xs.length : Nat) : Int))) gt (pT b1 (0 + 0)) (fun hg => (x_fld (z := 0) (0) 0 Try.underlying28 rfl rfl (by kernel_rfl) (S.e rfl))) ?_; clear S a; intro a S
 refine qg S 15 rfl ((topV t) ∧ (rising f.links.xs ((t.links.xs.length : Nat) : Int))) gt (sV t.devs) (fun hg => (x_load ⟨_, Try.underlying23, rfl⟩ (S.p rfl hg) (K1.cell (j := 0) rfl))) ?_; clear S a; intro a S
 refine qg S 15 rfl ((topV t) ∧ (rising f.links.xs ((t.links.xs.length : Nat) : Int))) gt (iN t.devs.xs.length) (fun hg => (x_len Try.underlying23 (S.p rfl hg))) ?_; clear S a; intro a S
 refine seq_gcall S (by decide) (gd := 15) (vs := #[sV f.devs, iN t.devs.xs.length]) (v := bD (rising f.devs.xs ((t.devs.xs.length : Nat) : Int))) rfl rfl (by decide) rfl (c := ((topV t) ∧ (rising f.links.xs ((t.links.xs.length : Nat) : Int)))) gt (fun hg => by simp only [List.map_toArray, List.map_cons, List.map_nil, show a.eval (.tmp 17) = sV f.devs from (S.p rfl hg), show a.eval (.tmp 20) = iN t.devs.xs.length from (S.p rfl hg)]) callable_56 (fun hg => ((fRising _ (Ex F _) (C.old hF)  (MS.nil _) f.devs ((slE intE).down0 f_w.2) ((t.devs.xs.length : Nat) : Int) ⟨by omega, by omega⟩)).mono (fun _ _ h => ⟨h.1, h.2.ch⟩)) ?_
 clear S a; intro a w5 G S; have TT := Tr.of_ch0 C.ms G
 replace t_w := Enc.tr (topoE) t_w TT
 replace f_w := Enc.tr (failE) f_w TT
 replace K1 := Blk.tr0 K1 G
 replace K2 := Blk.tr0 K2 G
 replace C := C.trans TT
 refine qv S (bD (((topV t) ∧ (rising f.links.xs ((t.links.xs.length : Nat) : Int))) ∧ (rising f.devs.xs ((t.devs.xs.length : Nat) : Int)))) (x_and (S.e rfl) (S.p rfl) (S.e rfl)) ?_; clear S a; intro a S
 refine qa S rfl ?_; clear S a; intro a S
 refine qt ?_
 refine wp_ret ?_
 refine ret1 rfl S rfl ?_
 have TD : Tr [one b2, one b1] w5 [] w5 := Tr.drop C.ms [] (by decide)
 have GD : Ch (In []) w5 w5 := Ch.refl _
 clear K1
 clear K2
 replace t_w := Enc.tr (topoE) t_w TD
 replace f_w := Enc.tr (failE) f_w TD
 replace C := C.trans TD
 clear TD GD
 refine ⟨(r1 (vb ?_)), C⟩
 first | exact Iff.rfl | assumption | omega | simp_all
set_option maxHeartbeats 2000000 in
set_option maxRecDepth 20000 in
theorem rValidF (w : World) (F : Nat → Prop) (hF : Old F w) (M : MS [] w) (t : Topo) (t_w : topoE.wf (Fr F []) w.heap t) (f : Fail) (f_w : failE.wf (Fr F []) w.heap f) :
 Calls Try.prog 59 #[tV t, fV f] w fun e w' => e = .returned (bD (failV t f)) ∧ Tr [] w [] w' := by
 have C : Tr [] w [] w := Tr.refl M
 have : t.devs.xs.length ≤ 9223372036854775807 := (t_w.1).1.len
 have : t.links.xs.length ≤ 9223372036854775807 := (t_w.2.1).1.len
 have : t.edges.xs.length ≤ 9223372036854775807 := (t_w.2.2.1).1.len
 have : t.pools.xs.length ≤ 9223372036854775807 := (t_w.2.2.2.1).1.len
 obtain ⟨_, _⟩ : inI64 t.tol := t_w.2.2.2.2
 have : f.links.xs.length ≤ 9223372036854775807 := (f_w.1).1.len
 have : f.devs.xs.length ≤ 9223372036854775807 := (f_w.2).1.len
 refine enter Try.func59 rfl 23 rfl (Nat.le_of_ble_eq_true rfl) ?_
 intro a S
 refine qs ?_
 refine seq_new S rfl rfl (by decide) (fun b => pT b 0) (cs := (tL t)) (x_box (tL t) (S.e rfl) rfl) ?_
 clear S a; intro a w1 b1 hb1 hbs1 G K1 S; have hbl1 : b1 < w1.heap.size := by omega
 have TT := Tr.fresh C.ms hb1 hbl1 G
 replace t_w := Enc.tr (topoE) t_w TT
 replace f_w := Enc.tr (failE) f_w TT
 replace C := C.trans TT
 clear TT G
 refine seq_new S rfl rfl (by decide) (fun b => pT b 0) (cs := (fL f)) (x_box (fL f) (S.e rfl) rfl) ?_
 clear S a; intro a w2 b2 hb2 hbs2 G K2 S; have hbl2 : b2 < w2.heap.size := by omega
 have TT := Tr.fresh C.ms hb2 hbl2 G
 replace t_w := Enc.tr (topoE) t_w TT
 replace f_w := Enc.tr (failE) f_w TT
 replace K1 := Blk.tr0 K1 G
 replace C := C.trans TT
 clear TT G
 refine qa S rfl ?_; clear S a; intro a S
 refine qt ?_
 refine qs ?_
 refine qv S _ (x_loadw (tL t) ⟨_, Try.underlying28, rfl, by kernel_rfl⟩ (S.e rfl) (K1.mid [] _ [] rfl _ rfl)) ?_; clear S a; intro a S
 refine seq_call S (by decide) (vs := #[tV t]) rfl callable_53 (r11Valid _ (Ex F _) (C.old hF)  (MS.nil _) t ((topoE).down0 t_w)) ?_
 rintro e w3 ⟨rfl, T0⟩; refine ⟨_, rfl, ?_⟩; clear S a; intro a S
 have TT := Tr.framed0 C.ms T0; have G := T0.ch
 replace t_w := Enc.tr (topoE) t_w TT
 replace f_w := Enc.tr (failE) f_w TT
 replace K1 := Blk.tr0 K1 G
 replace K2 := Blk.tr0 K2 G
 replace C := C.trans TT
 clear T0 G TT
 refine qm S rfl ?_; clear S a; intro a S
 refine qg S 7 rfl (topV t) gt (pT b2 (0 + 0)) (fun hg => (x_fld (z := 0) (0) 0 Try.underlying41 rfl rfl (by kernel_rfl) (S.e rfl))) ?_; clear S a; intro a S
 refine qg S 7 rfl (topV t) gt (sV f.links) (fun hg => (x_load ⟨_, Try.underlying22, rfl⟩ (S.p rfl hg) (K2.cell (j := 0) rfl))) ?_; clear S a; intro a S
 refine qg S 7 rfl (topV t) gt (pT b1 (0 + 1)) (fun hg => (x_fld (z := 0) (0) 1 Try.underlying28 rfl rfl (by kernel_rfl) (S.e rfl))) ?_; clear S a; intro a S
 refine qg S 7 rfl (topV t) gt (sV t.links) (fun hg => (x_load ⟨_, Try.underlying24, rfl⟩ (S.p rfl hg) (K1.cell (j := 1) rfl))) ?_; clear S a; intro a S
 refine qg S 7 rfl (topV t) gt (iN t.links.xs.length) (fun hg => (x_len Try.underlying24 (S.p rfl hg))) ?_; clear S a; intro a S
 refine seq_gcall S (by decide) (gd := 7) (vs := #[sV f.links, iN t.links.xs.length]) (v := bD (rising f.links.xs ((t.links.xs.length : Nat) : Int))) rfl rfl (by decide) rfl (c := (topV t)) gt (fun hg => by simp only [List.map_toArray, List.map_cons, List.map_nil, show a.eval (.tmp 9) = sV f.links from (S.p rfl hg), show a.eval (.tmp 12) = iN t.links.xs.length from (S.p rfl hg)]) callable_95 (fun hg => ((rAscending _ (Ex F _) (C.old hF)  (MS.nil _) f.links ((slE intE).down0 f_w.1) ((t.links.xs.length : Nat) : Int) ⟨by omega, by omega⟩)).mono (fun _ _ h => ⟨h.1, h.2.ch⟩)) ?_
 clear S a; intro a w4 G S; have TT := Tr.of_ch0 C.ms G
 replace t_w := Enc.tr (topoE) t_w TT
 replace f_w := Enc.tr (failE) f_w TT
 replace K1 := Blk.tr0 K1 G
 replace K2 := Blk.tr0 K2 G
 replace C := C.trans TT
 refine qv S (bD ((topV t) ∧ (rising f.links.xs ((t.links.xs.length : Nat) : Int)))) (x_and (S.e rfl) (S.p rfl) (S.e rfl)) ?_; clear S a; intro a S
 refine qm S rfl ?_; clear S a; intro a S
 refine qg S 15 rfl ((topV t) ∧ (rising f.links.xs ((t.links.xs.length : Nat) : Int))) gt (pT b2 (0 + 1)) (fun hg => (x_fld (z := 0) (0) 1 Try.underlying41 rfl rfl (by kernel_rfl) (S.e rfl))) ?_; clear S a; intro a S
 refine qg S 15 rfl ((topV t) ∧ (rising f.links.xs ((t.links.xs.length : Nat) : Int))) gt (sV f.devs) (fun hg => (x_load ⟨_, Try.underlying22, rfl⟩ (S.p rfl hg) (K2.cell (j := 1) rfl))) ?_; clear S a; intro a S
 refine qg S 15 rfl ((topV t) ∧ (rising f.links.xs ((t.links.xs.length : Nat) : Int))) gt (pT b1 (0 + 0)) (fun hg => (x_fld (z := 0) (0) 0 Try.underlying28 rfl rfl (by kernel_rfl) (S.e rfl))) ?_; clear S a; intro a S
 refine qg S 15 rfl ((topV t) ∧ (rising f.links.xs ((t.links.xs.length : Nat) : Int))) gt (sV t.devs) (fun hg => (x_load ⟨_, Try.underlying23, rfl⟩ (S.p rfl hg) (K1.cell (j := 0) rfl))) ?_; clear S a; intro a S
 refine qg S 15 rfl ((topV t) ∧ (rising f.links.xs ((t.links.xs.length : Nat) : Int))) gt (iN t.devs.xs.length) (fun hg => (x_len Try.underlying23 (S.p rfl hg))) ?_; clear S a; intro a S
 refine seq_gcall S (by decide) (gd := 15) (vs := #[sV f.devs, iN t.devs.xs.length]) (v := bD (rising f.devs.xs ((t.devs.xs.length : Nat) : Int))) rfl rfl (by decide) rfl (c := ((topV t) ∧ (rising f.links.xs ((t.links.xs.length : Nat) : Int)))) gt (fun hg => by simp only [List.map_toArray, List.map_cons, List.map_nil, show a.eval (.tmp 17) = sV f.devs from (S.p rfl hg), show a.eval (.tmp 20) = iN t.devs.xs.length from (S.p rfl hg)]) callable_95 (fun hg => ((rAscending _ (Ex F _) (C.old hF)  (MS.nil _) f.devs ((slE intE).down0 f_w.2) ((t.devs.xs.length : Nat) : Int) ⟨by omega, by omega⟩)).mono (fun _ _ h => ⟨h.1, h.2.ch⟩)) ?_
 clear S a; intro a w5 G S; have TT := Tr.of_ch0 C.ms G
 replace t_w := Enc.tr (topoE) t_w TT
 replace f_w := Enc.tr (failE) f_w TT
 replace K1 := Blk.tr0 K1 G
 replace K2 := Blk.tr0 K2 G
 replace C := C.trans TT
 refine qv S (bD (((topV t) ∧ (rising f.links.xs ((t.links.xs.length : Nat) : Int))) ∧ (rising f.devs.xs ((t.devs.xs.length : Nat) : Int)))) (x_and (S.e rfl) (S.p rfl) (S.e rfl)) ?_; clear S a; intro a S
 refine qa S rfl ?_; clear S a; intro a S
 refine qt ?_
 refine wp_ret ?_
 refine ret1 rfl S rfl ?_
 have TD : Tr [one b2, one b1] w5 [] w5 := Tr.drop C.ms [] (by decide)
 have GD : Ch (In []) w5 w5 := Ch.refl _
 clear K1
 clear K2
 replace t_w := Enc.tr (topoE) t_w TD
 replace f_w := Enc.tr (failE) f_w TD
 replace C := C.trans TD
 clear TD GD
 refine ⟨(r1 (vb ?_)), C⟩
 first | exact Iff.rfl | assumption | omega | simp_all
set_option maxHeartbeats 2000000 in
set_option maxRecDepth 20000 in
theorem fAlive (w : World) (F : Nat → Prop) (hF : Old F w) (M : MS [] w) (t : Topo) (t_w : topoE.wf (Fr F []) w.heap t) (f : Fail) (f_w : failE.wf (Fr F []) w.heap f) (d : Int) (d_h : inI64 d) :
 Calls Try.prog 34 #[tV t, fV f, iI d] w fun e w' => e = .returned (bD (aliveV t f d)) ∧ Tr [] w [] w' := by
 have C : Tr [] w [] w := Tr.refl M
 have : t.devs.xs.length ≤ 9223372036854775807 := (t_w.1).1.len
 have : t.links.xs.length ≤ 9223372036854775807 := (t_w.2.1).1.len
 have : t.edges.xs.length ≤ 9223372036854775807 := (t_w.2.2.1).1.len
 have : t.pools.xs.length ≤ 9223372036854775807 := (t_w.2.2.2.1).1.len
 obtain ⟨_, _⟩ : inI64 t.tol := t_w.2.2.2.2
 have : f.links.xs.length ≤ 9223372036854775807 := (f_w.1).1.len
 have : f.devs.xs.length ≤ 9223372036854775807 := (f_w.2).1.len
 obtain ⟨d_hl, d_hu⟩ : inI64 d := id d_h
 refine enter Try.func34 rfl 26 rfl (Nat.le_of_ble_eq_true rfl) ?_
 intro a S
 refine qs ?_
 refine seq_new S rfl rfl (by decide) (fun b => pT b 0) (cs := (tL t)) (x_box (tL t) (S.e rfl) rfl) ?_
 clear S a; intro a w1 b1 hb1 hbs1 G K1 S; have hbl1 : b1 < w1.heap.size := by omega
 have TT := Tr.fresh C.ms hb1 hbl1 G
 replace t_w := Enc.tr (topoE) t_w TT
 replace f_w := Enc.tr (failE) f_w TT
 replace C := C.trans TT
 clear TT G
 refine seq_new S rfl rfl (by decide) (fun b => pT b 0) (cs := (fL f)) (x_box (fL f) (S.e rfl) rfl) ?_
 clear S a; intro a w2 b2 hb2 hbs2 G K2 S; have hbl2 : b2 < w2.heap.size := by omega
 have TT := Tr.fresh C.ms hb2 hbl2 G
 replace t_w := Enc.tr (topoE) t_w TT
 replace f_w := Enc.tr (failE) f_w TT
 replace K1 := Blk.tr0 K1 G
 replace C := C.trans TT
 clear TT G
 refine qa S rfl ?_; clear S a; intro a S
 refine qt ?_
 refine qs ?_
 refine qv S _ (x_loadw (tL t) ⟨_, Try.underlying28, rfl, by kernel_rfl⟩ (S.e rfl) (K1.mid [] _ [] rfl _ rfl)) ?_; clear S a; intro a S
 refine qv S _ (x_loadw (fL f) ⟨_, Try.underlying41, rfl, by kernel_rfl⟩ (S.e rfl) (K2.mid [] _ [] rfl _ rfl)) ?_; clear S a; intro a S
 refine seq_call S (by decide) (vs := #[tV t, fV f]) rfl callable_22 (fValid _ (Ex F _) (C.old hF)  (MS.nil _) t ((topoE).down0 t_w) f ((failE).down0 f_w)) ?_
 rintro e w3 ⟨rfl, T0⟩; refine ⟨_, rfl, ?_⟩; clear S a; intro a S
 have TT := Tr.framed0 C.ms T0; have G := T0.ch
 replace t_w := Enc.tr (topoE) t_w TT
 replace f_w := Enc.tr (failE) f_w TT
 replace K1 := Blk.tr0 K1 G
 replace K2 := Blk.tr0 K2 G
 replace C := C.trans TT
 clear T0 G TT
 refine qm S rfl ?_; clear S a; intro a S
 refine qg S 10 rfl (failV t f) gt (iI d) (fun hg => (x_move (S.e rfl))) ?_; clear S a; intro a S
 refine qg S 10 rfl (failV t f) gt (bD (0 ≤ d)) (fun hg => (x_geq (S.p rfl hg) (S.e rfl))) ?_; clear S a; intro a S
 refine qv S (bD ((failV t f) ∧ (0 ≤ d))) (x_and (S.e rfl) (S.p rfl) (S.e rfl)) ?_; clear S a; intro a S
 refine qm S rfl ?_; clear S a; intro a S
 refine qg S 14 rfl ((failV t f) ∧ (0 ≤ d)) gt (iI d) (fun hg => (x_move (S.e rfl))) ?_; clear S a; intro a S
 refine qg S 14 rfl ((failV t f) ∧ (0 ≤ d)) gt (pT b1 (0 + 0)) (fun hg => (x_fld (z := 0) (0) 0 Try.underlying28 rfl rfl (by kernel_rfl) (S.e rfl))) ?_; clear S a; intro a S
 refine qg S 14 rfl ((failV t f) ∧ (0 ≤ d)) gt (sV t.devs) (fun hg => (x_load ⟨_, Try.underlying23, rfl⟩ (S.p rfl hg) (K1.cell (j := 0) rfl))) ?_; clear S a; intro a S
 refine qg S 14 rfl ((failV t f) ∧ (0 ≤ d)) gt (iN t.devs.xs.length) (fun hg => (x_len Try.underlying23 (S.p rfl hg))) ?_; clear S a; intro a S
 refine qg S 14 rfl ((failV t f) ∧ (0 ≤ d)) gt (bD (d < ((t.devs.xs.length : Nat) : Int))) (fun hg => (x_lss (S.p rfl hg) (S.p rfl hg))) ?_; clear S a; intro a S
 refine qv S (bD (((failV t f) ∧ (0 ≤ d)) ∧ (d < ((t.devs.xs.length : Nat) : Int)))) (x_and (S.e rfl) (S.p rfl) (S.e rfl)) ?_; clear S a; intro a S
 refine qm S rfl ?_; clear S a; intro a S
 refine qg S 21 rfl (((failV t f) ∧ (0 ≤ d)) ∧ (d < ((t.devs.xs.length : Nat) : Int))) gt _ (fun hg => (x_loadw (fL f) ⟨_, Try.underlying41, rfl, by kernel_rfl⟩ (S.e rfl) (K2.mid [] _ [] rfl _ rfl))) ?_; clear S a; intro a S
 refine qg S 21 rfl (((failV t f) ∧ (0 ≤ d)) ∧ (d < ((t.devs.xs.length : Nat) : Int))) gt (iI d) (fun hg => (x_move (S.e rfl))) ?_; clear S a; intro a S
 refine seq_gcall S (by decide) (gd := 21) (vs := #[fV f, iI d]) (v := bD (¬ (d ∈ f.devs.xs))) rfl rfl (by decide) rfl (c := (((failV t f) ∧ (0 ≤ d)) ∧ (d < ((t.devs.xs.length : Nat) : Int)))) gt (fun hg => by simp only [List.map_toArray, List.map_cons, List.map_nil, show a.eval (.tmp 22) = fV f from (S.p rfl hg), show a.eval (.tmp 23) = iI d from (S.p rfl hg)]) callable_63 (fun hg => ((fAlive0 _ (Ex F _) (C.old hF)  (MS.nil _) f ((failE).down0 f_w) d d_h)).mono (fun _ _ h => ⟨h.1, h.2.ch⟩)) ?_
 clear S a; intro a w4 G S; have TT := Tr.of_ch0 C.ms G
 replace t_w := Enc.tr (topoE) t_w TT
 replace f_w := Enc.tr (failE) f_w TT
 replace K1 := Blk.tr0 K1 G
 replace K2 := Blk.tr0 K2 G
 replace C := C.trans TT
 refine qv S (bD ((((failV t f) ∧ (0 ≤ d)) ∧ (d < ((t.devs.xs.length : Nat) : Int))) ∧ (¬ (d ∈ f.devs.xs)))) (x_and (S.e rfl) (S.p rfl) (S.e rfl)) ?_; clear S a; intro a S
 refine qa S rfl ?_; clear S a; intro a S
 refine qt ?_
 refine wp_ret ?_
 refine ret1 rfl S rfl ?_
 have TD : Tr [one b2, one b1] w4 [] w4 := Tr.drop C.ms [] (by decide)
 have GD : Ch (In []) w4 w4 := Ch.refl _
 clear K1
 clear K2
 replace t_w := Enc.tr (topoE) t_w TD
 replace f_w := Enc.tr (failE) f_w TD
 replace C := C.trans TD
 clear TD GD
 refine ⟨(r1 (vb ?_)), C⟩
 first | exact Iff.rfl | assumption | omega | simp_all
set_option maxHeartbeats 2000000 in
set_option maxRecDepth 20000 in
theorem rAlive (w : World) (F : Nat → Prop) (hF : Old F w) (M : MS [] w) (t : Topo) (t_w : topoE.wf (Fr F []) w.heap t) (f : Fail) (f_w : failE.wf (Fr F []) w.heap f) (d : Int) (d_h : inI64 d) :
 Calls Try.prog 60 #[tV t, fV f, iI d] w fun e w' => e = .returned (bD (aliveV t f d)) ∧ Tr [] w [] w' := by
 have C : Tr [] w [] w := Tr.refl M
 have : t.devs.xs.length ≤ 9223372036854775807 := (t_w.1).1.len
 have : t.links.xs.length ≤ 9223372036854775807 := (t_w.2.1).1.len
 have : t.edges.xs.length ≤ 9223372036854775807 := (t_w.2.2.1).1.len
 have : t.pools.xs.length ≤ 9223372036854775807 := (t_w.2.2.2.1).1.len
 obtain ⟨_, _⟩ : inI64 t.tol := t_w.2.2.2.2
 have : f.links.xs.length ≤ 9223372036854775807 := (f_w.1).1.len
 have : f.devs.xs.length ≤ 9223372036854775807 := (f_w.2).1.len
 obtain ⟨d_hl, d_hu⟩ : inI64 d := id d_h
 refine enter Try.func60 rfl 28 rfl (Nat.le_of_ble_eq_true rfl) ?_
 intro a S
 refine qs ?_
 refine seq_new S rfl rfl (by decide) (fun b => pT b 0) (cs := (tL t)) (x_box (tL t) (S.e rfl) rfl) ?_
 clear S a; intro a w1 b1 hb1 hbs1 G K1 S; have hbl1 : b1 < w1.heap.size := by omega
 have TT := Tr.fresh C.ms hb1 hbl1 G
 replace t_w := Enc.tr (topoE) t_w TT
 replace f_w := Enc.tr (failE) f_w TT
 replace C := C.trans TT
 clear TT G
 refine seq_new S rfl rfl (by decide) (fun b => pT b 0) (cs := (fL f)) (x_box (fL f) (S.e rfl) rfl) ?_
 clear S a; intro a w2 b2 hb2 hbs2 G K2 S; have hbl2 : b2 < w2.heap.size := by omega
 have TT := Tr.fresh C.ms hb2 hbl2 G
 replace t_w := Enc.tr (topoE) t_w TT
 replace f_w := Enc.tr (failE) f_w TT
 replace K1 := Blk.tr0 K1 G
 replace C := C.trans TT
 clear TT G
 refine qa S rfl ?_; clear S a; intro a S
 refine qt ?_
 refine qs ?_
 refine qv S _ (x_loadw (tL t) ⟨_, Try.underlying28, rfl, by kernel_rfl⟩ (S.e rfl) (K1.mid [] _ [] rfl _ rfl)) ?_; clear S a; intro a S
 refine qv S _ (x_loadw (fL f) ⟨_, Try.underlying41, rfl, by kernel_rfl⟩ (S.e rfl) (K2.mid [] _ [] rfl _ rfl)) ?_; clear S a; intro a S
 refine seq_call S (by decide) (vs := #[tV t, fV f]) rfl callable_59 (rValidF _ (Ex F _) (C.old hF)  (MS.nil _) t ((topoE).down0 t_w) f ((failE).down0 f_w)) ?_
 rintro e w3 ⟨rfl, T0⟩; refine ⟨_, rfl, ?_⟩; clear S a; intro a S
 have TT := Tr.framed0 C.ms T0; have G := T0.ch
 replace t_w := Enc.tr (topoE) t_w TT
 replace f_w := Enc.tr (failE) f_w TT
 replace K1 := Blk.tr0 K1 G
 replace K2 := Blk.tr0 K2 G
 replace C := C.trans TT
 clear T0 G TT
 refine qm S rfl ?_; clear S a; intro a S
 refine qg S 10 rfl (failV t f) gt (iI d) (fun hg => (x_move (S.e rfl))) ?_; clear S a; intro a S
 refine qg S 10 rfl (failV t f) gt (bD (0 ≤ d)) (fun hg => (x_geq (S.p rfl hg) (S.e rfl))) ?_; clear S a; intro a S
 refine qv S (bD ((failV t f) ∧ (0 ≤ d))) (x_and (S.e rfl) (S.p rfl) (S.e rfl)) ?_; clear S a; intro a S
 refine qm S rfl ?_; clear S a; intro a S
 refine qg S 14 rfl ((failV t f) ∧ (0 ≤ d)) gt (iI d) (fun hg => (x_move (S.e rfl))) ?_; clear S a; intro a S
 refine qg S 14 rfl ((failV t f) ∧ (0 ≤ d)) gt (pT b1 (0 + 0)) (fun hg => (x_fld (z := 0) (0) 0 Try.underlying28 rfl rfl (by kernel_rfl) (S.e rfl))) ?_; clear S a; intro a S
 refine qg S 14 rfl ((failV t f) ∧ (0 ≤ d)) gt (sV t.devs) (fun hg => (x_load ⟨_, Try.underlying23, rfl⟩ (S.p rfl hg) (K1.cell (j := 0) rfl))) ?_; clear S a; intro a S
 refine qg S 14 rfl ((failV t f) ∧ (0 ≤ d)) gt (iN t.devs.xs.length) (fun hg => (x_len Try.underlying23 (S.p rfl hg))) ?_; clear S a; intro a S
 refine qg S 14 rfl ((failV t f) ∧ (0 ≤ d)) gt (bD (d < ((t.devs.xs.length : Nat) : Int))) (fun hg => (x_lss (S.p rfl hg) (S.p rfl hg))) ?_; clear S a; intro a S
 refine qv S (bD (((failV t f) ∧ (0 ≤ d)) ∧ (d < ((t.devs.xs.length : Nat) : Int)))) (x_and (S.e rfl) (S.p rfl) (S.e rfl)) ?_; clear S a; intro a S
 refine qm S rfl ?_; clear S a; intro a S
 refine qg S 21 rfl (((failV t f) ∧ (0 ≤ d)) ∧ (d < ((t.devs.xs.length : Nat) : Int))) gt (pT b2 (0 + 1)) (fun hg => (x_fld (z := 0) (0) 1 Try.underlying41 rfl rfl (by kernel_rfl) (S.e rfl))) ?_; clear S a; intro a S
 refine qg S 21 rfl (((failV t f) ∧ (0 ≤ d)) ∧ (d < ((t.devs.xs.length : Nat) : Int))) gt (sV f.devs) (fun hg => (x_load ⟨_, Try.underlying22, rfl⟩ (S.p rfl hg) (K2.cell (j := 1) rfl))) ?_; clear S a; intro a S
 refine qg S 21 rfl (((failV t f) ∧ (0 ≤ d)) ∧ (d < ((t.devs.xs.length : Nat) : Int))) gt (iI d) (fun hg => (x_move (S.e rfl))) ?_; clear S a; intro a S
 refine seq_gcall S (by decide) (gd := 21) (vs := #[sV f.devs, iI d]) (v := bD (d ∈ f.devs.xs)) rfl rfl (by decide) rfl (c := (((failV t f) ∧ (0 ≤ d)) ∧ (d < ((t.devs.xs.length : Nat) : Int)))) gt (fun hg => by simp only [List.map_toArray, List.map_cons, List.map_nil, show a.eval (.tmp 23) = sV f.devs from (S.p rfl hg), show a.eval (.tmp 24) = iI d from (S.p rfl hg)]) callable_73 (fun hg => ((rHas _ (Ex F _) (C.old hF)  (MS.nil _) f.devs ((slE intE).down0 f_w.2) d d_h)).mono (fun _ _ h => ⟨h.1, h.2.ch⟩)) ?_
 clear S a; intro a w4 G S; have TT := Tr.of_ch0 C.ms G
 replace t_w := Enc.tr (topoE) t_w TT
 replace f_w := Enc.tr (failE) f_w TT
 replace K1 := Blk.tr0 K1 G
 replace K2 := Blk.tr0 K2 G
 replace C := C.trans TT
 refine qg S 21 rfl (((failV t f) ∧ (0 ≤ d)) ∧ (d < ((t.devs.xs.length : Nat) : Int))) gt (bD (¬ (d ∈ f.devs.xs))) (fun hg => (x_notp (S.p rfl hg))) ?_; clear S a; intro a S
 refine qv S (bD ((((failV t f) ∧ (0 ≤ d)) ∧ (d < ((t.devs.xs.length : Nat) : Int))) ∧ (¬ (d ∈ f.devs.xs)))) (x_and (S.e rfl) (S.p rfl) (S.e rfl)) ?_; clear S a; intro a S
 refine qa S rfl ?_; clear S a; intro a S
 refine qt ?_
 refine wp_ret ?_
 refine ret1 rfl S rfl ?_
 have TD : Tr [one b2, one b1] w4 [] w4 := Tr.drop C.ms [] (by decide)
 have GD : Ch (In []) w4 w4 := Ch.refl _
 clear K1
 clear K2
 replace t_w := Enc.tr (topoE) t_w TD
 replace f_w := Enc.tr (failE) f_w TD
 replace C := C.trans TD
 clear TD GD
 refine ⟨(r1 (vb ?_)), C⟩
 first | exact Iff.rfl | assumption | omega | simp_all
set_option maxHeartbeats 2000000 in
set_option maxRecDepth 20000 in
theorem fUsable0 (w : World) (F : Nat → Prop) (hF : Old F w) (M : MS [] w) (t : Topo) (t_w : topoE.wf (Fr F []) w.heap t) (f : Fail) (f_w : failE.wf (Fr F []) w.heap f) (i : Int) (i_h : inI64 i) (i0 : 0 ≤ i ∧ i < t.links.xs.length) :
 Calls Try.prog 58 #[tV t, fV f, iI i] w fun e w' => e = .returned (bD (usableR t f i)) ∧ Tr [] w [] w' := by
 have C : Tr [] w [] w := Tr.refl M
 have : t.devs.xs.length ≤ 9223372036854775807 := (t_w.1).1.len
 have : t.links.xs.length ≤ 9223372036854775807 := (t_w.2.1).1.len
 have : t.edges.xs.length ≤ 9223372036854775807 := (t_w.2.2.1).1.len
 have : t.pools.xs.length ≤ 9223372036854775807 := (t_w.2.2.2.1).1.len
 obtain ⟨_, _⟩ : inI64 t.tol := t_w.2.2.2.2
 have : f.links.xs.length ≤ 9223372036854775807 := (f_w.1).1.len
 have : f.devs.xs.length ≤ 9223372036854775807 := (f_w.2).1.len
 obtain ⟨i_hl, i_hu⟩ : inI64 i := id i_h
 refine enter Try.func58 rfl 30 rfl (Nat.le_of_ble_eq_true rfl) ?_
 intro a S
 refine qs ?_
 refine seq_new S rfl rfl (by decide) (fun b => pT b 0) (cs := (tL t)) (x_box (tL t) (S.e rfl) rfl) ?_
 clear S a; intro a w1 b1 hb1 hbs1 G K1 S; have hbl1 : b1 < w1.heap.size := by omega
 have TT := Tr.fresh C.ms hb1 hbl1 G
 replace t_w := Enc.tr (topoE) t_w TT
 replace f_w := Enc.tr (failE) f_w TT
 replace C := C.trans TT
 clear TT G
 refine seq_new S rfl rfl (by decide) (fun b => pT b 0) (cs := (fL f)) (x_box (fL f) (S.e rfl) rfl) ?_
 clear S a; intro a w2 b2 hb2 hbs2 G K2 S; have hbl2 : b2 < w2.heap.size := by omega
 have TT := Tr.fresh C.ms hb2 hbl2 G
 replace t_w := Enc.tr (topoE) t_w TT
 replace f_w := Enc.tr (failE) f_w TT
 replace K1 := Blk.tr0 K1 G
 replace C := C.trans TT
 clear TT G
 refine qa S rfl ?_; clear S a; intro a S
 refine qt ?_
 refine qs ?_
 refine qv S (pT b1 (0 + 1)) (x_fld (z := 0) (0) 1 Try.underlying28 rfl rfl (by kernel_rfl) (S.e rfl)) ?_; clear S a; intro a S
 refine qv S (sV t.links) (x_load ⟨_, Try.underlying24, rfl⟩ (S.e rfl) (K1.cell (j := 1) rfl)) ?_; clear S a; intro a S
 refine qm S rfl ?_; clear S a; intro a S
 refine qv S (pT (blk t.links.a) (off t.links.a + (i).toNat * 3)) (x_idx Try.underlying24 (by kernel_rfl) (S.e rfl) (S.e rfl) (i).toNat (by omega) (by omega) ((t_w.2.1).1.adr (i := (i).toNat) (by omega))) ?_; clear S a; intro a S
 obtain ⟨hl3, hu3⟩ : inI64 ((t.links.xs.getD ((i).toNat) lnkE.dflt).a) := id (((t_w.2.1).1.wf (i).toNat (by omega)).1)
 obtain ⟨hl4, hu4⟩ : inI64 ((t.links.xs.getD ((i).toNat) lnkE.dflt).b) := id (((t_w.2.1).1.wf (i).toNat (by omega)).2.1)
 obtain ⟨hl5, hu5⟩ : inI64 ((t.links.xs.getD ((i).toNat) lnkE.dflt).cost) := id (((t_w.2.1).1.wf (i).toNat (by omega)).2.2)
 refine qv S _ (x_loadw [iI ((t.links.xs.getD ((i).toNat) lnkE.dflt).a), iI ((t.links.xs.getD ((i).toNat) lnkE.dflt).b), iI ((t.links.xs.getD ((i).toNat) lnkE.dflt).cost)] ⟨_, Try.underlying54, rfl, by kernel_rfl⟩ (S.e rfl) ((t_w.2.1).1.wcell (i).toNat (by omega) _ rfl _ rfl)) ?_; clear S a; intro a S
 refine seq_new S rfl rfl (by decide) (fun b => pT b 0) (cs := [iI 0, iI 0, iI 0]) (x_allocz [iI 0, iI 0, iI 0] infoz_54 rfl) ?_
 clear S a; intro a w3 b6 hb6 hbs6 G K6 S; have hbl6 : b6 < w3.heap.size := by omega
 have TT := Tr.fresh C.ms hb6 hbl6 G
 replace t_w := Enc.tr (topoE) t_w TT
 replace f_w := Enc.tr (failE) f_w TT
 replace K1 := Blk.tr0 K1 G
 replace K2 := Blk.tr0 K2 G
 replace C := C.trans TT
 clear TT G
 refine seq_storew S rfl rfl (vs := [iI ((t.links.xs.getD ((i).toNat) lnkE.dflt).a), iI ((t.links.xs.getD ((i).toNat) lnkE.dflt).b), iI ((t.links.xs.getD ((i).toNat) lnkE.dflt).cost)]) (x_storew (by kernel_rfl) (S.e rfl) (S.e rfl) rfl K6 rfl) K6 ?_
 clear S a; intro a w4 G hz K S; clear hz; have TT := Tr.och C.ms G
 replace t_w := Enc.tr (topoE) t_w TT
 replace f_w := Enc.tr (failE) f_w TT
 replace K1 := Blk.tr K1 G (C.ms.sep.out 2 [0] rfl rfl rfl)
 replace K2 := Blk.tr K2 G (C.ms.sep.out 1 [0] rfl rfl rfl)
 replace C := C.trans TT
 clear K6; have K6 := K; clear K TT G
 refine qt ?_
 refine qs ?_
 refine qv S (pT b2 (0 + 0)) (x_fld (z := 0) (0) 0 Try.underlying41 rfl rfl (by kernel_rfl) (S.e rfl)) ?_; clear S a; intro a S
 refine qv S (sV f.links) (x_load ⟨_, Try.underlying22, rfl⟩ (S.e rfl) (K2.cell (j := 0) rfl)) ?_; clear S a; intro a S
 refine qm S rfl ?_; clear S a; intro a S
 refine seq_call S (by decide) (vs := #[sV f.links, iI i]) rfl callable_94 (sContains _ (Ex F _) (C.old hF)  (MS.nil _) f.links ((slE intE).down0 f_w.1) i i_h) ?_
 rintro e w5 ⟨rfl, T0⟩; refine ⟨_, rfl, ?_⟩; clear S a; intro a S
 have TT := Tr.framed0 C.ms T0; have G := T0.ch
 replace t_w := Enc.tr (topoE) t_w TT
 replace f_w := Enc.tr (failE) f_w TT
 replace K1 := Blk.tr0 K1 G
 replace K2 := Blk.tr0 K2 G
 replace K6 := Blk.tr0 K6 G
 replace C := C.trans TT
 clear T0 G TT
 refine qv S (bD (¬ (i ∈ f.links.xs))) (x_notp (S.e rfl)) ?_; clear S a; intro a S
 refine qm S rfl ?_; clear S a; intro a S
 refine qg S 18 rfl (¬ (i ∈ f.links.xs)) gt _ (fun hg => (x_loadw (fL f) ⟨_, Try.underlying41, rfl, by kernel_rfl⟩ (S.e rfl) (K2.mid [] _ [] rfl _ rfl))) ?_; clear S a; intro a S
 refine qg S 18 rfl (¬ (i ∈ f.links.xs)) gt (pT b6 (0 + 0)) (fun hg => (x_fld (z := 0) (0) 0 Try.underlying54 rfl rfl (by kernel_rfl) (S.e rfl))) ?_; clear S a; intro a S
 refine qg S 18 rfl (¬ (i ∈ f.links.xs)) gt (iI ((t.links.xs.getD ((i).toNat) lnkE.dflt).a)) (fun hg => (x_load ⟨_, Try.underlying3, rfl⟩ (S.p rfl hg) (K6.cell (j := 0) rfl))) ?_; clear S a; intro a S
 refine seq_gcall S (by decide) (gd := 18) (vs := #[fV f, iI ((t.links.xs.getD ((i).toNat) lnkE.dflt).a)]) (v := bD (¬ ((t.links.xs.getD ((i).toNat) lnkE.dflt).a ∈ f.devs.xs))) rfl rfl (by decide) rfl (c := (¬ (i ∈ f.links.xs))) gt (fun hg => by simp only [List.map_toArray, List.map_cons, List.map_nil, show a.eval (.tmp 19) = fV f from (S.p rfl hg), show a.eval (.tmp 21) = iI ((t.links.xs.getD ((i).toNat) lnkE.dflt).a) from (S.p rfl hg)]) callable_63 (fun hg => ((fAlive0 _ (Ex F _) (C.old hF)  (MS.nil _) f ((failE).down0 f_w) ((t.links.xs.getD ((i).toNat) lnkE.dflt).a) ((t_w.2.1).1.wf (i).toNat (by omega)).1)).mono (fun _ _ h => ⟨h.1, h.2.ch⟩)) ?_
 clear S a; intro a w6 G S; have TT := Tr.of_ch0 C.ms G
 replace t_w := Enc.tr (topoE) t_w TT
 replace f_w := Enc.tr (failE) f_w TT
 replace K1 := Blk.tr0 K1 G
 replace K2 := Blk.tr0 K2 G
 replace K6 := Blk.tr0 K6 G
 replace C := C.trans TT
 refine qv S (bD ((¬ (i ∈ f.links.xs)) ∧ (¬ ((t.links.xs.getD ((i).toNat) lnkE.dflt).a ∈ f.devs.xs)))) (x_and (S.e rfl) (S.p rfl) (S.e rfl)) ?_; clear S a; intro a S
 refine qm S rfl ?_; clear S a; intro a S
 refine qg S 24 rfl ((¬ (i ∈ f.links.xs)) ∧ (¬ ((t.links.xs.getD ((i).toNat) lnkE.dflt).a ∈ f.devs.xs))) gt _ (fun hg => (x_loadw (fL f) ⟨_, Try.underlying41, rfl, by kernel_rfl⟩ (S.e rfl) (K2.mid [] _ [] rfl _ rfl))) ?_; clear S a; intro a S
 refine qg S 24 rfl ((¬ (i ∈ f.links.xs)) ∧ (¬ ((t.links.xs.getD ((i).toNat) lnkE.dflt).a ∈ f.devs.xs))) gt (pT b6 (0 + 1)) (fun hg => (x_fld (z := 0) (0) 1 Try.underlying54 rfl rfl (by kernel_rfl) (S.e rfl))) ?_; clear S a; intro a S
 refine qg S 24 rfl ((¬ (i ∈ f.links.xs)) ∧ (¬ ((t.links.xs.getD ((i).toNat) lnkE.dflt).a ∈ f.devs.xs))) gt (iI ((t.links.xs.getD ((i).toNat) lnkE.dflt).b)) (fun hg => (x_load ⟨_, Try.underlying3, rfl⟩ (S.p rfl hg) (K6.cell (j := 1) rfl))) ?_; clear S a; intro a S
 refine seq_gcall S (by decide) (gd := 24) (vs := #[fV f, iI ((t.links.xs.getD ((i).toNat) lnkE.dflt).b)]) (v := bD (¬ ((t.links.xs.getD ((i).toNat) lnkE.dflt).b ∈ f.devs.xs))) rfl rfl (by decide) rfl (c := ((¬ (i ∈ f.links.xs)) ∧ (¬ ((t.links.xs.getD ((i).toNat) lnkE.dflt).a ∈ f.devs.xs)))) gt (fun hg => by simp only [List.map_toArray, List.map_cons, List.map_nil, show a.eval (.tmp 25) = fV f from (S.p rfl hg), show a.eval (.tmp 27) = iI ((t.links.xs.getD ((i).toNat) lnkE.dflt).b) from (S.p rfl hg)]) callable_63 (fun hg => ((fAlive0 _ (Ex F _) (C.old hF)  (MS.nil _) f ((failE).down0 f_w) ((t.links.xs.getD ((i).toNat) lnkE.dflt).b) ((t_w.2.1).1.wf (i).toNat (by omega)).2.1)).mono (fun _ _ h => ⟨h.1, h.2.ch⟩)) ?_
 clear S a; intro a w7 G S; have TT := Tr.of_ch0 C.ms G
 replace t_w := Enc.tr (topoE) t_w TT
 replace f_w := Enc.tr (failE) f_w TT
 replace K1 := Blk.tr0 K1 G
 replace K2 := Blk.tr0 K2 G
 replace K6 := Blk.tr0 K6 G
 replace C := C.trans TT
 refine qv S (bD (((¬ (i ∈ f.links.xs)) ∧ (¬ ((t.links.xs.getD ((i).toNat) lnkE.dflt).a ∈ f.devs.xs))) ∧ (¬ ((t.links.xs.getD ((i).toNat) lnkE.dflt).b ∈ f.devs.xs)))) (x_and (S.e rfl) (S.p rfl) (S.e rfl)) ?_; clear S a; intro a S
 refine qa S rfl ?_; clear S a; intro a S
 refine qt ?_
 refine wp_ret ?_
 refine ret1 rfl S rfl ?_
 have TD : Tr [one b6, one b2, one b1] w7 [] w7 := Tr.drop C.ms [] (by decide)
 have GD : Ch (In []) w7 w7 := Ch.refl _
 clear K1
 clear K2
 clear K6
 replace t_w := Enc.tr (topoE) t_w TD
 replace f_w := Enc.tr (failE) f_w TD
 replace C := C.trans TD
 clear TD GD
 refine ⟨(r1 (vb ?_)), C⟩
 unfold usableR lnk; exact Iff.rfl
set_option maxHeartbeats 2000000 in
set_option maxRecDepth 20000 in
theorem fUsable (w : World) (F : Nat → Prop) (hF : Old F w) (M : MS [] w) (t : Topo) (t_w : topoE.wf (Fr F []) w.heap t) (f : Fail) (f_w : failE.wf (Fr F []) w.heap f) (i : Int) (i_h : inI64 i) :
 Calls Try.prog 28 #[tV t, fV f, iI i] w fun e w' => e = .returned (bD (usableV t f i)) ∧ Tr [] w [] w' := by
 have C : Tr [] w [] w := Tr.refl M
 have : t.devs.xs.length ≤ 9223372036854775807 := (t_w.1).1.len
 have : t.links.xs.length ≤ 9223372036854775807 := (t_w.2.1).1.len
 have : t.edges.xs.length ≤ 9223372036854775807 := (t_w.2.2.1).1.len
 have : t.pools.xs.length ≤ 9223372036854775807 := (t_w.2.2.2.1).1.len
 obtain ⟨_, _⟩ : inI64 t.tol := t_w.2.2.2.2
 have : f.links.xs.length ≤ 9223372036854775807 := (f_w.1).1.len
 have : f.devs.xs.length ≤ 9223372036854775807 := (f_w.2).1.len
 obtain ⟨i_hl, i_hu⟩ : inI64 i := id i_h
 refine enter Try.func28 rfl 27 rfl (Nat.le_of_ble_eq_true rfl) ?_
 intro a S
 refine qs ?_
 refine seq_new S rfl rfl (by decide) (fun b => pT b 0) (cs := (tL t)) (x_box (tL t) (S.e rfl) rfl) ?_
 clear S a; intro a w1 b1 hb1 hbs1 G K1 S; have hbl1 : b1 < w1.heap.size := by omega
 have TT := Tr.fresh C.ms hb1 hbl1 G
 replace t_w := Enc.tr (topoE) t_w TT
 replace f_w := Enc.tr (failE) f_w TT
 replace C := C.trans TT
 clear TT G
 refine seq_new S rfl rfl (by decide) (fun b => pT b 0) (cs := (fL f)) (x_box (fL f) (S.e rfl) rfl) ?_
 clear S a; intro a w2 b2 hb2 hbs2 G K2 S; have hbl2 : b2 < w2.heap.size := by omega
 have TT := Tr.fresh C.ms hb2 hbl2 G
 replace t_w := Enc.tr (topoE) t_w TT
 replace f_w := Enc.tr (failE) f_w TT
 replace K1 := Blk.tr0 K1 G
 replace C := C.trans TT
 clear TT G
 refine qa S rfl ?_; clear S a; intro a S
 refine qt ?_
 refine qs ?_
 refine qv S _ (x_loadw (tL t) ⟨_, Try.underlying28, rfl, by kernel_rfl⟩ (S.e rfl) (K1.mid [] _ [] rfl _ rfl)) ?_; clear S a; intro a S
 refine qv S _ (x_loadw (fL f) ⟨_, Try.underlying41, rfl, by kernel_rfl⟩ (S.e rfl) (K2.mid [] _ [] rfl _ rfl)) ?_; clear S a; intro a S
 refine seq_call S (by decide) (vs := #[tV t, fV f]) rfl callable_22 (fValid _ (Ex F _) (C.old hF)  (MS.nil _) t ((topoE).down0 t_w) f ((failE).down0 f_w)) ?_
 rintro e w3 ⟨rfl, T0⟩; refine ⟨_, rfl, ?_⟩; clear S a; intro a S
 have TT := Tr.framed0 C.ms T0; have G := T0.ch
 replace t_w := Enc.tr (topoE) t_w TT
 replace f_w := Enc.tr (failE) f_w TT
 replace K1 := Blk.tr0 K1 G
 replace K2 := Blk.tr0 K2 G
 replace C := C.trans TT
 clear T0 G TT
 refine qm S rfl ?_; clear S a; intro a S
 refine qg S 10 rfl (failV t f) gt (iI i) (fun hg => (x_move (S.e rfl))) ?_; clear S a; intro a S
 refine qg S 10 rfl (failV t f) gt (bD (0 ≤ i)) (fun hg => (x_geq (S.p rfl hg) (S.e rfl))) ?_; clear S a; intro a S
 refine qv S (bD ((failV t f) ∧ (0 ≤ i))) (x_and (S.e rfl) (S.p rfl) (S.e rfl)) ?_; clear S a; intro a S
 refine qm S rfl ?_; clear S a; intro a S
 refine qg S 14 rfl ((failV t f) ∧ (0 ≤ i)) gt (iI i) (fun hg => (x_move (S.e rfl))) ?_; clear S a; intro a S
 refine qg S 14 rfl ((failV t f) ∧ (0 ≤ i)) gt (pT b1 (0 + 1)) (fun hg => (x_fld (z := 0) (0) 1 Try.underlying28 rfl rfl (by kernel_rfl) (S.e rfl))) ?_; clear S a; intro a S
 refine qg S 14 rfl ((failV t f) ∧ (0 ≤ i)) gt (sV t.links) (fun hg => (x_load ⟨_, Try.underlying24, rfl⟩ (S.p rfl hg) (K1.cell (j := 1) rfl))) ?_; clear S a; intro a S
 refine qg S 14 rfl ((failV t f) ∧ (0 ≤ i)) gt (iN t.links.xs.length) (fun hg => (x_len Try.underlying24 (S.p rfl hg))) ?_; clear S a; intro a S
 refine qg S 14 rfl ((failV t f) ∧ (0 ≤ i)) gt (bD (i < ((t.links.xs.length : Nat) : Int))) (fun hg => (x_lss (S.p rfl hg) (S.p rfl hg))) ?_; clear S a; intro a S
 refine qv S (bD (((failV t f) ∧ (0 ≤ i)) ∧ (i < ((t.links.xs.length : Nat) : Int)))) (x_and (S.e rfl) (S.p rfl) (S.e rfl)) ?_; clear S a; intro a S
 refine qm S rfl ?_; clear S a; intro a S
 refine qg S 21 rfl (((failV t f) ∧ (0 ≤ i)) ∧ (i < ((t.links.xs.length : Nat) : Int))) gt _ (fun hg => (x_loadw (tL t) ⟨_, Try.underlying28, rfl, by kernel_rfl⟩ (S.e rfl) (K1.mid [] _ [] rfl _ rfl))) ?_; clear S a; intro a S
 refine qg S 21 rfl (((failV t f) ∧ (0 ≤ i)) ∧ (i < ((t.links.xs.length : Nat) : Int))) gt _ (fun hg => (x_loadw (fL f) ⟨_, Try.underlying41, rfl, by kernel_rfl⟩ (S.e rfl) (K2.mid [] _ [] rfl _ rfl))) ?_; clear S a; intro a S
 refine qg S 21 rfl (((failV t f) ∧ (0 ≤ i)) ∧ (i < ((t.links.xs.length : Nat) : Int))) gt (iI i) (fun hg => (x_move (S.e rfl))) ?_; clear S a; intro a S
 refine seq_gcall S (by decide) (gd := 21) (vs := #[tV t, fV f, iI i]) (v := bD (usableR t f i)) rfl rfl (by decide) rfl (c := (((failV t f) ∧ (0 ≤ i)) ∧ (i < ((t.links.xs.length : Nat) : Int)))) gt (fun hg => by simp only [List.map_toArray, List.map_cons, List.map_nil, show a.eval (.tmp 22) = tV t from (S.p rfl hg), show a.eval (.tmp 23) = fV f from (S.p rfl hg), show a.eval (.tmp 24) = iI i from (S.p rfl hg)]) callable_58 (fun hg => ((fUsable0 _ (Ex F _) (C.old hF)  (MS.nil _) t ((topoE).down0 t_w) f ((failE).down0 f_w) i i_h (⟨by omega, by omega⟩))).mono (fun _ _ h => ⟨h.1, h.2.ch⟩)) ?_
 clear S a; intro a w4 G S; have TT := Tr.of_ch0 C.ms G
 replace t_w := Enc.tr (topoE) t_w TT
 replace f_w := Enc.tr (failE) f_w TT
 replace K1 := Blk.tr0 K1 G
 replace K2 := Blk.tr0 K2 G
 replace C := C.trans TT
 refine qv S (bD ((((failV t f) ∧ (0 ≤ i)) ∧ (i < ((t.links.xs.length : Nat) : Int))) ∧ (usableR t f i))) (x_and (S.e rfl) (S.p rfl) (S.e rfl)) ?_; clear S a; intro a S
 refine qa S rfl ?_; clear S a; intro a S
 refine qt ?_
 refine wp_ret ?_
 refine ret1 rfl S rfl ?_
 have TD : Tr [one b2, one b1] w4 [] w4 := Tr.drop C.ms [] (by decide)
 have GD : Ch (In []) w4 w4 := Ch.refl _
 clear K1
 clear K2
 replace t_w := Enc.tr (topoE) t_w TD
 replace f_w := Enc.tr (failE) f_w TD
 replace C := C.trans TD
 clear TD GD
 refine ⟨(r1 (vb ?_)), C⟩
 first | exact Iff.rfl | assumption | omega | simp_all
set_option maxHeartbeats 2000000 in
set_option maxRecDepth 20000 in
theorem rUsable (w : World) (F : Nat → Prop) (hF : Old F w) (M : MS [] w) (t : Topo) (t_w : topoE.wf (Fr F []) w.heap t) (f : Fail) (f_w : failE.wf (Fr F []) w.heap f) (i : Int) (i_h : inI64 i) :
 Calls Try.prog 40 #[tV t, fV f, iI i] w fun e w' => e = .returned (bD (usableV t f i)) ∧ Tr [] w [] w' := by
 have C : Tr [] w [] w := Tr.refl M
 have : t.devs.xs.length ≤ 9223372036854775807 := (t_w.1).1.len
 have : t.links.xs.length ≤ 9223372036854775807 := (t_w.2.1).1.len
 have : t.edges.xs.length ≤ 9223372036854775807 := (t_w.2.2.1).1.len
 have : t.pools.xs.length ≤ 9223372036854775807 := (t_w.2.2.2.1).1.len
 obtain ⟨_, _⟩ : inI64 t.tol := t_w.2.2.2.2
 have : f.links.xs.length ≤ 9223372036854775807 := (f_w.1).1.len
 have : f.devs.xs.length ≤ 9223372036854775807 := (f_w.2).1.len
 obtain ⟨i_hl, i_hu⟩ : inI64 i := id i_h
 refine enter Try.func40 rfl 50 rfl (Nat.le_of_ble_eq_true rfl) ?_
 intro a S
 refine qs ?_
 refine seq_new S rfl rfl (by decide) (fun b => pT b 0) (cs := (tL t)) (x_box (tL t) (S.e rfl) rfl) ?_
 clear S a; intro a w1 b1 hb1 hbs1 G K1 S; have hbl1 : b1 < w1.heap.size := by omega
 have TT := Tr.fresh C.ms hb1 hbl1 G
 replace t_w := Enc.tr (topoE) t_w TT
 replace f_w := Enc.tr (failE) f_w TT
 replace C := C.trans TT
 clear TT G
 refine seq_new S rfl rfl (by decide) (fun b => pT b 0) (cs := (fL f)) (x_box (fL f) (S.e rfl) rfl) ?_
 clear S a; intro a w2 b2 hb2 hbs2 G K2 S; have hbl2 : b2 < w2.heap.size := by omega
 have TT := Tr.fresh C.ms hb2 hbl2 G
 replace t_w := Enc.tr (topoE) t_w TT
 replace f_w := Enc.tr (failE) f_w TT
 replace K1 := Blk.tr0 K1 G
 replace C := C.trans TT
 clear TT G
 refine qa S rfl ?_; clear S a; intro a S
 refine qt ?_
 refine wp_seq ?_
 replace S := S.sub (L' := [(0, tV t), (1, fV f), (2, iI i), (3, pT b1 0), (4, pT b2 0)]) ⟨rfl, rfl, rfl, rfl, rfl, trivial⟩
 refine wp_heads (M := In []) S 44 [(7, iV (tV t)), (8, iV (fV f)), (9, iV (bD (failV t f))), (10, iV (bD (failV t f))), (11, iV ((if (failV t f) then iI i else undef))), (12, iV ((if (failV t f) then bD (0 ≤ i) else undef))), (13, iV (bD ((failV t f) ∧ (0 ≤ i)))), (14, iV (bD ((failV t f) ∧ (0 ≤ i)))), (15, iV ((if ((failV t f) ∧ (0 ≤ i)) then iI i else undef))), (16, iV ((if ((failV t f) ∧ (0 ≤ i)) then pT b1 (0 + 1) else undef))), (17, iV ((if ((failV t f) ∧ (0 ≤ i)) then sV t.links else undef))), (18, iV ((if ((failV t f) ∧ (0 ≤ i)) then iN t.links.xs.length else undef))), (19, iV ((if ((failV t f) ∧ (0 ≤ i)) then bD (i < ((t.links.xs.length : Nat) : Int)) else undef))), (20, iV (bD (((failV t f) ∧ (0 ≤ i)) ∧ (i < ((t.links.xs.length : Nat) : Int))))), (21, iV (bD (((failV t f) ∧ (0 ≤ i)) ∧ (i < ((t.links.xs.length : Nat) : Int))))), (22, iV ((if (((failV t f) ∧ (0 ≤ i)) ∧ (i < ((t.links.xs.length : Nat) : Int))) then pT b2 (0 + 0) else undef))), (23, iV ((if (((failV t f) ∧ (0 ≤ i)) ∧ (i < ((t.links.xs.length : Nat) : Int))) then sV f.links else undef))), (24, iV ((if (((failV t f) ∧ (0 ≤ i)) ∧ (i < ((t.links.xs.length : Nat) : Int))) then iI i else undef))), (25, iV ((if (((failV t f) ∧ (0 ≤ i)) ∧ (i < ((t.links.xs.length : Nat) : Int))) then bD (i ∈ f.links.xs) else undef))), (26, iV ((if (((failV t f) ∧ (0 ≤ i)) ∧ (i < ((t.links.xs.length : Nat) : Int))) then bD (¬ (i ∈ f.links.xs)) else undef))), (27, iV (bD ((((failV t f) ∧ (0 ≤ i)) ∧ (i < ((t.links.xs.length : Nat) : Int))) ∧ (¬ (i ∈ f.links.xs))))), (28, iV (bD ((((failV t f) ∧ (0 ≤ i)) ∧ (i < ((t.links.xs.length : Nat) : Int))) ∧ (¬ (i ∈ f.links.xs))))), (29, iV ((if ((((failV t f) ∧ (0 ≤ i)) ∧ (i < ((t.links.xs.length : Nat) : Int))) ∧ (¬ (i ∈ f.links.xs))) then tV t else undef))), (30, iV ((if ((((failV t f) ∧ (0 ≤ i)) ∧ (i < ((t.links.xs.length : Nat) : Int))) ∧ (¬ (i ∈ f.links.xs))) then fV f else undef))), (31, iV ((if ((((failV t f) ∧ (0 ≤ i)) ∧ (i < ((t.links.xs.length : Nat) : Int))) ∧ (¬ (i ∈ f.links.xs))) then pT b1 (0 + 1) else undef))), (32, iV ((if ((((failV t f) ∧ (0 ≤ i)) ∧ (i < ((t.links.xs.length : Nat) : Int))) ∧ (¬ (i ∈ f.links.xs))) then sV t.links else undef))), (33, iV ((if ((((failV t f) ∧ (0 ≤ i)) ∧ (i < ((t.links.xs.length : Nat) : Int))) ∧ (¬ (i ∈ f.links.xs))) then iI i else undef))), (34, iV ((if ((((failV t f) ∧ (0 ≤ i)) ∧ (i < ((t.links.xs.length : Nat) : Int))) ∧ (¬ (i ∈ f.links.xs))) then pT (blk t.links.a) (off t.links.a + (i).toNat * 3) else undef))), (35, iV ((if ((((failV t f) ∧ (0 ≤ i)) ∧ (i < ((t.links.xs.length : Nat) : Int))) ∧ (¬ (i ∈ f.links.xs))) then pT (blk t.links.a) (off t.links.a + (i).toNat * 3 + 0) else undef))), (36, iV ((if ((((failV t f) ∧ (0 ≤ i)) ∧ (i < ((t.links.xs.length : Nat) : Int))) ∧ (¬ (i ∈ f.links.xs))) then iI ((t.links.xs.getD ((i).toNat) lnkE.dflt).a) else undef))), (37, iV ((if ((((failV t f) ∧ (0 ≤ i)) ∧ (i < ((t.links.xs.length : Nat) : Int))) ∧ (¬ (i ∈ f.links.xs))) then bD (aliveV t f (t.links.xs.getD ((i).toNat) lnkE.dflt).a) else undef))), (38, iV (bD (((((failV t f) ∧ (0 ≤ i)) ∧ (i < ((t.links.xs.length : Nat) : Int))) ∧ (¬ (i ∈ f.links.xs))) ∧ (aliveV t f (t.links.xs.getD ((i).toNat) lnkE.dflt).a)))), (39, iV (bD (((((failV t f) ∧ (0 ≤ i)) ∧ (i < ((t.links.xs.length : Nat) : Int))) ∧ (¬ (i ∈ f.links.xs))) ∧ (aliveV t f (t.links.xs.getD ((i).toNat) lnkE.dflt).a)))), (40, iV ((if (((((failV t f) ∧ (0 ≤ i)) ∧ (i < ((t.links.xs.length : Nat) : Int))) ∧ (¬ (i ∈ f.links.xs))) ∧ (aliveV t f (t.links.xs.getD ((i).toNat) lnkE.dflt).a)) then tV t else undef))), (41, iV ((if (((((failV t f) ∧ (0 ≤ i)) ∧ (i < ((t.links.xs.length : Nat) : Int))) ∧ (¬ (i ∈ f.links.xs))) ∧ (aliveV t f (t.links.xs.getD ((i).toNat) lnkE.dflt).a)) then fV f else undef))), (42, iV ((if (((((failV t f) ∧ (0 ≤ i)) ∧ (i < ((t.links.xs.length : Nat) : Int))) ∧ (¬ (i ∈ f.links.xs))) ∧ (aliveV t f (t.links.xs.getD ((i).toNat) lnkE.dflt).a)) then pT b1 (0 + 1) else undef))), (43, iV ((if (((((failV t f) ∧ (0 ≤ i)) ∧ (i < ((t.links.xs.length : Nat) : Int))) ∧ (¬ (i ∈ f.links.xs))) ∧ (aliveV t f (t.links.xs.getD ((i).toNat) lnkE.dflt).a)) then sV t.links else undef))), (44, iV ((if (((((failV t f) ∧ (0 ≤ i)) ∧ (i < ((t.links.xs.length : Nat) : Int))) ∧ (¬ (i ∈ f.links.xs))) ∧ (aliveV t f (t.links.xs.getD ((i).toNat) lnkE.dflt).a)) then iI i else undef))), (45, iV ((if (((((failV t f) ∧ (0 ≤ i)) ∧ (i < ((t.links.xs.length : Nat) : Int))) ∧ (¬ (i ∈ f.links.xs))) ∧ (aliveV t f (t.links.xs.getD ((i).toNat) lnkE.dflt).a)) then pT (blk t.links.a) (off t.links.a + (i).toNat * 3) else undef))), (46, iV ((if (((((failV t f) ∧ (0 ≤ i)) ∧ (i < ((t.links.xs.length : Nat) : Int))) ∧ (¬ (i ∈ f.links.xs))) ∧ (aliveV t f (t.links.xs.getD ((i).toNat) lnkE.dflt).a)) then pT (blk t.links.a) (off t.links.a + (i).toNat * 3 + 1) else undef))), (47, iV ((if (((((failV t f) ∧ (0 ≤ i)) ∧ (i < ((t.links.xs.length : Nat) : Int))) ∧ (¬ (i ∈ f.links.xs))) ∧ (aliveV t f (t.links.xs.getD ((i).toNat) lnkE.dflt).a)) then iI ((t.links.xs.getD ((i).toNat) lnkE.dflt).b) else undef))), (48, iV ((if (((((failV t f) ∧ (0 ≤ i)) ∧ (i < ((t.links.xs.length : Nat) : Int))) ∧ (¬ (i ∈ f.links.xs))) ∧ (aliveV t f (t.links.xs.getD ((i).toNat) lnkE.dflt).a)) then bD (aliveV t f (t.links.xs.getD ((i).toNat) lnkE.dflt).b) else undef))), (49, iV (bD ((((((failV t f) ∧ (0 ≤ i)) ∧ (i < ((t.links.xs.length : Nat) : Int))) ∧ (¬ (i ∈ f.links.xs))) ∧ (aliveV t f (t.links.xs.getD ((i).toNat) lnkE.dflt).a)) ∧ (aliveV t f (t.links.xs.getD ((i).toNat) lnkE.dflt).b)))), (6, iV (bD ((((((failV t f) ∧ (0 ≤ i)) ∧ (i < ((t.links.xs.length : Nat) : Int))) ∧ (¬ (i ∈ f.links.xs))) ∧ (aliveV t f (t.links.xs.getD ((i).toNat) lnkE.dflt).a)) ∧ (aliveV t f (t.links.xs.getD ((i).toNat) lnkE.dflt).b))))] (fun w => True) [[], [], [7, 8], [9], [10], [10, 11], [10, 12], [13], [14], [14], [14, 16], [14, 17], [14, 15, 18], [14, 19], [20], [21], [21, 22], [21], [21, 23, 24], [21, 25], [21, 26], [27], [28], [28], [28], [28, 31], [28], [28, 32, 33], [28, 34], [28, 35], [28, 29, 30, 36], [28, 37], [38], [39], [39], [39], [39, 42], [39], [39, 43, 44], [39, 45], [39, 46], [39, 40, 41, 47], [39, 48], [49]] [6] _ rfl mixed (by kernel_rfl) rfl trivial ?_ ?_
 ·refine ⟨?_, ?_, ?_, ?_, ?_, ?_, ?_, ?_, ?_, ?_, ?_, ?_, ?_, ?_, ?_, ?_, ?_, ?_, ?_, ?_, ?_, ?_, ?_, ?_, ?_, ?_, ?_, ?_, ?_, ?_, ?_, ?_, ?_, ?_, ?_, ?_, ?_, ?_, ?_, ?_, ?_, ?_, ?_, ?_, trivial⟩
  ·intro a w3 G I S hE
   have TT := Tr.of_ch C.ms G (fun _ h => by simp at h)
   replace t_w := Enc.tr (topoE) t_w TT
   replace K1 := Blk.tr0 K1 G
   replace C := C.trans TT
   exact qo (tV t) (x_loadw (tL t) ⟨_, Try.underlying28, rfl, by kernel_rfl⟩ (S.e rfl) (K1.mid [] (tL t) [] rfl _ rfl)) I
  ·intro a w4 G I S hE
   have TT := Tr.of_ch C.ms G (fun _ h => by simp at h)
   replace f_w := Enc.tr (failE) f_w TT
   replace K2 := Blk.tr0 K2 G
   replace C := C.trans TT
   exact qo (fV f) (x_loadw (fL f) ⟨_, Try.underlying41, rfl, by kernel_rfl⟩ (S.e rfl) (K2.mid [] (fL f) [] rfl _ rfl)) I
  ·intro a w5 G I S hE
   have TT := Tr.of_ch C.ms G (fun _ h => by simp at h)
   replace t_w := Enc.tr (topoE) t_w TT
   replace f_w := Enc.tr (failE) f_w TT
   replace C := C.trans TT
   obtain ⟨e7, e8, _⟩ := hE
   replace S := S.ext e7
   replace S := S.ext e8
   refine head_op rfl rfl (op_call (vs := #[tV t, fV f]) (by simp only [List.map_toArray, List.map_cons, List.map_nil, show a.eval (.tmp 7) = tV t from (S.e rfl), show a.eval (.tmp 8) = fV f from (S.e rfl)]) callable_59 (rValidF _ (Ex F _) (C.old hF)  (MS.nil _) t ((topoE).down0 t_w) f ((failE).down0 f_w)) ?_)
   rintro e w2 ⟨rfl, T0⟩; exact ⟨_, rfl, Done.mk' rfl (by decide) (show _ = _ from rfl) T0.ch trivial⟩
  ·intro a w6 G I S hE
   have TT := Tr.of_ch C.ms G (fun _ h => by simp at h)
   replace C := C.trans TT
   obtain ⟨e9, _⟩ := hE
   replace S := S.ext e9
   exact qo (bD (failV t f)) (x_move (S.e rfl)) I
  ·intro a w7 G I S hE
   have TT := Tr.of_ch C.ms G (fun _ h => by simp at h)
   replace C := C.trans TT
   obtain ⟨e10, _⟩ := hE
   replace S := S.ext e10
   refine (Classical.em (failV t f)).symm.elim (fun hg => ?_) fun hg => ?_
   ·exact qn S 10 rfl (fun h => hg (gt.2 h)) I
   exact qy S 10 rfl (gt.1 hg) (iI i) (x_move (S.e rfl)) I
  ·intro a w8 G I S hE
   have TT := Tr.of_ch C.ms G (fun _ h => by simp at h)
   replace C := C.trans TT
   obtain ⟨e10, e11, _⟩ := hE
   replace S := S.ext e10
   replace S := S.ext e11
   refine (Classical.em (failV t f)).symm.elim (fun hg => ?_) fun hg => ?_
   ·exact qn S 10 rfl (fun h => hg (gt.2 h)) I
   exact qy S 10 rfl (gt.1 hg) (bD (0 ≤ i)) (x_geq (S.p rfl hg) (S.e rfl)) I
  ·intro a w9 G I S hE
   have TT := Tr.of_ch C.ms G (fun _ h => by simp at h)
   replace C := C.trans TT
   obtain ⟨e10, e12, _⟩ := hE
   replace S := S.ext e10
   replace S := S.ext e12
   exact qo (bD ((failV t f) ∧ (0 ≤ i))) (x_and (S.e rfl) (S.p rfl) (S.e rfl)) I
  ·intro a w10 G I S hE
   have TT := Tr.of_ch C.ms G (fun _ h => by simp at h)
   replace C := C.trans TT
   obtain ⟨e13, _⟩ := hE
   replace S := S.ext e13
   exact qo (bD ((failV t f) ∧ (0 ≤ i))) (x_move (S.e rfl)) I
  ·intro a w11 G I S hE
   have TT := Tr.of_ch C.ms G (fun _ h => by simp at h)
   replace C := C.trans TT
   obtain ⟨e14, _⟩ := hE
   replace S := S.ext e14
   refine (Classical.em ((failV t f) ∧ (0 ≤ i))).symm.elim (fun hg => ?_) fun hg => ?_
   ·exact qn S 14 rfl (fun h => hg (gt.2 h)) I
   exact qy S 14 rfl (gt.1 hg) (iI i) (x_move (S.e rfl)) I
  ·intro a w12 G I S hE
   have TT := Tr.of_ch C.ms G (fun _ h => by simp at h)
   replace t_w := Enc.tr (topoE) t_w TT
   replace K1 := Blk.tr0 K1 G
   replace C := C.trans TT
   obtain ⟨e14, _⟩ := hE
   replace S := S.ext e14
   refine (Classical.em ((failV t f) ∧ (0 ≤ i))).symm.elim (fun hg => ?_) fun hg => ?_
   ·exact qn S 14 rfl (fun h => hg (gt.2 h)) I
   exact qy S 14 rfl (gt.1 hg) (pT b1 (0 + 1)) (x_fld (z := 0) (0) 1 Try.underlying28 rfl rfl (by kernel_rfl) (S.e rfl)) I
  ·intro a w13 G I S hE
   have TT := Tr.of_ch C.ms G (fun _ h => by simp at h)
   replace t_w := Enc.tr (topoE) t_w TT
   replace K1 := Blk.tr0 K1 G
   replace C := C.trans TT
   obtain ⟨e14, e16, _⟩ := hE
   replace S := S.ext e14
   replace S := S.ext e16
   refine (Classical.em ((failV t f) ∧ (0 ≤ i))).symm.elim (fun hg => ?_) fun hg => ?_
   ·exact qn S 14 rfl (fun h => hg (gt.2 h)) I
   exact qy S 14 rfl (gt.1 hg) (sV t.links) (x_load ⟨_, Try.underlying24, rfl⟩ (S.p rfl hg) (K1.cell (j := 1) rfl)) I
  ·intro a w14 G I S hE
   have TT := Tr.of_ch C.ms G (fun _ h => by simp at h)
   replace t_w := Enc.tr (topoE) t_w TT
   replace C := C.trans TT
   obtain ⟨e14, e17, _⟩ := hE
   replace S := S.ext e14
   replace S := S.ext e17
   refine (Classical.em ((failV t f) ∧ (0 ≤ i))).symm.elim (fun hg => ?_) fun hg => ?_
   ·exact qn S 14 rfl (fun h => hg (gt.2 h)) I
   exact qy S 14 rfl (gt.1 hg) (iN t.links.xs.length) (x_len Try.underlying24 (S.p rfl hg)) I
  ·intro a w15 G I S hE
   have TT := Tr.of_ch C.ms G (fun _ h => by simp at h)
   replace C := C.trans TT
   obtain ⟨e14, e15, e18, _⟩ := hE
   replace S := S.ext e14
   replace S := S.ext e15
   replace S := S.ext e18
   refine (Classical.em ((failV t f) ∧ (0 ≤ i))).symm.elim (fun hg => ?_) fun hg => ?_
   ·exact qn S 14 rfl (fun h => hg (gt.2 h)) I
   exact qy S 14 rfl (gt.1 hg) (bD (i < ((t.links.xs.length : Nat) : Int))) (x_lss (S.p rfl hg) (S.p rfl hg)) I
  ·intro a w16 G I S hE
   have TT := Tr.of_ch C.ms G (fun _ h => by simp at h)
   replace C := C.trans TT
   obtain ⟨e14, e19, _⟩ := hE
   replace S := S.ext e14
   replace S := S.ext e19
   exact qo (bD (((failV t f) ∧ (0 ≤ i)) ∧ (i < ((t.links.xs.length : Nat) : Int)))) (x_and (S.e rfl) (S.p rfl) (S.e rfl)) I
  ·intro a w17 G I S hE
   have TT := Tr.of_ch C.ms G (fun _ h => by simp at h)
   replace C := C.trans TT
   obtain ⟨e20, _⟩ := hE
   replace S := S.ext e20
   exact qo (bD (((failV t f) ∧ (0 ≤ i)) ∧ (i < ((t.links.xs.length : Nat) : Int)))) (x_move (S.e rfl)) I
  ·intro a w18 G I S hE
   have TT := Tr.of_ch C.ms G (fun _ h => by simp at h)
   replace f_w := Enc.tr (failE) f_w TT
   replace K2 := Blk.tr0 K2 G
   replace C := C.trans TT
   obtain ⟨e21, _⟩ := hE
   replace S := S.ext e21
   refine (Classical.em (((failV t f) ∧ (0 ≤ i)) ∧ (i < ((t.links.xs.length : Nat) : Int)))).symm.elim (fun hg => ?_) fun hg => ?_
   ·exact qn S 21 rfl (fun h => hg (gt.2 h)) I
   exact qy S 21 rfl (gt.1 hg) (pT b2 (0 + 0)) (x_fld (z := 0) (0) 0 Try.underlying41 rfl rfl (by kernel_rfl) (S.e rfl)) I
  ·intro a w19 G I S hE
   have TT := Tr.of_ch C.ms G (fun _ h => by simp at h)
   replace f_w := Enc.tr (failE) f_w TT
   replace K2 := Blk.tr0 K2 G
   replace C := C.trans TT
   obtain ⟨e21, e22, _⟩ := hE
   replace S := S.ext e21
   replace S := S.ext e22
   refine (Classical.em (((failV t f) ∧ (0 ≤ i)) ∧ (i < ((t.links.xs.length : Nat) : Int)))).symm.elim (fun hg => ?_) fun hg => ?_
   ·exact qn S 21 rfl (fun h => hg (gt.2 h)) I
   exact qy S 21 rfl (gt.1 hg) (sV f.links) (x_load ⟨_, Try.underlying22, rfl⟩ (S.p rfl hg) (K2.cell (j := 0) rfl)) I
  ·intro a w20 G I S hE
   have TT := Tr.of_ch C.ms G (fun _ h => by simp at h)
   replace C := C.trans TT
   obtain ⟨e21, _⟩ := hE
   replace S := S.ext e21
   refine (Classical.em (((failV t f) ∧ (0 ≤ i)) ∧ (i < ((t.links.xs.length : Nat) : Int)))).symm.elim (fun hg => ?_) fun hg => ?_
   ·exact qn S 21 rfl (fun h => hg (gt.2 h)) I
   exact qy S 21 rfl (gt.1 hg) (iI i) (x_move (S.e rfl)) I
  ·intro a w21 G I S hE
   have TT := Tr.of_ch C.ms G (fun _ h => by simp at h)
   replace f_w := Enc.tr (failE) f_w TT
   replace C := C.trans TT
   obtain ⟨e21, e23, e24, _⟩ := hE
   replace S := S.ext e21
   replace S := S.ext e23
   replace S := S.ext e24
   refine (Classical.em (((failV t f) ∧ (0 ≤ i)) ∧ (i < ((t.links.xs.length : Nat) : Int)))).symm.elim (fun hg => ?_) fun hg => ?_
   ·exact qn S 21 rfl (fun h => hg (gt.2 h)) I
   refine head_yes rfl rfl rfl rfl (by rw [S.size]; decide) (gv := bD (((failV t f) ∧ (0 ≤ i)) ∧ (i < ((t.links.xs.length : Nat) : Int)))) (S.get 21 _ rfl) (gt.1 hg) (op_call (vs := #[sV f.links, iI i]) (by simp only [List.map_toArray, List.map_cons, List.map_nil, show a.eval (.tmp 23) = sV f.links from (S.p rfl hg), show a.eval (.tmp 24) = iI i from (S.p rfl hg)]) callable_73 (rHas _ (Ex F _) (C.old hF)  (MS.nil _) f.links ((slE intE).down0 f_w.1) i i_h) ?_)
   rintro e w2 ⟨rfl, T0⟩; exact ⟨_, rfl, Done.mk' rfl (by decide) (show _ = _ from (if_pos hg).symm) T0.ch trivial⟩
  ·intro a w22 G I S hE
   have TT := Tr.of_ch C.ms G (fun _ h => by simp at h)
   replace C := C.trans TT
   obtain ⟨e21, e25, _⟩ := hE
   replace S := S.ext e21
   replace S := S.ext e25
   refine (Classical.em (((failV t f) ∧ (0 ≤ i)) ∧ (i < ((t.links.xs.length : Nat) : Int)))).symm.elim (fun hg => ?_) fun hg => ?_
   ·exact qn S 21 rfl (fun h => hg (gt.2 h)) I
   exact qy S 21 rfl (gt.1 hg) (bD (¬ (i ∈ f.links.xs))) (x_notp (S.p rfl hg)) I
  ·intro a w23 G I S hE
   have TT := Tr.of_ch C.ms G (fun _ h => by simp at h)
   replace C := C.trans TT
   obtain ⟨e21, e26, _⟩ := hE
   replace S := S.ext e21
   replace S := S.ext e26
   exact qo (bD ((((failV t f) ∧ (0 ≤ i)) ∧ (i < ((t.links.xs.length : Nat) : Int))) ∧ (¬ (i ∈ f.links.xs)))) (x_and (S.e rfl) (S.p rfl) (S.e rfl)) I
  ·intro a w24 G I S hE
   have TT := Tr.of_ch C.ms G (fun _ h => by simp at h)
   replace C := C.trans TT
   obtain ⟨e27, _⟩ := hE
   replace S := S.ext e27
   exact qo (bD ((((failV t f) ∧ (0 ≤ i)) ∧ (i < ((t.links.xs.length : Nat) : Int))) ∧ (¬ (i ∈ f.links.xs)))) (x_move (S.e rfl)) I
  ·intro a w25 G I S hE
   have TT := Tr.of_ch C.ms G (fun _ h => by simp at h)
   replace t_w := Enc.tr (topoE) t_w TT
   replace K1 := Blk.tr0 K1 G
   replace C := C.trans TT
   obtain ⟨e28, _⟩ := hE
   replace S := S.ext e28
   refine (Classical.em ((((failV t f) ∧ (0 ≤ i)) ∧ (i < ((t.links.xs.length : Nat) : Int))) ∧ (¬ (i ∈ f.links.xs)))).symm.elim (fun hg => ?_) fun hg => ?_
   ·exact qn S 28 rfl (fun h => hg (gt.2 h)) I
   exact qy S 28 rfl (gt.1 hg) (tV t) (x_loadw (tL t) ⟨_, Try.underlying28, rfl, by kernel_rfl⟩ (S.e rfl) (K1.mid [] (tL t) [] rfl _ rfl)) I
  ·intro a w26 G I S hE
   have TT := Tr.of_ch C.ms G (fun _ h => by simp at h)
   replace f_w := Enc.tr (failE) f_w TT
   replace K2 := Blk.tr0 K2 G
   replace C := C.trans TT
   obtain ⟨e28, _⟩ := hE
   replace S := S.ext e28
   refine (Classical.em ((((failV t f) ∧ (0 ≤ i)) ∧ (i < ((t.links.xs.length : Nat) : Int))) ∧ (¬ (i ∈ f.links.xs)))).symm.elim (fun hg => ?_) fun hg => ?_
   ·exact qn S 28 rfl (fun h => hg (gt.2 h)) I
   exact qy S 28 rfl (gt.1 hg) (fV f) (x_loadw (fL f) ⟨_, Try.underlying41, rfl, by kernel_rfl⟩ (S.e rfl) (K2.mid [] (fL f) [] rfl _ rfl)) I
  ·intro a w27 G I S hE
   have TT := Tr.of_ch C.ms G (fun _ h => by simp at h)
   replace t_w := Enc.tr (topoE) t_w TT
   replace K1 := Blk.tr0 K1 G
   replace C := C.trans TT
   obtain ⟨e28, _⟩ := hE
   replace S := S.ext e28
   refine (Classical.em ((((failV t f) ∧ (0 ≤ i)) ∧ (i < ((t.links.xs.length : Nat) : Int))) ∧ (¬ (i ∈ f.links.xs)))).symm.elim (fun hg => ?_) fun hg => ?_
   ·exact qn S 28 rfl (fun h => hg (gt.2 h)) I
   exact qy S 28 rfl (gt.1 hg) (pT b1 (0 + 1)) (x_fld (z := 0) (0) 1 Try.underlying28 rfl rfl (by kernel_rfl) (S.e rfl)) I
  ·intro a w28 G I S hE
   have TT := Tr.of_ch C.ms G (fun _ h => by simp at h)
   replace t_w := Enc.tr (topoE) t_w TT
   replace K1 := Blk.tr0 K1 G
   replace C := C.trans TT
   obtain ⟨e28, e31, _⟩ := hE
   replace S := S.ext e28
   replace S := S.ext e31
   refine (Classical.em ((((failV t f) ∧ (0 ≤ i)) ∧ (i < ((t.links.xs.length : Nat) : Int))) ∧ (¬ (i ∈ f.links.xs)))).symm.elim (fun hg => ?_) fun hg => ?_
   ·exact qn S 28 rfl (fun h => hg (gt.2 h)) I
   exact qy S 28 rfl (gt.1 hg) (sV t.links) (x_load ⟨_, Try.underlying24, rfl⟩ (S.p rfl hg) (K1.cell (j := 1) rfl)) I
  ·intro a w29 G I S hE
   have TT := Tr.of_ch C.ms G (fun _ h => by simp at h)
   replace C := C.trans TT
   obtain ⟨e28, _⟩ := hE
   replace S := S.ext e28
   refine (Classical.em ((((failV t f) ∧ (0 ≤ i)) ∧ (i < ((t.links.xs.length : Nat) : Int))) ∧ (¬ (i ∈ f.links.xs)))).symm.elim (fun hg => ?_) fun hg => ?_
   ·exact qn S 28 rfl (fun h => hg (gt.2 h)) I
   exact qy S 28 rfl (gt.1 hg) (iI i) (x_move (S.e rfl)) I
  ·intro a w30 G I S hE
   have TT := Tr.of_ch C.ms G (fun _ h => by simp at h)
   replace t_w := Enc.tr (topoE) t_w TT
   replace C := C.trans TT
   obtain ⟨e28, e32, e33, _⟩ := hE
   replace S := S.ext e28
   replace S := S.ext e32
   replace S := S.ext e33
   refine (Classical.em ((((failV t f) ∧ (0 ≤ i)) ∧ (i < ((t.links.xs.length : Nat) : Int))) ∧ (¬ (i ∈ f.links.xs)))).symm.elim (fun hg => ?_) fun hg => ?_
   ·exact qn S 28 rfl (fun h => hg (gt.2 h)) I
   exact qy S 28 rfl (gt.1 hg) (pT (blk t.links.a) (off t.links.a + (i).toNat * 3)) (x_idx Try.underlying24 (by kernel_rfl) (S.p rfl hg) (S.p rfl hg) (i).toNat (by omega) (by omega) ((t_w.2.1).1.adr (i := (i).toNat) (by omega))) I
  ·intro a w31 G I S hE
   have TT := Tr.of_ch C.ms G (fun _ h => by simp at h)
   replace t_w := Enc.tr (topoE) t_w TT
   replace C := C.trans TT
   obtain ⟨e28, e34, _⟩ := hE
   replace S := S.ext e28
   replace S := S.ext e34
   refine (Classical.em ((((failV t f) ∧ (0 ≤ i)) ∧ (i < ((t.links.xs.length : Nat) : Int))) ∧ (¬ (i ∈ f.links.xs)))).symm.elim (fun hg => ?_) fun hg => ?_
   ·exact qn S 28 rfl (fun h => hg (gt.2 h)) I
   exact qy S 28 rfl (gt.1 hg) (pT (blk t.links.a) (off t.links.a + (i).toNat * 3 + 0)) (x_fld (z := 0) (off t.links.a + (i).toNat * 3) 0 Try.underlying54 rfl rfl (by kernel_rfl) (S.p rfl hg)) I
  ·intro a w32 G I S hE
   have TT := Tr.of_ch C.ms G (fun _ h => by simp at h)
   replace t_w := Enc.tr (topoE) t_w TT
   replace C := C.trans TT
   obtain ⟨e28, e35, _⟩ := hE
   replace S := S.ext e28
   replace S := S.ext e35
   refine (Classical.em ((((failV t f) ∧ (0 ≤ i)) ∧ (i < ((t.links.xs.length : Nat) : Int))) ∧ (¬ (i ∈ f.links.xs)))).symm.elim (fun hg => ?_) fun hg => ?_
   ·exact qn S 28 rfl (fun h => hg (gt.2 h)) I
   exact qy S 28 rfl (gt.1 hg) (iI ((t.links.xs.getD ((i).toNat) lnkE.dflt).a)) (x_load ⟨_, Try.underlying3, rfl⟩ (S.p rfl hg) ((t_w.2.1).1.cell (i).toNat (by omega) 0 _ rfl)) I
  ·intro a w33 G I S hE
   have TT := Tr.of_ch C.ms G (fun _ h => by simp at h)
   replace t_w := Enc.tr (topoE) t_w TT
   replace f_w := Enc.tr (failE) f_w TT
   replace C := C.trans TT
   obtain ⟨e28, e29, e30, e36, _⟩ := hE
   replace S := S.ext e28
   replace S := S.ext e29
   replace S := S.ext e30
   replace S := S.ext e36
   refine (Classical.em ((((failV t f) ∧ (0 ≤ i)) ∧ (i < ((t.links.xs.length : Nat) : Int))) ∧ (¬ (i ∈ f.links.xs)))).symm.elim (fun hg => ?_) fun hg => ?_
   ·exact qn S 28 rfl (fun h => hg (gt.2 h)) I
   refine head_yes rfl rfl rfl rfl (by rw [S.size]; decide) (gv := bD ((((failV t f) ∧ (0 ≤ i)) ∧ (i < ((t.links.xs.length : Nat) : Int))) ∧ (¬ (i ∈ f.links.xs)))) (S.get 28 _ rfl) (gt.1 hg) (op_call (vs := #[tV t, fV f, iI ((t.links.xs.getD ((i).toNat) lnkE.dflt).a)]) (by simp only [List.map_toArray, List.map_cons, List.map_nil, show a.eval (.tmp 29) = tV t from (S.p rfl hg), show a.eval (.tmp 30) = fV f from (S.p rfl hg), show a.eval (.tmp 36) = iI ((t.links.xs.getD ((i).toNat) lnkE.dflt).a) from (S.p rfl hg)]) callable_60 (rAlive _ (Ex F _) (C.old hF)  (MS.nil _) t ((topoE).down0 t_w) f ((failE).down0 f_w) ((t.links.xs.getD ((i).toNat) lnkE.dflt).a) ((t_w.2.1).1.wf (i).toNat (by omega)).1) ?_)
   rintro e w2 ⟨rfl, T0⟩; exact ⟨_, rfl, Done.mk' rfl (by decide) (show _ = _ from (if_pos hg).symm) T0.ch trivial⟩
  ·intro a w34 G I S hE
   have TT := Tr.of_ch C.ms G (fun _ h => by simp at h)
   replace C := C.trans TT
   obtain ⟨e28, e37, _⟩ := hE
   replace S := S.ext e28
   replace S := S.ext e37
   exact qo (bD (((((failV t f) ∧ (0 ≤ i)) ∧ (i < ((t.links.xs.length : Nat) : Int))) ∧ (¬ (i ∈ f.links.xs))) ∧ (aliveV t f (t.links.xs.getD ((i).toNat) lnkE.dflt).a))) (x_and (S.e rfl) (S.p rfl) (S.e rfl)) I
  ·intro a w35 G I S hE
   have TT := Tr.of_ch C.ms G (fun _ h => by simp at h)
   replace C := C.trans TT
   obtain ⟨e38, _⟩ := hE
   replace S := S.ext e38
   exact qo (bD (((((failV t f) ∧ (0 ≤ i)) ∧ (i < ((t.links.xs.length : Nat) : Int))) ∧ (¬ (i ∈ f.links.xs))) ∧ (aliveV t f (t.links.xs.getD ((i).toNat) lnkE.dflt).a))) (x_move (S.e rfl)) I
  ·intro a w36 G I S hE
   have TT := Tr.of_ch C.ms G (fun _ h => by simp at h)
   replace t_w := Enc.tr (topoE) t_w TT
   replace K1 := Blk.tr0 K1 G
   replace C := C.trans TT
   obtain ⟨e39, _⟩ := hE
   replace S := S.ext e39
   refine (Classical.em (((((failV t f) ∧ (0 ≤ i)) ∧ (i < ((t.links.xs.length : Nat) : Int))) ∧ (¬ (i ∈ f.links.xs))) ∧ (aliveV t f (t.links.xs.getD ((i).toNat) lnkE.dflt).a))).symm.elim (fun hg => ?_) fun hg => ?_
   ·exact qn S 39 rfl (fun h => hg (gt.2 h)) I
   exact qy S 39 rfl (gt.1 hg) (tV t) (x_loadw (tL t) ⟨_, Try.underlying28, rfl, by kernel_rfl⟩ (S.e rfl) (K1.mid [] (tL t) [] rfl _ rfl)) I
  ·intro a w37 G I S hE
   have TT := Tr.of_ch C.ms G (fun _ h => by simp at h)
   replace f_w := Enc.tr (failE) f_w TT
   replace K2 := Blk.tr0 K2 G
   replace C := C.trans TT
   obtain ⟨e39, _⟩ := hE
   replace S := S.ext e39
   refine (Classical.em (((((failV t f) ∧ (0 ≤ i)) ∧ (i < ((t.links.xs.length : Nat) : Int))) ∧ (¬ (i ∈ f.links.xs))) ∧ (aliveV t f (t.links.xs.getD ((i).toNat) lnkE.dflt).a))).symm.elim (fun hg => ?_) fun hg => ?_
   ·exact qn S 39 rfl (fun h => hg (gt.2 h)) I
   exact qy S 39 rfl (gt.1 hg) (fV f) (x_loadw (fL f) ⟨_, Try.underlying41, rfl, by kernel_rfl⟩ (S.e rfl) (K2.mid [] (fL f) [] rfl _ rfl)) I
  ·intro a w38 G I S hE
   have TT := Tr.of_ch C.ms G (fun _ h => by simp at h)
   replace t_w := Enc.tr (topoE) t_w TT
   replace K1 := Blk.tr0 K1 G
   replace C := C.trans TT
   obtain ⟨e39, _⟩ := hE
   replace S := S.ext e39
   refine (Classical.em (((((failV t f) ∧ (0 ≤ i)) ∧ (i < ((t.links.xs.length : Nat) : Int))) ∧ (¬ (i ∈ f.links.xs))) ∧ (aliveV t f (t.links.xs.getD ((i).toNat) lnkE.dflt).a))).symm.elim (fun hg => ?_) fun hg => ?_
   ·exact qn S 39 rfl (fun h => hg (gt.2 h)) I
   exact qy S 39 rfl (gt.1 hg) (pT b1 (0 + 1)) (x_fld (z := 0) (0) 1 Try.underlying28 rfl rfl (by kernel_rfl) (S.e rfl)) I
  ·intro a w39 G I S hE
   have TT := Tr.of_ch C.ms G (fun _ h => by simp at h)
   replace t_w := Enc.tr (topoE) t_w TT
   replace K1 := Blk.tr0 K1 G
   replace C := C.trans TT
   obtain ⟨e39, e42, _⟩ := hE
   replace S := S.ext e39
   replace S := S.ext e42
   refine (Classical.em (((((failV t f) ∧ (0 ≤ i)) ∧ (i < ((t.links.xs.length : Nat) : Int))) ∧ (¬ (i ∈ f.links.xs))) ∧ (aliveV t f (t.links.xs.getD ((i).toNat) lnkE.dflt).a))).symm.elim (fun hg => ?_) fun hg => ?_
   ·exact qn S 39 rfl (fun h => hg (gt.2 h)) I
   exact qy S 39 rfl (gt.1 hg) (sV t.links) (x_load ⟨_, Try.underlying24, rfl⟩ (S.p rfl hg) (K1.cell (j := 1) rfl)) I
  ·intro a w40 G I S hE
   have TT := Tr.of_ch C.ms G (fun _ h => by simp at h)
   replace C := C.trans TT
   obtain ⟨e39, _⟩ := hE
   replace S := S.ext e39
   refine (Classical.em (((((failV t f) ∧ (0 ≤ i)) ∧ (i < ((t.links.xs.length : Nat) : Int))) ∧ (¬ (i ∈ f.links.xs))) ∧ (aliveV t f (t.links.xs.getD ((i).toNat) lnkE.dflt).a))).symm.elim (fun hg => ?_) fun hg => ?_
   ·exact qn S 39 rfl (fun h => hg (gt.2 h)) I
   exact qy S 39 rfl (gt.1 hg) (iI i) (x_move (S.e rfl)) I
  ·intro a w41 G I S hE
   have TT := Tr.of_ch C.ms G (fun _ h => by simp at h)
   replace t_w := Enc.tr (topoE) t_w TT
   replace C := C.trans TT
   obtain ⟨e39, e43, e44, _⟩ := hE
   replace S := S.ext e39
   replace S := S.ext e43
   replace S := S.ext e44
   refine (Classical.em (((((failV t f) ∧ (0 ≤ i)) ∧ (i < ((t.links.xs.length : Nat) : Int))) ∧ (¬ (i ∈ f.links.xs))) ∧ (aliveV t f (t.links.xs.getD ((i).toNat) lnkE.dflt).a))).symm.elim (fun hg => ?_) fun hg => ?_
   ·exact qn S 39 rfl (fun h => hg (gt.2 h)) I
   exact qy S 39 rfl (gt.1 hg) (pT (blk t.links.a) (off t.links.a + (i).toNat * 3)) (x_idx Try.underlying24 (by kernel_rfl) (S.p rfl hg) (S.p rfl hg) (i).toNat (by omega) (by omega) ((t_w.2.1).1.adr (i := (i).toNat) (by omega))) I
  ·intro a w42 G I S hE
   have TT := Tr.of_ch C.ms G (fun _ h => by simp at h)
   replace t_w := Enc.tr (topoE) t_w TT
   replace C := C.trans TT
   obtain ⟨e39, e45, _⟩ := hE
   replace S := S.ext e39
   replace S := S.ext e45
   refine (Classical.em (((((failV t f) ∧ (0 ≤ i)) ∧ (i < ((t.links.xs.length : Nat) : Int))) ∧ (¬ (i ∈ f.links.xs))) ∧ (aliveV t f (t.links.xs.getD ((i).toNat) lnkE.dflt).a))).symm.elim (fun hg => ?_) fun hg => ?_
   ·exact qn S 39 rfl (fun h => hg (gt.2 h)) I
   exact qy S 39 rfl (gt.1 hg) (pT (blk t.links.a) (off t.links.a + (i).toNat * 3 + 1)) (x_fld (z := 0) (off t.links.a + (i).toNat * 3) 1 Try.underlying54 rfl rfl (by kernel_rfl) (S.p rfl hg)) I
  ·intro a w43 G I S hE
   have TT := Tr.of_ch C.ms G (fun _ h => by simp at h)
   replace t_w := Enc.tr (topoE) t_w TT
   replace C := C.trans TT
   obtain ⟨e39, e46, _⟩ := hE
   replace S := S.ext e39
   replace S := S.ext e46
   refine (Classical.em (((((failV t f) ∧ (0 ≤ i)) ∧ (i < ((t.links.xs.length : Nat) : Int))) ∧ (¬ (i ∈ f.links.xs))) ∧ (aliveV t f (t.links.xs.getD ((i).toNat) lnkE.dflt).a))).symm.elim (fun hg => ?_) fun hg => ?_
   ·exact qn S 39 rfl (fun h => hg (gt.2 h)) I
   exact qy S 39 rfl (gt.1 hg) (iI ((t.links.xs.getD ((i).toNat) lnkE.dflt).b)) (x_load ⟨_, Try.underlying3, rfl⟩ (S.p rfl hg) ((t_w.2.1).1.cell (i).toNat (by omega) 1 _ rfl)) I
  ·intro a w44 G I S hE
   have TT := Tr.of_ch C.ms G (fun _ h => by simp at h)
   replace t_w := Enc.tr (topoE) t_w TT
   replace f_w := Enc.tr (failE) f_w TT
   replace C := C.trans TT
   obtain ⟨e39, e40, e41, e47, _⟩ := hE
   replace S := S.ext e39
   replace S := S.ext e40
   replace S := S.ext e41
   replace S := S.ext e47
   refine (Classical.em (((((failV t f) ∧ (0 ≤ i)) ∧ (i < ((t.links.xs.length : Nat) : Int))) ∧ (¬ (i ∈ f.links.xs))) ∧ (aliveV t f (t.links.xs.getD ((i).toNat) lnkE.dflt).a))).symm.elim (fun hg => ?_) fun hg => ?_
   ·exact qn S 39 rfl (fun h => hg (gt.2 h)) I
   refine head_yes rfl rfl rfl rfl (by rw [S.size]; decide) (gv := bD (((((failV t f) ∧ (0 ≤ i)) ∧ (i < ((t.links.xs.length : Nat) : Int))) ∧ (¬ (i ∈ f.links.xs))) ∧ (aliveV t f (t.links.xs.getD ((i).toNat) lnkE.dflt).a))) (S.get 39 _ rfl) (gt.1 hg) (op_call (vs := #[tV t, fV f, iI ((t.links.xs.getD ((i).toNat) lnkE.dflt).b)]) (by simp only [List.map_toArray, List.map_cons, List.map_nil, show a.eval (.tmp 40) = tV t from (S.p rfl hg), show a.eval (.tmp 41) = fV f from (S.p rfl hg), show a.eval (.tmp 47) = iI ((t.links.xs.getD ((i).toNat) lnkE.dflt).b) from (S.p rfl hg)]) callable_60 (rAlive _ (Ex F _) (C.old hF)  (MS.nil _) t ((topoE).down0 t_w) f ((failE).down0 f_w) ((t.links.xs.getD ((i).toNat) lnkE.dflt).b) ((t_w.2.1).1.wf (i).toNat (by omega)).2.1) ?_)
   rintro e w2 ⟨rfl, T0⟩; exact ⟨_, rfl, Done.mk' rfl (by decide) (show _ = _ from (if_pos hg).symm) T0.ch trivial⟩
  ·intro a w45 G I S hE
   have TT := Tr.of_ch C.ms G (fun _ h => by simp at h)
   replace C := C.trans TT
   obtain ⟨e39, e48, _⟩ := hE
   replace S := S.ext e39
   replace S := S.ext e48
   exact qo (bD ((((((failV t f) ∧ (0 ≤ i)) ∧ (i < ((t.links.xs.length : Nat) : Int))) ∧ (¬ (i ∈ f.links.xs))) ∧ (aliveV t f (t.links.xs.getD ((i).toNat) lnkE.dflt).a)) ∧ (aliveV t f (t.links.xs.getD ((i).toNat) lnkE.dflt).b))) (x_and (S.e rfl) (S.p rfl) (S.e rfl)) I
  intro a w46 G I S hE
  have TT := Tr.of_ch C.ms G (fun _ h => by simp at h)
  replace C := C.trans TT
  obtain ⟨e49, _⟩ := hE
  replace S := S.ext e49
  exact qo (bD ((((((failV t f) ∧ (0 ≤ i)) ∧ (i < ((t.links.xs.length : Nat) : Int))) ∧ (¬ (i ∈ f.links.xs))) ∧ (aliveV t f (t.links.xs.getD ((i).toNat) lnkE.dflt).a)) ∧ (aliveV t f (t.links.xs.getD ((i).toNat) lnkE.dflt).b))) (x_assign (S.e rfl)) I
 clear S a; intro a w47 G I S hE; have TT := Tr.of_ch C.ms G (fun _ h => by simp at h)
 replace t_w := Enc.tr (topoE) t_w TT
 replace f_w := Enc.tr (failE) f_w TT
 replace K1 := Blk.tr0 K1 G
 replace K2 := Blk.tr0 K2 G
 replace C := C.trans TT
 clear TT G
 obtain ⟨e6, -⟩ := hE
 replace S := S.ext e6
 clear e6
 refine qt ?_
 refine wp_ret ?_
 refine ret1 rfl S rfl ?_
 have TD : Tr [one b2, one b1] w47 [] w47 := Tr.drop C.ms [] (by decide)
 have GD : Ch (In []) w47 w47 := Ch.refl _
 clear K1
 clear K2
 replace t_w := Enc.tr (topoE) t_w TD
 replace f_w := Enc.tr (failE) f_w TD
 replace C := C.trans TD
 clear TD GD
 refine ⟨(r1 (vb ?_)), C⟩
 exact (usable_ref t f i).symm
end Go.Proofs.Ytfanmniaolncbaa.V
