/- the generator: choices, failure states -/
import Derived.Test.YtfanmniaolncbaaW12
import Derived.Test.YtfanmniaolncbaaGenM
namespace Go.Proofs.Ytfanmniaolncbaa.V
open Go.RowKit Go.Proofs.Ytfanmniaolncbaa
set_option linter.unusedVariables false
set_option linter.unusedSimpArgs false
set_option maxHeartbeats 2000000 in
set_option maxRecDepth 20000 in
theorem gNew (w : World) (F : Nat → Prop) (hF : Old F w) (M : MS [] w) (l : Sl Int) (l_w : (slE intE).wf (Fr F []) w.heap l) :
 Calls Try.prog 14 #[sV l] w fun e w' => ∃ (rT : Nat), e = .returned (pT rT 0) ∧ TpB 62 rT l w' ∧ Tr [] w [one rT] w' := by
 have C : Tr [] w [] w := Tr.refl M
 have : l.xs.length ≤ 9223372036854775807 := (l_w).1.len
 refine enter Try.func14 rfl 6 rfl (Nat.le_of_ble_eq_true rfl) ?_
 intro a S
 refine qs ?_
 refine qa S rfl ?_; clear S a; intro a S
 refine qt ?_
 refine qs ?_
 refine qm S rfl ?_; clear S a; intro a S
 refine qv S (.agg #[sV l, iI 0]) (x_build [(0, sV l)] [sV l, iI 0] (by simp only [List.map_cons, List.map_nil, show a.eval (.tmp 3) = sV l from (S.e rfl)]) (by kernel_rfl)) ?_; clear S a; intro a S
 refine seq_new S rfl rfl (by decide) (fun b => pT b 0) (cs := [sV l, iI 0]) (x_box [sV l, iI 0] (S.e rfl) rfl) ?_
 clear S a; intro a w1 b1 hb1 hbs1 G K1 S; have hbl1 : b1 < w1.heap.size := by omega
 have TT := Tr.fresh C.ms hb1 hbl1 G
 replace l_w := Enc.tr (slE intE) l_w TT
 replace C := C.trans TT
 clear TT G
 refine qa S rfl ?_; clear S a; intro a S
 refine qt ?_
 refine wp_ret ?_
 refine ret1 rfl S rfl ?_
 exact ⟨_, rfl, ⟨0, Nat.zero_le _, K1⟩, C⟩
set_option maxHeartbeats 2000000 in
set_option maxRecDepth 20000 in
theorem gMod (w : World) (F : Nat → Prop) (hF : Old F w) (M : MS [] w) (v : Int) (v_h : inI64 v) (n : Int) (n_h : inI64 n) (hn : 1 ≤ n) :
 Calls Try.prog 32 #[iI v, iI n] w fun e w' => e = .returned (iI (v % 18446744073709551616 % n)) ∧ Tr [] w [] w' := by
 have C : Tr [] w [] w := Tr.refl M
 obtain ⟨v_hl, v_hu⟩ : inI64 v := id v_h
 obtain ⟨n_hl, n_hu⟩ : inI64 n := id n_h
 have hu : IntKind.u64.wrap v = v % 18446744073709551616 := by simp [IntKind.wrap, IntKind.bits, IntKind.signed]
 have hw : 0 ≤ v % 18446744073709551616 ∧ v % 18446744073709551616 ≤ 18446744073709551615 := ⟨by omega, by omega⟩
 have hm1 : 0 ≤ v % 18446744073709551616 % n := Int.emod_nonneg _ (by omega)
 have hm2 : v % 18446744073709551616 % n < n := Int.emod_lt_of_pos _ (by omega)
 refine enter Try.func32 rfl 11 rfl (Nat.le_of_ble_eq_true rfl) ?_
 intro a S
 refine qs ?_
 refine qa S rfl ?_; clear S a; intro a S
 refine qt ?_
 refine qs ?_
 refine qm S rfl ?_; clear S a; intro a S
 refine qv S (.int .u64 (v % 18446744073709551616)) (x_conv Try.underlying3 Try.underlying78 (S.e rfl) (r := (v % 18446744073709551616)) hu) ?_; clear S a; intro a S
 refine qm S rfl ?_; clear S a; intro a S
 refine qv S (.int .u64 n) (x_conv Try.underlying3 Try.underlying78 (S.e rfl) (r := n) (w_u64 (by omega))) ?_; clear S a; intro a S
 refine qv S (.int .u64 ((v % 18446744073709551616) % n)) (x_rem (S.e rfl) (S.e rfl) (by omega) (r := ((v % 18446744073709551616) % n)) (by first | rfl | (rw [Int.tmod_eq_emod_of_nonneg (by omega)]) | (rw [Int.tmod_eq_emod_of_nonneg (by omega)]; omega))) ?_; clear S a; intro a S
 refine qv S (iI ((v % 18446744073709551616) % n)) (x_conv Try.underlying78 Try.underlying3 (S.e rfl) (r := ((v % 18446744073709551616) % n)) (w_i64 (by omega))) ?_; clear S a; intro a S
 refine qa S rfl ?_; clear S a; intro a S
 refine qt ?_
 refine wp_ret ?_
 refine ret1 rfl S rfl ?_
 refine ⟨(r1 (vi ?_)), C⟩
 first | rfl | omega | assumption
set_option maxHeartbeats 2000000 in
set_option maxRecDepth 20000 in
theorem gNext (w : World) (F : Nat → Prop) (hF : Old F w) (T : Nat) (M : MS [one T] w) (T_l : Sl Int) (T_w : (slE intE).wf (Fr F [one T]) w.heap T_l) (T_K : TpB 62 T T_l w) (n : Int) (n_h : inI64 n) :
 Calls Try.prog 23 #[pT T 0, iI n] w fun e w' => ∃ (r : Int), e = .returned (iI r) ∧ (0 ≤ r ∧ (r < n ∨ r = 0)) ∧ TpB 62 T T_l w' ∧ Tr [one T] w [one T] w' := by
 have C : Tr [one T] w [one T] w := Tr.refl M
 obtain ⟨ti, hti, T_K⟩ := T_K
 have T_len : T_l.xs.length ≤ 9223372036854775807 := T_w.1.len
 obtain ⟨n_hl, n_hu⟩ : inI64 n := id n_h
 refine enter Try.func23 rfl 39 rfl (Nat.le_of_ble_eq_true rfl) ?_
 intro a S
 refine qs ?_
 refine qa S rfl ?_; clear S a; intro a S
 refine qt ?_
 refine wp_seq ?_
 refine wp_seq ?_
 replace S := S.sub (L' := [(0, pT T 0), (1, iI n), (4, iI 0)]) ⟨rfl, rfl, rfl, trivial⟩
 refine wp_heads (M := In []) S 14 [(5, iV (iI n)), (6, iV (bD (n ≤ 1))), (7, iV (bD (n ≤ 1))), (8, iV ((if (¬ (n ≤ 1)) then pT T 0 else undef))), (9, iV ((if (¬ (n ≤ 1)) then pT T 0 else undef))), (10, iV ((if (¬ (n ≤ 1)) then pT T (0 + 1) else undef))), (11, iV ((if (¬ (n ≤ 1)) then iN ti else undef))), (12, iV ((if (¬ (n ≤ 1)) then pT T 0 else undef))), (13, iV ((if (¬ (n ≤ 1)) then pT T 0 else undef))), (14, iV ((if (¬ (n ≤ 1)) then pT T (0 + 0) else undef))), (15, iV ((if (¬ (n ≤ 1)) then sV T_l else undef))), (16, iV ((if (¬ (n ≤ 1)) then iN T_l.xs.length else undef))), (17, iV ((if (¬ (n ≤ 1)) then bD (((T_l.xs.length : Nat) : Int) ≤ ((ti : Nat) : Int)) else undef))), (18, iV (bD ((n ≤ 1) ∨ (((T_l.xs.length : Nat) : Int) ≤ ((ti : Nat) : Int)))))] (fun w => True) [[], [5], [6], [7], [7, 8], [7, 9], [7, 10], [7], [7, 12], [7, 13], [7, 14], [7, 15], [7, 11, 16], [7, 17]] [18] _ rfl mixed (by kernel_rfl) rfl trivial ?_ ?_
 ·refine ⟨?_, ?_, ?_, ?_, ?_, ?_, ?_, ?_, ?_, ?_, ?_, ?_, ?_, ?_, trivial⟩
  ·intro a w1 G I S hE
   have TT := Tr.of_ch C.ms G (fun _ h => by simp at h)
   replace C := C.trans TT
   exact qo (iI n) (x_move (S.e rfl)) I
  ·intro a w2 G I S hE
   have TT := Tr.of_ch C.ms G (fun _ h => by simp at h)
   replace C := C.trans TT
   obtain ⟨e5, _⟩ := hE
   replace S := S.ext e5
   exact qo (bD (n ≤ 1)) (x_leq (S.e rfl) (S.e rfl)) I
  ·intro a w3 G I S hE
   have TT := Tr.of_ch C.ms G (fun _ h => by simp at h)
   replace C := C.trans TT
   obtain ⟨e6, _⟩ := hE
   replace S := S.ext e6
   exact qo (bD (n ≤ 1)) (x_move (S.e rfl)) I
  ·intro a w4 G I S hE
   have TT := Tr.of_ch C.ms G (fun _ h => by simp at h)
   replace T_w := Enc.tr (slE intE) T_w TT
   replace T_K := Blk.tr0 T_K G
   replace C := C.trans TT
   obtain ⟨e7, _⟩ := hE
   replace S := S.ext e7
   refine (Classical.em (¬ (n ≤ 1))).symm.elim (fun hg => ?_) fun hg => ?_
   ·exact qn S 7 rfl (fun h => hg (gf.2 h)) I
   exact qy S 7 rfl (gf.1 hg) (pT T 0) (x_move (S.e rfl)) I
  ·intro a w5 G I S hE
   have TT := Tr.of_ch C.ms G (fun _ h => by simp at h)
   replace T_w := Enc.tr (slE intE) T_w TT
   replace T_K := Blk.tr0 T_K G
   replace C := C.trans TT
   obtain ⟨e7, e8, _⟩ := hE
   replace S := S.ext e7
   replace S := S.ext e8
   refine (Classical.em (¬ (n ≤ 1))).symm.elim (fun hg => ?_) fun hg => ?_
   ·exact qn S 7 rfl (fun h => hg (gf.2 h)) I
   exact qy S 7 rfl (gf.1 hg) (pT T 0) (x_nilck (S.p rfl hg)) I
  ·intro a w6 G I S hE
   have TT := Tr.of_ch C.ms G (fun _ h => by simp at h)
   replace T_w := Enc.tr (slE intE) T_w TT
   replace T_K := Blk.tr0 T_K G
   replace C := C.trans TT
   obtain ⟨e7, e9, _⟩ := hE
   replace S := S.ext e7
   replace S := S.ext e9
   refine (Classical.em (¬ (n ≤ 1))).symm.elim (fun hg => ?_) fun hg => ?_
   ·exact qn S 7 rfl (fun h => hg (gf.2 h)) I
   exact qy S 7 rfl (gf.1 hg) (pT T (0 + 1)) (x_fld (z := 0) (0) 1 Try.underlying62 rfl rfl (by kernel_rfl) (S.p rfl hg)) I
  ·intro a w7 G I S hE
   have TT := Tr.of_ch C.ms G (fun _ h => by simp at h)
   replace T_w := Enc.tr (slE intE) T_w TT
   replace T_K := Blk.tr0 T_K G
   replace C := C.trans TT
   obtain ⟨e7, e10, _⟩ := hE
   replace S := S.ext e7
   replace S := S.ext e10
   refine (Classical.em (¬ (n ≤ 1))).symm.elim (fun hg => ?_) fun hg => ?_
   ·exact qn S 7 rfl (fun h => hg (gf.2 h)) I
   exact qy S 7 rfl (gf.1 hg) (iN ti) (x_load ⟨_, Try.underlying3, rfl⟩ (S.p rfl hg) (T_K.cell (j := 1) rfl)) I
  ·intro a w8 G I S hE
   have TT := Tr.of_ch C.ms G (fun _ h => by simp at h)
   replace T_w := Enc.tr (slE intE) T_w TT
   replace T_K := Blk.tr0 T_K G
   replace C := C.trans TT
   obtain ⟨e7, _⟩ := hE
   replace S := S.ext e7
   refine (Classical.em (¬ (n ≤ 1))).symm.elim (fun hg => ?_) fun hg => ?_
   ·exact qn S 7 rfl (fun h => hg (gf.2 h)) I
   exact qy S 7 rfl (gf.1 hg) (pT T 0) (x_move (S.e rfl)) I
  ·intro a w9 G I S hE
   have TT := Tr.of_ch C.ms G (fun _ h => by simp at h)
   replace T_w := Enc.tr (slE intE) T_w TT
   replace T_K := Blk.tr0 T_K G
   replace C := C.trans TT
   obtain ⟨e7, e12, _⟩ := hE
   replace S := S.ext e7
   replace S := S.ext e12
   refine (Classical.em (¬ (n ≤ 1))).symm.elim (fun hg => ?_) fun hg => ?_
   ·exact qn S 7 rfl (fun h => hg (gf.2 h)) I
   exact qy S 7 rfl (gf.1 hg) (pT T 0) (x_nilck (S.p rfl hg)) I
  ·intro a w10 G I S hE
   have TT := Tr.of_ch C.ms G (fun _ h => by simp at h)
   replace T_w := Enc.tr (slE intE) T_w TT
   replace T_K := Blk.tr0 T_K G
   replace C := C.trans TT
   obtain ⟨e7, e13, _⟩ := hE
   replace S := S.ext e7
   replace S := S.ext e13
   refine (Classical.em (¬ (n ≤ 1))).symm.elim (fun hg => ?_) fun hg => ?_
   ·exact qn S 7 rfl (fun h => hg (gf.2 h)) I
   exact qy S 7 rfl (gf.1 hg) (pT T (0 + 0)) (x_fld (z := 0) (0) 0 Try.underlying62 rfl rfl (by kernel_rfl) (S.p rfl hg)) I
  ·intro a w11 G I S hE
   have TT := Tr.of_ch C.ms G (fun _ h => by simp at h)
   replace T_w := Enc.tr (slE intE) T_w TT
   replace T_K := Blk.tr0 T_K G
   replace C := C.trans TT
   obtain ⟨e7, e14, _⟩ := hE
   replace S := S.ext e7
   replace S := S.ext e14
   refine (Classical.em (¬ (n ≤ 1))).symm.elim (fun hg => ?_) fun hg => ?_
   ·exact qn S 7 rfl (fun h => hg (gf.2 h)) I
   exact qy S 7 rfl (gf.1 hg) (sV T_l) (x_load ⟨_, Try.underlying22, rfl⟩ (S.p rfl hg) (T_K.cell (j := 0) rfl)) I
  ·intro a w12 G I S hE
   have TT := Tr.of_ch C.ms G (fun _ h => by simp at h)
   replace T_w := Enc.tr (slE intE) T_w TT
   replace C := C.trans TT
   obtain ⟨e7, e15, _⟩ := hE
   replace S := S.ext e7
   replace S := S.ext e15
   refine (Classical.em (¬ (n ≤ 1))).symm.elim (fun hg => ?_) fun hg => ?_
   ·exact qn S 7 rfl (fun h => hg (gf.2 h)) I
   exact qy S 7 rfl (gf.1 hg) (iN T_l.xs.length) (x_len Try.underlying22 (S.p rfl hg)) I
  ·intro a w13 G I S hE
   have TT := Tr.of_ch C.ms G (fun _ h => by simp at h)
   replace C := C.trans TT
   obtain ⟨e7, e11, e16, _⟩ := hE
   replace S := S.ext e7
   replace S := S.ext e11
   replace S := S.ext e16
   refine (Classical.em (¬ (n ≤ 1))).symm.elim (fun hg => ?_) fun hg => ?_
   ·exact qn S 7 rfl (fun h => hg (gf.2 h)) I
   exact qy S 7 rfl (gf.1 hg) (bD (((T_l.xs.length : Nat) : Int) ≤ ((ti : Nat) : Int))) (x_geq (S.p rfl hg) (S.p rfl hg)) I
  intro a w14 G I S hE
  have TT := Tr.of_ch C.ms G (fun _ h => by simp at h)
  replace C := C.trans TT
  obtain ⟨e7, e17, _⟩ := hE
  replace S := S.ext e7
  replace S := S.ext e17
  exact qo (bD ((n ≤ 1) ∨ (((T_l.xs.length : Nat) : Int) ≤ ((ti : Nat) : Int)))) (x_or (S.e rfl) (S.e rfl) (S.p rfl)) I
 clear S a; intro a w15 G I S hE; have TT := Tr.of_ch C.ms G (fun _ h => by simp at h)
 replace T_w := Enc.tr (slE intE) T_w TT
 replace T_K := Blk.tr0 T_K G
 replace C := C.trans TT
 clear TT G
 obtain ⟨e18, -⟩ := hE
 replace S := S.ext e18
 clear e18
 obtain ⟨hl1, hu1⟩ : inI64 n := id n_h
 refine qt ?_
 refine cond_dec S rfl ?_ ?_
 ·intro hc0
  refine qs ?_
  refine qa S rfl ?_; clear S a; intro a S
  refine qt ?_
  refine wp_ret ?_
  refine then_r ?_
  refine ret1 rfl S rfl ?_
  refine ⟨0, rfl, ?_, ⟨_, (by omega), T_K⟩, C⟩
  exact ⟨Int.le_refl _, .inr rfl⟩
 intro hc1
 refine wp_skip ?_
 refine then_n ?_
 refine qs ?_
 refine qm S rfl ?_; clear S a; intro a S
 refine qv S (pT T 0) (x_nilck (S.e rfl)) ?_; clear S a; intro a S
 refine qv S (pT T (0 + 1)) (x_fld (z := 0) (0) 1 Try.underlying62 rfl rfl (by kernel_rfl) (S.e rfl)) ?_; clear S a; intro a S
 refine qv S (iN ti) (x_load ⟨_, Try.underlying3, rfl⟩ (S.e rfl) (T_K.cell (j := 1) rfl)) ?_; clear S a; intro a S
 refine qv S (iN (ti + 1)) (x_add (S.e rfl) (S.e rfl) (r := ((ti + 1 : Nat) : Int)) (w_i64 (by omega))) ?_; clear S a; intro a S
 refine qv S (pT T 0) (x_nilck (S.e rfl)) ?_; clear S a; intro a S
 refine qv S (pT T (0 + 1)) (x_fld (z := 0) (0) 1 Try.underlying62 rfl rfl (by kernel_rfl) (S.e rfl)) ?_; clear S a; intro a S
 refine seq_store S rfl rfl [sV T_l, iN (ti + 1)] (x_store (by kernel_rfl) (S.e rfl) (S.e rfl) rfl T_K (o := 0 + 1) (u := iN ti) rfl) T_K rfl ?_
 clear S a; intro a w16 G hz K S; clear hz; have TT := Tr.och C.ms G
 replace T_w := Enc.tr (slE intE) T_w TT
 replace C := C.trans TT
 clear T_K; have T_K := K; clear K TT G
 refine qt ?_
 refine wp_seq ?_
 replace S := S.sub (L' := [(0, pT T 0), (1, iI n), (18, bD ((n ≤ 1) ∨ (((T_l.xs.length : Nat) : Int) ≤ ((ti : Nat) : Int)))), (19, pT T 0), (20, pT T 0), (21, pT T (0 + 1)), (22, iN ti), (23, iN (ti + 1)), (24, pT T 0), (25, pT T (0 + 1))]) ⟨rfl, rfl, rfl, rfl, rfl, rfl, rfl, rfl, rfl, rfl, trivial⟩
 refine wp_heads (M := In []) S 14 [(26, iV (pT T 0)), (27, iV (pT T 0)), (28, iV (pT T (0 + 0))), (29, iV (sV T_l)), (30, iV (pT T 0)), (31, iV (pT T 0)), (32, iV (pT T (0 + 1))), (33, iV (iN (ti + 1))), (34, iV (iI (((ti + 1 : Nat) : Int) - 1))), (35, iV (pT (blk T_l.a) (off T_l.a + ((((ti + 1 : Nat) : Int) - 1)).toNat * 1))), (36, iV (iI (T_l.xs.getD (((((ti + 1 : Nat) : Int) - 1)).toNat) intE.dflt))), (37, iV (iI n)), (38, iV (iI ((T_l.xs.getD (((((ti + 1 : Nat) : Int) - 1)).toNat) intE.dflt) % 18446744073709551616 % n))), (4, iV (iI ((T_l.xs.getD (((((ti + 1 : Nat) : Int) - 1)).toNat) intE.dflt) % 18446744073709551616 % n)))] (fun w => True) [[], [26], [27], [28], [], [30], [31], [32], [33], [29, 34], [35], [], [36, 37], [38]] [4] _ rfl mixed (by kernel_rfl) rfl trivial ?_ ?_
 ·refine ⟨?_, ?_, ?_, ?_, ?_, ?_, ?_, ?_, ?_, ?_, ?_, ?_, ?_, ?_, trivial⟩
  ·intro a w17 G I S hE
   have TT := Tr.of_ch C.ms G (fun _ h => by simp at h)
   replace T_w := Enc.tr (slE intE) T_w TT
   replace T_K := Blk.tr0 T_K G
   replace C := C.trans TT
   exact qo (pT T 0) (x_move (S.e rfl)) I
  ·intro a w18 G I S hE
   have TT := Tr.of_ch C.ms G (fun _ h => by simp at h)
   replace T_w := Enc.tr (slE intE) T_w TT
   replace T_K := Blk.tr0 T_K G
   replace C := C.trans TT
   obtain ⟨e26, _⟩ := hE
   replace S := S.ext e26
   exact qo (pT T 0) (x_nilck (S.e rfl)) I
  ·intro a w19 G I S hE
   have TT := Tr.of_ch C.ms G (fun _ h => by simp at h)
   replace T_w := Enc.tr (slE intE) T_w TT
   replace T_K := Blk.tr0 T_K G
   replace C := C.trans TT
   obtain ⟨e27, _⟩ := hE
   replace S := S.ext e27
   exact qo (pT T (0 + 0)) (x_fld (z := 0) (0) 0 Try.underlying62 rfl rfl (by kernel_rfl) (S.e rfl)) I
  ·intro a w20 G I S hE
   have TT := Tr.of_ch C.ms G (fun _ h => by simp at h)
   replace T_w := Enc.tr (slE intE) T_w TT
   replace T_K := Blk.tr0 T_K G
   replace C := C.trans TT
   obtain ⟨e28, _⟩ := hE
   replace S := S.ext e28
   exact qo (sV T_l) (x_load ⟨_, Try.underlying22, rfl⟩ (S.e rfl) (T_K.cell (j := 0) rfl)) I
  ·intro a w21 G I S hE
   have TT := Tr.of_ch C.ms G (fun _ h => by simp at h)
   replace T_w := Enc.tr (slE intE) T_w TT
   replace T_K := Blk.tr0 T_K G
   replace C := C.trans TT
   exact qo (pT T 0) (x_move (S.e rfl)) I
  ·intro a w22 G I S hE
   have TT := Tr.of_ch C.ms G (fun _ h => by simp at h)
   replace T_w := Enc.tr (slE intE) T_w TT
   replace T_K := Blk.tr0 T_K G
   replace C := C.trans TT
   obtain ⟨e30, _⟩ := hE
   replace S := S.ext e30
   exact qo (pT T 0) (x_nilck (S.e rfl)) I
  ·intro a w23 G I S hE
   have TT := Tr.of_ch C.ms G (fun _ h => by simp at h)
   replace T_w := Enc.tr (slE intE) T_w TT
   replace T_K := Blk.tr0 T_K G
   replace C := C.trans TT
   obtain ⟨e31, _⟩ := hE
   replace S := S.ext e31
   exact qo (pT T (0 + 1)) (x_fld (z := 0) (0) 1 Try.underlying62 rfl rfl (by kernel_rfl) (S.e rfl)) I
  ·intro a w24 G I S hE
   have TT := Tr.of_ch C.ms G (fun _ h => by simp at h)
   replace T_w := Enc.tr (slE intE) T_w TT
   replace T_K := Blk.tr0 T_K G
   replace C := C.trans TT
   obtain ⟨e32, _⟩ := hE
   replace S := S.ext e32
   exact qo (iN (ti + 1)) (x_load ⟨_, Try.underlying3, rfl⟩ (S.e rfl) (T_K.cell (j := 1) rfl)) I
  ·intro a w25 G I S hE
   have TT := Tr.of_ch C.ms G (fun _ h => by simp at h)
   replace C := C.trans TT
   obtain ⟨e33, _⟩ := hE
   replace S := S.ext e33
   exact qo (iI (((ti + 1 : Nat) : Int) - 1)) (x_sub (S.e rfl) (S.e rfl) (r := (((ti + 1 : Nat) : Int) - 1)) (w_i64 (by omega))) I
  ·intro a w26 G I S hE
   have TT := Tr.of_ch C.ms G (fun _ h => by simp at h)
   replace T_w := Enc.tr (slE intE) T_w TT
   replace C := C.trans TT
   obtain ⟨e29, e34, _⟩ := hE
   replace S := S.ext e29
   replace S := S.ext e34
   exact qo (pT (blk T_l.a) (off T_l.a + ((((ti + 1 : Nat) : Int) - 1)).toNat * 1)) (x_idx Try.underlying22 (by kernel_rfl) (S.e rfl) (S.e rfl) ((((ti + 1 : Nat) : Int) - 1)).toNat (by omega) (by omega) ((T_w).1.adr (i := ((((ti + 1 : Nat) : Int) - 1)).toNat) (by omega))) I
  ·intro a w27 G I S hE
   have TT := Tr.of_ch C.ms G (fun _ h => by simp at h)
   replace T_w := Enc.tr (slE intE) T_w TT
   replace C := C.trans TT
   obtain ⟨e35, _⟩ := hE
   replace S := S.ext e35
   obtain ⟨hl2, hu2⟩ : inI64 (T_l.xs.getD (((((ti + 1 : Nat) : Int) - 1)).toNat) intE.dflt) := id ((T_w).1.wf ((((ti + 1 : Nat) : Int) - 1)).toNat (by omega))
   exact qo (iI (T_l.xs.getD (((((ti + 1 : Nat) : Int) - 1)).toNat) intE.dflt)) (x_load ⟨_, Try.underlying3, rfl⟩ (S.e rfl) ((T_w).1.cell ((((ti + 1 : Nat) : Int) - 1)).toNat (by omega) 0 _ rfl)) I
  ·intro a w28 G I S hE
   have TT := Tr.of_ch C.ms G (fun _ h => by simp at h)
   replace C := C.trans TT
   exact qo (iI n) (x_move (S.e rfl)) I
  ·intro a w29 G I S hE
   have TT := Tr.of_ch C.ms G (fun _ h => by simp at h)
   replace T_w := Enc.tr (slE intE) T_w TT
   replace C := C.trans TT
   obtain ⟨e36, e37, _⟩ := hE
   replace S := S.ext e36
   replace S := S.ext e37
   refine head_op rfl rfl (op_call (vs := #[iI (T_l.xs.getD (((((ti + 1 : Nat) : Int) - 1)).toNat) intE.dflt), iI n]) (by simp only [List.map_toArray, List.map_cons, List.map_nil, show a.eval (.tmp 36) = iI (T_l.xs.getD (((((ti + 1 : Nat) : Int) - 1)).toNat) intE.dflt) from (S.e rfl), show a.eval (.tmp 37) = iI n from (S.e rfl)]) callable_32 (gMod _ (Ex F _) (C.old hF)  (MS.nil _) (T_l.xs.getD (((((ti + 1 : Nat) : Int) - 1)).toNat) intE.dflt) ((T_w).1.wf ((((ti + 1 : Nat) : Int) - 1)).toNat (by omega)) n n_h (by omega)) ?_)
   rintro e w2 ⟨rfl, T0⟩; exact ⟨_, rfl, Done.mk' rfl (by decide) (show _ = _ from rfl) T0.ch trivial⟩
  intro a w30 G I S hE
  have TT := Tr.of_ch C.ms G (fun _ h => by simp at h)
  replace C := C.trans TT
  obtain ⟨e38, _⟩ := hE
  replace S := S.ext e38
  exact qo (iI ((T_l.xs.getD (((((ti + 1 : Nat) : Int) - 1)).toNat) intE.dflt) % 18446744073709551616 % n)) (x_assign (S.e rfl)) I
 clear S a; intro a w31 G I S hE; have TT := Tr.of_ch C.ms G (fun _ h => by simp at h)
 replace T_w := Enc.tr (slE intE) T_w TT
 replace T_K := Blk.tr0 T_K G
 replace C := C.trans TT
 clear TT G
 obtain ⟨e4, -⟩ := hE
 replace S := S.ext e4
 clear e4
 obtain ⟨hl3, hu3⟩ : inI64 (T_l.xs.getD (((((ti + 1 : Nat) : Int) - 1)).toNat) intE.dflt) := id ((T_w).1.wf ((((ti + 1 : Nat) : Int) - 1)).toNat (by omega))
 refine qt ?_
 refine wp_ret ?_
 refine ret1 rfl S rfl ?_
 refine ⟨((T_l.xs.getD (((((ti + 1 : Nat) : Int) - 1)).toNat) intE.dflt) % 18446744073709551616 % n), rfl, ?_, ⟨_, (by omega), T_K⟩, C⟩
 have h1 := Int.emod_nonneg (T_l.xs.getD (((ti + 1 : Nat) : Int) - 1).toNat intE.dflt % 18446744073709551616) (b := n) (by omega); have h2 := Int.emod_lt_of_pos (T_l.xs.getD (((ti + 1 : Nat) : Int) - 1).toNat intE.dflt % 18446744073709551616) (b := n) (by omega); exact ⟨h1, .inl h2⟩
set_option maxHeartbeats 2000000 in
set_option maxRecDepth 20000 in
theorem gHuge (w : World) (F : Nat → Prop) (hF : Old F w) (M : MS [] w) (t : Topo) (t_w : topoE.wf (Fr F []) w.heap t) :
 Calls Try.prog 20 #[tV t] w fun e w' => e = .returned (bD (hugeT t)) ∧ Tr [] w [] w' := by
 have C : Tr [] w [] w := Tr.refl M
 have : t.devs.xs.length ≤ 9223372036854775807 := (t_w.1).1.len
 have : t.links.xs.length ≤ 9223372036854775807 := (t_w.2.1).1.len
 have : t.edges.xs.length ≤ 9223372036854775807 := (t_w.2.2.1).1.len
 have : t.pools.xs.length ≤ 9223372036854775807 := (t_w.2.2.2.1).1.len
 obtain ⟨_, _⟩ : inI64 t.tol := t_w.2.2.2.2
 refine enter Try.func20 rfl 25 rfl (Nat.le_of_ble_eq_true rfl) ?_
 intro a S
 refine qs ?_
 refine seq_new S rfl rfl (by decide) (fun b => pT b 0) (cs := (tL t)) (x_box (tL t) (S.e rfl) rfl) ?_
 clear S a; intro a w1 b1 hb1 hbs1 G K1 S; have hbl1 : b1 < w1.heap.size := by omega
 have TT := Tr.fresh C.ms hb1 hbl1 G
 replace t_w := Enc.tr (topoE) t_w TT
 replace C := C.trans TT
 clear TT G
 refine qa S rfl ?_; clear S a; intro a S
 refine qt ?_
 refine qs ?_
 refine qv S (pT b1 (0 + 0)) (x_fld (z := 0) (0) 0 Try.underlying28 rfl rfl (by kernel_rfl) (S.e rfl)) ?_; clear S a; intro a S
 refine qv S (sV t.devs) (x_load ⟨_, Try.underlying23, rfl⟩ (S.e rfl) (K1.cell (j := 0) rfl)) ?_; clear S a; intro a S
 have hn2 : t.devs.xs.length ≤ 9223372036854775807 := (t_w.1).1.len
 refine qv S (iN t.devs.xs.length) (x_len Try.underlying23 (S.e rfl)) ?_; clear S a; intro a S
 refine qv S (bD (6 < ((t.devs.xs.length : Nat) : Int))) (x_gtr (S.e rfl) (S.e rfl)) ?_; clear S a; intro a S
 refine qm S rfl ?_; clear S a; intro a S
 refine qg S 7 rfl (¬ (6 < ((t.devs.xs.length : Nat) : Int))) gf (pT b1 (0 + 1)) (fun hg => (x_fld (z := 0) (0) 1 Try.underlying28 rfl rfl (by kernel_rfl) (S.e rfl))) ?_; clear S a; intro a S
 refine qg S 7 rfl (¬ (6 < ((t.devs.xs.length : Nat) : Int))) gf (sV t.links) (fun hg => (x_load ⟨_, Try.underlying24, rfl⟩ (S.p rfl hg) (K1.cell (j := 1) rfl))) ?_; clear S a; intro a S
 refine qg S 7 rfl (¬ (6 < ((t.devs.xs.length : Nat) : Int))) gf (iN t.links.xs.length) (fun hg => (x_len Try.underlying24 (S.p rfl hg))) ?_; clear S a; intro a S
 refine qg S 7 rfl (¬ (6 < ((t.devs.xs.length : Nat) : Int))) gf (bD (9 < ((t.links.xs.length : Nat) : Int))) (fun hg => (x_gtr (S.p rfl hg) (S.e rfl))) ?_; clear S a; intro a S
 refine qv S (bD ((6 < ((t.devs.xs.length : Nat) : Int)) ∨ (9 < ((t.links.xs.length : Nat) : Int)))) (x_or (S.e rfl) (S.e rfl) (S.p rfl)) ?_; clear S a; intro a S
 refine qm S rfl ?_; clear S a; intro a S
 refine qg S 13 rfl (¬ ((6 < ((t.devs.xs.length : Nat) : Int)) ∨ (9 < ((t.links.xs.length : Nat) : Int)))) gf (pT b1 (0 + 2)) (fun hg => (x_fld (z := 0) (0) 2 Try.underlying28 rfl rfl (by kernel_rfl) (S.e rfl))) ?_; clear S a; intro a S
 refine qg S 13 rfl (¬ ((6 < ((t.devs.xs.length : Nat) : Int)) ∨ (9 < ((t.links.xs.length : Nat) : Int)))) gf (sV t.edges) (fun hg => (x_load ⟨_, Try.underlying25, rfl⟩ (S.p rfl hg) (K1.cell (j := 2) rfl))) ?_; clear S a; intro a S
 refine qg S 13 rfl (¬ ((6 < ((t.devs.xs.length : Nat) : Int)) ∨ (9 < ((t.links.xs.length : Nat) : Int)))) gf (iN t.edges.xs.length) (fun hg => (x_len Try.underlying25 (S.p rfl hg))) ?_; clear S a; intro a S
 refine qg S 13 rfl (¬ ((6 < ((t.devs.xs.length : Nat) : Int)) ∨ (9 < ((t.links.xs.length : Nat) : Int)))) gf (bD (5 < ((t.edges.xs.length : Nat) : Int))) (fun hg => (x_gtr (S.p rfl hg) (S.e rfl))) ?_; clear S a; intro a S
 refine qv S (bD (((6 < ((t.devs.xs.length : Nat) : Int)) ∨ (9 < ((t.links.xs.length : Nat) : Int))) ∨ (5 < ((t.edges.xs.length : Nat) : Int)))) (x_or (S.e rfl) (S.e rfl) (S.p rfl)) ?_; clear S a; intro a S
 refine qm S rfl ?_; clear S a; intro a S
 refine qg S 19 rfl (¬ (((6 < ((t.devs.xs.length : Nat) : Int)) ∨ (9 < ((t.links.xs.length : Nat) : Int))) ∨ (5 < ((t.edges.xs.length : Nat) : Int)))) gf (pT b1 (0 + 3)) (fun hg => (x_fld (z := 0) (0) 3 Try.underlying28 rfl rfl (by kernel_rfl) (S.e rfl))) ?_; clear S a; intro a S
 refine qg S 19 rfl (¬ (((6 < ((t.devs.xs.length : Nat) : Int)) ∨ (9 < ((t.links.xs.length : Nat) : Int))) ∨ (5 < ((t.edges.xs.length : Nat) : Int)))) gf (sV t.pools) (fun hg => (x_load ⟨_, Try.underlying26, rfl⟩ (S.p rfl hg) (K1.cell (j := 3) rfl))) ?_; clear S a; intro a S
 refine qg S 19 rfl (¬ (((6 < ((t.devs.xs.length : Nat) : Int)) ∨ (9 < ((t.links.xs.length : Nat) : Int))) ∨ (5 < ((t.edges.xs.length : Nat) : Int)))) gf (iN t.pools.xs.length) (fun hg => (x_len Try.underlying26 (S.p rfl hg))) ?_; clear S a; intro a S
 refine qg S 19 rfl (¬ (((6 < ((t.devs.xs.length : Nat) : Int)) ∨ (9 < ((t.links.xs.length : Nat) : Int))) ∨ (5 < ((t.edges.xs.length : Nat) : Int)))) gf (bD (4 < ((t.pools.xs.length : Nat) : Int))) (fun hg => (x_gtr (S.p rfl hg) (S.e rfl))) ?_; clear S a; intro a S
 refine qv S (bD ((((6 < ((t.devs.xs.length : Nat) : Int)) ∨ (9 < ((t.links.xs.length : Nat) : Int))) ∨ (5 < ((t.edges.xs.length : Nat) : Int))) ∨ (4 < ((t.pools.xs.length : Nat) : Int)))) (x_or (S.e rfl) (S.e rfl) (S.p rfl)) ?_; clear S a; intro a S
 refine qa S rfl ?_; clear S a; intro a S
 refine qt ?_
 refine wp_ret ?_
 refine ret1 rfl S rfl ?_
 have TD : Tr [one b1] w1 [] w1 := Tr.drop C.ms [] (by decide)
 have GD : Ch (In []) w1 w1 := Ch.refl _
 clear K1
 replace t_w := Enc.tr (topoE) t_w TD
 replace C := C.trans TD
 clear TD GD
 refine ⟨(r1 (vb ?_)), C⟩
 unfold hugeT; omega
set_option maxHeartbeats 2000000 in
set_option maxRecDepth 20000 in
theorem gSubnet (w : World) (F : Nat → Prop) (hF : Old F w) (M : MS [] w) (n : Int) (n_h : inI64 n) (hn : 0 ≤ n ∧ n < 6) :
 Calls Try.prog 46 #[iI n] w fun e w' => ∃ (r : Pfx), e = .returned (.agg #[.int .u32 r.addr, iI r.bits]) ∧ pfxE.wf (Fr F []) w'.heap r ∧ r = subnet n ∧ Tr [] w [] w' := by
 have C : Tr [] w [] w := Tr.refl M
 obtain ⟨n_hl, n_hu⟩ : inI64 n := id n_h
 refine enter Try.func46 rfl 14 rfl (Nat.le_of_ble_eq_true rfl) ?_
 intro a S
 refine qs ?_
 refine seq_new S rfl rfl (by decide) (fun b => pT b 0) (cs := [.int .u32 0, iI 0]) (x_allocz [.int .u32 0, iI 0] infoz_68 rfl) ?_
 clear S a; intro a w1 b1 hb1 hbs1 G K1 S; have hbl1 : b1 < w1.heap.size := by omega
 have TT := Tr.fresh C.ms hb1 hbl1 G
 replace C := C.trans TT
 clear TT G
 refine qt ?_
 refine qs ?_
 refine qv S (.agg #[.int .u32 167772160, iI 24]) (x_build [(0, .int .u32 167772160), (1, iI 24)] [.int .u32 167772160, iI 24] (by simp only [List.map_cons, List.map_nil, show a.eval (.const (.int .u32 167772160)) = .int .u32 167772160 from (S.e rfl), show a.eval (.const (iI 24)) = iI 24 from (S.e rfl)]) (by kernel_rfl)) ?_; clear S a; intro a S
 refine qv S (.agg #[.int .u32 167772416, iI 24]) (x_build [(0, .int .u32 167772416), (1, iI 24)] [.int .u32 167772416, iI 24] (by simp only [List.map_cons, List.map_nil, show a.eval (.const (.int .u32 167772416)) = .int .u32 167772416 from (S.e rfl), show a.eval (.const (iI 24)) = iI 24 from (S.e rfl)]) (by kernel_rfl)) ?_; clear S a; intro a S
 refine qv S (.agg #[.int .u32 167772672, iI 25]) (x_build [(0, .int .u32 167772672), (1, iI 25)] [.int .u32 167772672, iI 25] (by simp only [List.map_cons, List.map_nil, show a.eval (.const (.int .u32 167772672)) = .int .u32 167772672 from (S.e rfl), show a.eval (.const (iI 25)) = iI 25 from (S.e rfl)]) (by kernel_rfl)) ?_; clear S a; intro a S
 refine qv S (.agg #[.int .u32 167772800, iI 26]) (x_build [(0, .int .u32 167772800), (1, iI 26)] [.int .u32 167772800, iI 26] (by simp only [List.map_cons, List.map_nil, show a.eval (.const (.int .u32 167772800)) = .int .u32 167772800 from (S.e rfl), show a.eval (.const (iI 26)) = iI 26 from (S.e rfl)]) (by kernel_rfl)) ?_; clear S a; intro a S
 refine qv S (.agg #[.int .u32 2886729728, iI 16]) (x_build [(0, .int .u32 2886729728), (1, iI 16)] [.int .u32 2886729728, iI 16] (by simp only [List.map_cons, List.map_nil, show a.eval (.const (.int .u32 2886729728)) = .int .u32 2886729728 from (S.e rfl), show a.eval (.const (iI 16)) = iI 16 from (S.e rfl)]) (by kernel_rfl)) ?_; clear S a; intro a S
 refine qv S (.agg #[.int .u32 3232237321, iI 32]) (x_build [(0, .int .u32 3232237321), (1, iI 32)] [.int .u32 3232237321, iI 32] (by simp only [List.map_cons, List.map_nil, show a.eval (.const (.int .u32 3232237321)) = .int .u32 3232237321 from (S.e rfl), show a.eval (.const (iI 32)) = iI 32 from (S.e rfl)]) (by kernel_rfl)) ?_; clear S a; intro a S
 refine seq_new S rfl rfl (by decide) (fun b => .slice (some ⟨b, 0, none⟩) 6 6) (cs := [.int .u32 167772160, iI 24, .int .u32 167772416, iI 24, .int .u32 167772672, iI 25, .int .u32 167772800, iI 26, .int .u32 2886729728, iI 16, .int .u32 3232237321, iI 32]) (x_bsl [(0, .agg #[.int .u32 167772160, iI 24]), (1, .agg #[.int .u32 167772416, iI 24]), (2, .agg #[.int .u32 167772672, iI 25]), (3, .agg #[.int .u32 167772800, iI 26]), (4, .agg #[.int .u32 2886729728, iI 16]), (5, .agg #[.int .u32 3232237321, iI 32])] [.int .u32 167772160, iI 24, .int .u32 167772416, iI 24, .int .u32 167772672, iI 25, .int .u32 167772800, iI 26, .int .u32 2886729728, iI 16, .int .u32 3232237321, iI 32] Try.underlying26 infoz_68 (by decide) (by decide) (by simp only [List.map_cons, List.map_nil, show a.eval (.tmp 3) = .agg #[.int .u32 167772160, iI 24] from (S.e rfl), show a.eval (.tmp 4) = .agg #[.int .u32 167772416, iI 24] from (S.e rfl), show a.eval (.tmp 5) = .agg #[.int .u32 167772672, iI 25] from (S.e rfl), show a.eval (.tmp 6) = .agg #[.int .u32 167772800, iI 26] from (S.e rfl), show a.eval (.tmp 7) = .agg #[.int .u32 2886729728, iI 16] from (S.e rfl), show a.eval (.tmp 8) = .agg #[.int .u32 3232237321, iI 32] from (S.e rfl)]) (by kernel_rfl)) ?_
 clear S a; intro a w2 b2 hb2 hbs2 G K2 S; have hbl2 : b2 < w2.heap.size := by omega
 have we2_0 : pfxE.wf (Fr F [one b1]) w1.heap (⟨167772160, 24⟩ : Pfx) := ⟨(show inU32 167772160 from ⟨by omega, by omega⟩), (show inI64 24 from ⟨by omega, by omega⟩)⟩
 have we2_1 : pfxE.wf (Fr F [one b1]) w1.heap (⟨167772416, 24⟩ : Pfx) := ⟨(show inU32 167772416 from ⟨by omega, by omega⟩), (show inI64 24 from ⟨by omega, by omega⟩)⟩
 have we2_2 : pfxE.wf (Fr F [one b1]) w1.heap (⟨167772672, 25⟩ : Pfx) := ⟨(show inU32 167772672 from ⟨by omega, by omega⟩), (show inI64 25 from ⟨by omega, by omega⟩)⟩
 have we2_3 : pfxE.wf (Fr F [one b1]) w1.heap (⟨167772800, 26⟩ : Pfx) := ⟨(show inU32 167772800 from ⟨by omega, by omega⟩), (show inI64 26 from ⟨by omega, by omega⟩)⟩
 have we2_4 : pfxE.wf (Fr F [one b1]) w1.heap (⟨2886729728, 16⟩ : Pfx) := ⟨(show inU32 2886729728 from ⟨by omega, by omega⟩), (show inI64 16 from ⟨by omega, by omega⟩)⟩
 have we2_5 : pfxE.wf (Fr F [one b1]) w1.heap (⟨3232237321, 32⟩ : Pfx) := ⟨(show inU32 3232237321 from ⟨by omega, by omega⟩), (show inI64 32 from ⟨by omega, by omega⟩)⟩
 have hfr2 := fr_fresh C hF hb2; have TT := Tr.of_ch0 C.ms G
 replace K1 := Blk.tr0 K1 G
 replace C := C.trans TT
 have KS2 : (slE pfxE).wf (Fr F [one b1]) w2.heap ⟨some ⟨b2, 0, none⟩, 6, [(⟨167772160, 24⟩ : Pfx), (⟨167772416, 24⟩ : Pfx), (⟨167772672, 25⟩ : Pfx), (⟨167772800, 26⟩ : Pfx), (⟨2886729728, 16⟩ : Pfx), (⟨3232237321, 32⟩ : Pfx)]⟩ := sl_of_blk K2 [(⟨167772160, 24⟩ : Pfx), (⟨167772416, 24⟩ : Pfx), (⟨167772672, 25⟩ : Pfx), (⟨167772800, 26⟩ : Pfx), (⟨2886729728, 16⟩ : Pfx), (⟨3232237321, 32⟩ : Pfx)] 6 rfl (by decide) (by decide) rfl hfr2 (by intro x hx; simp only [List.mem_cons, List.not_mem_nil, or_false] at hx; rcases hx with rfl | rfl | rfl | rfl | rfl | rfl <;> first | exact Enc.tr (pfxE) we2_0 TT | exact Enc.tr (pfxE) we2_1 TT | exact Enc.tr (pfxE) we2_2 TT | exact Enc.tr (pfxE) we2_3 TT | exact Enc.tr (pfxE) we2_4 TT | exact Enc.tr (pfxE) we2_5 TT)
 clear K2 hfr2 TT G we2_0 we2_1 we2_2 we2_3 we2_4 we2_5
 refine qm S rfl ?_; clear S a; intro a S
 refine seq_call S (by decide) (vs := #[iI n, iI 6]) rfl callable_32 (gMod _ (Ex F _) (C.old hF)  (MS.nil _) n n_h 6 ⟨by omega, by omega⟩ (by omega)) ?_
 rintro e w3 ⟨rfl, T0⟩; refine ⟨_, rfl, ?_⟩; clear S a; intro a S
 have TT := Tr.framed0 C.ms T0; have G := T0.ch
 replace K1 := Blk.tr0 K1 G
 replace KS2 := Enc.tr (slE pfxE) KS2 TT
 replace C := C.trans TT
 clear T0 G TT
 have hm : n % 18446744073709551616 % 6 = n := by omega
 rw [hm] at S; clear hm
 refine qv S (pT (blk (some ⟨b2, 0, none⟩)) (off (some ⟨b2, 0, none⟩) + (n).toNat * 2)) (x_idx Try.underlying26 (by kernel_rfl) (S.e rfl) (S.e rfl) (n).toNat (by omega) (by first | omega | (simp only [List.length_cons, List.length_nil]; omega)) ((show LAt pfxE _ _ (some ⟨b2, 0, none⟩) ([(⟨167772160, 24⟩ : Pfx), (⟨167772416, 24⟩ : Pfx), (⟨167772672, 25⟩ : Pfx), (⟨167772800, 26⟩ : Pfx), (⟨2886729728, 16⟩ : Pfx), (⟨3232237321, 32⟩ : Pfx)]) from (KS2).1).adr (i := (n).toNat) (by first | omega | (simp only [List.length_cons, List.length_nil]; omega)))) ?_; clear S a; intro a S
 obtain ⟨hl4, hu4⟩ : inU32 ((([(⟨167772160, 24⟩ : Pfx), (⟨167772416, 24⟩ : Pfx), (⟨167772672, 25⟩ : Pfx), (⟨167772800, 26⟩ : Pfx), (⟨2886729728, 16⟩ : Pfx), (⟨3232237321, 32⟩ : Pfx)]).getD ((n).toNat) pfxE.dflt).addr) := id (((show LAt pfxE _ _ (some ⟨b2, 0, none⟩) ([(⟨167772160, 24⟩ : Pfx), (⟨167772416, 24⟩ : Pfx), (⟨167772672, 25⟩ : Pfx), (⟨167772800, 26⟩ : Pfx), (⟨2886729728, 16⟩ : Pfx), (⟨3232237321, 32⟩ : Pfx)]) from (KS2).1).wf (n).toNat (by first | omega | (simp only [List.length_cons, List.length_nil]; omega))).1)
 obtain ⟨hl5, hu5⟩ : inI64 ((([(⟨167772160, 24⟩ : Pfx), (⟨167772416, 24⟩ : Pfx), (⟨167772672, 25⟩ : Pfx), (⟨167772800, 26⟩ : Pfx), (⟨2886729728, 16⟩ : Pfx), (⟨3232237321, 32⟩ : Pfx)]).getD ((n).toNat) pfxE.dflt).bits) := id (((show LAt pfxE _ _ (some ⟨b2, 0, none⟩) ([(⟨167772160, 24⟩ : Pfx), (⟨167772416, 24⟩ : Pfx), (⟨167772672, 25⟩ : Pfx), (⟨167772800, 26⟩ : Pfx), (⟨2886729728, 16⟩ : Pfx), (⟨3232237321, 32⟩ : Pfx)]) from (KS2).1).wf (n).toNat (by first | omega | (simp only [List.length_cons, List.length_nil]; omega))).2)
 refine qv S _ (x_loadw [.int .u32 ((([(⟨167772160, 24⟩ : Pfx), (⟨167772416, 24⟩ : Pfx), (⟨167772672, 25⟩ : Pfx), (⟨167772800, 26⟩ : Pfx), (⟨2886729728, 16⟩ : Pfx), (⟨3232237321, 32⟩ : Pfx)]).getD ((n).toNat) pfxE.dflt).addr), iI ((([(⟨167772160, 24⟩ : Pfx), (⟨167772416, 24⟩ : Pfx), (⟨167772672, 25⟩ : Pfx), (⟨167772800, 26⟩ : Pfx), (⟨2886729728, 16⟩ : Pfx), (⟨3232237321, 32⟩ : Pfx)]).getD ((n).toNat) pfxE.dflt).bits)] ⟨_, Try.underlying68, rfl, by kernel_rfl⟩ (S.e rfl) ((show LAt pfxE _ _ (some ⟨b2, 0, none⟩) ([(⟨167772160, 24⟩ : Pfx), (⟨167772416, 24⟩ : Pfx), (⟨167772672, 25⟩ : Pfx), (⟨167772800, 26⟩ : Pfx), (⟨2886729728, 16⟩ : Pfx), (⟨3232237321, 32⟩ : Pfx)]) from (KS2).1).wcell (n).toNat (by first | omega | (simp only [List.length_cons, List.length_nil]; omega)) _ rfl _ rfl)) ?_; clear S a; intro a S
 refine seq_storew S rfl rfl (vs := [.int .u32 ((([(⟨167772160, 24⟩ : Pfx), (⟨167772416, 24⟩ : Pfx), (⟨167772672, 25⟩ : Pfx), (⟨167772800, 26⟩ : Pfx), (⟨2886729728, 16⟩ : Pfx), (⟨3232237321, 32⟩ : Pfx)]).getD ((n).toNat) pfxE.dflt).addr), iI ((([(⟨167772160, 24⟩ : Pfx), (⟨167772416, 24⟩ : Pfx), (⟨167772672, 25⟩ : Pfx), (⟨167772800, 26⟩ : Pfx), (⟨2886729728, 16⟩ : Pfx), (⟨3232237321, 32⟩ : Pfx)]).getD ((n).toNat) pfxE.dflt).bits)]) (x_storew (by kernel_rfl) (S.e rfl) (S.e rfl) rfl K1 rfl) K1 ?_
 clear S a; intro a w4 G hz K S; clear hz; have TT := Tr.och C.ms G
 replace KS2 := Enc.tr (slE pfxE) KS2 TT
 replace C := C.trans TT
 clear K1; have K1 := K; clear K TT G
 refine qt ?_
 refine wp_ret ?_
 refine retcw rfl S rfl [.int .u32 ((([(⟨167772160, 24⟩ : Pfx), (⟨167772416, 24⟩ : Pfx), (⟨167772672, 25⟩ : Pfx), (⟨167772800, 26⟩ : Pfx), (⟨2886729728, 16⟩ : Pfx), (⟨3232237321, 32⟩ : Pfx)]).getD ((n).toNat) pfxE.dflt).addr), iI ((([(⟨167772160, 24⟩ : Pfx), (⟨167772416, 24⟩ : Pfx), (⟨167772672, 25⟩ : Pfx), (⟨167772800, 26⟩ : Pfx), (⟨2886729728, 16⟩ : Pfx), (⟨3232237321, 32⟩ : Pfx)]).getD ((n).toNat) pfxE.dflt).bits)] ⟨_, Try.underlying68, rfl, by kernel_rfl⟩ (fun j v hv => by rw [Nat.zero_add]; exact K1.cell hv) ?_
 have TD : Tr [one b1] w4 [] w4 := Tr.drop C.ms [] (by decide)
 have GD : Ch (In []) w4 w4 := Ch.refl _
 clear K1
 replace KS2 := Enc.tr (slE pfxE) KS2 TD
 replace C := C.trans TD
 clear TD GD
 refine ⟨(([(⟨167772160, 24⟩ : Pfx), (⟨167772416, 24⟩ : Pfx), (⟨167772672, 25⟩ : Pfx), (⟨167772800, 26⟩ : Pfx), (⟨2886729728, 16⟩ : Pfx), (⟨3232237321, 32⟩ : Pfx)]).getD ((n).toNat) pfxE.dflt), rfl, ((show LAt pfxE _ _ (some ⟨b2, 0, none⟩) ([(⟨167772160, 24⟩ : Pfx), (⟨167772416, 24⟩ : Pfx), (⟨167772672, 25⟩ : Pfx), (⟨167772800, 26⟩ : Pfx), (⟨2886729728, 16⟩ : Pfx), (⟨3232237321, 32⟩ : Pfx)]) from (KS2).1).wf (n).toNat (by first | omega | (simp only [List.length_cons, List.length_nil]; omega))), ?_, C⟩
 rfl
set_option maxHeartbeats 2000000 in
set_option maxRecDepth 20000 in
theorem gFailure (w : World) (F : Nat → Prop) (hF : Old F w) (T : Nat) (M : MS [one T] w) (T_l : Sl Int) (T_w : (slE intE).wf (Fr F [one T]) w.heap T_l) (T_K : TpB 62 T T_l w) (t : Topo) (t_w : topoE.wf (Fr F [one T]) w.heap t) (hb : t.devs.xs.length ≤ 13 ∧ t.links.xs.length ≤ 25) :
 Calls Try.prog 25 #[pT T 0, tV t] w fun e w' => ∃ (r : Fail), e = .returned (fV r) ∧ failE.wf (Fr F [one T]) w'.heap r ∧ failR t r ∧ TpB 62 T T_l w' ∧ Tr [one T] w [one T] w' := by
 have C : Tr [one T] w [one T] w := Tr.refl M
 have : t.devs.xs.length ≤ 9223372036854775807 := (t_w.1).1.len
 have : t.links.xs.length ≤ 9223372036854775807 := (t_w.2.1).1.len
 have : t.edges.xs.length ≤ 9223372036854775807 := (t_w.2.2.1).1.len
 have : t.pools.xs.length ≤ 9223372036854775807 := (t_w.2.2.2.1).1.len
 obtain ⟨_, _⟩ : inI64 t.tol := t_w.2.2.2.2
 refine enter Try.func25 rfl 41 rfl (Nat.le_of_ble_eq_true rfl) ?_
 intro a S
 refine qs ?_
 refine seq_new S rfl rfl (by decide) (fun b => pT b 0) (cs := (tL t)) (x_box (tL t) (S.e rfl) rfl) ?_
 clear S a; intro a w1 b1 hb1 hbs1 G K1 S; have hbl1 : b1 < w1.heap.size := by omega
 have TT := Tr.fresh C.ms hb1 hbl1 G
 replace T_w := Enc.tr (slE intE) T_w TT
 replace T_K := TpB.tr0 T_K G
 replace t_w := Enc.tr (topoE) t_w TT
 replace C := C.trans TT
 clear TT G
 refine seq_new S rfl rfl (by decide) (fun b => pT b 0) (cs := [.slice none 0 0, .slice none 0 0]) (x_allocz [.slice none 0 0, .slice none 0 0] infoz_41 rfl) ?_
 clear S a; intro a w2 b2 hb2 hbs2 G K2 S; have hbl2 : b2 < w2.heap.size := by omega
 have TT := Tr.fresh C.ms hb2 hbl2 G
 replace T_w := Enc.tr (slE intE) T_w TT
 replace T_K := TpB.tr0 T_K G
 replace t_w := Enc.tr (topoE) t_w TT
 replace K1 := Blk.tr0 K1 G
 replace C := C.trans TT
 clear TT G
 refine qt ?_
 refine qs ?_
 refine seq_new S rfl rfl (by decide) (fun b => pT b 0) (cs := [.slice none 0 0, .slice none 0 0]) (x_allocz [.slice none 0 0, .slice none 0 0] infoz_41 rfl) ?_
 clear S a; intro a w3 b3 hb3 hbs3 G K3 S; have hbl3 : b3 < w3.heap.size := by omega
 have TT := Tr.fresh C.ms hb3 hbl3 G
 replace T_w := Enc.tr (slE intE) T_w TT
 replace T_K := TpB.tr0 T_K G
 replace t_w := Enc.tr (topoE) t_w TT
 replace K1 := Blk.tr0 K1 G
 replace K2 := Blk.tr0 K2 G
 replace C := C.trans TT
 clear TT G
 refine qt ?_
 refine wp_seq ?_
 refine qs ?_
 refine qa S rfl ?_; clear S a; intro a S
 refine qt ?_
 refine wp_block ?_
 have W4 := Row.nil intE 3 w.heap.size F [abk none, one b3, one b2, one b1, one T] w3
 have TT : Tr [one b3, one b2, one b1, one T] w3 [abk none, one b3, one b2, one b1, one T] w3 := (Tr.refl C.ms).cons (b := abk none) (fun k e => absurd e abk_none); have G : Ch (In []) w3 w3 := Ch.refl _
 replace T_w := Enc.tr (slE intE) T_w TT
 replace T_K := TpB.tr0 T_K G
 replace t_w := Enc.tr (topoE) t_w TT
 replace K1 := Blk.tr0 K1 G
 replace K2 := Blk.tr0 K2 G
 replace K3 := Blk.tr0 K3 G
 replace C := C.trans TT
 clear TT G
 refine wp_loop_ghost (fun m a wr => ∃ k : Nat, ∃ ls_a : Option Addr, ∃ ls_c : Nat, ∃ ls : List Int, Slots 41 [(0, pT T 0), (3, pT b1 0), (4, pT b2 0), (5, pT b3 0), (6, iN k)] a ∧ Tr [abk none, one b3, one b2, one b1, one T] w3 [abk ls_a, one b3, one b2, one b1, one T] wr ∧ (k ≤ t.links.xs.length ∧ upTo k ls) ∧ TpB 62 T T_l wr ∧ Blk wr.heap b1 (tL t) 28 ∧ Blk wr.heap b2 [.slice none 0 0, .slice none 0 0] 41 ∧ Blk wr.heap b3 [.slice ls_a ls.length ls_c, .slice none 0 0] 41 ∧ Row intE 3 w.heap.size F [abk ls_a, one b3, one b2, one b1, one T] wr ls_a ls_c ls ∧ (t.links.xs.length - k) = m) (t.links.xs.length - 0) ?_ ?_
 ·refine ⟨0, none, 0, [], S.sub ⟨rfl, rfl, rfl, rfl, rfl, trivial⟩, Tr.refl C.ms, ?_, T_K, K1, K2, K3, W4, rfl⟩
  exact ⟨Nat.zero_le _, upTo_nil⟩
 rintro m a w4 ⟨k, ls_a, ls_c, ls, S, G, hR, T_K', K1', K2', K3', W4', rfl⟩
 clear T_K; have T_K := T_K'; clear T_K'
 clear K1; have K1 := K1'; clear K1'
 clear K2; have K2 := K2'; clear K2'
 clear K3; have K3 := K3'; clear K3'
 clear W4; have W4 := W4'; clear W4'
 replace T_w := Enc.tr (slE intE) T_w G
 replace t_w := Enc.tr (topoE) t_w G
 replace C := C.trans G
 have GL0 := G; clear G
 have ls_len := W4.len_le; simp only [maxLen] at ls_len
 obtain ⟨hk, hu⟩ := hR
 have hul := upTo_len hu
 refine wp_seq ?_
 refine qs ?_
 refine qm S rfl ?_; clear S a; intro a S
 refine qv S (pT b1 (0 + 1)) (x_fld (z := 0) (0) 1 Try.underlying28 rfl rfl (by kernel_rfl) (S.e rfl)) ?_; clear S a; intro a S
 refine qv S (sV t.links) (x_load ⟨_, Try.underlying24, rfl⟩ (S.e rfl) (K1.cell (j := 1) rfl)) ?_; clear S a; intro a S
 have hn5 : t.links.xs.length ≤ 9223372036854775807 := (t_w.2.1).1.len
 refine qv S (iN t.links.xs.length) (x_len Try.underlying24 (S.e rfl)) ?_; clear S a; intro a S
 refine qv S (bD (((k : Nat) : Int) < ((t.links.xs.length : Nat) : Int))) (x_lss (S.e rfl) (S.e rfl)) ?_; clear S a; intro a S
 refine qt ?_
 refine cond_dec S rfl ?_ ?_
 ·intro hc0
  refine wp_skip ?_
  refine then_n ?_
  refine wp_seq ?_
  refine wp_block ?_
  refine qs ?_
  refine qm S rfl ?_; clear S a; intro a S
  refine seq_call S (by decide) (vs := #[pT T 0, iI 5]) rfl callable_23 (gNext _ (Ex F _) (C.old hF) T (C.ms.picks [4] (by decide)) T_l ((slE intE).dn T_w) T_K 5 ⟨by omega, by omega⟩) ?_
  rintro e w5 ⟨r_6, rfl, hr_6, tT_K, T0⟩; refine ⟨_, rfl, ?_⟩; clear S a; intro a S
  have TT := Tr.fra C.ms T0; have G := T0.ch
  replace T_w := Enc.tr (slE intE) T_w TT
  replace t_w := Enc.tr (topoE) t_w TT
  replace K1 := Blk.tr K1 G (C.ms.sep.out 3 [4] rfl rfl rfl)
  replace K2 := Blk.tr K2 G (C.ms.sep.out 2 [4] rfl rfl rfl)
  replace K3 := Blk.tr K3 G (C.ms.sep.out 1 [4] rfl rfl rfl)
  replace W4 := Row.tr W4 TT G (fun k e => C.ms.sep.out 0 [4] rfl rfl e)
  replace GL0 := GL0.trans TT
  replace C := C.trans TT
  clear T_K; have T_K := tT_K; clear tT_K
  clear T0 G TT
  refine qv S (bD (r_6 = 4)) (x_eql (S.e rfl) (S.e rfl)) ?_; clear S a; intro a S
  refine qt ?_
  refine cond_dec S rfl ?_ ?_
  ·intro hc1
   refine wp_region_lit ?_
   refine qv S (pT b3 (0 + 0)) (x_fld (z := 0) (0) 0 Try.underlying41 rfl rfl (by kernel_rfl) (S.e rfl)) ?_; clear S a; intro a S
   refine qv S (.slice ls_a ls.length ls_c) (x_load ⟨_, Try.underlying22, rfl⟩ (S.e rfl) (K3.cell (j := 0) rfl)) ?_; clear S a; intro a S
   refine qm S rfl ?_; clear S a; intro a S
   refine seq_new S rfl rfl (by decide) (fun b => .slice (some ⟨b, 0, none⟩) 1 1) (cs := [iN k]) (x_bsl [(0, iN k)] [iN k] Try.underlying22 infoz_3 (by decide) (by decide) (by simp only [List.map_cons, List.map_nil, show a.eval (.tmp 20) = iN k from (S.e rfl)]) (by kernel_rfl)) ?_
   clear S a; intro a w6 b7 hb7 hbs7 G K7 S; have hbl7 : b7 < w6.heap.size := by omega
   have we7_0 : intE.wf (Fr F [abk ls_a, one b3, one b2, one b1, one T]) w5.heap ((k : Nat) : Int) := (show inI64 ((k : Nat) : Int) from ⟨by omega, by omega⟩)
   have hfr7 := fr_fresh C hF hb7; have TT := Tr.of_ch0 C.ms G
   replace T_w := Enc.tr (slE intE) T_w TT
   replace t_w := Enc.tr (topoE) t_w TT
   replace T_K := TpB.tr0 T_K G
   replace K1 := Blk.tr0 K1 G
   replace K2 := Blk.tr0 K2 G
   replace K3 := Blk.tr0 K3 G
   replace W4 := Row.tr0 W4 TT G
   replace GL0 := GL0.trans TT
   replace C := C.trans TT
   have KS7 : (slE intE).wf (Fr F [abk ls_a, one b3, one b2, one b1, one T]) w6.heap ⟨some ⟨b7, 0, none⟩, 1, [((k : Nat) : Int)]⟩ := sl_of_blk K7 [((k : Nat) : Int)] 1 rfl (by decide) (by decide) rfl hfr7 (by intro x hx; simp only [List.mem_cons, List.not_mem_nil, or_false] at hx; subst hx; exact Enc.tr (intE) we7_0 TT)
   clear K7 hfr7 TT G we7_0
   refine seq_op rfl (op_append (E := intE) [] [one b3, one b2, one b1, one T] (.tmp 19) (.tmp 21) 22 rfl zero_3 8 Try.underlying22 infoz_3 rfl (by decide) rfl C.ms (S.e rfl) W4 ([((k : Nat) : Int)]) (some ⟨b7, 0, none⟩) 1 (S.e rfl) (show LAt intE _ _ (some ⟨b7, 0, none⟩) ([((k : Nat) : Int)]) from (KS7).1) (KS7).2.2 (LAt.mem (show LAt intE _ _ (some ⟨b7, 0, none⟩) ([((k : Nat) : Int)]) from (KS7).1)) (by unfold maxLen; (try simp only [List.length_cons, List.length_nil, List.length_append, List.length_map]); omega) (by (try simp only [List.length_cons, List.length_nil, List.length_append, List.length_map]); omega) (C.size) ?_)
   intro ad8 cap8 w7 Rn TT G
   have S1 := S.put (d := 22) (v := .slice ad8 (ls ++ [((k : Nat) : Int)]).length cap8) (by decide); clear S; revert S1; generalize Act.put a _ _ = a1; intro S; clear a; rename Act => a
   replace TT : Tr [abk ls_a, one b3, one b2, one b1, one T] w6 [abk ad8, one b3, one b2, one b1, one T] w7 := TT; replace Rn : Row intE 3 w.heap.size F [abk ad8, one b3, one b2, one b1, one T] w7 ad8 cap8 (ls ++ [((k : Nat) : Int)]) := Rn
   replace T_w := Enc.tr (slE intE) T_w TT
   replace t_w := Enc.tr (topoE) t_w TT
   replace T_K := TpB.tr T_K G (C.ms.sep.out 4 [0] rfl rfl rfl)
   replace K1 := Blk.tr K1 G (C.ms.sep.out 3 [0] rfl rfl rfl)
   replace K2 := Blk.tr K2 G (C.ms.sep.out 2 [0] rfl rfl rfl)
   replace K3 := Blk.tr K3 G (C.ms.sep.out 1 [0] rfl rfl rfl)
   replace KS7 := Enc.tr (slE intE) KS7 TT
   replace GL0 := GL0.trans TT
   replace C := C.trans TT
   clear W4; have W4 := Rn; clear Rn TT G
   refine qv S (pT b3 (0 + 0)) (x_fld (z := 0) (0) 0 Try.underlying41 rfl rfl (by kernel_rfl) (S.e rfl)) ?_; clear S a; intro a S
   refine seq_store S rfl rfl [.slice ad8 ((ls ++ [((k : Nat) : Int)]).length) cap8, .slice none 0 0] (x_store (by kernel_rfl) (S.e rfl) (S.e rfl) rfl K3 (o := 0 + 0) (u := .slice ls_a ls.length ls_c) rfl) K3 rfl ?_
   clear S a; intro a w8 G hz K S; clear hz; have TT := Tr.och C.ms G
   replace T_w := Enc.tr (slE intE) T_w TT
   replace t_w := Enc.tr (topoE) t_w TT
   replace T_K := TpB.tr T_K G (C.ms.sep.out 4 [1] rfl rfl rfl)
   replace K1 := Blk.tr K1 G (C.ms.sep.out 3 [1] rfl rfl rfl)
   replace K2 := Blk.tr K2 G (C.ms.sep.out 2 [1] rfl rfl rfl)
   replace W4 := Row.tr W4 TT G (fun k e => C.ms.sep.out 0 [1] rfl rfl e)
   replace KS7 := Enc.tr (slE intE) KS7 TT
   replace GL0 := GL0.trans TT
   replace C := C.trans TT
   clear K3; have K3 := K; clear K TT G
   refine wpList_nil ?_
   refine blk_n ?_
   refine then_n ?_
   refine wp_region_lit ?_
   refine qm S rfl ?_; clear S a; intro a S
   refine qv S (iN (k + 1)) (x_add (S.e rfl) (S.e rfl) (r := ((k + 1 : Nat) : Int)) (w_i64 (by omega))) ?_; clear S a; intro a S
   refine qa S rfl ?_; clear S a; intro a S
   refine qt ?_
   refine ⟨t.links.xs.length - (k + 1), ?_, (k + 1), ad8, cap8, (ls ++ [((k : Nat) : Int)]), S.sub ⟨rfl, rfl, rfl, rfl, rfl, trivial⟩, GL0, ?_, T_K, K1, K2, K3, W4, rfl⟩
   ·omega
   refine ⟨by omega, ?_⟩
   first | exact upTo_snoc hu | exact upTo_up hu
  intro hc2
  refine wp_skip ?_
  refine blk_n ?_
  refine then_n ?_
  refine wp_region_lit ?_
  refine qm S rfl ?_; clear S a; intro a S
  refine qv S (iN (k + 1)) (x_add (S.e rfl) (S.e rfl) (r := ((k + 1 : Nat) : Int)) (w_i64 (by omega))) ?_; clear S a; intro a S
  refine qa S rfl ?_; clear S a; intro a S
  refine qt ?_
  refine ⟨t.links.xs.length - (k + 1), ?_, (k + 1), ls_a, ls_c, ls, S.sub ⟨rfl, rfl, rfl, rfl, rfl, trivial⟩, GL0, ?_, T_K, K1, K2, K3, W4, rfl⟩
  ·omega
  refine ⟨by omega, ?_⟩
  first | exact upTo_snoc hu | exact upTo_up hu
 intro hc3
 refine wp_exit ?_
 refine then_e ?_
 refine then_e ?_
 refine blk_e ?_
 refine then_n ?_
 refine wp_seq ?_
 refine qs ?_
 refine qa S rfl ?_; clear S a; intro a S
 refine qt ?_
 refine wp_block ?_
 have W9 := Row.nil intE 3 w.heap.size F [abk none, abk ls_a, one b3, one b2, one b1, one T] w4
 have TT : Tr [abk ls_a, one b3, one b2, one b1, one T] w4 [abk none, abk ls_a, one b3, one b2, one b1, one T] w4 := (Tr.refl C.ms).cons (b := abk none) (fun k e => absurd e abk_none); have G : Ch (In []) w4 w4 := Ch.refl _
 replace T_w := Enc.tr (slE intE) T_w TT
 replace t_w := Enc.tr (topoE) t_w TT
 replace T_K := TpB.tr0 T_K G
 replace K1 := Blk.tr0 K1 G
 replace K2 := Blk.tr0 K2 G
 replace K3 := Blk.tr0 K3 G
 replace W4 := Row.tr0 W4 TT G
 replace GL0 := GL0.trans TT
 replace C := C.trans TT
 clear TT G
 refine wp_loop_ghost (fun m a wr => ∃ k2 : Nat, ∃ ds_a : Option Addr, ∃ ds_c : Nat, ∃ ds : List Int, Slots 41 [(0, pT T 0), (3, pT b1 0), (4, pT b2 0), (5, pT b3 0), (7, iN k2)] a ∧ Tr [abk none, abk ls_a, one b3, one b2, one b1, one T] w4 [abk ds_a, abk ls_a, one b3, one b2, one b1, one T] wr ∧ (k2 ≤ t.devs.xs.length ∧ upTo k2 ds) ∧ TpB 62 T T_l wr ∧ Blk wr.heap b1 (tL t) 28 ∧ Blk wr.heap b2 [.slice none 0 0, .slice none 0 0] 41 ∧ Blk wr.heap b3 [.slice ls_a ls.length ls_c, .slice ds_a ds.length ds_c] 41 ∧ Row intE 3 w.heap.size F [abk ds_a, abk ls_a, one b3, one b2, one b1, one T] wr ls_a ls_c ls ∧ Row intE 3 w.heap.size F [abk ds_a, abk ls_a, one b3, one b2, one b1, one T] wr ds_a ds_c ds ∧ (t.devs.xs.length - k2) = m) (t.devs.xs.length - 0) ?_ ?_
 ·refine ⟨0, none, 0, [], S.sub ⟨rfl, rfl, rfl, rfl, rfl, trivial⟩, Tr.refl C.ms, ?_, T_K, K1, K2, K3, W4, W9, rfl⟩
  exact ⟨Nat.zero_le _, upTo_nil⟩
 rintro m a w9 ⟨k2, ds_a, ds_c, ds, S, G, hR, T_K', K1', K2', K3', W4', W9', rfl⟩
 clear T_K; have T_K := T_K'; clear T_K'
 clear K1; have K1 := K1'; clear K1'
 clear K2; have K2 := K2'; clear K2'
 clear K3; have K3 := K3'; clear K3'
 clear W4; have W4 := W4'; clear W4'
 clear W9; have W9 := W9'; clear W9'
 replace T_w := Enc.tr (slE intE) T_w G
 replace t_w := Enc.tr (topoE) t_w G
 replace GL0 := GL0.trans G
 replace C := C.trans G
 have GL1 := G; clear G
 have ds_len := W9.len_le; simp only [maxLen] at ds_len
 obtain ⟨hk2, hu2⟩ := hR
 have hul2 := upTo_len hu2
 refine wp_seq ?_
 refine qs ?_
 refine qm S rfl ?_; clear S a; intro a S
 refine qv S (pT b1 (0 + 0)) (x_fld (z := 0) (0) 0 Try.underlying28 rfl rfl (by kernel_rfl) (S.e rfl)) ?_; clear S a; intro a S
 refine qv S (sV t.devs) (x_load ⟨_, Try.underlying23, rfl⟩ (S.e rfl) (K1.cell (j := 0) rfl)) ?_; clear S a; intro a S
 have hn10 : t.devs.xs.length ≤ 9223372036854775807 := (t_w.1).1.len
 refine qv S (iN t.devs.xs.length) (x_len Try.underlying23 (S.e rfl)) ?_; clear S a; intro a S
 refine qv S (bD (((k2 : Nat) : Int) < ((t.devs.xs.length : Nat) : Int))) (x_lss (S.e rfl) (S.e rfl)) ?_; clear S a; intro a S
 refine qt ?_
 refine cond_dec S rfl ?_ ?_
 ·intro hc4
  refine wp_skip ?_
  refine then_n ?_
  refine wp_seq ?_
  refine wp_block ?_
  refine qs ?_
  refine qm S rfl ?_; clear S a; intro a S
  refine seq_call S (by decide) (vs := #[pT T 0, iI 8]) rfl callable_23 (gNext _ (Ex F _) (C.old hF) T (C.ms.picks [5] (by decide)) T_l ((slE intE).dn T_w) T_K 8 ⟨by omega, by omega⟩) ?_
  rintro e w10 ⟨r_11, rfl, hr_11, tT_K, T0⟩; refine ⟨_, rfl, ?_⟩; clear S a; intro a S
  have TT := Tr.fra C.ms T0; have G := T0.ch
  replace T_w := Enc.tr (slE intE) T_w TT
  replace t_w := Enc.tr (topoE) t_w TT
  replace K1 := Blk.tr K1 G (C.ms.sep.out 4 [5] rfl rfl rfl)
  replace K2 := Blk.tr K2 G (C.ms.sep.out 3 [5] rfl rfl rfl)
  replace K3 := Blk.tr K3 G (C.ms.sep.out 2 [5] rfl rfl rfl)
  replace W4 := Row.tr W4 TT G (fun k e => C.ms.sep.out 1 [5] rfl rfl e)
  replace W9 := Row.tr W9 TT G (fun k e => C.ms.sep.out 0 [5] rfl rfl e)
  replace GL0 := GL0.trans TT
  replace GL1 := GL1.trans TT
  replace C := C.trans TT
  clear T_K; have T_K := tT_K; clear tT_K
  clear T0 G TT
  refine qv S (bD (r_11 = 7)) (x_eql (S.e rfl) (S.e rfl)) ?_; clear S a; intro a S
  refine qt ?_
  refine cond_dec S rfl ?_ ?_
  ·intro hc5
   refine wp_region_lit ?_
   refine qv S (pT b3 (0 + 1)) (x_fld (z := 0) (0) 1 Try.underlying41 rfl rfl (by kernel_rfl) (S.e rfl)) ?_; clear S a; intro a S
   refine qv S (.slice ds_a ds.length ds_c) (x_load ⟨_, Try.underlying22, rfl⟩ (S.e rfl) (K3.cell (j := 1) rfl)) ?_; clear S a; intro a S
   refine qm S rfl ?_; clear S a; intro a S
   refine seq_new S rfl rfl (by decide) (fun b => .slice (some ⟨b, 0, none⟩) 1 1) (cs := [iN k2]) (x_bsl [(0, iN k2)] [iN k2] Try.underlying22 infoz_3 (by decide) (by decide) (by simp only [List.map_cons, List.map_nil, show a.eval (.tmp 36) = iN k2 from (S.e rfl)]) (by kernel_rfl)) ?_
   clear S a; intro a w11 b12 hb12 hbs12 G K12 S; have hbl12 : b12 < w11.heap.size := by omega
   have we12_0 : intE.wf (Fr F [abk ds_a, abk ls_a, one b3, one b2, one b1, one T]) w10.heap ((k2 : Nat) : Int) := (show inI64 ((k2 : Nat) : Int) from ⟨by omega, by omega⟩)
   have hfr12 := fr_fresh C hF hb12; have TT := Tr.of_ch0 C.ms G
   replace T_w := Enc.tr (slE intE) T_w TT
   replace t_w := Enc.tr (topoE) t_w TT
   replace T_K := TpB.tr0 T_K G
   replace K1 := Blk.tr0 K1 G
   replace K2 := Blk.tr0 K2 G
   replace K3 := Blk.tr0 K3 G
   replace W4 := Row.tr0 W4 TT G
   replace W9 := Row.tr0 W9 TT G
   replace GL0 := GL0.trans TT
   replace GL1 := GL1.trans TT
   replace C := C.trans TT
   have KS12 : (slE intE).wf (Fr F [abk ds_a, abk ls_a, one b3, one b2, one b1, one T]) w11.heap ⟨some ⟨b12, 0, none⟩, 1, [((k2 : Nat) : Int)]⟩ := sl_of_blk K12 [((k2 : Nat) : Int)] 1 rfl (by decide) (by decide) rfl hfr12 (by intro x hx; simp only [List.mem_cons, List.not_mem_nil, or_false] at hx; subst hx; exact Enc.tr (intE) we12_0 TT)
   clear K12 hfr12 TT G we12_0
   refine seq_op rfl (op_append (E := intE) [] [abk ls_a, one b3, one b2, one b1, one T] (.tmp 35) (.tmp 37) 22 rfl zero_3 8 Try.underlying22 infoz_3 rfl (by decide) rfl C.ms (S.e rfl) W9 ([((k2 : Nat) : Int)]) (some ⟨b12, 0, none⟩) 1 (S.e rfl) (show LAt intE _ _ (some ⟨b12, 0, none⟩) ([((k2 : Nat) : Int)]) from (KS12).1) (KS12).2.2 (LAt.mem (show LAt intE _ _ (some ⟨b12, 0, none⟩) ([((k2 : Nat) : Int)]) from (KS12).1)) (by unfold maxLen; (try simp only [List.length_cons, List.length_nil, List.length_append, List.length_map]); omega) (by (try simp only [List.length_cons, List.length_nil, List.length_append, List.length_map]); omega) (C.size) ?_)
   intro ad13 cap13 w12 Rn TT G
   have S1 := S.put (d := 38) (v := .slice ad13 (ds ++ [((k2 : Nat) : Int)]).length cap13) (by decide); clear S; revert S1; generalize Act.put a _ _ = a1; intro S; clear a; rename Act => a
   replace TT : Tr [abk ds_a, abk ls_a, one b3, one b2, one b1, one T] w11 [abk ad13, abk ls_a, one b3, one b2, one b1, one T] w12 := TT; replace Rn : Row intE 3 w.heap.size F [abk ad13, abk ls_a, one b3, one b2, one b1, one T] w12 ad13 cap13 (ds ++ [((k2 : Nat) : Int)]) := Rn
   replace T_w := Enc.tr (slE intE) T_w TT
   replace t_w := Enc.tr (topoE) t_w TT
   replace T_K := TpB.tr T_K G (C.ms.sep.out 5 [0] rfl rfl rfl)
   replace K1 := Blk.tr K1 G (C.ms.sep.out 4 [0] rfl rfl rfl)
   replace K2 := Blk.tr K2 G (C.ms.sep.out 3 [0] rfl rfl rfl)
   replace K3 := Blk.tr K3 G (C.ms.sep.out 2 [0] rfl rfl rfl)
   replace W4 := Row.tr W4 TT G (fun k e => C.ms.sep.out 1 [0] rfl rfl e)
   replace KS12 := Enc.tr (slE intE) KS12 TT
   replace GL0 := GL0.trans TT
   replace GL1 := GL1.trans TT
   replace C := C.trans TT
   clear W9; have W9 := Rn; clear Rn TT G
   refine qv S (pT b3 (0 + 1)) (x_fld (z := 0) (0) 1 Try.underlying41 rfl rfl (by kernel_rfl) (S.e rfl)) ?_; clear S a; intro a S
   refine seq_store S rfl rfl [.slice ls_a ls.length ls_c, .slice ad13 ((ds ++ [((k2 : Nat) : Int)]).length) cap13] (x_store (by kernel_rfl) (S.e rfl) (S.e rfl) rfl K3 (o := 0 + 1) (u := .slice ds_a ds.length ds_c) rfl) K3 rfl ?_
   clear S a; intro a w13 G hz K S; clear hz; have TT := Tr.och C.ms G
   replace T_w := Enc.tr (slE intE) T_w TT
   replace t_w := Enc.tr (topoE) t_w TT
   replace T_K := TpB.tr T_K G (C.ms.sep.out 5 [2] rfl rfl rfl)
   replace K1 := Blk.tr K1 G (C.ms.sep.out 4 [2] rfl rfl rfl)
   replace K2 := Blk.tr K2 G (C.ms.sep.out 3 [2] rfl rfl rfl)
   replace W4 := Row.tr W4 TT G (fun k e => C.ms.sep.out 1 [2] rfl rfl e)
   replace W9 := Row.tr W9 TT G (fun k e => C.ms.sep.out 0 [2] rfl rfl e)
   replace KS12 := Enc.tr (slE intE) KS12 TT
   replace GL0 := GL0.trans TT
   replace GL1 := GL1.trans TT
   replace C := C.trans TT
   clear K3; have K3 := K; clear K TT G
   refine wpList_nil ?_
   refine blk_n ?_
   refine then_n ?_
   refine wp_region_lit ?_
   refine qm S rfl ?_; clear S a; intro a S
   refine qv S (iN (k2 + 1)) (x_add (S.e rfl) (S.e rfl) (r := ((k2 + 1 : Nat) : Int)) (w_i64 (by omega))) ?_; clear S a; intro a S
   refine qa S rfl ?_; clear S a; intro a S
   refine qt ?_
   refine ⟨t.devs.xs.length - (k2 + 1), ?_, (k2 + 1), ad13, cap13, (ds ++ [((k2 : Nat) : Int)]), S.sub ⟨rfl, rfl, rfl, rfl, rfl, trivial⟩, GL1, ?_, T_K, K1, K2, K3, W4, W9, rfl⟩
   ·omega
   refine ⟨by omega, ?_⟩
   first | exact upTo_snoc hu2 | exact upTo_up hu2
  intro hc6
  refine wp_skip ?_
  refine blk_n ?_
  refine then_n ?_
  refine wp_region_lit ?_
  refine qm S rfl ?_; clear S a; intro a S
  refine qv S (iN (k2 + 1)) (x_add (S.e rfl) (S.e rfl) (r := ((k2 + 1 : Nat) : Int)) (w_i64 (by omega))) ?_; clear S a; intro a S
  refine qa S rfl ?_; clear S a; intro a S
  refine qt ?_
  refine ⟨t.devs.xs.length - (k2 + 1), ?_, (k2 + 1), ds_a, ds_c, ds, S.sub ⟨rfl, rfl, rfl, rfl, rfl, trivial⟩, GL1, ?_, T_K, K1, K2, K3, W4, W9, rfl⟩
  ·omega
  refine ⟨by omega, ?_⟩
  first | exact upTo_snoc hu2 | exact upTo_up hu2
 intro hc7
 refine wp_exit ?_
 refine then_e ?_
 refine then_e ?_
 refine blk_e ?_
 refine then_n ?_
 refine qs ?_
 refine qv S _ (x_loadw [.slice ls_a ls.length ls_c, .slice ds_a ds.length ds_c] ⟨_, Try.underlying41, rfl, by kernel_rfl⟩ (S.e rfl) (K3.mid [] _ [] rfl _ rfl)) ?_; clear S a; intro a S
 refine seq_storew S rfl rfl (vs := [.slice ls_a ls.length ls_c, .slice ds_a ds.length ds_c]) (x_storew (by kernel_rfl) (S.e rfl) (S.e rfl) rfl K2 rfl) K2 ?_
 clear S a; intro a w14 G hz K S; clear hz; have TT := Tr.och C.ms G
 replace T_w := Enc.tr (slE intE) T_w TT
 replace t_w := Enc.tr (topoE) t_w TT
 replace T_K := TpB.tr T_K G (C.ms.sep.out 5 [3] rfl rfl rfl)
 replace K1 := Blk.tr K1 G (C.ms.sep.out 4 [3] rfl rfl rfl)
 replace K3 := Blk.tr K3 G (C.ms.sep.out 2 [3] rfl rfl rfl)
 replace W4 := Row.tr W4 TT G (fun k e => C.ms.sep.out 1 [3] rfl rfl e)
 replace W9 := Row.tr W9 TT G (fun k e => C.ms.sep.out 0 [3] rfl rfl e)
 replace GL0 := GL0.trans TT
 replace GL1 := GL1.trans TT
 replace C := C.trans TT
 clear K2; have K2 := K; clear K TT G
 refine qt ?_
 refine wp_ret ?_
 have FW4 := Row.freeze (pre := [abk ds_a]) (post := [one b3, one b2, one b1, one T]) rfl C.ms W4 (by first | decide | exact Nat.one_pos) (W4.notF hF (Nat.le_refl _))
 have TF := Tr.leave (pre := [abk ds_a]) (o := abk ls_a) (post := [one b3, one b2, one b1, one T]) C.ms
 have GF : Ch (In []) w14 w14 := Ch.refl _
 replace T_w := Enc.tr (slE intE) T_w TF
 replace t_w := Enc.tr (topoE) t_w TF
 replace T_K := TpB.tr0 T_K GF
 replace K1 := Blk.tr0 K1 GF
 replace K2 := Blk.tr0 K2 GF
 replace K3 := Blk.tr0 K3 GF
 replace W9 := Row.tr0 W9 TF GF
 replace GL0 := GL0.trans TF
 replace GL1 := GL1.trans TF
 replace C := C.trans TF
 replace FW4 : (slE intE).wf (Fr F [abk ds_a, one b3, one b2, one b1, one T]) w14.heap ⟨ls_a, ls_c, ls⟩ := FW4; clear W4
 have FW9 := Row.freeze (pre := []) (post := [one b3, one b2, one b1, one T]) rfl C.ms W9 (by first | decide | exact Nat.one_pos) (W9.notF hF (Nat.le_refl _))
 have TF := Tr.leave (pre := []) (o := abk ds_a) (post := [one b3, one b2, one b1, one T]) C.ms
 have GF : Ch (In []) w14 w14 := Ch.refl _
 replace T_w := Enc.tr (slE intE) T_w TF
 replace t_w := Enc.tr (topoE) t_w TF
 replace T_K := TpB.tr0 T_K GF
 replace K1 := Blk.tr0 K1 GF
 replace K2 := Blk.tr0 K2 GF
 replace K3 := Blk.tr0 K3 GF
 replace FW4 := Enc.tr (slE intE) FW4 TF
 replace GL0 := GL0.trans TF
 replace GL1 := GL1.trans TF
 replace C := C.trans TF
 replace FW9 : (slE intE).wf (Fr F [one b3, one b2, one b1, one T]) w14.heap ⟨ds_a, ds_c, ds⟩ := FW9; clear W9
 refine retcw rfl S rfl [.slice ls_a ls.length ls_c, .slice ds_a ds.length ds_c] ⟨_, Try.underlying41, rfl, by kernel_rfl⟩ (fun j v hv => by rw [Nat.zero_add]; exact K2.cell hv) ?_
 have TD : Tr [one b3, one b2, one b1, one T] w14 [one T] w14 := Tr.drop C.ms [3] (by decide)
 have GD : Ch (In []) w14 w14 := Ch.refl _
 clear K1
 clear K2
 clear K3
 replace T_w := Enc.tr (slE intE) T_w TD
 replace t_w := Enc.tr (topoE) t_w TD
 replace T_K := TpB.tr0 T_K GD
 replace FW4 := Enc.tr (slE intE) FW4 TD
 replace FW9 := Enc.tr (slE intE) FW9 TD
 replace GL0 := GL0.trans TD
 replace GL1 := GL1.trans TD
 replace C := C.trans TD
 clear TD GD
 refine ⟨(⟨(Sl.mk ls_a ls_c ls), (Sl.mk ds_a ds_c ds)⟩ : Fail), rfl, ⟨FW4, FW9⟩, ?_, T_K, C⟩
 exact ⟨upTo_rising hu (by omega), upTo_rising hu2 (by omega)⟩
end Go.Proofs.Ytfanmniaolncbaa.V
