/- failure states: valid, alive, usable -/
import Derived.Test.YtfanmniaolncbaaW5
namespace Go.Proofs.Ytfanmniaolncbaa.V
open Go.RowKit Go.Proofs.Ytfanmniaolncbaa
set_option linter.unusedVariables false
set_option linter.unusedSimpArgs false
set_option maxHeartbeats 2000000 in
set_option maxRecDepth 20000 in
theorem fRising (w : World) (F : Nat → Prop) (hF : Old F w) (M : MS [] w) (l : Sl Int) (l_w : (slE intE).wf (Fr F []) w.heap l) (n : Int) (n_h : inI64 n) :
 Calls Try.prog 56 #[sV l, iI n] w fun e w' => e = .returned (bD (rising l.xs n)) ∧ Tr [] w [] w' := by
 have : l.xs.length ≤ 9223372036854775807 := (l_w).1.len
 obtain ⟨n_hl, n_hu⟩ : inI64 n := id n_h
 refine go Try.func56 rfl 35 rfl [wfF (slE intE) l] [] hF M ⟨l_w, trivial⟩ trivial ?_
 intro a S
 refine rs S (la (av rfl)) ?_; clear S; intro a u S
 refine wp_seq ?_
 have hn3 : l.xs.length ≤ 9223372036854775807 := ((S.u 0 rfl)).1.len
 refine rs S (tr (mv rfl)<|tr (leni uT22 rfl)<|la (mv rfl)) ?_; clear S; intro a u S
 refine wp_block ?_
 refine lp1 (fun (k : Nat) => [(0, sV l), (1, iI n), (7, sV l), (8, iN l.xs.length), (9, iN k)]) (fun (k : Nat) => []) (fun (k : Nat) => k ≤ l.xs.length ∧ ∀ j, j < k → rise l.xs n j) (fun (k : Nat) => l.xs.length - k) S 0 (subM rfl) rfl ?_ ?_
 ·exact ⟨Nat.zero_le _, fun j hj => by omega⟩
 clear S; intro k a u S hR
 obtain ⟨hk, hn⟩ := hR
 refine rs S (la (lssi rfl rfl)) ?_; clear S; intro a u S
 refine wp_seq ?_
 refine cd S rfl ?_ ?_
 ·intro hc0
  refine wp_skip (then_n (wp_seq (wp_block ?_)))
  obtain ⟨hl6, hu6⟩ : inI64 (l.xs.getD k intE.dflt) := id (((S.u 0 rfl)).1.wf k (by omega))
  refine rs S (tr (mv rfl)<|tr (idxi uT22 sZ3 rfl rfl k rfl (by omega) (((S.u 0 rfl)).1.adr (i := k) (by omega)))<|tr (ov fun S=>x_load sC3 (S.e rfl) (((S.u 0 rfl)).1.cell k (by omega) 0 _ rfl))<|tr (av rfl)<|la (av rfl)) ?_; clear S; intro a u S
  refine rs S (tr (mv rfl)<|tr (lssi rfl rfl)<|tr (mv rfl)<|tr (og 16 rfl gf fun S hg=>x_move (S.e rfl))<|tr (og 16 rfl gf fun S hg=>x_move (S.e rfl))<|tr (og 16 rfl gf fun S hg=>x_geq (S.p rfl hg) (S.p rfl hg))<|tr (ori rfl rfl rfl)<|tr (mv rfl)<|tr (og 21 rfl gf fun S hg=>x_move (S.e rfl))<|tr (og 21 rfl gf fun S hg=>x_gtr (S.p rfl hg) (S.e rfl))<|tr (og 21 rfl gf fun S hg=>x_move (S.p rfl hg))<|tr (og 24 rfl ggt fun S hg=>x_move (S.e rfl))<|tr (og 24 rfl ggt fun S hg=>x_move (S.e rfl))<|tr (og 24 rfl ggt fun S hg=>x_move (S.e rfl))<|tr (og 24 rfl ggt fun S hg=>x_sub (S.p rfl hg) (S.e rfl) (r := (((k : Nat) : Int) - 1)) (w_i64 (by omega)))<|tr (og 24 rfl ggt fun S hg=>x_idx uT22 sZ3 (S.p rfl hg) (S.p rfl hg) ((((k : Nat) : Int) - 1)).toNat (by omega) (by omega) (((S.u 0 rfl)).1.adr (i := ((((k : Nat) : Int) - 1)).toNat) (by omega)))<|tr (og 24 rfl ggt fun S hg=>x_load sC3 (S.p rfl hg) (((S.u 0 rfl)).1.cell ((((k : Nat) : Int) - 1)).toNat (by omega) 0 _ rfl))<|tr (og 24 rfl ggt fun S hg=>x_leq (S.p rfl hg) (S.p rfl hg))<|tr (og 21 rfl gf fun S hg=>x_and (S.p rfl hg) (fun hl => (S.p rfl (And.intro hg hl))) (S.e rfl))<|la (ori rfl rfl rfl)) ?_; clear S; intro a u S
  refine cd S rfl ?_ ?_
  ·intro hc1
   refine rs S (la (av rfl)) ?_; clear S; intro a u S
   refine wp_ret (blk_r (then_r (then_r (blk_r (then_r ?_)))))
   refine ret1 rfl S.s rfl ?_
   refine ⟨(r1 (vf ?_)), S.m.c⟩
   intro h; have h2 := h k (by omega); unfold rise at h2; have hi0 : intE.dflt = 0 := rfl; have hj0 : ((k : Nat) : Int) - 1 = ((k - 1 : Nat) : Int) ∨ k = 0 := by omega
   rcases hj0 with hj0 | hj0 <;> simp only [hi0, hj0, Int.toNat_natCast] at * <;> omega
  intro hc2
  refine wp_skip (blk_n (then_n ?_))
  refine rg S (tr (addi ((k + 1 : Nat) : Int) rfl rfl (w_i64 (by omega)))<|la (mv rfl)) ?_; clear S; intro a u S
  refine then_n ?_
  refine ⟨k + 1, S.re (subM rfl) rfl rfl, ?_, ?_⟩
  ·refine ⟨by omega, fun j hj => ?_⟩
   rcases Nat.lt_succ_iff_lt_or_eq.1 hj with h | h
   ·exact hn j h
   subst h; unfold rise; have hi0 : intE.dflt = 0 := rfl; have hj0 : ((j : Nat) : Int) - 1 = ((j - 1 : Nat) : Int) ∨ j = 0 := by omega
   rcases hj0 with hj0 | hj0 <;> simp only [hi0, hj0, Int.toNat_natCast] at * <;> omega
  omega
 intro hc3
 refine wp_exit (then_e (then_e (blk_e (then_n ?_))))
 refine rs S (la (av rfl)) ?_; clear S; intro a u S
 refine wp_ret ?_
 refine ret1 rfl S.s rfl ?_
 refine ⟨(r1 (vt ?_)), S.m.c⟩
 exact fun i hi => hn i (by omega)
set_option maxHeartbeats 2000000 in
set_option maxRecDepth 20000 in
theorem rAscending (w : World) (F : Nat → Prop) (hF : Old F w) (M : MS [] w) (l : Sl Int) (l_w : (slE intE).wf (Fr F []) w.heap l) (n : Int) (n_h : inI64 n) :
 Calls Try.prog 95 #[sV l, iI n] w fun e w' => e = .returned (bD (rising l.xs n)) ∧ Tr [] w [] w' := by
 have : l.xs.length ≤ 9223372036854775807 := (l_w).1.len
 obtain ⟨n_hl, n_hu⟩ : inI64 n := id n_h
 refine go Try.func95 rfl 41 rfl [wfF (slE intE) l] [] hF M ⟨l_w, trivial⟩ trivial ?_
 intro a S
 refine rs S (la (av rfl)) ?_; clear S; intro a u S
 refine wp_seq ?_
 refine rs S (la (av rfl)) ?_; clear S; intro a u S
 refine wp_block ?_
 refine lp1 (fun (k : Nat) => [(0, sV l), (1, iI n), (5, iN k)]) (fun (k : Nat) => []) (fun (k : Nat) => k ≤ l.xs.length ∧ ∀ j, j < k → rise l.xs n j) (fun (k : Nat) => l.xs.length - k) S 0 (subM rfl) rfl ?_ ?_
 ·exact ⟨Nat.zero_le _, fun j hj => by omega⟩
 clear S; intro k a u S hR
 obtain ⟨hk, hn⟩ := hR
 refine wp_seq ?_
 have hn4 : l.xs.length ≤ 9223372036854775807 := ((S.u 0 rfl)).1.len
 refine rs S (tr (mv rfl)<|tr (mv rfl)<|tr (leni uT22 rfl)<|la (lssi rfl rfl)) ?_; clear S; intro a u S
 refine cd S rfl ?_ ?_
 ·intro hc0
  refine wp_skip (then_n (wp_seq (wp_block (wp_seq ?_))))
  obtain ⟨hl5, hu5⟩ : inI64 (l.xs.getD k intE.dflt) := id (((S.u 0 rfl)).1.wf k (by omega))
  refine dr (P := Try.prog) S 29 [] ((12, .is _) :: (13, .is _) :: (14, .is _) :: (15, .is _) :: (16, .is _) :: (17, .is _) :: (18, .is _) :: (19, .is _) :: (20, .is _) :: (21, .is _) :: (22, .is _) :: (23, .is _) :: (24, .is _) :: (25, .is _) :: (26, .is _) :: (27, .is _) :: (28, .is _) :: (29, .is _) :: (30, .is _) :: (31, .is _) :: (32, .is _) :: (33, .is _) :: (34, .is _) :: (35, .is _) :: (36, .is _) :: (37, .is _) :: (38, .is _) :: (39, .is _) :: (40, .is _) :: []) ([] :: [] :: [12, 13] :: [14] :: [15] :: [16] :: [17] :: [17] :: [17, 18, 19] :: [17, 20] :: [17] :: [17, 21, 22] :: [17, 23] :: [24] :: [25] :: [25, 26] :: [25, 27] :: [28] :: [28] :: [28, 29, 30] :: [28, 31] :: [28] :: [28] :: [28, 34] :: [28, 33, 35] :: [28, 36] :: [28, 32, 37] :: [25, 28, 38] :: [25, 39] :: []) [40] _ ⟨qd (mv rfl), qd (mv rfl), qd (idxi uT22 sZ3 rfl rfl k rfl (by omega) (((S.u 0 rfl)).1.adr (i := k) (by omega))), qd (ov fun S=>x_load sC3 (S.e rfl) (((S.u 0 rfl)).1.cell k (by omega) 0 _ rfl)), qd (lssi rfl rfl), qd (mv rfl), qd (og 17 rfl gf fun S hg=>x_move (S.e rfl)), qd (og 17 rfl gf fun S hg=>x_move (S.e rfl)), qd (og 17 rfl gf fun S hg=>x_idx uT22 sZ3 (S.p rfl hg) (S.p rfl hg) k rfl (by omega) (((S.u 0 rfl)).1.adr (i := k) (by omega))), qd (og 17 rfl gf fun S hg=>x_load sC3 (S.p rfl hg) (((S.u 0 rfl)).1.cell k (by omega) 0 _ rfl)), qd (og 17 rfl gf fun S hg=>x_move (S.e rfl)), qd (og 17 rfl gf fun S hg=>x_geq (S.p rfl hg) (S.p rfl hg)), qd (ori rfl rfl rfl), qd (mv rfl), qd (og 25 rfl gf fun S hg=>x_move (S.e rfl)), qd (og 25 rfl gf fun S hg=>x_gtr (S.p rfl hg) (S.e rfl)), qd (og 25 rfl gf fun S hg=>x_move (S.p rfl hg)), qd (og 28 rfl ggt fun S hg=>x_move (S.e rfl)), qd (og 28 rfl ggt fun S hg=>x_move (S.e rfl)), qd (og 28 rfl ggt fun S hg=>x_idx uT22 sZ3 (S.p rfl hg) (S.p rfl hg) k rfl (by omega) (((S.u 0 rfl)).1.adr (i := k) (by omega))), qd (og 28 rfl ggt fun S hg=>x_load sC3 (S.p rfl hg) (((S.u 0 rfl)).1.cell k (by omega) 0 _ rfl)), qd (og 28 rfl ggt fun S hg=>x_move (S.e rfl)), qd (og 28 rfl ggt fun S hg=>x_move (S.e rfl)), qd (og 28 rfl ggt fun S hg=>x_sub (S.p rfl hg) (S.e rfl) (r := (((k : Nat) : Int) - 1)) (w_i64 (by omega))), qd (og 28 rfl ggt fun S hg=>x_idx uT22 sZ3 (S.p rfl hg) (S.p rfl hg) ((((k : Nat) : Int) - 1)).toNat (by omega) (by omega) (((S.u 0 rfl)).1.adr (i := ((((k : Nat) : Int) - 1)).toNat) (by omega))), qd (og 28 rfl ggt fun S hg=>x_load sC3 (S.p rfl hg) (((S.u 0 rfl)).1.cell ((((k : Nat) : Int) - 1)).toNat (by omega) 0 _ rfl)), qd (og 28 rfl ggt fun S hg=>x_leq (S.p rfl hg) (S.p rfl hg)), qd (og 25 rfl gf fun S hg=>x_and (S.p rfl hg) (fun hl => (S.p rfl (And.intro hg hl))) (S.e rfl)), qd (ori rfl rfl rfl), trivial⟩ ?_
  clear S; intro a u S G hE
  obtain ⟨hl6, hu6⟩ : inI64 (l.xs.getD k intE.dflt) := id (((S.u 0 rfl)).1.wf k (by omega))
  refine ent ?_
  refine cd S rfl ?_ ?_
  ·intro hc1
   refine rs S (la (av rfl)) ?_; clear S; intro a u S
   refine wp_ret (blk_r (then_r (then_r (blk_r (then_r ?_)))))
   refine ret1 rfl S.s rfl ?_
   refine ⟨(r1 (vf ?_)), S.m.c⟩
   intro h; have h2 := h k (by omega); unfold rise at h2; have hi0 : intE.dflt = 0 := rfl; have hj0 : ((k : Nat) : Int) - 1 = ((k - 1 : Nat) : Int) ∨ k = 0 := by omega
   rcases hj0 with hj0 | hj0 <;> simp only [hi0, hj0, Int.toNat_natCast] at * <;> omega
  intro hc2
  refine wp_skip (blk_n (then_n ?_))
  refine rg S (tr (mv rfl)<|tr (addi ((k + 1 : Nat) : Int) rfl rfl (w_i64 (by omega)))<|la (av rfl)) ?_; clear S; intro a u S
  refine then_n ?_
  refine ⟨k + 1, S.re (subM rfl) rfl rfl, ?_, ?_⟩
  ·refine ⟨by omega, fun j hj => ?_⟩
   rcases Nat.lt_succ_iff_lt_or_eq.1 hj with h | h
   ·exact hn j h
   subst h; unfold rise; have hi0 : intE.dflt = 0 := rfl; have hj0 : ((j : Nat) : Int) - 1 = ((j - 1 : Nat) : Int) ∨ j = 0 := by omega
   rcases hj0 with hj0 | hj0 <;> simp only [hi0, hj0, Int.toNat_natCast] at * <;> omega
  omega
 intro hc3
 refine wp_exit (then_e (then_e (blk_e (then_n ?_))))
 refine rs S (la (av rfl)) ?_; clear S; intro a u S
 refine wp_ret ?_
 refine ret1 rfl S.s rfl ?_
 refine ⟨(r1 (vt ?_)), S.m.c⟩
 exact fun i hi => hn i (by omega)
set_option maxHeartbeats 2000000 in
set_option maxRecDepth 20000 in
theorem rHas (w : World) (F : Nat → Prop) (hF : Old F w) (M : MS [] w) (l : Sl Int) (l_w : (slE intE).wf (Fr F []) w.heap l) (v : Int) (v_h : inI64 v) :
 Calls Try.prog 73 #[sV l, iI v] w fun e w' => e = .returned (bD (v ∈ l.xs)) ∧ Tr [] w [] w' := by
 have : l.xs.length ≤ 9223372036854775807 := (l_w).1.len
 obtain ⟨v_hl, v_hu⟩ : inI64 v := id v_h
 refine go Try.func73 rfl 18 rfl [wfF (slE intE) l] [] hF M ⟨l_w, trivial⟩ trivial ?_
 intro a S
 refine rs S (la (av rfl)) ?_; clear S; intro a u S
 refine wp_seq ?_
 refine rs S (la (av rfl)) ?_; clear S; intro a u S
 refine wp_block ?_
 refine lp1 (fun (k : Nat) => [(0, sV l), (1, iI v), (5, iN k)]) (fun (k : Nat) => []) (fun (k : Nat) => k ≤ l.xs.length ∧ ∀ j, j < k → ¬ l.xs.getD j intE.dflt = v) (fun (k : Nat) => l.xs.length - k) S 0 (subM rfl) rfl ?_ ?_
 ·exact ⟨Nat.zero_le _, fun j hj => by omega⟩
 clear S; intro k a u S hR
 obtain ⟨hk, hn⟩ := hR
 refine wp_seq ?_
 have hn4 : l.xs.length ≤ 9223372036854775807 := ((S.u 0 rfl)).1.len
 refine rs S (tr (mv rfl)<|tr (mv rfl)<|tr (leni uT22 rfl)<|la (lssi rfl rfl)) ?_; clear S; intro a u S
 refine cd S rfl ?_ ?_
 ·intro hc0
  refine wp_skip (then_n (wp_seq (wp_block ?_)))
  obtain ⟨hl6, hu6⟩ : inI64 (l.xs.getD k intE.dflt) := id (((S.u 0 rfl)).1.wf k (by omega))
  refine rs S (tr (mv rfl)<|tr (mv rfl)<|tr (idxi uT22 sZ3 rfl rfl k rfl (by omega) (((S.u 0 rfl)).1.adr (i := k) (by omega)))<|tr (ov fun S=>x_load sC3 (S.e rfl) (((S.u 0 rfl)).1.cell k (by omega) 0 _ rfl))<|tr (mv rfl)<|la (eqli rfl rfl)) ?_; clear S; intro a u S
  refine cd S rfl ?_ ?_
  ·intro hc1
   refine rs S (la (av rfl)) ?_; clear S; intro a u S
   refine wp_ret (blk_r (then_r (then_r (blk_r (then_r ?_)))))
   refine ret1 rfl S.s rfl ?_
   refine ⟨(r1 (vt ?_)), S.m.c⟩
   rw [← hc1]; exact getD_mem (by omega)
  intro hc2
  refine wp_skip (blk_n (then_n ?_))
  refine rg S (tr (mv rfl)<|tr (addi ((k + 1 : Nat) : Int) rfl rfl (w_i64 (by omega)))<|la (av rfl)) ?_; clear S; intro a u S
  refine then_n ?_
  refine ⟨k + 1, S.re (subM rfl) rfl rfl, ?_, ?_⟩
  ·refine ⟨by omega, fun j hj => ?_⟩
   rcases Nat.lt_succ_iff_lt_or_eq.1 hj with h | h
   ·exact hn j h
   subst h; omega
  omega
 intro hc3
 refine wp_exit (then_e (then_e (blk_e (then_n ?_))))
 refine rs S (la (av rfl)) ?_; clear S; intro a u S
 refine wp_ret ?_
 refine ret1 rfl S.s rfl ?_
 refine ⟨(r1 (vf ?_)), S.m.c⟩
 intro h; obtain ⟨j, hj, e⟩ := mem_getD intE.dflt h; exact hn j (by omega) e
set_option maxHeartbeats 2000000 in
set_option maxRecDepth 20000 in
theorem ints (w : World) (F : Nat → Prop) (hF : Old F w) (M : MS [] w) (x : Sl Int) (x_w : (slE intE).wf (Fr F []) w.heap x) (y : Sl Int) (y_w : (slE intE).wf (Fr F []) w.heap y) :
 Calls Try.prog 76 #[sV x, sV y] w fun e w' => e = .returned (bD (x.xs = y.xs)) ∧ Tr [] w [] w' := by
 have : x.xs.length ≤ 9223372036854775807 := (x_w).1.len
 have : y.xs.length ≤ 9223372036854775807 := (y_w).1.len
 refine go Try.func76 rfl 26 rfl [wfF (slE intE) x, wfF (slE intE) y] [] hF M ⟨x_w, y_w, trivial⟩ trivial ?_
 intro a S
 refine rs S (la (av rfl)) ?_; clear S; intro a u S
 refine wp_seq ?_
 have hn3 : x.xs.length ≤ 9223372036854775807 := ((S.u 0 rfl)).1.len
 have hn4 : y.xs.length ≤ 9223372036854775807 := ((S.u 1 rfl)).1.len
 refine rs S (tr (mv rfl)<|tr (leni uT22 rfl)<|tr (mv rfl)<|tr (leni uT22 rfl)<|la (neqi rfl rfl)) ?_; clear S; intro a u S
 refine cd S rfl ?_ ?_
 ·intro hc0
  refine rs S (la (av rfl)) ?_; clear S; intro a u S
  refine wp_ret (then_r ?_)
  refine ret1 rfl S.s rfl ?_
  refine ⟨(r1 (vf ?_)), S.m.c⟩
  intro h; rw [h] at hc0; omega
 intro hc1
 refine wp_skip (then_n (wp_seq ?_))
 refine rs S (la (av rfl)) ?_; clear S; intro a u S
 refine wp_block ?_
 refine lp1 (fun (k : Nat) => [(0, sV x), (1, sV y), (5, iN k)]) (fun (k : Nat) => []) (fun (k : Nat) => k ≤ x.xs.length ∧ ∀ j, j < k → x.xs.getD j intE.dflt = y.xs.getD j intE.dflt) (fun (k : Nat) => x.xs.length - k) S 0 (subM rfl) rfl ?_ ?_
 ·exact ⟨Nat.zero_le _, fun j hj => by omega⟩
 clear S; intro k a u S hR
 obtain ⟨hk, hn⟩ := hR
 refine wp_seq ?_
 refine rs S (tr (mv rfl)<|tr (mv rfl)<|tr (leni uT22 rfl)<|la (lssi rfl rfl)) ?_; clear S; intro a u S
 refine cd S rfl ?_ ?_
 ·intro hc2
  refine wp_skip (then_n (wp_seq (wp_block (wp_seq ?_))))
  obtain ⟨hl8, hu8⟩ : inI64 (x.xs.getD k intE.dflt) := id (((S.u 0 rfl)).1.wf k (by omega))
  obtain ⟨hl9, hu9⟩ : inI64 (y.xs.getD k intE.dflt) := id (((S.u 1 rfl)).1.wf k (by omega))
  refine dr (P := Try.prog) S 9 [] [(17, .is _), (18, .is _), (19, .is _), (20, .is _), (21, .is _), (22, .is _), (23, .is _), (24, .is _), (25, .is _)] [[], [], [17, 18], [19], [], [], [21, 22], [23], [20, 24]] [25] _ ⟨qd (mv rfl), qd (mv rfl), qd (idxi uT22 sZ3 rfl rfl k rfl (by omega) (((S.u 0 rfl)).1.adr (i := k) (by omega))), qd (ov fun S=>x_load sC3 (S.e rfl) (((S.u 0 rfl)).1.cell k (by omega) 0 _ rfl)), qd (mv rfl), qd (mv rfl), qd (idxi uT22 sZ3 rfl rfl k rfl (by omega) (((S.u 1 rfl)).1.adr (i := k) (by omega))), qd (ov fun S=>x_load sC3 (S.e rfl) (((S.u 1 rfl)).1.cell k (by omega) 0 _ rfl)), qd (neqi rfl rfl), trivial⟩ ?_
  clear S; intro a u S G hE
  obtain ⟨hl10, hu10⟩ : inI64 (x.xs.getD k intE.dflt) := id (((S.u 0 rfl)).1.wf k (by omega))
  obtain ⟨hl11, hu11⟩ : inI64 (y.xs.getD k intE.dflt) := id (((S.u 1 rfl)).1.wf k (by omega))
  refine ent ?_
  refine cd S rfl ?_ ?_
  ·intro hc3
   refine rs S (la (av rfl)) ?_; clear S; intro a u S
   refine wp_ret (blk_r (then_r (then_r (blk_r (then_r ?_)))))
   refine ret1 rfl S.s rfl ?_
   refine ⟨(r1 (vf ?_)), S.m.c⟩
   intro h; rw [h] at hc3; omega
  intro hc4
  refine wp_skip (blk_n (then_n ?_))
  refine rg S (tr (mv rfl)<|tr (addi ((k + 1 : Nat) : Int) rfl rfl (w_i64 (by omega)))<|la (av rfl)) ?_; clear S; intro a u S
  refine then_n ?_
  refine ⟨k + 1, S.re (subM rfl) rfl rfl, ?_, ?_⟩
  ·refine ⟨by omega, fun j hj => ?_⟩
   rcases Nat.lt_succ_iff_lt_or_eq.1 hj with h | h
   ·exact hn j h
   subst h; omega
  omega
 intro hc5
 refine wp_exit (then_e (then_e (blk_e (then_n ?_))))
 refine rs S (la (av rfl)) ?_; clear S; intro a u S
 refine wp_ret ?_
 refine ret1 rfl S.s rfl ?_
 refine ⟨(r1 (vt ?_)), S.m.c⟩
 exact list_ext intE.dflt (by omega) fun i hi => hn i (by omega)
set_option maxHeartbeats 2000000 in
set_option maxRecDepth 20000 in
theorem sameIdx (w : World) (F : Nat → Prop) (hF : Old F w) (M : MS [] w) (x : Sl Int) (x_w : (slE intE).wf (Fr F []) w.heap x) (y : Sl Int) (y_w : (slE intE).wf (Fr F []) w.heap y) :
 Calls Try.prog 45 #[sV x, sV y] w fun e w' => e = .returned (bD (x.xs = y.xs)) ∧ Tr [] w [] w' := by
 have : x.xs.length ≤ 9223372036854775807 := (x_w).1.len
 have : y.xs.length ≤ 9223372036854775807 := (y_w).1.len
 refine go Try.func45 rfl 8 rfl [wfF (slE intE) x, wfF (slE intE) y] [] hF M ⟨x_w, y_w, trivial⟩ trivial ?_
 intro a S
 refine rs S (la (av rfl)) ?_; clear S; intro a u S
 refine rs S (tr (mv rfl)<|tr (mv rfl)<|tr (oc (fun S=>ints _ _ S.x (.nil _) x (dn0 (S.u 0 rfl)) y (dn0 (S.u 1 rfl))) cB76)<|la (av rfl)) ?_; clear S; intro a u S
 refine wp_ret ?_
 refine ret1 rfl S.s rfl ?_
 refine ⟨(r1 (vb ?_)), S.m.c⟩
 first | exact Iff.rfl | assumption | omega | simp_all
set_option maxHeartbeats 2000000 in
set_option maxRecDepth 20000 in
theorem fValid (w : World) (F : Nat → Prop) (hF : Old F w) (M : MS [] w) (t : Topo) (t_w : topoE.wf (Fr F []) w.heap t) (f : Fail) (f_w : failE.wf (Fr F []) w.heap f) :
 Calls Try.prog 22 #[.agg (topoE.cells t).toArray, .agg (failE.cells f).toArray] w fun e w' => e = .returned (bD (failV t f)) ∧ Tr [] w [] w' := by
 have : t.devs.xs.length ≤ 9223372036854775807 := (t_w.1).1.len
 have : t.links.xs.length ≤ 9223372036854775807 := (t_w.2.1).1.len
 have : t.edges.xs.length ≤ 9223372036854775807 := (t_w.2.2.1).1.len
 have : t.pools.xs.length ≤ 9223372036854775807 := (t_w.2.2.2.1).1.len
 obtain ⟨_, _⟩ : inI64 t.tol := t_w.2.2.2.2
 have : f.links.xs.length ≤ 9223372036854775807 := (f_w.1).1.len
 have : f.devs.xs.length ≤ 9223372036854775807 := (f_w.2).1.len
 refine go Try.func22 rfl 23 rfl [wfF topoE t, wfF failE f] [] hF M ⟨t_w, f_w, trivial⟩ trivial ?_
 intro a S
 refine rs0 ?_
 refine nbp S (x_box _ (S.e rfl) rfl) ?_; clear S; intro a u b2 S
 refine nbp S (x_box _ (S.e rfl) rfl) ?_; clear S; intro a u b3 S
 refine ens S (la (av rfl)) ?_; clear S; intro a u S
 refine rs S (tr (ldkw 0 rfl rfl wD28)<|tr (oc (fun S=>tValid _ _ S.x (.nil _) t (dn0 (S.u 0 rfl))) cB50)<|tr (mv rfl)<|tr (og 7 rfl gt fun S hg=>xf (0) 0 uT41 (S.e rfl))<|tr (og 7 rfl gt fun S hg=>x_load sC22 (S.p rfl hg) ((S.k 1 rfl).cell (j := 0) rfl))<|tr (og 7 rfl gt fun S hg=>xf (0) 1 uT28 (S.e rfl))<|tr (og 7 rfl gt fun S hg=>x_load sC24 (S.p rfl hg) ((S.k 0 rfl).cell (j := 1) rfl))<|tr (og 7 rfl gt fun S hg=>x_len uT24 (S.p rfl hg))<|tr (ocg 7 rfl gt (fun S hg=>fRising _ _ S.x (.nil _) f.links (dn0 ((S.u 1 rfl).1)) ((t.links.xs.length : Nat) : Int) ⟨by omega, by omega⟩) cB56 fun S=>⟨fun hg=>(S.p rfl hg), fun hg=>(S.p rfl hg), trivial⟩)<|tr (andi rfl rfl rfl)<|tr (mv rfl)<|tr (og 15 rfl gt fun S hg=>xf (0) 1 uT41 (S.e rfl))<|tr (og 15 rfl gt fun S hg=>x_load sC22 (S.p rfl hg) ((S.k 1 rfl).cell (j := 1) rfl))<|tr (og 15 rfl gt fun S hg=>xf (0) 0 uT28 (S.e rfl))<|tr (og 15 rfl gt fun S hg=>x_load sC23 (S.p rfl hg) ((S.k 0 rfl).cell (j := 0) rfl))<|tr (og 15 rfl gt fun S hg=>x_len uT23 (S.p rfl hg))<|tr (ocg 15 rfl gt (fun S hg=>fRising _ _ S.x (.nil _) f.devs (dn0 ((S.u 1 rfl).2)) ((t.devs.xs.length : Nat) : Int) ⟨by omega, by omega⟩) cB56 fun S=>⟨fun hg=>(S.p rfl hg), fun hg=>(S.p rfl hg), trivial⟩)<|tr (andi rfl rfl rfl)<|la (av rfl)) ?_; clear S; intro a u S
 refine wp_ret ?_
 refine ret1 rfl S.s rfl ?_
 replace S := S.pk []
 refine ⟨(r1 (vb ?_)), S.m.c⟩
 first | exact Iff.rfl | assumption | omega | simp_all
set_option maxHeartbeats 2000000 in
set_option maxRecDepth 20000 in
theorem rValidF (w : World) (F : Nat → Prop) (hF : Old F w) (M : MS [] w) (t : Topo) (t_w : topoE.wf (Fr F []) w.heap t) (f : Fail) (f_w : failE.wf (Fr F []) w.heap f) :
 Calls Try.prog 59 #[.agg (topoE.cells t).toArray, .agg (failE.cells f).toArray] w fun e w' => e = .returned (bD (failV t f)) ∧ Tr [] w [] w' := by
 have : t.devs.xs.length ≤ 9223372036854775807 := (t_w.1).1.len
 have : t.links.xs.length ≤ 9223372036854775807 := (t_w.2.1).1.len
 have : t.edges.xs.length ≤ 9223372036854775807 := (t_w.2.2.1).1.len
 have : t.pools.xs.length ≤ 9223372036854775807 := (t_w.2.2.2.1).1.len
 obtain ⟨_, _⟩ : inI64 t.tol := t_w.2.2.2.2
 have : f.links.xs.length ≤ 9223372036854775807 := (f_w.1).1.len
 have : f.devs.xs.length ≤ 9223372036854775807 := (f_w.2).1.len
 refine go Try.func59 rfl 23 rfl [wfF topoE t, wfF failE f] [] hF M ⟨t_w, f_w, trivial⟩ trivial ?_
 intro a S
 refine rs0 ?_
 refine nbp S (x_box _ (S.e rfl) rfl) ?_; clear S; intro a u b2 S
 refine nbp S (x_box _ (S.e rfl) rfl) ?_; clear S; intro a u b3 S
 refine ens S (la (av rfl)) ?_; clear S; intro a u S
 refine rs S (tr (ldkw 0 rfl rfl wD28)<|tr (oc (fun S=>r11Valid _ _ S.x (.nil _) t (dn0 (S.u 0 rfl))) cB53)<|tr (mv rfl)<|tr (og 7 rfl gt fun S hg=>xf (0) 0 uT41 (S.e rfl))<|tr (og 7 rfl gt fun S hg=>x_load sC22 (S.p rfl hg) ((S.k 1 rfl).cell (j := 0) rfl))<|tr (og 7 rfl gt fun S hg=>xf (0) 1 uT28 (S.e rfl))<|tr (og 7 rfl gt fun S hg=>x_load sC24 (S.p rfl hg) ((S.k 0 rfl).cell (j := 1) rfl))<|tr (og 7 rfl gt fun S hg=>x_len uT24 (S.p rfl hg))<|tr (ocg 7 rfl gt (fun S hg=>rAscending _ _ S.x (.nil _) f.links (dn0 ((S.u 1 rfl).1)) ((t.links.xs.length : Nat) : Int) ⟨by omega, by omega⟩) cB95 fun S=>⟨fun hg=>(S.p rfl hg), fun hg=>(S.p rfl hg), trivial⟩)<|tr (andi rfl rfl rfl)<|tr (mv rfl)<|tr (og 15 rfl gt fun S hg=>xf (0) 1 uT41 (S.e rfl))<|tr (og 15 rfl gt fun S hg=>x_load sC22 (S.p rfl hg) ((S.k 1 rfl).cell (j := 1) rfl))<|tr (og 15 rfl gt fun S hg=>xf (0) 0 uT28 (S.e rfl))<|tr (og 15 rfl gt fun S hg=>x_load sC23 (S.p rfl hg) ((S.k 0 rfl).cell (j := 0) rfl))<|tr (og 15 rfl gt fun S hg=>x_len uT23 (S.p rfl hg))<|tr (ocg 15 rfl gt (fun S hg=>rAscending _ _ S.x (.nil _) f.devs (dn0 ((S.u 1 rfl).2)) ((t.devs.xs.length : Nat) : Int) ⟨by omega, by omega⟩) cB95 fun S=>⟨fun hg=>(S.p rfl hg), fun hg=>(S.p rfl hg), trivial⟩)<|tr (andi rfl rfl rfl)<|la (av rfl)) ?_; clear S; intro a u S
 refine wp_ret ?_
 refine ret1 rfl S.s rfl ?_
 replace S := S.pk []
 refine ⟨(r1 (vb ?_)), S.m.c⟩
 first | exact Iff.rfl | assumption | omega | simp_all
set_option maxHeartbeats 2000000 in
set_option maxRecDepth 20000 in
theorem fAlive (w : World) (F : Nat → Prop) (hF : Old F w) (M : MS [] w) (t : Topo) (t_w : topoE.wf (Fr F []) w.heap t) (f : Fail) (f_w : failE.wf (Fr F []) w.heap f) (d : Int) (d_h : inI64 d) :
 Calls Try.prog 34 #[.agg (topoE.cells t).toArray, .agg (failE.cells f).toArray, iI d] w fun e w' => e = .returned (bD (aliveV t f d)) ∧ Tr [] w [] w' := by
 have : t.devs.xs.length ≤ 9223372036854775807 := (t_w.1).1.len
 have : t.links.xs.length ≤ 9223372036854775807 := (t_w.2.1).1.len
 have : t.edges.xs.length ≤ 9223372036854775807 := (t_w.2.2.1).1.len
 have : t.pools.xs.length ≤ 9223372036854775807 := (t_w.2.2.2.1).1.len
 obtain ⟨_, _⟩ : inI64 t.tol := t_w.2.2.2.2
 have : f.links.xs.length ≤ 9223372036854775807 := (f_w.1).1.len
 have : f.devs.xs.length ≤ 9223372036854775807 := (f_w.2).1.len
 obtain ⟨d_hl, d_hu⟩ : inI64 d := id d_h
 refine go Try.func34 rfl 26 rfl [wfF topoE t, wfF failE f] [] hF M ⟨t_w, f_w, trivial⟩ trivial ?_
 intro a S
 refine rs0 ?_
 refine nbp S (x_box _ (S.e rfl) rfl) ?_; clear S; intro a u b3 S
 refine nbp S (x_box _ (S.e rfl) rfl) ?_; clear S; intro a u b4 S
 refine ens S (la (av rfl)) ?_; clear S; intro a u S
 refine rs S (tr (ldkw 0 rfl rfl wD28)<|tr (ldkw 1 rfl rfl wD41)<|tr (oc (fun S=>fValid _ _ S.x (.nil _) t (dn0 (S.u 0 rfl)) f (dn0 (S.u 1 rfl))) cB22)<|tr (mv rfl)<|tr (og 10 rfl gt fun S hg=>x_move (S.e rfl))<|tr (og 10 rfl gt fun S hg=>x_geq (S.p rfl hg) (S.e rfl))<|tr (andi rfl rfl rfl)<|tr (mv rfl)<|tr (og 14 rfl gt fun S hg=>x_move (S.e rfl))<|tr (og 14 rfl gt fun S hg=>xf (0) 0 uT28 (S.e rfl))<|tr (og 14 rfl gt fun S hg=>x_load sC23 (S.p rfl hg) ((S.k 0 rfl).cell (j := 0) rfl))<|tr (og 14 rfl gt fun S hg=>x_len uT23 (S.p rfl hg))<|tr (og 14 rfl gt fun S hg=>x_lss (S.p rfl hg) (S.p rfl hg))<|tr (andi rfl rfl rfl)<|tr (mv rfl)<|tr (og 21 rfl gt fun S hg=>x_ldw (S.e rfl) (S.k 1 rfl).all wD41)<|tr (og 21 rfl gt fun S hg=>x_move (S.e rfl))<|tr (ocg 21 rfl gt (fun S hg=>fAlive0 _ _ S.x (.nil _) f (dn0 (S.u 1 rfl)) d d_h) cB63 fun S=>⟨fun hg=>(S.p rfl hg), fun hg=>(S.p rfl hg), trivial⟩)<|tr (andi rfl rfl rfl)<|la (av rfl)) ?_; clear S; intro a u S
 refine wp_ret ?_
 refine ret1 rfl S.s rfl ?_
 replace S := S.pk []
 refine ⟨(r1 (vb ?_)), S.m.c⟩
 first | exact Iff.rfl | assumption | omega | simp_all
set_option maxHeartbeats 2000000 in
set_option maxRecDepth 20000 in
theorem rAlive (w : World) (F : Nat → Prop) (hF : Old F w) (M : MS [] w) (t : Topo) (t_w : topoE.wf (Fr F []) w.heap t) (f : Fail) (f_w : failE.wf (Fr F []) w.heap f) (d : Int) (d_h : inI64 d) :
 Calls Try.prog 60 #[.agg (topoE.cells t).toArray, .agg (failE.cells f).toArray, iI d] w fun e w' => e = .returned (bD (aliveV t f d)) ∧ Tr [] w [] w' := by
 have : t.devs.xs.length ≤ 9223372036854775807 := (t_w.1).1.len
 have : t.links.xs.length ≤ 9223372036854775807 := (t_w.2.1).1.len
 have : t.edges.xs.length ≤ 9223372036854775807 := (t_w.2.2.1).1.len
 have : t.pools.xs.length ≤ 9223372036854775807 := (t_w.2.2.2.1).1.len
 obtain ⟨_, _⟩ : inI64 t.tol := t_w.2.2.2.2
 have : f.links.xs.length ≤ 9223372036854775807 := (f_w.1).1.len
 have : f.devs.xs.length ≤ 9223372036854775807 := (f_w.2).1.len
 obtain ⟨d_hl, d_hu⟩ : inI64 d := id d_h
 refine go Try.func60 rfl 28 rfl [wfF topoE t, wfF failE f] [] hF M ⟨t_w, f_w, trivial⟩ trivial ?_
 intro a S
 refine rs0 ?_
 refine nbp S (x_box _ (S.e rfl) rfl) ?_; clear S; intro a u b3 S
 refine nbp S (x_box _ (S.e rfl) rfl) ?_; clear S; intro a u b4 S
 refine ens S (la (av rfl)) ?_; clear S; intro a u S
 refine rs S (tr (ldkw 0 rfl rfl wD28)<|tr (ldkw 1 rfl rfl wD41)<|tr (oc (fun S=>rValidF _ _ S.x (.nil _) t (dn0 (S.u 0 rfl)) f (dn0 (S.u 1 rfl))) cB59)<|tr (mv rfl)<|tr (og 10 rfl gt fun S hg=>x_move (S.e rfl))<|tr (og 10 rfl gt fun S hg=>x_geq (S.p rfl hg) (S.e rfl))<|tr (andi rfl rfl rfl)<|tr (mv rfl)<|tr (og 14 rfl gt fun S hg=>x_move (S.e rfl))<|tr (og 14 rfl gt fun S hg=>xf (0) 0 uT28 (S.e rfl))<|tr (og 14 rfl gt fun S hg=>x_load sC23 (S.p rfl hg) ((S.k 0 rfl).cell (j := 0) rfl))<|tr (og 14 rfl gt fun S hg=>x_len uT23 (S.p rfl hg))<|tr (og 14 rfl gt fun S hg=>x_lss (S.p rfl hg) (S.p rfl hg))<|tr (andi rfl rfl rfl)<|tr (mv rfl)<|tr (og 21 rfl gt fun S hg=>xf (0) 1 uT41 (S.e rfl))<|tr (og 21 rfl gt fun S hg=>x_load sC22 (S.p rfl hg) ((S.k 1 rfl).cell (j := 1) rfl))<|tr (og 21 rfl gt fun S hg=>x_move (S.e rfl))<|tr (ocg 21 rfl gt (fun S hg=>rHas _ _ S.x (.nil _) f.devs (dn0 ((S.u 1 rfl).2)) d d_h) cB73 fun S=>⟨fun hg=>(S.p rfl hg), fun hg=>(S.p rfl hg), trivial⟩)<|tr (og 21 rfl gt fun S hg=>x_notp (S.p rfl hg))<|tr (andi rfl rfl rfl)<|la (av rfl)) ?_; clear S; intro a u S
 refine wp_ret ?_
 refine ret1 rfl S.s rfl ?_
 replace S := S.pk []
 refine ⟨(r1 (vb ?_)), S.m.c⟩
 first | exact Iff.rfl | assumption | omega | simp_all
set_option maxHeartbeats 2000000 in
set_option maxRecDepth 20000 in
theorem fUsable0 (w : World) (F : Nat → Prop) (hF : Old F w) (M : MS [] w) (t : Topo) (t_w : topoE.wf (Fr F []) w.heap t) (f : Fail) (f_w : failE.wf (Fr F []) w.heap f) (i : Int) (i_h : inI64 i) (i0 : 0 ≤ i ∧ i < t.links.xs.length) :
 Calls Try.prog 58 #[.agg (topoE.cells t).toArray, .agg (failE.cells f).toArray, iI i] w fun e w' => e = .returned (bD (usableR t f i)) ∧ Tr [] w [] w' := by
 have : t.devs.xs.length ≤ 9223372036854775807 := (t_w.1).1.len
 have : t.links.xs.length ≤ 9223372036854775807 := (t_w.2.1).1.len
 have : t.edges.xs.length ≤ 9223372036854775807 := (t_w.2.2.1).1.len
 have : t.pools.xs.length ≤ 9223372036854775807 := (t_w.2.2.2.1).1.len
 obtain ⟨_, _⟩ : inI64 t.tol := t_w.2.2.2.2
 have : f.links.xs.length ≤ 9223372036854775807 := (f_w.1).1.len
 have : f.devs.xs.length ≤ 9223372036854775807 := (f_w.2).1.len
 obtain ⟨i_hl, i_hu⟩ : inI64 i := id i_h
 refine go Try.func58 rfl 30 rfl [wfF topoE t, wfF failE f] [] hF M ⟨t_w, f_w, trivial⟩ trivial ?_
 intro a S
 refine rs0 ?_
 refine nbp S (x_box _ (S.e rfl) rfl) ?_; clear S; intro a u b3 S
 refine nbp S (x_box _ (S.e rfl) rfl) ?_; clear S; intro a u b4 S
 refine ens S (la (av rfl)) ?_; clear S; intro a u S
 refine rs0 ?_
 obtain ⟨hl3, hu3⟩ : inI64 ((t.links.xs.getD ((i).toNat) lnkE.dflt).a) := id ((((S.u 0 rfl).2.1).1.wf (i).toNat (by omega)).1)
 obtain ⟨hl4, hu4⟩ : inI64 ((t.links.xs.getD ((i).toNat) lnkE.dflt).b) := id ((((S.u 0 rfl).2.1).1.wf (i).toNat (by omega)).2.1)
 obtain ⟨hl5, hu5⟩ : inI64 ((t.links.xs.getD ((i).toNat) lnkE.dflt).cost) := id ((((S.u 0 rfl).2.1).1.wf (i).toNat (by omega)).2.2)
 refine sp S (tr (fldi 0 1 rfl uT28)<|tr (ldk 0 sC24 rfl rfl rfl)<|tr (mv rfl)<|tr (idxi uT24 sZ54 rfl rfl (i).toNat (by omega) (by omega) (((S.u 0 rfl).2.1).1.adr (i := (i).toNat) (by omega)))<|la (ov fun S=>x_ldw (S.e rfl) (((S.u 0 rfl).2.1).1.wcell (i).toNat (by omega) _ rfl _ rfl) wD54)) ?_; clear S; intro a u S
 refine nbp S (x_allocz _ iZ54 rfl) ?_; clear S; intro a u b7 S
 refine ens S (la (stkw 2 rfl rfl rfl)) ?_; clear S; intro a u S
 refine rs S (tr (fldi 0 0 rfl uT41)<|tr (ldk 1 sC22 rfl rfl rfl)<|tr (mv rfl)<|tr (oc (fun S=>sContains _ _ S.x (.nil _) f.links (dn0 ((S.u 1 rfl).1)) i i_h) cB94)<|tr (noti rfl)<|tr (mv rfl)<|tr (og 18 rfl gt fun S hg=>x_ldw (S.e rfl) (S.k 1 rfl).all wD41)<|tr (og 18 rfl gt fun S hg=>xf (0) 0 uT54 (S.e rfl))<|tr (og 18 rfl gt fun S hg=>x_load sC3 (S.p rfl hg) ((S.k 2 rfl).cell (j := 0) rfl))<|tr (ocg 18 rfl gt (fun S hg=>fAlive0 _ _ S.x (.nil _) f (dn0 (S.u 1 rfl)) ((t.links.xs.getD ((i).toNat) lnkE.dflt).a) (((S.u 0 rfl).2.1).1.wf (i).toNat (by omega)).1) cB63 fun S=>⟨fun hg=>(S.p rfl hg), fun hg=>(S.p rfl hg), trivial⟩)<|tr (andi rfl rfl rfl)<|tr (mv rfl)<|tr (og 24 rfl gt fun S hg=>x_ldw (S.e rfl) (S.k 1 rfl).all wD41)<|tr (og 24 rfl gt fun S hg=>xf (0) 1 uT54 (S.e rfl))<|tr (og 24 rfl gt fun S hg=>x_load sC3 (S.p rfl hg) ((S.k 2 rfl).cell (j := 1) rfl))<|tr (ocg 24 rfl gt (fun S hg=>fAlive0 _ _ S.x (.nil _) f (dn0 (S.u 1 rfl)) ((t.links.xs.getD ((i).toNat) lnkE.dflt).b) (((S.u 0 rfl).2.1).1.wf (i).toNat (by omega)).2.1) cB63 fun S=>⟨fun hg=>(S.p rfl hg), fun hg=>(S.p rfl hg), trivial⟩)<|tr (andi rfl rfl rfl)<|la (av rfl)) ?_; clear S; intro a u S
 refine wp_ret ?_
 refine ret1 rfl S.s rfl ?_
 replace S := S.pk []
 refine ⟨(r1 (vb ?_)), S.m.c⟩
 unfold usableR lnk; exact Iff.rfl
set_option maxHeartbeats 2000000 in
set_option maxRecDepth 20000 in
theorem fUsable (w : World) (F : Nat → Prop) (hF : Old F w) (M : MS [] w) (t : Topo) (t_w : topoE.wf (Fr F []) w.heap t) (f : Fail) (f_w : failE.wf (Fr F []) w.heap f) (i : Int) (i_h : inI64 i) :
 Calls Try.prog 28 #[.agg (topoE.cells t).toArray, .agg (failE.cells f).toArray, iI i] w fun e w' => e = .returned (bD (usableV t f i)) ∧ Tr [] w [] w' := by
 have : t.devs.xs.length ≤ 9223372036854775807 := (t_w.1).1.len
 have : t.links.xs.length ≤ 9223372036854775807 := (t_w.2.1).1.len
 have : t.edges.xs.length ≤ 9223372036854775807 := (t_w.2.2.1).1.len
 have : t.pools.xs.length ≤ 9223372036854775807 := (t_w.2.2.2.1).1.len
 obtain ⟨_, _⟩ : inI64 t.tol := t_w.2.2.2.2
 have : f.links.xs.length ≤ 9223372036854775807 := (f_w.1).1.len
 have : f.devs.xs.length ≤ 9223372036854775807 := (f_w.2).1.len
 obtain ⟨i_hl, i_hu⟩ : inI64 i := id i_h
 refine go Try.func28 rfl 27 rfl [wfF topoE t, wfF failE f] [] hF M ⟨t_w, f_w, trivial⟩ trivial ?_
 intro a S
 refine rs0 ?_
 refine nbp S (x_box _ (S.e rfl) rfl) ?_; clear S; intro a u b3 S
 refine nbp S (x_box _ (S.e rfl) rfl) ?_; clear S; intro a u b4 S
 refine ens S (la (av rfl)) ?_; clear S; intro a u S
 refine rs S (tr (ldkw 0 rfl rfl wD28)<|tr (ldkw 1 rfl rfl wD41)<|tr (oc (fun S=>fValid _ _ S.x (.nil _) t (dn0 (S.u 0 rfl)) f (dn0 (S.u 1 rfl))) cB22)<|tr (mv rfl)<|tr (og 10 rfl gt fun S hg=>x_move (S.e rfl))<|tr (og 10 rfl gt fun S hg=>x_geq (S.p rfl hg) (S.e rfl))<|tr (andi rfl rfl rfl)<|tr (mv rfl)<|tr (og 14 rfl gt fun S hg=>x_move (S.e rfl))<|tr (og 14 rfl gt fun S hg=>xf (0) 1 uT28 (S.e rfl))<|tr (og 14 rfl gt fun S hg=>x_load sC24 (S.p rfl hg) ((S.k 0 rfl).cell (j := 1) rfl))<|tr (og 14 rfl gt fun S hg=>x_len uT24 (S.p rfl hg))<|tr (og 14 rfl gt fun S hg=>x_lss (S.p rfl hg) (S.p rfl hg))<|tr (andi rfl rfl rfl)<|tr (mv rfl)<|tr (og 21 rfl gt fun S hg=>x_ldw (S.e rfl) (S.k 0 rfl).all wD28)<|tr (og 21 rfl gt fun S hg=>x_ldw (S.e rfl) (S.k 1 rfl).all wD41)<|tr (og 21 rfl gt fun S hg=>x_move (S.e rfl))<|tr (ocg 21 rfl gt (fun S hg=>fUsable0 _ _ S.x (.nil _) t (dn0 (S.u 0 rfl)) f (dn0 (S.u 1 rfl)) i i_h (⟨by omega, by omega⟩)) cB58 fun S=>⟨fun hg=>(S.p rfl hg), fun hg=>(S.p rfl hg), fun hg=>(S.p rfl hg), trivial⟩)<|tr (andi rfl rfl rfl)<|la (av rfl)) ?_; clear S; intro a u S
 refine wp_ret ?_
 refine ret1 rfl S.s rfl ?_
 replace S := S.pk []
 refine ⟨(r1 (vb ?_)), S.m.c⟩
 first | exact Iff.rfl | assumption | omega | simp_all
set_option maxHeartbeats 2000000 in
set_option maxRecDepth 20000 in
theorem rUsable (w : World) (F : Nat → Prop) (hF : Old F w) (M : MS [] w) (t : Topo) (t_w : topoE.wf (Fr F []) w.heap t) (f : Fail) (f_w : failE.wf (Fr F []) w.heap f) (i : Int) (i_h : inI64 i) :
 Calls Try.prog 40 #[.agg (topoE.cells t).toArray, .agg (failE.cells f).toArray, iI i] w fun e w' => e = .returned (bD (usableV t f i)) ∧ Tr [] w [] w' := by
 have : t.devs.xs.length ≤ 9223372036854775807 := (t_w.1).1.len
 have : t.links.xs.length ≤ 9223372036854775807 := (t_w.2.1).1.len
 have : t.edges.xs.length ≤ 9223372036854775807 := (t_w.2.2.1).1.len
 have : t.pools.xs.length ≤ 9223372036854775807 := (t_w.2.2.2.1).1.len
 obtain ⟨_, _⟩ : inI64 t.tol := t_w.2.2.2.2
 have : f.links.xs.length ≤ 9223372036854775807 := (f_w.1).1.len
 have : f.devs.xs.length ≤ 9223372036854775807 := (f_w.2).1.len
 obtain ⟨i_hl, i_hu⟩ : inI64 i := id i_h
 refine go Try.func40 rfl 50 rfl [wfF topoE t, wfF failE f] [] hF M ⟨t_w, f_w, trivial⟩ trivial ?_
 intro a S
 refine rs0 ?_
 refine nbp S (x_box _ (S.e rfl) rfl) ?_; clear S; intro a u b3 S
 refine nbp S (x_box _ (S.e rfl) rfl) ?_; clear S; intro a u b4 S
 refine ens S (la (av rfl)) ?_; clear S; intro a u S
 refine wp_seq ?_
 replace S := S.l [(2, iI i), (3, pT b3 0), (4, pT b4 0)] (subM rfl)
 refine dr (P := Try.prog) S 44 [] ((7, .is _) :: (8, .is _) :: (9, .is _) :: (10, .is _) :: (11, .is _) :: (12, .is _) :: (13, .is _) :: (14, .is _) :: (15, .is _) :: (16, .is _) :: (17, .is _) :: (18, .is _) :: (19, .is _) :: (20, .is _) :: (21, .is _) :: (22, .is _) :: (23, .is _) :: (24, .is _) :: (25, .is _) :: (26, .is _) :: (27, .is _) :: (28, .is _) :: (29, .is _) :: (30, .is _) :: (31, .is _) :: (32, .is _) :: (33, .is _) :: (34, .is _) :: (35, .is _) :: (36, .is _) :: (37, .is _) :: (38, .is _) :: (39, .is _) :: (40, .is _) :: (41, .is _) :: (42, .is _) :: (43, .is _) :: (44, .is _) :: (45, .is _) :: (46, .is _) :: (47, .is _) :: (48, .is _) :: (49, .is _) :: (6, .is _) :: []) ([] :: [] :: [7, 8] :: [9] :: [10] :: [10, 11] :: [10, 12] :: [13] :: [14] :: [14] :: [14, 16] :: [14, 17] :: [14, 15, 18] :: [14, 19] :: [20] :: [21] :: [21, 22] :: [21] :: [21, 23, 24] :: [21, 25] :: [21, 26] :: [27] :: [28] :: [28] :: [28] :: [28, 31] :: [28] :: [28, 32, 33] :: [28, 34] :: [28, 35] :: [28, 29, 30, 36] :: [28, 37] :: [38] :: [39] :: [39] :: [39] :: [39, 42] :: [39] :: [39, 43, 44] :: [39, 45] :: [39, 46] :: [39, 40, 41, 47] :: [39, 48] :: [49] :: []) [6] _ ⟨qd (ldkw 0 rfl rfl wD28), qd (ldkw 1 rfl rfl wD41), qd (oc (fun S=>rValidF _ _ S.x (.nil _) t (dn0 (S.u 0 rfl)) f (dn0 (S.u 1 rfl))) cB59), qd (mv rfl), qd (og 10 rfl gt fun S hg=>x_move (S.e rfl)), qd (og 10 rfl gt fun S hg=>x_geq (S.p rfl hg) (S.e rfl)), qd (andi rfl rfl rfl), qd (mv rfl), qd (og 14 rfl gt fun S hg=>x_move (S.e rfl)), qd (og 14 rfl gt fun S hg=>xf (0) 1 uT28 (S.e rfl)), qd (og 14 rfl gt fun S hg=>x_load sC24 (S.p rfl hg) ((S.k 0 rfl).cell (j := 1) rfl)), qd (og 14 rfl gt fun S hg=>x_len uT24 (S.p rfl hg)), qd (og 14 rfl gt fun S hg=>x_lss (S.p rfl hg) (S.p rfl hg)), qd (andi rfl rfl rfl), qd (mv rfl), qd (og 21 rfl gt fun S hg=>xf (0) 0 uT41 (S.e rfl)), qd (og 21 rfl gt fun S hg=>x_load sC22 (S.p rfl hg) ((S.k 1 rfl).cell (j := 0) rfl)), qd (og 21 rfl gt fun S hg=>x_move (S.e rfl)), qd (ocg 21 rfl gt (fun S hg=>rHas _ _ S.x (.nil _) f.links (dn0 ((S.u 1 rfl).1)) i i_h) cB73 fun S=>⟨fun hg=>(S.p rfl hg), fun hg=>(S.p rfl hg), trivial⟩), qd (og 21 rfl gt fun S hg=>x_notp (S.p rfl hg)), qd (andi rfl rfl rfl), qd (mv rfl), qd (og 28 rfl gt fun S hg=>x_ldw (S.e rfl) (S.k 0 rfl).all wD28), qd (og 28 rfl gt fun S hg=>x_ldw (S.e rfl) (S.k 1 rfl).all wD41), qd (og 28 rfl gt fun S hg=>xf (0) 1 uT28 (S.e rfl)), qd (og 28 rfl gt fun S hg=>x_load sC24 (S.p rfl hg) ((S.k 0 rfl).cell (j := 1) rfl)), qd (og 28 rfl gt fun S hg=>x_move (S.e rfl)), qd (og 28 rfl gt fun S hg=>x_idx uT24 sZ54 (S.p rfl hg) (S.p rfl hg) (i).toNat (by omega) (by omega) (((S.u 0 rfl).2.1).1.adr (i := (i).toNat) (by omega))), qd (og 28 rfl gt fun S hg=>xf (off t.links.a + (i).toNat * 3) 0 uT54 (S.p rfl hg)), qd (og 28 rfl gt fun S hg=>x_load sC3 (S.p rfl hg) (((S.u 0 rfl).2.1).1.cell (i).toNat (by omega) 0 _ rfl)), qd (ocg 28 rfl gt (fun S hg=>rAlive _ _ S.x (.nil _) t (dn0 (S.u 0 rfl)) f (dn0 (S.u 1 rfl)) ((t.links.xs.getD ((i).toNat) lnkE.dflt).a) (((S.u 0 rfl).2.1).1.wf (i).toNat (by omega)).1) cB60 fun S=>⟨fun hg=>(S.p rfl hg), fun hg=>(S.p rfl hg), fun hg=>(S.p rfl hg), trivial⟩), qd (andi rfl rfl rfl), qd (mv rfl), qd (og 39 rfl gt fun S hg=>x_ldw (S.e rfl) (S.k 0 rfl).all wD28), qd (og 39 rfl gt fun S hg=>x_ldw (S.e rfl) (S.k 1 rfl).all wD41), qd (og 39 rfl gt fun S hg=>xf (0) 1 uT28 (S.e rfl)), qd (og 39 rfl gt fun S hg=>x_load sC24 (S.p rfl hg) ((S.k 0 rfl).cell (j := 1) rfl)), qd (og 39 rfl gt fun S hg=>x_move (S.e rfl)), qd (og 39 rfl gt fun S hg=>x_idx uT24 sZ54 (S.p rfl hg) (S.p rfl hg) (i).toNat (by omega) (by omega) (((S.u 0 rfl).2.1).1.adr (i := (i).toNat) (by omega))), qd (og 39 rfl gt fun S hg=>xf (off t.links.a + (i).toNat * 3) 1 uT54 (S.p rfl hg)), qd (og 39 rfl gt fun S hg=>x_load sC3 (S.p rfl hg) (((S.u 0 rfl).2.1).1.cell (i).toNat (by omega) 1 _ rfl)), qd (ocg 39 rfl gt (fun S hg=>rAlive _ _ S.x (.nil _) t (dn0 (S.u 0 rfl)) f (dn0 (S.u 1 rfl)) ((t.links.xs.getD ((i).toNat) lnkE.dflt).b) (((S.u 0 rfl).2.1).1.wf (i).toNat (by omega)).2.1) cB60 fun S=>⟨fun hg=>(S.p rfl hg), fun hg=>(S.p rfl hg), fun hg=>(S.p rfl hg), trivial⟩), qd (andi rfl rfl rfl), qd (av rfl), trivial⟩ ?_
 clear S; intro a u S G hE
 refine ent (wp_ret ?_)
 refine ret1 rfl S.s rfl ?_
 replace S := S.pk []
 refine ⟨(r1 (vb ?_)), S.m.c⟩
 exact (usable_ref t f i).symm
end Go.Proofs.Ytfanmniaolncbaa.V
