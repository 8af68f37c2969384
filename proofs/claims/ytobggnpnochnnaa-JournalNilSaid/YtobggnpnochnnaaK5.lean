/- commands; equal states -/
import Derived.Test.YtobggnpnochnnaaK4
import Derived.Test.YtobggnpnochnnaaCmdM
namespace Go.Proofs.Ytobggnpnochnnaa.V
open Go.RowKit Go.Proofs.Ytobggnpnochnnaa
set_option linter.unusedVariables false
set_option linter.unusedSimpArgs false
set_option maxHeartbeats 2000000 in
set_option maxRecDepth 20000 in
theorem rInts (w : World) (F : Nat → Prop) (hF : Old F w) (M : MS [] w) (x : Sl Int) (x_w : (slE intE).wf (Fr F []) w.heap x) (y : Sl Int) (y_w : (slE intE).wf (Fr F []) w.heap y) :
 Calls Try.prog 76 #[sV x, sV y] w fun e w' => e = .returned (bD (x.xs = y.xs)) ∧ Tr [] w [] w' := by
 have : x.xs.length ≤ 9223372036854775807 := (x_w).1.len
 have : y.xs.length ≤ 9223372036854775807 := (y_w).1.len
 refine go Try.func76 rfl 26 rfl [wfF (slE intE) x, wfF (slE intE) y] [] hF M ⟨x_w, y_w, trivial⟩ trivial ?_
 intro a S
 have hD : ∀ k, In ([] : List BS) k → ¬ F k := fun _ h => h.elim
 refine rs S (la (av rfl)) ?_; clear S; intro a u S
 refine wp_seq ?_
 have hn3 : x.xs.length ≤ 9223372036854775807 := ((S.u 0 rfl)).1.len
 have hn4 : y.xs.length ≤ 9223372036854775807 := ((S.u 1 rfl)).1.len
 refine rs S (tr (mv rfl)<|tr (leni uT22 rfl)<|tr (mv rfl)<|tr (leni uT22 rfl)<|la (neqi rfl rfl)) ?_; clear S; intro a u S
 refine cd S rfl ?_ ?_
 ·intro hc0
  refine rs S (la (av rfl)) ?_; clear S; intro a u S
  refine wp_ret (then_r ?_)
  refine ret1 rfl S.s rfl ?_
  refine ⟨(r1 (vf ?_)), S.m.c⟩
  exact fun h => by rw [h] at hc0; exact hc0 rfl
 intro hc1
 refine wp_skip (then_n (wp_seq ?_))
 refine rs S (la (av rfl)) ?_; clear S; intro a u S
 refine wp_block ?_
 refine lp1 (fun (k : Nat) => [(0, sV x), (1, sV y), (5, iN k)]) (fun (k : Nat) => []) (fun (k : Nat) => k ≤ x.xs.length ∧ ∀ j, j < k → x.xs.getD j intE.dflt = y.xs.getD j intE.dflt) (fun (k : Nat) => x.xs.length - k) S 0 (subM rfl) rfl ?_ ?_
 ·exact ⟨Nat.zero_le _, fun j hj => by omega⟩
 clear S; intro k a u S hR
 obtain ⟨hk, hn⟩ := hR
 have hle : x.xs.length = y.xs.length := by omega
 refine wp_seq ?_
 refine rs S (tr (mv rfl)<|tr (mv rfl)<|tr (leni uT22 rfl)<|la (lssi rfl rfl)) ?_; clear S; intro a u S
 refine cd S rfl ?_ ?_
 ·intro hc2
  refine wp_skip (then_n (wp_seq (wp_block (wp_seq ?_))))
  obtain ⟨hl8, hu8⟩ : inI64 (x.xs.getD k intE.dflt) := id (((S.u 0 rfl)).1.wf k (by omega))
  obtain ⟨hl9, hu9⟩ : inI64 (y.xs.getD k intE.dflt) := id (((S.u 1 rfl)).1.wf k (by omega))
  refine dr (P := Try.prog) S 9 [] [(17, .is _), (18, .is _), (19, .is _), (20, .is _), (21, .is _), (22, .is _), (23, .is _), (24, .is _), (25, .is _)] [[], [], [17, 18], [19], [], [], [21, 22], [23], [20, 24]] [25] _ ⟨qd (mv rfl), qd (mv rfl), qd (idxi uT22 sZ3 rfl rfl k rfl (by omega) (((S.u 0 rfl)).1.adr (i := k) (by omega))), qd (ov fun S=>x_load sC3 (S.e rfl) (((S.u 0 rfl)).1.cell k (by omega) 0 _ rfl)), qd (mv rfl), qd (mv rfl), qd (idxi uT22 sZ3 rfl rfl k rfl (by omega) (((S.u 1 rfl)).1.adr (i := k) (by omega))), qd (ov fun S=>x_load sC3 (S.e rfl) (((S.u 1 rfl)).1.cell k (by omega) 0 _ rfl)), qd (neqi rfl rfl), trivial⟩ ?_
  clear S; intro a u S G hE
  obtain ⟨hl10, hu10⟩ : inI64 (x.xs.getD k intE.dflt) := id (((S.u 0 rfl)).1.wf k (by omega))
  obtain ⟨hl11, hu11⟩ : inI64 (y.xs.getD k intE.dflt) := id (((S.u 1 rfl)).1.wf k (by omega))
  refine ent ?_
  refine cd S rfl ?_ ?_
  ·intro hc3
   refine rs S (la (av rfl)) ?_; clear S; intro a u S
   refine wp_ret (blk_r (then_r (then_r (blk_r (then_r ?_)))))
   refine ret1 rfl S.s rfl ?_
   refine ⟨(r1 (vf ?_)), S.m.c⟩
   exact fun h => by rw [h] at hc3; first | exact hc3 rfl | exact hc3 ⟨rfl, rfl, rfl, rfl⟩
  intro hc4
  refine wp_skip (blk_n (then_n ?_))
  refine rg S (tr (mv rfl)<|tr (addi ((k + 1 : Nat) : Int) rfl rfl (w_i64 (by omega)))<|la (av rfl)) ?_; clear S; intro a u S
  refine then_n ?_
  refine ⟨(k + 1), S.re (subM rfl) rfl rfl, ?_, ?_⟩
  ·refine ⟨by omega, fun j hj => ?_⟩
   rcases Nat.lt_succ_iff_lt_or_eq.1 hj with h | h
   ·exact hn j h
   subst h; omega
  omega
 intro hc5
 refine wp_exit (then_e (then_e (blk_e (then_n ?_))))
 refine rs S (la (av rfl)) ?_; clear S; intro a u S
 refine wp_ret ?_
 refine ret1 rfl S.s rfl ?_
 refine ⟨(r1 (vt ?_)), S.m.c⟩
 exact eq_of_all intE.dflt (by omega) fun i hi => hn i (by omega)
set_option maxHeartbeats 2000000 in
set_option maxRecDepth 20000 in
theorem rSameL (w : World) (F : Nat → Prop) (hF : Old F w) (M : MS [] w) (x : Sl Rec) (x_w : (slE recE).wf (Fr F []) w.heap x) (y : Sl Rec) (y_w : (slE recE).wf (Fr F []) w.heap y) :
 Calls Try.prog 28 #[sV x, sV y] w fun e w' => e = .returned (bD (x.xs = y.xs)) ∧ Tr [] w [] w' := by
 have : x.xs.length ≤ 9223372036854775807 := (x_w).1.len
 have : y.xs.length ≤ 9223372036854775807 := (y_w).1.len
 refine go Try.func28 rfl 26 rfl [wfF (slE recE) x, wfF (slE recE) y] [] hF M ⟨x_w, y_w, trivial⟩ trivial ?_
 intro a S
 have hD : ∀ k, In ([] : List BS) k → ¬ F k := fun _ h => h.elim
 refine rs S (la (av rfl)) ?_; clear S; intro a u S
 refine wp_seq ?_
 have hn3 : x.xs.length ≤ 9223372036854775807 := ((S.u 0 rfl)).1.len
 have hn4 : y.xs.length ≤ 9223372036854775807 := ((S.u 1 rfl)).1.len
 refine rs S (tr (mv rfl)<|tr (leni uT32 rfl)<|tr (mv rfl)<|tr (leni uT32 rfl)<|la (neqi rfl rfl)) ?_; clear S; intro a u S
 refine cd S rfl ?_ ?_
 ·intro hc0
  refine rs S (la (av rfl)) ?_; clear S; intro a u S
  refine wp_ret (then_r ?_)
  refine ret1 rfl S.s rfl ?_
  refine ⟨(r1 (vf ?_)), S.m.c⟩
  exact fun h => by rw [h] at hc0; exact hc0 rfl
 intro hc1
 refine wp_skip (then_n (wp_seq ?_))
 refine rs S (la (av rfl)) ?_; clear S; intro a u S
 refine wp_block ?_
 refine lp1 (fun (k : Nat) => [(0, sV x), (1, sV y), (5, iN k)]) (fun (k : Nat) => []) (fun (k : Nat) => k ≤ x.xs.length ∧ ∀ j, j < k → x.xs.getD j recE.dflt = y.xs.getD j recE.dflt) (fun (k : Nat) => x.xs.length - k) S 0 (subM rfl) rfl ?_ ?_
 ·exact ⟨Nat.zero_le _, fun j hj => by omega⟩
 clear S; intro k a u S hR
 obtain ⟨hk, hn⟩ := hR
 have hle : x.xs.length = y.xs.length := by omega
 refine wp_seq ?_
 refine rs S (tr (mv rfl)<|tr (mv rfl)<|tr (leni uT32 rfl)<|la (lssi rfl rfl)) ?_; clear S; intro a u S
 refine cd S rfl ?_ ?_
 ·intro hc2
  refine wp_skip (then_n (wp_seq (wp_block (wp_seq ?_))))
  obtain ⟨hl8, hu8⟩ : inI64 ((x.xs.getD k recE.dflt).kind) := id ((((S.u 0 rfl)).1.wf k (by omega)).1)
  obtain ⟨hl9, hu9⟩ : inI64 ((x.xs.getD k recE.dflt).dev) := id ((((S.u 0 rfl)).1.wf k (by omega)).2.1)
  obtain ⟨hl10, hu10⟩ : inI64 ((x.xs.getD k recE.dflt).inc) := id ((((S.u 0 rfl)).1.wf k (by omega)).2.2.1)
  obtain ⟨hl11, hu11⟩ : inI64 ((x.xs.getD k recE.dflt).seq) := id ((((S.u 0 rfl)).1.wf k (by omega)).2.2.2)
  obtain ⟨hl12, hu12⟩ : inI64 ((y.xs.getD k recE.dflt).kind) := id ((((S.u 1 rfl)).1.wf k (by omega)).1)
  obtain ⟨hl13, hu13⟩ : inI64 ((y.xs.getD k recE.dflt).dev) := id ((((S.u 1 rfl)).1.wf k (by omega)).2.1)
  obtain ⟨hl14, hu14⟩ : inI64 ((y.xs.getD k recE.dflt).inc) := id ((((S.u 1 rfl)).1.wf k (by omega)).2.2.1)
  obtain ⟨hl15, hu15⟩ : inI64 ((y.xs.getD k recE.dflt).seq) := id ((((S.u 1 rfl)).1.wf k (by omega)).2.2.2)
  refine dr (P := Try.prog) S 9 [] [(17, .is _), (18, .is _), (19, .is _), (20, .is _), (21, .is _), (22, .is _), (23, .is _), (24, .is _), (25, .is _)] [[], [], [17, 18], [19], [], [], [21, 22], [23], [20, 24]] [25] _ ⟨qd (mv rfl), qd (mv rfl), qd (idxi uT32 sZ24 rfl rfl k rfl (by omega) (((S.u 0 rfl)).1.adr (i := k) (by omega))), qd (ov fun S=>x_ldw (S.e rfl) (((S.u 0 rfl)).1.wcell k (by omega) _ rfl _ rfl) wD24), qd (mv rfl), qd (mv rfl), qd (idxi uT32 sZ24 rfl rfl k rfl (by omega) (((S.u 1 rfl)).1.adr (i := k) (by omega))), qd (ov fun S=>x_ldw (S.e rfl) (((S.u 1 rfl)).1.wcell k (by omega) _ rfl _ rfl) wD24), qd (ov fun S=>x_agneq uT24 (by kernel_rfl) (by kernel_rfl) (S.e rfl) (S.e rfl) (.cons rfl rfl rfl rfl (.int uT3) (.cons rfl rfl rfl rfl (.int uT3) (.cons rfl rfl rfl rfl (.int uT3) (.one rfl rfl rfl rfl (.int uT3)))))), trivial⟩ ?_
  clear S; intro a u S G hE
  refine ent ?_
  refine cd S rfl ?_ ?_
  ·intro hc3
   refine rs S (la (av rfl)) ?_; clear S; intro a u S
   refine wp_ret (blk_r (then_r (then_r (blk_r (then_r ?_)))))
   refine ret1 rfl S.s rfl ?_
   refine ⟨(r1 (vf ?_)), S.m.c⟩
   exact fun h => by rw [h] at hc3; first | exact hc3 rfl | exact hc3 ⟨rfl, rfl, rfl, rfl⟩
  intro hc4
  refine wp_skip (blk_n (then_n ?_))
  refine rg S (tr (mv rfl)<|tr (addi ((k + 1 : Nat) : Int) rfl rfl (w_i64 (by omega)))<|la (av rfl)) ?_; clear S; intro a u S
  refine then_n ?_
  refine ⟨(k + 1), S.re (subM rfl) rfl rfl, ?_, ?_⟩
  ·refine ⟨by omega, fun j hj => ?_⟩
   rcases Nat.lt_succ_iff_lt_or_eq.1 hj with h | h
   ·exact hn j h
   subst h; exact recEq hc4
  omega
 intro hc5
 refine wp_exit (then_e (then_e (blk_e (then_n ?_))))
 refine rs S (la (av rfl)) ?_; clear S; intro a u S
 refine wp_ret ?_
 refine ret1 rfl S.s rfl ?_
 refine ⟨(r1 (vt ?_)), S.m.c⟩
 exact eq_of_all recE.dflt (by omega) fun i hi => hn i (by omega)
set_option maxHeartbeats 2000000 in
set_option maxRecDepth 20000 in
theorem rSameC (w : World) (F : Nat → Prop) (hF : Old F w) (M : MS [] w) (x : Ctrl) (x_w : ctrlE.wf (Fr F []) w.heap x) (y : Ctrl) (y_w : ctrlE.wf (Fr F []) w.heap y) :
 Calls Try.prog 38 #[.agg (ctrlE.cells x).toArray, .agg (ctrlE.cells y).toArray] w fun e w' => e = .returned (bD (sameC x y)) ∧ Tr [] w [] w' := by
 obtain ⟨_, _⟩ : inI64 x.round := x_w.1
 obtain ⟨_, _⟩ : inI64 x.seq := x_w.2.2.1
 have : x.target.xs.length ≤ 9223372036854775807 := (x_w.2.2.2.1).1.len
 have : x.known.xs.length ≤ 9223372036854775807 := (x_w.2.2.2.2.1).1.len
 have : x.waiting.xs.length ≤ 9223372036854775807 := (x_w.2.2.2.2.2).1.len
 obtain ⟨_, _⟩ : inI64 y.round := y_w.1
 obtain ⟨_, _⟩ : inI64 y.seq := y_w.2.2.1
 have : y.target.xs.length ≤ 9223372036854775807 := (y_w.2.2.2.1).1.len
 have : y.known.xs.length ≤ 9223372036854775807 := (y_w.2.2.2.2.1).1.len
 have : y.waiting.xs.length ≤ 9223372036854775807 := (y_w.2.2.2.2.2).1.len
 refine go Try.func38 rfl 45 rfl [wfF ctrlE x, wfF ctrlE y] [] hF M ⟨x_w, y_w, trivial⟩ trivial ?_
 intro a S
 have hD : ∀ k, In ([] : List BS) k → ¬ F k := fun _ h => h.elim
 refine rs0 ?_
 refine nbp S (x_box _ (S.e rfl) rfl) ?_; clear S; intro a u b2 S
 refine nbp S (x_box _ (S.e rfl) rfl) ?_; clear S; intro a u b3 S
 refine ens S (la (av rfl)) ?_; clear S; intro a u S
 refine rs S (tr (fldi 0 0 rfl uT57)<|tr (ldk 0 sC3 rfl rfl rfl)<|tr (fldi 0 0 rfl uT57)<|tr (ldk 1 sC3 rfl rfl rfl)<|tr (eqli rfl rfl)<|tr (mv rfl)<|tr (og 10 rfl gt fun S hg=>xf (0) 1 uT57 (S.e rfl))<|tr (og 10 rfl gt fun S hg=>x_load sC4 (S.p rfl hg) ((S.k 0 rfl).cell (j := 1) rfl))<|tr (og 10 rfl gt fun S hg=>xf (0) 1 uT57 (S.e rfl))<|tr (og 10 rfl gt fun S hg=>x_load sC4 (S.p rfl hg) ((S.k 1 rfl).cell (j := 1) rfl))<|tr (og 10 rfl gt fun S hg=>x_bpeql uT4 (S.p rfl hg) (S.p rfl hg))<|tr (andi rfl rfl rfl)<|tr (mv rfl)<|tr (og 17 rfl gt fun S hg=>xf (0) 2 uT57 (S.e rfl))<|tr (og 17 rfl gt fun S hg=>x_load sC3 (S.p rfl hg) ((S.k 0 rfl).cell (j := 2) rfl))<|tr (og 17 rfl gt fun S hg=>xf (0) 2 uT57 (S.e rfl))<|tr (og 17 rfl gt fun S hg=>x_load sC3 (S.p rfl hg) ((S.k 1 rfl).cell (j := 2) rfl))<|tr (og 17 rfl gt fun S hg=>x_eql (S.p rfl hg) (S.p rfl hg))<|tr (andi rfl rfl rfl)<|tr (mv rfl)<|tr (og 24 rfl gt fun S hg=>xf (0) 3 uT57 (S.e rfl))<|tr (og 24 rfl gt fun S hg=>x_load sC22 (S.p rfl hg) ((S.k 0 rfl).cell (j := 3) rfl))<|tr (og 24 rfl gt fun S hg=>xf (0) 3 uT57 (S.e rfl))<|tr (og 24 rfl gt fun S hg=>x_load sC22 (S.p rfl hg) ((S.k 1 rfl).cell (j := 3) rfl))<|tr (ocg 24 rfl gt (fun S hg=>rInts _ _ S.x (.nil _) x.target (dn0 ((S.u 0 rfl).2.2.2.1)) y.target (dn0 ((S.u 1 rfl).2.2.2.1))) cB76 fun S=>⟨fun hg=>(S.p rfl hg), fun hg=>(S.p rfl hg), trivial⟩)<|tr (andi rfl rfl rfl)<|tr (mv rfl)<|tr (og 31 rfl gt fun S hg=>xf (0) 4 uT57 (S.e rfl))<|tr (og 31 rfl gt fun S hg=>x_load sC22 (S.p rfl hg) ((S.k 0 rfl).cell (j := 4) rfl))<|tr (og 31 rfl gt fun S hg=>xf (0) 4 uT57 (S.e rfl))<|tr (og 31 rfl gt fun S hg=>x_load sC22 (S.p rfl hg) ((S.k 1 rfl).cell (j := 4) rfl))<|tr (ocg 31 rfl gt (fun S hg=>rInts _ _ S.x (.nil _) x.known (dn0 ((S.u 0 rfl).2.2.2.2.1)) y.known (dn0 ((S.u 1 rfl).2.2.2.2.1))) cB76 fun S=>⟨fun hg=>(S.p rfl hg), fun hg=>(S.p rfl hg), trivial⟩)<|tr (andi rfl rfl rfl)<|tr (mv rfl)<|tr (og 38 rfl gt fun S hg=>xf (0) 5 uT57 (S.e rfl))<|tr (og 38 rfl gt fun S hg=>x_load sC22 (S.p rfl hg) ((S.k 0 rfl).cell (j := 5) rfl))<|tr (og 38 rfl gt fun S hg=>xf (0) 5 uT57 (S.e rfl))<|tr (og 38 rfl gt fun S hg=>x_load sC22 (S.p rfl hg) ((S.k 1 rfl).cell (j := 5) rfl))<|tr (ocg 38 rfl gt (fun S hg=>rInts _ _ S.x (.nil _) x.waiting (dn0 ((S.u 0 rfl).2.2.2.2.2)) y.waiting (dn0 ((S.u 1 rfl).2.2.2.2.2))) cB76 fun S=>⟨fun hg=>(S.p rfl hg), fun hg=>(S.p rfl hg), trivial⟩)<|tr (andi rfl rfl rfl)<|la (av rfl)) ?_; clear S; intro a u S
 refine wp_ret ?_
 refine ret1 rfl S.s rfl ?_
 replace S := S.pk []
 refine ⟨(r1 (vb ?_)), S.m.c⟩
 unfold sameC
 simp only [and_assoc]
set_option maxHeartbeats 2000000 in
set_option maxRecDepth 20000 in
theorem jCommands (w : World) (F : Nat → Prop) (hF : Old F w) (M : MS [] w) (c : Ctrl) (c_w : ctrlE.wf (Fr F []) w.heap c) (hb : c.waiting.xs.length ≤ 1000) :
 Calls Try.prog 41 #[.agg (ctrlE.cells c).toArray] w fun e w' => ∃ (ra : Option Addr) (rc : Nat), e = .returned (.slice ra ((cmdsP c.known.xs c.seq c.waiting.xs).length) rc) ∧ Row recE 24 w.heap.size F [abk ra] w' ra rc (cmdsP c.known.xs c.seq c.waiting.xs) ∧ Tr [] w [abk ra] w' := by
 obtain ⟨_, _⟩ : inI64 c.round := c_w.1
 obtain ⟨_, _⟩ : inI64 c.seq := c_w.2.2.1
 have : c.target.xs.length ≤ 9223372036854775807 := (c_w.2.2.2.1).1.len
 have : c.known.xs.length ≤ 9223372036854775807 := (c_w.2.2.2.2.1).1.len
 have : c.waiting.xs.length ≤ 9223372036854775807 := (c_w.2.2.2.2.2).1.len
 refine go Try.func41 rfl 36 rfl [wfF ctrlE c] [] hF M ⟨c_w, trivial⟩ trivial ?_
 intro a S
 have hD : ∀ k, In ([] : List BS) k → ¬ F k := fun _ h => h.elim
 refine rs0 ?_
 refine nbp S (x_box _ (S.e rfl) rfl) ?_; clear S; intro a u b1 S
 refine ens S (la (av rfl)) ?_; clear S; intro a u S
 refine rs S (la (av rfl)) ?_; clear S; intro a u S
 refine wp_seq ?_
 have hn4 : c.waiting.xs.length ≤ 9223372036854775807 := ((S.u 0 rfl).2.2.2.2.2).1.len
 refine rs S (tr (fldi 0 5 rfl uT57)<|tr (ldk 0 sC22 rfl rfl rfl)<|tr (leni uT22 rfl)<|la (mv rfl)) ?_; clear S; intro a u S
 refine wp_block ?_
 replace S := S.nr recE 24
 refine lp4 (fun (k : Nat) (out_a : Option Addr) (out_c : Nat) (out : List Rec) => [(1, pT b1 0), (2, .slice none 0 0), (7, sV c.waiting), (8, iN c.waiting.xs.length), (9, iN k), (3, .slice out_a out.length out_c)]) (fun (k : Nat) (out_a : Option Addr) (out_c : Nat) (out : List Rec) => [blO b1 (ctrlE.cells c) 57, rwO recE 24 w.heap.size out_a out_c out]) (fun (k : Nat) (out_a : Option Addr) (out_c : Nat) (out : List Rec) => k ≤ c.waiting.xs.length ∧ out = cmdsP c.known.xs c.seq (c.waiting.xs.take k)) (fun (k : Nat) (out_a : Option Addr) (out_c : Nat) (out : List Rec) => c.waiting.xs.length - k) S 0 none 0 ([]) (subM rfl) rfl ?_ ?_
 ·exact ⟨Nat.zero_le _, rfl⟩
 clear S; intro k out_a out_c out a u S hR
 have out_len := (S.row 1 rfl).len_le; simp only [maxLen] at out_len
 obtain ⟨hk, hout⟩ := hR
 have hol : out.length ≤ k := by rw [hout]; exact Nat.le_trans (cmdsP_len _) (by rw [List.length_take]; omega)
 refine rs S (la (lssi rfl rfl)) ?_; clear S; intro a u S
 refine wp_seq ?_
 refine cd S rfl ?_ ?_
 ·intro hc0
  refine wp_skip (then_n (wp_seq (wp_block ?_)))
  obtain ⟨hl7, hu7⟩ : inI64 (c.waiting.xs.getD k intE.dflt) := id (((S.u 0 rfl).2.2.2.2.2).1.wf k (by omega))
  refine rs S (tr (idxi uT22 sZ3 rfl rfl k rfl (by omega) (((S.u 0 rfl).2.2.2.2.2).1.adr (i := k) (by omega)))<|tr (ov fun S=>x_load sC3 (S.e rfl) (((S.u 0 rfl).2.2.2.2.2).1.cell k (by omega) 0 _ rfl))<|la (av rfl)) ?_; clear S; intro a u S
  refine rs S (tr (mv rfl)<|tr (geqi rfl rfl)<|tr (mv rfl)<|tr (og 15 rfl gt fun S hg=>x_move (S.e rfl))<|tr (og 15 rfl gt fun S hg=>xf (0) 4 uT57 (S.e rfl))<|tr (og 15 rfl gt fun S hg=>x_load sC22 (S.p rfl hg) ((S.k 0 rfl).cell (j := 4) rfl))<|tr (og 15 rfl gt fun S hg=>x_len uT22 (S.p rfl hg))<|tr (og 15 rfl gt fun S hg=>x_lss (S.p rfl hg) (S.p rfl hg))<|la (andi rfl rfl rfl)) ?_; clear S; intro a u S
  refine cd S rfl ?_ ?_
  ·intro hc1
   obtain ⟨hl9, hu9⟩ : inI64 (c.known.xs.getD (((c.waiting.xs.getD k intE.dflt)).toNat) intE.dflt) := id (((S.u 0 rfl).2.2.2.2.1).1.wf ((c.waiting.xs.getD k intE.dflt)).toNat (by omega))
   refine dr (P := Try.prog) S 11 [] [(22, .is _), (23, .is _), (24, .is _), (25, .is _), (26, .is _), (27, .is _), (28, .is _), (29, .is _), (30, .is _), (31, .is _), (32, .of (fun z w => ∃ (x32a : Nat), z = .slice (some ⟨x32a, 0, none⟩) 1 1 ∧ (slE recE).wf (Fr F [one b1, abk out_a]) w.heap (Sl.mk (some ⟨x32a, 0, none⟩) 1 ([(⟨5, (c.waiting.xs.getD k intE.dflt), (c.known.xs.getD (((c.waiting.xs.getD k intE.dflt)).toNat) intE.dflt), c.seq⟩ : Rec)]))) (fun v w w' c h => let ⟨x32a, hv, h0⟩ := h; ⟨x32a, hv, Enc.kp (slE recE) h0 c (fun _ h => by simp at h)⟩))] [[], [], [], [24], [], [25, 26], [27], [], [29], [23, 28, 30], [31]] [22, 32] _ ⟨qd (mv rfl), qd (mv rfl), qd (fldi 0 4 rfl uT57), qd (ldk 0 sC22 rfl rfl rfl), qd (mv rfl), qd (idxi uT22 sZ3 rfl rfl ((c.waiting.xs.getD k intE.dflt)).toNat (by omega) (by omega) (((S.u 0 rfl).2.2.2.2.1).1.adr (i := ((c.waiting.xs.getD k intE.dflt)).toNat) (by omega))), qd (ov fun S=>x_load sC3 (S.e rfl) (((S.u 0 rfl).2.2.2.2.1).1.cell ((c.waiting.xs.getD k intE.dflt)).toNat (by omega) 0 _ rfl)), qd (fldi 0 2 rfl uT57), qd (ldk 0 sC3 rfl rfl rfl), qd (ov fun S=>x_bd S [(0, iI 5), (1, iI (c.waiting.xs.getD k intE.dflt)), (2, iI (c.known.xs.getD (((c.waiting.xs.getD k intE.dflt)).toNat) intE.dflt)), (3, iI c.seq)] [iI 5, iI (c.waiting.xs.getD k intE.dflt), iI (c.known.xs.getD (((c.waiting.xs.getD k intE.dflt)).toNat) intE.dflt), iI c.seq]), ?_, trivial⟩ ?_
   ·skip
    intro a u S G hE
    refine hnb 32 S.m (x_bsl [(0, .agg #[iI 5, iI (c.waiting.xs.getD k intE.dflt), iI (c.known.xs.getD (((c.waiting.xs.getD k intE.dflt)).toNat) intE.dflt), iI c.seq])] [iI 5, iI (c.waiting.xs.getD k intE.dflt), iI (c.known.xs.getD (((c.waiting.xs.getD k intE.dflt)).toNat) intE.dflt), iI c.seq] uT32 iZ24 (by decide) (by decide) (by simp only [List.map_cons, List.map_nil, S.e (x := .tmp 31) (v := .agg #[iI 5, iI (c.waiting.xs.getD k intE.dflt), iI (c.known.xs.getD (((c.waiting.xs.getD k intE.dflt)).toNat) intE.dflt), iI c.seq]) rfl]) (by kernel_rfl)) fun g => (show ∃ _, _ from ⟨_, rfl, sl_of_blk (Blk.new _ [iI 5, iI (c.waiting.xs.getD k intE.dflt), iI (c.known.xs.getD (((c.waiting.xs.getD k intE.dflt)).toNat) intE.dflt), iI c.seq] 24) [(⟨5, (c.waiting.xs.getD k intE.dflt), (c.known.xs.getD (((c.waiting.xs.getD k intE.dflt)).toNat) intE.dflt), c.seq⟩ : Rec)] 1 rfl (by decide) (by decide) rfl (fr_fresh S.m.c S.m.f rfl) ?_⟩)
    intro x hx; simp only [List.mem_cons, List.not_mem_nil, or_false] at hx; rw [hx] <;> first | exact Enc.tr (recE) (show recE.wf (Fr F _) _ (⟨5, (c.waiting.xs.getD k intE.dflt), (c.known.xs.getD (((c.waiting.xs.getD k intE.dflt)).toNat) intE.dflt), c.seq⟩ : Rec) from ⟨(show inI64 5 from ⟨by omega, by omega⟩), (((S.u 0 rfl).2.2.2.2.2).1.wf k (by omega)), (((S.u 0 rfl).2.2.2.2.1).1.wf ((c.waiting.xs.getD k intE.dflt)).toNat (by omega)), (S.u 0 rfl).2.2.1⟩) (Tr.of_ch0 S.M g)
   clear S; intro a u S G hE
   obtain ⟨e32, -⟩ := hE
   obtain ⟨x32_10, e32, X10⟩ := e32
   replace S := S.ext e32
   clear e32
   replace S := S.ar (wfF (slE recE) (Sl.mk (some ⟨x32_10, 0, none⟩) 1 ([(⟨5, (c.waiting.xs.getD k intE.dflt), (c.known.xs.getD (((c.waiting.xs.getD k intE.dflt)).toNat) intE.dflt), c.seq⟩ : Rec)]))) X10
   have hn11 : ([(⟨5, (c.waiting.xs.getD k intE.dflt), (c.known.xs.getD (((c.waiting.xs.getD k intE.dflt)).toNat) intE.dflt), c.seq⟩ : Rec)]).length ≤ 9223372036854775807 := ((S.u 1 rfl)).1.len
   obtain ⟨hl12, hu12⟩ : inI64 (c.known.xs.getD (((c.waiting.xs.getD k intE.dflt)).toNat) intE.dflt) := id (((S.u 0 rfl).2.2.2.2.1).1.wf ((c.waiting.xs.getD k intE.dflt)).toNat (by omega))
   obtain ⟨hl13, hu13⟩ : inI64 c.seq := id ((S.u 0 rfl).2.2.1)
   refine ap (E := recE) (ys := [(⟨5, (c.waiting.xs.getD k intE.dflt), (c.known.xs.getD (((c.waiting.xs.getD k intE.dflt)).toNat) intE.dflt), c.seq⟩ : Rec)]) S 1 rfl uT32 iZ24 rfl rfl (show LAt recE _ _ (some ⟨x32_10, 0, none⟩) ([(⟨5, (c.waiting.xs.getD k intE.dflt), (c.known.xs.getD (((c.waiting.xs.getD k intE.dflt)).toNat) intE.dflt), c.seq⟩ : Rec)]) from ((S.u 1 rfl)).1) ((S.u 1 rfl)).2.2 (LAt.mem (show LAt recE _ _ (some ⟨x32_10, 0, none⟩) ([(⟨5, (c.waiting.xs.getD k intE.dflt), (c.known.xs.getD (((c.waiting.xs.getD k intE.dflt)).toNat) intE.dflt), c.seq⟩ : Rec)]) from ((S.u 1 rfl)).1)) ⟨by unfold maxLen; (try simp only [List.length_cons, List.length_nil, List.length_append, List.length_map]); omega, by (try simp only [List.length_cons, List.length_nil, List.length_append, List.length_map]); omega⟩ ?_; clear S; intro a u ad33 cap33 S
   refine en S (la (av rfl)) ?_; clear S; intro a u S
   refine blk_n (then_n ?_)
   refine rg S (tr (addi ((k + 1 : Nat) : Int) rfl rfl (w_i64 (by omega)))<|la (mv rfl)) ?_; clear S; intro a u S
   refine then_n ?_
   refine ⟨(k + 1), ad33, cap33, (out ++ [(⟨5, (c.waiting.xs.getD k intE.dflt), (c.known.xs.getD (((c.waiting.xs.getD k intE.dflt)).toNat) intE.dflt), c.seq⟩ : Rec)]), S.re (subM rfl) rfl rfl, ?_, ?_⟩
   ·refine ⟨by omega, ?_⟩
    rw [cmdsP_up (by omega), hout]
    unfold cmd1
    first
    | (rw [if_pos ⟨hc1.1, hc1.2⟩]; rfl)
    | (rw [if_neg fun q => hc1 ⟨q.1, q.2⟩, List.append_nil])
   omega
  intro hc2
  refine wp_skip (blk_n (then_n ?_))
  refine rg S (tr (addi ((k + 1 : Nat) : Int) rfl rfl (w_i64 (by omega)))<|la (mv rfl)) ?_; clear S; intro a u S
  refine then_n ?_
  refine ⟨(k + 1), out_a, out_c, out, S.re (subM rfl) rfl rfl, ?_, ?_⟩
  ·refine ⟨by omega, ?_⟩
   rw [cmdsP_up (by omega), hout]
   unfold cmd1
   first
   | (rw [if_pos ⟨hc2.1, hc2.2⟩]; rfl)
   | (rw [if_neg fun q => hc2 ⟨q.1, q.2⟩, List.append_nil])
  omega
 intro hc3
 refine wp_exit (then_e (then_e (blk_e (then_n ?_))))
 refine rs S (tr (mv rfl)<|la (av rfl)) ?_; clear S; intro a u S
 refine wp_ret ?_
 refine ret1 rfl S.s rfl ?_
 replace S := S.pk [1] (os' := [rwO recE 24 w.heap.size out_a out_c out])
 have hx17 : cmdsP c.known.xs c.seq c.waiting.xs = out := by
  rw [hout, List.take_of_length_le (by omega)]
 rw [hx17]
 refine ⟨out_a, out_c, rfl, (S.row 0 rfl), S.m.c⟩
set_option maxHeartbeats 2000000 in
set_option maxRecDepth 20000 in
theorem rCommands (w : World) (F : Nat → Prop) (hF : Old F w) (M : MS [] w) (c : Ctrl) (c_w : ctrlE.wf (Fr F []) w.heap c) (hb : c.waiting.xs.length ≤ 1000) :
 Calls Try.prog 42 #[.agg (ctrlE.cells c).toArray] w fun e w' => ∃ (ra : Option Addr) (rc : Nat), e = .returned (.slice ra ((cmdsP c.known.xs c.seq c.waiting.xs).length) rc) ∧ Row recE 24 w.heap.size F [abk ra] w' ra rc (cmdsP c.known.xs c.seq c.waiting.xs) ∧ Tr [] w [abk ra] w' := by
 obtain ⟨_, _⟩ : inI64 c.round := c_w.1
 obtain ⟨_, _⟩ : inI64 c.seq := c_w.2.2.1
 have : c.target.xs.length ≤ 9223372036854775807 := (c_w.2.2.2.1).1.len
 have : c.known.xs.length ≤ 9223372036854775807 := (c_w.2.2.2.2.1).1.len
 have : c.waiting.xs.length ≤ 9223372036854775807 := (c_w.2.2.2.2.2).1.len
 refine go Try.func42 rfl 40 rfl [wfF ctrlE c] [] hF M ⟨c_w, trivial⟩ trivial ?_
 intro a S
 have hD : ∀ k, In ([] : List BS) k → ¬ F k := fun _ h => h.elim
 refine rs0 ?_
 refine nbp S (x_box _ (S.e rfl) rfl) ?_; clear S; intro a u b1 S
 refine ens S (la (av rfl)) ?_; clear S; intro a u S
 refine rs S (la (av rfl)) ?_; clear S; intro a u S
 refine wp_seq ?_
 refine rs S (la (av rfl)) ?_; clear S; intro a u S
 refine wp_block ?_
 replace S := S.nr recE 24
 refine lp4 (fun (k : Nat) (out_a : Option Addr) (out_c : Nat) (out : List Rec) => [(1, pT b1 0), (2, .slice none 0 0), (4, iN k), (3, .slice out_a out.length out_c)]) (fun (k : Nat) (out_a : Option Addr) (out_c : Nat) (out : List Rec) => [blO b1 (ctrlE.cells c) 57, rwO recE 24 w.heap.size out_a out_c out]) (fun (k : Nat) (out_a : Option Addr) (out_c : Nat) (out : List Rec) => k ≤ c.waiting.xs.length ∧ out = cmdsP c.known.xs c.seq (c.waiting.xs.take k)) (fun (k : Nat) (out_a : Option Addr) (out_c : Nat) (out : List Rec) => c.waiting.xs.length - k) S 0 none 0 ([]) (subM rfl) rfl ?_ ?_
 ·exact ⟨Nat.zero_le _, rfl⟩
 clear S; intro k out_a out_c out a u S hR
 have out_len := (S.row 1 rfl).len_le; simp only [maxLen] at out_len
 obtain ⟨hk, hout⟩ := hR
 have hol : out.length ≤ k := by rw [hout]; exact Nat.le_trans (cmdsP_len _) (by rw [List.length_take]; omega)
 refine wp_seq ?_
 have hn5 : c.waiting.xs.length ≤ 9223372036854775807 := ((S.u 0 rfl).2.2.2.2.2).1.len
 refine rs S (tr (mv rfl)<|tr (fldi 0 5 rfl uT57)<|tr (ldk 0 sC22 rfl rfl rfl)<|tr (leni uT22 rfl)<|la (lssi rfl rfl)) ?_; clear S; intro a u S
 refine cd S rfl ?_ ?_
 ·intro hc0
  refine wp_skip (then_n (wp_seq (wp_block ?_)))
  obtain ⟨hl7, hu7⟩ : inI64 (c.waiting.xs.getD k intE.dflt) := id (((S.u 0 rfl).2.2.2.2.2).1.wf k (by omega))
  refine rs S (tr (fldi 0 5 rfl uT57)<|tr (ldk 0 sC22 rfl rfl rfl)<|tr (mv rfl)<|tr (idxi uT22 sZ3 rfl rfl k rfl (by omega) (((S.u 0 rfl).2.2.2.2.2).1.adr (i := k) (by omega)))<|tr (ov fun S=>x_load sC3 (S.e rfl) (((S.u 0 rfl).2.2.2.2.2).1.cell k (by omega) 0 _ rfl))<|la (av rfl)) ?_; clear S; intro a u S
  refine wp_seq ?_
  refine rs S (tr (mv rfl)<|tr (lssi rfl rfl)<|tr (mv rfl)<|tr (og 20 rfl gf fun S hg=>x_move (S.e rfl))<|tr (og 20 rfl gf fun S hg=>xf (0) 4 uT57 (S.e rfl))<|tr (og 20 rfl gf fun S hg=>x_load sC22 (S.p rfl hg) ((S.k 0 rfl).cell (j := 4) rfl))<|tr (og 20 rfl gf fun S hg=>x_len uT22 (S.p rfl hg))<|tr (og 20 rfl gf fun S hg=>x_geq (S.p rfl hg) (S.p rfl hg))<|la (ori rfl rfl rfl)) ?_; clear S; intro a u S
  refine cd S rfl ?_ ?_
  ·intro hc1
   refine wp_exit (then_e (blk_e (then_n ?_)))
   refine rg S (tr (mv rfl)<|tr (addi ((k + 1 : Nat) : Int) rfl rfl (w_i64 (by omega)))<|la (av rfl)) ?_; clear S; intro a u S
   refine then_n ?_
   refine ⟨(k + 1), out_a, out_c, out, S.re (subM rfl) rfl rfl, ?_, ?_⟩
   ·refine ⟨by omega, ?_⟩
    rw [cmdsP_up (by omega), hout]
    unfold cmd1
    first
    | (rw [if_neg fun q => hc1.elim (fun h => by have := q.1; omega) fun h => by have := q.2; omega, List.append_nil]; done)
    | (rw [if_pos ⟨by have := fun h => hc1 (.inl h); omega, by have := fun h => hc1 (.inr h); omega⟩]; rfl)
   omega
  intro hc2
  refine wp_skip (then_n ?_)
  obtain ⟨hl10, hu10⟩ : inI64 (c.known.xs.getD (((c.waiting.xs.getD k intE.dflt)).toNat) intE.dflt) := id (((S.u 0 rfl).2.2.2.2.1).1.wf ((c.waiting.xs.getD k intE.dflt)).toNat (by omega))
  refine dr (P := Try.prog) S 11 [] [(27, .is _), (28, .is _), (29, .is _), (30, .is _), (31, .is _), (32, .is _), (33, .is _), (34, .is _), (35, .is _), (36, .is _), (37, .of (fun z w => ∃ (x37a : Nat), z = .slice (some ⟨x37a, 0, none⟩) 1 1 ∧ (slE recE).wf (Fr F [one b1, abk out_a]) w.heap (Sl.mk (some ⟨x37a, 0, none⟩) 1 ([(⟨5, (c.waiting.xs.getD k intE.dflt), (c.known.xs.getD (((c.waiting.xs.getD k intE.dflt)).toNat) intE.dflt), c.seq⟩ : Rec)]))) (fun v w w' c h => let ⟨x37a, hv, h0⟩ := h; ⟨x37a, hv, Enc.kp (slE recE) h0 c (fun _ h => by simp at h)⟩))] [[], [], [], [29], [], [30, 31], [32], [], [34], [28, 33, 35], [36]] [27, 37] _ ⟨qd (mv rfl), qd (mv rfl), qd (fldi 0 4 rfl uT57), qd (ldk 0 sC22 rfl rfl rfl), qd (mv rfl), qd (idxi uT22 sZ3 rfl rfl ((c.waiting.xs.getD k intE.dflt)).toNat (by omega) (by omega) (((S.u 0 rfl).2.2.2.2.1).1.adr (i := ((c.waiting.xs.getD k intE.dflt)).toNat) (by omega))), qd (ov fun S=>x_load sC3 (S.e rfl) (((S.u 0 rfl).2.2.2.2.1).1.cell ((c.waiting.xs.getD k intE.dflt)).toNat (by omega) 0 _ rfl)), qd (fldi 0 2 rfl uT57), qd (ldk 0 sC3 rfl rfl rfl), qd (ov fun S=>x_bd S [(0, iI 5), (1, iI (c.waiting.xs.getD k intE.dflt)), (2, iI (c.known.xs.getD (((c.waiting.xs.getD k intE.dflt)).toNat) intE.dflt)), (3, iI c.seq)] [iI 5, iI (c.waiting.xs.getD k intE.dflt), iI (c.known.xs.getD (((c.waiting.xs.getD k intE.dflt)).toNat) intE.dflt), iI c.seq]), ?_, trivial⟩ ?_
  ·skip
   intro a u S G hE
   refine hnb 37 S.m (x_bsl [(0, .agg #[iI 5, iI (c.waiting.xs.getD k intE.dflt), iI (c.known.xs.getD (((c.waiting.xs.getD k intE.dflt)).toNat) intE.dflt), iI c.seq])] [iI 5, iI (c.waiting.xs.getD k intE.dflt), iI (c.known.xs.getD (((c.waiting.xs.getD k intE.dflt)).toNat) intE.dflt), iI c.seq] uT32 iZ24 (by decide) (by decide) (by simp only [List.map_cons, List.map_nil, S.e (x := .tmp 36) (v := .agg #[iI 5, iI (c.waiting.xs.getD k intE.dflt), iI (c.known.xs.getD (((c.waiting.xs.getD k intE.dflt)).toNat) intE.dflt), iI c.seq]) rfl]) (by kernel_rfl)) fun g => (show ∃ _, _ from ⟨_, rfl, sl_of_blk (Blk.new _ [iI 5, iI (c.waiting.xs.getD k intE.dflt), iI (c.known.xs.getD (((c.waiting.xs.getD k intE.dflt)).toNat) intE.dflt), iI c.seq] 24) [(⟨5, (c.waiting.xs.getD k intE.dflt), (c.known.xs.getD (((c.waiting.xs.getD k intE.dflt)).toNat) intE.dflt), c.seq⟩ : Rec)] 1 rfl (by decide) (by decide) rfl (fr_fresh S.m.c S.m.f rfl) ?_⟩)
   intro x hx; simp only [List.mem_cons, List.not_mem_nil, or_false] at hx; rw [hx] <;> first | exact Enc.tr (recE) (show recE.wf (Fr F _) _ (⟨5, (c.waiting.xs.getD k intE.dflt), (c.known.xs.getD (((c.waiting.xs.getD k intE.dflt)).toNat) intE.dflt), c.seq⟩ : Rec) from ⟨(show inI64 5 from ⟨by omega, by omega⟩), (((S.u 0 rfl).2.2.2.2.2).1.wf k (by omega)), (((S.u 0 rfl).2.2.2.2.1).1.wf ((c.waiting.xs.getD k intE.dflt)).toNat (by omega)), (S.u 0 rfl).2.2.1⟩) (Tr.of_ch0 S.M g)
  clear S; intro a u S G hE
  obtain ⟨e37, -⟩ := hE
  obtain ⟨x37_11, e37, X11⟩ := e37
  replace S := S.ext e37
  clear e37
  replace S := S.ar (wfF (slE recE) (Sl.mk (some ⟨x37_11, 0, none⟩) 1 ([(⟨5, (c.waiting.xs.getD k intE.dflt), (c.known.xs.getD (((c.waiting.xs.getD k intE.dflt)).toNat) intE.dflt), c.seq⟩ : Rec)]))) X11
  have hn12 : ([(⟨5, (c.waiting.xs.getD k intE.dflt), (c.known.xs.getD (((c.waiting.xs.getD k intE.dflt)).toNat) intE.dflt), c.seq⟩ : Rec)]).length ≤ 9223372036854775807 := ((S.u 1 rfl)).1.len
  obtain ⟨hl13, hu13⟩ : inI64 (c.known.xs.getD (((c.waiting.xs.getD k intE.dflt)).toNat) intE.dflt) := id (((S.u 0 rfl).2.2.2.2.1).1.wf ((c.waiting.xs.getD k intE.dflt)).toNat (by omega))
  obtain ⟨hl14, hu14⟩ : inI64 c.seq := id ((S.u 0 rfl).2.2.1)
  refine ap (E := recE) (ys := [(⟨5, (c.waiting.xs.getD k intE.dflt), (c.known.xs.getD (((c.waiting.xs.getD k intE.dflt)).toNat) intE.dflt), c.seq⟩ : Rec)]) S 1 rfl uT32 iZ24 rfl rfl (show LAt recE _ _ (some ⟨x37_11, 0, none⟩) ([(⟨5, (c.waiting.xs.getD k intE.dflt), (c.known.xs.getD (((c.waiting.xs.getD k intE.dflt)).toNat) intE.dflt), c.seq⟩ : Rec)]) from ((S.u 1 rfl)).1) ((S.u 1 rfl)).2.2 (LAt.mem (show LAt recE _ _ (some ⟨x37_11, 0, none⟩) ([(⟨5, (c.waiting.xs.getD k intE.dflt), (c.known.xs.getD (((c.waiting.xs.getD k intE.dflt)).toNat) intE.dflt), c.seq⟩ : Rec)]) from ((S.u 1 rfl)).1)) ⟨by unfold maxLen; (try simp only [List.length_cons, List.length_nil, List.length_append, List.length_map]); omega, by (try simp only [List.length_cons, List.length_nil, List.length_append, List.length_map]); omega⟩ ?_; clear S; intro a u ad38 cap38 S
  refine en S (la (av rfl)) ?_; clear S; intro a u S
  refine blk_n (then_n ?_)
  refine rg S (tr (mv rfl)<|tr (addi ((k + 1 : Nat) : Int) rfl rfl (w_i64 (by omega)))<|la (av rfl)) ?_; clear S; intro a u S
  refine then_n ?_
  refine ⟨(k + 1), ad38, cap38, (out ++ [(⟨5, (c.waiting.xs.getD k intE.dflt), (c.known.xs.getD (((c.waiting.xs.getD k intE.dflt)).toNat) intE.dflt), c.seq⟩ : Rec)]), S.re (subM rfl) rfl rfl, ?_, ?_⟩
  ·refine ⟨by omega, ?_⟩
   rw [cmdsP_up (by omega), hout]
   unfold cmd1
   first
   | (rw [if_neg fun q => hc2.elim (fun h => by have := q.1; omega) fun h => by have := q.2; omega, List.append_nil]; done)
   | (rw [if_pos ⟨by have := fun h => hc2 (.inl h); omega, by have := fun h => hc2 (.inr h); omega⟩]; rfl)
  omega
 intro hc3
 refine wp_exit (then_e (then_e (blk_e (then_n ?_))))
 refine rs S (tr (mv rfl)<|la (av rfl)) ?_; clear S; intro a u S
 refine wp_ret ?_
 refine ret1 rfl S.s rfl ?_
 replace S := S.pk [1] (os' := [rwO recE 24 w.heap.size out_a out_c out])
 have hx17 : cmdsP c.known.xs c.seq c.waiting.xs = out := by
  rw [hout, List.take_of_length_le (by omega)]
 rw [hx17]
 refine ⟨out_a, out_c, rfl, (S.row 0 rfl), S.m.c⟩
end Go.Proofs.Ytobggnpnochnnaa.V
