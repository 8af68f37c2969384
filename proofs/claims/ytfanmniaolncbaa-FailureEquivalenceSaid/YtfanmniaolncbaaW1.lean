/- slices.Index, slices.Contains -/
import Derived.Test.YtfanmniaolncbaaVF
namespace Go.Proofs.Ytfanmniaolncbaa.V
open Go.RowKit Go.Proofs.Ytfanmniaolncbaa
set_option linter.unusedVariables false
set_option linter.unusedSimpArgs false
set_option maxHeartbeats 2000000 in
set_option maxRecDepth 20000 in
theorem sIndex (w : World) (F : Nat → Prop) (hF : Old F w) (M : MS [] w) (l : Sl Int) (l_w : (slE intE).wf (Fr F []) w.heap l) (v : Int) (v_h : inI64 v) :
 Calls Try.prog 111 #[sV l, iI v] w fun e w' => e = .returned (iI (idxOf (fun x => decide (x = v)) l.xs)) ∧ Tr [] w [] w' := by
 have C : Tr [] w [] w := Tr.refl M
 have : l.xs.length ≤ 9223372036854775807 := (l_w).1.len
 obtain ⟨v_hl, v_hu⟩ : inI64 v := id v_h
 refine enter Try.func111 rfl 19 rfl (Nat.le_of_ble_eq_true rfl) ?_
 intro a S
 refine qs ?_
 refine qa S rfl ?_; clear S a; intro a S
 refine qt ?_
 refine wp_seq ?_
 refine qs ?_
 refine qm S rfl ?_; clear S a; intro a S
 have hn1 : l.xs.length ≤ 9223372036854775807 := (l_w).1.len
 refine qv S (iN l.xs.length) (x_len Try.underlying22 (S.e rfl)) ?_; clear S a; intro a S
 refine qm S rfl ?_; clear S a; intro a S
 refine qt ?_
 refine wp_block ?_
 refine wp_loop_ghost (fun m a wr => ∃ k : Nat, Slots 19 [(0, sV l), (1, iI v), (7, iN l.xs.length), (8, iN k)] a ∧ Tr [] w [] wr ∧ (k ≤ l.xs.length ∧ ∀ j, j < k → decide (l.xs.getD j intE.dflt = v) = false) ∧ (l.xs.length - k) = m) (l.xs.length - 0) ?_ ?_
 ·refine ⟨0, S.sub ⟨rfl, rfl, rfl, rfl, trivial⟩, Tr.refl C.ms, ?_, rfl⟩
  exact ⟨Nat.zero_le _, fun j hj => by omega⟩
 rintro m a w1 ⟨k, S, G, hR, rfl⟩
 replace l_w := Enc.tr (slE intE) l_w G
 replace C := C.trans G
 have GL0 := G; clear G
 obtain ⟨hk, hn⟩ := hR
 refine qs ?_
 refine qv S (bD (((k : Nat) : Int) < ((l.xs.length : Nat) : Int))) (x_lss (S.e rfl) (S.e rfl)) ?_; clear S a; intro a S
 refine qt ?_
 refine wp_seq ?_
 refine cond_dec S rfl ?_ ?_
 ·intro hc0
  refine wp_skip ?_
  refine then_n ?_
  refine wp_seq ?_
  refine wp_block ?_
  refine qs ?_
  refine qm S rfl ?_; clear S a; intro a S
  refine qa S rfl ?_; clear S a; intro a S
  refine qt ?_
  refine qs ?_
  refine qm S rfl ?_; clear S a; intro a S
  refine qm S rfl ?_; clear S a; intro a S
  refine qm S rfl ?_; clear S a; intro a S
  refine qv S (pT (blk l.a) (off l.a + k * 1)) (x_idx Try.underlying22 (by kernel_rfl) (S.e rfl) (S.e rfl) k rfl (by omega) ((l_w).1.adr (i := k) (by omega))) ?_; clear S a; intro a S
  obtain ⟨hl2, hu2⟩ : inI64 (l.xs.getD k intE.dflt) := id ((l_w).1.wf k (by omega))
  refine qv S (iI (l.xs.getD k intE.dflt)) (x_load ⟨_, Try.underlying3, rfl⟩ (S.e rfl) ((l_w).1.cell k (by omega) 0 _ rfl)) ?_; clear S a; intro a S
  refine qv S (bD (v = (l.xs.getD k intE.dflt))) (x_eql (S.e rfl) (S.e rfl)) ?_; clear S a; intro a S
  refine qt ?_
  refine cond_dec S rfl ?_ ?_
  ·intro hc1
   refine qs ?_
   refine qm S rfl ?_; clear S a; intro a S
   refine qa S rfl ?_; clear S a; intro a S
   refine qt ?_
   refine wp_ret ?_
   refine blk_r ?_
   refine then_r ?_
   refine then_r ?_
   refine blk_r ?_
   refine then_r ?_
   refine ret1 rfl S rfl ?_
   refine ⟨(r1 (vi ?_)), C⟩
   exact (idxOf_some (d := intE.dflt) (by omega) (by simp only [decide_eq_true_eq]; omega) hn).symm
  intro hc2
  refine wp_skip ?_
  refine blk_n ?_
  refine then_n ?_
  refine wp_region_lit ?_
  refine qv S (iN (k + 1)) (x_add (S.e rfl) (S.e rfl) (r := ((k + 1 : Nat) : Int)) (w_i64 (by omega))) ?_; clear S a; intro a S
  refine qm S rfl ?_; clear S a; intro a S
  refine qt ?_
  refine ⟨l.xs.length - (k + 1), ?_, k + 1, S.sub ⟨rfl, rfl, rfl, rfl, trivial⟩, GL0, ?_, rfl⟩
  ·omega
  refine ⟨by omega, fun j hj => ?_⟩
  rcases Nat.lt_succ_iff_lt_or_eq.1 hj with h | h
  ·exact hn j h
  subst h; simp only [decide_eq_false_iff_not]; omega
 intro hc3
 refine wp_exit ?_
 refine then_e ?_
 refine then_e ?_
 refine blk_e ?_
 refine then_n ?_
 refine qs ?_
 refine qa S rfl ?_; clear S a; intro a S
 refine qt ?_
 refine wp_ret ?_
 refine ret1 rfl S rfl ?_
 refine ⟨(r1 (vi ?_)), C⟩
 exact (idxOf_none (d := intE.dflt) (fun j hj => hn j (by omega))).symm
set_option maxHeartbeats 2000000 in
set_option maxRecDepth 20000 in
theorem sContains (w : World) (F : Nat → Prop) (hF : Old F w) (M : MS [] w) (l : Sl Int) (l_w : (slE intE).wf (Fr F []) w.heap l) (v : Int) (v_h : inI64 v) :
 Calls Try.prog 94 #[sV l, iI v] w fun e w' => e = .returned (bD (v ∈ l.xs)) ∧ Tr [] w [] w' := by
 have C : Tr [] w [] w := Tr.refl M
 have : l.xs.length ≤ 9223372036854775807 := (l_w).1.len
 obtain ⟨v_hl, v_hu⟩ : inI64 v := id v_h
 refine enter Try.func94 rfl 9 rfl (Nat.le_of_ble_eq_true rfl) ?_
 intro a S
 refine qs ?_
 refine qa S rfl ?_; clear S a; intro a S
 refine qt ?_
 refine qs ?_
 refine qm S rfl ?_; clear S a; intro a S
 refine qm S rfl ?_; clear S a; intro a S
 refine seq_call S (by decide) (vs := #[sV l, iI v]) rfl callable_111 (sIndex _ (Ex F _) (C.old hF)  (MS.nil _) l ((slE intE).down0 l_w) v v_h) ?_
 rintro e w1 ⟨rfl, T0⟩; refine ⟨_, rfl, ?_⟩; clear S a; intro a S
 have TT := Tr.framed0 C.ms T0; have G := T0.ch
 replace l_w := Enc.tr (slE intE) l_w TT
 replace C := C.trans TT
 clear T0 G TT
 refine qv S (bD (0 ≤ idxOf (fun x => decide (x = v)) l.xs)) (x_geq (S.e rfl) (S.e rfl)) ?_; clear S a; intro a S
 refine qa S rfl ?_; clear S a; intro a S
 refine qt ?_
 refine wp_ret ?_
 refine ret1 rfl S rfl ?_
 refine ⟨(r1 (vb ?_)), C⟩
 refine (idxOf_nonneg l.xs).trans ?_; simp
end Go.Proofs.Ytfanmniaolncbaa.V
