/- members: root, join -/
import Derived.Test.YtfanmniaolncbaaW6
import Derived.Test.YtfanmniaolncbaaGrpE
namespace Go.Proofs.Ytfanmniaolncbaa.V
open Go.RowKit Go.Proofs.Ytfanmniaolncbaa
set_option linter.unusedVariables false
set_option linter.unusedSimpArgs false
def joinR (a b r : Nat) : Nat := if r = a ∨ r = b then min a b else r
set_option maxHeartbeats 2000000 in
set_option maxRecDepth 20000 in
theorem fRoot (w : World) (F : Nat → Prop) (hF : Old F w) (fB fn : Nat) (M : MS [span fB fn] w) (fps : List (Option Nat)) (HF : Forest 109 w.heap fB fn fps) (i : Nat) (i_h : i < fn) :
 Calls Try.prog 93 #[pT (fB + i) 0] w fun e w' => ∃ (ps1 : List (Option Nat)), e = .returned (pT (fB + (rootOf fps i)) 0) ∧ Forest 109 w'.heap fB fn ps1 ∧ (∀ x, rootOf ps1 x = rootOf fps x) ∧ Tr [span fB fn] w [span fB fn] w' := by
 have C : Tr [span fB fn] w [span fB fn] w := Tr.refl M
 refine enter Try.func93 rfl 31 rfl (Nat.le_of_ble_eq_true rfl) ?_
 intro a S
 refine qs ?_
 refine qa S rfl ?_; clear S a; intro a S
 refine qt ?_
 refine wp_seq (wp_block ?_)
 refine wp_loop_ghost (fun m a wr => ∃ p : Option Nat, ∃ ps1 : List (Option Nat), Slots 31 [(2, .pointer none), (0, ptrOf fB p)] a ∧ Tr [span fB fn] w [span fB fn] wr ∧ (p.getD 0 < fn ∧ ¬ p = none ∧ (∀ x, rootOf ps1 x = rootOf fps x) ∧ rootOf ps1 (p.getD 0) = rootOf fps i) ∧ Forest 109 wr.heap fB fn ps1 ∧ (p.getD 0) = m) ((some i).getD 0) ?_ ?_
 ·refine ⟨(some i), fps, S.sub ⟨rfl, rfl, trivial⟩, Tr.refl C.ms, ?_, HF, rfl⟩
  exact ⟨i_h, by simp, fun _ => rfl, rfl⟩
 rintro m a w1 ⟨p, ps1, S, G, hR, HF', rfl⟩
 clear HF; have HF := HF'; clear HF'
 replace C := C.trans G
 have GL0 := G; clear G
 obtain ⟨hp, hpn, hro, hri⟩ := hR
 refine wp_seq ?_
 refine qs ?_
 refine qm S rfl ?_; clear S a; intro a S
 refine qv S (pT (fB + (p.getD 0)) 0) (x_nodeck (S.e rfl) (by assumption)) ?_; clear S a; intro a S
 refine qv S (pT (fB + (p.getD 0)) (0 + 0)) (x_fld (z := 0) (0) 0 uT109 rfl rfl (by kernel_rfl) (S.e rfl)) ?_; clear S a; intro a S
 refine qv S (ptrOf fB (ps1.getD (p.getD 0) none)) (x_load ⟨_, uT107, rfl⟩ (S.e rfl) (HF.c0 (by omega))) ?_; clear S a; intro a S
 refine qv S (bD (¬ ps1.getD (p.getD 0) none = none)) (x_pneqn uT107 (S.e rfl) (S.e rfl)) ?_; clear S a; intro a S
 refine qt ?_
 refine cond_dec S rfl ?_ ?_
 ·intro hc0
  have hj := HF.lt hp hc0
  refine wp_skip (then_n (wp_block (wp_seq ?_)))
  refine qs ?_
  refine qm S rfl ?_; clear S a; intro a S
  refine qv S (pT (fB + (p.getD 0)) 0) (x_nodeck (S.e rfl) (by assumption)) ?_; clear S a; intro a S
  refine qv S (pT (fB + (p.getD 0)) (0 + 0)) (x_fld (z := 0) (0) 0 uT109 rfl rfl (by kernel_rfl) (S.e rfl)) ?_; clear S a; intro a S
  refine qv S (ptrOf fB (ps1.getD (p.getD 0) none)) (x_load ⟨_, uT107, rfl⟩ (S.e rfl) (HF.c0 (by omega))) ?_; clear S a; intro a S
  refine qv S (pT (fB + ((ps1.getD (p.getD 0) none).getD 0)) 0) (x_nodeck (S.e rfl) (by assumption)) ?_; clear S a; intro a S
  refine qv S (pT (fB + ((ps1.getD (p.getD 0) none).getD 0)) (0 + 0)) (x_fld (z := 0) (0) 0 uT109 rfl rfl (by kernel_rfl) (S.e rfl)) ?_; clear S a; intro a S
  refine qv S (ptrOf fB (ps1.getD ((ps1.getD (p.getD 0) none).getD 0) none)) (x_load ⟨_, uT107, rfl⟩ (S.e rfl) (HF.c0 (by omega))) ?_; clear S a; intro a S
  refine qv S (bD (¬ ps1.getD ((ps1.getD (p.getD 0) none).getD 0) none = none)) (x_pneqn uT107 (S.e rfl) (S.e rfl)) ?_; clear S a; intro a S
  refine qt ?_
  refine cond_dec S rfl ?_ ?_
  ·intro hc1
   have HH := HF.halve hp hc0 hc1
   refine wp_region_lit ?_
   refine qm S rfl ?_; clear S a; intro a S
   refine qm S rfl ?_; clear S a; intro a S
   refine qv S (pT (fB + (p.getD 0)) 0) (x_nodeck (S.e rfl) (by assumption)) ?_; clear S a; intro a S
   refine qv S (pT (fB + (p.getD 0)) (0 + 0)) (x_fld (z := 0) (0) 0 uT109 rfl rfl (by kernel_rfl) (S.e rfl)) ?_; clear S a; intro a S
   refine qv S (ptrOf fB (ps1.getD (p.getD 0) none)) (x_load ⟨_, uT107, rfl⟩ (S.e rfl) (HF.c0 (by omega))) ?_; clear S a; intro a S
   refine qv S (pT (fB + ((ps1.getD (p.getD 0) none).getD 0)) 0) (x_nodeck (S.e rfl) (by assumption)) ?_; clear S a; intro a S
   refine qv S (pT (fB + ((ps1.getD (p.getD 0) none).getD 0)) (0 + 0)) (x_fld (z := 0) (0) 0 uT109 rfl rfl (by kernel_rfl) (S.e rfl)) ?_; clear S a; intro a S
   refine qv S (ptrOf fB (ps1.getD ((ps1.getD (p.getD 0) none).getD 0) none)) (x_load ⟨_, uT107, rfl⟩ (S.e rfl) (HF.c0 (by omega))) ?_; clear S a; intro a S
   refine qv S (pT (fB + (p.getD 0)) 0) (x_nodeck (S.e rfl) (by assumption)) ?_; clear S a; intro a S
   refine qv S (pT (fB + (p.getD 0)) (0 + 0)) (x_fld (z := 0) (0) 0 uT109 rfl rfl (by kernel_rfl) (S.e rfl)) ?_; clear S a; intro a S
   have hd : Down (ps1.set (p.getD 0) (ps1.getD ((ps1.getD (p.getD 0) none).getD 0) none)) := by
    exact (HF.halve hp hc0 hc1).1
   refine seq_store0 S rfl rfl (x_store (v := ptrOf fB (ps1.getD ((ps1.getD (p.getD 0) none).getD 0) none)) (by kernel_rfl) (S.e rfl) (S.e rfl) rfl (HF.blk (p.getD 0) (by omega)) (o := 0 + 0) (u := ptrOf fB _) rfl) ?_
   clear S a; intro a w2 hw G hz S; have TT := Tr.of_ch C.ms (G.mono (fun k e => e.elim (fun e => (show In [span fB fn] k from .inl (by unfold one at e; unfold span; omega))) False.elim)) (by intro o h; simp at h ⊢; first | exact .inl h | simp [h])
   have G2 : Ch (In [span fB fn]) w1 w2 := G.mono (fun k e => e.elim (fun e => .inl (by unfold one at e; unfold span; omega)) False.elim)
   have HN : Forest 109 w2.heap fB fn (ps1.set (p.getD 0) (ps1.getD ((ps1.getD (p.getD 0) none).getD 0) none)) := by rw [hw]; exact HF.set (by omega) _ hd
   replace GL0 := GL0.trans TT
   replace C := C.trans TT
   clear hw hz hd HF; have HF := HN; clear HN TT G G2
   refine qt ?_
   refine wp_region_lit ?_
   refine qm S rfl ?_; clear S a; intro a S
   refine qv S (pT (fB + (p.getD 0)) 0) (x_nodeck (S.e rfl) (by assumption)) ?_; clear S a; intro a S
   refine qv S (pT (fB + (p.getD 0)) (0 + 0)) (x_fld (z := 0) (0) 0 uT109 rfl rfl (by kernel_rfl) (S.e rfl)) ?_; clear S a; intro a S
   refine qv S (ptrOf fB ((ps1.set (p.getD 0) (ps1.getD ((ps1.getD (p.getD 0) none).getD 0) none)).getD (p.getD 0) none)) (x_load ⟨_, uT107, rfl⟩ (S.e rfl) (HF.c0 (by omega))) ?_; clear S a; intro a S
   refine qa S rfl ?_; clear S a; intro a S
   refine wpList_nil ?_
   refine blk_n (then_n ?_)
   refine ⟨((ps1.set (p.getD 0) (ps1.getD ((ps1.getD (p.getD 0) none).getD 0) none)).getD (p.getD 0) none).getD 0, ?_, ((ps1.set (p.getD 0) (ps1.getD ((ps1.getD (p.getD 0) none).getD 0) none)).getD (p.getD 0) none), (ps1.set (p.getD 0) (ps1.getD ((ps1.getD (p.getD 0) none).getD 0) none)), S.sub ⟨rfl, rfl, trivial⟩, GL0, ?_, HF, rfl⟩
   ·first | (obtain ⟨-, b2, b3, b4, b5⟩ := HH; rw [b3]; exact b4) | exact hj
   first | (obtain ⟨-, b2, b3, b4, b5⟩ := HH; rw [b3]; exact ⟨by omega, hc1, fun x => (b2 x).trans (hro x), (b2 _).trans (b5.trans hri)⟩) | exact ⟨by omega, hc0, hro, (Forest.root HF hp hc0).symm.trans hri⟩
  intro hc2
  refine wp_skip (then_n ?_)
  refine wp_region_lit ?_
  refine qm S rfl ?_; clear S a; intro a S
  refine qv S (pT (fB + (p.getD 0)) 0) (x_nodeck (S.e rfl) (by assumption)) ?_; clear S a; intro a S
  refine qv S (pT (fB + (p.getD 0)) (0 + 0)) (x_fld (z := 0) (0) 0 uT109 rfl rfl (by kernel_rfl) (S.e rfl)) ?_; clear S a; intro a S
  refine qv S (ptrOf fB (ps1.getD (p.getD 0) none)) (x_load ⟨_, uT107, rfl⟩ (S.e rfl) (HF.c0 (by omega))) ?_; clear S a; intro a S
  refine qa S rfl ?_; clear S a; intro a S
  refine wpList_nil ?_
  refine blk_n (then_n ?_)
  refine ⟨(ps1.getD (p.getD 0) none).getD 0, ?_, (ps1.getD (p.getD 0) none), ps1, S.sub ⟨rfl, rfl, trivial⟩, GL0, ?_, HF, rfl⟩
  ·first | (obtain ⟨-, b2, b3, b4, b5⟩ := HH; rw [b3]; exact b4) | exact hj
  first | (obtain ⟨-, b2, b3, b4, b5⟩ := HH; rw [b3]; exact ⟨by omega, hc1, fun x => (b2 x).trans (hro x), (b2 _).trans (b5.trans hri)⟩) | exact ⟨by omega, hc0, hro, (Forest.root HF hp hc0).symm.trans hri⟩
 intro hc3
 refine wp_exit (then_e (then_e (blk_e (then_n ?_))))
 refine qs ?_
 refine qm S rfl ?_; clear S a; intro a S
 refine qa S rfl ?_; clear S a; intro a S
 refine qt ?_
 refine wp_ret ?_
 refine ret1 rfl S rfl ?_
 refine ⟨ps1, (r1 ?_), HF, ?_, C⟩
 ·rw [ptr_some hpn]; congr 4; exact (HF.top hp (Classical.not_not.1 hc3)).symm.trans hri
 exact hro
set_option maxHeartbeats 2000000 in
set_option maxRecDepth 20000 in
theorem fJoin (w : World) (F : Nat → Prop) (hF : Old F w) (fB fn : Nat) (M : MS [span fB fn] w) (fps : List (Option Nat)) (HF : Forest 109 w.heap fB fn fps) (i : Nat) (i_h : i < fn) (j : Nat) (j_h : j < fn) :
 Calls Try.prog 92 #[pT (fB + i) 0, pT (fB + j) 0] w fun e w' => ∃ (ps1 : List (Option Nat)), e = .returned (.tuple #[]) ∧ Forest 109 w'.heap fB fn ps1 ∧ (∀ x, rootOf ps1 x = joinR (rootOf fps i) (rootOf fps j) (rootOf fps x)) ∧ Tr [span fB fn] w [span fB fn] w' := by
 have C : Tr [span fB fn] w [span fB fn] w := Tr.refl M
 refine enter Try.func92 rfl 28 rfl (Nat.le_of_ble_eq_true rfl) ?_
 intro a S
 refine qs ?_
 refine qm S rfl ?_; clear S a; intro a S
 refine seq_call S (by decide) (vs := #[pT (fB + i) 0]) rfl cB93 (fRoot _ (Ex F _) (C.old hF) fB fn (C.ms.picks [0] (by decide)) fps HF i (by omega)) ?_
 rintro e w1 ⟨ps_1, rfl, tHF, hf_1, T0⟩; refine ⟨_, rfl, ?_⟩; clear S a; intro a S
 have TT := Tr.fra C.ms T0; have G := T0.ch
 replace C := C.trans TT
 clear HF; have HF := tHF; clear tHF
 clear T0 G TT
 have hra : rootOf fps i < fn := by rw [← hf_1 i]; exact HF.rlt i_h
 refine qm S rfl ?_; clear S a; intro a S
 refine seq_call S (by decide) (vs := #[pT (fB + j) 0]) rfl cB93 (fRoot _ (Ex F _) (C.old hF) fB fn (C.ms.picks [0] (by decide)) ps_1 HF j (by omega)) ?_
 rintro e w2 ⟨ps_2, rfl, tHF, hf_2, T0⟩; refine ⟨_, rfl, ?_⟩; clear S a; intro a S
 have TT := Tr.fra C.ms T0; have G := T0.ch
 replace C := C.trans TT
 clear HF; have HF := tHF; clear tHF
 clear T0 G TT
 have hrb : rootOf ps_1 j < fn := by rw [← hf_2 j]; exact HF.rlt j_h
 have hab : rootOf ps_1 j = rootOf fps j := hf_1 j
 have na : ps_2[rootOf fps i]? = some none := by rw [← hf_1 i, ← hf_2 i]; exact HF.rootnil i_h
 have nb : ps_2[rootOf ps_1 j]? = some none := by rw [← hf_2 j]; exact HF.rootnil j_h
 refine qa S rfl ?_; clear S a; intro a S
 refine qa S rfl ?_; clear S a; intro a S
 refine qt ?_
 refine wp_seq ?_
 refine qs ?_
 refine qm S rfl ?_; clear S a; intro a S
 refine qm S rfl ?_; clear S a; intro a S
 refine qv S (bD ((rootOf fps i) = (rootOf ps_1 j))) (x_nodeq uT107 (by kernel_rfl) HF (by omega) (by omega) (S.e rfl) (S.e rfl)) ?_; clear S a; intro a S
 refine qt ?_
 refine cond_dec S rfl ?_ ?_
 ·intro hc0
  refine wp_ret (then_r ?_)
  refine ret0 rfl S  ?_
  refine ⟨ps_2, rfl, HF, ?_, C⟩
  intro x; rw [hf_2, hf_1]; unfold joinR; split <;> omega
 intro hc1
 refine wp_skip (then_n (wp_seq (wp_seq ?_)))
 replace S := S.sub (L' := [(0, pT (fB + i) 0), (1, pT (fB + j) 0), (6, pT (fB + i) 0), (7, pT (fB + (rootOf fps i)) 0), (8, pT (fB + j) 0), (9, pT (fB + (rootOf ps_1 j)) 0), (4, pT (fB + (rootOf fps i)) 0), (5, pT (fB + (rootOf ps_1 j)) 0), (10, pT (fB + (rootOf fps i)) 0), (11, pT (fB + (rootOf ps_1 j)) 0), (12, bD ((rootOf fps i) = (rootOf ps_1 j)))]) ⟨rfl, rfl, rfl, rfl, rfl, rfl, rfl, rfl, rfl, rfl, rfl, trivial⟩
 refine wp_heads (M := In []) S 9 [(13, iV (pT (fB + (rootOf fps i)) 0)), (14, iV (pT (fB + (rootOf fps i)) 0)), (15, iV (pT (fB + (rootOf fps i)) (0 + 1))), (16, iV (iN (rootOf fps i))), (17, iV (pT (fB + (rootOf ps_1 j)) 0)), (18, iV (pT (fB + (rootOf ps_1 j)) 0)), (19, iV (pT (fB + (rootOf ps_1 j)) (0 + 1))), (20, iV (iN (rootOf ps_1 j))), (21, iV (bD ((((rootOf ps_1 j) : Nat) : Int) < (((rootOf fps i) : Nat) : Int))))] (fun w => True) [[], [13], [14], [15], [], [17], [18], [19], [16, 20]] [21] _ rfl mixed (by kernel_rfl) rfl trivial ?_ ?_
 ·refine ⟨?_, ?_, ?_, ?_, ?_, ?_, ?_, ?_, ?_, trivial⟩
  ·intro a w3 G I S hE
   have TT := Tr.of_ch C.ms G (fun _ h => by simp at h)
   replace HF := Forest.tr0 HF G
   replace C := C.trans TT
   exact qo (pT (fB + (rootOf fps i)) 0) (x_move (S.e rfl)) I
  ·intro a w4 G I S hE
   have TT := Tr.of_ch C.ms G (fun _ h => by simp at h)
   replace HF := Forest.tr0 HF G
   replace C := C.trans TT
   obtain ⟨e13, _⟩ := hE
   replace S := S.ext e13
   exact qo (pT (fB + (rootOf fps i)) 0) (x_nilck (S.e rfl)) I
  ·intro a w5 G I S hE
   have TT := Tr.of_ch C.ms G (fun _ h => by simp at h)
   replace HF := Forest.tr0 HF G
   replace C := C.trans TT
   obtain ⟨e14, _⟩ := hE
   replace S := S.ext e14
   exact qo (pT (fB + (rootOf fps i)) (0 + 1)) (x_fld (z := 0) (0) 1 uT109 rfl rfl (by kernel_rfl) (S.e rfl)) I
  ·intro a w6 G I S hE
   have TT := Tr.of_ch C.ms G (fun _ h => by simp at h)
   replace HF := Forest.tr0 HF G
   replace C := C.trans TT
   obtain ⟨e15, _⟩ := hE
   replace S := S.ext e15
   exact qo (iN (rootOf fps i)) (x_load ⟨_, uT3, rfl⟩ (S.e rfl) (HF.c1 (by omega))) I
  ·intro a w7 G I S hE
   have TT := Tr.of_ch C.ms G (fun _ h => by simp at h)
   replace HF := Forest.tr0 HF G
   replace C := C.trans TT
   exact qo (pT (fB + (rootOf ps_1 j)) 0) (x_move (S.e rfl)) I
  ·intro a w8 G I S hE
   have TT := Tr.of_ch C.ms G (fun _ h => by simp at h)
   replace HF := Forest.tr0 HF G
   replace C := C.trans TT
   obtain ⟨e17, _⟩ := hE
   replace S := S.ext e17
   exact qo (pT (fB + (rootOf ps_1 j)) 0) (x_nilck (S.e rfl)) I
  ·intro a w9 G I S hE
   have TT := Tr.of_ch C.ms G (fun _ h => by simp at h)
   replace HF := Forest.tr0 HF G
   replace C := C.trans TT
   obtain ⟨e18, _⟩ := hE
   replace S := S.ext e18
   exact qo (pT (fB + (rootOf ps_1 j)) (0 + 1)) (x_fld (z := 0) (0) 1 uT109 rfl rfl (by kernel_rfl) (S.e rfl)) I
  ·intro a w10 G I S hE
   have TT := Tr.of_ch C.ms G (fun _ h => by simp at h)
   replace HF := Forest.tr0 HF G
   replace C := C.trans TT
   obtain ⟨e19, _⟩ := hE
   replace S := S.ext e19
   exact qo (iN (rootOf ps_1 j)) (x_load ⟨_, uT3, rfl⟩ (S.e rfl) (HF.c1 (by omega))) I
  intro a w11 G I S hE
  have TT := Tr.of_ch C.ms G (fun _ h => by simp at h)
  replace C := C.trans TT
  obtain ⟨e16, e20, _⟩ := hE
  replace S := S.ext e16
  replace S := S.ext e20
  exact qo (bD ((((rootOf ps_1 j) : Nat) : Int) < (((rootOf fps i) : Nat) : Int))) (x_gtr (S.e rfl) (S.e rfl)) I
 clear S a; intro a w12 G I S hE; have TT := Tr.of_ch C.ms G (fun _ h => by simp at h)
 replace HF := Forest.tr0 HF G
 replace C := C.trans TT
 clear TT G
 obtain ⟨e21, -⟩ := hE
 replace S := S.ext e21
 clear e21
 refine qt ?_
 refine cond_dec S rfl ?_ ?_
 ·intro hc2
  have HG := (root_hang HF.down na nb (by omega)).2
  refine wp_region_lit ?_
  refine qm S rfl ?_; clear S a; intro a S
  refine qm S rfl ?_; clear S a; intro a S
  refine qa S rfl ?_; clear S a; intro a S
  refine qa S rfl ?_; clear S a; intro a S
  refine qt ?_
  refine wp_region_lit ?_
  refine qm S rfl ?_; clear S a; intro a S
  refine qm S rfl ?_; clear S a; intro a S
  refine qv S (pT (fB + (rootOf fps i)) 0) (x_nilck (S.e rfl)) ?_; clear S a; intro a S
  refine qv S (pT (fB + (rootOf fps i)) (0 + 0)) (x_fld (z := 0) (0) 0 uT109 rfl rfl (by kernel_rfl) (S.e rfl)) ?_; clear S a; intro a S
  have hd : Down (ps_2.set (rootOf fps i) (some (rootOf ps_1 j))) := by
   exact (root_hang HF.down na nb (by omega)).1
  refine seq_store0 S rfl rfl (x_store (v := ptrOf fB (some (rootOf ps_1 j))) (by kernel_rfl) (S.e rfl) (S.e rfl) rfl (HF.blk (rootOf fps i) (by omega)) (o := 0 + 0) (u := ptrOf fB _) rfl) ?_
  clear S a; intro a w13 hw G hz S; have TT := Tr.of_ch C.ms (G.mono (fun k e => e.elim (fun e => (show In [span fB fn] k from .inl (by unfold one at e; unfold span; omega))) False.elim)) (by intro o h; simp at h ⊢; first | exact .inl h | simp [h])
  have G2 : Ch (In [span fB fn]) w12 w13 := G.mono (fun k e => e.elim (fun e => .inl (by unfold one at e; unfold span; omega)) False.elim)
  have HN : Forest 109 w13.heap fB fn (ps_2.set (rootOf fps i) (some (rootOf ps_1 j))) := by rw [hw]; exact HF.set (by omega) _ hd
  replace C := C.trans TT
  clear hw hz hd HF; have HF := HN; clear HN TT G G2
  refine wpList_nil ?_
  refine end0 rfl S ?_
  refine ⟨(ps_2.set (rootOf fps i) (some (rootOf ps_1 j))), rfl, HF, ?_, C⟩
  intro x; rw [HG, hf_2, hf_1]; unfold joinR; split <;> split <;> omega
 intro hc3
 have HG := (root_hang HF.down nb na (by omega)).2
 refine wp_skip (then_n ?_)
 refine wp_region_lit ?_
 refine qm S rfl ?_; clear S a; intro a S
 refine qm S rfl ?_; clear S a; intro a S
 refine qv S (pT (fB + (rootOf ps_1 j)) 0) (x_nilck (S.e rfl)) ?_; clear S a; intro a S
 refine qv S (pT (fB + (rootOf ps_1 j)) (0 + 0)) (x_fld (z := 0) (0) 0 uT109 rfl rfl (by kernel_rfl) (S.e rfl)) ?_; clear S a; intro a S
 have hd : Down (ps_2.set (rootOf ps_1 j) (some (rootOf fps i))) := by
  exact (root_hang HF.down nb na (by omega)).1
 refine seq_store0 S rfl rfl (x_store (v := ptrOf fB (some (rootOf fps i))) (by kernel_rfl) (S.e rfl) (S.e rfl) rfl (HF.blk (rootOf ps_1 j) (by omega)) (o := 0 + 0) (u := ptrOf fB _) rfl) ?_
 clear S a; intro a w14 hw G hz S; have TT := Tr.of_ch C.ms (G.mono (fun k e => e.elim (fun e => (show In [span fB fn] k from .inl (by unfold one at e; unfold span; omega))) False.elim)) (by intro o h; simp at h ⊢; first | exact .inl h | simp [h])
 have G2 : Ch (In [span fB fn]) w12 w14 := G.mono (fun k e => e.elim (fun e => .inl (by unfold one at e; unfold span; omega)) False.elim)
 have HN : Forest 109 w14.heap fB fn (ps_2.set (rootOf ps_1 j) (some (rootOf fps i))) := by rw [hw]; exact HF.set (by omega) _ hd
 replace C := C.trans TT
 clear hw hz hd HF; have HF := HN; clear HN TT G G2
 refine wpList_nil ?_
 refine end0 rfl S ?_
 refine ⟨(ps_2.set (rootOf ps_1 j) (some (rootOf fps i))), rfl, HF, ?_, C⟩
 intro x; rw [HG, hf_2, hf_1]; unfold joinR; split <;> split <;> omega
end Go.Proofs.Ytfanmniaolncbaa.V
