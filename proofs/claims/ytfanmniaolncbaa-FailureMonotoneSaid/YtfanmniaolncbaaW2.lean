/- alive, IndexFunc, Device, Edge -/
import Derived.Test.YtfanmniaolncbaaW1
import Derived.Test.YtfanmniaolncbaaTopV
namespace Go.Proofs.Ytfanmniaolncbaa.V
open Go.RowKit Go.Proofs.Ytfanmniaolncbaa
set_option linter.unusedVariables false
set_option linter.unusedSimpArgs false
noncomputable instance {α : Type} (l : List α) (p : α → Prop) : Decidable (∃ x ∈ l, p x) := Classical.propDecidable _
set_option maxHeartbeats 2000000 in
set_option maxRecDepth 20000 in
theorem fAlive0 (w : World) (F : Nat → Prop) (hF : Old F w) (M : MS [] w) (f : Fail) (f_w : failE.wf (Fr F []) w.heap f) (d : Int) (d_h : inI64 d) :
 Calls Try.prog 63 #[fV f, iI d] w fun e w' => e = .returned (bD (¬ (d ∈ f.devs.xs))) ∧ Tr [] w [] w' := by
 have C : Tr [] w [] w := Tr.refl M
 have : f.links.xs.length ≤ 9223372036854775807 := (f_w.1).1.len
 have : f.devs.xs.length ≤ 9223372036854775807 := (f_w.2).1.len
 obtain ⟨d_hl, d_hu⟩ : inI64 d := id d_h
 refine enter Try.func63 rfl 10 rfl (Nat.le_of_ble_eq_true rfl) ?_
 intro a S
 refine qs ?_
 refine seq_new S rfl rfl (by decide) (fun b => pT b 0) (cs := (fL f)) (x_box (fL f) (S.e rfl) rfl) ?_
 clear S a; intro a w1 b1 hb1 hbs1 G K1 S; have hbl1 : b1 < w1.heap.size := by omega
 have TT := Tr.fresh C.ms hb1 hbl1 G
 replace f_w := Enc.tr (failE) f_w TT
 replace C := C.trans TT
 clear TT G
 refine qa S rfl ?_; clear S a; intro a S
 refine qt ?_
 refine qs ?_
 refine qv S (pT b1 (0 + 1)) (x_fld (z := 0) (0) 1 Try.underlying41 rfl rfl (by kernel_rfl) (S.e rfl)) ?_; clear S a; intro a S
 refine qv S (sV f.devs) (x_load ⟨_, Try.underlying22, rfl⟩ (S.e rfl) (K1.cell (j := 1) rfl)) ?_; clear S a; intro a S
 refine qm S rfl ?_; clear S a; intro a S
 refine seq_call S (by decide) (vs := #[sV f.devs, iI d]) rfl callable_94 (sContains _ (Ex F _) (C.old hF)  (MS.nil _) f.devs ((slE intE).down0 f_w.2) d d_h) ?_
 rintro e w2 ⟨rfl, T0⟩; refine ⟨_, rfl, ?_⟩; clear S a; intro a S
 have TT := Tr.framed0 C.ms T0; have G := T0.ch
 replace f_w := Enc.tr (failE) f_w TT
 replace K1 := Blk.tr0 K1 G
 replace C := C.trans TT
 clear T0 G TT
 refine qv S (bD (¬ (d ∈ f.devs.xs))) (x_notp (S.e rfl)) ?_; clear S a; intro a S
 refine qa S rfl ?_; clear S a; intro a S
 refine qt ?_
 refine wp_ret ?_
 refine ret1 rfl S rfl ?_
 have TD : Tr [one b1] w2 [] w2 := Tr.drop C.ms [] (by decide)
 have GD : Ch (In []) w2 w2 := Ch.refl _
 clear K1
 replace f_w := Enc.tr (failE) f_w TD
 replace C := C.trans TD
 clear TD GD
 refine ⟨(r1 (vb ?_)), C⟩
 first | exact Iff.rfl | assumption | omega | simp_all
set_option maxHeartbeats 2000000 in
set_option maxRecDepth 20000 in
theorem iDev (w : World) (F : Nat → Prop) (hF : Old F w) (M : MS [] w) (s : Sl Dev) (s_w : (slE devE).wf (Fr F []) w.heap s) (p : Dev → Prop) [DecidablePred p] (p_f : FuncId) (p_caps : Array Value) (p_T : Tests Try.prog devE w p_f p_caps s.xs p) :
 Calls Try.prog 100 #[sV s, .func (.func p_f) #[] p_caps] w fun e w' => e = .returned (iI (idxOf (fun x => decide (p x)) s.xs)) ∧ Tr [] w [] w' := by
 have C : Tr [] w [] w := Tr.refl M
 have : s.xs.length ≤ 9223372036854775807 := (s_w).1.len
 refine enter Try.func100 rfl 19 rfl (Nat.le_of_ble_eq_true rfl) ?_
 intro a S
 refine qs ?_
 refine qa S rfl ?_; clear S a; intro a S
 refine qt ?_
 refine wp_seq ?_
 refine qs ?_
 refine qm S rfl ?_; clear S a; intro a S
 have hn1 : s.xs.length ≤ 9223372036854775807 := (s_w).1.len
 refine qv S (iN s.xs.length) (x_len Try.underlying23 (S.e rfl)) ?_; clear S a; intro a S
 refine qm S rfl ?_; clear S a; intro a S
 refine qt ?_
 refine wp_block ?_
 refine wp_loop_ghost (fun m a wr => ∃ k : Nat, Slots 19 [(0, sV s), (1, .func (.func p_f) #[] p_caps), (7, iN s.xs.length), (8, iN k)] a ∧ Tr [] w [] wr ∧ (k ≤ s.xs.length ∧ ∀ j, j < k → decide (p (s.xs.getD j devE.dflt)) = false) ∧ (s.xs.length - k) = m) (s.xs.length - 0) ?_ ?_
 ·refine ⟨0, S.sub ⟨rfl, rfl, rfl, rfl, trivial⟩, Tr.refl C.ms, ?_, rfl⟩
  exact ⟨Nat.zero_le _, fun j hj => by omega⟩
 rintro m a w1 ⟨k, S, G, hR, rfl⟩
 replace s_w := Enc.tr (slE devE) s_w G
 replace C := C.trans G
 have GL0 := G; clear G
 obtain ⟨hk, hn⟩ := hR
 refine qs ?_
 refine qv S (bD (((k : Nat) : Int) < ((s.xs.length : Nat) : Int))) (x_lss (S.e rfl) (S.e rfl)) ?_; clear S a; intro a S
 refine qt ?_
 refine wp_seq ?_
 refine cond_dec S rfl ?_ ?_
 ·intro hc0
  refine wp_skip ?_
  refine then_n ?_
  refine wp_seq ?_
  refine wp_block ?_
  refine qs ?_
  refine qm S rfl ?_; clear S a; intro a S
  refine qa S rfl ?_; clear S a; intro a S
  refine qt ?_
  refine qs ?_
  refine qm S rfl ?_; clear S a; intro a S
  refine qm S rfl ?_; clear S a; intro a S
  refine qm S rfl ?_; clear S a; intro a S
  refine qv S (pT (blk s.a) (off s.a + k * 5)) (x_idx Try.underlying23 (by kernel_rfl) (S.e rfl) (S.e rfl) k rfl (by omega) ((s_w).1.adr (i := k) (by omega))) ?_; clear S a; intro a S
  obtain ⟨hl2, hu2⟩ : inI64 ((s.xs.getD k devE.dflt).cap) := id (((s_w).1.wf k (by omega)).2.1)
  refine qv S _ (x_loadw [.string ((s.xs.getD k devE.dflt).name), iI ((s.xs.getD k devE.dflt).cap), bD ((s.xs.getD k devE.dflt).rng = true), bD ((s.xs.getD k devE.dflt).vol = true), .string ((s.xs.getD k devE.dflt).cls)] ⟨_, Try.underlying65, rfl, by kernel_rfl⟩ (S.e rfl) ((s_w).1.wcell k (by omega) _ rfl _ rfl)) ?_; clear S a; intro a S
  refine seq_callv S (by decide) rfl (vs := #[.agg #[.string ((s.xs.getD k devE.dflt).name), iI ((s.xs.getD k devE.dflt).cap), bD ((s.xs.getD k devE.dflt).rng = true), bD ((s.xs.getD k devE.dflt).vol = true), .string ((s.xs.getD k devE.dflt).cls)]]) rfl p_T.1 (p_T.2 _ (Tr.drop0 C rfl) k (by omega)) ?_
  rintro e w2 ⟨rfl, G⟩; refine ⟨_, rfl, ?_⟩; clear S a; intro a S; have TT := Tr.framed0 C.ms G; replace G := G.ch
  replace s_w := Enc.tr (slE devE) s_w TT
  replace GL0 := GL0.trans TT
  replace C := C.trans TT
  refine qt ?_
  refine cond_dec S rfl ?_ ?_
  ·intro hc1
   refine qs ?_
   refine qm S rfl ?_; clear S a; intro a S
   refine qa S rfl ?_; clear S a; intro a S
   refine qt ?_
   refine wp_ret ?_
   refine blk_r ?_
   refine then_r ?_
   refine then_r ?_
   refine blk_r ?_
   refine then_r ?_
   refine ret1 rfl S rfl ?_
   refine ⟨(r1 (vi ?_)), C⟩
   exact (idxOf_some (d := devE.dflt) (by omega) (decide_eq_true (by assumption)) hn).symm
  intro hc2
  refine wp_skip ?_
  refine blk_n ?_
  refine then_n ?_
  refine wp_region_lit ?_
  refine qv S (iN (k + 1)) (x_add (S.e rfl) (S.e rfl) (r := ((k + 1 : Nat) : Int)) (w_i64 (by omega))) ?_; clear S a; intro a S
  refine qm S rfl ?_; clear S a; intro a S
  refine qt ?_
  refine ⟨s.xs.length - (k + 1), ?_, k + 1, S.sub ⟨rfl, rfl, rfl, rfl, trivial⟩, GL0, ?_, rfl⟩
  ·omega
  refine ⟨by omega, fun j hj => ?_⟩
  rcases Nat.lt_succ_iff_lt_or_eq.1 hj with h | h
  ·exact hn j h
  subst h; exact decide_eq_false (by assumption)
 intro hc3
 refine wp_exit ?_
 refine then_e ?_
 refine then_e ?_
 refine blk_e ?_
 refine then_n ?_
 refine qs ?_
 refine qa S rfl ?_; clear S a; intro a S
 refine qt ?_
 refine wp_ret ?_
 refine ret1 rfl S rfl ?_
 refine ⟨(r1 (vi ?_)), C⟩
 exact (idxOf_none (d := devE.dflt) (fun j hj => hn j (by omega))).symm
set_option maxHeartbeats 2000000 in
set_option maxRecDepth 20000 in
theorem iEdg (w : World) (F : Nat → Prop) (hF : Old F w) (M : MS [] w) (s : Sl Edg) (s_w : (slE edgE).wf (Fr F []) w.heap s) (p : Edg → Prop) [DecidablePred p] (p_f : FuncId) (p_caps : Array Value) (p_T : Tests Try.prog edgE w p_f p_caps s.xs p) :
 Calls Try.prog 102 #[sV s, .func (.func p_f) #[] p_caps] w fun e w' => e = .returned (iI (idxOf (fun x => decide (p x)) s.xs)) ∧ Tr [] w [] w' := by
 have C : Tr [] w [] w := Tr.refl M
 have : s.xs.length ≤ 9223372036854775807 := (s_w).1.len
 refine enter Try.func102 rfl 19 rfl (Nat.le_of_ble_eq_true rfl) ?_
 intro a S
 refine qs ?_
 refine qa S rfl ?_; clear S a; intro a S
 refine qt ?_
 refine wp_seq ?_
 refine qs ?_
 refine qm S rfl ?_; clear S a; intro a S
 have hn1 : s.xs.length ≤ 9223372036854775807 := (s_w).1.len
 refine qv S (iN s.xs.length) (x_len Try.underlying25 (S.e rfl)) ?_; clear S a; intro a S
 refine qm S rfl ?_; clear S a; intro a S
 refine qt ?_
 refine wp_block ?_
 refine wp_loop_ghost (fun m a wr => ∃ k : Nat, Slots 19 [(0, sV s), (1, .func (.func p_f) #[] p_caps), (7, iN s.xs.length), (8, iN k)] a ∧ Tr [] w [] wr ∧ (k ≤ s.xs.length ∧ ∀ j, j < k → decide (p (s.xs.getD j edgE.dflt)) = false) ∧ (s.xs.length - k) = m) (s.xs.length - 0) ?_ ?_
 ·refine ⟨0, S.sub ⟨rfl, rfl, rfl, rfl, trivial⟩, Tr.refl C.ms, ?_, rfl⟩
  exact ⟨Nat.zero_le _, fun j hj => by omega⟩
 rintro m a w1 ⟨k, S, G, hR, rfl⟩
 replace s_w := Enc.tr (slE edgE) s_w G
 replace C := C.trans G
 have GL0 := G; clear G
 obtain ⟨hk, hn⟩ := hR
 refine qs ?_
 refine qv S (bD (((k : Nat) : Int) < ((s.xs.length : Nat) : Int))) (x_lss (S.e rfl) (S.e rfl)) ?_; clear S a; intro a S
 refine qt ?_
 refine wp_seq ?_
 refine cond_dec S rfl ?_ ?_
 ·intro hc0
  refine wp_skip ?_
  refine then_n ?_
  refine wp_seq ?_
  refine wp_block ?_
  refine qs ?_
  refine qm S rfl ?_; clear S a; intro a S
  refine qa S rfl ?_; clear S a; intro a S
  refine qt ?_
  refine qs ?_
  refine qm S rfl ?_; clear S a; intro a S
  refine qm S rfl ?_; clear S a; intro a S
  refine qm S rfl ?_; clear S a; intro a S
  refine qv S (pT (blk s.a) (off s.a + k * 6)) (x_idx Try.underlying25 (by kernel_rfl) (S.e rfl) (S.e rfl) k rfl (by omega) ((s_w).1.adr (i := k) (by omega))) ?_; clear S a; intro a S
  obtain ⟨hl2, hu2⟩ : inI64 ((s.xs.getD k edgE.dflt).dev) := id (((s_w).1.wf k (by omega)).2.1)
  obtain ⟨hl3, hu3⟩ : inU32 ((s.xs.getD k edgE.dflt).pfx.addr) := id (((s_w).1.wf k (by omega)).2.2.2.1.1)
  obtain ⟨hl4, hu4⟩ : inI64 ((s.xs.getD k edgE.dflt).pfx.bits) := id (((s_w).1.wf k (by omega)).2.2.2.1.2)
  refine qv S _ (x_loadw [.string ((s.xs.getD k edgE.dflt).name), iI ((s.xs.getD k edgE.dflt).dev), .string ((s.xs.getD k edgE.dflt).zone), .int .u32 ((s.xs.getD k edgE.dflt).pfx.addr), iI ((s.xs.getD k edgE.dflt).pfx.bits), bD ((s.xs.getD k edgE.dflt).planned = true)] ⟨_, Try.underlying71, rfl, by kernel_rfl⟩ (S.e rfl) ((s_w).1.wcell k (by omega) _ rfl _ rfl)) ?_; clear S a; intro a S
  refine seq_callv S (by decide) rfl (vs := #[.agg #[.string ((s.xs.getD k edgE.dflt).name), iI ((s.xs.getD k edgE.dflt).dev), .string ((s.xs.getD k edgE.dflt).zone), .int .u32 ((s.xs.getD k edgE.dflt).pfx.addr), iI ((s.xs.getD k edgE.dflt).pfx.bits), bD ((s.xs.getD k edgE.dflt).planned = true)]]) rfl p_T.1 (p_T.2 _ (Tr.drop0 C rfl) k (by omega)) ?_
  rintro e w2 ⟨rfl, G⟩; refine ⟨_, rfl, ?_⟩; clear S a; intro a S; have TT := Tr.framed0 C.ms G; replace G := G.ch
  replace s_w := Enc.tr (slE edgE) s_w TT
  replace GL0 := GL0.trans TT
  replace C := C.trans TT
  refine qt ?_
  refine cond_dec S rfl ?_ ?_
  ·intro hc1
   refine qs ?_
   refine qm S rfl ?_; clear S a; intro a S
   refine qa S rfl ?_; clear S a; intro a S
   refine qt ?_
   refine wp_ret ?_
   refine blk_r ?_
   refine then_r ?_
   refine then_r ?_
   refine blk_r ?_
   refine then_r ?_
   refine ret1 rfl S rfl ?_
   refine ⟨(r1 (vi ?_)), C⟩
   exact (idxOf_some (d := edgE.dflt) (by omega) (decide_eq_true (by assumption)) hn).symm
  intro hc2
  refine wp_skip ?_
  refine blk_n ?_
  refine then_n ?_
  refine wp_region_lit ?_
  refine qv S (iN (k + 1)) (x_add (S.e rfl) (S.e rfl) (r := ((k + 1 : Nat) : Int)) (w_i64 (by omega))) ?_; clear S a; intro a S
  refine qm S rfl ?_; clear S a; intro a S
  refine qt ?_
  refine ⟨s.xs.length - (k + 1), ?_, k + 1, S.sub ⟨rfl, rfl, rfl, rfl, trivial⟩, GL0, ?_, rfl⟩
  ·omega
  refine ⟨by omega, fun j hj => ?_⟩
  rcases Nat.lt_succ_iff_lt_or_eq.1 hj with h | h
  ·exact hn j h
  subst h; exact decide_eq_false (by assumption)
 intro hc3
 refine wp_exit ?_
 refine then_e ?_
 refine then_e ?_
 refine blk_e ?_
 refine then_n ?_
 refine qs ?_
 refine qa S rfl ?_; clear S a; intro a S
 refine qt ?_
 refine wp_ret ?_
 refine ret1 rfl S rfl ?_
 refine ⟨(r1 (vi ?_)), C⟩
 exact (idxOf_none (d := edgE.dflt) (fun j hj => hn j (by omega))).symm
set_option maxHeartbeats 2000000 in
set_option maxRecDepth 20000 in
theorem iPfx (w : World) (F : Nat → Prop) (hF : Old F w) (M : MS [] w) (s : Sl Pfx) (s_w : (slE pfxE).wf (Fr F []) w.heap s) (p : Pfx → Prop) [DecidablePred p] (p_f : FuncId) (p_caps : Array Value) (p_T : Tests Try.prog pfxE w p_f p_caps s.xs p) :
 Calls Try.prog 106 #[sV s, .func (.func p_f) #[] p_caps] w fun e w' => e = .returned (iI (idxOf (fun x => decide (p x)) s.xs)) ∧ Tr [] w [] w' := by
 have C : Tr [] w [] w := Tr.refl M
 have : s.xs.length ≤ 9223372036854775807 := (s_w).1.len
 refine enter Try.func106 rfl 19 rfl (Nat.le_of_ble_eq_true rfl) ?_
 intro a S
 refine qs ?_
 refine qa S rfl ?_; clear S a; intro a S
 refine qt ?_
 refine wp_seq ?_
 refine qs ?_
 refine qm S rfl ?_; clear S a; intro a S
 have hn1 : s.xs.length ≤ 9223372036854775807 := (s_w).1.len
 refine qv S (iN s.xs.length) (x_len Try.underlying26 (S.e rfl)) ?_; clear S a; intro a S
 refine qm S rfl ?_; clear S a; intro a S
 refine qt ?_
 refine wp_block ?_
 refine wp_loop_ghost (fun m a wr => ∃ k : Nat, Slots 19 [(0, sV s), (1, .func (.func p_f) #[] p_caps), (7, iN s.xs.length), (8, iN k)] a ∧ Tr [] w [] wr ∧ (k ≤ s.xs.length ∧ ∀ j, j < k → decide (p (s.xs.getD j pfxE.dflt)) = false) ∧ (s.xs.length - k) = m) (s.xs.length - 0) ?_ ?_
 ·refine ⟨0, S.sub ⟨rfl, rfl, rfl, rfl, trivial⟩, Tr.refl C.ms, ?_, rfl⟩
  exact ⟨Nat.zero_le _, fun j hj => by omega⟩
 rintro m a w1 ⟨k, S, G, hR, rfl⟩
 replace s_w := Enc.tr (slE pfxE) s_w G
 replace C := C.trans G
 have GL0 := G; clear G
 obtain ⟨hk, hn⟩ := hR
 refine qs ?_
 refine qv S (bD (((k : Nat) : Int) < ((s.xs.length : Nat) : Int))) (x_lss (S.e rfl) (S.e rfl)) ?_; clear S a; intro a S
 refine qt ?_
 refine wp_seq ?_
 refine cond_dec S rfl ?_ ?_
 ·intro hc0
  refine wp_skip ?_
  refine then_n ?_
  refine wp_seq ?_
  refine wp_block ?_
  refine qs ?_
  refine qm S rfl ?_; clear S a; intro a S
  refine qa S rfl ?_; clear S a; intro a S
  refine qt ?_
  refine qs ?_
  refine qm S rfl ?_; clear S a; intro a S
  refine qm S rfl ?_; clear S a; intro a S
  refine qm S rfl ?_; clear S a; intro a S
  refine qv S (pT (blk s.a) (off s.a + k * 2)) (x_idx Try.underlying26 (by kernel_rfl) (S.e rfl) (S.e rfl) k rfl (by omega) ((s_w).1.adr (i := k) (by omega))) ?_; clear S a; intro a S
  obtain ⟨hl2, hu2⟩ : inU32 ((s.xs.getD k pfxE.dflt).addr) := id (((s_w).1.wf k (by omega)).1)
  obtain ⟨hl3, hu3⟩ : inI64 ((s.xs.getD k pfxE.dflt).bits) := id (((s_w).1.wf k (by omega)).2)
  refine qv S _ (x_loadw [.int .u32 ((s.xs.getD k pfxE.dflt).addr), iI ((s.xs.getD k pfxE.dflt).bits)] ⟨_, Try.underlying68, rfl, by kernel_rfl⟩ (S.e rfl) ((s_w).1.wcell k (by omega) _ rfl _ rfl)) ?_; clear S a; intro a S
  refine seq_callv S (by decide) rfl (vs := #[.agg #[.int .u32 ((s.xs.getD k pfxE.dflt).addr), iI ((s.xs.getD k pfxE.dflt).bits)]]) rfl p_T.1 (p_T.2 _ (Tr.drop0 C rfl) k (by omega)) ?_
  rintro e w2 ⟨rfl, G⟩; refine ⟨_, rfl, ?_⟩; clear S a; intro a S; have TT := Tr.framed0 C.ms G; replace G := G.ch
  replace s_w := Enc.tr (slE pfxE) s_w TT
  replace GL0 := GL0.trans TT
  replace C := C.trans TT
  refine qt ?_
  refine cond_dec S rfl ?_ ?_
  ·intro hc1
   refine qs ?_
   refine qm S rfl ?_; clear S a; intro a S
   refine qa S rfl ?_; clear S a; intro a S
   refine qt ?_
   refine wp_ret ?_
   refine blk_r ?_
   refine then_r ?_
   refine then_r ?_
   refine blk_r ?_
   refine then_r ?_
   refine ret1 rfl S rfl ?_
   refine ⟨(r1 (vi ?_)), C⟩
   exact (idxOf_some (d := pfxE.dflt) (by omega) (decide_eq_true (by assumption)) hn).symm
  intro hc2
  refine wp_skip ?_
  refine blk_n ?_
  refine then_n ?_
  refine wp_region_lit ?_
  refine qv S (iN (k + 1)) (x_add (S.e rfl) (S.e rfl) (r := ((k + 1 : Nat) : Int)) (w_i64 (by omega))) ?_; clear S a; intro a S
  refine qm S rfl ?_; clear S a; intro a S
  refine qt ?_
  refine ⟨s.xs.length - (k + 1), ?_, k + 1, S.sub ⟨rfl, rfl, rfl, rfl, trivial⟩, GL0, ?_, rfl⟩
  ·omega
  refine ⟨by omega, fun j hj => ?_⟩
  rcases Nat.lt_succ_iff_lt_or_eq.1 hj with h | h
  ·exact hn j h
  subst h; exact decide_eq_false (by assumption)
 intro hc3
 refine wp_exit ?_
 refine then_e ?_
 refine then_e ?_
 refine blk_e ?_
 refine then_n ?_
 refine qs ?_
 refine qa S rfl ?_; clear S a; intro a S
 refine qt ?_
 refine wp_ret ?_
 refine ret1 rfl S rfl ?_
 refine ⟨(r1 (vi ?_)), C⟩
 exact (idxOf_none (d := pfxE.dflt) (fun j hj => hn j (by omega))).symm
set_option maxHeartbeats 2000000 in
set_option maxRecDepth 20000 in
theorem pContains (w : World) (F : Nat → Prop) (hF : Old F w) (M : MS [] w) (s : Sl Pfx) (s_w : (slE pfxE).wf (Fr F []) w.heap s) (p : Pfx → Prop) [DecidablePred p] (p_f : FuncId) (p_caps : Array Value) (p_T : Tests Try.prog pfxE w p_f p_caps s.xs p) :
 Calls Try.prog 84 #[sV s, .func (.func p_f) #[] p_caps] w fun e w' => e = .returned (bD (∃ x ∈ s.xs, p x)) ∧ Tr [] w [] w' := by
 have C : Tr [] w [] w := Tr.refl M
 have : s.xs.length ≤ 9223372036854775807 := (s_w).1.len
 refine enter Try.func84 rfl 9 rfl (Nat.le_of_ble_eq_true rfl) ?_
 intro a S
 refine qs ?_
 refine qa S rfl ?_; clear S a; intro a S
 refine qt ?_
 refine qs ?_
 refine qm S rfl ?_; clear S a; intro a S
 refine qm S rfl ?_; clear S a; intro a S
 refine seq_call S (by decide) (vs := #[sV s, .func (.func p_f) #[] p_caps]) rfl callable_106 (iPfx _ (Ex F _) (C.old hF)  (MS.nil _) s ((slE pfxE).down0 s_w) p _ _ p_T) ?_
 rintro e w1 ⟨rfl, T0⟩; refine ⟨_, rfl, ?_⟩; clear S a; intro a S
 have TT := Tr.framed0 C.ms T0; have G := T0.ch
 replace s_w := Enc.tr (slE pfxE) s_w TT
 replace C := C.trans TT
 clear T0 G TT
 refine qv S (bD (0 ≤ idxOf (fun x => decide (p x)) s.xs)) (x_geq (S.e rfl) (S.e rfl)) ?_; clear S a; intro a S
 refine qa S rfl ?_; clear S a; intro a S
 refine qt ?_
 refine wp_ret ?_
 refine ret1 rfl S rfl ?_
 refine ⟨(r1 (vb ?_)), C⟩
 exact idxOf_nonneg_p _ _
set_option maxHeartbeats 2000000 in
set_option maxRecDepth 20000 in
theorem tDevice1 (w : World) (F : Nat → Prop) (hF : Old F w) (M : MS [] w) (d : Dev) (d_w : devE.wf (Fr F []) w.heap d) (nm : ByteArray) (nm_w : strE.wf (Fr F []) w.heap nm) (nm_b : Nat) (nm_K : Blk w.heap nm_b [.string nm] 9) :
 Calls Try.prog 101 #[.agg #[.string d.name, iI d.cap, bD (d.rng = true), bD (d.vol = true), .string d.cls], pT nm_b 0] w fun e w' => e = .returned (bD (d.name = nm)) ∧ Tr [] w [] w' := by
 have C : Tr [] w [] w := Tr.refl M
 obtain ⟨_, _⟩ : inI64 d.cap := d_w.2.1
 replace nm_K : BlkR [] _ _ _ _ := ⟨nm_K, fun h => h⟩
 refine enter Try.func101 rfl 8 rfl (Nat.le_of_ble_eq_true rfl) ?_
 intro a S
 refine qs ?_
 refine seq_new S rfl rfl (by decide) (fun b => pT b 0) (cs := [.string d.name, iI d.cap, bD (d.rng = true), bD (d.vol = true), .string d.cls]) (x_box [.string d.name, iI d.cap, bD (d.rng = true), bD (d.vol = true), .string d.cls] (S.e rfl) rfl) ?_
 clear S a; intro a w1 b1 hb1 hbs1 G K1 S; have hbl1 : b1 < w1.heap.size := by omega
 have TT := Tr.fresh C.ms hb1 hbl1 G
 replace d_w := Enc.tr (devE) d_w TT
 replace nm_K := BlkR.tr nm_K TT
 replace nm_w := Enc.tr (strE) nm_w TT
 replace C := C.trans TT
 clear TT G
 refine qa S rfl ?_; clear S a; intro a S
 refine qt ?_
 refine qs ?_
 refine qv S (pT b1 (0 + 0)) (x_fld (z := 0) (0) 0 Try.underlying65 rfl rfl (by kernel_rfl) (S.e rfl)) ?_; clear S a; intro a S
 refine qv S (.string d.name) (x_load ⟨_, Try.underlying9, rfl⟩ (S.e rfl) (K1.cell (j := 0) rfl)) ?_; clear S a; intro a S
 refine qv S (.string nm) (x_load ⟨_, Try.underlying9, rfl⟩ (S.e rfl) (nm_K.cell (j := 0) rfl)) ?_; clear S a; intro a S
 refine qv S (bD (d.name = nm)) (x_seql (S.e rfl) (S.e rfl)) ?_; clear S a; intro a S
 refine qa S rfl ?_; clear S a; intro a S
 refine qt ?_
 refine wp_ret ?_
 refine ret1 rfl S rfl ?_
 have TD : Tr [one b1] w1 [] w1 := Tr.drop C.ms [] (by decide)
 have GD : Ch (In []) w1 w1 := Ch.refl _
 clear K1
 replace d_w := Enc.tr (devE) d_w TD
 replace nm_K := BlkR.tr nm_K TD
 replace nm_w := Enc.tr (strE) nm_w TD
 replace C := C.trans TD
 clear TD GD
 refine ⟨(r1 (vb ?_)), C⟩
 first | exact Iff.rfl | assumption | omega | simp_all
set_option maxHeartbeats 2000000 in
set_option maxRecDepth 20000 in
theorem tEdge1 (w : World) (F : Nat → Prop) (hF : Old F w) (M : MS [] w) (d : Edg) (d_w : edgE.wf (Fr F []) w.heap d) (nm : ByteArray) (nm_w : strE.wf (Fr F []) w.heap nm) (nm_b : Nat) (nm_K : Blk w.heap nm_b [.string nm] 9) :
 Calls Try.prog 103 #[.agg #[.string d.name, iI d.dev, .string d.zone, .int .u32 d.pfx.addr, iI d.pfx.bits, bD (d.planned = true)], pT nm_b 0] w fun e w' => e = .returned (bD (d.name = nm)) ∧ Tr [] w [] w' := by
 have C : Tr [] w [] w := Tr.refl M
 obtain ⟨_, _⟩ : inI64 d.dev := d_w.2.1
 obtain ⟨_, _⟩ : inU32 d.pfx.addr := d_w.2.2.2.1.1
 obtain ⟨_, _⟩ : inI64 d.pfx.bits := d_w.2.2.2.1.2
 replace nm_K : BlkR [] _ _ _ _ := ⟨nm_K, fun h => h⟩
 refine enter Try.func103 rfl 8 rfl (Nat.le_of_ble_eq_true rfl) ?_
 intro a S
 refine qs ?_
 refine seq_new S rfl rfl (by decide) (fun b => pT b 0) (cs := [.string d.name, iI d.dev, .string d.zone, .int .u32 d.pfx.addr, iI d.pfx.bits, bD (d.planned = true)]) (x_box [.string d.name, iI d.dev, .string d.zone, .int .u32 d.pfx.addr, iI d.pfx.bits, bD (d.planned = true)] (S.e rfl) rfl) ?_
 clear S a; intro a w1 b1 hb1 hbs1 G K1 S; have hbl1 : b1 < w1.heap.size := by omega
 have TT := Tr.fresh C.ms hb1 hbl1 G
 replace d_w := Enc.tr (edgE) d_w TT
 replace nm_K := BlkR.tr nm_K TT
 replace nm_w := Enc.tr (strE) nm_w TT
 replace C := C.trans TT
 clear TT G
 refine qa S rfl ?_; clear S a; intro a S
 refine qt ?_
 refine qs ?_
 refine qv S (pT b1 (0 + 0)) (x_fld (z := 0) (0) 0 Try.underlying71 rfl rfl (by kernel_rfl) (S.e rfl)) ?_; clear S a; intro a S
 refine qv S (.string d.name) (x_load ⟨_, Try.underlying9, rfl⟩ (S.e rfl) (K1.cell (j := 0) rfl)) ?_; clear S a; intro a S
 refine qv S (.string nm) (x_load ⟨_, Try.underlying9, rfl⟩ (S.e rfl) (nm_K.cell (j := 0) rfl)) ?_; clear S a; intro a S
 refine qv S (bD (d.name = nm)) (x_seql (S.e rfl) (S.e rfl)) ?_; clear S a; intro a S
 refine qa S rfl ?_; clear S a; intro a S
 refine qt ?_
 refine wp_ret ?_
 refine ret1 rfl S rfl ?_
 have TD : Tr [one b1] w1 [] w1 := Tr.drop C.ms [] (by decide)
 have GD : Ch (In []) w1 w1 := Ch.refl _
 clear K1
 replace d_w := Enc.tr (edgE) d_w TD
 replace nm_K := BlkR.tr nm_K TD
 replace nm_w := Enc.tr (strE) nm_w TD
 replace C := C.trans TD
 clear TD GD
 refine ⟨(r1 (vb ?_)), C⟩
 first | exact Iff.rfl | assumption | omega | simp_all
set_option maxHeartbeats 2000000 in
set_option maxRecDepth 20000 in
theorem tDevice (w : World) (F : Nat → Prop) (hF : Old F w) (M : MS [] w) (t : Topo) (t_w : topoE.wf (Fr F []) w.heap t) (nm : ByteArray) (nm_h : inStr nm) :
 Calls Try.prog 79 #[tV t, .string nm] w fun e w' => e = .returned (iI (idxOf (fun x => decide (x.name = nm)) t.devs.xs)) ∧ Tr [] w [] w' := by
 have C : Tr [] w [] w := Tr.refl M
 have : t.devs.xs.length ≤ 9223372036854775807 := (t_w.1).1.len
 have : t.links.xs.length ≤ 9223372036854775807 := (t_w.2.1).1.len
 have : t.edges.xs.length ≤ 9223372036854775807 := (t_w.2.2.1).1.len
 have : t.pools.xs.length ≤ 9223372036854775807 := (t_w.2.2.2.1).1.len
 obtain ⟨_, _⟩ : inI64 t.tol := t_w.2.2.2.2
 refine enter Try.func79 rfl 9 rfl (Nat.le_of_ble_eq_true rfl) ?_
 intro a S
 refine qs ?_
 refine seq_new S rfl rfl (by decide) (fun b => pT b 0) (cs := (tL t)) (x_box (tL t) (S.e rfl) rfl) ?_
 clear S a; intro a w1 b1 hb1 hbs1 G K1 S; have hbl1 : b1 < w1.heap.size := by omega
 have TT := Tr.fresh C.ms hb1 hbl1 G
 replace t_w := Enc.tr (topoE) t_w TT
 replace C := C.trans TT
 clear TT G
 refine seq_new S rfl rfl (by decide) (fun b => pT b 0) (cs := [.string nm]) (x_box [.string nm] (S.e rfl) rfl) ?_
 clear S a; intro a w2 b2 hb2 hbs2 G K2 S; have hbl2 : b2 < w2.heap.size := by omega
 have TT := Tr.fresh C.ms hb2 hbl2 G
 replace t_w := Enc.tr (topoE) t_w TT
 replace K1 := Blk.tr0 K1 G
 replace C := C.trans TT
 clear TT G
 refine qa S rfl ?_; clear S a; intro a S
 refine qt ?_
 refine qs ?_
 refine qv S (pT b1 (0 + 0)) (x_fld (z := 0) (0) 0 Try.underlying28 rfl rfl (by kernel_rfl) (S.e rfl)) ?_; clear S a; intro a S
 refine qv S (sV t.devs) (x_load ⟨_, Try.underlying23, rfl⟩ (S.e rfl) (K1.cell (j := 0) rfl)) ?_; clear S a; intro a S
 refine qv S (.func (.func 101) #[] #[pT b2 0]) (x_mkfn (cs := #[pT b2 0]) (by simp only [List.map_toArray, List.map_cons, List.map_nil, show a.eval (.tmp 3) = pT b2 0 from (S.e rfl)])) ?_; clear S a; intro a S
 refine seq_call S (by decide) (vs := #[sV t.devs, .func (.func 101) #[] #[pT b2 0]]) rfl callable_100 (iDev _ (Ex F _) (C.old hF)  (MS.nil _) t.devs ((slE devE).down0 t_w.1) (fun x => x.name = nm) 101 #[pT b2 0] ⟨callable_101, fun w2 g i hi => tDevice1 _ (Ex F _) ((C.trans (Tr.framed0 C.ms g)).old hF) (MS.nil _) (t.devs.xs.getD i devE.dflt) (devE.tr ((((slE devE).down0 t_w.1)).1.wf i hi) g) nm (Enc.tr (strE) (show strE.wf _ _ nm from nm_h) g) b2 (Blk.tr0 K2 g.ch)⟩) ?_
 rintro e w3 ⟨rfl, T0⟩; refine ⟨_, rfl, ?_⟩; clear S a; intro a S
 have TT := Tr.framed0 C.ms T0; have G := T0.ch
 replace t_w := Enc.tr (topoE) t_w TT
 replace K1 := Blk.tr0 K1 G
 replace K2 := Blk.tr0 K2 G
 replace C := C.trans TT
 clear T0 G TT
 refine qa S rfl ?_; clear S a; intro a S
 refine qt ?_
 refine wp_ret ?_
 refine ret1 rfl S rfl ?_
 have TD : Tr [one b2, one b1] w3 [] w3 := Tr.drop C.ms [] (by decide)
 have GD : Ch (In []) w3 w3 := Ch.refl _
 clear K1
 clear K2
 replace t_w := Enc.tr (topoE) t_w TD
 replace C := C.trans TD
 clear TD GD
 refine ⟨(r1 (vi ?_)), C⟩
 first | rfl | omega | assumption
set_option maxHeartbeats 2000000 in
set_option maxRecDepth 20000 in
theorem tEdge (w : World) (F : Nat → Prop) (hF : Old F w) (M : MS [] w) (t : Topo) (t_w : topoE.wf (Fr F []) w.heap t) (nm : ByteArray) (nm_h : inStr nm) :
 Calls Try.prog 81 #[tV t, .string nm] w fun e w' => e = .returned (iI (idxOf (fun x => decide (x.name = nm)) t.edges.xs)) ∧ Tr [] w [] w' := by
 have C : Tr [] w [] w := Tr.refl M
 have : t.devs.xs.length ≤ 9223372036854775807 := (t_w.1).1.len
 have : t.links.xs.length ≤ 9223372036854775807 := (t_w.2.1).1.len
 have : t.edges.xs.length ≤ 9223372036854775807 := (t_w.2.2.1).1.len
 have : t.pools.xs.length ≤ 9223372036854775807 := (t_w.2.2.2.1).1.len
 obtain ⟨_, _⟩ : inI64 t.tol := t_w.2.2.2.2
 refine enter Try.func81 rfl 9 rfl (Nat.le_of_ble_eq_true rfl) ?_
 intro a S
 refine qs ?_
 refine seq_new S rfl rfl (by decide) (fun b => pT b 0) (cs := (tL t)) (x_box (tL t) (S.e rfl) rfl) ?_
 clear S a; intro a w1 b1 hb1 hbs1 G K1 S; have hbl1 : b1 < w1.heap.size := by omega
 have TT := Tr.fresh C.ms hb1 hbl1 G
 replace t_w := Enc.tr (topoE) t_w TT
 replace C := C.trans TT
 clear TT G
 refine seq_new S rfl rfl (by decide) (fun b => pT b 0) (cs := [.string nm]) (x_box [.string nm] (S.e rfl) rfl) ?_
 clear S a; intro a w2 b2 hb2 hbs2 G K2 S; have hbl2 : b2 < w2.heap.size := by omega
 have TT := Tr.fresh C.ms hb2 hbl2 G
 replace t_w := Enc.tr (topoE) t_w TT
 replace K1 := Blk.tr0 K1 G
 replace C := C.trans TT
 clear TT G
 refine qa S rfl ?_; clear S a; intro a S
 refine qt ?_
 refine qs ?_
 refine qv S (pT b1 (0 + 2)) (x_fld (z := 0) (0) 2 Try.underlying28 rfl rfl (by kernel_rfl) (S.e rfl)) ?_; clear S a; intro a S
 refine qv S (sV t.edges) (x_load ⟨_, Try.underlying25, rfl⟩ (S.e rfl) (K1.cell (j := 2) rfl)) ?_; clear S a; intro a S
 refine qv S (.func (.func 103) #[] #[pT b2 0]) (x_mkfn (cs := #[pT b2 0]) (by simp only [List.map_toArray, List.map_cons, List.map_nil, show a.eval (.tmp 3) = pT b2 0 from (S.e rfl)])) ?_; clear S a; intro a S
 refine seq_call S (by decide) (vs := #[sV t.edges, .func (.func 103) #[] #[pT b2 0]]) rfl callable_102 (iEdg _ (Ex F _) (C.old hF)  (MS.nil _) t.edges ((slE edgE).down0 t_w.2.2.1) (fun x => x.name = nm) 103 #[pT b2 0] ⟨callable_103, fun w2 g i hi => tEdge1 _ (Ex F _) ((C.trans (Tr.framed0 C.ms g)).old hF) (MS.nil _) (t.edges.xs.getD i edgE.dflt) (edgE.tr ((((slE edgE).down0 t_w.2.2.1)).1.wf i hi) g) nm (Enc.tr (strE) (show strE.wf _ _ nm from nm_h) g) b2 (Blk.tr0 K2 g.ch)⟩) ?_
 rintro e w3 ⟨rfl, T0⟩; refine ⟨_, rfl, ?_⟩; clear S a; intro a S
 have TT := Tr.framed0 C.ms T0; have G := T0.ch
 replace t_w := Enc.tr (topoE) t_w TT
 replace K1 := Blk.tr0 K1 G
 replace K2 := Blk.tr0 K2 G
 replace C := C.trans TT
 clear T0 G TT
 refine qa S rfl ?_; clear S a; intro a S
 refine qt ?_
 refine wp_ret ?_
 refine ret1 rfl S rfl ?_
 have TD : Tr [one b2, one b1] w3 [] w3 := Tr.drop C.ms [] (by decide)
 have GD : Ch (In []) w3 w3 := Ch.refl _
 clear K1
 clear K2
 replace t_w := Enc.tr (topoE) t_w TD
 replace C := C.trans TD
 clear TD GD
 refine ⟨(r1 (vi ?_)), C⟩
 first | rfl | omega | assumption
end Go.Proofs.Ytfanmniaolncbaa.V
