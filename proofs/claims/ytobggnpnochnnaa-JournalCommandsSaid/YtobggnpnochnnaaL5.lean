/- the law: commands -/
import Derived.Test.YtobggnpnochnnaaL4
namespace Go.Proofs.Ytobggnpnochnnaa.V
open Go.RowKit Go.Proofs.Ytobggnpnochnnaa
set_option linter.unusedVariables false
set_option linter.unusedSimpArgs false
set_option maxHeartbeats 2000000 in
set_option maxRecDepth 20000 in
theorem lCmds (w : World) (F : Nat → Prop) (hF : Old F w) (M : MS [] w) (c : Ctrl) (c_w : ctrlE.wf (Fr F []) w.heap c) :
 Calls Try.prog 10 #[.agg (ctrlE.cells c).toArray] w fun e w' => e = .returned (bD (True)) ∧ Tr [] w [] w' := by
 obtain ⟨_, _⟩ : inI64 c.round := c_w.1
 obtain ⟨_, _⟩ : inI64 c.seq := c_w.2.2.1
 have : c.target.xs.length ≤ 9223372036854775807 := (c_w.2.2.2.1).1.len
 have : c.known.xs.length ≤ 9223372036854775807 := (c_w.2.2.2.2.1).1.len
 have : c.waiting.xs.length ≤ 9223372036854775807 := (c_w.2.2.2.2.2).1.len
 refine go Try.func10 rfl 22 rfl [wfF ctrlE c] [] hF M ⟨c_w, trivial⟩ trivial ?_
 intro a S
 have hD : ∀ k, In ([] : List BS) k → ¬ F k := fun _ h => h.elim
 refine rs0 ?_
 refine nbp S (x_box _ (S.e rfl) rfl) ?_; clear S; intro a u b1 S
 refine ens S (la (av rfl)) ?_; clear S; intro a u S
 refine wp_seq ?_
 have hn3 : c.waiting.xs.length ≤ 9223372036854775807 := ((S.u 0 rfl).2.2.2.2.2).1.len
 refine rs S (tr (fldi 0 5 rfl uT57)<|tr (ldk 0 sC22 rfl rfl rfl)<|tr (leni uT22 rfl)<|tr (gtri rfl rfl)<|tr (mv rfl)<|tr (og 7 rfl gf fun S hg=>xf (0) 4 uT57 (S.e rfl))<|tr (og 7 rfl gf fun S hg=>x_load sC22 (S.p rfl hg) ((S.k 0 rfl).cell (j := 4) rfl))<|tr (og 7 rfl gf fun S hg=>x_len uT22 (S.p rfl hg))<|tr (og 7 rfl gf fun S hg=>x_gtr (S.p rfl hg) (S.e rfl))<|la (ori rfl rfl rfl)) ?_; clear S; intro a u S
 refine cd S rfl ?_ ?_
 ·intro hc0
  refine rs S (tr (oc (fun S=>lSane _ _ S.x (.nil _)) cB24)<|la (av rfl)) ?_; clear S; intro a u S
  refine wp_ret (then_r ?_)
  refine ret1 rfl S.s rfl ?_
  replace S := S.pk []
  refine ⟨(r1 (vb ?_)), S.m.c⟩
  exact Iff.rfl
 intro hc1
 refine wp_skip (then_n (wp_seq ?_))
 replace S := S.l [(1, pT b1 0)] (subM rfl)
 refine dr (P := Try.prog) S 9 [] [(14, .is _), (15, .of (fun z w => ∃ (x15aa : Option Addr) (x15ba : Nat), z = .slice x15aa ((cmdsP c.known.xs c.seq c.waiting.xs).length) x15ba ∧ (slE recE).wf (Fr F [one b1]) w.heap (Sl.mk x15aa x15ba (cmdsP c.known.xs c.seq c.waiting.xs))) (fun v w w' c h => let ⟨x15aa, x15ba, hv, h0⟩ := h; ⟨x15aa, x15ba, hv, Enc.kp (slE recE) h0 c (fun _ h => by simp at h)⟩)), (16, .is _), (17, .of (fun z w => ∃ (x17aa : Option Addr) (x17ba : Nat), z = .slice x17aa ((cmdsP c.known.xs c.seq c.waiting.xs).length) x17ba ∧ (slE recE).wf (Fr F [one b1]) w.heap (Sl.mk x17aa x17ba (cmdsP c.known.xs c.seq c.waiting.xs))) (fun v w w' c h => let ⟨x17aa, x17ba, hv, h0⟩ := h; ⟨x17aa, x17ba, hv, Enc.kp (slE recE) h0 c (fun _ h => by simp at h)⟩)), (18, .is (bD ((cmdsP c.known.xs c.seq c.waiting.xs) = (cmdsP c.known.xs c.seq c.waiting.xs)))), (19, .is _), (20, .is _), (21, .is _), (2, .is _)] [[], [14], [], [16], [15, 17], [18], [19], [19, 20], [21]] [2] _ ⟨qd (ldkw 0 rfl rfl wD57), ?_, qd (ldkw 0 rfl rfl wD57), ?_, ?_, qd (mv rfl), qd (ocg 19 rfl gt (fun S hg=>lSane _ _ S.x (.nil _)) cB24 fun S=>trivial), qd (andi rfl rfl rfl), qd (av rfl), trivial⟩ ?_
 ·skip
  intro a u S G hE
  refine hcl S (jCommands _ _ S.x (.nil _) c (dn0 (S.u 0 rfl)) (by first | omega | (dsimp only; omega))) cB41 ?_
  rintro e w2 ⟨x15a, x15b, rfl, R0, T0⟩; refine ⟨_, rfl, (show ∃ _ _, _ from ?_), T0.ch, (S.m.k0 T0.ch)⟩
  exact ⟨x15a, x15b, rfl, (S.frz R0 (by decide) (fun _ h => h))⟩
 ·skip
  intro a u S G hE
  refine hcl S (rCommands _ _ S.x (.nil _) c (dn0 (S.u 0 rfl)) (by first | omega | (dsimp only; omega))) cB42 ?_
  rintro e w2 ⟨x17a, x17b, rfl, R0, T0⟩; refine ⟨_, rfl, (show ∃ _ _, _ from ?_), T0.ch, (S.m.k0 T0.ch)⟩
  exact ⟨x17a, x17b, rfl, (S.frz R0 (by decide) (fun _ h => h))⟩
 ·skip
  intro a u S G hE
  obtain ⟨e15, e17, -⟩ := hE
  have M0 := S.m
  obtain ⟨x15a_5, x15b_5, e15, X5⟩ := e15
  replace S := S.ext e15
  obtain ⟨x17a_6, x17b_6, e17, X6⟩ := e17
  replace S := S.ext e17
  refine hcl S (rSameL _ _ S.x (.nil _) (Sl.mk x15a_5 x15b_5 (cmdsP c.known.xs c.seq c.waiting.xs)) (dn0 X5) (Sl.mk x17a_6 x17b_6 (cmdsP c.known.xs c.seq c.waiting.xs)) (dn0 X6)) cB28 ?_
  rintro e w2 ⟨rfl, T0⟩; exact ⟨_, rfl, (show _ = _ from rfl), T0.ch, (M0.k0 T0.ch)⟩
 clear S; intro a u S G hE
 refine ent (wp_ret ?_)
 refine ret1 rfl S.s rfl ?_
 replace S := S.pk []
 refine ⟨(r1 (vb ?_)), S.m.c⟩
 exact ⟨fun _ => trivial, fun _ => ⟨rfl, trivial⟩⟩
end Go.Proofs.Ytobggnpnochnnaa.V
