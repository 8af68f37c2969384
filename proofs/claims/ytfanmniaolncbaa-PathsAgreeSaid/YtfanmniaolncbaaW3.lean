/- names -/
import Derived.Test.YtfanmniaolncbaaW2
namespace Go.Proofs.Ytfanmniaolncbaa.V
open Go.RowKit Go.Proofs.Ytfanmniaolncbaa
set_option linter.unusedVariables false
set_option linter.unusedSimpArgs false
set_option maxHeartbeats 2000000 in
set_option maxRecDepth 20000 in
theorem tOverlap (w : World) (F : Nat → Prop) (hF : Old F w) (M : MS [] w) (p : Pfx) (p_w : pfxE.wf (Fr F []) w.heap p) (q : Pfx) (q_w : pfxE.wf (Fr F []) w.heap q) :
 Calls Try.prog 82 #[.agg (pfxE.cells p).toArray, .agg (pfxE.cells q).toArray] w fun e w' => e = .returned (bD (meets p q)) ∧ Tr [] w [] w' := by
 obtain ⟨_, _⟩ : inU32 p.addr := p_w.1
 obtain ⟨_, _⟩ : inI64 p.bits := p_w.2
 obtain ⟨_, _⟩ : inU32 q.addr := q_w.1
 obtain ⟨_, _⟩ : inI64 q.bits := q_w.2
 refine go Try.func82 rfl 13 rfl [wfF pfxE p, wfF pfxE q] [] hF M ⟨p_w, q_w, trivial⟩ trivial ?_
 intro a S
 refine rs0 ?_
 refine nbp S (x_box _ (S.e rfl) rfl) ?_; clear S; intro a u b2 S
 refine nbp S (x_box _ (S.e rfl) rfl) ?_; clear S; intro a u b3 S
 refine ens S (la (av rfl)) ?_; clear S; intro a u S
 refine rs S (tr (ldkw 0 rfl rfl wD68)<|tr (ldkw 1 rfl rfl wD68)<|tr (oc (fun S=>pCovers _ _ S.x (.nil _) p (dn0 (S.u 0 rfl)) q (dn0 (S.u 1 rfl))) cB104)<|tr (mv rfl)<|tr (og 8 rfl gf fun S hg=>x_ldw (S.e rfl) (S.k 1 rfl).all wD68)<|tr (og 8 rfl gf fun S hg=>x_ldw (S.e rfl) (S.k 0 rfl).all wD68)<|tr (ocg 8 rfl gf (fun S hg=>pCovers _ _ S.x (.nil _) q (dn0 (S.u 1 rfl)) p (dn0 (S.u 0 rfl))) cB104 fun S=>⟨fun hg=>(S.p rfl hg), fun hg=>(S.p rfl hg), trivial⟩)<|tr (ori rfl rfl rfl)<|la (av rfl)) ?_; clear S; intro a u S
 refine wp_ret ?_
 refine ret1 rfl S.s rfl ?_
 replace S := S.pk []
 refine ⟨(r1 (vb ?_)), S.m.c⟩
 first | exact Iff.rfl | assumption | omega | simp_all
set_option maxHeartbeats 2000000 in
set_option maxRecDepth 20000 in
theorem tValid1 (w : World) (F : Nat → Prop) (hF : Old F w) (M : MS [] w) (q : Pfx) (q_w : pfxE.wf (Fr F []) w.heap q) (p : Pfx) (p_w : pfxE.wf (Fr F []) w.heap p) (p_b : Nat) (p_K : Blk w.heap p_b [.int .u32 p.addr, .int .i64 p.bits] 68) :
 Calls Try.prog 85 #[.agg (pfxE.cells q).toArray, pT p_b 0] w fun e w' => e = .returned (bD (meets p q)) ∧ Tr [] w [] w' := by
 obtain ⟨_, _⟩ : inU32 q.addr := q_w.1
 obtain ⟨_, _⟩ : inI64 q.bits := q_w.2
 refine go Try.func85 rfl 7 rfl [wfF pfxE q, blF p_b [.int .u32 p.addr, iI p.bits] 68, wfF pfxE p] [] hF M ⟨q_w, ⟨fun h => h, p_K⟩, p_w, trivial⟩ trivial ?_
 intro a S
 refine rs0 ?_
 refine nbp S (x_box _ (S.e rfl) rfl) ?_; clear S; intro a u b2 S
 refine ens S (la (av rfl)) ?_; clear S; intro a u S
 refine rs S (tr (ov fun S=>x_ldw (S.e rfl) (S.b 1 rfl).all wD68)<|tr (ldkw 0 rfl rfl wD68)<|tr (oc (fun S=>tOverlap _ _ S.x (.nil _) p (dn0 (S.u 2 rfl)) q (dn0 (S.u 0 rfl))) cB82)<|la (av rfl)) ?_; clear S; intro a u S
 refine wp_ret ?_
 refine ret1 rfl S.s rfl ?_
 replace S := S.pk []
 refine ⟨(r1 (vb ?_)), S.m.c⟩
 first | exact Iff.rfl | assumption | omega | simp_all
set_option maxHeartbeats 2000000 in
set_option maxRecDepth 20000 in
theorem rMeet (w : World) (F : Nat → Prop) (hF : Old F w) (M : MS [] w) (p : Pfx) (p_w : pfxE.wf (Fr F []) w.heap p) (q : Pfx) (q_w : pfxE.wf (Fr F []) w.heap q) :
 Calls Try.prog 109 #[.agg (pfxE.cells p).toArray, .agg (pfxE.cells q).toArray] w fun e w' => e = .returned (bD (meets p q)) ∧ Tr [] w [] w' := by
 obtain ⟨_, _⟩ : inU32 p.addr := p_w.1
 obtain ⟨_, _⟩ : inI64 p.bits := p_w.2
 obtain ⟨_, _⟩ : inU32 q.addr := q_w.1
 obtain ⟨_, _⟩ : inI64 q.bits := q_w.2
 refine go Try.func109 rfl 13 rfl [wfF pfxE p, wfF pfxE q] [] hF M ⟨p_w, q_w, trivial⟩ trivial ?_
 intro a S
 refine rs0 ?_
 refine nbp S (x_box _ (S.e rfl) rfl) ?_; clear S; intro a u b2 S
 refine nbp S (x_box _ (S.e rfl) rfl) ?_; clear S; intro a u b3 S
 refine ens S (la (av rfl)) ?_; clear S; intro a u S
 refine rs S (tr (ldkw 0 rfl rfl wD68)<|tr (ldkw 1 rfl rfl wD68)<|tr (oc (fun S=>rCovers _ _ S.x (.nil _) p (dn0 (S.u 0 rfl)) q (dn0 (S.u 1 rfl))) cB113)<|tr (mv rfl)<|tr (og 8 rfl gf fun S hg=>x_ldw (S.e rfl) (S.k 1 rfl).all wD68)<|tr (og 8 rfl gf fun S hg=>x_ldw (S.e rfl) (S.k 0 rfl).all wD68)<|tr (ocg 8 rfl gf (fun S hg=>rCovers _ _ S.x (.nil _) q (dn0 (S.u 1 rfl)) p (dn0 (S.u 0 rfl))) cB113 fun S=>⟨fun hg=>(S.p rfl hg), fun hg=>(S.p rfl hg), trivial⟩)<|tr (ori rfl rfl rfl)<|la (av rfl)) ?_; clear S; intro a u S
 refine wp_ret ?_
 refine ret1 rfl S.s rfl ?_
 replace S := S.pk []
 refine ⟨(r1 (vb ?_)), S.m.c⟩
 first | exact Iff.rfl | assumption | omega | simp_all
set_option maxHeartbeats 2000000 in
set_option maxRecDepth 20000 in
theorem sName (w : World) (F : Nat → Prop) (hF : Old F w) (M : MS [] w) (s : ByteArray) (s_h : inStr s) :
 Calls Try.prog 99 #[.string s] w fun e w' => e = .returned (bD (vname s)) ∧ Tr [] w [] w' := by
 refine go Try.func99 rfl 71 rfl [] [] hF M trivial trivial ?_
 intro a S
 refine rs S (la (av rfl)) ?_; clear S; intro a u S
 refine wp_seq ?_
 have hb3 := bt_bd s 0
 have hb4 := bt_bd s 0
 refine rs S (tr (mv rfl)<|tr (seqi rfl rfl)<|tr (mv rfl)<|tr (og 8 rfl gf fun S hg=>x_move (S.e rfl))<|tr (og 8 rfl gf fun S hg=>x_lens uT9 (S.p rfl hg))<|tr (og 8 rfl gf fun S hg=>x_gtr (S.p rfl hg) (S.e rfl))<|tr (ori rfl rfl rfl)<|tr (mv rfl)<|tr (og 13 rfl gf fun S hg=>x_move (S.e rfl))<|tr (og 13 rfl gf fun S hg=>x_seql (S.p rfl hg) (S.e rfl))<|tr (ori rfl rfl rfl)<|tr (mv rfl)<|tr (og 17 rfl gf fun S hg=>x_move (S.e rfl))<|tr (og 17 rfl gf fun S hg=>x_sidx uT9 (S.p rfl hg) (S.e rfl) 0 rfl (str_pos (fun e => by simp [e] at hg)))<|tr (og 17 rfl gf fun S hg=>x_lss (S.p rfl hg) (S.e rfl))<|tr (ori rfl rfl rfl)<|tr (mv rfl)<|tr (og 22 rfl gf fun S hg=>x_move (S.e rfl))<|tr (og 22 rfl gf fun S hg=>x_sidx uT9 (S.p rfl hg) (S.e rfl) 0 rfl (str_pos (fun e => by simp [e] at hg)))<|tr (og 22 rfl gf fun S hg=>x_gtr (S.p rfl hg) (S.e rfl))<|la (ori rfl rfl rfl)) ?_; clear S; intro a u S
 refine cd S rfl ?_ ?_
 ·intro hc0
  refine rs S (la (av rfl)) ?_; clear S; intro a u S
  refine wp_ret (then_r ?_)
  refine ret1 rfl S.s rfl ?_
  refine ⟨(r1 (vf ?_)), S.m.c⟩
  unfold vname; rintro ⟨h1, h2, h3, h4, h5⟩; rcases hc0 with (((h | h) | h) | h) | h
  ·exact h1 h
  ·omega
  ·exact h3 h
  ·omega
  omega
 intro hc1
 refine wp_skip (then_n (wp_seq ?_))
 refine rs S (la (av rfl)) ?_; clear S; intro a u S
 refine wp_block ?_
 refine lp1 (fun (k : Nat) => [(0, .string s), (3, iN k)]) (fun (k : Nat) => []) (fun (k : Nat) => k ≤ s.size ∧ ∀ j, j < k → okc (bt s j)) (fun (k : Nat) => s.size - k) S 0 (subM rfl) rfl ?_ ?_
 ·exact ⟨Nat.zero_le _, fun j hj => by omega⟩
 clear S; intro k a u S hR
 obtain ⟨hk, hn⟩ := hR
 have hsz : s.size ≤ 9223372036854775807 := s_h
 refine wp_seq ?_
 refine rs S (tr (mv rfl)<|tr (mv rfl)<|tr (lesi uT9 rfl)<|la (lssi rfl rfl)) ?_; clear S; intro a u S
 refine cd S rfl ?_ ?_
 ·intro hc2
  refine wp_skip (then_n (wp_seq (wp_block ?_)))
  have hb9 := bt_bd s k
  have hb10 := bt_bd s k
  refine rs S (tr (mv rfl)<|tr (mv rfl)<|tr (ov fun S=>x_sidx uT9 (S.e rfl) (S.e rfl) k rfl (by omega))<|tr (geqi rfl rfl)<|tr (mv rfl)<|tr (og 37 rfl gt fun S hg=>x_move (S.e rfl))<|tr (og 37 rfl gt fun S hg=>x_move (S.e rfl))<|tr (og 37 rfl gt fun S hg=>x_sidx uT9 (S.p rfl hg) (S.p rfl hg) k rfl (by omega))<|tr (og 37 rfl gt fun S hg=>x_leq (S.p rfl hg) (S.e rfl))<|tr (andi rfl rfl rfl)<|la (av rfl)) ?_; clear S; intro a u S
  have hb12 := bt_bd s k
  have hb13 := bt_bd s k
  refine rs S (tr (mv rfl)<|tr (mv rfl)<|tr (ov fun S=>x_sidx uT9 (S.e rfl) (S.e rfl) k rfl (by omega))<|tr (geqi rfl rfl)<|tr (mv rfl)<|tr (og 47 rfl gt fun S hg=>x_move (S.e rfl))<|tr (og 47 rfl gt fun S hg=>x_move (S.e rfl))<|tr (og 47 rfl gt fun S hg=>x_sidx uT9 (S.p rfl hg) (S.p rfl hg) k rfl (by omega))<|tr (og 47 rfl gt fun S hg=>x_leq (S.p rfl hg) (S.e rfl))<|tr (andi rfl rfl rfl)<|la (av rfl)) ?_; clear S; intro a u S
  have hb15 := bt_bd s k
  have hb16 := bt_bd s k
  refine rs S (tr (mv rfl)<|tr (noti rfl)<|tr (mv rfl)<|tr (og 55 rfl gt fun S hg=>x_move (S.e rfl))<|tr (og 55 rfl gt fun S hg=>x_notp (S.p rfl hg))<|tr (andi rfl rfl rfl)<|tr (mv rfl)<|tr (og 59 rfl gt fun S hg=>x_move (S.e rfl))<|tr (og 59 rfl gt fun S hg=>x_move (S.e rfl))<|tr (og 59 rfl gt fun S hg=>x_sidx uT9 (S.p rfl hg) (S.p rfl hg) k rfl (by omega))<|tr (og 59 rfl gt fun S hg=>x_neq (S.p rfl hg) (S.e rfl))<|tr (andi rfl rfl rfl)<|tr (mv rfl)<|tr (og 65 rfl gt fun S hg=>x_move (S.e rfl))<|tr (og 65 rfl gt fun S hg=>x_move (S.e rfl))<|tr (og 65 rfl gt fun S hg=>x_sidx uT9 (S.p rfl hg) (S.p rfl hg) k rfl (by omega))<|tr (og 65 rfl gt fun S hg=>x_neq (S.p rfl hg) (S.e rfl))<|la (andi rfl rfl rfl)) ?_; clear S; intro a u S
  refine cd S rfl ?_ ?_
  ·intro hc3
   refine rs S (la (av rfl)) ?_; clear S; intro a u S
   refine wp_ret (blk_r (then_r (then_r (blk_r (then_r ?_)))))
   refine ret1 rfl S.s rfl ?_
   refine ⟨(r1 (vf ?_)), S.m.c⟩
   rintro ⟨h1, h2, h3, h4, h5⟩; have := h5 k (by omega); unfold okc at this; omega
  intro hc4
  refine wp_skip (blk_n (then_n ?_))
  refine rg S (tr (mv rfl)<|tr (addi ((k + 1 : Nat) : Int) rfl rfl (w_i64 (by omega)))<|la (av rfl)) ?_; clear S; intro a u S
  refine then_n ?_
  refine ⟨k + 1, S.re (subM rfl) rfl rfl, ?_, ?_⟩
  ·refine ⟨by omega, fun j hj => ?_⟩
   rcases Nat.lt_succ_iff_lt_or_eq.1 hj with h | h
   ·exact hn j h
   subst h; unfold okc; omega
  omega
 intro hc5
 refine wp_exit (then_e (then_e (blk_e (then_n ?_))))
 refine rs S (la (av rfl)) ?_; clear S; intro a u S
 refine wp_ret ?_
 refine ret1 rfl S.s rfl ?_
 refine ⟨(r1 (vt ?_)), S.m.c⟩
 simp only [not_or] at hc1; exact ⟨hc1.1.1.1.1, by omega, hc1.1.1.2, by omega, fun i hi => hn i (by omega)⟩
set_option maxHeartbeats 2000000 in
set_option maxRecDepth 20000 in
theorem rName (w : World) (F : Nat → Prop) (hF : Old F w) (M : MS [] w) (s : ByteArray) (s_h : inStr s) :
 Calls Try.prog 107 #[.string s] w fun e w' => e = .returned (bD (vname s)) ∧ Tr [] w [] w' := by
 refine go Try.func107 rfl 65 rfl [] [] hF M trivial trivial ?_
 intro a S
 refine rs S (la (av rfl)) ?_; clear S; intro a u S
 refine wp_seq ?_
 refine rs S (tr (mv rfl)<|tr (seqi rfl rfl)<|tr (mv rfl)<|tr (og 8 rfl gf fun S hg=>x_move (S.e rfl))<|tr (og 8 rfl gf fun S hg=>x_lens uT9 (S.p rfl hg))<|tr (og 8 rfl gf fun S hg=>x_gtr (S.p rfl hg) (S.e rfl))<|tr (ori rfl rfl rfl)<|tr (mv rfl)<|tr (og 13 rfl gf fun S hg=>x_move (S.e rfl))<|tr (og 13 rfl gf fun S hg=>x_seql (S.p rfl hg) (S.e rfl))<|la (ori rfl rfl rfl)) ?_; clear S; intro a u S
 refine cd S rfl ?_ ?_
 ·intro hc0
  refine rs S (la (av rfl)) ?_; clear S; intro a u S
  refine wp_ret (then_r ?_)
  refine ret1 rfl S.s rfl ?_
  refine ⟨(r1 (vf ?_)), S.m.c⟩
  unfold vname; rintro ⟨h1, h2, h3, h4, h5⟩; rcases hc0 with (h | h) | h
  ·exact h1 h
  ·omega
  exact h3 h
 intro hc1
 refine wp_skip (then_n (wp_seq ?_))
 refine rs S (la (av rfl)) ?_; clear S; intro a u S
 refine wp_block ?_
 refine lp1 (fun (k : Nat) => [(0, .string s), (3, iN k)]) (fun (k : Nat) => []) (fun (k : Nat) => k ≤ s.size ∧ ∀ j, j < k → (97 ≤ bt s j ∧ bt s j ≤ 122) ∨ (okc (bt s j) ∧ 0 < j)) (fun (k : Nat) => s.size - k) S 0 (subM rfl) rfl ?_ ?_
 ·exact ⟨Nat.zero_le _, fun j hj => by omega⟩
 clear S; intro k a u S hR
 obtain ⟨hk, hn⟩ := hR
 have hsz : s.size ≤ 9223372036854775807 := s_h
 refine wp_seq ?_
 refine rs S (tr (mv rfl)<|tr (mv rfl)<|tr (lesi uT9 rfl)<|la (lssi rfl rfl)) ?_; clear S; intro a u S
 refine cd S rfl ?_ ?_
 ·intro hc2
  refine wp_skip (then_n (wp_seq (wp_block ?_)))
  have hb7 := bt_bd s k
  have hb8 := bt_bd s k
  refine rs S (tr (mv rfl)<|tr (mv rfl)<|tr (ov fun S=>x_sidx uT9 (S.e rfl) (S.e rfl) k rfl (by omega))<|tr (geqi rfl rfl)<|tr (mv rfl)<|tr (og 27 rfl gt fun S hg=>x_move (S.e rfl))<|tr (og 27 rfl gt fun S hg=>x_move (S.e rfl))<|tr (og 27 rfl gt fun S hg=>x_sidx uT9 (S.p rfl hg) (S.p rfl hg) k rfl (by omega))<|tr (og 27 rfl gt fun S hg=>x_leq (S.p rfl hg) (S.e rfl))<|tr (andi rfl rfl rfl)<|la (av rfl)) ?_; clear S; intro a u S
  have hb10 := bt_bd s k
  have hb11 := bt_bd s k
  have hb12 := bt_bd s k
  have hb13 := bt_bd s k
  refine rs S (tr (mv rfl)<|tr (mv rfl)<|tr (ov fun S=>x_sidx uT9 (S.e rfl) (S.e rfl) k rfl (by omega))<|tr (geqi rfl rfl)<|tr (mv rfl)<|tr (og 37 rfl gt fun S hg=>x_move (S.e rfl))<|tr (og 37 rfl gt fun S hg=>x_move (S.e rfl))<|tr (og 37 rfl gt fun S hg=>x_sidx uT9 (S.p rfl hg) (S.p rfl hg) k rfl (by omega))<|tr (og 37 rfl gt fun S hg=>x_leq (S.p rfl hg) (S.e rfl))<|tr (andi rfl rfl rfl)<|tr (mv rfl)<|tr (og 43 rfl gf fun S hg=>x_move (S.e rfl))<|tr (og 43 rfl gf fun S hg=>x_move (S.e rfl))<|tr (og 43 rfl gf fun S hg=>x_sidx uT9 (S.p rfl hg) (S.p rfl hg) k rfl (by omega))<|tr (og 43 rfl gf fun S hg=>x_eql (S.p rfl hg) (S.e rfl))<|tr (ori rfl rfl rfl)<|tr (mv rfl)<|tr (og 49 rfl gf fun S hg=>x_move (S.e rfl))<|tr (og 49 rfl gf fun S hg=>x_move (S.e rfl))<|tr (og 49 rfl gf fun S hg=>x_sidx uT9 (S.p rfl hg) (S.p rfl hg) k rfl (by omega))<|tr (og 49 rfl gf fun S hg=>x_eql (S.p rfl hg) (S.e rfl))<|tr (ori rfl rfl rfl)<|la (av rfl)) ?_; clear S; intro a u S
  refine rs S (tr (mv rfl)<|tr (noti rfl)<|tr (mv rfl)<|tr (og 57 rfl gt fun S hg=>x_move (S.e rfl))<|tr (og 57 rfl gt fun S hg=>x_notp (S.p rfl hg))<|tr (og 57 rfl gt fun S hg=>x_move (S.p rfl hg))<|tr (og 60 rfl ggf fun S hg=>x_move (S.e rfl))<|tr (og 60 rfl ggf fun S hg=>x_eql (S.p rfl hg) (S.e rfl))<|tr (og 57 rfl gt fun S hg=>x_or (S.p rfl hg) (S.e rfl) (fun hl => (S.p rfl (And.intro hg hl))))<|la (andi rfl rfl rfl)) ?_; clear S; intro a u S
  refine cd S rfl ?_ ?_
  ·intro hc3
   refine rs S (la (av rfl)) ?_; clear S; intro a u S
   refine wp_ret (blk_r (then_r (then_r (blk_r (then_r ?_)))))
   refine ret1 rfl S.s rfl ?_
   refine ⟨(r1 (vf ?_)), S.m.c⟩
   rintro ⟨h1, h2, h3, h4, h5⟩; have := h5 k (by omega); unfold okc at this; rcases Nat.eq_zero_or_pos k with h0 | h0
   ·subst h0; omega
   omega
  intro hc4
  refine wp_skip (blk_n (then_n ?_))
  refine rg S (tr (mv rfl)<|tr (addi ((k + 1 : Nat) : Int) rfl rfl (w_i64 (by omega)))<|la (av rfl)) ?_; clear S; intro a u S
  refine then_n ?_
  refine ⟨k + 1, S.re (subM rfl) rfl rfl, ?_, ?_⟩
  ·refine ⟨by omega, fun j hj => ?_⟩
   rcases Nat.lt_succ_iff_lt_or_eq.1 hj with h | h
   ·exact hn j h
   subst h; unfold okc; omega
  omega
 intro hc5
 refine wp_exit (then_e (then_e (blk_e (then_n ?_))))
 refine rs S (la (av rfl)) ?_; clear S; intro a u S
 refine wp_ret ?_
 refine ret1 rfl S.s rfl ?_
 refine ⟨(r1 (vt ?_)), S.m.c⟩
 simp only [not_or] at hc1; have hp := str_pos hc1.1.1; have h0 := hn 0 (by omega); exact ⟨hc1.1.1, by omega, hc1.2, by omega, fun i hi => by have := hn i (by omega); unfold okc at *; omega⟩
set_option maxHeartbeats 2000000 in
set_option maxRecDepth 20000 in
theorem tValidDevice (w : World) (F : Nat → Prop) (hF : Old F w) (M : MS [] w) (d : Dev) (d_w : devE.wf (Fr F []) w.heap d) :
 Calls Try.prog 78 #[.agg (devE.cells d).toArray] w fun e w' => e = .returned (bD (devV d)) ∧ Tr [] w [] w' := by
 obtain ⟨_, _⟩ : inI64 d.cap := d_w.2.1
 refine go Try.func78 rfl 26 rfl [wfF devE d] [] hF M ⟨d_w, trivial⟩ trivial ?_
 intro a S
 refine rs0 ?_
 refine nbp S (x_box _ (S.e rfl) rfl) ?_; clear S; intro a u b1 S
 refine ens S (la (av rfl)) ?_; clear S; intro a u S
 refine rs S (tr (fldi 0 0 rfl uT65)<|tr (ldk 0 sC9 rfl rfl rfl)<|tr (oc (fun S=>sName _ _ S.x (.nil _) d.name (S.u 0 rfl).1) cB99)<|tr (mv rfl)<|tr (og 6 rfl gt fun S hg=>xf (0) 1 uT65 (S.e rfl))<|tr (og 6 rfl gt fun S hg=>x_load sC3 (S.p rfl hg) ((S.k 0 rfl).cell (j := 1) rfl))<|tr (og 6 rfl gt fun S hg=>x_geq (S.p rfl hg) (S.e rfl))<|tr (andi rfl rfl rfl)<|tr (mv rfl)<|tr (og 11 rfl gt fun S hg=>xf (0) 1 uT65 (S.e rfl))<|tr (og 11 rfl gt fun S hg=>x_load sC3 (S.p rfl hg) ((S.k 0 rfl).cell (j := 1) rfl))<|tr (og 11 rfl gt fun S hg=>x_leq (S.p rfl hg) (S.e rfl))<|tr (andi rfl rfl rfl)<|tr (mv rfl)<|tr (og 16 rfl gt fun S hg=>xf (0) 4 uT65 (S.e rfl))<|tr (og 16 rfl gt fun S hg=>x_load sC9 (S.p rfl hg) ((S.k 0 rfl).cell (j := 4) rfl))<|tr (og 16 rfl gt fun S hg=>x_seql (S.p rfl hg) (S.e rfl))<|tr (og 16 rfl gt fun S hg=>x_move (S.p rfl hg))<|tr (og 20 rfl ggf fun S hg=>xf (0) 4 uT65 (S.e rfl))<|tr (og 20 rfl ggf fun S hg=>x_load sC9 (S.p rfl hg) ((S.k 0 rfl).cell (j := 4) rfl))<|tr (ocg 20 rfl ggf (fun S hg=>sName _ _ S.x (.nil _) d.cls (S.u 0 rfl).2.2.2.2) cB99 fun S=>⟨fun hg=>(S.p rfl hg), trivial⟩)<|tr (og 16 rfl gt fun S hg=>x_or (S.p rfl hg) (S.e rfl) (fun hl => (S.p rfl (And.intro hg hl))))<|tr (andi rfl rfl rfl)<|la (av rfl)) ?_; clear S; intro a u S
 refine wp_ret ?_
 refine ret1 rfl S.s rfl ?_
 replace S := S.pk []
 refine ⟨(r1 (vb ?_)), S.m.c⟩
 unfold devV; simp only [and_assoc]
set_option maxHeartbeats 2000000 in
set_option maxRecDepth 20000 in
theorem tValidEdge (w : World) (F : Nat → Prop) (hF : Old F w) (M : MS [] w) (t : Topo) (t_w : topoE.wf (Fr F []) w.heap t) (x : Edg) (x_w : edgE.wf (Fr F []) w.heap x) :
 Calls Try.prog 80 #[.agg (topoE.cells t).toArray, .agg (edgE.cells x).toArray] w fun e w' => e = .returned (bD (edgV t.devs.xs.length x)) ∧ Tr [] w [] w' := by
 have : t.devs.xs.length ≤ 9223372036854775807 := (t_w.1).1.len
 have : t.links.xs.length ≤ 9223372036854775807 := (t_w.2.1).1.len
 have : t.edges.xs.length ≤ 9223372036854775807 := (t_w.2.2.1).1.len
 have : t.pools.xs.length ≤ 9223372036854775807 := (t_w.2.2.2.1).1.len
 obtain ⟨_, _⟩ : inI64 t.tol := t_w.2.2.2.2
 obtain ⟨_, _⟩ : inI64 x.dev := x_w.2.1
 obtain ⟨_, _⟩ : inU32 x.pfx.addr := x_w.2.2.2.1.1
 obtain ⟨_, _⟩ : inI64 x.pfx.bits := x_w.2.2.2.1.2
 refine go Try.func80 rfl 52 rfl [wfF topoE t, wfF edgE x] [] hF M ⟨t_w, x_w, trivial⟩ trivial ?_
 intro a S
 refine rs0 ?_
 refine nbp S (x_box _ (S.e rfl) rfl) ?_; clear S; intro a u b2 S
 refine nbp S (x_box _ (S.e rfl) rfl) ?_; clear S; intro a u b3 S
 refine ens S (la (av rfl)) ?_; clear S; intro a u S
 refine rs S (tr (fldi 0 1 rfl uT71)<|tr (ldk 1 sC3 rfl rfl rfl)<|tr (geqi rfl rfl)<|tr (mv rfl)<|tr (og 10 rfl gt fun S hg=>xf (0) 1 uT71 (S.e rfl))<|tr (og 10 rfl gt fun S hg=>x_load sC3 (S.p rfl hg) ((S.k 1 rfl).cell (j := 1) rfl))<|tr (og 10 rfl gt fun S hg=>xf (0) 0 uT28 (S.e rfl))<|tr (og 10 rfl gt fun S hg=>x_load sC23 (S.p rfl hg) ((S.k 0 rfl).cell (j := 0) rfl))<|tr (og 10 rfl gt fun S hg=>x_len uT23 (S.p rfl hg))<|tr (og 10 rfl gt fun S hg=>x_lss (S.p rfl hg) (S.p rfl hg))<|tr (andi rfl rfl rfl)<|la (av rfl)) ?_; clear S; intro a u S
 refine rs S (tr (fldi 0 0 rfl uT71)<|tr (ldk 1 sC9 rfl rfl rfl)<|tr (oc (fun S=>sName _ _ S.x (.nil _) x.name (S.u 1 rfl).1) cB99)<|tr (mv rfl)<|tr (og 21 rfl gt fun S hg=>xf (0) 2 uT71 (S.e rfl))<|tr (og 21 rfl gt fun S hg=>x_load sC9 (S.p rfl hg) ((S.k 1 rfl).cell (j := 2) rfl))<|tr (ocg 21 rfl gt (fun S hg=>sName _ _ S.x (.nil _) x.zone (S.u 1 rfl).2.2.1) cB99 fun S=>⟨fun hg=>(S.p rfl hg), trivial⟩)<|tr (andi rfl rfl rfl)<|la (av rfl)) ?_; clear S; intro a u S
 refine rs S (tr (mv rfl)<|tr (mv rfl)<|tr (og 27 rfl gt fun S hg=>x_move (S.e rfl))<|tr (andi rfl rfl rfl)<|tr (mv rfl)<|tr (og 30 rfl gt fun S hg=>xf (0) 3 uT71 (S.e rfl))<|tr (og 30 rfl gt fun S hg=>x_loadw [.int .u32 x.pfx.addr, iI x.pfx.bits] wD68 (S.p rfl hg) ((S.k 1 rfl).mid [.string x.name, iI x.dev, .string x.zone] [.int .u32 x.pfx.addr, iI x.pfx.bits] [bD (x.planned = true)] rfl _ rfl))<|tr (ocg 30 rfl gt (fun S hg=>pValid _ _ S.x (.nil _) x.pfx ⟨(S.u 1 rfl).2.2.2.1.1, (S.u 1 rfl).2.2.2.1.2⟩) cB83 fun S=>⟨fun hg=>(S.p rfl hg), trivial⟩)<|tr (andi rfl rfl rfl)<|tr (mv rfl)<|tr (og 35 rfl gt fun S hg=>xf (0) 3 uT71 (S.e rfl))<|tr (og 35 rfl gt fun S hg=>xf (0 + 3) 1 uT68 (S.p rfl hg))<|tr (og 35 rfl gt fun S hg=>x_load sC3 (S.p rfl hg) ((S.k 1 rfl).cell (j := 4) rfl))<|tr (og 35 rfl gt fun S hg=>x_gtr (S.p rfl hg) (S.e rfl))<|tr (andi rfl rfl rfl)<|tr (mv rfl)<|tr (og 41 rfl gt fun S hg=>xf (0) 5 uT71 (S.e rfl))<|tr (og 41 rfl gt fun S hg=>x_load sC4 (S.p rfl hg) ((S.k 1 rfl).cell (j := 5) rfl))<|tr (og 41 rfl gt fun S hg=>x_notp (S.p rfl hg))<|tr (og 41 rfl gt fun S hg=>x_move (S.p rfl hg))<|tr (og 45 rfl ggf fun S hg=>xf (0) 3 uT71 (S.e rfl))<|tr (og 45 rfl ggf fun S hg=>xf (0 + 3) 0 uT68 (S.p rfl hg))<|tr (og 45 rfl ggf fun S hg=>x_load sC66 (S.p rfl hg) ((S.k 1 rfl).cell (j := 3) rfl))<|tr (og 45 rfl ggf fun S hg=>x_eql (S.p rfl hg) (S.e rfl))<|tr (og 41 rfl gt fun S hg=>x_or (S.p rfl hg) (S.e rfl) (fun hl => (S.p rfl (And.intro hg hl))))<|tr (andi rfl rfl rfl)<|la (av rfl)) ?_; clear S; intro a u S
 refine wp_ret ?_
 refine ret1 rfl S.s rfl ?_
 replace S := S.pk []
 refine ⟨(r1 (vb ?_)), S.m.c⟩
 unfold edgV; simp only [and_assoc]
set_option maxHeartbeats 2000000 in
set_option maxRecDepth 20000 in
theorem rValidEdge (w : World) (F : Nat → Prop) (hF : Old F w) (M : MS [] w) (x : Edg) (x_w : edgE.wf (Fr F []) w.heap x) (n : Int) (n_h : inI64 n) (n0 : 0 ≤ n) :
 Calls Try.prog 87 #[.agg (edgE.cells x).toArray, iI n] w fun e w' => e = .returned (bD (edgV (n).toNat x)) ∧ Tr [] w [] w' := by
 obtain ⟨_, _⟩ : inI64 x.dev := x_w.2.1
 obtain ⟨_, _⟩ : inU32 x.pfx.addr := x_w.2.2.2.1.1
 obtain ⟨_, _⟩ : inI64 x.pfx.bits := x_w.2.2.2.1.2
 obtain ⟨n_hl, n_hu⟩ : inI64 n := id n_h
 refine go Try.func87 rfl 46 rfl [wfF edgE x] [] hF M ⟨x_w, trivial⟩ trivial ?_
 intro a S
 refine rs0 ?_
 refine nbp S (x_box _ (S.e rfl) rfl) ?_; clear S; intro a u b2 S
 refine ens S (la (av rfl)) ?_; clear S; intro a u S
 refine wp_seq ?_
 refine rs S (tr (fldi 0 0 rfl uT71)<|tr (ldk 0 sC9 rfl rfl rfl)<|tr (oc (fun S=>rName _ _ S.x (.nil _) x.name (S.u 0 rfl).1) cB107)<|tr (noti rfl)<|tr (mv rfl)<|tr (og 9 rfl gf fun S hg=>xf (0) 2 uT71 (S.e rfl))<|tr (og 9 rfl gf fun S hg=>x_load sC9 (S.p rfl hg) ((S.k 0 rfl).cell (j := 2) rfl))<|tr (ocg 9 rfl gf (fun S hg=>rName _ _ S.x (.nil _) x.zone (S.u 0 rfl).2.2.1) cB107 fun S=>⟨fun hg=>(S.p rfl hg), trivial⟩)<|tr (og 9 rfl gf fun S hg=>x_notp (S.p rfl hg))<|tr (ori rfl rfl rfl)<|tr (mv rfl)<|tr (og 15 rfl gf fun S hg=>xf (0) 1 uT71 (S.e rfl))<|tr (og 15 rfl gf fun S hg=>x_load sC3 (S.p rfl hg) ((S.k 0 rfl).cell (j := 1) rfl))<|tr (og 15 rfl gf fun S hg=>x_lss (S.p rfl hg) (S.e rfl))<|tr (ori rfl rfl rfl)<|tr (mv rfl)<|tr (og 20 rfl gf fun S hg=>xf (0) 1 uT71 (S.e rfl))<|tr (og 20 rfl gf fun S hg=>x_load sC3 (S.p rfl hg) ((S.k 0 rfl).cell (j := 1) rfl))<|tr (og 20 rfl gf fun S hg=>x_move (S.e rfl))<|tr (og 20 rfl gf fun S hg=>x_geq (S.p rfl hg) (S.p rfl hg))<|tr (ori rfl rfl rfl)<|tr (mv rfl)<|tr (og 26 rfl gf fun S hg=>xf (0) 3 uT71 (S.e rfl))<|tr (og 26 rfl gf fun S hg=>xf (0 + 3) 1 uT68 (S.p rfl hg))<|tr (og 26 rfl gf fun S hg=>x_load sC3 (S.p rfl hg) ((S.k 0 rfl).cell (j := 4) rfl))<|tr (og 26 rfl gf fun S hg=>x_lss (S.p rfl hg) (S.e rfl))<|la (ori rfl rfl rfl)) ?_; clear S; intro a u S
 refine cd S rfl ?_ ?_
 ·intro hc0
  refine rs S (la (av rfl)) ?_; clear S; intro a u S
  refine wp_ret (then_r ?_)
  refine ret1 rfl S.s rfl ?_
  replace S := S.pk []
  refine ⟨(r1 (vf ?_)), S.m.c⟩
  rintro ⟨⟨h1, h2⟩, ⟨h3, h4⟩, h5, h6, h7⟩; simp only [h3, h4, not_true, false_or] at hc0; omega
 intro hc1
 refine wp_skip (then_n ?_)
 refine rs S (tr (fldi 0 3 rfl uT71)<|tr (ov fun S=>x_loadw [.int .u32 x.pfx.addr, iI x.pfx.bits] wD68 (S.e rfl) ((S.k 0 rfl).mid [.string x.name, iI x.dev, .string x.zone] [.int .u32 x.pfx.addr, iI x.pfx.bits] [bD (x.planned = true)] rfl _ rfl))<|tr (oc (fun S=>rValid _ _ S.x (.nil _) x.pfx ⟨(S.u 0 rfl).2.2.2.1.1, (S.u 0 rfl).2.2.2.1.2⟩) cB91)<|tr (mv rfl)<|tr (og 35 rfl gt fun S hg=>xf (0) 5 uT71 (S.e rfl))<|tr (og 35 rfl gt fun S hg=>x_load sC4 (S.p rfl hg) ((S.k 0 rfl).cell (j := 5) rfl))<|tr (og 35 rfl gt fun S hg=>x_notp (S.p rfl hg))<|tr (og 35 rfl gt fun S hg=>x_move (S.p rfl hg))<|tr (og 39 rfl ggf fun S hg=>xf (0) 3 uT71 (S.e rfl))<|tr (og 39 rfl ggf fun S hg=>xf (0 + 3) 0 uT68 (S.p rfl hg))<|tr (og 39 rfl ggf fun S hg=>x_load sC66 (S.p rfl hg) ((S.k 0 rfl).cell (j := 3) rfl))<|tr (og 39 rfl ggf fun S hg=>x_eql (S.p rfl hg) (S.e rfl))<|tr (og 35 rfl gt fun S hg=>x_or (S.p rfl hg) (S.e rfl) (fun hl => (S.p rfl (And.intro hg hl))))<|tr (andi rfl rfl rfl)<|la (av rfl)) ?_; clear S; intro a u S
 refine wp_ret ?_
 refine ret1 rfl S.s rfl ?_
 replace S := S.pk []
 refine ⟨(r1 (vb ?_)), S.m.c⟩
 unfold edgV; simp only [not_or, Classical.not_not, Int.not_lt] at hc1; constructor
 ·rintro ⟨h1, h2⟩; exact ⟨⟨by omega, by omega⟩, ⟨hc1.1.1.1.1, hc1.1.1.1.2⟩, h1, by omega, h2⟩
 rintro ⟨_, _, h1, _, h2⟩; exact ⟨h1, h2⟩
end Go.Proofs.Ytfanmniaolncbaa.V
