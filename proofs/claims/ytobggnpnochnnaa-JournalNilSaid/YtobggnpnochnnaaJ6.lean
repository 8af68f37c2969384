/- the controller: what it tells -/
import Derived.Test.YtobggnpnochnnaaJ5
import Derived.Test.YtobggnpnochnnaaGrpU
namespace Go.Proofs.Ytobggnpnochnnaa.V
open Go.RowKit Go.Proofs.Ytobggnpnochnnaa
set_option linter.unusedVariables false
set_option linter.unusedSimpArgs false
set_option maxHeartbeats 2000000 in
set_option maxRecDepth 20000 in
theorem sClone (w : World) (F : Nat → Prop) (hF : Old F w) (M : MS [] w) (x : Sl Int) (x_w : (slE intE).wf (Fr F []) w.heap x) (hb : x.xs.length ≤ 10000000) :
 Calls Try.prog 110 #[sV x] w fun e w' => ∃ (ra : Option Addr) (rc : Nat), e = .returned (.slice ra x.xs.length rc) ∧ Row intE 3 w.heap.size F [abk ra] w' ra rc x.xs ∧ Tr [] w [abk ra] w' := by
 have : x.xs.length ≤ 9223372036854775807 := (x_w).1.len
 refine go Try.func110 rfl 8 rfl [wfF (slE intE) x] [] hF M ⟨x_w, trivial⟩ trivial ?_
 intro a S
 have hD : ∀ k, In ([] : List BS) k → ¬ F k := fun _ h => h.elim
 refine rs S (la (av rfl)) ?_; clear S; intro a u S
 refine wp_seq ?_
 refine rs S (tr (mv rfl)<|la (ov fun S=>x_sleql uT22 (S.e rfl) (S.e rfl))) ?_; clear S; intro a u S
 refine cd S rfl ?_ ?_
 ·intro hc0
  refine rs S (la (av rfl)) ?_; clear S; intro a u S
  refine wp_ret (then_r ?_)
  replace S := S.nr intE 3
  refine ret1 rfl S.s rfl ?_
  have hx4 : x.xs = [] := by
   exact (S.u 0 rfl).1.nil_xs hc0
  rw [hx4]
  refine ⟨none, 0, rfl, (S.row 0 rfl), S.m.c⟩
 intro hc1
 refine wp_skip (then_n (rs0 ?_))
 refine nbr (q := 0) intE S [] (x_bsl0 uT22 iZ3) (fun _ h => by simp at h) ?_; clear S; intro a u b5 S
 refine sp S (la (mv rfl)) ?_; clear S; intro a u S
 refine ap (E := intE) (ys := x.xs) S 0 rfl uT22 iZ3 rfl rfl ((S.u 0 rfl)).1 ((S.u 0 rfl)).2.2 (LAt.mem ((S.u 0 rfl)).1) ⟨by unfold maxLen; (try simp only [List.length_cons, List.length_nil, List.length_append, List.length_map]); omega, by (try simp only [List.length_cons, List.length_nil, List.length_append, List.length_map]); omega⟩ ?_; clear S; intro a u ad7 cap7 S
 refine ens S (la (av rfl)) ?_; clear S; intro a u S
 refine wp_ret ?_
 refine ret1 rfl S.s rfl ?_
 have hx6 : x.xs = ([] ++ x.xs) := by
  first | rfl | simp
 rw [hx6]
 refine ⟨ad7, cap7, rfl, (S.row 0 rfl), S.m.c⟩
set_option maxHeartbeats 2000000 in
set_option maxRecDepth 20000 in
theorem cSent (w : World) (F : Nat → Prop) (hF : Old F w) (m_b : Nat) (m : Mach) (M : MS [In (ow (machF m_b m))] w) (hD : ∀ k, In [In (ow (machF m_b m))] k → ¬ F k) (m_k : machK m) (m_K : (bnO (machF m_b m)).p F (In [In (ow (machF m_b m))]) w) :
 Calls Try.prog 108 #[pT m_b 0] w fun e w' => ∃ (ra : Option Addr) (rc : Nat) (m_1 : Mach), e = .returned (.slice ra m.sent.xs.length rc) ∧ (slE intE).wf (Fr F [In (ow (machF m_b m_1))]) w'.heap (Sl.mk ra rc m.sent.xs) ∧ machK m_1 ∧ (bnO (machF m_b m_1)).p F (In [In (ow (machF m_b m_1))]) w' ∧ (KeepM m m_1 ∧ absM m_1 = {absM m with sent := []}) ∧ Tr [In (ow (machF m_b m))] w [In (ow (machF m_b m_1))] w' := by
 refine go Try.func108 rfl 12 rfl [] [bnO (machF m_b m)] hF M trivial ⟨m_K, trivial⟩ ?_
 intro a S
 refine rs S (la (av rfl)) ?_; clear S; intro a u S
 refine rs0 ?_
 refine sp S (tr (mv rfl)<|la (ov fun S=>x_nilck (S.e rfl))) ?_; clear S; intro a u S
 replace S := (show St _ _ _ _ _ _ [blO m_b [sV m.rounds, sV m.states, iI m.round, bD (m.back = true), iI m.seq, sV m.target, sV m.known, sV m.waiting, sV m.sent] 166, rwO intE 3 0 m.target.a m.target.c m.target.xs, rwO intE 3 0 m.known.a m.known.c m.known.xs, rwO intE 3 0 m.waiting.a m.waiting.c m.waiting.xs, rwO intE 3 0 m.sent.a m.sent.c m.sent.xs, daO (slE (slE chgE)) m.rounds, daO (slE (slE intE)) m.states] _ _ from S.opn (ks := []))
 replace S := S.ar (wfF (slE (slE chgE)) m.rounds) (S.da 5 rfl)
 replace S := S.ar (wfF (slE (slE intE)) m.states) (S.da 6 rfl)
 replace S := S.pk [0, 1, 2, 3, 4] (os' := [blO m_b [sV m.rounds, sV m.states, iI m.round, bD (m.back = true), iI m.seq, sV m.target, sV m.known, sV m.waiting, sV m.sent] 166, rwO intE 3 0 m.target.a m.target.c m.target.xs, rwO intE 3 0 m.known.a m.known.c m.known.xs, rwO intE 3 0 m.waiting.a m.waiting.c m.waiting.xs, rwO intE 3 0 m.sent.a m.sent.c m.sent.xs])
 have : m.target.xs.length ≤ 9223372036854775807 := (S.row 1 rfl).len_le
 have : m.known.xs.length ≤ 9223372036854775807 := (S.row 2 rfl).len_le
 have : m.waiting.xs.length ≤ 9223372036854775807 := (S.row 3 rfl).len_le
 have : m.sent.xs.length ≤ 9223372036854775807 := (S.row 4 rfl).len_le
 have : m.rounds.xs.length ≤ 9223372036854775807 := ((S.u 0 rfl)).1.len
 have : m.states.xs.length ≤ 9223372036854775807 := ((S.u 1 rfl)).1.len
 obtain ⟨_, _⟩ : inI64 m.round := m_k.1
 obtain ⟨_, _⟩ : inI64 m.seq := m_k.2
 refine ens S (tr (fldi 0 8 rfl uT166)<|tr (ldk 0 sC22 rfl rfl rfl)<|la (av rfl)) ?_; clear S; intro a u S
 refine rs S (tr (mv rfl)<|tr (ov fun S=>x_nilck (S.e rfl))<|tr (fldi 0 8 rfl uT166)<|la (stk 0 rfl rfl rfl)) ?_; clear S; intro a u S
 refine rs S (tr (mv rfl)<|la (av rfl)) ?_; clear S; intro a u S
 refine wp_ret ?_
 replace S := S.nr intE 3
 replace S := (show St _ _ _ _ _ _ [blO m_b [sV m.rounds, sV m.states, iI m.round, bD (m.back = true), iI m.seq, sV m.target, sV m.known, sV m.waiting, .slice none 0 0] 166, rwO intE 3 0 m.target.a m.target.c m.target.xs, rwO intE 3 0 m.known.a m.known.c m.known.xs, rwO intE 3 0 m.waiting.a m.waiting.c m.waiting.xs, rwO intE 3 0 m.sent.a m.sent.c m.sent.xs, rwO intE 3 0 none 0 ([])] _ _ from (S.b0 5 rfl))
 replace S := S.pk [4, 0, 1, 2, 3, 5] (os' := [rwO intE 3 0 m.sent.a m.sent.c m.sent.xs, blO m_b [sV m.rounds, sV m.states, iI m.round, bD (m.back = true), iI m.seq, sV m.target, sV m.known, sV m.waiting, .slice none 0 0] 166, rwO intE 3 0 m.target.a m.target.c m.target.xs, rwO intE 3 0 m.known.a m.known.c m.known.xs, rwO intE 3 0 m.waiting.a m.waiting.c m.waiting.xs, rwO intE 3 0 none 0 ([])])
 replace S := S.oda (E := slE (slE chgE)) (x := m.rounds) (S.u 0 rfl)
 replace S := S.oda (E := slE (slE intE)) (x := m.states) (S.u 1 rfl)
 have hk5 : machK (⟨m.rounds, m.states, m.round, m.back, m.seq, (Sl.mk m.target.a m.target.c m.target.xs), (Sl.mk m.known.a m.known.c m.known.xs), (Sl.mk m.waiting.a m.waiting.c m.waiting.xs), (Sl.mk none 0 ([]))⟩ : Mach) := ⟨m_k.1, m_k.2⟩
 replace S := (show St _ _ _ _ _ _ ([rwO intE 3 0 m.sent.a m.sent.c m.sent.xs] ++ machF m_b (⟨m.rounds, m.states, m.round, m.back, m.seq, (Sl.mk m.target.a m.target.c m.target.xs), (Sl.mk m.known.a m.known.c m.known.xs), (Sl.mk m.waiting.a m.waiting.c m.waiting.xs), (Sl.mk none 0 ([]))⟩ : Mach)) _ _ from S).cls
 replace S := (show St _ _ _ _ _ _ [rwO intE 3 0 m.sent.a m.sent.c m.sent.xs, bnO (machF m_b (⟨m.rounds, m.states, m.round, m.back, m.seq, (Sl.mk m.target.a m.target.c m.target.xs), (Sl.mk m.known.a m.known.c m.known.xs), (Sl.mk m.waiting.a m.waiting.c m.waiting.xs), (Sl.mk none 0 ([]))⟩ : Mach))] _ _ from S)
 replace S := S.fzD hD 0 rfl
 refine ret1 rfl S.s rfl ?_
 replace S := S.pk [1] (os' := [bnO (machF m_b (⟨m.rounds, m.states, m.round, m.back, m.seq, (Sl.mk m.target.a m.target.c m.target.xs), (Sl.mk m.known.a m.known.c m.known.xs), (Sl.mk m.waiting.a m.waiting.c m.waiting.xs), (Sl.mk none 0 ([]))⟩ : Mach))])
 refine ⟨m.sent.a, m.sent.c, (⟨m.rounds, m.states, m.round, m.back, m.seq, (Sl.mk m.target.a m.target.c m.target.xs), (Sl.mk m.known.a m.known.c m.known.xs), (Sl.mk m.waiting.a m.waiting.c m.waiting.xs), (Sl.mk none 0 ([]))⟩ : Mach), rfl, (S.u 2 rfl), hk5, (S.m.o _ (nth_mem (i := 0) rfl)), ?_, S.m.c⟩
 exact ⟨⟨rfl, rfl⟩, rfl⟩
set_option maxHeartbeats 2000000 in
set_option maxRecDepth 20000 in
theorem cControl (w : World) (F : Nat → Prop) (hF : Old F w) (M : MS [] w) (m : Nat × Mach) (m_w : (ptE machE 166).wf (Fr F []) w.heap m) (hb : m.2.target.xs.length ≤ 1000 ∧ m.2.known.xs.length ≤ 1000 ∧ m.2.waiting.xs.length ≤ 1000) :
 Calls Try.prog 77 #[pT m.1 0] w fun e w' => ∃ (ra_3 : Option Addr) (rc_3 : Nat) (ra_4 : Option Addr) (rc_4 : Nat) (ra_5 : Option Addr) (rc_5 : Nat), e = .returned (.agg #[iI m.2.round, bD (m.2.back = true), iI m.2.seq, .slice ra_3 m.2.target.xs.length rc_3, .slice ra_4 m.2.known.xs.length rc_4, .slice ra_5 m.2.waiting.xs.length rc_5]) ∧ Row intE 3 w.heap.size F [abk ra_5, abk ra_4, abk ra_3] w' ra_3 rc_3 m.2.target.xs ∧ Row intE 3 w.heap.size F [abk ra_5, abk ra_4, abk ra_3] w' ra_4 rc_4 m.2.known.xs ∧ Row intE 3 w.heap.size F [abk ra_5, abk ra_4, abk ra_3] w' ra_5 rc_5 m.2.waiting.xs ∧ Tr [] w [abk ra_5, abk ra_4, abk ra_3] w' := by
 have : m.2.rounds.xs.length ≤ 9223372036854775807 := (m_w.2.2.1).1.len
 have : m.2.states.xs.length ≤ 9223372036854775807 := (m_w.2.2.2.1).1.len
 obtain ⟨_, _⟩ : inI64 m.2.round := m_w.2.2.2.2.1
 obtain ⟨_, _⟩ : inI64 m.2.seq := m_w.2.2.2.2.2.2.1
 have : m.2.target.xs.length ≤ 9223372036854775807 := (m_w.2.2.2.2.2.2.2.1).1.len
 have : m.2.known.xs.length ≤ 9223372036854775807 := (m_w.2.2.2.2.2.2.2.2.1).1.len
 have : m.2.waiting.xs.length ≤ 9223372036854775807 := (m_w.2.2.2.2.2.2.2.2.2.1).1.len
 have : m.2.sent.xs.length ≤ 9223372036854775807 := (m_w.2.2.2.2.2.2.2.2.2.2).1.len
 obtain ⟨hb1, hb2, hb3⟩ := hb
 refine go Try.func77 rfl 21 rfl [wfF (ptE machE 166) m] [] hF M ⟨m_w, trivial⟩ trivial ?_
 intro a S
 have hD : ∀ k, In ([] : List BS) k → ¬ F k := fun _ h => h.elim
 refine rs0 ?_
 refine nbp S (x_allocz _ iZ57 rfl) ?_; clear S; intro a u b2 S
 refine ent (rs0 ?_)
 obtain ⟨hl3, hu3⟩ : inI64 m.2.round := id (((S.u 0 rfl).2.2).2.2.1)
 obtain ⟨hl4, hu4⟩ : inI64 m.2.seq := id (((S.u 0 rfl).2.2).2.2.2.2.1)
 have hn5 : m.2.target.xs.length ≤ 9223372036854775807 := (((S.u 0 rfl).2.2).2.2.2.2.2.1).1.len
 have hn6 : m.2.known.xs.length ≤ 9223372036854775807 := (((S.u 0 rfl).2.2).2.2.2.2.2.2.1).1.len
 have hn7 : m.2.waiting.xs.length ≤ 9223372036854775807 := (((S.u 0 rfl).2.2).2.2.2.2.2.2.2.1).1.len
 refine sp S (tr (mv rfl)<|tr (ov fun S=>x_nilck (S.e rfl))<|tr (fldi 0 2 rfl uT166)<|la (ov fun S=>x_loadw [iI m.2.round, bD (m.2.back = true), iI m.2.seq, sV m.2.target, sV m.2.known, sV m.2.waiting] wD57 (S.e rfl) ((S.u 0 rfl).1.mid [sV m.2.rounds, sV m.2.states] [iI m.2.round, bD (m.2.back = true), iI m.2.seq, sV m.2.target, sV m.2.known, sV m.2.waiting] [sV m.2.sent] rfl _ rfl))) ?_; clear S; intro a u S
 refine nbp S (x_allocz _ iZ57 rfl) ?_; clear S; intro a u b3 S
 refine ens S (la (stkw 1 rfl rfl rfl)) ?_; clear S; intro a u S
 refine wp_seq ?_
 obtain ⟨z0, hz0⟩ := S.z
 refine dr3 (P := Try.prog) S 10 [10, 13, 16] [(10, 13), (10, 16), (13, 16)] [] [(8, .is _), (9, .is _), (10, rowT intE 3 z0 _ m.2.target.xs), (11, .is _), (12, .is _), (13, rowT intE 3 z0 _ m.2.known.xs), (14, .is _), (15, .is _), (16, rowT intE 3 z0 _ m.2.waiting.xs), (17, .is _)] [[], [8], [9], [], [11], [12], [], [14], [15], []] [10, 13, 16, 17] _ ⟨⟨_, rfl, rowT_owns⟩, ⟨_, rfl, rowT_owns⟩, ⟨_, rfl, rowT_owns⟩, trivial⟩ ⟨qdc (qd (fldi 0 3 rfl uT57)), qdc (qd (ldk 1 sC22 rfl rfl rfl)), ?_, qdc (qd (fldi 0 4 rfl uT57)), qdc (qd (ldk 1 sC22 rfl rfl rfl)), ?_, qdc (qd (fldi 0 5 rfl uT57)), qdc (qd (ldk 1 sC22 rfl rfl rfl)), ?_, qdc (qd (fldi 0 3 rfl uT57)), trivial⟩ ?_
 ·skip
  intro a u S G _ _
  refine hcr S S.m G (sClone _ _ S.x (.nil _) m.2.target (dn0 (((S.u 0 rfl).2.2).2.2.2.2.2.1)) (by first | omega | (dsimp only; omega))) cB110 rfl hz0 ?_
  rintro e w2 ⟨ra, rc, rfl, R, T0⟩; exact ⟨ra, rc, rfl, R.own, T0.ch⟩
 ·skip
  intro a u S G _ _
  refine hcr S S.m G (sClone _ _ S.x (.nil _) m.2.known (dn0 (((S.u 0 rfl).2.2).2.2.2.2.2.2.1)) (by first | omega | (dsimp only; omega))) cB110 rfl hz0 ?_
  rintro e w2 ⟨ra, rc, rfl, R, T0⟩; exact ⟨ra, rc, rfl, R.own, T0.ch⟩
 ·skip
  intro a u S G _ _
  refine hcr S S.m G (sClone _ _ S.x (.nil _) m.2.waiting (dn0 (((S.u 0 rfl).2.2).2.2.2.2.2.2.2.1)) (by first | omega | (dsimp only; omega))) cB110 rfl hz0 ?_
  rintro e w2 ⟨ra, rc, rfl, R, T0⟩; exact ⟨ra, rc, rfl, R.own, T0.ch⟩
 have S0 := S
 clear S; intro a u S G hE hP
 obtain ⟨e10, e13, e16, -⟩ := hE
 obtain ⟨ad10, cap10, e10, X10, hn10⟩ := e10; replace S := S.ext e10
 obtain ⟨ad13, cap13, e13, X13, hn13⟩ := e13; replace S := S.ext e13
 obtain ⟨ad16, cap16, e16, X16, hn16⟩ := e16; replace S := S.ext e16
 have hsep : Sep (ow [rwO intE 3 w.heap.size ad10 cap10 m.2.target.xs, rwO intE 3 w.heap.size ad13 cap13 m.2.known.xs, rwO intE 3 w.heap.size ad16 cap16 m.2.waiting.xs]) := by
  refine ⟨?_, ?_, ?_, trivial⟩
  ·intro k hk hm
   rcases hm with hm | hm | hm
   ·exact hP 10 13 rfl k (abk_blks e10 hk) (abk_blks e13 hm)
   ·exact hP 10 16 rfl k (abk_blks e10 hk) (abk_blks e16 hm)
   exact hm
  ·intro k hk hm
   rcases hm with hm | hm
   ·exact hP 13 16 rfl k (abk_blks e13 hk) (abk_blks e16 hm)
   exact hm
  intro k hk hm
  exact hm
 replace S := S0.ownM S [] G (by intro j f hj; simp at hj) [rwO intE 3 w.heap.size ad10 cap10 m.2.target.xs, rwO intE 3 w.heap.size ad13 cap13 m.2.known.xs, rwO intE 3 w.heap.size ad16 cap16 m.2.waiting.xs] hsep (by
  intro f hf; simp only [List.mem_cons, List.not_mem_nil, or_false] at hf; rcases hf with rfl | rfl | rfl
  ·exact fun k hk => let ⟨q2, q3⟩ := row_blk X10 k hk; ⟨hz0 ▸ q2, q3⟩
  ·exact fun k hk => let ⟨q2, q3⟩ := row_blk X13 k hk; ⟨hz0 ▸ q2, q3⟩
  ·exact fun k hk => let ⟨q2, q3⟩ := row_blk X16 k hk; ⟨hz0 ▸ q2, q3⟩) (by
  intro m f hf; simp only [List.mem_cons, List.not_mem_nil, or_false] at hf; rcases hf with rfl | rfl | rfl
  ·exact ⟨Row.lower3 X10 (by have := S0.m.c.size; omega), fun x hx => Enc.mv _ m (LAt.mem (((S0.u 0 rfl).2.2).2.2.2.2.2.1).1 x hx)⟩
  ·exact ⟨Row.lower3 X13 (by have := S0.m.c.size; omega), fun x hx => Enc.mv _ m (LAt.mem (((S0.u 0 rfl).2.2).2.2.2.2.2.2.1).1 x hx)⟩
  exact ⟨Row.lower3 X16 (by have := S0.m.c.size; omega), fun x hx => Enc.mv _ m (LAt.mem (((S0.u 0 rfl).2.2).2.2.2.2.2.2.2.1).1 x hx)⟩)
 clear S0 hsep
 refine ens S (tr (stk 1 rfl rfl rfl)<|tr (fldi 0 4 rfl uT57)<|tr (stk 1 rfl rfl rfl)<|tr (fldi 0 5 rfl uT57)<|la (stk 1 rfl rfl rfl)) ?_; clear S; intro a u S
 refine rs S (tr (ldkw 1 rfl rfl wD57)<|la (stkw 0 rfl rfl rfl)) ?_; clear S; intro a u S
 refine wp_ret ?_
 refine retcw rfl S.s rfl [iI m.2.round, bD (m.2.back = true), iI m.2.seq, .slice ad10 m.2.target.xs.length cap10, .slice ad13 m.2.known.xs.length cap13, .slice ad16 m.2.waiting.xs.length cap16] wD57 (fun j v hv => by rw [Nat.zero_add]; exact (S.k 0 rfl).cell hv) ?_
 replace S := S.pk [4, 3, 2] (os' := [rwO intE 3 w.heap.size ad16 cap16 m.2.waiting.xs, rwO intE 3 w.heap.size ad13 cap13 m.2.known.xs, rwO intE 3 w.heap.size ad10 cap10 m.2.target.xs])
 refine ⟨ad10, cap10, ad13, cap13, ad16, cap16, rfl, (S.row 2 rfl), (S.row 1 rfl), (S.row 0 rfl), S.m.c⟩
end Go.Proofs.Ytobggnpnochnnaa.V
