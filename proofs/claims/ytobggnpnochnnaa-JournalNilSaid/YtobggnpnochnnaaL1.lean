/- the reference: lists -/
import Derived.Test.YtobggnpnochnnaaJ7
import Derived.Test.YtobggnpnochnnaaGrpU
namespace Go.Proofs.Ytobggnpnochnnaa.V
open Go.RowKit Go.Proofs.Ytobggnpnochnnaa
set_option linter.unusedVariables false
set_option linter.unusedSimpArgs false
theorem putP {l : List Int} {v : Int} {k : Nat} (hp : l.Pairwise (· < ·)) (hk : k ≤ l.length) (hn : ∀ j, j < k → l.getD j intE.dflt < v) (h1 : ¬ ((k : Int) < (l.length : Int) ∧ l.getD k intE.dflt < v)) (h2 : ¬ ((k : Int) < (l.length : Int) ∧ l.getD k intE.dflt = v)) : insW l v = l.take k ++ [v] ++ l.drop k := by
 have hg : ∀ i j, i < j → j < l.length → l.getD i 0 < l.getD j 0 := fun i j hij hj => by
  have := List.pairwise_iff_getElem.1 hp i j (by omega) hj hij
  rwa [List.getD_eq_getElem?_getD, List.getD_eq_getElem?_getD, List.getElem?_eq_getElem (show i < l.length by omega), List.getElem?_eq_getElem hj]
 have h1' : k < l.length → v ≤ l.getD k 0 := fun h => by
  apply Int.not_lt.1; intro q; exact h1 ⟨by omega, q⟩
 refine insW_new hk hn (fun j hj hl => ?_) fun hm => ?_
 ·rcases Nat.eq_or_lt_of_le hj with e | e
  ·subst e; exact h1' hl
  have := h1' (by omega)
  have := hg k j e hl
  omega
 obtain ⟨i, hi, e⟩ := List.getElem_of_mem hm
 have e' : l.getD i 0 = v := by rw [List.getD_eq_getElem?_getD, List.getElem?_eq_getElem hi]; exact e
 rcases Nat.lt_trichotomy i k with q | q | q
 ·have : l.getD i 0 < v := hn i q
  omega
 ·subst q; exact h2 ⟨by omega, e'⟩
 have := h1' (by omega)
 have := hg k i q hi
 omega
theorem filt_no {x v : Int} (h : ¬ x = v) : [x].filter (fun y => !(y == v)) = [x] := by simp [h]
theorem filt_yes {x v : Int} (h : ¬ ¬ x = v) : [x].filter (fun y => !(y == v)) = [] := by simp [Classical.not_not.1 h]
set_option maxHeartbeats 2000000 in
set_option maxRecDepth 20000 in
theorem rPut0 (w : World) (F : Nat → Prop) (hF : Old F w) (M : MS [] w) (l : Sl Int) (l_w : (slE intE).wf (Fr F []) w.heap l) (v : Int) (v_h : inI64 v) (hb : l.xs.Pairwise (· < ·) ∧ l.xs.length ≤ 1000) :
 Calls Try.prog 119 #[sV l, iI v] w fun e w' => ∃ (ra : Option Addr) (rc : Nat), e = .returned (.slice ra ((insW l.xs v).length) rc) ∧ (slE intE).wf (Fr F []) w'.heap (Sl.mk ra rc (insW l.xs v)) ∧ Tr [] w [] w' := by
 have : l.xs.length ≤ 9223372036854775807 := (l_w).1.len
 obtain ⟨v_hl, v_hu⟩ : inI64 v := id v_h
 obtain ⟨hb1, hb2⟩ := hb
 refine go Try.func119 rfl 45 rfl [wfF (slE intE) l] [] hF M ⟨l_w, trivial⟩ trivial ?_
 intro a S
 have hD : ∀ k, In ([] : List BS) k → ¬ F k := fun _ h => h.elim
 refine rs S (la (av rfl)) ?_; clear S; intro a u S
 refine rs S (la (av rfl)) ?_; clear S; intro a u S
 refine wp_seq (wp_block ?_)
 refine lp1 (fun (k : Nat) => [(0, sV l), (1, iI v), (4, .slice none 0 0), (5, iN k)]) (fun (k : Nat) => []) (fun (k : Nat) => k ≤ l.xs.length ∧ ∀ j, j < k → l.xs.getD j intE.dflt < v) (fun (k : Nat) => l.xs.length - k) S 0 (subM rfl) rfl ?_ ?_
 ·exact ⟨Nat.zero_le _, fun j hj => by omega⟩
 clear S; intro k a u S hR
 obtain ⟨hk, hn⟩ := hR
 refine wp_seq ?_
 have hn4 : l.xs.length ≤ 9223372036854775807 := ((S.u 0 rfl)).1.len
 refine rs S (tr (mv rfl)<|tr (mv rfl)<|tr (leni uT22 rfl)<|tr (lssi rfl rfl)<|tr (mv rfl)<|tr (og 10 rfl gt fun S hg=>x_move (S.e rfl))<|tr (og 10 rfl gt fun S hg=>x_move (S.e rfl))<|tr (og 10 rfl gt fun S hg=>x_idx uT22 sZ3 (S.p rfl hg) (S.p rfl hg) k rfl (by omega) (((S.u 0 rfl)).1.adr (i := k) (by omega)))<|tr (og 10 rfl gt fun S hg=>x_load sC3 (S.p rfl hg) (((S.u 0 rfl)).1.cell k (by omega) 0 _ rfl))<|tr (og 10 rfl gt fun S hg=>x_move (S.e rfl))<|tr (og 10 rfl gt fun S hg=>x_lss (S.p rfl hg) (S.p rfl hg))<|la (andi rfl rfl rfl)) ?_; clear S; intro a u S
 refine cd S rfl ?_ ?_
 ·intro hc0
  refine wp_skip (then_n (wp_block ?_))
  refine rg S (tr (mv rfl)<|tr (addi ((k + 1 : Nat) : Int) rfl rfl (w_i64 (by omega)))<|la (av rfl)) ?_; clear S; intro a u S
  refine blk_n (then_n ?_)
  refine ⟨(k + 1), S.re (subM rfl) rfl rfl, ?_, ?_⟩
  ·refine ⟨by omega, fun j hj => ?_⟩
   rcases Nat.lt_succ_iff_lt_or_eq.1 hj with h | h
   ·exact hn j h
   subst h; exact hc0.2
  omega
 intro hc1
 refine wp_exit (then_e (then_e (blk_e (then_n (wp_seq ?_)))))
 refine rs S (tr (mv rfl)<|tr (mv rfl)<|tr (leni uT22 rfl)<|tr (lssi rfl rfl)<|tr (mv rfl)<|tr (og 24 rfl gt fun S hg=>x_move (S.e rfl))<|tr (og 24 rfl gt fun S hg=>x_move (S.e rfl))<|tr (og 24 rfl gt fun S hg=>x_idx uT22 sZ3 (S.p rfl hg) (S.p rfl hg) k rfl (by omega) (((S.u 0 rfl)).1.adr (i := k) (by omega)))<|tr (og 24 rfl gt fun S hg=>x_load sC3 (S.p rfl hg) (((S.u 0 rfl)).1.cell k (by omega) 0 _ rfl))<|tr (og 24 rfl gt fun S hg=>x_move (S.e rfl))<|tr (og 24 rfl gt fun S hg=>x_eql (S.p rfl hg) (S.p rfl hg))<|la (andi rfl rfl rfl)) ?_; clear S; intro a u S
 refine cd S rfl ?_ ?_
 ·intro hc2
  refine rs S (tr (mv rfl)<|la (av rfl)) ?_; clear S; intro a u S
  refine wp_ret (then_r ?_)
  refine ret1 rfl S.s rfl ?_
  have hx8 : insW l.xs v = l.xs := by
   exact insW_mem hb1 (by rw [← hc2.2]; exact getD_mem (d := intE.dflt) (i := k) (by omega))
  rw [hx8]
  refine ⟨l.a, l.c, rfl, (S.u 0 rfl), S.m.c⟩
 intro hc3
 refine wp_skip (then_n (wp_seq ?_))
 have hk9 : (l.xs.take k).length = k := by rw [List.length_take]; first | omega | (simp only [List.length_cons, List.length_nil]; omega)
 obtain ⟨z0, hz0⟩ := S.z
 have SW := S
 have hk10 : (slFrom intE l k).xs.length = l.xs.length - k := List.length_drop
 refine dr5 (P := Try.prog) S 7 [⟨8, 41, sV l, []⟩, ⟨9, 42, iN k, []⟩, ⟨10, 43, sV (slFrom intE l k), [41, 42]⟩] [7, 11, 12] [33, 37, 39] [(33, 39), (37, 39)] [] [(33, nilT 3 z0 _), (34, .is _), (35, .is _), (36, .is _), (37, rowT intE 3 z0 _ (l.xs.take k)), (38, .is _), (39, litT 1 [iI v] 3 z0 _), (41, .is (sV l)), (42, .is (iN k)), (43, .is (sV (slFrom intE l k)))] [[], [], [], [34, 35], [33, 36], [], [38]] [37, 39, 43] _ ⟨⟨_, rfl, nilT_owns⟩, ⟨_, rfl, rowT_owns⟩, ⟨_, rfl, litT_owns⟩, trivial⟩ ⟨⟨⟨_, rfl, rfl, rfl, fun a w S => (x_move (S.e rfl))⟩, (show 41 < 45 from by decide), rfl⟩, ⟨⟨_, rfl, rfl, rfl, fun a w S => (x_move (S.e rfl))⟩, (show 42 < 45 from by decide), rfl⟩, ⟨⟨_, rfl, rfl, rfl, fun a w S => (x_slfrom intE (s := l) uT22 iZ3 (S.e rfl) (S.e rfl) k rfl (by omega))⟩, (show 43 < 45 from by decide), rfl⟩, trivial⟩ ⟨hcn rfl hz0 uT22 iZ3, qdc (qd (mv rfl)), qdc (qd (mv rfl)), qdc (qd (ov (v := .slice l.a ((l.xs.take k).length) l.c) fun S=>x_slhn uT22 iZ3 (S.e rfl) (S.e rfl) k rfl (Nat.le_trans (by omega) ((S.u 0 rfl)).2.1) ((S.u 0 rfl)).2.2 _ (by rw [List.length_take]; first | omega | (simp only [List.length_cons, List.length_nil]; omega)))), ?_, qdc (qd (mv rfl)), hcs rfl hz0 (fun S => x_bsl [(0, iI v)] [iI v] uT22 iZ3 (by decide) (by decide) (by simp only [List.map_cons, List.map_nil, S.e (x := .tmp 38) (v := iI v) rfl]) (by kernel_rfl)), trivial⟩ ?_
 ·skip
  intro a u S G hE _; obtain ⟨e33, -⟩ := hE; obtain ⟨x33, e33, X33, hg33, hn33⟩ := e33; have M0 := S.m; replace S := S.ext e33
  exact hca 33 S M0 G rfl hz0 ⟨e33, X33, hg33, hn33⟩ rfl rfl (((S.u 0 rfl)).1.take k (by omega)) ⟨by unfold maxLen; omega, by omega⟩ uT22 iZ3 rfl
 have S0 := S
 clear S; intro a u S G hE hP
 obtain ⟨e37, e39, -⟩ := hE
 obtain ⟨ad37, cap37, e37, X37, hn37⟩ := e37; replace S := S.ext e37
 obtain ⟨b39, e39, X39, hg39, hn39⟩ := e39; replace S := S.ext e39
 have hsep : Sep (ow [rwO intE 3 w.heap.size ad37 cap37 (l.xs.take k), rwO intE 3 w.heap.size (some ⟨b39, 0, none⟩) 1 ([v])]) := by
  refine ⟨?_, ?_, trivial⟩
  ·intro k hk hm
   rcases hm with hm | hm
   ·exact hP 37 39 rfl k (abk_blks e37 hk) (abk_blks e39 hm)
   exact hm
  intro k hk hm
  exact hm
 replace S := S0.ownM S [] G (by intro j f hj; simp at hj) [rwO intE 3 w.heap.size ad37 cap37 (l.xs.take k), rwO intE 3 w.heap.size (some ⟨b39, 0, none⟩) 1 ([v])] hsep (by
  intro f hf; simp only [List.mem_cons, List.not_mem_nil, or_false] at hf; rcases hf with rfl | rfl
  ·exact fun k hk => let ⟨q2, q3⟩ := row_blk X37 k hk; ⟨hz0 ▸ q2, q3⟩
  ·exact fun k hk => let ⟨q2, q3⟩ := (fun k hk => var_blk X39 hg39 k (by have h : abk (some ⟨b39, 0, none⟩) k := hk; rw [abk_one] at h; exact h)) k hk; ⟨hz0 ▸ q2, q3⟩) (by
  intro m f hf; simp only [List.mem_cons, List.not_mem_nil, or_false] at hf; rcases hf with rfl | rfl
  ·exact ⟨Row.lower3 X37 (by have := S0.m.c.size; omega), fun x hx => Enc.mv _ m (LAt.mem (((S0.u 0 rfl)).1.take k (by omega)) x hx)⟩
  exact (let R := row_of_blk (E := intE) (F := F) (ms := []) X39 ([v]) 1 rfl (by decide) (by decide) rfl (by have := S0.m.c.size; omega) (fun x hx => by simp only [List.mem_cons, List.not_mem_nil, or_false] at hx; rw [hx] <;> first | exact v_h); ⟨R.own, fun x hx => R.wf x hx⟩))
 clear S0 hsep
 have hn11 : ((slFrom intE l k).xs).length ≤ 9223372036854775807 := ((sl_from (E := intE) (S.u 0 rfl) k (by omega))).1.len
 refine ap (E := intE) (ys := [v]) S 0 rfl uT22 iZ3 rfl rfl ((S.row 1 rfl).lat (by first | decide | exact Nat.one_pos | exact Nat.succ_pos _)) (S.row 1 rfl).cap_le.2 (S.row 1 rfl).wf ⟨by unfold maxLen; (try simp only [List.length_cons, List.length_nil, List.length_append, List.length_map]); omega, by (try simp only [List.length_cons, List.length_nil, List.length_append, List.length_map]); omega⟩ ?_; clear S; intro a u ad40 cap40 S
 refine ap (E := intE) (ys := (slFrom intE l k).xs) S 0 rfl uT22 iZ3 rfl rfl ((sl_from (E := intE) (S.u 0 rfl) k (by omega))).1 ((sl_from (E := intE) (S.u 0 rfl) k (by omega))).2.2 (LAt.mem ((sl_from (E := intE) (S.u 0 rfl) k (by omega))).1) ⟨by unfold maxLen; (try simp only [List.length_cons, List.length_nil, List.length_append, List.length_map]); omega, by (try simp only [List.length_cons, List.length_nil, List.length_append, List.length_map]); omega⟩ ?_; clear S; intro a u ad44 cap44 S
 refine ens S (la (av rfl)) ?_; clear S; intro a u S
 refine wp_ret ?_
 replace S := S.fz 0 rfl
 refine ret1 rfl S.s rfl ?_
 replace S := S.pk []
 have hx12 : insW l.xs v = (((l.xs.take k) ++ [v]) ++ (slFrom intE l k).xs) := by
  exact putP hb1 hk hn hc1 hc3
 rw [hx12]
 refine ⟨ad44, cap44, rfl, (S.u 1 rfl), S.m.c⟩
set_option maxHeartbeats 2000000 in
set_option maxRecDepth 20000 in
theorem rWithout (w : World) (F : Nat → Prop) (hF : Old F w) (M : MS [] w) (l : Sl Int) (l_w : (slE intE).wf (Fr F []) w.heap l) (v : Int) (v_h : inI64 v) (hb : l.xs.length ≤ 1000) :
 Calls Try.prog 120 #[sV l, iI v] w fun e w' => ∃ (ra : Option Addr) (rc : Nat), e = .returned (.slice ra ((l.xs.filter fun y => !(y == v)).length) rc) ∧ Row intE 3 w.heap.size F [abk ra] w' ra rc (l.xs.filter fun y => !(y == v)) ∧ Tr [] w [abk ra] w' := by
 have : l.xs.length ≤ 9223372036854775807 := (l_w).1.len
 obtain ⟨v_hl, v_hu⟩ : inI64 v := id v_h
 refine go Try.func120 rfl 27 rfl [wfF (slE intE) l] [] hF M ⟨l_w, trivial⟩ trivial ?_
 intro a S
 have hD : ∀ k, In ([] : List BS) k → ¬ F k := fun _ h => h.elim
 refine rs S (la (av rfl)) ?_; clear S; intro a u S
 refine rs S (la (av rfl)) ?_; clear S; intro a u S
 refine wp_seq ?_
 refine rs S (la (av rfl)) ?_; clear S; intro a u S
 refine wp_block ?_
 replace S := S.nr intE 3
 refine lp4 (fun (k : Nat) (out_a : Option Addr) (out_c : Nat) (out : List Int) => [(0, sV l), (1, iI v), (4, .slice none 0 0), (6, iN k), (5, .slice out_a out.length out_c)]) (fun (k : Nat) (out_a : Option Addr) (out_c : Nat) (out : List Int) => [rwO intE 3 w.heap.size out_a out_c out]) (fun (k : Nat) (out_a : Option Addr) (out_c : Nat) (out : List Int) => k ≤ l.xs.length ∧ out = (l.xs.take k).filter fun y => !(y == v)) (fun (k : Nat) (out_a : Option Addr) (out_c : Nat) (out : List Int) => l.xs.length - k) S 0 none 0 ([]) (subM rfl) rfl ?_ ?_
 ·exact ⟨Nat.zero_le _, rfl⟩
 clear S; intro k out_a out_c out a u S hR
 have out_len := (S.row 0 rfl).len_le; simp only [maxLen] at out_len
 obtain ⟨hk, hout⟩ := hR
 have hol : out.length ≤ k := by rw [hout]; exact Nat.le_trans (List.length_filter_le _ _) (by rw [List.length_take]; omega)
 refine wp_seq ?_
 have hn5 : l.xs.length ≤ 9223372036854775807 := ((S.u 0 rfl)).1.len
 refine rs S (tr (mv rfl)<|tr (mv rfl)<|tr (leni uT22 rfl)<|la (lssi rfl rfl)) ?_; clear S; intro a u S
 refine cd S rfl ?_ ?_
 ·intro hc0
  refine wp_skip (then_n (wp_seq (wp_block ?_)))
  obtain ⟨hl7, hu7⟩ : inI64 (l.xs.getD k intE.dflt) := id (((S.u 0 rfl)).1.wf k (by omega))
  refine rs S (tr (mv rfl)<|tr (mv rfl)<|tr (idxi uT22 sZ3 rfl rfl k rfl (by omega) (((S.u 0 rfl)).1.adr (i := k) (by omega)))<|tr (ov fun S=>x_load sC3 (S.e rfl) (((S.u 0 rfl)).1.cell k (by omega) 0 _ rfl))<|tr (mv rfl)<|la (neqi rfl rfl)) ?_; clear S; intro a u S
  refine cd S rfl ?_ ?_
  ·intro hc1
   refine r0 ?_
   refine sp S (tr (mv rfl)<|tr (mv rfl)<|tr (mv rfl)<|tr (idxi uT22 sZ3 rfl rfl k rfl (by omega) (((S.u 0 rfl)).1.adr (i := k) (by omega)))<|la (ov fun S=>x_load sC3 (S.e rfl) (((S.u 0 rfl)).1.cell k (by omega) 0 _ rfl))) ?_; clear S; intro a u S
   refine nbs intE S [(l.xs.getD k intE.dflt)] (x_bs S [(0, iI (l.xs.getD k intE.dflt))] uT22 iZ3) (fun x hx => by simp only [List.mem_cons, List.not_mem_nil, or_false] at hx; rw [hx]; exact (show intE.wf _ _ (l.xs.getD k intE.dflt) from (((S.u 0 rfl)).1.wf k (by omega)))) ?_; clear S; intro a u b24 S
   refine ap (E := intE) (ys := [(l.xs.getD k intE.dflt)]) S 0 rfl uT22 iZ3 rfl rfl (show LAt intE _ _ (some ⟨b24, 0, none⟩) ([(l.xs.getD k intE.dflt)]) from ((S.u 1 rfl)).1) ((S.u 1 rfl)).2.2 (LAt.mem (show LAt intE _ _ (some ⟨b24, 0, none⟩) ([(l.xs.getD k intE.dflt)]) from ((S.u 1 rfl)).1)) ⟨by unfold maxLen; (try simp only [List.length_cons, List.length_nil, List.length_append, List.length_map]); omega, by (try simp only [List.length_cons, List.length_nil, List.length_append, List.length_map]); omega⟩ ?_; clear S; intro a u ad25 cap25 S
   refine en S (la (av rfl)) ?_; clear S; intro a u S
   refine blk_n (then_n ?_)
   refine rg S (tr (mv rfl)<|tr (addi ((k + 1 : Nat) : Int) rfl rfl (w_i64 (by omega)))<|la (av rfl)) ?_; clear S; intro a u S
   refine then_n ?_
   refine ⟨(k + 1), ad25, cap25, (out ++ [(l.xs.getD k intE.dflt)]), S.re (subM rfl) rfl rfl, ?_, ?_⟩
   ·refine ⟨by omega, ?_⟩
    rw [take_up (l := l.xs) (k := k) (m := k + 1) (by omega) rfl intE.dflt, List.filter_append, hout]
    first
    | (rw [filt_no (by assumption)]; done)
    | (rw [filt_yes (by assumption), List.append_nil])
   omega
  intro hc2
  refine wp_skip (blk_n (then_n ?_))
  refine rg S (tr (mv rfl)<|tr (addi ((k + 1 : Nat) : Int) rfl rfl (w_i64 (by omega)))<|la (av rfl)) ?_; clear S; intro a u S
  refine then_n ?_
  refine ⟨(k + 1), out_a, out_c, out, S.re (subM rfl) rfl rfl, ?_, ?_⟩
  ·refine ⟨by omega, ?_⟩
   rw [take_up (l := l.xs) (k := k) (m := k + 1) (by omega) rfl intE.dflt, List.filter_append, hout]
   first
   | (rw [filt_no (by assumption)]; done)
   | (rw [filt_yes (by assumption), List.append_nil])
  omega
 intro hc3
 refine wp_exit (then_e (then_e (blk_e (then_n ?_))))
 refine rs S (tr (mv rfl)<|la (av rfl)) ?_; clear S; intro a u S
 refine wp_ret ?_
 refine ret1 rfl S.s rfl ?_
 have hx12 : (l.xs.filter fun y => !(y == v)) = out := by
  rw [hout, List.take_of_length_le (by omega)]
 rw [hx12]
 refine ⟨out_a, out_c, rfl, (S.row 0 rfl), S.m.c⟩
end Go.Proofs.Ytobggnpnochnnaa.V
