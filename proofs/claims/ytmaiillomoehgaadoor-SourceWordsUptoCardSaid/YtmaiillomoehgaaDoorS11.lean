/- words between commas: the reference -/
import Derived.Test.YtmaiillomoehgaaDoorS10
import Derived.Test.YtmaiillomoehgaaDoorSlx
namespace Go.Proofs.YtmaiillomoehgaaDoor.V
open Go.RowKit Go.Proofs.YtmaiillomoehgaaDoor
set_option linter.unusedVariables false
set_option linter.unusedSimpArgs false
theorem take_up {xs : List ByteArray} {k fr : Nat} (h : k < xs.length) (hf : fr ≤ k) (d : ByteArray) : (xs.take (k + 1)).drop fr = (xs.take k).drop fr ++ [xs.getD k d] := by
 rw [List.take_add_one, List.drop_append_of_le_length (by simp; omega), List.getD_eq_getElem?_getD, List.getElem?_eq_getElem h]; rfl
set_option maxHeartbeats 2000000 in
set_option maxRecDepth 20000 in
theorem rItems (w : World) (F : Nat → Prop) (hF : Old F w) (M : MS [] w) (ws : Sl ByteArray) (ws_w : (slE strE).wf (Fr F []) w.heap ws) (hb : ws.xs.length ≤ 1000000) :
 Calls Tryd.prog 30 #[sV ws] w fun e w' => ∃ (r0 : Sl (Sl ByteArray)), e = .returned (.tuple #[sV r0, bD (itOK ws.xs)]) ∧ (slE (slE strE)).wf (Fr F []) w'.heap r0 ∧ (r0.xs.map Sl.xs = if itOK ws.xs then itemsL ws.xs else []) ∧ Tr [] w [] w' := by
 have : ws.xs.length ≤ 9223372036854775807 := (ws_w).1.len
 refine go Tryd.func30 rfl 39 rfl [wfF (slE strE) ws] [] hF M ⟨ws_w, trivial⟩ trivial ?_
 intro a S
 refine rs S (tr (av rfl)<|la (av rfl)) ?_; clear S; intro a u S
 refine rs S (la (av rfl)) ?_; clear S; intro a u S
 refine rs S (la (av rfl)) ?_; clear S; intro a u S
 refine wp_seq ?_
 refine rs S (la (av rfl)) ?_; clear S; intro a u S
 refine wp_block ?_
 replace S := S.nr (slE strE) 29
 refine lp5 (fun (fr : Nat) (k : Nat) (out_a : Option Addr) (out_c : Nat) (out : List (Sl ByteArray)) => [(0, sV ws), (5, iN fr), (6, iN k), (4, .slice out_a out.length out_c)]) (fun (fr : Nat) (k : Nat) (out_a : Option Addr) (out_c : Nat) (out : List (Sl ByteArray)) => [rwO (slE strE) 29 w.heap.size out_a out_c out]) (fun (fr : Nat) (k : Nat) (out_a : Option Addr) (out_c : Nat) (out : List (Sl ByteArray)) => k ≤ ws.xs.length + 1 ∧ fr ≤ k ∧ (k ≤ ws.xs.length → itS (out.map Sl.xs) ((ws.xs.take k).drop fr) (ws.xs.drop k) = itemsL ws.xs) ∧ (k = ws.xs.length + 1 → out.map Sl.xs = itemsL ws.xs) ∧ (∀ x ∈ out, x.xs ≠ []) ∧ out.length ≤ k ∧ (k = ws.xs.length + 1 → fr = k)) (fun (fr : Nat) (k : Nat) (out_a : Option Addr) (out_c : Nat) (out : List (Sl ByteArray)) => ws.xs.length + 1 - k) S 0 0 none 0 ([]) (subM rfl) rfl ?_ ?_
 ·exact ⟨Nat.zero_le _, Nat.le_refl _, fun _ => rfl, fun h => by omega, fun _ h => by simp at h, Nat.zero_le _, fun h => by omega⟩
 clear S; intro fr k out_a out_c out a u S hR
 have out_len := (S.row 0 rfl).len_le; simp only [maxLen] at out_len
 obtain ⟨hk, hfk, hI, hE, hne, hol, hfe⟩ := hR
 refine wp_seq ?_
 have hn6 : ws.xs.length ≤ 9223372036854775807 := ((S.u 0 rfl)).1.len
 refine rs S (tr (mv rfl)<|tr (mv rfl)<|tr (leni uT29 rfl)<|la (leqi rfl rfl)) ?_; clear S; intro a u S
 refine cd S rfl ?_ ?_
 ·intro hc0
  refine wp_skip (then_n (wp_seq (wp_block (wp_seq ?_))))
  refine rs S (tr (mv rfl)<|tr (mv rfl)<|tr (leni uT29 rfl)<|tr (lssi rfl rfl)<|tr (mv rfl)<|tr (og 17 rfl gt fun S hg=>x_move (S.e rfl))<|tr (og 17 rfl gt fun S hg=>x_move (S.e rfl))<|tr (og 17 rfl gt fun S hg=>x_idx uT29 sZ9 (S.p rfl hg) (S.p rfl hg) k rfl (by omega) (((S.u 0 rfl)).1.adr (i := k) (by omega)))<|tr (og 17 rfl gt fun S hg=>x_load sC9 (S.p rfl hg) (((S.u 0 rfl)).1.cell k (by omega) 0 _ rfl))<|tr (og 17 rfl gt fun S hg=>x_sneq (S.p rfl hg) (S.e rfl))<|la (andi rfl rfl rfl)) ?_; clear S; intro a u S
  refine cd S rfl ?_ ?_
  ·intro hc1
   refine wp_exit (then_e (blk_e (then_n ?_)))
   refine rg S (tr (mv rfl)<|tr (addi ((k + 1 : Nat) : Int) rfl rfl (w_i64 (by omega)))<|la (av rfl)) ?_; clear S; intro a u S
   refine then_n ?_
   refine ⟨fr, (k + 1), out_a, out_c, out, S.re (subM rfl) rfl rfl, ?_, ?_⟩
   ·obtain ⟨q1, q2⟩ := hc1
    refine ⟨by omega, by omega, fun _ => ?_, fun h => by omega, hne, by omega, fun h => by omega⟩
    rw [← hI (by omega), drop_at (k := k) (by omega) strE.dflt, itS_w _ _ _ (by first | exact q2 | exact q1), take_up (by omega) (by omega) strE.dflt]
   omega
  intro hc2
  refine wp_skip (then_n (wp_seq ?_))
  refine rs S (tr (mv rfl)<|tr (mv rfl)<|la (eqli rfl rfl)) ?_; clear S; intro a u S
  refine cd S rfl ?_ ?_
  ·intro hc3
   have hno : ¬ itOK ws.xs := fun h => by
    have hcu : (ws.xs.take k).drop fr = [] := List.drop_of_length_le (by simp; omega)
    have hI2 := hI (by omega)
    rw [hcu] at hI2
    refine h [] ?_ rfl
    rw [← hI2]
    rcases Nat.lt_or_ge k ws.xs.length with q | q
    ·rw [drop_at (k := k) q strE.dflt, itS_c _ _ _ (Classical.not_not.1 fun e => hc2 (by first | exact ⟨by omega, e⟩ | exact ⟨e, by omega⟩))]
     exact itS_mem _ _ _ (by simp)
    rw [List.drop_of_length_le q]; simp [itS]
   refine rs S (tr (av rfl)<|la (av rfl)) ?_; clear S; intro a u S
   refine wp_ret (then_r (blk_r (then_r (then_r (blk_r (then_r ?_))))))
   refine ret2 rfl S.s rfl rfl ?_
   replace S := S.pk []
   refine ⟨(Sl.mk none 0 ([] : List (Sl ByteArray))), (r2 rfl (vf ?_)), sl_nil, ?_, S.m.c⟩
   ·exact hno
   rw [if_neg hno]; rfl
  intro hc4
  refine wp_skip (then_n (rs0 ?_))
  refine sp S (la (mv rfl)) ?_; clear S; intro a u S
  refine nbr (q := 0) strE S [] (x_bsl0 uT29 iZ9) (fun _ h => by simp at h) ?_; clear S; intro a u b28 S
  have hk12 : (slSub strE ws fr k).xs.length = k - fr := by show ((ws.xs.take k).drop fr).length = _; rw [List.length_drop, List.length_take]; omega
  refine sp S (tr (mv rfl)<|tr (mv rfl)<|tr (mv rfl)<|la (ov (v := sV (slSub strE ws fr k)) fun S=>x_slsub strE (s := ws) uT29 iZ9 (S.e rfl) (S.e rfl) (S.e rfl) fr k rfl rfl (by omega) (by omega) ((S.u 0 rfl)).2.1)) ?_; clear S; intro a u S
  refine ap (E := strE) (ys := ((ws.xs.take k).drop fr)) S 1 rfl uT29 iZ9 rfl rfl ((sl_sub (E := strE) (S.u 0 rfl) fr k (by omega) (by omega))).1 ((sl_sub (E := strE) (S.u 0 rfl) fr k (by omega) (by omega))).2.2 (LAt.mem ((sl_sub (E := strE) (S.u 0 rfl) fr k (by omega) (by omega))).1) ⟨by unfold maxLen; (try simp only [List.length_nil, List.length_drop, List.length_take]); omega, by (try simp only [List.length_nil, List.length_drop, List.length_take]); omega⟩ ?_; clear S; intro a u ad33 cap33 S
  replace S := S.fz 1 rfl
  refine nbs (slE strE) S [(Sl.mk ad33 cap33 ([] ++ ((ws.xs.take k).drop fr)))] (x_bs S [(0, .slice ad33 (([] ++ ((ws.xs.take k).drop fr)).length) cap33)] uT52 iZ29) (fun x hx => by simp only [List.mem_cons, List.not_mem_nil, or_false] at hx; rw [hx]; exact (show (slE strE).wf _ _ (Sl.mk ad33 cap33 ([] ++ ((ws.xs.take k).drop fr))) from (S.u 1 rfl))) ?_; clear S; intro a u b34 S
  refine ap (E := (slE strE)) (ys := [(Sl.mk ad33 cap33 ([] ++ ((ws.xs.take k).drop fr)))]) S 0 rfl uT52 iZ29 rfl rfl (show LAt (slE strE) _ _ (some ⟨b34, 0, none⟩) ([(Sl.mk ad33 cap33 ([] ++ ((ws.xs.take k).drop fr)))]) from ((S.u 2 rfl)).1) ((S.u 2 rfl)).2.2 (LAt.mem (show LAt (slE strE) _ _ (some ⟨b34, 0, none⟩) ([(Sl.mk ad33 cap33 ([] ++ ((ws.xs.take k).drop fr)))]) from ((S.u 2 rfl)).1)) ⟨by unfold maxLen; (try simp only [List.length_cons, List.length_nil, List.length_append, List.length_map]); omega, by (try simp only [List.length_cons, List.length_nil, List.length_append, List.length_map]); omega⟩ ?_; clear S; intro a u ad35 cap35 S
  refine ens S (la (av rfl)) ?_; clear S; intro a u S
  refine rg S (tr (mv rfl)<|tr (addi ((k + 1 : Nat) : Int) rfl rfl (w_i64 (by omega)))<|la (av rfl)) ?_; clear S; intro a u S
  refine blk_n (then_n ?_)
  refine rg S (tr (mv rfl)<|tr (addi ((k + 1 : Nat) : Int) rfl rfl (w_i64 (by omega)))<|la (av rfl)) ?_; clear S; intro a u S
  refine then_n ?_
  refine ⟨k + 1, (k + 1), ad35, cap35, (out ++ [(Sl.mk ad33 cap33 ([] ++ ((ws.xs.take k).drop fr)))]), S.re (subM rfl) rfl rfl, ?_, ?_⟩
  ·refine ⟨by omega, by omega, fun h => ?_, fun h => ?_, fun x hx => ?_, by simp; omega, fun _ => by omega⟩
   ·rw [← hI (by omega), drop_at (k := k) (by omega) strE.dflt, itS_c _ _ _ (Classical.not_not.1 fun q => hc2 (by first | exact ⟨by omega, q⟩ | exact ⟨q, by omega⟩)), List.map_append, show (ws.xs.take (k + 1)).drop (k + 1) = [] from List.drop_of_length_le (by simp; omega)]; rfl
   ·rw [← hI (by omega), show ws.xs.drop k = [] from List.drop_of_length_le (by omega), List.map_append]; rfl
   rcases List.mem_append.1 hx with h | h
   ·exact hne x h
   have hl : x.xs.length = k - fr := by
    simp only [List.mem_cons, List.not_mem_nil, or_false] at h; subst h; simp; omega
   intro e; rw [e] at hl; simp at hl; omega
  omega
 intro hc5
 have hfin : out.map Sl.xs = itemsL ws.xs := hE (by omega)
 have hok : itOK ws.xs := by
  intro p hp
  rw [← hfin] at hp
  obtain ⟨x, hx, rfl⟩ := List.mem_map.1 hp
  exact hne x hx
 refine wp_exit (then_e (then_e (blk_e (then_n ?_))))
 refine rs S (tr (mv rfl)<|tr (av rfl)<|la (av rfl)) ?_; clear S; intro a u S
 refine wp_ret ?_
 replace S := S.fz 0 rfl
 refine ret2 rfl S.s rfl rfl ?_
 replace S := S.pk []
 refine ⟨(Sl.mk out_a out_c out), (r2 rfl (vt ?_)), (S.u 1 rfl), ?_, S.m.c⟩
 ·exact hok
 rw [if_pos hok]; exact hfin
end Go.Proofs.YtmaiillomoehgaaDoor.V
