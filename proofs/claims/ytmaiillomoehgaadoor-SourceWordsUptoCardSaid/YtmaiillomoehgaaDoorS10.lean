/- words between commas -/
import Derived.Test.YtmaiillomoehgaaDoorS1
import Derived.Test.YtmaiillomoehgaaDoorItmM
namespace Go.Proofs.YtmaiillomoehgaaDoor.V
open Go.RowKit Go.Proofs.YtmaiillomoehgaaDoor
set_option linter.unusedVariables false
set_option linter.unusedSimpArgs false
theorem set_last {α : Type} {l pre : List α} {x y : α} {m : Nat} (h : l = pre ++ [y]) (hm : m = pre.length) : l.set m x = pre ++ [x] := by subst h hm; simp
theorem get_last {α : Type} {l pre : List α} {y d : α} {m : Nat} (h : l = pre ++ [y]) (hm : m = pre.length) : l.getD m d = y := by subst h hm; simp
set_option maxHeartbeats 2000000 in
set_option maxRecDepth 20000 in
theorem sItems (w : World) (F : Nat → Prop) (hF : Old F w) (M : MS [] w) (ws : Sl ByteArray) (ws_w : (slE strE).wf (Fr F []) w.heap ws) (hb : ws.xs.length ≤ 1000000) :
 Calls Tryd.prog 23 #[sV ws] w fun e w' => ∃ (r0 : Sl (Sl ByteArray)), e = .returned (.tuple #[sV r0, bD (itOK ws.xs)]) ∧ (slE (slE strE)).wf (Fr F []) w'.heap r0 ∧ (r0.xs.map Sl.xs = if itOK ws.xs then itemsL ws.xs else []) ∧ Tr [] w [] w' := by
 have : ws.xs.length ≤ 9223372036854775807 := (ws_w).1.len
 refine go Tryd.func23 rfl 47 rfl [wfF (slE strE) ws] [] hF M ⟨ws_w, trivial⟩ trivial ?_
 intro a S
 refine rs S (tr (av rfl)<|la (av rfl)) ?_; clear S; intro a u S
 refine rs0 ?_
 refine nbr rawE S [(Sl.mk none 0 ([] : List ByteArray))] (x_bs S [(0, .slice none 0 0)] uT52 iZ29) (fun x hx => by simp only [List.mem_cons, List.not_mem_nil, or_false] at hx; rw [hx]; exact (show rawE.wf _ _ (Sl.mk none 0 ([] : List ByteArray)) from trivial)) ?_; clear S; intro a u b10 S
 refine ens S (la (av rfl)) ?_; clear S; intro a u S
 refine wp_seq ?_
 have hn4 : ws.xs.length ≤ 9223372036854775807 := ((S.u 0 rfl)).1.len
 refine rs S (tr (mv rfl)<|tr (leni uT29 rfl)<|la (mv rfl)) ?_; clear S; intro a u S
 refine wp_block ?_
 replace S := S.nr strE 9
 replace S := S.ar (wfF allE ([])) (fun x hx => by simp at hx)
 refine lq8 (fun (pre : List (Sl ByteArray)) (ia : Option Addr) (ic : Nat) (ix : List ByteArray) (k : Nat) (out_a : Option Addr) (out_c : Nat) (out : List (Sl ByteArray)) => [(2, .slice none 0 0), (3, .bool false), (11, sV ws), (12, iN ws.xs.length), (13, iN k), (4, .slice out_a out.length out_c)]) (fun (pre : List (Sl ByteArray)) (ia : Option Addr) (ic : Nat) (ix : List ByteArray) (k : Nat) (out_a : Option Addr) (out_c : Nat) (out : List (Sl ByteArray)) => [wfF (slE strE) ws, wfF allE pre]) (fun (pre : List (Sl ByteArray)) (ia : Option Addr) (ic : Nat) (ix : List ByteArray) (k : Nat) (out_a : Option Addr) (out_c : Nat) (out : List (Sl ByteArray)) => [rwO rawE 29 w.heap.size out_a out_c out, rwO strE 9 w.heap.size ia ic ix]) (fun (pre : List (Sl ByteArray)) (ia : Option Addr) (ic : Nat) (ix : List ByteArray) (k : Nat) (out_a : Option Addr) (out_c : Nat) (out : List (Sl ByteArray)) => out = pre ++ [Sl.mk ia ic ix] ∧ k ≤ ws.xs.length ∧ pre.length ≤ k ∧ ix.length ≤ k ∧ itS (pre.map Sl.xs) ix (ws.xs.drop k) = itemsL ws.xs) (fun (pre : List (Sl ByteArray)) (ia : Option Addr) (ic : Nat) (ix : List ByteArray) (k : Nat) (out_a : Option Addr) (out_c : Nat) (out : List (Sl ByteArray)) => ws.xs.length - k) S ([]) none 0 ([]) 0 (some ⟨b10, 0, none⟩) 1 ([(Sl.mk none 0 ([] : List ByteArray))]) (subM rfl) rfl rfl ?_ ?_
 ·exact ⟨rfl, Nat.zero_le _, Nat.le_refl _, Nat.zero_le _, rfl⟩
 clear S; intro pre ia ic ix k out_a out_c out a u S hR
 have out_len := (S.row 0 rfl).len_le; simp only [maxLen] at out_len
 obtain ⟨hout, hk, hpk, hlk, hI⟩ := hR
 have hol : out.length = pre.length + 1 := by rw [hout]; simp
 refine rs S (la (lssi rfl rfl)) ?_; clear S; intro a u S
 refine wp_seq ?_
 refine cd S rfl ?_ ?_
 ·intro hc0
  refine wp_skip (then_n (wp_seq (wp_block ?_)))
  refine rs S (tr (idxi uT29 sZ9 rfl rfl k rfl (by omega) (((S.u 0 rfl)).1.adr (i := k) (by omega)))<|tr (ov fun S=>x_load sC9 (S.e rfl) (((S.u 0 rfl)).1.cell k (by omega) 0 _ rfl))<|la (av rfl)) ?_; clear S; intro a u S
  refine rs S (tr (mv rfl)<|tr (leni uT52 rfl)<|tr (subi (((out.length : Nat) : Int) - 1) rfl rfl (w_i64 (by omega)))<|la (av rfl)) ?_; clear S; intro a u S
  refine wp_seq ?_
  refine rs S (tr (mv rfl)<|la (snei rfl rfl)) ?_; clear S; intro a u S
  refine cd S rfl ?_ ?_
  ·intro hc1
   refine rs0 ?_
   refine sp S (tr (mv rfl)<|tr (mv rfl)<|tr (mv rfl)<|tr (mv rfl)<|tr (ov fun S=>x_idx uT52 sZ29 (S.e rfl) (S.e rfl) ((((out.length : Nat) : Int) - 1)).toNat (by omega) (by omega) (row_off (S.row 0 rfl) (m := ((((out.length : Nat) : Int) - 1)).toNat) (by omega)))<|la (ov fun S=>x_load sC29 (S.e rfl) (((S.row 0 rfl).latz (by first | decide | exact Nat.one_pos)).cell ((((out.length : Nat) : Int) - 1)).toNat (by omega) 0 _ rfl))) ?_; clear S; intro a u S
   rw [show (out.getD (((((out.length : Nat) : Int) - 1)).toNat) rawE.dflt) = Sl.mk ia ic ix from get_last hout (by omega)] at S
   refine sp S (la (mv rfl)) ?_; clear S; intro a u S
   refine nbs strE S ([(ws.xs.getD k strE.dflt)] : List ByteArray) (x_bs S [(0, .string (ws.xs.getD k strE.dflt))] uT29 iZ9) (fun x hx => by simp only [List.mem_cons, List.not_mem_nil, or_false] at hx; rw [hx]; exact (show strE.wf _ _ (ws.xs.getD k strE.dflt) from (((S.u 0 rfl)).1.wf k (by omega)))) ?_; clear S; intro a u b29 S
   refine ap (E := strE) (ys := ([(ws.xs.getD k strE.dflt)] : List ByteArray)) S 1 rfl uT29 iZ9 rfl rfl (show LAt strE _ _ (some ⟨b29, 0, none⟩) ([(ws.xs.getD k strE.dflt)] : List ByteArray) from ((S.u 2 rfl)).1) ((S.u 2 rfl)).2.2 (LAt.mem (show LAt strE _ _ (some ⟨b29, 0, none⟩) ([(ws.xs.getD k strE.dflt)] : List ByteArray) from ((S.u 2 rfl)).1)) ⟨by unfold maxLen; (try simp only [List.length_cons, List.length_nil, List.length_append, List.length_map]); omega, by (try simp only [List.length_cons, List.length_nil, List.length_append, List.length_map]); omega⟩ ?_; clear S; intro a u ad30 cap30 S
   refine sp S (la (ov fun S=>x_idx uT52 sZ29 (S.e rfl) (S.e rfl) ((((out.length : Nat) : Int) - 1)).toNat (by omega) (by omega) (row_off (S.row 0 rfl) (m := ((((out.length : Nat) : Int) - 1)).toNat) (by omega)))) ?_; clear S; intro a u S
   refine sp S (la (str (E := rawE) 0 (by kernel_rfl) rfl rfl rfl ((((out.length : Nat) : Int) - 1)).toNat 0 (by omega) (by first | decide | exact Nat.one_pos) (Sl.mk ad30 cap30 (ix ++ ([(ws.xs.getD k strE.dflt)] : List ByteArray))) (fun S=>trivial) rfl (by first | rfl | (show _ = _ * 1 + 0; omega) | (simp [rawE]; omega) | simp [rawE]) rfl)) ?_; clear S; intro a u S
   have hls10 : (out.set ((((out.length : Nat) : Int) - 1)).toNat (Sl.mk ad30 cap30 (ix ++ ([(ws.xs.getD k strE.dflt)] : List ByteArray)))).length = out.length := by simp
   refine ent (wp_exit (then_e (blk_e (then_n ?_))))
   refine rg S (tr (addi ((k + 1 : Nat) : Int) rfl rfl (w_i64 (by omega)))<|la (mv rfl)) ?_; clear S; intro a u S
   have hpre := (S.u 1 rfl)
   replace S := S.rt 1
   replace S := S.ar (wfF allE pre) hpre
   refine then_n ?_
   refine ⟨pre, ad30, cap30, (ix ++ ([(ws.xs.getD k strE.dflt)] : List ByteArray)), (k + 1), out_a, out_c, (out.set ((((out.length : Nat) : Int) - 1)).toNat (Sl.mk ad30 cap30 (ix ++ ([(ws.xs.getD k strE.dflt)] : List ByteArray)))), S.re ⟨rfl, rfl, rfl, rfl, rfl, (by first | rfl | (simp only [List.length_set]; rfl)), trivial⟩ rfl rfl, ?_, ?_⟩
   ·refine ⟨set_last hout (by omega), by omega, by omega, by simp; omega, ?_⟩
    rw [← hI, drop_at (k := k) (by omega) strE.dflt, itS_w _ _ _ hc1]
   omega
  intro hc2
  replace S := S.fz 1 rfl
  replace S := S.ar (wfF allE (pre ++ [(Sl.mk ia ic ix)])) (all_app (S.u 1 rfl) (S.u 2 rfl))
  replace S := S.nr strE 9
  skip
  refine wp_skip (then_n (r0 ?_))
  refine sp S (la (mv rfl)) ?_; clear S; intro a u S
  refine nbs rawE S [(Sl.mk none 0 ([] : List ByteArray))] (x_bs S [(0, .slice none 0 0)] uT52 iZ29) (fun x hx => by simp only [List.mem_cons, List.not_mem_nil, or_false] at hx; rw [hx]; exact (show rawE.wf _ _ (Sl.mk none 0 ([] : List ByteArray)) from trivial)) ?_; clear S; intro a u b33 S
  refine ap (E := rawE) (ys := [(Sl.mk none 0 ([] : List ByteArray))]) S 0 rfl uT52 iZ29 rfl rfl (show LAt rawE _ _ (some ⟨b33, 0, none⟩) ([(Sl.mk none 0 ([] : List ByteArray))]) from ((S.u 4 rfl)).1) ((S.u 4 rfl)).2.2 (LAt.mem (show LAt rawE _ _ (some ⟨b33, 0, none⟩) ([(Sl.mk none 0 ([] : List ByteArray))]) from ((S.u 4 rfl)).1)) ⟨by unfold maxLen; (try simp only [List.length_cons, List.length_nil, List.length_append, List.length_map]); omega, by (try simp only [List.length_cons, List.length_nil, List.length_append, List.length_map]); omega⟩ ?_; clear S; intro a u ad34 cap34 S
  refine en S (la (av rfl)) ?_; clear S; intro a u S
  refine blk_n (then_n ?_)
  refine rg S (tr (addi ((k + 1 : Nat) : Int) rfl rfl (w_i64 (by omega)))<|la (mv rfl)) ?_; clear S; intro a u S
  replace S := S.pk [0, 2]
  have hpre := (S.u 3 rfl)
  replace S := S.rt 1
  replace S := S.ar (wfF allE (pre ++ [Sl.mk ia ic ix])) hpre
  refine then_n ?_
  refine ⟨(pre ++ [Sl.mk ia ic ix]), none, 0, [], (k + 1), ad34, cap34, (out ++ [(Sl.mk none 0 ([] : List ByteArray))]), S.re (subM rfl) rfl rfl, ?_, ?_⟩
  ·refine ⟨by rw [hout], by omega, by simp; omega, by simp, ?_⟩
   rw [← hI, drop_at (k := k) (by omega) strE.dflt, itS_c _ _ _ (Classical.not_not.1 hc2), List.map_append]; rfl
  omega
 intro hc3
 replace S := S.fz 1 rfl
 replace S := S.ar (wfF allE (pre ++ [(Sl.mk ia ic ix)])) (all_app (S.u 1 rfl) (S.u 2 rfl))
 replace S := S.fz 0 rfl
 replace S := S.ar (wfF (slE (slE strE)) (Sl.mk out_a out_c out)) (raw_wf (S.u 4 rfl) (by show allE.wf _ _ out; rw [hout]; exact (S.u 3 rfl)))
 have hfin : out.map Sl.xs = itemsL ws.xs := by rw [← hI, hout, List.map_append, List.drop_of_length_le (by omega)]; rfl
 refine wp_exit (then_e (then_e (blk_e (then_n (wp_seq ?_)))))
 have hn15 : out.length ≤ 9223372036854775807 := ((S.u 5 rfl)).1.len
 refine rs S (tr (mv rfl)<|tr (leni uT52 rfl)<|la (mv rfl)) ?_; clear S; intro a u S
 refine wp_block ?_
 refine lp1 (fun (m : Nat) => [(4, .slice out_a out.length out_c), (36, .slice out_a out.length out_c), (37, iN out.length), (38, iN m)]) (fun (m : Nat) => [noO, noO]) (fun (m : Nat) => m ≤ out.length ∧ ∀ j, j < m → (out.getD j (slE strE).dflt).xs.length ≠ 0) (fun (m : Nat) => out.length - m) S 0 (subM rfl) rfl ?_ ?_
 ·exact ⟨Nat.zero_le _, fun j hj => by omega⟩
 clear S; intro m a u S hR
 obtain ⟨hm, hn⟩ := hR
 refine rs S (la (lssi rfl rfl)) ?_; clear S; intro a u S
 refine wp_seq ?_
 refine cd S rfl ?_ ?_
 ·intro hc4
  refine wp_skip (then_n (wp_seq (wp_block ?_)))
  have hn18 : ((out.getD m (slE strE).dflt).xs).length ≤ 9223372036854775807 := (((show LAt (slE strE) _ _ out_a out from ((S.u 5 rfl)).1).wf m (by omega))).1.len
  refine rs S (tr (idxi uT52 sZ29 rfl rfl m rfl (by omega) ((show LAt (slE strE) _ _ out_a out from ((S.u 5 rfl)).1).adr (i := m) (by omega)))<|tr (ov fun S=>x_load sC29 (S.e rfl) ((show LAt (slE strE) _ _ out_a out from ((S.u 5 rfl)).1).cell m (by omega) 0 _ rfl))<|la (av rfl)) ?_; clear S; intro a u S
  refine rs S (tr (mv rfl)<|tr (leni uT29 rfl)<|la (eqli rfl rfl)) ?_; clear S; intro a u S
  refine cd S rfl ?_ ?_
  ·intro hc5
   have hno : ¬ itOK ws.xs := fun h => h _ (by rw [← hfin]; exact List.mem_map_of_mem (getD_mem' (i := m) (d := (slE strE).dflt) (by omega))) (List.eq_nil_of_length_eq_zero (by omega))
   refine rs S (tr (av rfl)<|la (av rfl)) ?_; clear S; intro a u S
   refine wp_ret (blk_r (then_r (then_r (blk_r (then_r ?_)))))
   refine ret2 rfl S.s rfl rfl ?_
   replace S := S.pk []
   refine ⟨(Sl.mk none 0 ([] : List (Sl ByteArray))), (r2 rfl (vf ?_)), sl_nil, ?_, S.m.c⟩
   ·exact hno
   rw [if_neg hno]; rfl
  intro hc6
  refine wp_skip (blk_n (then_n ?_))
  refine rg S (tr (addi ((m + 1 : Nat) : Int) rfl rfl (w_i64 (by omega)))<|la (mv rfl)) ?_; clear S; intro a u S
  refine then_n ?_
  refine ⟨(m + 1), S.re (subM rfl) rfl rfl, ?_, ?_⟩
  ·refine ⟨by omega, fun j hj => ?_⟩
   rcases Nat.lt_succ_iff_lt_or_eq.1 hj with h | h
   ·exact hn j h
   subst h; omega
  omega
 intro hc7
 have hok : itOK ws.xs := by
  intro p hp
  rw [← hfin] at hp
  obtain ⟨x, hx, rfl⟩ := List.mem_map.1 hp
  obtain ⟨i, hi, rfl⟩ := List.getElem_of_mem hx
  have h1 := hn i (by omega)
  rw [List.getD_eq_getElem?_getD, List.getElem?_eq_getElem hi] at h1
  intro e
  exact h1 (congrArg List.length e)
 refine wp_exit (then_e (then_e (blk_e (then_n ?_))))
 refine rs S (tr (mv rfl)<|tr (av rfl)<|la (av rfl)) ?_; clear S; intro a u S
 refine wp_ret ?_
 refine ret2 rfl S.s rfl rfl ?_
 replace S := S.pk []
 refine ⟨(Sl.mk out_a out_c out), (r2 rfl (vt ?_)), (S.u 5 rfl), ?_, S.m.c⟩
 ·exact hok
 rw [if_pos hok]; exact hfin
end Go.Proofs.YtmaiillomoehgaaDoor.V
