/- the law SourceWords -/
import Derived.Test.YtmaiillomoehgaaDoorS15
namespace Go.Proofs.YtmaiillomoehgaaDoor.V
open Go.RowKit Go.Proofs.YtmaiillomoehgaaDoor
set_option linter.unusedVariables false
set_option linter.unusedSimpArgs false
theorem lst_le {l : List ByteArray} {n : Nat} (h : ∀ x ∈ l, x.size ≤ n) (i : Nat) : (l.getD i strE.dflt).size ≤ n := by
 rcases Nat.lt_or_ge i l.length with k | k
 ·exact h _ (getD_mem' k)
 rw [List.getD_eq_getElem?_getD, List.getElem?_eq_none k]; exact Nat.zero_le _
theorem join3 {A B : List ByteArray} (hA : ∀ w ∈ A, w.size ≤ 1048577) (hB : ∀ w ∈ B, w.size ≤ 1048577) (la : A.length ≤ 60) (lb : B.length ≤ 60) : (joinB [A, [], B]).size ≤ 1099511627776 := by
 have hb : ∀ X : List ByteArray, (∀ w ∈ X, w.size ≤ 1048577) → X.length ≤ 60 → (jl (X.map bl)).length ≤ 60 * 1048578 := fun X hX hl => by
  have h1 := jl_bd 1048577 (X.map bl) fun w hw => by
   obtain ⟨x, hx, rfl⟩ := List.mem_map.1 hw
   rw [bl_len]; exact hX x hx
  rw [List.length_map] at h1
  exact Nat.le_trans h1 (Nat.mul_le_mul_right _ hl)
 have h1 := hb A hA la
 have h2 := hb B hB lb
 have h3 : (joinB [A, [], B]).size = (joinL [A, [], B]).length := mkB_size _
 rw [h3]
 simp only [joinL, List.flatMap_cons, List.flatMap_nil, List.length_append, List.length_cons, List.length_nil, List.map_nil, jl]
 omega
set_option maxHeartbeats 2000000 in
set_option maxRecDepth 20000 in
theorem lwWords (w : World) (F : Nat → Prop) (hF : Old F w) (M : MS [] w) (l : Sl Int) (l_w : (slE intE).wf (Fr F []) w.heap l) (tx : ByteArray) (tx_h : inStr tx) (ws : Sl ByteArray) (ws_w : (slE strE).wf (Fr F []) w.heap ws) (le : Int) (le_h : inI64 le) (mo : Int) (mo_h : inI64 mo) (hs : tx.size ≤ 1048576 ∧ ∀ x ∈ ws.xs, x.size ≤ 1048576) (g_w : hasML w.heap) :
 Calls Tryd.prog 8 #[sV l, .string tx, sV ws, iI le, iI mo] w fun e w' => e = .returned (bD (True)) ∧ Tr [] w [] w' := by
 have : l.xs.length ≤ 9223372036854775807 := (l_w).1.len
 have : ws.xs.length ≤ 9223372036854775807 := (ws_w).1.len
 obtain ⟨le_hl, le_hu⟩ : inI64 le := id le_h
 obtain ⟨mo_hl, mo_hu⟩ : inI64 mo := id mo_h
 have hlow : 0 < l.xs.length → blk l.a < w.heap.size := fun h => (l_w.1.ad h).2.2
 obtain ⟨hs1, hs2⟩ := id hs
 refine go Tryd.func8 rfl 201 rfl [wfF (slE intE) l, wfF (slE strE) ws, glF] [] hF M ⟨l_w, ws_w, ⟨fun h => h, g_w⟩, trivial⟩ trivial ?_
 intro a S
 refine rs S (la (av rfl)) ?_; clear S; intro a u S
 refine rs0 ?_
 refine sp S (la (mv rfl)) ?_; clear S; intro a u S
 refine cl S (gNew _ _ S.x (.nil _) l (dn0 (S.u 0 rfl))) cB9 ?_
 rintro e u ⟨T33, rfl, TK, T0⟩; refine ⟨_, rfl, fun a s => ?_⟩; replace S := S.kt s T0 TK; clear s T0 TK
 refine ens S (la (av rfl)) ?_; clear S; intro a u S
 refine rs0 ?_
 refine sp S (tr (mv rfl)<|la (mv rfl)) ?_; clear S; intro a u S
 refine cl S (lWord _ _ S.x T33 (S.M.pick [0] (by decide)) l (dn1 (js := [0]) (S.u 0 rfl)) (S.t 0 rfl)) cB25 ?_
 rintro e u ⟨r_t36, rfl, R_t36, hr_t36, tK, T0⟩; refine ⟨_, rfl, fun a s => ?_⟩
 replace S := (S.k1 0 rfl s T0 tK).ar (wfF strE r_t36) (Enc.up _ R_t36); clear s T0 tK R_t36
 refine sp S (la (mv rfl)) ?_; clear S; intro a u S
 refine cl S (lWord _ _ S.x T33 (S.M.pick [0] (by decide)) l (dn1 (js := [0]) (S.u 0 rfl)) (S.t 0 rfl)) cB25 ?_
 rintro e u ⟨r_t38, rfl, R_t38, hr_t38, tK, T0⟩; refine ⟨_, rfl, fun a s => ?_⟩
 replace S := (S.k1 0 rfl s T0 tK).ar (wfF strE r_t38) (Enc.up _ R_t38); clear s T0 tK R_t38
 refine sp S (tr (mv rfl)<|la (mv rfl)) ?_; clear S; intro a u S
 refine cl S (lWord _ _ S.x T33 (S.M.pick [0] (by decide)) l (dn1 (js := [0]) (S.u 0 rfl)) (S.t 0 rfl)) cB25 ?_
 rintro e u ⟨r_t41, rfl, R_t41, hr_t41, tK, T0⟩; refine ⟨_, rfl, fun a s => ?_⟩
 replace S := (S.k1 0 rfl s T0 tK).ar (wfF strE r_t41) (Enc.up _ R_t41); clear s T0 tK R_t41
 refine cl S (gText _ _ S.x T33 (S.M.pick [0] (by decide)) l (dn1 (js := [0]) (S.u 0 rfl)) (S.t 0 rfl) r_t41 (S.u 5 rfl) (by omega) ((fun h0 => Nat.lt_of_lt_of_le (hlow h0) (S.new0 (.inl rfl))))) cB12 ?_
 rintro e u ⟨r_t42, rfl, R_t42, hr_t42, tK, T0⟩; refine ⟨_, rfl, fun a s => ?_⟩
 replace S := (S.k1 0 rfl s T0 tK).ar (wfF strE r_t42) (Enc.up _ R_t42); clear s T0 tK R_t42
 refine nbs strE S ([tx, r_t36, r_t38, r_t42] : List ByteArray) (x_bs S [(0, .string tx), (1, .string r_t36), (2, .string r_t38), (3, .string r_t42)] uT29 iZ9) (fun x hx => by simp only [List.mem_cons, List.not_mem_nil, or_false] at hx; rcases hx with hx | hx | hx | hx <;> rw [hx] <;> first | exact (show strE.wf _ _ tx from tx_h) | exact (show strE.wf _ _ r_t36 from (S.u 3 rfl)) | exact (show strE.wf _ _ r_t38 from (S.u 4 rfl)) | exact (show strE.wf _ _ r_t42 from (S.u 6 rfl))) ?_; clear S; intro a u b43 S
 refine ens S (la (av rfl)) ?_; clear S; intro a u S
 refine wp_seq ?_
 refine rs S (la (av rfl)) ?_; clear S; intro a u S
 refine wp_block ?_
 have h4 : ∀ x ∈ ([tx, r_t36, r_t38, r_t42] : List ByteArray), x.size ≤ 1048577 := by
  intro x hx
  simp only [List.mem_cons, List.not_mem_nil, or_false] at hx
  rcases hx with rfl | rfl | rfl | rfl <;> omega
 refine lp1 (fun (i1 : Nat) => [(2, sV ws), (3, iI le), (4, iI mo), (12, .slice (some ⟨b43, 0, none⟩) 4 4), (13, iN i1)]) (fun (i1 : Nat) => [tpO 58 T33 l]) (fun (i1 : Nat) => i1 ≤ 4 ∧ True) (fun (i1 : Nat) => 4 - i1) S 0 (subM rfl) rfl ?_ ?_
 ·exact ⟨Nat.zero_le _, by trivial⟩
 clear S; intro i1 a u S hR
 obtain ⟨hi1, hxi1⟩ := hR
 have hzi := lst_le h4 i1
 refine wp_seq ?_
 have hn6 : ([tx, r_t36, r_t38, r_t42] : List ByteArray).length ≤ 9223372036854775807 := ((S.u 7 rfl)).1.len
 refine rs S (tr (mv rfl)<|tr (mv rfl)<|tr (leni uT29 rfl)<|la (lssi rfl rfl)) ?_; clear S; intro a u S
 refine cd S rfl ?_ ?_
 ·intro hc0
  refine wp_skip (then_n (wp_seq (wp_block ?_)))
  refine rs S (tr (mv rfl)<|tr (mv rfl)<|tr (idxi uT29 sZ9 rfl rfl i1 rfl (by first | omega | (simp only [List.length_cons, List.length_nil]; omega)) ((show LAt strE _ _ (some ⟨b43, 0, none⟩) ([tx, r_t36, r_t38, r_t42] : List ByteArray) from ((S.u 7 rfl)).1).adr (i := i1) (by first | omega | (simp only [List.length_cons, List.length_nil]; omega))))<|tr (ov fun S=>x_load sC9 (S.e rfl) ((show LAt strE _ _ (some ⟨b43, 0, none⟩) ([tx, r_t36, r_t38, r_t42] : List ByteArray) from ((S.u 7 rfl)).1).cell i1 (by first | omega | (simp only [List.length_cons, List.length_nil]; omega)) 0 _ rfl))<|tr (mv rfl)<|tr (mv rfl)<|tr (oc (fun S=>sNumber _ _ S.x (.nil _) (([tx, r_t36, r_t38, r_t42] : List ByteArray).getD i1 strE.dflt) ((show LAt strE _ _ (some ⟨b43, 0, none⟩) ([tx, r_t36, r_t38, r_t42] : List ByteArray) from ((S.u 7 rfl)).1).wf i1 (by first | omega | (simp only [List.length_cons, List.length_nil]; omega))) le le_h mo mo_h) cB21)<|tr (mv rfl)<|tr (exi rfl rfl)<|tr (exi rfl rfl)<|tr (av rfl)<|la (av rfl)) ?_; clear S; intro a u S
  refine rs S (tr (mv rfl)<|tr (mv rfl)<|tr (idxi uT29 sZ9 rfl rfl i1 rfl (by first | omega | (simp only [List.length_cons, List.length_nil]; omega)) ((show LAt strE _ _ (some ⟨b43, 0, none⟩) ([tx, r_t36, r_t38, r_t42] : List ByteArray) from ((S.u 7 rfl)).1).adr (i := i1) (by first | omega | (simp only [List.length_cons, List.length_nil]; omega))))<|tr (ov fun S=>x_load sC9 (S.e rfl) ((show LAt strE _ _ (some ⟨b43, 0, none⟩) ([tx, r_t36, r_t38, r_t42] : List ByteArray) from ((S.u 7 rfl)).1).cell i1 (by first | omega | (simp only [List.length_cons, List.length_nil]; omega)) 0 _ rfl))<|tr (mv rfl)<|tr (mv rfl)<|tr (oc (fun S=>rNumber _ _ S.x (.nil _) (([tx, r_t36, r_t38, r_t42] : List ByteArray).getD i1 strE.dflt) ((show LAt strE _ _ (some ⟨b43, 0, none⟩) ([tx, r_t36, r_t38, r_t42] : List ByteArray) from ((S.u 7 rfl)).1).wf i1 (by first | omega | (simp only [List.length_cons, List.length_nil]; omega))) le le_h mo mo_h) cB26)<|tr (mv rfl)<|tr (exi rfl rfl)<|tr (exi rfl rfl)<|tr (av rfl)<|la (av rfl)) ?_; clear S; intro a u S
  refine rs S (tr (mv rfl)<|tr (mv rfl)<|tr (idxi uT29 sZ9 rfl rfl i1 rfl (by first | omega | (simp only [List.length_cons, List.length_nil]; omega)) ((show LAt strE _ _ (some ⟨b43, 0, none⟩) ([tx, r_t36, r_t38, r_t42] : List ByteArray) from ((S.u 7 rfl)).1).adr (i := i1) (by first | omega | (simp only [List.length_cons, List.length_nil]; omega))))<|tr (ov fun S=>x_load sC9 (S.e rfl) ((show LAt strE _ _ (some ⟨b43, 0, none⟩) ([tx, r_t36, r_t38, r_t42] : List ByteArray) from ((S.u 7 rfl)).1).cell i1 (by first | omega | (simp only [List.length_cons, List.length_nil]; omega)) 0 _ rfl))<|tr (oc (fun S=>sNumber _ _ S.x (.nil _) (([tx, r_t36, r_t38, r_t42] : List ByteArray).getD i1 strE.dflt) ((show LAt strE _ _ (some ⟨b43, 0, none⟩) ([tx, r_t36, r_t38, r_t42] : List ByteArray) from ((S.u 7 rfl)).1).wf i1 (by first | omega | (simp only [List.length_cons, List.length_nil]; omega))) 1 ⟨by omega, by omega⟩ 65535 ⟨by omega, by omega⟩) cB21)<|tr (mv rfl)<|tr (exi rfl rfl)<|tr (exi rfl rfl)<|tr (av rfl)<|la (av rfl)) ?_; clear S; intro a u S
  refine rs S (tr (mv rfl)<|tr (mv rfl)<|tr (idxi uT29 sZ9 rfl rfl i1 rfl (by first | omega | (simp only [List.length_cons, List.length_nil]; omega)) ((show LAt strE _ _ (some ⟨b43, 0, none⟩) ([tx, r_t36, r_t38, r_t42] : List ByteArray) from ((S.u 7 rfl)).1).adr (i := i1) (by first | omega | (simp only [List.length_cons, List.length_nil]; omega))))<|tr (ov fun S=>x_load sC9 (S.e rfl) ((show LAt strE _ _ (some ⟨b43, 0, none⟩) ([tx, r_t36, r_t38, r_t42] : List ByteArray) from ((S.u 7 rfl)).1).cell i1 (by first | omega | (simp only [List.length_cons, List.length_nil]; omega)) 0 _ rfl))<|tr (oc (fun S=>rNumber _ _ S.x (.nil _) (([tx, r_t36, r_t38, r_t42] : List ByteArray).getD i1 strE.dflt) ((show LAt strE _ _ (some ⟨b43, 0, none⟩) ([tx, r_t36, r_t38, r_t42] : List ByteArray) from ((S.u 7 rfl)).1).wf i1 (by first | omega | (simp only [List.length_cons, List.length_nil]; omega))) 1 ⟨by omega, by omega⟩ 65535 ⟨by omega, by omega⟩) cB26)<|tr (mv rfl)<|tr (exi rfl rfl)<|tr (exi rfl rfl)<|tr (av rfl)<|la (av rfl)) ?_; clear S; intro a u S
  refine rs0 ?_
  refine sp S (tr (mv rfl)<|tr (mv rfl)<|tr (idxi uT29 sZ9 rfl rfl i1 rfl (by first | omega | (simp only [List.length_cons, List.length_nil]; omega)) ((show LAt strE _ _ (some ⟨b43, 0, none⟩) ([tx, r_t36, r_t38, r_t42] : List ByteArray) from ((S.u 7 rfl)).1).adr (i := i1) (by first | omega | (simp only [List.length_cons, List.length_nil]; omega))))<|tr (ov fun S=>x_load sC9 (S.e rfl) ((show LAt strE _ _ (some ⟨b43, 0, none⟩) ([tx, r_t36, r_t38, r_t42] : List ByteArray) from ((S.u 7 rfl)).1).cell i1 (by first | omega | (simp only [List.length_cons, List.length_nil]; omega)) 0 _ rfl))<|tr (oc (fun S=>sPorts _ _ S.x (.nil _) (([tx, r_t36, r_t38, r_t42] : List ByteArray).getD i1 strE.dflt) ((show LAt strE _ _ (some ⟨b43, 0, none⟩) ([tx, r_t36, r_t38, r_t42] : List ByteArray) from ((S.u 7 rfl)).1).wf i1 (by first | omega | (simp only [List.length_cons, List.length_nil]; omega)))) cB22)<|tr (mv rfl)<|tr (exi rfl rfl)<|la (exi rfl rfl)) ?_; clear S; intro a u S
  refine nbp S (x_allocz _ iZ48 rfl) ?_; clear S; intro a u b22 S
  refine ens S (tr (stkw 1 rfl rfl rfl)<|la (av rfl)) ?_; clear S; intro a u S
  refine rs0 ?_
  refine sp S (tr (mv rfl)<|tr (mv rfl)<|tr (idxi uT29 sZ9 rfl rfl i1 rfl (by first | omega | (simp only [List.length_cons, List.length_nil]; omega)) ((show LAt strE _ _ (some ⟨b43, 0, none⟩) ([tx, r_t36, r_t38, r_t42] : List ByteArray) from ((S.u 7 rfl)).1).adr (i := i1) (by first | omega | (simp only [List.length_cons, List.length_nil]; omega))))<|tr (ov fun S=>x_load sC9 (S.e rfl) ((show LAt strE _ _ (some ⟨b43, 0, none⟩) ([tx, r_t36, r_t38, r_t42] : List ByteArray) from ((S.u 7 rfl)).1).cell i1 (by first | omega | (simp only [List.length_cons, List.length_nil]; omega)) 0 _ rfl))<|tr (oc (fun S=>rPorts _ _ S.x (.nil _) (([tx, r_t36, r_t38, r_t42] : List ByteArray).getD i1 strE.dflt) ((show LAt strE _ _ (some ⟨b43, 0, none⟩) ([tx, r_t36, r_t38, r_t42] : List ByteArray) from ((S.u 7 rfl)).1).wf i1 (by first | omega | (simp only [List.length_cons, List.length_nil]; omega))) (by omega)) cB27)<|tr (mv rfl)<|tr (exi rfl rfl)<|la (exi rfl rfl)) ?_; clear S; intro a u S
  refine nbp S (x_allocz _ iZ48 rfl) ?_; clear S; intro a u b24 S
  refine ens S (tr (stkw 2 rfl rfl rfl)<|la (av rfl)) ?_; clear S; intro a u S
  refine wp_seq ?_
  refine dr (P := Tryd.prog) S 41 [] ((102, .is _) :: (103, .is _) :: (104, .is _) :: (105, .is _) :: (106, .is _) :: (107, .is _) :: (108, .is _) :: (109, .is _) :: (110, .is _) :: (111, .is _) :: (112, .is _) :: (113, .is _) :: (114, .is _) :: (115, .is _) :: (116, .is _) :: (117, .is _) :: (118, .is _) :: (119, .is _) :: (120, .is _) :: (121, .is _) :: (122, .is _) :: (123, .is _) :: (124, .is _) :: (125, .is _) :: (126, .is _) :: (127, .is _) :: (128, .is _) :: (129, .is _) :: (130, .is _) :: (131, .is _) :: (132, .is _) :: (133, .is _) :: (134, .is _) :: (135, .is _) :: (136, .is _) :: (137, .is _) :: (138, .is _) :: (139, .is _) :: (140, .is _) :: (141, .is _) :: (142, .is _) :: []) ([] :: [] :: [102, 103] :: [104] :: [105] :: [105] :: [105, 106, 107] :: [105, 108] :: [109] :: [110] :: [110] :: [110, 111, 112] :: [110, 113] :: [114] :: [115] :: [115] :: [115, 116, 117] :: [115, 118] :: [119] :: [120] :: [120] :: [120, 121, 122] :: [120, 123] :: [124] :: [125] :: [125] :: [125, 126, 127] :: [125, 128] :: [129] :: [130] :: [130] :: [130, 131, 132] :: [130, 133] :: [130, 134] :: [130] :: [130] :: [130, 136, 137] :: [130, 138] :: [130, 139] :: [130, 135, 140] :: [130, 141] :: []) [142] _ ⟨qd (mv rfl), qd (mv rfl), qd (neqi rfl rfl), qd (mv rfl), qd (og 105 rfl gf fun S hg=>x_move (S.e rfl)), qd (og 105 rfl gf fun S hg=>x_move (S.e rfl)), qd (og 105 rfl gf fun S hg=>x_bpneq uT4 (S.p rfl hg) (S.p rfl hg)), qd (ori rfl rfl rfl), qd (mv rfl), qd (og 110 rfl gf fun S hg=>x_move (S.e rfl)), qd (og 110 rfl gf fun S hg=>x_move (S.e rfl)), qd (og 110 rfl gf fun S hg=>x_neq (S.p rfl hg) (S.p rfl hg)), qd (ori rfl rfl rfl), qd (mv rfl), qd (og 115 rfl gf fun S hg=>x_move (S.e rfl)), qd (og 115 rfl gf fun S hg=>x_move (S.e rfl)), qd (og 115 rfl gf fun S hg=>x_bpneq uT4 (S.p rfl hg) (S.p rfl hg)), qd (ori rfl rfl rfl), qd (mv rfl), qd (og 120 rfl gf fun S hg=>x_ldw (S.e rfl) (S.k 1 rfl).all wD48), qd (og 120 rfl gf fun S hg=>x_ldw (S.e rfl) (S.k 2 rfl).all wD48), qd (og 120 rfl gf fun S hg=>x_aneq uT48 (by kernel_rfl) (by kernel_rfl) (by decide) (by decide) rfl rfl uT46 uT46 (S.p rfl hg) (S.p rfl hg)), qd (ori rfl rfl rfl), qd (mv rfl), qd (og 125 rfl gf fun S hg=>x_move (S.e rfl)), qd (og 125 rfl gf fun S hg=>x_move (S.e rfl)), qd (og 125 rfl gf fun S hg=>x_bpneq uT4 (S.p rfl hg) (S.p rfl hg)), qd (ori rfl rfl rfl), qd (mv rfl), qd (og 130 rfl gf fun S hg=>x_move (S.e rfl)), qd (og 130 rfl gf fun S hg=>x_move (S.e rfl)), qd (og 130 rfl gf fun S hg=>x_idx uT29 sZ9 (S.p rfl hg) (S.p rfl hg) i1 rfl (by first | omega | (simp only [List.length_cons, List.length_nil]; omega)) ((show LAt strE _ _ (some ⟨b43, 0, none⟩) ([tx, r_t36, r_t38, r_t42] : List ByteArray) from ((S.u 7 rfl)).1).adr (i := i1) (by first | omega | (simp only [List.length_cons, List.length_nil]; omega)))), qd (og 130 rfl gf fun S hg=>x_load sC9 (S.p rfl hg) ((show LAt strE _ _ (some ⟨b43, 0, none⟩) ([tx, r_t36, r_t38, r_t42] : List ByteArray) from ((S.u 7 rfl)).1).cell i1 (by first | omega | (simp only [List.length_cons, List.length_nil]; omega)) 0 _ rfl)), qd (ocg 130 rfl gf (fun S hg=>sName _ _ S.x (.nil _) (([tx, r_t36, r_t38, r_t42] : List ByteArray).getD i1 strE.dflt) ((show LAt strE _ _ (some ⟨b43, 0, none⟩) ([tx, r_t36, r_t38, r_t42] : List ByteArray) from ((S.u 7 rfl)).1).wf i1 (by first | omega | (simp only [List.length_cons, List.length_nil]; omega)))) cB28 fun S=>⟨fun hg=>(S.p rfl hg), trivial⟩), qd (og 130 rfl gf fun S hg=>x_move (S.e rfl)), qd (og 130 rfl gf fun S hg=>x_move (S.e rfl)), qd (og 130 rfl gf fun S hg=>x_idx uT29 sZ9 (S.p rfl hg) (S.p rfl hg) i1 rfl (by first | omega | (simp only [List.length_cons, List.length_nil]; omega)) ((show LAt strE _ _ (some ⟨b43, 0, none⟩) ([tx, r_t36, r_t38, r_t42] : List ByteArray) from ((S.u 7 rfl)).1).adr (i := i1) (by first | omega | (simp only [List.length_cons, List.length_nil]; omega)))), qd (og 130 rfl gf fun S hg=>x_load sC9 (S.p rfl hg) ((show LAt strE _ _ (some ⟨b43, 0, none⟩) ([tx, r_t36, r_t38, r_t42] : List ByteArray) from ((S.u 7 rfl)).1).cell i1 (by first | omega | (simp only [List.length_cons, List.length_nil]; omega)) 0 _ rfl)), qd (ocg 130 rfl gf (fun S hg=>rName _ _ S.x (.nil _) (([tx, r_t36, r_t38, r_t42] : List ByteArray).getD i1 strE.dflt) ((show LAt strE _ _ (some ⟨b43, 0, none⟩) ([tx, r_t36, r_t38, r_t42] : List ByteArray) from ((S.u 7 rfl)).1).wf i1 (by first | omega | (simp only [List.length_cons, List.length_nil]; omega)))) cB29 fun S=>⟨fun hg=>(S.p rfl hg), trivial⟩), qd (og 130 rfl gf fun S hg=>x_bpneq uT4 (S.p rfl hg) (S.p rfl hg)), qd (ori rfl rfl rfl), trivial⟩ ?_
  clear S; intro a u S G hE
  refine ent ?_
  refine cd S rfl ?_ ?_
  ·intro hc1
   refine rs S (la (av rfl)) ?_; clear S; intro a u S
   refine wp_ret (blk_r (then_r (then_r (blk_r (then_r ?_)))))
   refine ret1 rfl S.s rfl ?_
   replace S := S.pk []
   refine ⟨(r1 (vf ?_)), S.m.c⟩
   first | assumption | trivial | omega | simp_all
  intro hc2
  refine wp_skip (blk_n (then_n ?_))
  refine rg S (tr (mv rfl)<|tr (addi ((i1 + 1 : Nat) : Int) rfl rfl (w_i64 (by omega)))<|la (av rfl)) ?_; clear S; intro a u S
  refine then_n ?_
  refine ⟨(i1 + 1), S.re (subM rfl) rfl rfl, ?_, ?_⟩
  ·refine ⟨by omega, ?_⟩
   trivial
  omega
 intro hc3
 refine wp_exit (then_e (then_e (blk_e (then_n (rs0 ?_)))))
 have hn16 : ws.xs.length ≤ 9223372036854775807 := ((S.u 1 rfl)).1.len
 refine sp S (tr (mv rfl)<|tr (mv rfl)<|tr (mv rfl)<|tr (leni uT29 rfl)<|la (ov fun S=>x_min (S.e rfl) (S.e rfl))) ?_; clear S; intro a u S
 obtain ⟨mm, hmm, hm1, hm2⟩ : ∃ mm : Nat, ((mm : Nat) : Int) = (if 50 < ((ws.xs.length : Nat) : Int) then 50 else ((ws.xs.length : Nat) : Int)) ∧ mm ≤ ws.xs.length ∧ mm ≤ 50 := ⟨((if 50 < ((ws.xs.length : Nat) : Int) then 50 else ((ws.xs.length : Nat) : Int))).toNat, by split <;> omega, by split <;> omega, by split <;> omega⟩
 rw [← hmm] at S
 have hk17 : (ws.xs.take mm).length = mm := by rw [List.length_take]; first | omega | (simp only [List.length_cons, List.length_nil]; omega)
 refine sp S (la (ov (v := .slice ws.a ((ws.xs.take mm).length) ws.c) fun S=>x_slhn uT29 iZ9 (S.e rfl) (S.e rfl) mm rfl (Nat.le_trans (by omega) ((S.u 1 rfl)).2.1) ((S.u 1 rfl)).2.2 _ (by rw [List.length_take]; first | omega | (simp only [List.length_cons, List.length_nil]; omega)))) ?_; clear S; intro a u S
 refine apF (E := strE) (xs := ([tx, r_t36, r_t38, r_t42] : List ByteArray)) (ys := (ws.xs.take mm)) S uT29 iZ9 rfl rfl rfl (by decide) (S.u 7 rfl) (((S.u 1 rfl)).1.take mm (by omega)) ((sl_take (S.u 1 rfl) mm (by omega))).2.2 (LAt.mem (((S.u 1 rfl)).1.take mm (by omega))) (by omega) ?_; clear S; intro a u ad149 cap149 S
 refine ens S (la (av rfl)) ?_; clear S; intro a u S
 refine rs0 ?_
 refine sp S (la (mv rfl)) ?_; clear S; intro a u S
 refine cl S (sItems _ _ S.x (.nil _) (Sl.mk ad149 cap149 (([tx, r_t36, r_t38, r_t42] : List ByteArray) ++ (ws.xs.take mm))) (dn0 (S.u 8 rfl)) (by first | omega | (dsimp only; omega) | (simp only [List.length_append, List.length_cons, List.length_nil, List.length_take]; omega))) cB23 ?_
 rintro e u ⟨r_t1520, rfl, R_t1520, hr_t1520, T0⟩; refine ⟨_, rfl, fun a s => ?_⟩
 replace S := (S.k0 s T0).ar (wfF (slE (slE strE)) r_t1520) (Enc.up _ R_t1520); clear s T0 R_t1520
 have hn19 : r_t1520.xs.length ≤ 9223372036854775807 := ((S.u 9 rfl)).1.len
 refine ens S (tr (mv rfl)<|tr (exi rfl rfl)<|tr (exi rfl rfl)<|tr (av rfl)<|la (av rfl)) ?_; clear S; intro a u S
 refine rs0 ?_
 refine sp S (la (mv rfl)) ?_; clear S; intro a u S
 refine cl S (rItems _ _ S.x (.nil _) (Sl.mk ad149 cap149 (([tx, r_t36, r_t38, r_t42] : List ByteArray) ++ (ws.xs.take mm))) (dn0 (S.u 8 rfl)) (by first | omega | (dsimp only; omega) | (simp only [List.length_append, List.length_cons, List.length_nil, List.length_take]; omega))) cB30 ?_
 rintro e u ⟨r_t1570, rfl, R_t1570, hr_t1570, T0⟩; refine ⟨_, rfl, fun a s => ?_⟩
 replace S := (S.k0 s T0).ar (wfF (slE (slE strE)) r_t1570) (Enc.up _ R_t1570); clear s T0 R_t1570
 have hn21 : r_t1570.xs.length ≤ 9223372036854775807 := ((S.u 10 rfl)).1.len
 refine ens S (tr (mv rfl)<|tr (exi rfl rfl)<|tr (exi rfl rfl)<|tr (av rfl)<|la (av rfl)) ?_; clear S; intro a u S
 refine wp_seq ?_
 refine rs S (tr (mv rfl)<|tr (mv rfl)<|tr (ov fun S=>x_bpneq uT4 (S.e rfl) (S.e rfl))<|tr (mv rfl)<|tr (og 163 rfl gf fun S hg=>x_move (S.e rfl))<|tr (og 163 rfl gf fun S hg=>x_len uT52 (S.p rfl hg))<|tr (og 163 rfl gf fun S hg=>x_move (S.e rfl))<|tr (og 163 rfl gf fun S hg=>x_len uT52 (S.p rfl hg))<|tr (og 163 rfl gf fun S hg=>x_neq (S.p rfl hg) (S.p rfl hg))<|la (ori rfl rfl rfl)) ?_; clear S; intro a u S
 refine cd S rfl ?_ ?_
 ·intro hc4
  have heq := hr_t1520.trans hr_t1570.symm
  have hle := congrArg List.length heq
  rw [List.length_map, List.length_map] at hle
  refine rs S (la (av rfl)) ?_; clear S; intro a u S
  refine wp_ret (then_r ?_)
  refine ret1 rfl S.s rfl ?_
  replace S := S.pk []
  refine ⟨(r1 (vf ?_)), S.m.c⟩
  intro _
  first
  | (rcases hc4 with h | h
     ·exact h Iff.rfl
     exact h (by omega))
  | (exact hc4 (by omega))
 intro hc5
 have heq := hr_t1520.trans hr_t1570.symm
 have hle := congrArg List.length heq
 rw [List.length_map, List.length_map] at hle
 refine wp_skip (then_n (wp_seq ?_))
 refine rs S (la (av rfl)) ?_; clear S; intro a u S
 refine wp_block ?_
 refine lp1 (fun (k1 : Nat) => [(2, .slice ad149 ((([tx, r_t36, r_t38, r_t42] : List ByteArray) ++ (ws.xs.take mm)).length) cap149), (4, iI mo), (12, .slice (some ⟨b43, 0, none⟩) 4 4), (26, sV r_t1520), (28, sV r_t1570), (30, iN k1)]) (fun (k1 : Nat) => [tpO 58 T33 l]) (fun (k1 : Nat) => k1 ≤ r_t1520.xs.length ∧ True) (fun (k1 : Nat) => r_t1520.xs.length - k1) S 0 (subM rfl) rfl ?_ ?_
 ·exact ⟨Nat.zero_le _, by trivial⟩
 clear S; intro k1 a u S hR
 obtain ⟨hk1, hxk1⟩ := hR
 refine wp_seq ?_
 refine rs S (tr (mv rfl)<|tr (mv rfl)<|tr (leni uT52 rfl)<|la (lssi rfl rfl)) ?_; clear S; intro a u S
 refine cd S rfl ?_ ?_
 ·intro hc6
  refine wp_skip (then_n (wp_seq (wp_block (wp_seq ?_))))
  have hn26 : ((r_t1520.xs.getD k1 (slE strE).dflt).xs).length ≤ 9223372036854775807 := ((((S.u 9 rfl)).1.wf k1 (by omega))).1.len
  have hn27 : ((r_t1570.xs.getD k1 (slE strE).dflt).xs).length ≤ 9223372036854775807 := ((((S.u 10 rfl)).1.wf k1 (by omega))).1.len
  refine dr (P := Tryd.prog) S 10 [] [(176, .is _), (177, .is _), (178, .is _), (179, .is _), (180, .is _), (181, .is _), (182, .is _), (183, .is _), (184, .is _), (185, .is _)] [[], [], [176, 177], [178], [], [], [180, 181], [182], [179, 183], [184]] [185] _ ⟨qd (mv rfl), qd (mv rfl), qd (idxi uT52 sZ29 rfl rfl k1 rfl (by omega) (((S.u 9 rfl)).1.adr (i := k1) (by omega))), qd (ov fun S=>x_load sC29 (S.e rfl) (((S.u 9 rfl)).1.cell k1 (by omega) 0 _ rfl)), qd (mv rfl), qd (mv rfl), qd (idxi uT52 sZ29 rfl rfl k1 rfl (by omega) (((S.u 10 rfl)).1.adr (i := k1) (by omega))), qd (ov fun S=>x_load sC29 (S.e rfl) (((S.u 10 rfl)).1.cell k1 (by omega) 0 _ rfl)), qd (oc (fun S=>same9 _ _ S.x (.nil _) (r_t1520.xs.getD k1 (slE strE).dflt) (dn0 (((S.u 9 rfl)).1.wf k1 (by omega))) (r_t1570.xs.getD k1 (slE strE).dflt) (dn0 (((S.u 10 rfl)).1.wf k1 (by omega)))) cB19), qd (noti rfl), trivial⟩ ?_
  clear S; intro a u S G hE
  refine ent ?_
  refine cd S rfl ?_ ?_
  ·intro hc7
   refine rs S (la (av rfl)) ?_; clear S; intro a u S
   refine wp_ret (blk_r (then_r (then_r (blk_r (then_r ?_)))))
   refine ret1 rfl S.s rfl ?_
   replace S := S.pk []
   refine ⟨(r1 (vf ?_)), S.m.c⟩
   intro _
   have h1 := getD_mapS (xs := r_t1520.xs) (k := k1) (by omega)
   have h2 := getD_mapS (xs := r_t1570.xs) (k := k1) (by omega)
   rw [heq] at h1
   exact hc7 (h1.symm.trans h2)
  intro hc8
  refine wp_skip (blk_n (then_n ?_))
  refine rg S (tr (mv rfl)<|tr (addi ((k1 + 1 : Nat) : Int) rfl rfl (w_i64 (by omega)))<|la (av rfl)) ?_; clear S; intro a u S
  refine then_n ?_
  refine ⟨(k1 + 1), S.re (subM rfl) rfl rfl, ?_, ?_⟩
  ·refine ⟨by omega, ?_⟩
   trivial
  omega
 intro hc9
 have hJN := join3 (A := ([tx, r_t36, r_t38, r_t42] : List ByteArray) ++ ws.xs.take mm) (B := ([tx, r_t36, r_t38, r_t42] : List ByteArray)) (fun x hx => (List.mem_append.1 hx).elim (h4 x) fun h => by have := hs2 x (List.mem_of_mem_take h); omega) h4 (by simp; omega) (by simp)
 refine wp_exit (then_e (then_e (blk_e (then_n (rs0 ?_)))))
 refine sp S (tr (mv rfl)<|tr (mv rfl)<|tr (ov fun S=>x_bd S [(0, iI mo), (1, .slice ad149 ((([tx, r_t36, r_t38, r_t42] : List ByteArray) ++ (ws.xs.take mm)).length) cap149)] [iI mo, .slice ad149 ((([tx, r_t36, r_t38, r_t42] : List ByteArray) ++ (ws.xs.take mm)).length) cap149])<|tr (ov fun S=>x_bd S [] [iI 0, .slice none 0 0])<|tr (mv rfl)<|la (ov fun S=>x_bd S [(1, .slice (some ⟨b43, 0, none⟩) 4 4)] [iI 0, .slice (some ⟨b43, 0, none⟩) 4 4])) ?_; clear S; intro a u S
 refine nbs lineE S [(⟨mo, (Sl.mk ad149 cap149 (([tx, r_t36, r_t38, r_t42] : List ByteArray) ++ (ws.xs.take mm)))⟩ : Line), (⟨0, (Sl.mk none 0 ([]))⟩ : Line), (⟨0, (Sl.mk (some ⟨b43, 0, none⟩) 4 ([tx, r_t36, r_t38, r_t42] : List ByteArray))⟩ : Line)] (x_bs S [(0, .agg #[iI mo, .slice ad149 ((([tx, r_t36, r_t38, r_t42] : List ByteArray) ++ (ws.xs.take mm)).length) cap149]), (1, .agg #[iI 0, .slice none 0 0]), (2, .agg #[iI 0, .slice (some ⟨b43, 0, none⟩) 4 4])] uT36 iZ35) (fun x hx => by simp only [List.mem_cons, List.not_mem_nil, or_false] at hx; rcases hx with hx | hx | hx <;> rw [hx] <;> first | exact (show lineE.wf _ _ (⟨mo, (Sl.mk ad149 cap149 (([tx, r_t36, r_t38, r_t42] : List ByteArray) ++ (ws.xs.take mm)))⟩ : Line) from ⟨mo_h, (S.u 8 rfl)⟩) | exact (show lineE.wf _ _ (⟨0, (Sl.mk none 0 ([]))⟩ : Line) from ⟨(show inI64 0 from ⟨by omega, by omega⟩), sl_nil⟩) | exact (show lineE.wf _ _ (⟨0, (Sl.mk (some ⟨b43, 0, none⟩) 4 ([tx, r_t36, r_t38, r_t42] : List ByteArray))⟩ : Line) from ⟨(show inI64 0 from ⟨by omega, by omega⟩), (S.u 7 rfl)⟩)) ?_; clear S; intro a u b192 S
 refine ens S (la (av rfl)) ?_; clear S; intro a u S
 refine rs0 ?_
 refine sp S (tr (mv rfl)<|tr (oc (fun S=>sJoin _ _ S.x (.nil _) (Sl.mk (some ⟨b192, 0, none⟩) 3 ([(⟨mo, (Sl.mk ad149 cap149 (([tx, r_t36, r_t38, r_t42] : List ByteArray) ++ (ws.xs.take mm)))⟩ : Line), (⟨0, (Sl.mk none 0 ([]))⟩ : Line), (⟨0, (Sl.mk (some ⟨b43, 0, none⟩) 4 ([tx, r_t36, r_t38, r_t42] : List ByteArray))⟩ : Line)])) (dn0 (S.u 11 rfl)) (by first | assumption | exact hJN)) cB24)<|tr (mv rfl)<|tr (oc (fun S=>rJoin _ _ S.x (.nil _) (Sl.mk (some ⟨b192, 0, none⟩) 3 ([(⟨mo, (Sl.mk ad149 cap149 (([tx, r_t36, r_t38, r_t42] : List ByteArray) ++ (ws.xs.take mm)))⟩ : Line), (⟨0, (Sl.mk none 0 ([]))⟩ : Line), (⟨0, (Sl.mk (some ⟨b43, 0, none⟩) 4 ([tx, r_t36, r_t38, r_t42] : List ByteArray))⟩ : Line)])) (dn0 (S.u 11 rfl)) (by first | assumption | exact hJN)) cB16)<|tr (seqi rfl rfl)<|la (mv rfl)) ?_; clear S; intro a u S
 have ht198 : (joinB (([(⟨mo, (Sl.mk ad149 cap149 (([tx, r_t36, r_t38, r_t42] : List ByteArray) ++ (ws.xs.take mm)))⟩ : Line), (⟨0, (Sl.mk none 0 ([]))⟩ : Line), (⟨0, (Sl.mk (some ⟨b43, 0, none⟩) 4 ([tx, r_t36, r_t38, r_t42] : List ByteArray))⟩ : Line)]).map fun x => x.words.xs)) = (joinB (([(⟨mo, (Sl.mk ad149 cap149 (([tx, r_t36, r_t38, r_t42] : List ByteArray) ++ (ws.xs.take mm)))⟩ : Line), (⟨0, (Sl.mk none 0 ([]))⟩ : Line), (⟨0, (Sl.mk (some ⟨b43, 0, none⟩) 4 ([tx, r_t36, r_t38, r_t42] : List ByteArray))⟩ : Line)]).map fun x => x.words.xs)) := rfl
 replace S := S.ext (d := 198) (v := .bool true) ((S.get 198 rfl).trans (congrArg Value.bool (decide_eq_true ht198)))
 refine strip S.s rfl rfl (gd := 198) rfl ?_
 refine ens S (tr (oc (fun S=>lSane _ _ S.x (.nil _) (S.gl 2 rfl)) cB15)<|tr (ov fun S=>x_pickt (S.e rfl) (S.e rfl))<|la (av rfl)) ?_; clear S; intro a u S
 refine wp_ret ?_
 refine ret1 rfl S.s rfl ?_
 replace S := S.pk []
 refine ⟨(r1 (vt ?_)), S.m.c⟩
 trivial
end Go.Proofs.YtmaiillomoehgaaDoor.V
