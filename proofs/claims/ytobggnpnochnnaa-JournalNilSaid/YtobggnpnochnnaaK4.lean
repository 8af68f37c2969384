/- records are read -/
import Derived.Test.YtobggnpnochnnaaK3
import Derived.Test.YtobggnpnochnnaaDecM
namespace Go.Proofs.Ytobggnpnochnnaa.V
open Go.RowKit Go.Proofs.Ytobggnpnochnnaa
set_option linter.unusedVariables false
set_option linter.unusedSimpArgs false
set_option maxHeartbeats 2000000 in
set_option maxRecDepth 20000 in
theorem jDecode (w : World) (F : Nat → Prop) (hF : Old F w) (M : MS [] w) (b : Sl Int) (b_w : (slE u8E).wf (Fr F []) w.heap b) :
 Calls Try.prog 23 #[sV b] w fun e w' => ∃ (ra0 : Option Addr) (rc0 : Nat), e = .returned (.tuple #[.slice ra0 ((recsP b.xs (decN b.xs)).length) rc0, iN (14 * decN b.xs)]) ∧ Row recE 24 w.heap.size F [abk ra0] w' ra0 rc0 (recsP b.xs (decN b.xs)) ∧ Tr [] w [abk ra0] w' := by
 have : b.xs.length ≤ 9223372036854775807 := (b_w).1.len
 refine go Try.func23 rfl 57 rfl [wfF (slE u8E) b] [] hF M ⟨b_w, trivial⟩ trivial ?_
 intro a S
 have hD : ∀ k, In ([] : List BS) k → ¬ F k := fun _ h => h.elim
 refine rs S (tr (av rfl)<|la (av rfl)) ?_; clear S; intro a u S
 refine rs S (la (av rfl)) ?_; clear S; intro a u S
 refine rs S (la (av rfl)) ?_; clear S; intro a u S
 refine wp_seq (wp_block ?_)
 replace S := S.nr recE 24
 refine lp4 (fun (k : Nat) (out_a : Option Addr) (out_c : Nat) (out : List Rec) => [(0, sV b), (2, .slice none 0 0), (3, iI 0), (5, iN (14 * k)), (4, .slice out_a out.length out_c)]) (fun (k : Nat) (out_a : Option Addr) (out_c : Nat) (out : List Rec) => [rwO recE 24 w.heap.size out_a out_c out]) (fun (k : Nat) (out_a : Option Addr) (out_c : Nat) (out : List Rec) => k ≤ 4096 ∧ 14 * k ≤ b.xs.length ∧ out = recsP b.xs k ∧ decF b.xs (4096 - k) k = decN b.xs) (fun (k : Nat) (out_a : Option Addr) (out_c : Nat) (out : List Rec) => 4096 - k) S 0 none 0 ([]) (subM rfl) rfl ?_ ?_
 ·exact ⟨by decide, Nat.zero_le _, rfl, rfl⟩
 clear S; intro k out_a out_c out a u S hR
 have out_len := (S.row 0 rfl).len_le; simp only [maxLen] at out_len
 obtain ⟨hk, hkb, hout, hI⟩ := hR
 have hol : out.length = k := by rw [hout, recsP_len]
 refine wp_seq ?_
 refine rs S (tr (mv rfl)<|tr (leni uT32 rfl)<|tr (lssi rfl rfl)<|tr (mv rfl)<|tr (og 11 rfl gt fun S hg=>x_move (S.e rfl))<|tr (og 11 rfl gt fun S hg=>x_len uT28 (S.p rfl hg))<|tr (og 11 rfl gt fun S hg=>x_move (S.e rfl))<|tr (og 11 rfl gt fun S hg=>x_sub (S.p rfl hg) (S.p rfl hg) (r := (((b.xs.length : Nat) : Int) - (((14 * k) : Nat) : Int))) (w_i64 (by omega)))<|tr (og 11 rfl gt fun S hg=>x_geq (S.p rfl hg) (S.e rfl))<|la (andi rfl rfl rfl)) ?_; clear S; intro a u S
 refine cd S rfl ?_ ?_
 ·intro hc0
  refine wp_skip (then_n (wp_block (rs0 ?_)))
  have hk6 : (slSub u8E b (14 * k) ((14 * k) + 14)).xs.length = ((14 * k) + 14) - (14 * k) := by show ((b.xs.take ((14 * k) + 14)).drop (14 * k)).length = _; rw [List.length_drop, List.length_take]; omega
  refine sp S (tr (mv rfl)<|tr (mv rfl)<|tr (mv rfl)<|tr (addi (((14 * k) + 14 : Nat) : Int) rfl rfl (w_i64 (by omega)))<|tr (ov (v := sV (slSub u8E b (14 * k) ((14 * k) + 14))) fun S=>x_slsub u8E (s := b) uT28 iZ5 (S.e rfl) (S.e rfl) (S.e rfl) (14 * k) ((14 * k) + 14) rfl rfl (by omega) (by omega) ((S.u 0 rfl)).2.1)<|la (av rfl)) ?_; clear S; intro a u S
  have hx6 : ∀ i, i < (slSub u8E b (14 * k) ((14 * k) + 14)).xs.length → inU8 ((slSub u8E b (14 * k) ((14 * k) + 14)).xs.getD i 0) := fun i hi => ((sl_sub (E := u8E) (S.u 0 rfl) (14 * k) ((14 * k) + 14) (by omega) (by omega))).1.wf i hi
  have hl6 : (slSub u8E b (14 * k) ((14 * k) + 14)).xs.length = 14 := by show ((b.xs.take (14 * k + 14)).drop (14 * k)).length = _; rw [List.length_drop, List.length_take]; omega
  have hn2 : inU32 (num4 (slSub u8E b (14 * k) ((14 * k) + 14)).xs (2 : Int).toNat) := num4_in hx6 (by rw [hl6]; decide)
  have hn6 : inU32 (num4 (slSub u8E b (14 * k) ((14 * k) + 14)).xs (6 : Int).toNat) := num4_in hx6 (by rw [hl6]; decide)
  have hn10 : inU32 (num4 (slSub u8E b (14 * k) ((14 * k) + 14)).xs (10 : Int).toNat) := num4_in hx6 (by rw [hl6]; decide)
  refine ent (wp_seq ?_)
  obtain ⟨hl7, hu7⟩ : inU8 (((slSub u8E b (14 * k) ((14 * k) + 14)).xs).getD 0 u8E.dflt) := id (((sl_sub (E := u8E) (S.u 0 rfl) (14 * k) ((14 * k) + 14) (by omega) (by omega))).1.wf 0 (by omega))
  obtain ⟨hl8, hu8⟩ : inU8 (((slSub u8E b (14 * k) ((14 * k) + 14)).xs).getD 1 u8E.dflt) := id (((sl_sub (E := u8E) (S.u 0 rfl) (14 * k) ((14 * k) + 14) (by omega) (by omega))).1.wf 1 (by omega))
  obtain ⟨z0, hz0⟩ := S.z
  refine dr (P := Try.prog) S 16 [] [(23, .is _), (24, .is _), (25, .is _), (26, .is _), (27, .is _), (28, .is _), (29, .is _), (30, .is _), (31, .is _), (32, .is _), (33, .is _), (34, .is _), (35, .is _), (36, .is _), (37, .is _), (7, .of (fun z w => ∃ (x7a : Nat), z = pT x7a 0 ∧ (Blk w.heap x7a [iI 0, iI 0, iI 0, iI 0] 24 ∧ z0 ≤ x7a ∧ ¬ In [] x7a)) (fun v w w' c h => let ⟨x7a, hv, h0⟩ := h; ⟨x7a, hv, ⟨Blk.tr h0.1 c h0.2.2, h0.2⟩⟩))] [[], [23], [24], [25], [], [27], [28], [29], [], [31], [32], [], [34], [35], [26, 30, 33, 36], []] [37, 7] _ ⟨qd (mv rfl), qd (idxi uT28 sZ5 rfl rfl 0 rfl (by omega) (((sl_sub (E := u8E) (S.u 0 rfl) (14 * k) ((14 * k) + 14) (by omega) (by omega))).1.adr (i := 0) (by omega))), qd (ov fun S=>x_load sC5 (S.e rfl) (((sl_sub (E := u8E) (S.u 0 rfl) (14 * k) ((14 * k) + 14) (by omega) (by omega))).1.cell 0 (by omega) 0 _ rfl)), qd (ov fun S=>x_conv uT5 uT3 (S.e rfl) (r := (((slSub u8E b (14 * k) ((14 * k) + 14)).xs).getD 0 u8E.dflt)) (w_i64 (by omega))), qd (mv rfl), qd (idxi uT28 sZ5 rfl rfl 1 rfl (by omega) (((sl_sub (E := u8E) (S.u 0 rfl) (14 * k) ((14 * k) + 14) (by omega) (by omega))).1.adr (i := 1) (by omega))), qd (ov fun S=>x_load sC5 (S.e rfl) (((sl_sub (E := u8E) (S.u 0 rfl) (14 * k) ((14 * k) + 14) (by omega) (by omega))).1.cell 1 (by omega) 0 _ rfl)), qd (ov fun S=>x_conv uT5 uT3 (S.e rfl) (r := (((slSub u8E b (14 * k) ((14 * k) + 14)).xs).getD 1 u8E.dflt)) (w_i64 (by omega))), qd (mv rfl), qd (oc (fun S=>jTake _ _ S.x (.nil _) (slSub u8E b (14 * k) ((14 * k) + 14)) (dn0 (sl_sub (E := u8E) (S.u 0 rfl) (14 * k) ((14 * k) + 14) (by omega) (by omega))) 2 ⟨by omega, by omega⟩ (⟨by omega, by omega⟩)) cB67), qd (ov fun S=>x_conv uT115 uT3 (S.e rfl) (r := num4 (slSub u8E b (14 * k) ((14 * k) + 14)).xs (2 : Int).toNat) (w_i64 (by omega))), qd (mv rfl), qd (oc (fun S=>jTake _ _ S.x (.nil _) (slSub u8E b (14 * k) ((14 * k) + 14)) (dn0 (sl_sub (E := u8E) (S.u 0 rfl) (14 * k) ((14 * k) + 14) (by omega) (by omega))) 6 ⟨by omega, by omega⟩ (⟨by omega, by omega⟩)) cB67), qd (ov fun S=>x_conv uT115 uT3 (S.e rfl) (r := num4 (slSub u8E b (14 * k) ((14 * k) + 14)).xs (6 : Int).toNat) (w_i64 (by omega))), qd (ov fun S=>x_bd S [(0, iI (((slSub u8E b (14 * k) ((14 * k) + 14)).xs).getD 0 u8E.dflt)), (1, iI (((slSub u8E b (14 * k) ((14 * k) + 14)).xs).getD 1 u8E.dflt)), (2, iI (num4 (slSub u8E b (14 * k) ((14 * k) + 14)).xs (2 : Int).toNat)), (3, iI (num4 (slSub u8E b (14 * k) ((14 * k) + 14)).xs (6 : Int).toNat))] [iI (((slSub u8E b (14 * k) ((14 * k) + 14)).xs).getD 0 u8E.dflt), iI (((slSub u8E b (14 * k) ((14 * k) + 14)).xs).getD 1 u8E.dflt), iI (num4 (slSub u8E b (14 * k) ((14 * k) + 14)).xs (2 : Int).toNat), iI (num4 (slSub u8E b (14 * k) ((14 * k) + 14)).xs (6 : Int).toNat)]), ?_, trivial⟩ ?_
  ·skip
   intro a u S G hE
   exact hnb 7 S.m (x_allocz [iI 0, iI 0, iI 0, iI 0] iZ24 rfl) fun g => (show ∃ _, _ from ⟨_, rfl, Blk.new _ [iI 0, iI 0, iI 0, iI 0] 24, hz0 ▸ G.size, fun h => absurd (S.M.lt _ (in_sub (fun _ h => by simp at h) h)) (Nat.lt_irrefl _)⟩)
  have S0 := S
  clear S; intro a u S G hE
  obtain ⟨e7, -⟩ := hE
  obtain ⟨x7_9, e7, X9⟩ := e7
  replace S := S.ext e7
  clear e7
  have hltx7_9 : x7_9 < u.heap.size := X9.1.lt; have hgex7_9 := X9.2.1
  replace S := S0.own S [] G (by intro j f hj; simp at hj) [blO x7_9 [iI 0, iI 0, iI 0, iI 0] 24] (⟨fun _ _ h => h, trivial⟩) (fun k hk => by simp only [ow, rwO, blO, abk_one, In, one, or_false] at hk; omega) (by intro f hf V; simp only [List.mem_cons, List.not_mem_nil, or_false] at hf; subst hf <;> first | exact X9.1)
  clear S0
  obtain ⟨hl10, hu10⟩ : inU8 (((slSub u8E b (14 * k) ((14 * k) + 14)).xs).getD 0 u8E.dflt) := id (((sl_sub (E := u8E) (S.u 0 rfl) (14 * k) ((14 * k) + 14) (by omega) (by omega))).1.wf 0 (by omega))
  obtain ⟨hl11, hu11⟩ : inU8 (((slSub u8E b (14 * k) ((14 * k) + 14)).xs).getD 1 u8E.dflt) := id (((sl_sub (E := u8E) (S.u 0 rfl) (14 * k) ((14 * k) + 14) (by omega) (by omega))).1.wf 1 (by omega))
  refine ens S (la (stkw 1 rfl rfl rfl)) ?_; clear S; intro a u S
  refine wp_seq (wp_seq ?_)
  have hk12 : (((slSub u8E b (14 * k) ((14 * k) + 14)).xs).take 10).length = 10 := by rw [List.length_take]; first | omega | (simp only [List.length_cons, List.length_nil]; omega)
  obtain ⟨hl13, hu13⟩ : inU32 (crcL (((slSub u8E b (14 * k) ((14 * k) + 14)).xs).take 10)) := id (crcL_in _)
  refine dr (P := Try.prog) S 11 [] [(38, .is _), (39, .is _), (40, .is _), (41, .is _), (42, .is _), (43, .is _), (44, .is _), (45, .is _), (46, .is _), (47, .is _), (48, .is _)] [[], [38], [], [40], [41], [39, 42], [43], [44], [44, 45], [44, 46], [44, 47]] [48] _ ⟨qd (mv rfl), qd (oc (fun S=>jTake _ _ S.x (.nil _) (slSub u8E b (14 * k) ((14 * k) + 14)) (dn0 (sl_sub (E := u8E) (S.u 0 rfl) (14 * k) ((14 * k) + 14) (by omega) (by omega))) 10 ⟨by omega, by omega⟩ (⟨by omega, by omega⟩)) cB67), qd (mv rfl), qd (ov (v := .slice ((slSub u8E b (14 * k) ((14 * k) + 14)).a) ((((slSub u8E b (14 * k) ((14 * k) + 14)).xs).take 10).length) ((slSub u8E b (14 * k) ((14 * k) + 14)).c)) fun S=>x_slhn uT28 iZ5 (S.e rfl) (S.e rfl) 10 rfl (Nat.le_trans (by omega) ((sl_sub (E := u8E) (S.u 0 rfl) (14 * k) ((14 * k) + 14) (by omega) (by omega))).2.1) ((sl_sub (E := u8E) (S.u 0 rfl) (14 * k) ((14 * k) + 14) (by omega) (by omega))).2.2 _ (by rw [List.length_take]; first | omega | (simp only [List.length_cons, List.length_nil]; omega))), qd (oc (fun S=>cSum _ _ S.x (.nil _) (Sl.mk ((slSub u8E b (14 * k) ((14 * k) + 14)).a) ((slSub u8E b (14 * k) ((14 * k) + 14)).c) (((slSub u8E b (14 * k) ((14 * k) + 14)).xs).take 10)) (dn0 (sl_take (sl_sub (E := u8E) (S.u 0 rfl) (14 * k) ((14 * k) + 14) (by omega) (by omega)) 10 (by omega)))) cB63), qd (neqi rfl rfl), qd (mv rfl), qd (og 44 rfl gf fun S hg=>x_ldw (S.e rfl) (S.k 1 rfl).all wD24), qd (ocg 44 rfl gf (fun S hg=>jValid _ _ S.x (.nil _) (⟨(((slSub u8E b (14 * k) ((14 * k) + 14)).xs).getD 0 u8E.dflt), (((slSub u8E b (14 * k) ((14 * k) + 14)).xs).getD 1 u8E.dflt), num4 (slSub u8E b (14 * k) ((14 * k) + 14)).xs (2 : Int).toNat, num4 (slSub u8E b (14 * k) ((14 * k) + 14)).xs (6 : Int).toNat⟩ : Rec) ⟨(show inI64 (((slSub u8E b (14 * k) ((14 * k) + 14)).xs).getD 0 u8E.dflt) from ⟨by omega, by omega⟩), (show inI64 (((slSub u8E b (14 * k) ((14 * k) + 14)).xs).getD 1 u8E.dflt) from ⟨by omega, by omega⟩), (show inI64 (num4 (slSub u8E b (14 * k) ((14 * k) + 14)).xs (2 : Int).toNat) from ⟨by omega, by omega⟩), (show inI64 (num4 (slSub u8E b (14 * k) ((14 * k) + 14)).xs (6 : Int).toNat) from ⟨by omega, by omega⟩)⟩) cB61 fun S=>⟨fun hg=>(S.p rfl hg), trivial⟩), qd (og 44 rfl gf fun S hg=>x_notp (S.p rfl hg)), qd (ori rfl rfl rfl), trivial⟩ ?_
  clear S; intro a u S G hE
  obtain ⟨hl14, hu14⟩ : inU32 (crcL (((slSub u8E b (14 * k) ((14 * k) + 14)).xs).take 10)) := id (crcL_in _)
  refine ent ?_
  refine cd S rfl ?_ ?_
  ·intro hc1
   refine wp_exit (then_e (blk_o (by decide) ?_))
   refine then_e (blk_e (then_n ?_))
   refine rs S (tr (mv rfl)<|tr (mv rfl)<|tr (av rfl)<|la (av rfl)) ?_; clear S; intro a u S
   refine wp_ret ?_
   refine ret2 rfl S.s rfl rfl ?_
   replace S := S.pk [0] (os' := [rwO recE 24 w.heap.size out_a out_c out])
   have hx16 : recsP b.xs (decN b.xs) = out := by
    have hg : ¬ goodX (subB b.xs k) := fun h => hc1.elim (fun q => q h.2) (fun q => q h.1)
    have hd : decN b.xs = k := by rw [← hI, decF_no (.inr fun h => hg h.2)]
    rw [hd, hout]
   rw [hx16]
   refine ⟨out_a, out_c, (r2 rfl (vi ?_)), (S.row 0 rfl), S.m.c⟩
   have hg : ¬ goodX (subB b.xs k) := fun h => hc1.elim (fun q => q h.2) (fun q => q h.1)
   have hd : decN b.xs = k := by rw [← hI, decF_no (.inr fun h => hg h.2)]
   rw [hd]
  intro hc2
  refine wp_skip (then_n (rs0 ?_))
  refine sp S (tr (mv rfl)<|la (ldkw 1 rfl rfl wD24)) ?_; clear S; intro a u S
  refine nbs recE S [(⟨(((slSub u8E b (14 * k) ((14 * k) + 14)).xs).getD 0 u8E.dflt), (((slSub u8E b (14 * k) ((14 * k) + 14)).xs).getD 1 u8E.dflt), num4 (slSub u8E b (14 * k) ((14 * k) + 14)).xs (2 : Int).toNat, num4 (slSub u8E b (14 * k) ((14 * k) + 14)).xs (6 : Int).toNat⟩ : Rec)] (x_bs S [(0, .agg #[iI (((slSub u8E b (14 * k) ((14 * k) + 14)).xs).getD 0 u8E.dflt), iI (((slSub u8E b (14 * k) ((14 * k) + 14)).xs).getD 1 u8E.dflt), iI (num4 (slSub u8E b (14 * k) ((14 * k) + 14)).xs (2 : Int).toNat), iI (num4 (slSub u8E b (14 * k) ((14 * k) + 14)).xs (6 : Int).toNat)])] uT32 iZ24) (fun x hx => by simp only [List.mem_cons, List.not_mem_nil, or_false] at hx; rw [hx]; exact (show recE.wf _ _ (⟨(((slSub u8E b (14 * k) ((14 * k) + 14)).xs).getD 0 u8E.dflt), (((slSub u8E b (14 * k) ((14 * k) + 14)).xs).getD 1 u8E.dflt), num4 (slSub u8E b (14 * k) ((14 * k) + 14)).xs (2 : Int).toNat, num4 (slSub u8E b (14 * k) ((14 * k) + 14)).xs (6 : Int).toNat⟩ : Rec) from ⟨(show inI64 (((slSub u8E b (14 * k) ((14 * k) + 14)).xs).getD 0 u8E.dflt) from ⟨by omega, by omega⟩), (show inI64 (((slSub u8E b (14 * k) ((14 * k) + 14)).xs).getD 1 u8E.dflt) from ⟨by omega, by omega⟩), (show inI64 (num4 (slSub u8E b (14 * k) ((14 * k) + 14)).xs (2 : Int).toNat) from ⟨by omega, by omega⟩), (show inI64 (num4 (slSub u8E b (14 * k) ((14 * k) + 14)).xs (6 : Int).toNat) from ⟨by omega, by omega⟩)⟩)) ?_; clear S; intro a u b51 S
  refine ap (E := recE) (ys := [(⟨(((slSub u8E b (14 * k) ((14 * k) + 14)).xs).getD 0 u8E.dflt), (((slSub u8E b (14 * k) ((14 * k) + 14)).xs).getD 1 u8E.dflt), num4 (slSub u8E b (14 * k) ((14 * k) + 14)).xs (2 : Int).toNat, num4 (slSub u8E b (14 * k) ((14 * k) + 14)).xs (6 : Int).toNat⟩ : Rec)]) S 0 rfl uT32 iZ24 rfl rfl (show LAt recE _ _ (some ⟨b51, 0, none⟩) ([(⟨(((slSub u8E b (14 * k) ((14 * k) + 14)).xs).getD 0 u8E.dflt), (((slSub u8E b (14 * k) ((14 * k) + 14)).xs).getD 1 u8E.dflt), num4 (slSub u8E b (14 * k) ((14 * k) + 14)).xs (2 : Int).toNat, num4 (slSub u8E b (14 * k) ((14 * k) + 14)).xs (6 : Int).toNat⟩ : Rec)]) from ((S.u 1 rfl)).1) ((S.u 1 rfl)).2.2 (LAt.mem (show LAt recE _ _ (some ⟨b51, 0, none⟩) ([(⟨(((slSub u8E b (14 * k) ((14 * k) + 14)).xs).getD 0 u8E.dflt), (((slSub u8E b (14 * k) ((14 * k) + 14)).xs).getD 1 u8E.dflt), num4 (slSub u8E b (14 * k) ((14 * k) + 14)).xs (2 : Int).toNat, num4 (slSub u8E b (14 * k) ((14 * k) + 14)).xs (6 : Int).toNat⟩ : Rec)]) from ((S.u 1 rfl)).1)) ⟨by unfold maxLen; (try simp only [List.length_cons, List.length_nil, List.length_append, List.length_map]); omega, by (try simp only [List.length_cons, List.length_nil, List.length_append, List.length_map]); omega⟩ ?_; clear S; intro a u ad52 cap52 S
  refine ens S (la (av rfl)) ?_; clear S; intro a u S
  refine rg S (tr (mv rfl)<|tr (addi (((14 * k) + 14 : Nat) : Int) rfl rfl (w_i64 (by omega)))<|la (av rfl)) ?_; clear S; intro a u S
  refine blk_n (then_n ?_)
  refine ⟨(k + 1), ad52, cap52, (out ++ [(⟨(((slSub u8E b (14 * k) ((14 * k) + 14)).xs).getD 0 u8E.dflt), (((slSub u8E b (14 * k) ((14 * k) + 14)).xs).getD 1 u8E.dflt), num4 (slSub u8E b (14 * k) ((14 * k) + 14)).xs (2 : Int).toNat, num4 (slSub u8E b (14 * k) ((14 * k) + 14)).xs (6 : Int).toNat⟩ : Rec)]), S.re (subM rfl) rfl rfl, ?_, ?_⟩
  ·have hg : goodX (subB b.xs k) := ⟨Classical.not_not.1 fun q => hc2 (.inr q), Classical.not_not.1 fun q => hc2 (.inl q)⟩
   refine ⟨by omega, by omega, ?_, ?_⟩
   ·rw [recsP_up, ← hout]; rfl
   rw [← hI, show 4096 - (k + 1) = 4096 - k - 1 from by omega]; exact decF_go (by omega) hg (by omega)
  omega
 intro hc3
 refine wp_exit (then_e (then_e (blk_e (then_n ?_))))
 refine rs S (tr (mv rfl)<|tr (mv rfl)<|tr (av rfl)<|la (av rfl)) ?_; clear S; intro a u S
 refine wp_ret ?_
 refine ret2 rfl S.s rfl rfl ?_
 have hx20 : recsP b.xs (decN b.xs) = out := by
  have hd : decN b.xs = k := by
   rw [← hI]
   exact decF_no (if h : k = 4096 then .inl (by omega) else .inr fun q => by have := q.1; omega)
  rw [hd, hout]
 rw [hx20]
 refine ⟨out_a, out_c, (r2 rfl (vi ?_)), (S.row 0 rfl), S.m.c⟩
 have hd : decN b.xs = k := by
  rw [← hI]
  exact decF_no (if h : k = 4096 then .inl (by omega) else .inr fun q => by have := q.1; omega)
 rw [hd]
theorem recR (b : List Int) (k : Nat) : recX (subB b k) = ⟨(subB b k).getD 0 0, (subB b k).getD 1 0, num4 ((subB b k).drop 2) 0, num4 ((subB b k).drop 6) 0⟩ := by rw [num4_drop, num4_drop]; rfl
set_option maxHeartbeats 2000000 in
set_option maxRecDepth 20000 in
theorem rDecode (w : World) (F : Nat → Prop) (hF : Old F w) (M : MS [] w) (b : Sl Int) (b_w : (slE u8E).wf (Fr F []) w.heap b) :
 Calls Try.prog 27 #[sV b] w fun e w' => ∃ (ra0 : Option Addr) (rc0 : Nat), e = .returned (.tuple #[.slice ra0 ((recsP b.xs (decN b.xs)).length) rc0, iN (14 * decN b.xs)]) ∧ Row recE 24 w.heap.size F [abk ra0] w' ra0 rc0 (recsP b.xs (decN b.xs)) ∧ Tr [] w [abk ra0] w' := by
 have : b.xs.length ≤ 9223372036854775807 := (b_w).1.len
 refine go Try.func27 rfl 61 rfl [wfF (slE u8E) b] [] hF M ⟨b_w, trivial⟩ trivial ?_
 intro a S
 have hD : ∀ k, In ([] : List BS) k → ¬ F k := fun _ h => h.elim
 refine rs S (tr (av rfl)<|la (av rfl)) ?_; clear S; intro a u S
 refine rs S (la (av rfl)) ?_; clear S; intro a u S
 refine rs S (la (av rfl)) ?_; clear S; intro a u S
 refine wp_seq (wp_block ?_)
 replace S := S.nr recE 24
 refine lp4 (fun (k : Nat) (out_a : Option Addr) (out_c : Nat) (out : List Rec) => [(0, sV b), (5, iN (14 * k)), (4, .slice out_a out.length out_c)]) (fun (k : Nat) (out_a : Option Addr) (out_c : Nat) (out : List Rec) => [rwO recE 24 w.heap.size out_a out_c out]) (fun (k : Nat) (out_a : Option Addr) (out_c : Nat) (out : List Rec) => k ≤ 4096 ∧ 14 * k ≤ b.xs.length ∧ out = recsP b.xs k ∧ decF b.xs (4096 - k) k = decN b.xs) (fun (k : Nat) (out_a : Option Addr) (out_c : Nat) (out : List Rec) => 4096 - k) S 0 none 0 ([]) (subM rfl) rfl ?_ ?_
 ·exact ⟨by decide, Nat.zero_le _, rfl, rfl⟩
 clear S; intro k out_a out_c out a u S hR
 have out_len := (S.row 0 rfl).len_le; simp only [maxLen] at out_len
 obtain ⟨hk, hkb, hout, hI⟩ := hR
 have hol : out.length = k := by rw [hout, recsP_len]
 refine wp_seq ?_
 have hn5 : b.xs.length ≤ 9223372036854775807 := ((S.u 0 rfl)).1.len
 refine rs S (tr (mv rfl)<|tr (leni uT28 rfl)<|tr (mv rfl)<|tr (subi (((b.xs.length : Nat) : Int) - (((14 * k) : Nat) : Int)) rfl rfl (w_i64 (by omega)))<|tr (geqi rfl rfl)<|tr (mv rfl)<|tr (og 13 rfl gt fun S hg=>x_move (S.e rfl))<|tr (og 13 rfl gt fun S hg=>x_len uT32 (S.p rfl hg))<|tr (og 13 rfl gt fun S hg=>x_lss (S.p rfl hg) (S.e rfl))<|la (andi rfl rfl rfl)) ?_; clear S; intro a u S
 refine cd S rfl ?_ ?_
 ·intro hc0
  refine wp_skip (then_n (wp_block (rs0 ?_)))
  have hk7 : (slSub u8E b (14 * k) ((14 * k) + 14)).xs.length = ((14 * k) + 14) - (14 * k) := by show ((b.xs.take ((14 * k) + 14)).drop (14 * k)).length = _; rw [List.length_drop, List.length_take]; omega
  refine sp S (tr (mv rfl)<|tr (mv rfl)<|tr (mv rfl)<|tr (addi (((14 * k) + 14 : Nat) : Int) rfl rfl (w_i64 (by omega)))<|tr (ov (v := sV (slSub u8E b (14 * k) ((14 * k) + 14))) fun S=>x_slsub u8E (s := b) uT28 iZ5 (S.e rfl) (S.e rfl) (S.e rfl) (14 * k) ((14 * k) + 14) rfl rfl (by omega) (by omega) ((S.u 0 rfl)).2.1)<|la (av rfl)) ?_; clear S; intro a u S
  have hx6 : ∀ i, i < (slSub u8E b (14 * k) ((14 * k) + 14)).xs.length → inU8 ((slSub u8E b (14 * k) ((14 * k) + 14)).xs.getD i 0) := fun i hi => ((sl_sub (E := u8E) (S.u 0 rfl) (14 * k) ((14 * k) + 14) (by omega) (by omega))).1.wf i hi
  have hl6 : (slSub u8E b (14 * k) ((14 * k) + 14)).xs.length = 14 := by show ((b.xs.take (14 * k + 14)).drop (14 * k)).length = _; rw [List.length_drop, List.length_take]; omega
  have hm2 : (slFrom u8E (slSub u8E b (14 * k) ((14 * k) + 14)) 2).xs.length = 14 - 2 := by show ((slSub u8E b (14 * k) ((14 * k) + 14)).xs.drop 2).length = _; rw [List.length_drop, hl6]
  have hn2 : inU32 (num4 (slFrom u8E (slSub u8E b (14 * k) ((14 * k) + 14)) 2).xs 0) := by show inU32 (num4 ((slSub u8E b (14 * k) ((14 * k) + 14)).xs.drop 2) 0); rw [num4_drop]; exact num4_in hx6 (by rw [hl6]; decide)
  have hm6 : (slFrom u8E (slSub u8E b (14 * k) ((14 * k) + 14)) 6).xs.length = 14 - 6 := by show ((slSub u8E b (14 * k) ((14 * k) + 14)).xs.drop 6).length = _; rw [List.length_drop, hl6]
  have hn6 : inU32 (num4 (slFrom u8E (slSub u8E b (14 * k) ((14 * k) + 14)) 6).xs 0) := by show inU32 (num4 ((slSub u8E b (14 * k) ((14 * k) + 14)).xs.drop 6) 0); rw [num4_drop]; exact num4_in hx6 (by rw [hl6]; decide)
  have hm10 : (slFrom u8E (slSub u8E b (14 * k) ((14 * k) + 14)) 10).xs.length = 14 - 10 := by show ((slSub u8E b (14 * k) ((14 * k) + 14)).xs.drop 10).length = _; rw [List.length_drop, hl6]
  have hn10 : inU32 (num4 (slFrom u8E (slSub u8E b (14 * k) ((14 * k) + 14)) 10).xs 0) := by show inU32 (num4 ((slSub u8E b (14 * k) ((14 * k) + 14)).xs.drop 10) 0); rw [num4_drop]; exact num4_in hx6 (by rw [hl6]; decide)
  refine ent (wp_seq ?_)
  obtain ⟨hl8, hu8⟩ : inU8 (((slSub u8E b (14 * k) ((14 * k) + 14)).xs).getD 0 u8E.dflt) := id (((sl_sub (E := u8E) (S.u 0 rfl) (14 * k) ((14 * k) + 14) (by omega) (by omega))).1.wf 0 (by omega))
  obtain ⟨hl9, hu9⟩ : inU8 (((slSub u8E b (14 * k) ((14 * k) + 14)).xs).getD 1 u8E.dflt) := id (((sl_sub (E := u8E) (S.u 0 rfl) (14 * k) ((14 * k) + 14) (by omega) (by omega))).1.wf 1 (by omega))
  have hk10 : (slFrom u8E (slSub u8E b (14 * k) ((14 * k) + 14)) 2).xs.length = ((slSub u8E b (14 * k) ((14 * k) + 14)).xs).length - 2 := List.length_drop
  have hk11 : (slFrom u8E (slSub u8E b (14 * k) ((14 * k) + 14)) 6).xs.length = ((slSub u8E b (14 * k) ((14 * k) + 14)).xs).length - 6 := List.length_drop
  obtain ⟨z0, hz0⟩ := S.z
  refine dr (P := Try.prog) S 16 [] [(23, .is _), (24, .is _), (25, .is _), (26, .is _), (27, .is _), (28, .is _), (29, .is _), (30, .is _), (31, .is _), (32, .is _), (33, .is _), (34, .is _), (35, .is _), (36, .is _), (37, .is _), (7, .of (fun z w => ∃ (x7a : Nat), z = pT x7a 0 ∧ (Blk w.heap x7a [iI 0, iI 0, iI 0, iI 0] 24 ∧ z0 ≤ x7a ∧ ¬ In [] x7a)) (fun v w w' c h => let ⟨x7a, hv, h0⟩ := h; ⟨x7a, hv, ⟨Blk.tr h0.1 c h0.2.2, h0.2⟩⟩))] [[], [23], [24], [25], [], [27], [28], [29], [], [31], [32], [], [34], [35], [26, 30, 33, 36], []] [37, 7] _ ⟨qd (mv rfl), qd (idxi uT28 sZ5 rfl rfl 0 rfl (by omega) (((sl_sub (E := u8E) (S.u 0 rfl) (14 * k) ((14 * k) + 14) (by omega) (by omega))).1.adr (i := 0) (by omega))), qd (ov fun S=>x_load sC5 (S.e rfl) (((sl_sub (E := u8E) (S.u 0 rfl) (14 * k) ((14 * k) + 14) (by omega) (by omega))).1.cell 0 (by omega) 0 _ rfl)), qd (ov fun S=>x_conv uT5 uT3 (S.e rfl) (r := (((slSub u8E b (14 * k) ((14 * k) + 14)).xs).getD 0 u8E.dflt)) (w_i64 (by omega))), qd (mv rfl), qd (idxi uT28 sZ5 rfl rfl 1 rfl (by omega) (((sl_sub (E := u8E) (S.u 0 rfl) (14 * k) ((14 * k) + 14) (by omega) (by omega))).1.adr (i := 1) (by omega))), qd (ov fun S=>x_load sC5 (S.e rfl) (((sl_sub (E := u8E) (S.u 0 rfl) (14 * k) ((14 * k) + 14) (by omega) (by omega))).1.cell 1 (by omega) 0 _ rfl)), qd (ov fun S=>x_conv uT5 uT3 (S.e rfl) (r := (((slSub u8E b (14 * k) ((14 * k) + 14)).xs).getD 1 u8E.dflt)) (w_i64 (by omega))), qd (mv rfl), qd (ov (v := sV (slFrom u8E (slSub u8E b (14 * k) ((14 * k) + 14)) 2)) fun S=>x_slfrom u8E (s := (slSub u8E b (14 * k) ((14 * k) + 14))) uT28 iZ5 (S.e rfl) (S.e rfl) 2 rfl (by omega)), qd (oc (fun S=>rNum _ _ S.x (.nil _) (slFrom u8E (slSub u8E b (14 * k) ((14 * k) + 14)) 2) (dn0 (sl_from (E := u8E) (sl_sub (E := u8E) (S.u 0 rfl) (14 * k) ((14 * k) + 14) (by omega) (by omega)) 2 (by omega))) (by first | omega | (simp; omega))) cB70), qd (mv rfl), qd (ov (v := sV (slFrom u8E (slSub u8E b (14 * k) ((14 * k) + 14)) 6)) fun S=>x_slfrom u8E (s := (slSub u8E b (14 * k) ((14 * k) + 14))) uT28 iZ5 (S.e rfl) (S.e rfl) 6 rfl (by omega)), qd (oc (fun S=>rNum _ _ S.x (.nil _) (slFrom u8E (slSub u8E b (14 * k) ((14 * k) + 14)) 6) (dn0 (sl_from (E := u8E) (sl_sub (E := u8E) (S.u 0 rfl) (14 * k) ((14 * k) + 14) (by omega) (by omega)) 6 (by omega))) (by first | omega | (simp; omega))) cB70), qd (ov fun S=>x_bd S [(0, iI (((slSub u8E b (14 * k) ((14 * k) + 14)).xs).getD 0 u8E.dflt)), (1, iI (((slSub u8E b (14 * k) ((14 * k) + 14)).xs).getD 1 u8E.dflt)), (2, iI (num4 (slFrom u8E (slSub u8E b (14 * k) ((14 * k) + 14)) 2).xs 0)), (3, iI (num4 (slFrom u8E (slSub u8E b (14 * k) ((14 * k) + 14)) 6).xs 0))] [iI (((slSub u8E b (14 * k) ((14 * k) + 14)).xs).getD 0 u8E.dflt), iI (((slSub u8E b (14 * k) ((14 * k) + 14)).xs).getD 1 u8E.dflt), iI (num4 (slFrom u8E (slSub u8E b (14 * k) ((14 * k) + 14)) 2).xs 0), iI (num4 (slFrom u8E (slSub u8E b (14 * k) ((14 * k) + 14)) 6).xs 0)]), ?_, trivial⟩ ?_
  ·skip
   intro a u S G hE
   exact hnb 7 S.m (x_allocz [iI 0, iI 0, iI 0, iI 0] iZ24 rfl) fun g => (show ∃ _, _ from ⟨_, rfl, Blk.new _ [iI 0, iI 0, iI 0, iI 0] 24, hz0 ▸ G.size, fun h => absurd (S.M.lt _ (in_sub (fun _ h => by simp at h) h)) (Nat.lt_irrefl _)⟩)
  have S0 := S
  clear S; intro a u S G hE
  obtain ⟨e7, -⟩ := hE
  obtain ⟨x7_12, e7, X12⟩ := e7
  replace S := S.ext e7
  clear e7
  have hltx7_12 : x7_12 < u.heap.size := X12.1.lt; have hgex7_12 := X12.2.1
  replace S := S0.own S [] G (by intro j f hj; simp at hj) [blO x7_12 [iI 0, iI 0, iI 0, iI 0] 24] (⟨fun _ _ h => h, trivial⟩) (fun k hk => by simp only [ow, rwO, blO, abk_one, In, one, or_false] at hk; omega) (by intro f hf V; simp only [List.mem_cons, List.not_mem_nil, or_false] at hf; subst hf <;> first | exact X12.1)
  clear S0
  obtain ⟨hl13, hu13⟩ : inU8 (((slSub u8E b (14 * k) ((14 * k) + 14)).xs).getD 0 u8E.dflt) := id (((sl_sub (E := u8E) (S.u 0 rfl) (14 * k) ((14 * k) + 14) (by omega) (by omega))).1.wf 0 (by omega))
  obtain ⟨hl14, hu14⟩ : inU8 (((slSub u8E b (14 * k) ((14 * k) + 14)).xs).getD 1 u8E.dflt) := id (((sl_sub (E := u8E) (S.u 0 rfl) (14 * k) ((14 * k) + 14) (by omega) (by omega))).1.wf 1 (by omega))
  refine ens S (la (stkw 1 rfl rfl rfl)) ?_; clear S; intro a u S
  refine wp_seq (wp_seq ?_)
  refine dr (P := Try.prog) S 13 [] [(38, .is _), (39, .is _), (40, .is _), (41, .is _), (42, .is _), (43, .is _), (44, .is _), (45, .is _), (46, .is _), (47, .is _), (48, .is _), (49, .is _), (50, .is _)] [[], [38], [39], [40], [41], [41, 42], [41, 43], [41, 44], [41], [41, 46], [41, 47], [41, 45, 48], [41, 49]] [50] _ ⟨qd (ldkw 1 rfl rfl wD24), qd (oc (fun S=>rValid _ _ S.x (.nil _) (⟨(((slSub u8E b (14 * k) ((14 * k) + 14)).xs).getD 0 u8E.dflt), (((slSub u8E b (14 * k) ((14 * k) + 14)).xs).getD 1 u8E.dflt), num4 (slFrom u8E (slSub u8E b (14 * k) ((14 * k) + 14)) 2).xs 0, num4 (slFrom u8E (slSub u8E b (14 * k) ((14 * k) + 14)) 6).xs 0⟩ : Rec) ⟨(show inI64 (((slSub u8E b (14 * k) ((14 * k) + 14)).xs).getD 0 u8E.dflt) from ⟨by omega, by omega⟩), (show inI64 (((slSub u8E b (14 * k) ((14 * k) + 14)).xs).getD 1 u8E.dflt) from ⟨by omega, by omega⟩), (show inI64 (num4 (slFrom u8E (slSub u8E b (14 * k) ((14 * k) + 14)) 2).xs 0) from ⟨by omega, by omega⟩), (show inI64 (num4 (slFrom u8E (slSub u8E b (14 * k) ((14 * k) + 14)) 6).xs 0) from ⟨by omega, by omega⟩)⟩) cB64), qd (noti rfl), qd (mv rfl), qd (og 41 rfl gf fun S hg=>x_move (S.e rfl)), qd (og 41 (v := sV (slFrom u8E (slSub u8E b (14 * k) ((14 * k) + 14)) 10)) rfl gf fun S hg=>x_slfrom u8E (s := (slSub u8E b (14 * k) ((14 * k) + 14))) uT28 iZ5 (S.p rfl hg) (S.e rfl) 10 rfl (by omega)), qd (ocg 41 rfl gf (fun S hg=>rNum _ _ S.x (.nil _) (slFrom u8E (slSub u8E b (14 * k) ((14 * k) + 14)) 10) (dn0 (sl_from (E := u8E) (sl_sub (E := u8E) (S.u 0 rfl) (14 * k) ((14 * k) + 14) (by omega) (by omega)) 10 (by omega))) (by first | omega | (simp; omega))) cB70 fun S=>⟨fun hg=>(S.p rfl hg), trivial⟩), qd (og 41 rfl gf fun S hg=>x_conv uT3 uT115 (S.p rfl hg) (r := num4 (slFrom u8E (slSub u8E b (14 * k) ((14 * k) + 14)) 10).xs 0) (w_u32 (by omega))), qd (og 41 rfl gf fun S hg=>x_move (S.e rfl)), qd (og 41 (v := .slice ((slSub u8E b (14 * k) ((14 * k) + 14)).a) ((((slSub u8E b (14 * k) ((14 * k) + 14)).xs).take 10).length) ((slSub u8E b (14 * k) ((14 * k) + 14)).c)) rfl gf fun S hg=>x_slhn uT28 iZ5 (S.p rfl hg) (S.e rfl) 10 rfl (Nat.le_trans (by omega) ((sl_sub (E := u8E) (S.u 0 rfl) (14 * k) ((14 * k) + 14) (by omega) (by omega))).2.1) ((sl_sub (E := u8E) (S.u 0 rfl) (14 * k) ((14 * k) + 14) (by omega) (by omega))).2.2 _ (by rw [List.length_take]; first | omega | (simp only [List.length_cons, List.length_nil]; omega))), qd (ocg 41 rfl gf (fun S hg=>rCRC _ _ S.x (.nil _) (Sl.mk ((slSub u8E b (14 * k) ((14 * k) + 14)).a) ((slSub u8E b (14 * k) ((14 * k) + 14)).c) (((slSub u8E b (14 * k) ((14 * k) + 14)).xs).take 10)) (dn0 (sl_take (sl_sub (E := u8E) (S.u 0 rfl) (14 * k) ((14 * k) + 14) (by omega) (by omega)) 10 (by omega)))) cB66 fun S=>⟨fun hg=>(S.p rfl hg), trivial⟩), qd (og 41 rfl gf fun S hg=>x_neq (S.p rfl hg) (S.p rfl hg)), qd (ori rfl rfl rfl), trivial⟩ ?_
  clear S; intro a u S G hE
  refine ent ?_
  refine cd S rfl ?_ ?_
  ·intro hc1
   refine rs S (tr (mv rfl)<|tr (mv rfl)<|tr (av rfl)<|la (av rfl)) ?_; clear S; intro a u S
   refine wp_ret (then_r (blk_r (then_r (blk_r (then_r ?_)))))
   refine ret2 rfl S.s rfl rfl ?_
   replace S := S.pk [0] (os' := [rwO recE 24 w.heap.size out_a out_c out])
   have hx16 : recsP b.xs (decN b.xs) = out := by
    have hg : ¬ goodX (subB b.xs k) := fun h => hc1.elim (fun q => q (by have h1 := h.1; rw [recR] at h1; exact h1)) (fun q => q (by have h2 := h.2; rw [← num4_drop _ 10 0] at h2; exact h2))
    have hd : decN b.xs = k := by rw [← hI, decF_no (.inr fun h => hg h.2)]
    rw [hd, hout]
   rw [hx16]
   refine ⟨out_a, out_c, (r2 rfl (vi ?_)), (S.row 0 rfl), S.m.c⟩
   have hg : ¬ goodX (subB b.xs k) := fun h => hc1.elim (fun q => q (by have h1 := h.1; rw [recR] at h1; exact h1)) (fun q => q (by have h2 := h.2; rw [← num4_drop _ 10 0] at h2; exact h2))
   have hd : decN b.xs = k := by rw [← hI, decF_no (.inr fun h => hg h.2)]
   rw [hd]
  intro hc2
  refine wp_skip (then_n (rs0 ?_))
  refine sp S (tr (mv rfl)<|la (ldkw 1 rfl rfl wD24)) ?_; clear S; intro a u S
  refine nbs recE S [(⟨(((slSub u8E b (14 * k) ((14 * k) + 14)).xs).getD 0 u8E.dflt), (((slSub u8E b (14 * k) ((14 * k) + 14)).xs).getD 1 u8E.dflt), num4 (slFrom u8E (slSub u8E b (14 * k) ((14 * k) + 14)) 2).xs 0, num4 (slFrom u8E (slSub u8E b (14 * k) ((14 * k) + 14)) 6).xs 0⟩ : Rec)] (x_bs S [(0, .agg #[iI (((slSub u8E b (14 * k) ((14 * k) + 14)).xs).getD 0 u8E.dflt), iI (((slSub u8E b (14 * k) ((14 * k) + 14)).xs).getD 1 u8E.dflt), iI (num4 (slFrom u8E (slSub u8E b (14 * k) ((14 * k) + 14)) 2).xs 0), iI (num4 (slFrom u8E (slSub u8E b (14 * k) ((14 * k) + 14)) 6).xs 0)])] uT32 iZ24) (fun x hx => by simp only [List.mem_cons, List.not_mem_nil, or_false] at hx; rw [hx]; exact (show recE.wf _ _ (⟨(((slSub u8E b (14 * k) ((14 * k) + 14)).xs).getD 0 u8E.dflt), (((slSub u8E b (14 * k) ((14 * k) + 14)).xs).getD 1 u8E.dflt), num4 (slFrom u8E (slSub u8E b (14 * k) ((14 * k) + 14)) 2).xs 0, num4 (slFrom u8E (slSub u8E b (14 * k) ((14 * k) + 14)) 6).xs 0⟩ : Rec) from ⟨(show inI64 (((slSub u8E b (14 * k) ((14 * k) + 14)).xs).getD 0 u8E.dflt) from ⟨by omega, by omega⟩), (show inI64 (((slSub u8E b (14 * k) ((14 * k) + 14)).xs).getD 1 u8E.dflt) from ⟨by omega, by omega⟩), (show inI64 (num4 (slFrom u8E (slSub u8E b (14 * k) ((14 * k) + 14)) 2).xs 0) from ⟨by omega, by omega⟩), (show inI64 (num4 (slFrom u8E (slSub u8E b (14 * k) ((14 * k) + 14)) 6).xs 0) from ⟨by omega, by omega⟩)⟩)) ?_; clear S; intro a u b55 S
  refine ap (E := recE) (ys := [(⟨(((slSub u8E b (14 * k) ((14 * k) + 14)).xs).getD 0 u8E.dflt), (((slSub u8E b (14 * k) ((14 * k) + 14)).xs).getD 1 u8E.dflt), num4 (slFrom u8E (slSub u8E b (14 * k) ((14 * k) + 14)) 2).xs 0, num4 (slFrom u8E (slSub u8E b (14 * k) ((14 * k) + 14)) 6).xs 0⟩ : Rec)]) S 0 rfl uT32 iZ24 rfl rfl (show LAt recE _ _ (some ⟨b55, 0, none⟩) ([(⟨(((slSub u8E b (14 * k) ((14 * k) + 14)).xs).getD 0 u8E.dflt), (((slSub u8E b (14 * k) ((14 * k) + 14)).xs).getD 1 u8E.dflt), num4 (slFrom u8E (slSub u8E b (14 * k) ((14 * k) + 14)) 2).xs 0, num4 (slFrom u8E (slSub u8E b (14 * k) ((14 * k) + 14)) 6).xs 0⟩ : Rec)]) from ((S.u 1 rfl)).1) ((S.u 1 rfl)).2.2 (LAt.mem (show LAt recE _ _ (some ⟨b55, 0, none⟩) ([(⟨(((slSub u8E b (14 * k) ((14 * k) + 14)).xs).getD 0 u8E.dflt), (((slSub u8E b (14 * k) ((14 * k) + 14)).xs).getD 1 u8E.dflt), num4 (slFrom u8E (slSub u8E b (14 * k) ((14 * k) + 14)) 2).xs 0, num4 (slFrom u8E (slSub u8E b (14 * k) ((14 * k) + 14)) 6).xs 0⟩ : Rec)]) from ((S.u 1 rfl)).1)) ⟨by unfold maxLen; (try simp only [List.length_cons, List.length_nil, List.length_append, List.length_map]); omega, by (try simp only [List.length_cons, List.length_nil, List.length_append, List.length_map]); omega⟩ ?_; clear S; intro a u ad56 cap56 S
  refine ens S (la (av rfl)) ?_; clear S; intro a u S
  refine rg S (tr (mv rfl)<|tr (addi (((14 * k) + 14 : Nat) : Int) rfl rfl (w_i64 (by omega)))<|la (av rfl)) ?_; clear S; intro a u S
  refine blk_n (then_n ?_)
  refine ⟨(k + 1), ad56, cap56, (out ++ [(⟨(((slSub u8E b (14 * k) ((14 * k) + 14)).xs).getD 0 u8E.dflt), (((slSub u8E b (14 * k) ((14 * k) + 14)).xs).getD 1 u8E.dflt), num4 (slFrom u8E (slSub u8E b (14 * k) ((14 * k) + 14)) 2).xs 0, num4 (slFrom u8E (slSub u8E b (14 * k) ((14 * k) + 14)) 6).xs 0⟩ : Rec)]), S.re (subM rfl) rfl rfl, ?_, ?_⟩
  ·have hg : goodX (subB b.xs k) := ⟨by rw [recR]; exact Classical.not_not.1 fun q => hc2 (.inl q), (by rw [← num4_drop _ 10 0]; exact Classical.not_not.1 (fun q => hc2 (.inr q)))⟩
   refine ⟨by omega, by omega, ?_, ?_⟩
   ·rw [recsP_up, ← hout]; rw [recR]; rfl
   rw [← hI, show 4096 - (k + 1) = 4096 - k - 1 from by omega]; exact decF_go (by omega) hg (by omega)
  omega
 intro hc3
 refine wp_exit (then_e (then_e (blk_e (then_n ?_))))
 refine rs S (tr (mv rfl)<|tr (mv rfl)<|tr (av rfl)<|la (av rfl)) ?_; clear S; intro a u S
 refine wp_ret ?_
 refine ret2 rfl S.s rfl rfl ?_
 have hx20 : recsP b.xs (decN b.xs) = out := by
  have hd : decN b.xs = k := by
   rw [← hI]
   exact decF_no (if h : k = 4096 then .inl (by omega) else .inr fun q => by have := q.1; omega)
  rw [hd, hout]
 rw [hx20]
 refine ⟨out_a, out_c, (r2 rfl (vi ?_)), (S.row 0 rfl), S.m.c⟩
 have hd : decN b.xs = k := by
  rw [← hI]
  exact decF_no (if h : k = 4096 then .inl (by omega) else .inr fun q => by have := q.1; omega)
 rw [hd]
end Go.Proofs.Ytobggnpnochnnaa.V
