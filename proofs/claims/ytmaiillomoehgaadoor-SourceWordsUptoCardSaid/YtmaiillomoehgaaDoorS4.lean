/- the generator; words and texts of the laws -/
import Derived.Test.YtmaiillomoehgaaDoorS3
namespace Go.Proofs.YtmaiillomoehgaaDoor.V
open Go.RowKit Go.Proofs.YtmaiillomoehgaaDoor
set_option linter.unusedVariables false
set_option linter.unusedSimpArgs false
theorem lit_le {l : List ByteArray} {n : Nat} (h : (l.all fun x => decide (x.size ≤ n)) = true) (i : Nat) : (l.getD i strE.dflt).size ≤ n := by
 rcases Nat.lt_or_ge i l.length with k | k
 ·rw [List.all_eq_true] at h
  have := h _ (getD_mem (d := strE.dflt) k)
  simpa using this
 rw [List.getD_eq_getElem?_getD, List.getElem?_eq_none k]; exact Nat.zero_le _
set_option maxHeartbeats 2000000 in
set_option maxRecDepth 20000 in
theorem gNew (w : World) (F : Nat → Prop) (hF : Old F w) (M : MS [] w) (l : Sl Int) (l_w : (slE intE).wf (Fr F []) w.heap l) :
 Calls Tryd.prog 9 #[sV l] w fun e w' => ∃ (rT : Nat), e = .returned (pT rT 0) ∧ TpB 58 rT l w' ∧ Tr [] w [one rT] w' := by
 have : l.xs.length ≤ 9223372036854775807 := (l_w).1.len
 refine go Tryd.func9 rfl 6 rfl [wfF (slE intE) l] [] hF M ⟨l_w, trivial⟩ trivial ?_
 intro a S
 refine rs S (la (av rfl)) ?_; clear S; intro a u S
 refine rs0 ?_
 refine sp S (tr (mv rfl)<|la (ov fun S=>x_bd S [(0, sV l)] [sV l, iI 0])) ?_; clear S; intro a u S
 refine nbp S (x_box _ (S.e rfl) rfl) ?_; clear S; intro a u b5 S
 refine ens S (la (av rfl)) ?_; clear S; intro a u S
 refine wp_ret ?_
 refine ret1 rfl S.s rfl ?_
 replace S := S.pk [0]
 exact ⟨_, rfl, ⟨0, Nat.zero_le _, (S.k 0 rfl)⟩, S.m.c⟩
set_option maxHeartbeats 2000000 in
set_option maxRecDepth 20000 in
theorem gMod (w : World) (F : Nat → Prop) (hF : Old F w) (M : MS [] w) (v : Int) (v_h : inI64 v) (n : Int) (n_h : inI64 n) (hn : 1 ≤ n) :
 Calls Tryd.prog 13 #[iI v, iI n] w fun e w' => e = .returned (iI (v % 18446744073709551616 % n)) ∧ Tr [] w [] w' := by
 obtain ⟨v_hl, v_hu⟩ : inI64 v := id v_h
 obtain ⟨n_hl, n_hu⟩ : inI64 n := id n_h
 have hu : IntKind.u64.wrap v = v % 18446744073709551616 := by simp [IntKind.wrap, IntKind.bits, IntKind.signed]
 have hw : 0 ≤ v % 18446744073709551616 ∧ v % 18446744073709551616 ≤ 18446744073709551615 := ⟨by omega, by omega⟩
 have hm1 : 0 ≤ v % 18446744073709551616 % n := Int.emod_nonneg _ (by omega)
 have hm2 : v % 18446744073709551616 % n < n := Int.emod_lt_of_pos _ (by omega)
 refine go Tryd.func13 rfl 11 rfl [] [] hF M trivial trivial ?_
 intro a S
 refine rs S (la (av rfl)) ?_; clear S; intro a u S
 refine rs S (tr (mv rfl)<|tr (ov fun S=>x_conv uT3 uT60 (S.e rfl) (r := (v % 18446744073709551616)) hu)<|tr (mv rfl)<|tr (ov fun S=>x_conv uT3 uT60 (S.e rfl) (r := n) (w_u64 (by omega)))<|tr (ov fun S=>x_rem (S.e rfl) (S.e rfl) (by omega) (r := ((v % 18446744073709551616) % n)) (by first | rfl | (rw [Int.tmod_eq_emod_of_nonneg (by omega)]) | (rw [Int.tmod_eq_emod_of_nonneg (by omega)]; omega)))<|tr (ov fun S=>x_conv uT60 uT3 (S.e rfl) (r := ((v % 18446744073709551616) % n)) (w_i64 (by omega)))<|la (av rfl)) ?_; clear S; intro a u S
 refine wp_ret ?_
 refine ret1 rfl S.s rfl ?_
 refine ⟨(r1 (vi ?_)), S.m.c⟩
 first | rfl | omega | assumption
set_option maxHeartbeats 2000000 in
set_option maxRecDepth 20000 in
theorem gNext (w : World) (F : Nat → Prop) (hF : Old F w) (T : Nat) (M : MS [one T] w) (T_l : Sl Int) (T_w : (slE intE).wf (Fr F [one T]) w.heap T_l) (T_K : TpB 58 T T_l w) (n : Int) (n_h : inI64 n) :
 Calls Tryd.prog 14 #[pT T 0, iI n] w fun e w' => ∃ (r : Int), e = .returned (iI r) ∧ (0 ≤ r ∧ (r < n ∨ r = 0)) ∧ TpB 58 T T_l w' ∧ Tr [one T] w [one T] w' := by
 obtain ⟨ti, hti, T_K⟩ := T_K
 have T_len : T_l.xs.length ≤ 9223372036854775807 := T_w.1.len
 obtain ⟨n_hl, n_hu⟩ : inI64 n := id n_h
 refine go Tryd.func14 rfl 39 rfl [wfF (slE intE) T_l] [blO T [sV T_l, iN ti] 58] hF M ⟨T_w, trivial⟩ ⟨T_K, trivial⟩ ?_
 intro a S
 refine rs S (la (av rfl)) ?_; clear S; intro a u S
 refine wp_seq (wp_seq ?_)
 refine dr (P := Tryd.prog) S 14 [] [(5, .is _), (6, .is _), (7, .is _), (8, .is _), (9, .is _), (10, .is _), (11, .is _), (12, .is _), (13, .is _), (14, .is _), (15, .is _), (16, .is _), (17, .is _), (18, .is _)] [[], [5], [6], [7], [7, 8], [7, 9], [7, 10], [7], [7, 12], [7, 13], [7, 14], [7, 15], [7, 11, 16], [7, 17]] [18] _ ⟨qd (mv rfl), qd (leqi rfl rfl), qd (mv rfl), qd (og 7 rfl gf fun S hg=>x_move (S.e rfl)), qd (og 7 rfl gf fun S hg=>x_nilck (S.p rfl hg)), qd (og 7 rfl gf fun S hg=>xf (0) 1 uT58 (S.p rfl hg)), qd (og 7 rfl gf fun S hg=>x_load sC3 (S.p rfl hg) ((S.k 0 rfl).cell (j := 1) rfl)), qd (og 7 rfl gf fun S hg=>x_move (S.e rfl)), qd (og 7 rfl gf fun S hg=>x_nilck (S.p rfl hg)), qd (og 7 rfl gf fun S hg=>xf (0) 0 uT58 (S.p rfl hg)), qd (og 7 rfl gf fun S hg=>x_load sC22 (S.p rfl hg) ((S.k 0 rfl).cell (j := 0) rfl)), qd (og 7 rfl gf fun S hg=>x_len uT22 (S.p rfl hg)), qd (og 7 rfl gf fun S hg=>x_geq (S.p rfl hg) (S.p rfl hg)), qd (ori rfl rfl rfl), trivial⟩ ?_
 clear S; intro a u S G hE
 obtain ⟨hl2, hu2⟩ : inI64 n := id n_h
 refine ent ?_
 refine cd S rfl ?_ ?_
 ·intro hc0
  refine rs S (la (av rfl)) ?_; clear S; intro a u S
  refine wp_ret (then_r ?_)
  refine ret1 rfl S.s rfl ?_
  refine ⟨0, rfl, ?_, ⟨_, (by omega), (S.k 0 rfl)⟩, S.m.c⟩
  exact ⟨Int.le_refl _, .inr rfl⟩
 intro hc1
 refine wp_skip (then_n ?_)
 refine rs S (tr (mv rfl)<|tr (ov fun S=>x_nilck (S.e rfl))<|tr (fldi 0 1 rfl uT58)<|tr (ldk 0 sC3 rfl rfl rfl)<|tr (addi ((ti + 1 : Nat) : Int) rfl rfl (w_i64 (by omega)))<|tr (ov fun S=>x_nilck (S.e rfl))<|tr (fldi 0 1 rfl uT58)<|la (stk 0 rfl rfl rfl)) ?_; clear S; intro a u S
 refine wp_seq ?_
 obtain ⟨hl5, hu5⟩ : inI64 (T_l.xs.getD (((((ti + 1 : Nat) : Int) - 1)).toNat) intE.dflt) := id (((S.u 0 rfl)).1.wf ((((ti + 1 : Nat) : Int) - 1)).toNat (by omega))
 replace S := S.l [(0, pT T 0), (1, iI n)] (subM rfl)
 refine dr (P := Tryd.prog) S 14 [] [(26, .is _), (27, .is _), (28, .is _), (29, .is _), (30, .is _), (31, .is _), (32, .is _), (33, .is _), (34, .is _), (35, .is _), (36, .is _), (37, .is _), (38, .is _), (4, .is _)] [[], [26], [27], [28], [], [30], [31], [32], [33], [29, 34], [35], [], [36, 37], [38]] [4] _ ⟨qd (mv rfl), qd (ov fun S=>x_nilck (S.e rfl)), qd (fldi 0 0 rfl uT58), qd (ldk 0 sC22 rfl rfl rfl), qd (mv rfl), qd (ov fun S=>x_nilck (S.e rfl)), qd (fldi 0 1 rfl uT58), qd (ldk 0 sC3 rfl rfl rfl), qd (subi (((ti + 1 : Nat) : Int) - 1) rfl rfl (w_i64 (by omega))), qd (idxi uT22 sZ3 rfl rfl ((((ti + 1 : Nat) : Int) - 1)).toNat (by omega) (by omega) (((S.u 0 rfl)).1.adr (i := ((((ti + 1 : Nat) : Int) - 1)).toNat) (by omega))), qd (ov fun S=>x_load sC3 (S.e rfl) (((S.u 0 rfl)).1.cell ((((ti + 1 : Nat) : Int) - 1)).toNat (by omega) 0 _ rfl)), qd (mv rfl), qd (oc (fun S=>gMod _ _ S.x (.nil _) (T_l.xs.getD (((((ti + 1 : Nat) : Int) - 1)).toNat) intE.dflt) (((S.u 0 rfl)).1.wf ((((ti + 1 : Nat) : Int) - 1)).toNat (by omega)) n n_h (by omega)) cB13), qd (av rfl), trivial⟩ ?_
 clear S; intro a u S G hE
 obtain ⟨hl6, hu6⟩ : inI64 (T_l.xs.getD (((((ti + 1 : Nat) : Int) - 1)).toNat) intE.dflt) := id (((S.u 0 rfl)).1.wf ((((ti + 1 : Nat) : Int) - 1)).toNat (by omega))
 refine ent (wp_ret ?_)
 refine ret1 rfl S.s rfl ?_
 refine ⟨((T_l.xs.getD (((((ti + 1 : Nat) : Int) - 1)).toNat) intE.dflt) % 18446744073709551616 % n), rfl, ?_, ⟨_, (by omega), (S.k 0 rfl)⟩, S.m.c⟩
 have h1 := Int.emod_nonneg (T_l.xs.getD (((ti + 1 : Nat) : Int) - 1).toNat intE.dflt % 18446744073709551616) (b := n) (by omega); have h2 := Int.emod_lt_of_pos (T_l.xs.getD (((ti + 1 : Nat) : Int) - 1).toNat intE.dflt % 18446744073709551616) (b := n) (by omega); exact ⟨h1, .inl h2⟩
set_option maxHeartbeats 2000000 in
set_option maxRecDepth 20000 in
theorem lWord (w : World) (F : Nat → Prop) (hF : Old F w) (T : Nat) (M : MS [one T] w) (T_l : Sl Int) (T_w : (slE intE).wf (Fr F [one T]) w.heap T_l) (T_K : TpB 58 T T_l w) :
 Calls Tryd.prog 25 #[pT T 0] w fun e w' => ∃ (r : ByteArray), e = .returned (.string r) ∧ strE.wf (Fr F [one T]) w'.heap r ∧ r.size ≤ 26 ∧ TpB 58 T T_l w' ∧ Tr [one T] w [one T] w' := by
 refine go Tryd.func25 rfl 8 rfl [wfF (slE intE) T_l] [tpO 58 T T_l] hF M ⟨T_w, trivial⟩ ⟨T_K, trivial⟩ ?_
 intro a S
 refine rs S (la (av rfl)) ?_; clear S; intro a u S
 refine rs0 ?_
 refine nbs strE S ([⟨#[97]⟩, ⟨#[122, 111, 110, 101]⟩, ⟨#[97, 110, 121]⟩, ⟨#[44]⟩, ⟨#[61]⟩, ⟨#[45, 62]⟩, ⟨#[49, 48, 46, 48, 46, 48, 46, 48, 47, 56]⟩, ⟨#[56, 48, 45, 52, 52, 51]⟩, ⟨#[]⟩, ⟨#[120, 32, 121]⟩, ⟨#[35]⟩, ⟨#[65]⟩, ⟨#[97, 95, 118, 101, 114, 121, 95, 108, 111, 110, 103, 95, 110, 97, 109, 101, 95, 111, 102, 95, 50, 52, 95, 98, 121]⟩, ⟨#[97, 95, 118, 101, 114, 121, 95, 108, 111, 110, 103, 95, 110, 97, 109, 101, 95, 111, 102, 95, 50, 53, 95, 98, 121, 116]⟩, ⟨#[48, 48, 55]⟩, ⟨#[54, 53, 53, 51, 54]⟩, ⟨#[48]⟩] : List ByteArray) (x_bs S [(0, .string (⟨#[97]⟩)), (1, .string (⟨#[122, 111, 110, 101]⟩)), (2, .string (⟨#[97, 110, 121]⟩)), (3, .string (⟨#[44]⟩)), (4, .string (⟨#[61]⟩)), (5, .string (⟨#[45, 62]⟩)), (6, .string (⟨#[49, 48, 46, 48, 46, 48, 46, 48, 47, 56]⟩)), (7, .string (⟨#[56, 48, 45, 52, 52, 51]⟩)), (8, .string (⟨#[]⟩)), (9, .string (⟨#[120, 32, 121]⟩)), (10, .string (⟨#[35]⟩)), (11, .string (⟨#[65]⟩)), (12, .string (⟨#[97, 95, 118, 101, 114, 121, 95, 108, 111, 110, 103, 95, 110, 97, 109, 101, 95, 111, 102, 95, 50, 52, 95, 98, 121]⟩)), (13, .string (⟨#[97, 95, 118, 101, 114, 121, 95, 108, 111, 110, 103, 95, 110, 97, 109, 101, 95, 111, 102, 95, 50, 53, 95, 98, 121, 116]⟩)), (14, .string (⟨#[48, 48, 55]⟩)), (15, .string (⟨#[54, 53, 53, 51, 54]⟩)), (16, .string (⟨#[48]⟩))] uT29 iZ9) (fun x hx => by simp only [List.mem_cons, List.not_mem_nil, or_false] at hx; rcases hx with hx | hx | hx | hx | hx | hx | hx | hx | hx | hx | hx | hx | hx | hx | hx | hx | hx <;> rw [hx] <;> first | exact (show strE.wf _ _ (⟨#[97]⟩) from (show (⟨#[97]⟩ : ByteArray).size ≤ maxLen from by unfold maxLen; decide)) | exact (show strE.wf _ _ (⟨#[122, 111, 110, 101]⟩) from (show (⟨#[122, 111, 110, 101]⟩ : ByteArray).size ≤ maxLen from by unfold maxLen; decide)) | exact (show strE.wf _ _ (⟨#[97, 110, 121]⟩) from (show (⟨#[97, 110, 121]⟩ : ByteArray).size ≤ maxLen from by unfold maxLen; decide)) | exact (show strE.wf _ _ (⟨#[44]⟩) from (show (⟨#[44]⟩ : ByteArray).size ≤ maxLen from by unfold maxLen; decide)) | exact (show strE.wf _ _ (⟨#[61]⟩) from (show (⟨#[61]⟩ : ByteArray).size ≤ maxLen from by unfold maxLen; decide)) | exact (show strE.wf _ _ (⟨#[45, 62]⟩) from (show (⟨#[45, 62]⟩ : ByteArray).size ≤ maxLen from by unfold maxLen; decide)) | exact (show strE.wf _ _ (⟨#[49, 48, 46, 48, 46, 48, 46, 48, 47, 56]⟩) from (show (⟨#[49, 48, 46, 48, 46, 48, 46, 48, 47, 56]⟩ : ByteArray).size ≤ maxLen from by unfold maxLen; decide)) | exact (show strE.wf _ _ (⟨#[56, 48, 45, 52, 52, 51]⟩) from (show (⟨#[56, 48, 45, 52, 52, 51]⟩ : ByteArray).size ≤ maxLen from by unfold maxLen; decide)) | exact (show strE.wf _ _ (⟨#[]⟩) from (show (⟨#[]⟩ : ByteArray).size ≤ maxLen from by unfold maxLen; decide)) | exact (show strE.wf _ _ (⟨#[120, 32, 121]⟩) from (show (⟨#[120, 32, 121]⟩ : ByteArray).size ≤ maxLen from by unfold maxLen; decide)) | exact (show strE.wf _ _ (⟨#[35]⟩) from (show (⟨#[35]⟩ : ByteArray).size ≤ maxLen from by unfold maxLen; decide)) | exact (show strE.wf _ _ (⟨#[65]⟩) from (show (⟨#[65]⟩ : ByteArray).size ≤ maxLen from by unfold maxLen; decide)) | exact (show strE.wf _ _ (⟨#[97, 95, 118, 101, 114, 121, 95, 108, 111, 110, 103, 95, 110, 97, 109, 101, 95, 111, 102, 95, 50, 52, 95, 98, 121]⟩) from (show (⟨#[97, 95, 118, 101, 114, 121, 95, 108, 111, 110, 103, 95, 110, 97, 109, 101, 95, 111, 102, 95, 50, 52, 95, 98, 121]⟩ : ByteArray).size ≤ maxLen from by unfold maxLen; decide)) | exact (show strE.wf _ _ (⟨#[97, 95, 118, 101, 114, 121, 95, 108, 111, 110, 103, 95, 110, 97, 109, 101, 95, 111, 102, 95, 50, 53, 95, 98, 121, 116]⟩) from (show (⟨#[97, 95, 118, 101, 114, 121, 95, 108, 111, 110, 103, 95, 110, 97, 109, 101, 95, 111, 102, 95, 50, 53, 95, 98, 121, 116]⟩ : ByteArray).size ≤ maxLen from by unfold maxLen; decide)) | exact (show strE.wf _ _ (⟨#[48, 48, 55]⟩) from (show (⟨#[48, 48, 55]⟩ : ByteArray).size ≤ maxLen from by unfold maxLen; decide)) | exact (show strE.wf _ _ (⟨#[54, 53, 53, 51, 54]⟩) from (show (⟨#[54, 53, 53, 51, 54]⟩ : ByteArray).size ≤ maxLen from by unfold maxLen; decide)) | exact (show strE.wf _ _ (⟨#[48]⟩) from (show (⟨#[48]⟩ : ByteArray).size ≤ maxLen from by unfold maxLen; decide))) ?_; clear S; intro a u b3 S
 refine sp S (la (mv rfl)) ?_; clear S; intro a u S
 refine cl S (gNext _ _ S.x T (S.M.pick [0] (by decide)) T_l (dn1 (js := [0]) (S.u 0 rfl)) (S.t 0 rfl) 17 ⟨by omega, by omega⟩) cB14 ?_
 rintro e u ⟨r_t5, rfl, hr_t5, tK, T0⟩; refine ⟨_, rfl, fun a s => ?_⟩
 replace S := S.k1 0 rfl s T0 tK; clear s T0 tK
 refine sp S (tr (idxi uT29 sZ9 rfl rfl (r_t5).toNat (by omega) (by first | omega | (simp only [List.length_cons, List.length_nil]; omega)) ((show LAt strE _ _ (some ⟨b3, 0, none⟩) ([⟨#[97]⟩, ⟨#[122, 111, 110, 101]⟩, ⟨#[97, 110, 121]⟩, ⟨#[44]⟩, ⟨#[61]⟩, ⟨#[45, 62]⟩, ⟨#[49, 48, 46, 48, 46, 48, 46, 48, 47, 56]⟩, ⟨#[56, 48, 45, 52, 52, 51]⟩, ⟨#[]⟩, ⟨#[120, 32, 121]⟩, ⟨#[35]⟩, ⟨#[65]⟩, ⟨#[97, 95, 118, 101, 114, 121, 95, 108, 111, 110, 103, 95, 110, 97, 109, 101, 95, 111, 102, 95, 50, 52, 95, 98, 121]⟩, ⟨#[97, 95, 118, 101, 114, 121, 95, 108, 111, 110, 103, 95, 110, 97, 109, 101, 95, 111, 102, 95, 50, 53, 95, 98, 121, 116]⟩, ⟨#[48, 48, 55]⟩, ⟨#[54, 53, 53, 51, 54]⟩, ⟨#[48]⟩] : List ByteArray) from ((S.u 1 rfl)).1).adr (i := (r_t5).toNat) (by first | omega | (simp only [List.length_cons, List.length_nil]; omega))))<|la (ov fun S=>x_load sC9 (S.e rfl) ((show LAt strE _ _ (some ⟨b3, 0, none⟩) ([⟨#[97]⟩, ⟨#[122, 111, 110, 101]⟩, ⟨#[97, 110, 121]⟩, ⟨#[44]⟩, ⟨#[61]⟩, ⟨#[45, 62]⟩, ⟨#[49, 48, 46, 48, 46, 48, 46, 48, 47, 56]⟩, ⟨#[56, 48, 45, 52, 52, 51]⟩, ⟨#[]⟩, ⟨#[120, 32, 121]⟩, ⟨#[35]⟩, ⟨#[65]⟩, ⟨#[97, 95, 118, 101, 114, 121, 95, 108, 111, 110, 103, 95, 110, 97, 109, 101, 95, 111, 102, 95, 50, 52, 95, 98, 121]⟩, ⟨#[97, 95, 118, 101, 114, 121, 95, 108, 111, 110, 103, 95, 110, 97, 109, 101, 95, 111, 102, 95, 50, 53, 95, 98, 121, 116]⟩, ⟨#[48, 48, 55]⟩, ⟨#[54, 53, 53, 51, 54]⟩, ⟨#[48]⟩] : List ByteArray) from ((S.u 1 rfl)).1).cell (r_t5).toNat (by first | omega | (simp only [List.length_cons, List.length_nil]; omega)) 0 _ rfl))) ?_; clear S; intro a u S
 obtain ⟨z3, hz3, hzs3⟩ : ∃ z : ByteArray, z = (([⟨#[97]⟩, ⟨#[122, 111, 110, 101]⟩, ⟨#[97, 110, 121]⟩, ⟨#[44]⟩, ⟨#[61]⟩, ⟨#[45, 62]⟩, ⟨#[49, 48, 46, 48, 46, 48, 46, 48, 47, 56]⟩, ⟨#[56, 48, 45, 52, 52, 51]⟩, ⟨#[]⟩, ⟨#[120, 32, 121]⟩, ⟨#[35]⟩, ⟨#[65]⟩, ⟨#[97, 95, 118, 101, 114, 121, 95, 108, 111, 110, 103, 95, 110, 97, 109, 101, 95, 111, 102, 95, 50, 52, 95, 98, 121]⟩, ⟨#[97, 95, 118, 101, 114, 121, 95, 108, 111, 110, 103, 95, 110, 97, 109, 101, 95, 111, 102, 95, 50, 53, 95, 98, 121, 116]⟩, ⟨#[48, 48, 55]⟩, ⟨#[54, 53, 53, 51, 54]⟩, ⟨#[48]⟩] : List ByteArray).getD ((r_t5).toNat) strE.dflt) ∧ z.size ≤ 26 := ⟨_, rfl, lit_le (by decide) _⟩
 rw [← hz3] at S; clear hz3
 refine ens S (la (av rfl)) ?_; clear S; intro a u S
 refine wp_ret ?_
 refine ret1 rfl S.s rfl ?_
 refine ⟨z3, rfl, (show inStr z3 from (by unfold inStr maxLen; omega)), ?_, (S.t 0 rfl), S.m.c⟩
 omega
set_option maxHeartbeats 2000000 in
set_option maxRecDepth 20000 in
theorem lLines (w : World) (F : Nat → Prop) (hF : Old F w) (M : MS [] w) (tx : ByteArray) (tx_h : inStr tx) (g_w : hasML w.heap) :
 Calls Tryd.prog 11 #[.string tx] w fun e w' => e = .returned (bD (True)) ∧ Tr [] w [] w' := by
 refine go Tryd.func11 rfl 34 rfl [glF] [] hF M ⟨⟨fun h => h, g_w⟩, trivial⟩ trivial ?_
 intro a S
 refine rs S (la (av rfl)) ?_; clear S; intro a u S
 refine rs0 ?_
 refine sp S (la (mv rfl)) ?_; clear S; intro a u S
 refine cl S (sLines _ _ S.x (.nil _) tx tx_h (S.gl 0 rfl)) cB17 ?_
 rintro e u ⟨r_t110, rfl, R_t110, hr_t110, T0⟩; refine ⟨_, rfl, fun a s => ?_⟩
 replace S := (S.k0 s T0).ar (wfF (slE lineE) r_t110) (Enc.up _ R_t110); clear s T0 R_t110
 have hn3 : r_t110.xs.length ≤ 9223372036854775807 := ((S.u 1 rfl)).1.len
 refine ens S (tr (mv rfl)<|tr (exi rfl rfl)<|tr (exi rfl rfl)<|tr (exi rfl rfl)<|tr (av rfl)<|tr (av rfl)<|la (av rfl)) ?_; clear S; intro a u S
 refine rs0 ?_
 refine sp S (la (mv rfl)) ?_; clear S; intro a u S
 refine cl S (rLines _ _ S.x (.nil _) tx tx_h) cB31 ?_
 rintro e u ⟨r_t170, rfl, R_t170, hr_t170, T0⟩; refine ⟨_, rfl, fun a s => ?_⟩
 replace S := (S.k0 s T0).ar (wfF (slE lineE) r_t170) (Enc.up _ R_t170); clear s T0 R_t170
 have hn5 : r_t170.xs.length ≤ 9223372036854775807 := ((S.u 2 rfl)).1.len
 refine ens S (tr (mv rfl)<|tr (exi rfl rfl)<|tr (exi rfl rfl)<|tr (exi rfl rfl)<|tr (av rfl)<|tr (av rfl)<|la (av rfl)) ?_; clear S; intro a u S
 refine rs S (tr (mv rfl)<|tr (mv rfl)<|tr (oc (fun S=>same10 _ _ S.x (.nil _) r_t110 (dn0 (S.u 1 rfl)) r_t170 (dn0 (S.u 2 rfl))) cB18)<|tr (mv rfl)<|tr (og 24 rfl gt fun S hg=>x_move (S.e rfl))<|tr (og 24 rfl gt fun S hg=>x_move (S.e rfl))<|tr (og 24 rfl gt fun S hg=>x_eql (S.p rfl hg) (S.p rfl hg))<|tr (andi rfl rfl rfl)<|tr (mv rfl)<|tr (og 29 rfl gt fun S hg=>x_move (S.e rfl))<|tr (og 29 rfl gt fun S hg=>x_move (S.e rfl))<|tr (og 29 rfl gt fun S hg=>x_eql (S.p rfl hg) (S.p rfl hg))<|tr (andi rfl rfl rfl)<|la (av rfl)) ?_; clear S; intro a u S
 refine wp_ret ?_
 refine ret1 rfl S.s rfl ?_
 refine ⟨(r1 (vb ?_)), S.m.c⟩
 first | exact Iff.rfl | assumption | omega | simp_all
end Go.Proofs.YtmaiillomoehgaaDoor.V
