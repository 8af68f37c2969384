/- the law SourceItems -/
import Derived.Test.YtmaiillomoehgaaDoorS11
import Derived.Test.YtmaiillomoehgaaDoorS5
namespace Go.Proofs.YtmaiillomoehgaaDoor.V
open Go.RowKit Go.Proofs.YtmaiillomoehgaaDoor
set_option linter.unusedVariables false
set_option linter.unusedSimpArgs false
set_option maxHeartbeats 2000000 in
set_option maxRecDepth 20000 in
theorem lwItems (w : World) (F : Nat → Prop) (hF : Old F w) (M : MS [] w) (l : Sl Int) (l_w : (slE intE).wf (Fr F []) w.heap l) (g_w : hasML w.heap) :
 Calls Tryd.prog 6 #[sV l] w fun e w' => e = .returned (bD (True)) ∧ Tr [] w [] w' := by
 have : l.xs.length ≤ 9223372036854775807 := (l_w).1.len
 refine go Tryd.func6 rfl 135 rfl [wfF (slE intE) l, glF] [] hF M ⟨l_w, ⟨fun h => h, g_w⟩, trivial⟩ trivial ?_
 intro a S
 refine rs S (la (av rfl)) ?_; clear S; intro a u S
 refine rs0 ?_
 refine sp S (la (mv rfl)) ?_; clear S; intro a u S
 refine cl S (gNew _ _ S.x (.nil _) l (dn0 (S.u 0 rfl))) cB9 ?_
 rintro e u ⟨T14, rfl, TK, T0⟩; refine ⟨_, rfl, fun a s => ?_⟩; replace S := S.kt s T0 TK; clear s T0 TK
 refine ens S (la (av rfl)) ?_; clear S; intro a u S
 refine rs S (la (av rfl)) ?_; clear S; intro a u S
 refine wp_seq (rs0 ?_)
 refine sp S (la (mv rfl)) ?_; clear S; intro a u S
 refine cl S (gNext _ _ S.x T14 (S.M.pick [0] (by decide)) l (dn1 (js := [0]) (S.u 0 rfl)) (S.t 0 rfl) 9 ⟨by omega, by omega⟩) cB14 ?_
 rintro e u ⟨r_t16, rfl, hr_t16, tK, T0⟩; refine ⟨_, rfl, fun a s => ?_⟩
 replace S := S.k1 0 rfl s T0 tK; clear s T0 tK
 refine ens S (la (av rfl)) ?_; clear S; intro a u S
 refine wp_block ?_
 replace S := S.nr strE 9
 refine lp4 (fun (ii : Int) (lw_a : Option Addr) (lw_c : Nat) (lw : List ByteArray) => [(2, .bool false), (3, pT T14 0), (5, iI ii), (4, .slice lw_a lw.length lw_c)]) (fun (ii : Int) (lw_a : Option Addr) (lw_c : Nat) (lw : List ByteArray) => [tpO 58 T14 l, rwO strE 9 w.heap.size lw_a lw_c lw]) (fun (ii : Int) (lw_a : Option Addr) (lw_c : Nat) (lw : List ByteArray) => (0 ≤ ii ∧ ii ≤ 8) ∧ (lw.length : Int) + ii ≤ 8) (fun (ii : Int) (lw_a : Option Addr) (lw_c : Nat) (lw : List ByteArray) => ii.toNat) S r_t16 none 0 ([]) (subM rfl) rfl ?_ ?_
 ·exact ⟨⟨by omega, by omega⟩, by simp; omega⟩
 clear S; intro ii lw_a lw_c lw a u S hR
 have lw_len := (S.row 1 rfl).len_le; simp only [maxLen] at lw_len
 obtain ⟨⟨hi0, hi1⟩, hlw⟩ := hR
 refine wp_seq ?_
 refine rs S (tr (mv rfl)<|la (gtri rfl rfl)) ?_; clear S; intro a u S
 refine cd S rfl ?_ ?_
 ·intro hc0
  refine wp_skip (then_n (wp_seq (wp_block (r0 ?_))))
  refine sp S (la (mv rfl)) ?_; clear S; intro a u S
  refine nbs strE S ([⟨#[44]⟩, ⟨#[97]⟩, ⟨#[98]⟩] : List ByteArray) (x_bs S [(0, .string (⟨#[44]⟩)), (1, .string (⟨#[97]⟩)), (2, .string (⟨#[98]⟩))] uT29 iZ9) (fun x hx => by simp only [List.mem_cons, List.not_mem_nil, or_false] at hx; rcases hx with hx | hx | hx <;> rw [hx] <;> first | exact (show strE.wf _ _ (⟨#[44]⟩) from (show (⟨#[44]⟩ : ByteArray).size ≤ maxLen from by unfold maxLen; decide)) | exact (show strE.wf _ _ (⟨#[97]⟩) from (show (⟨#[97]⟩ : ByteArray).size ≤ maxLen from by unfold maxLen; decide)) | exact (show strE.wf _ _ (⟨#[98]⟩) from (show (⟨#[98]⟩ : ByteArray).size ≤ maxLen from by unfold maxLen; decide))) ?_; clear S; intro a u b22 S
  refine sp S (la (mv rfl)) ?_; clear S; intro a u S
  refine cl S (gNext _ _ S.x T14 (S.M.pick [0] (by decide)) l (dn1 (js := [0]) (S.u 0 rfl)) (S.t 0 rfl) 3 ⟨by omega, by omega⟩) cB14 ?_
  rintro e u ⟨r_t24, rfl, hr_t24, tK, T0⟩; refine ⟨_, rfl, fun a s => ?_⟩
  replace S := S.k1 0 rfl s T0 tK; clear s T0 tK
  refine sp S (tr (idxi uT29 sZ9 rfl rfl (r_t24).toNat (by omega) (by first | omega | (simp only [List.length_cons, List.length_nil]; omega)) ((show LAt strE _ _ (some ⟨b22, 0, none⟩) ([⟨#[44]⟩, ⟨#[97]⟩, ⟨#[98]⟩] : List ByteArray) from ((S.u 2 rfl)).1).adr (i := (r_t24).toNat) (by first | omega | (simp only [List.length_cons, List.length_nil]; omega))))<|la (ov fun S=>x_load sC9 (S.e rfl) ((show LAt strE _ _ (some ⟨b22, 0, none⟩) ([⟨#[44]⟩, ⟨#[97]⟩, ⟨#[98]⟩] : List ByteArray) from ((S.u 2 rfl)).1).cell (r_t24).toNat (by first | omega | (simp only [List.length_cons, List.length_nil]; omega)) 0 _ rfl))) ?_; clear S; intro a u S
  obtain ⟨z7, hz7, hzs7⟩ : ∃ z : ByteArray, z = (([⟨#[44]⟩, ⟨#[97]⟩, ⟨#[98]⟩] : List ByteArray).getD ((r_t24).toNat) strE.dflt) ∧ z.size ≤ 1 := ⟨_, rfl, lit_le (by decide) _⟩
  rw [← hz7] at S; clear hz7
  refine nbs strE S ([z7] : List ByteArray) (x_bs S [(0, .string z7)] uT29 iZ9) (fun x hx => by simp only [List.mem_cons, List.not_mem_nil, or_false] at hx; rw [hx]; exact (show strE.wf _ _ z7 from (show inStr z7 from (by unfold inStr maxLen; omega)))) ?_; clear S; intro a u b27 S
  refine ap (E := strE) (ys := ([z7] : List ByteArray)) S 1 rfl uT29 iZ9 rfl rfl (show LAt strE _ _ (some ⟨b27, 0, none⟩) ([z7] : List ByteArray) from ((S.u 3 rfl)).1) ((S.u 3 rfl)).2.2 (LAt.mem (show LAt strE _ _ (some ⟨b27, 0, none⟩) ([z7] : List ByteArray) from ((S.u 3 rfl)).1)) ⟨by unfold maxLen; (try simp only [List.length_cons, List.length_nil, List.length_append, List.length_map]); omega, by (try simp only [List.length_cons, List.length_nil, List.length_append, List.length_map]); omega⟩ ?_; clear S; intro a u ad28 cap28 S
  refine en S (la (av rfl)) ?_; clear S; intro a u S
  refine blk_n (then_n ?_)
  refine rg S (tr (mv rfl)<|tr (subi (ii - 1) rfl rfl (w_i64 (by omega)))<|la (av rfl)) ?_; clear S; intro a u S
  refine then_n ?_
  refine ⟨(ii - 1), ad28, cap28, (lw ++ ([z7] : List ByteArray)), S.re (subM rfl) rfl rfl, ?_, ?_⟩
  ·exact ⟨⟨by omega, by omega⟩, by simp; omega⟩
  omega
 intro hc1
 replace S := S.fz 1 rfl
 skip
 refine wp_exit (then_e (then_e (blk_e (then_n (rs0 ?_)))))
 refine sp S (la (mv rfl)) ?_; clear S; intro a u S
 refine cl S (sItems _ _ S.x (.nil _) (Sl.mk lw_a lw_c lw) (dn0 (S.u 2 rfl)) (by first | omega | (dsimp only; omega))) cB23 ?_
 rintro e u ⟨r_t310, rfl, R_t310, hr_t310, T0⟩; refine ⟨_, rfl, fun a s => ?_⟩
 replace S := (S.k0 s T0).ar (wfF (slE (slE strE)) r_t310) (Enc.up _ R_t310); clear s T0 R_t310
 have hn10 : r_t310.xs.length ≤ 9223372036854775807 := ((S.u 3 rfl)).1.len
 refine ens S (tr (mv rfl)<|tr (exi rfl rfl)<|tr (exi rfl rfl)<|tr (av rfl)<|la (av rfl)) ?_; clear S; intro a u S
 refine wp_seq ?_
 refine rs S (tr (mv rfl)<|la (noti rfl)) ?_; clear S; intro a u S
 refine cd S rfl ?_ ?_
 ·intro hc2
  have hno : ¬ itOK lw := hc2
  have hxn : r_t310.xs = [] := by rw [if_neg hno] at hr_t310; simpa using hr_t310
  refine rs0 ?_
  have hn13 : lw.length ≤ 9223372036854775807 := ((S.u 2 rfl)).1.len
  refine sp S (tr (mv rfl)<|tr (leni uT29 rfl)<|tr (eqli rfl rfl)<|tr (mv rfl)<|tr (og 39 rfl gf fun S hg=>x_move (S.e rfl))<|tr (og 39 rfl gf fun S hg=>x_idx uT29 sZ9 (S.p rfl hg) (S.e rfl) 0 rfl (by omega) ((show LAt strE _ _ lw_a lw from ((S.u 2 rfl)).1).adr (i := 0) (by omega)))<|tr (og 39 rfl gf fun S hg=>x_load sC9 (S.p rfl hg) ((show LAt strE _ _ lw_a lw from ((S.u 2 rfl)).1).cell 0 (by omega) 0 _ rfl))<|tr (og 39 rfl gf fun S hg=>x_seql (S.p rfl hg) (S.e rfl))<|tr (ori rfl rfl rfl)<|tr (mv rfl)<|tr (og 45 rfl gf fun S hg=>x_move (S.e rfl))<|tr (og 45 rfl gf fun S hg=>x_move (S.e rfl))<|tr (og 45 rfl gf fun S hg=>x_len uT29 (S.p rfl hg))<|tr (og 45 rfl gf fun S hg=>x_sub (S.p rfl hg) (S.e rfl) (r := (((lw.length : Nat) : Int) - 1)) (w_i64 (by omega)))<|tr (og 45 rfl gf fun S hg=>x_idx uT29 sZ9 (S.p rfl hg) (S.p rfl hg) ((((lw.length : Nat) : Int) - 1)).toNat (by omega) (by omega) ((show LAt strE _ _ lw_a lw from ((S.u 2 rfl)).1).adr (i := ((((lw.length : Nat) : Int) - 1)).toNat) (by omega)))<|tr (og 45 rfl gf fun S hg=>x_load sC9 (S.p rfl hg) ((show LAt strE _ _ lw_a lw from ((S.u 2 rfl)).1).cell ((((lw.length : Nat) : Int) - 1)).toNat (by omega) 0 _ rfl))<|tr (og 45 rfl gf fun S hg=>x_seql (S.p rfl hg) (S.e rfl))<|tr (ori rfl rfl rfl)<|la (av rfl)) ?_; clear S; intro a u S
  obtain ⟨bv8, hbv8⟩ : ∃ b : Bool, (b = true) ↔ (((((lw.length : Nat) : Int) = 0) ∨ ((lw.getD 0 strE.dflt) = ⟨#[44]⟩)) ∨ ((lw.getD (((((lw.length : Nat) : Int) - 1)).toNat) strE.dflt) = ⟨#[44]⟩)) := ⟨decide (((((lw.length : Nat) : Int) = 0) ∨ ((lw.getD 0 strE.dflt) = ⟨#[44]⟩)) ∨ ((lw.getD (((((lw.length : Nat) : Int) - 1)).toNat) strE.dflt) = ⟨#[44]⟩)), by simp⟩
  replace S := S.ext (d := 8) (v := bD (bv8 = true)) ((S.get 8 rfl).trans (vb hbv8.symm))
  refine ent (wp_seq ?_)
  refine rs S (la (av rfl)) ?_; clear S; intro a u S
  refine wp_block ?_
  refine lp2 (fun (bd : Bool) (i1 : Nat) => [(2, .bool false), (4, .slice lw_a lw.length lw_c), (6, sV r_t310), (8, bD (bd = true)), (9, iN i1)]) (fun (bd : Bool) (i1 : Nat) => [tpO 58 T14 l, noO]) (fun (bd : Bool) (i1 : Nat) => (1 ≤ i1 ∧ i1 ≤ lw.length + 1) ∧ (¬ bd = true → lw.length ≠ 0 ∧ lw.getD 0 strE.dflt ≠ cma ∧ lw.getD (lw.length - 1) strE.dflt ≠ cma ∧ ∀ j, 1 ≤ j → j < i1 → ¬ (lw.getD j strE.dflt = cma ∧ lw.getD (j - 1) strE.dflt = cma))) (fun (bd : Bool) (i1 : Nat) => lw.length + 1 - i1) S bv8 1 (subM rfl) rfl ?_ ?_
  ·refine ⟨⟨by omega, by omega⟩, fun hn => ?_⟩
   have hp := fun q => hn (hbv8.2 q)
   exact ⟨fun e => hp (.inl (.inl (by omega))), fun e => hp (.inl (.inr e)), fun e => hp (.inr (by rw [show (((lw.length : Nat) : Int) - 1).toNat = lw.length - 1 from by omega]; exact e)), fun j h1 h2 => by omega⟩
  clear S; intro bd i1 a u S hR
  obtain ⟨⟨hi1, hi2⟩, hbd⟩ := hR
  refine wp_seq ?_
  refine rs S (tr (mv rfl)<|tr (mv rfl)<|tr (leni uT29 rfl)<|la (lssi rfl rfl)) ?_; clear S; intro a u S
  refine cd S rfl ?_ ?_
  ·intro hc3
   refine wp_skip (then_n (wp_seq (wp_block (r0 ?_))))
   refine sp S (tr (mv rfl)<|tr (mv rfl)<|tr (og 61 rfl gf fun S hg=>x_move (S.e rfl))<|tr (og 61 rfl gf fun S hg=>x_move (S.e rfl))<|tr (og 61 rfl gf fun S hg=>x_idx uT29 sZ9 (S.p rfl hg) (S.p rfl hg) i1 rfl (by omega) ((show LAt strE _ _ lw_a lw from ((S.u 2 rfl)).1).adr (i := i1) (by omega)))<|tr (og 61 rfl gf fun S hg=>x_load sC9 (S.p rfl hg) ((show LAt strE _ _ lw_a lw from ((S.u 2 rfl)).1).cell i1 (by omega) 0 _ rfl))<|tr (og 61 rfl gf fun S hg=>x_seql (S.p rfl hg) (S.e rfl))<|tr (og 61 rfl gf fun S hg=>x_move (S.p rfl hg))<|tr (og 67 rfl ggt fun S hg=>x_move (S.e rfl))<|tr (og 67 rfl ggt fun S hg=>x_move (S.e rfl))<|tr (og 67 rfl ggt fun S hg=>x_sub (S.p rfl hg) (S.e rfl) (r := (((i1 : Nat) : Int) - 1)) (w_i64 (by omega)))<|tr (og 67 rfl ggt fun S hg=>x_idx uT29 sZ9 (S.p rfl hg) (S.p rfl hg) ((((i1 : Nat) : Int) - 1)).toNat (by omega) (by omega) ((show LAt strE _ _ lw_a lw from ((S.u 2 rfl)).1).adr (i := ((((i1 : Nat) : Int) - 1)).toNat) (by omega)))<|tr (og 67 rfl ggt fun S hg=>x_load sC9 (S.p rfl hg) ((show LAt strE _ _ lw_a lw from ((S.u 2 rfl)).1).cell ((((i1 : Nat) : Int) - 1)).toNat (by omega) 0 _ rfl))<|tr (og 67 rfl ggt fun S hg=>x_seql (S.p rfl hg) (S.e rfl))<|tr (og 61 rfl gf fun S hg=>x_and (S.p rfl hg) (fun hl => (S.p rfl (And.intro hg hl))) (S.e rfl))<|tr (ori rfl rfl rfl)<|la (av rfl)) ?_; clear S; intro a u S
   obtain ⟨bv8, hbv8⟩ : ∃ b : Bool, (b = true) ↔ ((bd = true) ∨ (((lw.getD i1 strE.dflt) = ⟨#[44]⟩) ∧ ((lw.getD (((((i1 : Nat) : Int) - 1)).toNat) strE.dflt) = ⟨#[44]⟩))) := ⟨decide ((bd = true) ∨ (((lw.getD i1 strE.dflt) = ⟨#[44]⟩) ∧ ((lw.getD (((((i1 : Nat) : Int) - 1)).toNat) strE.dflt) = ⟨#[44]⟩))), by simp⟩
   replace S := S.ext (d := 8) (v := bD (bv8 = true)) ((S.get 8 rfl).trans (vb hbv8.symm))
   refine nn (blk_n (then_n ?_))
   refine rg S (tr (mv rfl)<|tr (addi ((i1 + 1 : Nat) : Int) rfl rfl (w_i64 (by omega)))<|la (av rfl)) ?_; clear S; intro a u S
   refine then_n ?_
   refine ⟨bv8, (i1 + 1), S.re (subM rfl) rfl rfl, ?_, ?_⟩
   ·refine ⟨⟨by omega, by omega⟩, fun hn => ?_⟩
    have hp := fun q => hn (hbv8.2 q)
    obtain ⟨g0, g1, g2, g3⟩ := hbd fun q => hp (.inl q)
    refine ⟨g0, g1, g2, fun j h1 h2 h3 => ?_⟩
    rcases Nat.lt_succ_iff_lt_or_eq.1 h2 with q | q
    ·exact g3 j h1 q h3
    subst q; exact hp (.inr (by rw [show (((j : Nat) : Int) - 1).toNat = j - 1 from by omega]; exact h3))
   omega
  intro hc4
  have hbt : bd = true := by
   by_cases hb1 : bd = true
   ·exact hb1
   exfalso
   obtain ⟨g0, g1, g2, g3⟩ := hbd hb1
   rcases not_ok_bad strE.dflt hno with h | h | h | ⟨i, h0, h1, h2, h3⟩
   ·exact g0 h
   ·exact g1 h
   ·exact g2 h
   exact g3 i h0 (by omega) ⟨h2, h3⟩
  refine wp_exit (then_e (then_e (blk_e (then_n (rs0 ?_)))))
  refine sp S (tr (mv rfl)<|tr (mv rfl)<|tr (og 77 rfl gt fun S hg=>x_move (S.e rfl))<|tr (og 77 rfl gt fun S hg=>x_len uT52 (S.p rfl hg))<|tr (og 77 rfl gt fun S hg=>x_eql (S.p rfl hg) (S.e rfl))<|la (andi rfl rfl rfl)) ?_; clear S; intro a u S
  have ht81 : (bd = true) ∧ (((r_t310.xs.length : Nat) : Int) = 0) := by exact ⟨hbt, by rw [hxn]; rfl⟩
  replace S := S.ext (d := 81) (v := .bool true) ((S.get 81 rfl).trans (congrArg Value.bool (decide_eq_true ht81)))
  refine sp S (la (mv rfl)) ?_; clear S; intro a u S
  refine strip S.s rfl rfl (gd := 82) rfl ?_
  refine ens S (tr (oc (fun S=>lSane _ _ S.x (.nil _) (S.gl 1 rfl)) cB15)<|tr (ov fun S=>x_pickt (S.e rfl) (S.e rfl))<|la (av rfl)) ?_; clear S; intro a u S
  refine wp_ret (then_r ?_)
  refine ret1 rfl S.s rfl ?_
  replace S := S.pk []
  refine ⟨(r1 (vt ?_)), S.m.c⟩
  trivial
 intro hc5
 have hok : itOK lw := Classical.not_not.1 hc5
 have hmap : r_t310.xs.map Sl.xs = itemsL lw := by rw [hr_t310, if_pos hok]
 have hjoin : joinC (r_t310.xs.map Sl.xs) = lw := by rw [hmap]; exact items_join _
 refine wp_skip (then_n ?_)
 refine rs S (la (av rfl)) ?_; clear S; intro a u S
 refine wp_seq ?_
 refine rs S (la (av rfl)) ?_; clear S; intro a u S
 refine wp_block ?_
 replace S := S.nr strE 9
 refine lp4 (fun (m : Nat) (bk_a : Option Addr) (bk_c : Nat) (bk : List ByteArray) => [(4, .slice lw_a lw.length lw_c), (6, sV r_t310), (11, iN m), (10, .slice bk_a bk.length bk_c)]) (fun (m : Nat) (bk_a : Option Addr) (bk_c : Nat) (bk : List ByteArray) => [tpO 58 T14 l, noO, rwO strE 9 w.heap.size bk_a bk_c bk]) (fun (m : Nat) (bk_a : Option Addr) (bk_c : Nat) (bk : List ByteArray) => m ≤ r_t310.xs.length ∧ bk = joinC ((r_t310.xs.map Sl.xs).take m)) (fun (m : Nat) (bk_a : Option Addr) (bk_c : Nat) (bk : List ByteArray) => r_t310.xs.length - m) S 0 none 0 ([]) (subM rfl) rfl ?_ ?_
 ·exact ⟨Nat.zero_le _, rfl⟩
 clear S; intro m bk_a bk_c bk a u S hR
 have bk_len := (S.row 2 rfl).len_le; simp only [maxLen] at bk_len
 obtain ⟨hm, hbk⟩ := hR
 have hbkl := joinC_take (r_t310.xs.map Sl.xs) m
 rw [← hbk, hjoin] at hbkl
 refine wp_seq ?_
 refine rs S (tr (mv rfl)<|tr (mv rfl)<|tr (leni uT52 rfl)<|la (lssi rfl rfl)) ?_; clear S; intro a u S
 refine cd S rfl ?_ ?_
 ·intro hc6
  have hst := joinC_step (l := r_t310.xs.map Sl.xs) (k := m) (by rw [List.length_map]; omega)
  rw [getD_mapS (by omega)] at hst
  have hxm := memS (xs := r_t310.xs) (k := m) (by omega)
  have hxl := joinC_le _ _ hxm
  rw [hjoin] at hxl
  rw [hmap] at hxm
  refine wp_skip (then_n (wp_seq (wp_block (wp_seq ?_))))
  have hn23 : ((r_t310.xs.getD m (slE strE).dflt).xs).length ≤ 9223372036854775807 := ((((S.u 3 rfl)).1.wf m (by omega))).1.len
  refine rs S (tr (mv rfl)<|tr (mv rfl)<|tr (idxi uT52 sZ29 rfl rfl m rfl (by omega) (((S.u 3 rfl)).1.adr (i := m) (by omega)))<|tr (ov fun S=>x_load sC29 (S.e rfl) (((S.u 3 rfl)).1.cell m (by omega) 0 _ rfl))<|tr (leni uT29 rfl)<|la (eqli rfl rfl)) ?_; clear S; intro a u S
  refine cd S rfl ?_ ?_
  ·intro hc7
   refine rs S (la (av rfl)) ?_; clear S; intro a u S
   refine wp_ret (then_r (blk_r (then_r (then_r (blk_r (then_r ?_))))))
   refine ret1 rfl S.s rfl ?_
   replace S := S.pk []
   refine ⟨(r1 (vf ?_)), S.m.c⟩
   intro _; exact hok _ hxm (List.eq_nil_of_length_eq_zero (by omega))
  intro hc8
  refine wp_skip (then_n (wp_seq ?_))
  refine rs S (tr (mv rfl)<|la (gtri rfl rfl)) ?_; clear S; intro a u S
  refine cd S rfl ?_ ?_
  ·intro hc9
   refine r0 ?_
   refine sp S (la (mv rfl)) ?_; clear S; intro a u S
   refine nbs strE S ([⟨#[44]⟩] : List ByteArray) (x_bs S [(0, .string (⟨#[44]⟩))] uT29 iZ9) (fun x hx => by simp only [List.mem_cons, List.not_mem_nil, or_false] at hx; rw [hx]; exact (show strE.wf _ _ (⟨#[44]⟩) from (show (⟨#[44]⟩ : ByteArray).size ≤ maxLen from by unfold maxLen; decide))) ?_; clear S; intro a u b100 S
   refine ap (E := strE) (ys := ([⟨#[44]⟩] : List ByteArray)) S 2 rfl uT29 iZ9 rfl rfl (show LAt strE _ _ (some ⟨b100, 0, none⟩) ([⟨#[44]⟩] : List ByteArray) from ((S.u 4 rfl)).1) ((S.u 4 rfl)).2.2 (LAt.mem (show LAt strE _ _ (some ⟨b100, 0, none⟩) ([⟨#[44]⟩] : List ByteArray) from ((S.u 4 rfl)).1)) ⟨by unfold maxLen; (try simp only [List.length_cons, List.length_nil, List.length_append, List.length_map]); omega, by (try simp only [List.length_cons, List.length_nil, List.length_append, List.length_map]); omega⟩ ?_; clear S; intro a u ad101 cap101 S
   refine ens S (la (av rfl)) ?_; clear S; intro a u S
   refine rs S (la (av rfl)) ?_; clear S; intro a u S
   refine wp_block ?_
   refine lp4 (fun (j : Nat) (bj_a : Option Addr) (bj_c : Nat) (bj : List ByteArray) => [(4, .slice lw_a lw.length lw_c), (6, sV r_t310), (11, iN m), (85, iN m), (86, sV r_t310), (87, iN r_t310.xs.length), (88, bD (((m : Nat) : Int) < ((r_t310.xs.length : Nat) : Int))), (91, sV r_t310), (92, iN m), (93, pT (blk r_t310.a) (off r_t310.a + m * 1)), (94, sV (r_t310.xs.getD m (slE strE).dflt)), (95, iN (r_t310.xs.getD m (slE strE).dflt).xs.length), (96, bD ((((r_t310.xs.getD m (slE strE).dflt).xs.length : Nat) : Int) = 0)), (97, iN m), (98, bD (0 < ((m : Nat) : Int))), (99, .slice bk_a bk.length bk_c), (100, .slice (some ⟨b100, 0, none⟩) 1 1), (101, .slice ad101 ((bk ++ ([⟨#[44]⟩] : List ByteArray)).length) cap101), (12, iN j), (10, .slice bj_a bj.length bj_c)]) (fun (j : Nat) (bj_a : Option Addr) (bj_c : Nat) (bj : List ByteArray) => [tpO 58 T14 l, noO, rwO strE 9 w.heap.size bj_a bj_c bj]) (fun (j : Nat) (bj_a : Option Addr) (bj_c : Nat) (bj : List ByteArray) => j ≤ (r_t310.xs.getD m (slE strE).dflt).xs.length ∧ bj = (bk ++ ([⟨#[44]⟩] : List ByteArray)) ++ (r_t310.xs.getD m (slE strE).dflt).xs.take j) (fun (j : Nat) (bj_a : Option Addr) (bj_c : Nat) (bj : List ByteArray) => (r_t310.xs.getD m (slE strE).dflt).xs.length - j) S 0 ad101 cap101 (bk ++ ([⟨#[44]⟩] : List ByteArray)) (subM rfl) rfl ?_ ?_
   ·exact ⟨Nat.zero_le _, by simp⟩
   clear S; intro j bj_a bj_c bj a u S hR
   have bj_len := (S.row 2 rfl).len_le; simp only [maxLen] at bj_len
   obtain ⟨hj, hbj⟩ := hR
   have hbjl : bj.length ≤ 20 := by rw [hbj]; simp; omega
   refine wp_seq ?_
   refine rs S (tr (mv rfl)<|tr (mv rfl)<|tr (mv rfl)<|tr (idxi uT52 sZ29 rfl rfl m rfl (by omega) (((S.u 3 rfl)).1.adr (i := m) (by omega)))<|tr (ov fun S=>x_load sC29 (S.e rfl) (((S.u 3 rfl)).1.cell m (by omega) 0 _ rfl))<|tr (leni uT29 rfl)<|la (lssi rfl rfl)) ?_; clear S; intro a u S
   refine cd S rfl ?_ ?_
   ·intro hc10
    refine wp_skip (then_n (wp_seq (wp_block (wp_seq ?_))))
    refine rs S (tr (mv rfl)<|tr (mv rfl)<|tr (idxi uT52 sZ29 rfl rfl m rfl (by omega) (((S.u 3 rfl)).1.adr (i := m) (by omega)))<|tr (ov fun S=>x_load sC29 (S.e rfl) (((S.u 3 rfl)).1.cell m (by omega) 0 _ rfl))<|tr (mv rfl)<|tr (idxi uT29 sZ9 rfl rfl j rfl (by omega) (((((S.u 3 rfl)).1.wf m (by omega))).1.adr (i := j) (by omega)))<|tr (ov fun S=>x_load sC9 (S.e rfl) (((((S.u 3 rfl)).1.wf m (by omega))).1.cell j (by omega) 0 _ rfl))<|la (seqi rfl rfl)) ?_; clear S; intro a u S
    refine cd S rfl ?_ ?_
    ·intro hc11
     refine rs S (la (av rfl)) ?_; clear S; intro a u S
     refine wp_ret (then_r (blk_r (then_r (then_r (blk_r (blk_r (then_r (then_r (blk_r (then_r ?_))))))))))
     refine ret1 rfl S.s rfl ?_
     replace S := S.pk []
     refine ⟨(r1 (vf ?_)), S.m.c⟩
     intro _; exact items_noc lw _ hxm _ (getD_mem' (i := j) (by omega)) hc11
    intro hc12
    refine wp_skip (then_n (r0 ?_))
    refine sp S (tr (mv rfl)<|tr (mv rfl)<|tr (mv rfl)<|tr (idxi uT52 sZ29 rfl rfl m rfl (by omega) (((S.u 3 rfl)).1.adr (i := m) (by omega)))<|tr (ov fun S=>x_load sC29 (S.e rfl) (((S.u 3 rfl)).1.cell m (by omega) 0 _ rfl))<|tr (mv rfl)<|tr (idxi uT29 sZ9 rfl rfl j rfl (by omega) (((((S.u 3 rfl)).1.wf m (by omega))).1.adr (i := j) (by omega)))<|la (ov fun S=>x_load sC9 (S.e rfl) (((((S.u 3 rfl)).1.wf m (by omega))).1.cell j (by omega) 0 _ rfl))) ?_; clear S; intro a u S
    refine nbs strE S ([(((r_t310.xs.getD m (slE strE).dflt).xs).getD j strE.dflt)] : List ByteArray) (x_bs S [(0, .string (((r_t310.xs.getD m (slE strE).dflt).xs).getD j strE.dflt))] uT29 iZ9) (fun x hx => by simp only [List.mem_cons, List.not_mem_nil, or_false] at hx; rw [hx]; exact (show strE.wf _ _ (((r_t310.xs.getD m (slE strE).dflt).xs).getD j strE.dflt) from (((((S.u 3 rfl)).1.wf m (by omega))).1.wf j (by omega)))) ?_; clear S; intro a u b127 S
    refine ap (E := strE) (ys := ([(((r_t310.xs.getD m (slE strE).dflt).xs).getD j strE.dflt)] : List ByteArray)) S 2 rfl uT29 iZ9 rfl rfl (show LAt strE _ _ (some ⟨b127, 0, none⟩) ([(((r_t310.xs.getD m (slE strE).dflt).xs).getD j strE.dflt)] : List ByteArray) from ((S.u 5 rfl)).1) ((S.u 5 rfl)).2.2 (LAt.mem (show LAt strE _ _ (some ⟨b127, 0, none⟩) ([(((r_t310.xs.getD m (slE strE).dflt).xs).getD j strE.dflt)] : List ByteArray) from ((S.u 5 rfl)).1)) ⟨by unfold maxLen; (try simp only [List.length_cons, List.length_nil, List.length_append, List.length_map]); omega, by (try simp only [List.length_cons, List.length_nil, List.length_append, List.length_map]); omega⟩ ?_; clear S; intro a u ad128 cap128 S
    refine en S (la (av rfl)) ?_; clear S; intro a u S
    refine blk_n (then_n ?_)
    refine rg S (tr (mv rfl)<|tr (addi ((j + 1 : Nat) : Int) rfl rfl (w_i64 (by omega)))<|la (av rfl)) ?_; clear S; intro a u S
    refine then_n ?_
    refine ⟨(j + 1), ad128, cap128, (bj ++ ([(((r_t310.xs.getD m (slE strE).dflt).xs).getD j strE.dflt)] : List ByteArray)), S.re (subM rfl) rfl rfl, ?_, ?_⟩
    ·refine ⟨by omega, ?_⟩
     rw [hbj, List.take_add_one, List.append_assoc]; congr 2; rw [List.getD_eq_getElem?_getD]; rw [List.getElem?_eq_getElem (by omega)]; rfl
    omega
   intro hc13
   refine wp_exit (then_e (then_e (blk_e (blk_n (then_n ?_)))))
   refine rg S (tr (mv rfl)<|tr (addi ((m + 1 : Nat) : Int) rfl rfl (w_i64 (by omega)))<|la (av rfl)) ?_; clear S; intro a u S
   refine then_n ?_
   refine ⟨(m + 1), bj_a, bj_c, bj, S.re (subM rfl) rfl rfl, ?_, ?_⟩
   ·refine ⟨by omega, ?_⟩
    rw [hst, hbj, show j = (r_t310.xs.getD m (slE strE).dflt).xs.length from by omega, List.take_length]
    first
    | (rw [if_neg (by omega), hbk]; rfl)
    | (have h0 : m = 0 := by omega
       rw [if_pos h0, hbk, h0]; rfl)
   omega
  intro hc14
  refine wp_skip (then_n ?_)
  refine rs S (la (av rfl)) ?_; clear S; intro a u S
  refine wp_block ?_
  refine lp4 (fun (j : Nat) (bj_a : Option Addr) (bj_c : Nat) (bj : List ByteArray) => [(4, .slice lw_a lw.length lw_c), (6, sV r_t310), (11, iN m), (85, iN m), (86, sV r_t310), (87, iN r_t310.xs.length), (88, bD (((m : Nat) : Int) < ((r_t310.xs.length : Nat) : Int))), (91, sV r_t310), (92, iN m), (93, pT (blk r_t310.a) (off r_t310.a + m * 1)), (94, sV (r_t310.xs.getD m (slE strE).dflt)), (95, iN (r_t310.xs.getD m (slE strE).dflt).xs.length), (96, bD ((((r_t310.xs.getD m (slE strE).dflt).xs.length : Nat) : Int) = 0)), (97, iN m), (98, bD (0 < ((m : Nat) : Int))), (12, iN j), (10, .slice bj_a bj.length bj_c)]) (fun (j : Nat) (bj_a : Option Addr) (bj_c : Nat) (bj : List ByteArray) => [tpO 58 T14 l, noO, rwO strE 9 w.heap.size bj_a bj_c bj]) (fun (j : Nat) (bj_a : Option Addr) (bj_c : Nat) (bj : List ByteArray) => j ≤ (r_t310.xs.getD m (slE strE).dflt).xs.length ∧ bj = bk ++ (r_t310.xs.getD m (slE strE).dflt).xs.take j) (fun (j : Nat) (bj_a : Option Addr) (bj_c : Nat) (bj : List ByteArray) => (r_t310.xs.getD m (slE strE).dflt).xs.length - j) S 0 bk_a bk_c bk (subM rfl) rfl ?_ ?_
  ·exact ⟨Nat.zero_le _, by simp⟩
  clear S; intro j bj_a bj_c bj a u S hR
  have bj_len := (S.row 2 rfl).len_le; simp only [maxLen] at bj_len
  obtain ⟨hj, hbj⟩ := hR
  have hbjl : bj.length ≤ 20 := by rw [hbj]; simp; omega
  refine wp_seq ?_
  refine rs S (tr (mv rfl)<|tr (mv rfl)<|tr (mv rfl)<|tr (idxi uT52 sZ29 rfl rfl m rfl (by omega) (((S.u 3 rfl)).1.adr (i := m) (by omega)))<|tr (ov fun S=>x_load sC29 (S.e rfl) (((S.u 3 rfl)).1.cell m (by omega) 0 _ rfl))<|tr (leni uT29 rfl)<|la (lssi rfl rfl)) ?_; clear S; intro a u S
  refine cd S rfl ?_ ?_
  ·intro hc15
   refine wp_skip (then_n (wp_seq (wp_block (wp_seq ?_))))
   refine rs S (tr (mv rfl)<|tr (mv rfl)<|tr (idxi uT52 sZ29 rfl rfl m rfl (by omega) (((S.u 3 rfl)).1.adr (i := m) (by omega)))<|tr (ov fun S=>x_load sC29 (S.e rfl) (((S.u 3 rfl)).1.cell m (by omega) 0 _ rfl))<|tr (mv rfl)<|tr (idxi uT29 sZ9 rfl rfl j rfl (by omega) (((((S.u 3 rfl)).1.wf m (by omega))).1.adr (i := j) (by omega)))<|tr (ov fun S=>x_load sC9 (S.e rfl) (((((S.u 3 rfl)).1.wf m (by omega))).1.cell j (by omega) 0 _ rfl))<|la (seqi rfl rfl)) ?_; clear S; intro a u S
   refine cd S rfl ?_ ?_
   ·intro hc16
    refine rs S (la (av rfl)) ?_; clear S; intro a u S
    refine wp_ret (then_r (blk_r (then_r (then_r (blk_r (blk_r (then_r (then_r (blk_r (then_r ?_))))))))))
    refine ret1 rfl S.s rfl ?_
    replace S := S.pk []
    refine ⟨(r1 (vf ?_)), S.m.c⟩
    intro _; exact items_noc lw _ hxm _ (getD_mem' (i := j) (by omega)) hc16
   intro hc17
   refine wp_skip (then_n (r0 ?_))
   refine sp S (tr (mv rfl)<|tr (mv rfl)<|tr (mv rfl)<|tr (idxi uT52 sZ29 rfl rfl m rfl (by omega) (((S.u 3 rfl)).1.adr (i := m) (by omega)))<|tr (ov fun S=>x_load sC29 (S.e rfl) (((S.u 3 rfl)).1.cell m (by omega) 0 _ rfl))<|tr (mv rfl)<|tr (idxi uT29 sZ9 rfl rfl j rfl (by omega) (((((S.u 3 rfl)).1.wf m (by omega))).1.adr (i := j) (by omega)))<|la (ov fun S=>x_load sC9 (S.e rfl) (((((S.u 3 rfl)).1.wf m (by omega))).1.cell j (by omega) 0 _ rfl))) ?_; clear S; intro a u S
   refine nbs strE S ([(((r_t310.xs.getD m (slE strE).dflt).xs).getD j strE.dflt)] : List ByteArray) (x_bs S [(0, .string (((r_t310.xs.getD m (slE strE).dflt).xs).getD j strE.dflt))] uT29 iZ9) (fun x hx => by simp only [List.mem_cons, List.not_mem_nil, or_false] at hx; rw [hx]; exact (show strE.wf _ _ (((r_t310.xs.getD m (slE strE).dflt).xs).getD j strE.dflt) from (((((S.u 3 rfl)).1.wf m (by omega))).1.wf j (by omega)))) ?_; clear S; intro a u b127 S
   refine ap (E := strE) (ys := ([(((r_t310.xs.getD m (slE strE).dflt).xs).getD j strE.dflt)] : List ByteArray)) S 2 rfl uT29 iZ9 rfl rfl (show LAt strE _ _ (some ⟨b127, 0, none⟩) ([(((r_t310.xs.getD m (slE strE).dflt).xs).getD j strE.dflt)] : List ByteArray) from ((S.u 4 rfl)).1) ((S.u 4 rfl)).2.2 (LAt.mem (show LAt strE _ _ (some ⟨b127, 0, none⟩) ([(((r_t310.xs.getD m (slE strE).dflt).xs).getD j strE.dflt)] : List ByteArray) from ((S.u 4 rfl)).1)) ⟨by unfold maxLen; (try simp only [List.length_cons, List.length_nil, List.length_append, List.length_map]); omega, by (try simp only [List.length_cons, List.length_nil, List.length_append, List.length_map]); omega⟩ ?_; clear S; intro a u ad128 cap128 S
   refine en S (la (av rfl)) ?_; clear S; intro a u S
   refine blk_n (then_n ?_)
   refine rg S (tr (mv rfl)<|tr (addi ((j + 1 : Nat) : Int) rfl rfl (w_i64 (by omega)))<|la (av rfl)) ?_; clear S; intro a u S
   refine then_n ?_
   refine ⟨(j + 1), ad128, cap128, (bj ++ ([(((r_t310.xs.getD m (slE strE).dflt).xs).getD j strE.dflt)] : List ByteArray)), S.re (subM rfl) rfl rfl, ?_, ?_⟩
   ·refine ⟨by omega, ?_⟩
    rw [hbj, List.take_add_one, List.append_assoc]; congr 2; rw [List.getD_eq_getElem?_getD]; rw [List.getElem?_eq_getElem (by omega)]; rfl
   omega
  intro hc18
  refine wp_exit (then_e (then_e (blk_e (blk_n (then_n ?_)))))
  refine rg S (tr (mv rfl)<|tr (addi ((m + 1 : Nat) : Int) rfl rfl (w_i64 (by omega)))<|la (av rfl)) ?_; clear S; intro a u S
  refine then_n ?_
  refine ⟨(m + 1), bj_a, bj_c, bj, S.re (subM rfl) rfl rfl, ?_, ?_⟩
  ·refine ⟨by omega, ?_⟩
   rw [hst, hbj, show j = (r_t310.xs.getD m (slE strE).dflt).xs.length from by omega, List.take_length]
   first
   | (rw [if_neg (by omega), hbk]; rfl)
   | (have h0 : m = 0 := by omega
      rw [if_pos h0, hbk, h0]; rfl)
  omega
 intro hc19
 replace S := S.fz 2 rfl
 skip
 have hbl : bk = lw := by rw [hbk, List.take_of_length_le (by rw [List.length_map]; omega), hjoin]
 refine wp_exit (then_e (then_e (blk_e (then_n (rs0 ?_)))))
 refine sp S (tr (mv rfl)<|tr (mv rfl)<|tr (oc (fun S=>same9 _ _ S.x (.nil _) (Sl.mk bk_a bk_c bk) (dn0 (S.u 4 rfl)) (Sl.mk lw_a lw_c lw) (dn0 (S.u 2 rfl))) cB19)<|la (mv rfl)) ?_; clear S; intro a u S
 have ht132 : bk = lw := hbl
 replace S := S.ext (d := 132) (v := .bool true) ((S.get 132 rfl).trans (congrArg Value.bool (decide_eq_true ht132)))
 refine strip S.s rfl rfl (gd := 132) rfl ?_
 refine ens S (tr (oc (fun S=>lSane _ _ S.x (.nil _) (S.gl 1 rfl)) cB15)<|tr (ov fun S=>x_pickt (S.e rfl) (S.e rfl))<|la (av rfl)) ?_; clear S; intro a u S
 refine wp_ret ?_
 refine ret1 rfl S.s rfl ?_
 replace S := S.pk []
 refine ⟨(r1 (vt ?_)), S.m.c⟩
 trivial
end Go.Proofs.YtmaiillomoehgaaDoor.V
