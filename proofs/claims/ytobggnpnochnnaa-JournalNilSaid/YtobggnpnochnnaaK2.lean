/- numbers of four bytes -/
import Derived.Test.YtobggnpnochnnaaK1
import Derived.Test.YtobggnpnochnnaaGrpU
namespace Go.Proofs.Ytobggnpnochnnaa.V
open Go.RowKit Go.Proofs.Ytobggnpnochnnaa
set_option linter.unusedVariables false
set_option linter.unusedSimpArgs false
set_option maxHeartbeats 2000000 in
set_option maxRecDepth 20000 in
theorem jPut (w : World) (F : Nat → Prop) (hF : Old F w) (b_a : Option Addr) (M : MS [abk b_a] w) (hD : ∀ k, In [abk b_a] k → ¬ F k) (b_c : Nat) (b : List Int) (b_R : Row u8E 5 0 F [abk b_a] w b_a b_c b) (v : Int) (v_h : inU32 v) (hb : b.length ≤ 1000000) :
 Calls Try.prog 62 #[.slice b_a b.length b_c, .int .u32 v] w fun e w' => ∃ (ra : Option Addr) (rc : Nat), e = .returned (.slice ra ((b ++ be4 v).length) rc) ∧ Row u8E 5 0 F [abk ra] w' ra rc (b ++ be4 v) ∧ Tr [abk b_a] w [abk ra] w' := by
 obtain ⟨v_hl, v_hu⟩ : inU32 v := id v_h
 refine go Try.func62 rfl 19 rfl [] [rwO u8E 5 0 b_a b_c b] hF M trivial ⟨⟨b_R.own, b_R.wf⟩, trivial⟩ ?_
 intro a S
 refine rs S (la (av rfl)) ?_; clear S; intro a u S
 refine rs0 ?_
 refine sp S (tr (mv rfl)<|tr (mv rfl)<|tr (ov fun S=>x_shr (S.e rfl) (S.e rfl) (by omega))<|tr (ov fun S=>x_conv uT115 uT5 (S.e rfl) (r := (IntKind.u8.wrap (sHr .u32 v 24))) rfl)<|tr (mv rfl)<|tr (ov fun S=>x_shr (S.e rfl) (S.e rfl) (by omega))<|tr (ov fun S=>x_conv uT115 uT5 (S.e rfl) (r := (IntKind.u8.wrap (sHr .u32 v 16))) rfl)<|tr (mv rfl)<|tr (ov fun S=>x_shr (S.e rfl) (S.e rfl) (by omega))<|tr (ov fun S=>x_conv uT115 uT5 (S.e rfl) (r := (IntKind.u8.wrap (sHr .u32 v 8))) rfl)<|tr (mv rfl)<|la (ov fun S=>x_conv uT115 uT5 (S.e rfl) (r := (IntKind.u8.wrap v)) rfl)) ?_; clear S; intro a u S
 refine nbs u8E S [(IntKind.u8.wrap (sHr .u32 v 24)), (IntKind.u8.wrap (sHr .u32 v 16)), (IntKind.u8.wrap (sHr .u32 v 8)), (IntKind.u8.wrap v)] (x_bs S [(0, .int .u8 (IntKind.u8.wrap (sHr .u32 v 24))), (1, .int .u8 (IntKind.u8.wrap (sHr .u32 v 16))), (2, .int .u8 (IntKind.u8.wrap (sHr .u32 v 8))), (3, .int .u8 (IntKind.u8.wrap v))] uT28 iZ5) (fun x hx => by simp only [List.mem_cons, List.not_mem_nil, or_false] at hx; rcases hx with hx | hx | hx | hx <;> rw [hx] <;> first | exact (show u8E.wf _ _ (IntKind.u8.wrap (sHr .u32 v 24)) from (wu8 _)) | exact (show u8E.wf _ _ (IntKind.u8.wrap (sHr .u32 v 16)) from (wu8 _)) | exact (show u8E.wf _ _ (IntKind.u8.wrap (sHr .u32 v 8)) from (wu8 _)) | exact (show u8E.wf _ _ (IntKind.u8.wrap v) from (wu8 _))) ?_; clear S; intro a u b17 S
 refine ap (E := u8E) (ys := [(IntKind.u8.wrap (sHr .u32 v 24)), (IntKind.u8.wrap (sHr .u32 v 16)), (IntKind.u8.wrap (sHr .u32 v 8)), (IntKind.u8.wrap v)]) S 0 rfl uT28 iZ5 rfl rfl (show LAt u8E _ _ (some ⟨b17, 0, none⟩) ([(IntKind.u8.wrap (sHr .u32 v 24)), (IntKind.u8.wrap (sHr .u32 v 16)), (IntKind.u8.wrap (sHr .u32 v 8)), (IntKind.u8.wrap v)]) from ((S.u 0 rfl)).1) ((S.u 0 rfl)).2.2 (LAt.mem (show LAt u8E _ _ (some ⟨b17, 0, none⟩) ([(IntKind.u8.wrap (sHr .u32 v 24)), (IntKind.u8.wrap (sHr .u32 v 16)), (IntKind.u8.wrap (sHr .u32 v 8)), (IntKind.u8.wrap v)]) from ((S.u 0 rfl)).1)) ⟨by unfold maxLen; (try simp only [List.length_cons, List.length_nil, List.length_append, List.length_map]); omega, by (try simp only [List.length_cons, List.length_nil, List.length_append, List.length_map]); omega⟩ ?_; clear S; intro a u ad18 cap18 S
 refine ens S (la (av rfl)) ?_; clear S; intro a u S
 refine wp_ret ?_
 refine ret1 rfl S.s rfl ?_
 have hx3 : b ++ be4 v = (b ++ [(IntKind.u8.wrap (sHr .u32 v 24)), (IntKind.u8.wrap (sHr .u32 v 16)), (IntKind.u8.wrap (sHr .u32 v 8)), (IntKind.u8.wrap v)]) := by
  unfold be4
  rw [wrap8, wrap8, wrap8, wrap8, sHr_q (p := 24) (q := 16777216) rfl (by decide), sHr_q (p := 16) (q := 65536) rfl (by decide), sHr_q (p := 8) (q := 256) rfl (by decide)]
 rw [hx3]
 refine ⟨ad18, cap18, rfl, (S.row 0 rfl), S.m.c⟩
set_option maxHeartbeats 2000000 in
set_option maxRecDepth 20000 in
theorem jTake (w : World) (F : Nat → Prop) (hF : Old F w) (M : MS [] w) (b : Sl Int) (b_w : (slE u8E).wf (Fr F []) w.heap b) (k : Int) (k_h : inI64 k) (hk : 0 ≤ k ∧ k + 4 ≤ b.xs.length) :
 Calls Try.prog 67 #[sV b, iI k] w fun e w' => e = .returned (.int .u32 (num4 b.xs (k : Int).toNat)) ∧ Tr [] w [] w' := by
 have : b.xs.length ≤ 9223372036854775807 := (b_w).1.len
 obtain ⟨k_hl, k_hu⟩ : inI64 k := id k_h
 refine go Try.func67 rfl 34 rfl [wfF (slE u8E) b] [] hF M ⟨b_w, trivial⟩ trivial ?_
 intro a S
 have hD : ∀ k, In ([] : List BS) k → ¬ F k := fun _ h => h.elim
 refine rs S (la (av rfl)) ?_; clear S; intro a u S
 refine wp_seq ?_
 obtain ⟨hl2, hu2⟩ : inU8 (b.xs.getD ((k).toNat) u8E.dflt) := id (((S.u 0 rfl)).1.wf (k).toNat (by omega))
 obtain ⟨hl3, hu3⟩ : inU8 (b.xs.getD (((k + 1)).toNat) u8E.dflt) := id (((S.u 0 rfl)).1.wf ((k + 1)).toNat (by omega))
 obtain ⟨hl4, hu4⟩ : inU8 (b.xs.getD (((k + 2)).toNat) u8E.dflt) := id (((S.u 0 rfl)).1.wf ((k + 2)).toNat (by omega))
 obtain ⟨hl5, hu5⟩ : inU8 (b.xs.getD (((k + 3)).toNat) u8E.dflt) := id (((S.u 0 rfl)).1.wf ((k + 3)).toNat (by omega))
 replace S := S.l [(0, sV b), (1, iI k)] (subM rfl)
 refine dr (P := Try.prog) S 30 [] ((5, .is _) :: (6, .is _) :: (7, .is _) :: (8, .is _) :: (9, .is _) :: (10, .is _) :: (11, .is _) :: (12, .is _) :: (13, .is _) :: (14, .is _) :: (15, .is _) :: (16, .is _) :: (17, .is _) :: (18, .is _) :: (19, .is _) :: (20, .is _) :: (21, .is _) :: (22, .is _) :: (23, .is _) :: (24, .is _) :: (25, .is _) :: (26, .is _) :: (27, .is _) :: (28, .is _) :: (29, .is _) :: (30, .is _) :: (31, .is _) :: (32, .is _) :: (33, .is _) :: (4, .is _) :: []) ([] :: [] :: [5, 6] :: [7] :: [8] :: [9] :: [] :: [] :: [12] :: [11, 13] :: [14] :: [15] :: [16] :: [10, 17] :: [] :: [] :: [20] :: [19, 21] :: [22] :: [23] :: [24] :: [18, 25] :: [] :: [] :: [28] :: [27, 29] :: [30] :: [31] :: [26, 32] :: [33] :: []) [4] _ ⟨qd (mv rfl), qd (mv rfl), qd (idxi uT28 sZ5 rfl rfl (k).toNat (by omega) (by omega) (((S.u 0 rfl)).1.adr (i := (k).toNat) (by omega))), qd (ov fun S=>x_load sC5 (S.e rfl) (((S.u 0 rfl)).1.cell (k).toNat (by omega) 0 _ rfl)), qd (ov fun S=>x_conv uT5 uT115 (S.e rfl) (r := (b.xs.getD ((k).toNat) u8E.dflt)) (w_u32 (by omega))), qd (ov fun S=>x_shl (S.e rfl) (S.e rfl) (by omega)), qd (mv rfl), qd (mv rfl), qd (addi (k + 1) rfl rfl (w_i64 (by omega))), qd (idxi uT28 sZ5 rfl rfl ((k + 1)).toNat (by omega) (by omega) (((S.u 0 rfl)).1.adr (i := ((k + 1)).toNat) (by omega))), qd (ov fun S=>x_load sC5 (S.e rfl) (((S.u 0 rfl)).1.cell ((k + 1)).toNat (by omega) 0 _ rfl)), qd (ov fun S=>x_conv uT5 uT115 (S.e rfl) (r := (b.xs.getD (((k + 1)).toNat) u8E.dflt)) (w_u32 (by omega))), qd (ov fun S=>x_shl (S.e rfl) (S.e rfl) (by omega)), qd (ov fun S=>x_bor (S.e rfl) (S.e rfl)), qd (mv rfl), qd (mv rfl), qd (addi (k + 2) rfl rfl (w_i64 (by omega))), qd (idxi uT28 sZ5 rfl rfl ((k + 2)).toNat (by omega) (by omega) (((S.u 0 rfl)).1.adr (i := ((k + 2)).toNat) (by omega))), qd (ov fun S=>x_load sC5 (S.e rfl) (((S.u 0 rfl)).1.cell ((k + 2)).toNat (by omega) 0 _ rfl)), qd (ov fun S=>x_conv uT5 uT115 (S.e rfl) (r := (b.xs.getD (((k + 2)).toNat) u8E.dflt)) (w_u32 (by omega))), qd (ov fun S=>x_shl (S.e rfl) (S.e rfl) (by omega)), qd (ov fun S=>x_bor (S.e rfl) (S.e rfl)), qd (mv rfl), qd (mv rfl), qd (addi (k + 3) rfl rfl (w_i64 (by omega))), qd (idxi uT28 sZ5 rfl rfl ((k + 3)).toNat (by omega) (by omega) (((S.u 0 rfl)).1.adr (i := ((k + 3)).toNat) (by omega))), qd (ov fun S=>x_load sC5 (S.e rfl) (((S.u 0 rfl)).1.cell ((k + 3)).toNat (by omega) 0 _ rfl)), qd (ov fun S=>x_conv uT5 uT115 (S.e rfl) (r := (b.xs.getD (((k + 3)).toNat) u8E.dflt)) (w_u32 (by omega))), qd (ov fun S=>x_bor (S.e rfl) (S.e rfl)), qd (av rfl), trivial⟩ ?_
 clear S; intro a u S G hE
 obtain ⟨hl6, hu6⟩ : inU32 (bOr .u32 (bOr .u32 (bOr .u32 (sHl .u32 (b.xs.getD ((k).toNat) u8E.dflt) 24) (sHl .u32 (b.xs.getD (((k + 1)).toNat) u8E.dflt) 16)) (sHl .u32 (b.xs.getD (((k + 2)).toNat) u8E.dflt) 8)) (b.xs.getD (((k + 3)).toNat) u8E.dflt)) := id (wu32 _)
 obtain ⟨hl7, hu7⟩ : inI64 k := id k_h
 obtain ⟨hl8, hu8⟩ : inU8 (b.xs.getD ((k).toNat) u8E.dflt) := id (((S.u 0 rfl)).1.wf (k).toNat (by omega))
 obtain ⟨hl9, hu9⟩ : inU32 (sHl .u32 (b.xs.getD ((k).toNat) u8E.dflt) 24) := id (wu32 _)
 obtain ⟨hl10, hu10⟩ : inU8 (b.xs.getD (((k + 1)).toNat) u8E.dflt) := id (((S.u 0 rfl)).1.wf ((k + 1)).toNat (by omega))
 obtain ⟨hl11, hu11⟩ : inU32 (sHl .u32 (b.xs.getD (((k + 1)).toNat) u8E.dflt) 16) := id (wu32 _)
 obtain ⟨hl12, hu12⟩ : inU32 (bOr .u32 (sHl .u32 (b.xs.getD ((k).toNat) u8E.dflt) 24) (sHl .u32 (b.xs.getD (((k + 1)).toNat) u8E.dflt) 16)) := id (wu32 _)
 obtain ⟨hl13, hu13⟩ : inU8 (b.xs.getD (((k + 2)).toNat) u8E.dflt) := id (((S.u 0 rfl)).1.wf ((k + 2)).toNat (by omega))
 obtain ⟨hl14, hu14⟩ : inU32 (sHl .u32 (b.xs.getD (((k + 2)).toNat) u8E.dflt) 8) := id (wu32 _)
 obtain ⟨hl15, hu15⟩ : inU32 (bOr .u32 (bOr .u32 (sHl .u32 (b.xs.getD ((k).toNat) u8E.dflt) 24) (sHl .u32 (b.xs.getD (((k + 1)).toNat) u8E.dflt) 16)) (sHl .u32 (b.xs.getD (((k + 2)).toNat) u8E.dflt) 8)) := id (wu32 _)
 obtain ⟨hl16, hu16⟩ : inU8 (b.xs.getD (((k + 3)).toNat) u8E.dflt) := id (((S.u 0 rfl)).1.wf ((k + 3)).toNat (by omega))
 refine ent (wp_ret ?_)
 refine ret1 rfl S.s rfl ?_
 refine ⟨(r1 (vi ?_)), S.m.c⟩
 have e := or4_u32 (a := b.xs.getD k.toNat u8E.dflt) (b := b.xs.getD (k + 1).toNat u8E.dflt) (c := b.xs.getD (k + 2).toNat u8E.dflt) (d := b.xs.getD (k + 3).toNat u8E.dflt) ⟨by assumption, by assumption⟩ ⟨by assumption, by assumption⟩ ⟨by assumption, by assumption⟩ ⟨by assumption, by assumption⟩
 rw [e, show (k + 1).toNat = k.toNat + 1 from by omega, show (k + 2).toNat = k.toNat + 2 from by omega, show (k + 3).toNat = k.toNat + 3 from by omega]; rfl
set_option maxHeartbeats 2000000 in
set_option maxRecDepth 20000 in
theorem jValid (w : World) (F : Nat → Prop) (hF : Old F w) (M : MS [] w) (r : Rec) (r_w : recE.wf (Fr F []) w.heap r) :
 Calls Try.prog 61 #[.agg (recE.cells r).toArray] w fun e w' => e = .returned (bD (recOK r)) ∧ Tr [] w [] w' := by
 obtain ⟨_, _⟩ : inI64 r.kind := r_w.1
 obtain ⟨_, _⟩ : inI64 r.dev := r_w.2.1
 obtain ⟨_, _⟩ : inI64 r.inc := r_w.2.2.1
 obtain ⟨_, _⟩ : inI64 r.seq := r_w.2.2.2
 refine go Try.func61 rfl 55 rfl [wfF recE r] [] hF M ⟨r_w, trivial⟩ trivial ?_
 intro a S
 have hD : ∀ k, In ([] : List BS) k → ¬ F k := fun _ h => h.elim
 refine rs0 ?_
 refine nbp S (x_box _ (S.e rfl) rfl) ?_; clear S; intro a u b1 S
 refine ens S (la (av rfl)) ?_; clear S; intro a u S
 refine wp_seq ?_
 refine rs S (tr (fldi 0 1 rfl uT24)<|tr (ldk 0 sC3 rfl rfl rfl)<|tr (lssi rfl rfl)<|tr (mv rfl)<|tr (og 6 rfl gf fun S hg=>xf (0) 1 uT24 (S.e rfl))<|tr (og 6 rfl gf fun S hg=>x_load sC3 (S.p rfl hg) ((S.k 0 rfl).cell (j := 1) rfl))<|tr (og 6 rfl gf fun S hg=>x_geq (S.p rfl hg) (S.e rfl))<|tr (ori rfl rfl rfl)<|tr (mv rfl)<|tr (og 11 rfl gf fun S hg=>xf (0) 2 uT24 (S.e rfl))<|tr (og 11 rfl gf fun S hg=>x_load sC3 (S.p rfl hg) ((S.k 0 rfl).cell (j := 2) rfl))<|tr (og 11 rfl gf fun S hg=>x_lss (S.p rfl hg) (S.e rfl))<|tr (ori rfl rfl rfl)<|tr (mv rfl)<|tr (og 16 rfl gf fun S hg=>xf (0) 2 uT24 (S.e rfl))<|tr (og 16 rfl gf fun S hg=>x_load sC3 (S.p rfl hg) ((S.k 0 rfl).cell (j := 2) rfl))<|tr (og 16 rfl gf fun S hg=>x_gtr (S.p rfl hg) (S.e rfl))<|tr (ori rfl rfl rfl)<|tr (mv rfl)<|tr (og 21 rfl gf fun S hg=>xf (0) 3 uT24 (S.e rfl))<|tr (og 21 rfl gf fun S hg=>x_load sC3 (S.p rfl hg) ((S.k 0 rfl).cell (j := 3) rfl))<|tr (og 21 rfl gf fun S hg=>x_lss (S.p rfl hg) (S.e rfl))<|tr (ori rfl rfl rfl)<|tr (mv rfl)<|tr (og 26 rfl gf fun S hg=>xf (0) 3 uT24 (S.e rfl))<|tr (og 26 rfl gf fun S hg=>x_load sC3 (S.p rfl hg) ((S.k 0 rfl).cell (j := 3) rfl))<|tr (og 26 rfl gf fun S hg=>x_gtr (S.p rfl hg) (S.e rfl))<|la (ori rfl rfl rfl)) ?_; clear S; intro a u S
 refine cd S rfl ?_ ?_
 ·intro hc0
  refine rs S (la (av rfl)) ?_; clear S; intro a u S
  refine wp_ret (then_r ?_)
  refine ret1 rfl S.s rfl ?_
  replace S := S.pk []
  refine ⟨(r1 (vf ?_)), S.m.c⟩
  unfold recOK
  omega
 intro hc1
 refine wp_skip (then_n (wp_seq ?_))
 refine rs S (tr (fldi 0 0 rfl uT24)<|la (ldk 0 sC3 rfl rfl rfl)) ?_; clear S; intro a u S
 refine wp_block ?_
 refine rs S (tr (eqli rfl rfl)<|la (av rfl)) ?_; clear S; intro a u S
 refine cd S rfl ?_ ?_
 ·intro hc2
  refine rs S (la (av rfl)) ?_; clear S; intro a u S
  refine wp_ret (blk_r (then_r ?_))
  refine ret1 rfl S.s rfl ?_
  replace S := S.pk []
  refine ⟨(r1 (vt ?_)), S.m.c⟩
  unfold recOK
  omega
 intro hc3
 refine rs S (tr (eqli rfl rfl)<|la (av rfl)) ?_; clear S; intro a u S
 refine cd S rfl ?_ ?_
 ·intro hc4
  refine rs S (tr (fldi 0 3 rfl uT24)<|tr (ldk 0 sC3 rfl rfl rfl)<|tr (eqli rfl rfl)<|la (av rfl)) ?_; clear S; intro a u S
  refine wp_ret (blk_r (then_r ?_))
  refine ret1 rfl S.s rfl ?_
  replace S := S.pk []
  refine ⟨(r1 (vb ?_)), S.m.c⟩
  unfold recOK
  omega
 intro hc5
 refine rs S (tr (eqli rfl rfl)<|la (av rfl)) ?_; clear S; intro a u S
 refine cd S rfl ?_ ?_
 ·intro hc6
  refine rs S (tr (fldi 0 3 rfl uT24)<|tr (ldk 0 sC3 rfl rfl rfl)<|tr (eqli rfl rfl)<|tr (mv rfl)<|tr (og 45 rfl gt fun S hg=>xf (0) 2 uT24 (S.e rfl))<|tr (og 45 rfl gt fun S hg=>x_load sC3 (S.p rfl hg) ((S.k 0 rfl).cell (j := 2) rfl))<|tr (og 45 rfl gt fun S hg=>x_eql (S.p rfl hg) (S.e rfl))<|tr (andi rfl rfl rfl)<|la (av rfl)) ?_; clear S; intro a u S
  refine wp_ret (blk_r (then_r ?_))
  refine ret1 rfl S.s rfl ?_
  replace S := S.pk []
  refine ⟨(r1 (vb ?_)), S.m.c⟩
  unfold recOK
  omega
 intro hc7
 refine rs S (tr (eqli rfl rfl)<|la (av rfl)) ?_; clear S; intro a u S
 refine cd S rfl ?_ ?_
 ·intro hc8
  refine rs S (tr (ldkw 0 rfl rfl wD24)<|tr (ov fun S=>x_bd S [(0, iI 4)] [iI 4, iI 0, iI 0, iI 0])<|tr (ov fun S=>x_ageql uT24 (by kernel_rfl) (by kernel_rfl) (S.e rfl) (S.e rfl) (.cons rfl rfl rfl rfl (.int uT3) (.cons rfl rfl rfl rfl (.int uT3) (.cons rfl rfl rfl rfl (.int uT3) (.one rfl rfl rfl rfl (.int uT3))))))<|la (av rfl)) ?_; clear S; intro a u S
  refine wp_ret (blk_r (then_r ?_))
  refine ret1 rfl S.s rfl ?_
  replace S := S.pk []
  refine ⟨(r1 (vb ?_)), S.m.c⟩
  unfold recOK
  omega
 intro hc9
 refine wp_skip (blk_n (then_n ?_))
 refine rs S (la (av rfl)) ?_; clear S; intro a u S
 refine wp_ret ?_
 refine ret1 rfl S.s rfl ?_
 replace S := S.pk []
 refine ⟨(r1 (vf ?_)), S.m.c⟩
 unfold recOK
 omega
set_option maxHeartbeats 2000000 in
set_option maxRecDepth 20000 in
theorem rValid (w : World) (F : Nat → Prop) (hF : Old F w) (M : MS [] w) (r : Rec) (r_w : recE.wf (Fr F []) w.heap r) :
 Calls Try.prog 64 #[.agg (recE.cells r).toArray] w fun e w' => e = .returned (bD (recOK r)) ∧ Tr [] w [] w' := by
 obtain ⟨_, _⟩ : inI64 r.kind := r_w.1
 obtain ⟨_, _⟩ : inI64 r.dev := r_w.2.1
 obtain ⟨_, _⟩ : inI64 r.inc := r_w.2.2.1
 obtain ⟨_, _⟩ : inI64 r.seq := r_w.2.2.2
 refine go Try.func64 rfl 73 rfl [wfF recE r] [] hF M ⟨r_w, trivial⟩ trivial ?_
 intro a S
 have hD : ∀ k, In ([] : List BS) k → ¬ F k := fun _ h => h.elim
 refine rs0 ?_
 refine nbp S (x_box _ (S.e rfl) rfl) ?_; clear S; intro a u b1 S
 refine ens S (la (av rfl)) ?_; clear S; intro a u S
 refine wp_seq ?_
 refine rs S (tr (fldi 0 0 rfl uT24)<|tr (ldk 0 sC3 rfl rfl rfl)<|tr (lssi rfl rfl)<|tr (mv rfl)<|tr (og 6 rfl gf fun S hg=>xf (0) 0 uT24 (S.e rfl))<|tr (og 6 rfl gf fun S hg=>x_load sC3 (S.p rfl hg) ((S.k 0 rfl).cell (j := 0) rfl))<|tr (og 6 rfl gf fun S hg=>x_gtr (S.p rfl hg) (S.e rfl))<|tr (ori rfl rfl rfl)<|tr (mv rfl)<|tr (og 11 rfl gf fun S hg=>xf (0) 1 uT24 (S.e rfl))<|tr (og 11 rfl gf fun S hg=>x_load sC3 (S.p rfl hg) ((S.k 0 rfl).cell (j := 1) rfl))<|tr (og 11 rfl gf fun S hg=>x_lss (S.p rfl hg) (S.e rfl))<|tr (ori rfl rfl rfl)<|tr (mv rfl)<|tr (og 16 rfl gf fun S hg=>xf (0) 1 uT24 (S.e rfl))<|tr (og 16 rfl gf fun S hg=>x_load sC3 (S.p rfl hg) ((S.k 0 rfl).cell (j := 1) rfl))<|tr (og 16 rfl gf fun S hg=>x_geq (S.p rfl hg) (S.e rfl))<|tr (ori rfl rfl rfl)<|tr (mv rfl)<|tr (og 21 rfl gf fun S hg=>xf (0) 2 uT24 (S.e rfl))<|tr (og 21 rfl gf fun S hg=>x_load sC3 (S.p rfl hg) ((S.k 0 rfl).cell (j := 2) rfl))<|tr (og 21 rfl gf fun S hg=>x_lss (S.p rfl hg) (S.e rfl))<|tr (ori rfl rfl rfl)<|tr (mv rfl)<|tr (og 26 rfl gf fun S hg=>xf (0) 2 uT24 (S.e rfl))<|tr (og 26 rfl gf fun S hg=>x_load sC3 (S.p rfl hg) ((S.k 0 rfl).cell (j := 2) rfl))<|tr (og 26 rfl gf fun S hg=>x_gtr (S.p rfl hg) (S.e rfl))<|tr (ori rfl rfl rfl)<|tr (mv rfl)<|tr (og 31 rfl gf fun S hg=>xf (0) 3 uT24 (S.e rfl))<|tr (og 31 rfl gf fun S hg=>x_load sC3 (S.p rfl hg) ((S.k 0 rfl).cell (j := 3) rfl))<|tr (og 31 rfl gf fun S hg=>x_lss (S.p rfl hg) (S.e rfl))<|tr (ori rfl rfl rfl)<|tr (mv rfl)<|tr (og 36 rfl gf fun S hg=>xf (0) 3 uT24 (S.e rfl))<|tr (og 36 rfl gf fun S hg=>x_load sC3 (S.p rfl hg) ((S.k 0 rfl).cell (j := 3) rfl))<|tr (og 36 rfl gf fun S hg=>x_gtr (S.p rfl hg) (S.e rfl))<|la (ori rfl rfl rfl)) ?_; clear S; intro a u S
 refine cd S rfl ?_ ?_
 ·intro hc0
  refine rs S (la (av rfl)) ?_; clear S; intro a u S
  refine wp_ret (then_r ?_)
  refine ret1 rfl S.s rfl ?_
  replace S := S.pk []
  refine ⟨(r1 (vf ?_)), S.m.c⟩
  unfold recOK
  omega
 intro hc1
 refine wp_skip (then_n (wp_seq ?_))
 refine rs S (tr (fldi 0 0 rfl uT24)<|la (ldk 0 sC3 rfl rfl rfl)) ?_; clear S; intro a u S
 refine wp_block ?_
 refine rs S (tr (eqli rfl rfl)<|la (av rfl)) ?_; clear S; intro a u S
 refine cd S rfl ?_ ?_
 ·intro hc2
  refine rs S (tr (fldi 0 3 rfl uT24)<|tr (ldk 0 sC3 rfl rfl rfl)<|tr (eqli rfl rfl)<|la (av rfl)) ?_; clear S; intro a u S
  refine wp_ret (blk_r (then_r ?_))
  refine ret1 rfl S.s rfl ?_
  replace S := S.pk []
  refine ⟨(r1 (vb ?_)), S.m.c⟩
  unfold recOK
  omega
 intro hc3
 refine rs S (tr (eqli rfl rfl)<|la (av rfl)) ?_; clear S; intro a u S
 refine cd S rfl ?_ ?_
 ·intro hc4
  refine rs S (tr (fldi 0 2 rfl uT24)<|tr (ldk 0 sC3 rfl rfl rfl)<|tr (eqli rfl rfl)<|tr (mv rfl)<|tr (og 53 rfl gt fun S hg=>xf (0) 3 uT24 (S.e rfl))<|tr (og 53 rfl gt fun S hg=>x_load sC3 (S.p rfl hg) ((S.k 0 rfl).cell (j := 3) rfl))<|tr (og 53 rfl gt fun S hg=>x_eql (S.p rfl hg) (S.e rfl))<|tr (andi rfl rfl rfl)<|la (av rfl)) ?_; clear S; intro a u S
  refine wp_ret (blk_r (then_r ?_))
  refine ret1 rfl S.s rfl ?_
  replace S := S.pk []
  refine ⟨(r1 (vb ?_)), S.m.c⟩
  unfold recOK
  omega
 intro hc5
 refine rs S (tr (eqli rfl rfl)<|la (av rfl)) ?_; clear S; intro a u S
 refine cd S rfl ?_ ?_
 ·intro hc6
  refine rs S (tr (fldi 0 1 rfl uT24)<|tr (ldk 0 sC3 rfl rfl rfl)<|tr (eqli rfl rfl)<|tr (mv rfl)<|tr (og 63 rfl gt fun S hg=>xf (0) 2 uT24 (S.e rfl))<|tr (og 63 rfl gt fun S hg=>x_load sC3 (S.p rfl hg) ((S.k 0 rfl).cell (j := 2) rfl))<|tr (og 63 rfl gt fun S hg=>x_eql (S.p rfl hg) (S.e rfl))<|tr (andi rfl rfl rfl)<|tr (mv rfl)<|tr (og 68 rfl gt fun S hg=>xf (0) 3 uT24 (S.e rfl))<|tr (og 68 rfl gt fun S hg=>x_load sC3 (S.p rfl hg) ((S.k 0 rfl).cell (j := 3) rfl))<|tr (og 68 rfl gt fun S hg=>x_eql (S.p rfl hg) (S.e rfl))<|tr (andi rfl rfl rfl)<|la (av rfl)) ?_; clear S; intro a u S
  refine wp_ret (blk_r (then_r ?_))
  refine ret1 rfl S.s rfl ?_
  replace S := S.pk []
  refine ⟨(r1 (vb ?_)), S.m.c⟩
  unfold recOK
  omega
 intro hc7
 refine wp_skip (blk_n (then_n ?_))
 refine rs S (la (av rfl)) ?_; clear S; intro a u S
 refine wp_ret ?_
 refine ret1 rfl S.s rfl ?_
 replace S := S.pk []
 refine ⟨(r1 (vt ?_)), S.m.c⟩
 unfold recOK
 omega
set_option maxHeartbeats 2000000 in
set_option maxRecDepth 20000 in
theorem rNum (w : World) (F : Nat → Prop) (hF : Old F w) (M : MS [] w) (b : Sl Int) (b_w : (slE u8E).wf (Fr F []) w.heap b) (hk : 4 ≤ b.xs.length) :
 Calls Try.prog 70 #[sV b] w fun e w' => e = .returned (iI (num4 b.xs 0)) ∧ Tr [] w [] w' := by
 have : b.xs.length ≤ 9223372036854775807 := (b_w).1.len
 refine go Try.func70 rfl 25 rfl [wfF (slE u8E) b] [] hF M ⟨b_w, trivial⟩ trivial ?_
 intro a S
 have hD : ∀ k, In ([] : List BS) k → ¬ F k := fun _ h => h.elim
 refine rs S (la (av rfl)) ?_; clear S; intro a u S
 refine wp_seq ?_
 obtain ⟨hl2, hu2⟩ : inU8 (b.xs.getD 0 u8E.dflt) := id (((S.u 0 rfl)).1.wf 0 (by omega))
 obtain ⟨hl3, hu3⟩ : inU8 (b.xs.getD 1 u8E.dflt) := id (((S.u 0 rfl)).1.wf 1 (by omega))
 obtain ⟨hl4, hu4⟩ : inU8 (b.xs.getD 2 u8E.dflt) := id (((S.u 0 rfl)).1.wf 2 (by omega))
 obtain ⟨hl5, hu5⟩ : inU8 (b.xs.getD 3 u8E.dflt) := id (((S.u 0 rfl)).1.wf 3 (by omega))
 replace S := S.l [(0, sV b)] (subM rfl)
 refine dr (P := Try.prog) S 23 [] [(3, .is _), (4, .is _), (5, .is _), (6, .is _), (7, .is _), (8, .is _), (9, .is _), (10, .is _), (11, .is _), (12, .is _), (13, .is _), (14, .is _), (15, .is _), (16, .is _), (17, .is _), (18, .is _), (19, .is _), (20, .is _), (21, .is _), (22, .is _), (23, .is _), (24, .is _), (2, .is _)] [[], [3], [4], [5], [6], [], [8], [9], [10], [11], [7, 12], [], [14], [15], [16], [17], [13, 18], [], [20], [21], [22], [19, 23], [24]] [2] _ ⟨qd (mv rfl), qd (idxi uT28 sZ5 rfl rfl 0 rfl (by omega) (((S.u 0 rfl)).1.adr (i := 0) (by omega))), qd (ov fun S=>x_load sC5 (S.e rfl) (((S.u 0 rfl)).1.cell 0 (by omega) 0 _ rfl)), qd (ov fun S=>x_conv uT5 uT3 (S.e rfl) (r := (b.xs.getD 0 u8E.dflt)) (w_i64 (by omega))), qd (ov fun S=>x_shl (S.e rfl) (S.e rfl) (by omega)), qd (mv rfl), qd (idxi uT28 sZ5 rfl rfl 1 rfl (by omega) (((S.u 0 rfl)).1.adr (i := 1) (by omega))), qd (ov fun S=>x_load sC5 (S.e rfl) (((S.u 0 rfl)).1.cell 1 (by omega) 0 _ rfl)), qd (ov fun S=>x_conv uT5 uT3 (S.e rfl) (r := (b.xs.getD 1 u8E.dflt)) (w_i64 (by omega))), qd (ov fun S=>x_shl (S.e rfl) (S.e rfl) (by omega)), qd (ov fun S=>x_bor (S.e rfl) (S.e rfl)), qd (mv rfl), qd (idxi uT28 sZ5 rfl rfl 2 rfl (by omega) (((S.u 0 rfl)).1.adr (i := 2) (by omega))), qd (ov fun S=>x_load sC5 (S.e rfl) (((S.u 0 rfl)).1.cell 2 (by omega) 0 _ rfl)), qd (ov fun S=>x_conv uT5 uT3 (S.e rfl) (r := (b.xs.getD 2 u8E.dflt)) (w_i64 (by omega))), qd (ov fun S=>x_shl (S.e rfl) (S.e rfl) (by omega)), qd (ov fun S=>x_bor (S.e rfl) (S.e rfl)), qd (mv rfl), qd (idxi uT28 sZ5 rfl rfl 3 rfl (by omega) (((S.u 0 rfl)).1.adr (i := 3) (by omega))), qd (ov fun S=>x_load sC5 (S.e rfl) (((S.u 0 rfl)).1.cell 3 (by omega) 0 _ rfl)), qd (ov fun S=>x_conv uT5 uT3 (S.e rfl) (r := (b.xs.getD 3 u8E.dflt)) (w_i64 (by omega))), qd (ov fun S=>x_bor (S.e rfl) (S.e rfl)), qd (av rfl), trivial⟩ ?_
 clear S; intro a u S G hE
 obtain ⟨hl6, hu6⟩ : inI64 (bOr .i64 (bOr .i64 (bOr .i64 (sHl .i64 (b.xs.getD 0 u8E.dflt) 24) (sHl .i64 (b.xs.getD 1 u8E.dflt) 16)) (sHl .i64 (b.xs.getD 2 u8E.dflt) 8)) (b.xs.getD 3 u8E.dflt)) := id (wi64 _)
 obtain ⟨hl7, hu7⟩ : inU8 (b.xs.getD 0 u8E.dflt) := id (((S.u 0 rfl)).1.wf 0 (by omega))
 obtain ⟨hl8, hu8⟩ : inI64 (sHl .i64 (b.xs.getD 0 u8E.dflt) 24) := id (wi64 _)
 obtain ⟨hl9, hu9⟩ : inU8 (b.xs.getD 1 u8E.dflt) := id (((S.u 0 rfl)).1.wf 1 (by omega))
 obtain ⟨hl10, hu10⟩ : inI64 (sHl .i64 (b.xs.getD 1 u8E.dflt) 16) := id (wi64 _)
 obtain ⟨hl11, hu11⟩ : inI64 (bOr .i64 (sHl .i64 (b.xs.getD 0 u8E.dflt) 24) (sHl .i64 (b.xs.getD 1 u8E.dflt) 16)) := id (wi64 _)
 obtain ⟨hl12, hu12⟩ : inU8 (b.xs.getD 2 u8E.dflt) := id (((S.u 0 rfl)).1.wf 2 (by omega))
 obtain ⟨hl13, hu13⟩ : inI64 (sHl .i64 (b.xs.getD 2 u8E.dflt) 8) := id (wi64 _)
 obtain ⟨hl14, hu14⟩ : inI64 (bOr .i64 (bOr .i64 (sHl .i64 (b.xs.getD 0 u8E.dflt) 24) (sHl .i64 (b.xs.getD 1 u8E.dflt) 16)) (sHl .i64 (b.xs.getD 2 u8E.dflt) 8)) := id (wi64 _)
 obtain ⟨hl15, hu15⟩ : inU8 (b.xs.getD 3 u8E.dflt) := id (((S.u 0 rfl)).1.wf 3 (by omega))
 refine ent (wp_ret ?_)
 refine ret1 rfl S.s rfl ?_
 refine ⟨(r1 (vi ?_)), S.m.c⟩
 have e := or4_i64 (a := b.xs.getD 0 u8E.dflt) (b := b.xs.getD 1 u8E.dflt) (c := b.xs.getD 2 u8E.dflt) (d := b.xs.getD 3 u8E.dflt) ⟨by assumption, by assumption⟩ ⟨by assumption, by assumption⟩ ⟨by assumption, by assumption⟩ ⟨by assumption, by assumption⟩
 rw [e]; rfl
set_option maxHeartbeats 2000000 in
set_option maxRecDepth 20000 in
theorem rPut (w : World) (F : Nat → Prop) (hF : Old F w) (b_a : Option Addr) (M : MS [abk b_a] w) (hD : ∀ k, In [abk b_a] k → ¬ F k) (b_c : Nat) (b : List Int) (b_R : Row u8E 5 0 F [abk b_a] w b_a b_c b) (v : Int) (v_h : inU64 v) (c : Int) (c_h : inI64 c) (hb : b.length ≤ 1000000 ∧ c = 4) :
 Calls Try.prog 65 #[.slice b_a b.length b_c, .int .u64 v, iI c] w fun e w' => ∃ (ra : Option Addr) (rc : Nat), e = .returned (.slice ra ((b ++ be4 v).length) rc) ∧ Row u8E 5 0 F [abk ra] w' ra rc (b ++ be4 v) ∧ Tr [abk b_a] w [abk ra] w' := by
 obtain ⟨v_hl, v_hu⟩ : inU64 v := id v_h
 obtain ⟨c_hl, c_hu⟩ : inI64 c := id c_h
 refine go Try.func65 rfl 24 rfl [] [rwO u8E 5 0 b_a b_c b] hF M trivial ⟨⟨b_R.own, b_R.wf⟩, trivial⟩ ?_
 intro a S
 refine rs S (la (av rfl)) ?_; clear S; intro a u S
 refine wp_seq ?_
 refine rs S (tr (mv rfl)<|tr (subi (c - 1) rfl rfl (w_i64 (by omega)))<|la (av rfl)) ?_; clear S; intro a u S
 refine wp_block ?_
 refine lp4 (fun (k : Int) (bb_a : Option Addr) (bb_c : Nat) (bb : List Int) => [(1, .int .u64 v), (6, .slice none 0 0), (7, iI k), (0, .slice bb_a bb.length bb_c)]) (fun (k : Int) (bb_a : Option Addr) (bb_c : Nat) (bb : List Int) => [rwO u8E 5 0 bb_a bb_c bb]) (fun (k : Int) (bb_a : Option Addr) (bb_c : Nat) (bb : List Int) => -1 ≤ k ∧ k ≤ 3 ∧ bb = b ++ (be4 v).take (3 - k).toNat) (fun (k : Int) (bb_a : Option Addr) (bb_c : Nat) (bb : List Int) => (k + 1).toNat) S (c - 1) b_a b_c b (subM rfl) rfl ?_ ?_
 ·refine ⟨by omega, by omega, ?_⟩
  rw [show (3 - (c - 1)).toNat = 0 from by omega]; simp
 clear S; intro k bb_a bb_c bb a u S hR
 have bb_len := (S.row 0 rfl).len_le; simp only [maxLen] at bb_len
 obtain ⟨hk0, hk1, hbb⟩ := hR
 have hbl : bb.length = b.length + (3 - k).toNat := by rw [hbb, List.length_append, List.length_take, be4_len]; omega
 refine wp_seq ?_
 refine rs S (tr (mv rfl)<|la (geqi rfl rfl)) ?_; clear S; intro a u S
 refine cd S rfl ?_ ?_
 ·intro hc0
  refine wp_skip (then_n (wp_seq (wp_block (r0 ?_))))
  refine sp S (tr (mv rfl)<|tr (mv rfl)<|tr (mv rfl)<|tr (muli (8 * k) rfl rfl (w_i64 (by omega)))<|tr (ov fun S=>x_conv uT3 uT40 (S.e rfl) (r := (8 * k)) (w_u64 (by omega)))<|tr (ov fun S=>x_shr (S.e rfl) (S.e rfl) (by omega))<|la (ov fun S=>x_conv uT118 uT5 (S.e rfl) (r := (IntKind.u8.wrap (sHr .u64 v (8 * k)))) rfl)) ?_; clear S; intro a u S
  refine nbs u8E S [(IntKind.u8.wrap (sHr .u64 v (8 * k)))] (x_bs S [(0, .int .u8 (IntKind.u8.wrap (sHr .u64 v (8 * k))))] uT28 iZ5) (fun x hx => by simp only [List.mem_cons, List.not_mem_nil, or_false] at hx; rw [hx]; exact (show u8E.wf _ _ (IntKind.u8.wrap (sHr .u64 v (8 * k))) from (wu8 _))) ?_; clear S; intro a u b21 S
  refine ap (E := u8E) (ys := [(IntKind.u8.wrap (sHr .u64 v (8 * k)))]) S 0 rfl uT28 iZ5 rfl rfl (show LAt u8E _ _ (some ⟨b21, 0, none⟩) ([(IntKind.u8.wrap (sHr .u64 v (8 * k)))]) from ((S.u 0 rfl)).1) ((S.u 0 rfl)).2.2 (LAt.mem (show LAt u8E _ _ (some ⟨b21, 0, none⟩) ([(IntKind.u8.wrap (sHr .u64 v (8 * k)))]) from ((S.u 0 rfl)).1)) ⟨by unfold maxLen; (try simp only [List.length_cons, List.length_nil, List.length_append, List.length_map]); omega, by (try simp only [List.length_cons, List.length_nil, List.length_append, List.length_map]); omega⟩ ?_; clear S; intro a u ad22 cap22 S
  refine en S (la (av rfl)) ?_; clear S; intro a u S
  refine blk_n (then_n ?_)
  refine rg S (tr (mv rfl)<|tr (subi (k - 1) rfl rfl (w_i64 (by omega)))<|la (av rfl)) ?_; clear S; intro a u S
  refine then_n ?_
  refine ⟨(k - 1), ad22, cap22, (bb ++ [(IntKind.u8.wrap (sHr .u64 v (8 * k)))]), S.re (subM rfl) rfl rfl, ?_, ?_⟩
  ·refine ⟨by omega, by omega, ?_⟩
   rw [hbb, List.append_assoc]
   congr 1
   rcases (by omega : k = 0 ∨ k = 1 ∨ k = 2 ∨ k = 3) with h | h | h | h <;> subst h
   ·rw [wrap8, sHr_q (q := 1) rfl (by decide)]; simp [be4]
   ·rw [wrap8, sHr_q (q := 256) rfl (by decide)]; simp [be4]
   ·rw [wrap8, sHr_q (q := 65536) rfl (by decide)]; simp [be4]
   rw [wrap8, sHr_q (q := 16777216) rfl (by decide)]; simp [be4]
  omega
 intro hc1
 refine wp_exit (then_e (then_e (blk_e (then_n ?_))))
 refine rs S (tr (mv rfl)<|la (av rfl)) ?_; clear S; intro a u S
 refine wp_ret ?_
 refine ret1 rfl S.s rfl ?_
 have hx7 : b ++ be4 v = bb := by
  rw [hbb, List.take_of_length_le (by rw [be4_len]; omega)]
 rw [hx7]
 refine ⟨bb_a, bb_c, rfl, (S.row 0 rfl), S.m.c⟩
end Go.Proofs.Ytobggnpnochnnaa.V
