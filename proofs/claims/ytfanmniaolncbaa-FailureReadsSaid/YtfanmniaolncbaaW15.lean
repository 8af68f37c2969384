/- the examples -/
import Derived.Test.YtfanmniaolncbaaW12
import Derived.Test.YtfanmniaolncbaaGrpE
namespace Go.Proofs.Ytfanmniaolncbaa.V
open Go.RowKit Go.Proofs.Ytfanmniaolncbaa
set_option linter.unusedVariables false
set_option linter.unusedSimpArgs false
set_option maxHeartbeats 2000000 in
set_option maxRecDepth 20000 in
theorem lTri (w : World) (F : Nat → Prop) (hF : Old F w) (M : MS [] w) :
 Calls Try.prog 55 #[] w fun e w' => ∃ (r : Topo), e = .returned (.agg (topoE.cells r).toArray) ∧ topoE.wf (Fr F []) w'.heap r ∧ isTri r ∧ Tr [] w [] w' := by
 refine go Try.func55 rfl 10 rfl [] [] hF M trivial trivial ?_
 intro a S
 refine rs0 ?_
 refine nbp S (x_allocz _ iZ28 rfl) ?_; clear S; intro a u b0 S
 refine ent (rs0 ?_)
 refine sp S (tr (ov fun S=>x_bd S [(0, .string (⟨#[97]⟩))] [.string (⟨#[97]⟩), iI 0, .bool false, .bool false, .string (⟨#[]⟩)])<|tr (ov fun S=>x_bd S [(0, .string (⟨#[98]⟩))] [.string (⟨#[98]⟩), iI 0, .bool false, .bool false, .string (⟨#[]⟩)])<|la (ov fun S=>x_bd S [(0, .string (⟨#[99]⟩))] [.string (⟨#[99]⟩), iI 0, .bool false, .bool false, .string (⟨#[]⟩)])) ?_; clear S; intro a u S
 refine nbs devE S [(⟨⟨#[97]⟩, 0, false, false, ⟨#[]⟩⟩ : Dev), (⟨⟨#[98]⟩, 0, false, false, ⟨#[]⟩⟩ : Dev), (⟨⟨#[99]⟩, 0, false, false, ⟨#[]⟩⟩ : Dev)] (x_bs S [(0, .agg #[.string (⟨#[97]⟩), iI 0, .bool false, .bool false, .string (⟨#[]⟩)]), (1, .agg #[.string (⟨#[98]⟩), iI 0, .bool false, .bool false, .string (⟨#[]⟩)]), (2, .agg #[.string (⟨#[99]⟩), iI 0, .bool false, .bool false, .string (⟨#[]⟩)])] uT23 iZ65) (fun x hx => by simp only [List.mem_cons, List.not_mem_nil, or_false] at hx; rcases hx with hx | hx | hx <;> rw [hx] <;> first | exact (show devE.wf _ _ (⟨⟨#[97]⟩, 0, false, false, ⟨#[]⟩⟩ : Dev) from ⟨(show (⟨#[97]⟩ : ByteArray).size ≤ maxLen from by unfold maxLen; decide), (show inI64 0 from ⟨by omega, by omega⟩), trivial, trivial, (show (⟨#[]⟩ : ByteArray).size ≤ maxLen from by unfold maxLen; decide)⟩) | exact (show devE.wf _ _ (⟨⟨#[98]⟩, 0, false, false, ⟨#[]⟩⟩ : Dev) from ⟨(show (⟨#[98]⟩ : ByteArray).size ≤ maxLen from by unfold maxLen; decide), (show inI64 0 from ⟨by omega, by omega⟩), trivial, trivial, (show (⟨#[]⟩ : ByteArray).size ≤ maxLen from by unfold maxLen; decide)⟩) | exact (show devE.wf _ _ (⟨⟨#[99]⟩, 0, false, false, ⟨#[]⟩⟩ : Dev) from ⟨(show (⟨#[99]⟩ : ByteArray).size ≤ maxLen from by unfold maxLen; decide), (show inI64 0 from ⟨by omega, by omega⟩), trivial, trivial, (show (⟨#[]⟩ : ByteArray).size ≤ maxLen from by unfold maxLen; decide)⟩)) ?_; clear S; intro a u b4 S
 refine sp S (tr (ov fun S=>x_bd S [(0, iI 0), (1, iI 1), (2, iI 1)] [iI 0, iI 1, iI 1])<|tr (ov fun S=>x_bd S [(0, iI 1), (1, iI 2), (2, iI 1)] [iI 1, iI 2, iI 1])<|la (ov fun S=>x_bd S [(0, iI 0), (1, iI 2), (2, iI 1)] [iI 0, iI 2, iI 1])) ?_; clear S; intro a u S
 refine nbs lnkE S [(⟨0, 1, 1⟩ : Lnk), (⟨1, 2, 1⟩ : Lnk), (⟨0, 2, 1⟩ : Lnk)] (x_bs S [(0, .agg #[iI 0, iI 1, iI 1]), (1, .agg #[iI 1, iI 2, iI 1]), (2, .agg #[iI 0, iI 2, iI 1])] uT24 iZ54) (fun x hx => by simp only [List.mem_cons, List.not_mem_nil, or_false] at hx; rcases hx with hx | hx | hx <;> rw [hx] <;> first | exact (show lnkE.wf _ _ (⟨0, 1, 1⟩ : Lnk) from ⟨(show inI64 0 from ⟨by omega, by omega⟩), (show inI64 1 from ⟨by omega, by omega⟩), (show inI64 1 from ⟨by omega, by omega⟩)⟩) | exact (show lnkE.wf _ _ (⟨1, 2, 1⟩ : Lnk) from ⟨(show inI64 1 from ⟨by omega, by omega⟩), (show inI64 2 from ⟨by omega, by omega⟩), (show inI64 1 from ⟨by omega, by omega⟩)⟩) | exact (show lnkE.wf _ _ (⟨0, 2, 1⟩ : Lnk) from ⟨(show inI64 0 from ⟨by omega, by omega⟩), (show inI64 2 from ⟨by omega, by omega⟩), (show inI64 1 from ⟨by omega, by omega⟩)⟩)) ?_; clear S; intro a u b8 S
 refine ens S (tr (ov fun S=>x_bd S [(0, .slice (some ⟨b4, 0, none⟩) 3 3), (1, .slice (some ⟨b8, 0, none⟩) 3 3), (4, iI 1)] [.slice (some ⟨b4, 0, none⟩) 3 3, .slice (some ⟨b8, 0, none⟩) 3 3, .slice none 0 0, .slice none 0 0, iI 1])<|la (stkw 0 rfl rfl rfl)) ?_; clear S; intro a u S
 refine wp_ret ?_
 refine retcw rfl S.s rfl [.slice (some ⟨b4, 0, none⟩) 3 3, .slice (some ⟨b8, 0, none⟩) 3 3, .slice none 0 0, .slice none 0 0, iI 1] wD28 (fun j v hv => by rw [Nat.zero_add]; exact (S.k 0 rfl).cell hv) ?_
 replace S := S.pk []
 refine ⟨(⟨(Sl.mk (some ⟨b4, 0, none⟩) 3 ([(⟨⟨#[97]⟩, 0, false, false, ⟨#[]⟩⟩ : Dev), (⟨⟨#[98]⟩, 0, false, false, ⟨#[]⟩⟩ : Dev), (⟨⟨#[99]⟩, 0, false, false, ⟨#[]⟩⟩ : Dev)])), (Sl.mk (some ⟨b8, 0, none⟩) 3 ([(⟨0, 1, 1⟩ : Lnk), (⟨1, 2, 1⟩ : Lnk), (⟨0, 2, 1⟩ : Lnk)])), (Sl.mk none 0 ([])), (Sl.mk none 0 ([])), 1⟩ : Topo), rfl, ⟨(S.u 0 rfl), (S.u 1 rfl), sl_nil, sl_nil, (show inI64 1 from ⟨by omega, by omega⟩)⟩, ?_, S.m.c⟩
 exact ⟨rfl, rfl, rfl, rfl, rfl⟩
set_option maxHeartbeats 2000000 in
set_option maxRecDepth 20000 in
theorem lSane (w : World) (F : Nat → Prop) (hF : Old F w) (M : MS [] w) :
 Calls Try.prog 21 #[] w fun e w' => e = .returned (bD (True)) ∧ Tr [] w [] w' := by
 refine go Try.func21 rfl 48 rfl [] [] hF M trivial trivial ?_
 intro a S
 refine rs S (la (av rfl)) ?_; clear S; intro a u S
 refine rs0 ?_
 refine cl S (lTri _ _ S.x (.nil _)) cB55 ?_
 rintro e u ⟨r_t4, rfl, R_t4, hr_t4, T0⟩; refine ⟨_, rfl, fun a s => ?_⟩
 replace S := (S.k0 s T0).ar (wfF topoE r_t4) (Enc.up _ R_t4); clear s T0 R_t4
 have hn3 : r_t4.devs.xs.length ≤ 9223372036854775807 := ((S.u 0 rfl).1).1.len
 have hn4 : r_t4.links.xs.length ≤ 9223372036854775807 := ((S.u 0 rfl).2.1).1.len
 have hn5 : r_t4.edges.xs.length ≤ 9223372036854775807 := ((S.u 0 rfl).2.2.1).1.len
 have hn6 : r_t4.pools.xs.length ≤ 9223372036854775807 := ((S.u 0 rfl).2.2.2.1).1.len
 obtain ⟨hl7, hu7⟩ : inI64 r_t4.tol := id ((S.u 0 rfl).2.2.2.2)
 refine nbp S (x_allocz _ iZ28 rfl) ?_; clear S; intro a u b1 S
 refine ens S (la (stkw 0 rfl rfl rfl)) ?_; clear S; intro a u S
 refine rs0 ?_
 refine nbs intE S [0] (x_bs S [(0, iI 0)] uT22 iZ3) (fun x hx => by simp only [List.mem_cons, List.not_mem_nil, or_false] at hx; rw [hx]; exact (show intE.wf _ _ 0 from (show inI64 0 from ⟨by omega, by omega⟩))) ?_; clear S; intro a u b5 S
 refine sp S (la (ov fun S=>x_bd S [(0, .slice (some ⟨b5, 0, none⟩) 1 1)] [.slice (some ⟨b5, 0, none⟩) 1 1, .slice none 0 0])) ?_; clear S; intro a u S
 refine nbp S (x_allocz _ iZ41 rfl) ?_; clear S; intro a u b2 S
 refine ens S (la (stkw 1 rfl rfl rfl)) ?_; clear S; intro a u S
 refine rs0 ?_
 refine sp S (tr (ldkw 0 rfl rfl wD28)<|la (ldkw 1 rfl rfl wD41)) ?_; clear S; intro a u S
 refine cl S (fBridges _ _ S.x (.nil _) r_t4 (dn0 (S.u 0 rfl)) (⟨(Sl.mk (some ⟨b5, 0, none⟩) 1 ([0])), (Sl.mk none 0 ([]))⟩ : Fail) ⟨(dn0 (S.u 1 rfl)), sl_nil⟩) cB35 ?_
 rintro e u ⟨ra_t9, rc_t9, rfl, R_t9, T0⟩; refine ⟨_, rfl, fun a s => ?_⟩
 replace S := (S.k0 s T0).ar (wfF (slE intE) (Sl.mk ra_t9 rc_t9 (bridgesOf r_t4 (⟨(Sl.mk (some ⟨b5, 0, none⟩) 1 ([0])), (Sl.mk none 0 ([]))⟩ : Fail)))) (Enc.up _ R_t9); clear s T0 R_t9
 have h2 := tri_two hr_t4 (f := (⟨⟨some ⟨b5, 0, none⟩, 1, [0]⟩, ⟨none, 0, []⟩⟩ : Fail)) rfl rfl
 have h0 := tri_none hr_t4 (f := (⟨⟨none, 0, []⟩, ⟨none, 0, []⟩⟩ : Fail)) rfl rfl
 have hn10 : (bridgesOf r_t4 (⟨(Sl.mk (some ⟨b5, 0, none⟩) 1 ([0])), (Sl.mk none 0 ([]))⟩ : Fail)).length ≤ 9223372036854775807 := ((S.u 2 rfl)).1.len
 refine ens S (la (av rfl)) ?_; clear S; intro a u S
 refine rs0 ?_
 refine sp S (la (ldkw 0 rfl rfl wD28)) ?_; clear S; intro a u S
 refine cl S (fAll _ _ S.x (.nil _) r_t4 (dn0 (S.u 0 rfl))) cB18 ?_
 rintro e u ⟨r_t11, rfl, R_t11, hr_t11, T0⟩; refine ⟨_, rfl, fun a s => ?_⟩
 replace S := (S.k0 s T0).ar (wfF (slE failE) r_t11) (Enc.up _ R_t11); clear s T0 R_t11
 have h7 := congrArg List.length hr_t11; rw [List.length_map, tri_all hr_t4] at h7
 have hn12 : r_t11.xs.length ≤ 9223372036854775807 := ((S.u 3 rfl)).1.len
 refine sp S (tr (leni uT34 rfl)<|tr (eqli rfl rfl)<|la (mv rfl)) ?_; clear S; intro a u S
 refine (Classical.em (((r_t11.xs.length : Nat) : Int) = 7)).elim (fun hs13 => ?_) (fun hs13 => ?_)
 ·replace S := S.ext (d := 14) (v := .bool true) ((S.get 14 rfl).trans (congrArg Value.bool (decide_eq_true hs13)))
  refine sp S (tr (gon 14 rfl fun S=>x_ldw (S.e rfl) (S.k 0 rfl).all wD28)<|la (gon 14 rfl fun S=>x_bd S [] [.slice none 0 0, .slice none 0 0])) ?_; clear S; intro a u S
  refine strip S.s rfl rfl (gd := 14) rfl ?_
  refine cl S (fBridges _ _ S.x (.nil _) r_t4 (dn0 (S.u 0 rfl)) (⟨(Sl.mk none 0 ([])), (Sl.mk none 0 ([]))⟩ : Fail) ⟨sl_nil, sl_nil⟩) cB35 ?_
  rintro e u ⟨ra_t17, rc_t17, rfl, R_t17, T0⟩; refine ⟨_, rfl, fun a s => ?_⟩
  replace S := (S.k0 s T0).ar (wfF (slE intE) (Sl.mk ra_t17 rc_t17 (bridgesOf r_t4 (⟨(Sl.mk none 0 ([])), (Sl.mk none 0 ([]))⟩ : Fail)))) (Enc.up _ R_t17); clear s T0 R_t17
  have hn14 : (bridgesOf r_t4 (⟨(Sl.mk none 0 ([])), (Sl.mk none 0 ([]))⟩ : Fail)).length ≤ 9223372036854775807 := ((S.u 4 rfl)).1.len
  refine sp S (tr (gon 14 rfl fun S=>x_len uT22 (S.e rfl))<|tr (gon 14 rfl fun S=>x_eql (S.e rfl) (S.e rfl))<|tr (ov fun S=>x_pickt (S.e rfl) (S.e rfl))<|la (mv rfl)) ?_; clear S; intro a u S
  refine (Classical.em ((((bridgesOf r_t4 (⟨(Sl.mk none 0 ([])), (Sl.mk none 0 ([]))⟩ : Fail)).length : Nat) : Int) = 0)).elim (fun hs15 => ?_) (fun hs15 => ?_)
  ·replace S := S.ext (d := 21) (v := .bool true) ((S.get 21 rfl).trans (congrArg Value.bool (decide_eq_true hs15)))
   refine sp S (tr (gon 21 rfl fun S=>x_move (S.e rfl))<|tr (gon 21 rfl fun S=>x_len uT22 (S.e rfl))<|tr (gon 21 rfl fun S=>x_eql (S.e rfl) (S.e rfl))<|tr (ov fun S=>x_pickt (S.e rfl) (S.e rfl))<|la (mv rfl)) ?_; clear S; intro a u S
   refine (Classical.em ((((bridgesOf r_t4 (⟨(Sl.mk (some ⟨b5, 0, none⟩) 1 ([0])), (Sl.mk none 0 ([]))⟩ : Fail)).length : Nat) : Int) = 2)).elim (fun hs16 => ?_) (fun hs16 => ?_)
   ·replace S := S.ext (d := 26) (v := .bool true) ((S.get 26 rfl).trans (congrArg Value.bool (decide_eq_true hs16)))
    obtain ⟨hl17, hu17⟩ : inI64 ((bridgesOf r_t4 (⟨(Sl.mk (some ⟨b5, 0, none⟩) 1 ([0])), (Sl.mk none 0 ([]))⟩ : Fail)).getD 0 intE.dflt) := id ((show LAt intE _ _ ra_t9 (bridgesOf r_t4 (⟨(Sl.mk (some ⟨b5, 0, none⟩) 1 ([0])), (Sl.mk none 0 ([]))⟩ : Fail)) from ((S.u 2 rfl)).1).wf 0 (by omega))
    refine sp S (tr (gon 26 rfl fun S=>x_move (S.e rfl))<|tr (gon 26 rfl fun S=>x_idx uT22 sZ3 (S.e rfl) (S.e rfl) 0 rfl (by omega) ((show LAt intE _ _ ra_t9 (bridgesOf r_t4 (⟨(Sl.mk (some ⟨b5, 0, none⟩) 1 ([0])), (Sl.mk none 0 ([]))⟩ : Fail)) from ((S.u 2 rfl)).1).adr (i := 0) (by omega)))<|tr (gon 26 rfl fun S=>x_load sC3 (S.e rfl) ((show LAt intE _ _ ra_t9 (bridgesOf r_t4 (⟨(Sl.mk (some ⟨b5, 0, none⟩) 1 ([0])), (Sl.mk none 0 ([]))⟩ : Fail)) from ((S.u 2 rfl)).1).cell 0 (by omega) 0 _ rfl))<|tr (gon 26 rfl fun S=>x_eql (S.e rfl) (S.e rfl))<|tr (ov fun S=>x_pickt (S.e rfl) (S.e rfl))<|la (mv rfl)) ?_; clear S; intro a u S
    refine (Classical.em (((bridgesOf r_t4 (⟨(Sl.mk (some ⟨b5, 0, none⟩) 1 ([0])), (Sl.mk none 0 ([]))⟩ : Fail)).getD 0 intE.dflt) = 1)).elim (fun hs18 => ?_) (fun hs18 => ?_)
    ·replace S := S.ext (d := 32) (v := .bool true) ((S.get 32 rfl).trans (congrArg Value.bool (decide_eq_true hs18)))
     refine sp S (tr (gon 32 rfl fun S=>x_ldw (S.e rfl) (S.k 0 rfl).all wD28)<|la (gon 32 rfl fun S=>x_ldw (S.e rfl) (S.k 1 rfl).all wD41)) ?_; clear S; intro a u S
     refine strip S.s rfl rfl (gd := 32) rfl ?_
     refine sp S (tr (oc (fun S=>fConn _ _ S.x (.nil _) r_t4 (dn0 (S.u 0 rfl)) (⟨(Sl.mk (some ⟨b5, 0, none⟩) 1 ([0])), (Sl.mk none 0 ([]))⟩ : Fail) ⟨(dn0 (S.u 1 rfl)), sl_nil⟩ 0 ⟨by omega, by omega⟩ 1 ⟨by omega, by omega⟩) cB27)<|tr (ov fun S=>x_pickt (S.e rfl) (S.e rfl))<|la (mv rfl)) ?_; clear S; intro a u S
     refine (Classical.em (connV r_t4 (⟨(Sl.mk (some ⟨b5, 0, none⟩) 1 ([0])), (Sl.mk none 0 ([]))⟩ : Fail) 0 1)).elim (fun hs19 => ?_) (fun hs19 => ?_)
     ·replace S := S.ext (d := 37) (v := .bool true) ((S.get 37 rfl).trans (congrArg Value.bool (decide_eq_true hs19)))
      refine sp S (tr (gon 37 rfl fun S=>x_ldw (S.e rfl) (S.k 0 rfl).all wD28)<|la (gon 37 rfl fun S=>x_ldw (S.e rfl) (S.k 1 rfl).all wD41)) ?_; clear S; intro a u S
      refine strip S.s rfl rfl (gd := 37) rfl ?_
      refine sp S (tr (oc (fun S=>fUsable _ _ S.x (.nil _) r_t4 (dn0 (S.u 0 rfl)) (⟨(Sl.mk (some ⟨b5, 0, none⟩) 1 ([0])), (Sl.mk none 0 ([]))⟩ : Fail) ⟨(dn0 (S.u 1 rfl)), sl_nil⟩ 0 ⟨by omega, by omega⟩) cB28)<|tr (gon 37 rfl fun S=>x_notp (S.e rfl))<|tr (ov fun S=>x_pickt (S.e rfl) (S.e rfl))<|la (mv rfl)) ?_; clear S; intro a u S
      refine (Classical.em (¬ (usableV r_t4 (⟨(Sl.mk (some ⟨b5, 0, none⟩) 1 ([0])), (Sl.mk none 0 ([]))⟩ : Fail) 0))).elim (fun hs20 => ?_) (fun hs20 => ?_)
      ·replace S := S.ext (d := 43) (v := .bool true) ((S.get 43 rfl).trans (congrArg Value.bool (decide_eq_true hs20)))
       refine sp S (tr (gon 43 rfl fun S=>x_ldw (S.e rfl) (S.k 0 rfl).all wD28)<|la (gon 43 rfl fun S=>x_ldw (S.e rfl) (S.k 1 rfl).all wD41)) ?_; clear S; intro a u S
       refine strip S.s rfl rfl (gd := 43) rfl ?_
       refine ens S (tr (oc (fun S=>fValid _ _ S.x (.nil _) r_t4 (dn0 (S.u 0 rfl)) (⟨(Sl.mk (some ⟨b5, 0, none⟩) 1 ([0])), (Sl.mk none 0 ([]))⟩ : Fail) ⟨(dn0 (S.u 1 rfl)), sl_nil⟩) cB22)<|tr (ov fun S=>x_pickt (S.e rfl) (S.e rfl))<|la (av rfl)) ?_; clear S; intro a u S
       refine wp_ret ?_
       refine ret1 rfl S.s rfl ?_
       replace S := S.pk []
       refine ⟨(r1 (vb ?_)), S.m.c⟩
       exact ⟨fun _ => trivial, fun _ => h2.2.2.2⟩
      replace S := S.ext (d := 43) (v := .bool false) ((S.get 43 rfl).trans (congrArg Value.bool (decide_eq_false hs20)))
      refine ens S (tr (goff 43 rfl)<|tr (goff 43 rfl)<|tr (goff 43 rfl)<|tr (ov fun S=>x_pickf (S.e rfl) (S.e rfl))<|la (av rfl)) ?_; clear S; intro a u S
      refine wp_ret ?_
      refine ret1 rfl S.s rfl ?_
      replace S := S.pk []
      refine ⟨(r1 (vf ?_)), S.m.c⟩
      exact fun _ => hs20 h2.2.2.1
     replace S := S.ext (d := 37) (v := .bool false) ((S.get 37 rfl).trans (congrArg Value.bool (decide_eq_false hs19)))
     refine ens S (tr (goff 37 rfl)<|tr (goff 37 rfl)<|tr (goff 37 rfl)<|tr (goff 37 rfl)<|tr (ov fun S=>x_pickf (S.e rfl) (S.e rfl))<|tr (mv rfl)<|tr (goff 43 rfl)<|tr (goff 43 rfl)<|tr (goff 43 rfl)<|tr (ov fun S=>x_pickf (S.e rfl) (S.e rfl))<|la (av rfl)) ?_; clear S; intro a u S
     refine wp_ret ?_
     refine ret1 rfl S.s rfl ?_
     replace S := S.pk []
     refine ⟨(r1 (vf ?_)), S.m.c⟩
     exact fun _ => hs19 h2.2.1
    replace S := S.ext (d := 32) (v := .bool false) ((S.get 32 rfl).trans (congrArg Value.bool (decide_eq_false hs18)))
    refine ens S (tr (goff 32 rfl)<|tr (goff 32 rfl)<|tr (goff 32 rfl)<|tr (ov fun S=>x_pickf (S.e rfl) (S.e rfl))<|tr (mv rfl)<|tr (goff 37 rfl)<|tr (goff 37 rfl)<|tr (goff 37 rfl)<|tr (goff 37 rfl)<|tr (ov fun S=>x_pickf (S.e rfl) (S.e rfl))<|tr (mv rfl)<|tr (goff 43 rfl)<|tr (goff 43 rfl)<|tr (goff 43 rfl)<|tr (ov fun S=>x_pickf (S.e rfl) (S.e rfl))<|la (av rfl)) ?_; clear S; intro a u S
    refine wp_ret ?_
    refine ret1 rfl S.s rfl ?_
    replace S := S.pk []
    refine ⟨(r1 (vf ?_)), S.m.c⟩
    rw [h2.1] at hs18; exact fun _ => hs18 rfl
   replace S := S.ext (d := 26) (v := .bool false) ((S.get 26 rfl).trans (congrArg Value.bool (decide_eq_false hs16)))
   refine ens S (tr (goff 26 rfl)<|tr (goff 26 rfl)<|tr (goff 26 rfl)<|tr (goff 26 rfl)<|tr (ov fun S=>x_pickf (S.e rfl) (S.e rfl))<|tr (mv rfl)<|tr (goff 32 rfl)<|tr (goff 32 rfl)<|tr (goff 32 rfl)<|tr (ov fun S=>x_pickf (S.e rfl) (S.e rfl))<|tr (mv rfl)<|tr (goff 37 rfl)<|tr (goff 37 rfl)<|tr (goff 37 rfl)<|tr (goff 37 rfl)<|tr (ov fun S=>x_pickf (S.e rfl) (S.e rfl))<|tr (mv rfl)<|tr (goff 43 rfl)<|tr (goff 43 rfl)<|tr (goff 43 rfl)<|tr (ov fun S=>x_pickf (S.e rfl) (S.e rfl))<|la (av rfl)) ?_; clear S; intro a u S
   refine wp_ret ?_
   refine ret1 rfl S.s rfl ?_
   replace S := S.pk []
   refine ⟨(r1 (vf ?_)), S.m.c⟩
   rw [h2.1] at hs16; exact fun _ => hs16 rfl
  replace S := S.ext (d := 21) (v := .bool false) ((S.get 21 rfl).trans (congrArg Value.bool (decide_eq_false hs15)))
  refine ens S (tr (goff 21 rfl)<|tr (goff 21 rfl)<|tr (goff 21 rfl)<|tr (ov fun S=>x_pickf (S.e rfl) (S.e rfl))<|tr (mv rfl)<|tr (goff 26 rfl)<|tr (goff 26 rfl)<|tr (goff 26 rfl)<|tr (goff 26 rfl)<|tr (ov fun S=>x_pickf (S.e rfl) (S.e rfl))<|tr (mv rfl)<|tr (goff 32 rfl)<|tr (goff 32 rfl)<|tr (goff 32 rfl)<|tr (ov fun S=>x_pickf (S.e rfl) (S.e rfl))<|tr (mv rfl)<|tr (goff 37 rfl)<|tr (goff 37 rfl)<|tr (goff 37 rfl)<|tr (goff 37 rfl)<|tr (ov fun S=>x_pickf (S.e rfl) (S.e rfl))<|tr (mv rfl)<|tr (goff 43 rfl)<|tr (goff 43 rfl)<|tr (goff 43 rfl)<|tr (ov fun S=>x_pickf (S.e rfl) (S.e rfl))<|la (av rfl)) ?_; clear S; intro a u S
  refine wp_ret ?_
  refine ret1 rfl S.s rfl ?_
  replace S := S.pk []
  refine ⟨(r1 (vf ?_)), S.m.c⟩
  rw [h0] at hs15; exact fun _ => hs15 rfl
 replace S := S.ext (d := 14) (v := .bool false) ((S.get 14 rfl).trans (congrArg Value.bool (decide_eq_false hs13)))
 refine ens S (tr (goff 14 rfl)<|tr (goff 14 rfl)<|tr (goff 14 rfl)<|tr (goff 14 rfl)<|tr (goff 14 rfl)<|tr (ov fun S=>x_pickf (S.e rfl) (S.e rfl))<|tr (mv rfl)<|tr (goff 21 rfl)<|tr (goff 21 rfl)<|tr (goff 21 rfl)<|tr (ov fun S=>x_pickf (S.e rfl) (S.e rfl))<|tr (mv rfl)<|tr (goff 26 rfl)<|tr (goff 26 rfl)<|tr (goff 26 rfl)<|tr (goff 26 rfl)<|tr (ov fun S=>x_pickf (S.e rfl) (S.e rfl))<|tr (mv rfl)<|tr (goff 32 rfl)<|tr (goff 32 rfl)<|tr (goff 32 rfl)<|tr (ov fun S=>x_pickf (S.e rfl) (S.e rfl))<|tr (mv rfl)<|tr (goff 37 rfl)<|tr (goff 37 rfl)<|tr (goff 37 rfl)<|tr (goff 37 rfl)<|tr (ov fun S=>x_pickf (S.e rfl) (S.e rfl))<|tr (mv rfl)<|tr (goff 43 rfl)<|tr (goff 43 rfl)<|tr (goff 43 rfl)<|tr (ov fun S=>x_pickf (S.e rfl) (S.e rfl))<|la (av rfl)) ?_; clear S; intro a u S
 refine wp_ret ?_
 refine ret1 rfl S.s rfl ?_
 replace S := S.pk []
 refine ⟨(r1 (vf ?_)), S.m.c⟩
 rw [h7] at hs13; exact fun _ => hs13 rfl
end Go.Proofs.Ytfanmniaolncbaa.V
