/- Texts of this claim in one: part G. -/
import Derived.Test.YtobggnpnochnnaaPRepF
namespace Go.Proofs.Ytobggnpnochnnaa.V
open Go.RowKit Go.Proofs.Ytobggnpnochnnaa
set_option linter.unusedVariables false
set_option linter.unusedSimpArgs false
theorem planG_sp {p : Plan} {n : Int} (h : planG p n) : ∀ x ∈ p.rounds.xs, 0 < x.xs.length ∧ x.xs.length ≤ 1000 := fun x hx => by
 obtain ⟨sts, hst⟩ := Option.isSome_iff_exists.1 h.1.1
 have hP := (statesP_ok hst (by rw [rdsP_len]; exact h.1.2)).2.1
 exact ⟨h.2.2 x hx, (hP.rd x.xs (List.mem_map_of_mem hx)).1⟩
set_option maxHeartbeats 2000000 in
set_option maxRecDepth 20000 in
theorem lRepl (w : World) (F : Nat → Prop) (hF : Old F w) (M : MS [] w) (t : Sl Int) (t_w : (slE intE).wf (Fr F []) w.heap t) (p : Plan) (p_w : planE.wf (Fr F []) w.heap p) (devices : Int) (devices_h : inI64 devices) (l : Sl Rec) (l_w : (slE recE).wf (Fr F []) w.heap l) :
 Calls Try.prog 6 #[sV t, .agg (planE.cells p).toArray, iI devices, sV l] w fun e w' => e = .returned (bD (True)) ∧ Tr [] w [] w' := by
 have : t.xs.length ≤ 9223372036854775807 := (t_w).1.len
 have : p.rounds.xs.length ≤ 9223372036854775807 := (p_w.2).1.len
 obtain ⟨devices_hl, devices_hu⟩ : inI64 devices := id devices_h
 have : l.xs.length ≤ 9223372036854775807 := (l_w).1.len
 refine go Try.func6 rfl 78 rfl [wfF (slE intE) t, wfF planE p, wfF (slE recE) l] [] hF M ⟨t_w, p_w, l_w, trivial⟩ trivial ?_
 intro a S
 have hD : ∀ k, In ([] : List BS) k → ¬ F k := fun _ h => h.elim
 refine rs0 ?_
 refine nbp S (x_box _ (S.e rfl) rfl) ?_; clear S; intro a u b5 S
 refine ens S (la (av rfl)) ?_; clear S; intro a u S
 refine rs0 ?_
 refine sp S (la (mv rfl)) ?_; clear S; intro a u S
 refine cl S (gNew _ _ S.x (.nil _) t (dn0 (S.u 0 rfl))) cB19 ?_
 rintro e u ⟨T15, rfl, TK, T0⟩; refine ⟨_, rfl, fun a s => ?_⟩; replace S := S.kt s T0 TK; clear s T0 TK
 refine ens S (la (av rfl)) ?_; clear S; intro a u S
 refine rs0 ?_
 refine sp S (la (mv rfl)) ?_; clear S; intro a u S
 refine cl S (gNext _ _ S.x T15 (S.M.pick [1] (by decide)) t (dn1 (js := [1]) (S.u 0 rfl)) (S.t 1 rfl) 4 ⟨by omega, by omega⟩) cB26 ?_
 rintro e u ⟨r_t17, rfl, hr_t17, tK, T0⟩; refine ⟨_, rfl, fun a s => ?_⟩
 replace S := S.k1 1 rfl s T0 tK; clear s T0 tK
 refine sp S (tr (addi (1 + r_t17) rfl rfl (w_i64 (by omega)))<|la (av rfl)) ?_; clear S; intro a u S
 obtain ⟨n, hn⟩ : ∃ z : Int, z = (1 + r_t17) := ⟨_, rfl⟩
 rw [← hn] at S
 refine ent (rs0 ?_)
 refine sp S (tr (mv rfl)<|la (mv rfl)) ?_; clear S; intro a u S
 refine cl S (gPlan _ _ S.x T15 (S.M.pick [1] (by decide)) t (dn1 (js := [1]) (S.u 0 rfl)) (S.t 1 rfl) n ⟨by omega, by omega⟩ (⟨by omega, by omega⟩)) cB30 ?_
 rintro e u ⟨r_t21, rfl, R_t21, hr_t21, tK, T0⟩; refine ⟨_, rfl, fun a s => ?_⟩
 replace S := (S.k1 1 rfl s T0 tK).ar (wfF planE r_t21) (Enc.up _ R_t21); clear s T0 tK R_t21
 have hsp := planG_sp hr_t21
 have hgp := hr_t21
 obtain ⟨hgd, hp3, hpne⟩ := hr_t21
 have hn5 : r_t21.rounds.xs.length ≤ 9223372036854775807 := ((S.u 3 rfl).2).1.len
 refine nbp S (x_allocz _ iZ47 rfl) ?_; clear S; intro a u b11 S
 refine ens S (la (stkw 2 rfl rfl rfl)) ?_; clear S; intro a u S
 refine rs0 ?_
 refine sp S (tr (mv rfl)<|la (mv rfl)) ?_; clear S; intro a u S
 refine cl S (lLog _ _ S.x T15 (S.M.pick [1] (by decide)) t (dn1 (js := [1]) (S.u 0 rfl)) (S.t 1 rfl) n ⟨by omega, by omega⟩) cB25 ?_
 rintro e u ⟨rx_t250, ra_t250, rc_t250, ra_t251, rc_t251, rfl, R_t250, R_t251, hr_t250, tK, T0⟩; refine ⟨_, rfl, fun a s => ?_⟩
 replace S := S.kr1 1 rfl [⟨_, recE, 24, ra_t250, rc_t250, rx_t250⟩, ⟨_, u8E, 5, ra_t251, rc_t251, bytesJ rx_t250⟩] s T0 ⟨R_t250, R_t251, trivial⟩ (fun _ => tK); clear s T0 tK R_t250 R_t251
 replace S := S.pk [0, 1, 2, 3, 4] (os' := [blO b5 (planE.cells p) 47, tpO 112 T15 t, blO b11 (planE.cells r_t21) 47, rwO recE 24 w.heap.size ra_t250 rc_t250 rx_t250, rwO u8E 5 w.heap.size ra_t251 rc_t251 (bytesJ rx_t250)])
 refine ens S (tr (mv rfl)<|tr (exi rfl rfl)<|tr (exi rfl rfl)<|tr (av rfl)<|la (av rfl)) ?_; clear S; intro a u S
 refine wp_seq (rs0 ?_)
 refine sp S (la (mv rfl)) ?_; clear S; intro a u S
 refine cl S (gNext _ _ S.x T15 (S.M.pick [1] (by decide)) t (dn1 (js := [1]) (S.u 0 rfl)) (S.t 1 rfl) 6 ⟨by omega, by omega⟩) cB26 ?_
 rintro e u ⟨r_t29, rfl, hr_t29, tK, T0⟩; refine ⟨_, rfl, fun a s => ?_⟩
 replace S := S.k1 1 rfl s T0 tK; clear s T0 tK
 refine ens S (la (eqli rfl rfl)) ?_; clear S; intro a u S
 refine cd S rfl ?_ ?_
 ·intro hc0
  refine r0 ?_
  refine sp S (tr (mv rfl)<|tr (mv rfl)<|la (mv rfl)) ?_; clear S; intro a u S
  refine cl S (lRecord _ _ S.x T15 (S.M.pick [1] (by decide)) t (dn1 (js := [1]) (S.u 0 rfl)) (S.t 1 rfl) n ⟨by omega, by omega⟩) cB20 ?_
  rintro e u ⟨r_t34, rfl, R_t34, tK, T0⟩; refine ⟨_, rfl, fun a s => ?_⟩
  replace S := (S.k1 1 rfl s T0 tK).ar (wfF recE r_t34) (Enc.up _ R_t34); clear s T0 tK R_t34
  obtain ⟨hl9, hu9⟩ : inI64 r_t34.kind := id ((S.u 4 rfl).1)
  obtain ⟨hl10, hu10⟩ : inI64 r_t34.dev := id ((S.u 4 rfl).2.1)
  obtain ⟨hl11, hu11⟩ : inI64 r_t34.inc := id ((S.u 4 rfl).2.2.1)
  obtain ⟨hl12, hu12⟩ : inI64 r_t34.seq := id ((S.u 4 rfl).2.2.2)
  refine nbs recE S [r_t34] (x_bs S [(0, .agg (recE.cells r_t34).toArray)] uT32 iZ24) (fun x hx => by simp only [List.mem_cons, List.not_mem_nil, or_false] at hx; rw [hx]; exact (show recE.wf _ _ r_t34 from ⟨(S.u 4 rfl).1, (S.u 4 rfl).2.1, (S.u 4 rfl).2.2.1, (S.u 4 rfl).2.2.2⟩)) ?_; clear S; intro a u b35 S
  refine ap (E := recE) (ys := [r_t34]) S 3 rfl uT32 iZ24 rfl rfl (show LAt recE _ _ (some ⟨b35, 0, none⟩) ([r_t34]) from ((S.u 5 rfl)).1) ((S.u 5 rfl)).2.2 (LAt.mem (show LAt recE _ _ (some ⟨b35, 0, none⟩) ([r_t34]) from ((S.u 5 rfl)).1)) ⟨by unfold maxLen; (try simp only [List.length_cons, List.length_nil, List.length_append, List.length_map]); omega, by (try simp only [List.length_cons, List.length_nil, List.length_append, List.length_map]); omega⟩ ?_; clear S; intro a u ad36 cap36 S
  refine ens S (la (av rfl)) ?_; clear S; intro a u S
  refine wp_seq (rs0 ?_)
  refine sp S (la (mv rfl)) ?_; clear S; intro a u S
  refine cl S (gNext _ _ S.x T15 (S.M.pick [1] (by decide)) t (dn1 (js := [1]) (S.u 0 rfl)) (S.t 1 rfl) 8 ⟨by omega, by omega⟩) cB26 ?_
  rintro e u ⟨r_t38, rfl, hr_t38, tK, T0⟩; refine ⟨_, rfl, fun a s => ?_⟩
  replace S := S.k1 1 rfl s T0 tK; clear s T0 tK
  refine ens S (la (eqli rfl rfl)) ?_; clear S; intro a u S
  refine cd S rfl ?_ ?_
  ·intro hc1
   refine r0 ?_
   refine sp S (tr (mv rfl)<|la (ldkw 2 rfl rfl wD47)) ?_; clear S; intro a u S
   refine cl S (gSpoil _ _ S.x T15 (S.M.pick [1] (by decide)) t (dn1 (js := [1]) (S.u 0 rfl)) (S.t 1 rfl) r_t21 (dn1 (js := [1]) (S.u 3 rfl)) (⟨by first | omega | (dsimp only; omega), by assumption⟩)) cB31 ?_
   rintro e u ⟨r_t42, rfl, R_t42, hr_t42, tK, T0⟩; refine ⟨_, rfl, fun a s => ?_⟩
   replace S := (S.k1 1 rfl s T0 tK).ar (wfF planE r_t42) (Enc.up _ R_t42); clear s T0 tK R_t42
   have hn15 : r_t42.rounds.xs.length ≤ 9223372036854775807 := ((S.u 6 rfl).2).1.len
   refine ens S (la (stkw 2 rfl rfl rfl)) ?_; clear S; intro a u S
   refine wp_seq ?_
   have hn17 : p.rounds.xs.length ≤ 9223372036854775807 := ((S.u 1 rfl).2).1.len
   refine rs S (tr (fldi 0 1 rfl uT47)<|tr (ldk 0 sC45 rfl rfl rfl)<|tr (leni uT45 rfl)<|tr (gtri rfl rfl)<|tr (mv rfl)<|tr (og 47 rfl gf fun S hg=>x_move (S.e rfl))<|tr (og 47 rfl gf fun S hg=>x_len uT32 (S.p rfl hg))<|tr (og 47 rfl gf fun S hg=>x_gtr (S.p rfl hg) (S.e rfl))<|la (ori rfl rfl rfl)) ?_; clear S; intro a u S
   refine cd S rfl ?_ ?_
   ·intro hc2
    refine rs0 ?_
    refine sp S (tr (ldkw 2 rfl rfl wD47)<|tr (mv rfl)<|la (mv rfl)) ?_; clear S; intro a u S
    refine ens S (tr (oc (fun S=>lReplays _ _ (S.xx [abk ad36]) (.nil _) r_t42 (dnx (S.u 6 rfl)) n ⟨by omega, by omega⟩ (Sl.mk ad36 cap36 (rx_t250 ++ [r_t34])) (S.rargD hD 3 rfl (by first | decide | exact Nat.one_pos | exact Nat.succ_pos _) _ (by simp)) (by first | omega | (dsimp only; omega))) cB32)<|tr (mv rfl)<|tr (ocg 56 rfl gt (fun S hg=>lSane _ _ S.x (.nil _)) cB24 fun S=>trivial)<|tr (andi rfl rfl rfl)<|la (av rfl)) ?_; clear S; intro a u S
    refine wp_ret (then_r ?_)
    refine ret1 rfl S.s rfl ?_
    replace S := S.pk []
    refine ⟨(r1 (vb ?_)), S.m.c⟩
    first
    | exact Iff.rfl
    | exact ⟨fun _ => trivial, fun _ => ⟨trivial, trivial⟩⟩
    | simp
   intro hc3
   refine wp_skip (then_n (rs0 ?_))
   refine sp S (tr (ldkw 2 rfl rfl wD47)<|tr (mv rfl)<|la (mv rfl)) ?_; clear S; intro a u S
   refine ens S (tr (oc (fun S=>lReplays _ _ (S.xx [abk ad36]) (.nil _) r_t42 (dnx (S.u 6 rfl)) n ⟨by omega, by omega⟩ (Sl.mk ad36 cap36 (rx_t250 ++ [r_t34])) (S.rargD hD 3 rfl (by first | decide | exact Nat.one_pos | exact Nat.succ_pos _) _ (by simp)) (by first | omega | (dsimp only; omega))) cB32)<|tr (mv rfl)<|tr (og 63 rfl gt fun S hg=>x_ldw (S.e rfl) (S.k 0 rfl).all wD47)<|tr (og 63 rfl gt fun S hg=>x_move (S.e rfl))<|tr (og 63 rfl gt fun S hg=>x_move (S.e rfl))<|tr (ocg 63 rfl gt (fun S hg=>lReplays _ _ S.x (.nil _) p (dn0 (S.u 1 rfl)) devices devices_h l (dn0 (S.u 2 rfl)) (by first | omega | (dsimp only; omega))) cB32 fun S=>⟨fun hg=>(S.p rfl hg), fun hg=>(S.p rfl hg), fun hg=>(S.p rfl hg), trivial⟩)<|tr (andi rfl rfl rfl)<|tr (mv rfl)<|tr (og 69 rfl gt fun S hg=>x_ldw (S.e rfl) (S.k 2 rfl).all wD47)<|tr (og 69 rfl gt fun S hg=>x_move (S.e rfl))<|tr (og 69 rfl gt fun S hg=>x_move (S.e rfl))<|tr (ocg 69 rfl gt (fun S hg=>lReplays _ _ S.x (.nil _) r_t42 (dn0 (S.u 6 rfl)) n ⟨by omega, by omega⟩ l (dn0 (S.u 2 rfl)) (by first | omega | (dsimp only; omega))) cB32 fun S=>⟨fun hg=>(S.p rfl hg), fun hg=>(S.p rfl hg), fun hg=>(S.p rfl hg), trivial⟩)<|tr (andi rfl rfl rfl)<|tr (mv rfl)<|tr (ocg 75 rfl gt (fun S hg=>lSane _ _ S.x (.nil _)) cB24 fun S=>trivial)<|tr (andi rfl rfl rfl)<|la (av rfl)) ?_; clear S; intro a u S
   refine wp_ret ?_
   refine ret1 rfl S.s rfl ?_
   replace S := S.pk []
   refine ⟨(r1 (vb ?_)), S.m.c⟩
   first
   | exact Iff.rfl
   | exact ⟨fun _ => trivial, fun _ => ⟨trivial, trivial⟩⟩
   | simp
  intro hc4
  refine wp_skip (then_n (wp_seq ?_))
  have hn21 : p.rounds.xs.length ≤ 9223372036854775807 := ((S.u 1 rfl).2).1.len
  refine rs S (tr (fldi 0 1 rfl uT47)<|tr (ldk 0 sC45 rfl rfl rfl)<|tr (leni uT45 rfl)<|tr (gtri rfl rfl)<|tr (mv rfl)<|tr (og 47 rfl gf fun S hg=>x_move (S.e rfl))<|tr (og 47 rfl gf fun S hg=>x_len uT32 (S.p rfl hg))<|tr (og 47 rfl gf fun S hg=>x_gtr (S.p rfl hg) (S.e rfl))<|la (ori rfl rfl rfl)) ?_; clear S; intro a u S
  refine cd S rfl ?_ ?_
  ·intro hc5
   refine rs0 ?_
   refine sp S (tr (ldkw 2 rfl rfl wD47)<|tr (mv rfl)<|la (mv rfl)) ?_; clear S; intro a u S
   refine ens S (tr (oc (fun S=>lReplays _ _ (S.xx [abk ad36]) (.nil _) r_t21 (dnx (S.u 3 rfl)) n ⟨by omega, by omega⟩ (Sl.mk ad36 cap36 (rx_t250 ++ [r_t34])) (S.rargD hD 3 rfl (by first | decide | exact Nat.one_pos | exact Nat.succ_pos _) _ (by simp)) (by first | omega | (dsimp only; omega))) cB32)<|tr (mv rfl)<|tr (ocg 56 rfl gt (fun S hg=>lSane _ _ S.x (.nil _)) cB24 fun S=>trivial)<|tr (andi rfl rfl rfl)<|la (av rfl)) ?_; clear S; intro a u S
   refine wp_ret (then_r ?_)
   refine ret1 rfl S.s rfl ?_
   replace S := S.pk []
   refine ⟨(r1 (vb ?_)), S.m.c⟩
   first
   | exact Iff.rfl
   | exact ⟨fun _ => trivial, fun _ => ⟨trivial, trivial⟩⟩
   | simp
  intro hc6
  refine wp_skip (then_n (rs0 ?_))
  refine sp S (tr (ldkw 2 rfl rfl wD47)<|tr (mv rfl)<|la (mv rfl)) ?_; clear S; intro a u S
  refine ens S (tr (oc (fun S=>lReplays _ _ (S.xx [abk ad36]) (.nil _) r_t21 (dnx (S.u 3 rfl)) n ⟨by omega, by omega⟩ (Sl.mk ad36 cap36 (rx_t250 ++ [r_t34])) (S.rargD hD 3 rfl (by first | decide | exact Nat.one_pos | exact Nat.succ_pos _) _ (by simp)) (by first | omega | (dsimp only; omega))) cB32)<|tr (mv rfl)<|tr (og 63 rfl gt fun S hg=>x_ldw (S.e rfl) (S.k 0 rfl).all wD47)<|tr (og 63 rfl gt fun S hg=>x_move (S.e rfl))<|tr (og 63 rfl gt fun S hg=>x_move (S.e rfl))<|tr (ocg 63 rfl gt (fun S hg=>lReplays _ _ S.x (.nil _) p (dn0 (S.u 1 rfl)) devices devices_h l (dn0 (S.u 2 rfl)) (by first | omega | (dsimp only; omega))) cB32 fun S=>⟨fun hg=>(S.p rfl hg), fun hg=>(S.p rfl hg), fun hg=>(S.p rfl hg), trivial⟩)<|tr (andi rfl rfl rfl)<|tr (mv rfl)<|tr (og 69 rfl gt fun S hg=>x_ldw (S.e rfl) (S.k 2 rfl).all wD47)<|tr (og 69 rfl gt fun S hg=>x_move (S.e rfl))<|tr (og 69 rfl gt fun S hg=>x_move (S.e rfl))<|tr (ocg 69 rfl gt (fun S hg=>lReplays _ _ S.x (.nil _) r_t21 (dn0 (S.u 3 rfl)) n ⟨by omega, by omega⟩ l (dn0 (S.u 2 rfl)) (by first | omega | (dsimp only; omega))) cB32 fun S=>⟨fun hg=>(S.p rfl hg), fun hg=>(S.p rfl hg), fun hg=>(S.p rfl hg), trivial⟩)<|tr (andi rfl rfl rfl)<|tr (mv rfl)<|tr (ocg 75 rfl gt (fun S hg=>lSane _ _ S.x (.nil _)) cB24 fun S=>trivial)<|tr (andi rfl rfl rfl)<|la (av rfl)) ?_; clear S; intro a u S
  refine wp_ret ?_
  refine ret1 rfl S.s rfl ?_
  replace S := S.pk []
  refine ⟨(r1 (vb ?_)), S.m.c⟩
  first
  | exact Iff.rfl
  | exact ⟨fun _ => trivial, fun _ => ⟨trivial, trivial⟩⟩
  | simp
 intro hc7
 refine wp_skip (then_n (wp_seq (rs0 ?_)))
 refine sp S (la (mv rfl)) ?_; clear S; intro a u S
 refine cl S (gNext _ _ S.x T15 (S.M.pick [1] (by decide)) t (dn1 (js := [1]) (S.u 0 rfl)) (S.t 1 rfl) 8 ⟨by omega, by omega⟩) cB26 ?_
 rintro e u ⟨r_t38, rfl, hr_t38, tK, T0⟩; refine ⟨_, rfl, fun a s => ?_⟩
 replace S := S.k1 1 rfl s T0 tK; clear s T0 tK
 refine ens S (la (eqli rfl rfl)) ?_; clear S; intro a u S
 refine cd S rfl ?_ ?_
 ·intro hc8
  refine r0 ?_
  refine sp S (tr (mv rfl)<|la (ldkw 2 rfl rfl wD47)) ?_; clear S; intro a u S
  refine cl S (gSpoil _ _ S.x T15 (S.M.pick [1] (by decide)) t (dn1 (js := [1]) (S.u 0 rfl)) (S.t 1 rfl) r_t21 (dn1 (js := [1]) (S.u 3 rfl)) (⟨by first | omega | (dsimp only; omega), by assumption⟩)) cB31 ?_
  rintro e u ⟨r_t42, rfl, R_t42, hr_t42, tK, T0⟩; refine ⟨_, rfl, fun a s => ?_⟩
  replace S := (S.k1 1 rfl s T0 tK).ar (wfF planE r_t42) (Enc.up _ R_t42); clear s T0 tK R_t42
  have hn26 : r_t42.rounds.xs.length ≤ 9223372036854775807 := ((S.u 4 rfl).2).1.len
  refine ens S (la (stkw 2 rfl rfl rfl)) ?_; clear S; intro a u S
  refine wp_seq ?_
  have hn28 : p.rounds.xs.length ≤ 9223372036854775807 := ((S.u 1 rfl).2).1.len
  refine rs S (tr (fldi 0 1 rfl uT47)<|tr (ldk 0 sC45 rfl rfl rfl)<|tr (leni uT45 rfl)<|tr (gtri rfl rfl)<|tr (mv rfl)<|tr (og 47 rfl gf fun S hg=>x_move (S.e rfl))<|tr (og 47 rfl gf fun S hg=>x_len uT32 (S.p rfl hg))<|tr (og 47 rfl gf fun S hg=>x_gtr (S.p rfl hg) (S.e rfl))<|la (ori rfl rfl rfl)) ?_; clear S; intro a u S
  refine cd S rfl ?_ ?_
  ·intro hc9
   refine rs0 ?_
   refine sp S (tr (ldkw 2 rfl rfl wD47)<|tr (mv rfl)<|la (mv rfl)) ?_; clear S; intro a u S
   refine ens S (tr (oc (fun S=>lReplays _ _ (S.xx [abk ra_t250]) (.nil _) r_t42 (dnx (S.u 4 rfl)) n ⟨by omega, by omega⟩ (Sl.mk ra_t250 rc_t250 rx_t250) (S.rargD hD 3 rfl (by first | decide | exact Nat.one_pos | exact Nat.succ_pos _) _ (by simp)) (by first | omega | (dsimp only; omega))) cB32)<|tr (mv rfl)<|tr (ocg 56 rfl gt (fun S hg=>lSane _ _ S.x (.nil _)) cB24 fun S=>trivial)<|tr (andi rfl rfl rfl)<|la (av rfl)) ?_; clear S; intro a u S
   refine wp_ret (then_r ?_)
   refine ret1 rfl S.s rfl ?_
   replace S := S.pk []
   refine ⟨(r1 (vb ?_)), S.m.c⟩
   first
   | exact Iff.rfl
   | exact ⟨fun _ => trivial, fun _ => ⟨trivial, trivial⟩⟩
   | simp
  intro hc10
  refine wp_skip (then_n (rs0 ?_))
  refine sp S (tr (ldkw 2 rfl rfl wD47)<|tr (mv rfl)<|la (mv rfl)) ?_; clear S; intro a u S
  refine ens S (tr (oc (fun S=>lReplays _ _ (S.xx [abk ra_t250]) (.nil _) r_t42 (dnx (S.u 4 rfl)) n ⟨by omega, by omega⟩ (Sl.mk ra_t250 rc_t250 rx_t250) (S.rargD hD 3 rfl (by first | decide | exact Nat.one_pos | exact Nat.succ_pos _) _ (by simp)) (by first | omega | (dsimp only; omega))) cB32)<|tr (mv rfl)<|tr (og 63 rfl gt fun S hg=>x_ldw (S.e rfl) (S.k 0 rfl).all wD47)<|tr (og 63 rfl gt fun S hg=>x_move (S.e rfl))<|tr (og 63 rfl gt fun S hg=>x_move (S.e rfl))<|tr (ocg 63 rfl gt (fun S hg=>lReplays _ _ S.x (.nil _) p (dn0 (S.u 1 rfl)) devices devices_h l (dn0 (S.u 2 rfl)) (by first | omega | (dsimp only; omega))) cB32 fun S=>⟨fun hg=>(S.p rfl hg), fun hg=>(S.p rfl hg), fun hg=>(S.p rfl hg), trivial⟩)<|tr (andi rfl rfl rfl)<|tr (mv rfl)<|tr (og 69 rfl gt fun S hg=>x_ldw (S.e rfl) (S.k 2 rfl).all wD47)<|tr (og 69 rfl gt fun S hg=>x_move (S.e rfl))<|tr (og 69 rfl gt fun S hg=>x_move (S.e rfl))<|tr (ocg 69 rfl gt (fun S hg=>lReplays _ _ S.x (.nil _) r_t42 (dn0 (S.u 4 rfl)) n ⟨by omega, by omega⟩ l (dn0 (S.u 2 rfl)) (by first | omega | (dsimp only; omega))) cB32 fun S=>⟨fun hg=>(S.p rfl hg), fun hg=>(S.p rfl hg), fun hg=>(S.p rfl hg), trivial⟩)<|tr (andi rfl rfl rfl)<|tr (mv rfl)<|tr (ocg 75 rfl gt (fun S hg=>lSane _ _ S.x (.nil _)) cB24 fun S=>trivial)<|tr (andi rfl rfl rfl)<|la (av rfl)) ?_; clear S; intro a u S
  refine wp_ret ?_
  refine ret1 rfl S.s rfl ?_
  replace S := S.pk []
  refine ⟨(r1 (vb ?_)), S.m.c⟩
  first
  | exact Iff.rfl
  | exact ⟨fun _ => trivial, fun _ => ⟨trivial, trivial⟩⟩
  | simp
 intro hc11
 refine wp_skip (then_n (wp_seq ?_))
 have hn32 : p.rounds.xs.length ≤ 9223372036854775807 := ((S.u 1 rfl).2).1.len
 refine rs S (tr (fldi 0 1 rfl uT47)<|tr (ldk 0 sC45 rfl rfl rfl)<|tr (leni uT45 rfl)<|tr (gtri rfl rfl)<|tr (mv rfl)<|tr (og 47 rfl gf fun S hg=>x_move (S.e rfl))<|tr (og 47 rfl gf fun S hg=>x_len uT32 (S.p rfl hg))<|tr (og 47 rfl gf fun S hg=>x_gtr (S.p rfl hg) (S.e rfl))<|la (ori rfl rfl rfl)) ?_; clear S; intro a u S
 refine cd S rfl ?_ ?_
 ·intro hc12
  refine rs0 ?_
  refine sp S (tr (ldkw 2 rfl rfl wD47)<|tr (mv rfl)<|la (mv rfl)) ?_; clear S; intro a u S
  refine ens S (tr (oc (fun S=>lReplays _ _ (S.xx [abk ra_t250]) (.nil _) r_t21 (dnx (S.u 3 rfl)) n ⟨by omega, by omega⟩ (Sl.mk ra_t250 rc_t250 rx_t250) (S.rargD hD 3 rfl (by first | decide | exact Nat.one_pos | exact Nat.succ_pos _) _ (by simp)) (by first | omega | (dsimp only; omega))) cB32)<|tr (mv rfl)<|tr (ocg 56 rfl gt (fun S hg=>lSane _ _ S.x (.nil _)) cB24 fun S=>trivial)<|tr (andi rfl rfl rfl)<|la (av rfl)) ?_; clear S; intro a u S
  refine wp_ret (then_r ?_)
  refine ret1 rfl S.s rfl ?_
  replace S := S.pk []
  refine ⟨(r1 (vb ?_)), S.m.c⟩
  first
  | exact Iff.rfl
  | exact ⟨fun _ => trivial, fun _ => ⟨trivial, trivial⟩⟩
  | simp
 intro hc13
 refine wp_skip (then_n (rs0 ?_))
 refine sp S (tr (ldkw 2 rfl rfl wD47)<|tr (mv rfl)<|la (mv rfl)) ?_; clear S; intro a u S
 refine ens S (tr (oc (fun S=>lReplays _ _ (S.xx [abk ra_t250]) (.nil _) r_t21 (dnx (S.u 3 rfl)) n ⟨by omega, by omega⟩ (Sl.mk ra_t250 rc_t250 rx_t250) (S.rargD hD 3 rfl (by first | decide | exact Nat.one_pos | exact Nat.succ_pos _) _ (by simp)) (by first | omega | (dsimp only; omega))) cB32)<|tr (mv rfl)<|tr (og 63 rfl gt fun S hg=>x_ldw (S.e rfl) (S.k 0 rfl).all wD47)<|tr (og 63 rfl gt fun S hg=>x_move (S.e rfl))<|tr (og 63 rfl gt fun S hg=>x_move (S.e rfl))<|tr (ocg 63 rfl gt (fun S hg=>lReplays _ _ S.x (.nil _) p (dn0 (S.u 1 rfl)) devices devices_h l (dn0 (S.u 2 rfl)) (by first | omega | (dsimp only; omega))) cB32 fun S=>⟨fun hg=>(S.p rfl hg), fun hg=>(S.p rfl hg), fun hg=>(S.p rfl hg), trivial⟩)<|tr (andi rfl rfl rfl)<|tr (mv rfl)<|tr (og 69 rfl gt fun S hg=>x_ldw (S.e rfl) (S.k 2 rfl).all wD47)<|tr (og 69 rfl gt fun S hg=>x_move (S.e rfl))<|tr (og 69 rfl gt fun S hg=>x_move (S.e rfl))<|tr (ocg 69 rfl gt (fun S hg=>lReplays _ _ S.x (.nil _) r_t21 (dn0 (S.u 3 rfl)) n ⟨by omega, by omega⟩ l (dn0 (S.u 2 rfl)) (by first | omega | (dsimp only; omega))) cB32 fun S=>⟨fun hg=>(S.p rfl hg), fun hg=>(S.p rfl hg), fun hg=>(S.p rfl hg), trivial⟩)<|tr (andi rfl rfl rfl)<|tr (mv rfl)<|tr (ocg 75 rfl gt (fun S hg=>lSane _ _ S.x (.nil _)) cB24 fun S=>trivial)<|tr (andi rfl rfl rfl)<|la (av rfl)) ?_; clear S; intro a u S
 refine wp_ret ?_
 refine ret1 rfl S.s rfl ?_
 replace S := S.pk []
 refine ⟨(r1 (vb ?_)), S.m.c⟩
 first
 | exact Iff.rfl
 | exact ⟨fun _ => trivial, fun _ => ⟨trivial, trivial⟩⟩
 | simp
end Go.Proofs.Ytobggnpnochnnaa.V
