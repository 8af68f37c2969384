/- Texts of this claim in one: part G. -/
import Derived.Test.YtobggnpnochnnaaPOpnF
import Derived.Test.YtobggnpnochnnaaPOpnB
namespace Go.Proofs.Ytobggnpnochnnaa.V
open Go.RowKit Go.Proofs.Ytobggnpnochnnaa
set_option linter.unusedVariables false
set_option linter.unusedSimpArgs false
theorem allJ_nil {n : Int} : allJ n [] := fun r h => by cases h
theorem allJ_ok {n : Int} {l : List Rec} (h : allJ n l) : ∀ r ∈ l, recOK r := fun r hr => (h r hr).1
theorem allJ_snoc {n : Int} {l : List Rec} {r : Rec} (h : allJ n l) (h1 : recOK r) (h2 : r.dev < n) : allJ n (l ++ [r]) := fun x hx => (List.mem_append.1 hx).elim (h x) fun q => by rw [List.mem_singleton.1 q]; exact ⟨h1, h2⟩
theorem bytesJ_snoc (l : List Rec) (r : Rec) : bytesJ (l ++ [r]) = bytesJ l ++ (if recOK r then encR r else []) := by rw [bytesJ_app]; unfold bytesJ; simp
set_option maxHeartbeats 2000000 in
set_option maxRecDepth 20000 in
theorem lLog (w : World) (F : Nat → Prop) (hF : Old F w) (T : Nat) (M : MS [one T] w) (T_l : Sl Int) (T_w : (slE intE).wf (Fr F [one T]) w.heap T_l) (T_K : TpB 112 T T_l w) (n : Int) (n_h : inI64 n) :
 Calls Try.prog 25 #[pT T 0, iI n] w fun e w' => ∃ (rx0 : List Rec) (ra0 : Option Addr) (rc0 : Nat) (ra1 : Option Addr) (rc1 : Nat), e = .returned (.tuple #[.slice ra0 rx0.length rc0, .slice ra1 ((bytesJ rx0).length) rc1]) ∧ Row recE 24 w.heap.size F [abk ra0, abk ra1, one T] w' ra0 rc0 rx0 ∧ Row u8E 5 w.heap.size F [abk ra0, abk ra1, one T] w' ra1 rc1 (bytesJ rx0) ∧ (rx0.length ≤ 8 ∧ allJ n rx0) ∧ TpB 112 T T_l w' ∧ Tr [one T] w [abk ra0, abk ra1, one T] w' := by
 obtain ⟨n_hl, n_hu⟩ : inI64 n := id n_h
 refine go Try.func25 rfl 43 rfl [wfF (slE intE) T_l] [tpO 112 T T_l] hF M ⟨T_w, trivial⟩ ⟨T_K, trivial⟩ ?_
 intro a S
 refine rs S (tr (av rfl)<|la (av rfl)) ?_; clear S; intro a u S
 refine rs S (la (av rfl)) ?_; clear S; intro a u S
 refine rs S (la (av rfl)) ?_; clear S; intro a u S
 refine wp_seq (rs0 ?_)
 refine sp S (la (mv rfl)) ?_; clear S; intro a u S
 refine cl S (gNext _ _ S.x T (S.M.pick [0] (by decide)) T_l (dn1 (js := [0]) (S.u 0 rfl)) (S.t 0 rfl) 8 ⟨by omega, by omega⟩) cB26 ?_
 rintro e u ⟨r_t13, rfl, hr_t13, tK, T0⟩; refine ⟨_, rfl, fun a s => ?_⟩
 replace S := S.k1 0 rfl s T0 tK; clear s T0 tK
 refine ens S (la (av rfl)) ?_; clear S; intro a u S
 refine wp_block ?_
 replace S := S.nr recE 24
 replace S := S.nr u8E 5
 refine lp7 (fun (c : Int) (ls_a : Option Addr) (ls_c : Nat) (ls : List Rec) (bs_a : Option Addr) (bs_c : Nat) (bs : List Int) => [(0, pT T 0), (1, iI n), (4, .slice none 0 0), (5, .slice none 0 0), (8, iI c), (6, .slice ls_a ls.length ls_c), (7, .slice bs_a bs.length bs_c)]) (fun (c : Int) (ls_a : Option Addr) (ls_c : Nat) (ls : List Rec) (bs_a : Option Addr) (bs_c : Nat) (bs : List Int) => [tpO 112 T T_l, rwO recE 24 w.heap.size ls_a ls_c ls, rwO u8E 5 w.heap.size bs_a bs_c bs]) (fun (c : Int) (ls_a : Option Addr) (ls_c : Nat) (ls : List Rec) (bs_a : Option Addr) (bs_c : Nat) (bs : List Int) => (0 ≤ c ∧ c ≤ 7) ∧ (ls.length : Int) + c ≤ 8 ∧ allJ n ls ∧ bs = bytesJ ls) (fun (c : Int) (ls_a : Option Addr) (ls_c : Nat) (ls : List Rec) (bs_a : Option Addr) (bs_c : Nat) (bs : List Int) => c.toNat) S r_t13 none 0 ([]) none 0 ([]) (subM rfl) rfl ?_ ?_
 ·exact ⟨⟨by omega, by omega⟩, by simp; omega, allJ_nil, rfl⟩
 clear S; intro c ls_a ls_c ls bs_a bs_c bs a u S hR
 have ls_len := (S.row 1 rfl).len_le; simp only [maxLen] at ls_len
 have bs_len := (S.row 2 rfl).len_le; simp only [maxLen] at bs_len
 obtain ⟨⟨hc0_, hc7_⟩, hll, hal, hbs⟩ := hR
 have hbl : bs.length = 14 * ls.length := by rw [hbs]; exact bytesJ_lenOK (allJ_ok hal)
 refine wp_seq ?_
 refine rs S (tr (mv rfl)<|la (gtri rfl rfl)) ?_; clear S; intro a u S
 refine cd S rfl ?_ ?_
 ·intro hc0
  refine wp_skip (then_n (wp_seq (wp_block (rs0 ?_))))
  refine sp S (tr (mv rfl)<|la (mv rfl)) ?_; clear S; intro a u S
  refine cl S (lRecord _ _ S.x T (S.M.pick [0] (by decide)) T_l (dn1 (js := [0]) (S.u 0 rfl)) (S.t 0 rfl) n n_h) cB20 ?_
  rintro e u ⟨r_t20, rfl, R_t20, tK, T0⟩; refine ⟨_, rfl, fun a s => ?_⟩
  replace S := (S.k1 0 rfl s T0 tK).ar (wfF recE r_t20) (Enc.up _ R_t20); clear s T0 tK R_t20
  obtain ⟨hl7, hu7⟩ : inI64 r_t20.kind := id ((S.u 1 rfl).1)
  obtain ⟨hl8, hu8⟩ : inI64 r_t20.dev := id ((S.u 1 rfl).2.1)
  obtain ⟨hl9, hu9⟩ : inI64 r_t20.inc := id ((S.u 1 rfl).2.2.1)
  obtain ⟨hl10, hu10⟩ : inI64 r_t20.seq := id ((S.u 1 rfl).2.2.2)
  refine nbp S (x_allocz _ iZ24 rfl) ?_; clear S; intro a u b9 S
  refine ens S (la (stkw 3 rfl rfl rfl)) ?_; clear S; intro a u S
  refine rs0 ?_
  refine sp S (la (ldkw 3 rfl rfl wD24)) ?_; clear S; intro a u S
  refine cl S (rEncode _ _ S.x (.nil _) r_t20 (dn0 (S.u 1 rfl))) cB22 ?_
  rintro e u ⟨ra_t230, rc_t230, rfl, R_t230, T0⟩; refine ⟨_, rfl, fun a s => ?_⟩
  replace S := S.kr [⟨_, u8E, 5, ra_t230, rc_t230, (if recOK r_t20 then encR r_t20 else [])⟩] s T0 ⟨R_t230, trivial⟩; clear s T0 R_t230
  have hel := enc_len r_t20
  refine ens S (tr (mv rfl)<|tr (exi rfl rfl)<|tr (exi rfl rfl)<|tr (av rfl)<|la (av rfl)) ?_; clear S; intro a u S
  refine rs S (tr (mv rfl)<|tr (eqli rfl rfl)<|tr (mv rfl)<|tr (og 28 rfl gt fun S hg=>xf (0) 1 uT24 (S.e rfl))<|tr (og 28 rfl gt fun S hg=>x_load sC3 (S.p rfl hg) ((S.k 3 rfl).cell (j := 1) rfl))<|tr (og 28 rfl gt fun S hg=>x_move (S.e rfl))<|tr (og 28 rfl gt fun S hg=>x_lss (S.p rfl hg) (S.p rfl hg))<|la (andi rfl rfl rfl)) ?_; clear S; intro a u S
  refine cd S rfl ?_ ?_
  ·intro hc1
   refine r0 ?_
   refine sp S (tr (mv rfl)<|la (ldkw 3 rfl rfl wD24)) ?_; clear S; intro a u S
   refine nbs recE S [r_t20] (x_bs S [(0, .agg (recE.cells r_t20).toArray)] uT32 iZ24) (fun x hx => by simp only [List.mem_cons, List.not_mem_nil, or_false] at hx; rw [hx]; exact (show recE.wf _ _ r_t20 from ⟨(S.u 1 rfl).1, (S.u 1 rfl).2.1, (S.u 1 rfl).2.2.1, (S.u 1 rfl).2.2.2⟩)) ?_; clear S; intro a u b36 S
   refine ap (E := recE) (ys := [r_t20]) S 1 rfl uT32 iZ24 rfl rfl (show LAt recE _ _ (some ⟨b36, 0, none⟩) ([r_t20]) from ((S.u 2 rfl)).1) ((S.u 2 rfl)).2.2 (LAt.mem (show LAt recE _ _ (some ⟨b36, 0, none⟩) ([r_t20]) from ((S.u 2 rfl)).1)) ⟨by unfold maxLen; (try simp only [List.length_cons, List.length_nil, List.length_append, List.length_map]); omega, by (try simp only [List.length_cons, List.length_nil, List.length_append, List.length_map]); omega⟩ ?_; clear S; intro a u ad37 cap37 S
   refine sp S (tr (mv rfl)<|la (mv rfl)) ?_; clear S; intro a u S
   refine ap (E := u8E) (ys := (if recOK r_t20 then encR r_t20 else [])) S 2 rfl uT28 iZ5 rfl rfl ((S.row 4 rfl).lat (by first | decide | exact Nat.one_pos | exact Nat.succ_pos _)) (S.row 4 rfl).cap_le.2 (S.row 4 rfl).wf ⟨by unfold maxLen; (try simp only [List.length_cons, List.length_nil, List.length_append, List.length_map]); omega, by (try simp only [List.length_cons, List.length_nil, List.length_append, List.length_map]); omega⟩ ?_; clear S; intro a u ad40 cap40 S
   refine en S (tr (av rfl)<|la (av rfl)) ?_; clear S; intro a u S
   refine blk_n (then_n ?_)
   refine rg S (tr (mv rfl)<|tr (subi (c - 1) rfl rfl (w_i64 (by omega)))<|la (av rfl)) ?_; clear S; intro a u S
   refine then_n ?_
   refine ⟨(c - 1), ad37, cap37, (ls ++ [r_t20]), ad40, cap40, (bs ++ (if recOK r_t20 then encR r_t20 else [])), S.re (subM rfl) rfl rfl, ?_, ?_⟩
   ·first
    | exact ⟨⟨by omega, by omega⟩, by omega, hal, hbs⟩
    | (
    have hv : recOK r_t20 := by
     apply Classical.byContradiction; intro q
     have h := hc1.1
     rw [if_neg q] at h; cases h
    exact ⟨⟨by omega, by omega⟩, by rw [List.length_append, List.length_singleton]; omega, allJ_snoc hal hv hc1.2, by rw [bytesJ_snoc, hbs]⟩)
   omega
  intro hc2
  refine wp_skip (blk_n (then_n ?_))
  refine rg S (tr (mv rfl)<|tr (subi (c - 1) rfl rfl (w_i64 (by omega)))<|la (av rfl)) ?_; clear S; intro a u S
  refine then_n ?_
  refine ⟨(c - 1), ls_a, ls_c, ls, bs_a, bs_c, bs, S.re (subM rfl) rfl rfl, ?_, ?_⟩
  ·first
   | exact ⟨⟨by omega, by omega⟩, by omega, hal, hbs⟩
   | (
   have hv : recOK r_t20 := by
    apply Classical.byContradiction; intro q
    have h := hc2.1
    rw [if_neg q] at h; cases h
   exact ⟨⟨by omega, by omega⟩, by rw [List.length_append, List.length_singleton]; omega, allJ_snoc hal hv hc2.2, by rw [bytesJ_snoc, hbs]⟩)
  omega
 intro hc3
 refine wp_exit (then_e (then_e (blk_e (then_n ?_))))
 refine rs S (tr (mv rfl)<|tr (mv rfl)<|tr (av rfl)<|la (av rfl)) ?_; clear S; intro a u S
 refine wp_ret ?_
 refine ret2 rfl S.s rfl rfl ?_
 replace S := S.pk [1, 2, 0] (os' := [rwO recE 24 w.heap.size ls_a ls_c ls, rwO u8E 5 w.heap.size bs_a bs_c bs, tpO 112 T T_l])
 have hx17 : bytesJ ls = bs := by
  rw [hbs]
 refine ⟨ls, ls_a, ls_c, bs_a, bs_c, (r2 rfl (by rw [hx17])), (S.row 0 rfl), (by rw [hx17]; exact (S.row 1 rfl)), ?_, (S.t 2 rfl), S.m.c⟩
 exact ⟨by omega, hal⟩
end Go.Proofs.Ytobggnpnochnnaa.V
namespace Go.Proofs.Ytobggnpnochnnaa.V
open Go.RowKit Go.Proofs.Ytobggnpnochnnaa
set_option linter.unusedVariables false
set_option linter.unusedSimpArgs false
theorem planG_sp {p : Plan} {n : Int} (h : planG p n) : ∀ x ∈ p.rounds.xs, 0 < x.xs.length ∧ x.xs.length ≤ 1000 := fun x hx => by
 obtain ⟨sts, hst⟩ := Option.isSome_iff_exists.1 h.1.1
 have hP := (statesP_ok hst (by rw [rdsP_len]; exact h.1.2)).2.1
 exact ⟨h.2.2 x hx, (hP.rd x.xs (List.mem_map_of_mem hx)).1⟩
end Go.Proofs.Ytobggnpnochnnaa.V
set_option linter.unusedVariables false
set_option linter.unusedSimpArgs false
namespace Go.Proofs.Ytobggnpnochnnaa.V
open Go.RowKit
section
variable {P : Program} {ops : Array Oper} {o : Oper} {F : Nat → Prop} {w0 : World} {m0 : List BS} {n : Nat} {L : List (Nat × Value)} {fs : List RF} {os : List OF}
theorem goffu (gd : Nat) {b : Bool} {gv : Value} {d : Nat} (hv : look gd L = some gv)
    (hk : ∃ j p, o.guard = some (j, b) ∧ ops[j]? = some p ∧ p.dst = some gd ∧ gd < n ∧ o.dst = some d ∧ d < n := by exact ⟨_, _, rfl, rfl, rfl, by decide, rfl, by decide⟩) (hbc : gv ≠ .bool b := by intro h; cases h) :
    One P ops (St F w0 m0 n L fs os) [] o (St F w0 m0 n ((d, undef) :: L) fs os) := fun K Q a w S k => by
  obtain ⟨j, p, h1, h2, h3, h4, h5, h6⟩ := hk
  have hw := (want_iff (a := a) (o := o) h1 h2 h3 (by rw [S.s.size]; exact h4) (S.s.get gd _ hv))
  unfold Core
  rw [if_neg (fun e => hbc (hw.1 e)), h5]
  exact k _ _ ⟨S.s.put h6, S.m⟩ (Ch.refl _)
end
end Go.Proofs.Ytobggnpnochnnaa.V
namespace Go.Proofs.Ytobggnpnochnnaa.V
open Go.RowKit Go.Proofs.Ytobggnpnochnnaa
set_option linter.unusedVariables false
set_option linter.unusedSimpArgs false
theorem replE_ok {p : Plan} {n : Int} {b : List Int} (h : ((statesP p.staged (rdsP p) n).isSome = true ∧ p.rounds.xs.length ≤ 16) ∧ allJ n (recsJ b)) : replE p n (recsP b (decN b)) = 0 := by
 unfold replE
 rw [if_neg (fun q => q h.1), if_neg (by have := recsJ_len b; unfold recsJ at this; omega), if_pos (show allJ n (recsP b (decN b)) from h.2)]
theorem replE_no {p : Plan} {n : Int} {b : List Int} (h : ¬ (((statesP p.staged (rdsP p) n).isSome = true ∧ p.rounds.xs.length ≤ 16) ∧ allJ n (recsJ b))) : replE p n (recsP b (decN b)) = 1 := by
 unfold replE
 split
 ·rfl
 rename_i hg
 rw [if_neg (by have := recsJ_len b; unfold recsJ at this; omega), if_neg (fun q : allJ n (recsP b (decN b)) => h ⟨Classical.not_not.1 hg, q⟩)]
set_option maxHeartbeats 2000000 in
set_option maxRecDepth 20000 in
theorem lOpens (w : World) (F : Nat → Prop) (hF : Old F w) (M : MS [] w) (t : Sl Int) (t_w : (slE intE).wf (Fr F []) w.heap t) (devices : Int) (devices_h : inI64 devices) :
 Calls Try.prog 8 #[sV t, iI devices] w fun e w' => e = .returned (bD (True)) ∧ Tr [] w [] w' := by
 have : t.xs.length ≤ 9223372036854775807 := (t_w).1.len
 obtain ⟨devices_hl, devices_hu⟩ : inI64 devices := id devices_h
 refine go Try.func8 rfl 99 rfl [wfF (slE intE) t] [] hF M ⟨t_w, trivial⟩ trivial ?_
 intro a S
 have hD : ∀ k, In ([] : List BS) k → ¬ F k := fun _ h => h.elim
 refine rs S (la (av rfl)) ?_; clear S; intro a u S
 refine rs0 ?_
 refine sp S (la (mv rfl)) ?_; clear S; intro a u S
 refine cl S (gNew _ _ S.x (.nil _) t (dn0 (S.u 0 rfl))) cB19 ?_
 rintro e u ⟨T19, rfl, TK, T0⟩; refine ⟨_, rfl, fun a s => ?_⟩; replace S := S.kt s T0 TK; clear s T0 TK
 refine ens S (la (av rfl)) ?_; clear S; intro a u S
 refine rs0 ?_
 refine sp S (la (mv rfl)) ?_; clear S; intro a u S
 refine cl S (gNext _ _ S.x T19 (S.M.pick [0] (by decide)) t (dn1 (js := [0]) (S.u 0 rfl)) (S.t 0 rfl) 3 ⟨by omega, by omega⟩) cB26 ?_
 rintro e u ⟨r_t21, rfl, hr_t21, tK, T0⟩; refine ⟨_, rfl, fun a s => ?_⟩
 replace S := S.k1 0 rfl s T0 tK; clear s T0 tK
 refine sp S (tr (addi (1 + r_t21) rfl rfl (w_i64 (by omega)))<|la (av rfl)) ?_; clear S; intro a u S
 obtain ⟨n, hn⟩ : ∃ z : Int, z = (1 + r_t21) := ⟨_, rfl⟩
 rw [← hn] at S
 refine ent (rs0 ?_)
 refine sp S (tr (mv rfl)<|la (mv rfl)) ?_; clear S; intro a u S
 refine cl S (gPlan _ _ S.x T19 (S.M.pick [0] (by decide)) t (dn1 (js := [0]) (S.u 0 rfl)) (S.t 0 rfl) n ⟨by omega, by omega⟩ (⟨by omega, by omega⟩)) cB30 ?_
 rintro e u ⟨r_t25, rfl, R_t25, hr_t25, tK, T0⟩; refine ⟨_, rfl, fun a s => ?_⟩
 replace S := (S.k1 0 rfl s T0 tK).ar (wfF planE r_t25) (Enc.up _ R_t25); clear s T0 tK R_t25
 have hsp := planG_sp hr_t25
 have hgp := hr_t25
 obtain ⟨hgd, hp3, hpne⟩ := hr_t25
 have hn5 : r_t25.rounds.xs.length ≤ 9223372036854775807 := ((S.u 1 rfl).2).1.len
 refine nbp S (x_allocz _ iZ47 rfl) ?_; clear S; intro a u b7 S
 refine ens S (la (stkw 1 rfl rfl rfl)) ?_; clear S; intro a u S
 refine rs0 ?_
 refine sp S (tr (mv rfl)<|tr (mv rfl)<|la (addi (n + 1) rfl rfl (w_i64 (by omega)))) ?_; clear S; intro a u S
 refine cl S (lLog _ _ S.x T19 (S.M.pick [0] (by decide)) t (dn1 (js := [0]) (S.u 0 rfl)) (S.t 0 rfl) (n + 1) ⟨by omega, by omega⟩) cB25 ?_
 rintro e u ⟨rx_t300, ra_t300, rc_t300, ra_t301, rc_t301, rfl, R_t300, R_t301, hr_t300, tK, T0⟩; refine ⟨_, rfl, fun a s => ?_⟩
 replace S := S.kr1 0 rfl [⟨_, recE, 24, ra_t300, rc_t300, rx_t300⟩, ⟨_, u8E, 5, ra_t301, rc_t301, bytesJ rx_t300⟩] s T0 ⟨R_t300, R_t301, trivial⟩ (fun _ => tK); clear s T0 tK R_t300 R_t301
 replace S := S.pk [0, 1, 2, 3] (os' := [tpO 112 T19 t, blO b7 (planE.cells r_t25) 47, rwO recE 24 w.heap.size ra_t300 rc_t300 rx_t300, rwO u8E 5 w.heap.size ra_t301 rc_t301 (bytesJ rx_t300)])
 refine sp S (tr (mv rfl)<|tr (exi rfl rfl)<|tr (exi rfl rfl)<|tr (av rfl)<|la (av rfl)) ?_; clear S; intro a u S
 replace S := S.fz 2 rfl (by show 0 < recE.n; decide)
 replace S := S.fz 3 rfl
 refine ent (wp_seq (rs0 ?_))
 refine sp S (la (mv rfl)) ?_; clear S; intro a u S
 refine cl S (gNext _ _ S.x T19 (S.M.pick [0] (by decide)) t (dn1 (js := [0]) (S.u 0 rfl)) (S.t 0 rfl) 6 ⟨by omega, by omega⟩) cB26 ?_
 rintro e u ⟨r_t34, rfl, hr_t34, tK, T0⟩; refine ⟨_, rfl, fun a s => ?_⟩
 replace S := S.k1 0 rfl s T0 tK; clear s T0 tK
 refine ens S (la (eqli rfl rfl)) ?_; clear S; intro a u S
 refine cd S rfl ?_ ?_
 ·intro hc0
  refine r0 ?_
  refine sp S (tr (mv rfl)<|la (ldkw 1 rfl rfl wD47)) ?_; clear S; intro a u S
  refine cl S (gSpoil _ _ S.x T19 (S.M.pick [0] (by decide)) t (dn1 (js := [0]) (S.u 0 rfl)) (S.t 0 rfl) r_t25 (dn1 (js := [0]) (S.u 1 rfl)) (⟨by first | omega | (dsimp only; omega), by assumption⟩)) cB31 ?_
  rintro e u ⟨r_t38, rfl, R_t38, hr_t38, tK, T0⟩; refine ⟨_, rfl, fun a s => ?_⟩
  replace S := (S.k1 0 rfl s T0 tK).ar (wfF planE r_t38) (Enc.up _ R_t38); clear s T0 tK R_t38
  have hn9 : r_t38.rounds.xs.length ≤ 9223372036854775807 := ((S.u 4 rfl).2).1.len
  refine ens S (la (stkw 1 rfl rfl rfl)) ?_; clear S; intro a u S
  refine wp_seq ?_
  refine rs S (la (av rfl)) ?_; clear S; intro a u S
  refine wp_block ?_
  refine lp2 (fun (i : Nat) (n2 : Int) => [(1, iI devices), (7, pT b7 0), (9, .slice ra_t301 ((bytesJ rx_t300).length) rc_t301), (10, iN i), (6, iI n2)]) (fun (i : Nat) (n2 : Int) => [tpO 112 T19 t, blO b7 (planE.cells r_t38) 47, noO, noO]) (fun (i : Nat) (n2 : Int) => i ≤ 2 ∧ inI64 n2) (fun (i : Nat) (n2 : Int) => 2 - i) S 0 n (subM rfl) rfl ?_ ?_
  ·exact ⟨Nat.zero_le _, by omega, by omega⟩
  clear S; intro i n2 a u S hR
  obtain ⟨hi, hn2⟩ := hR
  refine wp_seq ?_
  refine rs S (tr (mv rfl)<|la (lssi rfl rfl)) ?_; clear S; intro a u S
  refine cd S rfl ?_ ?_
  ·intro hc1
   refine wp_skip (then_n (wp_seq (wp_block (rs0 ?_))))
   refine sp S (la (mv rfl)) ?_; clear S; intro a u S
   refine cl S (rDecode _ _ S.x (.nil _) (Sl.mk ra_t301 rc_t301 (bytesJ rx_t300)) (dn0 (S.u 3 rfl))) cB27 ?_
   rintro e u ⟨ra_t450, rc_t450, rfl, R_t450, T0⟩; refine ⟨_, rfl, fun a s => ?_⟩
   replace S := S.kr [⟨_, recE, 24, ra_t450, rc_t450, recsP (bytesJ rx_t300) (decN (bytesJ rx_t300))⟩] s T0 ⟨R_t450, trivial⟩; clear s T0 R_t450
   refine ens S (tr (mv rfl)<|tr (exi rfl rfl)<|tr (exi rfl rfl)<|tr (av rfl)<|la (av rfl)) ?_; clear S; intro a u S
   refine rs0 ?_
   refine sp S (tr (ldkw 1 rfl rfl wD47)<|tr (mv rfl)<|la (mv rfl)) ?_; clear S; intro a u S
   replace S := S.fz 4 rfl (by show 0 < recE.n; decide)
   refine cl S (rReplay _ _ S.x (.nil _) r_t38 (dn0 (S.u 4 rfl)) n2 hn2 (Sl.mk ra_t450 rc_t450 (recsP (bytesJ rx_t300) (decN (bytesJ rx_t300)))) (dn0 (S.u 5 rfl)) (by first | omega | (dsimp only; omega))) cB35 ?_
   rintro e u ⟨r_t520, rfl, R_t520, hr_t520, T0⟩; refine ⟨_, rfl, fun a s => ?_⟩
   replace S := (S.k0 s T0).ar (wfF ctrlE r_t520) (Enc.up _ R_t520); clear s T0 R_t520
   obtain ⟨hl14, hu14⟩ : inI64 r_t520.round := id ((S.u 6 rfl).1)
   obtain ⟨hl15, hu15⟩ : inI64 r_t520.seq := id ((S.u 6 rfl).2.2.1)
   have hn16 : r_t520.target.xs.length ≤ 9223372036854775807 := ((S.u 6 rfl).2.2.2.1).1.len
   have hn17 : r_t520.known.xs.length ≤ 9223372036854775807 := ((S.u 6 rfl).2.2.2.2.1).1.len
   have hn18 : r_t520.waiting.xs.length ≤ 9223372036854775807 := ((S.u 6 rfl).2.2.2.2.2).1.len
   refine sp S (tr (mv rfl)<|tr (exi rfl rfl)<|la (exi rfl rfl)) ?_; clear S; intro a u S
   refine nbp S (x_allocz _ iZ57 rfl) ?_; clear S; intro a u b13 S
   refine ens S (tr (stkw 5 rfl rfl rfl)<|la (av rfl)) ?_; clear S; intro a u S
   refine rs0 ?_
   refine sp S (tr (ldkw 1 rfl rfl wD47)<|tr (mv rfl)<|la (mv rfl)) ?_; clear S; intro a u S
   refine cl S (jOpen _ _ (S.xx (ow []))  (S.mF (ks := [tpO 112 T19 t, blO b7 (planE.cells r_t38) 47, noO, noO, noO, blO b13 (ctrlE.cells r_t520) 57]) (fs := [])) (S.nfF (ks := [tpO 112 T19 t, blO b7 (planE.cells r_t38) 47, noO, noO, noO, blO b13 (ctrlE.cells r_t520) 57]) (fs := []) hD) r_t38 (dnF (ks := [tpO 112 T19 t, blO b7 (planE.cells r_t38) 47, noO, noO, noO, blO b13 (ctrlE.cells r_t520) 57]) (fs := []) (S.u 4 rfl)) n2 hn2 (Sl.mk ra_t301 rc_t301 (bytesJ rx_t300)) (dnF (ks := [tpO 112 T19 t, blO b7 (planE.cells r_t38) 47, noO, noO, noO, blO b13 (ctrlE.cells r_t520) 57]) (fs := []) (S.u 3 rfl)) (by first | omega | (dsimp only; omega))) cB36 ?_
   rintro e u ⟨q_t59, rfl, qK_t59, qB_t59, hr_t59, T0⟩; refine ⟨_, rfl, fun a s => ?_⟩
   have S2 := S.kF (ks := [tpO 112 T19 t, blO b7 (planE.cells r_t38) 47, noO, noO, noO, blO b13 (ctrlE.cells r_t520) 57]) (fs := []) [bnO (lgQ q_t59)] s T0 ⟨qB_t59, trivial⟩ ⟨(mo_bn (mo_lgQ _)), trivial⟩
   replace S2 := (show St _ _ _ _ _ _ [tpO 112 T19 t, blO b7 (planE.cells r_t38) 47, noO, noO, noO, blO b13 (ctrlE.cells r_t520) 57, bnO (lgQ q_t59)] _ _ from S2)
   clear S; have S := S2; clear S2 s T0 qB_t59
   rcases q_t59 with _ | ⟨B_t59, x_t59⟩
   ·skip
    replace S := S.pk [0, 1, 2, 3, 4, 5] (os' := [tpO 112 T19 t, blO b7 (planE.cells r_t38) 47, noO, noO, noO, blO b13 (ctrlE.cells r_t520) 57])
    have hre : replE r_t38 n2 (recsP (bytesJ rx_t300) (decN (bytesJ rx_t300))) = 1 := replE_no (fun h => by have := hr_t59.1.2 h; cases this)
    rw [hre] at S
    refine ens S (tr (mv rfl)<|tr (exi rfl rfl)<|tr (exi rfl rfl)<|tr (exi rfl rfl)<|tr (av rfl)<|tr (av rfl)<|la (av rfl)) ?_; clear S; intro a u S
    refine wp_seq (wp_seq ?_)
    refine dr (P := Try.prog) S 34 [] ((63, .is _) :: (64, .is _) :: (65, .is _) :: (66, .is _) :: (67, .is _) :: (68, .is _) :: (69, .is _) :: (70, .is _) :: (71, .is _) :: (72, .is _) :: (73, .is _) :: (74, .is _) :: (75, .is _) :: (76, .is _) :: (77, .is _) :: (78, .is _) :: (79, .is _) :: (80, .is _) :: (81, .is _) :: (82, .is _) :: (83, .is _) :: (84, .is _) :: (85, .is _) :: (86, .is _) :: (87, .is _) :: (88, .is _) :: (89, .is _) :: (90, .is _) :: (91, .is _) :: (92, .is _) :: (93, .is _) :: (94, .is _) :: (95, .is _) :: (96, .is _) :: []) ([] :: [] :: [63, 64] :: [65] :: [66] :: [66, 67] :: [66] :: [66, 69] :: [66, 68, 70] :: [66, 71] :: [72] :: [73] :: [73, 74] :: [73, 75] :: [76] :: [76] :: [76, 77, 78] :: [76, 79] :: [80] :: [80, 81] :: [80] :: [80, 82, 83] :: [80, 84] :: [76, 80, 85] :: [73, 76, 86] :: [73, 87] :: [88] :: [89] :: [89, 90] :: [89, 91] :: [92] :: [92, 93] :: [89, 92, 94] :: [89, 95] :: []) [96] _ ⟨qd (mv rfl), qd (mv rfl), qd (neqi rfl rfl), qd (mv rfl), qd (gon 66 rfl fun S=>x_move (S.e rfl)), qd (gon 66 rfl fun S=>x_pneN uT52 (S.e rfl) (S.e rfl)), qd (gon 66 rfl fun S=>x_move (S.e rfl)), qd (gon 66 rfl fun S=>x_eql (S.e rfl) (S.e rfl)), qd (gon 66 rfl fun S=>x_bneq uT4 (S.e rfl) (S.e rfl)), qd (ov fun S=>x_pickf (S.e rfl) (S.e rfl)), qd (mv rfl), qd (gon 73 rfl fun S=>x_move (S.e rfl)), qd (gon 73 rfl fun S=>x_eql (S.e rfl) (S.e rfl)), qd (gon 73 rfl fun S=>x_move (S.e rfl)), qd (goff 76 rfl), qd (goff 76 rfl), qd (goff 76 rfl), qd (goff 76 rfl), qd (goffu 80 rfl), qd (goffu 80 rfl), qd (goffu 80 rfl), qd (goffu 80 rfl), qd (goffu 80 rfl), qd (goff 76 rfl), qd (gon 73 rfl fun S=>x_pickf (S.e rfl) (S.e rfl)), qd (ov fun S=>x_pickf (S.e rfl) (S.e rfl)), qd (mv rfl), qd (gon 89 rfl fun S=>x_move (S.e rfl)), qd (gon 89 rfl fun S=>x_neq (S.e rfl) (S.e rfl)), qd (gon 89 rfl fun S=>x_move (S.e rfl)), qd (gon 92 rfl fun S=>x_move (S.e rfl)), qd (gon 92 rfl fun S=>x_neq (S.e rfl) (S.e rfl)), qd (gon 89 rfl fun S=>x_pickt (S.e rfl) (S.e rfl)), qd (ov fun S=>x_pickf (S.e rfl) (S.e rfl)), trivial⟩ ?_
    clear S; intro a u S G hE
    refine ent ?_
    refine cd S rfl ?_ ?_
    ·intro hc2
     refine rs S (la (av rfl)) ?_; clear S; intro a u S
     refine wp_ret (then_r (blk_r (then_r (then_r (blk_r (then_r ?_))))))
     refine ret1 rfl S.s rfl ?_
     replace S := S.pk []
     refine ⟨(r1 (vf ?_)), S.m.c⟩
     first
     | exact Iff.rfl
     | exact fun _ => hc2 (if_neg (fun h => by cases h))
     | (intro _
        rcases hc2 with (q | q) | q
        ·exact q (if_pos rfl)
        ·exact q trivial
        exact q.1 rfl)
    intro hc3
    refine wp_skip (then_n (r0 ?_))
    refine sp S (tr (mv rfl)<|la (av rfl)) ?_; clear S; intro a u S
    refine nn (blk_n (then_n ?_))
    refine rg S (tr (mv rfl)<|tr (addi ((i + 1 : Nat) : Int) rfl rfl (w_i64 (by omega)))<|la (av rfl)) ?_; clear S; intro a u S
    refine then_n ?_
    refine ⟨(i + 1), devices, S.re (subM rfl) rfl rfl, ?_, ?_⟩
    ·exact ⟨by omega, by first | assumption | exact ⟨by omega, by omega⟩⟩
    omega
   skip
   replace S := (show St _ _ _ _ _ _ [tpO 112 T19 t, blO b7 (planE.cells r_t38) 47, noO, noO, noO, blO b13 (ctrlE.cells r_t520) 57, bnO (lgF B_t59 x_t59)] _ _ from S)
   have hre : replE r_t38 n2 (recsP (bytesJ rx_t300) (decN (bytesJ rx_t300))) = 0 := replE_ok (hr_t59.1.1 rfl)
   rw [hre] at S
   have hLO : LogAt _ _ _ x_t59 _ := hr_t59.2 _ rfl
   have hso := hLO.ma.sn
   have hkn_x_t59 : x_t59.m.2.known.xs.length = x_t59.m.2.target.xs.length := hLO.ma.ok.2.kn
   have hwt_x_t59 : x_t59.m.2.waiting.xs.length ≤ x_t59.m.2.target.xs.length := hLO.ma.ok.2.wt.len
   have hn1_x_t59 := hLO.ma.ok.1.n1
   have htg_x_t59 := hLO.ma.tg
   obtain ⟨⟨_, _⟩, ⟨_, _⟩⟩ : inI64 x_t59.m.2.round ∧ inI64 x_t59.m.2.seq := id qK_t59
   have hkg : replC r_t38 n2 (recsP (bytesJ rx_t300) (decN (bytesJ rx_t300))) = noS (absM x_t59.m.2) := by unfold replC; rw [if_pos hre]; exact hLO.ma.ab.symm
   refine ens S (tr (mv rfl)<|tr (exi rfl rfl)<|tr (exi rfl rfl)<|tr (exi rfl rfl)<|tr (av rfl)<|tr (av rfl)<|la (av rfl)) ?_; clear S; intro a u S
   refine wp_seq (wp_seq ?_)
   refine dr (P := Try.prog) S 34 [] ((63, .is _) :: (64, .is _) :: (65, .is _) :: (66, .is _) :: (67, .is _) :: (68, .is _) :: (69, .is _) :: (70, .is _) :: (71, .is _) :: (72, .is _) :: (73, .is _) :: (74, .is _) :: (75, .is _) :: (76, .is _) :: (77, .is _) :: (78, .is _) :: (79, .is _) :: (80, .is _) :: (81, .is _) :: (82, .of (fun z w => (¬ (¬ (openN (some (B_t59, x_t59)) (bytesJ rx_t300)) = ((14 * decN (bytesJ rx_t300) : Nat) : Int))) → ∃ (x82aa : Option Addr) (x82ba : Nat) (x82cb : Option Addr) (x82db : Nat) (x82ec : Option Addr) (x82fc : Nat), z = .agg #[iI x_t59.m.2.round, bD (x_t59.m.2.back = true), iI x_t59.m.2.seq, .slice x82aa x_t59.m.2.target.xs.length x82ba, .slice x82cb x_t59.m.2.known.xs.length x82db, .slice x82ec x_t59.m.2.waiting.xs.length x82fc] ∧ (slE intE).wf (Fr F [one T19, one b7, (fun _ => False), (fun _ => False), (fun _ => False), one b13, In (ow (lgF B_t59 x_t59))]) w.heap (Sl.mk x82aa x82ba x_t59.m.2.target.xs) ∧ (slE intE).wf (Fr F [one T19, one b7, (fun _ => False), (fun _ => False), (fun _ => False), one b13, In (ow (lgF B_t59 x_t59))]) w.heap (Sl.mk x82cb x82db x_t59.m.2.known.xs) ∧ (slE intE).wf (Fr F [one T19, one b7, (fun _ => False), (fun _ => False), (fun _ => False), one b13, In (ow (lgF B_t59 x_t59))]) w.heap (Sl.mk x82ec x82fc x_t59.m.2.waiting.xs)) (fun v w w' c h hg => let ⟨x82aa, x82ba, x82cb, x82db, x82ec, x82fc, hv, h0, h1, h2⟩ := h hg; ⟨x82aa, x82ba, x82cb, x82db, x82ec, x82fc, hv, Enc.kp (slE intE) h0 c (fun _ h => by simp at h), Enc.kp (slE intE) h1 c (fun _ h => by simp at h), Enc.kp (slE intE) h2 c (fun _ h => by simp at h)⟩)) :: (83, .is _) :: (84, .is ((if (¬ (¬ (openN (some (B_t59, x_t59)) (bytesJ rx_t300)) = ((14 * decN (bytesJ rx_t300) : Nat) : Int))) then bD (True) else undef))) :: (85, .is _) :: (86, .is _) :: (87, .is _) :: (88, .is _) :: (89, .is _) :: (90, .is _) :: (91, .is _) :: (92, .is _) :: (93, .is _) :: (94, .is _) :: (95, .is _) :: (96, .is _) :: []) ([] :: [] :: [63, 64] :: [65] :: [66] :: [66, 67] :: [66] :: [66, 69] :: [66, 68, 70] :: [66, 71] :: [72] :: [73] :: [73, 74] :: [73, 75] :: [76] :: [76] :: [76, 77, 78] :: [76, 79] :: [80] :: [80, 81] :: [80] :: [80, 82, 83] :: [80, 84] :: [76, 80, 85] :: [73, 76, 86] :: [73, 87] :: [88] :: [89] :: [89, 90] :: [89, 91] :: [92] :: [92, 93] :: [89, 92, 94] :: [89, 95] :: []) [96] _ ⟨qd (mv rfl), qd (mv rfl), qd (neqi rfl rfl), qd (mv rfl), qd (gon 66 rfl fun S=>x_move (S.e rfl)), qd (gon 66 rfl fun S=>x_pneN uT52 (S.e rfl) (S.e rfl)), qd (gon 66 rfl fun S=>x_move (S.e rfl)), qd (gon 66 rfl fun S=>x_eql (S.e rfl) (S.e rfl)), qd (gon 66 rfl fun S=>x_bneq uT4 (S.e rfl) (S.e rfl)), qd (ov fun S=>x_pickf (S.e rfl) (S.e rfl)), qd (mv rfl), qd (gon 73 rfl fun S=>x_move (S.e rfl)), qd (gon 73 rfl fun S=>x_eql (S.e rfl) (S.e rfl)), qd (gon 73 rfl fun S=>x_move (S.e rfl)), qd (gon 76 rfl fun S=>x_move (S.e rfl)), qd (gon 76 rfl fun S=>x_move (S.e rfl)), qd (gon 76 rfl fun S=>x_neq (S.e rfl) (S.e rfl)), qd (gon 76 rfl fun S=>x_move (S.e rfl)), qd (og 80 rfl gf fun S hg=>x_move (S.e rfl)), ?_, qd (og 80 rfl gf fun S hg=>x_ldw (S.e rfl) (S.k 5 rfl).all wD57), ?_, qd (og 80 rfl gf fun S hg=>x_notp (S.p rfl hg)), qd (gon 76 rfl fun S=>x_or (S.e rfl) (S.e rfl) (S.p rfl)), qd (gon 73 rfl fun S=>x_pickt (S.e rfl) (S.e rfl)), qd (ov fun S=>x_pickf (S.e rfl) (S.e rfl)), qd (mv rfl), qd (og 89 rfl gf fun S hg=>x_move (S.e rfl)), qd (og 89 rfl gf fun S hg=>x_neq (S.p rfl hg) (S.e rfl)), qd (og 89 rfl gf fun S hg=>x_move (S.p rfl hg)), qd (og 92 rfl ggt fun S hg=>x_move (S.e rfl)), qd (og 92 rfl ggt fun S hg=>x_neq (S.p rfl hg) (S.e rfl)), qd (og 89 rfl gf fun S hg=>x_and (S.p rfl hg) (fun hl => (S.p rfl (And.intro hg hl))) (S.e rfl)), qd (ori rfl rfl rfl), trivial⟩ ?_
   ·skip
    intro a u S G hE
    refine (Classical.em (¬ (¬ (openN (some (B_t59, x_t59)) (bytesJ rx_t300)) = ((14 * decN (bytesJ rx_t300) : Nat) : Int)))).symm.elim (fun hg => ?_) fun hg => ?_
    ·exact hng 82 80 S S.m rfl (fun h => hg (gf.2 h)) (show (¬ (¬ (openN (some (B_t59, x_t59)) (bytesJ rx_t300)) = ((14 * decN (bytesJ rx_t300) : Nat) : Int))) → _ from fun h => absurd h hg)
    refine hcg 80 S rfl (gf.1 hg) (jCtl _ _ (S.xx [In (ow (lgF B_t59 x_t59))]) (.nil _) (B_t59, x_t59) (S.rob hD 6 rfl (X := fun D => (ptE lgE 129).wf D _ (B_t59, x_t59)) (rd_lg qK_t59) _ (by simp)) (⟨by first | omega | (dsimp only; omega) | assumption, by first | omega | (dsimp only; omega) | assumption, by first | omega | (dsimp only; omega) | assumption⟩)) cB39 ⟨fun _=>(S.p rfl hg), trivial⟩ ?_
    rintro e w2 ⟨x82a, x82b, x82c, x82d, x82e, x82f, rfl, R0, R1, R2, T0⟩; refine ⟨_, rfl, (fun _ => ?_), T0.ch, (S.m.k0 T0.ch)⟩
    exact ⟨x82a, x82b, x82c, x82d, x82e, x82f, rfl, (S.frz R0 (by decide) (fun _ h => h)), (S.frz R1 (by decide) (fun _ h => h)), (S.frz R2 (by decide) (fun _ h => h))⟩
   ·skip
    intro a u S G hE
    obtain ⟨e82, -⟩ := hE
    have M0 := S.m
    refine (Classical.em (¬ (¬ (openN (some (B_t59, x_t59)) (bytesJ rx_t300)) = ((14 * decN (bytesJ rx_t300) : Nat) : Int)))).symm.elim (fun hg => ?_) fun hg => ?_
    ·exact hng 84 80 S M0 rfl (fun h => hg (gf.2 h)) (show _ = _ from (if_neg hg).symm)
    replace e82 := e82 hg
    obtain ⟨x82a_23, x82b_23, x82c_24, x82d_24, x82e_25, x82f_25, e82, X23, X24, X25⟩ := e82
    replace S := S.ext e82
    refine hcg 80 S rfl (gf.1 hg) (rSameC _ _ S.x (.nil _) (⟨x_t59.m.2.round, x_t59.m.2.back, x_t59.m.2.seq, (Sl.mk x82a_23 x82b_23 x_t59.m.2.target.xs), (Sl.mk x82c_24 x82d_24 x_t59.m.2.known.xs), (Sl.mk x82e_25 x82f_25 x_t59.m.2.waiting.xs)⟩ : Ctrl) ⟨(show inI64 x_t59.m.2.round from ⟨by omega, by omega⟩), trivial, (show inI64 x_t59.m.2.seq from ⟨by omega, by omega⟩), (dn0 X23), (dn0 X24), (dn0 X25)⟩ r_t520 (dn0 (S.u 6 rfl))) cB38 ⟨(fun _=>S.e rfl), fun _=>(S.p rfl hg), trivial⟩ ?_
    rintro e w2 ⟨rfl, T0⟩; exact ⟨_, rfl, (show _ = _ from ((vb (⟨fun _ => trivial, fun _ => same_of_ctlR (c := noS (absM x_t59.m.2)) ⟨rfl, by simp [noS, absM], rfl, rfl, rfl, rfl⟩ (by rw [← hkg]; assumption)⟩)).trans (if_pos hg).symm)), T0.ch, (M0.k0 T0.ch)⟩
   clear S; intro a u S G hE
   refine ent ?_
   refine cd S rfl ?_ ?_
   ·intro hc4
    refine rs S (la (av rfl)) ?_; clear S; intro a u S
    refine wp_ret (then_r (blk_r (then_r (then_r (blk_r (then_r ?_))))))
    refine ret1 rfl S.s rfl ?_
    replace S := S.pk []
    refine ⟨(r1 (vf ?_)), S.m.c⟩
    first
    | exact Iff.rfl
    | exact fun _ => hc4 (if_neg (fun h => by cases h))
    | (intro _
       rcases hc4 with (q | q) | q
       ·exact q (if_pos rfl)
       ·exact q trivial
       exact q.1 rfl)
   intro hc5
   refine wp_skip (then_n (r0 ?_))
   refine sp S (tr (mv rfl)<|la (av rfl)) ?_; clear S; intro a u S
   refine nn (blk_n (then_n ?_))
   refine rg S (tr (mv rfl)<|tr (addi ((i + 1 : Nat) : Int) rfl rfl (w_i64 (by omega)))<|la (av rfl)) ?_; clear S; intro a u S
   refine then_n ?_
   refine ⟨(i + 1), devices, S.re (subM rfl) rfl rfl, ?_, ?_⟩
   ·exact ⟨by omega, by first | assumption | exact ⟨by omega, by omega⟩⟩
   omega
  intro hc6
  refine wp_exit (then_e (then_e (blk_e (then_n ?_))))
  refine rs S (tr (oc (fun S=>lSane _ _ S.x (.nil _)) cB24)<|la (av rfl)) ?_; clear S; intro a u S
  refine wp_ret ?_
  refine ret1 rfl S.s rfl ?_
  replace S := S.pk []
  refine ⟨(r1 (vb ?_)), S.m.c⟩
  first
  | exact Iff.rfl
  | exact fun _ => hc6 (if_neg (fun h => by cases h))
  | (intro _
     rcases hc6 with (q | q) | q
     ·exact q (if_pos rfl)
     ·exact q trivial
     exact q.1 rfl)
 intro hc7
 refine wp_skip (then_n (wp_seq ?_))
 refine rs S (la (av rfl)) ?_; clear S; intro a u S
 refine wp_block ?_
 refine lp2 (fun (i : Nat) (n2 : Int) => [(1, iI devices), (7, pT b7 0), (9, .slice ra_t301 ((bytesJ rx_t300).length) rc_t301), (10, iN i), (6, iI n2)]) (fun (i : Nat) (n2 : Int) => [tpO 112 T19 t, blO b7 (planE.cells r_t25) 47, noO, noO]) (fun (i : Nat) (n2 : Int) => i ≤ 2 ∧ inI64 n2) (fun (i : Nat) (n2 : Int) => 2 - i) S 0 n (subM rfl) rfl ?_ ?_
 ·exact ⟨Nat.zero_le _, by omega, by omega⟩
 clear S; intro i n2 a u S hR
 obtain ⟨hi, hn2⟩ := hR
 refine wp_seq ?_
 refine rs S (tr (mv rfl)<|la (lssi rfl rfl)) ?_; clear S; intro a u S
 refine cd S rfl ?_ ?_
 ·intro hc8
  refine wp_skip (then_n (wp_seq (wp_block (rs0 ?_))))
  refine sp S (la (mv rfl)) ?_; clear S; intro a u S
  refine cl S (rDecode _ _ S.x (.nil _) (Sl.mk ra_t301 rc_t301 (bytesJ rx_t300)) (dn0 (S.u 3 rfl))) cB27 ?_
  rintro e u ⟨ra_t450, rc_t450, rfl, R_t450, T0⟩; refine ⟨_, rfl, fun a s => ?_⟩
  replace S := S.kr [⟨_, recE, 24, ra_t450, rc_t450, recsP (bytesJ rx_t300) (decN (bytesJ rx_t300))⟩] s T0 ⟨R_t450, trivial⟩; clear s T0 R_t450
  refine ens S (tr (mv rfl)<|tr (exi rfl rfl)<|tr (exi rfl rfl)<|tr (av rfl)<|la (av rfl)) ?_; clear S; intro a u S
  refine rs0 ?_
  refine sp S (tr (ldkw 1 rfl rfl wD47)<|tr (mv rfl)<|la (mv rfl)) ?_; clear S; intro a u S
  replace S := S.fz 4 rfl (by show 0 < recE.n; decide)
  refine cl S (rReplay _ _ S.x (.nil _) r_t25 (dn0 (S.u 1 rfl)) n2 hn2 (Sl.mk ra_t450 rc_t450 (recsP (bytesJ rx_t300) (decN (bytesJ rx_t300)))) (dn0 (S.u 4 rfl)) (by first | omega | (dsimp only; omega))) cB35 ?_
  rintro e u ⟨r_t520, rfl, R_t520, hr_t520, T0⟩; refine ⟨_, rfl, fun a s => ?_⟩
  replace S := (S.k0 s T0).ar (wfF ctrlE r_t520) (Enc.up _ R_t520); clear s T0 R_t520
  obtain ⟨hl34, hu34⟩ : inI64 r_t520.round := id ((S.u 5 rfl).1)
  obtain ⟨hl35, hu35⟩ : inI64 r_t520.seq := id ((S.u 5 rfl).2.2.1)
  have hn36 : r_t520.target.xs.length ≤ 9223372036854775807 := ((S.u 5 rfl).2.2.2.1).1.len
  have hn37 : r_t520.known.xs.length ≤ 9223372036854775807 := ((S.u 5 rfl).2.2.2.2.1).1.len
  have hn38 : r_t520.waiting.xs.length ≤ 9223372036854775807 := ((S.u 5 rfl).2.2.2.2.2).1.len
  refine sp S (tr (mv rfl)<|tr (exi rfl rfl)<|la (exi rfl rfl)) ?_; clear S; intro a u S
  refine nbp S (x_allocz _ iZ57 rfl) ?_; clear S; intro a u b13 S
  refine ens S (tr (stkw 5 rfl rfl rfl)<|la (av rfl)) ?_; clear S; intro a u S
  refine rs0 ?_
  refine sp S (tr (ldkw 1 rfl rfl wD47)<|tr (mv rfl)<|la (mv rfl)) ?_; clear S; intro a u S
  refine cl S (jOpen _ _ (S.xx (ow []))  (S.mF (ks := [tpO 112 T19 t, blO b7 (planE.cells r_t25) 47, noO, noO, noO, blO b13 (ctrlE.cells r_t520) 57]) (fs := [])) (S.nfF (ks := [tpO 112 T19 t, blO b7 (planE.cells r_t25) 47, noO, noO, noO, blO b13 (ctrlE.cells r_t520) 57]) (fs := []) hD) r_t25 (dnF (ks := [tpO 112 T19 t, blO b7 (planE.cells r_t25) 47, noO, noO, noO, blO b13 (ctrlE.cells r_t520) 57]) (fs := []) (S.u 1 rfl)) n2 hn2 (Sl.mk ra_t301 rc_t301 (bytesJ rx_t300)) (dnF (ks := [tpO 112 T19 t, blO b7 (planE.cells r_t25) 47, noO, noO, noO, blO b13 (ctrlE.cells r_t520) 57]) (fs := []) (S.u 3 rfl)) (by first | omega | (dsimp only; omega))) cB36 ?_
  rintro e u ⟨q_t59, rfl, qK_t59, qB_t59, hr_t59, T0⟩; refine ⟨_, rfl, fun a s => ?_⟩
  have S2 := S.kF (ks := [tpO 112 T19 t, blO b7 (planE.cells r_t25) 47, noO, noO, noO, blO b13 (ctrlE.cells r_t520) 57]) (fs := []) [bnO (lgQ q_t59)] s T0 ⟨qB_t59, trivial⟩ ⟨(mo_bn (mo_lgQ _)), trivial⟩
  replace S2 := (show St _ _ _ _ _ _ [tpO 112 T19 t, blO b7 (planE.cells r_t25) 47, noO, noO, noO, blO b13 (ctrlE.cells r_t520) 57, bnO (lgQ q_t59)] _ _ from S2)
  clear S; have S := S2; clear S2 s T0 qB_t59
  rcases q_t59 with _ | ⟨B_t59, x_t59⟩
  ·skip
   replace S := S.pk [0, 1, 2, 3, 4, 5] (os' := [tpO 112 T19 t, blO b7 (planE.cells r_t25) 47, noO, noO, noO, blO b13 (ctrlE.cells r_t520) 57])
   have hre : replE r_t25 n2 (recsP (bytesJ rx_t300) (decN (bytesJ rx_t300))) = 1 := replE_no (fun h => by have := hr_t59.1.2 h; cases this)
   rw [hre] at S
   refine ens S (tr (mv rfl)<|tr (exi rfl rfl)<|tr (exi rfl rfl)<|tr (exi rfl rfl)<|tr (av rfl)<|tr (av rfl)<|la (av rfl)) ?_; clear S; intro a u S
   refine wp_seq (wp_seq ?_)
   refine dr (P := Try.prog) S 34 [] ((63, .is _) :: (64, .is _) :: (65, .is _) :: (66, .is _) :: (67, .is _) :: (68, .is _) :: (69, .is _) :: (70, .is _) :: (71, .is _) :: (72, .is _) :: (73, .is _) :: (74, .is _) :: (75, .is _) :: (76, .is _) :: (77, .is _) :: (78, .is _) :: (79, .is _) :: (80, .is _) :: (81, .is _) :: (82, .is _) :: (83, .is _) :: (84, .is _) :: (85, .is _) :: (86, .is _) :: (87, .is _) :: (88, .is _) :: (89, .is _) :: (90, .is _) :: (91, .is _) :: (92, .is _) :: (93, .is _) :: (94, .is _) :: (95, .is _) :: (96, .is _) :: []) ([] :: [] :: [63, 64] :: [65] :: [66] :: [66, 67] :: [66] :: [66, 69] :: [66, 68, 70] :: [66, 71] :: [72] :: [73] :: [73, 74] :: [73, 75] :: [76] :: [76] :: [76, 77, 78] :: [76, 79] :: [80] :: [80, 81] :: [80] :: [80, 82, 83] :: [80, 84] :: [76, 80, 85] :: [73, 76, 86] :: [73, 87] :: [88] :: [89] :: [89, 90] :: [89, 91] :: [92] :: [92, 93] :: [89, 92, 94] :: [89, 95] :: []) [96] _ ⟨qd (mv rfl), qd (mv rfl), qd (neqi rfl rfl), qd (mv rfl), qd (gon 66 rfl fun S=>x_move (S.e rfl)), qd (gon 66 rfl fun S=>x_pneN uT52 (S.e rfl) (S.e rfl)), qd (gon 66 rfl fun S=>x_move (S.e rfl)), qd (gon 66 rfl fun S=>x_eql (S.e rfl) (S.e rfl)), qd (gon 66 rfl fun S=>x_bneq uT4 (S.e rfl) (S.e rfl)), qd (ov fun S=>x_pickf (S.e rfl) (S.e rfl)), qd (mv rfl), qd (gon 73 rfl fun S=>x_move (S.e rfl)), qd (gon 73 rfl fun S=>x_eql (S.e rfl) (S.e rfl)), qd (gon 73 rfl fun S=>x_move (S.e rfl)), qd (goff 76 rfl), qd (goff 76 rfl), qd (goff 76 rfl), qd (goff 76 rfl), qd (goffu 80 rfl), qd (goffu 80 rfl), qd (goffu 80 rfl), qd (goffu 80 rfl), qd (goffu 80 rfl), qd (goff 76 rfl), qd (gon 73 rfl fun S=>x_pickf (S.e rfl) (S.e rfl)), qd (ov fun S=>x_pickf (S.e rfl) (S.e rfl)), qd (mv rfl), qd (gon 89 rfl fun S=>x_move (S.e rfl)), qd (gon 89 rfl fun S=>x_neq (S.e rfl) (S.e rfl)), qd (gon 89 rfl fun S=>x_move (S.e rfl)), qd (gon 92 rfl fun S=>x_move (S.e rfl)), qd (gon 92 rfl fun S=>x_neq (S.e rfl) (S.e rfl)), qd (gon 89 rfl fun S=>x_pickt (S.e rfl) (S.e rfl)), qd (ov fun S=>x_pickf (S.e rfl) (S.e rfl)), trivial⟩ ?_
   clear S; intro a u S G hE
   refine ent ?_
   refine cd S rfl ?_ ?_
   ·intro hc9
    refine rs S (la (av rfl)) ?_; clear S; intro a u S
    refine wp_ret (then_r (blk_r (then_r (then_r (blk_r (then_r ?_))))))
    refine ret1 rfl S.s rfl ?_
    replace S := S.pk []
    refine ⟨(r1 (vf ?_)), S.m.c⟩
    first
    | exact Iff.rfl
    | exact fun _ => hc9 (if_neg (fun h => by cases h))
    | (intro _
       rcases hc9 with (q | q) | q
       ·exact q (if_pos rfl)
       ·exact q trivial
       exact q.1 rfl)
   intro hc10
   refine wp_skip (then_n (r0 ?_))
   refine sp S (tr (mv rfl)<|la (av rfl)) ?_; clear S; intro a u S
   refine nn (blk_n (then_n ?_))
   refine rg S (tr (mv rfl)<|tr (addi ((i + 1 : Nat) : Int) rfl rfl (w_i64 (by omega)))<|la (av rfl)) ?_; clear S; intro a u S
   refine then_n ?_
   refine ⟨(i + 1), devices, S.re (subM rfl) rfl rfl, ?_, ?_⟩
   ·exact ⟨by omega, by first | assumption | exact ⟨by omega, by omega⟩⟩
   omega
  skip
  replace S := (show St _ _ _ _ _ _ [tpO 112 T19 t, blO b7 (planE.cells r_t25) 47, noO, noO, noO, blO b13 (ctrlE.cells r_t520) 57, bnO (lgF B_t59 x_t59)] _ _ from S)
  have hre : replE r_t25 n2 (recsP (bytesJ rx_t300) (decN (bytesJ rx_t300))) = 0 := replE_ok (hr_t59.1.1 rfl)
  rw [hre] at S
  have hLO : LogAt _ _ _ x_t59 _ := hr_t59.2 _ rfl
  have hso := hLO.ma.sn
  have hkn_x_t59 : x_t59.m.2.known.xs.length = x_t59.m.2.target.xs.length := hLO.ma.ok.2.kn
  have hwt_x_t59 : x_t59.m.2.waiting.xs.length ≤ x_t59.m.2.target.xs.length := hLO.ma.ok.2.wt.len
  have hn1_x_t59 := hLO.ma.ok.1.n1
  have htg_x_t59 := hLO.ma.tg
  obtain ⟨⟨_, _⟩, ⟨_, _⟩⟩ : inI64 x_t59.m.2.round ∧ inI64 x_t59.m.2.seq := id qK_t59
  have hkg : replC r_t25 n2 (recsP (bytesJ rx_t300) (decN (bytesJ rx_t300))) = noS (absM x_t59.m.2) := by unfold replC; rw [if_pos hre]; exact hLO.ma.ab.symm
  refine ens S (tr (mv rfl)<|tr (exi rfl rfl)<|tr (exi rfl rfl)<|tr (exi rfl rfl)<|tr (av rfl)<|tr (av rfl)<|la (av rfl)) ?_; clear S; intro a u S
  refine wp_seq (wp_seq ?_)
  refine dr (P := Try.prog) S 34 [] ((63, .is _) :: (64, .is _) :: (65, .is _) :: (66, .is _) :: (67, .is _) :: (68, .is _) :: (69, .is _) :: (70, .is _) :: (71, .is _) :: (72, .is _) :: (73, .is _) :: (74, .is _) :: (75, .is _) :: (76, .is _) :: (77, .is _) :: (78, .is _) :: (79, .is _) :: (80, .is _) :: (81, .is _) :: (82, .of (fun z w => (¬ (¬ (openN (some (B_t59, x_t59)) (bytesJ rx_t300)) = ((14 * decN (bytesJ rx_t300) : Nat) : Int))) → ∃ (x82aa : Option Addr) (x82ba : Nat) (x82cb : Option Addr) (x82db : Nat) (x82ec : Option Addr) (x82fc : Nat), z = .agg #[iI x_t59.m.2.round, bD (x_t59.m.2.back = true), iI x_t59.m.2.seq, .slice x82aa x_t59.m.2.target.xs.length x82ba, .slice x82cb x_t59.m.2.known.xs.length x82db, .slice x82ec x_t59.m.2.waiting.xs.length x82fc] ∧ (slE intE).wf (Fr F [one T19, one b7, (fun _ => False), (fun _ => False), (fun _ => False), one b13, In (ow (lgF B_t59 x_t59))]) w.heap (Sl.mk x82aa x82ba x_t59.m.2.target.xs) ∧ (slE intE).wf (Fr F [one T19, one b7, (fun _ => False), (fun _ => False), (fun _ => False), one b13, In (ow (lgF B_t59 x_t59))]) w.heap (Sl.mk x82cb x82db x_t59.m.2.known.xs) ∧ (slE intE).wf (Fr F [one T19, one b7, (fun _ => False), (fun _ => False), (fun _ => False), one b13, In (ow (lgF B_t59 x_t59))]) w.heap (Sl.mk x82ec x82fc x_t59.m.2.waiting.xs)) (fun v w w' c h hg => let ⟨x82aa, x82ba, x82cb, x82db, x82ec, x82fc, hv, h0, h1, h2⟩ := h hg; ⟨x82aa, x82ba, x82cb, x82db, x82ec, x82fc, hv, Enc.kp (slE intE) h0 c (fun _ h => by simp at h), Enc.kp (slE intE) h1 c (fun _ h => by simp at h), Enc.kp (slE intE) h2 c (fun _ h => by simp at h)⟩)) :: (83, .is _) :: (84, .is ((if (¬ (¬ (openN (some (B_t59, x_t59)) (bytesJ rx_t300)) = ((14 * decN (bytesJ rx_t300) : Nat) : Int))) then bD (True) else undef))) :: (85, .is _) :: (86, .is _) :: (87, .is _) :: (88, .is _) :: (89, .is _) :: (90, .is _) :: (91, .is _) :: (92, .is _) :: (93, .is _) :: (94, .is _) :: (95, .is _) :: (96, .is _) :: []) ([] :: [] :: [63, 64] :: [65] :: [66] :: [66, 67] :: [66] :: [66, 69] :: [66, 68, 70] :: [66, 71] :: [72] :: [73] :: [73, 74] :: [73, 75] :: [76] :: [76] :: [76, 77, 78] :: [76, 79] :: [80] :: [80, 81] :: [80] :: [80, 82, 83] :: [80, 84] :: [76, 80, 85] :: [73, 76, 86] :: [73, 87] :: [88] :: [89] :: [89, 90] :: [89, 91] :: [92] :: [92, 93] :: [89, 92, 94] :: [89, 95] :: []) [96] _ ⟨qd (mv rfl), qd (mv rfl), qd (neqi rfl rfl), qd (mv rfl), qd (gon 66 rfl fun S=>x_move (S.e rfl)), qd (gon 66 rfl fun S=>x_pneN uT52 (S.e rfl) (S.e rfl)), qd (gon 66 rfl fun S=>x_move (S.e rfl)), qd (gon 66 rfl fun S=>x_eql (S.e rfl) (S.e rfl)), qd (gon 66 rfl fun S=>x_bneq uT4 (S.e rfl) (S.e rfl)), qd (ov fun S=>x_pickf (S.e rfl) (S.e rfl)), qd (mv rfl), qd (gon 73 rfl fun S=>x_move (S.e rfl)), qd (gon 73 rfl fun S=>x_eql (S.e rfl) (S.e rfl)), qd (gon 73 rfl fun S=>x_move (S.e rfl)), qd (gon 76 rfl fun S=>x_move (S.e rfl)), qd (gon 76 rfl fun S=>x_move (S.e rfl)), qd (gon 76 rfl fun S=>x_neq (S.e rfl) (S.e rfl)), qd (gon 76 rfl fun S=>x_move (S.e rfl)), qd (og 80 rfl gf fun S hg=>x_move (S.e rfl)), ?_, qd (og 80 rfl gf fun S hg=>x_ldw (S.e rfl) (S.k 5 rfl).all wD57), ?_, qd (og 80 rfl gf fun S hg=>x_notp (S.p rfl hg)), qd (gon 76 rfl fun S=>x_or (S.e rfl) (S.e rfl) (S.p rfl)), qd (gon 73 rfl fun S=>x_pickt (S.e rfl) (S.e rfl)), qd (ov fun S=>x_pickf (S.e rfl) (S.e rfl)), qd (mv rfl), qd (og 89 rfl gf fun S hg=>x_move (S.e rfl)), qd (og 89 rfl gf fun S hg=>x_neq (S.p rfl hg) (S.e rfl)), qd (og 89 rfl gf fun S hg=>x_move (S.p rfl hg)), qd (og 92 rfl ggt fun S hg=>x_move (S.e rfl)), qd (og 92 rfl ggt fun S hg=>x_neq (S.p rfl hg) (S.e rfl)), qd (og 89 rfl gf fun S hg=>x_and (S.p rfl hg) (fun hl => (S.p rfl (And.intro hg hl))) (S.e rfl)), qd (ori rfl rfl rfl), trivial⟩ ?_
  ·skip
   intro a u S G hE
   refine (Classical.em (¬ (¬ (openN (some (B_t59, x_t59)) (bytesJ rx_t300)) = ((14 * decN (bytesJ rx_t300) : Nat) : Int)))).symm.elim (fun hg => ?_) fun hg => ?_
   ·exact hng 82 80 S S.m rfl (fun h => hg (gf.2 h)) (show (¬ (¬ (openN (some (B_t59, x_t59)) (bytesJ rx_t300)) = ((14 * decN (bytesJ rx_t300) : Nat) : Int))) → _ from fun h => absurd h hg)
   refine hcg 80 S rfl (gf.1 hg) (jCtl _ _ (S.xx [In (ow (lgF B_t59 x_t59))]) (.nil _) (B_t59, x_t59) (S.rob hD 6 rfl (X := fun D => (ptE lgE 129).wf D _ (B_t59, x_t59)) (rd_lg qK_t59) _ (by simp)) (⟨by first | omega | (dsimp only; omega) | assumption, by first | omega | (dsimp only; omega) | assumption, by first | omega | (dsimp only; omega) | assumption⟩)) cB39 ⟨fun _=>(S.p rfl hg), trivial⟩ ?_
   rintro e w2 ⟨x82a, x82b, x82c, x82d, x82e, x82f, rfl, R0, R1, R2, T0⟩; refine ⟨_, rfl, (fun _ => ?_), T0.ch, (S.m.k0 T0.ch)⟩
   exact ⟨x82a, x82b, x82c, x82d, x82e, x82f, rfl, (S.frz R0 (by decide) (fun _ h => h)), (S.frz R1 (by decide) (fun _ h => h)), (S.frz R2 (by decide) (fun _ h => h))⟩
  ·skip
   intro a u S G hE
   obtain ⟨e82, -⟩ := hE
   have M0 := S.m
   refine (Classical.em (¬ (¬ (openN (some (B_t59, x_t59)) (bytesJ rx_t300)) = ((14 * decN (bytesJ rx_t300) : Nat) : Int)))).symm.elim (fun hg => ?_) fun hg => ?_
   ·exact hng 84 80 S M0 rfl (fun h => hg (gf.2 h)) (show _ = _ from (if_neg hg).symm)
   replace e82 := e82 hg
   obtain ⟨x82a_43, x82b_43, x82c_44, x82d_44, x82e_45, x82f_45, e82, X43, X44, X45⟩ := e82
   replace S := S.ext e82
   refine hcg 80 S rfl (gf.1 hg) (rSameC _ _ S.x (.nil _) (⟨x_t59.m.2.round, x_t59.m.2.back, x_t59.m.2.seq, (Sl.mk x82a_43 x82b_43 x_t59.m.2.target.xs), (Sl.mk x82c_44 x82d_44 x_t59.m.2.known.xs), (Sl.mk x82e_45 x82f_45 x_t59.m.2.waiting.xs)⟩ : Ctrl) ⟨(show inI64 x_t59.m.2.round from ⟨by omega, by omega⟩), trivial, (show inI64 x_t59.m.2.seq from ⟨by omega, by omega⟩), (dn0 X43), (dn0 X44), (dn0 X45)⟩ r_t520 (dn0 (S.u 5 rfl))) cB38 ⟨(fun _=>S.e rfl), fun _=>(S.p rfl hg), trivial⟩ ?_
   rintro e w2 ⟨rfl, T0⟩; exact ⟨_, rfl, (show _ = _ from ((vb (⟨fun _ => trivial, fun _ => same_of_ctlR (c := noS (absM x_t59.m.2)) ⟨rfl, by simp [noS, absM], rfl, rfl, rfl, rfl⟩ (by rw [← hkg]; assumption)⟩)).trans (if_pos hg).symm)), T0.ch, (M0.k0 T0.ch)⟩
  clear S; intro a u S G hE
  refine ent ?_
  refine cd S rfl ?_ ?_
  ·intro hc11
   refine rs S (la (av rfl)) ?_; clear S; intro a u S
   refine wp_ret (then_r (blk_r (then_r (then_r (blk_r (then_r ?_))))))
   refine ret1 rfl S.s rfl ?_
   replace S := S.pk []
   refine ⟨(r1 (vf ?_)), S.m.c⟩
   first
   | exact Iff.rfl
   | exact fun _ => hc11 (if_neg (fun h => by cases h))
   | (intro _
      rcases hc11 with (q | q) | q
      ·exact q (if_pos rfl)
      ·exact q trivial
      exact q.1 rfl)
  intro hc12
  refine wp_skip (then_n (r0 ?_))
  refine sp S (tr (mv rfl)<|la (av rfl)) ?_; clear S; intro a u S
  refine nn (blk_n (then_n ?_))
  refine rg S (tr (mv rfl)<|tr (addi ((i + 1 : Nat) : Int) rfl rfl (w_i64 (by omega)))<|la (av rfl)) ?_; clear S; intro a u S
  refine then_n ?_
  refine ⟨(i + 1), devices, S.re (subM rfl) rfl rfl, ?_, ?_⟩
  ·exact ⟨by omega, by first | assumption | exact ⟨by omega, by omega⟩⟩
  omega
 intro hc13
 refine wp_exit (then_e (then_e (blk_e (then_n ?_))))
 refine rs S (tr (oc (fun S=>lSane _ _ S.x (.nil _)) cB24)<|la (av rfl)) ?_; clear S; intro a u S
 refine wp_ret ?_
 refine ret1 rfl S.s rfl ?_
 replace S := S.pk []
 refine ⟨(r1 (vb ?_)), S.m.c⟩
 first
 | exact Iff.rfl
 | exact fun _ => hc13 (if_neg (fun h => by cases h))
 | (intro _
    rcases hc13 with (q | q) | q
    ·exact q (if_pos rfl)
    ·exact q trivial
    exact q.1 rfl)
end Go.Proofs.Ytobggnpnochnnaa.V
