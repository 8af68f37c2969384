/- the generator: logs -/
import Derived.Test.YtobggnpnochnnaaL6
namespace Go.Proofs.Ytobggnpnochnnaa.V
open Go.RowKit Go.Proofs.Ytobggnpnochnnaa
set_option linter.unusedVariables false
set_option linter.unusedSimpArgs false
theorem allJ_nil {n : Int} : allJ n [] := fun r h => by cases h
theorem allJ_ok {n : Int} {l : List Rec} (h : allJ n l) : ∀ r ∈ l, recOK r := fun r hr => (h r hr).1
theorem allJ_snoc {n : Int} {l : List Rec} {r : Rec} (h : allJ n l) (h1 : recOK r) (h2 : r.dev < n) : allJ n (l ++ [r]) := fun x hx => (List.mem_append.1 hx).elim (h x) fun q => by rw [List.mem_singleton.1 q]; exact ⟨h1, h2⟩
theorem bytesJ_snoc (l : List Rec) (r : Rec) : bytesJ (l ++ [r]) = bytesJ l ++ (if recOK r then encR r else []) := by rw [bytesJ_app]; unfold bytesJ; simp
set_option maxHeartbeats 2000000 in
set_option maxRecDepth 20000 in
theorem lLog (w : World) (F : Nat → Prop) (hF : Old F w) (T : Nat) (M : MS [one T] w) (T_l : Sl Int) (T_w : (slE intE).wf (Fr F [one T]) w.heap T_l) (T_K : TpB 112 T T_l w) (n : Int) (n_h : inI64 n) :
 Calls Try.prog 25 #[pT T 0, iI n] w fun e w' => ∃ (rx0 : List Rec) (ra0 : Option Addr) (rc0 : Nat) (ra1 : Option Addr) (rc1 : Nat), e = .returned (.tuple #[.slice ra0 rx0.length rc0, .slice ra1 ((bytesJ rx0).length) rc1]) ∧ Row recE 24 w.heap.size F [abk ra0, abk ra1, one T] w' ra0 rc0 rx0 ∧ Row u8E 5 w.heap.size F [abk ra0, abk ra1, one T] w' ra1 rc1 (bytesJ rx0) ∧ (rx0.length ≤ 8 ∧ allJ n rx0) ∧ TpB 112 T T_l w' ∧ Tr [one T] w [abk ra0, abk ra1, one T] w' := by
 obtain ⟨n_hl, n_hu⟩ : inI64 n := id n_h
 refine go Try.func25 rfl 43 rfl [wfF (slE intE) T_l] [tpO 112 T T_l] hF M ⟨T_w, trivial⟩ ⟨T_K, trivial⟩ ?_
 intro a S
 refine rs S (tr (av rfl)<|la (av rfl)) ?_; clear S; intro a u S
 refine rs S (la (av rfl)) ?_; clear S; intro a u S
 refine rs S (la (av rfl)) ?_; clear S; intro a u S
 refine wp_seq (rs0 ?_)
 refine sp S (la (mv rfl)) ?_; clear S; intro a u S
 refine cl S (gNext _ _ S.x T (S.M.pick [0] (by decide)) T_l (dn1 (js := [0]) (S.u 0 rfl)) (S.t 0 rfl) 8 ⟨by omega, by omega⟩) cB26 ?_
 rintro e u ⟨r_t13, rfl, hr_t13, tK, T0⟩; refine ⟨_, rfl, fun a s => ?_⟩
 replace S := S.k1 0 rfl s T0 tK; clear s T0 tK
 refine ens S (la (av rfl)) ?_; clear S; intro a u S
 refine wp_block ?_
 replace S := S.nr recE 24
 replace S := S.nr u8E 5
 refine lp7 (fun (c : Int) (ls_a : Option Addr) (ls_c : Nat) (ls : List Rec) (bs_a : Option Addr) (bs_c : Nat) (bs : List Int) => [(0, pT T 0), (1, iI n), (4, .slice none 0 0), (5, .slice none 0 0), (8, iI c), (6, .slice ls_a ls.length ls_c), (7, .slice bs_a bs.length bs_c)]) (fun (c : Int) (ls_a : Option Addr) (ls_c : Nat) (ls : List Rec) (bs_a : Option Addr) (bs_c : Nat) (bs : List Int) => [tpO 112 T T_l, rwO recE 24 w.heap.size ls_a ls_c ls, rwO u8E 5 w.heap.size bs_a bs_c bs]) (fun (c : Int) (ls_a : Option Addr) (ls_c : Nat) (ls : List Rec) (bs_a : Option Addr) (bs_c : Nat) (bs : List Int) => (0 ≤ c ∧ c ≤ 7) ∧ (ls.length : Int) + c ≤ 8 ∧ allJ n ls ∧ bs = bytesJ ls) (fun (c : Int) (ls_a : Option Addr) (ls_c : Nat) (ls : List Rec) (bs_a : Option Addr) (bs_c : Nat) (bs : List Int) => c.toNat) S r_t13 none 0 ([]) none 0 ([]) (subM rfl) rfl ?_ ?_
 ·exact ⟨⟨by omega, by omega⟩, by simp; omega, allJ_nil, rfl⟩
 clear S; intro c ls_a ls_c ls bs_a bs_c bs a u S hR
 have ls_len := (S.row 1 rfl).len_le; simp only [maxLen] at ls_len
 have bs_len := (S.row 2 rfl).len_le; simp only [maxLen] at bs_len
 obtain ⟨⟨hc0_, hc7_⟩, hll, hal, hbs⟩ := hR
 have hbl : bs.length = 14 * ls.length := by rw [hbs]; exact bytesJ_lenOK (allJ_ok hal)
 refine wp_seq ?_
 refine rs S (tr (mv rfl)<|la (gtri rfl rfl)) ?_; clear S; intro a u S
 refine cd S rfl ?_ ?_
 ·intro hc0
  refine wp_skip (then_n (wp_seq (wp_block (rs0 ?_))))
  refine sp S (tr (mv rfl)<|la (mv rfl)) ?_; clear S; intro a u S
  refine cl S (lRecord _ _ S.x T (S.M.pick [0] (by decide)) T_l (dn1 (js := [0]) (S.u 0 rfl)) (S.t 0 rfl) n n_h) cB20 ?_
  rintro e u ⟨r_t20, rfl, R_t20, tK, T0⟩; refine ⟨_, rfl, fun a s => ?_⟩
  replace S := (S.k1 0 rfl s T0 tK).ar (wfF recE r_t20) (Enc.up _ R_t20); clear s T0 tK R_t20
  obtain ⟨hl7, hu7⟩ : inI64 r_t20.kind := id ((S.u 1 rfl).1)
  obtain ⟨hl8, hu8⟩ : inI64 r_t20.dev := id ((S.u 1 rfl).2.1)
  obtain ⟨hl9, hu9⟩ : inI64 r_t20.inc := id ((S.u 1 rfl).2.2.1)
  obtain ⟨hl10, hu10⟩ : inI64 r_t20.seq := id ((S.u 1 rfl).2.2.2)
  refine nbp S (x_allocz _ iZ24 rfl) ?_; clear S; intro a u b9 S
  refine ens S (la (stkw 3 rfl rfl rfl)) ?_; clear S; intro a u S
  refine rs0 ?_
  refine sp S (la (ldkw 3 rfl rfl wD24)) ?_; clear S; intro a u S
  refine cl S (rEncode _ _ S.x (.nil _) r_t20 (dn0 (S.u 1 rfl))) cB22 ?_
  rintro e u ⟨ra_t230, rc_t230, rfl, R_t230, T0⟩; refine ⟨_, rfl, fun a s => ?_⟩
  replace S := S.kr [⟨_, u8E, 5, ra_t230, rc_t230, (if recOK r_t20 then encR r_t20 else [])⟩] s T0 ⟨R_t230, trivial⟩; clear s T0 R_t230
  have hel := enc_len r_t20
  refine ens S (tr (mv rfl)<|tr (exi rfl rfl)<|tr (exi rfl rfl)<|tr (av rfl)<|la (av rfl)) ?_; clear S; intro a u S
  refine rs S (tr (mv rfl)<|tr (eqli rfl rfl)<|tr (mv rfl)<|tr (og 28 rfl gt fun S hg=>xf (0) 1 uT24 (S.e rfl))<|tr (og 28 rfl gt fun S hg=>x_load sC3 (S.p rfl hg) ((S.k 3 rfl).cell (j := 1) rfl))<|tr (og 28 rfl gt fun S hg=>x_move (S.e rfl))<|tr (og 28 rfl gt fun S hg=>x_lss (S.p rfl hg) (S.p rfl hg))<|la (andi rfl rfl rfl)) ?_; clear S; intro a u S
  refine cd S rfl ?_ ?_
  ·intro hc1
   refine r0 ?_
   refine sp S (tr (mv rfl)<|la (ldkw 3 rfl rfl wD24)) ?_; clear S; intro a u S
   refine nbs recE S [r_t20] (x_bs S [(0, .agg (recE.cells r_t20).toArray)] uT32 iZ24) (fun x hx => by simp only [List.mem_cons, List.not_mem_nil, or_false] at hx; rw [hx]; exact (show recE.wf _ _ r_t20 from ⟨(S.u 1 rfl).1, (S.u 1 rfl).2.1, (S.u 1 rfl).2.2.1, (S.u 1 rfl).2.2.2⟩)) ?_; clear S; intro a u b36 S
   refine ap (E := recE) (ys := [r_t20]) S 1 rfl uT32 iZ24 rfl rfl (show LAt recE _ _ (some ⟨b36, 0, none⟩) ([r_t20]) from ((S.u 2 rfl)).1) ((S.u 2 rfl)).2.2 (LAt.mem (show LAt recE _ _ (some ⟨b36, 0, none⟩) ([r_t20]) from ((S.u 2 rfl)).1)) ⟨by unfold maxLen; (try simp only [List.length_cons, List.length_nil, List.length_append, List.length_map]); omega, by (try simp only [List.length_cons, List.length_nil, List.length_append, List.length_map]); omega⟩ ?_; clear S; intro a u ad37 cap37 S
   refine sp S (tr (mv rfl)<|la (mv rfl)) ?_; clear S; intro a u S
   refine ap (E := u8E) (ys := (if recOK r_t20 then encR r_t20 else [])) S 2 rfl uT28 iZ5 rfl rfl ((S.row 4 rfl).lat (by first | decide | exact Nat.one_pos | exact Nat.succ_pos _)) (S.row 4 rfl).cap_le.2 (S.row 4 rfl).wf ⟨by unfold maxLen; (try simp only [List.length_cons, List.length_nil, List.length_append, List.length_map]); omega, by (try simp only [List.length_cons, List.length_nil, List.length_append, List.length_map]); omega⟩ ?_; clear S; intro a u ad40 cap40 S
   refine en S (tr (av rfl)<|la (av rfl)) ?_; clear S; intro a u S
   refine blk_n (then_n ?_)
   refine rg S (tr (mv rfl)<|tr (subi (c - 1) rfl rfl (w_i64 (by omega)))<|la (av rfl)) ?_; clear S; intro a u S
   refine then_n ?_
   refine ⟨(c - 1), ad37, cap37, (ls ++ [r_t20]), ad40, cap40, (bs ++ (if recOK r_t20 then encR r_t20 else [])), S.re (subM rfl) rfl rfl, ?_, ?_⟩
   ·first
    | exact ⟨⟨by omega, by omega⟩, by omega, hal, hbs⟩
    | (
    have hv : recOK r_t20 := by
     apply Classical.byContradiction; intro q
     have h := hc1.1
     rw [if_neg q] at h; cases h
    exact ⟨⟨by omega, by omega⟩, by rw [List.length_append, List.length_singleton]; omega, allJ_snoc hal hv hc1.2, by rw [bytesJ_snoc, hbs]⟩)
   omega
  intro hc2
  refine wp_skip (blk_n (then_n ?_))
  refine rg S (tr (mv rfl)<|tr (subi (c - 1) rfl rfl (w_i64 (by omega)))<|la (av rfl)) ?_; clear S; intro a u S
  refine then_n ?_
  refine ⟨(c - 1), ls_a, ls_c, ls, bs_a, bs_c, bs, S.re (subM rfl) rfl rfl, ?_, ?_⟩
  ·first
   | exact ⟨⟨by omega, by omega⟩, by omega, hal, hbs⟩
   | (
   have hv : recOK r_t20 := by
    apply Classical.byContradiction; intro q
    have h := hc2.1
    rw [if_neg q] at h; cases h
   exact ⟨⟨by omega, by omega⟩, by rw [List.length_append, List.length_singleton]; omega, allJ_snoc hal hv hc2.2, by rw [bytesJ_snoc, hbs]⟩)
  omega
 intro hc3
 refine wp_exit (then_e (then_e (blk_e (then_n ?_))))
 refine rs S (tr (mv rfl)<|tr (mv rfl)<|tr (av rfl)<|la (av rfl)) ?_; clear S; intro a u S
 refine wp_ret ?_
 refine ret2 rfl S.s rfl rfl ?_
 replace S := S.pk [1, 2, 0] (os' := [rwO recE 24 w.heap.size ls_a ls_c ls, rwO u8E 5 w.heap.size bs_a bs_c bs, tpO 112 T T_l])
 have hx17 : bytesJ ls = bs := by
  rw [hbs]
 refine ⟨ls, ls_a, ls_c, bs_a, bs_c, (r2 rfl (by rw [hx17])), (S.row 0 rfl), (by rw [hx17]; exact (S.row 1 rfl)), ?_, (S.t 2 rfl), S.m.c⟩
 exact ⟨by omega, hal⟩
end Go.Proofs.Ytobggnpnochnnaa.V
