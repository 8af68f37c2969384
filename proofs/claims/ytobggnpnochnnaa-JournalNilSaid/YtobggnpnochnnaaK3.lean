/- records are encoded -/
import Derived.Test.YtobggnpnochnnaaK2
import Derived.Test.YtobggnpnochnnaaGrpD
namespace Go.Proofs.Ytobggnpnochnnaa.V
open Go.RowKit Go.Proofs.Ytobggnpnochnnaa
set_option linter.unusedVariables false
set_option linter.unusedSimpArgs false
set_option maxHeartbeats 2000000 in
set_option maxRecDepth 20000 in
theorem jEncode (w : World) (F : Nat → Prop) (hF : Old F w) (M : MS [] w) (r : Rec) (r_w : recE.wf (Fr F []) w.heap r) :
 Calls Try.prog 21 #[.agg (recE.cells r).toArray] w fun e w' => ∃ (ra0 : Option Addr) (rc0 : Nat), e = .returned (.tuple #[.slice ra0 ((if recOK r then encR r else []).length) rc0, iI (if recOK r then 0 else 1 : Int)]) ∧ Row u8E 5 w.heap.size F [abk ra0] w' ra0 rc0 (if recOK r then encR r else []) ∧ Tr [] w [abk ra0] w' := by
 obtain ⟨_, _⟩ : inI64 r.kind := r_w.1
 obtain ⟨_, _⟩ : inI64 r.dev := r_w.2.1
 obtain ⟨_, _⟩ : inI64 r.inc := r_w.2.2.1
 obtain ⟨_, _⟩ : inI64 r.seq := r_w.2.2.2
 refine go Try.func21 rfl 28 rfl [wfF recE r] [] hF M ⟨r_w, trivial⟩ trivial ?_
 intro a S
 have hD : ∀ k, In ([] : List BS) k → ¬ F k := fun _ h => h.elim
 refine rs0 ?_
 refine nbp S (x_box _ (S.e rfl) rfl) ?_; clear S; intro a u b1 S
 refine ens S (tr (av rfl)<|la (av rfl)) ?_; clear S; intro a u S
 refine wp_seq ?_
 refine rs S (tr (ldkw 0 rfl rfl wD24)<|tr (oc (fun S=>jValid _ _ S.x (.nil _) r (dn0 (S.u 0 rfl))) cB61)<|la (noti rfl)) ?_; clear S; intro a u S
 refine cd S rfl ?_ ?_
 ·intro hc0
  refine rs S (tr (av rfl)<|la (av rfl)) ?_; clear S; intro a u S
  refine wp_ret (then_r ?_)
  replace S := S.nr u8E 5
  refine ret2 rfl S.s rfl rfl ?_
  replace S := S.pk [1] (os' := [rwO u8E 5 w.heap.size none 0 ([])])
  have hx4 : (if recOK r then encR r else []) = [] := by
   rw [if_neg hc0]
  rw [hx4]
  refine ⟨none, 0, (r2 rfl (vi ?_)), (S.row 0 rfl), S.m.c⟩
  rw [if_neg hc0]
 intro hc1
 refine wp_skip (then_n (rs0 ?_))
 refine sp S (tr (fldi 0 0 rfl uT24)<|tr (ldk 0 sC3 rfl rfl rfl)<|tr (ov fun S=>x_conv uT3 uT5 (S.e rfl) (r := (IntKind.u8.wrap r.kind)) rfl)<|tr (fldi 0 1 rfl uT24)<|tr (ldk 0 sC3 rfl rfl rfl)<|la (ov fun S=>x_conv uT3 uT5 (S.e rfl) (r := (IntKind.u8.wrap r.dev)) rfl)) ?_; clear S; intro a u S
 refine nbr u8E S [(IntKind.u8.wrap r.kind), (IntKind.u8.wrap r.dev)] (x_bs S [(0, .int .u8 (IntKind.u8.wrap r.kind)), (1, .int .u8 (IntKind.u8.wrap r.dev))] uT28 iZ5) (fun x hx => by simp only [List.mem_cons, List.not_mem_nil, or_false] at hx; rcases hx with hx | hx <;> rw [hx] <;> first | exact (show u8E.wf _ _ (IntKind.u8.wrap r.kind) from (wu8 _)) | exact (show u8E.wf _ _ (IntKind.u8.wrap r.dev) from (wu8 _))) ?_; clear S; intro a u b14 S
 refine ens S (la (av rfl)) ?_; clear S; intro a u S
 refine wp_seq ?_
 refine lzc (P := Try.prog) S 4 3 [] [(15, .is _), (16, .is _), (17, .is _), (18, .is _)] [[], [], [16], [17]] [15, 18] [(20, pT b1 (0 + 3)), (21, iI r.seq), (22, .int .u32 (IntKind.u32.wrap r.seq))] [[], [0], [1]] 19 _ [blO b1 (recE.cells r) 24] [rwO u8E 5 w.heap.size (some ⟨b14, 0, none⟩) 2 ([(IntKind.u8.wrap r.kind), (IntKind.u8.wrap r.dev)])] (fun g : Option Addr × Nat => .slice g.1 ((([(IntKind.u8.wrap r.kind), (IntKind.u8.wrap r.dev)]) ++ be4 (IntKind.u32.wrap r.inc)).length) g.2) (fun g => [rwO u8E 5 0 g.1 g.2 (([(IntKind.u8.wrap r.kind), (IntKind.u8.wrap r.dev)]) ++ be4 (IntKind.u32.wrap r.inc))]) (fun _ => True) ⟨qd (mv rfl), qd (fldi 0 2 rfl uT24), qd (ldk 0 sC3 rfl rfl rfl), qd (ov fun S=>x_conv uT3 uT115 (S.e rfl) (r := (IntKind.u32.wrap r.inc)) rfl), trivial⟩ ⟨⟨⟨(show 20 < 28 from by decide), by kernel_rfl⟩, fun fs a w S => x_fld (z := 0) (0) 3 uT24 rfl rfl (by kernel_rfl) (S.e rfl)⟩, ⟨⟨(show 21 < 28 from by decide), by kernel_rfl⟩, fun fs a w S => x_load sC3 (S.e rfl) ((S.k 0 rfl).cell (j := 3) rfl)⟩, ⟨⟨(show 22 < 28 from by decide), by kernel_rfl⟩, fun fs a w S => x_conv uT3 uT115 (S.e rfl) (r := (IntKind.u32.wrap r.seq)) rfl⟩, trivial⟩ ?_ ?_
 ·skip
  clear S; intro a u S G hE
  obtain ⟨hl6, hu6⟩ : inU32 (IntKind.u32.wrap r.inc) := id (wu32 _)
  intro K hK
  replace S := (show St _ _ _ _ _ _ [blO b1 (recE.cells r) 24, rwO u8E 5 0 (some ⟨b14, 0, none⟩) 2 ([(IntKind.u8.wrap r.kind), (IntKind.u8.wrap r.dev)])] _ _ from S.b0 1 rfl)
  refine clw S (jPut _ _ (S.xx (ow [rwO u8E 5 0 (some ⟨b14, 0, none⟩) 2 ([(IntKind.u8.wrap r.kind), (IntKind.u8.wrap r.dev)])])) (some ⟨b14, 0, none⟩) (S.mF (ks := [blO b1 (recE.cells r) 24]) (fs := [rwO u8E 5 0 (some ⟨b14, 0, none⟩) 2 ([(IntKind.u8.wrap r.kind), (IntKind.u8.wrap r.dev)])])) (S.nfF (ks := [blO b1 (recE.cells r) 24]) (fs := [rwO u8E 5 0 (some ⟨b14, 0, none⟩) 2 ([(IntKind.u8.wrap r.kind), (IntKind.u8.wrap r.dev)])]) hD) 2 ([(IntKind.u8.wrap r.kind), (IntKind.u8.wrap r.dev)]) ⟨(S.dF (ks := [blO b1 (recE.cells r) 24]) (fs := [rwO u8E 5 0 (some ⟨b14, 0, none⟩) 2 ([(IntKind.u8.wrap r.kind), (IntKind.u8.wrap r.dev)])]) 0 rfl mo_rw).1, (S.dF (ks := [blO b1 (recE.cells r) 24]) (fs := [rwO u8E 5 0 (some ⟨b14, 0, none⟩) 2 ([(IntKind.u8.wrap r.kind), (IntKind.u8.wrap r.dev)])]) 0 rfl mo_rw).2⟩ (IntKind.u32.wrap r.inc) (wu32 _) (by first | omega | (simp only [List.length_append, be4_len, List.length_cons, List.length_nil]; omega))) cB62 ?_
  rintro e u ⟨ra_t19, rc_t19, rfl, R_t19, T0⟩; refine ⟨_, rfl, fun a s => ?_⟩
  have S2 := S.kF (ks := [blO b1 (recE.cells r) 24]) (fs := [rwO u8E 5 0 (some ⟨b14, 0, none⟩) 2 ([(IntKind.u8.wrap r.kind), (IntKind.u8.wrap r.dev)])]) [rwO u8E 5 0 ra_t19 rc_t19 (([(IntKind.u8.wrap r.kind), (IntKind.u8.wrap r.dev)]) ++ be4 (IntKind.u32.wrap r.inc))] s T0 ⟨⟨R_t19.b0.own, R_t19.wf⟩, trivial⟩ ⟨mo_rw, trivial⟩
  replace S2 := (show St _ _ _ _ _ _ [blO b1 (recE.cells r) 24, rwO u8E 5 0 ra_t19 rc_t19 (([(IntKind.u8.wrap r.kind), (IntKind.u8.wrap r.dev)]) ++ be4 (IntKind.u32.wrap r.inc))] _ _ from S2)
  clear S; have S := S2; clear S2 s T0 R_t19
  exact hK (ra_t19, rc_t19) _ _ ⟨S.s.sub (subM rfl), S.m⟩ trivial
 clear S; intro ⟨ra_t19, rc_t19⟩ a u S _; dsimp only at S
 replace S := (show St _ _ _ _ _ _ [blO b1 (recE.cells r) 24, rwO u8E 5 0 ra_t19 rc_t19 (([(IntKind.u8.wrap r.kind), (IntKind.u8.wrap r.dev)]) ++ be4 (IntKind.u32.wrap r.inc))] _ _ from ⟨S.s, S.m⟩)
 refine cl S (jPut _ _ (S.xx (ow [rwO u8E 5 0 ra_t19 rc_t19 (([(IntKind.u8.wrap r.kind), (IntKind.u8.wrap r.dev)]) ++ be4 (IntKind.u32.wrap r.inc))])) ra_t19 (S.mF (ks := [blO b1 (recE.cells r) 24]) (fs := [rwO u8E 5 0 ra_t19 rc_t19 (([(IntKind.u8.wrap r.kind), (IntKind.u8.wrap r.dev)]) ++ be4 (IntKind.u32.wrap r.inc))])) (S.nfF (ks := [blO b1 (recE.cells r) 24]) (fs := [rwO u8E 5 0 ra_t19 rc_t19 (([(IntKind.u8.wrap r.kind), (IntKind.u8.wrap r.dev)]) ++ be4 (IntKind.u32.wrap r.inc))]) hD) rc_t19 (([(IntKind.u8.wrap r.kind), (IntKind.u8.wrap r.dev)]) ++ be4 (IntKind.u32.wrap r.inc)) ⟨(S.dF (ks := [blO b1 (recE.cells r) 24]) (fs := [rwO u8E 5 0 ra_t19 rc_t19 (([(IntKind.u8.wrap r.kind), (IntKind.u8.wrap r.dev)]) ++ be4 (IntKind.u32.wrap r.inc))]) 0 rfl mo_rw).1, (S.dF (ks := [blO b1 (recE.cells r) 24]) (fs := [rwO u8E 5 0 ra_t19 rc_t19 (([(IntKind.u8.wrap r.kind), (IntKind.u8.wrap r.dev)]) ++ be4 (IntKind.u32.wrap r.inc))]) 0 rfl mo_rw).2⟩ (IntKind.u32.wrap r.seq) (wu32 _) (by first | omega | (simp only [List.length_append, be4_len, List.length_cons, List.length_nil]; omega))) cB62 ?_
 rintro e u ⟨ra_t23, rc_t23, rfl, R_t23, T0⟩; refine ⟨_, rfl, fun a s => ?_⟩
 have S2 := S.kF (ks := [blO b1 (recE.cells r) 24]) (fs := [rwO u8E 5 0 ra_t19 rc_t19 (([(IntKind.u8.wrap r.kind), (IntKind.u8.wrap r.dev)]) ++ be4 (IntKind.u32.wrap r.inc))]) [rwO u8E 5 0 ra_t23 rc_t23 ((([(IntKind.u8.wrap r.kind), (IntKind.u8.wrap r.dev)]) ++ be4 (IntKind.u32.wrap r.inc)) ++ be4 (IntKind.u32.wrap r.seq))] s T0 ⟨⟨R_t23.b0.own, R_t23.wf⟩, trivial⟩ ⟨mo_rw, trivial⟩
 replace S2 := (show St _ _ _ _ _ _ [blO b1 (recE.cells r) 24, rwO u8E 5 0 ra_t23 rc_t23 ((([(IntKind.u8.wrap r.kind), (IntKind.u8.wrap r.dev)]) ++ be4 (IntKind.u32.wrap r.inc)) ++ be4 (IntKind.u32.wrap r.seq))] _ _ from S2)
 clear S; have S := S2; clear S2 s T0 R_t23
 refine ens S (la (av rfl)) ?_; clear S; intro a u S
 refine rs0 ?_
 refine sp S (tr (mv rfl)<|la (mv rfl)) ?_; clear S; intro a u S
 obtain ⟨hl8, hu8⟩ : inU32 (crcL ((([(IntKind.u8.wrap r.kind), (IntKind.u8.wrap r.dev)]) ++ be4 (IntKind.u32.wrap r.inc)) ++ be4 (IntKind.u32.wrap r.seq))) := id (crcL_in _)
 refine sp S (la (oc (fun S=>cSum _ _ (S.xx [abk ra_t23]) (.nil _) (Sl.mk ra_t23 rc_t23 ((([(IntKind.u8.wrap r.kind), (IntKind.u8.wrap r.dev)]) ++ be4 (IntKind.u32.wrap r.inc)) ++ be4 (IntKind.u32.wrap r.seq))) (S.rargD hD 1 rfl (by first | decide | exact Nat.one_pos) _ (by simp))) cB63)) ?_; clear S; intro a u S
 refine cl S (jPut _ _ (S.xx (ow [rwO u8E 5 0 ra_t23 rc_t23 ((([(IntKind.u8.wrap r.kind), (IntKind.u8.wrap r.dev)]) ++ be4 (IntKind.u32.wrap r.inc)) ++ be4 (IntKind.u32.wrap r.seq))])) ra_t23 (S.mF (ks := [blO b1 (recE.cells r) 24]) (fs := [rwO u8E 5 0 ra_t23 rc_t23 ((([(IntKind.u8.wrap r.kind), (IntKind.u8.wrap r.dev)]) ++ be4 (IntKind.u32.wrap r.inc)) ++ be4 (IntKind.u32.wrap r.seq))])) (S.nfF (ks := [blO b1 (recE.cells r) 24]) (fs := [rwO u8E 5 0 ra_t23 rc_t23 ((([(IntKind.u8.wrap r.kind), (IntKind.u8.wrap r.dev)]) ++ be4 (IntKind.u32.wrap r.inc)) ++ be4 (IntKind.u32.wrap r.seq))]) hD) rc_t23 ((([(IntKind.u8.wrap r.kind), (IntKind.u8.wrap r.dev)]) ++ be4 (IntKind.u32.wrap r.inc)) ++ be4 (IntKind.u32.wrap r.seq)) ⟨(S.dF (ks := [blO b1 (recE.cells r) 24]) (fs := [rwO u8E 5 0 ra_t23 rc_t23 ((([(IntKind.u8.wrap r.kind), (IntKind.u8.wrap r.dev)]) ++ be4 (IntKind.u32.wrap r.inc)) ++ be4 (IntKind.u32.wrap r.seq))]) 0 rfl mo_rw).1, (S.dF (ks := [blO b1 (recE.cells r) 24]) (fs := [rwO u8E 5 0 ra_t23 rc_t23 ((([(IntKind.u8.wrap r.kind), (IntKind.u8.wrap r.dev)]) ++ be4 (IntKind.u32.wrap r.inc)) ++ be4 (IntKind.u32.wrap r.seq))]) 0 rfl mo_rw).2⟩ (crcL ((([(IntKind.u8.wrap r.kind), (IntKind.u8.wrap r.dev)]) ++ be4 (IntKind.u32.wrap r.inc)) ++ be4 (IntKind.u32.wrap r.seq))) (crcL_in _) (by first | omega | (simp only [List.length_append, be4_len, List.length_cons, List.length_nil]; omega))) cB62 ?_
 rintro e u ⟨ra_t27, rc_t27, rfl, R_t27, T0⟩; refine ⟨_, rfl, fun a s => ?_⟩
 have S2 := S.kF (ks := [blO b1 (recE.cells r) 24]) (fs := [rwO u8E 5 0 ra_t23 rc_t23 ((([(IntKind.u8.wrap r.kind), (IntKind.u8.wrap r.dev)]) ++ be4 (IntKind.u32.wrap r.inc)) ++ be4 (IntKind.u32.wrap r.seq))]) [rwO u8E 5 0 ra_t27 rc_t27 (((([(IntKind.u8.wrap r.kind), (IntKind.u8.wrap r.dev)]) ++ be4 (IntKind.u32.wrap r.inc)) ++ be4 (IntKind.u32.wrap r.seq)) ++ be4 (crcL ((([(IntKind.u8.wrap r.kind), (IntKind.u8.wrap r.dev)]) ++ be4 (IntKind.u32.wrap r.inc)) ++ be4 (IntKind.u32.wrap r.seq))))] s T0 ⟨⟨R_t27.b0.own, R_t27.wf⟩, trivial⟩ ⟨mo_rw, trivial⟩
 replace S2 := (show St _ _ _ _ _ _ [blO b1 (recE.cells r) 24, rwO u8E 5 0 ra_t27 rc_t27 (((([(IntKind.u8.wrap r.kind), (IntKind.u8.wrap r.dev)]) ++ be4 (IntKind.u32.wrap r.inc)) ++ be4 (IntKind.u32.wrap r.seq)) ++ be4 (crcL ((([(IntKind.u8.wrap r.kind), (IntKind.u8.wrap r.dev)]) ++ be4 (IntKind.u32.wrap r.inc)) ++ be4 (IntKind.u32.wrap r.seq))))] _ _ from S2)
 clear S; have S := S2; clear S2 s T0 R_t27
 refine ens S (tr (av rfl)<|la (av rfl)) ?_; clear S; intro a u S
 refine wp_ret ?_
 replace S := (show St _ _ _ _ _ _ [blO b1 (recE.cells r) 24, rwO u8E 5 w.heap.size ra_t27 rc_t27 (((([(IntKind.u8.wrap r.kind), (IntKind.u8.wrap r.dev)]) ++ be4 (IntKind.u32.wrap r.inc)) ++ be4 (IntKind.u32.wrap r.seq)) ++ be4 (crcL ((([(IntKind.u8.wrap r.kind), (IntKind.u8.wrap r.dev)]) ++ be4 (IntKind.u32.wrap r.inc)) ++ be4 (IntKind.u32.wrap r.seq))))] _ _ from S.raise 1 rfl)
 refine ret2 rfl S.s rfl rfl ?_
 replace S := S.pk [1] (os' := [rwO u8E 5 w.heap.size ra_t27 rc_t27 (((([(IntKind.u8.wrap r.kind), (IntKind.u8.wrap r.dev)]) ++ be4 (IntKind.u32.wrap r.inc)) ++ be4 (IntKind.u32.wrap r.seq)) ++ be4 (crcL ((([(IntKind.u8.wrap r.kind), (IntKind.u8.wrap r.dev)]) ++ be4 (IntKind.u32.wrap r.inc)) ++ be4 (IntKind.u32.wrap r.seq))))])
 have hx9 : (if recOK r then encR r else []) = ((([(IntKind.u8.wrap r.kind), (IntKind.u8.wrap r.dev)]) ++ be4 (IntKind.u32.wrap r.inc)) ++ be4 (IntKind.u32.wrap r.seq)) ++ be4 (crcL ((([(IntKind.u8.wrap r.kind), (IntKind.u8.wrap r.dev)]) ++ be4 (IntKind.u32.wrap r.inc)) ++ be4 (IntKind.u32.wrap r.seq))) := by
  have hv := Classical.not_not.1 hc1
  have hv2 := hv
  unfold recOK at hv2
  have e1 : IntKind.u8.wrap r.kind = r.kind := by rw [wrap8]; omega
  have e2 : IntKind.u8.wrap r.dev = r.dev := by rw [wrap8]; omega
  have e3 : IntKind.u32.wrap r.inc = r.inc := w_u32 (by omega)
  have e4 : IntKind.u32.wrap r.seq = r.seq := w_u32 (by omega)
  rw [if_pos hv, e1, e2, e3, e4]; rfl
 rw [hx9]
 refine ⟨ra_t27, rc_t27, (r2 rfl (vi ?_)), (S.row 0 rfl), S.m.c⟩
 rw [if_pos (Classical.not_not.1 hc1)]
set_option maxHeartbeats 2000000 in
set_option maxRecDepth 20000 in
theorem rEncode (w : World) (F : Nat → Prop) (hF : Old F w) (M : MS [] w) (r : Rec) (r_w : recE.wf (Fr F []) w.heap r) :
 Calls Try.prog 22 #[.agg (recE.cells r).toArray] w fun e w' => ∃ (ra0 : Option Addr) (rc0 : Nat), e = .returned (.tuple #[.slice ra0 ((if recOK r then encR r else []).length) rc0, iI (if recOK r then 0 else 1 : Int)]) ∧ Row u8E 5 w.heap.size F [abk ra0] w' ra0 rc0 (if recOK r then encR r else []) ∧ Tr [] w [abk ra0] w' := by
 obtain ⟨_, _⟩ : inI64 r.kind := r_w.1
 obtain ⟨_, _⟩ : inI64 r.dev := r_w.2.1
 obtain ⟨_, _⟩ : inI64 r.inc := r_w.2.2.1
 obtain ⟨_, _⟩ : inI64 r.seq := r_w.2.2.2
 refine go Try.func22 rfl 28 rfl [wfF recE r] [] hF M ⟨r_w, trivial⟩ trivial ?_
 intro a S
 have hD : ∀ k, In ([] : List BS) k → ¬ F k := fun _ h => h.elim
 refine rs0 ?_
 refine nbp S (x_box _ (S.e rfl) rfl) ?_; clear S; intro a u b1 S
 refine ens S (tr (av rfl)<|la (av rfl)) ?_; clear S; intro a u S
 refine wp_seq ?_
 refine rs S (tr (ldkw 0 rfl rfl wD24)<|tr (oc (fun S=>rValid _ _ S.x (.nil _) r (dn0 (S.u 0 rfl))) cB64)<|la (noti rfl)) ?_; clear S; intro a u S
 refine cd S rfl ?_ ?_
 ·intro hc0
  refine rs S (tr (av rfl)<|la (av rfl)) ?_; clear S; intro a u S
  refine wp_ret (then_r ?_)
  replace S := S.nr u8E 5
  refine ret2 rfl S.s rfl rfl ?_
  replace S := S.pk [1] (os' := [rwO u8E 5 w.heap.size none 0 ([])])
  have hx4 : (if recOK r then encR r else []) = [] := by
   rw [if_neg hc0]
  rw [hx4]
  refine ⟨none, 0, (r2 rfl (vi ?_)), (S.row 0 rfl), S.m.c⟩
  rw [if_neg hc0]
 intro hc1
 refine wp_skip (then_n (wp_seq ?_))
 obtain ⟨z0, hz0⟩ := S.z
 have SW := S
 refine lzc (P := Try.prog) S 10 3 [] [(8, .is _), (9, .is _), (10, .is _), (11, .is _), (12, .is _), (13, .is _), (14, .of (fun z w => ∃ (x14a : Nat), z = .slice (some ⟨x14a, 0, none⟩) 2 2 ∧ (Blk w.heap x14a [.int .u8 (IntKind.u8.wrap r.kind), .int .u8 (IntKind.u8.wrap r.dev)] 5 ∧ z0 ≤ x14a ∧ ¬ In [] x14a)) (fun v w w' c h => let ⟨x14a, hv, h0⟩ := h; ⟨x14a, hv, ⟨Blk.tr h0.1 c h0.2.2, h0.2⟩⟩)), (15, .is _), (16, .is _), (17, .is _)] [[], [8], [9], [], [11], [12], [10, 13], [], [15], [16]] [14, 17] [(19, pT b1 (0 + 3)), (20, iI r.seq), (21, .int .u64 (IntKind.u64.wrap r.seq))] [[], [0], [1]] 18 _ [blO b1 (recE.cells r) 24] [] (fun g : Option Addr × Nat => .slice g.1 ((([(IntKind.u8.wrap r.kind), (IntKind.u8.wrap r.dev)]) ++ be4 (IntKind.u64.wrap r.inc)).length) g.2) (fun g => [rwO u8E 5 0 g.1 g.2 (([(IntKind.u8.wrap r.kind), (IntKind.u8.wrap r.dev)]) ++ be4 (IntKind.u64.wrap r.inc))]) (fun _ => True) ⟨qd (fldi 0 0 rfl uT24), qd (ldk 0 sC3 rfl rfl rfl), qd (ov fun S=>x_conv uT3 uT5 (S.e rfl) (r := (IntKind.u8.wrap r.kind)) rfl), qd (fldi 0 1 rfl uT24), qd (ldk 0 sC3 rfl rfl rfl), qd (ov fun S=>x_conv uT3 uT5 (S.e rfl) (r := (IntKind.u8.wrap r.dev)) rfl), ?_, qd (fldi 0 2 rfl uT24), qd (ldk 0 sC3 rfl rfl rfl), qd (ov fun S=>x_conv uT3 uT118 (S.e rfl) (r := (IntKind.u64.wrap r.inc)) rfl), trivial⟩ ⟨⟨⟨(show 19 < 28 from by decide), by kernel_rfl⟩, fun fs a w S => x_fld (z := 0) (0) 3 uT24 rfl rfl (by kernel_rfl) (S.e rfl)⟩, ⟨⟨(show 20 < 28 from by decide), by kernel_rfl⟩, fun fs a w S => x_load sC3 (S.e rfl) ((S.k 0 rfl).cell (j := 3) rfl)⟩, ⟨⟨(show 21 < 28 from by decide), by kernel_rfl⟩, fun fs a w S => x_conv uT3 uT118 (S.e rfl) (r := (IntKind.u64.wrap r.seq)) rfl⟩, trivial⟩ ?_ ?_
 ·skip
  intro a u S G hE
  exact hnb 14 S.m (x_bsl [(0, .int .u8 (IntKind.u8.wrap r.kind)), (1, .int .u8 (IntKind.u8.wrap r.dev))] [.int .u8 (IntKind.u8.wrap r.kind), .int .u8 (IntKind.u8.wrap r.dev)] uT28 iZ5 (by decide) (by decide) (by simp only [List.map_cons, List.map_nil, S.e (x := .tmp 10) (v := .int .u8 (IntKind.u8.wrap r.kind)) rfl, S.e (x := .tmp 13) (v := .int .u8 (IntKind.u8.wrap r.dev)) rfl]) (by kernel_rfl)) fun g => (show ∃ _, _ from ⟨_, rfl, Blk.new _ [.int .u8 (IntKind.u8.wrap r.kind), .int .u8 (IntKind.u8.wrap r.dev)] 5, hz0 ▸ G.size, fun h => absurd (S.M.lt _ (in_sub (fun _ h => by simp at h) h)) (Nat.lt_irrefl _)⟩)
 ·skip
  have S0 := SW
  have S0 := S
  clear S; intro a u S G hE
  obtain ⟨e14, -⟩ := hE
  obtain ⟨x14_5, e14, X5⟩ := e14
  replace S := S.ext e14
  clear e14
  have hltx14_5 : x14_5 < u.heap.size := X5.1.lt; have hgex14_5 := X5.2.1
  replace S := S0.own S [] G (by intro j f hj; simp at hj) [rwO u8E 5 w.heap.size (some ⟨x14_5, 0, none⟩) 2 [(IntKind.u8.wrap r.kind), (IntKind.u8.wrap r.dev)]] (⟨fun _ _ h => h, trivial⟩) (fun k hk => by simp only [ow, rwO, blO, abk_one, In, one, or_false] at hk; omega) (by intro f hf V; simp only [List.mem_cons, List.not_mem_nil, or_false] at hf; subst hf <;> first | exact (let R := row_of_blk (E := u8E) (F := F) (ms := []) X5.1 [(IntKind.u8.wrap r.kind), (IntKind.u8.wrap r.dev)] 2 rfl (by decide) (by decide) rfl (by have := S0.m.c.size; omega) (fun x hx => by simp only [List.mem_cons, List.not_mem_nil, or_false] at hx; rcases hx with hx | hx <;> rw [hx] <;> first | exact (wu8 _) | exact (wu8 _)); ⟨R.own, fun x hx => R.wf x hx⟩))
  clear S0
  obtain ⟨hl6, hu6⟩ : inU64 (IntKind.u64.wrap r.inc) := id (wu64 _)
  intro K hK
  replace S := (show St _ _ _ _ _ _ [blO b1 (recE.cells r) 24, rwO u8E 5 0 (some ⟨x14_5, 0, none⟩) 2 ([(IntKind.u8.wrap r.kind), (IntKind.u8.wrap r.dev)])] _ _ from S.b0 1 rfl)
  refine clw S (rPut _ _ (S.xx (ow [rwO u8E 5 0 (some ⟨x14_5, 0, none⟩) 2 ([(IntKind.u8.wrap r.kind), (IntKind.u8.wrap r.dev)])])) (some ⟨x14_5, 0, none⟩) (S.mF (ks := [blO b1 (recE.cells r) 24]) (fs := [rwO u8E 5 0 (some ⟨x14_5, 0, none⟩) 2 ([(IntKind.u8.wrap r.kind), (IntKind.u8.wrap r.dev)])])) (S.nfF (ks := [blO b1 (recE.cells r) 24]) (fs := [rwO u8E 5 0 (some ⟨x14_5, 0, none⟩) 2 ([(IntKind.u8.wrap r.kind), (IntKind.u8.wrap r.dev)])]) hD) 2 ([(IntKind.u8.wrap r.kind), (IntKind.u8.wrap r.dev)]) ⟨(S.dF (ks := [blO b1 (recE.cells r) 24]) (fs := [rwO u8E 5 0 (some ⟨x14_5, 0, none⟩) 2 ([(IntKind.u8.wrap r.kind), (IntKind.u8.wrap r.dev)])]) 0 rfl mo_rw).1, (S.dF (ks := [blO b1 (recE.cells r) 24]) (fs := [rwO u8E 5 0 (some ⟨x14_5, 0, none⟩) 2 ([(IntKind.u8.wrap r.kind), (IntKind.u8.wrap r.dev)])]) 0 rfl mo_rw).2⟩ (IntKind.u64.wrap r.inc) (wu64 _) 4 ⟨by omega, by omega⟩ (⟨by first | omega | (simp only [List.length_append, be4_len, List.length_cons, List.length_nil]; omega), by first | rfl | omega⟩)) cB65 ?_
  rintro e u ⟨ra_t18, rc_t18, rfl, R_t18, T0⟩; refine ⟨_, rfl, fun a s => ?_⟩
  have S2 := S.kF (ks := [blO b1 (recE.cells r) 24]) (fs := [rwO u8E 5 0 (some ⟨x14_5, 0, none⟩) 2 ([(IntKind.u8.wrap r.kind), (IntKind.u8.wrap r.dev)])]) [rwO u8E 5 0 ra_t18 rc_t18 (([(IntKind.u8.wrap r.kind), (IntKind.u8.wrap r.dev)]) ++ be4 (IntKind.u64.wrap r.inc))] s T0 ⟨⟨R_t18.b0.own, R_t18.wf⟩, trivial⟩ ⟨mo_rw, trivial⟩
  replace S2 := (show St _ _ _ _ _ _ [blO b1 (recE.cells r) 24, rwO u8E 5 0 ra_t18 rc_t18 (([(IntKind.u8.wrap r.kind), (IntKind.u8.wrap r.dev)]) ++ be4 (IntKind.u64.wrap r.inc))] _ _ from S2)
  clear S; have S := S2; clear S2 s T0 R_t18
  exact hK (ra_t18, rc_t18) _ _ ⟨S.s.sub (subM rfl), S.m⟩ trivial
 clear S SW; intro ⟨ra_t18, rc_t18⟩ a u S _; dsimp only at S
 replace S := (show St _ _ _ _ _ _ [blO b1 (recE.cells r) 24, rwO u8E 5 0 ra_t18 rc_t18 (([(IntKind.u8.wrap r.kind), (IntKind.u8.wrap r.dev)]) ++ be4 (IntKind.u64.wrap r.inc))] _ _ from ⟨S.s, S.m⟩)
 refine cl S (rPut _ _ (S.xx (ow [rwO u8E 5 0 ra_t18 rc_t18 (([(IntKind.u8.wrap r.kind), (IntKind.u8.wrap r.dev)]) ++ be4 (IntKind.u64.wrap r.inc))])) ra_t18 (S.mF (ks := [blO b1 (recE.cells r) 24]) (fs := [rwO u8E 5 0 ra_t18 rc_t18 (([(IntKind.u8.wrap r.kind), (IntKind.u8.wrap r.dev)]) ++ be4 (IntKind.u64.wrap r.inc))])) (S.nfF (ks := [blO b1 (recE.cells r) 24]) (fs := [rwO u8E 5 0 ra_t18 rc_t18 (([(IntKind.u8.wrap r.kind), (IntKind.u8.wrap r.dev)]) ++ be4 (IntKind.u64.wrap r.inc))]) hD) rc_t18 (([(IntKind.u8.wrap r.kind), (IntKind.u8.wrap r.dev)]) ++ be4 (IntKind.u64.wrap r.inc)) ⟨(S.dF (ks := [blO b1 (recE.cells r) 24]) (fs := [rwO u8E 5 0 ra_t18 rc_t18 (([(IntKind.u8.wrap r.kind), (IntKind.u8.wrap r.dev)]) ++ be4 (IntKind.u64.wrap r.inc))]) 0 rfl mo_rw).1, (S.dF (ks := [blO b1 (recE.cells r) 24]) (fs := [rwO u8E 5 0 ra_t18 rc_t18 (([(IntKind.u8.wrap r.kind), (IntKind.u8.wrap r.dev)]) ++ be4 (IntKind.u64.wrap r.inc))]) 0 rfl mo_rw).2⟩ (IntKind.u64.wrap r.seq) (wu64 _) 4 ⟨by omega, by omega⟩ (⟨by first | omega | (simp only [List.length_append, be4_len, List.length_cons, List.length_nil]; omega), by first | rfl | omega⟩)) cB65 ?_
 rintro e u ⟨ra_t22, rc_t22, rfl, R_t22, T0⟩; refine ⟨_, rfl, fun a s => ?_⟩
 have S2 := S.kF (ks := [blO b1 (recE.cells r) 24]) (fs := [rwO u8E 5 0 ra_t18 rc_t18 (([(IntKind.u8.wrap r.kind), (IntKind.u8.wrap r.dev)]) ++ be4 (IntKind.u64.wrap r.inc))]) [rwO u8E 5 0 ra_t22 rc_t22 ((([(IntKind.u8.wrap r.kind), (IntKind.u8.wrap r.dev)]) ++ be4 (IntKind.u64.wrap r.inc)) ++ be4 (IntKind.u64.wrap r.seq))] s T0 ⟨⟨R_t22.b0.own, R_t22.wf⟩, trivial⟩ ⟨mo_rw, trivial⟩
 replace S2 := (show St _ _ _ _ _ _ [blO b1 (recE.cells r) 24, rwO u8E 5 0 ra_t22 rc_t22 ((([(IntKind.u8.wrap r.kind), (IntKind.u8.wrap r.dev)]) ++ be4 (IntKind.u64.wrap r.inc)) ++ be4 (IntKind.u64.wrap r.seq))] _ _ from S2)
 clear S; have S := S2; clear S2 s T0 R_t22
 refine ens S (la (av rfl)) ?_; clear S; intro a u S
 refine rs0 ?_
 refine sp S (tr (mv rfl)<|la (mv rfl)) ?_; clear S; intro a u S
 obtain ⟨hl8, hu8⟩ : inU32 (crcL ((([(IntKind.u8.wrap r.kind), (IntKind.u8.wrap r.dev)]) ++ be4 (IntKind.u64.wrap r.inc)) ++ be4 (IntKind.u64.wrap r.seq))) := id (crcL_in _)
 refine sp S (tr (oc (fun S=>rCRC _ _ (S.xx [abk ra_t22]) (.nil _) (Sl.mk ra_t22 rc_t22 ((([(IntKind.u8.wrap r.kind), (IntKind.u8.wrap r.dev)]) ++ be4 (IntKind.u64.wrap r.inc)) ++ be4 (IntKind.u64.wrap r.seq))) (S.rargD hD 1 rfl (by first | decide | exact Nat.one_pos) _ (by simp))) cB66)<|la (ov fun S=>x_conv uT115 uT118 (S.e rfl) (r := (IntKind.u64.wrap (crcL ((([(IntKind.u8.wrap r.kind), (IntKind.u8.wrap r.dev)]) ++ be4 (IntKind.u64.wrap r.inc)) ++ be4 (IntKind.u64.wrap r.seq))))) rfl)) ?_; clear S; intro a u S
 refine cl S (rPut _ _ (S.xx (ow [rwO u8E 5 0 ra_t22 rc_t22 ((([(IntKind.u8.wrap r.kind), (IntKind.u8.wrap r.dev)]) ++ be4 (IntKind.u64.wrap r.inc)) ++ be4 (IntKind.u64.wrap r.seq))])) ra_t22 (S.mF (ks := [blO b1 (recE.cells r) 24]) (fs := [rwO u8E 5 0 ra_t22 rc_t22 ((([(IntKind.u8.wrap r.kind), (IntKind.u8.wrap r.dev)]) ++ be4 (IntKind.u64.wrap r.inc)) ++ be4 (IntKind.u64.wrap r.seq))])) (S.nfF (ks := [blO b1 (recE.cells r) 24]) (fs := [rwO u8E 5 0 ra_t22 rc_t22 ((([(IntKind.u8.wrap r.kind), (IntKind.u8.wrap r.dev)]) ++ be4 (IntKind.u64.wrap r.inc)) ++ be4 (IntKind.u64.wrap r.seq))]) hD) rc_t22 ((([(IntKind.u8.wrap r.kind), (IntKind.u8.wrap r.dev)]) ++ be4 (IntKind.u64.wrap r.inc)) ++ be4 (IntKind.u64.wrap r.seq)) ⟨(S.dF (ks := [blO b1 (recE.cells r) 24]) (fs := [rwO u8E 5 0 ra_t22 rc_t22 ((([(IntKind.u8.wrap r.kind), (IntKind.u8.wrap r.dev)]) ++ be4 (IntKind.u64.wrap r.inc)) ++ be4 (IntKind.u64.wrap r.seq))]) 0 rfl mo_rw).1, (S.dF (ks := [blO b1 (recE.cells r) 24]) (fs := [rwO u8E 5 0 ra_t22 rc_t22 ((([(IntKind.u8.wrap r.kind), (IntKind.u8.wrap r.dev)]) ++ be4 (IntKind.u64.wrap r.inc)) ++ be4 (IntKind.u64.wrap r.seq))]) 0 rfl mo_rw).2⟩ (IntKind.u64.wrap (crcL ((([(IntKind.u8.wrap r.kind), (IntKind.u8.wrap r.dev)]) ++ be4 (IntKind.u64.wrap r.inc)) ++ be4 (IntKind.u64.wrap r.seq)))) (wu64 _) 4 ⟨by omega, by omega⟩ (⟨by first | omega | (simp only [List.length_append, be4_len, List.length_cons, List.length_nil]; omega), by first | rfl | omega⟩)) cB65 ?_
 rintro e u ⟨ra_t27, rc_t27, rfl, R_t27, T0⟩; refine ⟨_, rfl, fun a s => ?_⟩
 have S2 := S.kF (ks := [blO b1 (recE.cells r) 24]) (fs := [rwO u8E 5 0 ra_t22 rc_t22 ((([(IntKind.u8.wrap r.kind), (IntKind.u8.wrap r.dev)]) ++ be4 (IntKind.u64.wrap r.inc)) ++ be4 (IntKind.u64.wrap r.seq))]) [rwO u8E 5 0 ra_t27 rc_t27 (((([(IntKind.u8.wrap r.kind), (IntKind.u8.wrap r.dev)]) ++ be4 (IntKind.u64.wrap r.inc)) ++ be4 (IntKind.u64.wrap r.seq)) ++ be4 (IntKind.u64.wrap (crcL ((([(IntKind.u8.wrap r.kind), (IntKind.u8.wrap r.dev)]) ++ be4 (IntKind.u64.wrap r.inc)) ++ be4 (IntKind.u64.wrap r.seq)))))] s T0 ⟨⟨R_t27.b0.own, R_t27.wf⟩, trivial⟩ ⟨mo_rw, trivial⟩
 replace S2 := (show St _ _ _ _ _ _ [blO b1 (recE.cells r) 24, rwO u8E 5 0 ra_t27 rc_t27 (((([(IntKind.u8.wrap r.kind), (IntKind.u8.wrap r.dev)]) ++ be4 (IntKind.u64.wrap r.inc)) ++ be4 (IntKind.u64.wrap r.seq)) ++ be4 (IntKind.u64.wrap (crcL ((([(IntKind.u8.wrap r.kind), (IntKind.u8.wrap r.dev)]) ++ be4 (IntKind.u64.wrap r.inc)) ++ be4 (IntKind.u64.wrap r.seq)))))] _ _ from S2)
 clear S; have S := S2; clear S2 s T0 R_t27
 refine ens S (tr (av rfl)<|la (av rfl)) ?_; clear S; intro a u S
 refine wp_ret ?_
 replace S := (show St _ _ _ _ _ _ [blO b1 (recE.cells r) 24, rwO u8E 5 w.heap.size ra_t27 rc_t27 (((([(IntKind.u8.wrap r.kind), (IntKind.u8.wrap r.dev)]) ++ be4 (IntKind.u64.wrap r.inc)) ++ be4 (IntKind.u64.wrap r.seq)) ++ be4 (IntKind.u64.wrap (crcL ((([(IntKind.u8.wrap r.kind), (IntKind.u8.wrap r.dev)]) ++ be4 (IntKind.u64.wrap r.inc)) ++ be4 (IntKind.u64.wrap r.seq)))))] _ _ from S.raise 1 rfl)
 refine ret2 rfl S.s rfl rfl ?_
 replace S := S.pk [1] (os' := [rwO u8E 5 w.heap.size ra_t27 rc_t27 (((([(IntKind.u8.wrap r.kind), (IntKind.u8.wrap r.dev)]) ++ be4 (IntKind.u64.wrap r.inc)) ++ be4 (IntKind.u64.wrap r.seq)) ++ be4 (IntKind.u64.wrap (crcL ((([(IntKind.u8.wrap r.kind), (IntKind.u8.wrap r.dev)]) ++ be4 (IntKind.u64.wrap r.inc)) ++ be4 (IntKind.u64.wrap r.seq)))))])
 have hx9 : (if recOK r then encR r else []) = ((([(IntKind.u8.wrap r.kind), (IntKind.u8.wrap r.dev)]) ++ be4 (IntKind.u64.wrap r.inc)) ++ be4 (IntKind.u64.wrap r.seq)) ++ be4 (IntKind.u64.wrap (crcL ((([(IntKind.u8.wrap r.kind), (IntKind.u8.wrap r.dev)]) ++ be4 (IntKind.u64.wrap r.inc)) ++ be4 (IntKind.u64.wrap r.seq)))) := by
  have hv := Classical.not_not.1 hc1
  have hv2 := hv
  unfold recOK at hv2
  have e1 : IntKind.u8.wrap r.kind = r.kind := by rw [wrap8]; omega
  have e2 : IntKind.u8.wrap r.dev = r.dev := by rw [wrap8]; omega
  have e3 : IntKind.u64.wrap r.inc = r.inc := w_u64 (by omega)
  have e4 : IntKind.u64.wrap r.seq = r.seq := w_u64 (by omega)
  rw [if_pos hv, e1, e2, e3, e4]
  show encR r = encB r ++ be4 (IntKind.u64.wrap (crcL (encB r)))
  rw [show IntKind.u64.wrap (crcL (encB r)) = crcL (encB r) from w_u64 (by have := crcL_in (encB r); omega)]; rfl
 rw [hx9]
 refine ⟨ra_t27, rc_t27, (r2 rfl (vi ?_)), (S.row 0 rfl), S.m.c⟩
 rw [if_pos (Classical.not_not.1 hc1)]
end Go.Proofs.Ytobggnpnochnnaa.V
